/-
  DERIVED. GIVEN WITH THE SEED: THE CARDS: each row of YtbhnmjkmieiadaaGreatDoorRows.lean that lists a variable, with what it lists TIED to the program's text (the seventh form; the later family's looks); each row that meets fmt, with fmt's text TOLD by the authors' own Lean function (tested against real Go, not proved from fmt's source: count such statements apart). THE CARD IS WHAT COUNTS. Prove the row's statement (the work); the ties are given (YtbhnmjkmieiadaaGreatDoorTie.lean); close each card by the builder's one call (the guide's Derived/Test/ToyasCard.lean, 'card_holds'). Laid BY PROGRAM, IN A SANDBOX (cutbox-door.mjs). By AI agents, Wed Nov 11 2026. No macro, syntax, notation, axiom, sorry.
-/
import Derived.Test.YtbhnmjkmieiadaaGreatDoorRows
import GoSem.ClaimSeven
namespace Go.Proofs.YtbhnmjkmieiadaaGreatDoor
namespace Rows

/-- THE TIED CARD OF 'metaprunelaw.CompleteMade'. -/
def completeMadeCard : Claim7 := { stood := { row := completeMadeRow, standIns := [], harness := (true, "255a2ac1f178340ca331158ba6e82e63b157f937dc403f4bd996c23d8cdfce43"), looks := true }, kinds := [], alts := [], laidByText := true, laidKinds := [.data, .data, .data], laidTests := true, laidLooks := .later }
def CompleteMadeCardSaid : Prop := Claim7.holds Tryz.pinned (.plain (OpenSpec.ofChange completeMadeSpec)) completeMadeCard

/-- THE TIED CARD OF 'metaprunetop.TopNewman'. -/
def topNewmanCard : Claim7 := { stood := { row := topNewmanRow, standIns := [], harness := (true, "255a2ac1f178340ca331158ba6e82e63b157f937dc403f4bd996c23d8cdfce43"), looks := true }, kinds := [], alts := [], laidByText := true, laidKinds := [.data, .data, .data], laidTests := true, laidLooks := .later }
def TopNewmanCardSaid : Prop := Claim7.holds Tryz.pinned (.plain (OpenSpec.ofChange topNewmanSpec)) topNewmanCard

/-- THE TIED CARD OF 'metaprunetop.TopComplete'. -/
def topCompleteCard : Claim7 := { stood := { row := topCompleteRow, standIns := [], harness := (true, "255a2ac1f178340ca331158ba6e82e63b157f937dc403f4bd996c23d8cdfce43"), looks := true }, kinds := [], alts := [], laidByText := true, laidKinds := [.data, .data, .data], laidTests := true, laidLooks := .later }
def TopCompleteCardSaid : Prop := Claim7.holds Tryz.pinned (.plain (OpenSpec.ofChange topCompleteSpec)) topCompleteCard

/-- THE SECOND FORM's CARD OF 'metaprunelaw.CompleteMade'. -/
def completeMadeUptoCard : Claim7 := { stood := { row := completeMadeUptoRow, standIns := [], harness := (true, "255a2ac1f178340ca331158ba6e82e63b157f937dc403f4bd996c23d8cdfce43"), looks := true }, kinds := [], alts := [], laidByText := true, laidKinds := [.data, .data, .data], laidTests := true, laidLooks := .later }
def CompleteMadeUptoCardSaid : Prop := Claim7.holds Tryz.pinned (.plain (OpenSpec.upto completeMadeSpec)) completeMadeUptoCard

/-- THE SECOND FORM's CARD OF 'metaprunetop.TopNewman'. -/
def topNewmanUptoCard : Claim7 := { stood := { row := topNewmanUptoRow, standIns := [], harness := (true, "255a2ac1f178340ca331158ba6e82e63b157f937dc403f4bd996c23d8cdfce43"), looks := true }, kinds := [], alts := [], laidByText := true, laidKinds := [.data, .data, .data], laidTests := true, laidLooks := .later }
def TopNewmanUptoCardSaid : Prop := Claim7.holds Tryz.pinned (.plain (OpenSpec.upto topNewmanSpec)) topNewmanUptoCard

/-- THE SECOND FORM's CARD OF 'metaprunetop.TopComplete'. -/
def topCompleteUptoCard : Claim7 := { stood := { row := topCompleteUptoRow, standIns := [], harness := (true, "255a2ac1f178340ca331158ba6e82e63b157f937dc403f4bd996c23d8cdfce43"), looks := true }, kinds := [], alts := [], laidByText := true, laidKinds := [.data, .data, .data], laidTests := true, laidLooks := .later }
def TopCompleteUptoCardSaid : Prop := Claim7.holds Tryz.pinned (.plain (OpenSpec.upto topCompleteSpec)) topCompleteUptoCard
end Rows
end Go.Proofs.YtbhnmjkmieiadaaGreatDoor
