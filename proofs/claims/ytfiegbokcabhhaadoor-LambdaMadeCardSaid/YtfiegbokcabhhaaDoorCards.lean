/-
  DERIVED. GIVEN WITH THE SEED: THE CARDS: each row of YtfiegbokcabhhaaDoorRows.lean that lists a variable, with what it lists TIED to the program's text (the seventh form; the later family's looks); each row that meets fmt, with fmt's text TOLD by the authors' own Lean function (tested against real Go, not proved from fmt's source: count such statements apart). THE CARD IS WHAT COUNTS. Prove the row's statement (the work); the ties are given (YtfiegbokcabhhaaDoorTie.lean); close each card by the builder's one call (the guide's Derived/Test/ToyasCard.lean, 'card_holds'). Laid BY PROGRAM, IN A SANDBOX (cutbox-door.mjs). By AI agents, Wed Nov 11 2026. No macro, syntax, notation, axiom, sorry.
-/
import Derived.Test.YtfiegbokcabhhaaDoorRows
import GoSem.ClaimSeven
namespace Go.Proofs.YtfiegbokcabhhaaDoor
namespace Rows

/-- THE TIED CARD OF 'metaprunelaw.LambdaSays'. -/
def lambdaSaysCard : Claim7 := { stood := { row := lambdaSaysRow, standIns := [], harness := (true, "4cd2f41b996ce5d759265c1ffe18cf8ac64add66f21f3b871c511ec955067785"), looks := false }, kinds := [], alts := [], laidByText := true, laidKinds := [.data, .data, .data, .data], laidTests := true, laidLooks := .later }
def LambdaSaysCardSaid : Prop := Claim7.holds Tryd.pinned (.plain (OpenSpec.ofChange lambdaSaysSpec)) lambdaSaysCard

/-- THE TIED CARD OF 'metaprunelaw.LambdaMade'. -/
def lambdaMadeCard : Claim7 := { stood := { row := lambdaMadeRow, standIns := [], harness := (true, "4cd2f41b996ce5d759265c1ffe18cf8ac64add66f21f3b871c511ec955067785"), looks := false }, kinds := [], alts := [], laidByText := true, laidKinds := [.data, .data, .data, .data], laidTests := true, laidLooks := .later }
def LambdaMadeCardSaid : Prop := Claim7.holds Tryd.pinned (.plain (OpenSpec.ofChange lambdaMadeSpec)) lambdaMadeCard

/-- THE SECOND FORM's CARD OF 'metaprunelaw.LambdaSays'. -/
def lambdaSaysUptoCard : Claim7 := { stood := { row := lambdaSaysUptoRow, standIns := [], harness := (true, "4cd2f41b996ce5d759265c1ffe18cf8ac64add66f21f3b871c511ec955067785"), looks := false }, kinds := [], alts := [], laidByText := true, laidKinds := [.data, .data, .data, .data], laidTests := true, laidLooks := .later }
def LambdaSaysUptoCardSaid : Prop := Claim7.holds Tryd.pinned (.plain (OpenSpec.upto lambdaSaysSpec)) lambdaSaysUptoCard

/-- THE SECOND FORM's CARD OF 'metaprunelaw.LambdaMade'. -/
def lambdaMadeUptoCard : Claim7 := { stood := { row := lambdaMadeUptoRow, standIns := [], harness := (true, "4cd2f41b996ce5d759265c1ffe18cf8ac64add66f21f3b871c511ec955067785"), looks := false }, kinds := [], alts := [], laidByText := true, laidKinds := [.data, .data, .data, .data], laidTests := true, laidLooks := .later }
def LambdaMadeUptoCardSaid : Prop := Claim7.holds Tryd.pinned (.plain (OpenSpec.upto lambdaMadeSpec)) lambdaMadeUptoCard
end Rows
end Go.Proofs.YtfiegbokcabhhaaDoor
