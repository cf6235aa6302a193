/-
  DERIVED. GIVEN WITH THE SEED: THE CARDS: each row of YtkjlddlllofenaaGreatDoorRows.lean that lists a variable, with what it lists TIED to the program's text (the seventh form; the later family's looks); each row that meets fmt, with fmt's text TOLD by the authors' own Lean function (tested against real Go, not proved from fmt's source: count such statements apart). THE CARD IS WHAT COUNTS. Prove the row's statement (the work); the ties are given (YtkjlddlllofenaaGreatDoorTie.lean); close each card by the builder's one call (the guide's Derived/Test/ToyasCard.lean, 'card_holds'). Laid BY PROGRAM, IN A SANDBOX (cutbox-door.mjs). By AI agents, Wed Nov 11 2026. No macro, syntax, notation, axiom, sorry.
-/
import Derived.Test.YtkjlddlllofenaaGreatDoorRows
import GoSem.ClaimSeven
namespace Go.Proofs.YtkjlddlllofenaaGreatDoor
namespace Rows

/-- THE TIED CARD OF 'metaprunelaw.LongSays'. -/
def longSaysCard : Claim7 := { stood := { row := longSaysRow, standIns := [], harness := (true, "1ac73ba67ed601e1b519b9e9e2a446383306031d1ec59c573e054d87d35f5728"), looks := false }, kinds := [], alts := [], laidByText := true, laidKinds := [.data, .data, .data, .data], laidTests := true, laidLooks := .later }
def LongSaysCardSaid : Prop := Claim7.holds Tryz.pinned (.plain (OpenSpec.ofChange longSaysSpec)) longSaysCard

/-- THE TIED CARD OF 'metaprunelaw.LongMade'. -/
def longMadeCard : Claim7 := { stood := { row := longMadeRow, standIns := [], harness := (true, "1ac73ba67ed601e1b519b9e9e2a446383306031d1ec59c573e054d87d35f5728"), looks := false }, kinds := [], alts := [], laidByText := true, laidKinds := [.data, .data, .data, .data], laidTests := true, laidLooks := .later }
def LongMadeCardSaid : Prop := Claim7.holds Tryz.pinned (.plain (OpenSpec.ofChange longMadeSpec)) longMadeCard

/-- THE SECOND FORM's CARD OF 'metaprunelaw.LongSays'. -/
def longSaysUptoCard : Claim7 := { stood := { row := longSaysUptoRow, standIns := [], harness := (true, "1ac73ba67ed601e1b519b9e9e2a446383306031d1ec59c573e054d87d35f5728"), looks := false }, kinds := [], alts := [], laidByText := true, laidKinds := [.data, .data, .data, .data], laidTests := true, laidLooks := .later }
def LongSaysUptoCardSaid : Prop := Claim7.holds Tryz.pinned (.plain (OpenSpec.upto longSaysSpec)) longSaysUptoCard

/-- THE SECOND FORM's CARD OF 'metaprunelaw.LongMade'. -/
def longMadeUptoCard : Claim7 := { stood := { row := longMadeUptoRow, standIns := [], harness := (true, "1ac73ba67ed601e1b519b9e9e2a446383306031d1ec59c573e054d87d35f5728"), looks := false }, kinds := [], alts := [], laidByText := true, laidKinds := [.data, .data, .data, .data], laidTests := true, laidLooks := .later }
def LongMadeUptoCardSaid : Prop := Claim7.holds Tryz.pinned (.plain (OpenSpec.upto longMadeSpec)) longMadeUptoCard
end Rows
end Go.Proofs.YtkjlddlllofenaaGreatDoor
