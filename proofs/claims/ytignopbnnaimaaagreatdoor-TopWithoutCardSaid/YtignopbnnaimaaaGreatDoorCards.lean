/-
  DERIVED. GIVEN WITH THE SEED: THE CARDS: each row of YtignopbnnaimaaaGreatDoorRows.lean that lists a variable, with what it lists TIED to the program's text (the seventh form; the later family's looks); each row that meets fmt, with fmt's text TOLD by the authors' own Lean function (tested against real Go, not proved from fmt's source: count such statements apart). THE CARD IS WHAT COUNTS. Prove the row's statement (the work); the ties are given (YtignopbnnaimaaaGreatDoorTie.lean); close each card by the builder's one call (the guide's Derived/Test/ToyasCard.lean, 'card_holds'). Laid BY PROGRAM, IN A SANDBOX (cutbox-door.mjs). By AI agents, Wed Nov 11 2026. No macro, syntax, notation, axiom, sorry.
-/
import Derived.Test.YtignopbnnaimaaaGreatDoorRows
import GoSem.ClaimSeven
namespace Go.Proofs.YtignopbnnaimaaaGreatDoor
namespace Rows

/-- THE TIED CARD OF 'metaprunetop.TopWithout'. -/
def topWithoutCard : Claim7 := { stood := { row := topWithoutRow, standIns := [], harness := (true, "8c02b511109a691aa928eeeaa63c2157c332af4fef0235356cfc067b33331aca"), looks := true }, kinds := [], alts := [], laidByText := true, laidKinds := [.data, .data, .data, .sentinel, .sentinel, .data], laidTests := true, laidLooks := .later }
def TopWithoutCardSaid : Prop := Claim7.holds Tryz.pinned (.plain (OpenSpec.ofChange topWithoutSpec)) topWithoutCard

/-- THE SECOND FORM's CARD OF 'metaprunetop.TopWithout'. -/
def topWithoutUptoCard : Claim7 := { stood := { row := topWithoutUptoRow, standIns := [], harness := (true, "8c02b511109a691aa928eeeaa63c2157c332af4fef0235356cfc067b33331aca"), looks := true }, kinds := [], alts := [], laidByText := true, laidKinds := [.data, .data, .data, .sentinel, .sentinel, .data], laidTests := true, laidLooks := .later }
def TopWithoutUptoCardSaid : Prop := Claim7.holds Tryz.pinned (.plain (OpenSpec.upto topWithoutSpec)) topWithoutUptoCard
end Rows
end Go.Proofs.YtignopbnnaimaaaGreatDoor
