/-
  DERIVED. GIVEN WITH THE SEED: THE CARDS: each row of YtbgnkcmaohkimaaDoorRows.lean that lists a variable, with what it lists TIED to the program's text (the seventh form; the later family's looks); each row that meets fmt, with fmt's text TOLD by the authors' own Lean function (tested against real Go, not proved from fmt's source: count such statements apart). THE CARD IS WHAT COUNTS. Prove the row's statement (the work); the ties are given (YtbgnkcmaohkimaaDoorTie.lean); close each card by the builder's one call (the guide's Derived/Test/ToyasCard.lean, 'card_holds'). Laid BY PROGRAM, IN A SANDBOX (cutbox-door.mjs). By AI agents, Wed Nov 11 2026. No macro, syntax, notation, axiom, sorry.
-/
import Derived.Test.YtbgnkcmaohkimaaDoorRows
import GoSem.ClaimSeven
namespace Go.Proofs.YtbgnkcmaohkimaaDoor
namespace Rows

/-- THE TIED CARD OF 'metaprunetop.TopNumbers'. -/
def topNumbersCard : Claim7 := { stood := { row := topNumbersRow, standIns := [], harness := (true, "7e845997381efd6e39b2eb5b0a209c177e5be7f703d744aed5132e6815da41f5"), looks := false }, kinds := [], alts := [], laidByText := true, laidKinds := [.data], laidTests := true, laidLooks := .later }
def TopNumbersCardSaid : Prop := Claim7.holds Tryd.pinned (.plain (OpenSpec.ofChange topNumbersSpec)) topNumbersCard

/-- THE SECOND FORM's CARD OF 'metaprunetop.TopNumbers'. -/
def topNumbersUptoCard : Claim7 := { stood := { row := topNumbersUptoRow, standIns := [], harness := (true, "7e845997381efd6e39b2eb5b0a209c177e5be7f703d744aed5132e6815da41f5"), looks := false }, kinds := [], alts := [], laidByText := true, laidKinds := [.data], laidTests := true, laidLooks := .later }
def TopNumbersUptoCardSaid : Prop := Claim7.holds Tryd.pinned (.plain (OpenSpec.upto topNumbersSpec)) topNumbersUptoCard
end Rows
end Go.Proofs.YtbgnkcmaohkimaaDoor
