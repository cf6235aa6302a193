/-
  DERIVED. GIVEN WITH THE SEED: THE CARDS: each row of YtbiadmlfejnbcaaGreatDoorRows.lean that lists a variable, with what it lists TIED to the program's text (the seventh form; the later family's looks); each row that meets fmt, with fmt's text TOLD by the authors' own Lean function (tested against real Go, not proved from fmt's source: count such statements apart). THE CARD IS WHAT COUNTS. Prove the row's statement (the work); the ties are given (YtbiadmlfejnbcaaGreatDoorTie.lean); close each card by the builder's one call (the guide's Derived/Test/ToyasCard.lean, 'card_holds'). Laid BY PROGRAM, IN A SANDBOX (cutbox-door.mjs). By AI agents, Wed Nov 11 2026. No macro, syntax, notation, axiom, sorry.
-/
import Derived.Test.YtbiadmlfejnbcaaGreatDoorRows
import GoSem.ClaimSeven
namespace Go.Proofs.YtbiadmlfejnbcaaGreatDoor
namespace Rows

/-- THE TIED CARD OF 'metaprunelaw.CombMade'. -/
def combMadeCard : Claim7 := { stood := { row := combMadeRow, standIns := [], harness := (true, "953f95334221df45506ea2fac7cfec5c791cde3183860d3f0be5c488d6d3867c"), looks := true }, kinds := [], alts := [], laidByText := true, laidKinds := [.data, .data, .data, .sentinel, .sentinel, .data], laidTests := true, laidLooks := .later }
def CombMadeCardSaid : Prop := Claim7.holds Tryz.pinned (.plain (OpenSpec.ofChange combMadeSpec)) combMadeCard

/-- THE SECOND FORM's CARD OF 'metaprunelaw.CombMade'. -/
def combMadeUptoCard : Claim7 := { stood := { row := combMadeUptoRow, standIns := [], harness := (true, "953f95334221df45506ea2fac7cfec5c791cde3183860d3f0be5c488d6d3867c"), looks := true }, kinds := [], alts := [], laidByText := true, laidKinds := [.data, .data, .data, .sentinel, .sentinel, .data], laidTests := true, laidLooks := .later }
def CombMadeUptoCardSaid : Prop := Claim7.holds Tryz.pinned (.plain (OpenSpec.upto combMadeSpec)) combMadeUptoCard
end Rows
end Go.Proofs.YtbiadmlfejnbcaaGreatDoor
