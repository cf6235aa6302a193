/-
  DERIVED. GIVEN WITH THE SEED: THE CARDS: each row of YtehnjhkndbcmgaaDoorRows.lean that lists a variable, with what it lists TIED to the program's text (the seventh form; the later family's looks); each row that meets fmt, with fmt's text TOLD by the authors' own Lean function (tested against real Go, not proved from fmt's source: count such statements apart). THE CARD IS WHAT COUNTS. Prove the row's statement (the work); the ties are given (YtehnjhkndbcmgaaDoorTie.lean); close each card by the builder's one call (the guide's Derived/Test/ToyasCard.lean, 'card_holds'). Laid BY PROGRAM, IN A SANDBOX (cutbox-door.mjs). By AI agents, Wed Nov 11 2026. No macro, syntax, notation, axiom, sorry.
-/
import Derived.Test.YtehnjhkndbcmgaaDoorRows
import GoSem.ClaimSeven
namespace Go.Proofs.YtehnjhkndbcmgaaDoor
namespace Rows

/-- THE TIED CARD OF 'metaprunetop.TopSelf'. -/
def topSelfCard : Claim7 := { stood := { row := topSelfRow, standIns := [], harness := (true, "d2ad2ce5a4f0f871a19425c4073c42c5db136cfce30a5d0cebe377d32ad32397"), looks := false }, kinds := [], alts := [], laidByText := true, laidKinds := [.data, .data, .data, .data], laidTests := true, laidLooks := .later }
def TopSelfCardSaid : Prop := Claim7.holds Tryd.pinned (.plain (OpenSpec.ofChange topSelfSpec)) topSelfCard

/-- THE SECOND FORM's CARD OF 'metaprunetop.TopSelf'. -/
def topSelfUptoCard : Claim7 := { stood := { row := topSelfUptoRow, standIns := [], harness := (true, "d2ad2ce5a4f0f871a19425c4073c42c5db136cfce30a5d0cebe377d32ad32397"), looks := false }, kinds := [], alts := [], laidByText := true, laidKinds := [.data, .data, .data, .data], laidTests := true, laidLooks := .later }
def TopSelfUptoCardSaid : Prop := Claim7.holds Tryd.pinned (.plain (OpenSpec.upto topSelfSpec)) topSelfUptoCard
end Rows
end Go.Proofs.YtehnjhkndbcmgaaDoor
