/-
  DERIVED. GIVEN WITH THE SEED: THE CARDS: each row of YtcgnojefbalbbaaDoorRows.lean that lists a variable, with what it lists TIED to the program's text (the seventh form; the later family's looks); each row that meets fmt, with fmt's text TOLD by the authors' own Lean function (tested against real Go, not proved from fmt's source: count such statements apart). THE CARD IS WHAT COUNTS. Prove the row's statement (the work); the ties are given (YtcgnojefbalbbaaDoorTie.lean); close each card by the builder's one call (the guide's Derived/Test/ToyasCard.lean, 'card_holds'). Laid BY PROGRAM, IN A SANDBOX (cutbox-door.mjs). By AI agents, Wed Nov 11 2026. No macro, syntax, notation, axiom, sorry.
-/
import Derived.Test.YtcgnojefbalbbaaDoorRows
import GoSem.ClaimSeven
namespace Go.Proofs.YtcgnojefbalbbaaDoor
namespace Rows

/-- THE TIED CARD OF 'metaprunetop.TopClash'. -/
def topClashCard : Claim7 := { stood := { row := topClashRow, standIns := [], harness := (true, "88d3fd9896677c40b900defc85aa9b266be7411a160ac40678126c450e9b3b22"), looks := false }, kinds := [], alts := [], laidByText := true, laidKinds := [.data], laidTests := true, laidLooks := .later }
def TopClashCardSaid : Prop := Claim7.holds Tryd.pinned (.plain (OpenSpec.ofChange topClashSpec)) topClashCard

/-- THE TIED CARD OF 'metaprunetop.TopPrune'. -/
def topPruneCard : Claim7 := { stood := { row := topPruneRow, standIns := [], harness := (true, "88d3fd9896677c40b900defc85aa9b266be7411a160ac40678126c450e9b3b22"), looks := false }, kinds := [], alts := [], laidByText := true, laidKinds := [.data], laidTests := true, laidLooks := .later }
def TopPruneCardSaid : Prop := Claim7.holds Tryd.pinned (.plain (OpenSpec.ofChange topPruneSpec)) topPruneCard

/-- THE SECOND FORM's CARD OF 'metaprunetop.TopClash'. -/
def topClashUptoCard : Claim7 := { stood := { row := topClashUptoRow, standIns := [], harness := (true, "88d3fd9896677c40b900defc85aa9b266be7411a160ac40678126c450e9b3b22"), looks := false }, kinds := [], alts := [], laidByText := true, laidKinds := [.data], laidTests := true, laidLooks := .later }
def TopClashUptoCardSaid : Prop := Claim7.holds Tryd.pinned (.plain (OpenSpec.upto topClashSpec)) topClashUptoCard

/-- THE SECOND FORM's CARD OF 'metaprunetop.TopPrune'. -/
def topPruneUptoCard : Claim7 := { stood := { row := topPruneUptoRow, standIns := [], harness := (true, "88d3fd9896677c40b900defc85aa9b266be7411a160ac40678126c450e9b3b22"), looks := false }, kinds := [], alts := [], laidByText := true, laidKinds := [.data], laidTests := true, laidLooks := .later }
def TopPruneUptoCardSaid : Prop := Claim7.holds Tryd.pinned (.plain (OpenSpec.upto topPruneSpec)) topPruneUptoCard
end Rows
end Go.Proofs.YtcgnojefbalbbaaDoor
