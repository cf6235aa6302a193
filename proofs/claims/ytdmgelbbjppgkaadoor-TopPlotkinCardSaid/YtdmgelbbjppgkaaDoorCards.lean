/-
  DERIVED. GIVEN WITH THE SEED: THE CARDS: each row of YtdmgelbbjppgkaaDoorRows.lean that lists a variable, with what it lists TIED to the program's text (the seventh form; the later family's looks); each row that meets fmt, with fmt's text TOLD by the authors' own Lean function (tested against real Go, not proved from fmt's source: count such statements apart). THE CARD IS WHAT COUNTS. Prove the row's statement (the work); the ties are given (YtdmgelbbjppgkaaDoorTie.lean); close each card by the builder's one call (the guide's Derived/Test/ToyasCard.lean, 'card_holds'). Laid BY PROGRAM, IN A SANDBOX (cutbox-door.mjs). By AI agents, Wed Nov 11 2026. No macro, syntax, notation, axiom, sorry.
-/
import Derived.Test.YtdmgelbbjppgkaaDoorRows
import GoSem.ClaimSeven
namespace Go.Proofs.YtdmgelbbjppgkaaDoor
namespace Rows

/-- THE TIED CARD OF 'metaprunelaw.GeneralSays'. -/
def generalSaysCard : Claim7 := { stood := { row := generalSaysRow, standIns := [], harness := (true, "39df768c59f7da8d5f0889656356da861bc5112f71134ebaa3c08486198a1ea3"), looks := false }, kinds := [], alts := [], laidByText := true, laidKinds := [.data, .data, .data], laidTests := true, laidLooks := .later }
def GeneralSaysCardSaid : Prop := Claim7.holds Tryd.pinned (.plain (OpenSpec.ofChange generalSaysSpec)) generalSaysCard

/-- THE TIED CARD OF 'metaprunelaw.GeneralMade'. -/
def generalMadeCard : Claim7 := { stood := { row := generalMadeRow, standIns := [], harness := (true, "39df768c59f7da8d5f0889656356da861bc5112f71134ebaa3c08486198a1ea3"), looks := false }, kinds := [], alts := [], laidByText := true, laidKinds := [.data, .data, .data], laidTests := true, laidLooks := .later }
def GeneralMadeCardSaid : Prop := Claim7.holds Tryd.pinned (.plain (OpenSpec.ofChange generalMadeSpec)) generalMadeCard

/-- THE TIED CARD OF 'metaprunetop.TopPlotkin'. -/
def topPlotkinCard : Claim7 := { stood := { row := topPlotkinRow, standIns := [], harness := (true, "39df768c59f7da8d5f0889656356da861bc5112f71134ebaa3c08486198a1ea3"), looks := false }, kinds := [], alts := [], laidByText := true, laidKinds := [.data, .data, .data], laidTests := true, laidLooks := .later }
def TopPlotkinCardSaid : Prop := Claim7.holds Tryd.pinned (.plain (OpenSpec.ofChange topPlotkinSpec)) topPlotkinCard

/-- THE SECOND FORM's CARD OF 'metaprunelaw.GeneralSays'. -/
def generalSaysUptoCard : Claim7 := { stood := { row := generalSaysUptoRow, standIns := [], harness := (true, "39df768c59f7da8d5f0889656356da861bc5112f71134ebaa3c08486198a1ea3"), looks := false }, kinds := [], alts := [], laidByText := true, laidKinds := [.data, .data, .data], laidTests := true, laidLooks := .later }
def GeneralSaysUptoCardSaid : Prop := Claim7.holds Tryd.pinned (.plain (OpenSpec.upto generalSaysSpec)) generalSaysUptoCard

/-- THE SECOND FORM's CARD OF 'metaprunelaw.GeneralMade'. -/
def generalMadeUptoCard : Claim7 := { stood := { row := generalMadeUptoRow, standIns := [], harness := (true, "39df768c59f7da8d5f0889656356da861bc5112f71134ebaa3c08486198a1ea3"), looks := false }, kinds := [], alts := [], laidByText := true, laidKinds := [.data, .data, .data], laidTests := true, laidLooks := .later }
def GeneralMadeUptoCardSaid : Prop := Claim7.holds Tryd.pinned (.plain (OpenSpec.upto generalMadeSpec)) generalMadeUptoCard

/-- THE SECOND FORM's CARD OF 'metaprunetop.TopPlotkin'. -/
def topPlotkinUptoCard : Claim7 := { stood := { row := topPlotkinUptoRow, standIns := [], harness := (true, "39df768c59f7da8d5f0889656356da861bc5112f71134ebaa3c08486198a1ea3"), looks := false }, kinds := [], alts := [], laidByText := true, laidKinds := [.data, .data, .data], laidTests := true, laidLooks := .later }
def TopPlotkinUptoCardSaid : Prop := Claim7.holds Tryd.pinned (.plain (OpenSpec.upto topPlotkinSpec)) topPlotkinUptoCard
end Rows
end Go.Proofs.YtdmgelbbjppgkaaDoor
