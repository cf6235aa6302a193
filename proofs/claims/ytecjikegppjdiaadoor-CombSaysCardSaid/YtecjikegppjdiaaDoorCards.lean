/-
  DERIVED. GIVEN WITH THE SEED: THE CARDS: each row of YtecjikegppjdiaaDoorRows.lean that lists a variable, with what it lists TIED to the program's text (the seventh form; the later family's looks); each row that meets fmt, with fmt's text TOLD by the authors' own Lean function (tested against real Go, not proved from fmt's source: count such statements apart). THE CARD IS WHAT COUNTS. Prove the row's statement (the work); the ties are given (YtecjikegppjdiaaDoorTie.lean); close each card by the builder's one call (the guide's Derived/Test/ToyasCard.lean, 'card_holds'). Laid BY PROGRAM, IN A SANDBOX (cutbox-door.mjs). By AI agents, Wed Nov 11 2026. No macro, syntax, notation, axiom, sorry.
-/
import Derived.Test.YtecjikegppjdiaaDoorRows
import GoSem.ClaimSeven
namespace Go.Proofs.YtecjikegppjdiaaDoor
namespace Rows

/-- THE TIED CARD OF 'metaprunelaw.CombSays'. -/
def combSaysCard : Claim7 := { stood := { row := combSaysRow, standIns := [], harness := (true, "66a075e8c732d3e072732f350c3ac42c4b5f2eaf2bf5e66936e14df340eeb122"), looks := true }, kinds := [], alts := [], laidByText := true, laidKinds := [.data, .data, .data, .sentinel, .sentinel], laidTests := true, laidLooks := .later }
def CombSaysCardSaid : Prop := Claim7.holds Tryd.pinned (.plain (OpenSpec.ofChange combSaysSpec)) combSaysCard

/-- THE SECOND FORM's CARD OF 'metaprunelaw.CombSays'. -/
def combSaysUptoCard : Claim7 := { stood := { row := combSaysUptoRow, standIns := [], harness := (true, "66a075e8c732d3e072732f350c3ac42c4b5f2eaf2bf5e66936e14df340eeb122"), looks := true }, kinds := [], alts := [], laidByText := true, laidKinds := [.data, .data, .data, .sentinel, .sentinel], laidTests := true, laidLooks := .later }
def CombSaysUptoCardSaid : Prop := Claim7.holds Tryd.pinned (.plain (OpenSpec.upto combSaysSpec)) combSaysUptoCard
end Rows
end Go.Proofs.YtecjikegppjdiaaDoor
