/-
  DERIVED. GIVEN WITH THE SEED: THE CARDS: each row of YtiaopkfapnajaaaDoorRows.lean that lists a variable, with what it lists TIED to the program's text (the seventh form; the later family's looks); each row that meets fmt, with fmt's text TOLD by the authors' own Lean function (tested against real Go, not proved from fmt's source: count such statements apart). THE CARD IS WHAT COUNTS. Prove the row's statement (the work); the ties are given (YtiaopkfapnajaaaDoorTie.lean); close each card by the builder's one call (the guide's Derived/Test/ToyasCard.lean, 'card_holds'). Laid BY PROGRAM, IN A SANDBOX (cutbox-door.mjs). By AI agents, Wed Nov 11 2026. No macro, syntax, notation, axiom, sorry.
-/
import Derived.Test.YtiaopkfapnajaaaDoorRows
import GoSem.ClaimSeven
namespace Go.Proofs.YtiaopkfapnajaaaDoor
namespace Rows

/-- THE TIED CARD OF 'metaprunetop.TopLocal'. -/
def topLocalCard : Claim7 := { stood := { row := topLocalRow, standIns := [], harness := (true, "5f528e27127d86fd44fc28777f713c11c96cc17ea0fc23267b5a8b0c9b40d995"), looks := true }, kinds := [], alts := [], laidByText := true, laidKinds := [.data, .data, .data], laidTests := true, laidLooks := .later }
def TopLocalCardSaid : Prop := Claim7.holds Tryd.pinned (.plain (OpenSpec.ofChange topLocalSpec)) topLocalCard

/-- THE SECOND FORM's CARD OF 'metaprunetop.TopLocal'. -/
def topLocalUptoCard : Claim7 := { stood := { row := topLocalUptoRow, standIns := [], harness := (true, "5f528e27127d86fd44fc28777f713c11c96cc17ea0fc23267b5a8b0c9b40d995"), looks := true }, kinds := [], alts := [], laidByText := true, laidKinds := [.data, .data, .data], laidTests := true, laidLooks := .later }
def TopLocalUptoCardSaid : Prop := Claim7.holds Tryd.pinned (.plain (OpenSpec.upto topLocalSpec)) topLocalUptoCard
end Rows
end Go.Proofs.YtiaopkfapnajaaaDoor
