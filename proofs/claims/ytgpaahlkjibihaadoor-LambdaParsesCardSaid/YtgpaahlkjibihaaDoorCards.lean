/-
  DERIVED. GIVEN WITH THE SEED: THE CARDS: each row of YtgpaahlkjibihaaDoorRows.lean that lists a variable, with what it lists TIED to the program's text (the seventh form; the later family's looks); each row that meets fmt, with fmt's text TOLD by the authors' own Lean function (tested against real Go, not proved from fmt's source: count such statements apart). THE CARD IS WHAT COUNTS. Prove the row's statement (the work); the ties are given (YtgpaahlkjibihaaDoorTie.lean); close each card by the builder's one call (the guide's Derived/Test/ToyasCard.lean, 'card_holds'). Laid BY PROGRAM, IN A SANDBOX (cutbox-door.mjs). By AI agents, Wed Nov 11 2026. No macro, syntax, notation, axiom, sorry.
-/
import Derived.Test.YtgpaahlkjibihaaDoorRows
import GoSem.ClaimSeven
namespace Go.Proofs.YtgpaahlkjibihaaDoor
namespace Rows

/-- THE TIED CARD OF 'metaprunelaw.LambdaParses'. -/
def lambdaParsesCard : Claim7 := { stood := { row := lambdaParsesRow, standIns := [], harness := (true, "0c0dd925b8623b40c213c335564ed37f31a71974d97734faadbc6f8f4aed2b13"), looks := true }, kinds := [], alts := [], laidByText := true, laidKinds := [.data, .data, .data, .sentinel, .sentinel], laidTests := true, laidLooks := .later }
def LambdaParsesCardSaid : Prop := Claim7.holds Tryd.pinned (.plain (OpenSpec.ofChange lambdaParsesSpec)) lambdaParsesCard

/-- THE SECOND FORM's CARD OF 'metaprunelaw.LambdaParses'. -/
def lambdaParsesUptoCard : Claim7 := { stood := { row := lambdaParsesUptoRow, standIns := [], harness := (true, "0c0dd925b8623b40c213c335564ed37f31a71974d97734faadbc6f8f4aed2b13"), looks := true }, kinds := [], alts := [], laidByText := true, laidKinds := [.data, .data, .data, .sentinel, .sentinel], laidTests := true, laidLooks := .later }
def LambdaParsesUptoCardSaid : Prop := Claim7.holds Tryd.pinned (.plain (OpenSpec.upto lambdaParsesSpec)) lambdaParsesUptoCard
end Rows
end Go.Proofs.YtgpaahlkjibihaaDoor
