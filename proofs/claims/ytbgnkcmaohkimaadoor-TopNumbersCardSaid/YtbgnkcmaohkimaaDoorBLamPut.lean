/-
  Lambda terms: what may be, by the document; putting in; the law LambdaPuts.
  Conditions: none.
-/
import Derived.Test.YtbgnkcmaohkimaaDoorBLamMv
namespace Go.Proofs.YtbgnkcmaohkimaaDoor
open Go Go.RowKit
set_option linter.unusedVariables false
set_option linter.unusedSimpArgs false
set_option maxHeartbeats 400000

/-- What putting in gives: a term, and what is wrong. -/
def putErr (b x : Lm) (u : Int) : Int := if u < 0 ∨ 40 ≤ u then 10 else if b.may 0 (u + 1) ≠ 0 then b.may 0 (u + 1) else if x.may 0 u ≠ 0 then x.may 0 u else if 2000 < (Lm.put x 0 b).size then 8 else 0
end Go.Proofs.YtbgnkcmaohkimaaDoor
