/-
  Substitution: the walks.
  Conditions: none.
-/
import Derived.Test.YtkjocebkajckpaaBSubst
namespace Go.Proofs.Ytkjocebkajckpaa
open Go Go.RowKit
set_option linter.unusedVariables false
set_option linter.unusedSimpArgs false
set_option maxHeartbeats 400000

def onTo (s : List Bd) (t : Tm) : Tm × Bool := if (t.on s).size ≤ 2000 then (t.on s, true) else (Tm.nil, false)
end Go.Proofs.Ytkjocebkajckpaa
