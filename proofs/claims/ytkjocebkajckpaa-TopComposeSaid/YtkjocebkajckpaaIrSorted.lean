/-
  The program's functions in abstract operations: written by a program of mine out of the translation; each is shown to be the translation's.
  Conditions: none.
-/
import Derived.Test.YtkjocebkajckpaaBSort
namespace Go.Proofs.Ytkjocebkajckpaa
open Go Go.RowKit
set_option maxRecDepth 100000

def ir_R_SameBinds : IR :=
  (.seq
  (.ops
  [.mk (some 4) none (.mov (.c (.one (.st (.bool false)))))
  .no])
  (.seq
  (.seq
  (.ops
  [.mk (some 6) none (.mov (.t 0)) .no, .mk (some 7) none (.len false (.t 6)) .no, .mk (some 8) none (.mov (.t 1)) .no, .mk (some 9) none (.len false (.t 8)) .no, .mk (some 10) none (.bin .neq (.t 7) (.t 9))
  .no])
  (.cond (.t 10)
  (.seq
  (.ops
  [.mk (some 4) none (.mov (.c (.one (.st (.bool false)))))
  .no])
  .ret)
  .skip))
  (.seq
  (.seq
  (.ops
  [.mk (some 5) none (.mov (.c (.one (.st (.int .i64 0)))))
  .no])
  (.block 0
  (.loop
  (.seq
  (.seq
  (.ops
  [.mk (some 11) none (.mov (.t 5)) .no, .mk (some 12) none (.mov (.t 0)) .no, .mk (some 13) none (.len false (.t 12)) .no, .mk (some 14) none (.bin .lss (.t 11) (.t 13))
  .no])
  (.cond (.t 14) .skip (.exit 0)))
  (.seq
  (.block 1
  (.seq
  (.ops
  [.mk (some 17) none (.mov (.t 0)) .no, .mk (some 18) none (.mov (.t 5)) .no, .mk (some 19) none (.indexAddr 3 (.t 17) (.t 18))
  .no, .mk (some 20) none (.fieldAddr 0 (.t 19)) .no, .mk (some 21) none (.load false 1 (.t 20)) .no, .mk (some 22) none (.mov (.t 1)) .no, .mk (some 23) none (.mov (.t 5)) .no, .mk (some 24) none (.indexAddr 3 (.t 22) (.t 23))
  .no, .mk (some 25) none (.fieldAddr 0 (.t 24)) .no, .mk (some 26) none (.load false 1 (.t 25)) .no, .mk (some 27) none (.bin .neq (.t 21) (.t 26))
  .no, .mk (some 28) none (.mov (.t 27)) .no, .mk (some 29) (some (28, false)) (.mov (.t 0)) .no, .mk (some 30) (some (28, false)) (.mov (.t 5)) .no, .mk (some 31) (some (28, false)) (.indexAddr 3 (.t 29) (.t 30))
  .no, .mk (some 32) (some (28, false)) (.fieldAddr 1 (.t 31)) .no, .mk (some 33) (some (28, false)) (.load true 2 (.t 32)) .no, .mk (some 34) (some (28, false)) (.mov (.t 1)) .no, .mk (some 35) (some (28, false)) (.mov (.t 5)) .no, .mk (some 36) (some (28, false)) (.indexAddr 3 (.t 34) (.t 35))
  .no, .mk (some 37) (some (28, false)) (.fieldAddr 1 (.t 36)) .no, .mk (some 38) (some (28, false)) (.load true 2 (.t 37)) .no, .mk (some 39) (some (28, false)) (.call 9 [.t 33, .t 38])
  .no, .mk (some 40) (some (28, false)) (.un .not (.t 39)) .no, .mk (some 41) none
  (.pick (.t 28) (.c (.one (.st (.bool true)))) (.t 40))
  .no])
  (.cond (.t 41)
  (.seq
  (.ops
  [.mk (some 4) none (.mov (.c (.one (.st (.bool false)))))
  .no])
  .ret)
  .skip)))
  (.ops
  [.mk (some 15) none (.mov (.t 5)) .no, .mk (some 16) none (.bin .add (.t 15) (.c (.one (.st (.int .i64 1)))))
  .no, .mk (some 5) none (.mov (.t 16)) .no]))))))
  (.seq
  (.ops
  [.mk (some 4) none (.mov (.c (.one (.st (.bool true)))))
  .no])
  .ret))))
theorem tr_R_SameBinds : trCode Try.prog 42 [] (Try.f11.body.getD .skip) = some ir_R_SameBinds := by kernel_rfl
theorem ac_R_SameBinds {xs : List AV} {r : AV} (hn : xs.length ≤ 42) (h : ∀ C : Ctx, C.n = 42 → IWP Try.prog C [] ir_R_SameBinds (FinQ [.t 4] r) (AS.start xs)) : ACalls Try.prog 11 xs r :=
  acalls_of Try.func11 rfl tr_R_SameBinds rfl hn h
theorem acS_R_SameBinds {xs : List AV} {S S' : AStore} {r : AV} (hn : xs.length ≤ 42) (h : Clean S → ∀ C : Ctx, C.n = 42 → IWP Try.prog C [] ir_R_SameBinds (FinS C [.t 4] r S') (AS.startS xs S)) : ACallsS Try.prog 11 xs S r S' :=
  acallsS_of Try.func11 rfl tr_R_SameBinds rfl hn h

end Go.Proofs.Ytkjocebkajckpaa
