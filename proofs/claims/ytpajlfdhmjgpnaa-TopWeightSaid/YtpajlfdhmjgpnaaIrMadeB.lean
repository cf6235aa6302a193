/-
  The program's functions in abstract operations: written by a program of mine out of the translation; each is shown to be the translation's.
  Conditions: none.
-/
import Derived.Test.YtpajlfdhmjgpnaaBRawT
namespace Go.Proofs.Ytpajlfdhmjgpnaa
open Go Go.RowKit
set_option maxRecDepth 100000

def ir_R_BindsFrom : IR :=
  (.seq
  (.ops
  [.mk (some 8) none (.mov (.c (.one (.full []))))
  .no])
  (.seq
  (.ops
  [.mk (some 9) none (.mov (.c (.one (.full []))))
  .no])
  (.seq
  (.ops
  [.mk (some 12) none
  (.buildFlat
  [.c (.one (.st (.str (ByteArray.mk (#[85]))))), .c (.one (.st (.str (ByteArray.mk (#[88]))))), .c (.one (.st (.str (ByteArray.mk (#[89]))))), .c (.one (.st (.str (ByteArray.mk (#[90])))))])
  .no, .mk (some 10) none (.mov (.t 12)) .no])
  (.seq
  (.seq
  (.ops
  [.mk (some 11) none (.mov (.c (.one (.st (.int .i64 0)))))
  .no])
  (.block 0
  (.loop
  (.seq
  (.seq
  (.ops
  [.mk (some 13) none (.mov (.t 11)) .no, .mk (some 14) none (.bin .lss (.t 13) (.c (.one (.st (.int .i64 4)))))
  .no])
  (.cond (.t 14) .skip (.exit 0)))
  (.seq
  (.block 1
  (.seq
  (.ops
  [.mk (some 17) none (.mov (.t 0)) .no, .mk (some 18) none (.mov (.t 1)) .no, .mk (some 19) none (.mov (.t 11)) .no, .mk (some 20) none (.bin .add (.t 18) (.t 19))
  .no, .mk (some 21) none (.call 46 [.t 17, .t 20])
  .no, .mk (some 22) none (.call 20
  [.t 21, .c (.one (.st (.int .i64 4)))])
  .no, .mk (some 23) none (.bin .gtr (.t 22) (.c (.one (.st (.int .i64 0)))))
  .no])
  (.cond (.t 23)
  (.ops
  [.mk (some 24) none (.mov (.t 9)) .no, .mk (some 25) none (.mov (.t 10)) .no, .mk (some 26) none (.mov (.t 11)) .no, .mk (some 27) none (.indexAddr 1 (.t 25) (.t 26))
  .no, .mk (some 28) none (.load false 1 (.t 27)) .no, .mk (some 29) none (.mov (.t 0)) .no, .mk (some 30) none (.mov (.t 1)) .no, .mk (some 31) none (.bin .add (.t 30) (.c (.one (.st (.int .i64 4)))))
  .no, .mk (some 32) none (.mov (.t 11)) .no, .mk (some 33) none (.bin .mul (.c (.one (.st (.int .i64 7)))) (.t 32))
  .no, .mk (some 34) none (.bin .add (.t 31) (.t 33))
  .no, .mk (some 35) none (.mov (.t 2)) .no, .mk (some 36) none (.mov (.t 3)) .no, .mk (some 37) none (.call 19 [.t 29, .t 34, .t 35, .t 36])
  .no, .mk (some 38) none
  (.build
  [.st (.str (ByteArray.mk (#[]))), .st (.str (ByteArray.mk (#[]))), .full []]
  [(0, 1, .t 28), (1, 2, .t 37)])
  .no, .mk (some 39) none (.buildSlice false 63 3 [.t 38]) .no, .mk (some 40) none (.append false 63 3 56 (.t 24) (.t 39))
  .no, .mk (some 9) none (.mov (.t 40)) .no])
  .skip)))
  (.ops
  [.mk (some 15) none (.mov (.t 11)) .no, .mk (some 16) none (.bin .add (.t 15) (.c (.one (.st (.int .i64 1)))))
  .no, .mk (some 11) none (.mov (.t 16)) .no]))))))
  (.seq
  (.ops
  [.mk (some 41) none (.mov (.t 9)) .no, .mk (some 8) none (.mov (.t 41)) .no])
  .ret)))))
theorem tr_R_BindsFrom : trCode Try.prog 42 [] (Try.f22.body.getD .skip) = some ir_R_BindsFrom := by kernel_rfl
theorem ac_R_BindsFrom {xs : List AV} {r : AV} (hn : xs.length ≤ 42) (h : ∀ C : Ctx, C.n = 42 → IWP Try.prog C [] ir_R_BindsFrom (FinQ [.t 8] r) (AS.start xs)) : ACalls Try.prog 22 xs r :=
  acalls_of Try.func22 rfl tr_R_BindsFrom rfl hn h
theorem acS_R_BindsFrom {xs : List AV} {S S' : AStore} {r : AV} (hn : xs.length ≤ 42) (h : Clean S → ∀ C : Ctx, C.n = 42 → IWP Try.prog C [] ir_R_BindsFrom (FinS C [.t 8] r S') (AS.startS xs S)) : ACallsS Try.prog 22 xs S r S' :=
  acallsS_of Try.func22 rfl tr_R_BindsFrom rfl hn h

end Go.Proofs.Ytpajlfdhmjgpnaa
