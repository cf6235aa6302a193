/-
  The program's functions in abstract operations: written by a program of mine out of the translation; each is shown to be the translation's.
  Conditions: none.
-/
import Derived.Test.YtpajlfdhmjgpnaaBSort
namespace Go.Proofs.Ytpajlfdhmjgpnaa
open Go Go.RowKit
set_option maxRecDepth 100000

def ir_R_Sorted : IR :=
  (.seq
  (.ops
  [.mk (some 2) none (.mov (.c (.one (.full []))))
  .no])
  (.seq
  (.ops
  [.mk (some 3) none (.mov (.c (.one (.full []))))
  .no])
  (.seq
  (.seq
  (.ops
  [.mk (some 4) none (.mov (.c (.one (.st (.int .i64 0)))))
  .no])
  (.block 0
  (.loop
  (.seq
  (.seq
  (.ops
  [.mk (some 7) none (.mov (.t 4)) .no, .mk (some 8) none (.mov (.t 0)) .no, .mk (some 9) none (.len false (.t 8)) .no, .mk (some 10) none (.bin .lss (.t 7) (.t 9))
  .no])
  (.cond (.t 10) .skip (.exit 0)))
  (.seq
  (.block 1
  (.seq
  (.ops
  [.mk (some 13) none (.mov (.t 3)) .no, .mk (some 14) none (.mov (.t 0)) .no, .mk (some 15) none (.mov (.t 4)) .no, .mk (some 16) none (.indexAddr 3 (.t 14) (.t 15))
  .no, .mk (some 17) none (.load true 3 (.t 16)) .no, .mk (some 18) none (.buildSlice false 63 3 [.t 17]) .no, .mk (some 19) none (.append true 63 3 56 (.t 13) (.t 18))
  .no, .mk (some 3) none (.mov (.t 19)) .no])
  (.seq
  (.ops
  [.mk (some 20) none (.mov (.t 3)) .no, .mk (some 21) none (.len false (.t 20)) .no, .mk (some 22) none (.bin .sub (.t 21) (.c (.one (.st (.int .i64 1)))))
  .no, .mk (some 5) none (.mov (.t 22)) .no])
  (.block 2
  (.loop
  (.seq
  (.seq
  (.ops
  [.mk (some 23) none (.mov (.t 5)) .no, .mk (some 24) none (.bin .gtr (.t 23) (.c (.one (.st (.int .i64 0)))))
  .no, .mk (some 25) none (.mov (.t 24)) .no, .mk (some 26) (some (25, true)) (.mov (.t 3)) .no, .mk (some 27) (some (25, true)) (.mov (.t 5)) .no, .mk (some 28) (some (25, true))
  (.indexAddr 3 (.t 26) (.t 27)) .no, .mk (some 29) (some (25, true)) (.fieldAddr 0 (.t 28))
  .no, .mk (some 30) (some (25, true)) (.load false 1 (.t 29))
  .no, .mk (some 31) (some (25, true)) (.mov (.t 3)) .no, .mk (some 32) (some (25, true)) (.mov (.t 5)) .no, .mk (some 33) (some (25, true)) (.bin .sub (.t 32) (.c (.one (.st (.int .i64 1)))))
  .no, .mk (some 34) (some (25, true))
  (.indexAddr 3 (.t 31) (.t 33)) .no, .mk (some 35) (some (25, true)) (.fieldAddr 0 (.t 34))
  .no, .mk (some 36) (some (25, true)) (.load false 1 (.t 35))
  .no, .mk (some 37) (some (25, true)) (.bin .lss (.t 30) (.t 36)) .no, .mk (some 38) none
  (.pick (.t 25) (.t 37) (.c (.one (.st (.bool false)))))
  .no])
  (.cond (.t 38) .skip (.exit 2)))
  (.seq
  (.block 3
  (.seq
  (.ops
  [.mk (some 41) none (.mov (.t 3)) .no, .mk (some 42) none (.mov (.t 5)) .no, .mk (some 43) none (.indexAddr 3 (.t 41) (.t 42))
  .no, .mk (some 44) none (.load true 3 (.t 43)) .no, .mk (some 6) none
  (.alloc 63
  [.st (.str (ByteArray.mk (#[]))), .st (.str (ByteArray.mk (#[]))), .full []])
  .no, .mk none none (.store 3 (.t 6) (.t 44))
  .no])
  (.seq
  (.ops
  [.mk (some 45) none (.mov (.t 3)) .no, .mk (some 46) none (.mov (.t 5)) .no, .mk (some 47) none (.mov (.t 3)) .no, .mk (some 48) none (.mov (.t 5)) .no, .mk (some 49) none (.bin .sub (.t 48) (.c (.one (.st (.int .i64 1)))))
  .no, .mk (some 50) none (.indexAddr 3 (.t 47) (.t 49))
  .no, .mk (some 51) none (.load true 3 (.t 50)) .no, .mk (some 52) none (.indexAddr 3 (.t 45) (.t 46))
  .no, .mk none none (.store 3 (.t 52) (.t 51))
  .no])
  (.ops
  [.mk (some 53) none (.mov (.t 3)) .no, .mk (some 54) none (.mov (.t 5)) .no, .mk (some 55) none (.bin .sub (.t 54) (.c (.one (.st (.int .i64 1)))))
  .no, .mk (some 56) none (.load true 3 (.t 6)) .no, .mk (some 57) none (.indexAddr 3 (.t 53) (.t 55))
  .no, .mk none none (.store 3 (.t 57) (.t 56))
  .no]))))
  (.ops
  [.mk (some 39) none (.mov (.t 5)) .no, .mk (some 40) none (.bin .sub (.t 39) (.c (.one (.st (.int .i64 1)))))
  .no, .mk (some 5) none (.mov (.t 40)) .no]))))))))
  (.ops
  [.mk (some 11) none (.mov (.t 4)) .no, .mk (some 12) none (.bin .add (.t 11) (.c (.one (.st (.int .i64 1)))))
  .no, .mk (some 4) none (.mov (.t 12)) .no]))))))
  (.seq
  (.ops
  [.mk (some 58) none (.mov (.t 3)) .no, .mk (some 2) none (.mov (.t 58)) .no])
  .ret))))
theorem tr_R_Sorted : trCode Try.prog 59 [28, 34, 43, 50, 52, 57, 19] (Try.f38.body.getD .skip) = some ir_R_Sorted := by kernel_rfl
theorem ac_R_Sorted {xs : List AV} {r : AV} (hn : xs.length ≤ 59) (h : ∀ C : Ctx, C.n = 59 → IWP Try.prog C [28, 34, 43, 50, 52, 57, 19] ir_R_Sorted (FinQ [.t 2] r) (AS.start xs)) : ACalls Try.prog 38 xs r :=
  acalls_of Try.func38 rfl tr_R_Sorted rfl hn h
theorem acS_R_Sorted {xs : List AV} {S S' : AStore} {r : AV} (hn : xs.length ≤ 59) (h : Clean S → ∀ C : Ctx, C.n = 59 → IWP Try.prog C [28, 34, 43, 50, 52, 57, 19] ir_R_Sorted (FinS C [.t 2] r S') (AS.startS xs S)) : ACallsS Try.prog 38 xs S r S' :=
  acallsS_of Try.func38 rfl tr_R_Sorted rfl hn h

def ir_R_SameBinds : IR :=
  (.seq
  (.ops
  [.mk (some 4) none (.mov (.c (.one (.st (.bool false)))))
  .no])
  (.seq
  (.seq
  (.ops
  [.mk (some 6) none (.mov (.t 0)) .no, .mk (some 7) none (.len false (.t 6)) .no, .mk (some 8) none (.mov (.t 1)) .no, .mk (some 9) none (.len false (.t 8)) .no, .mk (some 10) none (.bin .neq (.t 7) (.t 9))
  .no])
  (.cond (.t 10)
  (.seq
  (.ops
  [.mk (some 4) none (.mov (.c (.one (.st (.bool false)))))
  .no])
  .ret)
  .skip))
  (.seq
  (.seq
  (.ops
  [.mk (some 5) none (.mov (.c (.one (.st (.int .i64 0)))))
  .no])
  (.block 0
  (.loop
  (.seq
  (.seq
  (.ops
  [.mk (some 11) none (.mov (.t 5)) .no, .mk (some 12) none (.mov (.t 0)) .no, .mk (some 13) none (.len false (.t 12)) .no, .mk (some 14) none (.bin .lss (.t 11) (.t 13))
  .no])
  (.cond (.t 14) .skip (.exit 0)))
  (.seq
  (.block 1
  (.seq
  (.ops
  [.mk (some 17) none (.mov (.t 0)) .no, .mk (some 18) none (.mov (.t 5)) .no, .mk (some 19) none (.indexAddr 3 (.t 17) (.t 18))
  .no, .mk (some 20) none (.fieldAddr 0 (.t 19)) .no, .mk (some 21) none (.load false 1 (.t 20)) .no, .mk (some 22) none (.mov (.t 1)) .no, .mk (some 23) none (.mov (.t 5)) .no, .mk (some 24) none (.indexAddr 3 (.t 22) (.t 23))
  .no, .mk (some 25) none (.fieldAddr 0 (.t 24)) .no, .mk (some 26) none (.load false 1 (.t 25)) .no, .mk (some 27) none (.bin .neq (.t 21) (.t 26))
  .no, .mk (some 28) none (.mov (.t 27)) .no, .mk (some 29) (some (28, false)) (.mov (.t 0)) .no, .mk (some 30) (some (28, false)) (.mov (.t 5)) .no, .mk (some 31) (some (28, false)) (.indexAddr 3 (.t 29) (.t 30))
  .no, .mk (some 32) (some (28, false)) (.fieldAddr 1 (.t 31)) .no, .mk (some 33) (some (28, false)) (.load true 2 (.t 32)) .no, .mk (some 34) (some (28, false)) (.mov (.t 1)) .no, .mk (some 35) (some (28, false)) (.mov (.t 5)) .no, .mk (some 36) (some (28, false)) (.indexAddr 3 (.t 34) (.t 35))
  .no, .mk (some 37) (some (28, false)) (.fieldAddr 1 (.t 36)) .no, .mk (some 38) (some (28, false)) (.load true 2 (.t 37)) .no, .mk (some 39) (some (28, false)) (.call 26 [.t 33, .t 38])
  .no, .mk (some 40) (some (28, false)) (.un .not (.t 39)) .no, .mk (some 41) none
  (.pick (.t 28) (.c (.one (.st (.bool true)))) (.t 40))
  .no])
  (.cond (.t 41)
  (.seq
  (.ops
  [.mk (some 4) none (.mov (.c (.one (.st (.bool false)))))
  .no])
  .ret)
  .skip)))
  (.ops
  [.mk (some 15) none (.mov (.t 5)) .no, .mk (some 16) none (.bin .add (.t 15) (.c (.one (.st (.int .i64 1)))))
  .no, .mk (some 5) none (.mov (.t 16)) .no]))))))
  (.seq
  (.ops
  [.mk (some 4) none (.mov (.c (.one (.st (.bool true)))))
  .no])
  .ret))))
theorem tr_R_SameBinds : trCode Try.prog 42 [] (Try.f18.body.getD .skip) = some ir_R_SameBinds := by kernel_rfl
theorem ac_R_SameBinds {xs : List AV} {r : AV} (hn : xs.length ≤ 42) (h : ∀ C : Ctx, C.n = 42 → IWP Try.prog C [] ir_R_SameBinds (FinQ [.t 4] r) (AS.start xs)) : ACalls Try.prog 18 xs r :=
  acalls_of Try.func18 rfl tr_R_SameBinds rfl hn h
theorem acS_R_SameBinds {xs : List AV} {S S' : AStore} {r : AV} (hn : xs.length ≤ 42) (h : Clean S → ∀ C : Ctx, C.n = 42 → IWP Try.prog C [] ir_R_SameBinds (FinS C [.t 4] r S') (AS.startS xs S)) : ACallsS Try.prog 18 xs S r S' :=
  acallsS_of Try.func18 rfl tr_R_SameBinds rfl hn h

end Go.Proofs.Ytpajlfdhmjgpnaa
