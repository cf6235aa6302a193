/-
  The program's functions in abstract operations: written by a program of mine out of the translation; each is shown to be the translation's.
  Conditions: none.
-/
import Derived.Test.YtbgnkcmaohkimaaDoorBRed3
namespace Go.Proofs.YtbgnkcmaohkimaaDoor
open Go Go.RowKit
set_option maxRecDepth 100000

def ir_long_Number : IR :=
  (.seq
  (.ops
  [.mk (some 2) none
  (.alloc 25
  [.st (.int .i64 0), .st (.int .i64 0),
  .full []])
  .no, .mk (some 3) none (.mov (.c (.one (.st (.int .i64 0)))))
  .no])
  (.seq
  (.seq
  (.ops
  [.mk (some 5) none (.mov (.t 0)) .no, .mk (some 6) none (.bin .lss (.t 5) (.c (.one (.st (.int .i64 0)))))
  .no, .mk (some 7) none (.mov (.t 6)) .no, .mk (some 8) (some (7, false)) (.mov (.t 0)) .no, .mk (some 9) (some (7, false)) (.bin .gtr (.t 8) (.c (.one (.st (.int .i64 40)))))
  .no, .mk (some 10) none
  (.pick (.t 7) (.c (.one (.st (.bool true)))) (.t 9))
  .no])
  (.cond (.t 10)
  (.seq
  (.ops
  [.mk (some 11) none
  (.build
  [.st (.int .i64 0), .st (.int .i64 0),
  .full []]
  [])
  .no, .mk none none (.store 3 (.t 2) (.t 11))
  .no, .mk (some 3) none (.mov (.c (.one (.st (.int .i64 10)))))
  .no])
  .ret)
  .skip))
  (.seq
  (.ops
  [.mk (some 12) none (.call 11
  [.c (.one (.st (.int .i64 0)))])
  .no, .mk (some 4) none
  (.alloc 25
  [.st (.int .i64 0), .st (.int .i64 0),
  .full []])
  .no, .mk none none (.store 3 (.t 4) (.t 12))
  .no])
  (.seq
  (.seq
  (.ops
  [.mk (some 13) none (.mov (.t 0)) .no, .mk (some 14) none (.mov (.c (.one (.st (.int .i64 0)))))
  .no])
  (.block 0
  (.loop
  (.seq
  (.ops
  [.mk (some 15) none (.bin .lss (.t 14) (.t 13))
  .no])
  (.seq (.cond (.t 15) .skip (.exit 0))
  (.seq
  (.block 1
  (.ops
  [.mk (some 16) none (.call 11
  [.c (.one (.st (.int .i64 1)))])
  .no, .mk (some 17) none (.load true 3 (.t 4)) .no, .mk (some 18) none (.call 12 [.t 16, .t 17])
  .no, .mk none none (.store 3 (.t 4) (.t 18))
  .no]))
  (.ops
  [.mk (some 19) none (.bin .add (.t 14) (.c (.one (.st (.int .i64 1)))))
  .no, .mk (some 14) none (.mov (.t 19)) .no])))))))
  (.seq
  (.ops
  [.mk (some 20) none (.load true 3 (.t 4)) .no, .mk (some 21) none (.call 13 [.t 20]) .no, .mk (some 22) none (.call 13 [.t 21]) .no, .mk none none (.store 3 (.t 2) (.t 22))
  .no, .mk (some 3) none (.mov (.c (.one (.st (.int .i64 0)))))
  .no])
  .ret)))))
theorem tr_long_Number : trCode Tryd.prog 23 [] (Tryd.f5.body.getD .skip) = some ir_long_Number := by kernel_rfl
theorem ac_long_Number {xs : List AV} {r : AV} (hn : xs.length ≤ 23) (h : ∀ C : Ctx, C.n = 23 → IWP Tryd.prog C [] ir_long_Number (FinQ [.cell 2 true 3, .t 3] r) (AS.start xs)) : ACalls Tryd.prog 5 xs r :=
  acalls_of Tryd.func5 rfl tr_long_Number rfl hn h
theorem acS_long_Number {xs : List AV} {S S' : AStore} {r : AV} (hn : xs.length ≤ 23) (h : Clean S → ∀ C : Ctx, C.n = 23 → IWP Tryd.prog C [] ir_long_Number (FinS C [.cell 2 true 3, .t 3] r S') (AS.startS xs S)) : ACallsS Tryd.prog 5 xs S r S' :=
  acallsS_of Tryd.func5 rfl tr_long_Number rfl hn h

def ir_long_Value : IR :=
  (.seq
  (.ops
  [.mk (some 2) none (.box 25 (.t 0)) .no, .mk (some 4) none (.mov (.c (.one (.st (.int .i64 0)))))
  .no, .mk (some 5) none (.mov (.c (.one (.st (.int .i64 0)))))
  .no])
  (.seq
  (.ops
  [.mk (some 11) none (.load true 3 (.t 2)) .no, .mk (some 12) none (.mov (.t 1)) .no, .mk (some 13) none (.call 14
  [.t 11, .c (.one (.st (.int .i64 0))), .t 12])
  .no, .mk (some 10) none (.mov (.t 13)) .no, .mk (some 14) none (.extract 0 (.t 10)) .no, .mk (some 15) none (.extract 1 (.t 10)) .no, .mk (some 16) none (.extract 2 (.t 10)) .no, .mk (some 6) none
  (.alloc 25
  [.st (.int .i64 0), .st (.int .i64 0),
  .full []])
  .no, .mk none none (.store 3 (.t 6) (.t 14))
  .no, .mk (some 7) none (.mov (.t 15)) .no, .mk (some 8) none (.mov (.t 16)) .no])
  (.seq
  (.seq
  (.ops
  [.mk (some 17) none (.mov (.t 8)) .no, .mk (some 18) none (.bin .neq (.t 17) (.c (.one (.st (.int .i64 0)))))
  .no])
  (.cond (.t 18)
  (.seq
  (.ops
  [.mk (some 19) none (.mov (.t 8)) .no, .mk (some 4) none (.mov (.c (.one (.st (.int .i64 0)))))
  .no, .mk (some 5) none (.mov (.t 19)) .no])
  .ret)
  .skip))
  (.seq
  (.seq
  (.ops
  [.mk (some 20) none (.load true 3 (.t 6)) .no, .mk (some 21) none (.call 11
  [.c (.one (.st (.int .i64 0)))])
  .no, .mk (some 22) none (.call 13 [.t 21]) .no, .mk (some 23) none (.call 15 [.t 20, .t 22])
  .no])
  (.cond (.t 23)
  (.seq
  (.ops
  [.mk (some 4) none (.mov (.c (.one (.st (.int .i64 1)))))
  .no, .mk (some 5) none (.mov (.c (.one (.st (.int .i64 0)))))
  .no])
  .ret)
  .skip))
  (.seq
  (.seq
  (.ops
  [.mk (some 24) none (.fieldAddr 0 (.t 6)) .no, .mk (some 25) none (.load false 1 (.t 24)) .no, .mk (some 26) none (.bin .neq (.t 25) (.c (.one (.st (.int .i64 2)))))
  .no, .mk (some 27) none (.mov (.t 26)) .no, .mk (some 28) (some (27, false)) (.fieldAddr 2 (.t 6))
  .no, .mk (some 29) (some (27, false)) (.load false 1 (.t 28))
  .no, .mk (some 30) (some (27, false))
  (.indexAddr 3 (.t 29) (.c (.one (.st (.int .i64 0)))))
  .no, .mk (some 31) (some (27, false)) (.fieldAddr 0 (.t 30))
  .no, .mk (some 32) (some (27, false)) (.load false 1 (.t 31))
  .no, .mk (some 33) (some (27, false)) (.bin .neq (.t 32) (.c (.one (.st (.int .i64 2)))))
  .no, .mk (some 34) none
  (.pick (.t 27) (.c (.one (.st (.bool true)))) (.t 33))
  .no])
  (.cond (.t 34)
  (.seq
  (.ops
  [.mk (some 4) none (.mov (.c (.one (.st (.int .i64 0)))))
  .no, .mk (some 5) none (.mov (.c (.one (.st (.int .i64 2)))))
  .no])
  .ret)
  .skip))
  (.seq
  (.ops
  [.mk (some 9) none (.mov (.c (.one (.st (.int .i64 0)))))
  .no])
  (.seq
  (.seq
  (.ops
  [.mk (some 35) none (.fieldAddr 2 (.t 6)) .no, .mk (some 36) none (.load false 1 (.t 35)) .no, .mk (some 37) none
  (.indexAddr 3 (.t 36) (.c (.one (.st (.int .i64 0)))))
  .no, .mk (some 38) none (.fieldAddr 2 (.t 37)) .no, .mk (some 39) none (.load false 1 (.t 38)) .no, .mk (some 40) none
  (.indexAddr 3 (.t 39) (.c (.one (.st (.int .i64 0)))))
  .no, .mk (some 41) none (.load true 3 (.t 40)) .no, .mk none none (.store 3 (.t 2) (.t 41))
  .no])
  (.block 0
  (.loop
  (.seq
  (.seq
  (.ops
  [.mk (some 42) none (.fieldAddr 0 (.t 2)) .no, .mk (some 43) none (.load false 1 (.t 42))
  .no, .mk (some 44) none (.bin .eql (.t 43) (.c (.one (.st (.int .i64 3)))))
  .no, .mk (some 45) none (.mov (.t 44)) .no, .mk (some 46) (some (45, true)) (.fieldAddr 2 (.t 2))
  .no, .mk (some 47) (some (45, true)) (.load false 1 (.t 46))
  .no, .mk (some 48) (some (45, true))
  (.indexAddr 3 (.t 47) (.c (.one (.st (.int .i64 0)))))
  .no, .mk (some 49) (some (45, true)) (.load true 3 (.t 48))
  .no, .mk (some 50) (some (45, true)) (.call 11
  [.c (.one (.st (.int .i64 1)))])
  .no, .mk (some 51) (some (45, true)) (.call 15 [.t 49, .t 50]) .no, .mk (some 52) none
  (.pick (.t 45) (.t 51) (.c (.one (.st (.bool false)))))
  .no])
  (.cond (.t 52) .skip (.exit 0)))
  (.seq
  (.block 1
  (.ops
  [.mk (some 57) none (.mov (.t 9)) .no, .mk (some 58) none (.bin .add (.t 57) (.c (.one (.st (.int .i64 1)))))
  .no, .mk (some 9) none (.mov (.t 58)) .no]))
  (.ops
  [.mk (some 53) none (.fieldAddr 2 (.t 2)) .no, .mk (some 54) none (.load false 1 (.t 53))
  .no, .mk (some 55) none
  (.indexAddr 3 (.t 54) (.c (.one (.st (.int .i64 1)))))
  .no, .mk (some 56) none (.load true 3 (.t 55)) .no, .mk none none (.store 3 (.t 2) (.t 56))
  .no]))))))
  (.seq
  (.seq
  (.ops
  [.mk (some 59) none (.load true 3 (.t 2)) .no, .mk (some 60) none (.call 11
  [.c (.one (.st (.int .i64 0)))])
  .no, .mk (some 61) none (.call 15 [.t 59, .t 60])
  .no, .mk (some 62) none (.un .not (.t 61)) .no])
  (.cond (.t 62)
  (.seq
  (.ops
  [.mk (some 4) none (.mov (.c (.one (.st (.int .i64 0)))))
  .no, .mk (some 5) none (.mov (.c (.one (.st (.int .i64 2)))))
  .no])
  .ret)
  .skip))
  (.seq
  (.ops
  [.mk (some 63) none (.mov (.t 9)) .no, .mk (some 4) none (.mov (.t 63)) .no, .mk (some 5) none (.mov (.c (.one (.st (.int .i64 0)))))
  .no])
  .ret)))))))))
theorem tr_long_Value : trCode Tryd.prog 64 [] (Tryd.f10.body.getD .skip) = some ir_long_Value := by kernel_rfl
theorem ac_long_Value {xs : List AV} {r : AV} (hn : xs.length ≤ 64) (h : ∀ C : Ctx, C.n = 64 → IWP Tryd.prog C [] ir_long_Value (FinQ [.t 4, .t 5] r) (AS.start xs)) : ACalls Tryd.prog 10 xs r :=
  acalls_of Tryd.func10 rfl tr_long_Value rfl hn h
theorem acS_long_Value {xs : List AV} {S S' : AStore} {r : AV} (hn : xs.length ≤ 64) (h : Clean S → ∀ C : Ctx, C.n = 64 → IWP Tryd.prog C [] ir_long_Value (FinS C [.t 4, .t 5] r S') (AS.startS xs S)) : ACallsS Tryd.prog 10 xs S r S' :=
  acallsS_of Tryd.func10 rfl tr_long_Value rfl hn h

end Go.Proofs.YtbgnkcmaohkimaaDoor
