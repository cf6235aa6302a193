/-
  The program's functions in abstract operations: written by a program of mine out of the translation; each is shown to be the translation's.
  Conditions: none.
-/
import Derived.Test.YtkjbaabkaboaoaaDoorBRed3
namespace Go.Proofs.YtkjbaabkaboaoaaDoor
open Go Go.RowKit
set_option maxRecDepth 100000

def ir_long_Number : IR :=
  (.seq
  (.ops
  [.mk (some 2) none
  (.alloc 24
  [.st (.int .i64 0), .st (.int .i64 0),
  .full []])
  .no, .mk (some 3) none (.mov (.c (.one (.st (.int .i64 0)))))
  .no])
  (.seq
  (.seq
  (.ops
  [.mk (some 5) none (.mov (.t 0)) .no, .mk (some 6) none (.bin .lss (.t 5) (.c (.one (.st (.int .i64 0)))))
  .no, .mk (some 7) none (.mov (.t 6)) .no, .mk (some 8) (some (7, false)) (.mov (.t 0)) .no, .mk (some 9) (some (7, false)) (.bin .gtr (.t 8) (.c (.one (.st (.int .i64 40)))))
  .no, .mk (some 10) none
  (.pick (.t 7) (.c (.one (.st (.bool true)))) (.t 9))
  .no])
  (.cond (.t 10)
  (.seq
  (.ops
  [.mk (some 11) none
  (.build
  [.st (.int .i64 0), .st (.int .i64 0),
  .full []]
  [])
  .no, .mk none none (.store 3 (.t 2) (.t 11))
  .no, .mk (some 3) none (.mov (.c (.one (.st (.int .i64 10)))))
  .no])
  .ret)
  .skip))
  (.seq
  (.ops
  [.mk (some 12) none (.call 26
  [.c (.one (.st (.int .i64 0)))])
  .no, .mk (some 4) none
  (.alloc 24
  [.st (.int .i64 0), .st (.int .i64 0),
  .full []])
  .no, .mk none none (.store 3 (.t 4) (.t 12))
  .no])
  (.seq
  (.seq
  (.ops
  [.mk (some 13) none (.mov (.t 0)) .no, .mk (some 14) none (.mov (.c (.one (.st (.int .i64 0)))))
  .no])
  (.block 0
  (.loop
  (.seq
  (.ops
  [.mk (some 15) none (.bin .lss (.t 14) (.t 13))
  .no])
  (.seq (.cond (.t 15) .skip (.exit 0))
  (.seq
  (.block 1
  (.ops
  [.mk (some 16) none (.call 26
  [.c (.one (.st (.int .i64 1)))])
  .no, .mk (some 17) none (.load true 3 (.t 4)) .no, .mk (some 18) none (.call 27 [.t 16, .t 17])
  .no, .mk none none (.store 3 (.t 4) (.t 18))
  .no]))
  (.ops
  [.mk (some 19) none (.bin .add (.t 14) (.c (.one (.st (.int .i64 1)))))
  .no, .mk (some 14) none (.mov (.t 19)) .no])))))))
  (.seq
  (.ops
  [.mk (some 20) none (.load true 3 (.t 4)) .no, .mk (some 21) none (.call 28 [.t 20]) .no, .mk (some 22) none (.call 28 [.t 21]) .no, .mk none none (.store 3 (.t 2) (.t 22))
  .no, .mk (some 3) none (.mov (.c (.one (.st (.int .i64 0)))))
  .no])
  .ret)))))
theorem tr_long_Number : trCode Tryd.prog 23 [] (Tryd.f12.body.getD .skip) = some ir_long_Number := by kernel_rfl
theorem ac_long_Number {xs : List AV} {r : AV} (hn : xs.length ≤ 23) (h : ∀ C : Ctx, C.n = 23 → IWP Tryd.prog C [] ir_long_Number (FinQ [.cell 2 true 3, .t 3] r) (AS.start xs)) : ACalls Tryd.prog 12 xs r :=
  acalls_of Tryd.func12 rfl tr_long_Number rfl hn h
theorem acS_long_Number {xs : List AV} {S S' : AStore} {r : AV} (hn : xs.length ≤ 23) (h : Clean S → ∀ C : Ctx, C.n = 23 → IWP Tryd.prog C [] ir_long_Number (FinS C [.cell 2 true 3, .t 3] r S') (AS.startS xs S)) : ACallsS Tryd.prog 12 xs S r S' :=
  acallsS_of Tryd.func12 rfl tr_long_Number rfl hn h

def ir_long_Value : IR :=
  (.seq
  (.ops
  [.mk (some 2) none (.box 24 (.t 0)) .no, .mk (some 4) none (.mov (.c (.one (.st (.int .i64 0)))))
  .no, .mk (some 5) none (.mov (.c (.one (.st (.int .i64 0)))))
  .no])
  (.seq
  (.ops
  [.mk (some 11) none (.load true 3 (.t 2)) .no, .mk (some 12) none (.mov (.t 1)) .no, .mk (some 13) none (.call 34
  [.t 11, .c (.one (.st (.int .i64 0))), .t 12])
  .no, .mk (some 10) none (.mov (.t 13)) .no, .mk (some 14) none (.extract 0 (.t 10)) .no, .mk (some 15) none (.extract 1 (.t 10)) .no, .mk (some 16) none (.extract 2 (.t 10)) .no, .mk (some 6) none
  (.alloc 24
  [.st (.int .i64 0), .st (.int .i64 0),
  .full []])
  .no, .mk none none (.store 3 (.t 6) (.t 14))
  .no, .mk (some 7) none (.mov (.t 15)) .no, .mk (some 8) none (.mov (.t 16)) .no])
  (.seq
  (.seq
  (.ops
  [.mk (some 17) none (.mov (.t 8)) .no, .mk (some 18) none (.bin .neq (.t 17) (.c (.one (.st (.int .i64 0)))))
  .no])
  (.cond (.t 18)
  (.seq
  (.ops
  [.mk (some 19) none (.mov (.t 8)) .no, .mk (some 4) none (.mov (.c (.one (.st (.int .i64 0)))))
  .no, .mk (some 5) none (.mov (.t 19)) .no])
  .ret)
  .skip))
  (.seq
  (.seq
  (.ops
  [.mk (some 20) none (.load true 3 (.t 6)) .no, .mk (some 21) none (.call 26
  [.c (.one (.st (.int .i64 0)))])
  .no, .mk (some 22) none (.call 28 [.t 21]) .no, .mk (some 23) none (.call 35 [.t 20, .t 22])
  .no])
  (.cond (.t 23)
  (.seq
  (.ops
  [.mk (some 4) none (.mov (.c (.one (.st (.int .i64 1)))))
  .no, .mk (some 5) none (.mov (.c (.one (.st (.int .i64 0)))))
  .no])
  .ret)
  .skip))
  (.seq
  (.seq
  (.ops
  [.mk (some 24) none (.fieldAddr 0 (.t 6)) .no, .mk (some 25) none (.load false 1 (.t 24)) .no, .mk (some 26) none (.bin .neq (.t 25) (.c (.one (.st (.int .i64 2)))))
  .no, .mk (some 27) none (.mov (.t 26)) .no, .mk (some 28) (some (27, false)) (.fieldAddr 2 (.t 6))
  .no, .mk (some 29) (some (27, false)) (.load false 1 (.t 28))
  .no, .mk (some 30) (some (27, false))
  (.indexAddr 3 (.t 29) (.c (.one (.st (.int .i64 0)))))
  .no, .mk (some 31) (some (27, false)) (.fieldAddr 0 (.t 30))
  .no, .mk (some 32) (some (27, false)) (.load false 1 (.t 31))
  .no, .mk (some 33) (some (27, false)) (.bin .neq (.t 32) (.c (.one (.st (.int .i64 2)))))
  .no, .mk (some 34) none
  (.pick (.t 27) (.c (.one (.st (.bool true)))) (.t 33))
  .no])
  (.cond (.t 34)
  (.seq
  (.ops
  [.mk (some 4) none (.mov (.c (.one (.st (.int .i64 0)))))
  .no, .mk (some 5) none (.mov (.c (.one (.st (.int .i64 2)))))
  .no])
  .ret)
  .skip))
  (.seq
  (.ops
  [.mk (some 9) none (.mov (.c (.one (.st (.int .i64 0)))))
  .no])
  (.seq
  (.seq
  (.ops
  [.mk (some 35) none (.fieldAddr 2 (.t 6)) .no, .mk (some 36) none (.load false 1 (.t 35)) .no, .mk (some 37) none
  (.indexAddr 3 (.t 36) (.c (.one (.st (.int .i64 0)))))
  .no, .mk (some 38) none (.fieldAddr 2 (.t 37)) .no, .mk (some 39) none (.load false 1 (.t 38)) .no, .mk (some 40) none
  (.indexAddr 3 (.t 39) (.c (.one (.st (.int .i64 0)))))
  .no, .mk (some 41) none (.load true 3 (.t 40)) .no, .mk none none (.store 3 (.t 2) (.t 41))
  .no])
  (.block 0
  (.loop
  (.seq
  (.seq
  (.ops
  [.mk (some 42) none (.fieldAddr 0 (.t 2)) .no, .mk (some 43) none (.load false 1 (.t 42))
  .no, .mk (some 44) none (.bin .eql (.t 43) (.c (.one (.st (.int .i64 3)))))
  .no, .mk (some 45) none (.mov (.t 44)) .no, .mk (some 46) (some (45, true)) (.fieldAddr 2 (.t 2))
  .no, .mk (some 47) (some (45, true)) (.load false 1 (.t 46))
  .no, .mk (some 48) (some (45, true))
  (.indexAddr 3 (.t 47) (.c (.one (.st (.int .i64 0)))))
  .no, .mk (some 49) (some (45, true)) (.load true 3 (.t 48))
  .no, .mk (some 50) (some (45, true)) (.call 26
  [.c (.one (.st (.int .i64 1)))])
  .no, .mk (some 51) (some (45, true)) (.call 35 [.t 49, .t 50]) .no, .mk (some 52) none
  (.pick (.t 45) (.t 51) (.c (.one (.st (.bool false)))))
  .no])
  (.cond (.t 52) .skip (.exit 0)))
  (.seq
  (.block 1
  (.ops
  [.mk (some 57) none (.mov (.t 9)) .no, .mk (some 58) none (.bin .add (.t 57) (.c (.one (.st (.int .i64 1)))))
  .no, .mk (some 9) none (.mov (.t 58)) .no]))
  (.ops
  [.mk (some 53) none (.fieldAddr 2 (.t 2)) .no, .mk (some 54) none (.load false 1 (.t 53))
  .no, .mk (some 55) none
  (.indexAddr 3 (.t 54) (.c (.one (.st (.int .i64 1)))))
  .no, .mk (some 56) none (.load true 3 (.t 55)) .no, .mk none none (.store 3 (.t 2) (.t 56))
  .no]))))))
  (.seq
  (.seq
  (.ops
  [.mk (some 59) none (.load true 3 (.t 2)) .no, .mk (some 60) none (.call 26
  [.c (.one (.st (.int .i64 0)))])
  .no, .mk (some 61) none (.call 35 [.t 59, .t 60])
  .no, .mk (some 62) none (.un .not (.t 61)) .no])
  (.cond (.t 62)
  (.seq
  (.ops
  [.mk (some 4) none (.mov (.c (.one (.st (.int .i64 0)))))
  .no, .mk (some 5) none (.mov (.c (.one (.st (.int .i64 2)))))
  .no])
  .ret)
  .skip))
  (.seq
  (.ops
  [.mk (some 63) none (.mov (.t 9)) .no, .mk (some 4) none (.mov (.t 63)) .no, .mk (some 5) none (.mov (.c (.one (.st (.int .i64 0)))))
  .no])
  .ret)))))))))
theorem tr_long_Value : trCode Tryd.prog 64 [] (Tryd.f16.body.getD .skip) = some ir_long_Value := by kernel_rfl
theorem ac_long_Value {xs : List AV} {r : AV} (hn : xs.length ≤ 64) (h : ∀ C : Ctx, C.n = 64 → IWP Tryd.prog C [] ir_long_Value (FinQ [.t 4, .t 5] r) (AS.start xs)) : ACalls Tryd.prog 16 xs r :=
  acalls_of Tryd.func16 rfl tr_long_Value rfl hn h
theorem acS_long_Value {xs : List AV} {S S' : AStore} {r : AV} (hn : xs.length ≤ 64) (h : Clean S → ∀ C : Ctx, C.n = 64 → IWP Tryd.prog C [] ir_long_Value (FinS C [.t 4, .t 5] r S') (AS.startS xs S)) : ACallsS Tryd.prog 16 xs S r S' :=
  acallsS_of Tryd.func16 rfl tr_long_Value rfl hn h

def ir_R_Numeral : IR :=
  (.seq
  (.ops
  [.mk (some 2) none
  (.alloc 24
  [.st (.int .i64 0), .st (.int .i64 0),
  .full []])
  .no])
  (.seq
  (.ops
  [.mk (some 5) none (.call 29 [.c (.one (.st (.int .i64 0)))])
  .no, .mk (some 3) none
  (.alloc 24
  [.st (.int .i64 0), .st (.int .i64 0),
  .full []])
  .no, .mk none none (.store 3 (.t 3) (.t 5))
  .no])
  (.seq
  (.seq
  (.ops
  [.mk (some 4) none (.mov (.c (.one (.st (.int .i64 0)))))
  .no])
  (.block 0
  (.loop
  (.seq
  (.seq
  (.ops
  [.mk (some 6) none (.mov (.t 4)) .no, .mk (some 7) none (.mov (.t 0)) .no, .mk (some 8) none (.bin .lss (.t 6) (.t 7))
  .no])
  (.cond (.t 8) .skip (.exit 0)))
  (.seq
  (.block 1
  (.ops
  [.mk (some 11) none (.call 29
  [.c (.one (.st (.int .i64 1)))])
  .no, .mk (some 12) none (.load true 3 (.t 3)) .no, .mk (some 13) none (.call 30 [.t 11, .t 12])
  .no, .mk none none (.store 3 (.t 3) (.t 13))
  .no]))
  (.ops
  [.mk (some 9) none (.mov (.t 4)) .no, .mk (some 10) none (.bin .add (.t 9) (.c (.one (.st (.int .i64 1)))))
  .no, .mk (some 4) none (.mov (.t 10)) .no]))))))
  (.seq
  (.ops
  [.mk (some 14) none (.load true 3 (.t 3)) .no, .mk (some 15) none (.call 31 [.t 14]) .no, .mk (some 16) none (.call 31 [.t 15]) .no, .mk none none (.store 3 (.t 2) (.t 16))
  .no])
  .ret))))
theorem tr_R_Numeral : trCode Tryd.prog 17 [] (Tryd.f13.body.getD .skip) = some ir_R_Numeral := by kernel_rfl
theorem ac_R_Numeral {xs : List AV} {r : AV} (hn : xs.length ≤ 17) (h : ∀ C : Ctx, C.n = 17 → IWP Tryd.prog C [] ir_R_Numeral (FinQ [.cell 2 true 3] r) (AS.start xs)) : ACalls Tryd.prog 13 xs r :=
  acalls_of Tryd.func13 rfl tr_R_Numeral rfl hn h
theorem acS_R_Numeral {xs : List AV} {S S' : AStore} {r : AV} (hn : xs.length ≤ 17) (h : Clean S → ∀ C : Ctx, C.n = 17 → IWP Tryd.prog C [] ir_R_Numeral (FinS C [.cell 2 true 3] r S') (AS.startS xs S)) : ACallsS Tryd.prog 13 xs S r S' :=
  acallsS_of Tryd.func13 rfl tr_R_Numeral rfl hn h

def ir_R_ValueOf : IR :=
  (.seq
  (.ops
  [.mk (some 1) none (.box 24 (.t 0)) .no, .mk (some 2) none (.mov (.c (.one (.st (.int .i64 0)))))
  .no])
  (.seq
  (.seq
  (.ops
  [.mk (some 5) none (.load true 3 (.t 1)) .no, .mk (some 6) none (.call 29
  [.c (.one (.st (.int .i64 0)))])
  .no, .mk (some 7) none (.call 31 [.t 6]) .no, .mk (some 8) none (.call 25 [.t 5, .t 7])
  .no])
  (.cond (.t 8)
  (.seq
  (.ops
  [.mk (some 2) none (.mov (.c (.one (.st (.int .i64 1)))))
  .no])
  .ret)
  .skip))
  (.seq
  (.seq
  (.ops
  [.mk (some 9) none (.fieldAddr 0 (.t 1)) .no, .mk (some 10) none (.load false 1 (.t 9)) .no, .mk (some 11) none (.bin .neq (.t 10) (.c (.one (.st (.int .i64 2)))))
  .no, .mk (some 12) none (.mov (.t 11)) .no, .mk (some 13) (some (12, false)) (.fieldAddr 2 (.t 1)) .no, .mk (some 14) (some (12, false)) (.load false 1 (.t 13))
  .no, .mk (some 15) (some (12, false))
  (.indexAddr 3 (.t 14) (.c (.one (.st (.int .i64 0)))))
  .no, .mk (some 16) (some (12, false)) (.fieldAddr 0 (.t 15)) .no, .mk (some 17) (some (12, false)) (.load false 1 (.t 16))
  .no, .mk (some 18) (some (12, false)) (.bin .neq (.t 17) (.c (.one (.st (.int .i64 2)))))
  .no, .mk (some 19) none
  (.pick (.t 12) (.c (.one (.st (.bool true)))) (.t 18))
  .no])
  (.cond (.t 19)
  (.seq
  (.ops
  [.mk (some 2) none (.mov (.c (.one (.st (.int .i64 (-1))))))
  .no])
  .ret)
  .skip))
  (.seq
  (.ops
  [.mk (some 3) none (.mov (.c (.one (.st (.int .i64 0)))))
  .no])
  (.seq
  (.ops
  [.mk (some 20) none (.fieldAddr 2 (.t 1)) .no, .mk (some 21) none (.load false 1 (.t 20)) .no, .mk (some 22) none
  (.indexAddr 3 (.t 21) (.c (.one (.st (.int .i64 0)))))
  .no, .mk (some 23) none (.fieldAddr 2 (.t 22)) .no, .mk (some 24) none (.load false 1 (.t 23)) .no, .mk (some 25) none
  (.indexAddr 3 (.t 24) (.c (.one (.st (.int .i64 0)))))
  .no, .mk (some 26) none (.load true 3 (.t 25)) .no, .mk (some 4) none
  (.alloc 24
  [.st (.int .i64 0), .st (.int .i64 0),
  .full []])
  .no, .mk none none (.store 3 (.t 4) (.t 26))
  .no])
  (.seq
  (.block 0
  (.loop
  (.seq
  (.seq
  (.ops
  [.mk (some 27) none (.fieldAddr 0 (.t 4)) .no, .mk (some 28) none (.load false 1 (.t 27)) .no, .mk (some 29) none (.bin .eql (.t 28) (.c (.one (.st (.int .i64 3)))))
  .no, .mk (some 30) none (.mov (.t 29)) .no, .mk (some 31) (some (30, true)) (.fieldAddr 2 (.t 4))
  .no, .mk (some 32) (some (30, true)) (.load false 1 (.t 31))
  .no, .mk (some 33) (some (30, true))
  (.indexAddr 3 (.t 32) (.c (.one (.st (.int .i64 0)))))
  .no, .mk (some 34) (some (30, true)) (.load true 3 (.t 33))
  .no, .mk (some 35) (some (30, true)) (.call 29
  [.c (.one (.st (.int .i64 1)))])
  .no, .mk (some 36) (some (30, true)) (.call 25 [.t 34, .t 35]) .no, .mk (some 37) none
  (.pick (.t 30) (.t 36) (.c (.one (.st (.bool false)))))
  .no])
  (.cond (.t 37) .skip (.exit 0)))
  (.block 1
  (.seq
  (.ops
  [.mk (some 38) none (.mov (.t 3)) .no, .mk (some 39) none (.bin .add (.t 38) (.c (.one (.st (.int .i64 1)))))
  .no, .mk (some 3) none (.mov (.t 39)) .no])
  (.ops
  [.mk (some 40) none (.fieldAddr 2 (.t 4)) .no, .mk (some 41) none (.load false 1 (.t 40)) .no, .mk (some 42) none
  (.indexAddr 3 (.t 41) (.c (.one (.st (.int .i64 1)))))
  .no, .mk (some 43) none (.load true 3 (.t 42)) .no, .mk none none (.store 3 (.t 4) (.t 43))
  .no]))))))
  (.seq
  (.seq
  (.ops
  [.mk (some 44) none (.load true 3 (.t 4)) .no, .mk (some 45) none (.call 29
  [.c (.one (.st (.int .i64 0)))])
  .no, .mk (some 46) none (.call 25 [.t 44, .t 45])
  .no, .mk (some 47) none (.un .not (.t 46)) .no])
  (.cond (.t 47)
  (.seq
  (.ops
  [.mk (some 2) none (.mov (.c (.one (.st (.int .i64 (-1))))))
  .no])
  .ret)
  .skip))
  (.seq
  (.ops
  [.mk (some 48) none (.mov (.t 3)) .no, .mk (some 2) none (.mov (.t 48)) .no])
  .ret))))))))
theorem tr_R_ValueOf : trCode Tryd.prog 49 [] (Tryd.f15.body.getD .skip) = some ir_R_ValueOf := by kernel_rfl
theorem ac_R_ValueOf {xs : List AV} {r : AV} (hn : xs.length ≤ 49) (h : ∀ C : Ctx, C.n = 49 → IWP Tryd.prog C [] ir_R_ValueOf (FinQ [.t 2] r) (AS.start xs)) : ACalls Tryd.prog 15 xs r :=
  acalls_of Tryd.func15 rfl tr_R_ValueOf rfl hn h
theorem acS_R_ValueOf {xs : List AV} {S S' : AStore} {r : AV} (hn : xs.length ≤ 49) (h : Clean S → ∀ C : Ctx, C.n = 49 → IWP Tryd.prog C [] ir_R_ValueOf (FinS C [.t 2] r S') (AS.startS xs S)) : ACallsS Tryd.prog 15 xs S r S' :=
  acallsS_of Tryd.func15 rfl tr_R_ValueOf rfl hn h

def ir_L_LongNumbers : IR :=
  (.seq
  (.ops
  [.mk (some 4) none (.box 24 (.t 1)) .no, .mk (some 6) none (.mov (.c (.one (.st (.bool false)))))
  .no])
  (.seq
  (.seq
  (.ops
  [.mk (some 16) none (.load true 3 (.t 4)) .no, .mk (some 17) none (.call 6 [.t 16]) .no, .mk (some 18) none (.mov (.t 17)) .no, .mk (some 19) (some (18, false)) (.mov (.t 2)) .no, .mk (some 20) (some (18, false)) (.bin .gtr (.t 19) (.c (.one (.st (.int .i64 30)))))
  .no, .mk (some 21) (some (18, false)) (.mov (.t 20)) .no, .mk (some 22) (some (21, true)) (.mov (.t 2)) .no, .mk (some 23) (some (21, true)) (.bin .leq (.t 22) (.c (.one (.st (.int .i64 400)))))
  .no, .mk (some 24) (some (18, false))
  (.pick (.t 21) (.t 23) (.c (.one (.st (.bool false)))))
  .no, .mk (some 25) none
  (.pick (.t 18) (.c (.one (.st (.bool true)))) (.t 24))
  .no])
  (.cond (.t 25)
  (.seq
  (.ops
  [.mk (some 6) none (.mov (.c (.one (.st (.bool true)))))
  .no])
  .ret)
  .skip))
  (.seq
  (.ops
  [.mk (some 27) none (.mov (.t 0)) .no, .mk (some 28) none (.call 12 [.t 27]) .no, .mk (some 26) none (.mov (.t 28)) .no, .mk (some 29) none (.extract 0 (.t 26)) .no, .mk (some 30) none (.extract 1 (.t 26)) .no, .mk (some 7) none
  (.alloc 24
  [.st (.int .i64 0), .st (.int .i64 0),
  .full []])
  .no, .mk none none (.store 3 (.t 7) (.t 29))
  .no, .mk (some 8) none (.mov (.t 30)) .no])
  (.seq
  (.ops
  [.mk (some 9) none (.mov (.c (.one (.st (.int .i64 0)))))
  .no])
  (.seq
  (.ops
  [.mk (some 31) none
  (.build
  [.st (.int .i64 0), .st (.int .i64 0),
  .full []]
  [])
  .no, .mk (some 10) none
  (.alloc 24
  [.st (.int .i64 0), .st (.int .i64 0),
  .full []])
  .no, .mk none none (.store 3 (.t 10) (.t 31))
  .no])
  (.seq
  (.seq
  (.ops
  [.mk (some 32) none (.mov (.t 0)) .no, .mk (some 33) none (.bin .lss (.t 32) (.c (.one (.st (.int .i64 0)))))
  .no, .mk (some 34) none (.mov (.t 33)) .no, .mk (some 35) (some (34, false)) (.mov (.t 0)) .no, .mk (some 36) (some (34, false)) (.bin .gtr (.t 35) (.c (.one (.st (.int .i64 40)))))
  .no, .mk (some 37) none
  (.pick (.t 34) (.c (.one (.st (.bool true)))) (.t 36))
  .no])
  (.cond (.t 37)
  (.ops
  [.mk (some 9) none (.mov (.c (.one (.st (.int .i64 10)))))
  .no])
  (.ops
  [.mk (some 38) none (.mov (.t 0)) .no, .mk (some 39) none (.call 13 [.t 38]) .no, .mk none none (.store 3 (.t 10) (.t 39))
  .no])))
  (.seq
  (.seq
  (.ops
  [.mk (some 40) none (.load true 3 (.t 7)) .no, .mk (some 41) none (.mov (.t 8)) .no, .mk (some 42) none (.load true 3 (.t 10)) .no, .mk (some 43) none (.mov (.t 9)) .no, .mk (some 44) none (.call 11
  [.t 40, .t 41, .t 42, .t 43])
  .no, .mk (some 45) none (.un .not (.t 44)) .no])
  (.cond (.t 45)
  (.seq
  (.ops
  [.mk (some 6) none (.mov (.c (.one (.st (.bool false)))))
  .no])
  .ret)
  .skip))
  (.seq
  (.ops
  [.mk (some 46) none (.load true 3 (.t 4)) .no, .mk (some 47) none (.call 7
  [.t 46, .c (.one (.st (.int .i64 0))), .c (.one (.st (.int .i64 0)))])
  .no, .mk (some 9) none (.mov (.t 47)) .no])
  (.seq
  (.seq
  (.ops
  [.mk (some 48) none (.mov (.t 9)) .no, .mk (some 49) none (.bin .eql (.t 48) (.c (.one (.st (.int .i64 0)))))
  .no, .mk (some 50) none (.mov (.t 49)) .no, .mk (some 51) (some (50, true)) (.load true 3 (.t 4))
  .no, .mk (some 52) (some (50, true)) (.call 9
  [.t 51, .c (.one (.st (.int .i64 60)))])
  .no, .mk (some 53) (some (50, true)) (.bin .gtr (.t 52) (.c (.one (.st (.int .i64 60)))))
  .no, .mk (some 54) none
  (.pick (.t 50) (.t 53) (.c (.one (.st (.bool false)))))
  .no])
  (.cond (.t 54)
  (.seq
  (.ops
  [.mk (some 6) none (.mov (.c (.one (.st (.bool true)))))
  .no])
  .ret)
  .skip))
  (.seq
  (.seq
  (.ops
  [.mk (some 55) none (.mov (.t 9)) .no, .mk (some 56) none (.bin .eql (.t 55) (.c (.one (.st (.int .i64 0)))))
  .no, .mk (some 57) none (.mov (.t 56)) .no, .mk (some 58) (some (57, true)) (.mov (.t 2))
  .no, .mk (some 59) (some (57, true)) (.bin .lss (.t 58) (.c (.one (.st (.int .i64 0)))))
  .no, .mk (some 60) (some (57, true)) (.mov (.t 59))
  .no, .mk (some 61) (some (60, false)) (.mov (.t 2))
  .no, .mk (some 62) (some (60, false)) (.bin .gtr (.t 61) (.c (.one (.st (.int .i64 400)))))
  .no, .mk (some 63) (some (57, true))
  (.pick (.t 60) (.c (.one (.st (.bool true)))) (.t 62))
  .no, .mk (some 64) none
  (.pick (.t 57) (.t 63) (.c (.one (.st (.bool false)))))
  .no])
  (.cond (.t 64)
  (.ops
  [.mk (some 9) none (.mov (.c (.one (.st (.int .i64 3)))))
  .no])
  .skip))
  (.seq
  (.ops
  [.mk (some 11) none (.mov (.c (.one (.st (.int .i64 0)))))
  .no])
  (.seq
  (.seq
  (.ops
  [.mk (some 65) none (.mov (.t 9)) .no, .mk (some 66) none (.bin .eql (.t 65) (.c (.one (.st (.int .i64 0)))))
  .no])
  (.cond (.t 66)
  (.seq
  (.ops
  [.mk (some 68) none (.load true 3 (.t 4))
  .no, .mk (some 69) none (.mov (.t 2)) .no, .mk (some 70) none (.call 14
  [.t 68, .t 69, .c (.one (.st (.bool false)))])
  .no, .mk (some 67) none (.mov (.t 70)) .no, .mk (some 71) none (.extract 0 (.t 67)) .no, .mk (some 72) none (.extract 1 (.t 67)) .no, .mk (some 73) none (.extract 2 (.t 67)) .no, .mk (some 12) none
  (.alloc 24
  [.st (.int .i64 0), .st (.int .i64 0),
  .full []])
  .no, .mk none none (.store 3 (.t 12) (.t 71))
  .no, .mk (some 13) none (.mov (.t 72)) .no, .mk (some 14) none (.mov (.t 73)) .no])
  (.seq
  (.ops
  [.mk (some 74) none (.mov (.t 14)) .no, .mk (some 9) none (.mov (.t 74)) .no])
  (.seq
  (.ops
  [.mk (some 75) none (.mov (.t 14)) .no, .mk (some 76) none (.bin .eql (.t 75) (.c (.one (.st (.int .i64 0)))))
  .no])
  (.cond (.t 76)
  (.seq
  (.ops
  [.mk (some 77) none (.load true 3 (.t 12))
  .no, .mk (some 78) none (.call 15 [.t 77])
  .no, .mk (some 11) none (.mov (.t 78))
  .no])
  (.seq
  (.ops
  [.mk (some 79) none (.mov (.t 11))
  .no, .mk (some 80) none (.bin .lss (.t 79) (.c (.one (.st (.int .i64 0)))))
  .no])
  (.cond (.t 80)
  (.seq
  (.ops
  [.mk (some 11) none (.mov (.c (.one (.st (.int .i64 0)))))
  .no])
  (.ops
  [.mk (some 9) none (.mov (.c (.one (.st (.int .i64 2)))))
  .no]))
  .skip)))
  .skip))))
  .skip))
  (.seq
  (.ops
  [.mk (some 82) none (.load true 3 (.t 4)) .no, .mk (some 83) none (.mov (.t 2)) .no, .mk (some 84) none (.call 16 [.t 82, .t 83])
  .no, .mk (some 81) none (.mov (.t 84)) .no, .mk (some 85) none (.extract 0 (.t 81)) .no, .mk (some 86) none (.extract 1 (.t 81)) .no, .mk (some 15) none (.mov (.t 85)) .no, .mk (some 8) none (.mov (.t 86)) .no])
  (.seq
  (.ops
  [.mk (some 87) none (.mov (.t 15)) .no, .mk (some 88) none (.mov (.t 11)) .no, .mk (some 89) none (.bin .eql (.t 87) (.t 88)) .no, .mk (some 90) none (.mov (.t 89)) .no, .mk (some 91) (some (90, true)) (.mov (.t 8))
  .no, .mk (some 92) (some (90, true)) (.mov (.t 9))
  .no, .mk (some 93) (some (90, true)) (.bin .eql (.t 91) (.t 92)) .no, .mk (some 94) none
  (.pick (.t 90) (.t 93) (.c (.one (.st (.bool false)))))
  .no, .mk (some 6) none (.mov (.t 94)) .no])
  .ret))))))))))))))
theorem tr_L_LongNumbers : trCode Tryd.prog 95 [] (Tryd.f4.body.getD .skip) = some ir_L_LongNumbers := by kernel_rfl
theorem ac_L_LongNumbers {xs : List AV} {r : AV} (hn : xs.length ≤ 95) (h : ∀ C : Ctx, C.n = 95 → IWP Tryd.prog C [] ir_L_LongNumbers (FinQ [.t 6] r) (AS.start xs)) : ACalls Tryd.prog 4 xs r :=
  acalls_of Tryd.func4 rfl tr_L_LongNumbers rfl hn h
theorem acS_L_LongNumbers {xs : List AV} {S S' : AStore} {r : AV} (hn : xs.length ≤ 95) (h : Clean S → ∀ C : Ctx, C.n = 95 → IWP Tryd.prog C [] ir_L_LongNumbers (FinS C [.t 6] r S') (AS.startS xs S)) : ACallsS Tryd.prog 4 xs S r S' :=
  acallsS_of Tryd.func4 rfl tr_L_LongNumbers rfl hn h

end Go.Proofs.YtkjbaabkaboaoaaDoor
