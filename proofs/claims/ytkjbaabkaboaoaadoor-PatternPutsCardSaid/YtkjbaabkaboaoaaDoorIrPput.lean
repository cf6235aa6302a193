/-
  The program's functions in abstract operations: written by a program of mine out of the translation; each is shown to be the translation's.
  Conditions: none.
-/
import Derived.Test.YtkjbaabkaboaoaaDoorBRed3
namespace Go.Proofs.YtkjbaabkaboaoaaDoor
open Go Go.RowKit
set_option maxRecDepth 100000

def ir_pattern_filled : IR :=
  (.seq
  (.ops
  [.mk (some 2) none (.box 24 (.t 0)) .no, .mk (some 4) none
  (.alloc 24
  [.st (.int .i64 0), .st (.int .i64 0),
  .full []])
  .no])
  (.seq
  (.seq
  (.ops
  [.mk (some 8) none (.fieldAddr 0 (.t 2)) .no, .mk (some 9) none (.load false 1 (.t 8)) .no, .mk (some 10) none (.bin .eql (.t 9) (.c (.one (.st (.int .i64 5)))))
  .no])
  (.cond (.t 10)
  (.seq
  (.ops
  [.mk (some 11) none (.mov (.t 1)) .no, .mk (some 12) none (.fieldAddr 1 (.t 2)) .no, .mk (some 13) none (.load false 1 (.t 12)) .no, .mk (some 14) none (.indexAddr 3 (.t 11) (.t 13))
  .no, .mk (some 15) none (.load true 3 (.t 14)) .no, .mk none none (.store 3 (.t 4) (.t 15))
  .no])
  .ret)
  .skip))
  (.seq
  (.ops
  [.mk (some 16) none (.fieldAddr 0 (.t 2)) .no, .mk (some 17) none (.load false 1 (.t 16)) .no, .mk (some 18) none (.fieldAddr 1 (.t 2)) .no, .mk (some 19) none (.load false 1 (.t 18)) .no, .mk (some 20) none
  (.build
  [.st (.int .i64 0), .st (.int .i64 0),
  .full []]
  [(0, 1, .t 17), (1, 1, .t 19)])
  .no, .mk (some 5) none
  (.alloc 24
  [.st (.int .i64 0), .st (.int .i64 0),
  .full []])
  .no, .mk none none (.store 3 (.t 5) (.t 20))
  .no])
  (.seq
  (.seq
  (.ops
  [.mk (some 21) none (.fieldAddr 2 (.t 2)) .no, .mk (some 22) none (.load false 1 (.t 21)) .no, .mk (some 23) none (.len false (.t 22)) .no, .mk (some 24) none (.mov (.c (.one (.st (.int .i64 0)))))
  .no])
  (.block 0
  (.loop
  (.seq
  (.ops
  [.mk (some 25) none (.bin .lss (.t 24) (.t 23))
  .no])
  (.seq (.cond (.t 25) .skip (.exit 0))
  (.seq
  (.block 1
  (.seq
  (.ops
  [.mk (some 26) none (.indexAddr 3 (.t 22) (.t 24))
  .no, .mk (some 27) none (.load true 3 (.t 26)) .no, .mk (some 7) none
  (.alloc 24
  [.st (.int .i64 0), .st (.int .i64 0),
  .full []])
  .no, .mk none none (.store 3 (.t 7) (.t 27))
  .no])
  (.ops
  [.mk (some 28) none (.fieldAddr 2 (.t 5)) .no, .mk (some 29) none (.load false 1 (.t 28))
  .no, .mk (some 30) none (.load true 3 (.t 7)) .no, .mk (some 31) none (.mov (.t 1)) .no, .mk (some 32) none (.call 39 [.t 30, .t 31])
  .no, .mk (some 33) none (.buildSlice false 24 3 [.t 32])
  .no, .mk (some 34) none
  (.append false 24 3 40 (.t 29) (.t 33)) .no, .mk (some 35) none (.fieldAddr 2 (.t 5)) .no, .mk none none (.store 1 (.t 35) (.t 34))
  .no])))
  (.ops
  [.mk (some 36) none (.bin .add (.t 24) (.c (.one (.st (.int .i64 1)))))
  .no, .mk (some 24) none (.mov (.t 36)) .no])))))))
  (.seq
  (.ops
  [.mk (some 37) none (.load true 3 (.t 5)) .no, .mk none none (.store 3 (.t 4) (.t 37))
  .no])
  .ret)))))
theorem tr_pattern_filled : trCode Tryd.prog 38 [] (Tryd.f39.body.getD .skip) = some ir_pattern_filled := by kernel_rfl
theorem ac_pattern_filled {xs : List AV} {r : AV} (hn : xs.length ≤ 38) (h : ∀ C : Ctx, C.n = 38 → IWP Tryd.prog C [] ir_pattern_filled (FinQ [.cell 4 true 3] r) (AS.start xs)) : ACalls Tryd.prog 39 xs r :=
  acalls_of Tryd.func39 rfl tr_pattern_filled rfl hn h
theorem acS_pattern_filled {xs : List AV} {S S' : AStore} {r : AV} (hn : xs.length ≤ 38) (h : Clean S → ∀ C : Ctx, C.n = 38 → IWP Tryd.prog C [] ir_pattern_filled (FinS C [.cell 4 true 3] r S') (AS.startS xs S)) : ACallsS Tryd.prog 39 xs S r S' :=
  acallsS_of Tryd.func39 rfl tr_pattern_filled rfl hn h

def ir_pattern_Put : IR :=
  (.seq
  (.ops
  [.mk (some 3) none (.box 24 (.t 0)) .no, .mk (some 6) none
  (.alloc 24
  [.st (.int .i64 0), .st (.int .i64 0),
  .full []])
  .no, .mk (some 7) none (.mov (.c (.one (.st (.int .i64 0)))))
  .no])
  (.seq
  (.seq
  (.ops
  [.mk (some 15) none (.mov (.t 1)) .no, .mk (some 16) none (.len false (.t 15)) .no, .mk (some 17) none (.bin .gtr (.t 16) (.c (.one (.st (.int .i64 4)))))
  .no])
  (.cond (.t 17)
  (.seq
  (.ops
  [.mk (some 18) none
  (.build
  [.st (.int .i64 0), .st (.int .i64 0),
  .full []]
  [])
  .no, .mk none none (.store 3 (.t 6) (.t 18))
  .no, .mk (some 7) none (.mov (.c (.one (.st (.int .i64 3)))))
  .no])
  .ret)
  .skip))
  (.seq
  (.seq
  (.ops
  [.mk (some 19) none (.mov (.t 1)) .no, .mk (some 20) none (.len false (.t 19)) .no, .mk (some 21) none (.mov (.c (.one (.st (.int .i64 0)))))
  .no])
  (.block 0
  (.loop
  (.seq
  (.ops
  [.mk (some 22) none (.bin .lss (.t 21) (.t 20))
  .no])
  (.seq (.cond (.t 22) .skip (.exit 0))
  (.seq
  (.block 1
  (.seq
  (.ops
  [.mk (some 23) none (.indexAddr 3 (.t 19) (.t 21))
  .no, .mk (some 24) none (.load true 3 (.t 23)) .no, .mk (some 9) none
  (.alloc 24
  [.st (.int .i64 0), .st (.int .i64 0),
  .full []])
  .no, .mk none none (.store 3 (.t 9) (.t 24))
  .no])
  (.seq
  (.ops
  [.mk (some 25) none (.load true 3 (.t 9)) .no, .mk (some 26) none (.call 38
  [.t 25, .c (.one (.st (.int .i64 0))), .c (.one (.st (.int .i64 12)))])
  .no, .mk (some 10) none (.mov (.t 26)) .no])
  (.seq
  (.ops
  [.mk (some 27) none (.mov (.t 10)) .no, .mk (some 28) none (.bin .neq (.t 27) (.c (.one (.st (.int .i64 0)))))
  .no])
  (.cond (.t 28)
  (.seq
  (.ops
  [.mk (some 29) none
  (.build
  [.st (.int .i64 0), .st (.int .i64 0),
  .full []]
  [])
  .no, .mk (some 30) none (.mov (.t 10)) .no, .mk none none (.store 3 (.t 6) (.t 29))
  .no, .mk (some 7) none (.mov (.t 30)) .no])
  .ret)
  .skip)))))
  (.ops
  [.mk (some 31) none (.bin .add (.t 21) (.c (.one (.st (.int .i64 1)))))
  .no, .mk (some 21) none (.mov (.t 31)) .no])))))))
  (.seq
  (.seq
  (.ops
  [.mk (some 32) none (.load true 3 (.t 3)) .no, .mk (some 33) none (.mov (.t 1)) .no, .mk (some 34) none (.len false (.t 33)) .no, .mk (some 35) none (.call 38
  [.t 32, .c (.one (.st (.int .i64 0))), .t 34])
  .no, .mk (some 11) none (.mov (.t 35)) .no])
  (.seq
  (.ops
  [.mk (some 36) none (.mov (.t 11)) .no, .mk (some 37) none (.bin .neq (.t 36) (.c (.one (.st (.int .i64 0)))))
  .no])
  (.cond (.t 37)
  (.seq
  (.ops
  [.mk (some 38) none
  (.build
  [.st (.int .i64 0), .st (.int .i64 0),
  .full []]
  [])
  .no, .mk (some 39) none (.mov (.t 11)) .no, .mk none none (.store 3 (.t 6) (.t 38))
  .no, .mk (some 7) none (.mov (.t 39)) .no])
  .ret)
  .skip)))
  (.seq
  (.seq
  (.ops
  [.mk (some 40) none (.mov (.t 2)) .no, .mk (some 41) none (.bin .lss (.t 40) (.c (.one (.st (.int .i64 0)))))
  .no, .mk (some 42) none (.mov (.t 41)) .no, .mk (some 43) (some (42, false)) (.mov (.t 2)) .no, .mk (some 44) (some (42, false)) (.bin .gtr (.t 43) (.c (.one (.st (.int .i64 400)))))
  .no, .mk (some 45) none
  (.pick (.t 42) (.c (.one (.st (.bool true)))) (.t 44))
  .no])
  (.cond (.t 45)
  (.seq
  (.ops
  [.mk (some 46) none
  (.build
  [.st (.int .i64 0), .st (.int .i64 0),
  .full []]
  [])
  .no, .mk none none (.store 3 (.t 6) (.t 46))
  .no, .mk (some 7) none (.mov (.c (.one (.st (.int .i64 10)))))
  .no])
  .ret)
  .skip))
  (.seq
  (.ops
  [.mk (some 47) none (.load true 3 (.t 3)) .no, .mk (some 48) none (.mov (.t 1)) .no, .mk (some 49) none (.call 39 [.t 47, .t 48])
  .no, .mk (some 12) none
  (.alloc 24
  [.st (.int .i64 0), .st (.int .i64 0),
  .full []])
  .no, .mk none none (.store 3 (.t 12) (.t 49))
  .no])
  (.seq
  (.seq
  (.ops
  [.mk (some 50) none (.load true 3 (.t 12)) .no, .mk (some 51) none (.call 24 [.t 50]) .no, .mk (some 52) none (.bin .gtr (.t 51) (.c (.one (.st (.int .i64 2000)))))
  .no])
  (.cond (.t 52)
  (.seq
  (.ops
  [.mk (some 53) none
  (.build
  [.st (.int .i64 0), .st (.int .i64 0),
  .full []]
  [])
  .no, .mk none none (.store 3 (.t 6) (.t 53))
  .no, .mk (some 7) none (.mov (.c (.one (.st (.int .i64 8)))))
  .no])
  .ret)
  .skip))
  (.seq
  (.ops
  [.mk (some 55) none (.load true 3 (.t 12)) .no, .mk (some 56) none (.mov (.t 2)) .no, .mk (some 57) none (.call 40
  [.t 55, .t 56, .c (.one (.fn 41 []))])
  .no, .mk (some 54) none (.mov (.t 57)) .no, .mk (some 58) none (.extract 0 (.t 54)) .no, .mk (some 59) none (.extract 1 (.t 54)) .no, .mk (some 60) none (.extract 2 (.t 54)) .no, .mk none none (.store 3 (.t 12) (.t 58))
  .no, .mk (some 13) none (.mov (.t 59)) .no, .mk (some 14) none (.mov (.t 60)) .no])
  (.seq
  (.seq
  (.ops
  [.mk (some 61) none (.mov (.t 14)) .no, .mk (some 62) none (.bin .neq (.t 61) (.c (.one (.st (.int .i64 0)))))
  .no])
  (.cond (.t 62)
  (.seq
  (.ops
  [.mk (some 63) none
  (.build
  [.st (.int .i64 0), .st (.int .i64 0),
  .full []]
  [])
  .no, .mk (some 64) none (.mov (.t 14)) .no, .mk none none (.store 3 (.t 6) (.t 63))
  .no, .mk (some 7) none (.mov (.t 64)) .no])
  .ret)
  .skip))
  (.seq
  (.ops
  [.mk (some 65) none (.load true 3 (.t 12)) .no, .mk (some 66) none (.call 42 [.t 65]) .no, .mk none none (.store 3 (.t 6) (.t 66))
  .no, .mk (some 7) none (.mov (.c (.one (.st (.int .i64 0)))))
  .no])
  .ret))))))))))
theorem tr_pattern_Put : trCode Tryd.prog 67 [] (Tryd.f19.body.getD .skip) = some ir_pattern_Put := by kernel_rfl
theorem ac_pattern_Put {xs : List AV} {r : AV} (hn : xs.length ≤ 67) (h : ∀ C : Ctx, C.n = 67 → IWP Tryd.prog C [] ir_pattern_Put (FinQ [.cell 6 true 3, .t 7] r) (AS.start xs)) : ACalls Tryd.prog 19 xs r :=
  acalls_of Tryd.func19 rfl tr_pattern_Put rfl hn h
theorem acS_pattern_Put {xs : List AV} {S S' : AStore} {r : AV} (hn : xs.length ≤ 67) (h : Clean S → ∀ C : Ctx, C.n = 67 → IWP Tryd.prog C [] ir_pattern_Put (FinS C [.cell 6 true 3, .t 7] r S') (AS.startS xs S)) : ACallsS Tryd.prog 19 xs S r S' :=
  acallsS_of Tryd.func19 rfl tr_pattern_Put rfl hn h

def ir_R_Filled : IR :=
  (.seq
  (.ops
  [.mk (some 2) none (.box 24 (.t 0)) .no, .mk (some 4) none
  (.alloc 24
  [.st (.int .i64 0), .st (.int .i64 0),
  .full []])
  .no])
  (.seq
  (.seq
  (.ops
  [.mk (some 7) none (.fieldAddr 0 (.t 2)) .no, .mk (some 8) none (.load false 1 (.t 7)) .no, .mk (some 9) none (.bin .eql (.t 8) (.c (.one (.st (.int .i64 5)))))
  .no])
  (.cond (.t 9)
  (.seq
  (.ops
  [.mk (some 10) none (.mov (.t 1)) .no, .mk (some 11) none (.fieldAddr 1 (.t 2)) .no, .mk (some 12) none (.load false 1 (.t 11)) .no, .mk (some 13) none (.indexAddr 3 (.t 10) (.t 12))
  .no, .mk (some 14) none (.load true 3 (.t 13)) .no, .mk none none (.store 3 (.t 4) (.t 14))
  .no])
  .ret)
  .skip))
  (.seq
  (.ops
  [.mk (some 15) none (.fieldAddr 0 (.t 2)) .no, .mk (some 16) none (.load false 1 (.t 15)) .no, .mk (some 17) none (.fieldAddr 1 (.t 2)) .no, .mk (some 18) none (.load false 1 (.t 17)) .no, .mk (some 19) none
  (.build
  [.st (.int .i64 0), .st (.int .i64 0),
  .full []]
  [(0, 1, .t 16), (1, 1, .t 18)])
  .no, .mk (some 5) none
  (.alloc 24
  [.st (.int .i64 0), .st (.int .i64 0),
  .full []])
  .no, .mk none none (.store 3 (.t 5) (.t 19))
  .no])
  (.seq
  (.seq
  (.ops
  [.mk (some 6) none (.mov (.c (.one (.st (.int .i64 0)))))
  .no])
  (.block 0
  (.loop
  (.seq
  (.seq
  (.ops
  [.mk (some 20) none (.mov (.t 6)) .no, .mk (some 21) none (.fieldAddr 2 (.t 2)) .no, .mk (some 22) none (.load false 1 (.t 21)) .no, .mk (some 23) none (.len false (.t 22)) .no, .mk (some 24) none (.bin .lss (.t 20) (.t 23))
  .no])
  (.cond (.t 24) .skip (.exit 0)))
  (.seq
  (.block 1
  (.ops
  [.mk (some 27) none (.fieldAddr 2 (.t 5)) .no, .mk (some 28) none (.load false 1 (.t 27)) .no, .mk (some 29) none (.fieldAddr 2 (.t 2)) .no, .mk (some 30) none (.load false 1 (.t 29)) .no, .mk (some 31) none (.mov (.t 6)) .no, .mk (some 32) none (.indexAddr 3 (.t 30) (.t 31))
  .no, .mk (some 33) none (.load true 3 (.t 32)) .no, .mk (some 34) none (.mov (.t 1)) .no, .mk (some 35) none (.call 17 [.t 33, .t 34])
  .no, .mk (some 36) none (.buildSlice false 24 3 [.t 35])
  .no, .mk (some 37) none
  (.append false 24 3 40 (.t 28) (.t 36)) .no, .mk (some 38) none (.fieldAddr 2 (.t 5)) .no, .mk none none (.store 1 (.t 38) (.t 37))
  .no]))
  (.ops
  [.mk (some 25) none (.mov (.t 6)) .no, .mk (some 26) none (.bin .add (.t 25) (.c (.one (.st (.int .i64 1)))))
  .no, .mk (some 6) none (.mov (.t 26)) .no]))))))
  (.seq
  (.ops
  [.mk (some 39) none (.load true 3 (.t 5)) .no, .mk none none (.store 3 (.t 4) (.t 39))
  .no])
  .ret)))))
theorem tr_R_Filled : trCode Tryd.prog 40 [] (Tryd.f17.body.getD .skip) = some ir_R_Filled := by kernel_rfl
theorem ac_R_Filled {xs : List AV} {r : AV} (hn : xs.length ≤ 40) (h : ∀ C : Ctx, C.n = 40 → IWP Tryd.prog C [] ir_R_Filled (FinQ [.cell 4 true 3] r) (AS.start xs)) : ACalls Tryd.prog 17 xs r :=
  acalls_of Tryd.func17 rfl tr_R_Filled rfl hn h
theorem acS_R_Filled {xs : List AV} {S S' : AStore} {r : AV} (hn : xs.length ≤ 40) (h : Clean S → ∀ C : Ctx, C.n = 40 → IWP Tryd.prog C [] ir_R_Filled (FinS C [.cell 4 true 3] r S') (AS.startS xs S)) : ACallsS Tryd.prog 17 xs S r S' :=
  acallsS_of Tryd.func17 rfl tr_R_Filled rfl hn h

def ir_L_PatternPuts : IR :=
  (.seq
  (.ops
  [.mk (some 3) none (.box 24 (.t 0)) .no, .mk (some 6) none (.mov (.c (.one (.st (.bool false)))))
  .no])
  (.seq
  (.seq
  (.ops
  [.mk (some 12) none (.load true 3 (.t 3)) .no, .mk (some 13) none (.call 6 [.t 12]) .no, .mk (some 14) none (.mov (.t 13)) .no, .mk (some 15) (some (14, false)) (.mov (.t 1)) .no, .mk (some 16) (some (14, false)) (.len false (.t 15)) .no, .mk (some 17) (some (14, false)) (.bin .gtr (.t 16) (.c (.one (.st (.int .i64 20)))))
  .no, .mk (some 18) none
  (.pick (.t 14) (.c (.one (.st (.bool true)))) (.t 17))
  .no, .mk (some 19) none (.mov (.t 18)) .no, .mk (some 20) (some (19, false)) (.mov (.t 2)) .no, .mk (some 21) (some (19, false)) (.bin .gtr (.t 20) (.c (.one (.st (.int .i64 30)))))
  .no, .mk (some 22) (some (19, false)) (.mov (.t 21)) .no, .mk (some 23) (some (22, true)) (.mov (.t 2)) .no, .mk (some 24) (some (22, true)) (.bin .leq (.t 23) (.c (.one (.st (.int .i64 400)))))
  .no, .mk (some 25) (some (19, false))
  (.pick (.t 22) (.t 24) (.c (.one (.st (.bool false)))))
  .no, .mk (some 26) none
  (.pick (.t 19) (.c (.one (.st (.bool true)))) (.t 25))
  .no])
  (.cond (.t 26)
  (.seq
  (.ops
  [.mk (some 6) none (.mov (.c (.one (.st (.bool true)))))
  .no])
  .ret)
  .skip))
  (.seq
  (.ops
  [.mk (some 7) none (.mov (.c (.one (.st (.int .i64 0)))))
  .no])
  (.seq
  (.seq
  (.ops
  [.mk (some 27) none (.mov (.t 1)) .no, .mk (some 28) none (.len false (.t 27)) .no, .mk (some 29) none (.bin .gtr (.t 28) (.c (.one (.st (.int .i64 4)))))
  .no])
  (.cond (.t 29)
  (.ops
  [.mk (some 7) none (.mov (.c (.one (.st (.int .i64 3)))))
  .no])
  .skip))
  (.seq
  (.seq
  (.ops
  [.mk (some 8) none (.mov (.c (.one (.st (.int .i64 0)))))
  .no])
  (.block 0
  (.loop
  (.seq
  (.seq
  (.ops
  [.mk (some 30) none (.mov (.t 8)) .no, .mk (some 31) none (.mov (.t 1)) .no, .mk (some 32) none (.len false (.t 31)) .no, .mk (some 33) none (.bin .lss (.t 30) (.t 32))
  .no])
  (.cond (.t 33) .skip (.exit 0)))
  (.seq
  (.block 1
  (.seq
  (.seq
  (.ops
  [.mk (some 36) none (.mov (.t 1)) .no, .mk (some 37) none (.mov (.t 8)) .no, .mk (some 38) none (.indexAddr 3 (.t 36) (.t 37))
  .no, .mk (some 39) none (.load true 3 (.t 38))
  .no, .mk (some 40) none (.call 6 [.t 39]) .no])
  (.cond (.t 40)
  (.seq
  (.ops
  [.mk (some 6) none (.mov (.c (.one (.st (.bool true)))))
  .no])
  .ret)
  .skip))
  (.seq
  (.ops
  [.mk (some 41) none (.mov (.t 7)) .no, .mk (some 42) none (.bin .eql (.t 41) (.c (.one (.st (.int .i64 0)))))
  .no])
  (.cond (.t 42)
  (.ops
  [.mk (some 43) none (.mov (.t 1)) .no, .mk (some 44) none (.mov (.t 8)) .no, .mk (some 45) none
  (.indexAddr 3 (.t 43) (.t 44)) .no, .mk (some 46) none (.load true 3 (.t 45))
  .no, .mk (some 47) none (.call 7
  [.t 46, .c (.one (.st (.int .i64 0))), .c (.one (.st (.int .i64 12)))])
  .no, .mk (some 7) none (.mov (.t 47)) .no])
  .skip))))
  (.ops
  [.mk (some 34) none (.mov (.t 8)) .no, .mk (some 35) none (.bin .add (.t 34) (.c (.one (.st (.int .i64 1)))))
  .no, .mk (some 8) none (.mov (.t 35)) .no]))))))
  (.seq
  (.seq
  (.ops
  [.mk (some 48) none (.mov (.t 7)) .no, .mk (some 49) none (.bin .eql (.t 48) (.c (.one (.st (.int .i64 0)))))
  .no])
  (.cond (.t 49)
  (.ops
  [.mk (some 50) none (.load true 3 (.t 3)) .no, .mk (some 51) none (.mov (.t 1)) .no, .mk (some 52) none (.len false (.t 51)) .no, .mk (some 53) none (.call 7
  [.t 50, .c (.one (.st (.int .i64 0))), .t 52])
  .no, .mk (some 7) none (.mov (.t 53)) .no])
  .skip))
  (.seq
  (.seq
  (.ops
  [.mk (some 54) none (.mov (.t 7)) .no, .mk (some 55) none (.bin .eql (.t 54) (.c (.one (.st (.int .i64 0)))))
  .no, .mk (some 56) none (.mov (.t 55)) .no, .mk (some 57) (some (56, true)) (.mov (.t 2)) .no, .mk (some 58) (some (56, true)) (.bin .lss (.t 57) (.c (.one (.st (.int .i64 0)))))
  .no, .mk (some 59) (some (56, true)) (.mov (.t 58)) .no, .mk (some 60) (some (59, false)) (.mov (.t 2)) .no, .mk (some 61) (some (59, false)) (.bin .gtr (.t 60) (.c (.one (.st (.int .i64 400)))))
  .no, .mk (some 62) (some (56, true))
  (.pick (.t 59) (.c (.one (.st (.bool true)))) (.t 61))
  .no, .mk (some 63) none
  (.pick (.t 56) (.t 62) (.c (.one (.st (.bool false)))))
  .no])
  (.cond (.t 63)
  (.ops
  [.mk (some 7) none (.mov (.c (.one (.st (.int .i64 10)))))
  .no])
  .skip))
  (.seq
  (.ops
  [.mk (some 64) none
  (.build
  [.st (.int .i64 0), .st (.int .i64 0),
  .full []]
  [])
  .no, .mk (some 9) none
  (.alloc 24
  [.st (.int .i64 0), .st (.int .i64 0),
  .full []])
  .no, .mk none none (.store 3 (.t 9) (.t 64))
  .no])
  (.seq
  (.seq
  (.ops
  [.mk (some 65) none (.mov (.t 7)) .no, .mk (some 66) none (.bin .eql (.t 65) (.c (.one (.st (.int .i64 0)))))
  .no])
  (.cond (.t 66)
  (.seq
  (.ops
  [.mk (some 67) none (.load true 3 (.t 3)) .no, .mk (some 68) none (.mov (.t 1)) .no, .mk (some 69) none (.call 17 [.t 67, .t 68])
  .no, .mk none none (.store 3 (.t 9) (.t 69))
  .no])
  (.seq
  (.ops
  [.mk (some 70) none (.load true 3 (.t 9)) .no, .mk (some 71) none (.call 9
  [.t 70, .c (.one (.st (.int .i64 2000)))])
  .no, .mk (some 72) none (.bin .gtr (.t 71) (.c (.one (.st (.int .i64 2000)))))
  .no])
  (.cond (.t 72)
  (.ops
  [.mk (some 7) none (.mov (.c (.one (.st (.int .i64 8)))))
  .no])
  (.seq
  (.ops
  [.mk (some 73) none (.load true 3 (.t 9))
  .no, .mk (some 74) none (.call 9
  [.t 73, .c (.one (.st (.int .i64 60)))])
  .no, .mk (some 75) none (.bin .gtr (.t 74) (.c (.one (.st (.int .i64 60)))))
  .no])
  (.cond (.t 75)
  (.seq
  (.ops
  [.mk (some 6) none (.mov (.c (.one (.st (.bool true)))))
  .no])
  .ret)
  .skip)))))
  .skip))
  (.seq
  (.seq
  (.ops
  [.mk (some 76) none (.mov (.t 7)) .no, .mk (some 77) none (.bin .eql (.t 76) (.c (.one (.st (.int .i64 0)))))
  .no])
  (.cond (.t 77)
  (.ops
  [.mk (some 79) none (.load true 3 (.t 9)) .no, .mk (some 80) none (.mov (.t 2)) .no, .mk (some 81) none (.call 14
  [.t 79, .t 80, .c (.one (.st (.bool false)))])
  .no, .mk (some 78) none (.mov (.t 81)) .no, .mk (some 82) none (.extract 0 (.t 78)) .no, .mk (some 83) none (.extract 1 (.t 78)) .no, .mk (some 84) none (.extract 2 (.t 78)) .no, .mk none none (.store 3 (.t 9) (.t 82))
  .no, .mk (some 7) none (.mov (.t 84)) .no])
  .skip))
  (.seq
  (.seq
  (.ops
  [.mk (some 85) none (.mov (.t 7)) .no, .mk (some 86) none (.bin .eql (.t 85) (.c (.one (.st (.int .i64 0)))))
  .no])
  (.cond (.t 86)
  (.ops
  [.mk (some 87) none (.load true 3 (.t 9)) .no, .mk (some 88) none (.call 18 [.t 87]) .no, .mk none none (.store 3 (.t 9) (.t 88))
  .no])
  .skip))
  (.seq
  (.ops
  [.mk (some 90) none (.load true 3 (.t 3)) .no, .mk (some 91) none (.mov (.t 1)) .no, .mk (some 92) none (.mov (.t 2)) .no, .mk (some 93) none (.call 19 [.t 90, .t 91, .t 92])
  .no, .mk (some 89) none (.mov (.t 93)) .no, .mk (some 94) none (.extract 0 (.t 89)) .no, .mk (some 95) none (.extract 1 (.t 89)) .no, .mk (some 10) none
  (.alloc 24
  [.st (.int .i64 0), .st (.int .i64 0),
  .full []])
  .no, .mk none none (.store 3 (.t 10) (.t 94))
  .no, .mk (some 11) none (.mov (.t 95)) .no])
  (.seq
  (.ops
  [.mk (some 96) none (.load true 3 (.t 10))
  .no, .mk (some 97) none (.mov (.t 11)) .no, .mk (some 98) none (.load true 3 (.t 9))
  .no, .mk (some 99) none (.mov (.t 7)) .no, .mk (some 100) none (.call 11
  [.t 96, .t 97, .t 98, .t 99])
  .no, .mk (some 6) none (.mov (.t 100)) .no])
  .ret)))))))))))))
theorem tr_L_PatternPuts : trCode Tryd.prog 101 [] (Tryd.f5.body.getD .skip) = some ir_L_PatternPuts := by kernel_rfl
theorem ac_L_PatternPuts {xs : List AV} {r : AV} (hn : xs.length ≤ 101) (h : ∀ C : Ctx, C.n = 101 → IWP Tryd.prog C [] ir_L_PatternPuts (FinQ [.t 6] r) (AS.start xs)) : ACalls Tryd.prog 5 xs r :=
  acalls_of Tryd.func5 rfl tr_L_PatternPuts rfl hn h
theorem acS_L_PatternPuts {xs : List AV} {S S' : AStore} {r : AV} (hn : xs.length ≤ 101) (h : Clean S → ∀ C : Ctx, C.n = 101 → IWP Tryd.prog C [] ir_L_PatternPuts (FinS C [.t 6] r S') (AS.startS xs S)) : ACallsS Tryd.prog 5 xs S r S' :=
  acallsS_of Tryd.func5 rfl tr_L_PatternPuts rfl hn h

end Go.Proofs.YtkjbaabkaboaoaaDoor
