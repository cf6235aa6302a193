/-
  Part 22 of the texts: IrRawT. Conditions: none.
-/
import Derived.Test.YtdmgelbbjppgkaaDoorPart21
namespace Go.Proofs.YtdmgelbbjppgkaaDoor
open Go Go.RowKit
set_option maxRecDepth 100000

def ir_R_Pick : IR :=
  (.seq
  (.ops
  [.mk (some 4) none (.mov (.c (.one (.st (.int .i64 0)))))
  .no])
  (.seq
  (.seq
  (.ops
  [.mk (some 5) none (.mov (.t 0)) .no, .mk (some 6) none (.bin .lss (.t 5) (.c (.one (.st (.int .i64 0)))))
  .no])
  (.cond (.t 6)
  (.ops
  [.mk (some 7) none (.mov (.t 0)) .no, .mk (some 8) none (.bin .add (.t 7) (.c (.one (.st (.int .i64 1)))))
  .no, .mk (some 9) none (.un .neg (.t 8)) .no, .mk (some 0) none (.mov (.t 9)) .no])
  .skip))
  (.seq
  (.ops
  [.mk (some 10) none (.mov (.t 0)) .no, .mk (some 11) none (.mov (.t 1)) .no, .mk (some 12) none (.bin .rem (.t 10) (.t 11))
  .no, .mk (some 4) none (.mov (.t 12)) .no])
  .ret)))
theorem tr_R_Pick : trCode Tryd.prog 13 [] (Tryd.f18.body.getD .skip) = some ir_R_Pick := by kernel_rfl
theorem ac_R_Pick {xs : List AV} {r : AV} (hn : xs.length ≤ 13) (h : ∀ C : Ctx, C.n = 13 → IWP Tryd.prog C [] ir_R_Pick (FinQ [.t 4] r) (AS.start xs)) : ACalls Tryd.prog 18 xs r :=
  acalls_of Tryd.func18 rfl tr_R_Pick rfl hn h
theorem acS_R_Pick {xs : List AV} {S S' : AStore} {r : AV} (hn : xs.length ≤ 13) (h : Clean S → ∀ C : Ctx, C.n = 13 → IWP Tryd.prog C [] ir_R_Pick (FinS C [.t 4] r S') (AS.startS xs S)) : ACallsS Tryd.prog 18 xs S r S' :=
  acallsS_of Tryd.func18 rfl tr_R_Pick rfl hn h

def ir_R_Raw : IR :=
  (.seq
  (.ops
  [.mk (some 4) none (.mov (.c (.one (.st (.int .i64 0)))))
  .no])
  (.seq
  (.seq
  (.ops
  [.mk (some 5) none (.mov (.t 0)) .no, .mk (some 6) none (.len false (.t 5)) .no, .mk (some 7) none (.bin .eql (.t 6) (.c (.one (.st (.int .i64 0)))))
  .no])
  (.cond (.t 7)
  (.seq
  (.ops
  [.mk (some 8) none (.mov (.t 1)) .no, .mk (some 9) none (.bin .mul (.t 8) (.c (.one (.st (.int .i64 31)))))
  .no, .mk (some 4) none (.mov (.t 9)) .no])
  .ret)
  .skip))
  (.seq
  (.ops
  [.mk (some 10) none (.mov (.t 0)) .no, .mk (some 11) none (.mov (.t 1)) .no, .mk (some 12) none (.mov (.t 0)) .no, .mk (some 13) none (.len false (.t 12)) .no, .mk (some 14) none (.bin .rem (.t 11) (.t 13))
  .no, .mk (some 15) none (.indexAddr 1 (.t 10) (.t 14))
  .no, .mk (some 16) none (.load false 1 (.t 15)) .no, .mk (some 17) none (.call 18
  [.t 16, .c (.one (.st (.int .i64 1000003)))])
  .no, .mk (some 18) none (.mov (.t 1)) .no, .mk (some 19) none (.mov (.t 0)) .no, .mk (some 20) none (.len false (.t 19)) .no, .mk (some 21) none (.bin .quo (.t 18) (.t 20))
  .no, .mk (some 22) none (.bin .mul (.t 21) (.c (.one (.st (.int .i64 7919)))))
  .no, .mk (some 23) none (.bin .add (.t 17) (.t 22))
  .no, .mk (some 4) none (.mov (.t 23)) .no])
  .ret)))
theorem tr_R_Raw : trCode Tryd.prog 24 [] (Tryd.f43.body.getD .skip) = some ir_R_Raw := by kernel_rfl
theorem ac_R_Raw {xs : List AV} {r : AV} (hn : xs.length ≤ 24) (h : ∀ C : Ctx, C.n = 24 → IWP Tryd.prog C [] ir_R_Raw (FinQ [.t 4] r) (AS.start xs)) : ACalls Tryd.prog 43 xs r :=
  acalls_of Tryd.func43 rfl tr_R_Raw rfl hn h
theorem acS_R_Raw {xs : List AV} {S S' : AStore} {r : AV} (hn : xs.length ≤ 24) (h : Clean S → ∀ C : Ctx, C.n = 24 → IWP Tryd.prog C [] ir_R_Raw (FinS C [.t 4] r S') (AS.startS xs S)) : ACallsS Tryd.prog 43 xs S r S' :=
  acallsS_of Tryd.func43 rfl tr_R_Raw rfl hn h

def ir_R_Leaf : IR :=
  (.seq
  (.ops
  [.mk (some 2) none
  (.alloc 24 [.st (.str (ByteArray.mk (#[]))), .full []])
  .no])
  (.seq
  (.ops
  [.mk (some 3) none (.mov (.t 0)) .no, .mk (some 4) none
  (.build [.st (.str (ByteArray.mk (#[]))), .full []]
  [(0, 1, .t 3)])
  .no, .mk none none (.store 2 (.t 2) (.t 4))
  .no])
  .ret))
theorem tr_R_Leaf : trCode Tryd.prog 5 [] (Tryd.f58.body.getD .skip) = some ir_R_Leaf := by kernel_rfl
theorem ac_R_Leaf {xs : List AV} {r : AV} (hn : xs.length ≤ 5) (h : ∀ C : Ctx, C.n = 5 → IWP Tryd.prog C [] ir_R_Leaf (FinQ [.cell 2 true 2] r) (AS.start xs)) : ACalls Tryd.prog 58 xs r :=
  acalls_of Tryd.func58 rfl tr_R_Leaf rfl hn h
theorem acS_R_Leaf {xs : List AV} {S S' : AStore} {r : AV} (hn : xs.length ≤ 5) (h : Clean S → ∀ C : Ctx, C.n = 5 → IWP Tryd.prog C [] ir_R_Leaf (FinS C [.cell 2 true 2] r S') (AS.startS xs S)) : ACallsS Tryd.prog 58 xs S r S' :=
  acallsS_of Tryd.func58 rfl tr_R_Leaf rfl hn h

def ir_R_Grow : IR :=
  (.seq
  (.ops
  [.mk (some 8) none
  (.alloc 24 [.st (.str (ByteArray.mk (#[]))), .full []])
  .no, .mk (some 9) none (.mov (.c (.one (.st (.int .i64 0)))))
  .no])
  (.seq
  (.ops
  [.mk (some 18) none (.mov (.t 0)) .no, .mk (some 19) none (.mov (.t 1)) .no, .mk (some 20) none (.call 43 [.t 18, .t 19])
  .no, .mk (some 10) none (.mov (.t 20)) .no])
  (.seq
  (.ops
  [.mk (some 21) none (.mov (.t 1)) .no, .mk (some 22) none (.bin .add (.t 21) (.c (.one (.st (.int .i64 1)))))
  .no, .mk (some 1) none (.mov (.t 22)) .no])
  (.seq
  (.seq
  (.ops
  [.mk (some 23) none (.mov (.t 2)) .no, .mk (some 24) none (.bin .lss (.t 23) (.c (.one (.st (.int .i64 3)))))
  .no, .mk (some 25) none (.mov (.t 24)) .no, .mk (some 26) (some (25, false)) (.mov (.t 10)) .no, .mk (some 27) (some (25, false)) (.call 18
  [.t 26, .c (.one (.st (.int .i64 5)))])
  .no, .mk (some 28) (some (25, false)) (.bin .lss (.t 27) (.c (.one (.st (.int .i64 2)))))
  .no, .mk (some 29) none
  (.pick (.t 25) (.c (.one (.st (.bool true)))) (.t 28))
  .no])
  (.cond (.t 29)
  (.seq
  (.seq
  (.ops
  [.mk (some 30) none (.mov (.t 3)) .no, .mk (some 31) none (.bin .gtr (.t 30) (.c (.one (.st (.int .i64 0)))))
  .no, .mk (some 32) none (.mov (.t 31)) .no, .mk (some 33) (some (32, true)) (.mov (.t 10)) .no, .mk (some 34) (some (32, true)) (.bin .quo (.t 33) (.c (.one (.st (.int .i64 5)))))
  .no, .mk (some 35) (some (32, true)) (.call 18
  [.t 34, .c (.one (.st (.int .i64 3)))])
  .no, .mk (some 36) (some (32, true)) (.bin .gtr (.t 35) (.c (.one (.st (.int .i64 0)))))
  .no, .mk (some 37) none
  (.pick (.t 32) (.t 36) (.c (.one (.st (.bool false)))))
  .no])
  (.cond (.t 37)
  (.seq
  (.ops
  [.mk (some 38) none
  (.buildFlat
  [.c (.one (.st (.str (ByteArray.mk (#[88]))))), .c (.one (.st (.str (ByteArray.mk (#[89]))))), .c (.one (.st (.str (ByteArray.mk (#[90]))))), .c (.one (.st (.str (ByteArray.mk (#[85])))))])
  .no, .mk (some 39) none (.mov (.t 10)) .no, .mk (some 40) none (.bin .quo (.t 39) (.c (.one (.st (.int .i64 15)))))
  .no, .mk (some 41) none (.mov (.t 3)) .no, .mk (some 42) none (.call 18 [.t 40, .t 41])
  .no, .mk (some 43) none (.indexAddr 1 (.t 38) (.t 42))
  .no, .mk (some 44) none (.load false 1 (.t 43)) .no, .mk (some 45) none (.call 58 [.t 44]) .no, .mk (some 46) none (.mov (.t 1)) .no, .mk none none (.store 2 (.t 8) (.t 45))
  .no, .mk (some 9) none (.mov (.t 46)) .no])
  .ret)
  .skip))
  (.seq
  (.ops
  [.mk (some 47) none
  (.buildFlat
  [.c (.one (.st (.str (ByteArray.mk (#[97]))))), .c (.one (.st (.str (ByteArray.mk (#[98]))))), .c (.one (.st (.str (ByteArray.mk (#[99])))))])
  .no, .mk (some 48) none (.mov (.t 10)) .no, .mk (some 49) none (.bin .quo (.t 48) (.c (.one (.st (.int .i64 15)))))
  .no, .mk (some 50) none (.call 18
  [.t 49, .c (.one (.st (.int .i64 3)))])
  .no, .mk (some 51) none (.indexAddr 1 (.t 47) (.t 50))
  .no, .mk (some 52) none (.load false 1 (.t 51)) .no, .mk (some 53) none (.call 58 [.t 52]) .no, .mk (some 54) none (.mov (.t 1)) .no, .mk none none (.store 2 (.t 8) (.t 53))
  .no, .mk (some 9) none (.mov (.t 54)) .no])
  .ret))
  .skip))
  (.seq
  (.seq
  (.ops
  [.mk (some 55) none (.mov (.t 10)) .no, .mk (some 56) none (.bin .quo (.t 55) (.c (.one (.st (.int .i64 5)))))
  .no, .mk (some 57) none (.call 18
  [.t 56, .c (.one (.st (.int .i64 4)))])
  .no])
  (.block 0
  (.seq
  (.ops
  [.mk (some 59) none (.bin .eql (.t 57) (.c (.one (.st (.int .i64 0)))))
  .no, .mk (some 58) none (.mov (.t 59)) .no])
  (.cond (.t 58)
  (.seq
  (.ops
  [.mk (some 61) none (.mov (.t 0)) .no, .mk (some 62) none (.mov (.t 1)) .no, .mk (some 63) none (.mov (.t 2)) .no, .mk (some 64) none (.bin .sub (.t 63) (.c (.one (.st (.int .i64 1)))))
  .no, .mk (some 65) none (.mov (.t 3)) .no, .mk (some 66) none (.call 41
  [.t 61, .t 62, .t 64, .t 65])
  .no, .mk (some 60) none (.mov (.t 66)) .no, .mk (some 67) none (.extract 0 (.t 60)) .no, .mk (some 68) none (.extract 1 (.t 60)) .no, .mk (some 11) none
  (.alloc 24 [.st (.str (ByteArray.mk (#[]))), .full []])
  .no, .mk none none (.store 2 (.t 11) (.t 67))
  .no, .mk (some 12) none (.mov (.t 68)) .no])
  (.seq
  (.ops
  [.mk (some 69) none (.load true 2 (.t 11)) .no, .mk (some 70) none (.buildSlice false 24 2 [.t 69])
  .no, .mk (some 71) none
  (.build [.st (.str (ByteArray.mk (#[]))), .full []]
  [(0, 1, .c (.one (.st (.str (ByteArray.mk (#[104])))))),
  (1, 1, .t 70)])
  .no, .mk (some 72) none (.mov (.t 12)) .no, .mk none none (.store 2 (.t 8) (.t 71))
  .no, .mk (some 9) none (.mov (.t 72)) .no])
  .ret))
  (.seq
  (.ops
  [.mk (some 74) none (.bin .eql (.t 57) (.c (.one (.st (.int .i64 1)))))
  .no, .mk (some 73) none (.mov (.t 74)) .no])
  (.cond (.t 73)
  (.seq
  (.ops
  [.mk (some 76) none (.mov (.t 0)) .no, .mk (some 77) none (.mov (.t 1)) .no, .mk (some 78) none (.mov (.t 2)) .no, .mk (some 79) none (.bin .sub (.t 78) (.c (.one (.st (.int .i64 1)))))
  .no, .mk (some 80) none (.mov (.t 3)) .no, .mk (some 81) none (.call 41
  [.t 76, .t 77, .t 79, .t 80])
  .no, .mk (some 75) none (.mov (.t 81)) .no, .mk (some 82) none (.extract 0 (.t 75)) .no, .mk (some 83) none (.extract 1 (.t 75)) .no, .mk (some 13) none
  (.alloc 24 [.st (.str (ByteArray.mk (#[]))), .full []])
  .no, .mk none none (.store 2 (.t 13) (.t 82))
  .no, .mk (some 14) none (.mov (.t 83)) .no])
  (.seq
  (.ops
  [.mk (some 84) none (.load true 2 (.t 13))
  .no, .mk (some 85) none (.buildSlice false 24 2 [.t 84])
  .no, .mk (some 86) none
  (.build [.st (.str (ByteArray.mk (#[]))), .full []]
  [(0, 1, .c (.one (.st (.str (ByteArray.mk (#[107])))))),
  (1, 1, .t 85)])
  .no, .mk (some 87) none (.mov (.t 14)) .no, .mk none none (.store 2 (.t 8) (.t 86))
  .no, .mk (some 9) none (.mov (.t 87)) .no])
  .ret))
  .skip))))))
  (.seq
  (.ops
  [.mk (some 89) none (.mov (.t 0)) .no, .mk (some 90) none (.mov (.t 1)) .no, .mk (some 91) none (.mov (.t 2)) .no, .mk (some 92) none (.bin .quo (.t 91) (.c (.one (.st (.int .i64 2)))))
  .no, .mk (some 93) none (.mov (.t 3)) .no, .mk (some 94) none (.call 41 [.t 89, .t 90, .t 92, .t 93])
  .no, .mk (some 88) none (.mov (.t 94)) .no, .mk (some 95) none (.extract 0 (.t 88)) .no, .mk (some 96) none (.extract 1 (.t 88)) .no, .mk (some 15) none
  (.alloc 24 [.st (.str (ByteArray.mk (#[]))), .full []])
  .no, .mk none none (.store 2 (.t 15) (.t 95))
  .no, .mk (some 16) none (.mov (.t 96)) .no])
  (.seq
  (.ops
  [.mk (some 98) none (.mov (.t 0)) .no, .mk (some 99) none (.mov (.t 16)) .no, .mk (some 100) none (.mov (.t 2)) .no, .mk (some 101) none (.bin .quo (.t 100) (.c (.one (.st (.int .i64 2)))))
  .no, .mk (some 102) none (.mov (.t 3)) .no, .mk (some 103) none (.call 41
  [.t 98, .t 99, .t 101, .t 102])
  .no, .mk (some 97) none (.mov (.t 103)) .no, .mk (some 104) none (.extract 0 (.t 97)) .no, .mk (some 105) none (.extract 1 (.t 97)) .no, .mk (some 17) none
  (.alloc 24 [.st (.str (ByteArray.mk (#[]))), .full []])
  .no, .mk none none (.store 2 (.t 17) (.t 104))
  .no, .mk (some 16) none (.mov (.t 105)) .no])
  (.seq
  (.ops
  [.mk (some 106) none
  (.buildFlat
  [.c (.one (.st (.str (ByteArray.mk (#[102]))))), .c (.one (.st (.str (ByteArray.mk (#[103])))))])
  .no, .mk (some 107) none (.mov (.t 10)) .no, .mk (some 108) none (.bin .quo (.t 107) (.c (.one (.st (.int .i64 5)))))
  .no, .mk (some 109) none (.call 18
  [.t 108, .c (.one (.st (.int .i64 4)))])
  .no, .mk (some 110) none (.bin .sub (.t 109) (.c (.one (.st (.int .i64 2)))))
  .no, .mk (some 111) none (.indexAddr 1 (.t 106) (.t 110))
  .no, .mk (some 112) none (.load false 1 (.t 111)) .no, .mk (some 113) none (.load true 2 (.t 15)) .no, .mk (some 114) none (.load true 2 (.t 17)) .no, .mk (some 115) none
  (.buildSlice false 24 2 [.t 113, .t 114]) .no, .mk (some 116) none
  (.build [.st (.str (ByteArray.mk (#[]))), .full []]
  [(0, 1, .t 112), (1, 1, .t 115)])
  .no, .mk (some 117) none (.mov (.t 16)) .no, .mk none none (.store 2 (.t 8) (.t 116))
  .no, .mk (some 9) none (.mov (.t 117)) .no])
  .ret))))))))
theorem tr_R_Grow : trCode Tryd.prog 118 [] (Tryd.f41.body.getD .skip) = some ir_R_Grow := by kernel_rfl
theorem ac_R_Grow {xs : List AV} {r : AV} (hn : xs.length ≤ 118) (h : ∀ C : Ctx, C.n = 118 → IWP Tryd.prog C [] ir_R_Grow (FinQ [.cell 8 true 2, .t 9] r) (AS.start xs)) : ACalls Tryd.prog 41 xs r :=
  acalls_of Tryd.func41 rfl tr_R_Grow rfl hn h
theorem acS_R_Grow {xs : List AV} {S S' : AStore} {r : AV} (hn : xs.length ≤ 118) (h : Clean S → ∀ C : Ctx, C.n = 118 → IWP Tryd.prog C [] ir_R_Grow (FinS C [.cell 8 true 2, .t 9] r S') (AS.startS xs S)) : ACallsS Tryd.prog 41 xs S r S' :=
  acallsS_of Tryd.func41 rfl tr_R_Grow rfl hn h

def ir_R_TermOf : IR :=
  (.seq
  (.ops
  [.mk (some 8) none
  (.alloc 24 [.st (.str (ByteArray.mk (#[]))), .full []])
  .no])
  (.seq
  (.ops
  [.mk (some 12) none (.mov (.t 0)) .no, .mk (some 13) none (.mov (.t 1)) .no, .mk (some 14) none (.mov (.t 2)) .no, .mk (some 15) none (.mov (.t 3)) .no, .mk (some 16) none (.call 41 [.t 12, .t 13, .t 14, .t 15])
  .no, .mk (some 11) none (.mov (.t 16)) .no, .mk (some 17) none (.extract 0 (.t 11)) .no, .mk (some 18) none (.extract 1 (.t 11)) .no, .mk (some 9) none
  (.alloc 24 [.st (.str (ByteArray.mk (#[]))), .full []])
  .no, .mk none none (.store 2 (.t 9) (.t 17))
  .no, .mk (some 10) none (.mov (.t 18)) .no])
  (.seq
  (.ops
  [.mk (some 19) none (.load true 2 (.t 9)) .no, .mk none none (.store 2 (.t 8) (.t 19))
  .no])
  .ret)))
theorem tr_R_TermOf : trCode Tryd.prog 20 [] (Tryd.f17.body.getD .skip) = some ir_R_TermOf := by kernel_rfl
theorem ac_R_TermOf {xs : List AV} {r : AV} (hn : xs.length ≤ 20) (h : ∀ C : Ctx, C.n = 20 → IWP Tryd.prog C [] ir_R_TermOf (FinQ [.cell 8 true 2] r) (AS.start xs)) : ACalls Tryd.prog 17 xs r :=
  acalls_of Tryd.func17 rfl tr_R_TermOf rfl hn h
theorem acS_R_TermOf {xs : List AV} {S S' : AStore} {r : AV} (hn : xs.length ≤ 20) (h : Clean S → ∀ C : Ctx, C.n = 20 → IWP Tryd.prog C [] ir_R_TermOf (FinS C [.cell 8 true 2] r S') (AS.startS xs S)) : ACallsS Tryd.prog 17 xs S r S' :=
  acallsS_of Tryd.func17 rfl tr_R_TermOf rfl hn h

end Go.Proofs.YtdmgelbbjppgkaaDoor
