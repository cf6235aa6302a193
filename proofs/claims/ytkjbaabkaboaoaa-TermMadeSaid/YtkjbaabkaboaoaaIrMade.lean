/-
  The program's functions in abstract operations: written by a program of mine out of the translation; each is shown to be the translation's.
  Conditions: none.
-/
import Derived.Test.YtkjbaabkaboaoaaAbsT
namespace Go.Proofs.Ytkjbaabkaboaoaa
open Go Go.RowKit
set_option maxRecDepth 100000

def ir_R_Pick : IR :=
  (.seq
  (.ops
  [.mk (some 4) none (.mov (.c (.one (.st (.int .i64 0)))))])
  (.seq
  (.seq
  (.ops
  [.mk (some 5) none (.mov (.t 0)), .mk (some 6) none (.bin .lss (.t 5) (.c (.one (.st (.int .i64 0)))))])
  (.cond (.t 6)
  (.ops
  [.mk (some 7) none (.mov (.t 0)), .mk (some 8) none (.bin .add (.t 7) (.c (.one (.st (.int .i64 1))))), .mk (some 9) none (.un .neg (.t 8)), .mk (some 0) none (.mov (.t 9))])
  .skip))
  (.seq
  (.ops
  [.mk (some 10) none (.mov (.t 0)), .mk (some 11) none (.mov (.t 1)), .mk (some 12) none (.bin .rem (.t 10) (.t 11)), .mk (some 4) none (.mov (.t 12))])
  .ret)))
theorem tr_R_Pick : trCode Try.prog 13 [] (Try.f41.body.getD .skip) = some ir_R_Pick := by kernel_rfl
theorem ac_R_Pick {xs : List AV} {r : AV} (hn : xs.length ≤ 13) (h : ∀ C : Ctx, C.n = 13 → IWP Try.prog C [] ir_R_Pick (FinQ [.t 4] r) (AS.start xs)) : ACalls Try.prog 41 xs r :=
  acalls_of Try.func41 rfl tr_R_Pick rfl hn h

def ir_R_Raw : IR :=
  (.seq
  (.ops
  [.mk (some 4) none (.mov (.c (.one (.st (.int .i64 0)))))])
  (.seq
  (.seq
  (.ops
  [.mk (some 5) none (.mov (.t 0)), .mk (some 6) none (.len false (.t 5)), .mk (some 7) none (.bin .eql (.t 6) (.c (.one (.st (.int .i64 0)))))])
  (.cond (.t 7)
  (.seq
  (.ops
  [.mk (some 8) none (.mov (.t 1)), .mk (some 9) none (.bin .mul (.t 8) (.c (.one (.st (.int .i64 31))))), .mk (some 4) none (.mov (.t 9))])
  .ret)
  .skip))
  (.seq
  (.ops
  [.mk (some 10) none (.mov (.t 0)), .mk (some 11) none (.mov (.t 1)), .mk (some 12) none (.mov (.t 0)), .mk (some 13) none (.len false (.t 12)), .mk (some 14) none (.bin .rem (.t 11) (.t 13)), .mk (some 15) none (.indexAddr 1 (.t 10) (.t 14)), .mk (some 16) none (.load false 1 (.t 15)), .mk (some 17) none (.call 41
  [.t 16, .c (.one (.st (.int .i64 1000003)))]), .mk (some 18) none (.mov (.t 1)), .mk (some 19) none (.mov (.t 0)), .mk (some 20) none (.len false (.t 19)), .mk (some 21) none (.bin .quo (.t 18) (.t 20)), .mk (some 22) none (.bin .mul (.t 21) (.c (.one (.st (.int .i64 7919))))), .mk (some 23) none (.bin .add (.t 17) (.t 22)), .mk (some 4) none (.mov (.t 23))])
  .ret)))
theorem tr_R_Raw : trCode Try.prog 24 [] (Try.f110.body.getD .skip) = some ir_R_Raw := by kernel_rfl
theorem ac_R_Raw {xs : List AV} {r : AV} (hn : xs.length ≤ 24) (h : ∀ C : Ctx, C.n = 24 → IWP Try.prog C [] ir_R_Raw (FinQ [.t 4] r) (AS.start xs)) : ACalls Try.prog 110 xs r :=
  acalls_of Try.func110 rfl tr_R_Raw rfl hn h

def ir_R_Leaf : IR :=
  (.seq
  (.ops
  [.mk (some 2) none
  (.alloc 25 [.st (.str (ByteArray.mk (#[]))), .full []])])
  (.seq
  (.ops
  [.mk (some 3) none (.mov (.t 0)), .mk (some 4) none
  (.build [.st (.str (ByteArray.mk (#[]))), .full []]
  [(0, 1, .t 3)]), .mk none none (.store 2 (.t 2) (.t 4))])
  .ret))
theorem tr_R_Leaf : trCode Try.prog 5 [] (Try.f111.body.getD .skip) = some ir_R_Leaf := by kernel_rfl
theorem ac_R_Leaf {xs : List AV} {r : AV} (hn : xs.length ≤ 5) (h : ∀ C : Ctx, C.n = 5 → IWP Try.prog C [] ir_R_Leaf (FinQ [.cell 2 true 2] r) (AS.start xs)) : ACalls Try.prog 111 xs r :=
  acalls_of Try.func111 rfl tr_R_Leaf rfl hn h

def ir_R_Grow : IR :=
  (.seq
  (.ops
  [.mk (some 8) none
  (.alloc 25 [.st (.str (ByteArray.mk (#[]))), .full []]), .mk (some 9) none (.mov (.c (.one (.st (.int .i64 0)))))])
  (.seq
  (.ops
  [.mk (some 18) none (.mov (.t 0)), .mk (some 19) none (.mov (.t 1)), .mk (some 20) none (.call 110 [.t 18, .t 19]), .mk (some 10) none (.mov (.t 20))])
  (.seq
  (.ops
  [.mk (some 21) none (.mov (.t 1)), .mk (some 22) none (.bin .add (.t 21) (.c (.one (.st (.int .i64 1))))), .mk (some 1) none (.mov (.t 22))])
  (.seq
  (.seq
  (.ops
  [.mk (some 23) none (.mov (.t 2)), .mk (some 24) none (.bin .lss (.t 23) (.c (.one (.st (.int .i64 3))))), .mk (some 25) none (.mov (.t 24)), .mk (some 26) (some (25, false)) (.mov (.t 10)), .mk (some 27) (some (25, false)) (.call 41
  [.t 26, .c (.one (.st (.int .i64 5)))]), .mk (some 28) (some (25, false)) (.bin .lss (.t 27) (.c (.one (.st (.int .i64 2))))), .mk (some 29) none
  (.pick (.t 25) (.c (.one (.st (.bool true)))) (.t 28))])
  (.cond (.t 29)
  (.seq
  (.seq
  (.ops
  [.mk (some 30) none (.mov (.t 3)), .mk (some 31) none (.bin .gtr (.t 30) (.c (.one (.st (.int .i64 0))))), .mk (some 32) none (.mov (.t 31)), .mk (some 33) (some (32, true)) (.mov (.t 10)), .mk (some 34) (some (32, true)) (.bin .quo (.t 33) (.c (.one (.st (.int .i64 5))))), .mk (some 35) (some (32, true)) (.call 41
  [.t 34, .c (.one (.st (.int .i64 3)))]), .mk (some 36) (some (32, true)) (.bin .gtr (.t 35) (.c (.one (.st (.int .i64 0))))), .mk (some 37) none
  (.pick (.t 32) (.t 36) (.c (.one (.st (.bool false)))))])
  (.cond (.t 37)
  (.seq
  (.ops
  [.mk (some 38) none
  (.buildSlice false 9 1
  [.c (.one (.st (.str (ByteArray.mk (#[88]))))), .c (.one (.st (.str (ByteArray.mk (#[89]))))), .c (.one (.st (.str (ByteArray.mk (#[90]))))), .c (.one (.st (.str (ByteArray.mk (#[85])))))]), .mk (some 39) none (.mov (.t 10)), .mk (some 40) none (.bin .quo (.t 39) (.c (.one (.st (.int .i64 15))))), .mk (some 41) none (.mov (.t 3)), .mk (some 42) none (.call 41 [.t 40, .t 41]), .mk (some 43) none (.indexAddr 1 (.t 38) (.t 42)), .mk (some 44) none (.load false 1 (.t 43)), .mk (some 45) none (.call 111 [.t 44]), .mk (some 46) none (.mov (.t 1)), .mk none none (.store 2 (.t 8) (.t 45)), .mk (some 9) none (.mov (.t 46))])
  .ret)
  .skip))
  (.seq
  (.ops
  [.mk (some 47) none
  (.buildSlice false 9 1
  [.c (.one (.st (.str (ByteArray.mk (#[97]))))), .c (.one (.st (.str (ByteArray.mk (#[98]))))), .c (.one (.st (.str (ByteArray.mk (#[99])))))]), .mk (some 48) none (.mov (.t 10)), .mk (some 49) none (.bin .quo (.t 48) (.c (.one (.st (.int .i64 15))))), .mk (some 50) none (.call 41
  [.t 49, .c (.one (.st (.int .i64 3)))]), .mk (some 51) none (.indexAddr 1 (.t 47) (.t 50)), .mk (some 52) none (.load false 1 (.t 51)), .mk (some 53) none (.call 111 [.t 52]), .mk (some 54) none (.mov (.t 1)), .mk none none (.store 2 (.t 8) (.t 53)), .mk (some 9) none (.mov (.t 54))])
  .ret))
  .skip))
  (.seq
  (.seq
  (.ops
  [.mk (some 55) none (.mov (.t 10)), .mk (some 56) none (.bin .quo (.t 55) (.c (.one (.st (.int .i64 5))))), .mk (some 57) none (.call 41
  [.t 56, .c (.one (.st (.int .i64 4)))])])
  (.block 0
  (.seq
  (.ops
  [.mk (some 59) none (.bin .eql (.t 57) (.c (.one (.st (.int .i64 0))))), .mk (some 58) none (.mov (.t 59))])
  (.cond (.t 58)
  (.seq
  (.ops
  [.mk (some 61) none (.mov (.t 0)), .mk (some 62) none (.mov (.t 1)), .mk (some 63) none (.mov (.t 2)), .mk (some 64) none (.bin .sub (.t 63) (.c (.one (.st (.int .i64 1))))), .mk (some 65) none (.mov (.t 3)), .mk (some 66) none (.call 80 [.t 61, .t 62, .t 64, .t 65]), .mk (some 60) none (.mov (.t 66)), .mk (some 67) none (.extract 0 (.t 60)), .mk (some 68) none (.extract 1 (.t 60)), .mk (some 11) none
  (.alloc 25 [.st (.str (ByteArray.mk (#[]))), .full []]), .mk none none (.store 2 (.t 11) (.t 67)), .mk (some 12) none (.mov (.t 68))])
  (.seq
  (.ops
  [.mk (some 69) none (.load true 2 (.t 11)), .mk (some 70) none (.buildSlice false 25 2 [.t 69]), .mk (some 71) none
  (.build [.st (.str (ByteArray.mk (#[]))), .full []]
  [(0, 1, .c (.one (.st (.str (ByteArray.mk (#[104])))))),
  (1, 1, .t 70)]), .mk (some 72) none (.mov (.t 12)), .mk none none (.store 2 (.t 8) (.t 71)), .mk (some 9) none (.mov (.t 72))])
  .ret))
  (.seq
  (.ops
  [.mk (some 74) none (.bin .eql (.t 57) (.c (.one (.st (.int .i64 1))))), .mk (some 73) none (.mov (.t 74))])
  (.cond (.t 73)
  (.seq
  (.ops
  [.mk (some 76) none (.mov (.t 0)), .mk (some 77) none (.mov (.t 1)), .mk (some 78) none (.mov (.t 2)), .mk (some 79) none (.bin .sub (.t 78) (.c (.one (.st (.int .i64 1))))), .mk (some 80) none (.mov (.t 3)), .mk (some 81) none (.call 80 [.t 76, .t 77, .t 79, .t 80]), .mk (some 75) none (.mov (.t 81)), .mk (some 82) none (.extract 0 (.t 75)), .mk (some 83) none (.extract 1 (.t 75)), .mk (some 13) none
  (.alloc 25 [.st (.str (ByteArray.mk (#[]))), .full []]), .mk none none (.store 2 (.t 13) (.t 82)), .mk (some 14) none (.mov (.t 83))])
  (.seq
  (.ops
  [.mk (some 84) none (.load true 2 (.t 13)), .mk (some 85) none (.buildSlice false 25 2 [.t 84]), .mk (some 86) none
  (.build [.st (.str (ByteArray.mk (#[]))), .full []]
  [(0, 1, .c (.one (.st (.str (ByteArray.mk (#[107])))))),
  (1, 1, .t 85)]), .mk (some 87) none (.mov (.t 14)), .mk none none (.store 2 (.t 8) (.t 86)), .mk (some 9) none (.mov (.t 87))])
  .ret))
  .skip))))))
  (.seq
  (.ops
  [.mk (some 89) none (.mov (.t 0)), .mk (some 90) none (.mov (.t 1)), .mk (some 91) none (.mov (.t 2)), .mk (some 92) none (.bin .quo (.t 91) (.c (.one (.st (.int .i64 2))))), .mk (some 93) none (.mov (.t 3)), .mk (some 94) none (.call 80 [.t 89, .t 90, .t 92, .t 93]), .mk (some 88) none (.mov (.t 94)), .mk (some 95) none (.extract 0 (.t 88)), .mk (some 96) none (.extract 1 (.t 88)), .mk (some 15) none
  (.alloc 25 [.st (.str (ByteArray.mk (#[]))), .full []]), .mk none none (.store 2 (.t 15) (.t 95)), .mk (some 16) none (.mov (.t 96))])
  (.seq
  (.ops
  [.mk (some 98) none (.mov (.t 0)), .mk (some 99) none (.mov (.t 16)), .mk (some 100) none (.mov (.t 2)), .mk (some 101) none (.bin .quo (.t 100) (.c (.one (.st (.int .i64 2))))), .mk (some 102) none (.mov (.t 3)), .mk (some 103) none (.call 80 [.t 98, .t 99, .t 101, .t 102]), .mk (some 97) none (.mov (.t 103)), .mk (some 104) none (.extract 0 (.t 97)), .mk (some 105) none (.extract 1 (.t 97)), .mk (some 17) none
  (.alloc 25 [.st (.str (ByteArray.mk (#[]))), .full []]), .mk none none (.store 2 (.t 17) (.t 104)), .mk (some 16) none (.mov (.t 105))])
  (.seq
  (.ops
  [.mk (some 106) none
  (.buildSlice false 9 1
  [.c (.one (.st (.str (ByteArray.mk (#[102]))))), .c (.one (.st (.str (ByteArray.mk (#[103])))))]), .mk (some 107) none (.mov (.t 10)), .mk (some 108) none (.bin .quo (.t 107) (.c (.one (.st (.int .i64 5))))), .mk (some 109) none (.call 41
  [.t 108, .c (.one (.st (.int .i64 4)))]), .mk (some 110) none (.bin .sub (.t 109) (.c (.one (.st (.int .i64 2))))), .mk (some 111) none (.indexAddr 1 (.t 106) (.t 110)), .mk (some 112) none (.load false 1 (.t 111)), .mk (some 113) none (.load true 2 (.t 15)), .mk (some 114) none (.load true 2 (.t 17)), .mk (some 115) none (.buildSlice false 25 2 [.t 113, .t 114]), .mk (some 116) none
  (.build [.st (.str (ByteArray.mk (#[]))), .full []]
  [(0, 1, .t 112), (1, 1, .t 115)]), .mk (some 117) none (.mov (.t 16)), .mk none none (.store 2 (.t 8) (.t 116)), .mk (some 9) none (.mov (.t 117))])
  .ret))))))))
theorem tr_R_Grow : trCode Try.prog 118 [] (Try.f80.body.getD .skip) = some ir_R_Grow := by kernel_rfl
theorem ac_R_Grow {xs : List AV} {r : AV} (hn : xs.length ≤ 118) (h : ∀ C : Ctx, C.n = 118 → IWP Try.prog C [] ir_R_Grow (FinQ [.cell 8 true 2, .t 9] r) (AS.start xs)) : ACalls Try.prog 80 xs r :=
  acalls_of Try.func80 rfl tr_R_Grow rfl hn h

def ir_R_TermOf : IR :=
  (.seq
  (.ops
  [.mk (some 8) none
  (.alloc 25 [.st (.str (ByteArray.mk (#[]))), .full []])])
  (.seq
  (.ops
  [.mk (some 12) none (.mov (.t 0)), .mk (some 13) none (.mov (.t 1)), .mk (some 14) none (.mov (.t 2)), .mk (some 15) none (.mov (.t 3)), .mk (some 16) none (.call 80 [.t 12, .t 13, .t 14, .t 15]), .mk (some 11) none (.mov (.t 16)), .mk (some 17) none (.extract 0 (.t 11)), .mk (some 18) none (.extract 1 (.t 11)), .mk (some 9) none
  (.alloc 25 [.st (.str (ByteArray.mk (#[]))), .full []]), .mk none none (.store 2 (.t 9) (.t 17)), .mk (some 10) none (.mov (.t 18))])
  (.seq
  (.ops
  [.mk (some 19) none (.load true 2 (.t 9)), .mk none none (.store 2 (.t 8) (.t 19))])
  .ret)))
theorem tr_R_TermOf : trCode Try.prog 20 [] (Try.f40.body.getD .skip) = some ir_R_TermOf := by kernel_rfl
theorem ac_R_TermOf {xs : List AV} {r : AV} (hn : xs.length ≤ 20) (h : ∀ C : Ctx, C.n = 20 → IWP Try.prog C [] ir_R_TermOf (FinQ [.cell 8 true 2] r) (AS.start xs)) : ACalls Try.prog 40 xs r :=
  acalls_of Try.func40 rfl tr_R_TermOf rfl hn h

def ir_R_PlacesOf : IR :=
  (.seq
  (.ops
  [.mk (some 1) none (.box 25 (.t 0)), .mk (some 2) none (.mov (.c (.one (.full []))))])
  (.seq
  (.ops
  [.mk (some 7) none
  (.buildSlice false 31 1 [.c (.one (.full []))]), .mk (some 3) none (.mov (.t 7))])
  (.seq
  (.seq
  (.ops
  [.mk (some 4) none (.mov (.c (.one (.st (.int .i64 0)))))])
  (.block 0
  (.loop
  (.seq
  (.seq
  (.ops
  [.mk (some 8) none (.mov (.t 4)), .mk (some 9) none (.fieldAddr 1 (.t 1)), .mk (some 10) none (.load false 1 (.t 9)), .mk (some 11) none (.len false (.t 10)), .mk (some 12) none (.bin .lss (.t 8) (.t 11))])
  (.cond (.t 12) .skip (.exit 0)))
  (.seq
  (.block 1
  (.seq
  (.ops
  [.mk (some 15) none (.fieldAddr 1 (.t 1)), .mk (some 16) none (.load false 1 (.t 15)), .mk (some 17) none (.mov (.t 4)), .mk (some 18) none (.indexAddr 2 (.t 16) (.t 17)), .mk (some 19) none (.load true 2 (.t 18)), .mk (some 20) none (.call 32 [.t 19]), .mk (some 5) none (.mov (.t 20))])
  (.seq
  (.ops
  [.mk (some 6) none (.mov (.c (.one (.st (.int .i64 0)))))])
  (.block 2
  (.loop
  (.seq
  (.seq
  (.ops
  [.mk (some 21) none (.mov (.t 6)), .mk (some 22) none (.mov (.t 5)), .mk (some 23) none (.len false (.t 22)), .mk (some 24) none (.bin .lss (.t 21) (.t 23))])
  (.cond (.t 24) .skip (.exit 2)))
  (.seq
  (.block 3
  (.ops
  [.mk (some 27) none (.mov (.t 3)), .mk (some 28) none (.mov (.t 4)), .mk (some 29) none (.buildSlice false 3 1 [.t 28]), .mk (some 30) none (.mov (.t 5)), .mk (some 31) none (.mov (.t 6)), .mk (some 32) none (.indexAddr 1 (.t 30) (.t 31)), .mk (some 33) none (.load false 1 (.t 32)), .mk (some 34) none
  (.append false 3 1 8 (.t 29) (.t 33)), .mk (some 35) none (.buildSlice false 31 1 [.t 34]), .mk (some 36) none
  (.append false 31 1 24 (.t 27) (.t 35)), .mk (some 3) none (.mov (.t 36))]))
  (.ops
  [.mk (some 25) none (.mov (.t 6)), .mk (some 26) none (.bin .add (.t 25) (.c (.one (.st (.int .i64 1))))), .mk (some 6) none (.mov (.t 26))]))))))))
  (.ops
  [.mk (some 13) none (.mov (.t 4)), .mk (some 14) none (.bin .add (.t 13) (.c (.one (.st (.int .i64 1))))), .mk (some 4) none (.mov (.t 14))]))))))
  (.seq
  (.ops
  [.mk (some 37) none (.mov (.t 3)), .mk (some 2) none (.mov (.t 37))])
  .ret))))
theorem tr_R_PlacesOf : trCode Try.prog 38 [] (Try.f32.body.getD .skip) = some ir_R_PlacesOf := by kernel_rfl
theorem ac_R_PlacesOf {xs : List AV} {r : AV} (hn : xs.length ≤ 38) (h : ∀ C : Ctx, C.n = 38 → IWP Try.prog C [] ir_R_PlacesOf (FinQ [.t 2] r) (AS.start xs)) : ACalls Try.prog 32 xs r :=
  acalls_of Try.func32 rfl tr_R_PlacesOf rfl hn h

def ir_L_TermMade : IR :=
  (.seq
  (.ops
  [.mk (some 6) none (.mov (.c (.one (.st (.bool false)))))])
  (.seq
  (.seq
  (.ops
  [.mk (some 11) none (.mov (.t 0)), .mk (some 12) none (.len false (.t 11)), .mk (some 13) none (.bin .gtr (.t 12) (.c (.one (.st (.int .i64 256)))))])
  (.cond (.t 13)
  (.seq
  (.ops
  [.mk (some 6) none (.mov (.c (.one (.st (.bool true)))))])
  .ret)
  .skip))
  (.seq
  (.ops
  [.mk (some 14) none (.mov (.t 0)), .mk (some 15) none (.mov (.t 1)), .mk (some 16) none (.call 41
  [.t 15, .c (.one (.st (.int .i64 20)))]), .mk (some 17) none (.call 40
  [.t 14, .c (.one (.st (.int .i64 0))), .t 16, .c (.one (.st (.int .i64 4)))]), .mk (some 7) none
  (.alloc 25 [.st (.str (ByteArray.mk (#[]))), .full []]), .mk none none (.store 2 (.t 7) (.t 17))])
  (.seq
  (.ops
  [.mk (some 18) none (.mov (.t 0)), .mk (some 19) none (.mov (.t 2)), .mk (some 20) none (.call 41
  [.t 19, .c (.one (.st (.int .i64 6)))]), .mk (some 21) none (.call 40
  [.t 18, .c (.one (.st (.int .i64 60))), .t 20, .c (.one (.st (.int .i64 4)))]), .mk (some 8) none
  (.alloc 25 [.st (.str (ByteArray.mk (#[]))), .full []]), .mk none none (.store 2 (.t 8) (.t 21))])
  (.seq
  (.ops
  [.mk (some 22) none (.load true 2 (.t 7)), .mk (some 23) none (.call 32 [.t 22]), .mk (some 9) none (.mov (.t 23))])
  (.seq
  (.seq
  (.ops
  [.mk (some 10) none (.mov (.c (.one (.st (.int .i64 0)))))])
  (.block 0
  (.loop
  (.seq
  (.seq
  (.ops
  [.mk (some 24) none (.mov (.t 10)), .mk (some 25) none (.mov (.t 9)), .mk (some 26) none (.len false (.t 25)), .mk (some 27) none (.bin .lss (.t 24) (.t 26))])
  (.cond (.t 27) .skip (.exit 0)))
  (.seq
  (.block 1
  (.seq
  (.ops
  [.mk (some 30) none (.load true 2 (.t 7)), .mk (some 31) none (.mov (.t 9)), .mk (some 32) none (.mov (.t 10)), .mk (some 33) none (.indexAddr 1 (.t 31) (.t 32)), .mk (some 34) none (.load false 1 (.t 33)), .mk (some 35) none (.call 8 [.t 30, .t 34]), .mk (some 36) none (.un .not (.t 35)), .mk (some 37) none (.mov (.t 36)), .mk (some 38) (some (37, false)) (.load true 2 (.t 7)), .mk (some 39) (some (37, false)) (.mov (.t 9)), .mk (some 40) (some (37, false)) (.mov (.t 10)), .mk (some 41) (some (37, false))
  (.indexAddr 1 (.t 39) (.t 40)), .mk (some 42) (some (37, false)) (.load false 1 (.t 41)), .mk (some 43) (some (37, false)) (.load true 2 (.t 8)), .mk (some 44) (some (37, false)) (.call 5 [.t 38, .t 42, .t 43]), .mk (some 45) (some (37, false)) (.un .not (.t 44)), .mk (some 46) none
  (.pick (.t 37) (.c (.one (.st (.bool true)))) (.t 45))])
  (.cond (.t 46)
  (.seq
  (.ops
  [.mk (some 6) none (.mov (.c (.one (.st (.bool false)))))])
  .ret)
  .skip)))
  (.ops
  [.mk (some 28) none (.mov (.t 10)), .mk (some 29) none (.bin .add (.t 28) (.c (.one (.st (.int .i64 1))))), .mk (some 10) none (.mov (.t 29))]))))))
  (.seq
  (.ops
  [.mk (some 6) none (.mov (.c (.one (.st (.bool true)))))])
  .ret)))))))
theorem tr_L_TermMade : trCode Try.prog 47 [] (Try.f9.body.getD .skip) = some ir_L_TermMade := by kernel_rfl
theorem ac_L_TermMade {xs : List AV} {r : AV} (hn : xs.length ≤ 47) (h : ∀ C : Ctx, C.n = 47 → IWP Try.prog C [] ir_L_TermMade (FinQ [.t 6] r) (AS.start xs)) : ACalls Try.prog 9 xs r :=
  acalls_of Try.func9 rfl tr_L_TermMade rfl hn h

end Go.Proofs.Ytkjbaabkaboaoaa
