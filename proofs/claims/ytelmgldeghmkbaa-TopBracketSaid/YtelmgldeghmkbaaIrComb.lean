/-
  The program's functions in abstract operations: written by a program of mine out of the translation; each is shown to be the translation's.
  Conditions: none.
-/
import Derived.Test.YtelmgldeghmkbaaBVars
namespace Go.Proofs.Ytelmgldeghmkbaa
open Go Go.RowKit
set_option maxRecDepth 100000

def ir_comb_form : IR :=
  (.seq
  (.ops
  [.mk (some 1) none (.box 25 (.t 0)) .no, .mk (some 2) none (.mov (.c (.one (.st (.int .i64 0)))))
  .no])
  (.seq
  (.seq
  (.ops
  [.mk (some 3) none (.fieldAddr 1 (.t 1)) .no, .mk (some 4) none (.load false 1 (.t 3)) .no, .mk (some 5) none (.len false (.t 4)) .no, .mk (some 6) none (.bin .eql (.t 5) (.c (.one (.st (.int .i64 0)))))
  .no])
  (.cond (.t 6)
  (.seq
  (.ops
  [.mk (some 2) none (.mov (.c (.one (.st (.int .i64 0)))))
  .no])
  .ret)
  .skip))
  (.seq
  (.seq
  (.ops
  [.mk (some 7) none (.fieldAddr 0 (.t 1)) .no, .mk (some 8) none (.load false 1 (.t 7)) .no, .mk (some 9) none (.bin .neq (.t 8) (.c (.one (.st (.str (ByteArray.mk (#[97, 112])))))))
  .no, .mk (some 10) none (.mov (.t 9)) .no, .mk (some 11) (some (10, false)) (.fieldAddr 1 (.t 1)) .no, .mk (some 12) (some (10, false)) (.load false 1 (.t 11)) .no, .mk (some 13) (some (10, false)) (.len false (.t 12)) .no, .mk (some 14) (some (10, false)) (.bin .neq (.t 13) (.c (.one (.st (.int .i64 2)))))
  .no, .mk (some 15) none
  (.pick (.t 10) (.c (.one (.st (.bool true)))) (.t 14))
  .no])
  (.cond (.t 15)
  (.seq
  (.ops
  [.mk (some 2) none (.mov (.c (.one (.st (.int .i64 2)))))
  .no])
  .ret)
  .skip))
  (.seq
  (.ops
  [.mk (some 16) none (.fieldAddr 1 (.t 1)) .no, .mk (some 17) none (.load false 1 (.t 16)) .no, .mk (some 18) none
  (.indexAddr 2 (.t 17) (.c (.one (.st (.int .i64 0)))))
  .no, .mk (some 19) none (.load true 2 (.t 18)) .no, .mk (some 20) none (.call 29 [.t 19]) .no, .mk (some 21) none (.fieldAddr 1 (.t 1)) .no, .mk (some 22) none (.load false 1 (.t 21)) .no, .mk (some 23) none
  (.indexAddr 2 (.t 22) (.c (.one (.st (.int .i64 1)))))
  .no, .mk (some 24) none (.load true 2 (.t 23)) .no, .mk (some 25) none (.call 29 [.t 24]) .no, .mk (some 26) none (.mm true (.t 20) (.t 25))
  .no, .mk (some 2) none (.mov (.t 26)) .no])
  .ret))))
theorem tr_comb_form : trCode Try.prog 27 [] (Try.f29.body.getD .skip) = some ir_comb_form := by kernel_rfl
theorem ac_comb_form {xs : List AV} {r : AV} (hn : xs.length ≤ 27) (h : ∀ C : Ctx, C.n = 27 → IWP Try.prog C [] ir_comb_form (FinQ [.t 2] r) (AS.start xs)) : ACalls Try.prog 29 xs r :=
  acalls_of Try.func29 rfl tr_comb_form rfl hn h
theorem acS_comb_form {xs : List AV} {S S' : AStore} {r : AV} (hn : xs.length ≤ 27) (h : Clean S → ∀ C : Ctx, C.n = 27 → IWP Try.prog C [] ir_comb_form (FinS C [.t 2] r S') (AS.startS xs S)) : ACallsS Try.prog 29 xs S r S' :=
  acallsS_of Try.func29 rfl tr_comb_form rfl hn h

def ir_comb_Check : IR :=
  (.seq
  (.ops
  [.mk (some 1) none (.box 25 (.t 0)) .no, .mk (some 2) none (.mov (.c (.one (.st (.int .i64 0)))))
  .no])
  (.seq
  (.seq
  (.ops
  [.mk (some 4) none (.load true 2 (.t 1)) .no, .mk (some 5) none (.call 28 [.t 4]) .no, .mk (some 3) none (.mov (.t 5)) .no])
  (.seq
  (.ops
  [.mk (some 6) none (.mov (.t 3)) .no, .mk (some 7) none (.bin .neq (.t 6) (.c (.one (.st (.int .i64 0)))))
  .no])
  (.cond (.t 7)
  (.seq
  (.ops
  [.mk (some 8) none (.mov (.t 3)) .no, .mk (some 2) none (.mov (.t 8)) .no])
  .ret)
  .skip)))
  (.seq
  (.ops
  [.mk (some 9) none (.load true 2 (.t 1)) .no, .mk (some 10) none (.call 29 [.t 9]) .no, .mk (some 2) none (.mov (.t 10)) .no])
  .ret)))
theorem tr_comb_Check : trCode Try.prog 11 [] (Try.f16.body.getD .skip) = some ir_comb_Check := by kernel_rfl
theorem ac_comb_Check {xs : List AV} {r : AV} (hn : xs.length ≤ 11) (h : ∀ C : Ctx, C.n = 11 → IWP Try.prog C [] ir_comb_Check (FinQ [.t 2] r) (AS.start xs)) : ACalls Try.prog 16 xs r :=
  acalls_of Try.func16 rfl tr_comb_Check rfl hn h
theorem acS_comb_Check {xs : List AV} {S S' : AStore} {r : AV} (hn : xs.length ≤ 11) (h : Clean S → ∀ C : Ctx, C.n = 11 → IWP Try.prog C [] ir_comb_Check (FinS C [.t 2] r S') (AS.startS xs S)) : ACallsS Try.prog 16 xs S r S' :=
  acallsS_of Try.func16 rfl tr_comb_Check rfl hn h

def ir_comb_ap : IR :=
  (.seq
  (.ops
  [.mk (some 2) none (.box 25 (.t 0)) .no, .mk (some 3) none (.box 25 (.t 1)) .no, .mk (some 4) none
  (.alloc 25 [.st (.str (ByteArray.mk (#[]))), .full []]) .no])
  (.seq
  (.ops
  [.mk (some 5) none (.load true 2 (.t 2)) .no, .mk (some 6) none (.load true 2 (.t 3)) .no, .mk (some 7) none (.buildSlice false 25 2 [.t 5, .t 6])
  .no, .mk (some 8) none
  (.build [.st (.str (ByteArray.mk (#[]))), .full []]
  [(0, 1, .c (.one (.st (.str (ByteArray.mk (#[97, 112])))))),
  (1, 1, .t 7)])
  .no, .mk none none (.store 2 (.t 4) (.t 8)) .no])
  .ret))
theorem tr_comb_ap : trCode Try.prog 9 [] (Try.f31.body.getD .skip) = some ir_comb_ap := by kernel_rfl
theorem ac_comb_ap {xs : List AV} {r : AV} (hn : xs.length ≤ 9) (h : ∀ C : Ctx, C.n = 9 → IWP Try.prog C [] ir_comb_ap (FinQ [.cell 4 true 2] r) (AS.start xs)) : ACalls Try.prog 31 xs r :=
  acalls_of Try.func31 rfl tr_comb_ap rfl hn h
theorem acS_comb_ap {xs : List AV} {S S' : AStore} {r : AV} (hn : xs.length ≤ 9) (h : Clean S → ∀ C : Ctx, C.n = 9 → IWP Try.prog C [] ir_comb_ap (FinS C [.cell 4 true 2] r S') (AS.startS xs S)) : ACallsS Try.prog 31 xs S r S' :=
  acallsS_of Try.func31 rfl tr_comb_ap rfl hn h

def ir_R_Put2 : IR :=
  (.seq
  (.ops
  [.mk (some 2) none (.box 25 (.t 0)) .no, .mk (some 3) none (.box 25 (.t 1)) .no, .mk (some 4) none
  (.alloc 25 [.st (.str (ByteArray.mk (#[]))), .full []]) .no])
  (.seq
  (.ops
  [.mk (some 5) none (.load true 2 (.t 2)) .no, .mk (some 6) none (.load true 2 (.t 3)) .no, .mk (some 7) none (.buildSlice false 25 2 [.t 5, .t 6])
  .no, .mk (some 8) none
  (.build [.st (.str (ByteArray.mk (#[]))), .full []]
  [(0, 1, .c (.one (.st (.str (ByteArray.mk (#[97, 112])))))),
  (1, 1, .t 7)])
  .no, .mk none none (.store 2 (.t 4) (.t 8)) .no])
  .ret))
theorem tr_R_Put2 : trCode Try.prog 9 [] (Try.f11.body.getD .skip) = some ir_R_Put2 := by kernel_rfl
theorem ac_R_Put2 {xs : List AV} {r : AV} (hn : xs.length ≤ 9) (h : ∀ C : Ctx, C.n = 9 → IWP Try.prog C [] ir_R_Put2 (FinQ [.cell 4 true 2] r) (AS.start xs)) : ACalls Try.prog 11 xs r :=
  acalls_of Try.func11 rfl tr_R_Put2 rfl hn h
theorem acS_R_Put2 {xs : List AV} {S S' : AStore} {r : AV} (hn : xs.length ≤ 9) (h : Clean S → ∀ C : Ctx, C.n = 9 → IWP Try.prog C [] ir_R_Put2 (FinS C [.cell 4 true 2] r S') (AS.startS xs S)) : ACallsS Try.prog 11 xs S r S' :=
  acallsS_of Try.func11 rfl tr_R_Put2 rfl hn h

def ir_comb_step_1 : IR :=
  (.seq
  (.ops
  [.mk (some 4) none
  (.alloc 25 [.st (.str (ByteArray.mk (#[]))), .full []]) .no])
  (.seq
  (.ops
  [.mk (some 5) none (.load false 1 (.t 1)) .no, .mk (some 6) none (.load false 1 (.t 2)) .no, .mk (some 7) none (.bin .sub (.t 6) (.c (.one (.st (.int .i64 1)))))
  .no, .mk (some 8) none (.mov (.t 0)) .no, .mk (some 9) none (.bin .sub (.t 7) (.t 8)) .no, .mk (some 10) none (.indexAddr 2 (.t 5) (.t 9)) .no, .mk (some 11) none (.load true 2 (.t 10)) .no, .mk none none (.store 2 (.t 4) (.t 11)) .no])
  .ret))
theorem tr_comb_step_1 : trCode Try.prog 12 [] (Try.f34.body.getD .skip) = some ir_comb_step_1 := by kernel_rfl
theorem ac_comb_step_1 {xs : List AV} {r : AV} (hn : xs.length ≤ 12) (h : ∀ C : Ctx, C.n = 12 → IWP Try.prog C [] ir_comb_step_1 (FinQ [.cell 4 true 2] r) (AS.start xs)) : ACalls Try.prog 34 xs r :=
  acalls_of Try.func34 rfl tr_comb_step_1 rfl hn h
theorem acS_comb_step_1 {xs : List AV} {S S' : AStore} {r : AV} (hn : xs.length ≤ 12) (h : Clean S → ∀ C : Ctx, C.n = 12 → IWP Try.prog C [] ir_comb_step_1 (FinS C [.cell 4 true 2] r S') (AS.startS xs S)) : ACallsS Try.prog 34 xs S r S' :=
  acallsS_of Try.func34 rfl tr_comb_step_1 rfl hn h

def ir_slices_Clone_metaprune_api_Term_metaprune_api_Term : IR :=
  (.seq
  (.ops
  [.mk (some 2) none (.mov (.c (.one (.full []))))
  .no])
  (.seq
  (.seq
  (.ops
  [.mk (some 3) none (.mov (.t 0)) .no, .mk (some 4) none (.eqN false (.t 3)) .no])
  (.cond (.t 4)
  (.seq
  (.ops
  [.mk (some 2) none (.mov (.c (.one (.full []))))
  .no])
  .ret)
  .skip))
  (.seq
  (.ops
  [.mk (some 5) none (.buildSlice false 25 2 []) .no, .mk (some 6) none (.mov (.t 0)) .no, .mk (some 7) none (.append true 25 2 40 (.t 5) (.t 6))
  .no, .mk (some 2) none (.mov (.t 7)) .no])
  .ret)))
theorem tr_slices_Clone_metaprune_api_Term_metaprune_api_Term : trCode Try.prog 8 [7] (Try.f35.body.getD .skip) = some ir_slices_Clone_metaprune_api_Term_metaprune_api_Term := by kernel_rfl
theorem ac_slices_Clone_metaprune_api_Term_metaprune_api_Term {xs : List AV} {r : AV} (hn : xs.length ≤ 8) (h : ∀ C : Ctx, C.n = 8 → IWP Try.prog C [7] ir_slices_Clone_metaprune_api_Term_metaprune_api_Term (FinQ [.t 2] r) (AS.start xs)) : ACalls Try.prog 35 xs r :=
  acalls_of Try.func35 rfl tr_slices_Clone_metaprune_api_Term_metaprune_api_Term rfl hn h
theorem acS_slices_Clone_metaprune_api_Term_metaprune_api_Term {xs : List AV} {S S' : AStore} {r : AV} (hn : xs.length ≤ 8) (h : Clean S → ∀ C : Ctx, C.n = 8 → IWP Try.prog C [7] ir_slices_Clone_metaprune_api_Term_metaprune_api_Term (FinS C [.t 2] r S') (AS.startS xs S)) : ACallsS Try.prog 35 xs S r S' :=
  acallsS_of Try.func35 rfl tr_slices_Clone_metaprune_api_Term_metaprune_api_Term rfl hn h

def ir_comb_step : IR :=
  (.seq
  (.ops
  [.mk (some 1) none (.box 25 (.t 0)) .no, .mk (some 2) none
  (.alloc 25 [.st (.str (ByteArray.mk (#[]))), .full []]) .no, .mk (some 3) none (.mov (.c (.one (.st (.bool false)))))
  .no])
  (.seq
  (.ops [.mk (some 4) none (.alloc 23 [.full []]) .no])
  (.seq
  (.ops
  [.mk (some 15) none (.load true 2 (.t 1)) .no, .mk (some 5) none
  (.alloc 25 [.st (.str (ByteArray.mk (#[]))), .full []]) .no, .mk none none (.store 2 (.t 5) (.t 15)) .no])
  (.seq
  (.block 0
  (.loop
  (.seq
  (.seq
  (.ops
  [.mk (some 16) none (.fieldAddr 1 (.t 5)) .no, .mk (some 17) none (.load false 1 (.t 16)) .no, .mk (some 18) none (.len false (.t 17)) .no, .mk (some 19) none (.bin .eql (.t 18) (.c (.one (.st (.int .i64 2)))))
  .no])
  (.cond (.t 19) .skip (.exit 0)))
  (.block 1
  (.seq
  (.ops
  [.mk (some 20) none (.load false 1 (.t 4)) .no, .mk (some 21) none (.fieldAddr 1 (.t 5)) .no, .mk (some 22) none (.load false 1 (.t 21)) .no, .mk (some 23) none
  (.indexAddr 2 (.t 22) (.c (.one (.st (.int .i64 1)))))
  .no, .mk (some 24) none (.load true 2 (.t 23)) .no, .mk (some 25) none (.len false (.t 20)) .no, .mk (some 26) none
  (.buildSlice false 25 2
  [.c
  (.agg [.st (.str (ByteArray.mk (#[]))), .full []])])
  .no, .mk (some 27) none (.append true 25 2 40 (.t 20) (.t 26))
  .no, .mk (some 28) none (.indexAddr 2 (.t 27) (.t 25))
  .no, .mk none none (.store 2 (.t 28) (.t 24))
  (.onb 27), .mk none none (.store 1 (.t 4) (.t 27))
  (.onb 4)])
  (.ops
  [.mk (some 29) none (.fieldAddr 1 (.t 5)) .no, .mk (some 30) none (.load false 1 (.t 29)) .no, .mk (some 31) none
  (.indexAddr 2 (.t 30) (.c (.one (.st (.int .i64 0)))))
  .no, .mk (some 32) none (.load true 2 (.t 31)) .no, .mk none none (.store 2 (.t 5) (.t 32))
  .no]))))))
  (.seq
  (.ops
  [.mk (some 33) none (.load false 1 (.t 4)) .no, .mk (some 34) none (.len false (.t 33)) .no, .mk (some 6) none (.alloc 3 [.st (.int .i64 0)])
  .no, .mk none none (.store 1 (.t 6) (.t 34)) .no])
  (.seq
  (.ops
  [.mk (some 35) none (.makeFunc 34 [.t 4, .t 6])
  .no, .mk (some 7) none (.mov (.t 35)) .no])
  (.seq
  (.ops
  [.mk (some 8) none
  (.alloc 25 [.st (.str (ByteArray.mk (#[]))), .full []])
  .no])
  (.seq
  (.ops
  [.mk (some 9) none (.mov (.c (.one (.st (.int .i64 0)))))
  .no])
  (.seq
  (.block 2
  (.seq
  (.ops
  [.mk (some 72) none (.fieldAddr 0 (.t 5)) .no, .mk (some 73) none (.load false 1 (.t 72)) .no, .mk (some 74) none (.bin .eql (.t 73) (.c (.one (.st (.str (ByteArray.mk (#[105])))))))
  .no, .mk (some 75) none (.mov (.t 74)) .no, .mk (some 76) (some (75, true)) (.load false 1 (.t 6)) .no, .mk (some 77) (some (75, true)) (.bin .gtr (.t 76) (.c (.one (.st (.int .i64 0)))))
  .no, .mk (some 78) none
  (.pick (.t 75) (.t 77) (.c (.one (.st (.bool false)))))
  .no, .mk (some 71) none (.mov (.t 78)) .no])
  (.cond (.t 71)
  (.ops
  [.mk (some 79) none (.mov (.t 7)) .no, .mk (some 80) none
  (.callV (.t 79)
  [.c (.one (.st (.int .i64 0)))])
  .no, .mk none none (.store 2 (.t 8) (.t 80))
  .no, .mk (some 9) none (.mov (.c (.one (.st (.int .i64 1)))))
  .no])
  (.seq
  (.ops
  [.mk (some 82) none (.fieldAddr 0 (.t 5)) .no, .mk (some 83) none (.load false 1 (.t 82)) .no, .mk (some 84) none (.bin .eql (.t 83) (.c (.one (.st (.str (ByteArray.mk (#[107])))))))
  .no, .mk (some 85) none (.mov (.t 84)) .no, .mk (some 86) (some (85, true)) (.load false 1 (.t 6))
  .no, .mk (some 87) (some (85, true)) (.bin .gtr (.t 86) (.c (.one (.st (.int .i64 1)))))
  .no, .mk (some 88) none
  (.pick (.t 85) (.t 87) (.c (.one (.st (.bool false)))))
  .no, .mk (some 81) none (.mov (.t 88)) .no])
  (.cond (.t 81)
  (.ops
  [.mk (some 89) none (.mov (.t 7)) .no, .mk (some 90) none
  (.callV (.t 89)
  [.c (.one (.st (.int .i64 0)))])
  .no, .mk none none (.store 2 (.t 8) (.t 90))
  .no, .mk (some 9) none (.mov (.c (.one (.st (.int .i64 2)))))
  .no])
  (.seq
  (.ops
  [.mk (some 92) none (.fieldAddr 0 (.t 5)) .no, .mk (some 93) none (.load false 1 (.t 92)) .no, .mk (some 94) none (.bin .eql (.t 93) (.c (.one (.st (.str (ByteArray.mk (#[115])))))))
  .no, .mk (some 95) none (.mov (.t 94)) .no, .mk (some 96) (some (95, true)) (.load false 1 (.t 6))
  .no, .mk (some 97) (some (95, true)) (.bin .gtr (.t 96) (.c (.one (.st (.int .i64 2)))))
  .no, .mk (some 98) none
  (.pick (.t 95) (.t 97) (.c (.one (.st (.bool false)))))
  .no, .mk (some 91) none (.mov (.t 98)) .no])
  (.cond (.t 91)
  (.ops
  [.mk (some 99) none (.mov (.t 7)) .no, .mk (some 100) none
  (.callV (.t 99)
  [.c (.one (.st (.int .i64 0)))])
  .no, .mk (some 101) none (.mov (.t 7)) .no, .mk (some 102) none
  (.callV (.t 101)
  [.c (.one (.st (.int .i64 2)))])
  .no, .mk (some 103) none (.call 31 [.t 100, .t 102])
  .no, .mk (some 104) none (.mov (.t 7)) .no, .mk (some 105) none
  (.callV (.t 104)
  [.c (.one (.st (.int .i64 1)))])
  .no, .mk (some 106) none (.mov (.t 7)) .no, .mk (some 107) none
  (.callV (.t 106)
  [.c (.one (.st (.int .i64 2)))])
  .no, .mk (some 108) none (.call 31 [.t 105, .t 107])
  .no, .mk (some 109) none (.call 31 [.t 103, .t 108])
  .no, .mk none none (.store 2 (.t 8) (.t 109))
  .no, .mk (some 9) none (.mov (.c (.one (.st (.int .i64 3)))))
  .no])
  (.seq
  (.seq
  (.ops
  [.mk (some 36) none (.load false 1 (.t 6)) .no, .mk (some 37) none (.mov (.c (.one (.st (.int .i64 0)))))
  .no])
  (.block 3
  (.loop
  (.seq
  (.ops
  [.mk (some 38) none (.bin .lss (.t 37) (.t 36)) .no])
  (.seq (.cond (.t 38) .skip (.exit 3))
  (.seq
  (.block 4
  (.seq
  (.ops
  [.mk (some 39) none (.mov (.t 37)) .no, .mk (some 10) none (.mov (.t 39)) .no])
  (.seq
  (.ops
  [.mk (some 41) none (.mov (.t 7)) .no, .mk (some 42) none (.mov (.t 10)) .no, .mk (some 43) none
  (.callV (.t 41) [.t 42]) .no, .mk (some 44) none (.call 22 [.t 43])
  .no, .mk (some 40) none (.mov (.t 44)) .no, .mk (some 45) none (.extract 0 (.t 40))
  .no, .mk (some 46) none (.extract 1 (.t 40))
  .no, .mk (some 11) none
  (.alloc 25
  [.st (.str (ByteArray.mk (#[]))), .full []])
  .no, .mk none none (.store 2 (.t 11) (.t 45)) .no, .mk (some 12) none (.mov (.t 46)) .no])
  (.seq
  (.ops
  [.mk (some 47) none (.mov (.t 12))
  .no])
  (.cond (.t 47)
  (.seq
  (.ops
  [.mk (some 48) none (.load false 1 (.t 4))
  .no, .mk (some 49) none (.callS 35 [.t 48])
  .no, .mk none none (.store 1 (.t 4) (.t 49)) .no])
  (.seq
  (.ops
  [.mk (some 50) none (.load false 1 (.t 4))
  .no, .mk (some 51) none (.load false 1 (.t 6))
  .no, .mk (some 52) none (.bin .sub (.t 51) (.c (.one (.st (.int .i64 1)))))
  .no, .mk (some 53) none (.mov (.t 10))
  .no, .mk (some 54) none (.bin .sub (.t 52) (.t 53)) .no, .mk (some 55) none (.load true 2 (.t 11))
  .no, .mk (some 56) none
  (.indexAddr 2 (.t 50) (.t 54)) .no, .mk none none (.store 2 (.t 56) (.t 55)) .no])
  (.seq
  (.ops
  [.mk (some 57) none (.load true 2 (.t 5))
  .no, .mk none none (.store 2 (.t 8) (.t 57)) .no])
  (.seq
  (.seq
  (.ops
  [.mk (some 58) none (.load false 1 (.t 6))
  .no, .mk (some 59) none (.mov (.c (.one (.st (.int .i64 0)))))
  .no])
  (.block 5
  (.loop
  (.seq
  (.ops
  [.mk (some 60) none (.bin .lss (.t 59) (.t 58))
  .no])
  (.seq
  (.cond (.t 60) .skip (.exit 5))
  (.seq
  (.block 6
  (.seq
  (.ops
  [.mk (some 61) none (.mov (.t 59))
  .no, .mk (some 13) none (.mov (.t 61))
  .no])
  (.ops
  [.mk (some 62) none (.load true 2 (.t 8)) (.onb 8), .mk (some 63) none (.mov (.t 7))
  .no, .mk (some 64) none (.mov (.t 13))
  .no, .mk (some 65) none
  (.callV (.t 63) [.t 64])
  (.keeps [8]), .mk (some 66) none (.call 31 [.t 62, .t 65])
  .no, .mk none none (.store 2 (.t 8) (.t 66))
  .no])))
  (.ops
  [.mk (some 67) none (.bin .add (.t 59) (.c (.one (.st (.int .i64 1)))))
  .no, .mk (some 59) none (.mov (.t 67))
  .no])))))))
  (.seq
  (.ops
  [.mk (some 68) none (.load true 2 (.t 8))
  .no, .mk none none (.store 2 (.t 2) (.t 68)) .no, .mk (some 3) none (.mov (.c (.one (.st (.bool true)))))
  .no])
  .ret)))))
  .skip)))))
  (.ops
  [.mk (some 69) none (.bin .add (.t 37) (.c (.one (.st (.int .i64 1)))))
  .no, .mk (some 37) none (.mov (.t 69)) .no])))))))
  (.seq
  (.ops
  [.mk (some 70) none (.load true 2 (.t 1)) .no, .mk none none (.store 2 (.t 2) (.t 70))
  .no, .mk (some 3) none (.mov (.c (.one (.st (.bool false)))))
  .no])
  .ret)))))))))
  (.seq
  (.seq
  (.ops
  [.mk (some 110) none (.mov (.t 9)) .no, .mk (some 14) none (.mov (.t 110)) .no])
  (.block 7
  (.loop
  (.seq
  (.seq
  (.ops
  [.mk (some 111) none (.mov (.t 14)) .no, .mk (some 112) none (.load false 1 (.t 6)) .no, .mk (some 113) none (.bin .lss (.t 111) (.t 112))
  .no])
  (.cond (.t 113) .skip (.exit 7)))
  (.seq
  (.block 8
  (.ops
  [.mk (some 116) none (.load true 2 (.t 8)) (.onb 8), .mk (some 117) none (.mov (.t 7)) .no, .mk (some 118) none (.mov (.t 14)) .no, .mk (some 119) none (.callV (.t 117) [.t 118])
  (.keeps [8]), .mk (some 120) none (.call 31 [.t 116, .t 119])
  .no, .mk none none (.store 2 (.t 8) (.t 120))
  .no]))
  (.ops
  [.mk (some 114) none (.mov (.t 14)) .no, .mk (some 115) none (.bin .add (.t 114) (.c (.one (.st (.int .i64 1)))))
  .no, .mk (some 14) none (.mov (.t 115)) .no]))))))
  (.seq
  (.ops
  [.mk (some 121) none (.load true 2 (.t 8)) .no, .mk none none (.store 2 (.t 2) (.t 121))
  .no, .mk (some 3) none (.mov (.c (.one (.st (.bool true)))))
  .no])
  .ret)))))))))))
theorem tr_comb_step : trCode Try.prog 122 [27, 10280027, 49] (Try.f22.body.getD .skip) = some ir_comb_step := by kernel_rfl
theorem ac_comb_step {xs : List AV} {r : AV} (hn : xs.length ≤ 122) (h : ∀ C : Ctx, C.n = 122 → IWP Try.prog C [27, 10280027, 49] ir_comb_step (FinQ [.cell 2 true 2, .t 3] r) (AS.start xs)) : ACalls Try.prog 22 xs r :=
  acalls_of Try.func22 rfl tr_comb_step rfl hn h
theorem acS_comb_step {xs : List AV} {S S' : AStore} {r : AV} (hn : xs.length ≤ 122) (h : Clean S → ∀ C : Ctx, C.n = 122 → IWP Try.prog C [27, 10280027, 49] ir_comb_step (FinS C [.cell 2 true 2, .t 3] r S') (AS.startS xs S)) : ACallsS Try.prog 22 xs S r S' :=
  acallsS_of Try.func22 rfl tr_comb_step rfl hn h

def ir_comb_Run : IR :=
  (.seq
  (.ops
  [.mk (some 2) none (.box 25 (.t 0)) .no, .mk (some 4) none
  (.alloc 25 [.st (.str (ByteArray.mk (#[]))), .full []]) .no, .mk (some 5) none (.mov (.c (.one (.st (.int .i64 0)))))
  .no, .mk (some 6) none (.mov (.c (.one (.st (.int .i64 0)))))
  .no])
  (.seq
  (.ops
  [.mk (some 11) none (.load true 2 (.t 2)) .no, .mk (some 12) none (.call 16 [.t 11]) .no, .mk (some 7) none (.mov (.t 12)) .no])
  (.seq
  (.seq
  (.ops
  [.mk (some 13) none (.mov (.t 7)) .no, .mk (some 14) none (.bin .eql (.t 13) (.c (.one (.st (.int .i64 0)))))
  .no, .mk (some 15) none (.mov (.t 14)) .no, .mk (some 16) (some (15, true)) (.mov (.t 1)) .no, .mk (some 17) (some (15, true)) (.bin .lss (.t 16) (.c (.one (.st (.int .i64 0)))))
  .no, .mk (some 18) (some (15, true)) (.mov (.t 17)) .no, .mk (some 19) (some (18, false)) (.mov (.t 1)) .no, .mk (some 20) (some (18, false)) (.bin .gtr (.t 19) (.c (.one (.st (.int .i64 400)))))
  .no, .mk (some 21) (some (15, true))
  (.pick (.t 18) (.c (.one (.st (.bool true)))) (.t 20))
  .no, .mk (some 22) none
  (.pick (.t 15) (.t 21) (.c (.one (.st (.bool false)))))
  .no])
  (.cond (.t 22)
  (.ops
  [.mk (some 7) none (.mov (.c (.one (.st (.int .i64 10)))))
  .no])
  .skip))
  (.seq
  (.seq
  (.ops
  [.mk (some 23) none (.mov (.t 7)) .no, .mk (some 24) none (.bin .neq (.t 23) (.c (.one (.st (.int .i64 0)))))
  .no])
  (.cond (.t 24)
  (.seq
  (.ops
  [.mk (some 25) none
  (.build [.st (.str (ByteArray.mk (#[]))), .full []] [])
  .no, .mk (some 26) none (.mov (.t 7)) .no, .mk none none (.store 2 (.t 4) (.t 25)) .no, .mk (some 5) none (.mov (.c (.one (.st (.int .i64 0)))))
  .no, .mk (some 6) none (.mov (.t 26)) .no])
  .ret)
  .skip))
  (.seq
  (.ops
  [.mk (some 8) none (.mov (.c (.one (.st (.int .i64 0)))))
  .no])
  (.block 0
  (.loop
  (.seq
  (.block 1
  (.seq
  (.ops
  [.mk (some 30) none (.load true 2 (.t 2)) .no, .mk (some 31) none (.call 22 [.t 30]) .no, .mk (some 29) none (.mov (.t 31)) .no, .mk (some 32) none (.extract 0 (.t 29)) .no, .mk (some 33) none (.extract 1 (.t 29)) .no, .mk (some 9) none
  (.alloc 25 [.st (.str (ByteArray.mk (#[]))), .full []])
  .no, .mk none none (.store 2 (.t 9) (.t 32))
  .no, .mk (some 10) none (.mov (.t 33)) .no])
  (.seq
  (.seq
  (.ops
  [.mk (some 34) none (.mov (.t 10)) .no, .mk (some 35) none (.un .not (.t 34)) .no])
  (.cond (.t 35)
  (.seq
  (.ops
  [.mk (some 36) none (.load true 2 (.t 2)) .no, .mk (some 37) none (.call 23 [.t 36]) .no, .mk (some 38) none (.mov (.t 8)) .no, .mk none none (.store 2 (.t 4) (.t 37))
  .no, .mk (some 5) none (.mov (.t 38)) .no, .mk (some 6) none (.mov (.c (.one (.st (.int .i64 0)))))
  .no])
  .ret)
  .skip))
  (.seq
  (.seq
  (.ops
  [.mk (some 39) none (.mov (.t 8)) .no, .mk (some 40) none (.mov (.t 1)) .no, .mk (some 41) none (.bin .eql (.t 39) (.t 40))
  .no])
  (.cond (.t 41)
  (.seq
  (.ops
  [.mk (some 42) none
  (.build [.st (.str (ByteArray.mk (#[]))), .full []] [])
  .no, .mk none none (.store 2 (.t 4) (.t 42))
  .no, .mk (some 5) none (.mov (.c (.one (.st (.int .i64 0)))))
  .no, .mk (some 6) none (.mov (.c (.one (.st (.int .i64 9)))))
  .no])
  .ret)
  .skip))
  (.seq
  (.ops
  [.mk (some 43) none (.load true 2 (.t 9)) .no, .mk none none (.store 2 (.t 2) (.t 43))
  .no])
  (.seq
  (.ops
  [.mk (some 44) none (.load true 2 (.t 2)) .no, .mk (some 45) none (.call 24 [.t 44]) .no, .mk (some 46) none (.bin .gtr (.t 45) (.c (.one (.st (.int .i64 2000)))))
  .no])
  (.cond (.t 46)
  (.seq
  (.ops
  [.mk (some 47) none
  (.build [.st (.str (ByteArray.mk (#[]))), .full []] [])
  .no, .mk none none (.store 2 (.t 4) (.t 47))
  .no, .mk (some 5) none (.mov (.c (.one (.st (.int .i64 0)))))
  .no, .mk (some 6) none (.mov (.c (.one (.st (.int .i64 8)))))
  .no])
  .ret)
  .skip)))))))
  (.ops
  [.mk (some 27) none (.mov (.t 8)) .no, .mk (some 28) none (.bin .add (.t 27) (.c (.one (.st (.int .i64 1)))))
  .no, .mk (some 8) none (.mov (.t 28)) .no])))))))))
theorem tr_comb_Run : trCode Try.prog 48 [] (Try.f10.body.getD .skip) = some ir_comb_Run := by kernel_rfl
theorem ac_comb_Run {xs : List AV} {r : AV} (hn : xs.length ≤ 48) (h : ∀ C : Ctx, C.n = 48 → IWP Try.prog C [] ir_comb_Run (FinQ [.cell 4 true 2, .t 5, .t 6] r) (AS.start xs)) : ACalls Try.prog 10 xs r :=
  acalls_of Try.func10 rfl tr_comb_Run rfl hn h
theorem acS_comb_Run {xs : List AV} {S S' : AStore} {r : AV} (hn : xs.length ≤ 48) (h : Clean S → ∀ C : Ctx, C.n = 48 → IWP Try.prog C [] ir_comb_Run (FinS C [.cell 4 true 2, .t 5, .t 6] r S') (AS.startS xs S)) : ACallsS Try.prog 10 xs S r S' :=
  acallsS_of Try.func10 rfl tr_comb_Run rfl hn h

def ir_term_Size : IR :=
  (.seq
  (.ops
  [.mk (some 1) none (.box 25 (.t 0)) .no, .mk (some 2) none (.mov (.c (.one (.st (.int .i64 0)))))
  .no])
  (.seq
  (.ops
  [.mk (some 3) none (.mov (.c (.one (.st (.int .i64 1)))))
  .no])
  (.seq
  (.seq
  (.ops
  [.mk (some 6) none (.fieldAddr 1 (.t 1)) .no, .mk (some 7) none (.load false 1 (.t 6)) .no, .mk (some 8) none (.len false (.t 7)) .no, .mk (some 9) none (.mov (.c (.one (.st (.int .i64 0)))))
  .no])
  (.block 0
  (.loop
  (.seq
  (.ops
  [.mk (some 10) none (.bin .lss (.t 9) (.t 8))
  .no])
  (.seq (.cond (.t 10) .skip (.exit 0))
  (.seq
  (.block 1
  (.seq
  (.ops
  [.mk (some 11) none (.indexAddr 2 (.t 7) (.t 9))
  .no, .mk (some 12) none (.load true 2 (.t 11)) .no, .mk (some 5) none
  (.alloc 25 [.st (.str (ByteArray.mk (#[]))), .full []])
  .no, .mk none none (.store 2 (.t 5) (.t 12))
  .no])
  (.ops
  [.mk (some 13) none (.mov (.t 3)) .no, .mk (some 14) none (.load true 2 (.t 5)) .no, .mk (some 15) none (.call 24 [.t 14]) .no, .mk (some 16) none (.bin .add (.t 13) (.t 15))
  .no, .mk (some 3) none (.mov (.t 16)) .no])))
  (.ops
  [.mk (some 17) none (.bin .add (.t 9) (.c (.one (.st (.int .i64 1)))))
  .no, .mk (some 9) none (.mov (.t 17)) .no])))))))
  (.seq
  (.ops
  [.mk (some 18) none (.mov (.t 3)) .no, .mk (some 2) none (.mov (.t 18)) .no])
  .ret))))
theorem tr_term_Size : trCode Try.prog 19 [] (Try.f24.body.getD .skip) = some ir_term_Size := by kernel_rfl
theorem ac_term_Size {xs : List AV} {r : AV} (hn : xs.length ≤ 19) (h : ∀ C : Ctx, C.n = 19 → IWP Try.prog C [] ir_term_Size (FinQ [.t 2] r) (AS.start xs)) : ACalls Try.prog 24 xs r :=
  acalls_of Try.func24 rfl tr_term_Size rfl hn h
theorem acS_term_Size {xs : List AV} {S S' : AStore} {r : AV} (hn : xs.length ≤ 19) (h : Clean S → ∀ C : Ctx, C.n = 19 → IWP Try.prog C [] ir_term_Size (FinS C [.t 2] r S') (AS.startS xs S)) : ACallsS Try.prog 24 xs S r S' :=
  acallsS_of Try.func24 rfl tr_term_Size rfl hn h

end Go.Proofs.Ytelmgldeghmkbaa
