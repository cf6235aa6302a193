/-
  The program's functions in abstract operations: written by a program of mine out of the translation; each is shown to be the translation's.
  Conditions: none.
-/
import Derived.Test.YtkjbaabkaboaoaaBVars
namespace Go.Proofs.Ytkjbaabkaboaoaa
open Go Go.RowKit
set_option maxRecDepth 100000

def ir_comb_form : IR :=
  (.seq
  (.ops
  [.mk (some 1) none (.box 25 (.t 0)) .no, .mk (some 2) none (.mov (.c (.one (.st (.int .i64 0)))))
  .no])
  (.seq
  (.seq
  (.ops
  [.mk (some 3) none (.fieldAddr 1 (.t 1)) .no, .mk (some 4) none (.load false 1 (.t 3)) .no, .mk (some 5) none (.len false (.t 4)) .no, .mk (some 6) none (.bin .eql (.t 5) (.c (.one (.st (.int .i64 0)))))
  .no])
  (.cond (.t 6)
  (.seq
  (.ops
  [.mk (some 2) none (.mov (.c (.one (.st (.int .i64 0)))))
  .no])
  .ret)
  .skip))
  (.seq
  (.seq
  (.ops
  [.mk (some 7) none (.fieldAddr 0 (.t 1)) .no, .mk (some 8) none (.load false 1 (.t 7)) .no, .mk (some 9) none (.bin .neq (.t 8) (.c (.one (.st (.str (ByteArray.mk (#[97, 112])))))))
  .no, .mk (some 10) none (.mov (.t 9)) .no, .mk (some 11) (some (10, false)) (.fieldAddr 1 (.t 1)) .no, .mk (some 12) (some (10, false)) (.load false 1 (.t 11)) .no, .mk (some 13) (some (10, false)) (.len false (.t 12)) .no, .mk (some 14) (some (10, false)) (.bin .neq (.t 13) (.c (.one (.st (.int .i64 2)))))
  .no, .mk (some 15) none
  (.pick (.t 10) (.c (.one (.st (.bool true)))) (.t 14))
  .no])
  (.cond (.t 15)
  (.seq
  (.ops
  [.mk (some 2) none (.mov (.c (.one (.st (.int .i64 2)))))
  .no])
  .ret)
  .skip))
  (.seq
  (.ops
  [.mk (some 16) none (.fieldAddr 1 (.t 1)) .no, .mk (some 17) none (.load false 1 (.t 16)) .no, .mk (some 18) none
  (.indexAddr 2 (.t 17) (.c (.one (.st (.int .i64 0)))))
  .no, .mk (some 19) none (.load true 2 (.t 18)) .no, .mk (some 20) none (.call 103 [.t 19]) .no, .mk (some 21) none (.fieldAddr 1 (.t 1)) .no, .mk (some 22) none (.load false 1 (.t 21)) .no, .mk (some 23) none
  (.indexAddr 2 (.t 22) (.c (.one (.st (.int .i64 1)))))
  .no, .mk (some 24) none (.load true 2 (.t 23)) .no, .mk (some 25) none (.call 103 [.t 24]) .no, .mk (some 26) none (.mm true (.t 20) (.t 25))
  .no, .mk (some 2) none (.mov (.t 26)) .no])
  .ret))))
theorem tr_comb_form : trCode Try.prog 27 [] (Try.f103.body.getD .skip) = some ir_comb_form := by kernel_rfl
theorem ac_comb_form {xs : List AV} {r : AV} (hn : xs.length ≤ 27) (h : ∀ C : Ctx, C.n = 27 → IWP Try.prog C [] ir_comb_form (FinQ [.t 2] r) (AS.start xs)) : ACalls Try.prog 103 xs r :=
  acalls_of Try.func103 rfl tr_comb_form rfl hn h
theorem acS_comb_form {xs : List AV} {S S' : AStore} {r : AV} (hn : xs.length ≤ 27) (h : Clean S → ∀ C : Ctx, C.n = 27 → IWP Try.prog C [] ir_comb_form (FinS C [.t 2] r S') (AS.startS xs S)) : ACallsS Try.prog 103 xs S r S' :=
  acallsS_of Try.func103 rfl tr_comb_form rfl hn h

def ir_comb_Check : IR :=
  (.seq
  (.ops
  [.mk (some 1) none (.box 25 (.t 0)) .no, .mk (some 2) none (.mov (.c (.one (.st (.int .i64 0)))))
  .no])
  (.seq
  (.seq
  (.ops
  [.mk (some 4) none (.load true 2 (.t 1)) .no, .mk (some 5) none (.call 37 [.t 4]) .no, .mk (some 3) none (.mov (.t 5)) .no])
  (.seq
  (.ops
  [.mk (some 6) none (.mov (.t 3)) .no, .mk (some 7) none (.bin .neq (.t 6) (.c (.one (.st (.int .i64 0)))))
  .no])
  (.cond (.t 7)
  (.seq
  (.ops
  [.mk (some 8) none (.mov (.t 3)) .no, .mk (some 2) none (.mov (.t 8)) .no])
  .ret)
  .skip)))
  (.seq
  (.ops
  [.mk (some 9) none (.load true 2 (.t 1)) .no, .mk (some 10) none (.call 103 [.t 9]) .no, .mk (some 2) none (.mov (.t 10)) .no])
  .ret)))
theorem tr_comb_Check : trCode Try.prog 11 [] (Try.f69.body.getD .skip) = some ir_comb_Check := by kernel_rfl
theorem ac_comb_Check {xs : List AV} {r : AV} (hn : xs.length ≤ 11) (h : ∀ C : Ctx, C.n = 11 → IWP Try.prog C [] ir_comb_Check (FinQ [.t 2] r) (AS.start xs)) : ACalls Try.prog 69 xs r :=
  acalls_of Try.func69 rfl tr_comb_Check rfl hn h
theorem acS_comb_Check {xs : List AV} {S S' : AStore} {r : AV} (hn : xs.length ≤ 11) (h : Clean S → ∀ C : Ctx, C.n = 11 → IWP Try.prog C [] ir_comb_Check (FinS C [.t 2] r S') (AS.startS xs S)) : ACallsS Try.prog 69 xs S r S' :=
  acallsS_of Try.func69 rfl tr_comb_Check rfl hn h

def ir_R_CombMay : IR :=
  (.seq
  (.ops
  [.mk (some 1) none (.box 25 (.t 0)) .no, .mk (some 2) none (.mov (.c (.one (.st (.int .i64 0)))))
  .no])
  (.seq
  (.ops
  [.mk (some 6) none (.load true 2 (.t 1)) .no, .mk (some 7) none (.call 29 [.t 6]) .no, .mk (some 3) none (.mov (.t 7)) .no])
  (.seq
  (.seq
  (.ops
  [.mk (some 8) none (.mov (.t 3)) .no, .mk (some 9) none (.bin .neq (.t 8) (.c (.one (.st (.int .i64 0)))))
  .no])
  (.cond (.t 9)
  (.seq
  (.ops
  [.mk (some 10) none (.mov (.t 3)) .no, .mk (some 2) none (.mov (.t 10)) .no])
  .ret)
  .skip))
  (.seq
  (.ops
  [.mk (some 11) none (.load true 2 (.t 1)) .no, .mk (some 12) none (.call 67 [.t 11]) .no, .mk (some 4) none (.mov (.t 12)) .no])
  (.seq
  (.seq
  (.ops
  [.mk (some 5) none (.mov (.c (.one (.st (.int .i64 0)))))
  .no])
  (.block 0
  (.loop
  (.seq
  (.seq
  (.ops
  [.mk (some 13) none (.mov (.t 5)) .no, .mk (some 14) none (.mov (.t 4)) .no, .mk (some 15) none (.len false (.t 14)) .no, .mk (some 16) none (.bin .lss (.t 13) (.t 15))
  .no])
  (.cond (.t 16) .skip (.exit 0)))
  (.seq
  (.block 1
  (.seq
  (.ops
  [.mk (some 19) none (.mov (.t 4)) .no, .mk (some 20) none (.mov (.t 5)) .no, .mk (some 21) none (.indexAddr 2 (.t 19) (.t 20))
  .no, .mk (some 22) none (.fieldAddr 1 (.t 21)) .no, .mk (some 23) none (.load false 1 (.t 22)) .no, .mk (some 24) none (.len false (.t 23)) .no, .mk (some 25) none (.bin .gtr (.t 24) (.c (.one (.st (.int .i64 0)))))
  .no, .mk (some 26) none (.mov (.t 25)) .no, .mk (some 27) (some (26, true)) (.mov (.t 4)) .no, .mk (some 28) (some (26, true)) (.mov (.t 5)) .no, .mk (some 29) (some (26, true)) (.indexAddr 2 (.t 27) (.t 28))
  .no, .mk (some 30) (some (26, true)) (.fieldAddr 0 (.t 29)) .no, .mk (some 31) (some (26, true)) (.load false 1 (.t 30))
  .no, .mk (some 32) (some (26, true)) (.bin .neq (.t 31) (.c (.one (.st (.str (ByteArray.mk (#[97, 112])))))))
  .no, .mk (some 33) (some (26, true)) (.mov (.t 32)) .no, .mk (some 34) (some (33, false)) (.mov (.t 4)) .no, .mk (some 35) (some (33, false)) (.mov (.t 5)) .no, .mk (some 36) (some (33, false))
  (.indexAddr 2 (.t 34) (.t 35)) .no, .mk (some 37) (some (33, false)) (.fieldAddr 1 (.t 36)) .no, .mk (some 38) (some (33, false)) (.load false 1 (.t 37))
  .no, .mk (some 39) (some (33, false)) (.len false (.t 38))
  .no, .mk (some 40) (some (33, false)) (.bin .neq (.t 39) (.c (.one (.st (.int .i64 2)))))
  .no, .mk (some 41) (some (26, true))
  (.pick (.t 33) (.c (.one (.st (.bool true)))) (.t 40))
  .no, .mk (some 42) none
  (.pick (.t 26) (.t 41) (.c (.one (.st (.bool false)))))
  .no])
  (.cond (.t 42)
  (.seq
  (.ops
  [.mk (some 2) none (.mov (.c (.one (.st (.int .i64 2)))))
  .no])
  .ret)
  .skip)))
  (.ops
  [.mk (some 17) none (.mov (.t 5)) .no, .mk (some 18) none (.bin .add (.t 17) (.c (.one (.st (.int .i64 1)))))
  .no, .mk (some 5) none (.mov (.t 18)) .no]))))))
  (.seq
  (.ops
  [.mk (some 2) none (.mov (.c (.one (.st (.int .i64 0)))))
  .no])
  .ret))))))
theorem tr_R_CombMay : trCode Try.prog 43 [] (Try.f26.body.getD .skip) = some ir_R_CombMay := by kernel_rfl
theorem ac_R_CombMay {xs : List AV} {r : AV} (hn : xs.length ≤ 43) (h : ∀ C : Ctx, C.n = 43 → IWP Try.prog C [] ir_R_CombMay (FinQ [.t 2] r) (AS.start xs)) : ACalls Try.prog 26 xs r :=
  acalls_of Try.func26 rfl tr_R_CombMay rfl hn h
theorem acS_R_CombMay {xs : List AV} {S S' : AStore} {r : AV} (hn : xs.length ≤ 43) (h : Clean S → ∀ C : Ctx, C.n = 43 → IWP Try.prog C [] ir_R_CombMay (FinS C [.t 2] r S') (AS.startS xs S)) : ACallsS Try.prog 26 xs S r S' :=
  acallsS_of Try.func26 rfl tr_R_CombMay rfl hn h

def ir_comb_ap : IR :=
  (.seq
  (.ops
  [.mk (some 2) none (.box 25 (.t 0)) .no, .mk (some 3) none (.box 25 (.t 1)) .no, .mk (some 4) none
  (.alloc 25 [.st (.str (ByteArray.mk (#[]))), .full []]) .no])
  (.seq
  (.ops
  [.mk (some 5) none (.load true 2 (.t 2)) .no, .mk (some 6) none (.load true 2 (.t 3)) .no, .mk (some 7) none (.buildSlice false 25 2 [.t 5, .t 6])
  .no, .mk (some 8) none
  (.build [.st (.str (ByteArray.mk (#[]))), .full []]
  [(0, 1, .c (.one (.st (.str (ByteArray.mk (#[97, 112])))))),
  (1, 1, .t 7)])
  .no, .mk none none (.store 2 (.t 4) (.t 8)) .no])
  .ret))
theorem tr_comb_ap : trCode Try.prog 9 [] (Try.f105.body.getD .skip) = some ir_comb_ap := by kernel_rfl
theorem ac_comb_ap {xs : List AV} {r : AV} (hn : xs.length ≤ 9) (h : ∀ C : Ctx, C.n = 9 → IWP Try.prog C [] ir_comb_ap (FinQ [.cell 4 true 2] r) (AS.start xs)) : ACalls Try.prog 105 xs r :=
  acalls_of Try.func105 rfl tr_comb_ap rfl hn h
theorem acS_comb_ap {xs : List AV} {S S' : AStore} {r : AV} (hn : xs.length ≤ 9) (h : Clean S → ∀ C : Ctx, C.n = 9 → IWP Try.prog C [] ir_comb_ap (FinS C [.cell 4 true 2] r S') (AS.startS xs S)) : ACallsS Try.prog 105 xs S r S' :=
  acallsS_of Try.func105 rfl tr_comb_ap rfl hn h

def ir_R_Put2 : IR :=
  (.seq
  (.ops
  [.mk (some 2) none (.box 25 (.t 0)) .no, .mk (some 3) none (.box 25 (.t 1)) .no, .mk (some 4) none
  (.alloc 25 [.st (.str (ByteArray.mk (#[]))), .full []]) .no])
  (.seq
  (.ops
  [.mk (some 5) none (.load true 2 (.t 2)) .no, .mk (some 6) none (.load true 2 (.t 3)) .no, .mk (some 7) none (.buildSlice false 25 2 [.t 5, .t 6])
  .no, .mk (some 8) none
  (.build [.st (.str (ByteArray.mk (#[]))), .full []]
  [(0, 1, .c (.one (.st (.str (ByteArray.mk (#[97, 112])))))),
  (1, 1, .t 7)])
  .no, .mk none none (.store 2 (.t 4) (.t 8)) .no])
  .ret))
theorem tr_R_Put2 : trCode Try.prog 9 [] (Try.f102.body.getD .skip) = some ir_R_Put2 := by kernel_rfl
theorem ac_R_Put2 {xs : List AV} {r : AV} (hn : xs.length ≤ 9) (h : ∀ C : Ctx, C.n = 9 → IWP Try.prog C [] ir_R_Put2 (FinQ [.cell 4 true 2] r) (AS.start xs)) : ACalls Try.prog 102 xs r :=
  acalls_of Try.func102 rfl tr_R_Put2 rfl hn h
theorem acS_R_Put2 {xs : List AV} {S S' : AStore} {r : AV} (hn : xs.length ≤ 9) (h : Clean S → ∀ C : Ctx, C.n = 9 → IWP Try.prog C [] ir_R_Put2 (FinS C [.cell 4 true 2] r S') (AS.startS xs S)) : ACallsS Try.prog 102 xs S r S' :=
  acallsS_of Try.func102 rfl tr_R_Put2 rfl hn h

def ir_R_Row : IR :=
  (.seq
  (.ops
  [.mk (some 1) none (.box 25 (.t 0)) .no, .mk (some 2) none
  (.alloc 25 [.st (.str (ByteArray.mk (#[]))), .full []]) .no, .mk (some 3) none (.mov (.c (.one (.full []))))
  .no])
  (.seq
  (.seq
  (.ops
  [.mk (some 6) none (.fieldAddr 1 (.t 1)) .no, .mk (some 7) none (.load false 1 (.t 6)) .no, .mk (some 8) none (.len false (.t 7)) .no, .mk (some 9) none (.bin .eql (.t 8) (.c (.one (.st (.int .i64 0)))))
  .no])
  (.cond (.t 9)
  (.seq
  (.ops
  [.mk (some 10) none (.load true 2 (.t 1)) .no, .mk none none (.store 2 (.t 2) (.t 10)) .no, .mk (some 3) none (.mov (.c (.one (.full []))))
  .no])
  .ret)
  .skip))
  (.seq
  (.ops
  [.mk (some 12) none (.fieldAddr 1 (.t 1)) .no, .mk (some 13) none (.load false 1 (.t 12)) .no, .mk (some 14) none
  (.indexAddr 2 (.t 13) (.c (.one (.st (.int .i64 0)))))
  .no, .mk (some 15) none (.load true 2 (.t 14)) .no, .mk (some 16) none (.callS 101 [.t 15]) .no, .mk (some 11) none (.mov (.t 16)) .no, .mk (some 17) none (.extract 0 (.t 11)) .no, .mk (some 18) none (.extract 1 (.t 11)) .no, .mk (some 4) none
  (.alloc 25 [.st (.str (ByteArray.mk (#[]))), .full []]) .no, .mk none none (.store 2 (.t 4) (.t 17)) .no, .mk (some 5) none (.mov (.t 18)) .no])
  (.seq
  (.ops
  [.mk (some 19) none (.load true 2 (.t 4)) (.onb 4), .mk (some 20) none (.mov (.t 5)) .no, .mk (some 21) none (.fieldAddr 1 (.t 1)) .no, .mk (some 22) none (.load false 1 (.t 21)) .no, .mk (some 23) none
  (.indexAddr 2 (.t 22) (.c (.one (.st (.int .i64 1)))))
  .no, .mk (some 24) none (.load true 2 (.t 23)) .no, .mk (some 25) none (.buildSlice false 25 2 [.t 24]) .no, .mk (some 26) none (.append false 25 2 40 (.t 20) (.t 25))
  (.keeps [4]), .mk none none (.store 2 (.t 2) (.t 19)) .no, .mk (some 3) none (.mov (.t 26)) .no])
  .ret))))
theorem tr_R_Row : trCode Try.prog 27 [16] (Try.f101.body.getD .skip) = some ir_R_Row := by kernel_rfl
theorem ac_R_Row {xs : List AV} {r : AV} (hn : xs.length ≤ 27) (h : ∀ C : Ctx, C.n = 27 → IWP Try.prog C [16] ir_R_Row (FinQ [.cell 2 true 2, .t 3] r) (AS.start xs)) : ACalls Try.prog 101 xs r :=
  acalls_of Try.func101 rfl tr_R_Row rfl hn h
theorem acS_R_Row {xs : List AV} {S S' : AStore} {r : AV} (hn : xs.length ≤ 27) (h : Clean S → ∀ C : Ctx, C.n = 27 → IWP Try.prog C [16] ir_R_Row (FinS C [.cell 2 true 2, .t 3] r S') (AS.startS xs S)) : ACallsS Try.prog 101 xs S r S' :=
  acallsS_of Try.func101 rfl tr_R_Row rfl hn h

def ir_R_CombStep : IR :=
  (.seq
  (.ops
  [.mk (some 1) none (.box 25 (.t 0)) .no, .mk (some 2) none
  (.alloc 25 [.st (.str (ByteArray.mk (#[]))), .full []]) .no, .mk (some 3) none (.mov (.c (.one (.st (.bool false)))))
  .no])
  (.seq
  (.ops
  [.mk (some 14) none (.load true 2 (.t 1)) .no, .mk (some 15) none (.call 101 [.t 14]) .no, .mk (some 13) none (.mov (.t 15)) .no, .mk (some 16) none (.extract 0 (.t 13)) .no, .mk (some 17) none (.extract 1 (.t 13)) .no, .mk (some 4) none
  (.alloc 25 [.st (.str (ByteArray.mk (#[]))), .full []]) .no, .mk none none (.store 2 (.t 4) (.t 16)) .no, .mk (some 5) none (.mov (.t 17)) .no])
  (.seq
  (.ops
  [.mk (some 6) none (.mov (.c (.one (.st (.int .i64 0)))))
  .no])
  (.seq
  (.ops
  [.mk (some 18) none
  (.build [.st (.str (ByteArray.mk (#[]))), .full []] []) .no, .mk (some 7) none
  (.alloc 25 [.st (.str (ByteArray.mk (#[]))), .full []]) .no, .mk none none (.store 2 (.t 7) (.t 18)) .no])
  (.seq
  (.seq
  (.ops
  [.mk (some 19) none (.fieldAddr 0 (.t 4)) .no, .mk (some 20) none (.load false 1 (.t 19)) .no, .mk (some 21) none (.bin .eql (.t 20) (.c (.one (.st (.str (ByteArray.mk (#[105])))))))
  .no, .mk (some 22) none (.mov (.t 21)) .no, .mk (some 23) (some (22, true)) (.mov (.t 5)) .no, .mk (some 24) (some (22, true)) (.len false (.t 23)) .no, .mk (some 25) (some (22, true)) (.bin .geq (.t 24) (.c (.one (.st (.int .i64 1)))))
  .no, .mk (some 26) none
  (.pick (.t 22) (.t 25) (.c (.one (.st (.bool false)))))
  .no])
  (.cond (.t 26)
  (.seq
  (.ops
  [.mk (some 6) none (.mov (.c (.one (.st (.int .i64 1)))))
  .no])
  (.ops
  [.mk (some 27) none (.mov (.t 5)) .no, .mk (some 28) none
  (.indexAddr 2 (.t 27) (.c (.one (.st (.int .i64 0)))))
  .no, .mk (some 29) none (.load true 2 (.t 28)) .no, .mk none none (.store 2 (.t 7) (.t 29))
  .no]))
  .skip))
  (.seq
  (.seq
  (.ops
  [.mk (some 30) none (.fieldAddr 0 (.t 4)) .no, .mk (some 31) none (.load false 1 (.t 30)) .no, .mk (some 32) none (.bin .eql (.t 31) (.c (.one (.st (.str (ByteArray.mk (#[107])))))))
  .no, .mk (some 33) none (.mov (.t 32)) .no, .mk (some 34) (some (33, true)) (.mov (.t 5)) .no, .mk (some 35) (some (33, true)) (.len false (.t 34)) .no, .mk (some 36) (some (33, true)) (.bin .geq (.t 35) (.c (.one (.st (.int .i64 2)))))
  .no, .mk (some 37) none
  (.pick (.t 33) (.t 36) (.c (.one (.st (.bool false)))))
  .no])
  (.cond (.t 37)
  (.seq
  (.ops
  [.mk (some 6) none (.mov (.c (.one (.st (.int .i64 2)))))
  .no])
  (.ops
  [.mk (some 38) none (.mov (.t 5)) .no, .mk (some 39) none
  (.indexAddr 2 (.t 38) (.c (.one (.st (.int .i64 0)))))
  .no, .mk (some 40) none (.load true 2 (.t 39)) .no, .mk none none (.store 2 (.t 7) (.t 40))
  .no]))
  .skip))
  (.seq
  (.seq
  (.ops
  [.mk (some 41) none (.fieldAddr 0 (.t 4)) .no, .mk (some 42) none (.load false 1 (.t 41)) .no, .mk (some 43) none (.bin .eql (.t 42) (.c (.one (.st (.str (ByteArray.mk (#[115])))))))
  .no, .mk (some 44) none (.mov (.t 43)) .no, .mk (some 45) (some (44, true)) (.mov (.t 5)) .no, .mk (some 46) (some (44, true)) (.len false (.t 45)) .no, .mk (some 47) (some (44, true)) (.bin .geq (.t 46) (.c (.one (.st (.int .i64 3)))))
  .no, .mk (some 48) none
  (.pick (.t 44) (.t 47) (.c (.one (.st (.bool false)))))
  .no])
  (.cond (.t 48)
  (.seq
  (.ops
  [.mk (some 6) none (.mov (.c (.one (.st (.int .i64 3)))))
  .no])
  (.ops
  [.mk (some 49) none (.mov (.t 5)) .no, .mk (some 50) none
  (.indexAddr 2 (.t 49) (.c (.one (.st (.int .i64 0)))))
  .no, .mk (some 51) none (.load true 2 (.t 50)) .no, .mk (some 52) none (.mov (.t 5)) .no, .mk (some 53) none
  (.indexAddr 2 (.t 52) (.c (.one (.st (.int .i64 2)))))
  .no, .mk (some 54) none (.load true 2 (.t 53)) .no, .mk (some 55) none (.call 102 [.t 51, .t 54])
  .no, .mk (some 56) none (.mov (.t 5)) .no, .mk (some 57) none
  (.indexAddr 2 (.t 56) (.c (.one (.st (.int .i64 1)))))
  .no, .mk (some 58) none (.load true 2 (.t 57)) .no, .mk (some 59) none (.mov (.t 5)) .no, .mk (some 60) none
  (.indexAddr 2 (.t 59) (.c (.one (.st (.int .i64 2)))))
  .no, .mk (some 61) none (.load true 2 (.t 60)) .no, .mk (some 62) none (.call 102 [.t 58, .t 61])
  .no, .mk (some 63) none (.call 102 [.t 55, .t 62])
  .no, .mk none none (.store 2 (.t 7) (.t 63))
  .no]))
  .skip))
  (.seq
  (.seq
  (.ops
  [.mk (some 64) none (.mov (.t 6)) .no, .mk (some 65) none (.bin .gtr (.t 64) (.c (.one (.st (.int .i64 0)))))
  .no])
  (.cond (.t 65)
  (.seq
  (.seq
  (.ops
  [.mk (some 66) none (.mov (.t 6)) .no, .mk (some 8) none (.mov (.t 66)) .no])
  (.block 0
  (.loop
  (.seq
  (.seq
  (.ops
  [.mk (some 67) none (.mov (.t 8)) .no, .mk (some 68) none (.mov (.t 5)) .no, .mk (some 69) none (.len false (.t 68)) .no, .mk (some 70) none (.bin .lss (.t 67) (.t 69))
  .no])
  (.cond (.t 70) .skip (.exit 0)))
  (.seq
  (.block 1
  (.ops
  [.mk (some 73) none (.load true 2 (.t 7)) .no, .mk (some 74) none (.mov (.t 5)) .no, .mk (some 75) none (.mov (.t 8)) .no, .mk (some 76) none (.indexAddr 2 (.t 74) (.t 75))
  .no, .mk (some 77) none (.load true 2 (.t 76)) .no, .mk (some 78) none (.call 102 [.t 73, .t 77])
  .no, .mk none none (.store 2 (.t 7) (.t 78))
  .no]))
  (.ops
  [.mk (some 71) none (.mov (.t 8)) .no, .mk (some 72) none (.bin .add (.t 71) (.c (.one (.st (.int .i64 1)))))
  .no, .mk (some 8) none (.mov (.t 72)) .no]))))))
  (.seq
  (.ops
  [.mk (some 79) none (.load true 2 (.t 7)) .no, .mk none none (.store 2 (.t 2) (.t 79))
  .no, .mk (some 3) none (.mov (.c (.one (.st (.bool true)))))
  .no])
  .ret))
  .skip))
  (.seq
  (.seq
  (.ops
  [.mk (some 9) none (.mov (.c (.one (.st (.int .i64 0)))))
  .no])
  (.block 2
  (.loop
  (.seq
  (.seq
  (.ops
  [.mk (some 80) none (.mov (.t 9)) .no, .mk (some 81) none (.mov (.t 5)) .no, .mk (some 82) none (.len false (.t 81)) .no, .mk (some 83) none (.bin .lss (.t 80) (.t 82))
  .no])
  (.cond (.t 83) .skip (.exit 2)))
  (.seq
  (.block 3
  (.seq
  (.ops
  [.mk (some 87) none (.mov (.t 5)) .no, .mk (some 88) none (.mov (.t 9)) .no, .mk (some 89) none (.indexAddr 2 (.t 87) (.t 88))
  .no, .mk (some 90) none (.load true 2 (.t 89)) .no, .mk (some 91) none (.call 68 [.t 90]) .no, .mk (some 86) none (.mov (.t 91)) .no, .mk (some 92) none (.extract 0 (.t 86)) .no, .mk (some 93) none (.extract 1 (.t 86)) .no, .mk (some 10) none
  (.alloc 25 [.st (.str (ByteArray.mk (#[]))), .full []])
  .no, .mk none none (.store 2 (.t 10) (.t 92))
  .no, .mk (some 11) none (.mov (.t 93)) .no])
  (.seq
  (.ops
  [.mk (some 94) none (.mov (.t 11)) .no])
  (.cond (.t 94)
  (.seq
  (.ops
  [.mk (some 95) none (.load true 2 (.t 4)) .no, .mk none none (.store 2 (.t 7) (.t 95))
  .no])
  (.seq
  (.seq
  (.ops
  [.mk (some 12) none (.mov (.c (.one (.st (.int .i64 0)))))
  .no])
  (.block 4
  (.loop
  (.seq
  (.seq
  (.ops
  [.mk (some 96) none (.mov (.t 12)) .no, .mk (some 97) none (.mov (.t 5)) .no, .mk (some 98) none (.len false (.t 97))
  .no, .mk (some 99) none (.bin .lss (.t 96) (.t 98)) .no])
  (.cond (.t 99) .skip (.exit 4)))
  (.seq
  (.block 5
  (.seq
  (.ops
  [.mk (some 102) none (.mov (.t 12))
  .no, .mk (some 103) none (.mov (.t 9))
  .no, .mk (some 104) none (.bin .eql (.t 102) (.t 103)) .no])
  (.cond (.t 104)
  (.ops
  [.mk (some 105) none (.load true 2 (.t 7))
  .no, .mk (some 106) none (.load true 2 (.t 10))
  .no, .mk (some 107) none (.call 102 [.t 105, .t 106]) .no, .mk none none (.store 2 (.t 7) (.t 107)) .no])
  (.ops
  [.mk (some 108) none (.load true 2 (.t 7))
  .no, .mk (some 109) none (.mov (.t 5))
  .no, .mk (some 110) none (.mov (.t 12))
  .no, .mk (some 111) none
  (.indexAddr 2 (.t 109) (.t 110)) .no, .mk (some 112) none (.load true 2 (.t 111))
  .no, .mk (some 113) none (.call 102 [.t 108, .t 112]) .no, .mk none none (.store 2 (.t 7) (.t 113)) .no]))))
  (.ops
  [.mk (some 100) none (.mov (.t 12)) .no, .mk (some 101) none (.bin .add (.t 100) (.c (.one (.st (.int .i64 1)))))
  .no, .mk (some 12) none (.mov (.t 101))
  .no]))))))
  (.seq
  (.ops
  [.mk (some 114) none (.load true 2 (.t 7))
  .no, .mk none none (.store 2 (.t 2) (.t 114))
  .no, .mk (some 3) none (.mov (.c (.one (.st (.bool true)))))
  .no])
  .ret)))
  .skip))))
  (.ops
  [.mk (some 84) none (.mov (.t 9)) .no, .mk (some 85) none (.bin .add (.t 84) (.c (.one (.st (.int .i64 1)))))
  .no, .mk (some 9) none (.mov (.t 85)) .no]))))))
  (.seq
  (.ops
  [.mk (some 115) none (.load true 2 (.t 1)) .no, .mk none none (.store 2 (.t 2) (.t 115))
  .no, .mk (some 3) none (.mov (.c (.one (.st (.bool false)))))
  .no])
  .ret))))))))))
theorem tr_R_CombStep : trCode Try.prog 116 [] (Try.f68.body.getD .skip) = some ir_R_CombStep := by kernel_rfl
theorem ac_R_CombStep {xs : List AV} {r : AV} (hn : xs.length ≤ 116) (h : ∀ C : Ctx, C.n = 116 → IWP Try.prog C [] ir_R_CombStep (FinQ [.cell 2 true 2, .t 3] r) (AS.start xs)) : ACalls Try.prog 68 xs r :=
  acalls_of Try.func68 rfl tr_R_CombStep rfl hn h
theorem acS_R_CombStep {xs : List AV} {S S' : AStore} {r : AV} (hn : xs.length ≤ 116) (h : Clean S → ∀ C : Ctx, C.n = 116 → IWP Try.prog C [] ir_R_CombStep (FinS C [.cell 2 true 2, .t 3] r S') (AS.startS xs S)) : ACallsS Try.prog 68 xs S r S' :=
  acallsS_of Try.func68 rfl tr_R_CombStep rfl hn h

def ir_R_CombEnd : IR :=
  (.seq
  (.ops
  [.mk (some 2) none (.box 25 (.t 0)) .no, .mk (some 4) none
  (.alloc 25 [.st (.str (ByteArray.mk (#[]))), .full []]) .no, .mk (some 5) none (.mov (.c (.one (.st (.int .i64 0)))))
  .no, .mk (some 6) none (.mov (.c (.one (.st (.int .i64 0)))))
  .no])
  (.seq
  (.ops
  [.mk (some 7) none (.mov (.c (.one (.st (.int .i64 0)))))
  .no])
  (.block 0
  (.loop
  (.block 1
  (.seq
  (.ops
  [.mk (some 11) none (.load true 2 (.t 2)) .no, .mk (some 12) none (.call 68 [.t 11]) .no, .mk (some 10) none (.mov (.t 12)) .no, .mk (some 13) none (.extract 0 (.t 10)) .no, .mk (some 14) none (.extract 1 (.t 10)) .no, .mk (some 8) none
  (.alloc 25 [.st (.str (ByteArray.mk (#[]))), .full []])
  .no, .mk none none (.store 2 (.t 8) (.t 13)) .no, .mk (some 9) none (.mov (.t 14)) .no])
  (.seq
  (.seq
  (.ops
  [.mk (some 15) none (.mov (.t 9)) .no, .mk (some 16) none (.un .not (.t 15)) .no])
  (.cond (.t 16)
  (.seq
  (.ops
  [.mk (some 17) none (.load true 2 (.t 2)) .no, .mk (some 18) none (.mov (.t 7)) .no, .mk none none (.store 2 (.t 4) (.t 17))
  .no, .mk (some 5) none (.mov (.t 18)) .no, .mk (some 6) none (.mov (.c (.one (.st (.int .i64 0)))))
  .no])
  .ret)
  .skip))
  (.seq
  (.seq
  (.ops
  [.mk (some 19) none (.mov (.t 7)) .no, .mk (some 20) none (.mov (.t 1)) .no, .mk (some 21) none (.bin .eql (.t 19) (.t 20))
  .no])
  (.cond (.t 21)
  (.seq
  (.ops
  [.mk (some 22) none
  (.build [.st (.str (ByteArray.mk (#[]))), .full []] [])
  .no, .mk none none (.store 2 (.t 4) (.t 22))
  .no, .mk (some 5) none (.mov (.c (.one (.st (.int .i64 0)))))
  .no, .mk (some 6) none (.mov (.c (.one (.st (.int .i64 9)))))
  .no])
  .ret)
  .skip))
  (.seq
  (.ops
  [.mk (some 23) none (.load true 2 (.t 8)) .no, .mk none none (.store 2 (.t 2) (.t 23))
  .no])
  (.seq
  (.ops
  [.mk (some 24) none (.mov (.t 7)) .no, .mk (some 25) none (.bin .add (.t 24) (.c (.one (.st (.int .i64 1)))))
  .no, .mk (some 7) none (.mov (.t 25)) .no])
  (.seq
  (.ops
  [.mk (some 26) none (.load true 2 (.t 2)) .no, .mk (some 27) none (.call 21
  [.t 26, .c (.one (.st (.int .i64 2000)))])
  .no, .mk (some 28) none (.bin .gtr (.t 27) (.c (.one (.st (.int .i64 2000)))))
  .no])
  (.cond (.t 28)
  (.seq
  (.ops
  [.mk (some 29) none
  (.build [.st (.str (ByteArray.mk (#[]))), .full []] [])
  .no, .mk none none (.store 2 (.t 4) (.t 29))
  .no, .mk (some 5) none (.mov (.c (.one (.st (.int .i64 0)))))
  .no, .mk (some 6) none (.mov (.c (.one (.st (.int .i64 8)))))
  .no])
  .ret)
  .skip))))))))))))
theorem tr_R_CombEnd : trCode Try.prog 30 [] (Try.f27.body.getD .skip) = some ir_R_CombEnd := by kernel_rfl
theorem ac_R_CombEnd {xs : List AV} {r : AV} (hn : xs.length ≤ 30) (h : ∀ C : Ctx, C.n = 30 → IWP Try.prog C [] ir_R_CombEnd (FinQ [.cell 4 true 2, .t 5, .t 6] r) (AS.start xs)) : ACalls Try.prog 27 xs r :=
  acalls_of Try.func27 rfl tr_R_CombEnd rfl hn h
theorem acS_R_CombEnd {xs : List AV} {S S' : AStore} {r : AV} (hn : xs.length ≤ 30) (h : Clean S → ∀ C : Ctx, C.n = 30 → IWP Try.prog C [] ir_R_CombEnd (FinS C [.cell 4 true 2, .t 5, .t 6] r S') (AS.startS xs S)) : ACallsS Try.prog 27 xs S r S' :=
  acallsS_of Try.func27 rfl tr_R_CombEnd rfl hn h

def ir_comb_step_1 : IR :=
  (.seq
  (.ops
  [.mk (some 4) none
  (.alloc 25 [.st (.str (ByteArray.mk (#[]))), .full []]) .no])
  (.seq
  (.ops
  [.mk (some 5) none (.load false 1 (.t 1)) .no, .mk (some 6) none (.load false 1 (.t 2)) .no, .mk (some 7) none (.bin .sub (.t 6) (.c (.one (.st (.int .i64 1)))))
  .no, .mk (some 8) none (.mov (.t 0)) .no, .mk (some 9) none (.bin .sub (.t 7) (.t 8)) .no, .mk (some 10) none (.indexAddr 2 (.t 5) (.t 9)) .no, .mk (some 11) none (.load true 2 (.t 10)) .no, .mk none none (.store 2 (.t 4) (.t 11)) .no])
  .ret))
theorem tr_comb_step_1 : trCode Try.prog 12 [] (Try.f104.body.getD .skip) = some ir_comb_step_1 := by kernel_rfl
theorem ac_comb_step_1 {xs : List AV} {r : AV} (hn : xs.length ≤ 12) (h : ∀ C : Ctx, C.n = 12 → IWP Try.prog C [] ir_comb_step_1 (FinQ [.cell 4 true 2] r) (AS.start xs)) : ACalls Try.prog 104 xs r :=
  acalls_of Try.func104 rfl tr_comb_step_1 rfl hn h
theorem acS_comb_step_1 {xs : List AV} {S S' : AStore} {r : AV} (hn : xs.length ≤ 12) (h : Clean S → ∀ C : Ctx, C.n = 12 → IWP Try.prog C [] ir_comb_step_1 (FinS C [.cell 4 true 2] r S') (AS.startS xs S)) : ACallsS Try.prog 104 xs S r S' :=
  acallsS_of Try.func104 rfl tr_comb_step_1 rfl hn h

def ir_slices_Clone_metaprune_api_Term_metaprune_api_Term : IR :=
  (.seq
  (.ops
  [.mk (some 2) none (.mov (.c (.one (.full []))))
  .no])
  (.seq
  (.seq
  (.ops
  [.mk (some 3) none (.mov (.t 0)) .no, .mk (some 4) none (.eqN false (.t 3)) .no])
  (.cond (.t 4)
  (.seq
  (.ops
  [.mk (some 2) none (.mov (.c (.one (.full []))))
  .no])
  .ret)
  .skip))
  (.seq
  (.ops
  [.mk (some 5) none (.buildSlice false 25 2 []) .no, .mk (some 6) none (.mov (.t 0)) .no, .mk (some 7) none (.append true 25 2 40 (.t 5) (.t 6))
  .no, .mk (some 2) none (.mov (.t 7)) .no])
  .ret)))
theorem tr_slices_Clone_metaprune_api_Term_metaprune_api_Term : trCode Try.prog 8 [7] (Try.f106.body.getD .skip) = some ir_slices_Clone_metaprune_api_Term_metaprune_api_Term := by kernel_rfl
theorem ac_slices_Clone_metaprune_api_Term_metaprune_api_Term {xs : List AV} {r : AV} (hn : xs.length ≤ 8) (h : ∀ C : Ctx, C.n = 8 → IWP Try.prog C [7] ir_slices_Clone_metaprune_api_Term_metaprune_api_Term (FinQ [.t 2] r) (AS.start xs)) : ACalls Try.prog 106 xs r :=
  acalls_of Try.func106 rfl tr_slices_Clone_metaprune_api_Term_metaprune_api_Term rfl hn h
theorem acS_slices_Clone_metaprune_api_Term_metaprune_api_Term {xs : List AV} {S S' : AStore} {r : AV} (hn : xs.length ≤ 8) (h : Clean S → ∀ C : Ctx, C.n = 8 → IWP Try.prog C [7] ir_slices_Clone_metaprune_api_Term_metaprune_api_Term (FinS C [.t 2] r S') (AS.startS xs S)) : ACallsS Try.prog 106 xs S r S' :=
  acallsS_of Try.func106 rfl tr_slices_Clone_metaprune_api_Term_metaprune_api_Term rfl hn h

def ir_comb_step : IR :=
  (.seq
  (.ops
  [.mk (some 1) none (.box 25 (.t 0)) .no, .mk (some 2) none
  (.alloc 25 [.st (.str (ByteArray.mk (#[]))), .full []]) .no, .mk (some 3) none (.mov (.c (.one (.st (.bool false)))))
  .no])
  (.seq
  (.ops [.mk (some 4) none (.alloc 23 [.full []]) .no])
  (.seq
  (.ops
  [.mk (some 15) none (.load true 2 (.t 1)) .no, .mk (some 5) none
  (.alloc 25 [.st (.str (ByteArray.mk (#[]))), .full []]) .no, .mk none none (.store 2 (.t 5) (.t 15)) .no])
  (.seq
  (.block 0
  (.loop
  (.seq
  (.seq
  (.ops
  [.mk (some 16) none (.fieldAddr 1 (.t 5)) .no, .mk (some 17) none (.load false 1 (.t 16)) .no, .mk (some 18) none (.len false (.t 17)) .no, .mk (some 19) none (.bin .eql (.t 18) (.c (.one (.st (.int .i64 2)))))
  .no])
  (.cond (.t 19) .skip (.exit 0)))
  (.block 1
  (.seq
  (.ops
  [.mk (some 20) none (.load false 1 (.t 4)) .no, .mk (some 21) none (.fieldAddr 1 (.t 5)) .no, .mk (some 22) none (.load false 1 (.t 21)) .no, .mk (some 23) none
  (.indexAddr 2 (.t 22) (.c (.one (.st (.int .i64 1)))))
  .no, .mk (some 24) none (.load true 2 (.t 23)) .no, .mk (some 25) none (.len false (.t 20)) .no, .mk (some 26) none
  (.buildSlice false 25 2
  [.c
  (.agg [.st (.str (ByteArray.mk (#[]))), .full []])])
  .no, .mk (some 27) none (.append true 25 2 40 (.t 20) (.t 26))
  .no, .mk (some 28) none (.indexAddr 2 (.t 27) (.t 25))
  .no, .mk none none (.store 2 (.t 28) (.t 24))
  (.onb 27), .mk none none (.store 1 (.t 4) (.t 27))
  (.onb 4)])
  (.ops
  [.mk (some 29) none (.fieldAddr 1 (.t 5)) .no, .mk (some 30) none (.load false 1 (.t 29)) .no, .mk (some 31) none
  (.indexAddr 2 (.t 30) (.c (.one (.st (.int .i64 0)))))
  .no, .mk (some 32) none (.load true 2 (.t 31)) .no, .mk none none (.store 2 (.t 5) (.t 32))
  .no]))))))
  (.seq
  (.ops
  [.mk (some 33) none (.load false 1 (.t 4)) .no, .mk (some 34) none (.len false (.t 33)) .no, .mk (some 6) none (.alloc 3 [.st (.int .i64 0)])
  .no, .mk none none (.store 1 (.t 6) (.t 34)) .no])
  (.seq
  (.ops
  [.mk (some 35) none (.makeFunc 104 [.t 4, .t 6])
  .no, .mk (some 7) none (.mov (.t 35)) .no])
  (.seq
  (.ops
  [.mk (some 8) none
  (.alloc 25 [.st (.str (ByteArray.mk (#[]))), .full []])
  .no])
  (.seq
  (.ops
  [.mk (some 9) none (.mov (.c (.one (.st (.int .i64 0)))))
  .no])
  (.seq
  (.block 2
  (.seq
  (.ops
  [.mk (some 72) none (.fieldAddr 0 (.t 5)) .no, .mk (some 73) none (.load false 1 (.t 72)) .no, .mk (some 74) none (.bin .eql (.t 73) (.c (.one (.st (.str (ByteArray.mk (#[105])))))))
  .no, .mk (some 75) none (.mov (.t 74)) .no, .mk (some 76) (some (75, true)) (.load false 1 (.t 6)) .no, .mk (some 77) (some (75, true)) (.bin .gtr (.t 76) (.c (.one (.st (.int .i64 0)))))
  .no, .mk (some 78) none
  (.pick (.t 75) (.t 77) (.c (.one (.st (.bool false)))))
  .no, .mk (some 71) none (.mov (.t 78)) .no])
  (.cond (.t 71)
  (.ops
  [.mk (some 79) none (.mov (.t 7)) .no, .mk (some 80) none
  (.callV (.t 79)
  [.c (.one (.st (.int .i64 0)))])
  .no, .mk none none (.store 2 (.t 8) (.t 80))
  .no, .mk (some 9) none (.mov (.c (.one (.st (.int .i64 1)))))
  .no])
  (.seq
  (.ops
  [.mk (some 82) none (.fieldAddr 0 (.t 5)) .no, .mk (some 83) none (.load false 1 (.t 82)) .no, .mk (some 84) none (.bin .eql (.t 83) (.c (.one (.st (.str (ByteArray.mk (#[107])))))))
  .no, .mk (some 85) none (.mov (.t 84)) .no, .mk (some 86) (some (85, true)) (.load false 1 (.t 6))
  .no, .mk (some 87) (some (85, true)) (.bin .gtr (.t 86) (.c (.one (.st (.int .i64 1)))))
  .no, .mk (some 88) none
  (.pick (.t 85) (.t 87) (.c (.one (.st (.bool false)))))
  .no, .mk (some 81) none (.mov (.t 88)) .no])
  (.cond (.t 81)
  (.ops
  [.mk (some 89) none (.mov (.t 7)) .no, .mk (some 90) none
  (.callV (.t 89)
  [.c (.one (.st (.int .i64 0)))])
  .no, .mk none none (.store 2 (.t 8) (.t 90))
  .no, .mk (some 9) none (.mov (.c (.one (.st (.int .i64 2)))))
  .no])
  (.seq
  (.ops
  [.mk (some 92) none (.fieldAddr 0 (.t 5)) .no, .mk (some 93) none (.load false 1 (.t 92)) .no, .mk (some 94) none (.bin .eql (.t 93) (.c (.one (.st (.str (ByteArray.mk (#[115])))))))
  .no, .mk (some 95) none (.mov (.t 94)) .no, .mk (some 96) (some (95, true)) (.load false 1 (.t 6))
  .no, .mk (some 97) (some (95, true)) (.bin .gtr (.t 96) (.c (.one (.st (.int .i64 2)))))
  .no, .mk (some 98) none
  (.pick (.t 95) (.t 97) (.c (.one (.st (.bool false)))))
  .no, .mk (some 91) none (.mov (.t 98)) .no])
  (.cond (.t 91)
  (.ops
  [.mk (some 99) none (.mov (.t 7)) .no, .mk (some 100) none
  (.callV (.t 99)
  [.c (.one (.st (.int .i64 0)))])
  .no, .mk (some 101) none (.mov (.t 7)) .no, .mk (some 102) none
  (.callV (.t 101)
  [.c (.one (.st (.int .i64 2)))])
  .no, .mk (some 103) none (.call 105 [.t 100, .t 102])
  .no, .mk (some 104) none (.mov (.t 7)) .no, .mk (some 105) none
  (.callV (.t 104)
  [.c (.one (.st (.int .i64 1)))])
  .no, .mk (some 106) none (.mov (.t 7)) .no, .mk (some 107) none
  (.callV (.t 106)
  [.c (.one (.st (.int .i64 2)))])
  .no, .mk (some 108) none (.call 105 [.t 105, .t 107])
  .no, .mk (some 109) none (.call 105 [.t 103, .t 108])
  .no, .mk none none (.store 2 (.t 8) (.t 109))
  .no, .mk (some 9) none (.mov (.c (.one (.st (.int .i64 3)))))
  .no])
  (.seq
  (.seq
  (.ops
  [.mk (some 36) none (.load false 1 (.t 6)) .no, .mk (some 37) none (.mov (.c (.one (.st (.int .i64 0)))))
  .no])
  (.block 3
  (.loop
  (.seq
  (.ops
  [.mk (some 38) none (.bin .lss (.t 37) (.t 36)) .no])
  (.seq (.cond (.t 38) .skip (.exit 3))
  (.seq
  (.block 4
  (.seq
  (.ops
  [.mk (some 39) none (.mov (.t 37)) .no, .mk (some 10) none (.mov (.t 39)) .no])
  (.seq
  (.ops
  [.mk (some 41) none (.mov (.t 7)) .no, .mk (some 42) none (.mov (.t 10)) .no, .mk (some 43) none
  (.callV (.t 41) [.t 42]) .no, .mk (some 44) none (.call 70 [.t 43])
  .no, .mk (some 40) none (.mov (.t 44)) .no, .mk (some 45) none (.extract 0 (.t 40))
  .no, .mk (some 46) none (.extract 1 (.t 40))
  .no, .mk (some 11) none
  (.alloc 25
  [.st (.str (ByteArray.mk (#[]))), .full []])
  .no, .mk none none (.store 2 (.t 11) (.t 45)) .no, .mk (some 12) none (.mov (.t 46)) .no])
  (.seq
  (.ops
  [.mk (some 47) none (.mov (.t 12))
  .no])
  (.cond (.t 47)
  (.seq
  (.ops
  [.mk (some 48) none (.load false 1 (.t 4))
  .no, .mk (some 49) none (.callS 106 [.t 48])
  .no, .mk none none (.store 1 (.t 4) (.t 49)) .no])
  (.seq
  (.ops
  [.mk (some 50) none (.load false 1 (.t 4))
  .no, .mk (some 51) none (.load false 1 (.t 6))
  .no, .mk (some 52) none (.bin .sub (.t 51) (.c (.one (.st (.int .i64 1)))))
  .no, .mk (some 53) none (.mov (.t 10))
  .no, .mk (some 54) none (.bin .sub (.t 52) (.t 53)) .no, .mk (some 55) none (.load true 2 (.t 11))
  .no, .mk (some 56) none
  (.indexAddr 2 (.t 50) (.t 54)) .no, .mk none none (.store 2 (.t 56) (.t 55)) .no])
  (.seq
  (.ops
  [.mk (some 57) none (.load true 2 (.t 5))
  .no, .mk none none (.store 2 (.t 8) (.t 57)) .no])
  (.seq
  (.seq
  (.ops
  [.mk (some 58) none (.load false 1 (.t 6))
  .no, .mk (some 59) none (.mov (.c (.one (.st (.int .i64 0)))))
  .no])
  (.block 5
  (.loop
  (.seq
  (.ops
  [.mk (some 60) none (.bin .lss (.t 59) (.t 58))
  .no])
  (.seq
  (.cond (.t 60) .skip (.exit 5))
  (.seq
  (.block 6
  (.seq
  (.ops
  [.mk (some 61) none (.mov (.t 59))
  .no, .mk (some 13) none (.mov (.t 61))
  .no])
  (.ops
  [.mk (some 62) none (.load true 2 (.t 8)) (.onb 8), .mk (some 63) none (.mov (.t 7))
  .no, .mk (some 64) none (.mov (.t 13))
  .no, .mk (some 65) none
  (.callV (.t 63) [.t 64])
  (.keeps [8]), .mk (some 66) none (.call 105 [.t 62, .t 65])
  .no, .mk none none (.store 2 (.t 8) (.t 66))
  .no])))
  (.ops
  [.mk (some 67) none (.bin .add (.t 59) (.c (.one (.st (.int .i64 1)))))
  .no, .mk (some 59) none (.mov (.t 67))
  .no])))))))
  (.seq
  (.ops
  [.mk (some 68) none (.load true 2 (.t 8))
  .no, .mk none none (.store 2 (.t 2) (.t 68)) .no, .mk (some 3) none (.mov (.c (.one (.st (.bool true)))))
  .no])
  .ret)))))
  .skip)))))
  (.ops
  [.mk (some 69) none (.bin .add (.t 37) (.c (.one (.st (.int .i64 1)))))
  .no, .mk (some 37) none (.mov (.t 69)) .no])))))))
  (.seq
  (.ops
  [.mk (some 70) none (.load true 2 (.t 1)) .no, .mk none none (.store 2 (.t 2) (.t 70))
  .no, .mk (some 3) none (.mov (.c (.one (.st (.bool false)))))
  .no])
  .ret)))))))))
  (.seq
  (.seq
  (.ops
  [.mk (some 110) none (.mov (.t 9)) .no, .mk (some 14) none (.mov (.t 110)) .no])
  (.block 7
  (.loop
  (.seq
  (.seq
  (.ops
  [.mk (some 111) none (.mov (.t 14)) .no, .mk (some 112) none (.load false 1 (.t 6)) .no, .mk (some 113) none (.bin .lss (.t 111) (.t 112))
  .no])
  (.cond (.t 113) .skip (.exit 7)))
  (.seq
  (.block 8
  (.ops
  [.mk (some 116) none (.load true 2 (.t 8)) (.onb 8), .mk (some 117) none (.mov (.t 7)) .no, .mk (some 118) none (.mov (.t 14)) .no, .mk (some 119) none (.callV (.t 117) [.t 118])
  (.keeps [8]), .mk (some 120) none (.call 105 [.t 116, .t 119])
  .no, .mk none none (.store 2 (.t 8) (.t 120))
  .no]))
  (.ops
  [.mk (some 114) none (.mov (.t 14)) .no, .mk (some 115) none (.bin .add (.t 114) (.c (.one (.st (.int .i64 1)))))
  .no, .mk (some 14) none (.mov (.t 115)) .no]))))))
  (.seq
  (.ops
  [.mk (some 121) none (.load true 2 (.t 8)) .no, .mk none none (.store 2 (.t 2) (.t 121))
  .no, .mk (some 3) none (.mov (.c (.one (.st (.bool true)))))
  .no])
  .ret)))))))))))
theorem tr_comb_step : trCode Try.prog 122 [27, 10280027, 49] (Try.f70.body.getD .skip) = some ir_comb_step := by kernel_rfl
theorem ac_comb_step {xs : List AV} {r : AV} (hn : xs.length ≤ 122) (h : ∀ C : Ctx, C.n = 122 → IWP Try.prog C [27, 10280027, 49] ir_comb_step (FinQ [.cell 2 true 2, .t 3] r) (AS.start xs)) : ACalls Try.prog 70 xs r :=
  acalls_of Try.func70 rfl tr_comb_step rfl hn h
theorem acS_comb_step {xs : List AV} {S S' : AStore} {r : AV} (hn : xs.length ≤ 122) (h : Clean S → ∀ C : Ctx, C.n = 122 → IWP Try.prog C [27, 10280027, 49] ir_comb_step (FinS C [.cell 2 true 2, .t 3] r S') (AS.startS xs S)) : ACallsS Try.prog 70 xs S r S' :=
  acallsS_of Try.func70 rfl tr_comb_step rfl hn h

def ir_comb_Run : IR :=
  (.seq
  (.ops
  [.mk (some 2) none (.box 25 (.t 0)) .no, .mk (some 4) none
  (.alloc 25 [.st (.str (ByteArray.mk (#[]))), .full []]) .no, .mk (some 5) none (.mov (.c (.one (.st (.int .i64 0)))))
  .no, .mk (some 6) none (.mov (.c (.one (.st (.int .i64 0)))))
  .no])
  (.seq
  (.ops
  [.mk (some 11) none (.load true 2 (.t 2)) .no, .mk (some 12) none (.call 69 [.t 11]) .no, .mk (some 7) none (.mov (.t 12)) .no])
  (.seq
  (.seq
  (.ops
  [.mk (some 13) none (.mov (.t 7)) .no, .mk (some 14) none (.bin .eql (.t 13) (.c (.one (.st (.int .i64 0)))))
  .no, .mk (some 15) none (.mov (.t 14)) .no, .mk (some 16) (some (15, true)) (.mov (.t 1)) .no, .mk (some 17) (some (15, true)) (.bin .lss (.t 16) (.c (.one (.st (.int .i64 0)))))
  .no, .mk (some 18) (some (15, true)) (.mov (.t 17)) .no, .mk (some 19) (some (18, false)) (.mov (.t 1)) .no, .mk (some 20) (some (18, false)) (.bin .gtr (.t 19) (.c (.one (.st (.int .i64 400)))))
  .no, .mk (some 21) (some (15, true))
  (.pick (.t 18) (.c (.one (.st (.bool true)))) (.t 20))
  .no, .mk (some 22) none
  (.pick (.t 15) (.t 21) (.c (.one (.st (.bool false)))))
  .no])
  (.cond (.t 22)
  (.ops
  [.mk (some 7) none (.mov (.c (.one (.st (.int .i64 10)))))
  .no])
  .skip))
  (.seq
  (.seq
  (.ops
  [.mk (some 23) none (.mov (.t 7)) .no, .mk (some 24) none (.bin .neq (.t 23) (.c (.one (.st (.int .i64 0)))))
  .no])
  (.cond (.t 24)
  (.seq
  (.ops
  [.mk (some 25) none
  (.build [.st (.str (ByteArray.mk (#[]))), .full []] [])
  .no, .mk (some 26) none (.mov (.t 7)) .no, .mk none none (.store 2 (.t 4) (.t 25)) .no, .mk (some 5) none (.mov (.c (.one (.st (.int .i64 0)))))
  .no, .mk (some 6) none (.mov (.t 26)) .no])
  .ret)
  .skip))
  (.seq
  (.ops
  [.mk (some 8) none (.mov (.c (.one (.st (.int .i64 0)))))
  .no])
  (.block 0
  (.loop
  (.seq
  (.block 1
  (.seq
  (.ops
  [.mk (some 30) none (.load true 2 (.t 2)) .no, .mk (some 31) none (.call 70 [.t 30]) .no, .mk (some 29) none (.mov (.t 31)) .no, .mk (some 32) none (.extract 0 (.t 29)) .no, .mk (some 33) none (.extract 1 (.t 29)) .no, .mk (some 9) none
  (.alloc 25 [.st (.str (ByteArray.mk (#[]))), .full []])
  .no, .mk none none (.store 2 (.t 9) (.t 32))
  .no, .mk (some 10) none (.mov (.t 33)) .no])
  (.seq
  (.seq
  (.ops
  [.mk (some 34) none (.mov (.t 10)) .no, .mk (some 35) none (.un .not (.t 34)) .no])
  (.cond (.t 35)
  (.seq
  (.ops
  [.mk (some 36) none (.load true 2 (.t 2)) .no, .mk (some 37) none (.call 71 [.t 36]) .no, .mk (some 38) none (.mov (.t 8)) .no, .mk none none (.store 2 (.t 4) (.t 37))
  .no, .mk (some 5) none (.mov (.t 38)) .no, .mk (some 6) none (.mov (.c (.one (.st (.int .i64 0)))))
  .no])
  .ret)
  .skip))
  (.seq
  (.seq
  (.ops
  [.mk (some 39) none (.mov (.t 8)) .no, .mk (some 40) none (.mov (.t 1)) .no, .mk (some 41) none (.bin .eql (.t 39) (.t 40))
  .no])
  (.cond (.t 41)
  (.seq
  (.ops
  [.mk (some 42) none
  (.build [.st (.str (ByteArray.mk (#[]))), .full []] [])
  .no, .mk none none (.store 2 (.t 4) (.t 42))
  .no, .mk (some 5) none (.mov (.c (.one (.st (.int .i64 0)))))
  .no, .mk (some 6) none (.mov (.c (.one (.st (.int .i64 9)))))
  .no])
  .ret)
  .skip))
  (.seq
  (.ops
  [.mk (some 43) none (.load true 2 (.t 9)) .no, .mk none none (.store 2 (.t 2) (.t 43))
  .no])
  (.seq
  (.ops
  [.mk (some 44) none (.load true 2 (.t 2)) .no, .mk (some 45) none (.call 72 [.t 44]) .no, .mk (some 46) none (.bin .gtr (.t 45) (.c (.one (.st (.int .i64 2000)))))
  .no])
  (.cond (.t 46)
  (.seq
  (.ops
  [.mk (some 47) none
  (.build [.st (.str (ByteArray.mk (#[]))), .full []] [])
  .no, .mk none none (.store 2 (.t 4) (.t 47))
  .no, .mk (some 5) none (.mov (.c (.one (.st (.int .i64 0)))))
  .no, .mk (some 6) none (.mov (.c (.one (.st (.int .i64 8)))))
  .no])
  .ret)
  .skip)))))))
  (.ops
  [.mk (some 27) none (.mov (.t 8)) .no, .mk (some 28) none (.bin .add (.t 27) (.c (.one (.st (.int .i64 1)))))
  .no, .mk (some 8) none (.mov (.t 28)) .no])))))))))
theorem tr_comb_Run : trCode Try.prog 48 [] (Try.f28.body.getD .skip) = some ir_comb_Run := by kernel_rfl
theorem ac_comb_Run {xs : List AV} {r : AV} (hn : xs.length ≤ 48) (h : ∀ C : Ctx, C.n = 48 → IWP Try.prog C [] ir_comb_Run (FinQ [.cell 4 true 2, .t 5, .t 6] r) (AS.start xs)) : ACalls Try.prog 28 xs r :=
  acalls_of Try.func28 rfl tr_comb_Run rfl hn h
theorem acS_comb_Run {xs : List AV} {S S' : AStore} {r : AV} (hn : xs.length ≤ 48) (h : Clean S → ∀ C : Ctx, C.n = 48 → IWP Try.prog C [] ir_comb_Run (FinS C [.cell 4 true 2, .t 5, .t 6] r S') (AS.startS xs S)) : ACallsS Try.prog 28 xs S r S' :=
  acallsS_of Try.func28 rfl tr_comb_Run rfl hn h

def ir_term_Size : IR :=
  (.seq
  (.ops
  [.mk (some 1) none (.box 25 (.t 0)) .no, .mk (some 2) none (.mov (.c (.one (.st (.int .i64 0)))))
  .no])
  (.seq
  (.ops
  [.mk (some 3) none (.mov (.c (.one (.st (.int .i64 1)))))
  .no])
  (.seq
  (.seq
  (.ops
  [.mk (some 6) none (.fieldAddr 1 (.t 1)) .no, .mk (some 7) none (.load false 1 (.t 6)) .no, .mk (some 8) none (.len false (.t 7)) .no, .mk (some 9) none (.mov (.c (.one (.st (.int .i64 0)))))
  .no])
  (.block 0
  (.loop
  (.seq
  (.ops
  [.mk (some 10) none (.bin .lss (.t 9) (.t 8))
  .no])
  (.seq (.cond (.t 10) .skip (.exit 0))
  (.seq
  (.block 1
  (.seq
  (.ops
  [.mk (some 11) none (.indexAddr 2 (.t 7) (.t 9))
  .no, .mk (some 12) none (.load true 2 (.t 11)) .no, .mk (some 5) none
  (.alloc 25 [.st (.str (ByteArray.mk (#[]))), .full []])
  .no, .mk none none (.store 2 (.t 5) (.t 12))
  .no])
  (.ops
  [.mk (some 13) none (.mov (.t 3)) .no, .mk (some 14) none (.load true 2 (.t 5)) .no, .mk (some 15) none (.call 72 [.t 14]) .no, .mk (some 16) none (.bin .add (.t 13) (.t 15))
  .no, .mk (some 3) none (.mov (.t 16)) .no])))
  (.ops
  [.mk (some 17) none (.bin .add (.t 9) (.c (.one (.st (.int .i64 1)))))
  .no, .mk (some 9) none (.mov (.t 17)) .no])))))))
  (.seq
  (.ops
  [.mk (some 18) none (.mov (.t 3)) .no, .mk (some 2) none (.mov (.t 18)) .no])
  .ret))))
theorem tr_term_Size : trCode Try.prog 19 [] (Try.f72.body.getD .skip) = some ir_term_Size := by kernel_rfl
theorem ac_term_Size {xs : List AV} {r : AV} (hn : xs.length ≤ 19) (h : ∀ C : Ctx, C.n = 19 → IWP Try.prog C [] ir_term_Size (FinQ [.t 2] r) (AS.start xs)) : ACalls Try.prog 72 xs r :=
  acalls_of Try.func72 rfl tr_term_Size rfl hn h
theorem acS_term_Size {xs : List AV} {S S' : AStore} {r : AV} (hn : xs.length ≤ 19) (h : Clean S → ∀ C : Ctx, C.n = 19 → IWP Try.prog C [] ir_term_Size (FinS C [.t 2] r S') (AS.startS xs S)) : ACallsS Try.prog 72 xs S r S' :=
  acallsS_of Try.func72 rfl tr_term_Size rfl hn h

def ir_L_CombRuns : IR :=
  (.seq
  (.ops
  [.mk (some 2) none (.box 25 (.t 0)) .no, .mk (some 4) none (.mov (.c (.one (.st (.bool false)))))
  .no])
  (.seq
  (.seq
  (.ops
  [.mk (some 11) none (.load true 2 (.t 2)) .no, .mk (some 12) none (.call 15 [.t 11]) .no, .mk (some 13) none (.mov (.t 12)) .no, .mk (some 14) (some (13, false)) (.mov (.t 1)) .no, .mk (some 15) (some (13, false)) (.bin .gtr (.t 14) (.c (.one (.st (.int .i64 30)))))
  .no, .mk (some 16) (some (13, false)) (.mov (.t 15)) .no, .mk (some 17) (some (16, true)) (.mov (.t 1)) .no, .mk (some 18) (some (16, true)) (.bin .leq (.t 17) (.c (.one (.st (.int .i64 400)))))
  .no, .mk (some 19) (some (13, false))
  (.pick (.t 16) (.t 18) (.c (.one (.st (.bool false)))))
  .no, .mk (some 20) none
  (.pick (.t 13) (.c (.one (.st (.bool true)))) (.t 19))
  .no])
  (.cond (.t 20)
  (.seq
  (.ops
  [.mk (some 4) none (.mov (.c (.one (.st (.bool true)))))
  .no])
  .ret)
  .skip))
  (.seq
  (.ops
  [.mk (some 21) none (.load true 2 (.t 2)) .no, .mk (some 22) none (.call 26 [.t 21]) .no, .mk (some 5) none (.mov (.t 22)) .no])
  (.seq
  (.seq
  (.ops
  [.mk (some 23) none (.mov (.t 5)) .no, .mk (some 24) none (.bin .eql (.t 23) (.c (.one (.st (.int .i64 0)))))
  .no, .mk (some 25) none (.mov (.t 24)) .no, .mk (some 26) (some (25, true)) (.load true 2 (.t 2)) .no, .mk (some 27) (some (25, true)) (.call 21
  [.t 26, .c (.one (.st (.int .i64 60)))])
  .no, .mk (some 28) (some (25, true)) (.bin .gtr (.t 27) (.c (.one (.st (.int .i64 60)))))
  .no, .mk (some 29) none
  (.pick (.t 25) (.t 28) (.c (.one (.st (.bool false)))))
  .no])
  (.cond (.t 29)
  (.seq
  (.ops
  [.mk (some 4) none (.mov (.c (.one (.st (.bool true)))))
  .no])
  .ret)
  .skip))
  (.seq
  (.seq
  (.ops
  [.mk (some 30) none (.mov (.t 5)) .no, .mk (some 31) none (.bin .eql (.t 30) (.c (.one (.st (.int .i64 0)))))
  .no, .mk (some 32) none (.mov (.t 31)) .no, .mk (some 33) (some (32, true)) (.mov (.t 1)) .no, .mk (some 34) (some (32, true)) (.bin .lss (.t 33) (.c (.one (.st (.int .i64 0)))))
  .no, .mk (some 35) (some (32, true)) (.mov (.t 34)) .no, .mk (some 36) (some (35, false)) (.mov (.t 1)) .no, .mk (some 37) (some (35, false)) (.bin .gtr (.t 36) (.c (.one (.st (.int .i64 400)))))
  .no, .mk (some 38) (some (32, true))
  (.pick (.t 35) (.c (.one (.st (.bool true)))) (.t 37))
  .no, .mk (some 39) none
  (.pick (.t 32) (.t 38) (.c (.one (.st (.bool false)))))
  .no])
  (.cond (.t 39)
  (.ops
  [.mk (some 5) none (.mov (.c (.one (.st (.int .i64 10)))))
  .no])
  .skip))
  (.seq
  (.ops
  [.mk (some 40) none
  (.build [.st (.str (ByteArray.mk (#[]))), .full []] [])
  .no, .mk (some 6) none
  (.alloc 25 [.st (.str (ByteArray.mk (#[]))), .full []])
  .no, .mk none none (.store 2 (.t 6) (.t 40)) .no])
  (.seq
  (.ops
  [.mk (some 7) none (.mov (.c (.one (.st (.int .i64 0)))))
  .no])
  (.seq
  (.seq
  (.ops
  [.mk (some 41) none (.mov (.t 5)) .no, .mk (some 42) none (.bin .eql (.t 41) (.c (.one (.st (.int .i64 0)))))
  .no])
  (.cond (.t 42)
  (.ops
  [.mk (some 44) none (.load true 2 (.t 2)) .no, .mk (some 45) none (.mov (.t 1)) .no, .mk (some 46) none (.call 27 [.t 44, .t 45])
  .no, .mk (some 43) none (.mov (.t 46)) .no, .mk (some 47) none (.extract 0 (.t 43)) .no, .mk (some 48) none (.extract 1 (.t 43)) .no, .mk (some 49) none (.extract 2 (.t 43)) .no, .mk none none (.store 2 (.t 6) (.t 47))
  .no, .mk (some 7) none (.mov (.t 48)) .no, .mk (some 5) none (.mov (.t 49)) .no])
  .skip))
  (.seq
  (.ops
  [.mk (some 51) none (.load true 2 (.t 2)) .no, .mk (some 52) none (.mov (.t 1)) .no, .mk (some 53) none (.call 28 [.t 51, .t 52])
  .no, .mk (some 50) none (.mov (.t 53)) .no, .mk (some 54) none (.extract 0 (.t 50)) .no, .mk (some 55) none (.extract 1 (.t 50)) .no, .mk (some 56) none (.extract 2 (.t 50)) .no, .mk (some 8) none
  (.alloc 25 [.st (.str (ByteArray.mk (#[]))), .full []])
  .no, .mk none none (.store 2 (.t 8) (.t 54))
  .no, .mk (some 9) none (.mov (.t 55)) .no, .mk (some 10) none (.mov (.t 56)) .no])
  (.seq
  (.ops
  [.mk (some 57) none (.load true 2 (.t 8)) .no, .mk (some 58) none (.mov (.t 10)) .no, .mk (some 59) none (.load true 2 (.t 6)) .no, .mk (some 60) none (.mov (.t 5)) .no, .mk (some 61) none (.call 14 [.t 57, .t 58, .t 59, .t 60])
  .no, .mk (some 62) none (.mov (.t 61)) .no, .mk (some 63) (some (62, true)) (.mov (.t 9)) .no, .mk (some 64) (some (62, true)) (.mov (.t 7)) .no, .mk (some 65) (some (62, true)) (.bin .eql (.t 63) (.t 64)) .no, .mk (some 66) none
  (.pick (.t 62) (.t 65) (.c (.one (.st (.bool false)))))
  .no, .mk (some 4) none (.mov (.t 66)) .no])
  .ret))))))))))
theorem tr_L_CombRuns : trCode Try.prog 67 [] (Try.f7.body.getD .skip) = some ir_L_CombRuns := by kernel_rfl
theorem ac_L_CombRuns {xs : List AV} {r : AV} (hn : xs.length ≤ 67) (h : ∀ C : Ctx, C.n = 67 → IWP Try.prog C [] ir_L_CombRuns (FinQ [.t 4] r) (AS.start xs)) : ACalls Try.prog 7 xs r :=
  acalls_of Try.func7 rfl tr_L_CombRuns rfl hn h
theorem acS_L_CombRuns {xs : List AV} {S S' : AStore} {r : AV} (hn : xs.length ≤ 67) (h : Clean S → ∀ C : Ctx, C.n = 67 → IWP Try.prog C [] ir_L_CombRuns (FinS C [.t 4] r S') (AS.startS xs S)) : ACallsS Try.prog 7 xs S r S' :=
  acallsS_of Try.func7 rfl tr_L_CombRuns rfl hn h

end Go.Proofs.Ytkjbaabkaboaoaa
