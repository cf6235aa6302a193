/-
  The program's functions in abstract operations: written by a program of mine out of the translation; each is shown to be the translation's.
  Conditions: none.
-/
import Derived.Test.YtecjikegppjdiaaDoorBVars
namespace Go.Proofs.YtecjikegppjdiaaDoor
open Go Go.RowKit
set_option maxRecDepth 100000

def ir_comb_form : IR :=
  (.seq
  (.ops
  [.mk (some 1) none (.box 24 (.t 0)) .no, .mk (some 2) none (.mov (.c (.one (.st (.int .i64 0)))))
  .no])
  (.seq
  (.seq
  (.ops
  [.mk (some 3) none (.fieldAddr 1 (.t 1)) .no, .mk (some 4) none (.load false 1 (.t 3)) .no, .mk (some 5) none (.len false (.t 4)) .no, .mk (some 6) none (.bin .eql (.t 5) (.c (.one (.st (.int .i64 0)))))
  .no])
  (.cond (.t 6)
  (.seq
  (.ops
  [.mk (some 2) none (.mov (.c (.one (.st (.int .i64 0)))))
  .no])
  .ret)
  .skip))
  (.seq
  (.seq
  (.ops
  [.mk (some 7) none (.fieldAddr 0 (.t 1)) .no, .mk (some 8) none (.load false 1 (.t 7)) .no, .mk (some 9) none (.bin .neq (.t 8) (.c (.one (.st (.str (ByteArray.mk (#[97, 112])))))))
  .no, .mk (some 10) none (.mov (.t 9)) .no, .mk (some 11) (some (10, false)) (.fieldAddr 1 (.t 1)) .no, .mk (some 12) (some (10, false)) (.load false 1 (.t 11))
  .no, .mk (some 13) (some (10, false)) (.len false (.t 12))
  .no, .mk (some 14) (some (10, false)) (.bin .neq (.t 13) (.c (.one (.st (.int .i64 2)))))
  .no, .mk (some 15) none
  (.pick (.t 10) (.c (.one (.st (.bool true)))) (.t 14))
  .no])
  (.cond (.t 15)
  (.seq
  (.ops
  [.mk (some 2) none (.mov (.c (.one (.st (.int .i64 2)))))
  .no])
  .ret)
  .skip))
  (.seq
  (.ops
  [.mk (some 16) none (.fieldAddr 1 (.t 1)) .no, .mk (some 17) none (.load false 1 (.t 16)) .no, .mk (some 18) none
  (.indexAddr 2 (.t 17) (.c (.one (.st (.int .i64 0)))))
  .no, .mk (some 19) none (.load true 2 (.t 18)) .no, .mk (some 20) none (.call 28 [.t 19]) .no, .mk (some 21) none (.fieldAddr 1 (.t 1)) .no, .mk (some 22) none (.load false 1 (.t 21)) .no, .mk (some 23) none
  (.indexAddr 2 (.t 22) (.c (.one (.st (.int .i64 1)))))
  .no, .mk (some 24) none (.load true 2 (.t 23)) .no, .mk (some 25) none (.call 28 [.t 24]) .no, .mk (some 26) none (.mm true (.t 20) (.t 25))
  .no, .mk (some 2) none (.mov (.t 26)) .no])
  .ret))))
theorem tr_comb_form : trCode Tryd.prog 27 [] (Tryd.f28.body.getD .skip) = some ir_comb_form := by kernel_rfl
theorem ac_comb_form {xs : List AV} {r : AV} (hn : xs.length ≤ 27) (h : ∀ C : Ctx, C.n = 27 → IWP Tryd.prog C [] ir_comb_form (FinQ [.t 2] r) (AS.start xs)) : ACalls Tryd.prog 28 xs r :=
  acalls_of Tryd.func28 rfl tr_comb_form rfl hn h
theorem acS_comb_form {xs : List AV} {S S' : AStore} {r : AV} (hn : xs.length ≤ 27) (h : Clean S → ∀ C : Ctx, C.n = 27 → IWP Tryd.prog C [] ir_comb_form (FinS C [.t 2] r S') (AS.startS xs S)) : ACallsS Tryd.prog 28 xs S r S' :=
  acallsS_of Tryd.func28 rfl tr_comb_form rfl hn h

def ir_comb_Check : IR :=
  (.seq
  (.ops
  [.mk (some 1) none (.box 24 (.t 0)) .no, .mk (some 2) none (.mov (.c (.one (.st (.int .i64 0)))))
  .no])
  (.seq
  (.seq
  (.ops
  [.mk (some 4) none (.load true 2 (.t 1)) .no, .mk (some 5) none (.call 27 [.t 4]) .no, .mk (some 3) none (.mov (.t 5)) .no])
  (.seq
  (.ops
  [.mk (some 6) none (.mov (.t 3)) .no, .mk (some 7) none (.bin .neq (.t 6) (.c (.one (.st (.int .i64 0)))))
  .no])
  (.cond (.t 7)
  (.seq
  (.ops
  [.mk (some 8) none (.mov (.t 3)) .no, .mk (some 2) none (.mov (.t 8)) .no])
  .ret)
  .skip)))
  (.seq
  (.ops
  [.mk (some 9) none (.load true 2 (.t 1)) .no, .mk (some 10) none (.call 28 [.t 9]) .no, .mk (some 2) none (.mov (.t 10)) .no])
  .ret)))
theorem tr_comb_Check : trCode Tryd.prog 11 [] (Tryd.f11.body.getD .skip) = some ir_comb_Check := by kernel_rfl
theorem ac_comb_Check {xs : List AV} {r : AV} (hn : xs.length ≤ 11) (h : ∀ C : Ctx, C.n = 11 → IWP Tryd.prog C [] ir_comb_Check (FinQ [.t 2] r) (AS.start xs)) : ACalls Tryd.prog 11 xs r :=
  acalls_of Tryd.func11 rfl tr_comb_Check rfl hn h
theorem acS_comb_Check {xs : List AV} {S S' : AStore} {r : AV} (hn : xs.length ≤ 11) (h : Clean S → ∀ C : Ctx, C.n = 11 → IWP Tryd.prog C [] ir_comb_Check (FinS C [.t 2] r S') (AS.startS xs S)) : ACallsS Tryd.prog 11 xs S r S' :=
  acallsS_of Tryd.func11 rfl tr_comb_Check rfl hn h

def ir_R_CombMay : IR :=
  (.seq
  (.ops
  [.mk (some 1) none (.box 24 (.t 0)) .no, .mk (some 2) none (.mov (.c (.one (.st (.int .i64 0)))))
  .no])
  (.seq
  (.ops
  [.mk (some 6) none (.load true 2 (.t 1)) .no, .mk (some 7) none (.call 17 [.t 6]) .no, .mk (some 3) none (.mov (.t 7)) .no])
  (.seq
  (.seq
  (.ops
  [.mk (some 8) none (.mov (.t 3)) .no, .mk (some 9) none (.bin .neq (.t 8) (.c (.one (.st (.int .i64 0)))))
  .no])
  (.cond (.t 9)
  (.seq
  (.ops
  [.mk (some 10) none (.mov (.t 3)) .no, .mk (some 2) none (.mov (.t 10)) .no])
  .ret)
  .skip))
  (.seq
  (.ops
  [.mk (some 11) none (.load true 2 (.t 1)) .no, .mk (some 12) none (.call 18 [.t 11]) .no, .mk (some 4) none (.mov (.t 12)) .no])
  (.seq
  (.seq
  (.ops
  [.mk (some 5) none (.mov (.c (.one (.st (.int .i64 0)))))
  .no])
  (.block 0
  (.loop
  (.seq
  (.seq
  (.ops
  [.mk (some 13) none (.mov (.t 5)) .no, .mk (some 14) none (.mov (.t 4)) .no, .mk (some 15) none (.len false (.t 14)) .no, .mk (some 16) none (.bin .lss (.t 13) (.t 15))
  .no])
  (.cond (.t 16) .skip (.exit 0)))
  (.seq
  (.block 1
  (.seq
  (.ops
  [.mk (some 19) none (.mov (.t 4)) .no, .mk (some 20) none (.mov (.t 5)) .no, .mk (some 21) none (.indexAddr 2 (.t 19) (.t 20))
  .no, .mk (some 22) none (.fieldAddr 1 (.t 21)) .no, .mk (some 23) none (.load false 1 (.t 22))
  .no, .mk (some 24) none (.len false (.t 23)) .no, .mk (some 25) none (.bin .gtr (.t 24) (.c (.one (.st (.int .i64 0)))))
  .no, .mk (some 26) none (.mov (.t 25)) .no, .mk (some 27) (some (26, true)) (.mov (.t 4))
  .no, .mk (some 28) (some (26, true)) (.mov (.t 5))
  .no, .mk (some 29) (some (26, true))
  (.indexAddr 2 (.t 27) (.t 28)) .no, .mk (some 30) (some (26, true)) (.fieldAddr 0 (.t 29))
  .no, .mk (some 31) (some (26, true)) (.load false 1 (.t 30))
  .no, .mk (some 32) (some (26, true)) (.bin .neq (.t 31) (.c (.one (.st (.str (ByteArray.mk (#[97, 112])))))))
  .no, .mk (some 33) (some (26, true)) (.mov (.t 32))
  .no, .mk (some 34) (some (33, false)) (.mov (.t 4))
  .no, .mk (some 35) (some (33, false)) (.mov (.t 5))
  .no, .mk (some 36) (some (33, false))
  (.indexAddr 2 (.t 34) (.t 35)) .no, .mk (some 37) (some (33, false)) (.fieldAddr 1 (.t 36))
  .no, .mk (some 38) (some (33, false)) (.load false 1 (.t 37))
  .no, .mk (some 39) (some (33, false)) (.len false (.t 38))
  .no, .mk (some 40) (some (33, false)) (.bin .neq (.t 39) (.c (.one (.st (.int .i64 2)))))
  .no, .mk (some 41) (some (26, true))
  (.pick (.t 33) (.c (.one (.st (.bool true)))) (.t 40))
  .no, .mk (some 42) none
  (.pick (.t 26) (.t 41) (.c (.one (.st (.bool false)))))
  .no])
  (.cond (.t 42)
  (.seq
  (.ops
  [.mk (some 2) none (.mov (.c (.one (.st (.int .i64 2)))))
  .no])
  .ret)
  .skip)))
  (.ops
  [.mk (some 17) none (.mov (.t 5)) .no, .mk (some 18) none (.bin .add (.t 17) (.c (.one (.st (.int .i64 1)))))
  .no, .mk (some 5) none (.mov (.t 18)) .no]))))))
  (.seq
  (.ops
  [.mk (some 2) none (.mov (.c (.one (.st (.int .i64 0)))))
  .no])
  .ret))))))
theorem tr_R_CombMay : trCode Tryd.prog 43 [] (Tryd.f5.body.getD .skip) = some ir_R_CombMay := by kernel_rfl
theorem ac_R_CombMay {xs : List AV} {r : AV} (hn : xs.length ≤ 43) (h : ∀ C : Ctx, C.n = 43 → IWP Tryd.prog C [] ir_R_CombMay (FinQ [.t 2] r) (AS.start xs)) : ACalls Tryd.prog 5 xs r :=
  acalls_of Tryd.func5 rfl tr_R_CombMay rfl hn h
theorem acS_R_CombMay {xs : List AV} {S S' : AStore} {r : AV} (hn : xs.length ≤ 43) (h : Clean S → ∀ C : Ctx, C.n = 43 → IWP Tryd.prog C [] ir_R_CombMay (FinS C [.t 2] r S') (AS.startS xs S)) : ACallsS Tryd.prog 5 xs S r S' :=
  acallsS_of Tryd.func5 rfl tr_R_CombMay rfl hn h

def ir_comb_ap : IR :=
  (.seq
  (.ops
  [.mk (some 2) none (.box 24 (.t 0)) .no, .mk (some 3) none (.box 24 (.t 1)) .no, .mk (some 4) none
  (.alloc 24 [.st (.str (ByteArray.mk (#[]))), .full []])
  .no])
  (.seq
  (.ops
  [.mk (some 5) none (.load true 2 (.t 2)) .no, .mk (some 6) none (.load true 2 (.t 3)) .no, .mk (some 7) none (.buildSlice false 24 2 [.t 5, .t 6])
  .no, .mk (some 8) none
  (.build [.st (.str (ByteArray.mk (#[]))), .full []]
  [(0, 1, .c (.one (.st (.str (ByteArray.mk (#[97, 112])))))),
  (1, 1, .t 7)])
  .no, .mk none none (.store 2 (.t 4) (.t 8))
  .no])
  .ret))
theorem tr_comb_ap : trCode Tryd.prog 9 [] (Tryd.f42.body.getD .skip) = some ir_comb_ap := by kernel_rfl
theorem ac_comb_ap {xs : List AV} {r : AV} (hn : xs.length ≤ 9) (h : ∀ C : Ctx, C.n = 9 → IWP Tryd.prog C [] ir_comb_ap (FinQ [.cell 4 true 2] r) (AS.start xs)) : ACalls Tryd.prog 42 xs r :=
  acalls_of Tryd.func42 rfl tr_comb_ap rfl hn h
theorem acS_comb_ap {xs : List AV} {S S' : AStore} {r : AV} (hn : xs.length ≤ 9) (h : Clean S → ∀ C : Ctx, C.n = 9 → IWP Tryd.prog C [] ir_comb_ap (FinS C [.cell 4 true 2] r S') (AS.startS xs S)) : ACallsS Tryd.prog 42 xs S r S' :=
  acallsS_of Tryd.func42 rfl tr_comb_ap rfl hn h

def ir_R_Put2 : IR :=
  (.seq
  (.ops
  [.mk (some 2) none (.box 24 (.t 0)) .no, .mk (some 3) none (.box 24 (.t 1)) .no, .mk (some 4) none
  (.alloc 24 [.st (.str (ByteArray.mk (#[]))), .full []])
  .no])
  (.seq
  (.ops
  [.mk (some 5) none (.load true 2 (.t 2)) .no, .mk (some 6) none (.load true 2 (.t 3)) .no, .mk (some 7) none (.buildSlice false 24 2 [.t 5, .t 6])
  .no, .mk (some 8) none
  (.build [.st (.str (ByteArray.mk (#[]))), .full []]
  [(0, 1, .c (.one (.st (.str (ByteArray.mk (#[97, 112])))))),
  (1, 1, .t 7)])
  .no, .mk none none (.store 2 (.t 4) (.t 8))
  .no])
  .ret))
theorem tr_R_Put2 : trCode Tryd.prog 9 [] (Tryd.f21.body.getD .skip) = some ir_R_Put2 := by kernel_rfl
theorem ac_R_Put2 {xs : List AV} {r : AV} (hn : xs.length ≤ 9) (h : ∀ C : Ctx, C.n = 9 → IWP Tryd.prog C [] ir_R_Put2 (FinQ [.cell 4 true 2] r) (AS.start xs)) : ACalls Tryd.prog 21 xs r :=
  acalls_of Tryd.func21 rfl tr_R_Put2 rfl hn h
theorem acS_R_Put2 {xs : List AV} {S S' : AStore} {r : AV} (hn : xs.length ≤ 9) (h : Clean S → ∀ C : Ctx, C.n = 9 → IWP Tryd.prog C [] ir_R_Put2 (FinS C [.cell 4 true 2] r S') (AS.startS xs S)) : ACallsS Tryd.prog 21 xs S r S' :=
  acallsS_of Tryd.func21 rfl tr_R_Put2 rfl hn h

def ir_term_Size : IR :=
  (.seq
  (.ops
  [.mk (some 1) none (.box 24 (.t 0)) .no, .mk (some 2) none (.mov (.c (.one (.st (.int .i64 0)))))
  .no])
  (.seq
  (.ops
  [.mk (some 3) none (.mov (.c (.one (.st (.int .i64 1)))))
  .no])
  (.seq
  (.seq
  (.ops
  [.mk (some 6) none (.fieldAddr 1 (.t 1)) .no, .mk (some 7) none (.load false 1 (.t 6)) .no, .mk (some 8) none (.len false (.t 7)) .no, .mk (some 9) none (.mov (.c (.one (.st (.int .i64 0)))))
  .no])
  (.block 0
  (.loop
  (.seq
  (.ops
  [.mk (some 10) none (.bin .lss (.t 9) (.t 8))
  .no])
  (.seq (.cond (.t 10) .skip (.exit 0))
  (.seq
  (.block 1
  (.seq
  (.ops
  [.mk (some 11) none (.indexAddr 2 (.t 7) (.t 9))
  .no, .mk (some 12) none (.load true 2 (.t 11)) .no, .mk (some 5) none
  (.alloc 24 [.st (.str (ByteArray.mk (#[]))), .full []])
  .no, .mk none none (.store 2 (.t 5) (.t 12))
  .no])
  (.ops
  [.mk (some 13) none (.mov (.t 3)) .no, .mk (some 14) none (.load true 2 (.t 5)) .no, .mk (some 15) none (.call 39 [.t 14]) .no, .mk (some 16) none (.bin .add (.t 13) (.t 15)) .no, .mk (some 3) none (.mov (.t 16)) .no])))
  (.ops
  [.mk (some 17) none (.bin .add (.t 9) (.c (.one (.st (.int .i64 1)))))
  .no, .mk (some 9) none (.mov (.t 17)) .no])))))))
  (.seq
  (.ops
  [.mk (some 18) none (.mov (.t 3)) .no, .mk (some 2) none (.mov (.t 18)) .no])
  .ret))))
theorem tr_term_Size : trCode Tryd.prog 19 [] (Tryd.f39.body.getD .skip) = some ir_term_Size := by kernel_rfl
theorem ac_term_Size {xs : List AV} {r : AV} (hn : xs.length ≤ 19) (h : ∀ C : Ctx, C.n = 19 → IWP Tryd.prog C [] ir_term_Size (FinQ [.t 2] r) (AS.start xs)) : ACalls Tryd.prog 39 xs r :=
  acalls_of Tryd.func39 rfl tr_term_Size rfl hn h
theorem acS_term_Size {xs : List AV} {S S' : AStore} {r : AV} (hn : xs.length ≤ 19) (h : Clean S → ∀ C : Ctx, C.n = 19 → IWP Tryd.prog C [] ir_term_Size (FinS C [.t 2] r S') (AS.startS xs S)) : ACallsS Tryd.prog 39 xs S r S' :=
  acallsS_of Tryd.func39 rfl tr_term_Size rfl hn h

end Go.Proofs.YtecjikegppjdiaaDoor
