/-
  The program's functions in abstract operations: written by a program of mine out of the translation; each is shown to be the translation's.
  Conditions: none.
-/
import Derived.Test.YtbgnkcmaohkimaaDoorBLamPut
namespace Go.Proofs.YtbgnkcmaohkimaaDoor
open Go Go.RowKit
set_option maxRecDepth 100000

def ir_lambda_A : IR :=
  (.seq
  (.ops
  [.mk (some 2) none (.box 25 (.t 0)) .no, .mk (some 3) none (.box 25 (.t 1)) .no, .mk (some 4) none
  (.alloc 25
  [.st (.int .i64 0), .st (.int .i64 0),
  .full []])
  .no])
  (.seq
  (.ops
  [.mk (some 5) none (.load true 3 (.t 2)) .no, .mk (some 6) none (.load true 3 (.t 3)) .no, .mk (some 7) none (.buildSlice false 25 3 [.t 5, .t 6])
  .no, .mk (some 8) none
  (.build
  [.st (.int .i64 0), .st (.int .i64 0),
  .full []]
  [(0, 1, .c (.one (.st (.int .i64 3)))),
  (2, 1, .t 7)])
  .no, .mk none none (.store 3 (.t 4) (.t 8))
  .no])
  .ret))
theorem tr_lambda_A : trCode Tryd.prog 9 [] (Tryd.f12.body.getD .skip) = some ir_lambda_A := by kernel_rfl
theorem ac_lambda_A {xs : List AV} {r : AV} (hn : xs.length ≤ 9) (h : ∀ C : Ctx, C.n = 9 → IWP Tryd.prog C [] ir_lambda_A (FinQ [.cell 4 true 3] r) (AS.start xs)) : ACalls Tryd.prog 12 xs r :=
  acalls_of Tryd.func12 rfl tr_lambda_A rfl hn h
theorem acS_lambda_A {xs : List AV} {S S' : AStore} {r : AV} (hn : xs.length ≤ 9) (h : Clean S → ∀ C : Ctx, C.n = 9 → IWP Tryd.prog C [] ir_lambda_A (FinS C [.cell 4 true 3] r S') (AS.startS xs S)) : ACallsS Tryd.prog 12 xs S r S' :=
  acallsS_of Tryd.func12 rfl tr_lambda_A rfl hn h

def ir_lambda_L : IR :=
  (.seq
  (.ops
  [.mk (some 1) none (.box 25 (.t 0)) .no, .mk (some 2) none
  (.alloc 25
  [.st (.int .i64 0), .st (.int .i64 0),
  .full []])
  .no])
  (.seq
  (.ops
  [.mk (some 3) none (.load true 3 (.t 1)) .no, .mk (some 4) none (.buildSlice false 25 3 [.t 3]) .no, .mk (some 5) none
  (.build
  [.st (.int .i64 0), .st (.int .i64 0),
  .full []]
  [(0, 1, .c (.one (.st (.int .i64 2)))),
  (2, 1, .t 4)])
  .no, .mk none none (.store 3 (.t 2) (.t 5))
  .no])
  .ret))
theorem tr_lambda_L : trCode Tryd.prog 6 [] (Tryd.f13.body.getD .skip) = some ir_lambda_L := by kernel_rfl
theorem ac_lambda_L {xs : List AV} {r : AV} (hn : xs.length ≤ 6) (h : ∀ C : Ctx, C.n = 6 → IWP Tryd.prog C [] ir_lambda_L (FinQ [.cell 2 true 3] r) (AS.start xs)) : ACalls Tryd.prog 13 xs r :=
  acalls_of Tryd.func13 rfl tr_lambda_L rfl hn h
theorem acS_lambda_L {xs : List AV} {S S' : AStore} {r : AV} (hn : xs.length ≤ 6) (h : Clean S → ∀ C : Ctx, C.n = 6 → IWP Tryd.prog C [] ir_lambda_L (FinS C [.cell 2 true 3] r S') (AS.startS xs S)) : ACallsS Tryd.prog 13 xs S r S' :=
  acallsS_of Tryd.func13 rfl tr_lambda_L rfl hn h

def ir_lambda_Copy : IR :=
  (.seq
  (.ops
  [.mk (some 1) none (.box 25 (.t 0)) .no, .mk (some 2) none
  (.alloc 25
  [.st (.int .i64 0), .st (.int .i64 0),
  .full []])
  .no])
  (.seq
  (.ops
  [.mk (some 3) none (.load true 3 (.t 1)) .no, .mk (some 4) none (.call 27
  [.t 3, .c (.one (.st (.int .i64 0))), .c (.one (.st (.int .i64 0)))])
  .no, .mk none none (.store 3 (.t 2) (.t 4))
  .no])
  .ret))
theorem tr_lambda_Copy : trCode Tryd.prog 5 [] (Tryd.f21.body.getD .skip) = some ir_lambda_Copy := by kernel_rfl
theorem ac_lambda_Copy {xs : List AV} {r : AV} (hn : xs.length ≤ 5) (h : ∀ C : Ctx, C.n = 5 → IWP Tryd.prog C [] ir_lambda_Copy (FinQ [.cell 2 true 3] r) (AS.start xs)) : ACalls Tryd.prog 21 xs r :=
  acalls_of Tryd.func21 rfl tr_lambda_Copy rfl hn h
theorem acS_lambda_Copy {xs : List AV} {S S' : AStore} {r : AV} (hn : xs.length ≤ 5) (h : Clean S → ∀ C : Ctx, C.n = 5 → IWP Tryd.prog C [] ir_lambda_Copy (FinS C [.cell 2 true 3] r S') (AS.startS xs S)) : ACallsS Tryd.prog 21 xs S r S' :=
  acallsS_of Tryd.func21 rfl tr_lambda_Copy rfl hn h

def ir_lambda_Same : IR :=
  (.seq
  (.ops
  [.mk (some 2) none (.box 25 (.t 0)) .no, .mk (some 3) none (.box 25 (.t 1)) .no, .mk (some 4) none (.mov (.c (.one (.st (.bool false)))))
  .no])
  (.seq
  (.ops
  [.mk (some 5) none (.fieldAddr 0 (.t 2)) .no, .mk (some 6) none (.load false 1 (.t 5)) .no, .mk (some 7) none (.fieldAddr 0 (.t 3)) .no, .mk (some 8) none (.load false 1 (.t 7)) .no, .mk (some 9) none (.bin .eql (.t 6) (.t 8))
  .no, .mk (some 10) none (.mov (.t 9)) .no, .mk (some 11) (some (10, true)) (.fieldAddr 1 (.t 2)) .no, .mk (some 12) (some (10, true)) (.load false 1 (.t 11)) .no, .mk (some 13) (some (10, true)) (.fieldAddr 1 (.t 3)) .no, .mk (some 14) (some (10, true)) (.load false 1 (.t 13)) .no, .mk (some 15) (some (10, true)) (.bin .eql (.t 12) (.t 14)) .no, .mk (some 16) none
  (.pick (.t 10) (.t 15) (.c (.one (.st (.bool false)))))
  .no, .mk (some 17) none (.mov (.t 16)) .no, .mk (some 18) (some (17, true)) (.fieldAddr 2 (.t 2)) .no, .mk (some 19) (some (17, true)) (.load false 1 (.t 18)) .no, .mk (some 20) (some (17, true)) (.fieldAddr 2 (.t 3)) .no, .mk (some 21) (some (17, true)) (.load false 1 (.t 20)) .no, .mk (some 22) (some (17, true)) (.call 19
  [.t 19, .t 21, .c (.one (.fn 15 []))])
  .no, .mk (some 23) none
  (.pick (.t 17) (.t 22) (.c (.one (.st (.bool false)))))
  .no, .mk (some 4) none (.mov (.t 23)) .no])
  .ret))
theorem tr_lambda_Same : trCode Tryd.prog 24 [] (Tryd.f15.body.getD .skip) = some ir_lambda_Same := by kernel_rfl
theorem ac_lambda_Same {xs : List AV} {r : AV} (hn : xs.length ≤ 24) (h : ∀ C : Ctx, C.n = 24 → IWP Tryd.prog C [] ir_lambda_Same (FinQ [.t 4] r) (AS.start xs)) : ACalls Tryd.prog 15 xs r :=
  acalls_of Tryd.func15 rfl tr_lambda_Same rfl hn h
theorem acS_lambda_Same {xs : List AV} {S S' : AStore} {r : AV} (hn : xs.length ≤ 24) (h : Clean S → ∀ C : Ctx, C.n = 24 → IWP Tryd.prog C [] ir_lambda_Same (FinS C [.t 4] r S') (AS.startS xs S)) : ACallsS Tryd.prog 15 xs S r S' :=
  acallsS_of Tryd.func15 rfl tr_lambda_Same rfl hn h

def ir_slices_EqualFunc_metaprune_api_Lam_metaprune_api_Lam_metaprune_api_Lam_metaprune_api_Lam : IR :=
  (.seq
  (.ops
  [.mk (some 6) none (.mov (.c (.one (.st (.bool false)))))
  .no])
  (.seq
  (.seq
  (.ops
  [.mk (some 10) none (.mov (.t 0)) .no, .mk (some 11) none (.len false (.t 10)) .no, .mk (some 12) none (.mov (.t 1)) .no, .mk (some 13) none (.len false (.t 12)) .no, .mk (some 14) none (.bin .neq (.t 11) (.t 13))
  .no])
  (.cond (.t 14)
  (.seq
  (.ops
  [.mk (some 6) none (.mov (.c (.one (.st (.bool false)))))
  .no])
  .ret)
  .skip))
  (.seq
  (.seq
  (.ops
  [.mk (some 15) none (.mov (.t 0)) .no, .mk (some 16) none (.len false (.t 15)) .no, .mk (some 17) none (.mov (.c (.one (.st (.int .i64 0)))))
  .no])
  (.block 0
  (.loop
  (.seq
  (.ops
  [.mk (some 18) none (.bin .lss (.t 17) (.t 16))
  .no])
  (.seq (.cond (.t 18) .skip (.exit 0))
  (.seq
  (.block 1
  (.seq
  (.ops
  [.mk (some 19) none (.mov (.t 17)) .no, .mk (some 20) none (.indexAddr 3 (.t 15) (.t 17))
  .no, .mk (some 21) none (.load true 3 (.t 20)) .no, .mk (some 8) none
  (.alloc 25
  [.st (.int .i64 0), .st (.int .i64 0),
  .full []])
  .no, .mk (some 7) none (.mov (.t 19)) .no, .mk none none (.store 3 (.t 8) (.t 21))
  .no])
  (.seq
  (.ops
  [.mk (some 22) none (.mov (.t 1)) .no, .mk (some 23) none (.mov (.t 7)) .no, .mk (some 24) none (.indexAddr 3 (.t 22) (.t 23))
  .no, .mk (some 25) none (.load true 3 (.t 24)) .no, .mk (some 9) none
  (.alloc 25
  [.st (.int .i64 0), .st (.int .i64 0),
  .full []])
  .no, .mk none none (.store 3 (.t 9) (.t 25))
  .no])
  (.seq
  (.ops
  [.mk (some 26) none (.mov (.t 2)) .no, .mk (some 27) none (.load true 3 (.t 8))
  .no, .mk (some 28) none (.load true 3 (.t 9))
  .no, .mk (some 29) none
  (.callV (.t 26) [.t 27, .t 28])
  .no, .mk (some 30) none (.un .not (.t 29))
  .no])
  (.cond (.t 30)
  (.seq
  (.ops
  [.mk (some 6) none (.mov (.c (.one (.st (.bool false)))))
  .no])
  .ret)
  .skip)))))
  (.ops
  [.mk (some 31) none (.bin .add (.t 17) (.c (.one (.st (.int .i64 1)))))
  .no, .mk (some 17) none (.mov (.t 31)) .no])))))))
  (.seq
  (.ops
  [.mk (some 6) none (.mov (.c (.one (.st (.bool true)))))
  .no])
  .ret))))
theorem tr_slices_EqualFunc_metaprune_api_Lam_metaprune_api_Lam_metaprune_api_Lam_metaprune_api_Lam : trCode Tryd.prog 32 [] (Tryd.f19.body.getD .skip) = some ir_slices_EqualFunc_metaprune_api_Lam_metaprune_api_Lam_metaprune_api_Lam_metaprune_api_Lam := by kernel_rfl
theorem ac_slices_EqualFunc_metaprune_api_Lam_metaprune_api_Lam_metaprune_api_Lam_metaprune_api_Lam {xs : List AV} {r : AV} (hn : xs.length ≤ 32) (h : ∀ C : Ctx, C.n = 32 → IWP Tryd.prog C [] ir_slices_EqualFunc_metaprune_api_Lam_metaprune_api_Lam_metaprune_api_Lam_metaprune_api_Lam (FinQ [.t 6] r) (AS.start xs)) : ACalls Tryd.prog 19 xs r :=
  acalls_of Tryd.func19 rfl tr_slices_EqualFunc_metaprune_api_Lam_metaprune_api_Lam_metaprune_api_Lam_metaprune_api_Lam rfl hn h
theorem acS_slices_EqualFunc_metaprune_api_Lam_metaprune_api_Lam_metaprune_api_Lam_metaprune_api_Lam {xs : List AV} {S S' : AStore} {r : AV} (hn : xs.length ≤ 32) (h : Clean S → ∀ C : Ctx, C.n = 32 → IWP Tryd.prog C [] ir_slices_EqualFunc_metaprune_api_Lam_metaprune_api_Lam_metaprune_api_Lam_metaprune_api_Lam (FinS C [.t 6] r S') (AS.startS xs S)) : ACallsS Tryd.prog 19 xs S r S' :=
  acallsS_of Tryd.func19 rfl tr_slices_EqualFunc_metaprune_api_Lam_metaprune_api_Lam_metaprune_api_Lam_metaprune_api_Lam rfl hn h

def ir_reduce_Redex : IR :=
  (.seq
  (.ops
  [.mk (some 1) none (.box 25 (.t 0)) .no, .mk (some 2) none (.mov (.c (.one (.st (.bool false)))))
  .no])
  (.seq
  (.ops
  [.mk (some 3) none (.fieldAddr 0 (.t 1)) .no, .mk (some 4) none (.load false 1 (.t 3)) .no, .mk (some 5) none (.bin .eql (.t 4) (.c (.one (.st (.int .i64 3)))))
  .no, .mk (some 6) none (.mov (.t 5)) .no, .mk (some 7) (some (6, true)) (.fieldAddr 2 (.t 1)) .no, .mk (some 8) (some (6, true)) (.load false 1 (.t 7)) .no, .mk (some 9) (some (6, true))
  (.indexAddr 3 (.t 8) (.c (.one (.st (.int .i64 0)))))
  .no, .mk (some 10) (some (6, true)) (.fieldAddr 0 (.t 9)) .no, .mk (some 11) (some (6, true)) (.load false 1 (.t 10)) .no, .mk (some 12) (some (6, true)) (.bin .eql (.t 11) (.c (.one (.st (.int .i64 2)))))
  .no, .mk (some 13) none
  (.pick (.t 6) (.t 12) (.c (.one (.st (.bool false)))))
  .no, .mk (some 2) none (.mov (.t 13)) .no])
  .ret))
theorem tr_reduce_Redex : trCode Tryd.prog 14 [] (Tryd.f23.body.getD .skip) = some ir_reduce_Redex := by kernel_rfl
theorem ac_reduce_Redex {xs : List AV} {r : AV} (hn : xs.length ≤ 14) (h : ∀ C : Ctx, C.n = 14 → IWP Tryd.prog C [] ir_reduce_Redex (FinQ [.t 2] r) (AS.start xs)) : ACalls Tryd.prog 23 xs r :=
  acalls_of Tryd.func23 rfl tr_reduce_Redex rfl hn h
theorem acS_reduce_Redex {xs : List AV} {S S' : AStore} {r : AV} (hn : xs.length ≤ 14) (h : Clean S → ∀ C : Ctx, C.n = 14 → IWP Tryd.prog C [] ir_reduce_Redex (FinS C [.t 2] r S') (AS.startS xs S)) : ACallsS Tryd.prog 23 xs S r S' :=
  acallsS_of Tryd.func23 rfl tr_reduce_Redex rfl hn h

def ir_reduce_out : IR :=
  (.seq
  (.ops
  [.mk (some 1) none (.box 25 (.t 0)) .no, .mk (some 2) none
  (.alloc 25
  [.st (.int .i64 0), .st (.int .i64 0),
  .full []])
  .no])
  (.seq
  (.ops
  [.mk (some 3) none (.fieldAddr 2 (.t 1)) .no, .mk (some 4) none (.load false 1 (.t 3)) .no, .mk (some 5) none
  (.indexAddr 3 (.t 4) (.c (.one (.st (.int .i64 0)))))
  .no, .mk (some 6) none (.fieldAddr 2 (.t 5)) .no, .mk (some 7) none (.load false 1 (.t 6)) .no, .mk (some 8) none
  (.indexAddr 3 (.t 7) (.c (.one (.st (.int .i64 0)))))
  .no, .mk (some 9) none (.load true 3 (.t 8)) .no, .mk (some 10) none (.fieldAddr 2 (.t 1)) .no, .mk (some 11) none (.load false 1 (.t 10)) .no, .mk (some 12) none
  (.indexAddr 3 (.t 11) (.c (.one (.st (.int .i64 1)))))
  .no, .mk (some 13) none (.load true 3 (.t 12)) .no, .mk (some 14) none (.call 28 [.t 9, .t 13])
  .no, .mk none none (.store 3 (.t 2) (.t 14))
  .no])
  .ret))
theorem tr_reduce_out : trCode Tryd.prog 15 [] (Tryd.f24.body.getD .skip) = some ir_reduce_out := by kernel_rfl
theorem ac_reduce_out {xs : List AV} {r : AV} (hn : xs.length ≤ 15) (h : ∀ C : Ctx, C.n = 15 → IWP Tryd.prog C [] ir_reduce_out (FinQ [.cell 2 true 3] r) (AS.start xs)) : ACalls Tryd.prog 24 xs r :=
  acalls_of Tryd.func24 rfl tr_reduce_out rfl hn h
theorem acS_reduce_out {xs : List AV} {S S' : AStore} {r : AV} (hn : xs.length ≤ 15) (h : Clean S → ∀ C : Ctx, C.n = 15 → IWP Tryd.prog C [] ir_reduce_out (FinS C [.cell 2 true 3] r S') (AS.startS xs S)) : ACallsS Tryd.prog 24 xs S r S' :=
  acallsS_of Tryd.func24 rfl tr_reduce_out rfl hn h

def ir_reduce_with : IR :=
  (.seq
  (.ops
  [.mk (some 3) none (.box 25 (.t 0)) .no, .mk (some 5) none (.box 25 (.t 2)) .no, .mk (some 6) none
  (.alloc 25
  [.st (.int .i64 0), .st (.int .i64 0),
  .full []])
  .no])
  (.seq
  (.ops
  [.mk (some 8) none (.fieldAddr 0 (.t 3)) (.onb 3), .mk (some 9) none (.load false 1 (.t 8)) (.onb 3), .mk (some 10) none (.fieldAddr 1 (.t 3)) (.onb 3), .mk (some 11) none (.load false 1 (.t 10)) (.onb 3), .mk (some 12) none (.buildSlice false 25 3 []) .no, .mk (some 13) none (.fieldAddr 2 (.t 3)) .no, .mk (some 14) none (.load false 1 (.t 13)) .no, .mk (some 15) none (.append true 25 3 40 (.t 12) (.t 14))
  (.keeps [3, 3, 3, 3]), .mk (some 16) none
  (.build
  [.st (.int .i64 0), .st (.int .i64 0),
  .full []]
  [(0, 1, .t 9), (1, 1, .t 11), (2, 1, .t 15)])
  .no, .mk (some 7) none
  (.alloc 25
  [.st (.int .i64 0), .st (.int .i64 0),
  .full []])
  .no, .mk none none (.store 3 (.t 7) (.t 16))
  .no])
  (.seq
  (.ops
  [.mk (some 17) none (.fieldAddr 2 (.t 7)) .no, .mk (some 18) none (.load false 1 (.t 17)) .no, .mk (some 19) none (.mov (.t 1)) .no, .mk (some 20) none (.load true 3 (.t 5)) .no, .mk (some 21) none (.indexAddr 3 (.t 18) (.t 19))
  .no, .mk none none (.store 3 (.t 21) (.t 20))
  .no])
  (.seq
  (.ops
  [.mk (some 22) none (.load true 3 (.t 7)) .no, .mk none none (.store 3 (.t 6) (.t 22))
  .no])
  .ret))))
theorem tr_reduce_with : trCode Tryd.prog 23 [15] (Tryd.f25.body.getD .skip) = some ir_reduce_with := by kernel_rfl
theorem ac_reduce_with {xs : List AV} {r : AV} (hn : xs.length ≤ 23) (h : ∀ C : Ctx, C.n = 23 → IWP Tryd.prog C [15] ir_reduce_with (FinQ [.cell 6 true 3] r) (AS.start xs)) : ACalls Tryd.prog 25 xs r :=
  acalls_of Tryd.func25 rfl tr_reduce_with rfl hn h
theorem acS_reduce_with {xs : List AV} {S S' : AStore} {r : AV} (hn : xs.length ≤ 23) (h : Clean S → ∀ C : Ctx, C.n = 23 → IWP Tryd.prog C [15] ir_reduce_with (FinS C [.cell 6 true 3] r S') (AS.startS xs S)) : ACallsS Tryd.prog 25 xs S r S' :=
  acallsS_of Tryd.func25 rfl tr_reduce_with rfl hn h

def ir_reduce_Outer : IR :=
  (.seq
  (.ops
  [.mk (some 1) none (.box 25 (.t 0)) .no, .mk (some 2) none
  (.alloc 25
  [.st (.int .i64 0), .st (.int .i64 0),
  .full []])
  .no, .mk (some 3) none (.mov (.c (.one (.st (.bool false)))))
  .no])
  (.seq
  (.seq
  (.ops
  [.mk (some 8) none (.load true 3 (.t 1)) .no, .mk (some 9) none (.call 23 [.t 8]) .no])
  (.cond (.t 9)
  (.seq
  (.ops
  [.mk (some 10) none (.load true 3 (.t 1)) .no, .mk (some 11) none (.call 24 [.t 10]) .no, .mk none none (.store 3 (.t 2) (.t 11))
  .no, .mk (some 3) none (.mov (.c (.one (.st (.bool true)))))
  .no])
  .ret)
  .skip))
  (.seq
  (.seq
  (.ops
  [.mk (some 12) none (.fieldAddr 2 (.t 1)) .no, .mk (some 13) none (.load false 1 (.t 12)) .no, .mk (some 14) none (.len false (.t 13)) .no, .mk (some 15) none (.mov (.c (.one (.st (.int .i64 0)))))
  .no])
  (.block 0
  (.loop
  (.seq
  (.ops
  [.mk (some 16) none (.bin .lss (.t 15) (.t 14))
  .no])
  (.seq (.cond (.t 16) .skip (.exit 0))
  (.seq
  (.block 1
  (.seq
  (.ops
  [.mk (some 17) none (.mov (.t 15)) .no, .mk (some 18) none (.indexAddr 3 (.t 13) (.t 15))
  .no, .mk (some 19) none (.load true 3 (.t 18)) .no, .mk (some 5) none
  (.alloc 25
  [.st (.int .i64 0), .st (.int .i64 0),
  .full []])
  .no, .mk (some 4) none (.mov (.t 17)) .no, .mk none none (.store 3 (.t 5) (.t 19))
  .no])
  (.seq
  (.ops
  [.mk (some 21) none (.load true 3 (.t 5)) .no, .mk (some 22) none (.call 18 [.t 21]) .no, .mk (some 20) none (.mov (.t 22)) .no, .mk (some 23) none (.extract 0 (.t 20)) .no, .mk (some 24) none (.extract 1 (.t 20)) .no, .mk (some 6) none
  (.alloc 25
  [.st (.int .i64 0), .st (.int .i64 0),
  .full []])
  .no, .mk none none (.store 3 (.t 6) (.t 23))
  .no, .mk (some 7) none (.mov (.t 24)) .no])
  (.seq
  (.ops
  [.mk (some 25) none (.mov (.t 7)) .no])
  (.cond (.t 25)
  (.seq
  (.ops
  [.mk (some 26) none (.load true 3 (.t 1))
  .no, .mk (some 27) none (.mov (.t 4)) .no, .mk (some 28) none (.load true 3 (.t 6))
  .no, .mk (some 29) none (.call 25 [.t 26, .t 27, .t 28])
  .no, .mk none none (.store 3 (.t 2) (.t 29))
  .no, .mk (some 3) none (.mov (.c (.one (.st (.bool true)))))
  .no])
  .ret)
  .skip)))))
  (.ops
  [.mk (some 30) none (.bin .add (.t 15) (.c (.one (.st (.int .i64 1)))))
  .no, .mk (some 15) none (.mov (.t 30)) .no])))))))
  (.seq
  (.ops
  [.mk (some 31) none (.load true 3 (.t 1)) .no, .mk none none (.store 3 (.t 2) (.t 31))
  .no, .mk (some 3) none (.mov (.c (.one (.st (.bool false)))))
  .no])
  .ret))))
theorem tr_reduce_Outer : trCode Tryd.prog 32 [] (Tryd.f18.body.getD .skip) = some ir_reduce_Outer := by kernel_rfl
theorem ac_reduce_Outer {xs : List AV} {r : AV} (hn : xs.length ≤ 32) (h : ∀ C : Ctx, C.n = 32 → IWP Tryd.prog C [] ir_reduce_Outer (FinQ [.cell 2 true 3, .t 3] r) (AS.start xs)) : ACalls Tryd.prog 18 xs r :=
  acalls_of Tryd.func18 rfl tr_reduce_Outer rfl hn h
theorem acS_reduce_Outer {xs : List AV} {S S' : AStore} {r : AV} (hn : xs.length ≤ 32) (h : Clean S → ∀ C : Ctx, C.n = 32 → IWP Tryd.prog C [] ir_reduce_Outer (FinS C [.cell 2 true 3, .t 3] r S') (AS.startS xs S)) : ACallsS Tryd.prog 18 xs S r S' :=
  acallsS_of Tryd.func18 rfl tr_reduce_Outer rfl hn h

def ir_reduce_Last : IR :=
  (.seq
  (.ops
  [.mk (some 3) none (.box 25 (.t 0)) .no, .mk (some 6) none
  (.alloc 25
  [.st (.int .i64 0), .st (.int .i64 0),
  .full []])
  .no, .mk (some 7) none (.mov (.c (.one (.st (.int .i64 0)))))
  .no, .mk (some 8) none (.mov (.c (.one (.st (.int .i64 0)))))
  .no])
  (.seq
  (.ops
  [.mk (some 9) none (.mov (.c (.one (.st (.int .i64 0)))))
  .no])
  (.block 0
  (.loop
  (.seq
  (.block 1
  (.seq
  (.ops
  [.mk (some 15) none (.mov (.t 2)) .no, .mk (some 16) none (.load true 3 (.t 3)) .no, .mk (some 17) none (.callV (.t 15) [.t 16])
  .no, .mk (some 14) none (.mov (.t 17)) .no, .mk (some 18) none (.extract 0 (.t 14)) .no, .mk (some 19) none (.extract 1 (.t 14)) .no, .mk (some 10) none
  (.alloc 25
  [.st (.int .i64 0), .st (.int .i64 0),
  .full []])
  .no, .mk none none (.store 3 (.t 10) (.t 18))
  .no, .mk (some 11) none (.mov (.t 19)) .no])
  (.seq
  (.seq
  (.ops
  [.mk (some 20) none (.mov (.t 11)) .no, .mk (some 21) none (.un .not (.t 20)) .no])
  (.cond (.t 21)
  (.seq
  (.ops
  [.mk (some 22) none (.load true 3 (.t 3)) .no, .mk (some 23) none (.call 21 [.t 22]) .no, .mk (some 24) none (.mov (.t 9)) .no, .mk none none (.store 3 (.t 6) (.t 23))
  .no, .mk (some 7) none (.mov (.t 24)) .no, .mk (some 8) none (.mov (.c (.one (.st (.int .i64 0)))))
  .no])
  .ret)
  .skip))
  (.seq
  (.seq
  (.ops
  [.mk (some 25) none (.mov (.t 9)) .no, .mk (some 26) none (.mov (.t 1)) .no, .mk (some 27) none (.bin .eql (.t 25) (.t 26))
  .no])
  (.cond (.t 27)
  (.seq
  (.ops
  [.mk (some 28) none
  (.build
  [.st (.int .i64 0), .st (.int .i64 0),
  .full []]
  [])
  .no, .mk none none (.store 3 (.t 6) (.t 28))
  .no, .mk (some 7) none (.mov (.c (.one (.st (.int .i64 0)))))
  .no, .mk (some 8) none (.mov (.c (.one (.st (.int .i64 9)))))
  .no])
  .ret)
  .skip))
  (.seq
  (.ops
  [.mk (some 29) none (.load true 3 (.t 10)) .no, .mk none none (.store 3 (.t 3) (.t 29))
  .no])
  (.seq
  (.ops
  [.mk (some 30) none (.load true 3 (.t 3)) .no, .mk (some 31) none (.call 22 [.t 30]) .no, .mk (some 32) none (.bin .gtr (.t 31) (.c (.one (.st (.int .i64 2000)))))
  .no])
  (.cond (.t 32)
  (.seq
  (.ops
  [.mk (some 33) none
  (.build
  [.st (.int .i64 0), .st (.int .i64 0),
  .full []]
  [])
  .no, .mk none none (.store 3 (.t 6) (.t 33))
  .no, .mk (some 7) none (.mov (.c (.one (.st (.int .i64 0)))))
  .no, .mk (some 8) none (.mov (.c (.one (.st (.int .i64 8)))))
  .no])
  .ret)
  .skip)))))))
  (.ops
  [.mk (some 12) none (.mov (.t 9)) .no, .mk (some 13) none (.bin .add (.t 12) (.c (.one (.st (.int .i64 1)))))
  .no, .mk (some 9) none (.mov (.t 13)) .no]))))))
theorem tr_reduce_Last : trCode Tryd.prog 34 [] (Tryd.f17.body.getD .skip) = some ir_reduce_Last := by kernel_rfl
theorem ac_reduce_Last {xs : List AV} {r : AV} (hn : xs.length ≤ 34) (h : ∀ C : Ctx, C.n = 34 → IWP Tryd.prog C [] ir_reduce_Last (FinQ [.cell 6 true 3, .t 7, .t 8] r) (AS.start xs)) : ACalls Tryd.prog 17 xs r :=
  acalls_of Tryd.func17 rfl tr_reduce_Last rfl hn h
theorem acS_reduce_Last {xs : List AV} {S S' : AStore} {r : AV} (hn : xs.length ≤ 34) (h : Clean S → ∀ C : Ctx, C.n = 34 → IWP Tryd.prog C [] ir_reduce_Last (FinS C [.cell 6 true 3, .t 7, .t 8] r S') (AS.startS xs S)) : ACallsS Tryd.prog 17 xs S r S' :=
  acallsS_of Tryd.func17 rfl tr_reduce_Last rfl hn h

def ir_reduce_args : IR :=
  (.seq
  (.ops
  [.mk (some 3) none (.box 25 (.t 0)) .no, .mk (some 6) none (.mov (.c (.one (.st (.int .i64 0)))))
  .no])
  (.seq
  (.ops
  [.mk (some 8) none (.load true 3 (.t 3)) .no, .mk (some 9) none (.mov (.t 1)) .no, .mk (some 10) none (.call 20 [.t 8, .t 9])
  .no, .mk (some 7) none (.mov (.t 10)) .no])
  (.seq
  (.seq
  (.ops
  [.mk (some 11) none (.mov (.t 7)) .no, .mk (some 12) none (.bin .eql (.t 11) (.c (.one (.st (.int .i64 0)))))
  .no, .mk (some 13) none (.mov (.t 12)) .no, .mk (some 14) (some (13, true)) (.mov (.t 2)) .no, .mk (some 15) (some (13, true)) (.bin .lss (.t 14) (.c (.one (.st (.int .i64 0)))))
  .no, .mk (some 16) (some (13, true)) (.mov (.t 15)) .no, .mk (some 17) (some (16, false)) (.mov (.t 2)) .no, .mk (some 18) (some (16, false)) (.bin .gtr (.t 17) (.c (.one (.st (.int .i64 400)))))
  .no, .mk (some 19) (some (13, true))
  (.pick (.t 16) (.c (.one (.st (.bool true)))) (.t 18))
  .no, .mk (some 20) none
  (.pick (.t 13) (.t 19) (.c (.one (.st (.bool false)))))
  .no])
  (.cond (.t 20)
  (.ops
  [.mk (some 7) none (.mov (.c (.one (.st (.int .i64 3)))))
  .no])
  .skip))
  (.seq
  (.ops
  [.mk (some 21) none (.mov (.t 7)) .no, .mk (some 6) none (.mov (.t 21)) .no])
  .ret))))
theorem tr_reduce_args : trCode Tryd.prog 22 [] (Tryd.f16.body.getD .skip) = some ir_reduce_args := by kernel_rfl
theorem ac_reduce_args {xs : List AV} {r : AV} (hn : xs.length ≤ 22) (h : ∀ C : Ctx, C.n = 22 → IWP Tryd.prog C [] ir_reduce_args (FinQ [.t 6] r) (AS.start xs)) : ACalls Tryd.prog 16 xs r :=
  acalls_of Tryd.func16 rfl tr_reduce_args rfl hn h
theorem acS_reduce_args {xs : List AV} {S S' : AStore} {r : AV} (hn : xs.length ≤ 22) (h : Clean S → ∀ C : Ctx, C.n = 22 → IWP Tryd.prog C [] ir_reduce_args (FinS C [.t 6] r S') (AS.startS xs S)) : ACallsS Tryd.prog 16 xs S r S' :=
  acallsS_of Tryd.func16 rfl tr_reduce_args rfl hn h

def ir_reduce_Normal : IR :=
  (.seq
  (.ops
  [.mk (some 3) none (.box 25 (.t 0)) .no, .mk (some 6) none
  (.alloc 25
  [.st (.int .i64 0), .st (.int .i64 0),
  .full []])
  .no, .mk (some 7) none (.mov (.c (.one (.st (.int .i64 0)))))
  .no, .mk (some 8) none (.mov (.c (.one (.st (.int .i64 0)))))
  .no])
  (.seq
  (.seq
  (.ops
  [.mk (some 10) none (.load true 3 (.t 3)) .no, .mk (some 11) none (.mov (.t 1)) .no, .mk (some 12) none (.mov (.t 2)) .no, .mk (some 13) none (.call 16 [.t 10, .t 11, .t 12]) .no, .mk (some 9) none (.mov (.t 13)) .no])
  (.seq
  (.ops
  [.mk (some 14) none (.mov (.t 9)) .no, .mk (some 15) none (.bin .neq (.t 14) (.c (.one (.st (.int .i64 0)))))
  .no])
  (.cond (.t 15)
  (.seq
  (.ops
  [.mk (some 16) none
  (.build
  [.st (.int .i64 0), .st (.int .i64 0),
  .full []]
  [])
  .no, .mk (some 17) none (.mov (.t 9)) .no, .mk none none (.store 3 (.t 6) (.t 16))
  .no, .mk (some 7) none (.mov (.c (.one (.st (.int .i64 0)))))
  .no, .mk (some 8) none (.mov (.t 17)) .no])
  .ret)
  .skip)))
  (.seq
  (.ops
  [.mk (some 18) none (.load true 3 (.t 3)) .no, .mk (some 19) none (.mov (.t 2)) .no, .mk (some 20) none (.call 17
  [.t 18, .t 19, .c (.one (.fn 18 []))])
  .no, .mk (some 21) none (.extract 0 (.t 20)) .no, .mk (some 22) none (.extract 1 (.t 20)) .no, .mk (some 23) none (.extract 2 (.t 20)) .no, .mk none none (.store 3 (.t 6) (.t 21))
  .no, .mk (some 7) none (.mov (.t 22)) .no, .mk (some 8) none (.mov (.t 23)) .no])
  .ret)))
theorem tr_reduce_Normal : trCode Tryd.prog 24 [] (Tryd.f14.body.getD .skip) = some ir_reduce_Normal := by kernel_rfl
theorem ac_reduce_Normal {xs : List AV} {r : AV} (hn : xs.length ≤ 24) (h : ∀ C : Ctx, C.n = 24 → IWP Tryd.prog C [] ir_reduce_Normal (FinQ [.cell 6 true 3, .t 7, .t 8] r) (AS.start xs)) : ACalls Tryd.prog 14 xs r :=
  acalls_of Tryd.func14 rfl tr_reduce_Normal rfl hn h
theorem acS_reduce_Normal {xs : List AV} {S S' : AStore} {r : AV} (hn : xs.length ≤ 24) (h : Clean S → ∀ C : Ctx, C.n = 24 → IWP Tryd.prog C [] ir_reduce_Normal (FinS C [.cell 6 true 3, .t 7, .t 8] r S') (AS.startS xs S)) : ACallsS Tryd.prog 14 xs S r S' :=
  acallsS_of Tryd.func14 rfl tr_reduce_Normal rfl hn h

def ir_R_App : IR :=
  (.seq
  (.ops
  [.mk (some 2) none (.box 25 (.t 0)) .no, .mk (some 3) none (.box 25 (.t 1)) .no, .mk (some 4) none
  (.alloc 25
  [.st (.int .i64 0), .st (.int .i64 0),
  .full []])
  .no])
  (.seq
  (.ops
  [.mk (some 5) none (.load true 3 (.t 2)) .no, .mk (some 6) none (.load true 3 (.t 3)) .no, .mk (some 7) none (.buildSlice false 25 3 [.t 5, .t 6])
  .no, .mk (some 8) none
  (.build
  [.st (.int .i64 0), .st (.int .i64 0),
  .full []]
  [(0, 1, .c (.one (.st (.int .i64 3)))),
  (2, 1, .t 7)])
  .no, .mk none none (.store 3 (.t 4) (.t 8))
  .no])
  .ret))
theorem tr_R_App : trCode Tryd.prog 9 [] (Tryd.f7.body.getD .skip) = some ir_R_App := by kernel_rfl
theorem ac_R_App {xs : List AV} {r : AV} (hn : xs.length ≤ 9) (h : ∀ C : Ctx, C.n = 9 → IWP Tryd.prog C [] ir_R_App (FinQ [.cell 4 true 3] r) (AS.start xs)) : ACalls Tryd.prog 7 xs r :=
  acalls_of Tryd.func7 rfl tr_R_App rfl hn h
theorem acS_R_App {xs : List AV} {S S' : AStore} {r : AV} (hn : xs.length ≤ 9) (h : Clean S → ∀ C : Ctx, C.n = 9 → IWP Tryd.prog C [] ir_R_App (FinS C [.cell 4 true 3] r S') (AS.startS xs S)) : ACallsS Tryd.prog 7 xs S r S' :=
  acallsS_of Tryd.func7 rfl tr_R_App rfl hn h

def ir_R_Fun : IR :=
  (.seq
  (.ops
  [.mk (some 1) none (.box 25 (.t 0)) .no, .mk (some 2) none
  (.alloc 25
  [.st (.int .i64 0), .st (.int .i64 0),
  .full []])
  .no])
  (.seq
  (.ops
  [.mk (some 3) none (.load true 3 (.t 1)) .no, .mk (some 4) none (.buildSlice false 25 3 [.t 3]) .no, .mk (some 5) none
  (.build
  [.st (.int .i64 0), .st (.int .i64 0),
  .full []]
  [(0, 1, .c (.one (.st (.int .i64 2)))),
  (2, 1, .t 4)])
  .no, .mk none none (.store 3 (.t 2) (.t 5))
  .no])
  .ret))
theorem tr_R_Fun : trCode Tryd.prog 6 [] (Tryd.f6.body.getD .skip) = some ir_R_Fun := by kernel_rfl
theorem ac_R_Fun {xs : List AV} {r : AV} (hn : xs.length ≤ 6) (h : ∀ C : Ctx, C.n = 6 → IWP Tryd.prog C [] ir_R_Fun (FinQ [.cell 2 true 3] r) (AS.start xs)) : ACalls Tryd.prog 6 xs r :=
  acalls_of Tryd.func6 rfl tr_R_Fun rfl hn h
theorem acS_R_Fun {xs : List AV} {S S' : AStore} {r : AV} (hn : xs.length ≤ 6) (h : Clean S → ∀ C : Ctx, C.n = 6 → IWP Tryd.prog C [] ir_R_Fun (FinS C [.cell 2 true 3] r S') (AS.startS xs S)) : ACallsS Tryd.prog 6 xs S r S' :=
  acallsS_of Tryd.func6 rfl tr_R_Fun rfl hn h

end Go.Proofs.YtbgnkcmaohkimaaDoor
