/-
  The program's functions in abstract operations: written by a program of mine out of the translation; each is shown to be the translation's.
  Conditions: none.
-/
import Derived.Test.YtkjbaabkaboaoaaDoorBLamPut
namespace Go.Proofs.YtkjbaabkaboaoaaDoor
open Go Go.RowKit
set_option maxRecDepth 100000

def ir_lambda_A : IR :=
  (.seq
  (.ops
  [.mk (some 2) none (.box 24 (.t 0)) .no, .mk (some 3) none (.box 24 (.t 1)) .no, .mk (some 4) none
  (.alloc 24
  [.st (.int .i64 0), .st (.int .i64 0),
  .full []])
  .no])
  (.seq
  (.ops
  [.mk (some 5) none (.load true 3 (.t 2)) .no, .mk (some 6) none (.load true 3 (.t 3)) .no, .mk (some 7) none (.buildSlice false 24 3 [.t 5, .t 6])
  .no, .mk (some 8) none
  (.build
  [.st (.int .i64 0), .st (.int .i64 0),
  .full []]
  [(0, 1, .c (.one (.st (.int .i64 3)))),
  (2, 1, .t 7)])
  .no, .mk none none (.store 3 (.t 4) (.t 8))
  .no])
  .ret))
theorem tr_lambda_A : trCode Tryd.prog 9 [] (Tryd.f27.body.getD .skip) = some ir_lambda_A := by kernel_rfl
theorem ac_lambda_A {xs : List AV} {r : AV} (hn : xs.length ≤ 9) (h : ∀ C : Ctx, C.n = 9 → IWP Tryd.prog C [] ir_lambda_A (FinQ [.cell 4 true 3] r) (AS.start xs)) : ACalls Tryd.prog 27 xs r :=
  acalls_of Tryd.func27 rfl tr_lambda_A rfl hn h
theorem acS_lambda_A {xs : List AV} {S S' : AStore} {r : AV} (hn : xs.length ≤ 9) (h : Clean S → ∀ C : Ctx, C.n = 9 → IWP Tryd.prog C [] ir_lambda_A (FinS C [.cell 4 true 3] r S') (AS.startS xs S)) : ACallsS Tryd.prog 27 xs S r S' :=
  acallsS_of Tryd.func27 rfl tr_lambda_A rfl hn h

def ir_lambda_L : IR :=
  (.seq
  (.ops
  [.mk (some 1) none (.box 24 (.t 0)) .no, .mk (some 2) none
  (.alloc 24
  [.st (.int .i64 0), .st (.int .i64 0),
  .full []])
  .no])
  (.seq
  (.ops
  [.mk (some 3) none (.load true 3 (.t 1)) .no, .mk (some 4) none (.buildSlice false 24 3 [.t 3]) .no, .mk (some 5) none
  (.build
  [.st (.int .i64 0), .st (.int .i64 0),
  .full []]
  [(0, 1, .c (.one (.st (.int .i64 2)))),
  (2, 1, .t 4)])
  .no, .mk none none (.store 3 (.t 2) (.t 5))
  .no])
  .ret))
theorem tr_lambda_L : trCode Tryd.prog 6 [] (Tryd.f28.body.getD .skip) = some ir_lambda_L := by kernel_rfl
theorem ac_lambda_L {xs : List AV} {r : AV} (hn : xs.length ≤ 6) (h : ∀ C : Ctx, C.n = 6 → IWP Tryd.prog C [] ir_lambda_L (FinQ [.cell 2 true 3] r) (AS.start xs)) : ACalls Tryd.prog 28 xs r :=
  acalls_of Tryd.func28 rfl tr_lambda_L rfl hn h
theorem acS_lambda_L {xs : List AV} {S S' : AStore} {r : AV} (hn : xs.length ≤ 6) (h : Clean S → ∀ C : Ctx, C.n = 6 → IWP Tryd.prog C [] ir_lambda_L (FinS C [.cell 2 true 3] r S') (AS.startS xs S)) : ACallsS Tryd.prog 28 xs S r S' :=
  acallsS_of Tryd.func28 rfl tr_lambda_L rfl hn h

def ir_lambda_Copy : IR :=
  (.seq
  (.ops
  [.mk (some 1) none (.box 24 (.t 0)) .no, .mk (some 2) none
  (.alloc 24
  [.st (.int .i64 0), .st (.int .i64 0),
  .full []])
  .no])
  (.seq
  (.ops
  [.mk (some 3) none (.load true 3 (.t 1)) .no, .mk (some 4) none (.call 54
  [.t 3, .c (.one (.st (.int .i64 0))), .c (.one (.st (.int .i64 0)))])
  .no, .mk none none (.store 3 (.t 2) (.t 4))
  .no])
  .ret))
theorem tr_lambda_Copy : trCode Tryd.prog 5 [] (Tryd.f49.body.getD .skip) = some ir_lambda_Copy := by kernel_rfl
theorem ac_lambda_Copy {xs : List AV} {r : AV} (hn : xs.length ≤ 5) (h : ∀ C : Ctx, C.n = 5 → IWP Tryd.prog C [] ir_lambda_Copy (FinQ [.cell 2 true 3] r) (AS.start xs)) : ACalls Tryd.prog 49 xs r :=
  acalls_of Tryd.func49 rfl tr_lambda_Copy rfl hn h
theorem acS_lambda_Copy {xs : List AV} {S S' : AStore} {r : AV} (hn : xs.length ≤ 5) (h : Clean S → ∀ C : Ctx, C.n = 5 → IWP Tryd.prog C [] ir_lambda_Copy (FinS C [.cell 2 true 3] r S') (AS.startS xs S)) : ACallsS Tryd.prog 49 xs S r S' :=
  acallsS_of Tryd.func49 rfl tr_lambda_Copy rfl hn h

def ir_lambda_Same : IR :=
  (.seq
  (.ops
  [.mk (some 2) none (.box 24 (.t 0)) .no, .mk (some 3) none (.box 24 (.t 1)) .no, .mk (some 4) none (.mov (.c (.one (.st (.bool false)))))
  .no])
  (.seq
  (.ops
  [.mk (some 5) none (.fieldAddr 0 (.t 2)) .no, .mk (some 6) none (.load false 1 (.t 5)) .no, .mk (some 7) none (.fieldAddr 0 (.t 3)) .no, .mk (some 8) none (.load false 1 (.t 7)) .no, .mk (some 9) none (.bin .eql (.t 6) (.t 8))
  .no, .mk (some 10) none (.mov (.t 9)) .no, .mk (some 11) (some (10, true)) (.fieldAddr 1 (.t 2)) .no, .mk (some 12) (some (10, true)) (.load false 1 (.t 11)) .no, .mk (some 13) (some (10, true)) (.fieldAddr 1 (.t 3)) .no, .mk (some 14) (some (10, true)) (.load false 1 (.t 13)) .no, .mk (some 15) (some (10, true)) (.bin .eql (.t 12) (.t 14)) .no, .mk (some 16) none
  (.pick (.t 10) (.t 15) (.c (.one (.st (.bool false)))))
  .no, .mk (some 17) none (.mov (.t 16)) .no, .mk (some 18) (some (17, true)) (.fieldAddr 2 (.t 2)) .no, .mk (some 19) (some (17, true)) (.load false 1 (.t 18)) .no, .mk (some 20) (some (17, true)) (.fieldAddr 2 (.t 3)) .no, .mk (some 21) (some (17, true)) (.load false 1 (.t 20)) .no, .mk (some 22) (some (17, true)) (.call 46
  [.t 19, .t 21, .c (.one (.fn 35 []))])
  .no, .mk (some 23) none
  (.pick (.t 17) (.t 22) (.c (.one (.st (.bool false)))))
  .no, .mk (some 4) none (.mov (.t 23)) .no])
  .ret))
theorem tr_lambda_Same : trCode Tryd.prog 24 [] (Tryd.f35.body.getD .skip) = some ir_lambda_Same := by kernel_rfl
theorem ac_lambda_Same {xs : List AV} {r : AV} (hn : xs.length ≤ 24) (h : ∀ C : Ctx, C.n = 24 → IWP Tryd.prog C [] ir_lambda_Same (FinQ [.t 4] r) (AS.start xs)) : ACalls Tryd.prog 35 xs r :=
  acalls_of Tryd.func35 rfl tr_lambda_Same rfl hn h
theorem acS_lambda_Same {xs : List AV} {S S' : AStore} {r : AV} (hn : xs.length ≤ 24) (h : Clean S → ∀ C : Ctx, C.n = 24 → IWP Tryd.prog C [] ir_lambda_Same (FinS C [.t 4] r S') (AS.startS xs S)) : ACallsS Tryd.prog 35 xs S r S' :=
  acallsS_of Tryd.func35 rfl tr_lambda_Same rfl hn h

def ir_slices_EqualFunc_metaprune_api_Lam_metaprune_api_Lam_metaprune_api_Lam_metaprune_api_Lam : IR :=
  (.seq
  (.ops
  [.mk (some 6) none (.mov (.c (.one (.st (.bool false)))))
  .no])
  (.seq
  (.seq
  (.ops
  [.mk (some 10) none (.mov (.t 0)) .no, .mk (some 11) none (.len false (.t 10)) .no, .mk (some 12) none (.mov (.t 1)) .no, .mk (some 13) none (.len false (.t 12)) .no, .mk (some 14) none (.bin .neq (.t 11) (.t 13))
  .no])
  (.cond (.t 14)
  (.seq
  (.ops
  [.mk (some 6) none (.mov (.c (.one (.st (.bool false)))))
  .no])
  .ret)
  .skip))
  (.seq
  (.seq
  (.ops
  [.mk (some 15) none (.mov (.t 0)) .no, .mk (some 16) none (.len false (.t 15)) .no, .mk (some 17) none (.mov (.c (.one (.st (.int .i64 0)))))
  .no])
  (.block 0
  (.loop
  (.seq
  (.ops
  [.mk (some 18) none (.bin .lss (.t 17) (.t 16))
  .no])
  (.seq (.cond (.t 18) .skip (.exit 0))
  (.seq
  (.block 1
  (.seq
  (.ops
  [.mk (some 19) none (.mov (.t 17)) .no, .mk (some 20) none (.indexAddr 3 (.t 15) (.t 17))
  .no, .mk (some 21) none (.load true 3 (.t 20)) .no, .mk (some 8) none
  (.alloc 24
  [.st (.int .i64 0), .st (.int .i64 0),
  .full []])
  .no, .mk (some 7) none (.mov (.t 19)) .no, .mk none none (.store 3 (.t 8) (.t 21))
  .no])
  (.seq
  (.ops
  [.mk (some 22) none (.mov (.t 1)) .no, .mk (some 23) none (.mov (.t 7)) .no, .mk (some 24) none (.indexAddr 3 (.t 22) (.t 23))
  .no, .mk (some 25) none (.load true 3 (.t 24)) .no, .mk (some 9) none
  (.alloc 24
  [.st (.int .i64 0), .st (.int .i64 0),
  .full []])
  .no, .mk none none (.store 3 (.t 9) (.t 25))
  .no])
  (.seq
  (.ops
  [.mk (some 26) none (.mov (.t 2)) .no, .mk (some 27) none (.load true 3 (.t 8))
  .no, .mk (some 28) none (.load true 3 (.t 9))
  .no, .mk (some 29) none
  (.callV (.t 26) [.t 27, .t 28])
  .no, .mk (some 30) none (.un .not (.t 29))
  .no])
  (.cond (.t 30)
  (.seq
  (.ops
  [.mk (some 6) none (.mov (.c (.one (.st (.bool false)))))
  .no])
  .ret)
  .skip)))))
  (.ops
  [.mk (some 31) none (.bin .add (.t 17) (.c (.one (.st (.int .i64 1)))))
  .no, .mk (some 17) none (.mov (.t 31)) .no])))))))
  (.seq
  (.ops
  [.mk (some 6) none (.mov (.c (.one (.st (.bool true)))))
  .no])
  .ret))))
theorem tr_slices_EqualFunc_metaprune_api_Lam_metaprune_api_Lam_metaprune_api_Lam_metaprune_api_Lam : trCode Tryd.prog 32 [] (Tryd.f46.body.getD .skip) = some ir_slices_EqualFunc_metaprune_api_Lam_metaprune_api_Lam_metaprune_api_Lam_metaprune_api_Lam := by kernel_rfl
theorem ac_slices_EqualFunc_metaprune_api_Lam_metaprune_api_Lam_metaprune_api_Lam_metaprune_api_Lam {xs : List AV} {r : AV} (hn : xs.length ≤ 32) (h : ∀ C : Ctx, C.n = 32 → IWP Tryd.prog C [] ir_slices_EqualFunc_metaprune_api_Lam_metaprune_api_Lam_metaprune_api_Lam_metaprune_api_Lam (FinQ [.t 6] r) (AS.start xs)) : ACalls Tryd.prog 46 xs r :=
  acalls_of Tryd.func46 rfl tr_slices_EqualFunc_metaprune_api_Lam_metaprune_api_Lam_metaprune_api_Lam_metaprune_api_Lam rfl hn h
theorem acS_slices_EqualFunc_metaprune_api_Lam_metaprune_api_Lam_metaprune_api_Lam_metaprune_api_Lam {xs : List AV} {S S' : AStore} {r : AV} (hn : xs.length ≤ 32) (h : Clean S → ∀ C : Ctx, C.n = 32 → IWP Tryd.prog C [] ir_slices_EqualFunc_metaprune_api_Lam_metaprune_api_Lam_metaprune_api_Lam_metaprune_api_Lam (FinS C [.t 6] r S') (AS.startS xs S)) : ACallsS Tryd.prog 46 xs S r S' :=
  acallsS_of Tryd.func46 rfl tr_slices_EqualFunc_metaprune_api_Lam_metaprune_api_Lam_metaprune_api_Lam_metaprune_api_Lam rfl hn h

def ir_reduce_Redex : IR :=
  (.seq
  (.ops
  [.mk (some 1) none (.box 24 (.t 0)) .no, .mk (some 2) none (.mov (.c (.one (.st (.bool false)))))
  .no])
  (.seq
  (.ops
  [.mk (some 3) none (.fieldAddr 0 (.t 1)) .no, .mk (some 4) none (.load false 1 (.t 3)) .no, .mk (some 5) none (.bin .eql (.t 4) (.c (.one (.st (.int .i64 3)))))
  .no, .mk (some 6) none (.mov (.t 5)) .no, .mk (some 7) (some (6, true)) (.fieldAddr 2 (.t 1)) .no, .mk (some 8) (some (6, true)) (.load false 1 (.t 7)) .no, .mk (some 9) (some (6, true))
  (.indexAddr 3 (.t 8) (.c (.one (.st (.int .i64 0)))))
  .no, .mk (some 10) (some (6, true)) (.fieldAddr 0 (.t 9)) .no, .mk (some 11) (some (6, true)) (.load false 1 (.t 10)) .no, .mk (some 12) (some (6, true)) (.bin .eql (.t 11) (.c (.one (.st (.int .i64 2)))))
  .no, .mk (some 13) none
  (.pick (.t 6) (.t 12) (.c (.one (.st (.bool false)))))
  .no, .mk (some 2) none (.mov (.t 13)) .no])
  .ret))
theorem tr_reduce_Redex : trCode Tryd.prog 14 [] (Tryd.f50.body.getD .skip) = some ir_reduce_Redex := by kernel_rfl
theorem ac_reduce_Redex {xs : List AV} {r : AV} (hn : xs.length ≤ 14) (h : ∀ C : Ctx, C.n = 14 → IWP Tryd.prog C [] ir_reduce_Redex (FinQ [.t 2] r) (AS.start xs)) : ACalls Tryd.prog 50 xs r :=
  acalls_of Tryd.func50 rfl tr_reduce_Redex rfl hn h
theorem acS_reduce_Redex {xs : List AV} {S S' : AStore} {r : AV} (hn : xs.length ≤ 14) (h : Clean S → ∀ C : Ctx, C.n = 14 → IWP Tryd.prog C [] ir_reduce_Redex (FinS C [.t 2] r S') (AS.startS xs S)) : ACallsS Tryd.prog 50 xs S r S' :=
  acallsS_of Tryd.func50 rfl tr_reduce_Redex rfl hn h

def ir_reduce_out : IR :=
  (.seq
  (.ops
  [.mk (some 1) none (.box 24 (.t 0)) .no, .mk (some 2) none
  (.alloc 24
  [.st (.int .i64 0), .st (.int .i64 0),
  .full []])
  .no])
  (.seq
  (.ops
  [.mk (some 3) none (.fieldAddr 2 (.t 1)) .no, .mk (some 4) none (.load false 1 (.t 3)) .no, .mk (some 5) none
  (.indexAddr 3 (.t 4) (.c (.one (.st (.int .i64 0)))))
  .no, .mk (some 6) none (.fieldAddr 2 (.t 5)) .no, .mk (some 7) none (.load false 1 (.t 6)) .no, .mk (some 8) none
  (.indexAddr 3 (.t 7) (.c (.one (.st (.int .i64 0)))))
  .no, .mk (some 9) none (.load true 3 (.t 8)) .no, .mk (some 10) none (.fieldAddr 2 (.t 1)) .no, .mk (some 11) none (.load false 1 (.t 10)) .no, .mk (some 12) none
  (.indexAddr 3 (.t 11) (.c (.one (.st (.int .i64 1)))))
  .no, .mk (some 13) none (.load true 3 (.t 12)) .no, .mk (some 14) none (.call 23 [.t 9, .t 13])
  .no, .mk none none (.store 3 (.t 2) (.t 14))
  .no])
  .ret))
theorem tr_reduce_out : trCode Tryd.prog 15 [] (Tryd.f51.body.getD .skip) = some ir_reduce_out := by kernel_rfl
theorem ac_reduce_out {xs : List AV} {r : AV} (hn : xs.length ≤ 15) (h : ∀ C : Ctx, C.n = 15 → IWP Tryd.prog C [] ir_reduce_out (FinQ [.cell 2 true 3] r) (AS.start xs)) : ACalls Tryd.prog 51 xs r :=
  acalls_of Tryd.func51 rfl tr_reduce_out rfl hn h
theorem acS_reduce_out {xs : List AV} {S S' : AStore} {r : AV} (hn : xs.length ≤ 15) (h : Clean S → ∀ C : Ctx, C.n = 15 → IWP Tryd.prog C [] ir_reduce_out (FinS C [.cell 2 true 3] r S') (AS.startS xs S)) : ACallsS Tryd.prog 51 xs S r S' :=
  acallsS_of Tryd.func51 rfl tr_reduce_out rfl hn h

def ir_reduce_with : IR :=
  (.seq
  (.ops
  [.mk (some 3) none (.box 24 (.t 0)) .no, .mk (some 5) none (.box 24 (.t 2)) .no, .mk (some 6) none
  (.alloc 24
  [.st (.int .i64 0), .st (.int .i64 0),
  .full []])
  .no])
  (.seq
  (.ops
  [.mk (some 8) none (.fieldAddr 0 (.t 3)) (.onb 3), .mk (some 9) none (.load false 1 (.t 8)) (.onb 3), .mk (some 10) none (.fieldAddr 1 (.t 3)) (.onb 3), .mk (some 11) none (.load false 1 (.t 10)) (.onb 3), .mk (some 12) none (.buildSlice false 24 3 []) .no, .mk (some 13) none (.fieldAddr 2 (.t 3)) .no, .mk (some 14) none (.load false 1 (.t 13)) .no, .mk (some 15) none (.append true 24 3 40 (.t 12) (.t 14))
  (.keeps [3, 3, 3, 3]), .mk (some 16) none
  (.build
  [.st (.int .i64 0), .st (.int .i64 0),
  .full []]
  [(0, 1, .t 9), (1, 1, .t 11), (2, 1, .t 15)])
  .no, .mk (some 7) none
  (.alloc 24
  [.st (.int .i64 0), .st (.int .i64 0),
  .full []])
  .no, .mk none none (.store 3 (.t 7) (.t 16))
  .no])
  (.seq
  (.ops
  [.mk (some 17) none (.fieldAddr 2 (.t 7)) .no, .mk (some 18) none (.load false 1 (.t 17)) .no, .mk (some 19) none (.mov (.t 1)) .no, .mk (some 20) none (.load true 3 (.t 5)) .no, .mk (some 21) none (.indexAddr 3 (.t 18) (.t 19))
  .no, .mk none none (.store 3 (.t 21) (.t 20))
  .no])
  (.seq
  (.ops
  [.mk (some 22) none (.load true 3 (.t 7)) .no, .mk none none (.store 3 (.t 6) (.t 22))
  .no])
  .ret))))
theorem tr_reduce_with : trCode Tryd.prog 23 [15] (Tryd.f52.body.getD .skip) = some ir_reduce_with := by kernel_rfl
theorem ac_reduce_with {xs : List AV} {r : AV} (hn : xs.length ≤ 23) (h : ∀ C : Ctx, C.n = 23 → IWP Tryd.prog C [15] ir_reduce_with (FinQ [.cell 6 true 3] r) (AS.start xs)) : ACalls Tryd.prog 52 xs r :=
  acalls_of Tryd.func52 rfl tr_reduce_with rfl hn h
theorem acS_reduce_with {xs : List AV} {S S' : AStore} {r : AV} (hn : xs.length ≤ 23) (h : Clean S → ∀ C : Ctx, C.n = 23 → IWP Tryd.prog C [15] ir_reduce_with (FinS C [.cell 6 true 3] r S') (AS.startS xs S)) : ACallsS Tryd.prog 52 xs S r S' :=
  acallsS_of Tryd.func52 rfl tr_reduce_with rfl hn h

def ir_reduce_Outer : IR :=
  (.seq
  (.ops
  [.mk (some 1) none (.box 24 (.t 0)) .no, .mk (some 2) none
  (.alloc 24
  [.st (.int .i64 0), .st (.int .i64 0),
  .full []])
  .no, .mk (some 3) none (.mov (.c (.one (.st (.bool false)))))
  .no])
  (.seq
  (.seq
  (.ops
  [.mk (some 8) none (.load true 3 (.t 1)) .no, .mk (some 9) none (.call 50 [.t 8]) .no])
  (.cond (.t 9)
  (.seq
  (.ops
  [.mk (some 10) none (.load true 3 (.t 1)) .no, .mk (some 11) none (.call 51 [.t 10]) .no, .mk none none (.store 3 (.t 2) (.t 11))
  .no, .mk (some 3) none (.mov (.c (.one (.st (.bool true)))))
  .no])
  .ret)
  .skip))
  (.seq
  (.seq
  (.ops
  [.mk (some 12) none (.fieldAddr 2 (.t 1)) .no, .mk (some 13) none (.load false 1 (.t 12)) .no, .mk (some 14) none (.len false (.t 13)) .no, .mk (some 15) none (.mov (.c (.one (.st (.int .i64 0)))))
  .no])
  (.block 0
  (.loop
  (.seq
  (.ops
  [.mk (some 16) none (.bin .lss (.t 15) (.t 14))
  .no])
  (.seq (.cond (.t 16) .skip (.exit 0))
  (.seq
  (.block 1
  (.seq
  (.ops
  [.mk (some 17) none (.mov (.t 15)) .no, .mk (some 18) none (.indexAddr 3 (.t 13) (.t 15))
  .no, .mk (some 19) none (.load true 3 (.t 18)) .no, .mk (some 5) none
  (.alloc 24
  [.st (.int .i64 0), .st (.int .i64 0),
  .full []])
  .no, .mk (some 4) none (.mov (.t 17)) .no, .mk none none (.store 3 (.t 5) (.t 19))
  .no])
  (.seq
  (.ops
  [.mk (some 21) none (.load true 3 (.t 5)) .no, .mk (some 22) none (.call 41 [.t 21]) .no, .mk (some 20) none (.mov (.t 22)) .no, .mk (some 23) none (.extract 0 (.t 20)) .no, .mk (some 24) none (.extract 1 (.t 20)) .no, .mk (some 6) none
  (.alloc 24
  [.st (.int .i64 0), .st (.int .i64 0),
  .full []])
  .no, .mk none none (.store 3 (.t 6) (.t 23))
  .no, .mk (some 7) none (.mov (.t 24)) .no])
  (.seq
  (.ops
  [.mk (some 25) none (.mov (.t 7)) .no])
  (.cond (.t 25)
  (.seq
  (.ops
  [.mk (some 26) none (.load true 3 (.t 1))
  .no, .mk (some 27) none (.mov (.t 4)) .no, .mk (some 28) none (.load true 3 (.t 6))
  .no, .mk (some 29) none (.call 52 [.t 26, .t 27, .t 28])
  .no, .mk none none (.store 3 (.t 2) (.t 29))
  .no, .mk (some 3) none (.mov (.c (.one (.st (.bool true)))))
  .no])
  .ret)
  .skip)))))
  (.ops
  [.mk (some 30) none (.bin .add (.t 15) (.c (.one (.st (.int .i64 1)))))
  .no, .mk (some 15) none (.mov (.t 30)) .no])))))))
  (.seq
  (.ops
  [.mk (some 31) none (.load true 3 (.t 1)) .no, .mk none none (.store 3 (.t 2) (.t 31))
  .no, .mk (some 3) none (.mov (.c (.one (.st (.bool false)))))
  .no])
  .ret))))
theorem tr_reduce_Outer : trCode Tryd.prog 32 [] (Tryd.f41.body.getD .skip) = some ir_reduce_Outer := by kernel_rfl
theorem ac_reduce_Outer {xs : List AV} {r : AV} (hn : xs.length ≤ 32) (h : ∀ C : Ctx, C.n = 32 → IWP Tryd.prog C [] ir_reduce_Outer (FinQ [.cell 2 true 3, .t 3] r) (AS.start xs)) : ACalls Tryd.prog 41 xs r :=
  acalls_of Tryd.func41 rfl tr_reduce_Outer rfl hn h
theorem acS_reduce_Outer {xs : List AV} {S S' : AStore} {r : AV} (hn : xs.length ≤ 32) (h : Clean S → ∀ C : Ctx, C.n = 32 → IWP Tryd.prog C [] ir_reduce_Outer (FinS C [.cell 2 true 3, .t 3] r S') (AS.startS xs S)) : ACallsS Tryd.prog 41 xs S r S' :=
  acallsS_of Tryd.func41 rfl tr_reduce_Outer rfl hn h

def ir_reduce_Last : IR :=
  (.seq
  (.ops
  [.mk (some 3) none (.box 24 (.t 0)) .no, .mk (some 6) none
  (.alloc 24
  [.st (.int .i64 0), .st (.int .i64 0),
  .full []])
  .no, .mk (some 7) none (.mov (.c (.one (.st (.int .i64 0)))))
  .no, .mk (some 8) none (.mov (.c (.one (.st (.int .i64 0)))))
  .no])
  (.seq
  (.ops
  [.mk (some 9) none (.mov (.c (.one (.st (.int .i64 0)))))
  .no])
  (.block 0
  (.loop
  (.seq
  (.block 1
  (.seq
  (.ops
  [.mk (some 15) none (.mov (.t 2)) .no, .mk (some 16) none (.load true 3 (.t 3)) .no, .mk (some 17) none (.callV (.t 15) [.t 16])
  .no, .mk (some 14) none (.mov (.t 17)) .no, .mk (some 18) none (.extract 0 (.t 14)) .no, .mk (some 19) none (.extract 1 (.t 14)) .no, .mk (some 10) none
  (.alloc 24
  [.st (.int .i64 0), .st (.int .i64 0),
  .full []])
  .no, .mk none none (.store 3 (.t 10) (.t 18))
  .no, .mk (some 11) none (.mov (.t 19)) .no])
  (.seq
  (.seq
  (.ops
  [.mk (some 20) none (.mov (.t 11)) .no, .mk (some 21) none (.un .not (.t 20)) .no])
  (.cond (.t 21)
  (.seq
  (.ops
  [.mk (some 22) none (.load true 3 (.t 3)) .no, .mk (some 23) none (.call 49 [.t 22]) .no, .mk (some 24) none (.mov (.t 9)) .no, .mk none none (.store 3 (.t 6) (.t 23))
  .no, .mk (some 7) none (.mov (.t 24)) .no, .mk (some 8) none (.mov (.c (.one (.st (.int .i64 0)))))
  .no])
  .ret)
  .skip))
  (.seq
  (.seq
  (.ops
  [.mk (some 25) none (.mov (.t 9)) .no, .mk (some 26) none (.mov (.t 1)) .no, .mk (some 27) none (.bin .eql (.t 25) (.t 26))
  .no])
  (.cond (.t 27)
  (.seq
  (.ops
  [.mk (some 28) none
  (.build
  [.st (.int .i64 0), .st (.int .i64 0),
  .full []]
  [])
  .no, .mk none none (.store 3 (.t 6) (.t 28))
  .no, .mk (some 7) none (.mov (.c (.one (.st (.int .i64 0)))))
  .no, .mk (some 8) none (.mov (.c (.one (.st (.int .i64 9)))))
  .no])
  .ret)
  .skip))
  (.seq
  (.ops
  [.mk (some 29) none (.load true 3 (.t 10)) .no, .mk none none (.store 3 (.t 3) (.t 29))
  .no])
  (.seq
  (.ops
  [.mk (some 30) none (.load true 3 (.t 3)) .no, .mk (some 31) none (.call 24 [.t 30]) .no, .mk (some 32) none (.bin .gtr (.t 31) (.c (.one (.st (.int .i64 2000)))))
  .no])
  (.cond (.t 32)
  (.seq
  (.ops
  [.mk (some 33) none
  (.build
  [.st (.int .i64 0), .st (.int .i64 0),
  .full []]
  [])
  .no, .mk none none (.store 3 (.t 6) (.t 33))
  .no, .mk (some 7) none (.mov (.c (.one (.st (.int .i64 0)))))
  .no, .mk (some 8) none (.mov (.c (.one (.st (.int .i64 8)))))
  .no])
  .ret)
  .skip)))))))
  (.ops
  [.mk (some 12) none (.mov (.t 9)) .no, .mk (some 13) none (.bin .add (.t 12) (.c (.one (.st (.int .i64 1)))))
  .no, .mk (some 9) none (.mov (.t 13)) .no]))))))
theorem tr_reduce_Last : trCode Tryd.prog 34 [] (Tryd.f40.body.getD .skip) = some ir_reduce_Last := by kernel_rfl
theorem ac_reduce_Last {xs : List AV} {r : AV} (hn : xs.length ≤ 34) (h : ∀ C : Ctx, C.n = 34 → IWP Tryd.prog C [] ir_reduce_Last (FinQ [.cell 6 true 3, .t 7, .t 8] r) (AS.start xs)) : ACalls Tryd.prog 40 xs r :=
  acalls_of Tryd.func40 rfl tr_reduce_Last rfl hn h
theorem acS_reduce_Last {xs : List AV} {S S' : AStore} {r : AV} (hn : xs.length ≤ 34) (h : Clean S → ∀ C : Ctx, C.n = 34 → IWP Tryd.prog C [] ir_reduce_Last (FinS C [.cell 6 true 3, .t 7, .t 8] r S') (AS.startS xs S)) : ACallsS Tryd.prog 40 xs S r S' :=
  acallsS_of Tryd.func40 rfl tr_reduce_Last rfl hn h

def ir_reduce_args : IR :=
  (.seq
  (.ops
  [.mk (some 3) none (.box 24 (.t 0)) .no, .mk (some 6) none (.mov (.c (.one (.st (.int .i64 0)))))
  .no])
  (.seq
  (.ops
  [.mk (some 8) none (.load true 3 (.t 3)) .no, .mk (some 9) none (.mov (.t 1)) .no, .mk (some 10) none (.call 22 [.t 8, .t 9])
  .no, .mk (some 7) none (.mov (.t 10)) .no])
  (.seq
  (.seq
  (.ops
  [.mk (some 11) none (.mov (.t 7)) .no, .mk (some 12) none (.bin .eql (.t 11) (.c (.one (.st (.int .i64 0)))))
  .no, .mk (some 13) none (.mov (.t 12)) .no, .mk (some 14) (some (13, true)) (.mov (.t 2)) .no, .mk (some 15) (some (13, true)) (.bin .lss (.t 14) (.c (.one (.st (.int .i64 0)))))
  .no, .mk (some 16) (some (13, true)) (.mov (.t 15)) .no, .mk (some 17) (some (16, false)) (.mov (.t 2)) .no, .mk (some 18) (some (16, false)) (.bin .gtr (.t 17) (.c (.one (.st (.int .i64 400)))))
  .no, .mk (some 19) (some (13, true))
  (.pick (.t 16) (.c (.one (.st (.bool true)))) (.t 18))
  .no, .mk (some 20) none
  (.pick (.t 13) (.t 19) (.c (.one (.st (.bool false)))))
  .no])
  (.cond (.t 20)
  (.ops
  [.mk (some 7) none (.mov (.c (.one (.st (.int .i64 3)))))
  .no])
  .skip))
  (.seq
  (.ops
  [.mk (some 21) none (.mov (.t 7)) .no, .mk (some 6) none (.mov (.t 21)) .no])
  .ret))))
theorem tr_reduce_args : trCode Tryd.prog 22 [] (Tryd.f45.body.getD .skip) = some ir_reduce_args := by kernel_rfl
theorem ac_reduce_args {xs : List AV} {r : AV} (hn : xs.length ≤ 22) (h : ∀ C : Ctx, C.n = 22 → IWP Tryd.prog C [] ir_reduce_args (FinQ [.t 6] r) (AS.start xs)) : ACalls Tryd.prog 45 xs r :=
  acalls_of Tryd.func45 rfl tr_reduce_args rfl hn h
theorem acS_reduce_args {xs : List AV} {S S' : AStore} {r : AV} (hn : xs.length ≤ 22) (h : Clean S → ∀ C : Ctx, C.n = 22 → IWP Tryd.prog C [] ir_reduce_args (FinS C [.t 6] r S') (AS.startS xs S)) : ACallsS Tryd.prog 45 xs S r S' :=
  acallsS_of Tryd.func45 rfl tr_reduce_args rfl hn h

def ir_reduce_Normal : IR :=
  (.seq
  (.ops
  [.mk (some 3) none (.box 24 (.t 0)) .no, .mk (some 6) none
  (.alloc 24
  [.st (.int .i64 0), .st (.int .i64 0),
  .full []])
  .no, .mk (some 7) none (.mov (.c (.one (.st (.int .i64 0)))))
  .no, .mk (some 8) none (.mov (.c (.one (.st (.int .i64 0)))))
  .no])
  (.seq
  (.seq
  (.ops
  [.mk (some 10) none (.load true 3 (.t 3)) .no, .mk (some 11) none (.mov (.t 1)) .no, .mk (some 12) none (.mov (.t 2)) .no, .mk (some 13) none (.call 45 [.t 10, .t 11, .t 12]) .no, .mk (some 9) none (.mov (.t 13)) .no])
  (.seq
  (.ops
  [.mk (some 14) none (.mov (.t 9)) .no, .mk (some 15) none (.bin .neq (.t 14) (.c (.one (.st (.int .i64 0)))))
  .no])
  (.cond (.t 15)
  (.seq
  (.ops
  [.mk (some 16) none
  (.build
  [.st (.int .i64 0), .st (.int .i64 0),
  .full []]
  [])
  .no, .mk (some 17) none (.mov (.t 9)) .no, .mk none none (.store 3 (.t 6) (.t 16))
  .no, .mk (some 7) none (.mov (.c (.one (.st (.int .i64 0)))))
  .no, .mk (some 8) none (.mov (.t 17)) .no])
  .ret)
  .skip)))
  (.seq
  (.ops
  [.mk (some 18) none (.load true 3 (.t 3)) .no, .mk (some 19) none (.mov (.t 2)) .no, .mk (some 20) none (.call 40
  [.t 18, .t 19, .c (.one (.fn 41 []))])
  .no, .mk (some 21) none (.extract 0 (.t 20)) .no, .mk (some 22) none (.extract 1 (.t 20)) .no, .mk (some 23) none (.extract 2 (.t 20)) .no, .mk none none (.store 3 (.t 6) (.t 21))
  .no, .mk (some 7) none (.mov (.t 22)) .no, .mk (some 8) none (.mov (.t 23)) .no])
  .ret)))
theorem tr_reduce_Normal : trCode Tryd.prog 24 [] (Tryd.f34.body.getD .skip) = some ir_reduce_Normal := by kernel_rfl
theorem ac_reduce_Normal {xs : List AV} {r : AV} (hn : xs.length ≤ 24) (h : ∀ C : Ctx, C.n = 24 → IWP Tryd.prog C [] ir_reduce_Normal (FinQ [.cell 6 true 3, .t 7, .t 8] r) (AS.start xs)) : ACalls Tryd.prog 34 xs r :=
  acalls_of Tryd.func34 rfl tr_reduce_Normal rfl hn h
theorem acS_reduce_Normal {xs : List AV} {S S' : AStore} {r : AV} (hn : xs.length ≤ 24) (h : Clean S → ∀ C : Ctx, C.n = 24 → IWP Tryd.prog C [] ir_reduce_Normal (FinS C [.cell 6 true 3, .t 7, .t 8] r S') (AS.startS xs S)) : ACallsS Tryd.prog 34 xs S r S' :=
  acallsS_of Tryd.func34 rfl tr_reduce_Normal rfl hn h

def ir_reduce_has : IR :=
  (.seq
  (.ops
  [.mk (some 2) none (.box 24 (.t 0)) .no, .mk (some 4) none (.mov (.c (.one (.st (.bool false)))))
  .no])
  (.seq
  (.seq
  (.ops
  [.mk (some 7) none (.fieldAddr 0 (.t 2)) .no, .mk (some 8) none (.load false 1 (.t 7)) .no, .mk (some 9) none (.bin .eql (.t 8) (.c (.one (.st (.int .i64 1)))))
  .no])
  (.cond (.t 9)
  (.seq
  (.ops
  [.mk (some 10) none (.fieldAddr 1 (.t 2)) .no, .mk (some 11) none (.load false 1 (.t 10)) .no, .mk (some 12) none (.mov (.t 1)) .no, .mk (some 13) none (.bin .eql (.t 11) (.t 12))
  .no, .mk (some 4) none (.mov (.t 13)) .no])
  .ret)
  .skip))
  (.seq
  (.seq
  (.ops
  [.mk (some 14) none (.fieldAddr 0 (.t 2)) .no, .mk (some 15) none (.load false 1 (.t 14)) .no, .mk (some 16) none (.bin .eql (.t 15) (.c (.one (.st (.int .i64 2)))))
  .no])
  (.cond (.t 16)
  (.ops
  [.mk (some 17) none (.mov (.t 1)) .no, .mk (some 18) none (.bin .add (.t 17) (.c (.one (.st (.int .i64 1)))))
  .no, .mk (some 1) none (.mov (.t 18)) .no])
  .skip))
  (.seq
  (.seq
  (.ops
  [.mk (some 19) none (.fieldAddr 2 (.t 2)) .no, .mk (some 20) none (.load false 1 (.t 19)) .no, .mk (some 21) none (.len false (.t 20)) .no, .mk (some 22) none (.mov (.c (.one (.st (.int .i64 0)))))
  .no])
  (.block 0
  (.loop
  (.seq
  (.ops
  [.mk (some 23) none (.bin .lss (.t 22) (.t 21))
  .no])
  (.seq (.cond (.t 23) .skip (.exit 0))
  (.seq
  (.block 1
  (.seq
  (.ops
  [.mk (some 24) none (.indexAddr 3 (.t 20) (.t 22))
  .no, .mk (some 25) none (.load true 3 (.t 24)) .no, .mk (some 6) none
  (.alloc 24
  [.st (.int .i64 0), .st (.int .i64 0),
  .full []])
  .no, .mk none none (.store 3 (.t 6) (.t 25))
  .no])
  (.seq
  (.ops
  [.mk (some 26) none (.load true 3 (.t 6)) .no, .mk (some 27) none (.mov (.t 1)) .no, .mk (some 28) none (.call 53 [.t 26, .t 27])
  .no])
  (.cond (.t 28)
  (.seq
  (.ops
  [.mk (some 4) none (.mov (.c (.one (.st (.bool true)))))
  .no])
  .ret)
  .skip))))
  (.ops
  [.mk (some 29) none (.bin .add (.t 22) (.c (.one (.st (.int .i64 1)))))
  .no, .mk (some 22) none (.mov (.t 29)) .no])))))))
  (.seq
  (.ops
  [.mk (some 4) none (.mov (.c (.one (.st (.bool false)))))
  .no])
  .ret)))))
theorem tr_reduce_has : trCode Tryd.prog 30 [] (Tryd.f53.body.getD .skip) = some ir_reduce_has := by kernel_rfl
theorem ac_reduce_has {xs : List AV} {r : AV} (hn : xs.length ≤ 30) (h : ∀ C : Ctx, C.n = 30 → IWP Tryd.prog C [] ir_reduce_has (FinQ [.t 4] r) (AS.start xs)) : ACalls Tryd.prog 53 xs r :=
  acalls_of Tryd.func53 rfl tr_reduce_has rfl hn h
theorem acS_reduce_has {xs : List AV} {S S' : AStore} {r : AV} (hn : xs.length ≤ 30) (h : Clean S → ∀ C : Ctx, C.n = 30 → IWP Tryd.prog C [] ir_reduce_has (FinS C [.t 4] r S') (AS.startS xs S)) : ACallsS Tryd.prog 53 xs S r S' :=
  acallsS_of Tryd.func53 rfl tr_reduce_has rfl hn h

def ir_reduce_Short : IR :=
  (.seq
  (.ops
  [.mk (some 1) none (.box 24 (.t 0)) .no, .mk (some 2) none
  (.alloc 24
  [.st (.int .i64 0), .st (.int .i64 0),
  .full []])
  .no])
  (.seq
  (.ops
  [.mk (some 7) none (.fieldAddr 0 (.t 1)) .no, .mk (some 8) none (.load false 1 (.t 7)) .no, .mk (some 9) none (.fieldAddr 1 (.t 1)) .no, .mk (some 10) none (.load false 1 (.t 9)) .no, .mk (some 11) none
  (.build
  [.st (.int .i64 0), .st (.int .i64 0),
  .full []]
  [(0, 1, .t 8), (1, 1, .t 10)])
  .no, .mk (some 3) none
  (.alloc 24
  [.st (.int .i64 0), .st (.int .i64 0),
  .full []])
  .no, .mk none none (.store 3 (.t 3) (.t 11))
  .no])
  (.seq
  (.seq
  (.ops
  [.mk (some 12) none (.fieldAddr 2 (.t 1)) .no, .mk (some 13) none (.load false 1 (.t 12)) .no, .mk (some 14) none (.len false (.t 13)) .no, .mk (some 15) none (.mov (.c (.one (.st (.int .i64 0)))))
  .no])
  (.block 0
  (.loop
  (.seq
  (.ops
  [.mk (some 16) none (.bin .lss (.t 15) (.t 14))
  .no])
  (.seq (.cond (.t 16) .skip (.exit 0))
  (.seq
  (.block 1
  (.seq
  (.ops
  [.mk (some 17) none (.indexAddr 3 (.t 13) (.t 15))
  .no, .mk (some 18) none (.load true 3 (.t 17)) .no, .mk (some 5) none
  (.alloc 24
  [.st (.int .i64 0), .st (.int .i64 0),
  .full []])
  .no, .mk none none (.store 3 (.t 5) (.t 18))
  .no])
  (.ops
  [.mk (some 19) none (.fieldAddr 2 (.t 3)) .no, .mk (some 20) none (.load false 1 (.t 19)) .no, .mk (some 21) none (.load true 3 (.t 5)) .no, .mk (some 22) none (.call 42 [.t 21]) .no, .mk (some 23) none (.buildSlice false 24 3 [.t 22])
  .no, .mk (some 24) none
  (.append false 24 3 40 (.t 20) (.t 23)) .no, .mk (some 25) none (.fieldAddr 2 (.t 3)) .no, .mk none none (.store 1 (.t 25) (.t 24))
  .no])))
  (.ops
  [.mk (some 26) none (.bin .add (.t 15) (.c (.one (.st (.int .i64 1)))))
  .no, .mk (some 15) none (.mov (.t 26)) .no])))))))
  (.seq
  (.seq
  (.ops
  [.mk (some 27) none (.fieldAddr 0 (.t 1)) .no, .mk (some 28) none (.load false 1 (.t 27)) .no, .mk (some 29) none (.bin .neq (.t 28) (.c (.one (.st (.int .i64 2)))))
  .no])
  (.cond (.t 29)
  (.seq
  (.ops
  [.mk (some 30) none (.load true 3 (.t 3)) .no, .mk none none (.store 3 (.t 2) (.t 30))
  .no])
  .ret)
  .skip))
  (.seq
  (.seq
  (.ops
  [.mk (some 31) none (.fieldAddr 2 (.t 3)) .no, .mk (some 32) none (.load false 1 (.t 31)) .no, .mk (some 33) none
  (.indexAddr 3 (.t 32) (.c (.one (.st (.int .i64 0)))))
  .no, .mk (some 34) none (.load true 3 (.t 33)) .no, .mk (some 6) none
  (.alloc 24
  [.st (.int .i64 0), .st (.int .i64 0),
  .full []])
  .no, .mk none none (.store 3 (.t 6) (.t 34))
  .no])
  (.seq
  (.ops
  [.mk (some 35) none (.fieldAddr 0 (.t 6)) .no, .mk (some 36) none (.load false 1 (.t 35)) .no, .mk (some 37) none (.bin .eql (.t 36) (.c (.one (.st (.int .i64 3)))))
  .no, .mk (some 38) none (.mov (.t 37)) .no, .mk (some 39) (some (38, true)) (.fieldAddr 2 (.t 6))
  .no, .mk (some 40) (some (38, true)) (.load false 1 (.t 39))
  .no, .mk (some 41) (some (38, true))
  (.indexAddr 3 (.t 40) (.c (.one (.st (.int .i64 1)))))
  .no, .mk (some 42) (some (38, true)) (.fieldAddr 0 (.t 41))
  .no, .mk (some 43) (some (38, true)) (.load false 1 (.t 42))
  .no, .mk (some 44) (some (38, true)) (.bin .eql (.t 43) (.c (.one (.st (.int .i64 1)))))
  .no, .mk (some 45) none
  (.pick (.t 38) (.t 44) (.c (.one (.st (.bool false)))))
  .no, .mk (some 46) none (.mov (.t 45)) .no, .mk (some 47) (some (46, true)) (.fieldAddr 2 (.t 6))
  .no, .mk (some 48) (some (46, true)) (.load false 1 (.t 47))
  .no, .mk (some 49) (some (46, true))
  (.indexAddr 3 (.t 48) (.c (.one (.st (.int .i64 1)))))
  .no, .mk (some 50) (some (46, true)) (.fieldAddr 1 (.t 49))
  .no, .mk (some 51) (some (46, true)) (.load false 1 (.t 50))
  .no, .mk (some 52) (some (46, true)) (.bin .eql (.t 51) (.c (.one (.st (.int .i64 0)))))
  .no, .mk (some 53) none
  (.pick (.t 46) (.t 52) (.c (.one (.st (.bool false)))))
  .no, .mk (some 54) none (.mov (.t 53)) .no, .mk (some 55) (some (54, true)) (.fieldAddr 2 (.t 6))
  .no, .mk (some 56) (some (54, true)) (.load false 1 (.t 55))
  .no, .mk (some 57) (some (54, true))
  (.indexAddr 3 (.t 56) (.c (.one (.st (.int .i64 0)))))
  .no, .mk (some 58) (some (54, true)) (.load true 3 (.t 57))
  .no, .mk (some 59) (some (54, true)) (.call 53
  [.t 58, .c (.one (.st (.int .i64 0)))])
  .no, .mk (some 60) (some (54, true)) (.un .not (.t 59))
  .no, .mk (some 61) none
  (.pick (.t 54) (.t 60) (.c (.one (.st (.bool false)))))
  .no])
  (.cond (.t 61)
  (.seq
  (.ops
  [.mk (some 62) none (.fieldAddr 2 (.t 6)) .no, .mk (some 63) none (.load false 1 (.t 62)) .no, .mk (some 64) none
  (.indexAddr 3 (.t 63) (.c (.one (.st (.int .i64 0)))))
  .no, .mk (some 65) none (.load true 3 (.t 64)) .no, .mk (some 66) none (.call 54
  [.t 65, .c (.one (.st (.int .i64 (-1)))), .c (.one (.st (.int .i64 0)))])
  .no, .mk none none (.store 3 (.t 2) (.t 66))
  .no])
  .ret)
  .skip)))
  (.seq
  (.ops
  [.mk (some 67) none (.load true 3 (.t 3)) .no, .mk none none (.store 3 (.t 2) (.t 67))
  .no])
  .ret))))))
theorem tr_reduce_Short : trCode Tryd.prog 68 [] (Tryd.f42.body.getD .skip) = some ir_reduce_Short := by kernel_rfl
theorem ac_reduce_Short {xs : List AV} {r : AV} (hn : xs.length ≤ 68) (h : ∀ C : Ctx, C.n = 68 → IWP Tryd.prog C [] ir_reduce_Short (FinQ [.cell 2 true 3] r) (AS.start xs)) : ACalls Tryd.prog 42 xs r :=
  acalls_of Tryd.func42 rfl tr_reduce_Short rfl hn h
theorem acS_reduce_Short {xs : List AV} {S S' : AStore} {r : AV} (hn : xs.length ≤ 68) (h : Clean S → ∀ C : Ctx, C.n = 68 → IWP Tryd.prog C [] ir_reduce_Short (FinS C [.cell 2 true 3] r S') (AS.startS xs S)) : ACallsS Tryd.prog 42 xs S r S' :=
  acallsS_of Tryd.func42 rfl tr_reduce_Short rfl hn h

def ir_R_App : IR :=
  (.seq
  (.ops
  [.mk (some 2) none (.box 24 (.t 0)) .no, .mk (some 3) none (.box 24 (.t 1)) .no, .mk (some 4) none
  (.alloc 24
  [.st (.int .i64 0), .st (.int .i64 0),
  .full []])
  .no])
  (.seq
  (.ops
  [.mk (some 5) none (.load true 3 (.t 2)) .no, .mk (some 6) none (.load true 3 (.t 3)) .no, .mk (some 7) none (.buildSlice false 24 3 [.t 5, .t 6])
  .no, .mk (some 8) none
  (.build
  [.st (.int .i64 0), .st (.int .i64 0),
  .full []]
  [(0, 1, .c (.one (.st (.int .i64 3)))),
  (2, 1, .t 7)])
  .no, .mk none none (.store 3 (.t 4) (.t 8))
  .no])
  .ret))
theorem tr_R_App : trCode Tryd.prog 9 [] (Tryd.f30.body.getD .skip) = some ir_R_App := by kernel_rfl
theorem ac_R_App {xs : List AV} {r : AV} (hn : xs.length ≤ 9) (h : ∀ C : Ctx, C.n = 9 → IWP Tryd.prog C [] ir_R_App (FinQ [.cell 4 true 3] r) (AS.start xs)) : ACalls Tryd.prog 30 xs r :=
  acalls_of Tryd.func30 rfl tr_R_App rfl hn h
theorem acS_R_App {xs : List AV} {S S' : AStore} {r : AV} (hn : xs.length ≤ 9) (h : Clean S → ∀ C : Ctx, C.n = 9 → IWP Tryd.prog C [] ir_R_App (FinS C [.cell 4 true 3] r S') (AS.startS xs S)) : ACallsS Tryd.prog 30 xs S r S' :=
  acallsS_of Tryd.func30 rfl tr_R_App rfl hn h

def ir_R_Fun : IR :=
  (.seq
  (.ops
  [.mk (some 1) none (.box 24 (.t 0)) .no, .mk (some 2) none
  (.alloc 24
  [.st (.int .i64 0), .st (.int .i64 0),
  .full []])
  .no])
  (.seq
  (.ops
  [.mk (some 3) none (.load true 3 (.t 1)) .no, .mk (some 4) none (.buildSlice false 24 3 [.t 3]) .no, .mk (some 5) none
  (.build
  [.st (.int .i64 0), .st (.int .i64 0),
  .full []]
  [(0, 1, .c (.one (.st (.int .i64 2)))),
  (2, 1, .t 4)])
  .no, .mk none none (.store 3 (.t 2) (.t 5))
  .no])
  .ret))
theorem tr_R_Fun : trCode Tryd.prog 6 [] (Tryd.f31.body.getD .skip) = some ir_R_Fun := by kernel_rfl
theorem ac_R_Fun {xs : List AV} {r : AV} (hn : xs.length ≤ 6) (h : ∀ C : Ctx, C.n = 6 → IWP Tryd.prog C [] ir_R_Fun (FinQ [.cell 2 true 3] r) (AS.start xs)) : ACalls Tryd.prog 31 xs r :=
  acalls_of Tryd.func31 rfl tr_R_Fun rfl hn h
theorem acS_R_Fun {xs : List AV} {S S' : AStore} {r : AV} (hn : xs.length ≤ 6) (h : Clean S → ∀ C : Ctx, C.n = 6 → IWP Tryd.prog C [] ir_R_Fun (FinS C [.cell 2 true 3] r S') (AS.startS xs S)) : ACallsS Tryd.prog 31 xs S r S' :=
  acallsS_of Tryd.func31 rfl tr_R_Fun rfl hn h

def ir_R_IsRedex : IR :=
  (.seq
  (.ops
  [.mk (some 1) none (.box 24 (.t 0)) .no, .mk (some 2) none (.mov (.c (.one (.st (.bool false)))))
  .no])
  (.seq
  (.ops
  [.mk (some 3) none (.fieldAddr 0 (.t 1)) .no, .mk (some 4) none (.load false 1 (.t 3)) .no, .mk (some 5) none (.bin .eql (.t 4) (.c (.one (.st (.int .i64 3)))))
  .no, .mk (some 6) none (.mov (.t 5)) .no, .mk (some 7) (some (6, true)) (.fieldAddr 2 (.t 1)) .no, .mk (some 8) (some (6, true)) (.load false 1 (.t 7)) .no, .mk (some 9) (some (6, true))
  (.indexAddr 3 (.t 8) (.c (.one (.st (.int .i64 0)))))
  .no, .mk (some 10) (some (6, true)) (.fieldAddr 0 (.t 9)) .no, .mk (some 11) (some (6, true)) (.load false 1 (.t 10)) .no, .mk (some 12) (some (6, true)) (.bin .eql (.t 11) (.c (.one (.st (.int .i64 2)))))
  .no, .mk (some 13) none
  (.pick (.t 6) (.t 12) (.c (.one (.st (.bool false)))))
  .no, .mk (some 2) none (.mov (.t 13)) .no])
  .ret))
theorem tr_R_IsRedex : trCode Tryd.prog 14 [] (Tryd.f44.body.getD .skip) = some ir_R_IsRedex := by kernel_rfl
theorem ac_R_IsRedex {xs : List AV} {r : AV} (hn : xs.length ≤ 14) (h : ∀ C : Ctx, C.n = 14 → IWP Tryd.prog C [] ir_R_IsRedex (FinQ [.t 2] r) (AS.start xs)) : ACalls Tryd.prog 44 xs r :=
  acalls_of Tryd.func44 rfl tr_R_IsRedex rfl hn h
theorem acS_R_IsRedex {xs : List AV} {S S' : AStore} {r : AV} (hn : xs.length ≤ 14) (h : Clean S → ∀ C : Ctx, C.n = 14 → IWP Tryd.prog C [] ir_R_IsRedex (FinS C [.t 2] r S') (AS.startS xs S)) : ACallsS Tryd.prog 44 xs S r S' :=
  acallsS_of Tryd.func44 rfl tr_R_IsRedex rfl hn h

def ir_R_hasStep : IR :=
  (.seq
  (.ops
  [.mk (some 1) none (.box 24 (.t 0)) .no, .mk (some 2) none (.mov (.c (.one (.st (.bool false)))))
  .no])
  (.seq
  (.seq
  (.ops
  [.mk (some 4) none (.load true 3 (.t 1)) .no, .mk (some 5) none (.call 44 [.t 4]) .no])
  (.cond (.t 5)
  (.seq
  (.ops
  [.mk (some 2) none (.mov (.c (.one (.st (.bool true)))))
  .no])
  .ret)
  .skip))
  (.seq
  (.seq
  (.ops
  [.mk (some 3) none (.mov (.c (.one (.st (.int .i64 0)))))
  .no])
  (.block 0
  (.loop
  (.seq
  (.seq
  (.ops
  [.mk (some 6) none (.mov (.t 3)) .no, .mk (some 7) none (.fieldAddr 2 (.t 1)) .no, .mk (some 8) none (.load false 1 (.t 7)) .no, .mk (some 9) none (.len false (.t 8)) .no, .mk (some 10) none (.bin .lss (.t 6) (.t 9))
  .no])
  (.cond (.t 10) .skip (.exit 0)))
  (.seq
  (.block 1
  (.seq
  (.ops
  [.mk (some 13) none (.fieldAddr 2 (.t 1)) .no, .mk (some 14) none (.load false 1 (.t 13)) .no, .mk (some 15) none (.mov (.t 3)) .no, .mk (some 16) none (.indexAddr 3 (.t 14) (.t 15))
  .no, .mk (some 17) none (.load true 3 (.t 16)) .no, .mk (some 18) none (.call 32 [.t 17]) .no])
  (.cond (.t 18)
  (.seq
  (.ops
  [.mk (some 2) none (.mov (.c (.one (.st (.bool true)))))
  .no])
  .ret)
  .skip)))
  (.ops
  [.mk (some 11) none (.mov (.t 3)) .no, .mk (some 12) none (.bin .add (.t 11) (.c (.one (.st (.int .i64 1)))))
  .no, .mk (some 3) none (.mov (.t 12)) .no]))))))
  (.seq
  (.ops
  [.mk (some 2) none (.mov (.c (.one (.st (.bool false)))))
  .no])
  .ret))))
theorem tr_R_hasStep : trCode Tryd.prog 19 [] (Tryd.f32.body.getD .skip) = some ir_R_hasStep := by kernel_rfl
theorem ac_R_hasStep {xs : List AV} {r : AV} (hn : xs.length ≤ 19) (h : ∀ C : Ctx, C.n = 19 → IWP Tryd.prog C [] ir_R_hasStep (FinQ [.t 2] r) (AS.start xs)) : ACalls Tryd.prog 32 xs r :=
  acalls_of Tryd.func32 rfl tr_R_hasStep rfl hn h
theorem acS_R_hasStep {xs : List AV} {S S' : AStore} {r : AV} (hn : xs.length ≤ 19) (h : Clean S → ∀ C : Ctx, C.n = 19 → IWP Tryd.prog C [] ir_R_hasStep (FinS C [.t 2] r S') (AS.startS xs S)) : ACallsS Tryd.prog 32 xs S r S' :=
  acallsS_of Tryd.func32 rfl tr_R_hasStep rfl hn h

def ir_R_LamStep : IR :=
  (.seq
  (.ops
  [.mk (some 2) none (.box 24 (.t 0)) .no, .mk (some 4) none
  (.alloc 24
  [.st (.int .i64 0), .st (.int .i64 0),
  .full []])
  .no])
  (.seq
  (.seq
  (.ops
  [.mk (some 8) none (.load true 3 (.t 2)) .no, .mk (some 9) none (.call 44 [.t 8]) .no, .mk (some 10) none (.mov (.t 9)) .no, .mk (some 11) (some (10, true)) (.mov (.t 1)) .no, .mk (some 12) (some (10, true)) (.un .not (.t 11)) .no, .mk (some 13) (some (10, true)) (.mov (.t 12)) .no, .mk (some 14) (some (13, false)) (.fieldAddr 2 (.t 2)) .no, .mk (some 15) (some (13, false)) (.load false 1 (.t 14))
  .no, .mk (some 16) (some (13, false))
  (.indexAddr 3 (.t 15) (.c (.one (.st (.int .i64 0)))))
  .no, .mk (some 17) (some (13, false)) (.load true 3 (.t 16))
  .no, .mk (some 18) (some (13, false)) (.call 32 [.t 17]) .no, .mk (some 19) (some (13, false)) (.un .not (.t 18)) .no, .mk (some 20) (some (13, false)) (.mov (.t 19)) .no, .mk (some 21) (some (20, true)) (.fieldAddr 2 (.t 2)) .no, .mk (some 22) (some (20, true)) (.load false 1 (.t 21))
  .no, .mk (some 23) (some (20, true))
  (.indexAddr 3 (.t 22) (.c (.one (.st (.int .i64 1)))))
  .no, .mk (some 24) (some (20, true)) (.load true 3 (.t 23)) .no, .mk (some 25) (some (20, true)) (.call 32 [.t 24]) .no, .mk (some 26) (some (20, true)) (.un .not (.t 25)) .no, .mk (some 27) (some (13, false))
  (.pick (.t 20) (.t 26) (.c (.one (.st (.bool false)))))
  .no, .mk (some 28) (some (10, true))
  (.pick (.t 13) (.c (.one (.st (.bool true)))) (.t 27))
  .no, .mk (some 29) none
  (.pick (.t 10) (.t 28) (.c (.one (.st (.bool false)))))
  .no])
  (.cond (.t 29)
  (.seq
  (.ops
  [.mk (some 30) none (.fieldAddr 2 (.t 2)) .no, .mk (some 31) none (.load false 1 (.t 30)) .no, .mk (some 32) none
  (.indexAddr 3 (.t 31) (.c (.one (.st (.int .i64 0)))))
  .no, .mk (some 33) none (.fieldAddr 2 (.t 32)) .no, .mk (some 34) none (.load false 1 (.t 33)) .no, .mk (some 35) none
  (.indexAddr 3 (.t 34) (.c (.one (.st (.int .i64 0)))))
  .no, .mk (some 36) none (.load true 3 (.t 35)) .no, .mk (some 37) none (.fieldAddr 2 (.t 2)) .no, .mk (some 38) none (.load false 1 (.t 37)) .no, .mk (some 39) none
  (.indexAddr 3 (.t 38) (.c (.one (.st (.int .i64 1)))))
  .no, .mk (some 40) none (.load true 3 (.t 39)) .no, .mk (some 41) none (.call 8 [.t 36, .t 40])
  .no, .mk none none (.store 3 (.t 4) (.t 41))
  .no])
  .ret)
  .skip))
  (.seq
  (.ops
  [.mk (some 42) none (.fieldAddr 0 (.t 2)) .no, .mk (some 43) none (.load false 1 (.t 42)) .no, .mk (some 44) none (.fieldAddr 1 (.t 2)) .no, .mk (some 45) none (.load false 1 (.t 44)) .no, .mk (some 46) none
  (.build
  [.st (.int .i64 0), .st (.int .i64 0),
  .full []]
  [(0, 1, .t 43), (1, 1, .t 45)])
  .no, .mk (some 5) none
  (.alloc 24
  [.st (.int .i64 0), .st (.int .i64 0),
  .full []])
  .no, .mk none none (.store 3 (.t 5) (.t 46))
  .no])
  (.seq
  (.ops
  [.mk (some 6) none (.mov (.c (.one (.st (.bool false)))))
  .no])
  (.seq
  (.seq
  (.ops
  [.mk (some 7) none (.mov (.c (.one (.st (.int .i64 0)))))
  .no])
  (.block 0
  (.loop
  (.seq
  (.seq
  (.ops
  [.mk (some 47) none (.mov (.t 7)) .no, .mk (some 48) none (.fieldAddr 2 (.t 2)) .no, .mk (some 49) none (.load false 1 (.t 48)) .no, .mk (some 50) none (.len false (.t 49)) .no, .mk (some 51) none (.bin .lss (.t 47) (.t 50))
  .no])
  (.cond (.t 51) .skip (.exit 0)))
  (.seq
  (.block 1
  (.seq
  (.ops
  [.mk (some 54) none (.mov (.t 6)) .no, .mk (some 55) none (.un .not (.t 54)) .no, .mk (some 56) none (.mov (.t 55)) .no, .mk (some 57) (some (56, true)) (.fieldAddr 2 (.t 2))
  .no, .mk (some 58) (some (56, true)) (.load false 1 (.t 57))
  .no, .mk (some 59) (some (56, true)) (.mov (.t 7))
  .no, .mk (some 60) (some (56, true))
  (.indexAddr 3 (.t 58) (.t 59)) .no, .mk (some 61) (some (56, true)) (.load true 3 (.t 60))
  .no, .mk (some 62) (some (56, true)) (.call 32 [.t 61])
  .no, .mk (some 63) none
  (.pick (.t 56) (.t 62) (.c (.one (.st (.bool false)))))
  .no])
  (.cond (.t 63)
  (.seq
  (.ops
  [.mk (some 64) none (.fieldAddr 2 (.t 5)) .no, .mk (some 65) none (.load false 1 (.t 64))
  .no, .mk (some 66) none (.fieldAddr 2 (.t 2)) .no, .mk (some 67) none (.load false 1 (.t 66))
  .no, .mk (some 68) none (.mov (.t 7)) .no, .mk (some 69) none
  (.indexAddr 3 (.t 67) (.t 68)) .no, .mk (some 70) none (.load true 3 (.t 69))
  .no, .mk (some 71) none (.mov (.t 1)) .no, .mk (some 72) none (.call 33 [.t 70, .t 71])
  .no, .mk (some 73) none (.buildSlice false 24 3 [.t 72])
  .no, .mk (some 74) none
  (.append false 24 3 40 (.t 65) (.t 73)) .no, .mk (some 75) none (.fieldAddr 2 (.t 5)) .no, .mk none none (.store 1 (.t 75) (.t 74))
  .no])
  (.ops
  [.mk (some 6) none (.mov (.c (.one (.st (.bool true)))))
  .no]))
  (.ops
  [.mk (some 76) none (.fieldAddr 2 (.t 5)) .no, .mk (some 77) none (.load false 1 (.t 76))
  .no, .mk (some 78) none (.fieldAddr 2 (.t 2)) .no, .mk (some 79) none (.load false 1 (.t 78))
  .no, .mk (some 80) none (.mov (.t 7)) .no, .mk (some 81) none (.indexAddr 3 (.t 79) (.t 80))
  .no, .mk (some 82) none (.load true 3 (.t 81))
  .no, .mk (some 83) none (.buildSlice false 24 3 [.t 82])
  .no, .mk (some 84) none
  (.append false 24 3 40 (.t 77) (.t 83)) .no, .mk (some 85) none (.fieldAddr 2 (.t 5)) .no, .mk none none (.store 1 (.t 85) (.t 84))
  .no]))))
  (.ops
  [.mk (some 52) none (.mov (.t 7)) .no, .mk (some 53) none (.bin .add (.t 52) (.c (.one (.st (.int .i64 1)))))
  .no, .mk (some 7) none (.mov (.t 53)) .no]))))))
  (.seq
  (.ops
  [.mk (some 86) none (.load true 3 (.t 5)) .no, .mk none none (.store 3 (.t 4) (.t 86))
  .no])
  .ret))))))
theorem tr_R_LamStep : trCode Tryd.prog 87 [] (Tryd.f33.body.getD .skip) = some ir_R_LamStep := by kernel_rfl
theorem ac_R_LamStep {xs : List AV} {r : AV} (hn : xs.length ≤ 87) (h : ∀ C : Ctx, C.n = 87 → IWP Tryd.prog C [] ir_R_LamStep (FinQ [.cell 4 true 3] r) (AS.start xs)) : ACalls Tryd.prog 33 xs r :=
  acalls_of Tryd.func33 rfl tr_R_LamStep rfl hn h
theorem acS_R_LamStep {xs : List AV} {S S' : AStore} {r : AV} (hn : xs.length ≤ 87) (h : Clean S → ∀ C : Ctx, C.n = 87 → IWP Tryd.prog C [] ir_R_LamStep (FinS C [.cell 4 true 3] r S') (AS.startS xs S)) : ACallsS Tryd.prog 33 xs S r S' :=
  acallsS_of Tryd.func33 rfl tr_R_LamStep rfl hn h

def ir_R_LamEnd : IR :=
  (.seq
  (.ops
  [.mk (some 3) none (.box 24 (.t 0)) .no, .mk (some 6) none
  (.alloc 24
  [.st (.int .i64 0), .st (.int .i64 0),
  .full []])
  .no, .mk (some 7) none (.mov (.c (.one (.st (.int .i64 0)))))
  .no, .mk (some 8) none (.mov (.c (.one (.st (.int .i64 0)))))
  .no])
  (.seq
  (.ops
  [.mk (some 9) none (.mov (.c (.one (.st (.int .i64 0)))))
  .no])
  (.seq
  (.block 0
  (.loop
  (.seq
  (.seq
  (.ops
  [.mk (some 10) none (.load true 3 (.t 3)) .no, .mk (some 11) none (.call 32 [.t 10]) .no])
  (.cond (.t 11) .skip (.exit 0)))
  (.block 1
  (.seq
  (.seq
  (.ops
  [.mk (some 12) none (.mov (.t 9)) .no, .mk (some 13) none (.mov (.t 1)) .no, .mk (some 14) none (.bin .eql (.t 12) (.t 13))
  .no])
  (.cond (.t 14)
  (.seq
  (.ops
  [.mk (some 15) none
  (.build
  [.st (.int .i64 0), .st (.int .i64 0),
  .full []]
  [])
  .no, .mk none none (.store 3 (.t 6) (.t 15))
  .no, .mk (some 7) none (.mov (.c (.one (.st (.int .i64 0)))))
  .no, .mk (some 8) none (.mov (.c (.one (.st (.int .i64 9)))))
  .no])
  .ret)
  .skip))
  (.seq
  (.ops
  [.mk (some 16) none (.load true 3 (.t 3)) .no, .mk (some 17) none (.mov (.t 2)) .no, .mk (some 18) none (.call 33 [.t 16, .t 17])
  .no, .mk none none (.store 3 (.t 3) (.t 18))
  .no])
  (.seq
  (.ops
  [.mk (some 19) none (.mov (.t 9)) .no, .mk (some 20) none (.bin .add (.t 19) (.c (.one (.st (.int .i64 1)))))
  .no, .mk (some 9) none (.mov (.t 20)) .no])
  (.seq
  (.ops
  [.mk (some 21) none (.load true 3 (.t 3)) .no, .mk (some 22) none (.call 9
  [.t 21, .c (.one (.st (.int .i64 2000)))])
  .no, .mk (some 23) none (.bin .gtr (.t 22) (.c (.one (.st (.int .i64 2000)))))
  .no])
  (.cond (.t 23)
  (.seq
  (.ops
  [.mk (some 24) none
  (.build
  [.st (.int .i64 0), .st (.int .i64 0),
  .full []]
  [])
  .no, .mk none none (.store 3 (.t 6) (.t 24))
  .no, .mk (some 7) none (.mov (.c (.one (.st (.int .i64 0)))))
  .no, .mk (some 8) none (.mov (.c (.one (.st (.int .i64 8)))))
  .no])
  .ret)
  .skip)))))))))
  (.seq
  (.ops
  [.mk (some 25) none (.load true 3 (.t 3)) .no, .mk (some 26) none (.mov (.t 9)) .no, .mk none none (.store 3 (.t 6) (.t 25))
  .no, .mk (some 7) none (.mov (.t 26)) .no, .mk (some 8) none (.mov (.c (.one (.st (.int .i64 0)))))
  .no])
  .ret))))
theorem tr_R_LamEnd : trCode Tryd.prog 27 [] (Tryd.f14.body.getD .skip) = some ir_R_LamEnd := by kernel_rfl
theorem ac_R_LamEnd {xs : List AV} {r : AV} (hn : xs.length ≤ 27) (h : ∀ C : Ctx, C.n = 27 → IWP Tryd.prog C [] ir_R_LamEnd (FinQ [.cell 6 true 3, .t 7, .t 8] r) (AS.start xs)) : ACalls Tryd.prog 14 xs r :=
  acalls_of Tryd.func14 rfl tr_R_LamEnd rfl hn h
theorem acS_R_LamEnd {xs : List AV} {S S' : AStore} {r : AV} (hn : xs.length ≤ 27) (h : Clean S → ∀ C : Ctx, C.n = 27 → IWP Tryd.prog C [] ir_R_LamEnd (FinS C [.cell 6 true 3, .t 7, .t 8] r S') (AS.startS xs S)) : ACallsS Tryd.prog 14 xs S r S' :=
  acallsS_of Tryd.func14 rfl tr_R_LamEnd rfl hn h

def ir_R_Uses : IR :=
  (.seq
  (.ops
  [.mk (some 2) none (.box 24 (.t 0)) .no, .mk (some 4) none (.mov (.c (.one (.st (.int .i64 0)))))
  .no])
  (.seq
  (.seq
  (.ops
  [.mk (some 7) none (.fieldAddr 0 (.t 2)) .no, .mk (some 8) none (.load false 1 (.t 7)) .no, .mk (some 9) none (.bin .eql (.t 8) (.c (.one (.st (.int .i64 1)))))
  .no])
  (.cond (.t 9)
  (.seq
  (.seq
  (.ops
  [.mk (some 10) none (.fieldAddr 1 (.t 2)) .no, .mk (some 11) none (.load false 1 (.t 10)) .no, .mk (some 12) none (.mov (.t 1)) .no, .mk (some 13) none (.bin .eql (.t 11) (.t 12))
  .no])
  (.cond (.t 13)
  (.seq
  (.ops
  [.mk (some 4) none (.mov (.c (.one (.st (.int .i64 1)))))
  .no])
  .ret)
  .skip))
  (.seq
  (.ops
  [.mk (some 4) none (.mov (.c (.one (.st (.int .i64 0)))))
  .no])
  .ret))
  .skip))
  (.seq
  (.seq
  (.ops
  [.mk (some 14) none (.fieldAddr 0 (.t 2)) .no, .mk (some 15) none (.load false 1 (.t 14)) .no, .mk (some 16) none (.bin .eql (.t 15) (.c (.one (.st (.int .i64 2)))))
  .no])
  (.cond (.t 16)
  (.ops
  [.mk (some 17) none (.mov (.t 1)) .no, .mk (some 18) none (.bin .add (.t 17) (.c (.one (.st (.int .i64 1)))))
  .no, .mk (some 1) none (.mov (.t 18)) .no])
  .skip))
  (.seq
  (.ops
  [.mk (some 5) none (.mov (.c (.one (.st (.int .i64 0)))))
  .no])
  (.seq
  (.seq
  (.ops
  [.mk (some 6) none (.mov (.c (.one (.st (.int .i64 0)))))
  .no])
  (.block 0
  (.loop
  (.seq
  (.seq
  (.ops
  [.mk (some 19) none (.mov (.t 6)) .no, .mk (some 20) none (.fieldAddr 2 (.t 2)) .no, .mk (some 21) none (.load false 1 (.t 20)) .no, .mk (some 22) none (.len false (.t 21)) .no, .mk (some 23) none (.bin .lss (.t 19) (.t 22))
  .no])
  (.cond (.t 23) .skip (.exit 0)))
  (.seq
  (.block 1
  (.ops
  [.mk (some 26) none (.mov (.t 5)) .no, .mk (some 27) none (.fieldAddr 2 (.t 2)) .no, .mk (some 28) none (.load false 1 (.t 27)) .no, .mk (some 29) none (.mov (.t 6)) .no, .mk (some 30) none (.indexAddr 3 (.t 28) (.t 29))
  .no, .mk (some 31) none (.load true 3 (.t 30)) .no, .mk (some 32) none (.mov (.t 1)) .no, .mk (some 33) none (.call 36 [.t 31, .t 32])
  .no, .mk (some 34) none (.bin .add (.t 26) (.t 33)) .no, .mk (some 5) none (.mov (.t 34)) .no]))
  (.ops
  [.mk (some 24) none (.mov (.t 6)) .no, .mk (some 25) none (.bin .add (.t 24) (.c (.one (.st (.int .i64 1)))))
  .no, .mk (some 6) none (.mov (.t 25)) .no]))))))
  (.seq
  (.ops
  [.mk (some 35) none (.mov (.t 5)) .no, .mk (some 4) none (.mov (.t 35)) .no])
  .ret))))))
theorem tr_R_Uses : trCode Tryd.prog 36 [] (Tryd.f36.body.getD .skip) = some ir_R_Uses := by kernel_rfl
theorem ac_R_Uses {xs : List AV} {r : AV} (hn : xs.length ≤ 36) (h : ∀ C : Ctx, C.n = 36 → IWP Tryd.prog C [] ir_R_Uses (FinQ [.t 4] r) (AS.start xs)) : ACalls Tryd.prog 36 xs r :=
  acalls_of Tryd.func36 rfl tr_R_Uses rfl hn h
theorem acS_R_Uses {xs : List AV} {S S' : AStore} {r : AV} (hn : xs.length ≤ 36) (h : Clean S → ∀ C : Ctx, C.n = 36 → IWP Tryd.prog C [] ir_R_Uses (FinS C [.t 4] r S') (AS.startS xs S)) : ACallsS Tryd.prog 36 xs S r S' :=
  acallsS_of Tryd.func36 rfl tr_R_Uses rfl hn h

def ir_R_EtaOf : IR :=
  (.seq
  (.ops
  [.mk (some 1) none (.box 24 (.t 0)) .no, .mk (some 2) none
  (.alloc 24
  [.st (.int .i64 0), .st (.int .i64 0),
  .full []])
  .no])
  (.seq
  (.ops
  [.mk (some 6) none (.fieldAddr 0 (.t 1)) .no, .mk (some 7) none (.load false 1 (.t 6)) .no, .mk (some 8) none (.fieldAddr 1 (.t 1)) .no, .mk (some 9) none (.load false 1 (.t 8)) .no, .mk (some 10) none
  (.build
  [.st (.int .i64 0), .st (.int .i64 0),
  .full []]
  [(0, 1, .t 7), (1, 1, .t 9)])
  .no, .mk (some 3) none
  (.alloc 24
  [.st (.int .i64 0), .st (.int .i64 0),
  .full []])
  .no, .mk none none (.store 3 (.t 3) (.t 10))
  .no])
  (.seq
  (.seq
  (.ops
  [.mk (some 4) none (.mov (.c (.one (.st (.int .i64 0)))))
  .no])
  (.block 0
  (.loop
  (.seq
  (.seq
  (.ops
  [.mk (some 11) none (.mov (.t 4)) .no, .mk (some 12) none (.fieldAddr 2 (.t 1)) .no, .mk (some 13) none (.load false 1 (.t 12)) .no, .mk (some 14) none (.len false (.t 13)) .no, .mk (some 15) none (.bin .lss (.t 11) (.t 14))
  .no])
  (.cond (.t 15) .skip (.exit 0)))
  (.seq
  (.block 1
  (.ops
  [.mk (some 18) none (.fieldAddr 2 (.t 3)) .no, .mk (some 19) none (.load false 1 (.t 18)) .no, .mk (some 20) none (.fieldAddr 2 (.t 1)) .no, .mk (some 21) none (.load false 1 (.t 20)) .no, .mk (some 22) none (.mov (.t 4)) .no, .mk (some 23) none (.indexAddr 3 (.t 21) (.t 22))
  .no, .mk (some 24) none (.load true 3 (.t 23)) .no, .mk (some 25) none (.call 18 [.t 24]) .no, .mk (some 26) none (.buildSlice false 24 3 [.t 25])
  .no, .mk (some 27) none
  (.append false 24 3 40 (.t 19) (.t 26)) .no, .mk (some 28) none (.fieldAddr 2 (.t 3)) .no, .mk none none (.store 1 (.t 28) (.t 27))
  .no]))
  (.ops
  [.mk (some 16) none (.mov (.t 4)) .no, .mk (some 17) none (.bin .add (.t 16) (.c (.one (.st (.int .i64 1)))))
  .no, .mk (some 4) none (.mov (.t 17)) .no]))))))
  (.seq
  (.seq
  (.ops
  [.mk (some 29) none (.fieldAddr 0 (.t 1)) .no, .mk (some 30) none (.load false 1 (.t 29)) .no, .mk (some 31) none (.bin .neq (.t 30) (.c (.one (.st (.int .i64 2)))))
  .no])
  (.cond (.t 31)
  (.seq
  (.ops
  [.mk (some 32) none (.load true 3 (.t 3)) .no, .mk none none (.store 3 (.t 2) (.t 32))
  .no])
  .ret)
  .skip))
  (.seq
  (.ops
  [.mk (some 33) none (.fieldAddr 2 (.t 3)) .no, .mk (some 34) none (.load false 1 (.t 33)) .no, .mk (some 35) none
  (.indexAddr 3 (.t 34) (.c (.one (.st (.int .i64 0)))))
  .no, .mk (some 36) none (.load true 3 (.t 35)) .no, .mk (some 5) none
  (.alloc 24
  [.st (.int .i64 0), .st (.int .i64 0),
  .full []])
  .no, .mk none none (.store 3 (.t 5) (.t 36))
  .no])
  (.seq
  (.seq
  (.ops
  [.mk (some 37) none (.fieldAddr 0 (.t 5)) .no, .mk (some 38) none (.load false 1 (.t 37)) .no, .mk (some 39) none (.bin .eql (.t 38) (.c (.one (.st (.int .i64 3)))))
  .no, .mk (some 40) none (.mov (.t 39)) .no, .mk (some 41) (some (40, true)) (.fieldAddr 2 (.t 5))
  .no, .mk (some 42) (some (40, true)) (.load false 1 (.t 41))
  .no, .mk (some 43) (some (40, true))
  (.indexAddr 3 (.t 42) (.c (.one (.st (.int .i64 1)))))
  .no, .mk (some 44) (some (40, true)) (.load true 3 (.t 43))
  .no, .mk (some 45) (some (40, true)) (.call 29
  [.c (.one (.st (.int .i64 0)))])
  .no, .mk (some 46) (some (40, true)) (.call 25 [.t 44, .t 45]) .no, .mk (some 47) none
  (.pick (.t 40) (.t 46) (.c (.one (.st (.bool false)))))
  .no, .mk (some 48) none (.mov (.t 47)) .no, .mk (some 49) (some (48, true)) (.fieldAddr 2 (.t 5))
  .no, .mk (some 50) (some (48, true)) (.load false 1 (.t 49))
  .no, .mk (some 51) (some (48, true))
  (.indexAddr 3 (.t 50) (.c (.one (.st (.int .i64 0)))))
  .no, .mk (some 52) (some (48, true)) (.load true 3 (.t 51))
  .no, .mk (some 53) (some (48, true)) (.call 36
  [.t 52, .c (.one (.st (.int .i64 0)))])
  .no, .mk (some 54) (some (48, true)) (.bin .eql (.t 53) (.c (.one (.st (.int .i64 0)))))
  .no, .mk (some 55) none
  (.pick (.t 48) (.t 54) (.c (.one (.st (.bool false)))))
  .no])
  (.cond (.t 55)
  (.seq
  (.ops
  [.mk (some 56) none (.fieldAddr 2 (.t 5)) .no, .mk (some 57) none (.load false 1 (.t 56)) .no, .mk (some 58) none
  (.indexAddr 3 (.t 57) (.c (.one (.st (.int .i64 0)))))
  .no, .mk (some 59) none (.load true 3 (.t 58)) .no, .mk (some 60) none (.call 37
  [.t 59, .c (.one (.st (.int .i64 (-1)))), .c (.one (.st (.int .i64 0)))])
  .no, .mk none none (.store 3 (.t 2) (.t 60))
  .no])
  .ret)
  .skip))
  (.seq
  (.ops
  [.mk (some 61) none (.load true 3 (.t 3)) .no, .mk none none (.store 3 (.t 2) (.t 61))
  .no])
  .ret)))))))
theorem tr_R_EtaOf : trCode Tryd.prog 62 [] (Tryd.f18.body.getD .skip) = some ir_R_EtaOf := by kernel_rfl
theorem ac_R_EtaOf {xs : List AV} {r : AV} (hn : xs.length ≤ 62) (h : ∀ C : Ctx, C.n = 62 → IWP Tryd.prog C [] ir_R_EtaOf (FinQ [.cell 2 true 3] r) (AS.start xs)) : ACalls Tryd.prog 18 xs r :=
  acalls_of Tryd.func18 rfl tr_R_EtaOf rfl hn h
theorem acS_R_EtaOf {xs : List AV} {S S' : AStore} {r : AV} (hn : xs.length ≤ 62) (h : Clean S → ∀ C : Ctx, C.n = 62 → IWP Tryd.prog C [] ir_R_EtaOf (FinS C [.cell 2 true 3] r S') (AS.startS xs S)) : ACallsS Tryd.prog 18 xs S r S' :=
  acallsS_of Tryd.func18 rfl tr_R_EtaOf rfl hn h

end Go.Proofs.YtkjbaabkaboaoaaDoor
