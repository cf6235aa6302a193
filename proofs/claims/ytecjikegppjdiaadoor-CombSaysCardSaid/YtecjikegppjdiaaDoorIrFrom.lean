/-
  The program's functions in abstract operations: written by a program of mine out of the translation; each is shown to be the translation's.
  Conditions: none.
-/
import Derived.Test.YtecjikegppjdiaaDoorBComb
namespace Go.Proofs.YtecjikegppjdiaaDoor
open Go Go.RowKit
set_option maxRecDepth 100000

def ir_comb_name : IR :=
  (.seq
  (.ops
  [.mk (some 2) none
  (.alloc 24 [.st (.str (ByteArray.mk (#[]))), .full []])
  .no])
  (.seq
  (.ops
  [.mk (some 3) none (.mov (.t 0)) .no, .mk (some 4) none
  (.build [.st (.str (ByteArray.mk (#[]))), .full []]
  [(0, 1, .t 3)])
  .no, .mk none none (.store 2 (.t 2) (.t 4))
  .no])
  .ret))
theorem tr_comb_name : trCode Tryd.prog 5 [] (Tryd.f43.body.getD .skip) = some ir_comb_name := by kernel_rfl
theorem ac_comb_name {xs : List AV} {r : AV} (hn : xs.length ≤ 5) (h : ∀ C : Ctx, C.n = 5 → IWP Tryd.prog C [] ir_comb_name (FinQ [.cell 2 true 2] r) (AS.start xs)) : ACalls Tryd.prog 43 xs r :=
  acalls_of Tryd.func43 rfl tr_comb_name rfl hn h
theorem acS_comb_name {xs : List AV} {S S' : AStore} {r : AV} (hn : xs.length ≤ 5) (h : Clean S → ∀ C : Ctx, C.n = 5 → IWP Tryd.prog C [] ir_comb_name (FinS C [.cell 2 true 2] r S') (AS.startS xs S)) : ACallsS Tryd.prog 43 xs S r S' :=
  acallsS_of Tryd.func43 rfl tr_comb_name rfl hn h

def ir_R_Leaf : IR :=
  (.seq
  (.ops
  [.mk (some 2) none
  (.alloc 24 [.st (.str (ByteArray.mk (#[]))), .full []])
  .no])
  (.seq
  (.ops
  [.mk (some 3) none (.mov (.t 0)) .no, .mk (some 4) none
  (.build [.st (.str (ByteArray.mk (#[]))), .full []]
  [(0, 1, .t 3)])
  .no, .mk none none (.store 2 (.t 2) (.t 4))
  .no])
  .ret))
theorem tr_R_Leaf : trCode Tryd.prog 5 [] (Tryd.f22.body.getD .skip) = some ir_R_Leaf := by kernel_rfl
theorem ac_R_Leaf {xs : List AV} {r : AV} (hn : xs.length ≤ 5) (h : ∀ C : Ctx, C.n = 5 → IWP Tryd.prog C [] ir_R_Leaf (FinQ [.cell 2 true 2] r) (AS.start xs)) : ACalls Tryd.prog 22 xs r :=
  acalls_of Tryd.func22 rfl tr_R_Leaf rfl hn h
theorem acS_R_Leaf {xs : List AV} {S S' : AStore} {r : AV} (hn : xs.length ≤ 5) (h : Clean S → ∀ C : Ctx, C.n = 5 → IWP Tryd.prog C [] ir_R_Leaf (FinS C [.cell 2 true 2] r S') (AS.startS xs S)) : ACallsS Tryd.prog 22 xs S r S' :=
  acallsS_of Tryd.func22 rfl tr_R_Leaf rfl hn h

def ir_comb_has : IR :=
  (.seq
  (.ops
  [.mk (some 2) none (.box 24 (.t 0)) .no, .mk (some 3) none (.box 9 (.t 1)) .no, .mk (some 4) none (.mov (.c (.one (.st (.bool false)))))
  .no])
  (.seq
  (.ops
  [.mk (some 5) none (.fieldAddr 0 (.t 2)) .no, .mk (some 6) none (.load false 1 (.t 5)) .no, .mk (some 7) none (.load false 1 (.t 3)) .no, .mk (some 8) none (.bin .eql (.t 6) (.t 7))
  .no, .mk (some 9) none (.mov (.t 8)) .no, .mk (some 10) (some (9, false)) (.fieldAddr 1 (.t 2)) .no, .mk (some 11) (some (9, false)) (.load false 1 (.t 10)) .no, .mk (some 12) (some (9, false)) (.makeFunc 53 [.t 3]) .no, .mk (some 13) (some (9, false)) (.callS 52 [.t 11, .t 12])
  .no, .mk (some 14) none
  (.pick (.t 9) (.c (.one (.st (.bool true)))) (.t 13))
  .no, .mk (some 4) none (.mov (.t 14)) .no])
  .ret))
theorem tr_comb_has : trCode Tryd.prog 15 [13] (Tryd.f41.body.getD .skip) = some ir_comb_has := by kernel_rfl
theorem ac_comb_has {xs : List AV} {r : AV} (hn : xs.length ≤ 15) (h : ∀ C : Ctx, C.n = 15 → IWP Tryd.prog C [13] ir_comb_has (FinQ [.t 4] r) (AS.start xs)) : ACalls Tryd.prog 41 xs r :=
  acalls_of Tryd.func41 rfl tr_comb_has rfl hn h
theorem acS_comb_has {xs : List AV} {S S' : AStore} {r : AV} (hn : xs.length ≤ 15) (h : Clean S → ∀ C : Ctx, C.n = 15 → IWP Tryd.prog C [13] ir_comb_has (FinS C [.t 4] r S') (AS.startS xs S)) : ACallsS Tryd.prog 41 xs S r S' :=
  acallsS_of Tryd.func41 rfl tr_comb_has rfl hn h

def ir_comb_has_1 : IR :=
  (.seq
  (.ops
  [.mk (some 2) none (.box 24 (.t 0)) .no, .mk (some 3) none (.mov (.c (.one (.st (.bool false)))))
  .no])
  (.seq
  (.ops
  [.mk (some 4) none (.load true 2 (.t 2)) .no, .mk (some 5) none (.load false 1 (.t 1)) .no, .mk (some 6) none (.call 41 [.t 4, .t 5])
  .no, .mk (some 3) none (.mov (.t 6)) .no])
  .ret))
theorem tr_comb_has_1 : trCode Tryd.prog 7 [] (Tryd.f53.body.getD .skip) = some ir_comb_has_1 := by kernel_rfl
theorem ac_comb_has_1 {xs : List AV} {r : AV} (hn : xs.length ≤ 7) (h : ∀ C : Ctx, C.n = 7 → IWP Tryd.prog C [] ir_comb_has_1 (FinQ [.t 3] r) (AS.start xs)) : ACalls Tryd.prog 53 xs r :=
  acalls_of Tryd.func53 rfl tr_comb_has_1 rfl hn h
theorem acS_comb_has_1 {xs : List AV} {S S' : AStore} {r : AV} (hn : xs.length ≤ 7) (h : Clean S → ∀ C : Ctx, C.n = 7 → IWP Tryd.prog C [] ir_comb_has_1 (FinS C [.t 3] r S') (AS.startS xs S)) : ACallsS Tryd.prog 53 xs S r S' :=
  acallsS_of Tryd.func53 rfl tr_comb_has_1 rfl hn h

def ir_slices_ContainsFunc_metaprune_api_Term_metaprune_api_Term : IR :=
  (.seq
  (.ops
  [.mk (some 4) none (.mov (.c (.one (.st (.bool false)))))
  .no])
  (.seq
  (.ops
  [.mk (some 5) none (.mov (.t 0)) .no, .mk (some 6) none (.mov (.t 1)) .no, .mk (some 7) none (.callS 59 [.t 5, .t 6])
  .no, .mk (some 8) none (.bin .geq (.t 7) (.c (.one (.st (.int .i64 0)))))
  .no, .mk (some 4) none (.mov (.t 8)) .no])
  .ret))
theorem tr_slices_ContainsFunc_metaprune_api_Term_metaprune_api_Term : trCode Tryd.prog 9 [7] (Tryd.f52.body.getD .skip) = some ir_slices_ContainsFunc_metaprune_api_Term_metaprune_api_Term := by kernel_rfl
theorem ac_slices_ContainsFunc_metaprune_api_Term_metaprune_api_Term {xs : List AV} {r : AV} (hn : xs.length ≤ 9) (h : ∀ C : Ctx, C.n = 9 → IWP Tryd.prog C [7] ir_slices_ContainsFunc_metaprune_api_Term_metaprune_api_Term (FinQ [.t 4] r) (AS.start xs)) : ACalls Tryd.prog 52 xs r :=
  acalls_of Tryd.func52 rfl tr_slices_ContainsFunc_metaprune_api_Term_metaprune_api_Term rfl hn h
theorem acS_slices_ContainsFunc_metaprune_api_Term_metaprune_api_Term {xs : List AV} {S S' : AStore} {r : AV} (hn : xs.length ≤ 9) (h : Clean S → ∀ C : Ctx, C.n = 9 → IWP Tryd.prog C [7] ir_slices_ContainsFunc_metaprune_api_Term_metaprune_api_Term (FinS C [.t 4] r S') (AS.startS xs S)) : ACallsS Tryd.prog 52 xs S r S' :=
  acallsS_of Tryd.func52 rfl tr_slices_ContainsFunc_metaprune_api_Term_metaprune_api_Term rfl hn h

def ir_slices_IndexFunc_metaprune_api_Term_metaprune_api_Term : IR :=
  (.seq
  (.ops
  [.mk (some 4) none (.mov (.c (.one (.st (.int .i64 0)))))
  .no])
  (.seq
  (.seq
  (.ops
  [.mk (some 6) none (.mov (.t 0)) .no, .mk (some 7) none (.len false (.t 6)) .no, .mk (some 8) none (.mov (.c (.one (.st (.int .i64 0)))))
  .no])
  (.block 0
  (.loop
  (.seq
  (.ops
  [.mk (some 9) none (.bin .lss (.t 8) (.t 7))
  .no])
  (.seq (.cond (.t 9) .skip (.exit 0))
  (.seq
  (.block 1
  (.seq
  (.ops
  [.mk (some 10) none (.mov (.t 8)) .no, .mk (some 5) none (.mov (.t 10)) .no])
  (.seq
  (.ops
  [.mk (some 11) none (.mov (.t 1)) .no, .mk (some 12) none (.mov (.t 0)) .no, .mk (some 13) none (.mov (.t 5)) .no, .mk (some 14) none (.indexAddr 2 (.t 12) (.t 13))
  .no, .mk (some 15) none (.load true 2 (.t 14)) .no, .mk (some 16) none (.callV (.t 11) [.t 15])
  .no])
  (.cond (.t 16)
  (.seq
  (.ops
  [.mk (some 17) none (.mov (.t 5)) .no, .mk (some 4) none (.mov (.t 17)) .no])
  .ret)
  .skip))))
  (.ops
  [.mk (some 18) none (.bin .add (.t 8) (.c (.one (.st (.int .i64 1)))))
  .no, .mk (some 8) none (.mov (.t 18)) .no])))))))
  (.seq
  (.ops
  [.mk (some 4) none (.mov (.c (.one (.st (.int .i64 (-1))))))
  .no])
  .ret)))
theorem tr_slices_IndexFunc_metaprune_api_Term_metaprune_api_Term : trCode Tryd.prog 19 [] (Tryd.f59.body.getD .skip) = some ir_slices_IndexFunc_metaprune_api_Term_metaprune_api_Term := by kernel_rfl
theorem ac_slices_IndexFunc_metaprune_api_Term_metaprune_api_Term {xs : List AV} {r : AV} (hn : xs.length ≤ 19) (h : ∀ C : Ctx, C.n = 19 → IWP Tryd.prog C [] ir_slices_IndexFunc_metaprune_api_Term_metaprune_api_Term (FinQ [.t 4] r) (AS.start xs)) : ACalls Tryd.prog 59 xs r :=
  acalls_of Tryd.func59 rfl tr_slices_IndexFunc_metaprune_api_Term_metaprune_api_Term rfl hn h
theorem acS_slices_IndexFunc_metaprune_api_Term_metaprune_api_Term {xs : List AV} {S S' : AStore} {r : AV} (hn : xs.length ≤ 19) (h : Clean S → ∀ C : Ctx, C.n = 19 → IWP Tryd.prog C [] ir_slices_IndexFunc_metaprune_api_Term_metaprune_api_Term (FinS C [.t 4] r S') (AS.startS xs S)) : ACallsS Tryd.prog 59 xs S r S' :=
  acallsS_of Tryd.func59 rfl tr_slices_IndexFunc_metaprune_api_Term_metaprune_api_Term rfl hn h

def ir_comb_without : IR :=
  (.seq
  (.ops
  [.mk (some 3) none (.box 24 (.t 1)) .no, .mk (some 4) none
  (.alloc 24 [.st (.str (ByteArray.mk (#[]))), .full []])
  .no])
  (.seq
  (.block 0
  (.seq
  (.ops
  [.mk (some 6) none (.load true 2 (.t 3)) .no, .mk (some 7) none (.mov (.t 0)) .no, .mk (some 8) none (.call 41 [.t 6, .t 7])
  .no, .mk (some 9) none (.un .not (.t 8)) .no, .mk (some 5) none (.mov (.t 9)) .no])
  (.cond (.t 5)
  (.seq
  (.ops
  [.mk (some 10) none (.call 43
  [.c (.one (.st (.str (ByteArray.mk (#[107])))))])
  .no, .mk (some 11) none (.load true 2 (.t 3)) .no, .mk (some 12) none (.call 42 [.t 10, .t 11])
  .no, .mk none none (.store 2 (.t 4) (.t 12))
  .no])
  .ret)
  (.seq
  (.ops
  [.mk (some 14) none (.fieldAddr 0 (.t 3)) .no, .mk (some 15) none (.load false 1 (.t 14)) .no, .mk (some 16) none (.mov (.t 0)) .no, .mk (some 17) none (.bin .eql (.t 15) (.t 16))
  .no, .mk (some 13) none (.mov (.t 17)) .no])
  (.cond (.t 13)
  (.seq
  (.ops
  [.mk (some 18) none (.call 43
  [.c (.one (.st (.str (ByteArray.mk (#[105])))))])
  .no, .mk none none (.store 2 (.t 4) (.t 18))
  .no])
  .ret)
  (.seq
  (.ops
  [.mk (some 20) none (.fieldAddr 1 (.t 3)) .no, .mk (some 21) none (.load false 1 (.t 20)) .no, .mk (some 22) none
  (.indexAddr 2 (.t 21) (.c (.one (.st (.int .i64 1)))))
  .no, .mk (some 23) none (.fieldAddr 0 (.t 22)) .no, .mk (some 24) none (.load false 1 (.t 23)) .no, .mk (some 25) none (.mov (.t 0)) .no, .mk (some 26) none (.bin .eql (.t 24) (.t 25))
  .no, .mk (some 27) none (.mov (.t 26)) .no, .mk (some 28) (some (27, true)) (.fieldAddr 1 (.t 3))
  .no, .mk (some 29) (some (27, true)) (.load false 1 (.t 28))
  .no, .mk (some 30) (some (27, true))
  (.indexAddr 2 (.t 29) (.c (.one (.st (.int .i64 0)))))
  .no, .mk (some 31) (some (27, true)) (.load true 2 (.t 30))
  .no, .mk (some 32) (some (27, true)) (.mov (.t 0)) .no, .mk (some 33) (some (27, true)) (.call 41 [.t 31, .t 32]) .no, .mk (some 34) (some (27, true)) (.un .not (.t 33))
  .no, .mk (some 35) none
  (.pick (.t 27) (.t 34) (.c (.one (.st (.bool false)))))
  .no, .mk (some 19) none (.mov (.t 35)) .no])
  (.cond (.t 19)
  (.seq
  (.ops
  [.mk (some 36) none (.fieldAddr 1 (.t 3)) .no, .mk (some 37) none (.load false 1 (.t 36)) .no, .mk (some 38) none
  (.indexAddr 2 (.t 37) (.c (.one (.st (.int .i64 0)))))
  .no, .mk (some 39) none (.load true 2 (.t 38)) .no, .mk none none (.store 2 (.t 4) (.t 39))
  .no])
  .ret)
  .skip)))))))
  (.seq
  (.ops
  [.mk (some 40) none (.call 43
  [.c (.one (.st (.str (ByteArray.mk (#[115])))))])
  .no, .mk (some 41) none (.mov (.t 0)) .no, .mk (some 42) none (.fieldAddr 1 (.t 3)) .no, .mk (some 43) none (.load false 1 (.t 42)) .no, .mk (some 44) none
  (.indexAddr 2 (.t 43) (.c (.one (.st (.int .i64 0)))))
  .no, .mk (some 45) none (.load true 2 (.t 44)) .no, .mk (some 46) none (.call 26 [.t 41, .t 45])
  .no, .mk (some 47) none (.call 42 [.t 40, .t 46])
  .no, .mk (some 48) none (.mov (.t 0)) .no, .mk (some 49) none (.fieldAddr 1 (.t 3)) .no, .mk (some 50) none (.load false 1 (.t 49)) .no, .mk (some 51) none
  (.indexAddr 2 (.t 50) (.c (.one (.st (.int .i64 1)))))
  .no, .mk (some 52) none (.load true 2 (.t 51)) .no, .mk (some 53) none (.call 26 [.t 48, .t 52])
  .no, .mk (some 54) none (.call 42 [.t 47, .t 53])
  .no, .mk none none (.store 2 (.t 4) (.t 54))
  .no])
  .ret)))
theorem tr_comb_without : trCode Tryd.prog 55 [] (Tryd.f26.body.getD .skip) = some ir_comb_without := by kernel_rfl
theorem ac_comb_without {xs : List AV} {r : AV} (hn : xs.length ≤ 55) (h : ∀ C : Ctx, C.n = 55 → IWP Tryd.prog C [] ir_comb_without (FinQ [.cell 4 true 2] r) (AS.start xs)) : ACalls Tryd.prog 26 xs r :=
  acalls_of Tryd.func26 rfl tr_comb_without rfl hn h
theorem acS_comb_without {xs : List AV} {S S' : AStore} {r : AV} (hn : xs.length ≤ 55) (h : Clean S → ∀ C : Ctx, C.n = 55 → IWP Tryd.prog C [] ir_comb_without (FinS C [.cell 4 true 2] r S') (AS.startS xs S)) : ACallsS Tryd.prog 26 xs S r S' :=
  acallsS_of Tryd.func26 rfl tr_comb_without rfl hn h

def ir_comb_fit : IR :=
  (.seq
  (.ops
  [.mk (some 1) none (.box 24 (.t 0)) .no, .mk (some 2) none
  (.alloc 24 [.st (.str (ByteArray.mk (#[]))), .full []])
  .no, .mk (some 3) none (.mov (.c (.one (.st (.int .i64 0)))))
  .no])
  (.seq
  (.seq
  (.ops
  [.mk (some 4) none (.load true 2 (.t 1)) .no, .mk (some 5) none (.call 39 [.t 4]) .no, .mk (some 6) none (.bin .gtr (.t 5) (.c (.one (.st (.int .i64 2000)))))
  .no])
  (.cond (.t 6)
  (.seq
  (.ops
  [.mk (some 7) none
  (.build [.st (.str (ByteArray.mk (#[]))), .full []] [])
  .no, .mk none none (.store 2 (.t 2) (.t 7))
  .no, .mk (some 3) none (.mov (.c (.one (.st (.int .i64 8)))))
  .no])
  .ret)
  .skip))
  (.seq
  (.ops
  [.mk (some 8) none (.load true 2 (.t 1)) .no, .mk (some 9) none (.call 40 [.t 8]) .no, .mk none none (.store 2 (.t 2) (.t 9))
  .no, .mk (some 3) none (.mov (.c (.one (.st (.int .i64 0)))))
  .no])
  .ret)))
theorem tr_comb_fit : trCode Tryd.prog 10 [] (Tryd.f25.body.getD .skip) = some ir_comb_fit := by kernel_rfl
theorem ac_comb_fit {xs : List AV} {r : AV} (hn : xs.length ≤ 10) (h : ∀ C : Ctx, C.n = 10 → IWP Tryd.prog C [] ir_comb_fit (FinQ [.cell 2 true 2, .t 3] r) (AS.start xs)) : ACalls Tryd.prog 25 xs r :=
  acalls_of Tryd.func25 rfl tr_comb_fit rfl hn h
theorem acS_comb_fit {xs : List AV} {S S' : AStore} {r : AV} (hn : xs.length ≤ 10) (h : Clean S → ∀ C : Ctx, C.n = 10 → IWP Tryd.prog C [] ir_comb_fit (FinS C [.cell 2 true 2, .t 3] r S') (AS.startS xs S)) : ACallsS Tryd.prog 25 xs S r S' :=
  acallsS_of Tryd.func25 rfl tr_comb_fit rfl hn h

def ir_strconv_Itoa : IR :=
  (.seq
  (.ops
  [.mk (some 2) none (.mov (.c (.one (.st (.str (ByteArray.mk (#[])))))))
  .no])
  (.seq
  (.ops
  [.mk (some 3) none (.mov (.t 0)) .no, .mk (some 4) none (.call 58 [.t 3]) .no, .mk (some 2) none (.mov (.t 4)) .no])
  .ret))
theorem tr_strconv_Itoa : trCode Tryd.prog 5 [] (Tryd.f49.body.getD .skip) = some ir_strconv_Itoa := by kernel_rfl
theorem ac_strconv_Itoa {xs : List AV} {r : AV} (hn : xs.length ≤ 5) (h : ∀ C : Ctx, C.n = 5 → IWP Tryd.prog C [] ir_strconv_Itoa (FinQ [.t 2] r) (AS.start xs)) : ACalls Tryd.prog 49 xs r :=
  acalls_of Tryd.func49 rfl tr_strconv_Itoa rfl hn h
theorem acS_strconv_Itoa {xs : List AV} {S S' : AStore} {r : AV} (hn : xs.length ≤ 5) (h : Clean S → ∀ C : Ctx, C.n = 5 → IWP Tryd.prog C [] ir_strconv_Itoa (FinS C [.t 2] r S') (AS.startS xs S)) : ACallsS Tryd.prog 49 xs S r S' :=
  acallsS_of Tryd.func49 rfl tr_strconv_Itoa rfl hn h

def ir_internal_strconv_Itoa : IR :=
  (.seq
  (.ops
  [.mk (some 2) none (.mov (.c (.one (.st (.str (ByteArray.mk (#[])))))))
  .no])
  (.seq
  (.ops
  [.mk (some 3) none (.mov (.t 0)) .no, .mk (some 4) none (.call 65
  [.t 3, .c (.one (.st (.int .i64 10)))])
  .no, .mk (some 2) none (.mov (.t 4)) .no])
  .ret))
theorem tr_internal_strconv_Itoa : trCode Tryd.prog 5 [] (Tryd.f58.body.getD .skip) = some ir_internal_strconv_Itoa := by kernel_rfl
theorem ac_internal_strconv_Itoa {xs : List AV} {r : AV} (hn : xs.length ≤ 5) (h : ∀ C : Ctx, C.n = 5 → IWP Tryd.prog C [] ir_internal_strconv_Itoa (FinQ [.t 2] r) (AS.start xs)) : ACalls Tryd.prog 58 xs r :=
  acalls_of Tryd.func58 rfl tr_internal_strconv_Itoa rfl hn h
theorem acS_internal_strconv_Itoa {xs : List AV} {S S' : AStore} {r : AV} (hn : xs.length ≤ 5) (h : Clean S → ∀ C : Ctx, C.n = 5 → IWP Tryd.prog C [] ir_internal_strconv_Itoa (FinS C [.t 2] r S') (AS.startS xs S)) : ACallsS Tryd.prog 58 xs S r S' :=
  acallsS_of Tryd.func58 rfl tr_internal_strconv_Itoa rfl hn h

def ir_internal_strconv_FormatInt : IR :=
  (.seq
  (.ops
  [.mk (some 4) none (.mov (.c (.one (.st (.str (ByteArray.mk (#[])))))))
  .no])
  (.seq
  (.seq
  (.ops
  [.mk (some 10) none (.mov (.t 1)) .no, .mk (some 11) none (.bin .eql (.t 10) (.c (.one (.st (.int .i64 10)))))
  .no])
  (.cond (.t 11)
  (.seq
  (.seq
  (.ops
  [.mk (some 12) none (.mov (.t 0)) .no, .mk (some 13) none (.bin .leq (.c (.one (.st (.int .i64 0)))) (.t 12))
  .no, .mk (some 14) none (.mov (.t 13)) .no, .mk (some 15) (some (14, true)) (.mov (.t 0)) .no, .mk (some 16) (some (14, true)) (.bin .lss (.t 15) (.c (.one (.st (.int .i64 100)))))
  .no, .mk (some 17) none
  (.pick (.t 14) (.t 16) (.c (.one (.st (.bool false)))))
  .no])
  (.cond (.t 17)
  (.seq
  (.ops
  [.mk (some 18) none (.mov (.t 0)) .no, .mk (some 19) none (.call 69 [.t 18]) .no, .mk (some 4) none (.mov (.t 19)) .no])
  .ret)
  .skip))
  (.seq
  (.ops
  [.mk (some 5) none
  (.alloc 84
  [.st (.int .u8 0), .st (.int .u8 0), .st (.int .u8 0), .st (.int .u8 0), .st (.int .u8 0), .st (.int .u8 0), .st (.int .u8 0), .st (.int .u8 0), .st (.int .u8 0), .st (.int .u8 0), .st (.int .u8 0), .st (.int .u8 0), .st (.int .u8 0), .st (.int .u8 0), .st (.int .u8 0), .st (.int .u8 0), .st (.int .u8 0), .st (.int .u8 0), .st (.int .u8 0), .st (.int .u8 0), .st (.int .u8 0), .st (.int .u8 0), .st (.int .u8 0), .st (.int .u8 0)])
  .no])
  (.seq
  (.ops
  [.mk (some 20) none (.mov (.t 0)) .no, .mk (some 21) none (.conv .u64 (.t 20)) .no, .mk (some 6) none (.mov (.t 21)) .no])
  (.seq
  (.seq
  (.ops
  [.mk (some 22) none (.mov (.t 0)) .no, .mk (some 23) none (.bin .lss (.t 22) (.c (.one (.st (.int .i64 0)))))
  .no])
  (.cond (.t 23)
  (.ops
  [.mk (some 24) none (.mov (.t 6)) .no, .mk (some 25) none (.un .neg (.t 24)) .no, .mk (some 6) none (.mov (.t 25)) .no])
  .skip))
  (.seq
  (.ops
  [.mk (some 26) none (.mov (.t 6)) .no, .mk (some 27) none (.call 70 [.t 26]) .no, .mk (some 7) none (.mov (.t 27)) .no])
  (.seq
  (.ops
  [.mk (some 28) none (.mov (.t 7)) .no, .mk (some 29) none (.bin .add (.c (.one (.st (.int .i64 1)))) (.t 28))
  .no, .mk (some 30) none .never .no, .mk (some 31) none (.mov (.t 6)) .no, .mk (some 32) none (.call 71 [.t 30, .t 31])
  .no])
  (.seq
  (.seq
  (.ops
  [.mk (some 33) none (.mov (.t 0)) .no, .mk (some 34) none (.bin .lss (.t 33) (.c (.one (.st (.int .i64 0)))))
  .no])
  (.cond (.t 34)
  (.seq
  (.ops
  [.mk (some 35) none
  (.indexArr 24 1 (.t 5) (.c (.one (.st (.int .i64 0)))))
  .no, .mk none none (.store 1 (.t 35) (.c (.one (.st (.int .u8 45)))))
  .no])
  (.seq
  (.ops
  [.mk (some 36) none (.mov (.t 7)) .no, .mk (some 37) none (.bin .add (.c (.one (.st (.int .i64 1)))) (.t 36))
  .no, .mk (some 38) none .never .no, .mk (some 39) none (.strOf (.t 38)) .no, .mk (some 4) none (.mov (.t 39)) .no])
  .ret))
  .skip))
  (.seq
  (.ops
  [.mk (some 40) none (.mov (.t 7)) .no, .mk (some 41) none (.bin .add (.c (.one (.st (.int .i64 1)))) (.t 40))
  .no, .mk (some 42) none .never .no, .mk (some 43) none (.strOf (.t 42)) .no, .mk (some 4) none (.mov (.t 43)) .no])
  .ret))))))))
  .skip))
  (.seq
  (.ops
  [.mk (some 45) none (.mov (.t 0)) .no, .mk (some 46) none (.conv .u64 (.t 45)) .no, .mk (some 47) none (.mov (.t 1)) .no, .mk (some 48) none (.mov (.t 0)) .no, .mk (some 49) none (.bin .lss (.t 48) (.c (.one (.st (.int .i64 0)))))
  .no, .mk (some 50) none (.call 72
  [.c (.one (.full [])), .t 46, .t 47, .t 49, .c (.one (.st (.bool false)))])
  .no, .mk (some 44) none (.mov (.t 50)) .no, .mk (some 51) none (.extract 0 (.t 44)) .no, .mk (some 52) none (.extract 1 (.t 44)) .no, .mk (some 8) none (.mov (.t 51)) .no, .mk (some 9) none (.mov (.t 52)) .no])
  (.seq
  (.ops
  [.mk (some 53) none (.mov (.t 9)) .no, .mk (some 4) none (.mov (.t 53)) .no])
  .ret))))
theorem tr_internal_strconv_FormatInt : trCode Tryd.prog 54 [] (Tryd.f65.body.getD .skip) = some ir_internal_strconv_FormatInt := by kernel_rfl
theorem ac_internal_strconv_FormatInt {xs : List AV} {r : AV} (hn : xs.length ≤ 54) (h : ∀ C : Ctx, C.n = 54 → IWP Tryd.prog C [] ir_internal_strconv_FormatInt (FinQ [.t 4] r) (AS.start xs)) : ACalls Tryd.prog 65 xs r :=
  acalls_of Tryd.func65 rfl tr_internal_strconv_FormatInt rfl hn h
theorem acS_internal_strconv_FormatInt {xs : List AV} {S S' : AStore} {r : AV} (hn : xs.length ≤ 54) (h : Clean S → ∀ C : Ctx, C.n = 54 → IWP Tryd.prog C [] ir_internal_strconv_FormatInt (FinS C [.t 4] r S') (AS.startS xs S)) : ACallsS Tryd.prog 65 xs S r S' :=
  acallsS_of Tryd.func65 rfl tr_internal_strconv_FormatInt rfl hn h

def ir_internal_strconv_small : IR :=
  (.seq
  (.ops
  [.mk (some 2) none (.mov (.c (.one (.st (.str (ByteArray.mk (#[])))))))
  .no])
  (.seq
  (.seq
  (.ops
  [.mk (some 3) none (.mov (.t 0)) .no, .mk (some 4) none (.bin .lss (.t 3) (.c (.one (.st (.int .i64 10)))))
  .no])
  (.cond (.t 4)
  (.seq
  (.ops
  [.mk (some 5) none (.mov (.t 0)) .no, .mk (some 6) none (.mov (.t 0)) .no, .mk (some 7) none (.bin .add (.t 6) (.c (.one (.st (.int .i64 1)))))
  .no, .mk (some 8) none
  (.sliceS (.c (.one (.st (.str
  (ByteArray.mk (#[48, 49, 50, 51, 52, 53, 54, 55, 56, 57, 97, 98, 99, 100, 101, 102, 103, 104, 105, 106, 107, 108, 109, 110, 111, 112, 113, 114, 115, 116, 117, 118, 119, 120, 121, 122]))))))
  (some (.t 5)) (some (.t 7)))
  .no, .mk (some 2) none (.mov (.t 8)) .no])
  .ret)
  .skip))
  (.seq
  (.ops
  [.mk (some 9) none (.mov (.t 0)) .no, .mk (some 10) none (.bin .mul (.t 9) (.c (.one (.st (.int .i64 2)))))
  .no, .mk (some 11) none (.mov (.t 0)) .no, .mk (some 12) none (.bin .mul (.t 11) (.c (.one (.st (.int .i64 2)))))
  .no, .mk (some 13) none (.bin .add (.t 12) (.c (.one (.st (.int .i64 2)))))
  .no, .mk (some 14) none
  (.sliceS (.c (.one (.st (.str
  (ByteArray.mk
  (Array.mk
  [48, 48, 48, 49, 48, 50, 48, 51, 48, 52, 48, 53, 48, 54, 48, 55, 48, 56, 48, 57, 49, 48, 49, 49, 49, 50, 49, 51, 49, 52, 49, 53, 49, 54, 49, 55, 49, 56, 49, 57, 50, 48, 50, 49, 50, 50, 50, 51, 50, 52,
  50, 53, 50, 54, 50, 55, 50, 56, 50, 57, 51, 48, 51, 49, 51, 50, 51, 51, 51, 52, 51, 53, 51, 54, 51, 55, 51, 56, 51, 57, 52, 48, 52, 49, 52, 50, 52, 51, 52, 52, 52, 53, 52, 54, 52, 55, 52, 56, 52, 57,
  53, 48, 53, 49, 53, 50, 53, 51, 53, 52, 53, 53, 53, 54, 53, 55, 53, 56, 53, 57, 54, 48, 54, 49, 54, 50, 54, 51, 54, 52, 54, 53, 54, 54, 54, 55, 54, 56, 54, 57, 55, 48, 55, 49, 55, 50, 55, 51, 55, 52,
  55, 53, 55, 54, 55, 55, 55, 56, 55, 57, 56, 48, 56, 49, 56, 50, 56, 51, 56, 52, 56, 53, 56, 54, 56, 55, 56, 56, 56, 57, 57, 48, 57, 49, 57, 50, 57, 51, 57, 52, 57, 53, 57, 54, 57, 55, 57, 56, 57,
  57]))))))
  (some (.t 10)) (some (.t 13)))
  .no, .mk (some 2) none (.mov (.t 14)) .no])
  .ret)))
theorem tr_internal_strconv_small : trCode Tryd.prog 15 [] (Tryd.f69.body.getD .skip) = some ir_internal_strconv_small := by kernel_rfl
theorem ac_internal_strconv_small {xs : List AV} {r : AV} (hn : xs.length ≤ 15) (h : ∀ C : Ctx, C.n = 15 → IWP Tryd.prog C [] ir_internal_strconv_small (FinQ [.t 2] r) (AS.start xs)) : ACalls Tryd.prog 69 xs r :=
  acalls_of Tryd.func69 rfl tr_internal_strconv_small rfl hn h
theorem acS_internal_strconv_small {xs : List AV} {S S' : AStore} {r : AV} (hn : xs.length ≤ 15) (h : Clean S → ∀ C : Ctx, C.n = 15 → IWP Tryd.prog C [] ir_internal_strconv_small (FinS C [.t 2] r S') (AS.startS xs S)) : ACallsS Tryd.prog 69 xs S r S' :=
  acallsS_of Tryd.func69 rfl tr_internal_strconv_small rfl hn h

def ir_R_Often : IR :=
  (.seq
  (.ops
  [.mk (some 2) none (.box 24 (.t 0)) .no, .mk (some 4) none (.mov (.c (.one (.st (.int .i64 0)))))
  .no])
  (.seq
  (.ops
  [.mk (some 8) none (.load true 2 (.t 2)) .no, .mk (some 9) none (.call 18 [.t 8]) .no, .mk (some 5) none (.mov (.t 9)) .no])
  (.seq
  (.ops
  [.mk (some 6) none (.mov (.c (.one (.st (.int .i64 0)))))
  .no])
  (.seq
  (.seq
  (.ops
  [.mk (some 7) none (.mov (.c (.one (.st (.int .i64 0)))))
  .no])
  (.block 0
  (.loop
  (.seq
  (.seq
  (.ops
  [.mk (some 10) none (.mov (.t 7)) .no, .mk (some 11) none (.mov (.t 5)) .no, .mk (some 12) none (.len false (.t 11)) .no, .mk (some 13) none (.bin .lss (.t 10) (.t 12))
  .no])
  (.cond (.t 13) .skip (.exit 0)))
  (.seq
  (.block 1
  (.seq
  (.ops
  [.mk (some 16) none (.mov (.t 5)) .no, .mk (some 17) none (.mov (.t 7)) .no, .mk (some 18) none (.indexAddr 2 (.t 16) (.t 17))
  .no, .mk (some 19) none (.fieldAddr 0 (.t 18)) .no, .mk (some 20) none (.load false 1 (.t 19)) .no, .mk (some 21) none (.mov (.t 1)) .no, .mk (some 22) none (.bin .eql (.t 20) (.t 21)) .no])
  (.cond (.t 22)
  (.ops
  [.mk (some 23) none (.mov (.t 6)) .no, .mk (some 24) none (.bin .add (.t 23) (.c (.one (.st (.int .i64 1)))))
  .no, .mk (some 6) none (.mov (.t 24)) .no])
  .skip)))
  (.ops
  [.mk (some 14) none (.mov (.t 7)) .no, .mk (some 15) none (.bin .add (.t 14) (.c (.one (.st (.int .i64 1)))))
  .no, .mk (some 7) none (.mov (.t 15)) .no]))))))
  (.seq
  (.ops
  [.mk (some 25) none (.mov (.t 6)) .no, .mk (some 4) none (.mov (.t 25)) .no])
  .ret)))))
theorem tr_R_Often : trCode Tryd.prog 26 [] (Tryd.f20.body.getD .skip) = some ir_R_Often := by kernel_rfl
theorem ac_R_Often {xs : List AV} {r : AV} (hn : xs.length ≤ 26) (h : ∀ C : Ctx, C.n = 26 → IWP Tryd.prog C [] ir_R_Often (FinQ [.t 4] r) (AS.start xs)) : ACalls Tryd.prog 20 xs r :=
  acalls_of Tryd.func20 rfl tr_R_Often rfl hn h
theorem acS_R_Often {xs : List AV} {S S' : AStore} {r : AV} (hn : xs.length ≤ 26) (h : Clean S → ∀ C : Ctx, C.n = 26 → IWP Tryd.prog C [] ir_R_Often (FinS C [.t 4] r S') (AS.startS xs S)) : ACallsS Tryd.prog 20 xs S r S' :=
  acallsS_of Tryd.func20 rfl tr_R_Often rfl hn h

def ir_R_BracketOf : IR :=
  (.seq
  (.ops
  [.mk (some 3) none (.box 24 (.t 1)) .no, .mk (some 4) none
  (.alloc 24 [.st (.str (ByteArray.mk (#[]))), .full []])
  .no])
  (.seq
  (.seq
  (.ops
  [.mk (some 7) none (.load true 2 (.t 3)) .no, .mk (some 8) none (.mov (.t 0)) .no, .mk (some 9) none (.call 20 [.t 7, .t 8])
  .no, .mk (some 10) none (.bin .eql (.t 9) (.c (.one (.st (.int .i64 0)))))
  .no])
  (.cond (.t 10)
  (.seq
  (.ops
  [.mk (some 11) none (.call 22
  [.c (.one (.st (.str (ByteArray.mk (#[107])))))])
  .no, .mk (some 12) none (.load true 2 (.t 3)) .no, .mk (some 13) none (.call 21 [.t 11, .t 12])
  .no, .mk none none (.store 2 (.t 4) (.t 13))
  .no])
  .ret)
  .skip))
  (.seq
  (.seq
  (.ops
  [.mk (some 14) none (.fieldAddr 0 (.t 3)) .no, .mk (some 15) none (.load false 1 (.t 14)) .no, .mk (some 16) none (.mov (.t 0)) .no, .mk (some 17) none (.bin .eql (.t 15) (.t 16))
  .no])
  (.cond (.t 17)
  (.seq
  (.ops
  [.mk (some 18) none (.call 22
  [.c (.one (.st (.str (ByteArray.mk (#[105])))))])
  .no, .mk none none (.store 2 (.t 4) (.t 18))
  .no])
  .ret)
  .skip))
  (.seq
  (.ops
  [.mk (some 19) none (.fieldAddr 1 (.t 3)) .no, .mk (some 20) none (.load false 1 (.t 19)) .no, .mk (some 21) none
  (.indexAddr 2 (.t 20) (.c (.one (.st (.int .i64 0)))))
  .no, .mk (some 22) none (.load true 2 (.t 21)) .no, .mk (some 5) none
  (.alloc 24 [.st (.str (ByteArray.mk (#[]))), .full []])
  .no, .mk none none (.store 2 (.t 5) (.t 22))
  .no])
  (.seq
  (.ops
  [.mk (some 23) none (.fieldAddr 1 (.t 3)) .no, .mk (some 24) none (.load false 1 (.t 23)) .no, .mk (some 25) none
  (.indexAddr 2 (.t 24) (.c (.one (.st (.int .i64 1)))))
  .no, .mk (some 26) none (.load true 2 (.t 25)) .no, .mk (some 6) none
  (.alloc 24 [.st (.str (ByteArray.mk (#[]))), .full []])
  .no, .mk none none (.store 2 (.t 6) (.t 26))
  .no])
  (.seq
  (.seq
  (.ops
  [.mk (some 27) none (.fieldAddr 0 (.t 6)) .no, .mk (some 28) none (.load false 1 (.t 27)) .no, .mk (some 29) none (.mov (.t 0)) .no, .mk (some 30) none (.bin .eql (.t 28) (.t 29))
  .no, .mk (some 31) none (.mov (.t 30)) .no, .mk (some 32) (some (31, true)) (.load true 2 (.t 5))
  .no, .mk (some 33) (some (31, true)) (.mov (.t 0)) .no, .mk (some 34) (some (31, true)) (.call 20 [.t 32, .t 33]) .no, .mk (some 35) (some (31, true)) (.bin .eql (.t 34) (.c (.one (.st (.int .i64 0)))))
  .no, .mk (some 36) none
  (.pick (.t 31) (.t 35) (.c (.one (.st (.bool false)))))
  .no])
  (.cond (.t 36)
  (.seq
  (.ops
  [.mk (some 37) none (.load true 2 (.t 5)) .no, .mk none none (.store 2 (.t 4) (.t 37))
  .no])
  .ret)
  .skip))
  (.seq
  (.ops
  [.mk (some 38) none (.call 22
  [.c (.one (.st (.str (ByteArray.mk (#[115])))))])
  .no, .mk (some 39) none (.mov (.t 0)) .no, .mk (some 40) none (.load true 2 (.t 5)) .no, .mk (some 41) none (.call 8 [.t 39, .t 40])
  .no, .mk (some 42) none (.call 21 [.t 38, .t 41])
  .no, .mk (some 43) none (.mov (.t 0)) .no, .mk (some 44) none (.load true 2 (.t 6)) .no, .mk (some 45) none (.call 8 [.t 43, .t 44])
  .no, .mk (some 46) none (.call 21 [.t 42, .t 45])
  .no, .mk none none (.store 2 (.t 4) (.t 46))
  .no])
  .ret)))))))
theorem tr_R_BracketOf : trCode Tryd.prog 47 [] (Tryd.f8.body.getD .skip) = some ir_R_BracketOf := by kernel_rfl
theorem ac_R_BracketOf {xs : List AV} {r : AV} (hn : xs.length ≤ 47) (h : ∀ C : Ctx, C.n = 47 → IWP Tryd.prog C [] ir_R_BracketOf (FinQ [.cell 4 true 2] r) (AS.start xs)) : ACalls Tryd.prog 8 xs r :=
  acalls_of Tryd.func8 rfl tr_R_BracketOf rfl hn h
theorem acS_R_BracketOf {xs : List AV} {S S' : AStore} {r : AV} (hn : xs.length ≤ 47) (h : Clean S → ∀ C : Ctx, C.n = 47 → IWP Tryd.prog C [] ir_R_BracketOf (FinS C [.cell 4 true 2] r S') (AS.startS xs S)) : ACallsS Tryd.prog 8 xs S r S' :=
  acallsS_of Tryd.func8 rfl tr_R_BracketOf rfl hn h

def ir_R_Dec : IR :=
  (.seq
  (.ops
  [.mk (some 2) none (.mov (.c (.one (.st (.str (ByteArray.mk (#[])))))))
  .no])
  (.seq
  (.seq
  (.ops
  [.mk (some 3) none (.mov (.t 0)) .no, .mk (some 4) none (.bin .lss (.t 3) (.c (.one (.st (.int .i64 10)))))
  .no])
  (.cond (.t 4)
  (.seq
  (.ops
  [.mk (some 5) none (.mov (.t 0)) .no, .mk (some 6) none (.bin .add (.c (.one (.st (.int .i64 48)))) (.t 5))
  .no, .mk (some 7) none (.conv .u8 (.t 6)) .no, .mk (some 8) none (.buildSlice false 5 1 [.t 7]) .no, .mk (some 9) none (.strOf (.t 8)) .no, .mk (some 2) none (.mov (.t 9)) .no])
  .ret)
  .skip))
  (.seq
  (.ops
  [.mk (some 10) none (.mov (.t 0)) .no, .mk (some 11) none (.bin .quo (.t 10) (.c (.one (.st (.int .i64 10)))))
  .no, .mk (some 12) none (.call 46 [.t 11]) .no, .mk (some 13) none (.mov (.t 0)) .no, .mk (some 14) none (.bin .rem (.t 13) (.c (.one (.st (.int .i64 10)))))
  .no, .mk (some 15) none (.call 46 [.t 14]) .no, .mk (some 16) none (.bin .add (.t 12) (.t 15))
  .no, .mk (some 2) none (.mov (.t 16)) .no])
  .ret)))
theorem tr_R_Dec : trCode Tryd.prog 17 [] (Tryd.f46.body.getD .skip) = some ir_R_Dec := by kernel_rfl
theorem ac_R_Dec {xs : List AV} {r : AV} (hn : xs.length ≤ 17) (h : ∀ C : Ctx, C.n = 17 → IWP Tryd.prog C [] ir_R_Dec (FinQ [.t 2] r) (AS.start xs)) : ACalls Tryd.prog 46 xs r :=
  acalls_of Tryd.func46 rfl tr_R_Dec rfl hn h
theorem acS_R_Dec {xs : List AV} {S S' : AStore} {r : AV} (hn : xs.length ≤ 17) (h : Clean S → ∀ C : Ctx, C.n = 17 → IWP Tryd.prog C [] ir_R_Dec (FinS C [.t 2] r S') (AS.startS xs S)) : ACallsS Tryd.prog 46 xs S r S' :=
  acallsS_of Tryd.func46 rfl tr_R_Dec rfl hn h

end Go.Proofs.YtecjikegppjdiaaDoor
