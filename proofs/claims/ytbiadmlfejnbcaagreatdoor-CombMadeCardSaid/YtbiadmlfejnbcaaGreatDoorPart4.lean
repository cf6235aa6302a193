/-
  Part 4 of the texts: IrFrom; BFrom; BFrom2; IrLam; BLam; BLamMv; BLamPut; BFrom3; BFrom4; BAtoi. Conditions: none.
-/
import Derived.Test.YtbiadmlfejnbcaaGreatDoorPart3
import Derived.Lib.AppendIntMem
import Derived.Lib.ItoaLen
namespace Go.Proofs.YtbiadmlfejnbcaaGreatDoor
open Go Go.RowKit
set_option maxRecDepth 100000

def ir_comb_name : IR :=
  (.seq
  (.ops
  [.mk (some 2) none
  (.alloc 30 [.st (.str (ByteArray.mk (#[]))), .full []])
  .no])
  (.seq
  (.ops
  [.mk (some 3) none (.mov (.t 0)) .no, .mk (some 4) none
  (.build [.st (.str (ByteArray.mk (#[]))), .full []]
  [(0, 1, .t 3)])
  .no, .mk none none (.store 2 (.t 2) (.t 4))
  .no])
  .ret))
theorem tr_comb_name : trCode Tryz.prog 5 [] (Tryz.f60.body.getD .skip) = some ir_comb_name := by kernel_rfl
theorem ac_comb_name {xs : List AV} {r : AV} (hn : xs.length ≤ 5) (h : ∀ C : Ctx, C.n = 5 → IWP Tryz.prog C [] ir_comb_name (FinQ [.cell 2 true 2] r) (AS.start xs)) : ACalls Tryz.prog 60 xs r :=
  acalls_of Tryz.func60 rfl tr_comb_name rfl hn h
theorem acS_comb_name {xs : List AV} {S S' : AStore} {r : AV} (hn : xs.length ≤ 5) (h : Clean S → ∀ C : Ctx, C.n = 5 → IWP Tryz.prog C [] ir_comb_name (FinS C [.cell 2 true 2] r S') (AS.startS xs S)) : ACallsS Tryz.prog 60 xs S r S' :=
  acallsS_of Tryz.func60 rfl tr_comb_name rfl hn h

def ir_R_Leaf : IR :=
  (.seq
  (.ops
  [.mk (some 2) none
  (.alloc 30 [.st (.str (ByteArray.mk (#[]))), .full []])
  .no])
  (.seq
  (.ops
  [.mk (some 3) none (.mov (.t 0)) .no, .mk (some 4) none
  (.build [.st (.str (ByteArray.mk (#[]))), .full []]
  [(0, 1, .t 3)])
  .no, .mk none none (.store 2 (.t 2) (.t 4))
  .no])
  .ret))
theorem tr_R_Leaf : trCode Tryz.prog 5 [] (Tryz.f12.body.getD .skip) = some ir_R_Leaf := by kernel_rfl
theorem ac_R_Leaf {xs : List AV} {r : AV} (hn : xs.length ≤ 5) (h : ∀ C : Ctx, C.n = 5 → IWP Tryz.prog C [] ir_R_Leaf (FinQ [.cell 2 true 2] r) (AS.start xs)) : ACalls Tryz.prog 12 xs r :=
  acalls_of Tryz.func12 rfl tr_R_Leaf rfl hn h
theorem acS_R_Leaf {xs : List AV} {S S' : AStore} {r : AV} (hn : xs.length ≤ 5) (h : Clean S → ∀ C : Ctx, C.n = 5 → IWP Tryz.prog C [] ir_R_Leaf (FinS C [.cell 2 true 2] r S') (AS.startS xs S)) : ACallsS Tryz.prog 12 xs S r S' :=
  acallsS_of Tryz.func12 rfl tr_R_Leaf rfl hn h

def ir_comb_has : IR :=
  (.seq
  (.ops
  [.mk (some 2) none (.box 30 (.t 0)) .no, .mk (some 3) none (.box 9 (.t 1)) .no, .mk (some 4) none (.mov (.c (.one (.st (.bool false)))))
  .no])
  (.seq
  (.ops
  [.mk (some 5) none (.fieldAddr 0 (.t 2)) .no, .mk (some 6) none (.load false 1 (.t 5)) .no, .mk (some 7) none (.load false 1 (.t 3)) .no, .mk (some 8) none (.bin .eql (.t 6) (.t 7))
  .no, .mk (some 9) none (.mov (.t 8)) .no, .mk (some 10) (some (9, false)) (.fieldAddr 1 (.t 2))
  .no, .mk (some 11) (some (9, false)) (.load false 1 (.t 10))
  .no, .mk (some 12) (some (9, false)) (.makeFunc 78 [.t 3])
  .no, .mk (some 13) (some (9, false))
  (.callS 77 [.t 11, .t 12]) .no, .mk (some 14) none
  (.pick (.t 9) (.c (.one (.st (.bool true)))) (.t 13))
  .no, .mk (some 4) none (.mov (.t 14)) .no])
  .ret))
theorem tr_comb_has : trCode Tryz.prog 15 [13] (Tryz.f67.body.getD .skip) = some ir_comb_has := by kernel_rfl
theorem ac_comb_has {xs : List AV} {r : AV} (hn : xs.length ≤ 15) (h : ∀ C : Ctx, C.n = 15 → IWP Tryz.prog C [13] ir_comb_has (FinQ [.t 4] r) (AS.start xs)) : ACalls Tryz.prog 67 xs r :=
  acalls_of Tryz.func67 rfl tr_comb_has rfl hn h
theorem acS_comb_has {xs : List AV} {S S' : AStore} {r : AV} (hn : xs.length ≤ 15) (h : Clean S → ∀ C : Ctx, C.n = 15 → IWP Tryz.prog C [13] ir_comb_has (FinS C [.t 4] r S') (AS.startS xs S)) : ACallsS Tryz.prog 67 xs S r S' :=
  acallsS_of Tryz.func67 rfl tr_comb_has rfl hn h

def ir_comb_has_1 : IR :=
  (.seq
  (.ops
  [.mk (some 2) none (.box 30 (.t 0)) .no, .mk (some 3) none (.mov (.c (.one (.st (.bool false)))))
  .no])
  (.seq
  (.ops
  [.mk (some 4) none (.load true 2 (.t 2)) .no, .mk (some 5) none (.load false 1 (.t 1)) .no, .mk (some 6) none (.call 67 [.t 4, .t 5])
  .no, .mk (some 3) none (.mov (.t 6)) .no])
  .ret))
theorem tr_comb_has_1 : trCode Tryz.prog 7 [] (Tryz.f78.body.getD .skip) = some ir_comb_has_1 := by kernel_rfl
theorem ac_comb_has_1 {xs : List AV} {r : AV} (hn : xs.length ≤ 7) (h : ∀ C : Ctx, C.n = 7 → IWP Tryz.prog C [] ir_comb_has_1 (FinQ [.t 3] r) (AS.start xs)) : ACalls Tryz.prog 78 xs r :=
  acalls_of Tryz.func78 rfl tr_comb_has_1 rfl hn h
theorem acS_comb_has_1 {xs : List AV} {S S' : AStore} {r : AV} (hn : xs.length ≤ 7) (h : Clean S → ∀ C : Ctx, C.n = 7 → IWP Tryz.prog C [] ir_comb_has_1 (FinS C [.t 3] r S') (AS.startS xs S)) : ACallsS Tryz.prog 78 xs S r S' :=
  acallsS_of Tryz.func78 rfl tr_comb_has_1 rfl hn h

def ir_slices_ContainsFunc_metaprune_api_Term_metaprune_api_Term : IR :=
  (.seq
  (.ops
  [.mk (some 4) none (.mov (.c (.one (.st (.bool false)))))
  .no])
  (.seq
  (.ops
  [.mk (some 5) none (.mov (.t 0)) .no, .mk (some 6) none (.mov (.t 1)) .no, .mk (some 7) none (.callS 84 [.t 5, .t 6])
  .no, .mk (some 8) none (.bin .geq (.t 7) (.c (.one (.st (.int .i64 0)))))
  .no, .mk (some 4) none (.mov (.t 8)) .no])
  .ret))
theorem tr_slices_ContainsFunc_metaprune_api_Term_metaprune_api_Term : trCode Tryz.prog 9 [7] (Tryz.f77.body.getD .skip) = some ir_slices_ContainsFunc_metaprune_api_Term_metaprune_api_Term := by kernel_rfl
theorem ac_slices_ContainsFunc_metaprune_api_Term_metaprune_api_Term {xs : List AV} {r : AV} (hn : xs.length ≤ 9) (h : ∀ C : Ctx, C.n = 9 → IWP Tryz.prog C [7] ir_slices_ContainsFunc_metaprune_api_Term_metaprune_api_Term (FinQ [.t 4] r) (AS.start xs)) : ACalls Tryz.prog 77 xs r :=
  acalls_of Tryz.func77 rfl tr_slices_ContainsFunc_metaprune_api_Term_metaprune_api_Term rfl hn h
theorem acS_slices_ContainsFunc_metaprune_api_Term_metaprune_api_Term {xs : List AV} {S S' : AStore} {r : AV} (hn : xs.length ≤ 9) (h : Clean S → ∀ C : Ctx, C.n = 9 → IWP Tryz.prog C [7] ir_slices_ContainsFunc_metaprune_api_Term_metaprune_api_Term (FinS C [.t 4] r S') (AS.startS xs S)) : ACallsS Tryz.prog 77 xs S r S' :=
  acallsS_of Tryz.func77 rfl tr_slices_ContainsFunc_metaprune_api_Term_metaprune_api_Term rfl hn h

def ir_slices_IndexFunc_metaprune_api_Term_metaprune_api_Term : IR :=
  (.seq
  (.ops
  [.mk (some 4) none (.mov (.c (.one (.st (.int .i64 0)))))
  .no])
  (.seq
  (.seq
  (.ops
  [.mk (some 6) none (.mov (.t 0)) .no, .mk (some 7) none (.len false (.t 6)) .no, .mk (some 8) none (.mov (.c (.one (.st (.int .i64 0)))))
  .no])
  (.block 0
  (.loop
  (.seq
  (.ops
  [.mk (some 9) none (.bin .lss (.t 8) (.t 7)) .no])
  (.seq
  (.cond (.t 9) .skip (.exit 0))
  (.seq
  (.block 1
  (.seq
  (.ops
  [.mk (some 10) none (.mov (.t 8))
  .no, .mk (some 5) none (.mov (.t 10))
  .no])
  (.seq
  (.ops
  [.mk (some 11) none (.mov (.t 1))
  .no, .mk (some 12) none (.mov (.t 0))
  .no, .mk (some 13) none (.mov (.t 5))
  .no, .mk (some 14) none
  (.indexAddr 2 (.t 12) (.t 13)) .no, .mk (some 15) none (.load true 2 (.t 14))
  .no, .mk (some 16) none
  (.callV (.t 11) [.t 15]) .no])
  (.cond (.t 16)
  (.seq
  (.ops
  [.mk (some 17) none (.mov (.t 5))
  .no, .mk (some 4) none (.mov (.t 17))
  .no])
  .ret)
  .skip))))
  (.ops
  [.mk (some 18) none (.bin .add (.t 8) (.c (.one (.st (.int .i64 1)))))
  .no, .mk (some 8) none (.mov (.t 18))
  .no])))))))
  (.seq
  (.ops
  [.mk (some 4) none (.mov (.c (.one (.st (.int .i64 (-1))))))
  .no])
  .ret)))
theorem tr_slices_IndexFunc_metaprune_api_Term_metaprune_api_Term : trCode Tryz.prog 19 [] (Tryz.f84.body.getD .skip) = some ir_slices_IndexFunc_metaprune_api_Term_metaprune_api_Term := by kernel_rfl
theorem ac_slices_IndexFunc_metaprune_api_Term_metaprune_api_Term {xs : List AV} {r : AV} (hn : xs.length ≤ 19) (h : ∀ C : Ctx, C.n = 19 → IWP Tryz.prog C [] ir_slices_IndexFunc_metaprune_api_Term_metaprune_api_Term (FinQ [.t 4] r) (AS.start xs)) : ACalls Tryz.prog 84 xs r :=
  acalls_of Tryz.func84 rfl tr_slices_IndexFunc_metaprune_api_Term_metaprune_api_Term rfl hn h
theorem acS_slices_IndexFunc_metaprune_api_Term_metaprune_api_Term {xs : List AV} {S S' : AStore} {r : AV} (hn : xs.length ≤ 19) (h : Clean S → ∀ C : Ctx, C.n = 19 → IWP Tryz.prog C [] ir_slices_IndexFunc_metaprune_api_Term_metaprune_api_Term (FinS C [.t 4] r S') (AS.startS xs S)) : ACallsS Tryz.prog 84 xs S r S' :=
  acallsS_of Tryz.func84 rfl tr_slices_IndexFunc_metaprune_api_Term_metaprune_api_Term rfl hn h

def ir_comb_without : IR :=
  (.seq
  (.ops
  [.mk (some 3) none (.box 30 (.t 1)) .no, .mk (some 4) none
  (.alloc 30 [.st (.str (ByteArray.mk (#[]))), .full []])
  .no])
  (.seq
  (.block 0
  (.seq
  (.ops
  [.mk (some 6) none (.load true 2 (.t 3))
  .no, .mk (some 7) none (.mov (.t 0)) .no, .mk (some 8) none (.call 67 [.t 6, .t 7])
  .no, .mk (some 9) none (.un .not (.t 8)) .no, .mk (some 5) none (.mov (.t 9)) .no])
  (.cond (.t 5)
  (.seq
  (.ops
  [.mk (some 10) none (.call 60
  [.c (.one (.st (.str (ByteArray.mk (#[107])))))])
  .no, .mk (some 11) none (.load true 2 (.t 3))
  .no, .mk (some 12) none (.call 62 [.t 10, .t 11]) .no, .mk none none (.store 2 (.t 4) (.t 12))
  .no])
  .ret)
  (.seq
  (.ops
  [.mk (some 14) none (.fieldAddr 0 (.t 3))
  .no, .mk (some 15) none (.load false 1 (.t 14))
  .no, .mk (some 16) none (.mov (.t 0)) .no, .mk (some 17) none (.bin .eql (.t 15) (.t 16)) .no, .mk (some 13) none (.mov (.t 17)) .no])
  (.cond (.t 13)
  (.seq
  (.ops
  [.mk (some 18) none (.call 60
  [.c (.one (.st (.str (ByteArray.mk (#[105])))))])
  .no, .mk none none (.store 2 (.t 4) (.t 18))
  .no])
  .ret)
  (.seq
  (.ops
  [.mk (some 20) none (.fieldAddr 1 (.t 3))
  .no, .mk (some 21) none (.load false 1 (.t 20))
  .no, .mk (some 22) none
  (.indexAddr 2 (.t 21) (.c (.one (.st (.int .i64 1)))))
  .no, .mk (some 23) none (.fieldAddr 0 (.t 22))
  .no, .mk (some 24) none (.load false 1 (.t 23))
  .no, .mk (some 25) none (.mov (.t 0)) .no, .mk (some 26) none (.bin .eql (.t 24) (.t 25)) .no, .mk (some 27) none (.mov (.t 26)) .no, .mk (some 28) (some (27, true)) (.fieldAddr 1 (.t 3))
  .no, .mk (some 29) (some (27, true)) (.load false 1 (.t 28))
  .no, .mk (some 30) (some (27, true))
  (.indexAddr 2 (.t 29) (.c (.one (.st (.int .i64 0)))))
  .no, .mk (some 31) (some (27, true)) (.load true 2 (.t 30))
  .no, .mk (some 32) (some (27, true)) (.mov (.t 0))
  .no, .mk (some 33) (some (27, true)) (.call 67 [.t 31, .t 32]) .no, .mk (some 34) (some (27, true)) (.un .not (.t 33))
  .no, .mk (some 35) none
  (.pick (.t 27) (.t 34) (.c (.one (.st (.bool false)))))
  .no, .mk (some 19) none (.mov (.t 35)) .no])
  (.cond (.t 19)
  (.seq
  (.ops
  [.mk (some 36) none (.fieldAddr 1 (.t 3))
  .no, .mk (some 37) none (.load false 1 (.t 36))
  .no, .mk (some 38) none
  (.indexAddr 2 (.t 37) (.c (.one (.st (.int .i64 0)))))
  .no, .mk (some 39) none (.load true 2 (.t 38))
  .no, .mk none none (.store 2 (.t 4) (.t 39)) .no])
  .ret)
  .skip)))))))
  (.seq
  (.ops
  [.mk (some 40) none (.call 60
  [.c (.one (.st (.str (ByteArray.mk (#[115])))))])
  .no, .mk (some 41) none (.mov (.t 0)) .no, .mk (some 42) none (.fieldAddr 1 (.t 3)) .no, .mk (some 43) none (.load false 1 (.t 42))
  .no, .mk (some 44) none
  (.indexAddr 2 (.t 43) (.c (.one (.st (.int .i64 0)))))
  .no, .mk (some 45) none (.load true 2 (.t 44))
  .no, .mk (some 46) none (.call 52 [.t 41, .t 45])
  .no, .mk (some 47) none (.call 62 [.t 40, .t 46])
  .no, .mk (some 48) none (.mov (.t 0)) .no, .mk (some 49) none (.fieldAddr 1 (.t 3)) .no, .mk (some 50) none (.load false 1 (.t 49))
  .no, .mk (some 51) none
  (.indexAddr 2 (.t 50) (.c (.one (.st (.int .i64 1)))))
  .no, .mk (some 52) none (.load true 2 (.t 51))
  .no, .mk (some 53) none (.call 52 [.t 48, .t 52])
  .no, .mk (some 54) none (.call 62 [.t 47, .t 53])
  .no, .mk none none (.store 2 (.t 4) (.t 54))
  .no])
  .ret)))
theorem tr_comb_without : trCode Tryz.prog 55 [] (Tryz.f52.body.getD .skip) = some ir_comb_without := by kernel_rfl
theorem ac_comb_without {xs : List AV} {r : AV} (hn : xs.length ≤ 55) (h : ∀ C : Ctx, C.n = 55 → IWP Tryz.prog C [] ir_comb_without (FinQ [.cell 4 true 2] r) (AS.start xs)) : ACalls Tryz.prog 52 xs r :=
  acalls_of Tryz.func52 rfl tr_comb_without rfl hn h
theorem acS_comb_without {xs : List AV} {S S' : AStore} {r : AV} (hn : xs.length ≤ 55) (h : Clean S → ∀ C : Ctx, C.n = 55 → IWP Tryz.prog C [] ir_comb_without (FinS C [.cell 4 true 2] r S') (AS.startS xs S)) : ACallsS Tryz.prog 52 xs S r S' :=
  acallsS_of Tryz.func52 rfl tr_comb_without rfl hn h

def ir_comb_fit : IR :=
  (.seq
  (.ops
  [.mk (some 1) none (.box 30 (.t 0)) .no, .mk (some 2) none
  (.alloc 30 [.st (.str (ByteArray.mk (#[]))), .full []])
  .no, .mk (some 3) none (.mov (.c (.one (.st (.int .i64 0)))))
  .no])
  (.seq
  (.seq
  (.ops
  [.mk (some 4) none (.load true 2 (.t 1)) .no, .mk (some 5) none (.call 47 [.t 4]) .no, .mk (some 6) none (.bin .gtr (.t 5) (.c (.one (.st (.int .i64 2000)))))
  .no])
  (.cond (.t 6)
  (.seq
  (.ops
  [.mk (some 7) none
  (.build [.st (.str (ByteArray.mk (#[]))), .full []]
  [])
  .no, .mk none none (.store 2 (.t 2) (.t 7))
  .no, .mk (some 3) none (.mov (.c (.one (.st (.int .i64 8)))))
  .no])
  .ret)
  .skip))
  (.seq
  (.ops
  [.mk (some 8) none (.load true 2 (.t 1)) .no, .mk (some 9) none (.call 46 [.t 8]) .no, .mk none none (.store 2 (.t 2) (.t 9))
  .no, .mk (some 3) none (.mov (.c (.one (.st (.int .i64 0)))))
  .no])
  .ret)))
theorem tr_comb_fit : trCode Tryz.prog 10 [] (Tryz.f51.body.getD .skip) = some ir_comb_fit := by kernel_rfl
theorem ac_comb_fit {xs : List AV} {r : AV} (hn : xs.length ≤ 10) (h : ∀ C : Ctx, C.n = 10 → IWP Tryz.prog C [] ir_comb_fit (FinQ [.cell 2 true 2, .t 3] r) (AS.start xs)) : ACalls Tryz.prog 51 xs r :=
  acalls_of Tryz.func51 rfl tr_comb_fit rfl hn h
theorem acS_comb_fit {xs : List AV} {S S' : AStore} {r : AV} (hn : xs.length ≤ 10) (h : Clean S → ∀ C : Ctx, C.n = 10 → IWP Tryz.prog C [] ir_comb_fit (FinS C [.cell 2 true 2, .t 3] r S') (AS.startS xs S)) : ACallsS Tryz.prog 51 xs S r S' :=
  acallsS_of Tryz.func51 rfl tr_comb_fit rfl hn h

def ir_strconv_Itoa : IR :=
  (.seq
  (.ops
  [.mk (some 2) none (.mov (.c (.one (.st (.str (ByteArray.mk (#[])))))))
  .no])
  (.seq
  (.ops
  [.mk (some 3) none (.mov (.t 0)) .no, .mk (some 4) none (.call 76 [.t 3]) .no, .mk (some 2) none (.mov (.t 4)) .no])
  .ret))
theorem tr_strconv_Itoa : trCode Tryz.prog 5 [] (Tryz.f61.body.getD .skip) = some ir_strconv_Itoa := by kernel_rfl
theorem ac_strconv_Itoa {xs : List AV} {r : AV} (hn : xs.length ≤ 5) (h : ∀ C : Ctx, C.n = 5 → IWP Tryz.prog C [] ir_strconv_Itoa (FinQ [.t 2] r) (AS.start xs)) : ACalls Tryz.prog 61 xs r :=
  acalls_of Tryz.func61 rfl tr_strconv_Itoa rfl hn h
theorem acS_strconv_Itoa {xs : List AV} {S S' : AStore} {r : AV} (hn : xs.length ≤ 5) (h : Clean S → ∀ C : Ctx, C.n = 5 → IWP Tryz.prog C [] ir_strconv_Itoa (FinS C [.t 2] r S') (AS.startS xs S)) : ACallsS Tryz.prog 61 xs S r S' :=
  acallsS_of Tryz.func61 rfl tr_strconv_Itoa rfl hn h

def ir_internal_strconv_Itoa : IR :=
  (.seq
  (.ops
  [.mk (some 2) none (.mov (.c (.one (.st (.str (ByteArray.mk (#[])))))))
  .no])
  (.seq
  (.ops
  [.mk (some 3) none (.mov (.t 0)) .no, .mk (some 4) none (.call 83
  [.t 3, .c (.one (.st (.int .i64 10)))])
  .no, .mk (some 2) none (.mov (.t 4)) .no])
  .ret))
theorem tr_internal_strconv_Itoa : trCode Tryz.prog 5 [] (Tryz.f76.body.getD .skip) = some ir_internal_strconv_Itoa := by kernel_rfl
theorem ac_internal_strconv_Itoa {xs : List AV} {r : AV} (hn : xs.length ≤ 5) (h : ∀ C : Ctx, C.n = 5 → IWP Tryz.prog C [] ir_internal_strconv_Itoa (FinQ [.t 2] r) (AS.start xs)) : ACalls Tryz.prog 76 xs r :=
  acalls_of Tryz.func76 rfl tr_internal_strconv_Itoa rfl hn h
theorem acS_internal_strconv_Itoa {xs : List AV} {S S' : AStore} {r : AV} (hn : xs.length ≤ 5) (h : Clean S → ∀ C : Ctx, C.n = 5 → IWP Tryz.prog C [] ir_internal_strconv_Itoa (FinS C [.t 2] r S') (AS.startS xs S)) : ACallsS Tryz.prog 76 xs S r S' :=
  acallsS_of Tryz.func76 rfl tr_internal_strconv_Itoa rfl hn h

def ir_internal_strconv_FormatInt : IR :=
  (.seq
  (.ops
  [.mk (some 4) none (.mov (.c (.one (.st (.str (ByteArray.mk (#[])))))))
  .no])
  (.seq
  (.seq
  (.ops
  [.mk (some 10) none (.mov (.t 1)) .no, .mk (some 11) none (.bin .eql (.t 10) (.c (.one (.st (.int .i64 10)))))
  .no])
  (.cond (.t 11)
  (.seq
  (.seq
  (.ops
  [.mk (some 12) none (.mov (.t 0)) .no, .mk (some 13) none (.bin .leq (.c (.one (.st (.int .i64 0)))) (.t 12))
  .no, .mk (some 14) none (.mov (.t 13)) .no, .mk (some 15) (some (14, true)) (.mov (.t 0))
  .no, .mk (some 16) (some (14, true)) (.bin .lss (.t 15) (.c (.one (.st (.int .i64 100)))))
  .no, .mk (some 17) none
  (.pick (.t 14) (.t 16) (.c (.one (.st (.bool false)))))
  .no])
  (.cond (.t 17)
  (.seq
  (.ops
  [.mk (some 18) none (.mov (.t 0)) .no, .mk (some 19) none (.call 90 [.t 18])
  .no, .mk (some 4) none (.mov (.t 19)) .no])
  .ret)
  .skip))
  (.seq
  (.ops
  [.mk (some 5) none
  (.alloc 98
  [.st (.int .u8 0), .st (.int .u8 0), .st (.int .u8 0), .st (.int .u8 0), .st (.int .u8 0), .st (.int .u8 0), .st (.int .u8 0), .st (.int .u8 0), .st (.int .u8 0), .st (.int .u8 0), .st (.int .u8 0), .st (.int .u8 0), .st (.int .u8 0), .st (.int .u8 0), .st (.int .u8 0), .st (.int .u8 0), .st (.int .u8 0), .st (.int .u8 0), .st (.int .u8 0), .st (.int .u8 0), .st (.int .u8 0), .st (.int .u8 0), .st (.int .u8 0), .st (.int .u8 0)])
  .no])
  (.seq
  (.ops
  [.mk (some 20) none (.mov (.t 0)) .no, .mk (some 21) none (.conv .u64 (.t 20))
  .no, .mk (some 6) none (.mov (.t 21)) .no])
  (.seq
  (.seq
  (.ops
  [.mk (some 22) none (.mov (.t 0)) .no, .mk (some 23) none (.bin .lss (.t 22) (.c (.one (.st (.int .i64 0)))))
  .no])
  (.cond (.t 23)
  (.ops
  [.mk (some 24) none (.mov (.t 6))
  .no, .mk (some 25) none (.un .neg (.t 24))
  .no, .mk (some 6) none (.mov (.t 25))
  .no])
  .skip))
  (.seq
  (.ops
  [.mk (some 26) none (.mov (.t 6)) .no, .mk (some 27) none (.call 91 [.t 26])
  .no, .mk (some 7) none (.mov (.t 27))
  .no])
  (.seq
  (.ops
  [.mk (some 28) none (.mov (.t 7))
  .no, .mk (some 29) none (.bin .add (.c (.one (.st (.int .i64 1)))) (.t 28))
  .no, .mk (some 30) none .never .no, .mk (some 31) none (.mov (.t 6))
  .no, .mk (some 32) none (.call 92 [.t 30, .t 31]) .no])
  (.seq
  (.seq
  (.ops
  [.mk (some 33) none (.mov (.t 0))
  .no, .mk (some 34) none (.bin .lss (.t 33) (.c (.one (.st (.int .i64 0)))))
  .no])
  (.cond (.t 34)
  (.seq
  (.ops
  [.mk (some 35) none
  (.indexArr 24 1 (.t 5) (.c (.one (.st (.int .i64 0)))))
  .no, .mk none none (.store 1 (.t 35) (.c (.one (.st (.int .u8 45)))))
  .no])
  (.seq
  (.ops
  [.mk (some 36) none (.mov (.t 7))
  .no, .mk (some 37) none (.bin .add (.c (.one (.st (.int .i64 1)))) (.t 36))
  .no, .mk (some 38) none .never .no, .mk (some 39) none (.strOf (.t 38))
  .no, .mk (some 4) none (.mov (.t 39))
  .no])
  .ret))
  .skip))
  (.seq
  (.ops
  [.mk (some 40) none (.mov (.t 7))
  .no, .mk (some 41) none (.bin .add (.c (.one (.st (.int .i64 1)))) (.t 40))
  .no, .mk (some 42) none .never .no, .mk (some 43) none (.strOf (.t 42))
  .no, .mk (some 4) none (.mov (.t 43))
  .no])
  .ret))))))))
  .skip))
  (.seq
  (.ops
  [.mk (some 45) none (.mov (.t 0)) .no, .mk (some 46) none (.conv .u64 (.t 45))
  .no, .mk (some 47) none (.mov (.t 1)) .no, .mk (some 48) none (.mov (.t 0)) .no, .mk (some 49) none (.bin .lss (.t 48) (.c (.one (.st (.int .i64 0)))))
  .no, .mk (some 50) none (.call 93
  [.c (.one (.full [])), .t 46, .t 47, .t 49, .c (.one (.st (.bool false)))])
  .no, .mk (some 44) none (.mov (.t 50)) .no, .mk (some 51) none (.extract 0 (.t 44)) .no, .mk (some 52) none (.extract 1 (.t 44)) .no, .mk (some 8) none (.mov (.t 51)) .no, .mk (some 9) none (.mov (.t 52)) .no])
  (.seq
  (.ops
  [.mk (some 53) none (.mov (.t 9)) .no, .mk (some 4) none (.mov (.t 53)) .no])
  .ret))))
theorem tr_internal_strconv_FormatInt : trCode Tryz.prog 54 [] (Tryz.f83.body.getD .skip) = some ir_internal_strconv_FormatInt := by kernel_rfl
theorem ac_internal_strconv_FormatInt {xs : List AV} {r : AV} (hn : xs.length ≤ 54) (h : ∀ C : Ctx, C.n = 54 → IWP Tryz.prog C [] ir_internal_strconv_FormatInt (FinQ [.t 4] r) (AS.start xs)) : ACalls Tryz.prog 83 xs r :=
  acalls_of Tryz.func83 rfl tr_internal_strconv_FormatInt rfl hn h
theorem acS_internal_strconv_FormatInt {xs : List AV} {S S' : AStore} {r : AV} (hn : xs.length ≤ 54) (h : Clean S → ∀ C : Ctx, C.n = 54 → IWP Tryz.prog C [] ir_internal_strconv_FormatInt (FinS C [.t 4] r S') (AS.startS xs S)) : ACallsS Tryz.prog 83 xs S r S' :=
  acallsS_of Tryz.func83 rfl tr_internal_strconv_FormatInt rfl hn h

def ir_internal_strconv_small : IR :=
  (.seq
  (.ops
  [.mk (some 2) none (.mov (.c (.one (.st (.str (ByteArray.mk (#[])))))))
  .no])
  (.seq
  (.seq
  (.ops
  [.mk (some 3) none (.mov (.t 0)) .no, .mk (some 4) none (.bin .lss (.t 3) (.c (.one (.st (.int .i64 10)))))
  .no])
  (.cond (.t 4)
  (.seq
  (.ops
  [.mk (some 5) none (.mov (.t 0)) .no, .mk (some 6) none (.mov (.t 0)) .no, .mk (some 7) none (.bin .add (.t 6) (.c (.one (.st (.int .i64 1)))))
  .no, .mk (some 8) none
  (.sliceS (.c (.one (.st (.str
  (ByteArray.mk (#[48, 49, 50, 51, 52, 53, 54, 55, 56, 57, 97, 98, 99, 100, 101, 102, 103, 104, 105, 106, 107, 108, 109, 110, 111, 112, 113, 114, 115, 116, 117, 118, 119, 120, 121, 122]))))))
  (some (.t 5)) (some (.t 7)))
  .no, .mk (some 2) none (.mov (.t 8)) .no])
  .ret)
  .skip))
  (.seq
  (.ops
  [.mk (some 9) none (.mov (.t 0)) .no, .mk (some 10) none (.bin .mul (.t 9) (.c (.one (.st (.int .i64 2)))))
  .no, .mk (some 11) none (.mov (.t 0)) .no, .mk (some 12) none (.bin .mul (.t 11) (.c (.one (.st (.int .i64 2)))))
  .no, .mk (some 13) none (.bin .add (.t 12) (.c (.one (.st (.int .i64 2)))))
  .no, .mk (some 14) none
  (.sliceS (.c (.one (.st (.str
  (ByteArray.mk
  (Array.mk
  [48, 48, 48, 49, 48, 50, 48, 51, 48, 52, 48, 53, 48, 54, 48, 55, 48, 56, 48, 57, 49, 48, 49, 49, 49, 50, 49, 51, 49, 52, 49, 53, 49, 54, 49, 55, 49, 56, 49, 57, 50, 48, 50, 49, 50, 50, 50, 51, 50, 52,
  50, 53, 50, 54, 50, 55, 50, 56, 50, 57, 51, 48, 51, 49, 51, 50, 51, 51, 51, 52, 51, 53, 51, 54, 51, 55, 51, 56, 51, 57, 52, 48, 52, 49, 52, 50, 52, 51, 52, 52, 52, 53, 52, 54, 52, 55, 52, 56, 52, 57,
  53, 48, 53, 49, 53, 50, 53, 51, 53, 52, 53, 53, 53, 54, 53, 55, 53, 56, 53, 57, 54, 48, 54, 49, 54, 50, 54, 51, 54, 52, 54, 53, 54, 54, 54, 55, 54, 56, 54, 57, 55, 48, 55, 49, 55, 50, 55, 51, 55, 52,
  55, 53, 55, 54, 55, 55, 55, 56, 55, 57, 56, 48, 56, 49, 56, 50, 56, 51, 56, 52, 56, 53, 56, 54, 56, 55, 56, 56, 56, 57, 57, 48, 57, 49, 57, 50, 57, 51, 57, 52, 57, 53, 57, 54, 57, 55, 57, 56, 57,
  57]))))))
  (some (.t 10)) (some (.t 13)))
  .no, .mk (some 2) none (.mov (.t 14)) .no])
  .ret)))
theorem tr_internal_strconv_small : trCode Tryz.prog 15 [] (Tryz.f90.body.getD .skip) = some ir_internal_strconv_small := by kernel_rfl
theorem ac_internal_strconv_small {xs : List AV} {r : AV} (hn : xs.length ≤ 15) (h : ∀ C : Ctx, C.n = 15 → IWP Tryz.prog C [] ir_internal_strconv_small (FinQ [.t 2] r) (AS.start xs)) : ACalls Tryz.prog 90 xs r :=
  acalls_of Tryz.func90 rfl tr_internal_strconv_small rfl hn h
theorem acS_internal_strconv_small {xs : List AV} {S S' : AStore} {r : AV} (hn : xs.length ≤ 15) (h : Clean S → ∀ C : Ctx, C.n = 15 → IWP Tryz.prog C [] ir_internal_strconv_small (FinS C [.t 2] r S') (AS.startS xs S)) : ACallsS Tryz.prog 90 xs S r S' :=
  acallsS_of Tryz.func90 rfl tr_internal_strconv_small rfl hn h

def ir_comb_from : IR :=
  (.seq
  (.ops
  [.mk (some 2) none (.box 25 (.t 0)) .no, .mk (some 4) none
  (.alloc 30 [.st (.str (ByteArray.mk (#[]))), .full []])
  .no, .mk (some 5) none (.mov (.c (.one (.st (.int .i64 0)))))
  .no])
  (.seq
  (.seq
  (.ops
  [.mk (some 11) none (.fieldAddr 0 (.t 2)) .no, .mk (some 12) none (.load false 1 (.t 11))
  .no])
  (.block 0
  (.seq
  (.ops
  [.mk (some 14) none (.bin .eql (.t 12) (.c (.one (.st (.int .i64 1)))))
  .no, .mk (some 13) none (.mov (.t 14)) .no])
  (.cond (.t 13)
  (.seq
  (.ops
  [.mk (some 15) none (.mov (.t 1)) .no, .mk (some 16) none (.bin .sub (.t 15) (.c (.one (.st (.int .i64 1)))))
  .no, .mk (some 17) none (.fieldAddr 1 (.t 2))
  .no, .mk (some 18) none (.load false 1 (.t 17))
  .no, .mk (some 19) none (.bin .sub (.t 16) (.t 18)) .no, .mk (some 20) none (.call 61 [.t 19])
  .no, .mk (some 21) none (.bin .add (.c (.one (.st (.str (ByteArray.mk (#[86])))))) (.t 20))
  .no, .mk (some 22) none (.call 60 [.t 21])
  .no, .mk none none (.store 2 (.t 4) (.t 22))
  .no, .mk (some 5) none (.mov (.c (.one (.st (.int .i64 0)))))
  .no])
  .ret)
  (.seq
  (.ops
  [.mk (some 24) none (.bin .eql (.t 12) (.c (.one (.st (.int .i64 4)))))
  .no, .mk (some 23) none (.mov (.t 24)) .no])
  (.cond (.t 23)
  (.seq
  (.ops
  [.mk (some 25) none (.fieldAddr 1 (.t 2))
  .no, .mk (some 26) none (.load false 1 (.t 25))
  .no, .mk (some 27) none (.call 61 [.t 26])
  .no, .mk (some 28) none (.bin .add (.c (.one (.st (.str (ByteArray.mk (#[99])))))) (.t 27))
  .no, .mk (some 29) none (.call 60 [.t 28])
  .no, .mk none none (.store 2 (.t 4) (.t 29)) .no, .mk (some 5) none (.mov (.c (.one (.st (.int .i64 0)))))
  .no])
  .ret)
  (.seq
  (.ops
  [.mk (some 31) none (.bin .eql (.t 12) (.c (.one (.st (.int .i64 2)))))
  .no, .mk (some 30) none (.mov (.t 31))
  .no])
  (.cond (.t 30)
  (.seq
  (.ops
  [.mk (some 33) none (.fieldAddr 2 (.t 2))
  .no, .mk (some 34) none (.load false 1 (.t 33))
  .no, .mk (some 35) none
  (.indexAddr 3 (.t 34) (.c (.one (.st (.int .i64 0)))))
  .no, .mk (some 36) none (.load true 3 (.t 35))
  .no, .mk (some 37) none (.mov (.t 1))
  .no, .mk (some 38) none (.bin .add (.t 37) (.c (.one (.st (.int .i64 1)))))
  .no, .mk (some 39) none (.call 40 [.t 36, .t 38]) .no, .mk (some 32) none (.mov (.t 39))
  .no, .mk (some 40) none (.extract 0 (.t 32))
  .no, .mk (some 41) none (.extract 1 (.t 32))
  .no, .mk (some 6) none
  (.alloc 30
  [.st (.str (ByteArray.mk (#[]))), .full []])
  .no, .mk none none (.store 2 (.t 6) (.t 40)) .no, .mk (some 7) none (.mov (.t 41))
  .no])
  (.seq
  (.seq
  (.ops
  [.mk (some 42) none (.mov (.t 7))
  .no, .mk (some 43) none (.bin .neq (.t 42) (.c (.one (.st (.int .i64 0)))))
  .no])
  (.cond (.t 43)
  (.seq
  (.ops
  [.mk (some 44) none
  (.build
  [.st (.str (ByteArray.mk (#[]))), .full []] [])
  .no, .mk (some 45) none (.mov (.t 7))
  .no, .mk none none (.store 2 (.t 4) (.t 44)) .no, .mk (some 5) none (.mov (.t 45))
  .no])
  .ret)
  .skip))
  (.seq
  (.ops
  [.mk (some 46) none (.mov (.t 1))
  .no, .mk (some 47) none (.call 61 [.t 46])
  .no, .mk (some 48) none (.bin .add (.c (.one (.st (.str (ByteArray.mk (#[86])))))) (.t 47))
  .no, .mk (some 49) none (.load true 2 (.t 6))
  .no, .mk (some 50) none (.call 52 [.t 48, .t 49]) .no, .mk (some 51) none (.call 51 [.t 50])
  .no, .mk (some 52) none (.extract 0 (.t 51))
  .no, .mk (some 53) none (.extract 1 (.t 51))
  .no, .mk none none (.store 2 (.t 4) (.t 52)) .no, .mk (some 5) none (.mov (.t 53))
  .no])
  .ret)))
  .skip))))))))
  (.seq
  (.ops
  [.mk (some 55) none (.fieldAddr 2 (.t 2)) .no, .mk (some 56) none (.load false 1 (.t 55))
  .no, .mk (some 57) none
  (.indexAddr 3 (.t 56) (.c (.one (.st (.int .i64 0)))))
  .no, .mk (some 58) none (.load true 3 (.t 57))
  .no, .mk (some 59) none (.mov (.t 1)) .no, .mk (some 60) none (.call 40 [.t 58, .t 59])
  .no, .mk (some 54) none (.mov (.t 60)) .no, .mk (some 61) none (.extract 0 (.t 54)) .no, .mk (some 62) none (.extract 1 (.t 54)) .no, .mk (some 8) none
  (.alloc 30 [.st (.str (ByteArray.mk (#[]))), .full []])
  .no, .mk none none (.store 2 (.t 8) (.t 61))
  .no, .mk (some 9) none (.mov (.t 62)) .no])
  (.seq
  (.seq
  (.ops
  [.mk (some 63) none (.mov (.t 9)) .no, .mk (some 64) none (.bin .neq (.t 63) (.c (.one (.st (.int .i64 0)))))
  .no])
  (.cond (.t 64)
  (.seq
  (.ops
  [.mk (some 65) none
  (.build
  [.st (.str (ByteArray.mk (#[]))), .full []] [])
  .no, .mk (some 66) none (.mov (.t 9)) .no, .mk none none (.store 2 (.t 4) (.t 65))
  .no, .mk (some 5) none (.mov (.t 66)) .no])
  .ret)
  .skip))
  (.seq
  (.ops
  [.mk (some 68) none (.fieldAddr 2 (.t 2)) .no, .mk (some 69) none (.load false 1 (.t 68))
  .no, .mk (some 70) none
  (.indexAddr 3 (.t 69) (.c (.one (.st (.int .i64 1)))))
  .no, .mk (some 71) none (.load true 3 (.t 70))
  .no, .mk (some 72) none (.mov (.t 1)) .no, .mk (some 73) none (.call 40 [.t 71, .t 72])
  .no, .mk (some 67) none (.mov (.t 73)) .no, .mk (some 74) none (.extract 0 (.t 67)) .no, .mk (some 75) none (.extract 1 (.t 67)) .no, .mk (some 10) none
  (.alloc 30
  [.st (.str (ByteArray.mk (#[]))), .full []])
  .no, .mk none none (.store 2 (.t 10) (.t 74))
  .no, .mk (some 9) none (.mov (.t 75)) .no])
  (.seq
  (.seq
  (.ops
  [.mk (some 76) none (.mov (.t 9)) .no, .mk (some 77) none (.bin .neq (.t 76) (.c (.one (.st (.int .i64 0)))))
  .no])
  (.cond (.t 77)
  (.seq
  (.ops
  [.mk (some 78) none
  (.build
  [.st (.str (ByteArray.mk (#[]))), .full []] [])
  .no, .mk (some 79) none (.mov (.t 9)) .no, .mk none none (.store 2 (.t 4) (.t 78)) .no, .mk (some 5) none (.mov (.t 79))
  .no])
  .ret)
  .skip))
  (.seq
  (.ops
  [.mk (some 80) none (.load true 2 (.t 8))
  .no, .mk (some 81) none (.load true 2 (.t 10))
  .no, .mk (some 82) none (.call 62 [.t 80, .t 81]) .no, .mk (some 83) none (.call 51 [.t 82])
  .no, .mk (some 84) none (.extract 0 (.t 83))
  .no, .mk (some 85) none (.extract 1 (.t 83))
  .no, .mk none none (.store 2 (.t 4) (.t 84))
  .no, .mk (some 5) none (.mov (.t 85)) .no])
  .ret)))))))
theorem tr_comb_from : trCode Tryz.prog 86 [] (Tryz.f40.body.getD .skip) = some ir_comb_from := by kernel_rfl
theorem ac_comb_from {xs : List AV} {r : AV} (hn : xs.length ≤ 86) (h : ∀ C : Ctx, C.n = 86 → IWP Tryz.prog C [] ir_comb_from (FinQ [.cell 4 true 2, .t 5] r) (AS.start xs)) : ACalls Tryz.prog 40 xs r :=
  acalls_of Tryz.func40 rfl tr_comb_from rfl hn h
theorem acS_comb_from {xs : List AV} {S S' : AStore} {r : AV} (hn : xs.length ≤ 86) (h : Clean S → ∀ C : Ctx, C.n = 86 → IWP Tryz.prog C [] ir_comb_from (FinS C [.cell 4 true 2, .t 5] r S') (AS.startS xs S)) : ACallsS Tryz.prog 40 xs S r S' :=
  acallsS_of Tryz.func40 rfl tr_comb_from rfl hn h

def ir_comb_From : IR :=
  (.seq
  (.ops
  [.mk (some 1) none (.box 25 (.t 0)) .no, .mk (some 2) none
  (.alloc 30 [.st (.str (ByteArray.mk (#[]))), .full []])
  .no, .mk (some 3) none (.mov (.c (.one (.st (.int .i64 0)))))
  .no])
  (.seq
  (.seq
  (.ops
  [.mk (some 5) none (.load true 3 (.t 1)) .no, .mk (some 6) none (.call 39
  [.t 5, .c (.one (.st (.int .i64 0)))])
  .no, .mk (some 4) none (.mov (.t 6)) .no])
  (.seq
  (.ops
  [.mk (some 7) none (.mov (.t 4)) .no, .mk (some 8) none (.bin .neq (.t 7) (.c (.one (.st (.int .i64 0)))))
  .no])
  (.cond (.t 8)
  (.seq
  (.ops
  [.mk (some 9) none
  (.build
  [.st (.str (ByteArray.mk (#[]))), .full []] [])
  .no, .mk (some 10) none (.mov (.t 4)) .no, .mk none none (.store 2 (.t 2) (.t 9))
  .no, .mk (some 3) none (.mov (.t 10)) .no])
  .ret)
  .skip)))
  (.seq
  (.ops
  [.mk (some 11) none (.load true 3 (.t 1)) .no, .mk (some 12) none (.call 40
  [.t 11, .c (.one (.st (.int .i64 0)))])
  .no, .mk (some 13) none (.extract 0 (.t 12)) .no, .mk (some 14) none (.extract 1 (.t 12)) .no, .mk none none (.store 2 (.t 2) (.t 13))
  .no, .mk (some 3) none (.mov (.t 14)) .no])
  .ret)))
theorem tr_comb_From : trCode Tryz.prog 15 [] (Tryz.f19.body.getD .skip) = some ir_comb_From := by kernel_rfl
theorem ac_comb_From {xs : List AV} {r : AV} (hn : xs.length ≤ 15) (h : ∀ C : Ctx, C.n = 15 → IWP Tryz.prog C [] ir_comb_From (FinQ [.cell 2 true 2, .t 3] r) (AS.start xs)) : ACalls Tryz.prog 19 xs r :=
  acalls_of Tryz.func19 rfl tr_comb_From rfl hn h
theorem acS_comb_From {xs : List AV} {S S' : AStore} {r : AV} (hn : xs.length ≤ 15) (h : Clean S → ∀ C : Ctx, C.n = 15 → IWP Tryz.prog C [] ir_comb_From (FinS C [.cell 2 true 2, .t 3] r S') (AS.startS xs S)) : ACallsS Tryz.prog 19 xs S r S' :=
  acallsS_of Tryz.func19 rfl tr_comb_From rfl hn h

def ir_R_Often : IR :=
  (.seq
  (.ops
  [.mk (some 2) none (.box 30 (.t 0)) .no, .mk (some 4) none (.mov (.c (.one (.st (.int .i64 0)))))
  .no])
  (.seq
  (.ops
  [.mk (some 8) none (.load true 2 (.t 2)) .no, .mk (some 9) none (.call 43 [.t 8]) .no, .mk (some 5) none (.mov (.t 9)) .no])
  (.seq
  (.ops
  [.mk (some 6) none (.mov (.c (.one (.st (.int .i64 0)))))
  .no])
  (.seq
  (.seq
  (.ops
  [.mk (some 7) none (.mov (.c (.one (.st (.int .i64 0)))))
  .no])
  (.block 0
  (.loop
  (.seq
  (.seq
  (.ops
  [.mk (some 10) none (.mov (.t 7)) .no, .mk (some 11) none (.mov (.t 5)) .no, .mk (some 12) none (.len false (.t 11))
  .no, .mk (some 13) none (.bin .lss (.t 10) (.t 12)) .no])
  (.cond (.t 13) .skip (.exit 0)))
  (.seq
  (.block 1
  (.seq
  (.ops
  [.mk (some 16) none (.mov (.t 5))
  .no, .mk (some 17) none (.mov (.t 7))
  .no, .mk (some 18) none
  (.indexAddr 2 (.t 16) (.t 17)) .no, .mk (some 19) none (.fieldAddr 0 (.t 18))
  .no, .mk (some 20) none (.load false 1 (.t 19))
  .no, .mk (some 21) none (.mov (.t 1))
  .no, .mk (some 22) none (.bin .eql (.t 20) (.t 21)) .no])
  (.cond (.t 22)
  (.ops
  [.mk (some 23) none (.mov (.t 6))
  .no, .mk (some 24) none (.bin .add (.t 23) (.c (.one (.st (.int .i64 1)))))
  .no, .mk (some 6) none (.mov (.t 24))
  .no])
  .skip)))
  (.ops
  [.mk (some 14) none (.mov (.t 7)) .no, .mk (some 15) none (.bin .add (.t 14) (.c (.one (.st (.int .i64 1)))))
  .no, .mk (some 7) none (.mov (.t 15))
  .no]))))))
  (.seq
  (.ops
  [.mk (some 25) none (.mov (.t 6)) .no, .mk (some 4) none (.mov (.t 25)) .no])
  .ret)))))
theorem tr_R_Often : trCode Tryz.prog 26 [] (Tryz.f37.body.getD .skip) = some ir_R_Often := by kernel_rfl
theorem ac_R_Often {xs : List AV} {r : AV} (hn : xs.length ≤ 26) (h : ∀ C : Ctx, C.n = 26 → IWP Tryz.prog C [] ir_R_Often (FinQ [.t 4] r) (AS.start xs)) : ACalls Tryz.prog 37 xs r :=
  acalls_of Tryz.func37 rfl tr_R_Often rfl hn h
theorem acS_R_Often {xs : List AV} {S S' : AStore} {r : AV} (hn : xs.length ≤ 26) (h : Clean S → ∀ C : Ctx, C.n = 26 → IWP Tryz.prog C [] ir_R_Often (FinS C [.t 4] r S') (AS.startS xs S)) : ACallsS Tryz.prog 37 xs S r S' :=
  acallsS_of Tryz.func37 rfl tr_R_Often rfl hn h

def ir_R_BracketOf : IR :=
  (.seq
  (.ops
  [.mk (some 3) none (.box 30 (.t 1)) .no, .mk (some 4) none
  (.alloc 30 [.st (.str (ByteArray.mk (#[]))), .full []])
  .no])
  (.seq
  (.seq
  (.ops
  [.mk (some 7) none (.load true 2 (.t 3)) .no, .mk (some 8) none (.mov (.t 0)) .no, .mk (some 9) none (.call 37 [.t 7, .t 8])
  .no, .mk (some 10) none (.bin .eql (.t 9) (.c (.one (.st (.int .i64 0)))))
  .no])
  (.cond (.t 10)
  (.seq
  (.ops
  [.mk (some 11) none (.call 12
  [.c (.one (.st (.str (ByteArray.mk (#[107])))))])
  .no, .mk (some 12) none (.load true 2 (.t 3))
  .no, .mk (some 13) none (.call 11 [.t 11, .t 12])
  .no, .mk none none (.store 2 (.t 4) (.t 13))
  .no])
  .ret)
  .skip))
  (.seq
  (.seq
  (.ops
  [.mk (some 14) none (.fieldAddr 0 (.t 3)) .no, .mk (some 15) none (.load false 1 (.t 14))
  .no, .mk (some 16) none (.mov (.t 0)) .no, .mk (some 17) none (.bin .eql (.t 15) (.t 16)) .no])
  (.cond (.t 17)
  (.seq
  (.ops
  [.mk (some 18) none (.call 12
  [.c (.one (.st (.str (ByteArray.mk (#[105])))))])
  .no, .mk none none (.store 2 (.t 4) (.t 18))
  .no])
  .ret)
  .skip))
  (.seq
  (.ops
  [.mk (some 19) none (.fieldAddr 1 (.t 3)) .no, .mk (some 20) none (.load false 1 (.t 19))
  .no, .mk (some 21) none
  (.indexAddr 2 (.t 20) (.c (.one (.st (.int .i64 0)))))
  .no, .mk (some 22) none (.load true 2 (.t 21))
  .no, .mk (some 5) none
  (.alloc 30
  [.st (.str (ByteArray.mk (#[]))), .full []])
  .no, .mk none none (.store 2 (.t 5) (.t 22))
  .no])
  (.seq
  (.ops
  [.mk (some 23) none (.fieldAddr 1 (.t 3)) .no, .mk (some 24) none (.load false 1 (.t 23))
  .no, .mk (some 25) none
  (.indexAddr 2 (.t 24) (.c (.one (.st (.int .i64 1)))))
  .no, .mk (some 26) none (.load true 2 (.t 25))
  .no, .mk (some 6) none
  (.alloc 30
  [.st (.str (ByteArray.mk (#[]))), .full []])
  .no, .mk none none (.store 2 (.t 6) (.t 26))
  .no])
  (.seq
  (.seq
  (.ops
  [.mk (some 27) none (.fieldAddr 0 (.t 6))
  .no, .mk (some 28) none (.load false 1 (.t 27))
  .no, .mk (some 29) none (.mov (.t 0)) .no, .mk (some 30) none (.bin .eql (.t 28) (.t 29)) .no, .mk (some 31) none (.mov (.t 30)) .no, .mk (some 32) (some (31, true)) (.load true 2 (.t 5))
  .no, .mk (some 33) (some (31, true)) (.mov (.t 0))
  .no, .mk (some 34) (some (31, true)) (.call 37 [.t 32, .t 33]) .no, .mk (some 35) (some (31, true)) (.bin .eql (.t 34) (.c (.one (.st (.int .i64 0)))))
  .no, .mk (some 36) none
  (.pick (.t 31) (.t 35) (.c (.one (.st (.bool false)))))
  .no])
  (.cond (.t 36)
  (.seq
  (.ops
  [.mk (some 37) none (.load true 2 (.t 5))
  .no, .mk none none (.store 2 (.t 4) (.t 37)) .no])
  .ret)
  .skip))
  (.seq
  (.ops
  [.mk (some 38) none (.call 12
  [.c (.one (.st (.str (ByteArray.mk (#[115])))))])
  .no, .mk (some 39) none (.mov (.t 0)) .no, .mk (some 40) none (.load true 2 (.t 5))
  .no, .mk (some 41) none (.call 15 [.t 39, .t 40]) .no, .mk (some 42) none (.call 11 [.t 38, .t 41]) .no, .mk (some 43) none (.mov (.t 0)) .no, .mk (some 44) none (.load true 2 (.t 6))
  .no, .mk (some 45) none (.call 15 [.t 43, .t 44]) .no, .mk (some 46) none (.call 11 [.t 42, .t 45]) .no, .mk none none (.store 2 (.t 4) (.t 46))
  .no])
  .ret)))))))
theorem tr_R_BracketOf : trCode Tryz.prog 47 [] (Tryz.f15.body.getD .skip) = some ir_R_BracketOf := by kernel_rfl
theorem ac_R_BracketOf {xs : List AV} {r : AV} (hn : xs.length ≤ 47) (h : ∀ C : Ctx, C.n = 47 → IWP Tryz.prog C [] ir_R_BracketOf (FinQ [.cell 4 true 2] r) (AS.start xs)) : ACalls Tryz.prog 15 xs r :=
  acalls_of Tryz.func15 rfl tr_R_BracketOf rfl hn h
theorem acS_R_BracketOf {xs : List AV} {S S' : AStore} {r : AV} (hn : xs.length ≤ 47) (h : Clean S → ∀ C : Ctx, C.n = 47 → IWP Tryz.prog C [] ir_R_BracketOf (FinS C [.cell 4 true 2] r S') (AS.startS xs S)) : ACallsS Tryz.prog 15 xs S r S' :=
  acallsS_of Tryz.func15 rfl tr_R_BracketOf rfl hn h

def ir_R_Dec : IR :=
  (.seq
  (.ops
  [.mk (some 2) none (.mov (.c (.one (.st (.str (ByteArray.mk (#[])))))))
  .no])
  (.seq
  (.seq
  (.ops
  [.mk (some 3) none (.mov (.t 0)) .no, .mk (some 4) none (.bin .lss (.t 3) (.c (.one (.st (.int .i64 10)))))
  .no])
  (.cond (.t 4)
  (.seq
  (.ops
  [.mk (some 5) none (.mov (.t 0)) .no, .mk (some 6) none (.bin .add (.c (.one (.st (.int .i64 48)))) (.t 5))
  .no, .mk (some 7) none (.conv .u8 (.t 6))
  .no, .mk (some 8) none (.buildSlice false 5 1 [.t 7])
  .no, .mk (some 9) none (.strOf (.t 8)) .no, .mk (some 2) none (.mov (.t 9)) .no])
  .ret)
  .skip))
  (.seq
  (.ops
  [.mk (some 10) none (.mov (.t 0)) .no, .mk (some 11) none (.bin .quo (.t 10) (.c (.one (.st (.int .i64 10)))))
  .no, .mk (some 12) none (.call 14 [.t 11]) .no, .mk (some 13) none (.mov (.t 0)) .no, .mk (some 14) none (.bin .rem (.t 13) (.c (.one (.st (.int .i64 10)))))
  .no, .mk (some 15) none (.call 14 [.t 14]) .no, .mk (some 16) none (.bin .add (.t 12) (.t 15)) .no, .mk (some 2) none (.mov (.t 16)) .no])
  .ret)))
theorem tr_R_Dec : trCode Tryz.prog 17 [] (Tryz.f14.body.getD .skip) = some ir_R_Dec := by kernel_rfl
theorem ac_R_Dec {xs : List AV} {r : AV} (hn : xs.length ≤ 17) (h : ∀ C : Ctx, C.n = 17 → IWP Tryz.prog C [] ir_R_Dec (FinQ [.t 2] r) (AS.start xs)) : ACalls Tryz.prog 14 xs r :=
  acalls_of Tryz.func14 rfl tr_R_Dec rfl hn h
theorem acS_R_Dec {xs : List AV} {S S' : AStore} {r : AV} (hn : xs.length ≤ 17) (h : Clean S → ∀ C : Ctx, C.n = 17 → IWP Tryz.prog C [] ir_R_Dec (FinS C [.t 2] r S') (AS.startS xs S)) : ACallsS Tryz.prog 14 xs S r S' :=
  acallsS_of Tryz.func14 rfl tr_R_Dec rfl hn h

def ir_R_CombOf : IR :=
  (.seq
  (.ops
  [.mk (some 2) none (.box 25 (.t 0)) .no, .mk (some 4) none
  (.alloc 30 [.st (.str (ByteArray.mk (#[]))), .full []])
  .no, .mk (some 5) none (.mov (.c (.one (.st (.int .i64 0)))))
  .no])
  (.seq
  (.ops
  [.mk (some 12) none
  (.build [.st (.str (ByteArray.mk (#[]))), .full []] [])
  .no, .mk (some 6) none
  (.alloc 30 [.st (.str (ByteArray.mk (#[]))), .full []])
  .no, .mk none none (.store 2 (.t 6) (.t 12))
  .no])
  (.seq
  (.seq
  (.ops
  [.mk (some 13) none (.fieldAddr 0 (.t 2)) .no, .mk (some 14) none (.load false 1 (.t 13))
  .no])
  (.block 0
  (.seq
  (.ops
  [.mk (some 45) none (.bin .eql (.t 14) (.c (.one (.st (.int .i64 1)))))
  .no, .mk (some 44) none (.mov (.t 45)) .no])
  (.cond (.t 44)
  (.seq
  (.ops
  [.mk (some 46) none (.mov (.t 1)) .no, .mk (some 47) none (.bin .sub (.t 46) (.c (.one (.st (.int .i64 1)))))
  .no, .mk (some 48) none (.fieldAddr 1 (.t 2))
  .no, .mk (some 49) none (.load false 1 (.t 48))
  .no, .mk (some 50) none (.bin .sub (.t 47) (.t 49)) .no, .mk (some 51) none (.call 14 [.t 50])
  .no, .mk (some 52) none (.bin .add (.c (.one (.st (.str (ByteArray.mk (#[86])))))) (.t 51))
  .no, .mk (some 53) none (.call 12 [.t 52])
  .no, .mk none none (.store 2 (.t 4) (.t 53))
  .no, .mk (some 5) none (.mov (.c (.one (.st (.int .i64 0)))))
  .no])
  .ret)
  (.seq
  (.ops
  [.mk (some 55) none (.bin .eql (.t 14) (.c (.one (.st (.int .i64 4)))))
  .no, .mk (some 54) none (.mov (.t 55)) .no])
  (.cond (.t 54)
  (.seq
  (.ops
  [.mk (some 56) none (.fieldAddr 1 (.t 2))
  .no, .mk (some 57) none (.load false 1 (.t 56))
  .no, .mk (some 58) none (.call 14 [.t 57])
  .no, .mk (some 59) none (.bin .add (.c (.one (.st (.str (ByteArray.mk (#[99])))))) (.t 58))
  .no, .mk (some 60) none (.call 12 [.t 59])
  .no, .mk none none (.store 2 (.t 4) (.t 60)) .no, .mk (some 5) none (.mov (.c (.one (.st (.int .i64 0)))))
  .no])
  .ret)
  (.seq
  (.ops
  [.mk (some 62) none (.bin .eql (.t 14) (.c (.one (.st (.int .i64 2)))))
  .no, .mk (some 61) none (.mov (.t 62))
  .no])
  (.cond (.t 61)
  (.seq
  (.ops
  [.mk (some 64) none (.fieldAddr 2 (.t 2))
  .no, .mk (some 65) none (.load false 1 (.t 64))
  .no, .mk (some 66) none
  (.indexAddr 3 (.t 65) (.c (.one (.st (.int .i64 0)))))
  .no, .mk (some 67) none (.load true 3 (.t 66))
  .no, .mk (some 68) none (.mov (.t 1))
  .no, .mk (some 69) none (.bin .add (.t 68) (.c (.one (.st (.int .i64 1)))))
  .no, .mk (some 70) none (.call 6 [.t 67, .t 69]) .no, .mk (some 63) none (.mov (.t 70))
  .no, .mk (some 71) none (.extract 0 (.t 63))
  .no, .mk (some 72) none (.extract 1 (.t 63))
  .no, .mk (some 7) none
  (.alloc 30
  [.st (.str (ByteArray.mk (#[]))), .full []])
  .no, .mk none none (.store 2 (.t 7) (.t 71)) .no, .mk (some 8) none (.mov (.t 72))
  .no])
  (.seq
  (.seq
  (.ops
  [.mk (some 73) none (.mov (.t 8))
  .no, .mk (some 74) none (.bin .neq (.t 73) (.c (.one (.st (.int .i64 0)))))
  .no])
  (.cond (.t 74)
  (.seq
  (.ops
  [.mk (some 75) none
  (.build
  [.st (.str (ByteArray.mk (#[]))), .full []] [])
  .no, .mk (some 76) none (.mov (.t 8))
  .no, .mk none none (.store 2 (.t 4) (.t 75)) .no, .mk (some 5) none (.mov (.t 76))
  .no])
  .ret)
  .skip))
  (.ops
  [.mk (some 77) none (.mov (.t 1))
  .no, .mk (some 78) none (.call 14 [.t 77])
  .no, .mk (some 79) none (.bin .add (.c (.one (.st (.str (ByteArray.mk (#[86])))))) (.t 78))
  .no, .mk (some 80) none (.load true 2 (.t 7))
  .no, .mk (some 81) none (.call 15 [.t 79, .t 80]) .no, .mk none none (.store 2 (.t 6) (.t 81)) .no])))
  (.seq
  (.ops
  [.mk (some 16) none (.fieldAddr 2 (.t 2))
  .no, .mk (some 17) none (.load false 1 (.t 16))
  .no, .mk (some 18) none
  (.indexAddr 3 (.t 17) (.c (.one (.st (.int .i64 0)))))
  .no, .mk (some 19) none (.load true 3 (.t 18))
  .no, .mk (some 20) none (.mov (.t 1))
  .no, .mk (some 21) none (.call 6 [.t 19, .t 20]) .no, .mk (some 15) none (.mov (.t 21))
  .no, .mk (some 22) none (.extract 0 (.t 15))
  .no, .mk (some 23) none (.extract 1 (.t 15))
  .no, .mk (some 9) none
  (.alloc 30
  [.st (.str (ByteArray.mk (#[]))), .full []])
  .no, .mk none none (.store 2 (.t 9) (.t 22)) .no, .mk (some 10) none (.mov (.t 23))
  .no])
  (.seq
  (.seq
  (.ops
  [.mk (some 24) none (.mov (.t 10))
  .no, .mk (some 25) none (.bin .neq (.t 24) (.c (.one (.st (.int .i64 0)))))
  .no])
  (.cond (.t 25)
  (.seq
  (.ops
  [.mk (some 26) none
  (.build
  [.st (.str (ByteArray.mk (#[]))), .full []] [])
  .no, .mk (some 27) none (.mov (.t 10))
  .no, .mk none none (.store 2 (.t 4) (.t 26)) .no, .mk (some 5) none (.mov (.t 27))
  .no])
  .ret)
  .skip))
  (.seq
  (.ops
  [.mk (some 29) none (.fieldAddr 2 (.t 2))
  .no, .mk (some 30) none (.load false 1 (.t 29))
  .no, .mk (some 31) none
  (.indexAddr 3 (.t 30) (.c (.one (.st (.int .i64 1)))))
  .no, .mk (some 32) none (.load true 3 (.t 31))
  .no, .mk (some 33) none (.mov (.t 1))
  .no, .mk (some 34) none (.call 6 [.t 32, .t 33]) .no, .mk (some 28) none (.mov (.t 34))
  .no, .mk (some 35) none (.extract 0 (.t 28))
  .no, .mk (some 36) none (.extract 1 (.t 28))
  .no, .mk (some 11) none
  (.alloc 30
  [.st (.str (ByteArray.mk (#[]))), .full []])
  .no, .mk none none (.store 2 (.t 11) (.t 35)) .no, .mk (some 10) none (.mov (.t 36))
  .no])
  (.seq
  (.seq
  (.ops
  [.mk (some 37) none (.mov (.t 10))
  .no, .mk (some 38) none (.bin .neq (.t 37) (.c (.one (.st (.int .i64 0)))))
  .no])
  (.cond (.t 38)
  (.seq
  (.ops
  [.mk (some 39) none
  (.build
  [.st (.str (ByteArray.mk (#[]))), .full []] [])
  .no, .mk (some 40) none (.mov (.t 10))
  .no, .mk none none (.store 2 (.t 4) (.t 39)) .no, .mk (some 5) none (.mov (.t 40))
  .no])
  .ret)
  .skip))
  (.ops
  [.mk (some 41) none (.load true 2 (.t 9))
  .no, .mk (some 42) none (.load true 2 (.t 11))
  .no, .mk (some 43) none (.call 11 [.t 41, .t 42]) .no, .mk none none (.store 2 (.t 6) (.t 43))
  .no])))))))))))))
  (.seq
  (.seq
  (.ops
  [.mk (some 82) none (.load true 2 (.t 6))
  .no, .mk (some 83) none (.call 8
  [.t 82, .c (.one (.st (.int .i64 2000)))])
  .no, .mk (some 84) none (.bin .gtr (.t 83) (.c (.one (.st (.int .i64 2000)))))
  .no])
  (.cond (.t 84)
  (.seq
  (.ops
  [.mk (some 85) none
  (.build
  [.st (.str (ByteArray.mk (#[]))), .full []] [])
  .no, .mk none none (.store 2 (.t 4) (.t 85))
  .no, .mk (some 5) none (.mov (.c (.one (.st (.int .i64 8)))))
  .no])
  .ret)
  .skip))
  (.seq
  (.ops
  [.mk (some 86) none (.load true 2 (.t 6))
  .no, .mk none none (.store 2 (.t 4) (.t 86))
  .no, .mk (some 5) none (.mov (.c (.one (.st (.int .i64 0)))))
  .no])
  .ret)))))
theorem tr_R_CombOf : trCode Tryz.prog 87 [] (Tryz.f6.body.getD .skip) = some ir_R_CombOf := by kernel_rfl
theorem ac_R_CombOf {xs : List AV} {r : AV} (hn : xs.length ≤ 87) (h : ∀ C : Ctx, C.n = 87 → IWP Tryz.prog C [] ir_R_CombOf (FinQ [.cell 4 true 2, .t 5] r) (AS.start xs)) : ACalls Tryz.prog 6 xs r :=
  acalls_of Tryz.func6 rfl tr_R_CombOf rfl hn h
theorem acS_R_CombOf {xs : List AV} {S S' : AStore} {r : AV} (hn : xs.length ≤ 87) (h : Clean S → ∀ C : Ctx, C.n = 87 → IWP Tryz.prog C [] ir_R_CombOf (FinS C [.cell 4 true 2, .t 5] r S') (AS.startS xs S)) : ACallsS Tryz.prog 6 xs S r S' :=
  acallsS_of Tryz.func6 rfl tr_R_CombOf rfl hn h

def ir_L_CombFrom : IR :=
  (.seq
  (.ops
  [.mk (some 1) none (.box 25 (.t 0)) .no, .mk (some 2) none (.mov (.c (.one (.st (.bool false)))))
  .no])
  (.seq
  (.seq
  (.ops
  [.mk (some 7) none (.load true 3 (.t 1)) .no, .mk (some 8) none (.call 16 [.t 7]) .no])
  (.cond (.t 8)
  (.seq
  (.ops
  [.mk (some 2) none (.mov (.c (.one (.st (.bool true)))))
  .no])
  .ret)
  .skip))
  (.seq
  (.ops
  [.mk (some 9) none (.load true 3 (.t 1)) .no, .mk (some 10) none (.call 17
  [.t 9, .c (.one (.st (.int .i64 0))), .c (.one (.st (.int .i64 0)))])
  .no, .mk (some 3) none (.mov (.t 10)) .no])
  (.seq
  (.seq
  (.ops
  [.mk (some 11) none (.mov (.t 3)) .no, .mk (some 12) none (.bin .eql (.t 11) (.c (.one (.st (.int .i64 0)))))
  .no, .mk (some 13) none (.mov (.t 12)) .no, .mk (some 14) (some (13, true)) (.load true 3 (.t 1))
  .no, .mk (some 15) (some (13, true)) (.call 18
  [.t 14, .c (.one (.st (.int .i64 40)))])
  .no, .mk (some 16) (some (13, true)) (.bin .gtr (.t 15) (.c (.one (.st (.int .i64 40)))))
  .no, .mk (some 17) none
  (.pick (.t 13) (.t 16) (.c (.one (.st (.bool false)))))
  .no])
  (.cond (.t 17)
  (.seq
  (.ops
  [.mk (some 2) none (.mov (.c (.one (.st (.bool true)))))
  .no])
  .ret)
  .skip))
  (.seq
  (.ops
  [.mk (some 18) none
  (.build [.st (.str (ByteArray.mk (#[]))), .full []]
  [])
  .no, .mk (some 4) none
  (.alloc 30
  [.st (.str (ByteArray.mk (#[]))), .full []])
  .no, .mk none none (.store 2 (.t 4) (.t 18))
  .no])
  (.seq
  (.seq
  (.ops
  [.mk (some 19) none (.mov (.t 3)) .no, .mk (some 20) none (.bin .eql (.t 19) (.c (.one (.st (.int .i64 0)))))
  .no])
  (.cond (.t 20)
  (.ops
  [.mk (some 22) none (.load true 3 (.t 1))
  .no, .mk (some 23) none (.call 6
  [.t 22, .c (.one (.st (.int .i64 0)))])
  .no, .mk (some 21) none (.mov (.t 23)) .no, .mk (some 24) none (.extract 0 (.t 21))
  .no, .mk (some 25) none (.extract 1 (.t 21))
  .no, .mk none none (.store 2 (.t 4) (.t 24))
  .no, .mk (some 3) none (.mov (.t 25)) .no])
  .skip))
  (.seq
  (.ops
  [.mk (some 27) none (.load true 3 (.t 1))
  .no, .mk (some 28) none (.call 19 [.t 27])
  .no, .mk (some 26) none (.mov (.t 28)) .no, .mk (some 29) none (.extract 0 (.t 26))
  .no, .mk (some 30) none (.extract 1 (.t 26))
  .no, .mk (some 5) none
  (.alloc 30
  [.st (.str (ByteArray.mk (#[]))), .full []])
  .no, .mk none none (.store 2 (.t 5) (.t 29))
  .no, .mk (some 6) none (.mov (.t 30)) .no])
  (.seq
  (.ops
  [.mk (some 31) none (.load true 2 (.t 5))
  .no, .mk (some 32) none (.mov (.t 6)) .no, .mk (some 33) none (.load true 2 (.t 4))
  .no, .mk (some 34) none (.mov (.t 3)) .no, .mk (some 35) none (.call 20
  [.t 31, .t 32, .t 33, .t 34])
  .no, .mk (some 2) none (.mov (.t 35)) .no])
  .ret))))))))
theorem tr_L_CombFrom : trCode Tryz.prog 36 [] (Tryz.f7.body.getD .skip) = some ir_L_CombFrom := by kernel_rfl
theorem ac_L_CombFrom {xs : List AV} {r : AV} (hn : xs.length ≤ 36) (h : ∀ C : Ctx, C.n = 36 → IWP Tryz.prog C [] ir_L_CombFrom (FinQ [.t 2] r) (AS.start xs)) : ACalls Tryz.prog 7 xs r :=
  acalls_of Tryz.func7 rfl tr_L_CombFrom rfl hn h
theorem acS_L_CombFrom {xs : List AV} {S S' : AStore} {r : AV} (hn : xs.length ≤ 36) (h : Clean S → ∀ C : Ctx, C.n = 36 → IWP Tryz.prog C [] ir_L_CombFrom (FinS C [.t 2] r S') (AS.startS xs S)) : ACallsS Tryz.prog 7 xs S r S' :=
  acallsS_of Tryz.func7 rfl tr_L_CombFrom rfl hn h

end Go.Proofs.YtbiadmlfejnbcaaGreatDoor

namespace Go.Proofs.YtbiadmlfejnbcaaGreatDoor
open Go Go.RowKit
set_option linter.unusedVariables false
set_option linter.unusedSimpArgs false
set_option maxHeartbeats 400000

/-! ### is a name there? -/
def fstN (v : ByteArray) : List Tm → Nat
  | [] => 0
  | t :: ts => if t.hasN v = true then 0 else fstN v ts + 1
theorem fstN_at {v : ByteArray} {xs : List Tm} {k : Nat} {a : Tm} (ha : xs[k]? = some a) (h : Tm.hasNs v (xs.take k) = false) (hy : a.hasN v = true) : fstN v xs = k := by
  induction xs generalizing k with
  | nil => simp at ha
  | cons x xs ih =>
    cases k with
    | zero =>
      have : x = a := by simpa using ha
      subst this
      rw [fstN, if_pos hy]
    | succ k =>
      rw [List.take_succ_cons, Tm.hasNs, Bool.or_eq_false_iff] at h
      rw [fstN, if_neg (by rw [h.1]; decide), ih (by simpa using ha) h.2]
def idxN (v : ByteArray) (xs : List Tm) : Int := if Tm.hasNs v xs = true then fstN v xs else -1
theorem idxN_iff (v : ByteArray) (xs : List Tm) : 0 ≤ idxN v xs ↔ Tm.hasNs v xs = true := by
  unfold idxN
  split <;> simp_all
theorem has1_S (v : ByteArray) (a : Tm) (hh : ACalls Tryz.prog 67 [aTm a, aStr v] (aBool (a.hasN v))) (b : Nat) (hb : 1000 ≤ b) (S : AStore) (sb : S b = some (.box 9 [.st (.str v)])) :
    ACallsS Tryz.prog 78 [aTm a, .one (.ptr b 1 0 0)] S (aBool (a.hasN v)) S := by
  refine acS_comb_has_1 (Nat.le_of_ble_eq_true rfl) fun hS C hC => ?_
  unfold ir_comb_has_1
  have s2 : S 2 = none := clean_none hS (by omega)
  have b2 : ¬ b = 2 := by omega
  repeat' (first | (with_reducible first | refine Wa ?_ | refine Wb ?_ | refine Wc ?_ | refine Wd ?_ | refine We ?_ | refine Wf ?_ | refine Wg ?_ | refine Wh ?_ | refine Wi ?_ | refine Wj ?_ | refine Wk (by decide) ?_ | refine Wl ?_ | refine Wm ?_ | refine Wn ?_) | refine CallG.mk _ (hh) ?_ | ((with_reducible first | refine Wo (fun K hK => ?_) | refine Wp ?_ | refine Wq ?_ | refine Wr ?_); (try simp only [go_sem, List.forall_mem_nil, ↓guard_ite, ↓pick_ite, seval, encT_eq, inR_i64, s2, sb, b2, decide_eq_true_eq, decide_eq_false_iff_not, Int.ofNat_lt]); (repeat with_reducible refine And.intro (by first | omega | with_reducible exact lens_encT | with_reducible exact lens_encL | (simp; done) | (simp only [List.length_take, List.length_map, List.length_append, maxLen_eq]; omega)) ?_); (try (with_reducible refine hK _ ?_; clear hK K)); (try with_reducible refine ite_conj ?_)))
  refine finS_same (aBool (a.hasN v)) hS trivial ?_ ?_ fun j hj => ?_
  · rfl
  · rfl
  · have j2 : ¬ j = 2 := by omega
    simp only [updE, j2, if_false]
theorem indexFunc_S (v : ByteArray) (xs : List Tm) (hh : ∀ a ∈ xs, ACalls Tryz.prog 67 [aTm a, aStr v] (aBool (a.hasN v))) (hl : xs.length ≤ 1000000) (b : Nat) (hb : 1000 ≤ b) (S : AStore) (sb : S b = some (.box 9 [.st (.str v)])) :
    ACallsS Tryz.prog 84 [aTms xs, .one (.fn 78 [.ptr b 1 0 0])] S (aInt (idxN v xs)) S := by
  refine acS_slices_IndexFunc_metaprune_api_Term_metaprune_api_Term (Nat.le_of_ble_eq_true rfl) fun hS C hC => ?_
  unfold ir_slices_IndexFunc_metaprune_api_Term_metaprune_api_Term
  repeat' (first | (with_reducible first | refine Wa ?_ | refine Wb ?_ | refine Wc ?_ | refine Wd ?_ | refine We ?_ | refine Wf ?_ | refine Wg ?_ | refine Wh ?_ | refine Wi ?_ | refine Wj ?_ | refine Wk (by decide) ?_ | refine Wl ?_ | refine Wm ?_ | refine Wn ?_) | ((with_reducible first | refine Wo (fun K hK => ?_) | refine Wp ?_ | refine Wq ?_ | refine Wr ?_); (try simp only [go_sem, List.forall_mem_nil, ↓guard_ite, ↓pick_ite, seval, encT_eq, inR_i64, decide_eq_true_eq, decide_eq_false_iff_not, Int.ofNat_lt]); (repeat with_reducible refine And.intro (by first | omega | with_reducible exact lens_encT | with_reducible exact lens_encL | (simp; done) | (simp only [List.length_take, List.length_map, List.length_append, maxLen_eq]; omega)) ?_); (try (with_reducible refine hK _ ?_; clear hK K)); (try with_reducible refine ite_conj ?_)))
  refine IWP.loop (fun n s => ∃ k, k ≤ xs.length ∧ n = xs.length - k ∧ Tm.hasNs v (xs.take k) = false ∧ s.env 0 = aTms xs ∧ s.env 1 = .one (.fn 78 [.ptr b 1 0 0]) ∧ s.env 7 = aInt xs.length ∧ s.env 8 = aInt k ∧ s.S = S) xs.length ⟨0, Nat.zero_le _, rfl, rfl, rfl, rfl, rfl, rfl, rfl⟩ ?_
  rintro n ⟨env, S'⟩ ⟨k, hk, rfl, hp, e0, e1, e7, e8, eS⟩
  simp only at e0 e1 e7 e8 eS
  subst eS
  by_cases hlt : (k : Int) < xs.length
  · obtain ⟨a, ha⟩ := get_lt (show k < xs.length by omega)
    repeat' (first | (with_reducible first | refine Wa ?_ | refine Wb ?_ | refine Wc ?_ | refine Wd ?_ | refine We ?_ | refine Wf ?_ | refine Wg ?_ | refine Wh ?_ | refine Wi ?_ | refine Wj ?_ | refine Wk (by decide) ?_ | refine Wl ?_ | refine Wm ?_ | refine Wn ?_) | ((with_reducible first | refine Wo (fun K hK => ?_) | refine Wp ?_ | refine Wq ?_ | refine Wr ?_); (try simp only [go_sem, List.forall_mem_nil, ↓guard_ite, ↓pick_ite, seval, encT_eq, inR_i64, e0, e1, e7, e8, hlt, ha, decide_eq_true_eq, decide_eq_false_iff_not, Int.ofNat_lt]); (repeat with_reducible refine And.intro (by first | omega | with_reducible exact lens_encT | with_reducible exact lens_encL | (simp; done) | (simp only [List.length_take, List.length_map, List.length_append, maxLen_eq]; omega)) ?_); (try (with_reducible refine hK _ ?_; clear hK K)); (try with_reducible refine ite_conj ?_)))
    first | refine ⟨by kernel_rfl, _, _, has1_S v a (hh a (mem_of_get ha)) (up1 b) (up1_le b) (upS S') (by rw [upS_up, sb]; rfl), ?_⟩ | refine ⟨_, _, has1_S v a (hh a (mem_of_get ha)) (up1 b) (up1_le b) (upS S') (by rw [upS_up, sb]; rfl), ?_⟩
    by_cases hr : a.hasN v = true
    · have hi : idxN v xs = k := by
        unfold idxN
        rw [if_pos (Tm.hasNs_yes (k := k + 1) (by rw [Tm.hasNs_take ha hp, hr])), fstN_at ha hp hr]
      repeat' (first | (with_reducible first | refine Wa ?_ | refine Wb ?_ | refine Wc ?_ | refine Wd ?_ | refine We ?_ | refine Wf ?_ | refine Wg ?_ | refine Wh ?_ | refine Wi ?_ | refine Wj ?_ | refine Wk (by decide) ?_ | refine Wl ?_ | refine Wm ?_ | refine Wn ?_) | ((with_reducible first | refine Wo (fun K hK => ?_) | refine Wp ?_ | refine Wq ?_ | refine Wr ?_); (try simp only [go_sem, List.forall_mem_nil, ↓guard_ite, ↓pick_ite, seval, encT_eq, inR_i64, e0, e1, e7, e8, hr, decide_eq_true_eq, decide_eq_false_iff_not, Int.ofNat_lt]); (repeat with_reducible refine And.intro (by first | omega | with_reducible exact lens_encT | with_reducible exact lens_encL | (simp; done) | (simp only [List.length_take, List.length_map, List.length_append, maxLen_eq]; omega)) ?_); (try (with_reducible refine hK _ ?_; clear hK K)); (try with_reducible refine ite_conj ?_)))
      refine finS_same (aInt (idxN v xs)) hS trivial ?_ ?_ fun j hj => ?_
      · simp [resAll, resOne, tupV, updE, hi]
      · rfl
      · rfl
    · have hr' : a.hasN v = false := by simpa using hr
      repeat' (first | (with_reducible first | refine Wa ?_ | refine Wb ?_ | refine Wc ?_ | refine Wd ?_ | refine We ?_ | refine Wf ?_ | refine Wg ?_ | refine Wh ?_ | refine Wi ?_ | refine Wj ?_ | refine Wk (by decide) ?_ | refine Wl ?_ | refine Wm ?_ | refine Wn ?_) | ((with_reducible first | refine Wo (fun K hK => ?_) | refine Wp ?_ | refine Wq ?_ | refine Wr ?_); (try simp only [go_sem, List.forall_mem_nil, ↓guard_ite, ↓pick_ite, seval, encT_eq, inR_i64, e0, e1, e7, e8, hr', decide_eq_true_eq, decide_eq_false_iff_not, Int.ofNat_lt]); (repeat with_reducible refine And.intro (by first | omega | with_reducible exact lens_encT | with_reducible exact lens_encL | (simp; done) | (simp only [List.length_take, List.length_map, List.length_append, maxLen_eq]; omega)) ?_); (try (with_reducible refine hK _ ?_; clear hK K)); (try with_reducible refine ite_conj ?_)))
      refine then_normal ⟨xs.length - (k + 1), by omega, k + 1, by omega, rfl, ?_⟩
      simp only [go_sem, List.forall_mem_nil, ↓guard_ite, ↓pick_ite, seval, encT_eq, inR_i64, e0, e1, e7, e8]
      exact ⟨by rw [Tm.hasNs_take ha hp, hr'], by congr 3⟩
  · rw [List.take_of_length_le (by omega)] at hp
    have hi : idxN v xs = -1 := by
      unfold idxN
      rw [if_neg (by rw [hp]; decide)]
    repeat' (first | (with_reducible first | refine Wa ?_ | refine Wb ?_ | refine Wc ?_ | refine Wd ?_ | refine We ?_ | refine Wf ?_ | refine Wg ?_ | refine Wh ?_ | refine Wi ?_ | refine Wj ?_ | refine Wk (by decide) ?_ | refine Wl ?_ | refine Wm ?_ | refine Wn ?_) | ((with_reducible first | refine Wo (fun K hK => ?_) | refine Wp ?_ | refine Wq ?_ | refine Wr ?_); (try simp only [go_sem, List.forall_mem_nil, ↓guard_ite, ↓pick_ite, seval, encT_eq, inR_i64, e0, e1, e7, e8, hlt, decide_eq_true_eq, decide_eq_false_iff_not, Int.ofNat_lt]); (repeat with_reducible refine And.intro (by first | omega | with_reducible exact lens_encT | with_reducible exact lens_encL | (simp; done) | (simp only [List.length_take, List.length_map, List.length_append, maxLen_eq]; omega)) ?_); (try (with_reducible refine hK _ ?_; clear hK K)); (try with_reducible refine ite_conj ?_)))
    refine finS_same (aInt (idxN v xs)) hS trivial ?_ ?_ fun j hj => ?_
    · simp [resAll, resOne, tupV, updE, hi]
    · rfl
    · rfl
theorem containsFunc_S (v : ByteArray) (xs : List Tm) (hh : ∀ a ∈ xs, ACalls Tryz.prog 67 [aTm a, aStr v] (aBool (a.hasN v))) (hl : xs.length ≤ 1000000) (b : Nat) (hb : 1000 ≤ b) (S : AStore) (sb : S b = some (.box 9 [.st (.str v)])) :
    ACallsS Tryz.prog 77 [aTms xs, .one (.fn 78 [.ptr b 1 0 0])] S (aBool (Tm.hasNs v xs)) S := by
  refine acS_slices_ContainsFunc_metaprune_api_Term_metaprune_api_Term (Nat.le_of_ble_eq_true rfl) fun hS C hC => ?_
  unfold ir_slices_ContainsFunc_metaprune_api_Term_metaprune_api_Term
  repeat' (first | (with_reducible first | refine Wa ?_ | refine Wb ?_ | refine Wc ?_ | refine Wd ?_ | refine We ?_ | refine Wf ?_ | refine Wg ?_ | refine Wh ?_ | refine Wi ?_ | refine Wj ?_ | refine Wk (by decide) ?_ | refine Wl ?_ | refine Wm ?_ | refine Wn ?_) | ((with_reducible first | refine Wo (fun K hK => ?_) | refine Wp ?_ | refine Wq ?_ | refine Wr ?_); (try simp only [go_sem, List.forall_mem_nil, ↓guard_ite, ↓pick_ite, seval, encT_eq, inR_i64, decide_eq_true_eq, decide_eq_false_iff_not, Int.ofNat_lt]); (repeat with_reducible refine And.intro (by first | omega | with_reducible exact lens_encT | with_reducible exact lens_encL | (simp; done) | (simp only [List.length_take, List.length_map, List.length_append, maxLen_eq]; omega)) ?_); (try (with_reducible refine hK _ ?_; clear hK K)); (try with_reducible refine ite_conj ?_)))
  refine ⟨_, _, indexFunc_S v xs hh hl (up1 b) (up1_le b) (upS S) (by rw [upS_up, sb]; rfl), ?_⟩
  have hi := idxN_iff v xs
  repeat' (first | (with_reducible first | refine Wa ?_ | refine Wb ?_ | refine Wc ?_ | refine Wd ?_ | refine We ?_ | refine Wf ?_ | refine Wg ?_ | refine Wh ?_ | refine Wi ?_ | refine Wj ?_ | refine Wk (by decide) ?_ | refine Wl ?_ | refine Wm ?_ | refine Wn ?_) | ((with_reducible first | refine Wo (fun K hK => ?_) | refine Wp ?_ | refine Wq ?_ | refine Wr ?_); (try simp only [go_sem, List.forall_mem_nil, ↓guard_ite, ↓pick_ite, seval, encT_eq, inR_i64, hi, decide_eq_true_eq, decide_eq_false_iff_not, Int.ofNat_lt]); (repeat with_reducible refine And.intro (by first | omega | with_reducible exact lens_encT | with_reducible exact lens_encL | (simp; done) | (simp only [List.length_take, List.length_map, List.length_append, maxLen_eq]; omega)) ?_); (try (with_reducible refine hK _ ?_; clear hK K)); (try with_reducible refine ite_conj ?_)))
  refine finS_same (aBool (Tm.hasNs v xs)) hS trivial ?_ ?_ fun j hj => ?_
  · simp [resAll, resOne, tupV, updE]
  · rfl
  · rfl
theorem hasN_a (v : ByteArray) (t : Tm) (hz : t.size ≤ 1000000) : ACalls Tryz.prog 67 [aTm t, aStr v] (aBool (t.hasN v)) := by
  induction h : SizeOf.sizeOf t using Nat.strongRecOn generalizing t with
  | _ N ih =>
  subst h
  have hs := Tm.size_eq t
  have hlen := Tm.length_le t.args
  rw [Tm.hasN_eq]
  by_cases h1 : t.name = v
  · refine ac_comb_has (Nat.le_of_ble_eq_true rfl) fun C hC => ?_
    unfold ir_comb_has
    repeat' (first | (with_reducible first | refine Wa ?_ | refine Wb ?_ | refine Wc ?_ | refine Wd ?_ | refine We ?_ | refine Wf ?_ | refine Wg ?_ | refine Wh ?_ | refine Wi ?_ | refine Wj ?_ | refine Wk (by decide) ?_ | refine Wl ?_ | refine Wm ?_ | refine Wn ?_) | ((with_reducible first | refine Wo (fun K hK => ?_) | refine Wp ?_ | refine Wq ?_ | refine Wr ?_); (try simp only [go_sem, List.forall_mem_nil, ↓guard_ite, ↓pick_ite, seval, encT_eq, inR_i64, h1, decide_eq_true_eq, decide_eq_false_iff_not, Int.ofNat_lt]); (repeat with_reducible refine And.intro (by first | omega | with_reducible exact lens_encT | with_reducible exact lens_encL | (simp; done) | (simp only [List.length_take, List.length_map, List.length_append, maxLen_eq]; omega)) ?_); (try (with_reducible refine hK _ ?_; clear hK K)); (try with_reducible refine ite_conj ?_)))
    simp only [go_sem, List.forall_mem_nil, ↓guard_ite, ↓pick_ite, seval, FinQ, AS.result, resAll, resOne, tupV, h1]
    try simp
  · refine ac_comb_has (Nat.le_of_ble_eq_true rfl) fun C hC => ?_
    unfold ir_comb_has
    repeat' (first | (with_reducible first | refine Wa ?_ | refine Wb ?_ | refine Wc ?_ | refine Wd ?_ | refine We ?_ | refine Wf ?_ | refine Wg ?_ | refine Wh ?_ | refine Wi ?_ | refine Wj ?_ | refine Wk (by decide) ?_ | refine Wl ?_ | refine Wm ?_ | refine Wn ?_) | ((with_reducible first | refine Wo (fun K hK => ?_) | refine Wp ?_ | refine Wq ?_ | refine Wr ?_); (try simp only [go_sem, List.forall_mem_nil, ↓guard_ite, ↓pick_ite, seval, encT_eq, inR_i64, h1, decide_eq_true_eq, decide_eq_false_iff_not, Int.ofNat_lt]); (repeat with_reducible refine And.intro (by first | omega | with_reducible exact lens_encT | with_reducible exact lens_encL | (simp; done) | (simp only [List.length_take, List.length_map, List.length_append, maxLen_eq]; omega)) ?_); (try (with_reducible refine hK _ ?_; clear hK K)); (try with_reducible refine ite_conj ?_)))
    refine ⟨_, _, containsFunc_S v t.args (fun a ha => ih _ (Tm.lt_of_arg ha) a (by have := Tm.size_mem ha; omega) rfl) (by omega) (up1 3) (up1_le 3) _ (by rw [upS_up]; rfl), ?_⟩
    repeat' (first | (with_reducible first | refine Wa ?_ | refine Wb ?_ | refine Wc ?_ | refine Wd ?_ | refine We ?_ | refine Wf ?_ | refine Wg ?_ | refine Wh ?_ | refine Wi ?_ | refine Wj ?_ | refine Wk (by decide) ?_ | refine Wl ?_ | refine Wm ?_ | refine Wn ?_) | ((with_reducible first | refine Wo (fun K hK => ?_) | refine Wp ?_ | refine Wq ?_ | refine Wr ?_); (try simp only [go_sem, List.forall_mem_nil, ↓guard_ite, ↓pick_ite, seval, encT_eq, inR_i64, h1, decide_eq_true_eq, decide_eq_false_iff_not, Int.ofNat_lt]); (repeat with_reducible refine And.intro (by first | omega | with_reducible exact lens_encT | with_reducible exact lens_encL | (simp; done) | (simp only [List.length_take, List.length_map, List.length_append, maxLen_eq]; omega)) ?_); (try (with_reducible refine hK _ ?_; clear hK K)); (try with_reducible refine ite_conj ?_)))
    simp only [go_sem, List.forall_mem_nil, ↓guard_ite, ↓pick_ite, seval, FinQ, AS.result, resAll, resOne, tupV, h1]
    try simp [h1]
end Go.Proofs.YtbiadmlfejnbcaaGreatDoor

namespace Go.Proofs.YtbiadmlfejnbcaaGreatDoor
open Go Go.RowKit
set_option linter.unusedVariables false
set_option linter.unusedSimpArgs false
set_option maxHeartbeats 1000000

set_option maxRecDepth 100000 in
theorem small_a (n : Nat) (h : n < 100) : ACalls Tryz.prog 90 [aInt n] (aStr (dec2 n)) := by
  refine ac_internal_strconv_small (Nat.le_of_ble_eq_true rfl) fun C hC => ?_
  unfold ir_internal_strconv_small
  by_cases h1 : (n : Int) < 10
  · have h2 : n < 10 := by omega
    have h3 : ((n : Int) + 1).toNat = n + 1 := by omega
    repeat' (first | (with_reducible first | refine Wa ?_ | refine Wb ?_ | refine Wc ?_ | refine Wd ?_ | refine We ?_ | refine Wf ?_ | refine Wg ?_ | refine Wh ?_ | refine Wi ?_ | refine Wj ?_ | refine Wk (by decide) ?_ | refine Wl ?_ | refine Wm ?_ | refine Wn ?_) | ((with_reducible first | refine Wo (fun K hK => ?_) | refine Wp ?_ | refine Wq ?_ | refine Wr ?_); (try simp only [go_sem, List.forall_mem_nil, ↓guard_ite, ↓pick_ite, seval, encT_eq, inR_i64, h1, List.size_toArray, h3, decide_eq_true_eq, decide_eq_false_iff_not, Int.ofNat_lt]); (repeat with_reducible refine And.intro (by first | omega | with_reducible exact lens_encT | with_reducible exact lens_encL | (simp; done) | (simp only [List.length_take, List.length_map, List.length_append, maxLen_eq]; omega)) ?_); (try (with_reducible refine hK _ ?_; clear hK K)); (try with_reducible refine ite_conj ?_)))
    simp only [go_sem, List.forall_mem_nil, ↓guard_ite, ↓pick_ite, seval, FinQ, AS.result, resAll, resOne, tupV]
    congr 3
    clear h1 h3 h
    revert n
    decide +kernel
  · have h2 : ¬ n < 10 := by omega
    have h3 : ((n : Int) * 2).toNat = n * 2 := by omega
    have h4 : ((n : Int) * 2 + 2).toNat = n * 2 + 2 := by omega
    repeat' (first | (with_reducible first | refine Wa ?_ | refine Wb ?_ | refine Wc ?_ | refine Wd ?_ | refine We ?_ | refine Wf ?_ | refine Wg ?_ | refine Wh ?_ | refine Wi ?_ | refine Wj ?_ | refine Wk (by decide) ?_ | refine Wl ?_ | refine Wm ?_ | refine Wn ?_) | ((with_reducible first | refine Wo (fun K hK => ?_) | refine Wp ?_ | refine Wq ?_ | refine Wr ?_); (try simp only [go_sem, List.forall_mem_nil, ↓guard_ite, ↓pick_ite, seval, encT_eq, inR_i64, h1, List.size_toArray, h3, h4, decide_eq_true_eq, decide_eq_false_iff_not, Int.ofNat_lt]); (repeat with_reducible refine And.intro (by first | omega | with_reducible exact lens_encT | with_reducible exact lens_encL | (simp; done) | (simp only [List.length_take, List.length_map, List.length_append, maxLen_eq]; omega)) ?_); (try (with_reducible refine hK _ ?_; clear hK K)); (try with_reducible refine ite_conj ?_)))
    simp only [go_sem, List.forall_mem_nil, ↓guard_ite, ↓pick_ite, seval, FinQ, AS.result, resAll, resOne, tupV]
    congr 3
    clear h1 h3 h4
    revert h2
    revert n
    decide +kernel
theorem nameC_a (n : ByteArray) : ACalls Tryz.prog 60 [aStr n] (aTm (leafOf n)) := by
  refine ac_comb_name (Nat.le_of_ble_eq_true rfl) fun C hC => ?_
  unfold ir_comb_name
  repeat' (first | (with_reducible first | refine Wa ?_ | refine Wb ?_ | refine Wc ?_ | refine Wd ?_ | refine We ?_ | refine Wf ?_ | refine Wg ?_ | refine Wh ?_ | refine Wi ?_ | refine Wj ?_ | refine Wk (by decide) ?_ | refine Wl ?_ | refine Wm ?_ | refine Wn ?_) | ((with_reducible first | refine Wo (fun K hK => ?_) | refine Wp ?_ | refine Wq ?_ | refine Wr ?_); (try simp only [go_sem, List.forall_mem_nil, ↓guard_ite, ↓pick_ite, seval, encT_eq, inR_i64, decide_eq_true_eq, decide_eq_false_iff_not, Int.ofNat_lt]); (repeat with_reducible refine And.intro (by first | omega | with_reducible exact lens_encT | with_reducible exact lens_encL | (simp; done) | (simp only [List.length_take, List.length_map, List.length_append, maxLen_eq]; omega)) ?_); (try (with_reducible refine hK _ ?_; clear hK K)); (try with_reducible refine ite_conj ?_)))
  simp only [go_sem, List.forall_mem_nil, ↓guard_ite, ↓pick_ite, seval, FinQ, AS.result, resAll, resOne, tupV]
  rfl
theorem leafR_a (n : ByteArray) : ACalls Tryz.prog 12 [aStr n] (aTm (leafOf n)) := by
  refine ac_R_Leaf (Nat.le_of_ble_eq_true rfl) fun C hC => ?_
  unfold ir_R_Leaf
  repeat' (first | (with_reducible first | refine Wa ?_ | refine Wb ?_ | refine Wc ?_ | refine Wd ?_ | refine We ?_ | refine Wf ?_ | refine Wg ?_ | refine Wh ?_ | refine Wi ?_ | refine Wj ?_ | refine Wk (by decide) ?_ | refine Wl ?_ | refine Wm ?_ | refine Wn ?_) | ((with_reducible first | refine Wo (fun K hK => ?_) | refine Wp ?_ | refine Wq ?_ | refine Wr ?_); (try simp only [go_sem, List.forall_mem_nil, ↓guard_ite, ↓pick_ite, seval, encT_eq, inR_i64, decide_eq_true_eq, decide_eq_false_iff_not, Int.ofNat_lt]); (repeat with_reducible refine And.intro (by first | omega | with_reducible exact lens_encT | with_reducible exact lens_encL | (simp; done) | (simp only [List.length_take, List.length_map, List.length_append, maxLen_eq]; omega)) ?_); (try (with_reducible refine hK _ ?_; clear hK K)); (try with_reducible refine ite_conj ?_)))
  simp only [go_sem, List.forall_mem_nil, ↓guard_ite, ↓pick_ite, seval, FinQ, AS.result, resAll, resOne, tupV]
  rfl
def fitR (t : Tm) : Tm × Int := if 2000 < t.size then (.mk ⟨#[]⟩ [], 8) else (t, 0)
theorem fit_a (t : Tm) (hz : t.size ≤ 1000000) : ACalls Tryz.prog 51 [aTm t] (.tup [aTm (fitR t).1, aInt (fitR t).2]) := by
  refine ac_comb_fit (Nat.le_of_ble_eq_true rfl) fun C hC => ?_
  unfold ir_comb_fit
  unfold fitR
  by_cases h : 2000 < (t.size : Int)
  · rw [if_pos (by omega)]
    repeat' (first | (with_reducible first | refine Wa ?_ | refine Wb ?_ | refine Wc ?_ | refine Wd ?_ | refine We ?_ | refine Wf ?_ | refine Wg ?_ | refine Wh ?_ | refine Wi ?_ | refine Wj ?_ | refine Wk (by decide) ?_ | refine Wl ?_ | refine Wm ?_ | refine Wn ?_) | refine CallG.mk _ (tsize_a t hz) ?_ | ((with_reducible first | refine Wo (fun K hK => ?_) | refine Wp ?_ | refine Wq ?_ | refine Wr ?_); (try simp only [go_sem, List.forall_mem_nil, ↓guard_ite, ↓pick_ite, seval, encT_eq, inR_i64, h, decide_eq_true_eq, decide_eq_false_iff_not, Int.ofNat_lt]); (repeat with_reducible refine And.intro (by first | omega | with_reducible exact lens_encT | with_reducible exact lens_encL | (simp; done) | (simp only [List.length_take, List.length_map, List.length_append, maxLen_eq]; omega)) ?_); (try (with_reducible refine hK _ ?_; clear hK K)); (try with_reducible refine ite_conj ?_)))
    simp only [go_sem, List.forall_mem_nil, ↓guard_ite, ↓pick_ite, seval, FinQ, AS.result, resAll, resOne, tupV]
    rfl
  · rw [if_neg (by omega)]
    repeat' (first | (with_reducible first | refine Wa ?_ | refine Wb ?_ | refine Wc ?_ | refine Wd ?_ | refine We ?_ | refine Wf ?_ | refine Wg ?_ | refine Wh ?_ | refine Wi ?_ | refine Wj ?_ | refine Wk (by decide) ?_ | refine Wl ?_ | refine Wm ?_ | refine Wn ?_) | refine CallG.mk _ (tsize_a t hz) ?_ | refine CallG.mk _ (copy_a t hz) ?_ | ((with_reducible first | refine Wo (fun K hK => ?_) | refine Wp ?_ | refine Wq ?_ | refine Wr ?_); (try simp only [go_sem, List.forall_mem_nil, ↓guard_ite, ↓pick_ite, seval, encT_eq, inR_i64, h, decide_eq_true_eq, decide_eq_false_iff_not, Int.ofNat_lt]); (repeat with_reducible refine And.intro (by first | omega | with_reducible exact lens_encT | with_reducible exact lens_encL | (simp; done) | (simp only [List.length_take, List.length_map, List.length_append, maxLen_eq]; omega)) ?_); (try (with_reducible refine hK _ ?_; clear hK K)); (try with_reducible refine ite_conj ?_)))
    simp only [go_sem, List.forall_mem_nil, ↓guard_ite, ↓pick_ite, seval, FinQ, AS.result, resAll, resOne, tupV]
theorem without_a (v : ByteArray) (t : Tm) (hf : t.fm = true) (hz : t.size ≤ 100000) : ACalls Tryz.prog 52 [aStr v, aTm t] (aTm (t.br v)) := by
  induction h : SizeOf.sizeOf t using Nat.strongRecOn generalizing t with
  | _ N ih =>
  subst h
  have hs := Tm.size_eq t
  by_cases h0 : t.hasN v = true
  case neg =>
    have h0' : t.hasN v = false := by simpa using h0
    rw [Tm.br_none h0']
    refine ac_comb_without (Nat.le_of_ble_eq_true rfl) fun C hC => ?_
    unfold ir_comb_without
    repeat' (first | (with_reducible first | refine Wa ?_ | refine Wb ?_ | refine Wc ?_ | refine Wd ?_ | refine We ?_ | refine Wf ?_ | refine Wg ?_ | refine Wh ?_ | refine Wi ?_ | refine Wj ?_ | refine Wk (by decide) ?_ | refine Wl ?_ | refine Wm ?_ | refine Wn ?_) | ((with_reducible first | refine Wo (fun K hK => ?_) | refine Wp ?_ | refine Wq ?_ | refine Wr ?_); (try simp only [go_sem, List.forall_mem_nil, ↓guard_ite, ↓pick_ite, seval, encT_eq, inR_i64, decide_eq_true_eq, decide_eq_false_iff_not, Int.ofNat_lt]); (repeat with_reducible refine And.intro (by first | omega | with_reducible exact lens_encT | with_reducible exact lens_encL | (simp; done) | (simp only [List.length_take, List.length_map, List.length_append, maxLen_eq]; omega)) ?_); (try (with_reducible refine hK _ ?_; clear hK K)); (try with_reducible refine ite_conj ?_)))
    refine ⟨_, hasN_a v t (by omega), ?_⟩
    repeat' (first | (with_reducible first | refine Wa ?_ | refine Wb ?_ | refine Wc ?_ | refine Wd ?_ | refine We ?_ | refine Wf ?_ | refine Wg ?_ | refine Wh ?_ | refine Wi ?_ | refine Wj ?_ | refine Wk (by decide) ?_ | refine Wl ?_ | refine Wm ?_ | refine Wn ?_) | ((with_reducible first | refine Wo (fun K hK => ?_) | refine Wp ?_ | refine Wq ?_ | refine Wr ?_); (try simp only [go_sem, List.forall_mem_nil, ↓guard_ite, ↓pick_ite, seval, encT_eq, inR_i64, h0', decide_eq_true_eq, decide_eq_false_iff_not, Int.ofNat_lt]); (repeat with_reducible refine And.intro (by first | omega | with_reducible exact lens_encT | with_reducible exact lens_encL | (simp; done) | (simp only [List.length_take, List.length_map, List.length_append, maxLen_eq]; omega)) ?_); (try (with_reducible refine hK _ ?_; clear hK K)); (try with_reducible refine ite_conj ?_)))
    refine ⟨_, nameC_a kS, ?_⟩
    repeat' (first | (with_reducible first | refine Wa ?_ | refine Wb ?_ | refine Wc ?_ | refine Wd ?_ | refine We ?_ | refine Wf ?_ | refine Wg ?_ | refine Wh ?_ | refine Wi ?_ | refine Wj ?_ | refine Wk (by decide) ?_ | refine Wl ?_ | refine Wm ?_ | refine Wn ?_) | ((with_reducible first | refine Wo (fun K hK => ?_) | refine Wp ?_ | refine Wq ?_ | refine Wr ?_); (try simp only [go_sem, List.forall_mem_nil, ↓guard_ite, ↓pick_ite, seval, encT_eq, inR_i64, decide_eq_true_eq, decide_eq_false_iff_not, Int.ofNat_lt]); (repeat with_reducible refine And.intro (by first | omega | with_reducible exact lens_encT | with_reducible exact lens_encL | (simp; done) | (simp only [List.length_take, List.length_map, List.length_append, maxLen_eq]; omega)) ?_); (try (with_reducible refine hK _ ?_; clear hK K)); (try with_reducible refine ite_conj ?_)))
    refine ⟨_, apC_a (leafOf kS) t, ?_⟩
    repeat' (first | (with_reducible first | refine Wa ?_ | refine Wb ?_ | refine Wc ?_ | refine Wd ?_ | refine We ?_ | refine Wf ?_ | refine Wg ?_ | refine Wh ?_ | refine Wi ?_ | refine Wj ?_ | refine Wk (by decide) ?_ | refine Wl ?_ | refine Wm ?_ | refine Wn ?_) | ((with_reducible first | refine Wo (fun K hK => ?_) | refine Wp ?_ | refine Wq ?_ | refine Wr ?_); (try simp only [go_sem, List.forall_mem_nil, ↓guard_ite, ↓pick_ite, seval, encT_eq, inR_i64, decide_eq_true_eq, decide_eq_false_iff_not, Int.ofNat_lt]); (repeat with_reducible refine And.intro (by first | omega | with_reducible exact lens_encT | with_reducible exact lens_encL | (simp; done) | (simp only [List.length_take, List.length_map, List.length_append, maxLen_eq]; omega)) ?_); (try (with_reducible refine hK _ ?_; clear hK K)); (try with_reducible refine ite_conj ?_)))
    simp only [go_sem, List.forall_mem_nil, ↓guard_ite, ↓pick_ite, seval, FinQ, AS.result, resAll, resOne, tupV]
  case pos =>
  by_cases h1 : t.name = v
  · rw [Tm.br_self h0 h1]
    refine ac_comb_without (Nat.le_of_ble_eq_true rfl) fun C hC => ?_
    unfold ir_comb_without
    repeat' (first | (with_reducible first | refine Wa ?_ | refine Wb ?_ | refine Wc ?_ | refine Wd ?_ | refine We ?_ | refine Wf ?_ | refine Wg ?_ | refine Wh ?_ | refine Wi ?_ | refine Wj ?_ | refine Wk (by decide) ?_ | refine Wl ?_ | refine Wm ?_ | refine Wn ?_) | ((with_reducible first | refine Wo (fun K hK => ?_) | refine Wp ?_ | refine Wq ?_ | refine Wr ?_); (try simp only [go_sem, List.forall_mem_nil, ↓guard_ite, ↓pick_ite, seval, encT_eq, inR_i64, decide_eq_true_eq, decide_eq_false_iff_not, Int.ofNat_lt]); (repeat with_reducible refine And.intro (by first | omega | with_reducible exact lens_encT | with_reducible exact lens_encL | (simp; done) | (simp only [List.length_take, List.length_map, List.length_append, maxLen_eq]; omega)) ?_); (try (with_reducible refine hK _ ?_; clear hK K)); (try with_reducible refine ite_conj ?_)))
    refine ⟨_, hasN_a v t (by omega), ?_⟩
    repeat' (first | (with_reducible first | refine Wa ?_ | refine Wb ?_ | refine Wc ?_ | refine Wd ?_ | refine We ?_ | refine Wf ?_ | refine Wg ?_ | refine Wh ?_ | refine Wi ?_ | refine Wj ?_ | refine Wk (by decide) ?_ | refine Wl ?_ | refine Wm ?_ | refine Wn ?_) | ((with_reducible first | refine Wo (fun K hK => ?_) | refine Wp ?_ | refine Wq ?_ | refine Wr ?_); (try simp only [go_sem, List.forall_mem_nil, ↓guard_ite, ↓pick_ite, seval, encT_eq, inR_i64, h0, h1, decide_eq_true_eq, decide_eq_false_iff_not, Int.ofNat_lt]); (repeat with_reducible refine And.intro (by first | omega | with_reducible exact lens_encT | with_reducible exact lens_encL | (simp; done) | (simp only [List.length_take, List.length_map, List.length_append, maxLen_eq]; omega)) ?_); (try (with_reducible refine hK _ ?_; clear hK K)); (try with_reducible refine ite_conj ?_)))
    refine ⟨_, nameC_a iS, ?_⟩
    repeat' (first | (with_reducible first | refine Wa ?_ | refine Wb ?_ | refine Wc ?_ | refine Wd ?_ | refine We ?_ | refine Wf ?_ | refine Wg ?_ | refine Wh ?_ | refine Wi ?_ | refine Wj ?_ | refine Wk (by decide) ?_ | refine Wl ?_ | refine Wm ?_ | refine Wn ?_) | ((with_reducible first | refine Wo (fun K hK => ?_) | refine Wp ?_ | refine Wq ?_ | refine Wr ?_); (try simp only [go_sem, List.forall_mem_nil, ↓guard_ite, ↓pick_ite, seval, encT_eq, inR_i64, decide_eq_true_eq, decide_eq_false_iff_not, Int.ofNat_lt]); (repeat with_reducible refine And.intro (by first | omega | with_reducible exact lens_encT | with_reducible exact lens_encL | (simp; done) | (simp only [List.length_take, List.length_map, List.length_append, maxLen_eq]; omega)) ?_); (try (with_reducible refine hK _ ?_; clear hK K)); (try with_reducible refine ite_conj ?_)))
    simp only [go_sem, List.forall_mem_nil, ↓guard_ite, ↓pick_ite, seval, FinQ, AS.result, resAll, resOne, tupV]
  rcases Tm.fm_cases hf with g0 | ⟨f, x, _, ha, hf1, hx1⟩
  · exact absurd g0 (leaf_has h0 h1)
  have hfm : f ∈ t.args := by rw [ha]; simp
  have hxm : x ∈ t.args := by rw [ha]; simp
  have sf := Tm.size_mem hfm
  have sx := Tm.size_mem hxm
  rw [Tm.br_ap h0 h1 ha]
  by_cases h2 : x.name = v
  · by_cases h3 : f.hasN v = true
    · rw [if_neg (fun h => by rw [h3] at h; exact absurd h.2 (by decide))]
      refine ac_comb_without (Nat.le_of_ble_eq_true rfl) fun C hC => ?_
      unfold ir_comb_without
      repeat' (first | (with_reducible first | refine Wa ?_ | refine Wb ?_ | refine Wc ?_ | refine Wd ?_ | refine We ?_ | refine Wf ?_ | refine Wg ?_ | refine Wh ?_ | refine Wi ?_ | refine Wj ?_ | refine Wk (by decide) ?_ | refine Wl ?_ | refine Wm ?_ | refine Wn ?_) | ((with_reducible first | refine Wo (fun K hK => ?_) | refine Wp ?_ | refine Wq ?_ | refine Wr ?_); (try simp only [go_sem, List.forall_mem_nil, ↓guard_ite, ↓pick_ite, seval, encT_eq, inR_i64, decide_eq_true_eq, decide_eq_false_iff_not, Int.ofNat_lt]); (repeat with_reducible refine And.intro (by first | omega | with_reducible exact lens_encT | with_reducible exact lens_encL | (simp; done) | (simp only [List.length_take, List.length_map, List.length_append, maxLen_eq]; omega)) ?_); (try (with_reducible refine hK _ ?_; clear hK K)); (try with_reducible refine ite_conj ?_)))
      refine ⟨_, hasN_a v t (by omega), ?_⟩
      repeat' (first | (with_reducible first | refine Wa ?_ | refine Wb ?_ | refine Wc ?_ | refine Wd ?_ | refine We ?_ | refine Wf ?_ | refine Wg ?_ | refine Wh ?_ | refine Wi ?_ | refine Wj ?_ | refine Wk (by decide) ?_ | refine Wl ?_ | refine Wm ?_ | refine Wn ?_) | ((with_reducible first | refine Wo (fun K hK => ?_) | refine Wp ?_ | refine Wq ?_ | refine Wr ?_); (try simp only [go_sem, List.forall_mem_nil, ↓guard_ite, ↓pick_ite, seval, encT_eq, inR_i64, h0, h1, ha, h2, decide_eq_true_eq, decide_eq_false_iff_not, Int.ofNat_lt]); (repeat with_reducible refine And.intro (by first | omega | with_reducible exact lens_encT | with_reducible exact lens_encL | (simp; done) | (simp only [List.length_take, List.length_map, List.length_append, maxLen_eq]; omega)) ?_); (try (with_reducible refine hK _ ?_; clear hK K)); (try with_reducible refine ite_conj ?_)))
      refine ⟨_, hasN_a v f (by omega), ?_⟩
      repeat' (first | (with_reducible first | refine Wa ?_ | refine Wb ?_ | refine Wc ?_ | refine Wd ?_ | refine We ?_ | refine Wf ?_ | refine Wg ?_ | refine Wh ?_ | refine Wi ?_ | refine Wj ?_ | refine Wk (by decide) ?_ | refine Wl ?_ | refine Wm ?_ | refine Wn ?_) | ((with_reducible first | refine Wo (fun K hK => ?_) | refine Wp ?_ | refine Wq ?_ | refine Wr ?_); (try simp only [go_sem, List.forall_mem_nil, ↓guard_ite, ↓pick_ite, seval, encT_eq, inR_i64, h0, h1, ha, h2, h3, decide_eq_true_eq, decide_eq_false_iff_not, Int.ofNat_lt]); (repeat with_reducible refine And.intro (by first | omega | with_reducible exact lens_encT | with_reducible exact lens_encL | (simp; done) | (simp only [List.length_take, List.length_map, List.length_append, maxLen_eq]; omega)) ?_); (try (with_reducible refine hK _ ?_; clear hK K)); (try with_reducible refine ite_conj ?_)))
      refine ⟨_, nameC_a sS, ?_⟩
      repeat' (first | (with_reducible first | refine Wa ?_ | refine Wb ?_ | refine Wc ?_ | refine Wd ?_ | refine We ?_ | refine Wf ?_ | refine Wg ?_ | refine Wh ?_ | refine Wi ?_ | refine Wj ?_ | refine Wk (by decide) ?_ | refine Wl ?_ | refine Wm ?_ | refine Wn ?_) | ((with_reducible first | refine Wo (fun K hK => ?_) | refine Wp ?_ | refine Wq ?_ | refine Wr ?_); (try simp only [go_sem, List.forall_mem_nil, ↓guard_ite, ↓pick_ite, seval, encT_eq, inR_i64, ha, decide_eq_true_eq, decide_eq_false_iff_not, Int.ofNat_lt]); (repeat with_reducible refine And.intro (by first | omega | with_reducible exact lens_encT | with_reducible exact lens_encL | (simp; done) | (simp only [List.length_take, List.length_map, List.length_append, maxLen_eq]; omega)) ?_); (try (with_reducible refine hK _ ?_; clear hK K)); (try with_reducible refine ite_conj ?_)))
      refine ⟨_, ih _ (Tm.lt_of_arg hfm) f hf1 (by omega) rfl, ?_⟩
      repeat' (first | (with_reducible first | refine Wa ?_ | refine Wb ?_ | refine Wc ?_ | refine Wd ?_ | refine We ?_ | refine Wf ?_ | refine Wg ?_ | refine Wh ?_ | refine Wi ?_ | refine Wj ?_ | refine Wk (by decide) ?_ | refine Wl ?_ | refine Wm ?_ | refine Wn ?_) | ((with_reducible first | refine Wo (fun K hK => ?_) | refine Wp ?_ | refine Wq ?_ | refine Wr ?_); (try simp only [go_sem, List.forall_mem_nil, ↓guard_ite, ↓pick_ite, seval, encT_eq, inR_i64, ha, decide_eq_true_eq, decide_eq_false_iff_not, Int.ofNat_lt]); (repeat with_reducible refine And.intro (by first | omega | with_reducible exact lens_encT | with_reducible exact lens_encL | (simp; done) | (simp only [List.length_take, List.length_map, List.length_append, maxLen_eq]; omega)) ?_); (try (with_reducible refine hK _ ?_; clear hK K)); (try with_reducible refine ite_conj ?_)))
      refine ⟨_, apC_a (leafOf sS) (f.br v), ?_⟩
      repeat' (first | (with_reducible first | refine Wa ?_ | refine Wb ?_ | refine Wc ?_ | refine Wd ?_ | refine We ?_ | refine Wf ?_ | refine Wg ?_ | refine Wh ?_ | refine Wi ?_ | refine Wj ?_ | refine Wk (by decide) ?_ | refine Wl ?_ | refine Wm ?_ | refine Wn ?_) | ((with_reducible first | refine Wo (fun K hK => ?_) | refine Wp ?_ | refine Wq ?_ | refine Wr ?_); (try simp only [go_sem, List.forall_mem_nil, ↓guard_ite, ↓pick_ite, seval, encT_eq, inR_i64, ha, decide_eq_true_eq, decide_eq_false_iff_not, Int.ofNat_lt]); (repeat with_reducible refine And.intro (by first | omega | with_reducible exact lens_encT | with_reducible exact lens_encL | (simp; done) | (simp only [List.length_take, List.length_map, List.length_append, maxLen_eq]; omega)) ?_); (try (with_reducible refine hK _ ?_; clear hK K)); (try with_reducible refine ite_conj ?_)))
      have ihx := ih _ (Tm.lt_of_arg hxm) x hx1 (by omega) rfl
      simp only [aTm, h2] at ihx
      refine ⟨_, ihx, ?_⟩
      repeat' (first | (with_reducible first | refine Wa ?_ | refine Wb ?_ | refine Wc ?_ | refine Wd ?_ | refine We ?_ | refine Wf ?_ | refine Wg ?_ | refine Wh ?_ | refine Wi ?_ | refine Wj ?_ | refine Wk (by decide) ?_ | refine Wl ?_ | refine Wm ?_ | refine Wn ?_) | ((with_reducible first | refine Wo (fun K hK => ?_) | refine Wp ?_ | refine Wq ?_ | refine Wr ?_); (try simp only [go_sem, List.forall_mem_nil, ↓guard_ite, ↓pick_ite, seval, encT_eq, inR_i64, ha, decide_eq_true_eq, decide_eq_false_iff_not, Int.ofNat_lt]); (repeat with_reducible refine And.intro (by first | omega | with_reducible exact lens_encT | with_reducible exact lens_encL | (simp; done) | (simp only [List.length_take, List.length_map, List.length_append, maxLen_eq]; omega)) ?_); (try (with_reducible refine hK _ ?_; clear hK K)); (try with_reducible refine ite_conj ?_)))
      refine ⟨_, apC_a (ap2 (leafOf sS) (f.br v)) (x.br v), ?_⟩
      repeat' (first | (with_reducible first | refine Wa ?_ | refine Wb ?_ | refine Wc ?_ | refine Wd ?_ | refine We ?_ | refine Wf ?_ | refine Wg ?_ | refine Wh ?_ | refine Wi ?_ | refine Wj ?_ | refine Wk (by decide) ?_ | refine Wl ?_ | refine Wm ?_ | refine Wn ?_) | ((with_reducible first | refine Wo (fun K hK => ?_) | refine Wp ?_ | refine Wq ?_ | refine Wr ?_); (try simp only [go_sem, List.forall_mem_nil, ↓guard_ite, ↓pick_ite, seval, encT_eq, inR_i64, decide_eq_true_eq, decide_eq_false_iff_not, Int.ofNat_lt]); (repeat with_reducible refine And.intro (by first | omega | with_reducible exact lens_encT | with_reducible exact lens_encL | (simp; done) | (simp only [List.length_take, List.length_map, List.length_append, maxLen_eq]; omega)) ?_); (try (with_reducible refine hK _ ?_; clear hK K)); (try with_reducible refine ite_conj ?_)))
      simp only [go_sem, List.forall_mem_nil, ↓guard_ite, ↓pick_ite, seval, FinQ, AS.result, resAll, resOne, tupV]
    · have h3' : f.hasN v = false := by simpa using h3
      rw [if_pos ⟨h2, h3'⟩]
      refine ac_comb_without (Nat.le_of_ble_eq_true rfl) fun C hC => ?_
      unfold ir_comb_without
      repeat' (first | (with_reducible first | refine Wa ?_ | refine Wb ?_ | refine Wc ?_ | refine Wd ?_ | refine We ?_ | refine Wf ?_ | refine Wg ?_ | refine Wh ?_ | refine Wi ?_ | refine Wj ?_ | refine Wk (by decide) ?_ | refine Wl ?_ | refine Wm ?_ | refine Wn ?_) | ((with_reducible first | refine Wo (fun K hK => ?_) | refine Wp ?_ | refine Wq ?_ | refine Wr ?_); (try simp only [go_sem, List.forall_mem_nil, ↓guard_ite, ↓pick_ite, seval, encT_eq, inR_i64, decide_eq_true_eq, decide_eq_false_iff_not, Int.ofNat_lt]); (repeat with_reducible refine And.intro (by first | omega | with_reducible exact lens_encT | with_reducible exact lens_encL | (simp; done) | (simp only [List.length_take, List.length_map, List.length_append, maxLen_eq]; omega)) ?_); (try (with_reducible refine hK _ ?_; clear hK K)); (try with_reducible refine ite_conj ?_)))
      refine ⟨_, hasN_a v t (by omega), ?_⟩
      repeat' (first | (with_reducible first | refine Wa ?_ | refine Wb ?_ | refine Wc ?_ | refine Wd ?_ | refine We ?_ | refine Wf ?_ | refine Wg ?_ | refine Wh ?_ | refine Wi ?_ | refine Wj ?_ | refine Wk (by decide) ?_ | refine Wl ?_ | refine Wm ?_ | refine Wn ?_) | ((with_reducible first | refine Wo (fun K hK => ?_) | refine Wp ?_ | refine Wq ?_ | refine Wr ?_); (try simp only [go_sem, List.forall_mem_nil, ↓guard_ite, ↓pick_ite, seval, encT_eq, inR_i64, h0, h1, ha, h2, decide_eq_true_eq, decide_eq_false_iff_not, Int.ofNat_lt]); (repeat with_reducible refine And.intro (by first | omega | with_reducible exact lens_encT | with_reducible exact lens_encL | (simp; done) | (simp only [List.length_take, List.length_map, List.length_append, maxLen_eq]; omega)) ?_); (try (with_reducible refine hK _ ?_; clear hK K)); (try with_reducible refine ite_conj ?_)))
      refine ⟨_, hasN_a v f (by omega), ?_⟩
      repeat' (first | (with_reducible first | refine Wa ?_ | refine Wb ?_ | refine Wc ?_ | refine Wd ?_ | refine We ?_ | refine Wf ?_ | refine Wg ?_ | refine Wh ?_ | refine Wi ?_ | refine Wj ?_ | refine Wk (by decide) ?_ | refine Wl ?_ | refine Wm ?_ | refine Wn ?_) | ((with_reducible first | refine Wo (fun K hK => ?_) | refine Wp ?_ | refine Wq ?_ | refine Wr ?_); (try simp only [go_sem, List.forall_mem_nil, ↓guard_ite, ↓pick_ite, seval, encT_eq, inR_i64, h0, h1, ha, h2, h3', decide_eq_true_eq, decide_eq_false_iff_not, Int.ofNat_lt]); (repeat with_reducible refine And.intro (by first | omega | with_reducible exact lens_encT | with_reducible exact lens_encL | (simp; done) | (simp only [List.length_take, List.length_map, List.length_append, maxLen_eq]; omega)) ?_); (try (with_reducible refine hK _ ?_; clear hK K)); (try with_reducible refine ite_conj ?_)))
      simp only [go_sem, List.forall_mem_nil, ↓guard_ite, ↓pick_ite, seval, FinQ, AS.result, resAll, resOne, tupV]
  · rw [if_neg (fun h => h2 h.1)]
    refine ac_comb_without (Nat.le_of_ble_eq_true rfl) fun C hC => ?_
    unfold ir_comb_without
    repeat' (first | (with_reducible first | refine Wa ?_ | refine Wb ?_ | refine Wc ?_ | refine Wd ?_ | refine We ?_ | refine Wf ?_ | refine Wg ?_ | refine Wh ?_ | refine Wi ?_ | refine Wj ?_ | refine Wk (by decide) ?_ | refine Wl ?_ | refine Wm ?_ | refine Wn ?_) | ((with_reducible first | refine Wo (fun K hK => ?_) | refine Wp ?_ | refine Wq ?_ | refine Wr ?_); (try simp only [go_sem, List.forall_mem_nil, ↓guard_ite, ↓pick_ite, seval, encT_eq, inR_i64, decide_eq_true_eq, decide_eq_false_iff_not, Int.ofNat_lt]); (repeat with_reducible refine And.intro (by first | omega | with_reducible exact lens_encT | with_reducible exact lens_encL | (simp; done) | (simp only [List.length_take, List.length_map, List.length_append, maxLen_eq]; omega)) ?_); (try (with_reducible refine hK _ ?_; clear hK K)); (try with_reducible refine ite_conj ?_)))
    refine ⟨_, hasN_a v t (by omega), ?_⟩
    repeat' (first | (with_reducible first | refine Wa ?_ | refine Wb ?_ | refine Wc ?_ | refine Wd ?_ | refine We ?_ | refine Wf ?_ | refine Wg ?_ | refine Wh ?_ | refine Wi ?_ | refine Wj ?_ | refine Wk (by decide) ?_ | refine Wl ?_ | refine Wm ?_ | refine Wn ?_) | ((with_reducible first | refine Wo (fun K hK => ?_) | refine Wp ?_ | refine Wq ?_ | refine Wr ?_); (try simp only [go_sem, List.forall_mem_nil, ↓guard_ite, ↓pick_ite, seval, encT_eq, inR_i64, h0, h1, ha, h2, decide_eq_true_eq, decide_eq_false_iff_not, Int.ofNat_lt]); (repeat with_reducible refine And.intro (by first | omega | with_reducible exact lens_encT | with_reducible exact lens_encL | (simp; done) | (simp only [List.length_take, List.length_map, List.length_append, maxLen_eq]; omega)) ?_); (try (with_reducible refine hK _ ?_; clear hK K)); (try with_reducible refine ite_conj ?_)))
    refine ⟨_, nameC_a sS, ?_⟩
    repeat' (first | (with_reducible first | refine Wa ?_ | refine Wb ?_ | refine Wc ?_ | refine Wd ?_ | refine We ?_ | refine Wf ?_ | refine Wg ?_ | refine Wh ?_ | refine Wi ?_ | refine Wj ?_ | refine Wk (by decide) ?_ | refine Wl ?_ | refine Wm ?_ | refine Wn ?_) | ((with_reducible first | refine Wo (fun K hK => ?_) | refine Wp ?_ | refine Wq ?_ | refine Wr ?_); (try simp only [go_sem, List.forall_mem_nil, ↓guard_ite, ↓pick_ite, seval, encT_eq, inR_i64, ha, decide_eq_true_eq, decide_eq_false_iff_not, Int.ofNat_lt]); (repeat with_reducible refine And.intro (by first | omega | with_reducible exact lens_encT | with_reducible exact lens_encL | (simp; done) | (simp only [List.length_take, List.length_map, List.length_append, maxLen_eq]; omega)) ?_); (try (with_reducible refine hK _ ?_; clear hK K)); (try with_reducible refine ite_conj ?_)))
    refine ⟨_, ih _ (Tm.lt_of_arg hfm) f hf1 (by omega) rfl, ?_⟩
    repeat' (first | (with_reducible first | refine Wa ?_ | refine Wb ?_ | refine Wc ?_ | refine Wd ?_ | refine We ?_ | refine Wf ?_ | refine Wg ?_ | refine Wh ?_ | refine Wi ?_ | refine Wj ?_ | refine Wk (by decide) ?_ | refine Wl ?_ | refine Wm ?_ | refine Wn ?_) | ((with_reducible first | refine Wo (fun K hK => ?_) | refine Wp ?_ | refine Wq ?_ | refine Wr ?_); (try simp only [go_sem, List.forall_mem_nil, ↓guard_ite, ↓pick_ite, seval, encT_eq, inR_i64, ha, decide_eq_true_eq, decide_eq_false_iff_not, Int.ofNat_lt]); (repeat with_reducible refine And.intro (by first | omega | with_reducible exact lens_encT | with_reducible exact lens_encL | (simp; done) | (simp only [List.length_take, List.length_map, List.length_append, maxLen_eq]; omega)) ?_); (try (with_reducible refine hK _ ?_; clear hK K)); (try with_reducible refine ite_conj ?_)))
    refine ⟨_, apC_a (leafOf sS) (f.br v), ?_⟩
    repeat' (first | (with_reducible first | refine Wa ?_ | refine Wb ?_ | refine Wc ?_ | refine Wd ?_ | refine We ?_ | refine Wf ?_ | refine Wg ?_ | refine Wh ?_ | refine Wi ?_ | refine Wj ?_ | refine Wk (by decide) ?_ | refine Wl ?_ | refine Wm ?_ | refine Wn ?_) | ((with_reducible first | refine Wo (fun K hK => ?_) | refine Wp ?_ | refine Wq ?_ | refine Wr ?_); (try simp only [go_sem, List.forall_mem_nil, ↓guard_ite, ↓pick_ite, seval, encT_eq, inR_i64, ha, decide_eq_true_eq, decide_eq_false_iff_not, Int.ofNat_lt]); (repeat with_reducible refine And.intro (by first | omega | with_reducible exact lens_encT | with_reducible exact lens_encL | (simp; done) | (simp only [List.length_take, List.length_map, List.length_append, maxLen_eq]; omega)) ?_); (try (with_reducible refine hK _ ?_; clear hK K)); (try with_reducible refine ite_conj ?_)))
    refine ⟨_, ih _ (Tm.lt_of_arg hxm) x hx1 (by omega) rfl, ?_⟩
    repeat' (first | (with_reducible first | refine Wa ?_ | refine Wb ?_ | refine Wc ?_ | refine Wd ?_ | refine We ?_ | refine Wf ?_ | refine Wg ?_ | refine Wh ?_ | refine Wi ?_ | refine Wj ?_ | refine Wk (by decide) ?_ | refine Wl ?_ | refine Wm ?_ | refine Wn ?_) | ((with_reducible first | refine Wo (fun K hK => ?_) | refine Wp ?_ | refine Wq ?_ | refine Wr ?_); (try simp only [go_sem, List.forall_mem_nil, ↓guard_ite, ↓pick_ite, seval, encT_eq, inR_i64, ha, decide_eq_true_eq, decide_eq_false_iff_not, Int.ofNat_lt]); (repeat with_reducible refine And.intro (by first | omega | with_reducible exact lens_encT | with_reducible exact lens_encL | (simp; done) | (simp only [List.length_take, List.length_map, List.length_append, maxLen_eq]; omega)) ?_); (try (with_reducible refine hK _ ?_; clear hK K)); (try with_reducible refine ite_conj ?_)))
    refine ⟨_, apC_a (ap2 (leafOf sS) (f.br v)) (x.br v), ?_⟩
    repeat' (first | (with_reducible first | refine Wa ?_ | refine Wb ?_ | refine Wc ?_ | refine Wd ?_ | refine We ?_ | refine Wf ?_ | refine Wg ?_ | refine Wh ?_ | refine Wi ?_ | refine Wj ?_ | refine Wk (by decide) ?_ | refine Wl ?_ | refine Wm ?_ | refine Wn ?_) | ((with_reducible first | refine Wo (fun K hK => ?_) | refine Wp ?_ | refine Wq ?_ | refine Wr ?_); (try simp only [go_sem, List.forall_mem_nil, ↓guard_ite, ↓pick_ite, seval, encT_eq, inR_i64, decide_eq_true_eq, decide_eq_false_iff_not, Int.ofNat_lt]); (repeat with_reducible refine And.intro (by first | omega | with_reducible exact lens_encT | with_reducible exact lens_encL | (simp; done) | (simp only [List.length_take, List.length_map, List.length_append, maxLen_eq]; omega)) ?_); (try (with_reducible refine hK _ ?_; clear hK K)); (try with_reducible refine ite_conj ?_)))
    simp only [go_sem, List.forall_mem_nil, ↓guard_ite, ↓pick_ite, seval, FinQ, AS.result, resAll, resOne, tupV]
end Go.Proofs.YtbiadmlfejnbcaaGreatDoor

namespace Go.Proofs.YtbiadmlfejnbcaaGreatDoor
open Go Go.RowKit
set_option maxRecDepth 100000

def ir_lambda_within : IR :=
  (.seq
  (.ops
  [.mk (some 2) none (.box 25 (.t 0)) .no, .mk (some 4) none (.mov (.c (.one (.st (.int .i64 0)))))
  .no])
  (.seq
  (.ops
  [.mk (some 7) none (.mov (.t 1)) .no, .mk (some 8) none (.bin .sub (.t 7) (.c (.one (.st (.int .i64 1)))))
  .no, .mk (some 1) none (.mov (.t 8)) .no])
  (.seq
  (.seq
  (.ops
  [.mk (some 9) none (.fieldAddr 2 (.t 2)) .no, .mk (some 10) none (.load false 1 (.t 9))
  .no, .mk (some 11) none (.len false (.t 10))
  .no, .mk (some 12) none (.mov (.c (.one (.st (.int .i64 0)))))
  .no])
  (.block 0
  (.loop
  (.seq
  (.ops
  [.mk (some 13) none (.bin .lss (.t 12) (.t 11)) .no])
  (.seq
  (.cond (.t 13) .skip (.exit 0))
  (.seq
  (.block 1
  (.seq
  (.ops
  [.mk (some 14) none
  (.indexAddr 3 (.t 10) (.t 12)) .no, .mk (some 15) none (.load true 3 (.t 14))
  .no, .mk (some 6) none
  (.alloc 25
  [.st (.int .i64 0), .st (.int .i64 0), .full []])
  .no, .mk none none (.store 3 (.t 6) (.t 15)) .no])
  (.seq
  (.seq
  (.ops
  [.mk (some 16) none (.mov (.t 1))
  .no, .mk (some 17) none (.bin .lss (.t 16) (.c (.one (.st (.int .i64 0)))))
  .no])
  (.cond (.t 17) (.exit 0) .skip))
  (.ops
  [.mk (some 18) none (.load true 3 (.t 6))
  .no, .mk (some 19) none (.mov (.t 1))
  .no, .mk (some 20) none (.call 74 [.t 18, .t 19]) .no, .mk (some 1) none (.mov (.t 20))
  .no]))))
  (.ops
  [.mk (some 21) none (.bin .add (.t 12) (.c (.one (.st (.int .i64 1)))))
  .no, .mk (some 12) none (.mov (.t 21))
  .no])))))))
  (.seq
  (.ops
  [.mk (some 22) none (.mov (.t 1)) .no, .mk (some 4) none (.mov (.t 22)) .no])
  .ret))))
theorem tr_lambda_within : trCode Tryz.prog 23 [] (Tryz.f74.body.getD .skip) = some ir_lambda_within := by kernel_rfl
theorem ac_lambda_within {xs : List AV} {r : AV} (hn : xs.length ≤ 23) (h : ∀ C : Ctx, C.n = 23 → IWP Tryz.prog C [] ir_lambda_within (FinQ [.t 4] r) (AS.start xs)) : ACalls Tryz.prog 74 xs r :=
  acalls_of Tryz.func74 rfl tr_lambda_within rfl hn h
theorem acS_lambda_within {xs : List AV} {S S' : AStore} {r : AV} (hn : xs.length ≤ 23) (h : Clean S → ∀ C : Ctx, C.n = 23 → IWP Tryz.prog C [] ir_lambda_within (FinS C [.t 4] r S') (AS.startS xs S)) : ACallsS Tryz.prog 74 xs S r S' :=
  acallsS_of Tryz.func74 rfl tr_lambda_within rfl hn h

def ir_lambda_check : IR :=
  (.seq
  (.ops
  [.mk (some 3) none (.box 25 (.t 0)) .no, .mk (some 6) none (.mov (.c (.one (.st (.int .i64 0)))))
  .no])
  (.seq
  (.seq
  (.ops
  [.mk (some 11) none (.fieldAddr 0 (.t 3)) .no, .mk (some 12) none (.load false 1 (.t 11))
  .no, .mk (some 13) none (.bin .lss (.t 12) (.c (.one (.st (.int .i64 1)))))
  .no, .mk (some 14) none (.mov (.t 13)) .no, .mk (some 15) (some (14, false)) (.fieldAddr 0 (.t 3))
  .no, .mk (some 16) (some (14, false)) (.load false 1 (.t 15))
  .no, .mk (some 17) (some (14, false)) (.bin .gtr (.t 16) (.c (.one (.st (.int .i64 5)))))
  .no, .mk (some 18) none
  (.pick (.t 14) (.c (.one (.st (.bool true)))) (.t 17))
  .no, .mk (some 19) none (.mov (.t 18)) .no, .mk (some 20) (some (19, false)) (.fieldAddr 2 (.t 3))
  .no, .mk (some 21) (some (19, false)) (.load false 1 (.t 20))
  .no, .mk (some 22) (some (19, false)) (.len false (.t 21))
  .no, .mk (some 23) (some (19, false)) (.fieldAddr 0 (.t 3))
  .no, .mk (some 24) (some (19, false)) (.load false 1 (.t 23))
  .no, .mk (some 25) (some (19, false))
  (.indexArr 6 1 (.c (.one
  (.eptr
  [.int .i64 0, .int .i64 0, .int .i64 1, .int .i64 2, .int .i64 0, .int .i64 0]))) (.t 24))
  .no, .mk (some 26) (some (19, false)) (.load false 1 (.t 25))
  .no, .mk (some 27) (some (19, false)) (.bin .neq (.t 22) (.t 26)) .no, .mk (some 28) none
  (.pick (.t 19) (.c (.one (.st (.bool true)))) (.t 27))
  .no])
  (.cond (.t 28)
  (.seq
  (.ops
  [.mk (some 6) none (.mov (.c (.one (.st (.int .i64 2)))))
  .no])
  .ret)
  .skip))
  (.seq
  (.ops
  [.mk (some 7) none (.mov (.c (.one (.st (.int .i64 1)))))
  .no])
  (.seq
  (.seq
  (.ops
  [.mk (some 29) none (.fieldAddr 0 (.t 3)) .no, .mk (some 30) none (.load false 1 (.t 29))
  .no])
  (.block 0
  (.seq
  (.ops
  [.mk (some 32) none (.bin .eql (.t 30) (.c (.one (.st (.int .i64 1)))))
  .no, .mk (some 31) none (.mov (.t 32)) .no])
  (.cond (.t 31)
  (.ops
  [.mk (some 33) none (.mov (.t 1)) .no, .mk (some 7) none (.mov (.t 33)) .no])
  (.seq
  (.ops
  [.mk (some 35) none (.bin .eql (.t 30) (.c (.one (.st (.int .i64 4)))))
  .no, .mk (some 34) none (.mov (.t 35))
  .no])
  (.cond (.t 34)
  (.ops
  [.mk (some 7) none (.mov (.c (.one (.st (.int .i64 40)))))
  .no])
  (.seq
  (.ops
  [.mk (some 37) none (.bin .eql (.t 30) (.c (.one (.st (.int .i64 5)))))
  .no, .mk (some 36) none (.mov (.t 37))
  .no])
  (.cond (.t 36)
  (.ops
  [.mk (some 38) none (.mov (.t 2))
  .no, .mk (some 7) none (.mov (.t 38))
  .no])
  .skip))))))))
  (.seq
  (.seq
  (.ops
  [.mk (some 39) none (.fieldAddr 1 (.t 3))
  .no, .mk (some 40) none (.load false 1 (.t 39))
  .no, .mk (some 41) none (.bin .lss (.t 40) (.c (.one (.st (.int .i64 0)))))
  .no, .mk (some 42) none (.mov (.t 41)) .no, .mk (some 43) (some (42, false)) (.fieldAddr 1 (.t 3))
  .no, .mk (some 44) (some (42, false)) (.load false 1 (.t 43))
  .no, .mk (some 45) (some (42, false)) (.mov (.t 7))
  .no, .mk (some 46) (some (42, false)) (.bin .geq (.t 44) (.t 45)) .no, .mk (some 47) none
  (.pick (.t 42) (.c (.one (.st (.bool true)))) (.t 46))
  .no])
  (.cond (.t 47)
  (.seq
  (.ops
  [.mk (some 6) none (.mov (.c (.one (.st (.int .i64 15)))))
  .no])
  .ret)
  .skip))
  (.seq
  (.seq
  (.ops
  [.mk (some 48) none (.fieldAddr 0 (.t 3))
  .no, .mk (some 49) none (.load false 1 (.t 48))
  .no, .mk (some 50) none (.bin .eql (.t 49) (.c (.one (.st (.int .i64 2)))))
  .no])
  (.cond (.t 50)
  (.ops
  [.mk (some 51) none (.mov (.t 1)) .no, .mk (some 52) none (.bin .add (.t 51) (.c (.one (.st (.int .i64 1)))))
  .no, .mk (some 1) none (.mov (.t 52)) .no])
  .skip))
  (.seq
  (.seq
  (.ops
  [.mk (some 53) none (.fieldAddr 2 (.t 3))
  .no, .mk (some 54) none (.load false 1 (.t 53))
  .no, .mk (some 55) none (.len false (.t 54))
  .no, .mk (some 56) none (.mov (.c (.one (.st (.int .i64 0)))))
  .no])
  (.block 1
  (.loop
  (.seq
  (.ops
  [.mk (some 57) none (.bin .lss (.t 56) (.t 55)) .no])
  (.seq
  (.cond (.t 57) .skip (.exit 1))
  (.seq
  (.block 2
  (.seq
  (.ops
  [.mk (some 58) none
  (.indexAddr 3 (.t 54) (.t 56)) .no, .mk (some 59) none (.load true 3 (.t 58))
  .no, .mk (some 9) none
  (.alloc 25
  [.st (.int .i64 0), .st (.int .i64 0), .full []])
  .no, .mk none none (.store 3 (.t 9) (.t 59)) .no])
  (.seq
  (.ops
  [.mk (some 60) none (.load true 3 (.t 9))
  .no, .mk (some 61) none (.mov (.t 1))
  .no, .mk (some 62) none (.mov (.t 2))
  .no, .mk (some 63) none (.call 75 [.t 60, .t 61, .t 62])
  .no, .mk (some 10) none (.mov (.t 63))
  .no])
  (.seq
  (.ops
  [.mk (some 64) none (.mov (.t 10))
  .no, .mk (some 65) none (.bin .neq (.t 64) (.c (.one (.st (.int .i64 0)))))
  .no])
  (.cond (.t 65)
  (.seq
  (.ops
  [.mk (some 66) none (.mov (.t 10))
  .no, .mk (some 6) none (.mov (.t 66))
  .no])
  .ret)
  .skip)))))
  (.ops
  [.mk (some 67) none (.bin .add (.t 56) (.c (.one (.st (.int .i64 1)))))
  .no, .mk (some 56) none (.mov (.t 67))
  .no])))))))
  (.seq
  (.ops
  [.mk (some 6) none (.mov (.c (.one (.st (.int .i64 0)))))
  .no])
  .ret))))))))
theorem tr_lambda_check : trCode Tryz.prog 68 [] (Tryz.f75.body.getD .skip) = some ir_lambda_check := by kernel_rfl
theorem ac_lambda_check {xs : List AV} {r : AV} (hn : xs.length ≤ 68) (h : ∀ C : Ctx, C.n = 68 → IWP Tryz.prog C [] ir_lambda_check (FinQ [.t 6] r) (AS.start xs)) : ACalls Tryz.prog 75 xs r :=
  acalls_of Tryz.func75 rfl tr_lambda_check rfl hn h
theorem acS_lambda_check {xs : List AV} {S S' : AStore} {r : AV} (hn : xs.length ≤ 68) (h : Clean S → ∀ C : Ctx, C.n = 68 → IWP Tryz.prog C [] ir_lambda_check (FinS C [.t 6] r S') (AS.startS xs S)) : ACallsS Tryz.prog 75 xs S r S' :=
  acallsS_of Tryz.func75 rfl tr_lambda_check rfl hn h

def ir_lambda_CheckWith : IR :=
  (.seq
  (.ops
  [.mk (some 3) none (.box 25 (.t 0)) .no, .mk (some 6) none (.mov (.c (.one (.st (.int .i64 0)))))
  .no])
  (.seq
  (.seq
  (.ops
  [.mk (some 7) none (.mov (.t 1)) .no, .mk (some 8) none (.bin .lss (.t 7) (.c (.one (.st (.int .i64 0)))))
  .no, .mk (some 9) none (.mov (.t 8)) .no, .mk (some 10) (some (9, false)) (.mov (.t 1))
  .no, .mk (some 11) (some (9, false)) (.bin .gtr (.t 10) (.c (.one (.st (.int .i64 40)))))
  .no, .mk (some 12) none
  (.pick (.t 9) (.c (.one (.st (.bool true)))) (.t 11))
  .no])
  (.cond (.t 12)
  (.seq
  (.ops
  [.mk (some 6) none (.mov (.c (.one (.st (.int .i64 10)))))
  .no])
  .ret)
  .skip))
  (.seq
  (.seq
  (.ops
  [.mk (some 13) none (.load true 3 (.t 3))
  .no, .mk (some 14) none (.call 74
  [.t 13, .c (.one (.st (.int .i64 200)))])
  .no, .mk (some 15) none (.bin .lss (.t 14) (.c (.one (.st (.int .i64 0)))))
  .no])
  (.cond (.t 15)
  (.seq
  (.ops
  [.mk (some 6) none (.mov (.c (.one (.st (.int .i64 3)))))
  .no])
  .ret)
  .skip))
  (.seq
  (.ops
  [.mk (some 16) none (.load true 3 (.t 3))
  .no, .mk (some 17) none (.mov (.t 1)) .no, .mk (some 18) none (.mov (.t 2)) .no, .mk (some 19) none (.call 75 [.t 16, .t 17, .t 18])
  .no, .mk (some 6) none (.mov (.t 19)) .no])
  .ret))))
theorem tr_lambda_CheckWith : trCode Tryz.prog 20 [] (Tryz.f59.body.getD .skip) = some ir_lambda_CheckWith := by kernel_rfl
theorem ac_lambda_CheckWith {xs : List AV} {r : AV} (hn : xs.length ≤ 20) (h : ∀ C : Ctx, C.n = 20 → IWP Tryz.prog C [] ir_lambda_CheckWith (FinQ [.t 6] r) (AS.start xs)) : ACalls Tryz.prog 59 xs r :=
  acalls_of Tryz.func59 rfl tr_lambda_CheckWith rfl hn h
theorem acS_lambda_CheckWith {xs : List AV} {S S' : AStore} {r : AV} (hn : xs.length ≤ 20) (h : Clean S → ∀ C : Ctx, C.n = 20 → IWP Tryz.prog C [] ir_lambda_CheckWith (FinS C [.t 6] r S') (AS.startS xs S)) : ACallsS Tryz.prog 59 xs S r S' :=
  acallsS_of Tryz.func59 rfl tr_lambda_CheckWith rfl hn h

def ir_lambda_Check : IR :=
  (.seq
  (.ops
  [.mk (some 2) none (.box 25 (.t 0)) .no, .mk (some 4) none (.mov (.c (.one (.st (.int .i64 0)))))
  .no])
  (.seq
  (.ops
  [.mk (some 5) none (.load true 3 (.t 2)) .no, .mk (some 6) none (.mov (.t 1)) .no, .mk (some 7) none (.call 59
  [.t 5, .t 6, .c (.one (.st (.int .i64 0)))])
  .no, .mk (some 4) none (.mov (.t 7)) .no])
  .ret))
theorem tr_lambda_Check : trCode Tryz.prog 8 [] (Tryz.f39.body.getD .skip) = some ir_lambda_Check := by kernel_rfl
theorem ac_lambda_Check {xs : List AV} {r : AV} (hn : xs.length ≤ 8) (h : ∀ C : Ctx, C.n = 8 → IWP Tryz.prog C [] ir_lambda_Check (FinQ [.t 4] r) (AS.start xs)) : ACalls Tryz.prog 39 xs r :=
  acalls_of Tryz.func39 rfl tr_lambda_Check rfl hn h
theorem acS_lambda_Check {xs : List AV} {S S' : AStore} {r : AV} (hn : xs.length ≤ 8) (h : Clean S → ∀ C : Ctx, C.n = 8 → IWP Tryz.prog C [] ir_lambda_Check (FinS C [.t 4] r S') (AS.startS xs S)) : ACallsS Tryz.prog 39 xs S r S' :=
  acallsS_of Tryz.func39 rfl tr_lambda_Check rfl hn h

def ir_lambda_Size : IR :=
  (.seq
  (.ops
  [.mk (some 1) none (.box 25 (.t 0)) .no, .mk (some 2) none (.mov (.c (.one (.st (.int .i64 0)))))
  .no])
  (.seq
  (.ops
  [.mk (some 3) none (.mov (.c (.one (.st (.int .i64 1)))))
  .no])
  (.seq
  (.seq
  (.ops
  [.mk (some 6) none (.fieldAddr 2 (.t 1)) .no, .mk (some 7) none (.load false 1 (.t 6))
  .no, .mk (some 8) none (.len false (.t 7)) .no, .mk (some 9) none (.mov (.c (.one (.st (.int .i64 0)))))
  .no])
  (.block 0
  (.loop
  (.seq
  (.ops
  [.mk (some 10) none (.bin .lss (.t 9) (.t 8)) .no])
  (.seq
  (.cond (.t 10) .skip (.exit 0))
  (.seq
  (.block 1
  (.seq
  (.ops
  [.mk (some 11) none
  (.indexAddr 3 (.t 7) (.t 9)) .no, .mk (some 12) none (.load true 3 (.t 11))
  .no, .mk (some 5) none
  (.alloc 25
  [.st (.int .i64 0), .st (.int .i64 0), .full []])
  .no, .mk none none (.store 3 (.t 5) (.t 12)) .no])
  (.ops
  [.mk (some 13) none (.mov (.t 3))
  .no, .mk (some 14) none (.load true 3 (.t 5))
  .no, .mk (some 15) none (.call 57 [.t 14])
  .no, .mk (some 16) none (.bin .add (.t 13) (.t 15)) .no, .mk (some 3) none (.mov (.t 16))
  .no])))
  (.ops
  [.mk (some 17) none (.bin .add (.t 9) (.c (.one (.st (.int .i64 1)))))
  .no, .mk (some 9) none (.mov (.t 17))
  .no])))))))
  (.seq
  (.ops
  [.mk (some 18) none (.mov (.t 3)) .no, .mk (some 2) none (.mov (.t 18)) .no])
  .ret))))
theorem tr_lambda_Size : trCode Tryz.prog 19 [] (Tryz.f57.body.getD .skip) = some ir_lambda_Size := by kernel_rfl
theorem ac_lambda_Size {xs : List AV} {r : AV} (hn : xs.length ≤ 19) (h : ∀ C : Ctx, C.n = 19 → IWP Tryz.prog C [] ir_lambda_Size (FinQ [.t 2] r) (AS.start xs)) : ACalls Tryz.prog 57 xs r :=
  acalls_of Tryz.func57 rfl tr_lambda_Size rfl hn h
theorem acS_lambda_Size {xs : List AV} {S S' : AStore} {r : AV} (hn : xs.length ≤ 19) (h : Clean S → ∀ C : Ctx, C.n = 19 → IWP Tryz.prog C [] ir_lambda_Size (FinS C [.t 2] r S') (AS.startS xs S)) : ACallsS Tryz.prog 57 xs S r S' :=
  acallsS_of Tryz.func57 rfl tr_lambda_Size rfl hn h

def ir_lambda_V : IR :=
  (.seq
  (.ops
  [.mk (some 2) none
  (.alloc 25
  [.st (.int .i64 0), .st (.int .i64 0),
  .full []])
  .no])
  (.seq
  (.ops
  [.mk (some 3) none (.mov (.t 0)) .no, .mk (some 4) none
  (.build
  [.st (.int .i64 0), .st (.int .i64 0),
  .full []]
  [(0, 1, .c (.one (.st (.int .i64 1)))),
  (1, 1, .t 3)])
  .no, .mk none none (.store 3 (.t 2) (.t 4))
  .no])
  .ret))
theorem tr_lambda_V : trCode Tryz.prog 5 [] (Tryz.f79.body.getD .skip) = some ir_lambda_V := by kernel_rfl
theorem ac_lambda_V {xs : List AV} {r : AV} (hn : xs.length ≤ 5) (h : ∀ C : Ctx, C.n = 5 → IWP Tryz.prog C [] ir_lambda_V (FinQ [.cell 2 true 3] r) (AS.start xs)) : ACalls Tryz.prog 79 xs r :=
  acalls_of Tryz.func79 rfl tr_lambda_V rfl hn h
theorem acS_lambda_V {xs : List AV} {S S' : AStore} {r : AV} (hn : xs.length ≤ 5) (h : Clean S → ∀ C : Ctx, C.n = 5 → IWP Tryz.prog C [] ir_lambda_V (FinS C [.cell 2 true 3] r S') (AS.startS xs S)) : ACallsS Tryz.prog 79 xs S r S' :=
  acallsS_of Tryz.func79 rfl tr_lambda_V rfl hn h

def ir_R_LamSize : IR :=
  (.seq
  (.ops
  [.mk (some 2) none (.box 25 (.t 0)) .no, .mk (some 4) none (.mov (.c (.one (.st (.int .i64 0)))))
  .no])
  (.seq
  (.ops
  [.mk (some 5) none (.mov (.c (.one (.st (.int .i64 1)))))
  .no])
  (.seq
  (.seq
  (.ops
  [.mk (some 6) none (.mov (.c (.one (.st (.int .i64 0)))))
  .no])
  (.block 0
  (.loop
  (.seq
  (.seq
  (.ops
  [.mk (some 7) none (.mov (.t 6)) .no, .mk (some 8) none (.fieldAddr 2 (.t 2))
  .no, .mk (some 9) none (.load false 1 (.t 8))
  .no, .mk (some 10) none (.len false (.t 9))
  .no, .mk (some 11) none (.bin .lss (.t 7) (.t 10)) .no, .mk (some 12) none (.mov (.t 11)) .no, .mk (some 13) (some (12, true)) (.mov (.t 5))
  .no, .mk (some 14) (some (12, true)) (.mov (.t 1))
  .no, .mk (some 15) (some (12, true)) (.bin .leq (.t 13) (.t 14)) .no, .mk (some 16) none
  (.pick (.t 12) (.t 15) (.c (.one (.st (.bool false)))))
  .no])
  (.cond (.t 16) .skip (.exit 0)))
  (.seq
  (.block 1
  (.ops
  [.mk (some 19) none (.mov (.t 5)) .no, .mk (some 20) none (.fieldAddr 2 (.t 2))
  .no, .mk (some 21) none (.load false 1 (.t 20))
  .no, .mk (some 22) none (.mov (.t 6)) .no, .mk (some 23) none
  (.indexAddr 3 (.t 21) (.t 22)) .no, .mk (some 24) none (.load true 3 (.t 23))
  .no, .mk (some 25) none (.mov (.t 1)) .no, .mk (some 26) none (.mov (.t 5)) .no, .mk (some 27) none (.bin .sub (.t 25) (.t 26)) .no, .mk (some 28) none (.call 18 [.t 24, .t 27]) .no, .mk (some 29) none (.bin .add (.t 19) (.t 28)) .no, .mk (some 5) none (.mov (.t 29))
  .no]))
  (.ops
  [.mk (some 17) none (.mov (.t 6)) .no, .mk (some 18) none (.bin .add (.t 17) (.c (.one (.st (.int .i64 1)))))
  .no, .mk (some 6) none (.mov (.t 18))
  .no]))))))
  (.seq
  (.seq
  (.ops
  [.mk (some 30) none (.mov (.t 5)) .no, .mk (some 31) none (.mov (.t 1)) .no, .mk (some 32) none (.bin .gtr (.t 30) (.t 31)) .no])
  (.cond (.t 32)
  (.seq
  (.ops
  [.mk (some 33) none (.mov (.t 1)) .no, .mk (some 34) none (.bin .add (.t 33) (.c (.one (.st (.int .i64 1)))))
  .no, .mk (some 4) none (.mov (.t 34)) .no])
  .ret)
  .skip))
  (.seq
  (.ops
  [.mk (some 35) none (.mov (.t 5)) .no, .mk (some 4) none (.mov (.t 35)) .no])
  .ret)))))
theorem tr_R_LamSize : trCode Tryz.prog 36 [] (Tryz.f18.body.getD .skip) = some ir_R_LamSize := by kernel_rfl
theorem ac_R_LamSize {xs : List AV} {r : AV} (hn : xs.length ≤ 36) (h : ∀ C : Ctx, C.n = 36 → IWP Tryz.prog C [] ir_R_LamSize (FinQ [.t 4] r) (AS.start xs)) : ACalls Tryz.prog 18 xs r :=
  acalls_of Tryz.func18 rfl tr_R_LamSize rfl hn h
theorem acS_R_LamSize {xs : List AV} {S S' : AStore} {r : AV} (hn : xs.length ≤ 36) (h : Clean S → ∀ C : Ctx, C.n = 36 → IWP Tryz.prog C [] ir_R_LamSize (FinS C [.t 4] r S') (AS.startS xs S)) : ACallsS Tryz.prog 18 xs S r S' :=
  acallsS_of Tryz.func18 rfl tr_R_LamSize rfl hn h

def ir_R_LamMay : IR :=
  (.seq
  (.ops
  [.mk (some 3) none (.box 25 (.t 0)) .no, .mk (some 6) none (.mov (.c (.one (.st (.int .i64 0)))))
  .no])
  (.seq
  (.seq
  (.ops
  [.mk (some 7) none (.mov (.t 1)) .no, .mk (some 8) none (.bin .lss (.t 7) (.c (.one (.st (.int .i64 0)))))
  .no, .mk (some 9) none (.mov (.t 8)) .no, .mk (some 10) (some (9, false)) (.mov (.t 1))
  .no, .mk (some 11) (some (9, false)) (.bin .gtr (.t 10) (.c (.one (.st (.int .i64 40)))))
  .no, .mk (some 12) none
  (.pick (.t 9) (.c (.one (.st (.bool true)))) (.t 11))
  .no])
  (.cond (.t 12)
  (.seq
  (.ops
  [.mk (some 6) none (.mov (.c (.one (.st (.int .i64 10)))))
  .no])
  .ret)
  .skip))
  (.seq
  (.seq
  (.ops
  [.mk (some 13) none (.load true 3 (.t 3))
  .no, .mk (some 14) none (.call 18
  [.t 13, .c (.one (.st (.int .i64 200)))])
  .no, .mk (some 15) none (.bin .gtr (.t 14) (.c (.one (.st (.int .i64 200)))))
  .no])
  (.cond (.t 15)
  (.seq
  (.ops
  [.mk (some 6) none (.mov (.c (.one (.st (.int .i64 3)))))
  .no])
  .ret)
  .skip))
  (.seq
  (.ops
  [.mk (some 16) none (.load true 3 (.t 3))
  .no, .mk (some 17) none (.mov (.t 1)) .no, .mk (some 18) none (.mov (.t 2)) .no, .mk (some 19) none (.call 38 [.t 16, .t 17, .t 18])
  .no, .mk (some 6) none (.mov (.t 19)) .no])
  .ret))))
theorem tr_R_LamMay : trCode Tryz.prog 20 [] (Tryz.f17.body.getD .skip) = some ir_R_LamMay := by kernel_rfl
theorem ac_R_LamMay {xs : List AV} {r : AV} (hn : xs.length ≤ 20) (h : ∀ C : Ctx, C.n = 20 → IWP Tryz.prog C [] ir_R_LamMay (FinQ [.t 6] r) (AS.start xs)) : ACalls Tryz.prog 17 xs r :=
  acalls_of Tryz.func17 rfl tr_R_LamMay rfl hn h
theorem acS_R_LamMay {xs : List AV} {S S' : AStore} {r : AV} (hn : xs.length ≤ 20) (h : Clean S → ∀ C : Ctx, C.n = 20 → IWP Tryz.prog C [] ir_R_LamMay (FinS C [.t 6] r S') (AS.startS xs S)) : ACallsS Tryz.prog 17 xs S r S' :=
  acallsS_of Tryz.func17 rfl tr_R_LamMay rfl hn h

def ir_R_lamMay : IR :=
  (.seq
  (.ops
  [.mk (some 3) none (.box 25 (.t 0)) .no, .mk (some 6) none (.mov (.c (.one (.st (.int .i64 0)))))
  .no])
  (.seq
  (.ops
  [.mk (some 7) none (.mov (.c (.one (.st (.int .i64 1)))))
  .no])
  (.seq
  (.ops
  [.mk (some 8) none (.mov (.c (.one (.st (.int .i64 0)))))
  .no])
  (.seq
  (.ops
  [.mk (some 12) none (.mov (.t 1)) .no, .mk (some 9) none (.mov (.t 12)) .no])
  (.seq
  (.seq
  (.ops
  [.mk (some 13) none (.fieldAddr 0 (.t 3))
  .no, .mk (some 14) none (.load false 1 (.t 13))
  .no])
  (.block 0
  (.seq
  (.ops
  [.mk (some 16) none (.bin .eql (.t 14) (.c (.one (.st (.int .i64 1)))))
  .no, .mk (some 15) none (.mov (.t 16)) .no])
  (.cond (.t 15)
  (.ops
  [.mk (some 17) none (.mov (.t 1)) .no, .mk (some 7) none (.mov (.t 17))
  .no])
  (.seq
  (.ops
  [.mk (some 19) none (.bin .eql (.t 14) (.c (.one (.st (.int .i64 2)))))
  .no, .mk (some 18) none (.mov (.t 19))
  .no])
  (.cond (.t 18)
  (.seq
  (.ops
  [.mk (some 8) none (.mov (.c (.one (.st (.int .i64 1)))))
  .no])
  (.ops
  [.mk (some 20) none (.mov (.t 1))
  .no, .mk (some 21) none (.bin .add (.t 20) (.c (.one (.st (.int .i64 1)))))
  .no, .mk (some 9) none (.mov (.t 21))
  .no]))
  (.seq
  (.ops
  [.mk (some 23) none (.bin .eql (.t 14) (.c (.one (.st (.int .i64 3)))))
  .no, .mk (some 22) none (.mov (.t 23))
  .no])
  (.cond (.t 22)
  (.ops
  [.mk (some 8) none (.mov (.c (.one (.st (.int .i64 2)))))
  .no])
  (.seq
  (.ops
  [.mk (some 25) none (.bin .eql (.t 14) (.c (.one (.st (.int .i64 4)))))
  .no, .mk (some 24) none (.mov (.t 25))
  .no])
  (.cond (.t 24)
  (.ops
  [.mk (some 7) none (.mov (.c (.one (.st (.int .i64 40)))))
  .no])
  (.seq
  (.ops
  [.mk (some 27) none (.bin .eql (.t 14) (.c (.one (.st (.int .i64 5)))))
  .no, .mk (some 26) none (.mov (.t 27))
  .no])
  (.cond (.t 26)
  (.ops
  [.mk (some 28) none (.mov (.t 2))
  .no, .mk (some 7) none (.mov (.t 28))
  .no])
  (.seq
  (.ops
  [.mk (some 6) none (.mov (.c (.one (.st (.int .i64 2)))))
  .no])
  .ret)))))))))))))
  (.seq
  (.seq
  (.ops
  [.mk (some 29) none (.fieldAddr 2 (.t 3))
  .no, .mk (some 30) none (.load false 1 (.t 29))
  .no, .mk (some 31) none (.len false (.t 30))
  .no, .mk (some 32) none (.mov (.t 8)) .no, .mk (some 33) none (.bin .neq (.t 31) (.t 32)) .no])
  (.cond (.t 33)
  (.seq
  (.ops
  [.mk (some 6) none (.mov (.c (.one (.st (.int .i64 2)))))
  .no])
  .ret)
  .skip))
  (.seq
  (.seq
  (.ops
  [.mk (some 34) none (.fieldAddr 1 (.t 3))
  .no, .mk (some 35) none (.load false 1 (.t 34))
  .no, .mk (some 36) none (.bin .lss (.t 35) (.c (.one (.st (.int .i64 0)))))
  .no, .mk (some 37) none (.mov (.t 36)) .no, .mk (some 38) (some (37, false)) (.fieldAddr 1 (.t 3))
  .no, .mk (some 39) (some (37, false)) (.load false 1 (.t 38))
  .no, .mk (some 40) (some (37, false)) (.mov (.t 7))
  .no, .mk (some 41) (some (37, false)) (.bin .geq (.t 39) (.t 40)) .no, .mk (some 42) none
  (.pick (.t 37) (.c (.one (.st (.bool true)))) (.t 41))
  .no])
  (.cond (.t 42)
  (.seq
  (.ops
  [.mk (some 6) none (.mov (.c (.one (.st (.int .i64 15)))))
  .no])
  .ret)
  .skip))
  (.seq
  (.seq
  (.ops
  [.mk (some 10) none (.mov (.c (.one (.st (.int .i64 0)))))
  .no])
  (.block 1
  (.loop
  (.seq
  (.seq
  (.ops
  [.mk (some 43) none (.mov (.t 10))
  .no, .mk (some 44) none (.mov (.t 8))
  .no, .mk (some 45) none (.bin .lss (.t 43) (.t 44)) .no])
  (.cond (.t 45) .skip (.exit 1)))
  (.seq
  (.block 2
  (.seq
  (.ops
  [.mk (some 48) none (.fieldAddr 2 (.t 3))
  .no, .mk (some 49) none (.load false 1 (.t 48))
  .no, .mk (some 50) none (.mov (.t 10))
  .no, .mk (some 51) none
  (.indexAddr 3 (.t 49) (.t 50)) .no, .mk (some 52) none (.load true 3 (.t 51))
  .no, .mk (some 53) none (.mov (.t 9))
  .no, .mk (some 54) none (.mov (.t 2))
  .no, .mk (some 55) none (.call 38 [.t 52, .t 53, .t 54])
  .no, .mk (some 11) none (.mov (.t 55))
  .no])
  (.seq
  (.ops
  [.mk (some 56) none (.mov (.t 11))
  .no, .mk (some 57) none (.bin .neq (.t 56) (.c (.one (.st (.int .i64 0)))))
  .no])
  (.cond (.t 57)
  (.seq
  (.ops
  [.mk (some 58) none (.mov (.t 11))
  .no, .mk (some 6) none (.mov (.t 58))
  .no])
  .ret)
  .skip))))
  (.ops
  [.mk (some 46) none (.mov (.t 10))
  .no, .mk (some 47) none (.bin .add (.t 46) (.c (.one (.st (.int .i64 1)))))
  .no, .mk (some 10) none (.mov (.t 47))
  .no]))))))
  (.seq
  (.ops
  [.mk (some 6) none (.mov (.c (.one (.st (.int .i64 0)))))
  .no])
  .ret)))))))))
theorem tr_R_lamMay : trCode Tryz.prog 59 [] (Tryz.f38.body.getD .skip) = some ir_R_lamMay := by kernel_rfl
theorem ac_R_lamMay {xs : List AV} {r : AV} (hn : xs.length ≤ 59) (h : ∀ C : Ctx, C.n = 59 → IWP Tryz.prog C [] ir_R_lamMay (FinQ [.t 6] r) (AS.start xs)) : ACalls Tryz.prog 38 xs r :=
  acalls_of Tryz.func38 rfl tr_R_lamMay rfl hn h
theorem acS_R_lamMay {xs : List AV} {S S' : AStore} {r : AV} (hn : xs.length ≤ 59) (h : Clean S → ∀ C : Ctx, C.n = 59 → IWP Tryz.prog C [] ir_R_lamMay (FinS C [.t 6] r S') (AS.startS xs S)) : ACallsS Tryz.prog 38 xs S r S' :=
  acallsS_of Tryz.func38 rfl tr_R_lamMay rfl hn h

def ir_R_SameLam : IR :=
  (.seq
  (.ops
  [.mk (some 2) none (.box 25 (.t 0)) .no, .mk (some 3) none (.box 25 (.t 1)) .no, .mk (some 4) none (.mov (.c (.one (.st (.bool false)))))
  .no])
  (.seq
  (.seq
  (.ops
  [.mk (some 6) none (.fieldAddr 0 (.t 2)) .no, .mk (some 7) none (.load false 1 (.t 6))
  .no, .mk (some 8) none (.fieldAddr 0 (.t 3)) .no, .mk (some 9) none (.load false 1 (.t 8))
  .no, .mk (some 10) none (.bin .neq (.t 7) (.t 9)) .no, .mk (some 11) none (.mov (.t 10)) .no, .mk (some 12) (some (11, false)) (.fieldAddr 1 (.t 2))
  .no, .mk (some 13) (some (11, false)) (.load false 1 (.t 12))
  .no, .mk (some 14) (some (11, false)) (.fieldAddr 1 (.t 3))
  .no, .mk (some 15) (some (11, false)) (.load false 1 (.t 14))
  .no, .mk (some 16) (some (11, false)) (.bin .neq (.t 13) (.t 15)) .no, .mk (some 17) none
  (.pick (.t 11) (.c (.one (.st (.bool true)))) (.t 16))
  .no, .mk (some 18) none (.mov (.t 17)) .no, .mk (some 19) (some (18, false)) (.fieldAddr 2 (.t 2))
  .no, .mk (some 20) (some (18, false)) (.load false 1 (.t 19))
  .no, .mk (some 21) (some (18, false)) (.len false (.t 20))
  .no, .mk (some 22) (some (18, false)) (.fieldAddr 2 (.t 3))
  .no, .mk (some 23) (some (18, false)) (.load false 1 (.t 22))
  .no, .mk (some 24) (some (18, false)) (.len false (.t 23))
  .no, .mk (some 25) (some (18, false)) (.bin .neq (.t 21) (.t 24)) .no, .mk (some 26) none
  (.pick (.t 18) (.c (.one (.st (.bool true)))) (.t 25))
  .no])
  (.cond (.t 26)
  (.seq
  (.ops
  [.mk (some 4) none (.mov (.c (.one (.st (.bool false)))))
  .no])
  .ret)
  .skip))
  (.seq
  (.seq
  (.ops
  [.mk (some 5) none (.mov (.c (.one (.st (.int .i64 0)))))
  .no])
  (.block 0
  (.loop
  (.seq
  (.seq
  (.ops
  [.mk (some 27) none (.mov (.t 5)) .no, .mk (some 28) none (.fieldAddr 2 (.t 2))
  .no, .mk (some 29) none (.load false 1 (.t 28))
  .no, .mk (some 30) none (.len false (.t 29))
  .no, .mk (some 31) none (.bin .lss (.t 27) (.t 30)) .no])
  (.cond (.t 31) .skip (.exit 0)))
  (.seq
  (.block 1
  (.seq
  (.ops
  [.mk (some 34) none (.fieldAddr 2 (.t 2))
  .no, .mk (some 35) none (.load false 1 (.t 34))
  .no, .mk (some 36) none (.mov (.t 5))
  .no, .mk (some 37) none
  (.indexAddr 3 (.t 35) (.t 36)) .no, .mk (some 38) none (.load true 3 (.t 37))
  .no, .mk (some 39) none (.fieldAddr 2 (.t 3))
  .no, .mk (some 40) none (.load false 1 (.t 39))
  .no, .mk (some 41) none (.mov (.t 5))
  .no, .mk (some 42) none
  (.indexAddr 3 (.t 40) (.t 41)) .no, .mk (some 43) none (.load true 3 (.t 42))
  .no, .mk (some 44) none (.call 58 [.t 38, .t 43]) .no, .mk (some 45) none (.un .not (.t 44))
  .no])
  (.cond (.t 45)
  (.seq
  (.ops
  [.mk (some 4) none (.mov (.c (.one (.st (.bool false)))))
  .no])
  .ret)
  .skip)))
  (.ops
  [.mk (some 32) none (.mov (.t 5)) .no, .mk (some 33) none (.bin .add (.t 32) (.c (.one (.st (.int .i64 1)))))
  .no, .mk (some 5) none (.mov (.t 33))
  .no]))))))
  (.seq
  (.ops
  [.mk (some 4) none (.mov (.c (.one (.st (.bool true)))))
  .no])
  .ret))))
theorem tr_R_SameLam : trCode Tryz.prog 46 [] (Tryz.f58.body.getD .skip) = some ir_R_SameLam := by kernel_rfl
theorem ac_R_SameLam {xs : List AV} {r : AV} (hn : xs.length ≤ 46) (h : ∀ C : Ctx, C.n = 46 → IWP Tryz.prog C [] ir_R_SameLam (FinQ [.t 4] r) (AS.start xs)) : ACalls Tryz.prog 58 xs r :=
  acalls_of Tryz.func58 rfl tr_R_SameLam rfl hn h
theorem acS_R_SameLam {xs : List AV} {S S' : AStore} {r : AV} (hn : xs.length ≤ 46) (h : Clean S → ∀ C : Ctx, C.n = 46 → IWP Tryz.prog C [] ir_R_SameLam (FinS C [.t 4] r S') (AS.startS xs S)) : ACallsS Tryz.prog 58 xs S r S' :=
  acallsS_of Tryz.func58 rfl tr_R_SameLam rfl hn h

def ir_R_Var : IR :=
  (.seq
  (.ops
  [.mk (some 2) none
  (.alloc 25
  [.st (.int .i64 0), .st (.int .i64 0),
  .full []])
  .no])
  (.seq
  (.ops
  [.mk (some 3) none (.mov (.t 0)) .no, .mk (some 4) none
  (.build
  [.st (.int .i64 0), .st (.int .i64 0),
  .full []]
  [(0, 1, .c (.one (.st (.int .i64 1)))),
  (1, 1, .t 3)])
  .no, .mk none none (.store 3 (.t 2) (.t 4))
  .no])
  .ret))
theorem tr_R_Var : trCode Tryz.prog 5 [] (Tryz.f34.body.getD .skip) = some ir_R_Var := by kernel_rfl
theorem ac_R_Var {xs : List AV} {r : AV} (hn : xs.length ≤ 5) (h : ∀ C : Ctx, C.n = 5 → IWP Tryz.prog C [] ir_R_Var (FinQ [.cell 2 true 3] r) (AS.start xs)) : ACalls Tryz.prog 34 xs r :=
  acalls_of Tryz.func34 rfl tr_R_Var rfl hn h
theorem acS_R_Var {xs : List AV} {S S' : AStore} {r : AV} (hn : xs.length ≤ 5) (h : Clean S → ∀ C : Ctx, C.n = 5 → IWP Tryz.prog C [] ir_R_Var (FinS C [.cell 2 true 3] r S') (AS.startS xs S)) : ACallsS Tryz.prog 34 xs S r S' :=
  acallsS_of Tryz.func34 rfl tr_R_Var rfl hn h

def ir_L_lam2 : IR :=
  (.seq
  (.ops
  [.mk (some 4) none (.box 25 (.t 0)) .no, .mk (some 6) none (.box 25 (.t 2)) .no, .mk (some 8) none (.mov (.c (.one (.st (.bool false)))))
  .no])
  (.seq
  (.seq
  (.ops
  [.mk (some 9) none (.mov (.t 3)) .no, .mk (some 10) none (.bin .neq (.t 9) (.c (.one (.st (.int .i64 0)))))
  .no])
  (.cond (.t 10)
  (.seq
  (.ops
  [.mk (some 11) none (.mov (.t 1)) .no, .mk (some 12) none (.mov (.t 3)) .no, .mk (some 13) none (.bin .eql (.t 11) (.t 12)) .no, .mk (some 14) none (.mov (.t 13)) .no, .mk (some 15) (some (14, true)) (.fieldAddr 0 (.t 4))
  .no, .mk (some 16) (some (14, true)) (.load false 1 (.t 15))
  .no, .mk (some 17) (some (14, true)) (.bin .eql (.t 16) (.c (.one (.st (.int .i64 0)))))
  .no, .mk (some 18) none
  (.pick (.t 14) (.t 17) (.c (.one (.st (.bool false)))))
  .no, .mk (some 19) none (.mov (.t 18)) .no, .mk (some 20) (some (19, true)) (.fieldAddr 1 (.t 4))
  .no, .mk (some 21) (some (19, true)) (.load false 1 (.t 20))
  .no, .mk (some 22) (some (19, true)) (.bin .eql (.t 21) (.c (.one (.st (.int .i64 0)))))
  .no, .mk (some 23) none
  (.pick (.t 19) (.t 22) (.c (.one (.st (.bool false)))))
  .no, .mk (some 24) none (.mov (.t 23)) .no, .mk (some 25) (some (24, true)) (.fieldAddr 2 (.t 4))
  .no, .mk (some 26) (some (24, true)) (.load false 1 (.t 25))
  .no, .mk (some 27) (some (24, true)) (.len false (.t 26))
  .no, .mk (some 28) (some (24, true)) (.bin .eql (.t 27) (.c (.one (.st (.int .i64 0)))))
  .no, .mk (some 29) none
  (.pick (.t 24) (.t 28) (.c (.one (.st (.bool false)))))
  .no, .mk (some 8) none (.mov (.t 29)) .no])
  .ret)
  .skip))
  (.seq
  (.ops
  [.mk (some 30) none (.mov (.t 1)) .no, .mk (some 31) none (.bin .eql (.t 30) (.c (.one (.st (.int .i64 0)))))
  .no, .mk (some 32) none (.mov (.t 31)) .no, .mk (some 33) (some (32, true)) (.load true 3 (.t 4))
  .no, .mk (some 34) (some (32, true)) (.load true 3 (.t 6))
  .no, .mk (some 35) (some (32, true)) (.call 58 [.t 33, .t 34]) .no, .mk (some 36) none
  (.pick (.t 32) (.t 35) (.c (.one (.st (.bool false)))))
  .no, .mk (some 8) none (.mov (.t 36)) .no])
  .ret)))
theorem tr_L_lam2 : trCode Tryz.prog 37 [] (Tryz.f31.body.getD .skip) = some ir_L_lam2 := by kernel_rfl
theorem ac_L_lam2 {xs : List AV} {r : AV} (hn : xs.length ≤ 37) (h : ∀ C : Ctx, C.n = 37 → IWP Tryz.prog C [] ir_L_lam2 (FinQ [.t 8] r) (AS.start xs)) : ACalls Tryz.prog 31 xs r :=
  acalls_of Tryz.func31 rfl tr_L_lam2 rfl hn h
theorem acS_L_lam2 {xs : List AV} {S S' : AStore} {r : AV} (hn : xs.length ≤ 37) (h : Clean S → ∀ C : Ctx, C.n = 37 → IWP Tryz.prog C [] ir_L_lam2 (FinS C [.t 8] r S') (AS.startS xs S)) : ACallsS Tryz.prog 31 xs S r S' :=
  acallsS_of Tryz.func31 rfl tr_L_lam2 rfl hn h

def ir_L_hugeLam : IR :=
  (.seq
  (.ops
  [.mk (some 1) none (.box 25 (.t 0)) .no, .mk (some 2) none (.mov (.c (.one (.st (.bool false)))))
  .no])
  (.seq
  (.ops
  [.mk (some 3) none (.load true 3 (.t 1)) .no, .mk (some 4) none (.call 18
  [.t 3, .c (.one (.st (.int .i64 3000)))])
  .no, .mk (some 5) none (.bin .gtr (.t 4) (.c (.one (.st (.int .i64 3000)))))
  .no, .mk (some 2) none (.mov (.t 5)) .no])
  .ret))
theorem tr_L_hugeLam : trCode Tryz.prog 6 [] (Tryz.f16.body.getD .skip) = some ir_L_hugeLam := by kernel_rfl
theorem ac_L_hugeLam {xs : List AV} {r : AV} (hn : xs.length ≤ 6) (h : ∀ C : Ctx, C.n = 6 → IWP Tryz.prog C [] ir_L_hugeLam (FinQ [.t 2] r) (AS.start xs)) : ACalls Tryz.prog 16 xs r :=
  acalls_of Tryz.func16 rfl tr_L_hugeLam rfl hn h
theorem acS_L_hugeLam {xs : List AV} {S S' : AStore} {r : AV} (hn : xs.length ≤ 6) (h : Clean S → ∀ C : Ctx, C.n = 6 → IWP Tryz.prog C [] ir_L_hugeLam (FinS C [.t 2] r S') (AS.startS xs S)) : ACallsS Tryz.prog 16 xs S r S' :=
  acallsS_of Tryz.func16 rfl tr_L_hugeLam rfl hn h

end Go.Proofs.YtbiadmlfejnbcaaGreatDoor

namespace Go.Proofs.YtbiadmlfejnbcaaGreatDoor
open Go Go.RowKit
set_option linter.unusedVariables false
set_option linter.unusedSimpArgs false
set_option maxHeartbeats 400000

theorem lwithin_a (t : Lm) (m : Int) (h0 : 0 ≤ m) (h1 : m ≤ 9223372036854775807) : ACalls Tryz.prog 74 [aLm t, aInt m] (aInt (lessBy t.size m)) := by
  induction h : SizeOf.sizeOf t using Nat.strongRecOn generalizing t m with
  | _ N ih =>
  subst h
  have hs := Lm.size_eq t
  refine ac_lambda_within (Nat.le_of_ble_eq_true rfl) fun C hC => ?_
  unfold ir_lambda_within
  refine IWP.learn 0 (by omega) fun hkn => ?_
  have hkn := (known_lm hkn).2.2
  repeat' (first | (with_reducible first | refine Wa ?_ | refine Wb ?_ | refine Wc ?_ | refine Wd ?_ | refine We ?_ | refine Wf ?_ | refine Wg ?_ | refine Wh ?_ | refine Wi ?_ | refine Wj ?_ | refine Wk (by decide) ?_ | refine Wl ?_ | refine Wm ?_ | refine Wn ?_) | ((with_reducible first | refine Wo (fun K hK => ?_) | refine Wq ?_ | refine Wr ?_); (try simp only [go_sem, List.forall_mem_nil, ↓guard_ite, ↓pick_ite, seval, encT_eq, inR_i64]); (repeat with_reducible refine And.intro (by first | omega | with_reducible exact lens_encT | with_reducible exact lens_encL | (simp; done) | (simp only [List.length_take, List.length_map, List.length_append, maxLen_eq]; omega)) ?_); (try (with_reducible refine hK _ ?_; clear hK K))))
  refine IWP.loopD [6] (fun n s => ∃ k, k ≤ t.subs.length ∧ n = t.subs.length - k ∧ s.env 1 = aInt (lessBy (1 + Lm.sizes (t.subs.take k)) m) ∧ s.env 10 = .one (.st (.list (t.subs.map encL))) ∧ s.env 11 = aInt t.subs.length ∧ s.env 12 = aInt k ∧ s.S 6 = none) t.subs.length ⟨0, Nat.zero_le _, rfl, by
    simp only [go_sem, List.forall_mem_nil, ↓guard_ite, ↓pick_ite, seval, encT_eq, inR_i64]
    rw [lessBy]
    have z0 : Lm.sizes [] = 0 := rfl
    congr 3
    split <;> omega, rfl, rfl, rfl, rfl⟩ ?_
  rintro n ⟨env, S⟩ ⟨k, hk, rfl, e1, e10, e11, e12, s6⟩
  simp only at e1 e10 e11 e12 s6
  repeat' (first | (with_reducible first | refine Wa ?_ | refine Wb ?_ | refine Wc ?_ | refine Wd ?_ | refine We ?_ | refine Wf ?_ | refine Wg ?_ | refine Wh ?_ | refine Wi ?_ | refine Wj ?_ | refine Wk (by decide) ?_ | refine Wl ?_ | refine Wm ?_ | refine Wn ?_) | ((with_reducible first | refine Wo (fun K hK => ?_) | refine Wq ?_ | refine Wr ?_); (try simp only [go_sem, List.forall_mem_nil, ↓guard_ite, ↓pick_ite, seval, encT_eq, inR_i64, e1, e10, e11, e12, s6]); (repeat with_reducible refine And.intro (by first | omega | with_reducible exact lens_encT | with_reducible exact lens_encL | (simp; done) | (simp only [List.length_take, List.length_map, List.length_append, maxLen_eq]; omega)) ?_); (try (with_reducible refine hK _ ?_; clear hK K))))
  with_reducible refine Wp ?_
  simp only [go_sem, List.forall_mem_nil, ↓guard_ite, ↓pick_ite, seval, true_implies, false_implies, implies_true, decide_eq_true_eq, decide_eq_false_iff_not, Int.ofNat_lt, e1, e10, e11, e12, s6]
  (try with_reducible refine ite_conj ?_)
  refine ⟨fun hlt => ?_, fun hge => ?_⟩
  · obtain ⟨a, ha⟩ := get_lt (show k < t.subs.length by omega)
    have z1 := Lm.sizes_take ha
    have z2 := Lm.sizes_take_le t.subs (k + 1)
    have z3 := Lm.length_le t.subs
    have z4 := lessBy_le (1 + Lm.sizes (t.subs.take k)) m h0
    repeat' (first | (with_reducible first | refine Wa ?_ | refine Wb ?_ | refine Wc ?_ | refine Wd ?_ | refine We ?_ | refine Wf ?_ | refine Wg ?_ | refine Wh ?_ | refine Wi ?_ | refine Wj ?_ | refine Wk (by decide) ?_ | refine Wl ?_ | refine Wm ?_ | refine Wn ?_) | ((with_reducible first | refine Wo (fun K hK => ?_) | refine Wq ?_ | refine Wr ?_); (try simp only [go_sem, List.forall_mem_nil, ↓guard_ite, ↓pick_ite, seval, encT_eq, inR_i64, e1, e10, e11, e12, s6, ha]); (repeat with_reducible refine And.intro (by first | omega | with_reducible exact lens_encT | with_reducible exact lens_encL | (simp; done) | (simp only [List.length_take, List.length_map, List.length_append, maxLen_eq]; omega)) ?_); (try (with_reducible refine hK _ ?_; clear hK K))))
    with_reducible refine Wp ?_
    simp only [go_sem, List.forall_mem_nil, ↓guard_ite, ↓pick_ite, seval, true_implies, false_implies, implies_true, decide_eq_true_eq, decide_eq_false_iff_not, Int.ofNat_lt, e1]
    (try with_reducible refine ite_conj ?_)
    refine ⟨fun hb => ?_, fun hb => ?_⟩
    · repeat' (first | (with_reducible first | refine Wa ?_ | refine Wb ?_ | refine Wc ?_ | refine Wd ?_ | refine We ?_ | refine Wf ?_ | refine Wg ?_ | refine Wh ?_ | refine Wi ?_ | refine Wj ?_ | refine Wk (by decide) ?_ | refine Wl ?_ | refine Wm ?_ | refine Wn ?_) | ((with_reducible first | refine Wo (fun K hK => ?_) | refine Wq ?_ | refine Wr ?_); (try simp only [go_sem, List.forall_mem_nil, ↓guard_ite, ↓pick_ite, seval, encT_eq, inR_i64, e1]); (repeat with_reducible refine And.intro (by first | omega | with_reducible exact lens_encT | with_reducible exact lens_encL | (simp; done) | (simp only [List.length_take, List.length_map, List.length_append, maxLen_eq]; omega)) ?_); (try (with_reducible refine hK _ ?_; clear hK K))))
      simp only [go_sem, List.forall_mem_nil, ↓guard_ite, ↓pick_ite, seval, FinQ, AS.result, resAll, resOne, tupV, e1]
      rw [lessBy_neg hb (show _ ≤ t.size by rw [hs]; omega)]
    · repeat' (first | (with_reducible first | refine Wa ?_ | refine Wb ?_ | refine Wc ?_ | refine Wd ?_ | refine We ?_ | refine Wf ?_ | refine Wg ?_ | refine Wh ?_ | refine Wi ?_ | refine Wj ?_ | refine Wk (by decide) ?_ | refine Wl ?_ | refine Wm ?_ | refine Wn ?_) | refine CallG.mk _ (ih _ (Lm.lt_of_sub (mem_of_get ha)) a _ (by omega) (by omega) rfl) ?_ | ((with_reducible first | refine Wo (fun K hK => ?_) | refine Wq ?_ | refine Wr ?_); (try simp only [go_sem, List.forall_mem_nil, ↓guard_ite, ↓pick_ite, seval, encT_eq, inR_i64, e1, e10, e11, e12, s6, ha]); (repeat with_reducible refine And.intro (by first | omega | with_reducible exact lens_encT | with_reducible exact lens_encL | (simp; done) | (simp only [List.length_take, List.length_map, List.length_append, maxLen_eq]; omega)) ?_); (try (with_reducible refine hK _ ?_; clear hK K))))
      refine then_normal ⟨t.subs.length - (k + 1), by omega, k + 1, by omega, rfl, ?_⟩
      simp only [go_sem, List.forall_mem_nil, ↓guard_ite, ↓pick_ite, seval, AS.drop, dropS, AC.clears, AC.clear, AC.highs, AC.high, Bool.not_false, Bool.true_and, Bool.and_self, AV.purge, AV.purges, AC.purge, ABlk.purge, List.contains_cons, List.contains_nil, Nat.reduceBEq, Bool.or_self, Bool.or_false, Bool.false_or, Bool.or_true, encT_eq, inR_i64, e1, e10, e11, e12, s6]
      exact ⟨by rw [lessBy_step (by omega), z1]; congr 4; omega, by congr 3⟩
  · repeat' (first | (with_reducible first | refine Wa ?_ | refine Wb ?_ | refine Wc ?_ | refine Wd ?_ | refine We ?_ | refine Wf ?_ | refine Wg ?_ | refine Wh ?_ | refine Wi ?_ | refine Wj ?_ | refine Wk (by decide) ?_ | refine Wl ?_ | refine Wm ?_ | refine Wn ?_) | ((with_reducible first | refine Wo (fun K hK => ?_) | refine Wq ?_ | refine Wr ?_); (try simp only [go_sem, List.forall_mem_nil, ↓guard_ite, ↓pick_ite, seval, encT_eq, inR_i64, e1]); (repeat with_reducible refine And.intro (by first | omega | with_reducible exact lens_encT | with_reducible exact lens_encL | (simp; done) | (simp only [List.length_take, List.length_map, List.length_append, maxLen_eq]; omega)) ?_); (try (with_reducible refine hK _ ?_; clear hK K))))
    simp only [go_sem, List.forall_mem_nil, ↓guard_ite, ↓pick_ite, seval, FinQ, AS.result, resAll, resOne, tupV, e1]
    rw [List.take_of_length_le (by omega), hs]

theorem lsize_a (t : Lm) (hz : t.size ≤ 1000000000) : ACalls Tryz.prog 57 [aLm t] (aInt t.size) := by
  induction h : SizeOf.sizeOf t using Nat.strongRecOn generalizing t with
  | _ N ih =>
  subst h
  have hs := Lm.size_eq t
  have hkn := Lm.length_le t.subs
  refine ac_lambda_Size (Nat.le_of_ble_eq_true rfl) fun C hC => ?_
  unfold ir_lambda_Size
  repeat' (first | (with_reducible first | refine Wa ?_ | refine Wb ?_ | refine Wc ?_ | refine Wd ?_ | refine We ?_ | refine Wf ?_ | refine Wg ?_ | refine Wh ?_ | refine Wi ?_ | refine Wj ?_ | refine Wk (by decide) ?_ | refine Wl ?_ | refine Wm ?_ | refine Wn ?_) | ((with_reducible first | refine Wo (fun K hK => ?_) | refine Wq ?_ | refine Wr ?_); (try simp only [go_sem, List.forall_mem_nil, ↓guard_ite, ↓pick_ite, seval, encT_eq, inR_i64]); (repeat with_reducible refine And.intro (by first | omega | with_reducible exact lens_encT | with_reducible exact lens_encL | (simp; done) | (simp only [List.length_take, List.length_map, List.length_append, maxLen_eq]; omega)) ?_); (try (with_reducible refine hK _ ?_; clear hK K))))
  refine IWP.loopD [5] (fun n s => ∃ k, k ≤ t.subs.length ∧ n = t.subs.length - k ∧ s.env 3 = aInt ((1 + Lm.sizes (t.subs.take k) : Nat)) ∧ s.env 7 = .one (.st (.list (t.subs.map encL))) ∧ s.env 8 = aInt t.subs.length ∧ s.env 9 = aInt k ∧ s.S 5 = none) t.subs.length ⟨0, Nat.zero_le _, rfl, rfl, rfl, rfl, rfl, rfl⟩ ?_
  rintro n ⟨env, S⟩ ⟨k, hk, rfl, e3, e7, e8, e9, s5⟩
  simp only at e3 e7 e8 e9 s5
  repeat' (first | (with_reducible first | refine Wa ?_ | refine Wb ?_ | refine Wc ?_ | refine Wd ?_ | refine We ?_ | refine Wf ?_ | refine Wg ?_ | refine Wh ?_ | refine Wi ?_ | refine Wj ?_ | refine Wk (by decide) ?_ | refine Wl ?_ | refine Wm ?_ | refine Wn ?_) | ((with_reducible first | refine Wo (fun K hK => ?_) | refine Wq ?_ | refine Wr ?_); (try simp only [go_sem, List.forall_mem_nil, ↓guard_ite, ↓pick_ite, seval, encT_eq, inR_i64, e3, e7, e8, e9, s5]); (repeat with_reducible refine And.intro (by first | omega | with_reducible exact lens_encT | with_reducible exact lens_encL | (simp; done) | (simp only [List.length_take, List.length_map, List.length_append, maxLen_eq]; omega)) ?_); (try (with_reducible refine hK _ ?_; clear hK K))))
  with_reducible refine Wp ?_
  simp only [go_sem, List.forall_mem_nil, ↓guard_ite, ↓pick_ite, seval, true_implies, false_implies, implies_true, decide_eq_true_eq, decide_eq_false_iff_not, Int.ofNat_lt, e3, e7, e8, e9, s5]
  (try with_reducible refine ite_conj ?_)
  refine ⟨fun hlt => ?_, fun hge => ?_⟩
  · obtain ⟨a, ha⟩ := get_lt (show k < t.subs.length by omega)
    have z1 := Lm.sizes_take ha
    have z2 := Lm.sizes_take_le t.subs (k + 1)
    have z3 := Lm.size_mem (mem_of_get ha)
    repeat' (first | (with_reducible first | refine Wa ?_ | refine Wb ?_ | refine Wc ?_ | refine Wd ?_ | refine We ?_ | refine Wf ?_ | refine Wg ?_ | refine Wh ?_ | refine Wi ?_ | refine Wj ?_ | refine Wk (by decide) ?_ | refine Wl ?_ | refine Wm ?_ | refine Wn ?_) | refine CallG.mk _ (ih _ (Lm.lt_of_sub (mem_of_get ha)) a (by omega) rfl) ?_ | ((with_reducible first | refine Wo (fun K hK => ?_) | refine Wq ?_ | refine Wr ?_); (try simp only [go_sem, List.forall_mem_nil, ↓guard_ite, ↓pick_ite, seval, encT_eq, inR_i64, e3, e7, e8, e9, s5, ha]); (repeat with_reducible refine And.intro (by first | omega | with_reducible exact lens_encT | with_reducible exact lens_encL | (simp; done) | (simp only [List.length_take, List.length_map, List.length_append, maxLen_eq]; omega)) ?_); (try (with_reducible refine hK _ ?_; clear hK K))))
    refine then_normal ⟨t.subs.length - (k + 1), by omega, k + 1, by omega, rfl, ?_⟩
    simp only [go_sem, List.forall_mem_nil, ↓guard_ite, ↓pick_ite, seval, AS.drop, dropS, AC.clears, AC.clear, AC.highs, AC.high, Bool.not_false, Bool.true_and, Bool.and_self, AV.purge, AV.purges, AC.purge, ABlk.purge, List.contains_cons, List.contains_nil, Nat.reduceBEq, Bool.or_self, Bool.or_false, Bool.false_or, Bool.or_true, encT_eq, inR_i64, e3, e7, e8, e9, s5]
    exact ⟨by rw [z1]; congr 3; omega, by congr 3⟩
  · repeat' (first | (with_reducible first | refine Wa ?_ | refine Wb ?_ | refine Wc ?_ | refine Wd ?_ | refine We ?_ | refine Wf ?_ | refine Wg ?_ | refine Wh ?_ | refine Wi ?_ | refine Wj ?_ | refine Wk (by decide) ?_ | refine Wl ?_ | refine Wm ?_ | refine Wn ?_) | ((with_reducible first | refine Wo (fun K hK => ?_) | refine Wq ?_ | refine Wr ?_); (try simp only [go_sem, List.forall_mem_nil, ↓guard_ite, ↓pick_ite, seval, encT_eq, inR_i64, e3]); (repeat with_reducible refine And.intro (by first | omega | with_reducible exact lens_encT | with_reducible exact lens_encL | (simp; done) | (simp only [List.length_take, List.length_map, List.length_append, maxLen_eq]; omega)) ?_); (try (with_reducible refine hK _ ?_; clear hK K))))
    simp only [go_sem, List.forall_mem_nil, ↓guard_ite, ↓pick_ite, seval, FinQ, AS.result, resAll, resOne, tupV, e3]
    rw [List.take_of_length_le (by omega), hs]

theorem lsizeR_a (t : Lm) (m : Int) (h0 : 0 ≤ m) (h1 : m ≤ 9223372036854775806) : ACalls Tryz.prog 18 [aLm t, aInt m] (aInt (capTo t.size m)) := by
  induction h : SizeOf.sizeOf t using Nat.strongRecOn generalizing t m with
  | _ N ih =>
  subst h
  have hs := Lm.size_eq t
  refine ac_R_LamSize (Nat.le_of_ble_eq_true rfl) fun C hC => ?_
  unfold ir_R_LamSize
  refine IWP.learn 0 (by omega) fun hkn => ?_
  have hkn := (known_lm hkn).2.2
  repeat' (first | (with_reducible first | refine Wa ?_ | refine Wb ?_ | refine Wc ?_ | refine Wd ?_ | refine We ?_ | refine Wf ?_ | refine Wg ?_ | refine Wh ?_ | refine Wi ?_ | refine Wj ?_ | refine Wk (by decide) ?_ | refine Wl ?_ | refine Wm ?_ | refine Wn ?_) | ((with_reducible first | refine Wo (fun K hK => ?_) | refine Wq ?_ | refine Wr ?_); (try simp only [go_sem, List.forall_mem_nil, ↓guard_ite, ↓pick_ite, seval, encT_eq, inR_i64]); (repeat with_reducible refine And.intro (by first | omega | with_reducible exact lens_encT | with_reducible exact lens_encL | (simp; done) | (simp only [List.length_take, List.length_map, List.length_append, maxLen_eq]; omega)) ?_); (try (with_reducible refine hK _ ?_; clear hK K))))
  refine IWP.loop (fun n s => ∃ k, k ≤ t.subs.length ∧ n = t.subs.length - k ∧ s.env 5 = aInt (capTo (1 + Lm.sizes (t.subs.take k)) m) ∧ s.env 1 = aInt m ∧ s.env 2 = .one (.ptr 2 1 0 0) ∧ s.env 6 = aInt k ∧ s.S 2 = some (.box 25 [.st (.int .i64 t.kind), .st (.int .i64 t.idx), .st (.list (t.subs.map encL))])) t.subs.length ⟨0, Nat.zero_le _, rfl, by
    simp only [go_sem, List.forall_mem_nil, ↓guard_ite, ↓pick_ite, seval, encT_eq, inR_i64]
    rw [capTo]
    have z0 : Lm.sizes [] = 0 := rfl
    congr 3
    split <;> omega, rfl, rfl, rfl, rfl⟩ ?_
  rintro n ⟨env, S⟩ ⟨k, hk, rfl, e5, e1, e2, e6, s2⟩
  simp only at e5 e1 e2 e6 s2
  have z4 := capTo_le (1 + Lm.sizes (t.subs.take k)) m h0
  by_cases hlt : (k : Int) < t.subs.length
  · obtain ⟨a, ha⟩ := get_lt (show k < t.subs.length by omega)
    have z1 := Lm.sizes_take ha
    have z2 := Lm.sizes_take_le t.subs (k + 1)
    by_cases hb : m < capTo (1 + Lm.sizes (t.subs.take k)) m
    · have hb' : ¬ capTo (1 + Lm.sizes (t.subs.take k)) m ≤ m := by omega
      repeat' (first | (with_reducible first | refine Wa ?_ | refine Wb ?_ | refine Wc ?_ | refine Wd ?_ | refine We ?_ | refine Wf ?_ | refine Wg ?_ | refine Wh ?_ | refine Wi ?_ | refine Wj ?_ | refine Wk (by decide) ?_ | refine Wl ?_ | refine Wm ?_ | refine Wn ?_) | ((with_reducible first | refine Wo (fun K hK => ?_) | refine Wq ?_ | refine Wr ?_); (try simp only [go_sem, List.forall_mem_nil, ↓guard_ite, ↓pick_ite, seval, encT_eq, inR_i64, e5, e1, e2, e6, s2, hlt, hb']); (repeat with_reducible refine And.intro (by first | omega | with_reducible exact lens_encT | with_reducible exact lens_encL | (simp; done) | (simp only [List.length_take, List.length_map, List.length_append, maxLen_eq]; omega)) ?_); (try (with_reducible refine hK _ ?_; clear hK K))))
      with_reducible refine Wp ?_
      simp only [go_sem, List.forall_mem_nil, ↓guard_ite, ↓pick_ite, seval, true_implies, false_implies, implies_true, decide_eq_true_eq, decide_eq_false_iff_not, Int.ofNat_lt, hb']
      (try with_reducible refine ite_conj ?_)
      repeat' (first | (with_reducible first | refine Wa ?_ | refine Wb ?_ | refine Wc ?_ | refine Wd ?_ | refine We ?_ | refine Wf ?_ | refine Wg ?_ | refine Wh ?_ | refine Wi ?_ | refine Wj ?_ | refine Wk (by decide) ?_ | refine Wl ?_ | refine Wm ?_ | refine Wn ?_) | ((with_reducible first | refine Wo (fun K hK => ?_) | refine Wq ?_ | refine Wr ?_); (try simp only [go_sem, List.forall_mem_nil, ↓guard_ite, ↓pick_ite, seval, encT_eq, inR_i64, e5, e1, e2, e6, s2]); (repeat with_reducible refine And.intro (by first | omega | with_reducible exact lens_encT | with_reducible exact lens_encL | (simp; done) | (simp only [List.length_take, List.length_map, List.length_append, maxLen_eq]; omega)) ?_); (try (with_reducible refine hK _ ?_; clear hK K))))
      with_reducible refine Wp ?_
      simp only [go_sem, List.forall_mem_nil, ↓guard_ite, ↓pick_ite, seval, true_implies, false_implies, implies_true, decide_eq_true_eq, decide_eq_false_iff_not, Int.ofNat_lt, hb]
      (try with_reducible refine ite_conj ?_)
      repeat' (first | (with_reducible first | refine Wa ?_ | refine Wb ?_ | refine Wc ?_ | refine Wd ?_ | refine We ?_ | refine Wf ?_ | refine Wg ?_ | refine Wh ?_ | refine Wi ?_ | refine Wj ?_ | refine Wk (by decide) ?_ | refine Wl ?_ | refine Wm ?_ | refine Wn ?_) | ((with_reducible first | refine Wo (fun K hK => ?_) | refine Wq ?_ | refine Wr ?_); (try simp only [go_sem, List.forall_mem_nil, ↓guard_ite, ↓pick_ite, seval, encT_eq, inR_i64, e1]); (repeat with_reducible refine And.intro (by first | omega | with_reducible exact lens_encT | with_reducible exact lens_encL | (simp; done) | (simp only [List.length_take, List.length_map, List.length_append, maxLen_eq]; omega)) ?_); (try (with_reducible refine hK _ ?_; clear hK K))))
      simp only [go_sem, List.forall_mem_nil, ↓guard_ite, ↓pick_ite, seval, FinQ, AS.result, resAll, resOne, tupV]
      rw [capTo_over hb (show _ ≤ t.size by rw [hs]; omega)]
    · have hb' : capTo (1 + Lm.sizes (t.subs.take k)) m ≤ m := by omega
      obtain ⟨b1, b2⟩ := capTo_in hb
      repeat' (first | (with_reducible first | refine Wa ?_ | refine Wb ?_ | refine Wc ?_ | refine Wd ?_ | refine We ?_ | refine Wf ?_ | refine Wg ?_ | refine Wh ?_ | refine Wi ?_ | refine Wj ?_ | refine Wk (by decide) ?_ | refine Wl ?_ | refine Wm ?_ | refine Wn ?_) | ((with_reducible first | refine Wo (fun K hK => ?_) | refine Wq ?_ | refine Wr ?_); (try simp only [go_sem, List.forall_mem_nil, ↓guard_ite, ↓pick_ite, seval, encT_eq, inR_i64, e5, e1, e2, e6, s2, hlt, hb']); (repeat with_reducible refine And.intro (by first | omega | with_reducible exact lens_encT | with_reducible exact lens_encL | (simp; done) | (simp only [List.length_take, List.length_map, List.length_append, maxLen_eq]; omega)) ?_); (try (with_reducible refine hK _ ?_; clear hK K))))
      with_reducible refine Wp ?_
      simp only [go_sem, List.forall_mem_nil, ↓guard_ite, ↓pick_ite, seval, true_implies, false_implies, implies_true, decide_eq_true_eq, decide_eq_false_iff_not, Int.ofNat_lt, hb']
      (try with_reducible refine ite_conj ?_)
      repeat' (first | (with_reducible first | refine Wa ?_ | refine Wb ?_ | refine Wc ?_ | refine Wd ?_ | refine We ?_ | refine Wf ?_ | refine Wg ?_ | refine Wh ?_ | refine Wi ?_ | refine Wj ?_ | refine Wk (by decide) ?_ | refine Wl ?_ | refine Wm ?_ | refine Wn ?_) | ((with_reducible first | refine Wo (fun K hK => ?_) | refine Wq ?_ | refine Wr ?_); (try simp only [go_sem, List.forall_mem_nil, ↓guard_ite, ↓pick_ite, seval, encT_eq, inR_i64, e5, e1, e2, e6, s2, ha]); (repeat with_reducible refine And.intro (by first | omega | with_reducible exact lens_encT | with_reducible exact lens_encL | (simp; done) | (simp only [List.length_take, List.length_map, List.length_append, maxLen_eq]; omega)) ?_); (try (with_reducible refine hK _ ?_; clear hK K))))
      refine ⟨_, ih _ (Lm.lt_of_sub (mem_of_get ha)) a (m - capTo (1 + Lm.sizes (t.subs.take k)) m) (by omega) (by omega) rfl, ?_⟩
      have z5 := capTo_le a.size (m - capTo (1 + Lm.sizes (t.subs.take k)) m) (by omega)
      repeat' (first | (with_reducible first | refine Wa ?_ | refine Wb ?_ | refine Wc ?_ | refine Wd ?_ | refine We ?_ | refine Wf ?_ | refine Wg ?_ | refine Wh ?_ | refine Wi ?_ | refine Wj ?_ | refine Wk (by decide) ?_ | refine Wl ?_ | refine Wm ?_ | refine Wn ?_) | ((with_reducible first | refine Wo (fun K hK => ?_) | refine Wq ?_ | refine Wr ?_); (try simp only [go_sem, List.forall_mem_nil, ↓guard_ite, ↓pick_ite, seval, encT_eq, inR_i64, e5, e1, e2, e6, s2]); (repeat with_reducible refine And.intro (by first | omega | with_reducible exact lens_encT | with_reducible exact lens_encL | (simp; done) | (simp only [List.length_take, List.length_map, List.length_append, maxLen_eq]; omega)) ?_); (try (with_reducible refine hK _ ?_; clear hK K))))
      refine then_normal ⟨t.subs.length - (k + 1), by omega, k + 1, by omega, rfl, ?_⟩
      simp only [go_sem, List.forall_mem_nil, ↓guard_ite, ↓pick_ite, seval, encT_eq, inR_i64, e5, e1, e2, e6, s2]
      exact ⟨by rw [b1, capTo_step b2, z1]; congr 4; omega, by congr 3⟩
  · repeat' (first | (with_reducible first | refine Wa ?_ | refine Wb ?_ | refine Wc ?_ | refine Wd ?_ | refine We ?_ | refine Wf ?_ | refine Wg ?_ | refine Wh ?_ | refine Wi ?_ | refine Wj ?_ | refine Wk (by decide) ?_ | refine Wl ?_ | refine Wm ?_ | refine Wn ?_) | ((with_reducible first | refine Wo (fun K hK => ?_) | refine Wq ?_ | refine Wr ?_); (try simp only [go_sem, List.forall_mem_nil, ↓guard_ite, ↓pick_ite, seval, encT_eq, inR_i64, e5, e1, e2, e6, s2, hlt]); (repeat with_reducible refine And.intro (by first | omega | with_reducible exact lens_encT | with_reducible exact lens_encL | (simp; done) | (simp only [List.length_take, List.length_map, List.length_append, maxLen_eq]; omega)) ?_); (try (with_reducible refine hK _ ?_; clear hK K))))
    with_reducible refine Wp ?_
    simp only [go_sem, List.forall_mem_nil, ↓guard_ite, ↓pick_ite, seval, true_implies, false_implies, implies_true, decide_eq_true_eq, decide_eq_false_iff_not, Int.ofNat_lt]
    (try with_reducible refine ite_conj ?_)
    have hfull : 1 + Lm.sizes (t.subs.take k) = t.size := by rw [List.take_of_length_le (by omega), hs]
    rw [hfull] at e5 z4
    repeat' (first | (with_reducible first | refine Wa ?_ | refine Wb ?_ | refine Wc ?_ | refine Wd ?_ | refine We ?_ | refine Wf ?_ | refine Wg ?_ | refine Wh ?_ | refine Wi ?_ | refine Wj ?_ | refine Wk (by decide) ?_ | refine Wl ?_ | refine Wm ?_ | refine Wn ?_) | ((with_reducible first | refine Wo (fun K hK => ?_) | refine Wq ?_ | refine Wr ?_); (try simp only [go_sem, List.forall_mem_nil, ↓guard_ite, ↓pick_ite, seval, encT_eq, inR_i64, e5, e1]); (repeat with_reducible refine And.intro (by first | omega | with_reducible exact lens_encT | with_reducible exact lens_encL | (simp; done) | (simp only [List.length_take, List.length_map, List.length_append, maxLen_eq]; omega)) ?_); (try (with_reducible refine hK _ ?_; clear hK K))))
    by_cases hb : m < capTo t.size m
    · with_reducible refine Wp ?_
      simp only [go_sem, List.forall_mem_nil, ↓guard_ite, ↓pick_ite, seval, true_implies, false_implies, implies_true, decide_eq_true_eq, decide_eq_false_iff_not, Int.ofNat_lt, hb]
      (try with_reducible refine ite_conj ?_)
      repeat' (first | (with_reducible first | refine Wa ?_ | refine Wb ?_ | refine Wc ?_ | refine Wd ?_ | refine We ?_ | refine Wf ?_ | refine Wg ?_ | refine Wh ?_ | refine Wi ?_ | refine Wj ?_ | refine Wk (by decide) ?_ | refine Wl ?_ | refine Wm ?_ | refine Wn ?_) | ((with_reducible first | refine Wo (fun K hK => ?_) | refine Wq ?_ | refine Wr ?_); (try simp only [go_sem, List.forall_mem_nil, ↓guard_ite, ↓pick_ite, seval, encT_eq, inR_i64, e1]); (repeat with_reducible refine And.intro (by first | omega | with_reducible exact lens_encT | with_reducible exact lens_encL | (simp; done) | (simp only [List.length_take, List.length_map, List.length_append, maxLen_eq]; omega)) ?_); (try (with_reducible refine hK _ ?_; clear hK K))))
      simp only [go_sem, List.forall_mem_nil, ↓guard_ite, ↓pick_ite, seval, FinQ, AS.result, resAll, resOne, tupV]
      rw [capTo_over hb (Nat.le_refl _)]
    · with_reducible refine Wp ?_
      simp only [go_sem, List.forall_mem_nil, ↓guard_ite, ↓pick_ite, seval, true_implies, false_implies, implies_true, decide_eq_true_eq, decide_eq_false_iff_not, Int.ofNat_lt, hb]
      (try with_reducible refine ite_conj ?_)
      repeat' (first | (with_reducible first | refine Wa ?_ | refine Wb ?_ | refine Wc ?_ | refine Wd ?_ | refine We ?_ | refine Wf ?_ | refine Wg ?_ | refine Wh ?_ | refine Wi ?_ | refine Wj ?_ | refine Wk (by decide) ?_ | refine Wl ?_ | refine Wm ?_ | refine Wn ?_) | ((with_reducible first | refine Wo (fun K hK => ?_) | refine Wq ?_ | refine Wr ?_); (try simp only [go_sem, List.forall_mem_nil, ↓guard_ite, ↓pick_ite, seval, encT_eq, inR_i64, e5]); (repeat with_reducible refine And.intro (by first | omega | with_reducible exact lens_encT | with_reducible exact lens_encL | (simp; done) | (simp only [List.length_take, List.length_map, List.length_append, maxLen_eq]; omega)) ?_); (try (with_reducible refine hK _ ?_; clear hK K))))
      simp only [go_sem, List.forall_mem_nil, ↓guard_ite, ↓pick_ite, seval, FinQ, AS.result, resAll, resOne, tupV, e5]

theorem kinds_of {k : Int} (h : 1 ≤ k ∧ k ≤ 5) : k = 1 ∨ k = 2 ∨ k = 3 ∨ k = 4 ∨ k = 5 := by omega
set_option maxHeartbeats 1000000 in
theorem lcheck_a (t : Lm) (u m : Int) (hu : 0 ≤ u) (hz : u + t.size ≤ 1000000000) : ACalls Tryz.prog 75 [aLm t, aInt u, aInt m] (aInt (t.chk m u)) := by
  induction h : SizeOf.sizeOf t using Nat.strongRecOn generalizing t u with
  | _ N ih =>
  subst h
  have hs := Lm.size_eq t
  have hlen := Lm.length_le t.subs
  refine ac_lambda_check (Nat.le_of_ble_eq_true rfl) fun C hC => ?_
  unfold ir_lambda_check
  by_cases hk : 1 ≤ t.kind ∧ t.kind ≤ 5
  case neg =>
    rw [Lm.chk_eq, if_neg (fun h => hk ⟨h.1, h.2.1⟩)]
    by_cases h1 : t.kind < 1
    · repeat' (first | (with_reducible first | refine Wa ?_ | refine Wb ?_ | refine Wc ?_ | refine Wd ?_ | refine We ?_ | refine Wf ?_ | refine Wg ?_ | refine Wh ?_ | refine Wi ?_ | refine Wj ?_ | refine Wk (by decide) ?_ | refine Wl ?_ | refine Wm ?_ | refine Wn ?_) | ((with_reducible first | refine Wo (fun K hK => ?_) | refine Wp ?_ | refine Wq ?_ | refine Wr ?_); (try simp only [go_sem, List.forall_mem_nil, ↓guard_ite, ↓pick_ite, seval, encT_eq, inR_i64, h1, decide_eq_true_eq, decide_eq_false_iff_not, Int.ofNat_lt]); (repeat with_reducible refine And.intro (by first | omega | with_reducible exact lens_encT | with_reducible exact lens_encL | (simp; done) | (simp only [List.length_take, List.length_map, List.length_append, maxLen_eq]; omega)) ?_); (try (with_reducible refine hK _ ?_; clear hK K)); (try with_reducible refine ite_conj ?_)))
      simp only [go_sem, List.forall_mem_nil, ↓guard_ite, ↓pick_ite, seval, FinQ, AS.result, resAll, resOne, tupV]
    · have h5 : 5 < t.kind := by omega
      repeat' (first | (with_reducible first | refine Wa ?_ | refine Wb ?_ | refine Wc ?_ | refine Wd ?_ | refine We ?_ | refine Wf ?_ | refine Wg ?_ | refine Wh ?_ | refine Wi ?_ | refine Wj ?_ | refine Wk (by decide) ?_ | refine Wl ?_ | refine Wm ?_ | refine Wn ?_) | ((with_reducible first | refine Wo (fun K hK => ?_) | refine Wp ?_ | refine Wq ?_ | refine Wr ?_); (try simp only [go_sem, List.forall_mem_nil, ↓guard_ite, ↓pick_ite, seval, encT_eq, inR_i64, h1, h5, decide_eq_true_eq, decide_eq_false_iff_not, Int.ofNat_lt]); (repeat with_reducible refine And.intro (by first | omega | with_reducible exact lens_encT | with_reducible exact lens_encL | (simp; done) | (simp only [List.length_take, List.length_map, List.length_append, maxLen_eq]; omega)) ?_); (try (with_reducible refine hK _ ?_; clear hK K)); (try with_reducible refine ite_conj ?_)))
      simp only [go_sem, List.forall_mem_nil, ↓guard_ite, ↓pick_ite, seval, FinQ, AS.result, resAll, resOne, tupV]
  case pos =>
  have hk5 := kinds_of hk
  have q1 : ¬ t.kind < 1 := by omega
  have q5 : ¬ 5 < t.kind := by omega
  by_cases hl : (t.subs.length : Int) = nSubs t.kind
  case neg =>
    rw [Lm.chk_eq, if_neg (fun h => hl h.2.2)]
    rcases hk5 with hk5 | hk5 | hk5 | hk5 | hk5
    all_goals
      simp only [hk5, nSubs, Int.reduceEq, ↓reduceIte] at hl
      repeat' (first | (with_reducible first | refine Wa ?_ | refine Wb ?_ | refine Wc ?_ | refine Wd ?_ | refine We ?_ | refine Wf ?_ | refine Wg ?_ | refine Wh ?_ | refine Wi ?_ | refine Wj ?_ | refine Wk (by decide) ?_ | refine Wl ?_ | refine Wm ?_ | refine Wn ?_) | ((with_reducible first | refine Wo (fun K hK => ?_) | refine Wp ?_ | refine Wq ?_ | refine Wr ?_); (try simp only [go_sem, List.forall_mem_nil, ↓guard_ite, ↓pick_ite, seval, encT_eq, inR_i64, hk5, hl, decide_eq_true_eq, decide_eq_false_iff_not, Int.ofNat_lt]); (repeat with_reducible refine And.intro (by first | omega | with_reducible exact lens_encT | with_reducible exact lens_encL | (simp; done) | (simp only [List.length_take, List.length_map, List.length_append, maxLen_eq]; omega)) ?_); (try (with_reducible refine hK _ ?_; clear hK K)); (try with_reducible refine ite_conj ?_)))
      simp only [go_sem, List.forall_mem_nil, ↓guard_ite, ↓pick_ite, seval, FinQ, AS.result, resAll, resOne, tupV]
  case pos =>
  by_cases h0 : t.idx < 0
  case pos =>
    rw [Lm.chk_eq, if_pos ⟨hk.1, hk.2, hl⟩, if_neg (fun h => by omega)]
    rcases hk5 with hk5 | hk5 | hk5 | hk5 | hk5
    all_goals
      simp only [hk5, nSubs, Int.reduceEq, ↓reduceIte] at hl
      repeat' (first | (with_reducible first | refine Wa ?_ | refine Wb ?_ | refine Wc ?_ | refine Wd ?_ | refine We ?_ | refine Wf ?_ | refine Wg ?_ | refine Wh ?_ | refine Wi ?_ | refine Wj ?_ | refine Wk (by decide) ?_ | refine Wl ?_ | refine Wm ?_ | refine Wn ?_) | ((with_reducible first | refine Wo (fun K hK => ?_) | refine Wp ?_ | refine Wq ?_ | refine Wr ?_); (try simp only [go_sem, List.forall_mem_nil, ↓guard_ite, ↓pick_ite, seval, encT_eq, inR_i64, hk5, hl, h0, decide_eq_true_eq, decide_eq_false_iff_not, Int.ofNat_lt]); (repeat with_reducible refine And.intro (by first | omega | with_reducible exact lens_encT | with_reducible exact lens_encL | (simp; done) | (simp only [List.length_take, List.length_map, List.length_append, maxLen_eq]; omega)) ?_); (try (with_reducible refine hK _ ?_; clear hK K)); (try with_reducible refine ite_conj ?_)))
      simp only [go_sem, List.forall_mem_nil, ↓guard_ite, ↓pick_ite, seval, FinQ, AS.result, resAll, resOne, tupV]
  case neg =>
  by_cases hm : mostIdx t.kind u m ≤ t.idx
  case pos =>
    rw [Lm.chk_eq, if_pos ⟨hk.1, hk.2, hl⟩, if_neg (fun h => by omega)]
    rcases hk5 with hk5 | hk5 | hk5 | hk5 | hk5
    all_goals
      simp only [hk5, nSubs, mostIdx, Int.reduceEq, ↓reduceIte] at hl hm
      repeat' (first | (with_reducible first | refine Wa ?_ | refine Wb ?_ | refine Wc ?_ | refine Wd ?_ | refine We ?_ | refine Wf ?_ | refine Wg ?_ | refine Wh ?_ | refine Wi ?_ | refine Wj ?_ | refine Wk (by decide) ?_ | refine Wl ?_ | refine Wm ?_ | refine Wn ?_) | ((with_reducible first | refine Wo (fun K hK => ?_) | refine Wp ?_ | refine Wq ?_ | refine Wr ?_); (try simp only [go_sem, List.forall_mem_nil, ↓guard_ite, ↓pick_ite, seval, encT_eq, inR_i64, hk5, hl, h0, hm, decide_eq_true_eq, decide_eq_false_iff_not, Int.ofNat_lt]); (repeat with_reducible refine And.intro (by first | omega | with_reducible exact lens_encT | with_reducible exact lens_encL | (simp; done) | (simp only [List.length_take, List.length_map, List.length_append, maxLen_eq]; omega)) ?_); (try (with_reducible refine hK _ ?_; clear hK K)); (try with_reducible refine ite_conj ?_)))
      simp only [go_sem, List.forall_mem_nil, ↓guard_ite, ↓pick_ite, seval, FinQ, AS.result, resAll, resOne, tupV]
  case neg =>
  rw [Lm.chk_eq, if_pos ⟨hk.1, hk.2, hl⟩, if_pos (by omega)]
  rcases hk5 with hk5 | hk5 | hk5 | hk5 | hk5
  all_goals
    simp only [hk5, nSubs, mostIdx, Int.reduceEq, ↓reduceIte] at hl hm
    repeat' (first | (with_reducible first | refine Wa ?_ | refine Wb ?_ | refine Wc ?_ | refine Wd ?_ | refine We ?_ | refine Wf ?_ | refine Wg ?_ | refine Wh ?_ | refine Wi ?_ | refine Wj ?_ | refine Wk (by decide) ?_ | refine Wl ?_ | refine Wm ?_ | refine Wn ?_) | ((with_reducible first | refine Wo (fun K hK => ?_) | refine Wp ?_ | refine Wq ?_ | refine Wr ?_); (try simp only [go_sem, List.forall_mem_nil, ↓guard_ite, ↓pick_ite, seval, encT_eq, inR_i64, hk5, hl, h0, hm, decide_eq_true_eq, decide_eq_false_iff_not, Int.ofNat_lt]); (repeat with_reducible refine And.intro (by first | omega | with_reducible exact lens_encT | with_reducible exact lens_encL | (simp; done) | (simp only [List.length_take, List.length_map, List.length_append, maxLen_eq]; omega)) ?_); (try (with_reducible refine hK _ ?_; clear hK K)); (try with_reducible refine ite_conj ?_)))
    refine IWP.loopD [9] (fun n s => ∃ k, k ≤ t.subs.length ∧ n = t.subs.length - k ∧ Lm.chks m (t.subs.take k) (under t.kind u) = 0 ∧ s.env 1 = aInt (under t.kind u) ∧ s.env 2 = aInt m ∧ s.env 54 = .one (.st (.list (t.subs.map encL))) ∧ s.env 55 = aInt t.subs.length ∧ s.env 56 = aInt k ∧ s.S 9 = none) t.subs.length ⟨0, Nat.zero_le _, rfl, rfl, by simp only [hk5, under]; rfl, rfl, rfl, by simp only [go_sem, List.forall_mem_nil, ↓guard_ite, ↓pick_ite, seval, encT_eq, inR_i64, hl], rfl, rfl⟩ ?_
    rintro n ⟨env, S⟩ ⟨k, hk', rfl, hc, e1, e2, e54, e55, e56, s9⟩
    simp only at e1 e2 e54 e55 e56 s9
    by_cases hlt : (k : Int) < t.subs.length
    · obtain ⟨a, ha⟩ := get_lt (show k < t.subs.length by omega)
      have z3 := Lm.size_mem (mem_of_get ha)
      have hu2 : under t.kind u ≤ u + 1 ∧ 0 ≤ under t.kind u := by unfold under; split <;> omega
      repeat' (first | (with_reducible first | refine Wa ?_ | refine Wb ?_ | refine Wc ?_ | refine Wd ?_ | refine We ?_ | refine Wf ?_ | refine Wg ?_ | refine Wh ?_ | refine Wi ?_ | refine Wj ?_ | refine Wk (by decide) ?_ | refine Wl ?_ | refine Wm ?_ | refine Wn ?_) | ((with_reducible first | refine Wo (fun K hK => ?_) | refine Wp ?_ | refine Wq ?_ | refine Wr ?_); (try simp only [go_sem, List.forall_mem_nil, ↓guard_ite, ↓pick_ite, seval, encT_eq, inR_i64, e1, e2, e54, e55, e56, s9, ha, hlt, decide_eq_true_eq, decide_eq_false_iff_not, Int.ofNat_lt]); (repeat with_reducible refine And.intro (by first | omega | with_reducible exact lens_encT | with_reducible exact lens_encL | (simp; done) | (simp only [List.length_take, List.length_map, List.length_append, maxLen_eq]; omega)) ?_); (try (with_reducible refine hK _ ?_; clear hK K)); (try with_reducible refine ite_conj ?_)))
      refine ⟨_, ih _ (Lm.lt_of_sub (mem_of_get ha)) a (under t.kind u) hu2.2 (by omega) rfl, ?_⟩
      by_cases hr : a.chk m (under t.kind u) = 0
      · repeat' (first | (with_reducible first | refine Wa ?_ | refine Wb ?_ | refine Wc ?_ | refine Wd ?_ | refine We ?_ | refine Wf ?_ | refine Wg ?_ | refine Wh ?_ | refine Wi ?_ | refine Wj ?_ | refine Wk (by decide) ?_ | refine Wl ?_ | refine Wm ?_ | refine Wn ?_) | ((with_reducible first | refine Wo (fun K hK => ?_) | refine Wp ?_ | refine Wq ?_ | refine Wr ?_); (try simp only [go_sem, List.forall_mem_nil, ↓guard_ite, ↓pick_ite, seval, encT_eq, inR_i64, e1, e2, e54, e55, e56, s9, hr, decide_eq_true_eq, decide_eq_false_iff_not, Int.ofNat_lt]); (repeat with_reducible refine And.intro (by first | omega | with_reducible exact lens_encT | with_reducible exact lens_encL | (simp; done) | (simp only [List.length_take, List.length_map, List.length_append, maxLen_eq]; omega)) ?_); (try (with_reducible refine hK _ ?_; clear hK K)); (try with_reducible refine ite_conj ?_)))
        refine then_normal ⟨t.subs.length - (k + 1), by omega, k + 1, by omega, rfl, ?_⟩
        simp only [go_sem, List.forall_mem_nil, ↓guard_ite, ↓pick_ite, seval, AS.drop, dropS, AC.clears, AC.clear, AC.highs, AC.high, Bool.not_false, Bool.true_and, Bool.and_self, AV.purge, AV.purges, AC.purge, ABlk.purge, List.contains_cons, List.contains_nil, Nat.reduceBEq, Bool.or_self, Bool.or_false, Bool.false_or, Bool.or_true, encT_eq, inR_i64, e1, e2, e54, e55, e56, s9]
        exact ⟨by rw [Lm.chks_take ha hc, hr], by congr 3⟩
      · repeat' (first | (with_reducible first | refine Wa ?_ | refine Wb ?_ | refine Wc ?_ | refine Wd ?_ | refine We ?_ | refine Wf ?_ | refine Wg ?_ | refine Wh ?_ | refine Wi ?_ | refine Wj ?_ | refine Wk (by decide) ?_ | refine Wl ?_ | refine Wm ?_ | refine Wn ?_) | ((with_reducible first | refine Wo (fun K hK => ?_) | refine Wp ?_ | refine Wq ?_ | refine Wr ?_); (try simp only [go_sem, List.forall_mem_nil, ↓guard_ite, ↓pick_ite, seval, encT_eq, inR_i64, e1, e2, e54, e55, e56, s9, hr, decide_eq_true_eq, decide_eq_false_iff_not, Int.ofNat_lt]); (repeat with_reducible refine And.intro (by first | omega | with_reducible exact lens_encT | with_reducible exact lens_encL | (simp; done) | (simp only [List.length_take, List.length_map, List.length_append, maxLen_eq]; omega)) ?_); (try (with_reducible refine hK _ ?_; clear hK K)); (try with_reducible refine ite_conj ?_)))
        simp only [go_sem, List.forall_mem_nil, ↓guard_ite, ↓pick_ite, seval, FinQ, AS.result, resAll, resOne, tupV]
        simp only [hk5] at hc hr ⊢
        rw [Lm.chks_bad (k := k + 1) (by rw [Lm.chks_take ha hc]; exact hr), Lm.chks_take ha hc]
    · repeat' (first | (with_reducible first | refine Wa ?_ | refine Wb ?_ | refine Wc ?_ | refine Wd ?_ | refine We ?_ | refine Wf ?_ | refine Wg ?_ | refine Wh ?_ | refine Wi ?_ | refine Wj ?_ | refine Wk (by decide) ?_ | refine Wl ?_ | refine Wm ?_ | refine Wn ?_) | ((with_reducible first | refine Wo (fun K hK => ?_) | refine Wp ?_ | refine Wq ?_ | refine Wr ?_); (try simp only [go_sem, List.forall_mem_nil, ↓guard_ite, ↓pick_ite, seval, encT_eq, inR_i64, e1, e2, e54, e55, e56, s9, hlt, decide_eq_true_eq, decide_eq_false_iff_not, Int.ofNat_lt]); (repeat with_reducible refine And.intro (by first | omega | with_reducible exact lens_encT | with_reducible exact lens_encL | (simp; done) | (simp only [List.length_take, List.length_map, List.length_append, maxLen_eq]; omega)) ?_); (try (with_reducible refine hK _ ?_; clear hK K)); (try with_reducible refine ite_conj ?_)))
      simp only [go_sem, List.forall_mem_nil, ↓guard_ite, ↓pick_ite, seval, FinQ, AS.result, resAll, resOne, tupV]
      rw [List.take_of_length_le (by omega)] at hc
      simp only [hk5] at hc ⊢
      rw [hc]

theorem lessBy_neg_iff {s : Nat} {m : Int} (h : 0 ≤ m) : lessBy s m < 0 ↔ m < s := by
  unfold lessBy
  split <;> omega
theorem lcheckWith_a (t : Lm) (u m : Int) : ACalls Tryz.prog 59 [aLm t, aInt u, aInt m] (aInt (t.may m u)) := by
  refine ac_lambda_CheckWith (Nat.le_of_ble_eq_true rfl) fun C hC => ?_
  unfold ir_lambda_CheckWith
  unfold Lm.may
  by_cases h0 : u < 0
  · rw [if_pos (Or.inl h0)]
    repeat' (first | (with_reducible first | refine Wa ?_ | refine Wb ?_ | refine Wc ?_ | refine Wd ?_ | refine We ?_ | refine Wf ?_ | refine Wg ?_ | refine Wh ?_ | refine Wi ?_ | refine Wj ?_ | refine Wk (by decide) ?_ | refine Wl ?_ | refine Wm ?_ | refine Wn ?_) | ((with_reducible first | refine Wo (fun K hK => ?_) | refine Wp ?_ | refine Wq ?_ | refine Wr ?_); (try simp only [go_sem, List.forall_mem_nil, ↓guard_ite, ↓pick_ite, seval, encT_eq, inR_i64, h0, decide_eq_true_eq, decide_eq_false_iff_not, Int.ofNat_lt]); (repeat with_reducible refine And.intro (by first | omega | with_reducible exact lens_encT | with_reducible exact lens_encL | (simp; done) | (simp only [List.length_take, List.length_map, List.length_append, maxLen_eq]; omega)) ?_); (try (with_reducible refine hK _ ?_; clear hK K)); (try with_reducible refine ite_conj ?_)))
    simp only [go_sem, List.forall_mem_nil, ↓guard_ite, ↓pick_ite, seval, FinQ, AS.result, resAll, resOne, tupV]
  by_cases h1 : 40 < u
  · rw [if_pos (Or.inr h1)]
    repeat' (first | (with_reducible first | refine Wa ?_ | refine Wb ?_ | refine Wc ?_ | refine Wd ?_ | refine We ?_ | refine Wf ?_ | refine Wg ?_ | refine Wh ?_ | refine Wi ?_ | refine Wj ?_ | refine Wk (by decide) ?_ | refine Wl ?_ | refine Wm ?_ | refine Wn ?_) | ((with_reducible first | refine Wo (fun K hK => ?_) | refine Wp ?_ | refine Wq ?_ | refine Wr ?_); (try simp only [go_sem, List.forall_mem_nil, ↓guard_ite, ↓pick_ite, seval, encT_eq, inR_i64, h0, h1, decide_eq_true_eq, decide_eq_false_iff_not, Int.ofNat_lt]); (repeat with_reducible refine And.intro (by first | omega | with_reducible exact lens_encT | with_reducible exact lens_encL | (simp; done) | (simp only [List.length_take, List.length_map, List.length_append, maxLen_eq]; omega)) ?_); (try (with_reducible refine hK _ ?_; clear hK K)); (try with_reducible refine ite_conj ?_)))
    simp only [go_sem, List.forall_mem_nil, ↓guard_ite, ↓pick_ite, seval, FinQ, AS.result, resAll, resOne, tupV]
  rw [if_neg (by omega)]
  have hw := @lessBy_neg_iff t.size 200 (by decide)
  by_cases hz : 200 < t.size
  · have hz' := hw.2 (by omega)
    rw [if_pos hz]
    repeat' (first | (with_reducible first | refine Wa ?_ | refine Wb ?_ | refine Wc ?_ | refine Wd ?_ | refine We ?_ | refine Wf ?_ | refine Wg ?_ | refine Wh ?_ | refine Wi ?_ | refine Wj ?_ | refine Wk (by decide) ?_ | refine Wl ?_ | refine Wm ?_ | refine Wn ?_) | refine CallG.mk _ (lwithin_a t 200 (by decide) (by decide)) ?_ | ((with_reducible first | refine Wo (fun K hK => ?_) | refine Wp ?_ | refine Wq ?_ | refine Wr ?_); (try simp only [go_sem, List.forall_mem_nil, ↓guard_ite, ↓pick_ite, seval, encT_eq, inR_i64, h0, h1, hz', decide_eq_true_eq, decide_eq_false_iff_not, Int.ofNat_lt]); (repeat with_reducible refine And.intro (by first | omega | with_reducible exact lens_encT | with_reducible exact lens_encL | (simp; done) | (simp only [List.length_take, List.length_map, List.length_append, maxLen_eq]; omega)) ?_); (try (with_reducible refine hK _ ?_; clear hK K)); (try with_reducible refine ite_conj ?_)))
    simp only [go_sem, List.forall_mem_nil, ↓guard_ite, ↓pick_ite, seval, FinQ, AS.result, resAll, resOne, tupV]
  · have hz' : ¬ lessBy t.size 200 < 0 := fun h => hz (by have := hw.1 h; omega)
    rw [if_neg hz]
    repeat' (first | (with_reducible first | refine Wa ?_ | refine Wb ?_ | refine Wc ?_ | refine Wd ?_ | refine We ?_ | refine Wf ?_ | refine Wg ?_ | refine Wh ?_ | refine Wi ?_ | refine Wj ?_ | refine Wk (by decide) ?_ | refine Wl ?_ | refine Wm ?_ | refine Wn ?_) | refine CallG.mk _ (lwithin_a t 200 (by decide) (by decide)) ?_ | refine CallG.mk _ (lcheck_a t u m (by omega) (by omega)) ?_ | ((with_reducible first | refine Wo (fun K hK => ?_) | refine Wp ?_ | refine Wq ?_ | refine Wr ?_); (try simp only [go_sem, List.forall_mem_nil, ↓guard_ite, ↓pick_ite, seval, encT_eq, inR_i64, h0, h1, hz', decide_eq_true_eq, decide_eq_false_iff_not, Int.ofNat_lt]); (repeat with_reducible refine And.intro (by first | omega | with_reducible exact lens_encT | with_reducible exact lens_encL | (simp; done) | (simp only [List.length_take, List.length_map, List.length_append, maxLen_eq]; omega)) ?_); (try (with_reducible refine hK _ ?_; clear hK K)); (try with_reducible refine ite_conj ?_)))
    simp only [go_sem, List.forall_mem_nil, ↓guard_ite, ↓pick_ite, seval, FinQ, AS.result, resAll, resOne, tupV]
theorem lCheck_a (t : Lm) (u : Int) : ACalls Tryz.prog 39 [aLm t, aInt u] (aInt (t.may 0 u)) := by
  refine ac_lambda_Check (Nat.le_of_ble_eq_true rfl) fun C hC => ?_
  unfold ir_lambda_Check
  repeat' (first | (with_reducible first | refine Wa ?_ | refine Wb ?_ | refine Wc ?_ | refine Wd ?_ | refine We ?_ | refine Wf ?_ | refine Wg ?_ | refine Wh ?_ | refine Wi ?_ | refine Wj ?_ | refine Wk (by decide) ?_ | refine Wl ?_ | refine Wm ?_ | refine Wn ?_) | refine CallG.mk _ (lcheckWith_a t u 0) ?_ | ((with_reducible first | refine Wo (fun K hK => ?_) | refine Wp ?_ | refine Wq ?_ | refine Wr ?_); (try simp only [go_sem, List.forall_mem_nil, ↓guard_ite, ↓pick_ite, seval, encT_eq, inR_i64, decide_eq_true_eq, decide_eq_false_iff_not, Int.ofNat_lt]); (repeat with_reducible refine And.intro (by first | omega | with_reducible exact lens_encT | with_reducible exact lens_encL | (simp; done) | (simp only [List.length_take, List.length_map, List.length_append, maxLen_eq]; omega)) ?_); (try (with_reducible refine hK _ ?_; clear hK K)); (try with_reducible refine ite_conj ?_)))
  simp only [go_sem, List.forall_mem_nil, ↓guard_ite, ↓pick_ite, seval, FinQ, AS.result, resAll, resOne, tupV]
end Go.Proofs.YtbiadmlfejnbcaaGreatDoor

namespace Go.Proofs.YtbiadmlfejnbcaaGreatDoor
open Go Go.RowKit
set_option linter.unusedVariables false
set_option linter.unusedSimpArgs false
set_option maxHeartbeats 400000

theorem lV_a (i : Int) : ACalls Tryz.prog 79 [aInt i] (aLm (.mk 1 i [])) := by
  refine ac_lambda_V (Nat.le_of_ble_eq_true rfl) fun C hC => ?_
  unfold ir_lambda_V
  repeat' (first | (with_reducible first | refine Wa ?_ | refine Wb ?_ | refine Wc ?_ | refine Wd ?_ | refine We ?_ | refine Wf ?_ | refine Wg ?_ | refine Wh ?_ | refine Wi ?_ | refine Wj ?_ | refine Wk (by decide) ?_ | refine Wl ?_ | refine Wm ?_ | refine Wn ?_) | ((with_reducible first | refine Wo (fun K hK => ?_) | refine Wp ?_ | refine Wq ?_ | refine Wr ?_); (try simp only [go_sem, List.forall_mem_nil, ↓guard_ite, ↓pick_ite, seval, encT_eq, inR_i64, decide_eq_true_eq, decide_eq_false_iff_not, Int.ofNat_lt]); (repeat with_reducible refine And.intro (by first | omega | with_reducible exact lens_encT | with_reducible exact lens_encL | (simp; done) | (simp only [List.length_take, List.length_map, List.length_append, maxLen_eq]; omega)) ?_); (try (with_reducible refine hK _ ?_; clear hK K)); (try with_reducible refine ite_conj ?_)))
  simp only [go_sem, List.forall_mem_nil, ↓guard_ite, ↓pick_ite, seval, FinQ, AS.result, resAll, resOne, tupV]
  rfl
theorem lVar_a (i : Int) : ACalls Tryz.prog 34 [aInt i] (aLm (.mk 1 i [])) := by
  refine ac_R_Var (Nat.le_of_ble_eq_true rfl) fun C hC => ?_
  unfold ir_R_Var
  repeat' (first | (with_reducible first | refine Wa ?_ | refine Wb ?_ | refine Wc ?_ | refine Wd ?_ | refine We ?_ | refine Wf ?_ | refine Wg ?_ | refine Wh ?_ | refine Wi ?_ | refine Wj ?_ | refine Wk (by decide) ?_ | refine Wl ?_ | refine Wm ?_ | refine Wn ?_) | ((with_reducible first | refine Wo (fun K hK => ?_) | refine Wp ?_ | refine Wq ?_ | refine Wr ?_); (try simp only [go_sem, List.forall_mem_nil, ↓guard_ite, ↓pick_ite, seval, encT_eq, inR_i64, decide_eq_true_eq, decide_eq_false_iff_not, Int.ofNat_lt]); (repeat with_reducible refine And.intro (by first | omega | with_reducible exact lens_encT | with_reducible exact lens_encL | (simp; done) | (simp only [List.length_take, List.length_map, List.length_append, maxLen_eq]; omega)) ?_); (try (with_reducible refine hK _ ?_; clear hK K)); (try with_reducible refine ite_conj ?_)))
  simp only [go_sem, List.forall_mem_nil, ↓guard_ite, ↓pick_ite, seval, FinQ, AS.result, resAll, resOne, tupV]
  rfl

/-- One term in a row. -/
abbrev aLm1 (x : Lm) : AV := .one (.st (.list [[.int .i64 x.kind, .int .i64 x.idx, .list (x.subs.map encL)]]))
end Go.Proofs.YtbiadmlfejnbcaaGreatDoor

namespace Go.Proofs.YtbiadmlfejnbcaaGreatDoor
open Go Go.RowKit
set_option linter.unusedVariables false
set_option linter.unusedSimpArgs false
set_option maxHeartbeats 400000

set_option maxHeartbeats 1000000 in
theorem lchkR_a (t : Lm) (u m : Int) (hu : 0 ≤ u) (hz : u + t.size ≤ 1000000000) : ACalls Tryz.prog 38 [aLm t, aInt u, aInt m] (aInt (t.chk m u)) := by
  induction h : SizeOf.sizeOf t using Nat.strongRecOn generalizing t u with
  | _ N ih =>
  subst h
  have hs := Lm.size_eq t
  have hlen := Lm.length_le t.subs
  refine ac_R_lamMay (Nat.le_of_ble_eq_true rfl) fun C hC => ?_
  unfold ir_R_lamMay
  by_cases hk : 1 ≤ t.kind ∧ t.kind ≤ 5
  case neg =>
    rw [Lm.chk_eq, if_neg (fun h => hk ⟨h.1, h.2.1⟩)]
    have q1 : ¬ t.kind = 1 := by omega
    have q2 : ¬ t.kind = 2 := by omega
    have q3 : ¬ t.kind = 3 := by omega
    have q4 : ¬ t.kind = 4 := by omega
    have q5 : ¬ t.kind = 5 := by omega
    repeat' (first | (with_reducible first | refine Wa ?_ | refine Wb ?_ | refine Wc ?_ | refine Wd ?_ | refine We ?_ | refine Wf ?_ | refine Wg ?_ | refine Wh ?_ | refine Wi ?_ | refine Wj ?_ | refine Wk (by decide) ?_ | refine Wl ?_ | refine Wm ?_ | refine Wn ?_) | ((with_reducible first | refine Wo (fun K hK => ?_) | refine Wp ?_ | refine Wq ?_ | refine Wr ?_); (try simp only [go_sem, List.forall_mem_nil, ↓guard_ite, ↓pick_ite, seval, encT_eq, inR_i64, q1, q2, q3, q4, q5, decide_eq_true_eq, decide_eq_false_iff_not, Int.ofNat_lt]); (repeat with_reducible refine And.intro (by first | omega | with_reducible exact lens_encT | with_reducible exact lens_encL | (simp; done) | (simp only [List.length_take, List.length_map, List.length_append, maxLen_eq]; omega)) ?_); (try (with_reducible refine hK _ ?_; clear hK K)); (try with_reducible refine ite_conj ?_)))
    simp only [go_sem, List.forall_mem_nil, ↓guard_ite, ↓pick_ite, seval, FinQ, AS.result, resAll, resOne, tupV]
  case pos =>
  have hk5 := kinds_of hk
  by_cases hl : (t.subs.length : Int) = nSubs t.kind
  case neg =>
    rw [Lm.chk_eq, if_neg (fun h => hl h.2.2)]
    rcases hk5 with hk5 | hk5 | hk5 | hk5 | hk5
    all_goals
      simp only [hk5, nSubs, Int.reduceEq, ↓reduceIte] at hl
      repeat' (first | (with_reducible first | refine Wa ?_ | refine Wb ?_ | refine Wc ?_ | refine Wd ?_ | refine We ?_ | refine Wf ?_ | refine Wg ?_ | refine Wh ?_ | refine Wi ?_ | refine Wj ?_ | refine Wk (by decide) ?_ | refine Wl ?_ | refine Wm ?_ | refine Wn ?_) | ((with_reducible first | refine Wo (fun K hK => ?_) | refine Wp ?_ | refine Wq ?_ | refine Wr ?_); (try simp only [go_sem, List.forall_mem_nil, ↓guard_ite, ↓pick_ite, seval, encT_eq, inR_i64, hk5, hl, decide_eq_true_eq, decide_eq_false_iff_not, Int.ofNat_lt]); (repeat with_reducible refine And.intro (by first | omega | with_reducible exact lens_encT | with_reducible exact lens_encL | (simp; done) | (simp only [List.length_take, List.length_map, List.length_append, maxLen_eq]; omega)) ?_); (try (with_reducible refine hK _ ?_; clear hK K)); (try with_reducible refine ite_conj ?_)))
      simp only [go_sem, List.forall_mem_nil, ↓guard_ite, ↓pick_ite, seval, FinQ, AS.result, resAll, resOne, tupV]
  case pos =>
  by_cases h0 : t.idx < 0
  case pos =>
    rw [Lm.chk_eq, if_pos ⟨hk.1, hk.2, hl⟩, if_neg (fun h => by omega)]
    rcases hk5 with hk5 | hk5 | hk5 | hk5 | hk5
    all_goals
      simp only [hk5, nSubs, Int.reduceEq, ↓reduceIte] at hl
      repeat' (first | (with_reducible first | refine Wa ?_ | refine Wb ?_ | refine Wc ?_ | refine Wd ?_ | refine We ?_ | refine Wf ?_ | refine Wg ?_ | refine Wh ?_ | refine Wi ?_ | refine Wj ?_ | refine Wk (by decide) ?_ | refine Wl ?_ | refine Wm ?_ | refine Wn ?_) | ((with_reducible first | refine Wo (fun K hK => ?_) | refine Wp ?_ | refine Wq ?_ | refine Wr ?_); (try simp only [go_sem, List.forall_mem_nil, ↓guard_ite, ↓pick_ite, seval, encT_eq, inR_i64, hk5, hl, h0, decide_eq_true_eq, decide_eq_false_iff_not, Int.ofNat_lt]); (repeat with_reducible refine And.intro (by first | omega | with_reducible exact lens_encT | with_reducible exact lens_encL | (simp; done) | (simp only [List.length_take, List.length_map, List.length_append, maxLen_eq]; omega)) ?_); (try (with_reducible refine hK _ ?_; clear hK K)); (try with_reducible refine ite_conj ?_)))
      simp only [go_sem, List.forall_mem_nil, ↓guard_ite, ↓pick_ite, seval, FinQ, AS.result, resAll, resOne, tupV]
  case neg =>
  by_cases hm : mostIdx t.kind u m ≤ t.idx
  case pos =>
    rw [Lm.chk_eq, if_pos ⟨hk.1, hk.2, hl⟩, if_neg (fun h => by omega)]
    rcases hk5 with hk5 | hk5 | hk5 | hk5 | hk5
    all_goals
      simp only [hk5, nSubs, mostIdx, Int.reduceEq, ↓reduceIte] at hl hm
      repeat' (first | (with_reducible first | refine Wa ?_ | refine Wb ?_ | refine Wc ?_ | refine Wd ?_ | refine We ?_ | refine Wf ?_ | refine Wg ?_ | refine Wh ?_ | refine Wi ?_ | refine Wj ?_ | refine Wk (by decide) ?_ | refine Wl ?_ | refine Wm ?_ | refine Wn ?_) | ((with_reducible first | refine Wo (fun K hK => ?_) | refine Wp ?_ | refine Wq ?_ | refine Wr ?_); (try simp only [go_sem, List.forall_mem_nil, ↓guard_ite, ↓pick_ite, seval, encT_eq, inR_i64, hk5, hl, h0, hm, decide_eq_true_eq, decide_eq_false_iff_not, Int.ofNat_lt]); (repeat with_reducible refine And.intro (by first | omega | with_reducible exact lens_encT | with_reducible exact lens_encL | (simp; done) | (simp only [List.length_take, List.length_map, List.length_append, maxLen_eq]; omega)) ?_); (try (with_reducible refine hK _ ?_; clear hK K)); (try with_reducible refine ite_conj ?_)))
      simp only [go_sem, List.forall_mem_nil, ↓guard_ite, ↓pick_ite, seval, FinQ, AS.result, resAll, resOne, tupV]
  case neg =>
  rw [Lm.chk_eq, if_pos ⟨hk.1, hk.2, hl⟩, if_pos (by omega)]
  rcases hk5 with hk5 | hk5 | hk5 | hk5 | hk5
  all_goals
    simp only [hk5, nSubs, mostIdx, Int.reduceEq, ↓reduceIte] at hl hm
    repeat' (first | (with_reducible first | refine Wa ?_ | refine Wb ?_ | refine Wc ?_ | refine Wd ?_ | refine We ?_ | refine Wf ?_ | refine Wg ?_ | refine Wh ?_ | refine Wi ?_ | refine Wj ?_ | refine Wk (by decide) ?_ | refine Wl ?_ | refine Wm ?_ | refine Wn ?_) | ((with_reducible first | refine Wo (fun K hK => ?_) | refine Wp ?_ | refine Wq ?_ | refine Wr ?_); (try simp only [go_sem, List.forall_mem_nil, ↓guard_ite, ↓pick_ite, seval, encT_eq, inR_i64, hk5, hl, h0, hm, decide_eq_true_eq, decide_eq_false_iff_not, Int.ofNat_lt]); (repeat with_reducible refine And.intro (by first | omega | with_reducible exact lens_encT | with_reducible exact lens_encL | (simp; done) | (simp only [List.length_take, List.length_map, List.length_append, maxLen_eq]; omega)) ?_); (try (with_reducible refine hK _ ?_; clear hK K)); (try with_reducible refine ite_conj ?_)))
    refine IWP.loop (fun n s => ∃ k, k ≤ t.subs.length ∧ n = t.subs.length - k ∧ Lm.chks m (t.subs.take k) (under t.kind u) = 0 ∧ s.env 2 = aInt m ∧ s.env 3 = .one (.ptr 3 1 0 0) ∧ s.S 3 = some (.box 25 [.st (.int .i64 t.kind), .st (.int .i64 t.idx), .st (.list (t.subs.map encL))]) ∧ s.env 8 = aInt t.subs.length ∧ s.env 9 = aInt (under t.kind u) ∧ s.env 10 = aInt k) t.subs.length ⟨0, Nat.zero_le _, rfl, rfl, rfl, rfl, by simp only [hk5]; rfl, by simp only [go_sem, List.forall_mem_nil, ↓guard_ite, ↓pick_ite, seval, encT_eq, inR_i64, hl], by simp only [hk5, under]; rfl, rfl⟩ ?_
    rintro n ⟨env, S⟩ ⟨k, hk', rfl, hc, e2, e3, s3, e8, e9, e10⟩
    simp only at e2 e3 s3 e8 e9 e10
    by_cases hlt : (k : Int) < t.subs.length
    · obtain ⟨a, ha⟩ := get_lt (show k < t.subs.length by omega)
      have z3 := Lm.size_mem (mem_of_get ha)
      have hu2 : under t.kind u ≤ u + 1 ∧ 0 ≤ under t.kind u := by unfold under; split <;> omega
      repeat' (first | (with_reducible first | refine Wa ?_ | refine Wb ?_ | refine Wc ?_ | refine Wd ?_ | refine We ?_ | refine Wf ?_ | refine Wg ?_ | refine Wh ?_ | refine Wi ?_ | refine Wj ?_ | refine Wk (by decide) ?_ | refine Wl ?_ | refine Wm ?_ | refine Wn ?_) | ((with_reducible first | refine Wo (fun K hK => ?_) | refine Wp ?_ | refine Wq ?_ | refine Wr ?_); (try simp only [go_sem, List.forall_mem_nil, ↓guard_ite, ↓pick_ite, seval, encT_eq, inR_i64, e2, e3, s3, e8, e9, e10, ha, hlt, decide_eq_true_eq, decide_eq_false_iff_not, Int.ofNat_lt]); (repeat with_reducible refine And.intro (by first | omega | with_reducible exact lens_encT | with_reducible exact lens_encL | (simp; done) | (simp only [List.length_take, List.length_map, List.length_append, maxLen_eq]; omega)) ?_); (try (with_reducible refine hK _ ?_; clear hK K)); (try with_reducible refine ite_conj ?_)))
      refine ⟨_, ih _ (Lm.lt_of_sub (mem_of_get ha)) a (under t.kind u) hu2.2 (by omega) rfl, ?_⟩
      by_cases hr : a.chk m (under t.kind u) = 0
      · repeat' (first | (with_reducible first | refine Wa ?_ | refine Wb ?_ | refine Wc ?_ | refine Wd ?_ | refine We ?_ | refine Wf ?_ | refine Wg ?_ | refine Wh ?_ | refine Wi ?_ | refine Wj ?_ | refine Wk (by decide) ?_ | refine Wl ?_ | refine Wm ?_ | refine Wn ?_) | ((with_reducible first | refine Wo (fun K hK => ?_) | refine Wp ?_ | refine Wq ?_ | refine Wr ?_); (try simp only [go_sem, List.forall_mem_nil, ↓guard_ite, ↓pick_ite, seval, encT_eq, inR_i64, e2, e3, s3, e8, e9, e10, hr, decide_eq_true_eq, decide_eq_false_iff_not, Int.ofNat_lt]); (repeat with_reducible refine And.intro (by first | omega | with_reducible exact lens_encT | with_reducible exact lens_encL | (simp; done) | (simp only [List.length_take, List.length_map, List.length_append, maxLen_eq]; omega)) ?_); (try (with_reducible refine hK _ ?_; clear hK K)); (try with_reducible refine ite_conj ?_)))
        refine then_normal ⟨t.subs.length - (k + 1), by omega, k + 1, by omega, rfl, ?_⟩
        simp only [go_sem, List.forall_mem_nil, ↓guard_ite, ↓pick_ite, seval, encT_eq, inR_i64, e2, e3, s3, e8, e9, e10]
        exact ⟨by rw [Lm.chks_take ha hc, hr], by congr 3⟩
      · repeat' (first | (with_reducible first | refine Wa ?_ | refine Wb ?_ | refine Wc ?_ | refine Wd ?_ | refine We ?_ | refine Wf ?_ | refine Wg ?_ | refine Wh ?_ | refine Wi ?_ | refine Wj ?_ | refine Wk (by decide) ?_ | refine Wl ?_ | refine Wm ?_ | refine Wn ?_) | ((with_reducible first | refine Wo (fun K hK => ?_) | refine Wp ?_ | refine Wq ?_ | refine Wr ?_); (try simp only [go_sem, List.forall_mem_nil, ↓guard_ite, ↓pick_ite, seval, encT_eq, inR_i64, e2, e3, s3, e8, e9, e10, hr, decide_eq_true_eq, decide_eq_false_iff_not, Int.ofNat_lt]); (repeat with_reducible refine And.intro (by first | omega | with_reducible exact lens_encT | with_reducible exact lens_encL | (simp; done) | (simp only [List.length_take, List.length_map, List.length_append, maxLen_eq]; omega)) ?_); (try (with_reducible refine hK _ ?_; clear hK K)); (try with_reducible refine ite_conj ?_)))
        simp only [go_sem, List.forall_mem_nil, ↓guard_ite, ↓pick_ite, seval, FinQ, AS.result, resAll, resOne, tupV]
        simp only [hk5] at hc hr ⊢
        rw [Lm.chks_bad (k := k + 1) (by rw [Lm.chks_take ha hc]; exact hr), Lm.chks_take ha hc]
    · repeat' (first | (with_reducible first | refine Wa ?_ | refine Wb ?_ | refine Wc ?_ | refine Wd ?_ | refine We ?_ | refine Wf ?_ | refine Wg ?_ | refine Wh ?_ | refine Wi ?_ | refine Wj ?_ | refine Wk (by decide) ?_ | refine Wl ?_ | refine Wm ?_ | refine Wn ?_) | ((with_reducible first | refine Wo (fun K hK => ?_) | refine Wp ?_ | refine Wq ?_ | refine Wr ?_); (try simp only [go_sem, List.forall_mem_nil, ↓guard_ite, ↓pick_ite, seval, encT_eq, inR_i64, e2, e3, s3, e8, e9, e10, hlt, decide_eq_true_eq, decide_eq_false_iff_not, Int.ofNat_lt]); (repeat with_reducible refine And.intro (by first | omega | with_reducible exact lens_encT | with_reducible exact lens_encL | (simp; done) | (simp only [List.length_take, List.length_map, List.length_append, maxLen_eq]; omega)) ?_); (try (with_reducible refine hK _ ?_; clear hK K)); (try with_reducible refine ite_conj ?_)))
      simp only [go_sem, List.forall_mem_nil, ↓guard_ite, ↓pick_ite, seval, FinQ, AS.result, resAll, resOne, tupV]
      rw [List.take_of_length_le (by omega)] at hc
      simp only [hk5] at hc ⊢
      rw [hc]
theorem lMay_a (t : Lm) (u m : Int) : ACalls Tryz.prog 17 [aLm t, aInt u, aInt m] (aInt (t.may m u)) := by
  refine ac_R_LamMay (Nat.le_of_ble_eq_true rfl) fun C hC => ?_
  unfold ir_R_LamMay
  unfold Lm.may
  by_cases h0 : u < 0
  · rw [if_pos (Or.inl h0)]
    repeat' (first | (with_reducible first | refine Wa ?_ | refine Wb ?_ | refine Wc ?_ | refine Wd ?_ | refine We ?_ | refine Wf ?_ | refine Wg ?_ | refine Wh ?_ | refine Wi ?_ | refine Wj ?_ | refine Wk (by decide) ?_ | refine Wl ?_ | refine Wm ?_ | refine Wn ?_) | ((with_reducible first | refine Wo (fun K hK => ?_) | refine Wp ?_ | refine Wq ?_ | refine Wr ?_); (try simp only [go_sem, List.forall_mem_nil, ↓guard_ite, ↓pick_ite, seval, encT_eq, inR_i64, h0, decide_eq_true_eq, decide_eq_false_iff_not, Int.ofNat_lt]); (repeat with_reducible refine And.intro (by first | omega | with_reducible exact lens_encT | with_reducible exact lens_encL | (simp; done) | (simp only [List.length_take, List.length_map, List.length_append, maxLen_eq]; omega)) ?_); (try (with_reducible refine hK _ ?_; clear hK K)); (try with_reducible refine ite_conj ?_)))
    simp only [go_sem, List.forall_mem_nil, ↓guard_ite, ↓pick_ite, seval, FinQ, AS.result, resAll, resOne, tupV]
  by_cases h1 : 40 < u
  · rw [if_pos (Or.inr h1)]
    repeat' (first | (with_reducible first | refine Wa ?_ | refine Wb ?_ | refine Wc ?_ | refine Wd ?_ | refine We ?_ | refine Wf ?_ | refine Wg ?_ | refine Wh ?_ | refine Wi ?_ | refine Wj ?_ | refine Wk (by decide) ?_ | refine Wl ?_ | refine Wm ?_ | refine Wn ?_) | ((with_reducible first | refine Wo (fun K hK => ?_) | refine Wp ?_ | refine Wq ?_ | refine Wr ?_); (try simp only [go_sem, List.forall_mem_nil, ↓guard_ite, ↓pick_ite, seval, encT_eq, inR_i64, h0, h1, decide_eq_true_eq, decide_eq_false_iff_not, Int.ofNat_lt]); (repeat with_reducible refine And.intro (by first | omega | with_reducible exact lens_encT | with_reducible exact lens_encL | (simp; done) | (simp only [List.length_take, List.length_map, List.length_append, maxLen_eq]; omega)) ?_); (try (with_reducible refine hK _ ?_; clear hK K)); (try with_reducible refine ite_conj ?_)))
    simp only [go_sem, List.forall_mem_nil, ↓guard_ite, ↓pick_ite, seval, FinQ, AS.result, resAll, resOne, tupV]
  rw [if_neg (by omega)]
  by_cases hz : 200 < t.size
  · have hz' : 200 < capTo t.size 200 := by unfold capTo; split <;> omega
    rw [if_pos hz]
    repeat' (first | (with_reducible first | refine Wa ?_ | refine Wb ?_ | refine Wc ?_ | refine Wd ?_ | refine We ?_ | refine Wf ?_ | refine Wg ?_ | refine Wh ?_ | refine Wi ?_ | refine Wj ?_ | refine Wk (by decide) ?_ | refine Wl ?_ | refine Wm ?_ | refine Wn ?_) | refine CallG.mk _ (lsizeR_a t 200 (by decide) (by decide)) ?_ | ((with_reducible first | refine Wo (fun K hK => ?_) | refine Wp ?_ | refine Wq ?_ | refine Wr ?_); (try simp only [go_sem, List.forall_mem_nil, ↓guard_ite, ↓pick_ite, seval, encT_eq, inR_i64, h0, h1, hz', decide_eq_true_eq, decide_eq_false_iff_not, Int.ofNat_lt]); (repeat with_reducible refine And.intro (by first | omega | with_reducible exact lens_encT | with_reducible exact lens_encL | (simp; done) | (simp only [List.length_take, List.length_map, List.length_append, maxLen_eq]; omega)) ?_); (try (with_reducible refine hK _ ?_; clear hK K)); (try with_reducible refine ite_conj ?_)))
    simp only [go_sem, List.forall_mem_nil, ↓guard_ite, ↓pick_ite, seval, FinQ, AS.result, resAll, resOne, tupV]
  · have hz' : ¬ 200 < capTo t.size 200 := by unfold capTo; split <;> omega
    rw [if_neg hz]
    repeat' (first | (with_reducible first | refine Wa ?_ | refine Wb ?_ | refine Wc ?_ | refine Wd ?_ | refine We ?_ | refine Wf ?_ | refine Wg ?_ | refine Wh ?_ | refine Wi ?_ | refine Wj ?_ | refine Wk (by decide) ?_ | refine Wl ?_ | refine Wm ?_ | refine Wn ?_) | refine CallG.mk _ (lsizeR_a t 200 (by decide) (by decide)) ?_ | refine CallG.mk _ (lchkR_a t u m (by omega) (by omega)) ?_ | ((with_reducible first | refine Wo (fun K hK => ?_) | refine Wp ?_ | refine Wq ?_ | refine Wr ?_); (try simp only [go_sem, List.forall_mem_nil, ↓guard_ite, ↓pick_ite, seval, encT_eq, inR_i64, h0, h1, hz', decide_eq_true_eq, decide_eq_false_iff_not, Int.ofNat_lt]); (repeat with_reducible refine And.intro (by first | omega | with_reducible exact lens_encT | with_reducible exact lens_encL | (simp; done) | (simp only [List.length_take, List.length_map, List.length_append, maxLen_eq]; omega)) ?_); (try (with_reducible refine hK _ ?_; clear hK K)); (try with_reducible refine ite_conj ?_)))
    simp only [go_sem, List.forall_mem_nil, ↓guard_ite, ↓pick_ite, seval, FinQ, AS.result, resAll, resOne, tupV]
theorem hugeLam_a (t : Lm) : ACalls Tryz.prog 16 [aLm t] (aBool (decide (3000 < t.size))) := by
  refine ac_L_hugeLam (Nat.le_of_ble_eq_true rfl) fun C hC => ?_
  unfold ir_L_hugeLam
  repeat' (first | (with_reducible first | refine Wa ?_ | refine Wb ?_ | refine Wc ?_ | refine Wd ?_ | refine We ?_ | refine Wf ?_ | refine Wg ?_ | refine Wh ?_ | refine Wi ?_ | refine Wj ?_ | refine Wk (by decide) ?_ | refine Wl ?_ | refine Wm ?_ | refine Wn ?_) | ((with_reducible first | refine Wo (fun K hK => ?_) | refine Wp ?_ | refine Wq ?_ | refine Wr ?_); (try simp only [go_sem, List.forall_mem_nil, ↓guard_ite, ↓pick_ite, seval, encT_eq, inR_i64, decide_eq_true_eq, decide_eq_false_iff_not, Int.ofNat_lt]); (repeat with_reducible refine And.intro (by first | omega | with_reducible exact lens_encT | with_reducible exact lens_encL | (simp; done) | (simp only [List.length_take, List.length_map, List.length_append, maxLen_eq]; omega)) ?_); (try (with_reducible refine hK _ ?_; clear hK K)); (try with_reducible refine ite_conj ?_)))
  refine ⟨_, lsizeR_a t 3000 (by decide) (by decide), ?_⟩
  have hz : (3000 < capTo t.size 3000) ↔ 3000 < t.size := by unfold capTo; split <;> omega
  repeat' (first | (with_reducible first | refine Wa ?_ | refine Wb ?_ | refine Wc ?_ | refine Wd ?_ | refine We ?_ | refine Wf ?_ | refine Wg ?_ | refine Wh ?_ | refine Wi ?_ | refine Wj ?_ | refine Wk (by decide) ?_ | refine Wl ?_ | refine Wm ?_ | refine Wn ?_) | ((with_reducible first | refine Wo (fun K hK => ?_) | refine Wp ?_ | refine Wq ?_ | refine Wr ?_); (try simp only [go_sem, List.forall_mem_nil, ↓guard_ite, ↓pick_ite, seval, encT_eq, inR_i64, hz, decide_eq_true_eq, decide_eq_false_iff_not, Int.ofNat_lt]); (repeat with_reducible refine And.intro (by first | omega | with_reducible exact lens_encT | with_reducible exact lens_encL | (simp; done) | (simp only [List.length_take, List.length_map, List.length_append, maxLen_eq]; omega)) ?_); (try (with_reducible refine hK _ ?_; clear hK K)); (try with_reducible refine ite_conj ?_)))
  simp only [go_sem, List.forall_mem_nil, ↓guard_ite, ↓pick_ite, seval, FinQ, AS.result, resAll, resOne, tupV]
theorem sameLam_a (t : Lm) : ACalls Tryz.prog 58 [aLm t, aLm t] (aBool true) := by
  induction h : SizeOf.sizeOf t using Nat.strongRecOn generalizing t with
  | _ N ih =>
  subst h
  refine ac_R_SameLam (Nat.le_of_ble_eq_true rfl) fun C hC => ?_
  unfold ir_R_SameLam
  refine IWP.learn 0 (by omega) fun hkn => ?_
  have hkn := (known_lm hkn).2.2
  repeat' (first | (with_reducible first | refine Wa ?_ | refine Wb ?_ | refine Wc ?_ | refine Wd ?_ | refine We ?_ | refine Wf ?_ | refine Wg ?_ | refine Wh ?_ | refine Wi ?_ | refine Wj ?_ | refine Wk (by decide) ?_ | refine Wl ?_ | refine Wm ?_ | refine Wn ?_) | ((with_reducible first | refine Wo (fun K hK => ?_) | refine Wp ?_ | refine Wq ?_ | refine Wr ?_); (try simp only [go_sem, List.forall_mem_nil, ↓guard_ite, ↓pick_ite, seval, encT_eq, inR_i64, decide_eq_true_eq, decide_eq_false_iff_not, Int.ofNat_lt]); (repeat with_reducible refine And.intro (by first | omega | with_reducible exact lens_encT | with_reducible exact lens_encL | (simp; done) | (simp only [List.length_take, List.length_map, List.length_append, maxLen_eq]; omega)) ?_); (try (with_reducible refine hK _ ?_; clear hK K)); (try with_reducible refine ite_conj ?_)))
  refine IWP.loop (fun n s => ∃ k, k ≤ t.subs.length ∧ n = t.subs.length - k ∧ s.env 2 = .one (.ptr 2 1 0 0) ∧ s.env 3 = .one (.ptr 3 1 0 0) ∧ s.S 2 = some (.box 25 [.st (.int .i64 t.kind), .st (.int .i64 t.idx), .st (.list (t.subs.map encL))]) ∧ s.S 3 = some (.box 25 [.st (.int .i64 t.kind), .st (.int .i64 t.idx), .st (.list (t.subs.map encL))]) ∧ s.env 5 = aInt k) t.subs.length ⟨0, Nat.zero_le _, rfl, rfl, rfl, rfl, rfl, rfl⟩ ?_
  rintro n ⟨env, S⟩ ⟨k, hk', rfl, e2, e3, s2, s3, e5⟩
  simp only at e2 e3 s2 s3 e5
  by_cases hlt : (k : Int) < t.subs.length
  · obtain ⟨a, ha⟩ := get_lt (show k < t.subs.length by omega)
    repeat' (first | (with_reducible first | refine Wa ?_ | refine Wb ?_ | refine Wc ?_ | refine Wd ?_ | refine We ?_ | refine Wf ?_ | refine Wg ?_ | refine Wh ?_ | refine Wi ?_ | refine Wj ?_ | refine Wk (by decide) ?_ | refine Wl ?_ | refine Wm ?_ | refine Wn ?_) | refine CallG.mk _ (ih _ (Lm.lt_of_sub (mem_of_get ha)) a rfl) ?_ | ((with_reducible first | refine Wo (fun K hK => ?_) | refine Wp ?_ | refine Wq ?_ | refine Wr ?_); (try simp only [go_sem, List.forall_mem_nil, ↓guard_ite, ↓pick_ite, seval, encT_eq, inR_i64, e2, e3, s2, s3, e5, ha, hlt, decide_eq_true_eq, decide_eq_false_iff_not, Int.ofNat_lt]); (repeat with_reducible refine And.intro (by first | omega | with_reducible exact lens_encT | with_reducible exact lens_encL | (simp; done) | (simp only [List.length_take, List.length_map, List.length_append, maxLen_eq]; omega)) ?_); (try (with_reducible refine hK _ ?_; clear hK K)); (try with_reducible refine ite_conj ?_)))
    refine then_normal ⟨t.subs.length - (k + 1), by omega, k + 1, by omega, rfl, ?_⟩
    simp only [go_sem, List.forall_mem_nil, ↓guard_ite, ↓pick_ite, seval, encT_eq, inR_i64, e2, e3, s2, s3, e5]
    congr 3
  · repeat' (first | (with_reducible first | refine Wa ?_ | refine Wb ?_ | refine Wc ?_ | refine Wd ?_ | refine We ?_ | refine Wf ?_ | refine Wg ?_ | refine Wh ?_ | refine Wi ?_ | refine Wj ?_ | refine Wk (by decide) ?_ | refine Wl ?_ | refine Wm ?_ | refine Wn ?_) | ((with_reducible first | refine Wo (fun K hK => ?_) | refine Wp ?_ | refine Wq ?_ | refine Wr ?_); (try simp only [go_sem, List.forall_mem_nil, ↓guard_ite, ↓pick_ite, seval, encT_eq, inR_i64, e2, e3, s2, s3, e5, hlt, decide_eq_true_eq, decide_eq_false_iff_not, Int.ofNat_lt]); (repeat with_reducible refine And.intro (by first | omega | with_reducible exact lens_encT | with_reducible exact lens_encL | (simp; done) | (simp only [List.length_take, List.length_map, List.length_append, maxLen_eq]; omega)) ?_); (try (with_reducible refine hK _ ?_; clear hK K)); (try with_reducible refine ite_conj ?_)))
    simp only [go_sem, List.forall_mem_nil, ↓guard_ite, ↓pick_ite, seval, FinQ, AS.result, resAll, resOne, tupV]
theorem lam2_a (r w : Lm) (e : Int) (h : (e ≠ 0 ∧ r = Lm.nil) ∨ (e = 0 ∧ r = w)) : ACalls Tryz.prog 31 [aLm r, aInt e, aLm w, aInt e] (aBool true) := by
  refine ac_L_lam2 (Nat.le_of_ble_eq_true rfl) fun C hC => ?_
  unfold ir_L_lam2
  rcases h with ⟨h, rfl⟩ | ⟨rfl, rfl⟩
  · repeat' (first | (with_reducible first | refine Wa ?_ | refine Wb ?_ | refine Wc ?_ | refine Wd ?_ | refine We ?_ | refine Wf ?_ | refine Wg ?_ | refine Wh ?_ | refine Wi ?_ | refine Wj ?_ | refine Wk (by decide) ?_ | refine Wl ?_ | refine Wm ?_ | refine Wn ?_) | ((with_reducible first | refine Wo (fun K hK => ?_) | refine Wp ?_ | refine Wq ?_ | refine Wr ?_); (try simp only [go_sem, List.forall_mem_nil, ↓guard_ite, ↓pick_ite, seval, encT_eq, inR_i64, h, Lm.nil, decide_eq_true_eq, decide_eq_false_iff_not, Int.ofNat_lt]); (repeat with_reducible refine And.intro (by first | omega | with_reducible exact lens_encT | with_reducible exact lens_encL | (simp; done) | (simp only [List.length_take, List.length_map, List.length_append, maxLen_eq]; omega)) ?_); (try (with_reducible refine hK _ ?_; clear hK K)); (try with_reducible refine ite_conj ?_)))
    simp only [go_sem, List.forall_mem_nil, ↓guard_ite, ↓pick_ite, seval, FinQ, AS.result, resAll, resOne, tupV]
    try simp
  · repeat' (first | (with_reducible first | refine Wa ?_ | refine Wb ?_ | refine Wc ?_ | refine Wd ?_ | refine We ?_ | refine Wf ?_ | refine Wg ?_ | refine Wh ?_ | refine Wi ?_ | refine Wj ?_ | refine Wk (by decide) ?_ | refine Wl ?_ | refine Wm ?_ | refine Wn ?_) | refine CallG.mk _ (sameLam_a r) ?_ | ((with_reducible first | refine Wo (fun K hK => ?_) | refine Wp ?_ | refine Wq ?_ | refine Wr ?_); (try simp only [go_sem, List.forall_mem_nil, ↓guard_ite, ↓pick_ite, seval, encT_eq, inR_i64, decide_eq_true_eq, decide_eq_false_iff_not, Int.ofNat_lt]); (repeat with_reducible refine And.intro (by first | omega | with_reducible exact lens_encT | with_reducible exact lens_encL | (simp; done) | (simp only [List.length_take, List.length_map, List.length_append, maxLen_eq]; omega)) ?_); (try (with_reducible refine hK _ ?_; clear hK K)); (try with_reducible refine ite_conj ?_)))
    simp only [go_sem, List.forall_mem_nil, ↓guard_ite, ↓pick_ite, seval, FinQ, AS.result, resAll, resOne, tupV]
/-- What putting in gives: a term, and what is wrong. -/
def putErr (b x : Lm) (u : Int) : Int := if u < 0 ∨ 40 ≤ u then 10 else if b.may 0 (u + 1) ≠ 0 then b.may 0 (u + 1) else if x.may 0 u ≠ 0 then x.may 0 u else if 2000 < (Lm.put x 0 b).size then 8 else 0
end Go.Proofs.YtbiadmlfejnbcaaGreatDoor

namespace Go.Proofs.YtbiadmlfejnbcaaGreatDoor
open Go Go.RowKit
set_option linter.unusedVariables false
set_option linter.unusedSimpArgs false
set_option maxHeartbeats 1000000

theorem formatInt_a (n : Nat) (h : n < 100) : ACalls Tryz.prog 83 [aInt n, aInt 10] (aStr (dec2 n)) := by
  have h0 : (0 : Int) ≤ n := by omega
  have h1 : (n : Int) < 100 := by omega
  refine ac_internal_strconv_FormatInt (Nat.le_of_ble_eq_true rfl) fun C hC => ?_
  unfold ir_internal_strconv_FormatInt
  repeat' (first | (with_reducible first | refine Wa ?_ | refine Wb ?_ | refine Wc ?_ | refine Wd ?_ | refine We ?_ | refine Wf ?_ | refine Wg ?_ | refine Wh ?_ | refine Wi ?_ | refine Wj ?_ | refine Wk (by decide) ?_ | refine Wl ?_ | refine Wm ?_ | refine Wn ?_) | refine CallG.mk _ (small_a n h) ?_ | ((with_reducible first | refine Wo (fun K hK => ?_) | refine Wp ?_ | refine Wq ?_ | refine Wr ?_); (try simp only [go_sem, List.forall_mem_nil, ↓guard_ite, ↓pick_ite, seval, encT_eq, inR_i64, h0, h1, decide_eq_true_eq, decide_eq_false_iff_not, Int.ofNat_lt]); (repeat with_reducible refine And.intro (by first | omega | with_reducible exact lens_encT | with_reducible exact lens_encL | (simp; done) | (simp only [List.length_take, List.length_map, List.length_append, maxLen_eq]; omega)) ?_); (try (with_reducible refine hK _ ?_; clear hK K)); (try with_reducible refine ite_conj ?_)))
  simp only [go_sem, List.forall_mem_nil, ↓guard_ite, ↓pick_ite, seval, FinQ, AS.result, resAll, resOne, tupV]
theorem itoaI_a (n : Nat) (h : n < 100) : ACalls Tryz.prog 76 [aInt n] (aStr (dec2 n)) := by
  refine ac_internal_strconv_Itoa (Nat.le_of_ble_eq_true rfl) fun C hC => ?_
  unfold ir_internal_strconv_Itoa
  repeat' (first | (with_reducible first | refine Wa ?_ | refine Wb ?_ | refine Wc ?_ | refine Wd ?_ | refine We ?_ | refine Wf ?_ | refine Wg ?_ | refine Wh ?_ | refine Wi ?_ | refine Wj ?_ | refine Wk (by decide) ?_ | refine Wl ?_ | refine Wm ?_ | refine Wn ?_) | refine CallG.mk _ (formatInt_a n h) ?_ | ((with_reducible first | refine Wo (fun K hK => ?_) | refine Wp ?_ | refine Wq ?_ | refine Wr ?_); (try simp only [go_sem, List.forall_mem_nil, ↓guard_ite, ↓pick_ite, seval, encT_eq, inR_i64, decide_eq_true_eq, decide_eq_false_iff_not, Int.ofNat_lt]); (repeat with_reducible refine And.intro (by first | omega | with_reducible exact lens_encT | with_reducible exact lens_encL | (simp; done) | (simp only [List.length_take, List.length_map, List.length_append, maxLen_eq]; omega)) ?_); (try (with_reducible refine hK _ ?_; clear hK K)); (try with_reducible refine ite_conj ?_)))
  simp only [go_sem, List.forall_mem_nil, ↓guard_ite, ↓pick_ite, seval, FinQ, AS.result, resAll, resOne, tupV]
theorem itoa_a (n : Nat) (h : n < 100) : ACalls Tryz.prog 61 [aInt n] (aStr (dec2 n)) := by
  refine ac_strconv_Itoa (Nat.le_of_ble_eq_true rfl) fun C hC => ?_
  unfold ir_strconv_Itoa
  repeat' (first | (with_reducible first | refine Wa ?_ | refine Wb ?_ | refine Wc ?_ | refine Wd ?_ | refine We ?_ | refine Wf ?_ | refine Wg ?_ | refine Wh ?_ | refine Wi ?_ | refine Wj ?_ | refine Wk (by decide) ?_ | refine Wl ?_ | refine Wm ?_ | refine Wn ?_) | refine CallG.mk _ (itoaI_a n h) ?_ | ((with_reducible first | refine Wo (fun K hK => ?_) | refine Wp ?_ | refine Wq ?_ | refine Wr ?_); (try simp only [go_sem, List.forall_mem_nil, ↓guard_ite, ↓pick_ite, seval, encT_eq, inR_i64, decide_eq_true_eq, decide_eq_false_iff_not, Int.ofNat_lt]); (repeat with_reducible refine And.intro (by first | omega | with_reducible exact lens_encT | with_reducible exact lens_encL | (simp; done) | (simp only [List.length_take, List.length_map, List.length_append, maxLen_eq]; omega)) ?_); (try (with_reducible refine hK _ ?_; clear hK K)); (try with_reducible refine ite_conj ?_)))
  simp only [go_sem, List.forall_mem_nil, ↓guard_ite, ↓pick_ite, seval, FinQ, AS.result, resAll, resOne, tupV]

/-! ### translation, in plain Lean -/
def vS : ByteArray := ⟨#[86]⟩
def cS : ByteArray := ⟨#[99]⟩
def nilT : Tm := .mk ⟨#[]⟩ []
/-- Of what the parts are. -/
def joinC (d : Int) : List (Tm × Int) → Tm × Int
  | [] => (nilT, 0)
  | [r] => if r.2 = 0 then fitR (r.1.br (vS ++ dec2 d.toNat)) else (nilT, r.2)
  | r :: q :: _ => if r.2 = 0 then (if q.2 = 0 then fitR (ap2 r.1 q.1) else (nilT, q.2)) else (nilT, r.2)
mutual
def Lm.toC : Int → Lm → Tm × Int
  | d, .mk k i xs => if k = 1 then (leafOf (vS ++ dec2 (d - 1 - i).toNat), 0) else if k = 4 then (leafOf (cS ++ dec2 i.toNat), 0) else joinC d (Lm.toCs (under k d) xs)
def Lm.toCs : Int → List Lm → List (Tm × Int)
  | _, [] => []
  | d, t :: ts => Lm.toC d t :: Lm.toCs d ts
end
theorem Lm.toC_eq (d : Int) (t : Lm) : Lm.toC d t = if t.kind = 1 then (leafOf (vS ++ dec2 (d - 1 - t.idx).toNat), 0) else if t.kind = 4 then (leafOf (cS ++ dec2 t.idx.toNat), 0) else joinC d (Lm.toCs (under t.kind d) t.subs) := by
  cases t
  rw [Lm.toC]
  rfl
theorem fitR_ok {t : Tm} (hf : t.fm = true) (h : (fitR t).2 = 0) : (fitR t).1.fm = true ∧ (fitR t).1.size ≤ 2000 := by
  unfold fitR at h ⊢
  split at h
  · cases h
  · rename_i hz
    rw [if_neg hz]
    exact ⟨hf, Nat.le_of_not_lt hz⟩
theorem Lm.toC_ok : ∀ (N : Nat) (d : Int) (t : Lm), SizeOf.sizeOf t < N → (Lm.toC d t).2 = 0 → (Lm.toC d t).1.fm = true ∧ (Lm.toC d t).1.size ≤ 2000 := by
  intro N
  induction N with
  | zero => intro d t h; omega
  | succ N ih =>
    intro d t hN h
    have leaf : ∀ n : ByteArray, (leafOf n).fm = true ∧ (leafOf n).size ≤ 2000 := fun n => ⟨leafOf_fm n, by rw [leafOf_size]; omega⟩
    rw [Lm.toC_eq] at h ⊢
    split at h
    · rename_i h1
      rw [if_pos h1]
      exact leaf _
    · rename_i h1
      rw [if_neg h1]
      split at h
      · rename_i h4
        rw [if_pos h4]
        exact leaf _
      · rename_i h4
        rw [if_neg h4]
        match hx : t.subs, h with
        | [], _ => exact leaf _
        | [s], h =>
          have hs : SizeOf.sizeOf s < SizeOf.sizeOf t := Lm.lt_of_sub (by rw [hx]; simp)
          simp only [Lm.toCs, joinC] at h ⊢
          split at h
          · rename_i hr
            rw [if_pos hr]
            obtain ⟨a1, a2⟩ := ih _ s (by omega) hr
            exact fitR_ok (Tm.br_all _ _ _ (Nat.lt_succ_self _) a1).1 h
          · rename_i hr
            exact absurd h hr
        | s :: u :: r, h =>
          have hs : SizeOf.sizeOf s < SizeOf.sizeOf t := Lm.lt_of_sub (by rw [hx]; simp)
          have hu : SizeOf.sizeOf u < SizeOf.sizeOf t := Lm.lt_of_sub (by rw [hx]; simp)
          simp only [Lm.toCs, joinC] at h ⊢
          split at h
          · rename_i hr
            rw [if_pos hr]
            split at h
            · rename_i hq
              rw [if_pos hq]
              exact fitR_ok (ap2_fm (ih _ s (by omega) hr).1 (ih _ u (by omega) hq).1) h
            · rename_i hq
              exact absurd h hq
          · rename_i hr
            exact absurd h hr
theorem dec2_le (n : Nat) : (dec2 n).size ≤ 2 := by
  unfold dec2
  split
  · exact Nat.le_succ 1
  · rw [ByteArray.size_append]
    exact Nat.le_refl 2
theorem v_fit (n : Nat) : (#[86] : Array UInt8).size + (dec2 n).size ≤ maxLen := by
  have h1 := dec2_le n
  have h2 : (#[86] : Array UInt8).size = 1 := rfl
  rw [maxLen_eq, h2]
  omega
theorem c_fit (n : Nat) : (#[99] : Array UInt8).size + (dec2 n).size ≤ maxLen := by
  have h1 := dec2_le n
  have h2 : (#[99] : Array UInt8).size = 1 := rfl
  rw [maxLen_eq, h2]
  omega
theorem chks1 {s : Lm} {u : Int} (h : Lm.chks 0 [s] u = 0) : s.chk 0 u = 0 := by
  simp only [Lm.chks] at h
  split at h
  · assumption
  · exact h
theorem chks2 {s r : Lm} {u : Int} (h : Lm.chks 0 [s, r] u = 0) : s.chk 0 u = 0 ∧ r.chk 0 u = 0 := by
  simp only [Lm.chks] at h
  split at h
  · rename_i h1
    split at h
    · exact ⟨h1, by assumption⟩
    · exact ⟨h1, h⟩
  · rename_i h1
    exact absurd h h1
theorem from_a (t : Lm) (d : Int) (hd : 0 ≤ d) (hz : d + t.size ≤ 90) (hc : t.chk 0 d = 0) : ACalls Tryz.prog 40 [aLm t, aInt d] (.tup [aTm (Lm.toC d t).1, aInt (Lm.toC d t).2]) := by
  induction h : SizeOf.sizeOf t using Nat.strongRecOn generalizing t d with
  | _ N ih =>
  subst h
  have hs := Lm.size_eq t
  have hw := Lm.wf_chk t d hc
  rw [Lm.chk_eq] at hc
  split at hc
  case isFalse => omega
  case isTrue hk =>
  split at hc
  case isFalse => omega
  case isTrue hi =>
  obtain ⟨i1, i2⟩ := hi
  have hk5 := kinds_of ⟨hk.1, hk.2.1⟩
  rcases hk5 with k1 | k1 | k1 | k1 | k1
  · -- bound
    have hi2 : t.idx < d := by simpa [mostIdx, k1] using i2
    obtain ⟨n, hn⟩ : ∃ n : Nat, d - 1 - t.idx = n := ⟨(d - 1 - t.idx).toNat, by omega⟩
    rw [Lm.toC_eq, if_pos k1, hn, Int.toNat_natCast]
    refine ac_comb_from (Nat.le_of_ble_eq_true rfl) fun C hC => ?_
    unfold ir_comb_from
    have hv := v_fit n
    repeat' (first | (with_reducible first | refine Wa ?_ | refine Wb ?_ | refine Wc ?_ | refine Wd ?_ | refine We ?_ | refine Wf ?_ | refine Wg ?_ | refine Wh ?_ | refine Wi ?_ | refine Wj ?_ | refine Wk (by decide) ?_ | refine Wl ?_ | refine Wm ?_ | refine Wn ?_) | refine CallG.mk _ (itoa_a n (by omega)) ?_ | refine CallG.mk _ (nameC_a (vS ++ dec2 n)) ?_ | ((with_reducible first | refine Wo (fun K hK => ?_) | refine Wp ?_ | refine Wq ?_ | refine Wr ?_); (try simp only [go_sem, List.forall_mem_nil, ↓guard_ite, ↓pick_ite, seval, encT_eq, inR_i64, k1, hn, hv, decide_eq_true_eq, decide_eq_false_iff_not, Int.ofNat_lt]); (repeat with_reducible refine And.intro (by first | omega | with_reducible exact lens_encT | with_reducible exact lens_encL | (simp; done) | (simp only [List.length_take, List.length_map, List.length_append, maxLen_eq]; omega)) ?_); (try (with_reducible refine hK _ ?_; clear hK K)); (try with_reducible refine ite_conj ?_)))
    simp only [go_sem, List.forall_mem_nil, ↓guard_ite, ↓pick_ite, seval, FinQ, AS.result, resAll, resOne, tupV]
  · -- lambda
    obtain ⟨s, ha⟩ := Lm.subs1 hw k1
    have hsm : s ∈ t.subs := by rw [ha]; simp
    have ss := Lm.size_sub hsm
    have hu : under t.kind d = d + 1 := by simp [under, k1]
    rw [ha, hu] at hc
    have hc' := chks1 hc
    have ihs := ih _ (Lm.lt_of_sub hsm) s (d + 1) (by omega) (by omega) hc' rfl
    have hok := Lm.toC_ok _ (d + 1) s (Nat.lt_succ_self _)
    rw [Lm.toC_eq, if_neg (by omega), if_neg (by omega), hu, ha, Lm.toCs, Lm.toCs]
    generalize Lm.toC (d + 1) s = R at *
    obtain ⟨x, e⟩ := R
    simp only [joinC] at ihs hok ⊢
    obtain ⟨n, rfl⟩ : ∃ n : Nat, d = n := ⟨d.toNat, by omega⟩
    rw [Int.toNat_natCast]
    by_cases he : e = 0
    · obtain ⟨f1, f2⟩ := hok he
      rw [if_pos he]
      have hv := v_fit n
      have hb := (Tm.br_all _ (vS ++ dec2 n) x (Nat.lt_succ_self _) f1).2
      refine ac_comb_from (Nat.le_of_ble_eq_true rfl) fun C hC => ?_
      unfold ir_comb_from
      repeat' (first | (with_reducible first | refine Wa ?_ | refine Wb ?_ | refine Wc ?_ | refine Wd ?_ | refine We ?_ | refine Wf ?_ | refine Wg ?_ | refine Wh ?_ | refine Wi ?_ | refine Wj ?_ | refine Wk (by decide) ?_ | refine Wl ?_ | refine Wm ?_ | refine Wn ?_) | refine CallG.mk _ (ihs) ?_ | refine CallG.mk _ (itoa_a n (by omega)) ?_ | refine CallG.mk _ (without_a (vS ++ dec2 n) x f1 (by omega)) ?_ | refine CallG.mk _ (fit_a _ (by omega)) ?_ | ((with_reducible first | refine Wo (fun K hK => ?_) | refine Wp ?_ | refine Wq ?_ | refine Wr ?_); (try simp only [go_sem, List.forall_mem_nil, ↓guard_ite, ↓pick_ite, seval, encT_eq, inR_i64, k1, ha, he, hv, decide_eq_true_eq, decide_eq_false_iff_not, Int.ofNat_lt]); (repeat with_reducible refine And.intro (by first | omega | with_reducible exact lens_encT | with_reducible exact lens_encL | (simp; done) | (simp only [List.length_take, List.length_map, List.length_append, maxLen_eq]; omega)) ?_); (try (with_reducible refine hK _ ?_; clear hK K)); (try with_reducible refine ite_conj ?_)))
      simp only [go_sem, List.forall_mem_nil, ↓guard_ite, ↓pick_ite, seval, FinQ, AS.result, resAll, resOne, tupV]
    · rw [if_neg he]
      refine ac_comb_from (Nat.le_of_ble_eq_true rfl) fun C hC => ?_
      unfold ir_comb_from
      repeat' (first | (with_reducible first | refine Wa ?_ | refine Wb ?_ | refine Wc ?_ | refine Wd ?_ | refine We ?_ | refine Wf ?_ | refine Wg ?_ | refine Wh ?_ | refine Wi ?_ | refine Wj ?_ | refine Wk (by decide) ?_ | refine Wl ?_ | refine Wm ?_ | refine Wn ?_) | refine CallG.mk _ (ihs) ?_ | ((with_reducible first | refine Wo (fun K hK => ?_) | refine Wp ?_ | refine Wq ?_ | refine Wr ?_); (try simp only [go_sem, List.forall_mem_nil, ↓guard_ite, ↓pick_ite, seval, encT_eq, inR_i64, k1, ha, he, decide_eq_true_eq, decide_eq_false_iff_not, Int.ofNat_lt]); (repeat with_reducible refine And.intro (by first | omega | with_reducible exact lens_encT | with_reducible exact lens_encL | (simp; done) | (simp only [List.length_take, List.length_map, List.length_append, maxLen_eq]; omega)) ?_); (try (with_reducible refine hK _ ?_; clear hK K)); (try with_reducible refine ite_conj ?_)))
      simp only [go_sem, List.forall_mem_nil, ↓guard_ite, ↓pick_ite, seval, FinQ, AS.result, resAll, resOne, tupV]
      rfl
  · -- one put to another
    obtain ⟨s, r, ha⟩ := Lm.subs2 hw k1
    have hsm : s ∈ t.subs := by rw [ha]; simp
    have hrm : r ∈ t.subs := by rw [ha]; simp
    have ss := Lm.size_sub hsm
    have sr := Lm.size_sub hrm
    have hu : under t.kind d = d := by simp [under, k1]
    rw [ha, hu] at hc
    obtain ⟨hc1, hc2⟩ := chks2 hc
    have ihs := ih _ (Lm.lt_of_sub hsm) s d (by omega) (by omega) hc1 rfl
    have ihr := ih _ (Lm.lt_of_sub hrm) r d (by omega) (by omega) hc2 rfl
    have hok := Lm.toC_ok _ d s (Nat.lt_succ_self _)
    have hok2 := Lm.toC_ok _ d r (Nat.lt_succ_self _)
    rw [Lm.toC_eq, if_neg (by omega), if_neg (by omega), hu, ha, Lm.toCs, Lm.toCs, Lm.toCs]
    generalize Lm.toC d s = R at *
    generalize Lm.toC d r = R2 at *
    obtain ⟨x, e⟩ := R
    obtain ⟨x2, e2⟩ := R2
    simp only [joinC] at ihs ihr hok hok2 ⊢
    by_cases he : e = 0
    · obtain ⟨f1, f2⟩ := hok he
      rw [if_pos he]
      by_cases he2 : e2 = 0
      · obtain ⟨g1, g2⟩ := hok2 he2
        rw [if_pos he2]
        have hsz := ap2_size x x2
        refine ac_comb_from (Nat.le_of_ble_eq_true rfl) fun C hC => ?_
        unfold ir_comb_from
        repeat' (first | (with_reducible first | refine Wa ?_ | refine Wb ?_ | refine Wc ?_ | refine Wd ?_ | refine We ?_ | refine Wf ?_ | refine Wg ?_ | refine Wh ?_ | refine Wi ?_ | refine Wj ?_ | refine Wk (by decide) ?_ | refine Wl ?_ | refine Wm ?_ | refine Wn ?_) | refine CallG.mk _ (ihs) ?_ | refine CallG.mk _ (ihr) ?_ | refine CallG.mk _ (apC_a x x2) ?_ | refine CallG.mk _ (fit_a (ap2 x x2) (by omega)) ?_ | ((with_reducible first | refine Wo (fun K hK => ?_) | refine Wp ?_ | refine Wq ?_ | refine Wr ?_); (try simp only [go_sem, List.forall_mem_nil, ↓guard_ite, ↓pick_ite, seval, encT_eq, inR_i64, k1, ha, he, he2, decide_eq_true_eq, decide_eq_false_iff_not, Int.ofNat_lt]); (repeat with_reducible refine And.intro (by first | omega | with_reducible exact lens_encT | with_reducible exact lens_encL | (simp; done) | (simp only [List.length_take, List.length_map, List.length_append, maxLen_eq]; omega)) ?_); (try (with_reducible refine hK _ ?_; clear hK K)); (try with_reducible refine ite_conj ?_)))
        simp only [go_sem, List.forall_mem_nil, ↓guard_ite, ↓pick_ite, seval, FinQ, AS.result, resAll, resOne, tupV]
      · rw [if_neg he2]
        refine ac_comb_from (Nat.le_of_ble_eq_true rfl) fun C hC => ?_
        unfold ir_comb_from
        repeat' (first | (with_reducible first | refine Wa ?_ | refine Wb ?_ | refine Wc ?_ | refine Wd ?_ | refine We ?_ | refine Wf ?_ | refine Wg ?_ | refine Wh ?_ | refine Wi ?_ | refine Wj ?_ | refine Wk (by decide) ?_ | refine Wl ?_ | refine Wm ?_ | refine Wn ?_) | refine CallG.mk _ (ihs) ?_ | refine CallG.mk _ (ihr) ?_ | ((with_reducible first | refine Wo (fun K hK => ?_) | refine Wp ?_ | refine Wq ?_ | refine Wr ?_); (try simp only [go_sem, List.forall_mem_nil, ↓guard_ite, ↓pick_ite, seval, encT_eq, inR_i64, k1, ha, he, he2, decide_eq_true_eq, decide_eq_false_iff_not, Int.ofNat_lt]); (repeat with_reducible refine And.intro (by first | omega | with_reducible exact lens_encT | with_reducible exact lens_encL | (simp; done) | (simp only [List.length_take, List.length_map, List.length_append, maxLen_eq]; omega)) ?_); (try (with_reducible refine hK _ ?_; clear hK K)); (try with_reducible refine ite_conj ?_)))
        simp only [go_sem, List.forall_mem_nil, ↓guard_ite, ↓pick_ite, seval, FinQ, AS.result, resAll, resOne, tupV]
        rfl
    · rw [if_neg he]
      refine ac_comb_from (Nat.le_of_ble_eq_true rfl) fun C hC => ?_
      unfold ir_comb_from
      repeat' (first | (with_reducible first | refine Wa ?_ | refine Wb ?_ | refine Wc ?_ | refine Wd ?_ | refine We ?_ | refine Wf ?_ | refine Wg ?_ | refine Wh ?_ | refine Wi ?_ | refine Wj ?_ | refine Wk (by decide) ?_ | refine Wl ?_ | refine Wm ?_ | refine Wn ?_) | refine CallG.mk _ (ihs) ?_ | ((with_reducible first | refine Wo (fun K hK => ?_) | refine Wp ?_ | refine Wq ?_ | refine Wr ?_); (try simp only [go_sem, List.forall_mem_nil, ↓guard_ite, ↓pick_ite, seval, encT_eq, inR_i64, k1, ha, he, decide_eq_true_eq, decide_eq_false_iff_not, Int.ofNat_lt]); (repeat with_reducible refine And.intro (by first | omega | with_reducible exact lens_encT | with_reducible exact lens_encL | (simp; done) | (simp only [List.length_take, List.length_map, List.length_append, maxLen_eq]; omega)) ?_); (try (with_reducible refine hK _ ?_; clear hK K)); (try with_reducible refine ite_conj ?_)))
      simp only [go_sem, List.forall_mem_nil, ↓guard_ite, ↓pick_ite, seval, FinQ, AS.result, resAll, resOne, tupV]
      rfl
  · -- constant
    have hi2 : t.idx < 40 := by simpa [mostIdx, k1] using i2
    obtain ⟨n, hn⟩ : ∃ n : Nat, t.idx = n := ⟨t.idx.toNat, by omega⟩
    rw [Lm.toC_eq, if_neg (by omega), if_pos k1, hn, Int.toNat_natCast]
    have hv := c_fit n
    refine ac_comb_from (Nat.le_of_ble_eq_true rfl) fun C hC => ?_
    unfold ir_comb_from
    repeat' (first | (with_reducible first | refine Wa ?_ | refine Wb ?_ | refine Wc ?_ | refine Wd ?_ | refine We ?_ | refine Wf ?_ | refine Wg ?_ | refine Wh ?_ | refine Wi ?_ | refine Wj ?_ | refine Wk (by decide) ?_ | refine Wl ?_ | refine Wm ?_ | refine Wn ?_) | refine CallG.mk _ (itoa_a n (by omega)) ?_ | refine CallG.mk _ (nameC_a (cS ++ dec2 n)) ?_ | ((with_reducible first | refine Wo (fun K hK => ?_) | refine Wp ?_ | refine Wq ?_ | refine Wr ?_); (try simp only [go_sem, List.forall_mem_nil, ↓guard_ite, ↓pick_ite, seval, encT_eq, inR_i64, k1, hn, hv, decide_eq_true_eq, decide_eq_false_iff_not, Int.ofNat_lt]); (repeat with_reducible refine And.intro (by first | omega | with_reducible exact lens_encT | with_reducible exact lens_encL | (simp; done) | (simp only [List.length_take, List.length_map, List.length_append, maxLen_eq]; omega)) ?_); (try (with_reducible refine hK _ ?_; clear hK K)); (try with_reducible refine ite_conj ?_)))
    simp only [go_sem, List.forall_mem_nil, ↓guard_ite, ↓pick_ite, seval, FinQ, AS.result, resAll, resOne, tupV]
  · -- unknown: none may be
    have hi2 : t.idx < 0 := by simpa [mostIdx, k1] using i2
    omega
def fromR (t : Lm) : Tm × Int := if t.may 0 0 = 0 then Lm.toC 0 t else (nilT, t.may 0 0)
theorem From_a (t : Lm) (hz : t.may 0 0 = 0 → t.size ≤ 80) : ACalls Tryz.prog 19 [aLm t] (.tup [aTm (fromR t).1, aInt (fromR t).2]) := by
  refine ac_comb_From (Nat.le_of_ble_eq_true rfl) fun C hC => ?_
  unfold ir_comb_From
  unfold fromR
  by_cases h : t.may 0 0 = 0
  · obtain ⟨_, _, _, a4⟩ := Lm.may_ok h
    have hz := hz h
    rw [if_pos h]
    repeat' (first | (with_reducible first | refine Wa ?_ | refine Wb ?_ | refine Wc ?_ | refine Wd ?_ | refine We ?_ | refine Wf ?_ | refine Wg ?_ | refine Wh ?_ | refine Wi ?_ | refine Wj ?_ | refine Wk (by decide) ?_ | refine Wl ?_ | refine Wm ?_ | refine Wn ?_) | refine CallG.mk _ (lCheck_a t 0) ?_ | refine CallG.mk _ (from_a t 0 (by decide) (by omega) a4) ?_ | ((with_reducible first | refine Wo (fun K hK => ?_) | refine Wp ?_ | refine Wq ?_ | refine Wr ?_); (try simp only [go_sem, List.forall_mem_nil, ↓guard_ite, ↓pick_ite, seval, encT_eq, inR_i64, h, decide_eq_true_eq, decide_eq_false_iff_not, Int.ofNat_lt]); (repeat with_reducible refine And.intro (by first | omega | with_reducible exact lens_encT | with_reducible exact lens_encL | (simp; done) | (simp only [List.length_take, List.length_map, List.length_append, maxLen_eq]; omega)) ?_); (try (with_reducible refine hK _ ?_; clear hK K)); (try with_reducible refine ite_conj ?_)))
    simp only [go_sem, List.forall_mem_nil, ↓guard_ite, ↓pick_ite, seval, FinQ, AS.result, resAll, resOne, tupV]
  · rw [if_neg h]
    repeat' (first | (with_reducible first | refine Wa ?_ | refine Wb ?_ | refine Wc ?_ | refine Wd ?_ | refine We ?_ | refine Wf ?_ | refine Wg ?_ | refine Wh ?_ | refine Wi ?_ | refine Wj ?_ | refine Wk (by decide) ?_ | refine Wl ?_ | refine Wm ?_ | refine Wn ?_) | refine CallG.mk _ (lCheck_a t 0) ?_ | ((with_reducible first | refine Wo (fun K hK => ?_) | refine Wp ?_ | refine Wq ?_ | refine Wr ?_); (try simp only [go_sem, List.forall_mem_nil, ↓guard_ite, ↓pick_ite, seval, encT_eq, inR_i64, h, decide_eq_true_eq, decide_eq_false_iff_not, Int.ofNat_lt]); (repeat with_reducible refine And.intro (by first | omega | with_reducible exact lens_encT | with_reducible exact lens_encL | (simp; done) | (simp only [List.length_take, List.length_map, List.length_append, maxLen_eq]; omega)) ?_); (try (with_reducible refine hK _ ?_; clear hK K)); (try with_reducible refine ite_conj ?_)))
    simp only [go_sem, List.forall_mem_nil, ↓guard_ite, ↓pick_ite, seval, FinQ, AS.result, resAll, resOne, tupV]
    rfl
end Go.Proofs.YtbiadmlfejnbcaaGreatDoor

namespace Go.Proofs.YtbiadmlfejnbcaaGreatDoor
open Go Go.RowKit
set_option linter.unusedVariables false
set_option linter.unusedSimpArgs false
set_option maxHeartbeats 1000000

theorem dec10_a (n : Nat) (h : n < 10) : ACalls Tryz.prog 14 [aInt n] (aStr (dec2 n)) := by
  have h1 : (n : Int) < 10 := by omega
  have hu : inR .u8 (48 + (n : Int)) := by
    simp [inR, IntKind.min, IntKind.max, IntKind.signed, IntKind.bits]
    omega
  have h3 : (48 + (n : Int)).toNat = 48 + n := by omega
  refine ac_R_Dec (Nat.le_of_ble_eq_true rfl) fun C hC => ?_
  unfold ir_R_Dec
  repeat' (first | (with_reducible first | refine Wa ?_ | refine Wb ?_ | refine Wc ?_ | refine Wd ?_ | refine We ?_ | refine Wf ?_ | refine Wg ?_ | refine Wh ?_ | refine Wi ?_ | refine Wj ?_ | refine Wk (by decide) ?_ | refine Wl ?_ | refine Wm ?_ | refine Wn ?_) | ((with_reducible first | refine Wo (fun K hK => ?_) | refine Wp ?_ | refine Wq ?_ | refine Wr ?_); (try simp only [go_sem, List.forall_mem_nil, ↓guard_ite, ↓pick_ite, seval, encT_eq, inR_i64, h1, hu, bytesOf, maxLen_eq, decide_eq_true_eq, decide_eq_false_iff_not, Int.ofNat_lt]); (repeat with_reducible refine And.intro (by first | omega | with_reducible exact lens_encT | with_reducible exact lens_encL | (simp; done) | (simp only [List.length_take, List.length_map, List.length_append, maxLen_eq]; omega)) ?_); (try (with_reducible refine hK _ ?_; clear hK K)); (try with_reducible refine ite_conj ?_)))
  simp only [go_sem, List.forall_mem_nil, ↓guard_ite, ↓pick_ite, seval, FinQ, AS.result, resAll, resOne, tupV]
  simp [strOfNums, dec2, h, digit, h3]
theorem dec_a (n : Nat) (h : n < 100) : ACalls Tryz.prog 14 [aInt n] (aStr (dec2 n)) := by
  by_cases h1 : n < 10
  · exact dec10_a n h1
  · have h2 : ¬ (n : Int) < 10 := by omega
    have q1 : (n : Int).tdiv 10 = ((n / 10 : Nat) : Int) := rfl
    have q2 : (n : Int).tmod 10 = ((n % 10 : Nat) : Int) := rfl
    have e1 : dec2 (n / 10) = digit (n / 10) := if_pos (by omega)
    have e2 : dec2 (n % 10) = digit (n % 10) := if_pos (by omega)
    have b1 := dec2_le (n / 10)
    have b2 := dec2_le (n % 10)
    have b3 : (dec2 (n / 10)).size + (dec2 (n % 10)).size ≤ maxLen := by rw [maxLen_eq]; omega
    refine ac_R_Dec (Nat.le_of_ble_eq_true rfl) fun C hC => ?_
    unfold ir_R_Dec
    repeat' (first | (with_reducible first | refine Wa ?_ | refine Wb ?_ | refine Wc ?_ | refine Wd ?_ | refine We ?_ | refine Wf ?_ | refine Wg ?_ | refine Wh ?_ | refine Wi ?_ | refine Wj ?_ | refine Wk (by decide) ?_ | refine Wl ?_ | refine Wm ?_ | refine Wn ?_) | refine CallG.mk _ (dec10_a (n / 10) (by omega)) ?_ | ((with_reducible first | refine Wo (fun K hK => ?_) | refine Wp ?_ | refine Wq ?_ | refine Wr ?_); (try simp only [go_sem, List.forall_mem_nil, ↓guard_ite, ↓pick_ite, seval, encT_eq, inR_i64, h2, q1, q2, decide_eq_true_eq, decide_eq_false_iff_not, Int.ofNat_lt]); (repeat with_reducible refine And.intro (by first | omega | with_reducible exact lens_encT | with_reducible exact lens_encL | (simp; done) | (simp only [List.length_take, List.length_map, List.length_append, maxLen_eq]; omega)) ?_); (try (with_reducible refine hK _ ?_; clear hK K)); (try with_reducible refine ite_conj ?_)))
    refine ⟨_, dec10_a (n % 10) (by omega), ?_⟩
    repeat' (first | (with_reducible first | refine Wa ?_ | refine Wb ?_ | refine Wc ?_ | refine Wd ?_ | refine We ?_ | refine Wf ?_ | refine Wg ?_ | refine Wh ?_ | refine Wi ?_ | refine Wj ?_ | refine Wk (by decide) ?_ | refine Wl ?_ | refine Wm ?_ | refine Wn ?_) | ((with_reducible first | refine Wo (fun K hK => ?_) | refine Wp ?_ | refine Wq ?_ | refine Wr ?_); (try simp only [go_sem, List.forall_mem_nil, ↓guard_ite, ↓pick_ite, seval, encT_eq, inR_i64, b3, decide_eq_true_eq, decide_eq_false_iff_not, Int.ofNat_lt]); (repeat with_reducible refine And.intro (by first | omega | with_reducible exact lens_encT | with_reducible exact lens_encL | (simp; done) | (simp only [List.length_take, List.length_map, List.length_append, maxLen_eq]; omega)) ?_); (try (with_reducible refine hK _ ?_; clear hK K)); (try with_reducible refine ite_conj ?_)))
    simp only [go_sem, List.forall_mem_nil, ↓guard_ite, ↓pick_ite, seval, FinQ, AS.result, resAll, resOne, tupV]
    rw [e1, e2]
    simp [dec2, h1]
theorem often_a (t : Tm) (v : ByteArray) (hz : t.size ≤ 1000000) : ACalls Tryz.prog 37 [aTm t, aStr v] (aInt (oftenL v t.knots)) := by
  have hkl := Tm.knots_length t
  have hKn := knots_a t hz
  generalize t.knots = l at *
  refine ac_R_Often (Nat.le_of_ble_eq_true rfl) fun C hC => ?_
  unfold ir_R_Often
  repeat' (first | (with_reducible first | refine Wa ?_ | refine Wb ?_ | refine Wc ?_ | refine Wd ?_ | refine We ?_ | refine Wf ?_ | refine Wg ?_ | refine Wh ?_ | refine Wi ?_ | refine Wj ?_ | refine Wk (by decide) ?_ | refine Wl ?_ | refine Wm ?_ | refine Wn ?_) | refine CallG.mk _ (hKn) ?_ | ((with_reducible first | refine Wo (fun K hK => ?_) | refine Wp ?_ | refine Wq ?_ | refine Wr ?_); (try simp only [go_sem, List.forall_mem_nil, ↓guard_ite, ↓pick_ite, seval, encT_eq, inR_i64, decide_eq_true_eq, decide_eq_false_iff_not, Int.ofNat_lt]); (repeat with_reducible refine And.intro (by first | omega | with_reducible exact lens_encT | with_reducible exact lens_encL | (simp; done) | (simp only [List.length_take, List.length_map, List.length_append, maxLen_eq]; omega)) ?_); (try (with_reducible refine hK _ ?_; clear hK K)); (try with_reducible refine ite_conj ?_)))
  refine IWP.loop (fun n s => ∃ k, k ≤ l.length ∧ n = l.length - k ∧ s.env 1 = aStr v ∧ s.env 5 = aTms l ∧ s.env 6 = aInt (oftenL v (l.take k)) ∧ s.env 7 = aInt k) l.length ⟨0, Nat.zero_le _, rfl, rfl, rfl, rfl, rfl⟩ ?_
  rintro n ⟨env, S⟩ ⟨k, hk, rfl, e1, e5, e6, e7⟩
  simp only at e1 e5 e6 e7
  by_cases hlt : (k : Int) < l.length
  · obtain ⟨a, ha⟩ := get_lt (show k < l.length by omega)
    have hle := oftenL_le v (l.take k)
    rw [List.length_take] at hle
    have hst := oftenL_take (v := v) ha
    by_cases hn : a.name = v
    · rw [if_pos hn] at hst
      repeat' (first | (with_reducible first | refine Wa ?_ | refine Wb ?_ | refine Wc ?_ | refine Wd ?_ | refine We ?_ | refine Wf ?_ | refine Wg ?_ | refine Wh ?_ | refine Wi ?_ | refine Wj ?_ | refine Wk (by decide) ?_ | refine Wl ?_ | refine Wm ?_ | refine Wn ?_) | ((with_reducible first | refine Wo (fun K hK => ?_) | refine Wp ?_ | refine Wq ?_ | refine Wr ?_); (try simp only [go_sem, List.forall_mem_nil, ↓guard_ite, ↓pick_ite, seval, encT_eq, inR_i64, e1, e5, e6, e7, ha, hlt, hn, decide_eq_true_eq, decide_eq_false_iff_not, Int.ofNat_lt]); (repeat with_reducible refine And.intro (by first | omega | with_reducible exact lens_encT | with_reducible exact lens_encL | (simp; done) | (simp only [List.length_take, List.length_map, List.length_append, maxLen_eq]; omega)) ?_); (try (with_reducible refine hK _ ?_; clear hK K)); (try with_reducible refine ite_conj ?_)))
      refine then_normal ⟨l.length - (k + 1), by omega, k + 1, by omega, rfl, ?_⟩
      simp only [go_sem, List.forall_mem_nil, ↓guard_ite, ↓pick_ite, seval, encT_eq, inR_i64, e1, e5, e6, e7]
      exact ⟨by rw [hst]; congr 3, by congr 3⟩
    · rw [if_neg hn] at hst
      repeat' (first | (with_reducible first | refine Wa ?_ | refine Wb ?_ | refine Wc ?_ | refine Wd ?_ | refine We ?_ | refine Wf ?_ | refine Wg ?_ | refine Wh ?_ | refine Wi ?_ | refine Wj ?_ | refine Wk (by decide) ?_ | refine Wl ?_ | refine Wm ?_ | refine Wn ?_) | ((with_reducible first | refine Wo (fun K hK => ?_) | refine Wp ?_ | refine Wq ?_ | refine Wr ?_); (try simp only [go_sem, List.forall_mem_nil, ↓guard_ite, ↓pick_ite, seval, encT_eq, inR_i64, e1, e5, e6, e7, ha, hlt, hn, decide_eq_true_eq, decide_eq_false_iff_not, Int.ofNat_lt]); (repeat with_reducible refine And.intro (by first | omega | with_reducible exact lens_encT | with_reducible exact lens_encL | (simp; done) | (simp only [List.length_take, List.length_map, List.length_append, maxLen_eq]; omega)) ?_); (try (with_reducible refine hK _ ?_; clear hK K)); (try with_reducible refine ite_conj ?_)))
      refine then_normal ⟨l.length - (k + 1), by omega, k + 1, by omega, rfl, ?_⟩
      simp only [go_sem, List.forall_mem_nil, ↓guard_ite, ↓pick_ite, seval, encT_eq, inR_i64, e1, e5, e6, e7]
      exact ⟨by rw [hst]; congr 3, by congr 3⟩
  · rw [List.take_of_length_le (by omega)] at e6
    repeat' (first | (with_reducible first | refine Wa ?_ | refine Wb ?_ | refine Wc ?_ | refine Wd ?_ | refine We ?_ | refine Wf ?_ | refine Wg ?_ | refine Wh ?_ | refine Wi ?_ | refine Wj ?_ | refine Wk (by decide) ?_ | refine Wl ?_ | refine Wm ?_ | refine Wn ?_) | ((with_reducible first | refine Wo (fun K hK => ?_) | refine Wp ?_ | refine Wq ?_ | refine Wr ?_); (try simp only [go_sem, List.forall_mem_nil, ↓guard_ite, ↓pick_ite, seval, encT_eq, inR_i64, e1, e5, e6, e7, hlt, decide_eq_true_eq, decide_eq_false_iff_not, Int.ofNat_lt]); (repeat with_reducible refine And.intro (by first | omega | with_reducible exact lens_encT | with_reducible exact lens_encL | (simp; done) | (simp only [List.length_take, List.length_map, List.length_append, maxLen_eq]; omega)) ?_); (try (with_reducible refine hK _ ?_; clear hK K)); (try with_reducible refine ite_conj ?_)))
    simp only [go_sem, List.forall_mem_nil, ↓guard_ite, ↓pick_ite, seval, FinQ, AS.result, resAll, resOne, tupV, e6]
theorem often_yes {t : Tm} {v : ByteArray} (h : t.hasN v = true) : ¬ ((oftenL v t.knots : Nat) : Int) = 0 := by
  rw [Tm.often_has] at h
  have : 0 < oftenL v t.knots := by simpa using h
  omega
theorem often_no {t : Tm} {v : ByteArray} (h : t.hasN v = false) : ((oftenL v t.knots : Nat) : Int) = 0 := by
  rw [Tm.often_has] at h
  have : ¬ 0 < oftenL v t.knots := by simpa using h
  omega
theorem bracketR_a (v : ByteArray) (t : Tm) (hf : t.fm = true) (hz : t.size ≤ 100000) : ACalls Tryz.prog 15 [aStr v, aTm t] (aTm (t.br v)) := by
  induction h : SizeOf.sizeOf t using Nat.strongRecOn generalizing t with
  | _ N ih =>
  subst h
  have hs := Tm.size_eq t
  by_cases h0 : t.hasN v = true
  case neg =>
    have h0' : t.hasN v = false := by simpa using h0
    have o := often_no h0'
    rw [Tm.br_none h0']
    refine ac_R_BracketOf (Nat.le_of_ble_eq_true rfl) fun C hC => ?_
    unfold ir_R_BracketOf
    repeat' (first | (with_reducible first | refine Wa ?_ | refine Wb ?_ | refine Wc ?_ | refine Wd ?_ | refine We ?_ | refine Wf ?_ | refine Wg ?_ | refine Wh ?_ | refine Wi ?_ | refine Wj ?_ | refine Wk (by decide) ?_ | refine Wl ?_ | refine Wm ?_ | refine Wn ?_) | ((with_reducible first | refine Wo (fun K hK => ?_) | refine Wp ?_ | refine Wq ?_ | refine Wr ?_); (try simp only [go_sem, List.forall_mem_nil, ↓guard_ite, ↓pick_ite, seval, encT_eq, inR_i64, decide_eq_true_eq, decide_eq_false_iff_not, Int.ofNat_lt]); (repeat with_reducible refine And.intro (by first | omega | with_reducible exact lens_encT | with_reducible exact lens_encL | (simp; done) | (simp only [List.length_take, List.length_map, List.length_append, maxLen_eq]; omega)) ?_); (try (with_reducible refine hK _ ?_; clear hK K)); (try with_reducible refine ite_conj ?_)))
    refine ⟨_, often_a t v (by omega), ?_⟩
    repeat' (first | (with_reducible first | refine Wa ?_ | refine Wb ?_ | refine Wc ?_ | refine Wd ?_ | refine We ?_ | refine Wf ?_ | refine Wg ?_ | refine Wh ?_ | refine Wi ?_ | refine Wj ?_ | refine Wk (by decide) ?_ | refine Wl ?_ | refine Wm ?_ | refine Wn ?_) | ((with_reducible first | refine Wo (fun K hK => ?_) | refine Wp ?_ | refine Wq ?_ | refine Wr ?_); (try simp only [go_sem, List.forall_mem_nil, ↓guard_ite, ↓pick_ite, seval, encT_eq, inR_i64, o, decide_eq_true_eq, decide_eq_false_iff_not, Int.ofNat_lt]); (repeat with_reducible refine And.intro (by first | omega | with_reducible exact lens_encT | with_reducible exact lens_encL | (simp; done) | (simp only [List.length_take, List.length_map, List.length_append, maxLen_eq]; omega)) ?_); (try (with_reducible refine hK _ ?_; clear hK K)); (try with_reducible refine ite_conj ?_)))
    refine ⟨_, leafR_a kS, ?_⟩
    repeat' (first | (with_reducible first | refine Wa ?_ | refine Wb ?_ | refine Wc ?_ | refine Wd ?_ | refine We ?_ | refine Wf ?_ | refine Wg ?_ | refine Wh ?_ | refine Wi ?_ | refine Wj ?_ | refine Wk (by decide) ?_ | refine Wl ?_ | refine Wm ?_ | refine Wn ?_) | ((with_reducible first | refine Wo (fun K hK => ?_) | refine Wp ?_ | refine Wq ?_ | refine Wr ?_); (try simp only [go_sem, List.forall_mem_nil, ↓guard_ite, ↓pick_ite, seval, encT_eq, inR_i64, decide_eq_true_eq, decide_eq_false_iff_not, Int.ofNat_lt]); (repeat with_reducible refine And.intro (by first | omega | with_reducible exact lens_encT | with_reducible exact lens_encL | (simp; done) | (simp only [List.length_take, List.length_map, List.length_append, maxLen_eq]; omega)) ?_); (try (with_reducible refine hK _ ?_; clear hK K)); (try with_reducible refine ite_conj ?_)))
    refine ⟨_, put2_a (leafOf kS) t, ?_⟩
    repeat' (first | (with_reducible first | refine Wa ?_ | refine Wb ?_ | refine Wc ?_ | refine Wd ?_ | refine We ?_ | refine Wf ?_ | refine Wg ?_ | refine Wh ?_ | refine Wi ?_ | refine Wj ?_ | refine Wk (by decide) ?_ | refine Wl ?_ | refine Wm ?_ | refine Wn ?_) | ((with_reducible first | refine Wo (fun K hK => ?_) | refine Wp ?_ | refine Wq ?_ | refine Wr ?_); (try simp only [go_sem, List.forall_mem_nil, ↓guard_ite, ↓pick_ite, seval, encT_eq, inR_i64, decide_eq_true_eq, decide_eq_false_iff_not, Int.ofNat_lt]); (repeat with_reducible refine And.intro (by first | omega | with_reducible exact lens_encT | with_reducible exact lens_encL | (simp; done) | (simp only [List.length_take, List.length_map, List.length_append, maxLen_eq]; omega)) ?_); (try (with_reducible refine hK _ ?_; clear hK K)); (try with_reducible refine ite_conj ?_)))
    simp only [go_sem, List.forall_mem_nil, ↓guard_ite, ↓pick_ite, seval, FinQ, AS.result, resAll, resOne, tupV]
  case pos =>
  have o := often_yes h0
  by_cases h1 : t.name = v
  · rw [Tm.br_self h0 h1]
    refine ac_R_BracketOf (Nat.le_of_ble_eq_true rfl) fun C hC => ?_
    unfold ir_R_BracketOf
    repeat' (first | (with_reducible first | refine Wa ?_ | refine Wb ?_ | refine Wc ?_ | refine Wd ?_ | refine We ?_ | refine Wf ?_ | refine Wg ?_ | refine Wh ?_ | refine Wi ?_ | refine Wj ?_ | refine Wk (by decide) ?_ | refine Wl ?_ | refine Wm ?_ | refine Wn ?_) | ((with_reducible first | refine Wo (fun K hK => ?_) | refine Wp ?_ | refine Wq ?_ | refine Wr ?_); (try simp only [go_sem, List.forall_mem_nil, ↓guard_ite, ↓pick_ite, seval, encT_eq, inR_i64, decide_eq_true_eq, decide_eq_false_iff_not, Int.ofNat_lt]); (repeat with_reducible refine And.intro (by first | omega | with_reducible exact lens_encT | with_reducible exact lens_encL | (simp; done) | (simp only [List.length_take, List.length_map, List.length_append, maxLen_eq]; omega)) ?_); (try (with_reducible refine hK _ ?_; clear hK K)); (try with_reducible refine ite_conj ?_)))
    refine ⟨_, often_a t v (by omega), ?_⟩
    repeat' (first | (with_reducible first | refine Wa ?_ | refine Wb ?_ | refine Wc ?_ | refine Wd ?_ | refine We ?_ | refine Wf ?_ | refine Wg ?_ | refine Wh ?_ | refine Wi ?_ | refine Wj ?_ | refine Wk (by decide) ?_ | refine Wl ?_ | refine Wm ?_ | refine Wn ?_) | ((with_reducible first | refine Wo (fun K hK => ?_) | refine Wp ?_ | refine Wq ?_ | refine Wr ?_); (try simp only [go_sem, List.forall_mem_nil, ↓guard_ite, ↓pick_ite, seval, encT_eq, inR_i64, o, h1, decide_eq_true_eq, decide_eq_false_iff_not, Int.ofNat_lt]); (repeat with_reducible refine And.intro (by first | omega | with_reducible exact lens_encT | with_reducible exact lens_encL | (simp; done) | (simp only [List.length_take, List.length_map, List.length_append, maxLen_eq]; omega)) ?_); (try (with_reducible refine hK _ ?_; clear hK K)); (try with_reducible refine ite_conj ?_)))
    refine ⟨_, leafR_a iS, ?_⟩
    repeat' (first | (with_reducible first | refine Wa ?_ | refine Wb ?_ | refine Wc ?_ | refine Wd ?_ | refine We ?_ | refine Wf ?_ | refine Wg ?_ | refine Wh ?_ | refine Wi ?_ | refine Wj ?_ | refine Wk (by decide) ?_ | refine Wl ?_ | refine Wm ?_ | refine Wn ?_) | ((with_reducible first | refine Wo (fun K hK => ?_) | refine Wp ?_ | refine Wq ?_ | refine Wr ?_); (try simp only [go_sem, List.forall_mem_nil, ↓guard_ite, ↓pick_ite, seval, encT_eq, inR_i64, decide_eq_true_eq, decide_eq_false_iff_not, Int.ofNat_lt]); (repeat with_reducible refine And.intro (by first | omega | with_reducible exact lens_encT | with_reducible exact lens_encL | (simp; done) | (simp only [List.length_take, List.length_map, List.length_append, maxLen_eq]; omega)) ?_); (try (with_reducible refine hK _ ?_; clear hK K)); (try with_reducible refine ite_conj ?_)))
    simp only [go_sem, List.forall_mem_nil, ↓guard_ite, ↓pick_ite, seval, FinQ, AS.result, resAll, resOne, tupV]
  rcases Tm.fm_cases hf with g0 | ⟨f, x, _, ha, hf1, hx1⟩
  · exact absurd g0 (leaf_has h0 h1)
  have hfm : f ∈ t.args := by rw [ha]; simp
  have hxm : x ∈ t.args := by rw [ha]; simp
  have sf := Tm.size_mem hfm
  have sx := Tm.size_mem hxm
  rw [Tm.br_ap h0 h1 ha]
  by_cases h2 : x.name = v
  · by_cases h3 : f.hasN v = true
    · have o3 := often_yes h3
      rw [if_neg (fun h => by rw [h3] at h; exact absurd h.2 (by decide))]
      have ihx := ih _ (Tm.lt_of_arg hxm) x hx1 (by omega) rfl
      simp only [aTm, h2] at ihx
      refine ac_R_BracketOf (Nat.le_of_ble_eq_true rfl) fun C hC => ?_
      unfold ir_R_BracketOf
      repeat' (first | (with_reducible first | refine Wa ?_ | refine Wb ?_ | refine Wc ?_ | refine Wd ?_ | refine We ?_ | refine Wf ?_ | refine Wg ?_ | refine Wh ?_ | refine Wi ?_ | refine Wj ?_ | refine Wk (by decide) ?_ | refine Wl ?_ | refine Wm ?_ | refine Wn ?_) | ((with_reducible first | refine Wo (fun K hK => ?_) | refine Wp ?_ | refine Wq ?_ | refine Wr ?_); (try simp only [go_sem, List.forall_mem_nil, ↓guard_ite, ↓pick_ite, seval, encT_eq, inR_i64, decide_eq_true_eq, decide_eq_false_iff_not, Int.ofNat_lt]); (repeat with_reducible refine And.intro (by first | omega | with_reducible exact lens_encT | with_reducible exact lens_encL | (simp; done) | (simp only [List.length_take, List.length_map, List.length_append, maxLen_eq]; omega)) ?_); (try (with_reducible refine hK _ ?_; clear hK K)); (try with_reducible refine ite_conj ?_)))
      refine ⟨_, often_a t v (by omega), ?_⟩
      repeat' (first | (with_reducible first | refine Wa ?_ | refine Wb ?_ | refine Wc ?_ | refine Wd ?_ | refine We ?_ | refine Wf ?_ | refine Wg ?_ | refine Wh ?_ | refine Wi ?_ | refine Wj ?_ | refine Wk (by decide) ?_ | refine Wl ?_ | refine Wm ?_ | refine Wn ?_) | ((with_reducible first | refine Wo (fun K hK => ?_) | refine Wp ?_ | refine Wq ?_ | refine Wr ?_); (try simp only [go_sem, List.forall_mem_nil, ↓guard_ite, ↓pick_ite, seval, encT_eq, inR_i64, o, h1, ha, h2, decide_eq_true_eq, decide_eq_false_iff_not, Int.ofNat_lt]); (repeat with_reducible refine And.intro (by first | omega | with_reducible exact lens_encT | with_reducible exact lens_encL | (simp; done) | (simp only [List.length_take, List.length_map, List.length_append, maxLen_eq]; omega)) ?_); (try (with_reducible refine hK _ ?_; clear hK K)); (try with_reducible refine ite_conj ?_)))
      refine ⟨_, often_a f v (by omega), ?_⟩
      repeat' (first | (with_reducible first | refine Wa ?_ | refine Wb ?_ | refine Wc ?_ | refine Wd ?_ | refine We ?_ | refine Wf ?_ | refine Wg ?_ | refine Wh ?_ | refine Wi ?_ | refine Wj ?_ | refine Wk (by decide) ?_ | refine Wl ?_ | refine Wm ?_ | refine Wn ?_) | ((with_reducible first | refine Wo (fun K hK => ?_) | refine Wp ?_ | refine Wq ?_ | refine Wr ?_); (try simp only [go_sem, List.forall_mem_nil, ↓guard_ite, ↓pick_ite, seval, encT_eq, inR_i64, o3, h2, decide_eq_true_eq, decide_eq_false_iff_not, Int.ofNat_lt]); (repeat with_reducible refine And.intro (by first | omega | with_reducible exact lens_encT | with_reducible exact lens_encL | (simp; done) | (simp only [List.length_take, List.length_map, List.length_append, maxLen_eq]; omega)) ?_); (try (with_reducible refine hK _ ?_; clear hK K)); (try with_reducible refine ite_conj ?_)))
      refine ⟨_, leafR_a sS, ?_⟩
      repeat' (first | (with_reducible first | refine Wa ?_ | refine Wb ?_ | refine Wc ?_ | refine Wd ?_ | refine We ?_ | refine Wf ?_ | refine Wg ?_ | refine Wh ?_ | refine Wi ?_ | refine Wj ?_ | refine Wk (by decide) ?_ | refine Wl ?_ | refine Wm ?_ | refine Wn ?_) | ((with_reducible first | refine Wo (fun K hK => ?_) | refine Wp ?_ | refine Wq ?_ | refine Wr ?_); (try simp only [go_sem, List.forall_mem_nil, ↓guard_ite, ↓pick_ite, seval, encT_eq, inR_i64, decide_eq_true_eq, decide_eq_false_iff_not, Int.ofNat_lt]); (repeat with_reducible refine And.intro (by first | omega | with_reducible exact lens_encT | with_reducible exact lens_encL | (simp; done) | (simp only [List.length_take, List.length_map, List.length_append, maxLen_eq]; omega)) ?_); (try (with_reducible refine hK _ ?_; clear hK K)); (try with_reducible refine ite_conj ?_)))
      refine ⟨_, ih _ (Tm.lt_of_arg hfm) f hf1 (by omega) rfl, ?_⟩
      repeat' (first | (with_reducible first | refine Wa ?_ | refine Wb ?_ | refine Wc ?_ | refine Wd ?_ | refine We ?_ | refine Wf ?_ | refine Wg ?_ | refine Wh ?_ | refine Wi ?_ | refine Wj ?_ | refine Wk (by decide) ?_ | refine Wl ?_ | refine Wm ?_ | refine Wn ?_) | ((with_reducible first | refine Wo (fun K hK => ?_) | refine Wp ?_ | refine Wq ?_ | refine Wr ?_); (try simp only [go_sem, List.forall_mem_nil, ↓guard_ite, ↓pick_ite, seval, encT_eq, inR_i64, decide_eq_true_eq, decide_eq_false_iff_not, Int.ofNat_lt]); (repeat with_reducible refine And.intro (by first | omega | with_reducible exact lens_encT | with_reducible exact lens_encL | (simp; done) | (simp only [List.length_take, List.length_map, List.length_append, maxLen_eq]; omega)) ?_); (try (with_reducible refine hK _ ?_; clear hK K)); (try with_reducible refine ite_conj ?_)))
      refine ⟨_, put2_a (leafOf sS) (f.br v), ?_⟩
      repeat' (first | (with_reducible first | refine Wa ?_ | refine Wb ?_ | refine Wc ?_ | refine Wd ?_ | refine We ?_ | refine Wf ?_ | refine Wg ?_ | refine Wh ?_ | refine Wi ?_ | refine Wj ?_ | refine Wk (by decide) ?_ | refine Wl ?_ | refine Wm ?_ | refine Wn ?_) | ((with_reducible first | refine Wo (fun K hK => ?_) | refine Wp ?_ | refine Wq ?_ | refine Wr ?_); (try simp only [go_sem, List.forall_mem_nil, ↓guard_ite, ↓pick_ite, seval, encT_eq, inR_i64, h2, decide_eq_true_eq, decide_eq_false_iff_not, Int.ofNat_lt]); (repeat with_reducible refine And.intro (by first | omega | with_reducible exact lens_encT | with_reducible exact lens_encL | (simp; done) | (simp only [List.length_take, List.length_map, List.length_append, maxLen_eq]; omega)) ?_); (try (with_reducible refine hK _ ?_; clear hK K)); (try with_reducible refine ite_conj ?_)))
      refine ⟨_, ihx, ?_⟩
      repeat' (first | (with_reducible first | refine Wa ?_ | refine Wb ?_ | refine Wc ?_ | refine Wd ?_ | refine We ?_ | refine Wf ?_ | refine Wg ?_ | refine Wh ?_ | refine Wi ?_ | refine Wj ?_ | refine Wk (by decide) ?_ | refine Wl ?_ | refine Wm ?_ | refine Wn ?_) | ((with_reducible first | refine Wo (fun K hK => ?_) | refine Wp ?_ | refine Wq ?_ | refine Wr ?_); (try simp only [go_sem, List.forall_mem_nil, ↓guard_ite, ↓pick_ite, seval, encT_eq, inR_i64, decide_eq_true_eq, decide_eq_false_iff_not, Int.ofNat_lt]); (repeat with_reducible refine And.intro (by first | omega | with_reducible exact lens_encT | with_reducible exact lens_encL | (simp; done) | (simp only [List.length_take, List.length_map, List.length_append, maxLen_eq]; omega)) ?_); (try (with_reducible refine hK _ ?_; clear hK K)); (try with_reducible refine ite_conj ?_)))
      refine ⟨_, put2_a (ap2 (leafOf sS) (f.br v)) (x.br v), ?_⟩
      repeat' (first | (with_reducible first | refine Wa ?_ | refine Wb ?_ | refine Wc ?_ | refine Wd ?_ | refine We ?_ | refine Wf ?_ | refine Wg ?_ | refine Wh ?_ | refine Wi ?_ | refine Wj ?_ | refine Wk (by decide) ?_ | refine Wl ?_ | refine Wm ?_ | refine Wn ?_) | ((with_reducible first | refine Wo (fun K hK => ?_) | refine Wp ?_ | refine Wq ?_ | refine Wr ?_); (try simp only [go_sem, List.forall_mem_nil, ↓guard_ite, ↓pick_ite, seval, encT_eq, inR_i64, decide_eq_true_eq, decide_eq_false_iff_not, Int.ofNat_lt]); (repeat with_reducible refine And.intro (by first | omega | with_reducible exact lens_encT | with_reducible exact lens_encL | (simp; done) | (simp only [List.length_take, List.length_map, List.length_append, maxLen_eq]; omega)) ?_); (try (with_reducible refine hK _ ?_; clear hK K)); (try with_reducible refine ite_conj ?_)))
      simp only [go_sem, List.forall_mem_nil, ↓guard_ite, ↓pick_ite, seval, FinQ, AS.result, resAll, resOne, tupV]
    · have h3' : f.hasN v = false := by simpa using h3
      have o3 := often_no h3'
      rw [if_pos ⟨h2, h3'⟩]
      refine ac_R_BracketOf (Nat.le_of_ble_eq_true rfl) fun C hC => ?_
      unfold ir_R_BracketOf
      repeat' (first | (with_reducible first | refine Wa ?_ | refine Wb ?_ | refine Wc ?_ | refine Wd ?_ | refine We ?_ | refine Wf ?_ | refine Wg ?_ | refine Wh ?_ | refine Wi ?_ | refine Wj ?_ | refine Wk (by decide) ?_ | refine Wl ?_ | refine Wm ?_ | refine Wn ?_) | ((with_reducible first | refine Wo (fun K hK => ?_) | refine Wp ?_ | refine Wq ?_ | refine Wr ?_); (try simp only [go_sem, List.forall_mem_nil, ↓guard_ite, ↓pick_ite, seval, encT_eq, inR_i64, decide_eq_true_eq, decide_eq_false_iff_not, Int.ofNat_lt]); (repeat with_reducible refine And.intro (by first | omega | with_reducible exact lens_encT | with_reducible exact lens_encL | (simp; done) | (simp only [List.length_take, List.length_map, List.length_append, maxLen_eq]; omega)) ?_); (try (with_reducible refine hK _ ?_; clear hK K)); (try with_reducible refine ite_conj ?_)))
      refine ⟨_, often_a t v (by omega), ?_⟩
      repeat' (first | (with_reducible first | refine Wa ?_ | refine Wb ?_ | refine Wc ?_ | refine Wd ?_ | refine We ?_ | refine Wf ?_ | refine Wg ?_ | refine Wh ?_ | refine Wi ?_ | refine Wj ?_ | refine Wk (by decide) ?_ | refine Wl ?_ | refine Wm ?_ | refine Wn ?_) | ((with_reducible first | refine Wo (fun K hK => ?_) | refine Wp ?_ | refine Wq ?_ | refine Wr ?_); (try simp only [go_sem, List.forall_mem_nil, ↓guard_ite, ↓pick_ite, seval, encT_eq, inR_i64, o, h1, ha, h2, decide_eq_true_eq, decide_eq_false_iff_not, Int.ofNat_lt]); (repeat with_reducible refine And.intro (by first | omega | with_reducible exact lens_encT | with_reducible exact lens_encL | (simp; done) | (simp only [List.length_take, List.length_map, List.length_append, maxLen_eq]; omega)) ?_); (try (with_reducible refine hK _ ?_; clear hK K)); (try with_reducible refine ite_conj ?_)))
      refine ⟨_, often_a f v (by omega), ?_⟩
      repeat' (first | (with_reducible first | refine Wa ?_ | refine Wb ?_ | refine Wc ?_ | refine Wd ?_ | refine We ?_ | refine Wf ?_ | refine Wg ?_ | refine Wh ?_ | refine Wi ?_ | refine Wj ?_ | refine Wk (by decide) ?_ | refine Wl ?_ | refine Wm ?_ | refine Wn ?_) | ((with_reducible first | refine Wo (fun K hK => ?_) | refine Wp ?_ | refine Wq ?_ | refine Wr ?_); (try simp only [go_sem, List.forall_mem_nil, ↓guard_ite, ↓pick_ite, seval, encT_eq, inR_i64, o3, h2, decide_eq_true_eq, decide_eq_false_iff_not, Int.ofNat_lt]); (repeat with_reducible refine And.intro (by first | omega | with_reducible exact lens_encT | with_reducible exact lens_encL | (simp; done) | (simp only [List.length_take, List.length_map, List.length_append, maxLen_eq]; omega)) ?_); (try (with_reducible refine hK _ ?_; clear hK K)); (try with_reducible refine ite_conj ?_)))
      simp only [go_sem, List.forall_mem_nil, ↓guard_ite, ↓pick_ite, seval, FinQ, AS.result, resAll, resOne, tupV]
  · rw [if_neg (fun h => h2 h.1)]
    refine ac_R_BracketOf (Nat.le_of_ble_eq_true rfl) fun C hC => ?_
    unfold ir_R_BracketOf
    repeat' (first | (with_reducible first | refine Wa ?_ | refine Wb ?_ | refine Wc ?_ | refine Wd ?_ | refine We ?_ | refine Wf ?_ | refine Wg ?_ | refine Wh ?_ | refine Wi ?_ | refine Wj ?_ | refine Wk (by decide) ?_ | refine Wl ?_ | refine Wm ?_ | refine Wn ?_) | ((with_reducible first | refine Wo (fun K hK => ?_) | refine Wp ?_ | refine Wq ?_ | refine Wr ?_); (try simp only [go_sem, List.forall_mem_nil, ↓guard_ite, ↓pick_ite, seval, encT_eq, inR_i64, decide_eq_true_eq, decide_eq_false_iff_not, Int.ofNat_lt]); (repeat with_reducible refine And.intro (by first | omega | with_reducible exact lens_encT | with_reducible exact lens_encL | (simp; done) | (simp only [List.length_take, List.length_map, List.length_append, maxLen_eq]; omega)) ?_); (try (with_reducible refine hK _ ?_; clear hK K)); (try with_reducible refine ite_conj ?_)))
    refine ⟨_, often_a t v (by omega), ?_⟩
    repeat' (first | (with_reducible first | refine Wa ?_ | refine Wb ?_ | refine Wc ?_ | refine Wd ?_ | refine We ?_ | refine Wf ?_ | refine Wg ?_ | refine Wh ?_ | refine Wi ?_ | refine Wj ?_ | refine Wk (by decide) ?_ | refine Wl ?_ | refine Wm ?_ | refine Wn ?_) | ((with_reducible first | refine Wo (fun K hK => ?_) | refine Wp ?_ | refine Wq ?_ | refine Wr ?_); (try simp only [go_sem, List.forall_mem_nil, ↓guard_ite, ↓pick_ite, seval, encT_eq, inR_i64, o, h1, ha, h2, decide_eq_true_eq, decide_eq_false_iff_not, Int.ofNat_lt]); (repeat with_reducible refine And.intro (by first | omega | with_reducible exact lens_encT | with_reducible exact lens_encL | (simp; done) | (simp only [List.length_take, List.length_map, List.length_append, maxLen_eq]; omega)) ?_); (try (with_reducible refine hK _ ?_; clear hK K)); (try with_reducible refine ite_conj ?_)))
    refine ⟨_, leafR_a sS, ?_⟩
    repeat' (first | (with_reducible first | refine Wa ?_ | refine Wb ?_ | refine Wc ?_ | refine Wd ?_ | refine We ?_ | refine Wf ?_ | refine Wg ?_ | refine Wh ?_ | refine Wi ?_ | refine Wj ?_ | refine Wk (by decide) ?_ | refine Wl ?_ | refine Wm ?_ | refine Wn ?_) | ((with_reducible first | refine Wo (fun K hK => ?_) | refine Wp ?_ | refine Wq ?_ | refine Wr ?_); (try simp only [go_sem, List.forall_mem_nil, ↓guard_ite, ↓pick_ite, seval, encT_eq, inR_i64, decide_eq_true_eq, decide_eq_false_iff_not, Int.ofNat_lt]); (repeat with_reducible refine And.intro (by first | omega | with_reducible exact lens_encT | with_reducible exact lens_encL | (simp; done) | (simp only [List.length_take, List.length_map, List.length_append, maxLen_eq]; omega)) ?_); (try (with_reducible refine hK _ ?_; clear hK K)); (try with_reducible refine ite_conj ?_)))
    refine ⟨_, ih _ (Tm.lt_of_arg hfm) f hf1 (by omega) rfl, ?_⟩
    repeat' (first | (with_reducible first | refine Wa ?_ | refine Wb ?_ | refine Wc ?_ | refine Wd ?_ | refine We ?_ | refine Wf ?_ | refine Wg ?_ | refine Wh ?_ | refine Wi ?_ | refine Wj ?_ | refine Wk (by decide) ?_ | refine Wl ?_ | refine Wm ?_ | refine Wn ?_) | ((with_reducible first | refine Wo (fun K hK => ?_) | refine Wp ?_ | refine Wq ?_ | refine Wr ?_); (try simp only [go_sem, List.forall_mem_nil, ↓guard_ite, ↓pick_ite, seval, encT_eq, inR_i64, decide_eq_true_eq, decide_eq_false_iff_not, Int.ofNat_lt]); (repeat with_reducible refine And.intro (by first | omega | with_reducible exact lens_encT | with_reducible exact lens_encL | (simp; done) | (simp only [List.length_take, List.length_map, List.length_append, maxLen_eq]; omega)) ?_); (try (with_reducible refine hK _ ?_; clear hK K)); (try with_reducible refine ite_conj ?_)))
    refine ⟨_, put2_a (leafOf sS) (f.br v), ?_⟩
    repeat' (first | (with_reducible first | refine Wa ?_ | refine Wb ?_ | refine Wc ?_ | refine Wd ?_ | refine We ?_ | refine Wf ?_ | refine Wg ?_ | refine Wh ?_ | refine Wi ?_ | refine Wj ?_ | refine Wk (by decide) ?_ | refine Wl ?_ | refine Wm ?_ | refine Wn ?_) | ((with_reducible first | refine Wo (fun K hK => ?_) | refine Wp ?_ | refine Wq ?_ | refine Wr ?_); (try simp only [go_sem, List.forall_mem_nil, ↓guard_ite, ↓pick_ite, seval, encT_eq, inR_i64, decide_eq_true_eq, decide_eq_false_iff_not, Int.ofNat_lt]); (repeat with_reducible refine And.intro (by first | omega | with_reducible exact lens_encT | with_reducible exact lens_encL | (simp; done) | (simp only [List.length_take, List.length_map, List.length_append, maxLen_eq]; omega)) ?_); (try (with_reducible refine hK _ ?_; clear hK K)); (try with_reducible refine ite_conj ?_)))
    refine ⟨_, ih _ (Tm.lt_of_arg hxm) x hx1 (by omega) rfl, ?_⟩
    repeat' (first | (with_reducible first | refine Wa ?_ | refine Wb ?_ | refine Wc ?_ | refine Wd ?_ | refine We ?_ | refine Wf ?_ | refine Wg ?_ | refine Wh ?_ | refine Wi ?_ | refine Wj ?_ | refine Wk (by decide) ?_ | refine Wl ?_ | refine Wm ?_ | refine Wn ?_) | ((with_reducible first | refine Wo (fun K hK => ?_) | refine Wp ?_ | refine Wq ?_ | refine Wr ?_); (try simp only [go_sem, List.forall_mem_nil, ↓guard_ite, ↓pick_ite, seval, encT_eq, inR_i64, decide_eq_true_eq, decide_eq_false_iff_not, Int.ofNat_lt]); (repeat with_reducible refine And.intro (by first | omega | with_reducible exact lens_encT | with_reducible exact lens_encL | (simp; done) | (simp only [List.length_take, List.length_map, List.length_append, maxLen_eq]; omega)) ?_); (try (with_reducible refine hK _ ?_; clear hK K)); (try with_reducible refine ite_conj ?_)))
    refine ⟨_, put2_a (ap2 (leafOf sS) (f.br v)) (x.br v), ?_⟩
    repeat' (first | (with_reducible first | refine Wa ?_ | refine Wb ?_ | refine Wc ?_ | refine Wd ?_ | refine We ?_ | refine Wf ?_ | refine Wg ?_ | refine Wh ?_ | refine Wi ?_ | refine Wj ?_ | refine Wk (by decide) ?_ | refine Wl ?_ | refine Wm ?_ | refine Wn ?_) | ((with_reducible first | refine Wo (fun K hK => ?_) | refine Wp ?_ | refine Wq ?_ | refine Wr ?_); (try simp only [go_sem, List.forall_mem_nil, ↓guard_ite, ↓pick_ite, seval, encT_eq, inR_i64, decide_eq_true_eq, decide_eq_false_iff_not, Int.ofNat_lt]); (repeat with_reducible refine And.intro (by first | omega | with_reducible exact lens_encT | with_reducible exact lens_encL | (simp; done) | (simp only [List.length_take, List.length_map, List.length_append, maxLen_eq]; omega)) ?_); (try (with_reducible refine hK _ ?_; clear hK K)); (try with_reducible refine ite_conj ?_)))
    simp only [go_sem, List.forall_mem_nil, ↓guard_ite, ↓pick_ite, seval, FinQ, AS.result, resAll, resOne, tupV]
theorem capT_gt {s : Nat} : 2000 < capTo s 2000 ↔ 2000 < (s : Int) := by unfold capTo; split <;> omega
theorem combOf_a (t : Lm) (d : Int) (hd : 0 ≤ d) (hz : d + t.size ≤ 90) (hc : t.chk 0 d = 0) : ACalls Tryz.prog 6 [aLm t, aInt d] (.tup [aTm (Lm.toC d t).1, aInt (Lm.toC d t).2]) := by
  induction h : SizeOf.sizeOf t using Nat.strongRecOn generalizing t d with
  | _ N ih =>
  subst h
  have hs := Lm.size_eq t
  have hw := Lm.wf_chk t d hc
  rw [Lm.chk_eq] at hc
  split at hc
  case isFalse => omega
  case isTrue hk =>
  split at hc
  case isFalse => omega
  case isTrue hi =>
  obtain ⟨i1, i2⟩ := hi
  have hk5 := kinds_of ⟨hk.1, hk.2.1⟩
  rcases hk5 with k1 | k1 | k1 | k1 | k1
  · have hi2 : t.idx < d := by simpa [mostIdx, k1] using i2
    obtain ⟨n, hn⟩ : ∃ n : Nat, d - 1 - t.idx = n := ⟨(d - 1 - t.idx).toNat, by omega⟩
    rw [Lm.toC_eq, if_pos k1, hn, Int.toNat_natCast]
    have hv := v_fit n
    refine ac_R_CombOf (Nat.le_of_ble_eq_true rfl) fun C hC => ?_
    unfold ir_R_CombOf
    repeat' (first | (with_reducible first | refine Wa ?_ | refine Wb ?_ | refine Wc ?_ | refine Wd ?_ | refine We ?_ | refine Wf ?_ | refine Wg ?_ | refine Wh ?_ | refine Wi ?_ | refine Wj ?_ | refine Wk (by decide) ?_ | refine Wl ?_ | refine Wm ?_ | refine Wn ?_) | refine CallG.mk _ (dec_a n (by omega)) ?_ | refine CallG.mk _ (leafR_a (vS ++ dec2 n)) ?_ | ((with_reducible first | refine Wo (fun K hK => ?_) | refine Wp ?_ | refine Wq ?_ | refine Wr ?_); (try simp only [go_sem, List.forall_mem_nil, ↓guard_ite, ↓pick_ite, seval, encT_eq, inR_i64, k1, hn, hv, decide_eq_true_eq, decide_eq_false_iff_not, Int.ofNat_lt]); (repeat with_reducible refine And.intro (by first | omega | with_reducible exact lens_encT | with_reducible exact lens_encL | (simp; done) | (simp only [List.length_take, List.length_map, List.length_append, maxLen_eq]; omega)) ?_); (try (with_reducible refine hK _ ?_; clear hK K)); (try with_reducible refine ite_conj ?_)))
    simp only [go_sem, List.forall_mem_nil, ↓guard_ite, ↓pick_ite, seval, FinQ, AS.result, resAll, resOne, tupV]
  · obtain ⟨s, ha⟩ := Lm.subs1 hw k1
    have hsm : s ∈ t.subs := by rw [ha]; simp
    have ss := Lm.size_sub hsm
    have hu : under t.kind d = d + 1 := by simp [under, k1]
    rw [ha, hu] at hc
    have hc' := chks1 hc
    have ihs := ih _ (Lm.lt_of_sub hsm) s (d + 1) (by omega) (by omega) hc' rfl
    have hok := Lm.toC_ok _ (d + 1) s (Nat.lt_succ_self _)
    rw [Lm.toC_eq, if_neg (by omega), if_neg (by omega), hu, ha, Lm.toCs, Lm.toCs]
    generalize Lm.toC (d + 1) s = R at *
    obtain ⟨x, e⟩ := R
    simp only [joinC] at ihs hok ⊢
    obtain ⟨n, rfl⟩ : ∃ n : Nat, d = n := ⟨d.toNat, by omega⟩
    rw [Int.toNat_natCast]
    by_cases he : e = 0
    · obtain ⟨f1, f2⟩ := hok he
      rw [if_pos he]
      have hv := v_fit n
      have hb := (Tm.br_all _ (vS ++ dec2 n) x (Nat.lt_succ_self _) f1).2
      have hB := bracketR_a (vS ++ dec2 n) x f1 (by omega)
      generalize x.br (vS ++ dec2 n) = y at *
      have c2 := @capT_gt y.size
      unfold fitR
      by_cases hbig : 2000 < (y.size : Int)
      · rw [if_pos (by omega)]
        refine ac_R_CombOf (Nat.le_of_ble_eq_true rfl) fun C hC => ?_
        unfold ir_R_CombOf
        repeat' (first | (with_reducible first | refine Wa ?_ | refine Wb ?_ | refine Wc ?_ | refine Wd ?_ | refine We ?_ | refine Wf ?_ | refine Wg ?_ | refine Wh ?_ | refine Wi ?_ | refine Wj ?_ | refine Wk (by decide) ?_ | refine Wl ?_ | refine Wm ?_ | refine Wn ?_) | refine CallG.mk _ (ihs) ?_ | refine CallG.mk _ (dec_a n (by omega)) ?_ | refine CallG.mk _ (hB) ?_ | refine CallG.mk _ (sizeR_a y 2000 (by decide) (by decide)) ?_ | ((with_reducible first | refine Wo (fun K hK => ?_) | refine Wp ?_ | refine Wq ?_ | refine Wr ?_); (try simp only [go_sem, List.forall_mem_nil, ↓guard_ite, ↓pick_ite, seval, encT_eq, inR_i64, k1, ha, he, hv, c2, hbig, decide_eq_true_eq, decide_eq_false_iff_not, Int.ofNat_lt]); (repeat with_reducible refine And.intro (by first | omega | with_reducible exact lens_encT | with_reducible exact lens_encL | (simp; done) | (simp only [List.length_take, List.length_map, List.length_append, maxLen_eq]; omega)) ?_); (try (with_reducible refine hK _ ?_; clear hK K)); (try with_reducible refine ite_conj ?_)))
        simp only [go_sem, List.forall_mem_nil, ↓guard_ite, ↓pick_ite, seval, FinQ, AS.result, resAll, resOne, tupV]
        rfl
      · rw [if_neg (by omega)]
        refine ac_R_CombOf (Nat.le_of_ble_eq_true rfl) fun C hC => ?_
        unfold ir_R_CombOf
        repeat' (first | (with_reducible first | refine Wa ?_ | refine Wb ?_ | refine Wc ?_ | refine Wd ?_ | refine We ?_ | refine Wf ?_ | refine Wg ?_ | refine Wh ?_ | refine Wi ?_ | refine Wj ?_ | refine Wk (by decide) ?_ | refine Wl ?_ | refine Wm ?_ | refine Wn ?_) | refine CallG.mk _ (ihs) ?_ | refine CallG.mk _ (dec_a n (by omega)) ?_ | refine CallG.mk _ (hB) ?_ | refine CallG.mk _ (sizeR_a y 2000 (by decide) (by decide)) ?_ | ((with_reducible first | refine Wo (fun K hK => ?_) | refine Wp ?_ | refine Wq ?_ | refine Wr ?_); (try simp only [go_sem, List.forall_mem_nil, ↓guard_ite, ↓pick_ite, seval, encT_eq, inR_i64, k1, ha, he, hv, c2, hbig, decide_eq_true_eq, decide_eq_false_iff_not, Int.ofNat_lt]); (repeat with_reducible refine And.intro (by first | omega | with_reducible exact lens_encT | with_reducible exact lens_encL | (simp; done) | (simp only [List.length_take, List.length_map, List.length_append, maxLen_eq]; omega)) ?_); (try (with_reducible refine hK _ ?_; clear hK K)); (try with_reducible refine ite_conj ?_)))
        simp only [go_sem, List.forall_mem_nil, ↓guard_ite, ↓pick_ite, seval, FinQ, AS.result, resAll, resOne, tupV]
    · rw [if_neg he]
      refine ac_R_CombOf (Nat.le_of_ble_eq_true rfl) fun C hC => ?_
      unfold ir_R_CombOf
      repeat' (first | (with_reducible first | refine Wa ?_ | refine Wb ?_ | refine Wc ?_ | refine Wd ?_ | refine We ?_ | refine Wf ?_ | refine Wg ?_ | refine Wh ?_ | refine Wi ?_ | refine Wj ?_ | refine Wk (by decide) ?_ | refine Wl ?_ | refine Wm ?_ | refine Wn ?_) | refine CallG.mk _ (ihs) ?_ | ((with_reducible first | refine Wo (fun K hK => ?_) | refine Wp ?_ | refine Wq ?_ | refine Wr ?_); (try simp only [go_sem, List.forall_mem_nil, ↓guard_ite, ↓pick_ite, seval, encT_eq, inR_i64, k1, ha, he, decide_eq_true_eq, decide_eq_false_iff_not, Int.ofNat_lt]); (repeat with_reducible refine And.intro (by first | omega | with_reducible exact lens_encT | with_reducible exact lens_encL | (simp; done) | (simp only [List.length_take, List.length_map, List.length_append, maxLen_eq]; omega)) ?_); (try (with_reducible refine hK _ ?_; clear hK K)); (try with_reducible refine ite_conj ?_)))
      simp only [go_sem, List.forall_mem_nil, ↓guard_ite, ↓pick_ite, seval, FinQ, AS.result, resAll, resOne, tupV]
      rfl
  · obtain ⟨s, r, ha⟩ := Lm.subs2 hw k1
    have hsm : s ∈ t.subs := by rw [ha]; simp
    have hrm : r ∈ t.subs := by rw [ha]; simp
    have ss := Lm.size_sub hsm
    have sr := Lm.size_sub hrm
    have hu : under t.kind d = d := by simp [under, k1]
    rw [ha, hu] at hc
    obtain ⟨hc1, hc2⟩ := chks2 hc
    have ihs := ih _ (Lm.lt_of_sub hsm) s d (by omega) (by omega) hc1 rfl
    have ihr := ih _ (Lm.lt_of_sub hrm) r d (by omega) (by omega) hc2 rfl
    rw [Lm.toC_eq, if_neg (by omega), if_neg (by omega), hu, ha, Lm.toCs, Lm.toCs, Lm.toCs]
    generalize Lm.toC d s = R at *
    generalize Lm.toC d r = R2 at *
    obtain ⟨x, e⟩ := R
    obtain ⟨x2, e2⟩ := R2
    simp only [joinC] at ihs ihr ⊢
    by_cases he : e = 0
    · rw [if_pos he]
      by_cases he2 : e2 = 0
      · rw [if_pos he2]
        have hP := put2_a x x2
        generalize ap2 x x2 = y at *
        have c2 := @capT_gt y.size
        unfold fitR
        by_cases hbig : 2000 < (y.size : Int)
        · rw [if_pos (by omega)]
          refine ac_R_CombOf (Nat.le_of_ble_eq_true rfl) fun C hC => ?_
          unfold ir_R_CombOf
          repeat' (first | (with_reducible first | refine Wa ?_ | refine Wb ?_ | refine Wc ?_ | refine Wd ?_ | refine We ?_ | refine Wf ?_ | refine Wg ?_ | refine Wh ?_ | refine Wi ?_ | refine Wj ?_ | refine Wk (by decide) ?_ | refine Wl ?_ | refine Wm ?_ | refine Wn ?_) | refine CallG.mk _ (ihs) ?_ | refine CallG.mk _ (ihr) ?_ | refine CallG.mk _ (hP) ?_ | refine CallG.mk _ (sizeR_a y 2000 (by decide) (by decide)) ?_ | ((with_reducible first | refine Wo (fun K hK => ?_) | refine Wp ?_ | refine Wq ?_ | refine Wr ?_); (try simp only [go_sem, List.forall_mem_nil, ↓guard_ite, ↓pick_ite, seval, encT_eq, inR_i64, k1, ha, he, he2, c2, hbig, decide_eq_true_eq, decide_eq_false_iff_not, Int.ofNat_lt]); (repeat with_reducible refine And.intro (by first | omega | with_reducible exact lens_encT | with_reducible exact lens_encL | (simp; done) | (simp only [List.length_take, List.length_map, List.length_append, maxLen_eq]; omega)) ?_); (try (with_reducible refine hK _ ?_; clear hK K)); (try with_reducible refine ite_conj ?_)))
          simp only [go_sem, List.forall_mem_nil, ↓guard_ite, ↓pick_ite, seval, FinQ, AS.result, resAll, resOne, tupV]
          rfl
        · rw [if_neg (by omega)]
          refine ac_R_CombOf (Nat.le_of_ble_eq_true rfl) fun C hC => ?_
          unfold ir_R_CombOf
          repeat' (first | (with_reducible first | refine Wa ?_ | refine Wb ?_ | refine Wc ?_ | refine Wd ?_ | refine We ?_ | refine Wf ?_ | refine Wg ?_ | refine Wh ?_ | refine Wi ?_ | refine Wj ?_ | refine Wk (by decide) ?_ | refine Wl ?_ | refine Wm ?_ | refine Wn ?_) | refine CallG.mk _ (ihs) ?_ | refine CallG.mk _ (ihr) ?_ | refine CallG.mk _ (hP) ?_ | refine CallG.mk _ (sizeR_a y 2000 (by decide) (by decide)) ?_ | ((with_reducible first | refine Wo (fun K hK => ?_) | refine Wp ?_ | refine Wq ?_ | refine Wr ?_); (try simp only [go_sem, List.forall_mem_nil, ↓guard_ite, ↓pick_ite, seval, encT_eq, inR_i64, k1, ha, he, he2, c2, hbig, decide_eq_true_eq, decide_eq_false_iff_not, Int.ofNat_lt]); (repeat with_reducible refine And.intro (by first | omega | with_reducible exact lens_encT | with_reducible exact lens_encL | (simp; done) | (simp only [List.length_take, List.length_map, List.length_append, maxLen_eq]; omega)) ?_); (try (with_reducible refine hK _ ?_; clear hK K)); (try with_reducible refine ite_conj ?_)))
          simp only [go_sem, List.forall_mem_nil, ↓guard_ite, ↓pick_ite, seval, FinQ, AS.result, resAll, resOne, tupV]
      · rw [if_neg he2]
        refine ac_R_CombOf (Nat.le_of_ble_eq_true rfl) fun C hC => ?_
        unfold ir_R_CombOf
        repeat' (first | (with_reducible first | refine Wa ?_ | refine Wb ?_ | refine Wc ?_ | refine Wd ?_ | refine We ?_ | refine Wf ?_ | refine Wg ?_ | refine Wh ?_ | refine Wi ?_ | refine Wj ?_ | refine Wk (by decide) ?_ | refine Wl ?_ | refine Wm ?_ | refine Wn ?_) | refine CallG.mk _ (ihs) ?_ | refine CallG.mk _ (ihr) ?_ | ((with_reducible first | refine Wo (fun K hK => ?_) | refine Wp ?_ | refine Wq ?_ | refine Wr ?_); (try simp only [go_sem, List.forall_mem_nil, ↓guard_ite, ↓pick_ite, seval, encT_eq, inR_i64, k1, ha, he, he2, decide_eq_true_eq, decide_eq_false_iff_not, Int.ofNat_lt]); (repeat with_reducible refine And.intro (by first | omega | with_reducible exact lens_encT | with_reducible exact lens_encL | (simp; done) | (simp only [List.length_take, List.length_map, List.length_append, maxLen_eq]; omega)) ?_); (try (with_reducible refine hK _ ?_; clear hK K)); (try with_reducible refine ite_conj ?_)))
        simp only [go_sem, List.forall_mem_nil, ↓guard_ite, ↓pick_ite, seval, FinQ, AS.result, resAll, resOne, tupV]
        rfl
    · rw [if_neg he]
      refine ac_R_CombOf (Nat.le_of_ble_eq_true rfl) fun C hC => ?_
      unfold ir_R_CombOf
      repeat' (first | (with_reducible first | refine Wa ?_ | refine Wb ?_ | refine Wc ?_ | refine Wd ?_ | refine We ?_ | refine Wf ?_ | refine Wg ?_ | refine Wh ?_ | refine Wi ?_ | refine Wj ?_ | refine Wk (by decide) ?_ | refine Wl ?_ | refine Wm ?_ | refine Wn ?_) | refine CallG.mk _ (ihs) ?_ | ((with_reducible first | refine Wo (fun K hK => ?_) | refine Wp ?_ | refine Wq ?_ | refine Wr ?_); (try simp only [go_sem, List.forall_mem_nil, ↓guard_ite, ↓pick_ite, seval, encT_eq, inR_i64, k1, ha, he, decide_eq_true_eq, decide_eq_false_iff_not, Int.ofNat_lt]); (repeat with_reducible refine And.intro (by first | omega | with_reducible exact lens_encT | with_reducible exact lens_encL | (simp; done) | (simp only [List.length_take, List.length_map, List.length_append, maxLen_eq]; omega)) ?_); (try (with_reducible refine hK _ ?_; clear hK K)); (try with_reducible refine ite_conj ?_)))
      simp only [go_sem, List.forall_mem_nil, ↓guard_ite, ↓pick_ite, seval, FinQ, AS.result, resAll, resOne, tupV]
      rfl
  · have hi2 : t.idx < 40 := by simpa [mostIdx, k1] using i2
    obtain ⟨n, hn⟩ : ∃ n : Nat, t.idx = n := ⟨t.idx.toNat, by omega⟩
    rw [Lm.toC_eq, if_neg (by omega), if_pos k1, hn, Int.toNat_natCast]
    have hv := c_fit n
    refine ac_R_CombOf (Nat.le_of_ble_eq_true rfl) fun C hC => ?_
    unfold ir_R_CombOf
    repeat' (first | (with_reducible first | refine Wa ?_ | refine Wb ?_ | refine Wc ?_ | refine Wd ?_ | refine We ?_ | refine Wf ?_ | refine Wg ?_ | refine Wh ?_ | refine Wi ?_ | refine Wj ?_ | refine Wk (by decide) ?_ | refine Wl ?_ | refine Wm ?_ | refine Wn ?_) | refine CallG.mk _ (dec_a n (by omega)) ?_ | refine CallG.mk _ (leafR_a (cS ++ dec2 n)) ?_ | ((with_reducible first | refine Wo (fun K hK => ?_) | refine Wp ?_ | refine Wq ?_ | refine Wr ?_); (try simp only [go_sem, List.forall_mem_nil, ↓guard_ite, ↓pick_ite, seval, encT_eq, inR_i64, k1, hn, hv, decide_eq_true_eq, decide_eq_false_iff_not, Int.ofNat_lt]); (repeat with_reducible refine And.intro (by first | omega | with_reducible exact lens_encT | with_reducible exact lens_encL | (simp; done) | (simp only [List.length_take, List.length_map, List.length_append, maxLen_eq]; omega)) ?_); (try (with_reducible refine hK _ ?_; clear hK K)); (try with_reducible refine ite_conj ?_)))
    simp only [go_sem, List.forall_mem_nil, ↓guard_ite, ↓pick_ite, seval, FinQ, AS.result, resAll, resOne, tupV]
  · have hi2 : t.idx < 0 := by simpa [mostIdx, k1] using i2
    omega
theorem toC_err {d : Int} {t : Lm} (h : (Lm.toC d t).2 ≠ 0) : (Lm.toC d t).1 = nilT := by
  have fit : ∀ y : Tm, (fitR y).2 ≠ 0 → (fitR y).1 = nilT := fun y hy => by
    unfold fitR at hy ⊢
    split at hy
    · rename_i hz
      rw [if_pos hz]
      rfl
    · exact absurd rfl hy
  rw [Lm.toC_eq] at h ⊢
  split at h
  · exact absurd rfl h
  · rename_i h1
    rw [if_neg h1]
    split at h
    · exact absurd rfl h
    · rename_i h4
      rw [if_neg h4]
      generalize Lm.toCs (under t.kind d) t.subs = l at *
      match l, h with
      | [], h => exact absurd rfl h
      | [r], h =>
        simp only [joinC] at h ⊢
        split at h
        · rename_i hr
          rw [if_pos hr]
          exact fit _ h
        · rename_i hr
          rw [if_neg hr]
      | r :: q :: l, h =>
        simp only [joinC] at h ⊢
        split at h
        · rename_i hr
          rw [if_pos hr]
          split at h
          · rename_i hq
            rw [if_pos hq]
            exact fit _ h
          · rename_i hq
            rw [if_neg hq]
        · rename_i hr
          rw [if_neg hr]
theorem combFrom_a (t : Lm) : ACalls Tryz.prog 7 [aLm t] (aBool true) := by
  by_cases q1 : 3000 < t.size
  · refine ac_L_CombFrom (Nat.le_of_ble_eq_true rfl) fun C hC => ?_
    unfold ir_L_CombFrom
    repeat' (first | (with_reducible first | refine Wa ?_ | refine Wb ?_ | refine Wc ?_ | refine Wd ?_ | refine We ?_ | refine Wf ?_ | refine Wg ?_ | refine Wh ?_ | refine Wi ?_ | refine Wj ?_ | refine Wk (by decide) ?_ | refine Wl ?_ | refine Wm ?_ | refine Wn ?_) | refine CallG.mk _ (hugeLam_a t) ?_ | ((with_reducible first | refine Wo (fun K hK => ?_) | refine Wp ?_ | refine Wq ?_ | refine Wr ?_); (try simp only [go_sem, List.forall_mem_nil, ↓guard_ite, ↓pick_ite, seval, encT_eq, inR_i64, q1, decide_eq_true_eq, decide_eq_false_iff_not, Int.ofNat_lt]); (repeat with_reducible refine And.intro (by first | omega | with_reducible exact lens_encT | with_reducible exact lens_encL | (simp; done) | (simp only [List.length_take, List.length_map, List.length_append, maxLen_eq]; omega)) ?_); (try (with_reducible refine hK _ ?_; clear hK K)); (try with_reducible refine ite_conj ?_)))
    simp only [go_sem, List.forall_mem_nil, ↓guard_ite, ↓pick_ite, seval, FinQ, AS.result, resAll, resOne, tupV]
  by_cases h : t.may 0 0 = 0
  case neg =>
    have hF := From_a t (fun h' => absurd h' h)
    have hr : fromR t = (nilT, t.may 0 0) := by unfold fromR; rw [if_neg h]
    have h2 : term2 nilT (t.may 0 0) nilT (t.may 0 0) = true := term2_self _ _ _ (fun _ => rfl) rfl
    rw [hr] at hF
    refine ac_L_CombFrom (Nat.le_of_ble_eq_true rfl) fun C hC => ?_
    unfold ir_L_CombFrom
    repeat' (first | (with_reducible first | refine Wa ?_ | refine Wb ?_ | refine Wc ?_ | refine Wd ?_ | refine We ?_ | refine Wf ?_ | refine Wg ?_ | refine Wh ?_ | refine Wi ?_ | refine Wj ?_ | refine Wk (by decide) ?_ | refine Wl ?_ | refine Wm ?_ | refine Wn ?_) | refine CallG.mk _ (hugeLam_a t) ?_ | refine CallG.mk _ (lMay_a t 0 0) ?_ | refine CallG.mk _ (hF) ?_ | refine CallG.mk _ (term2_a nilT nilT (t.may 0 0) (t.may 0 0)) ?_ | ((with_reducible first | refine Wo (fun K hK => ?_) | refine Wp ?_ | refine Wq ?_ | refine Wr ?_); (try simp only [go_sem, List.forall_mem_nil, ↓guard_ite, ↓pick_ite, seval, encT_eq, inR_i64, q1, h, h2, decide_eq_true_eq, decide_eq_false_iff_not, Int.ofNat_lt]); (repeat with_reducible refine And.intro (by first | omega | with_reducible exact lens_encT | with_reducible exact lens_encL | (simp; done) | (simp only [List.length_take, List.length_map, List.length_append, maxLen_eq]; omega)) ?_); (try (with_reducible refine hK _ ?_; clear hK K)); (try with_reducible refine ite_conj ?_)))
    simp only [go_sem, List.forall_mem_nil, ↓guard_ite, ↓pick_ite, seval, FinQ, AS.result, resAll, resOne, tupV]
  case pos =>
  have c40 : 40 < capTo t.size 40 ↔ 40 < (t.size : Int) := by unfold capTo; split <;> omega
  by_cases g : 40 < (t.size : Int)
  · refine ac_L_CombFrom (Nat.le_of_ble_eq_true rfl) fun C hC => ?_
    unfold ir_L_CombFrom
    repeat' (first | (with_reducible first | refine Wa ?_ | refine Wb ?_ | refine Wc ?_ | refine Wd ?_ | refine We ?_ | refine Wf ?_ | refine Wg ?_ | refine Wh ?_ | refine Wi ?_ | refine Wj ?_ | refine Wk (by decide) ?_ | refine Wl ?_ | refine Wm ?_ | refine Wn ?_) | refine CallG.mk _ (hugeLam_a t) ?_ | refine CallG.mk _ (lMay_a t 0 0) ?_ | refine CallG.mk _ (lsizeR_a t 40 (by decide) (by decide)) ?_ | ((with_reducible first | refine Wo (fun K hK => ?_) | refine Wp ?_ | refine Wq ?_ | refine Wr ?_); (try simp only [go_sem, List.forall_mem_nil, ↓guard_ite, ↓pick_ite, seval, encT_eq, inR_i64, q1, h, c40, g, decide_eq_true_eq, decide_eq_false_iff_not, Int.ofNat_lt]); (repeat with_reducible refine And.intro (by first | omega | with_reducible exact lens_encT | with_reducible exact lens_encL | (simp; done) | (simp only [List.length_take, List.length_map, List.length_append, maxLen_eq]; omega)) ?_); (try (with_reducible refine hK _ ?_; clear hK K)); (try with_reducible refine ite_conj ?_)))
    simp only [go_sem, List.forall_mem_nil, ↓guard_ite, ↓pick_ite, seval, FinQ, AS.result, resAll, resOne, tupV]
  · obtain ⟨_, _, _, a4⟩ := Lm.may_ok h
    have hF := From_a t (fun _ => by omega)
    have hr : fromR t = Lm.toC 0 t := by unfold fromR; rw [if_pos h]
    have hC' := combOf_a t 0 (by decide) (by omega) a4
    have herr := @toC_err 0 t
    rw [hr] at hF
    generalize Lm.toC 0 t = R at *
    obtain ⟨x, e⟩ := R
    simp only at hF hC' herr
    have h2 : term2 x e x e = true := term2_self _ _ _ (fun he => herr he) rfl
    refine ac_L_CombFrom (Nat.le_of_ble_eq_true rfl) fun C hC => ?_
    unfold ir_L_CombFrom
    repeat' (first | (with_reducible first | refine Wa ?_ | refine Wb ?_ | refine Wc ?_ | refine Wd ?_ | refine We ?_ | refine Wf ?_ | refine Wg ?_ | refine Wh ?_ | refine Wi ?_ | refine Wj ?_ | refine Wk (by decide) ?_ | refine Wl ?_ | refine Wm ?_ | refine Wn ?_) | refine CallG.mk _ (hugeLam_a t) ?_ | refine CallG.mk _ (lMay_a t 0 0) ?_ | refine CallG.mk _ (lsizeR_a t 40 (by decide) (by decide)) ?_ | refine CallG.mk _ (hC') ?_ | refine CallG.mk _ (hF) ?_ | refine CallG.mk _ (term2_a x x e e) ?_ | ((with_reducible first | refine Wo (fun K hK => ?_) | refine Wp ?_ | refine Wq ?_ | refine Wr ?_); (try simp only [go_sem, List.forall_mem_nil, ↓guard_ite, ↓pick_ite, seval, encT_eq, inR_i64, q1, h, c40, g, h2, decide_eq_true_eq, decide_eq_false_iff_not, Int.ofNat_lt]); (repeat with_reducible refine And.intro (by first | omega | with_reducible exact lens_encT | with_reducible exact lens_encL | (simp; done) | (simp only [List.length_take, List.length_map, List.length_append, maxLen_eq]; omega)) ?_); (try (with_reducible refine hK _ ?_; clear hK K)); (try with_reducible refine ite_conj ?_)))
    simp only [go_sem, List.forall_mem_nil, ↓guard_ite, ↓pick_ite, seval, FinQ, AS.result, resAll, resOne, tupV]
end Go.Proofs.YtbiadmlfejnbcaaGreatDoor

namespace Go.Proofs.YtbiadmlfejnbcaaGreatDoor
open Go Go.RowKit
set_option linter.unusedVariables false
set_option maxHeartbeats 1000000

def aErr : AV := .one (.st .err)
def aNilI : AV := .one (.st (.lit .nilIface))
theorem tup2 {σ : Sto} {a b : Value} {x y : AV} (ha : VRep σ noS noH a x) (hb : VRep σ noS noH b y) : VRep σ noS noH (.tuple #[a, b]) (.tup [x, y]) :=
  .tup (fun j => if j = 0 then a else b) rfl (fun j u hj => by
    match j, hj with
    | 0, _ => rfl
    | 1, _ => rfl
    | j + 2, hj => simp at hj) (fun j u hj => by
    match j, hj with
    | 0, hj => cases hj; exact ha
    | 1, hj => cases hj; exact hb
    | j + 2, hj => simp at hj)
theorem one_arg {σ : Sto} {vs : List Value} {x : AV} (h : All2 (VRep σ noS noH) vs [x]) : ∃ v, vs = [v] ∧ VRep σ noS noH v x := by
  cases h with
  | cons h1 h2 =>
    cases h2
    exact ⟨_, rfl, h1⟩
theorem atoi_a (s : ByteArray) (n : Int) (hz : s.size ≤ 18) (h : Lib.atoi s.data.toList = some n) : ACalls Tryz.prog 71 [aStr s] (.tup [aInt n, aNilI]) := by
  intro σ w vs hG hF hv
  obtain ⟨v, rfl, h1⟩ := one_arg hv
  obtain ⟨rfl, _⟩ := vrep_str h1
  refine (Any.strconv_Atoi Tryz.lays172 s n hz h w).mono fun e w' ⟨he, t, hw⟩ => ?_
  have hb : Below w.heap.size w w' := by
    rw [hw]
    exact Lib.bytesWorld_below _ _ _
  have hr := atoi_range hz h
  exact ⟨_, σ, he, tup2 (.one (.st (.int (by rw [inR_i64]; exact hr)))) (.one (.st (.lit rfl))), hF.below hb, Ext.refl _ _, hb⟩
theorem atoi_no (s : ByteArray) (hz : s.size ≤ 18) (h : Lib.atoi s.data.toList = none) : ACalls Tryz.prog 71 [aStr s] (.tup [aInt 0, aErr]) := by
  intro σ w vs hG hF hv
  obtain ⟨v, rfl, h1⟩ := one_arg hv
  obtain ⟨rfl, _⟩ := vrep_str h1
  obtain ⟨ev, h2, h3⟩ := hG.cell hF (g := 1) (a := .err) (by kernel_rfl)
  obtain ⟨te, pe, rfl⟩ : ∃ te pe, ev = .iface te pe := by
    cases h3
    exact ⟨_, _, rfl⟩
  refine (Any.strconv_Atoi_err Tryz.laysC172 s hz h _ w h2 (Or.inr ⟨te, pe, rfl⟩)).mono fun e w' ⟨N, he, _, _, hb⟩ => ?_
  exact ⟨_, σ, he, tup2 (.one (.st (.int (by rw [inR_i64]; omega)))) (.one (.st .err)), hF.below hb, Ext.refl _ _, hb⟩
theorem itoaAll_a (n : Int) : ACalls Tryz.prog 61 [aInt n] (aStr ⟨(Lib.itoa n).toArray⟩) := by
  intro σ w vs hG hF hv
  obtain ⟨v, rfl, h1⟩ := one_arg hv
  obtain ⟨rfl, hn⟩ := vrep_int h1
  rw [inR_i64] at hn
  have ht : Lib.TabIs Tryz.prog w "internal/strconv.uint64pow10" .u64 Lib.pow10Tab := hG.ints hF (g := 3) (by kernel_rfl) (by kernel_rfl)
  refine (Any.strconv_Itoa Tryz.laysM171 n hn.1 hn.2 w ht).mono fun e w' ⟨he, k, os, hw⟩ => ?_
  have hb : Below w.heap.size w w' := by
    rw [hw]
    exact Lib.below_grow _ _ (Nat.le_refl _) _ _
  refine ⟨_, σ, he, .one (.st (.str ?_)), hF.below hb, Ext.refl _ _, hb⟩
  have hl := Lib.itoa_length_le n hn.1 hn.2
  have hs : (⟨(Lib.itoa n).toArray⟩ : ByteArray).size = (Lib.itoa n).length := by simp [ByteArray.size]
  rw [hs, maxLen_eq]
  omega
end Go.Proofs.YtbiadmlfejnbcaaGreatDoor
