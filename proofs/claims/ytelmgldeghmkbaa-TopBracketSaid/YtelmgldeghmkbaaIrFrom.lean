/-
  The program's functions in abstract operations: written by a program of mine out of the translation; each is shown to be the translation's.
  Conditions: none.
-/
import Derived.Test.YtelmgldeghmkbaaBComb
namespace Go.Proofs.Ytelmgldeghmkbaa
open Go Go.RowKit
set_option maxRecDepth 100000

def ir_comb_name : IR :=
  (.seq
  (.ops
  [.mk (some 2) none
  (.alloc 25 [.st (.str (ByteArray.mk (#[]))), .full []]) .no])
  (.seq
  (.ops
  [.mk (some 3) none (.mov (.t 0)) .no, .mk (some 4) none
  (.build [.st (.str (ByteArray.mk (#[]))), .full []]
  [(0, 1, .t 3)])
  .no, .mk none none (.store 2 (.t 2) (.t 4)) .no])
  .ret))
theorem tr_comb_name : trCode Try.prog 5 [] (Try.f32.body.getD .skip) = some ir_comb_name := by kernel_rfl
theorem ac_comb_name {xs : List AV} {r : AV} (hn : xs.length ≤ 5) (h : ∀ C : Ctx, C.n = 5 → IWP Try.prog C [] ir_comb_name (FinQ [.cell 2 true 2] r) (AS.start xs)) : ACalls Try.prog 32 xs r :=
  acalls_of Try.func32 rfl tr_comb_name rfl hn h
theorem acS_comb_name {xs : List AV} {S S' : AStore} {r : AV} (hn : xs.length ≤ 5) (h : Clean S → ∀ C : Ctx, C.n = 5 → IWP Try.prog C [] ir_comb_name (FinS C [.cell 2 true 2] r S') (AS.startS xs S)) : ACallsS Try.prog 32 xs S r S' :=
  acallsS_of Try.func32 rfl tr_comb_name rfl hn h

def ir_R_Leaf : IR :=
  (.seq
  (.ops
  [.mk (some 2) none
  (.alloc 25 [.st (.str (ByteArray.mk (#[]))), .full []]) .no])
  (.seq
  (.ops
  [.mk (some 3) none (.mov (.t 0)) .no, .mk (some 4) none
  (.build [.st (.str (ByteArray.mk (#[]))), .full []]
  [(0, 1, .t 3)])
  .no, .mk none none (.store 2 (.t 2) (.t 4)) .no])
  .ret))
theorem tr_R_Leaf : trCode Try.prog 5 [] (Try.f26.body.getD .skip) = some ir_R_Leaf := by kernel_rfl
theorem ac_R_Leaf {xs : List AV} {r : AV} (hn : xs.length ≤ 5) (h : ∀ C : Ctx, C.n = 5 → IWP Try.prog C [] ir_R_Leaf (FinQ [.cell 2 true 2] r) (AS.start xs)) : ACalls Try.prog 26 xs r :=
  acalls_of Try.func26 rfl tr_R_Leaf rfl hn h
theorem acS_R_Leaf {xs : List AV} {S S' : AStore} {r : AV} (hn : xs.length ≤ 5) (h : Clean S → ∀ C : Ctx, C.n = 5 → IWP Try.prog C [] ir_R_Leaf (FinS C [.cell 2 true 2] r S') (AS.startS xs S)) : ACallsS Try.prog 26 xs S r S' :=
  acallsS_of Try.func26 rfl tr_R_Leaf rfl hn h

def ir_comb_has : IR :=
  (.seq
  (.ops
  [.mk (some 2) none (.box 25 (.t 0)) .no, .mk (some 3) none (.box 9 (.t 1)) .no, .mk (some 4) none (.mov (.c (.one (.st (.bool false)))))
  .no])
  (.seq
  (.ops
  [.mk (some 5) none (.fieldAddr 0 (.t 2)) .no, .mk (some 6) none (.load false 1 (.t 5)) .no, .mk (some 7) none (.load false 1 (.t 3)) .no, .mk (some 8) none (.bin .eql (.t 6) (.t 7)) .no, .mk (some 9) none (.mov (.t 8)) .no, .mk (some 10) (some (9, false)) (.fieldAddr 1 (.t 2)) .no, .mk (some 11) (some (9, false)) (.load false 1 (.t 10)) .no, .mk (some 12) (some (9, false)) (.makeFunc 39 [.t 3]) .no, .mk (some 13) (some (9, false)) (.callS 38 [.t 11, .t 12])
  .no, .mk (some 14) none
  (.pick (.t 9) (.c (.one (.st (.bool true)))) (.t 13))
  .no, .mk (some 4) none (.mov (.t 14)) .no])
  .ret))
theorem tr_comb_has : trCode Try.prog 15 [13] (Try.f30.body.getD .skip) = some ir_comb_has := by kernel_rfl
theorem ac_comb_has {xs : List AV} {r : AV} (hn : xs.length ≤ 15) (h : ∀ C : Ctx, C.n = 15 → IWP Try.prog C [13] ir_comb_has (FinQ [.t 4] r) (AS.start xs)) : ACalls Try.prog 30 xs r :=
  acalls_of Try.func30 rfl tr_comb_has rfl hn h
theorem acS_comb_has {xs : List AV} {S S' : AStore} {r : AV} (hn : xs.length ≤ 15) (h : Clean S → ∀ C : Ctx, C.n = 15 → IWP Try.prog C [13] ir_comb_has (FinS C [.t 4] r S') (AS.startS xs S)) : ACallsS Try.prog 30 xs S r S' :=
  acallsS_of Try.func30 rfl tr_comb_has rfl hn h

def ir_comb_has_1 : IR :=
  (.seq
  (.ops
  [.mk (some 2) none (.box 25 (.t 0)) .no, .mk (some 3) none (.mov (.c (.one (.st (.bool false)))))
  .no])
  (.seq
  (.ops
  [.mk (some 4) none (.load true 2 (.t 2)) .no, .mk (some 5) none (.load false 1 (.t 1)) .no, .mk (some 6) none (.call 30 [.t 4, .t 5]) .no, .mk (some 3) none (.mov (.t 6)) .no])
  .ret))
theorem tr_comb_has_1 : trCode Try.prog 7 [] (Try.f39.body.getD .skip) = some ir_comb_has_1 := by kernel_rfl
theorem ac_comb_has_1 {xs : List AV} {r : AV} (hn : xs.length ≤ 7) (h : ∀ C : Ctx, C.n = 7 → IWP Try.prog C [] ir_comb_has_1 (FinQ [.t 3] r) (AS.start xs)) : ACalls Try.prog 39 xs r :=
  acalls_of Try.func39 rfl tr_comb_has_1 rfl hn h
theorem acS_comb_has_1 {xs : List AV} {S S' : AStore} {r : AV} (hn : xs.length ≤ 7) (h : Clean S → ∀ C : Ctx, C.n = 7 → IWP Try.prog C [] ir_comb_has_1 (FinS C [.t 3] r S') (AS.startS xs S)) : ACallsS Try.prog 39 xs S r S' :=
  acallsS_of Try.func39 rfl tr_comb_has_1 rfl hn h

def ir_slices_ContainsFunc_metaprune_api_Term_metaprune_api_Term : IR :=
  (.seq
  (.ops
  [.mk (some 4) none (.mov (.c (.one (.st (.bool false)))))
  .no])
  (.seq
  (.ops
  [.mk (some 5) none (.mov (.t 0)) .no, .mk (some 6) none (.mov (.t 1)) .no, .mk (some 7) none (.callS 40 [.t 5, .t 6]) .no, .mk (some 8) none (.bin .geq (.t 7) (.c (.one (.st (.int .i64 0)))))
  .no, .mk (some 4) none (.mov (.t 8)) .no])
  .ret))
theorem tr_slices_ContainsFunc_metaprune_api_Term_metaprune_api_Term : trCode Try.prog 9 [7] (Try.f38.body.getD .skip) = some ir_slices_ContainsFunc_metaprune_api_Term_metaprune_api_Term := by kernel_rfl
theorem ac_slices_ContainsFunc_metaprune_api_Term_metaprune_api_Term {xs : List AV} {r : AV} (hn : xs.length ≤ 9) (h : ∀ C : Ctx, C.n = 9 → IWP Try.prog C [7] ir_slices_ContainsFunc_metaprune_api_Term_metaprune_api_Term (FinQ [.t 4] r) (AS.start xs)) : ACalls Try.prog 38 xs r :=
  acalls_of Try.func38 rfl tr_slices_ContainsFunc_metaprune_api_Term_metaprune_api_Term rfl hn h
theorem acS_slices_ContainsFunc_metaprune_api_Term_metaprune_api_Term {xs : List AV} {S S' : AStore} {r : AV} (hn : xs.length ≤ 9) (h : Clean S → ∀ C : Ctx, C.n = 9 → IWP Try.prog C [7] ir_slices_ContainsFunc_metaprune_api_Term_metaprune_api_Term (FinS C [.t 4] r S') (AS.startS xs S)) : ACallsS Try.prog 38 xs S r S' :=
  acallsS_of Try.func38 rfl tr_slices_ContainsFunc_metaprune_api_Term_metaprune_api_Term rfl hn h

def ir_slices_IndexFunc_metaprune_api_Term_metaprune_api_Term : IR :=
  (.seq
  (.ops
  [.mk (some 4) none (.mov (.c (.one (.st (.int .i64 0)))))
  .no])
  (.seq
  (.seq
  (.ops
  [.mk (some 6) none (.mov (.t 0)) .no, .mk (some 7) none (.len false (.t 6)) .no, .mk (some 8) none (.mov (.c (.one (.st (.int .i64 0)))))
  .no])
  (.block 0
  (.loop
  (.seq
  (.ops
  [.mk (some 9) none (.bin .lss (.t 8) (.t 7))
  .no])
  (.seq (.cond (.t 9) .skip (.exit 0))
  (.seq
  (.block 1
  (.seq
  (.ops
  [.mk (some 10) none (.mov (.t 8)) .no, .mk (some 5) none (.mov (.t 10)) .no])
  (.seq
  (.ops
  [.mk (some 11) none (.mov (.t 1)) .no, .mk (some 12) none (.mov (.t 0)) .no, .mk (some 13) none (.mov (.t 5)) .no, .mk (some 14) none (.indexAddr 2 (.t 12) (.t 13))
  .no, .mk (some 15) none (.load true 2 (.t 14)) .no, .mk (some 16) none (.callV (.t 11) [.t 15])
  .no])
  (.cond (.t 16)
  (.seq
  (.ops
  [.mk (some 17) none (.mov (.t 5)) .no, .mk (some 4) none (.mov (.t 17)) .no])
  .ret)
  .skip))))
  (.ops
  [.mk (some 18) none (.bin .add (.t 8) (.c (.one (.st (.int .i64 1)))))
  .no, .mk (some 8) none (.mov (.t 18)) .no])))))))
  (.seq
  (.ops
  [.mk (some 4) none (.mov (.c (.one (.st (.int .i64 (-1))))))
  .no])
  .ret)))
theorem tr_slices_IndexFunc_metaprune_api_Term_metaprune_api_Term : trCode Try.prog 19 [] (Try.f40.body.getD .skip) = some ir_slices_IndexFunc_metaprune_api_Term_metaprune_api_Term := by kernel_rfl
theorem ac_slices_IndexFunc_metaprune_api_Term_metaprune_api_Term {xs : List AV} {r : AV} (hn : xs.length ≤ 19) (h : ∀ C : Ctx, C.n = 19 → IWP Try.prog C [] ir_slices_IndexFunc_metaprune_api_Term_metaprune_api_Term (FinQ [.t 4] r) (AS.start xs)) : ACalls Try.prog 40 xs r :=
  acalls_of Try.func40 rfl tr_slices_IndexFunc_metaprune_api_Term_metaprune_api_Term rfl hn h
theorem acS_slices_IndexFunc_metaprune_api_Term_metaprune_api_Term {xs : List AV} {S S' : AStore} {r : AV} (hn : xs.length ≤ 19) (h : Clean S → ∀ C : Ctx, C.n = 19 → IWP Try.prog C [] ir_slices_IndexFunc_metaprune_api_Term_metaprune_api_Term (FinS C [.t 4] r S') (AS.startS xs S)) : ACallsS Try.prog 40 xs S r S' :=
  acallsS_of Try.func40 rfl tr_slices_IndexFunc_metaprune_api_Term_metaprune_api_Term rfl hn h

def ir_comb_without : IR :=
  (.seq
  (.ops
  [.mk (some 3) none (.box 25 (.t 1)) .no, .mk (some 4) none
  (.alloc 25 [.st (.str (ByteArray.mk (#[]))), .full []]) .no])
  (.seq
  (.block 0
  (.seq
  (.ops
  [.mk (some 6) none (.load true 2 (.t 3)) .no, .mk (some 7) none (.mov (.t 0)) .no, .mk (some 8) none (.call 30 [.t 6, .t 7]) .no, .mk (some 9) none (.un .not (.t 8)) .no, .mk (some 5) none (.mov (.t 9)) .no])
  (.cond (.t 5)
  (.seq
  (.ops
  [.mk (some 10) none (.call 32
  [.c (.one (.st (.str (ByteArray.mk (#[107])))))])
  .no, .mk (some 11) none (.load true 2 (.t 3)) .no, .mk (some 12) none (.call 31 [.t 10, .t 11]) .no, .mk none none (.store 2 (.t 4) (.t 12)) .no])
  .ret)
  (.seq
  (.ops
  [.mk (some 14) none (.fieldAddr 0 (.t 3)) .no, .mk (some 15) none (.load false 1 (.t 14)) .no, .mk (some 16) none (.mov (.t 0)) .no, .mk (some 17) none (.bin .eql (.t 15) (.t 16))
  .no, .mk (some 13) none (.mov (.t 17)) .no])
  (.cond (.t 13)
  (.seq
  (.ops
  [.mk (some 18) none (.call 32
  [.c (.one (.st (.str (ByteArray.mk (#[105])))))])
  .no, .mk none none (.store 2 (.t 4) (.t 18)) .no])
  .ret)
  (.seq
  (.ops
  [.mk (some 20) none (.fieldAddr 1 (.t 3)) .no, .mk (some 21) none (.load false 1 (.t 20)) .no, .mk (some 22) none
  (.indexAddr 2 (.t 21) (.c (.one (.st (.int .i64 1)))))
  .no, .mk (some 23) none (.fieldAddr 0 (.t 22)) .no, .mk (some 24) none (.load false 1 (.t 23)) .no, .mk (some 25) none (.mov (.t 0)) .no, .mk (some 26) none (.bin .eql (.t 24) (.t 25))
  .no, .mk (some 27) none (.mov (.t 26)) .no, .mk (some 28) (some (27, true)) (.fieldAddr 1 (.t 3)) .no, .mk (some 29) (some (27, true)) (.load false 1 (.t 28)) .no, .mk (some 30) (some (27, true))
  (.indexAddr 2 (.t 29) (.c (.one (.st (.int .i64 0)))))
  .no, .mk (some 31) (some (27, true)) (.load true 2 (.t 30)) .no, .mk (some 32) (some (27, true)) (.mov (.t 0)) .no, .mk (some 33) (some (27, true)) (.call 30 [.t 31, .t 32])
  .no, .mk (some 34) (some (27, true)) (.un .not (.t 33)) .no, .mk (some 35) none
  (.pick (.t 27) (.t 34) (.c (.one (.st (.bool false)))))
  .no, .mk (some 19) none (.mov (.t 35)) .no])
  (.cond (.t 19)
  (.seq
  (.ops
  [.mk (some 36) none (.fieldAddr 1 (.t 3)) .no, .mk (some 37) none (.load false 1 (.t 36)) .no, .mk (some 38) none
  (.indexAddr 2 (.t 37) (.c (.one (.st (.int .i64 0)))))
  .no, .mk (some 39) none (.load true 2 (.t 38)) .no, .mk none none (.store 2 (.t 4) (.t 39))
  .no])
  .ret)
  .skip)))))))
  (.seq
  (.ops
  [.mk (some 40) none (.call 32 [.c (.one (.st (.str (ByteArray.mk (#[115])))))])
  .no, .mk (some 41) none (.mov (.t 0)) .no, .mk (some 42) none (.fieldAddr 1 (.t 3)) .no, .mk (some 43) none (.load false 1 (.t 42)) .no, .mk (some 44) none
  (.indexAddr 2 (.t 43) (.c (.one (.st (.int .i64 0)))))
  .no, .mk (some 45) none (.load true 2 (.t 44)) .no, .mk (some 46) none (.call 18 [.t 41, .t 45]) .no, .mk (some 47) none (.call 31 [.t 40, .t 46]) .no, .mk (some 48) none (.mov (.t 0)) .no, .mk (some 49) none (.fieldAddr 1 (.t 3)) .no, .mk (some 50) none (.load false 1 (.t 49)) .no, .mk (some 51) none
  (.indexAddr 2 (.t 50) (.c (.one (.st (.int .i64 1)))))
  .no, .mk (some 52) none (.load true 2 (.t 51)) .no, .mk (some 53) none (.call 18 [.t 48, .t 52]) .no, .mk (some 54) none (.call 31 [.t 47, .t 53]) .no, .mk none none (.store 2 (.t 4) (.t 54)) .no])
  .ret)))
theorem tr_comb_without : trCode Try.prog 55 [] (Try.f18.body.getD .skip) = some ir_comb_without := by kernel_rfl
theorem ac_comb_without {xs : List AV} {r : AV} (hn : xs.length ≤ 55) (h : ∀ C : Ctx, C.n = 55 → IWP Try.prog C [] ir_comb_without (FinQ [.cell 4 true 2] r) (AS.start xs)) : ACalls Try.prog 18 xs r :=
  acalls_of Try.func18 rfl tr_comb_without rfl hn h
theorem acS_comb_without {xs : List AV} {S S' : AStore} {r : AV} (hn : xs.length ≤ 55) (h : Clean S → ∀ C : Ctx, C.n = 55 → IWP Try.prog C [] ir_comb_without (FinS C [.cell 4 true 2] r S') (AS.startS xs S)) : ACallsS Try.prog 18 xs S r S' :=
  acallsS_of Try.func18 rfl tr_comb_without rfl hn h

def ir_comb_fit : IR :=
  (.seq
  (.ops
  [.mk (some 1) none (.box 25 (.t 0)) .no, .mk (some 2) none
  (.alloc 25 [.st (.str (ByteArray.mk (#[]))), .full []]) .no, .mk (some 3) none (.mov (.c (.one (.st (.int .i64 0)))))
  .no])
  (.seq
  (.seq
  (.ops
  [.mk (some 4) none (.load true 2 (.t 1)) .no, .mk (some 5) none (.call 24 [.t 4]) .no, .mk (some 6) none (.bin .gtr (.t 5) (.c (.one (.st (.int .i64 2000)))))
  .no])
  (.cond (.t 6)
  (.seq
  (.ops
  [.mk (some 7) none
  (.build [.st (.str (ByteArray.mk (#[]))), .full []] [])
  .no, .mk none none (.store 2 (.t 2) (.t 7)) .no, .mk (some 3) none (.mov (.c (.one (.st (.int .i64 8)))))
  .no])
  .ret)
  .skip))
  (.seq
  (.ops
  [.mk (some 8) none (.load true 2 (.t 1)) .no, .mk (some 9) none (.call 23 [.t 8]) .no, .mk none none (.store 2 (.t 2) (.t 9)) .no, .mk (some 3) none (.mov (.c (.one (.st (.int .i64 0)))))
  .no])
  .ret)))
theorem tr_comb_fit : trCode Try.prog 10 [] (Try.f17.body.getD .skip) = some ir_comb_fit := by kernel_rfl
theorem ac_comb_fit {xs : List AV} {r : AV} (hn : xs.length ≤ 10) (h : ∀ C : Ctx, C.n = 10 → IWP Try.prog C [] ir_comb_fit (FinQ [.cell 2 true 2, .t 3] r) (AS.start xs)) : ACalls Try.prog 17 xs r :=
  acalls_of Try.func17 rfl tr_comb_fit rfl hn h
theorem acS_comb_fit {xs : List AV} {S S' : AStore} {r : AV} (hn : xs.length ≤ 10) (h : Clean S → ∀ C : Ctx, C.n = 10 → IWP Try.prog C [] ir_comb_fit (FinS C [.cell 2 true 2, .t 3] r S') (AS.startS xs S)) : ACallsS Try.prog 17 xs S r S' :=
  acallsS_of Try.func17 rfl tr_comb_fit rfl hn h

def ir_R_Often : IR :=
  (.seq
  (.ops
  [.mk (some 2) none (.box 25 (.t 0)) .no, .mk (some 4) none (.mov (.c (.one (.st (.int .i64 0)))))
  .no])
  (.seq
  (.ops
  [.mk (some 8) none (.load true 2 (.t 2)) .no, .mk (some 9) none (.call 19 [.t 8]) .no, .mk (some 5) none (.mov (.t 9)) .no])
  (.seq
  (.ops
  [.mk (some 6) none (.mov (.c (.one (.st (.int .i64 0)))))
  .no])
  (.seq
  (.seq
  (.ops
  [.mk (some 7) none (.mov (.c (.one (.st (.int .i64 0)))))
  .no])
  (.block 0
  (.loop
  (.seq
  (.seq
  (.ops
  [.mk (some 10) none (.mov (.t 7)) .no, .mk (some 11) none (.mov (.t 5)) .no, .mk (some 12) none (.len false (.t 11)) .no, .mk (some 13) none (.bin .lss (.t 10) (.t 12))
  .no])
  (.cond (.t 13) .skip (.exit 0)))
  (.seq
  (.block 1
  (.seq
  (.ops
  [.mk (some 16) none (.mov (.t 5)) .no, .mk (some 17) none (.mov (.t 7)) .no, .mk (some 18) none (.indexAddr 2 (.t 16) (.t 17))
  .no, .mk (some 19) none (.fieldAddr 0 (.t 18)) .no, .mk (some 20) none (.load false 1 (.t 19)) .no, .mk (some 21) none (.mov (.t 1)) .no, .mk (some 22) none (.bin .eql (.t 20) (.t 21))
  .no])
  (.cond (.t 22)
  (.ops
  [.mk (some 23) none (.mov (.t 6)) .no, .mk (some 24) none (.bin .add (.t 23) (.c (.one (.st (.int .i64 1)))))
  .no, .mk (some 6) none (.mov (.t 24)) .no])
  .skip)))
  (.ops
  [.mk (some 14) none (.mov (.t 7)) .no, .mk (some 15) none (.bin .add (.t 14) (.c (.one (.st (.int .i64 1)))))
  .no, .mk (some 7) none (.mov (.t 15)) .no]))))))
  (.seq
  (.ops
  [.mk (some 25) none (.mov (.t 6)) .no, .mk (some 4) none (.mov (.t 25)) .no])
  .ret)))))
theorem tr_R_Often : trCode Try.prog 26 [] (Try.f7.body.getD .skip) = some ir_R_Often := by kernel_rfl
theorem ac_R_Often {xs : List AV} {r : AV} (hn : xs.length ≤ 26) (h : ∀ C : Ctx, C.n = 26 → IWP Try.prog C [] ir_R_Often (FinQ [.t 4] r) (AS.start xs)) : ACalls Try.prog 7 xs r :=
  acalls_of Try.func7 rfl tr_R_Often rfl hn h
theorem acS_R_Often {xs : List AV} {S S' : AStore} {r : AV} (hn : xs.length ≤ 26) (h : Clean S → ∀ C : Ctx, C.n = 26 → IWP Try.prog C [] ir_R_Often (FinS C [.t 4] r S') (AS.startS xs S)) : ACallsS Try.prog 7 xs S r S' :=
  acallsS_of Try.func7 rfl tr_R_Often rfl hn h

end Go.Proofs.Ytelmgldeghmkbaa
