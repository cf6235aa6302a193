/-
  The program's functions in abstract operations: written by a program of mine out of the translation; each is shown to be the translation's.
  Conditions: none.
-/
import Derived.Test.YtkjocebkajckpaaBSort
namespace Go.Proofs.Ytkjocebkajckpaa
open Go Go.RowKit
set_option maxRecDepth 100000

def ir_slices_IndexFunc_metaprune_api_Bind_metaprune_api_Bind : IR :=
  (.seq
  (.ops
  [.mk (some 4) none (.mov (.c (.one (.st (.int .i64 0)))))
  .no])
  (.seq
  (.seq
  (.ops
  [.mk (some 6) none (.mov (.t 0)) .no, .mk (some 7) none (.len false (.t 6)) .no, .mk (some 8) none (.mov (.c (.one (.st (.int .i64 0)))))
  .no])
  (.block 0
  (.loop
  (.seq
  (.ops
  [.mk (some 9) none (.bin .lss (.t 8) (.t 7))
  .no])
  (.seq (.cond (.t 9) .skip (.exit 0))
  (.seq
  (.block 1
  (.seq
  (.ops
  [.mk (some 10) none (.mov (.t 8)) .no, .mk (some 5) none (.mov (.t 10)) .no])
  (.seq
  (.ops
  [.mk (some 11) none (.mov (.t 1)) .no, .mk (some 12) none (.mov (.t 0)) .no, .mk (some 13) none (.mov (.t 5)) .no, .mk (some 14) none (.indexAddr 3 (.t 12) (.t 13))
  .no, .mk (some 15) none (.load true 3 (.t 14)) .no, .mk (some 16) none (.callV (.t 11) [.t 15])
  .no])
  (.cond (.t 16)
  (.seq
  (.ops
  [.mk (some 17) none (.mov (.t 5)) .no, .mk (some 4) none (.mov (.t 17)) .no])
  .ret)
  .skip))))
  (.ops
  [.mk (some 18) none (.bin .add (.t 8) (.c (.one (.st (.int .i64 1)))))
  .no, .mk (some 8) none (.mov (.t 18)) .no])))))))
  (.seq
  (.ops
  [.mk (some 4) none (.mov (.c (.one (.st (.int .i64 (-1))))))
  .no])
  .ret)))
theorem tr_slices_IndexFunc_metaprune_api_Bind_metaprune_api_Bind : trCode Try.prog 19 [] (Try.f30.body.getD .skip) = some ir_slices_IndexFunc_metaprune_api_Bind_metaprune_api_Bind := by kernel_rfl
theorem ac_slices_IndexFunc_metaprune_api_Bind_metaprune_api_Bind {xs : List AV} {r : AV} (hn : xs.length ≤ 19) (h : ∀ C : Ctx, C.n = 19 → IWP Try.prog C [] ir_slices_IndexFunc_metaprune_api_Bind_metaprune_api_Bind (FinQ [.t 4] r) (AS.start xs)) : ACalls Try.prog 30 xs r :=
  acalls_of Try.func30 rfl tr_slices_IndexFunc_metaprune_api_Bind_metaprune_api_Bind rfl hn h
theorem acS_slices_IndexFunc_metaprune_api_Bind_metaprune_api_Bind {xs : List AV} {S S' : AStore} {r : AV} (hn : xs.length ≤ 19) (h : Clean S → ∀ C : Ctx, C.n = 19 → IWP Try.prog C [] ir_slices_IndexFunc_metaprune_api_Bind_metaprune_api_Bind (FinS C [.t 4] r S') (AS.startS xs S)) : ACallsS Try.prog 30 xs S r S' :=
  acallsS_of Try.func30 rfl tr_slices_IndexFunc_metaprune_api_Bind_metaprune_api_Bind rfl hn h

def ir_slices_DeleteFunc_metaprune_api_Bind_metaprune_api_Bind : IR :=
  (.seq
  (.ops
  [.mk (some 4) none (.mov (.c (.one (.full []))))
  .no])
  (.seq
  (.ops
  [.mk (some 8) none (.mov (.t 0)) .no, .mk (some 9) none (.mov (.t 1)) .no, .mk (some 10) none (.callR 30 [.t 8, .t 9]) .no, .mk (some 5) none (.mov (.t 10)) .no])
  (.seq
  (.seq
  (.ops
  [.mk (some 11) none (.mov (.t 5)) .no, .mk (some 12) none (.bin .eql (.t 11) (.c (.one (.st (.int .i64 (-1))))))
  .no])
  (.cond (.t 12)
  (.seq
  (.ops
  [.mk (some 13) none (.mov (.t 0)) .no, .mk (some 4) none (.mov (.t 13)) .no])
  .ret)
  .skip))
  (.seq
  (.seq
  (.ops
  [.mk (some 14) none (.mov (.t 5)) .no, .mk (some 15) none (.bin .add (.t 14) (.c (.one (.st (.int .i64 1)))))
  .no, .mk (some 6) none (.mov (.t 15)) .no])
  (.block 0
  (.loop
  (.seq
  (.seq
  (.ops
  [.mk (some 16) none (.mov (.t 6)) .no, .mk (some 17) none (.mov (.t 0)) .no, .mk (some 18) none (.len false (.t 17)) .no, .mk (some 19) none (.bin .lss (.t 16) (.t 18))
  .no])
  (.cond (.t 19) .skip (.exit 0)))
  (.seq
  (.block 1
  (.seq
  (.ops
  [.mk (some 22) none (.mov (.t 0)) .no, .mk (some 23) none (.mov (.t 6)) .no, .mk (some 24) none (.indexAddr 3 (.t 22) (.t 23))
  .no, .mk (some 25) none (.load true 3 (.t 24)) .no, .mk (some 7) none
  (.alloc 43
  [.st (.str (ByteArray.mk (#[]))), .st (.str (ByteArray.mk (#[]))),
  .full []])
  .no, .mk none none (.store 3 (.t 7) (.t 25))
  .no])
  (.seq
  (.ops
  [.mk (some 26) none (.mov (.t 1)) .no, .mk (some 27) none (.load true 3 (.t 7)) .no, .mk (some 28) none (.callV (.t 26) [.t 27])
  .no, .mk (some 29) none (.un .not (.t 28)) .no])
  (.cond (.t 29)
  (.seq
  (.ops
  [.mk (some 30) none (.mov (.t 0)) .no, .mk (some 31) none (.mov (.t 5)) .no, .mk (some 32) none (.load true 3 (.t 7)) .no, .mk (some 33) none (.indexAddr 3 (.t 30) (.t 31))
  .no, .mk none none (.store 3 (.t 33) (.t 32))
  .no])
  (.ops
  [.mk (some 34) none (.mov (.t 5)) .no, .mk (some 35) none (.bin .add (.t 34) (.c (.one (.st (.int .i64 1)))))
  .no, .mk (some 5) none (.mov (.t 35)) .no]))
  .skip))))
  (.ops
  [.mk (some 20) none (.mov (.t 6)) .no, .mk (some 21) none (.bin .add (.t 20) (.c (.one (.st (.int .i64 1)))))
  .no, .mk (some 6) none (.mov (.t 21)) .no]))))))
  (.seq
  (.ops
  [.mk (some 36) none (.mov (.t 0)) .no, .mk (some 37) none (.mov (.t 5)) .no, .mk (some 38) none (.restP 3 (.t 36) (.t 37)) .no, .mk none none
  (.clearP 43 3 [.str (ByteArray.mk (#[])), .str (ByteArray.mk (#[])), .list []] (.t 38))
  .no])
  (.seq
  (.ops
  [.mk (some 39) none (.mov (.t 0)) .no, .mk (some 40) none (.mov (.t 5)) .no, .mk (some 41) none (.cutP 3 (.t 39) (.t 40)) .no, .mk (some 4) none (.mov (.t 41)) .no])
  .ret))))))
theorem tr_slices_DeleteFunc_metaprune_api_Bind_metaprune_api_Bind : trCode Try.prog 42 [40000010, 30000038, 30000041] (Try.f19.body.getD .skip) = some ir_slices_DeleteFunc_metaprune_api_Bind_metaprune_api_Bind := by kernel_rfl
theorem ac_slices_DeleteFunc_metaprune_api_Bind_metaprune_api_Bind {xs : List AV} {r : AV} (hn : xs.length ≤ 42) (h : ∀ C : Ctx, C.n = 42 → IWP Try.prog C [40000010, 30000038, 30000041] ir_slices_DeleteFunc_metaprune_api_Bind_metaprune_api_Bind (FinQ [.t 4] r) (AS.start xs)) : ACalls Try.prog 19 xs r :=
  acalls_of Try.func19 rfl tr_slices_DeleteFunc_metaprune_api_Bind_metaprune_api_Bind rfl hn h
theorem acS_slices_DeleteFunc_metaprune_api_Bind_metaprune_api_Bind {xs : List AV} {S S' : AStore} {r : AV} (hn : xs.length ≤ 42) (h : Clean S → ∀ C : Ctx, C.n = 42 → IWP Try.prog C [40000010, 30000038, 30000041] ir_slices_DeleteFunc_metaprune_api_Bind_metaprune_api_Bind (FinS C [.t 4] r S') (AS.startS xs S)) : ACallsS Try.prog 19 xs S r S' :=
  acallsS_of Try.func19 rfl tr_slices_DeleteFunc_metaprune_api_Bind_metaprune_api_Bind rfl hn h

def ir_subst_Then_1 : IR :=
  (.seq
  (.ops
  [.mk (some 1) none (.box 43 (.t 0)) .no, .mk (some 2) none (.mov (.c (.one (.st (.bool false)))))
  .no])
  (.seq
  (.ops
  [.mk (some 3) none (.fieldAddr 1 (.t 1)) .no, .mk (some 4) none (.fieldAddr 0 (.t 3)) .no, .mk (some 5) none (.load false 1 (.t 4)) .no, .mk (some 6) none (.fieldAddr 0 (.t 1)) .no, .mk (some 7) none (.load false 1 (.t 6)) .no, .mk (some 8) none (.bin .eql (.t 5) (.t 7)) .no, .mk (some 2) none (.mov (.t 8)) .no])
  .ret))
theorem tr_subst_Then_1 : trCode Try.prog 9 [] (Try.f20.body.getD .skip) = some ir_subst_Then_1 := by kernel_rfl
theorem ac_subst_Then_1 {xs : List AV} {r : AV} (hn : xs.length ≤ 9) (h : ∀ C : Ctx, C.n = 9 → IWP Try.prog C [] ir_subst_Then_1 (FinQ [.t 2] r) (AS.start xs)) : ACalls Try.prog 20 xs r :=
  acalls_of Try.func20 rfl tr_subst_Then_1 rfl hn h
theorem acS_subst_Then_1 {xs : List AV} {S S' : AStore} {r : AV} (hn : xs.length ≤ 9) (h : Clean S → ∀ C : Ctx, C.n = 9 → IWP Try.prog C [] ir_subst_Then_1 (FinS C [.t 2] r S') (AS.startS xs S)) : ACallsS Try.prog 20 xs S r S' :=
  acallsS_of Try.func20 rfl tr_subst_Then_1 rfl hn h

def ir_subst_Then : IR :=
  (.seq
  (.ops
  [.mk (some 4) none (.mov (.c (.one (.full []))))
  .no, .mk (some 5) none (.mov (.c (.one (.st (.int .i64 0)))))
  .no])
  (.seq
  (.ops
  [.mk (some 16) none (.mov (.t 0)) .no, .mk (some 17) none (.call 15 [.t 16]) .no, .mk (some 6) none (.mov (.t 17)) .no])
  (.seq
  (.seq
  (.ops
  [.mk (some 18) none (.mov (.t 6)) .no, .mk (some 19) none (.bin .eql (.t 18) (.c (.one (.st (.int .i64 0)))))
  .no])
  (.cond (.t 19)
  (.ops
  [.mk (some 20) none (.mov (.t 1)) .no, .mk (some 21) none (.call 15 [.t 20]) .no, .mk (some 6) none (.mov (.t 21)) .no])
  .skip))
  (.seq
  (.seq
  (.ops
  [.mk (some 22) none (.mov (.t 6)) .no, .mk (some 23) none (.bin .neq (.t 22) (.c (.one (.st (.int .i64 0)))))
  .no])
  (.cond (.t 23)
  (.seq
  (.ops
  [.mk (some 24) none (.mov (.t 6)) .no, .mk (some 4) none (.mov (.c (.one (.full []))))
  .no, .mk (some 5) none (.mov (.t 24)) .no])
  .ret)
  .skip))
  (.seq
  (.ops
  [.mk (some 7) none (.mov (.c (.one (.full []))))
  .no])
  (.seq
  (.seq
  (.ops
  [.mk (some 25) none (.mov (.t 0)) .no, .mk (some 26) none (.len false (.t 25)) .no, .mk (some 27) none (.mov (.c (.one (.st (.int .i64 0)))))
  .no])
  (.block 0
  (.loop
  (.seq
  (.ops
  [.mk (some 28) none (.bin .lss (.t 27) (.t 26))
  .no])
  (.seq (.cond (.t 28) .skip (.exit 0))
  (.seq
  (.block 1
  (.seq
  (.ops
  [.mk (some 29) none (.indexAddr 3 (.t 25) (.t 27))
  .no, .mk (some 30) none (.load true 3 (.t 29)) .no, .mk (some 9) none
  (.alloc 43
  [.st (.str (ByteArray.mk (#[]))), .st (.str (ByteArray.mk (#[]))), .full []])
  .no, .mk none none (.store 3 (.t 9) (.t 30))
  .no])
  (.seq
  (.ops
  [.mk (some 32) none (.mov (.t 1)) .no, .mk (some 33) none (.fieldAddr 1 (.t 9)) .no, .mk (some 34) none (.load true 2 (.t 33)) .no, .mk (some 35) none (.call 16 [.t 32, .t 34])
  .no, .mk (some 31) none (.mov (.t 35)) .no, .mk (some 36) none (.extract 0 (.t 31)) .no, .mk (some 37) none (.extract 1 (.t 31)) .no, .mk (some 10) none
  (.alloc 28 [.st (.str (ByteArray.mk (#[]))), .full []])
  .no, .mk none none (.store 2 (.t 10) (.t 36))
  .no, .mk (some 11) none (.mov (.t 37)) .no])
  (.seq
  (.seq
  (.ops
  [.mk (some 38) none (.mov (.t 11)) .no, .mk (some 39) none (.un .not (.t 38)) .no])
  (.cond (.t 39)
  (.seq
  (.ops
  [.mk (some 4) none (.mov (.c (.one (.full [])))) .no, .mk (some 5) none (.mov (.c (.one (.st (.int .i64 8)))))
  .no])
  .ret)
  .skip))
  (.ops
  [.mk (some 40) none (.mov (.t 7)) .no, .mk (some 41) none (.fieldAddr 0 (.t 9)) .no, .mk (some 42) none (.load false 1 (.t 41)) .no, .mk (some 43) none (.load true 2 (.t 10)) .no, .mk (some 44) none
  (.build
  [.st (.str (ByteArray.mk (#[]))), .st (.str (ByteArray.mk (#[]))), .full []]
  [(0, 1, .t 42), (1, 2, .t 43)])
  .no, .mk (some 45) none (.buildSlice false 43 3 [.t 44])
  .no, .mk (some 46) none
  (.append false 43 3 56 (.t 40) (.t 45)) .no, .mk (some 7) none (.mov (.t 46)) .no])))))
  (.ops
  [.mk (some 47) none (.bin .add (.t 27) (.c (.one (.st (.int .i64 1)))))
  .no, .mk (some 27) none (.mov (.t 47)) .no])))))))
  (.seq
  (.seq
  (.ops
  [.mk (some 48) none (.mov (.t 1)) .no, .mk (some 49) none (.len false (.t 48)) .no, .mk (some 50) none (.mov (.c (.one (.st (.int .i64 0)))))
  .no])
  (.block 2
  (.loop
  (.seq
  (.ops
  [.mk (some 51) none (.bin .lss (.t 50) (.t 49))
  .no])
  (.seq (.cond (.t 51) .skip (.exit 2))
  (.seq
  (.block 3
  (.seq
  (.ops
  [.mk (some 52) none (.indexAddr 3 (.t 48) (.t 50))
  .no, .mk (some 53) none (.load true 3 (.t 52)) .no, .mk (some 13) none
  (.alloc 43
  [.st (.str (ByteArray.mk (#[]))), .st (.str (ByteArray.mk (#[]))), .full []])
  .no, .mk none none (.store 3 (.t 13) (.t 53))
  .no])
  (.seq
  (.ops
  [.mk (some 55) none (.mov (.t 0)) .no, .mk (some 56) none (.fieldAddr 0 (.t 13)) .no, .mk (some 57) none (.load false 1 (.t 56)) .no, .mk (some 58) none (.call 17 [.t 55, .t 57])
  .no, .mk (some 54) none (.mov (.t 58)) .no, .mk (some 59) none (.extract 0 (.t 54)) .no, .mk (some 60) none (.extract 1 (.t 54)) .no, .mk (some 14) none
  (.alloc 28 [.st (.str (ByteArray.mk (#[]))), .full []])
  .no, .mk none none (.store 2 (.t 14) (.t 59))
  .no, .mk (some 15) none (.mov (.t 60)) .no])
  (.seq
  (.ops
  [.mk (some 61) none (.mov (.t 15)) .no, .mk (some 62) none (.un .not (.t 61)) .no])
  (.cond (.t 62)
  (.ops
  [.mk (some 63) none (.mov (.t 7)) .no, .mk (some 64) none (.fieldAddr 0 (.t 13)) .no, .mk (some 65) none (.load false 1 (.t 64)) .no, .mk (some 66) none (.fieldAddr 1 (.t 13)) .no, .mk (some 67) none (.load true 2 (.t 66)) .no, .mk (some 68) none (.call 18 [.t 67]) .no, .mk (some 69) none
  (.build
  [.st (.str (ByteArray.mk (#[]))), .st (.str (ByteArray.mk (#[]))), .full []]
  [(0, 1, .t 65), (1, 2, .t 68)])
  .no, .mk (some 70) none (.buildSlice false 43 3 [.t 69])
  .no, .mk (some 71) none
  (.append false 43 3 56 (.t 63) (.t 70)) .no, .mk (some 7) none (.mov (.t 71)) .no])
  .skip)))))
  (.ops
  [.mk (some 72) none (.bin .add (.t 50) (.c (.one (.st (.int .i64 1)))))
  .no, .mk (some 50) none (.mov (.t 72)) .no])))))))
  (.seq
  (.ops
  [.mk (some 73) none (.mov (.t 7)) .no, .mk (some 74) none
  (.callS 19 [.t 73, .c (.one (.fn 20 []))])
  .no, .mk (some 7) none (.mov (.t 74)) .no])
  (.seq
  (.ops
  [.mk (some 75) none (.mov (.t 7)) .no, .mk (some 76) none (.callS 21 [.t 75]) .no, .mk (some 4) none (.mov (.t 76)) .no, .mk (some 5) none (.mov (.c (.one (.st (.int .i64 0)))))
  .no])
  .ret)))))))))
theorem tr_subst_Then : trCode Try.prog 77 [74, 76] (Try.f7.body.getD .skip) = some ir_subst_Then := by kernel_rfl
theorem ac_subst_Then {xs : List AV} {r : AV} (hn : xs.length ≤ 77) (h : ∀ C : Ctx, C.n = 77 → IWP Try.prog C [74, 76] ir_subst_Then (FinQ [.t 4, .t 5] r) (AS.start xs)) : ACalls Try.prog 7 xs r :=
  acalls_of Try.func7 rfl tr_subst_Then rfl hn h
theorem acS_subst_Then {xs : List AV} {S S' : AStore} {r : AV} (hn : xs.length ≤ 77) (h : Clean S → ∀ C : Ctx, C.n = 77 → IWP Try.prog C [74, 76] ir_subst_Then (FinS C [.t 4, .t 5] r S') (AS.startS xs S)) : ACallsS Try.prog 7 xs S r S' :=
  acallsS_of Try.func7 rfl tr_subst_Then rfl hn h

end Go.Proofs.Ytkjocebkajckpaa
