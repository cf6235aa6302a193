/-
  The program's functions in abstract operations: written by a program of mine out of the translation; each is shown to be the translation's.
  Conditions: none.
-/
import Derived.Test.YtpajlfdhmjgpnaaBMaker
namespace Go.Proofs.Ytpajlfdhmjgpnaa
open Go Go.RowKit
set_option maxRecDepth 100000

def ir_slices_BinarySearchFunc_metaprune_api_Bind_metaprune_api_Bind_stringM : IR :=
  (.seq
  (.ops
  [.mk (some 6) none (.mov (.c (.one (.st (.int .i64 0)))))
  .no, .mk (some 7) none (.mov (.c (.one (.st (.bool false)))))
  .no])
  (.seq
  (.ops
  [.mk (some 12) none (.mov (.t 0)) .no, .mk (some 13) none (.len false (.t 12)) .no, .mk (some 8) none (.mov (.t 13)) .no])
  (.seq
  (.ops
  [.mk (some 14) none (.mov (.t 8)) .no, .mk (some 9) none (.mov (.c (.one (.st (.int .i64 0)))))
  .no, .mk (some 10) none (.mov (.t 14)) .no])
  (.seq
  (.block 0
  (.loop
  (.seq
  (.seq
  (.ops
  [.mk (some 15) none (.mov (.t 9)) .no, .mk (some 16) none (.mov (.t 10)) .no, .mk (some 17) none (.bin .lss (.t 15) (.t 16))
  .no])
  (.cond (.t 17) .skip (.exit 0)))
  (.block 1
  (.seq
  (.ops
  [.mk (some 18) none (.mov (.t 9)) .no, .mk (some 19) none (.mov (.t 10)) .no, .mk (some 20) none (.bin .add (.t 18) (.t 19))
  .no, .mk (some 21) none (.conv .u64 (.t 20)) .no, .mk (some 22) none (.bin .shr (.t 21) (.c (.one (.st (.int .u64 1)))))
  .no, .mk (some 23) none (.conv .i64 (.t 22)) .no, .mk (some 11) none (.mov (.t 23)) .no])
  (.seq
  (.ops
  [.mk (some 24) none (.mov (.t 2)) .no, .mk (some 25) none (.mov (.t 0)) .no, .mk (some 26) none (.mov (.t 11)) .no, .mk (some 27) none (.indexAddr 3 (.t 25) (.t 26))
  .no, .mk (some 28) none (.load true 3 (.t 27)) .no, .mk (some 29) none (.mov (.t 1)) .no, .mk (some 30) none
  (.callV (.t 24) [.t 28, .t 29]) .no, .mk (some 31) none (.bin .lss (.t 30) (.c (.one (.st (.int .i64 0)))))
  .no])
  (.cond (.t 31)
  (.ops
  [.mk (some 32) none (.mov (.t 11)) .no, .mk (some 33) none (.bin .add (.t 32) (.c (.one (.st (.int .i64 1)))))
  .no, .mk (some 9) none (.mov (.t 33)) .no])
  (.ops
  [.mk (some 34) none (.mov (.t 11)) .no, .mk (some 10) none (.mov (.t 34)) .no]))))))))
  (.seq
  (.ops
  [.mk (some 35) none (.mov (.t 9)) .no, .mk (some 36) none (.mov (.t 9)) .no, .mk (some 37) none (.mov (.t 8)) .no, .mk (some 38) none (.bin .lss (.t 36) (.t 37))
  .no, .mk (some 39) none (.mov (.t 38)) .no, .mk (some 40) (some (39, true)) (.mov (.t 2)) .no, .mk (some 41) (some (39, true)) (.mov (.t 0)) .no, .mk (some 42) (some (39, true)) (.mov (.t 9)) .no, .mk (some 43) (some (39, true)) (.indexAddr 3 (.t 41) (.t 42))
  .no, .mk (some 44) (some (39, true)) (.load true 3 (.t 43)) .no, .mk (some 45) (some (39, true)) (.mov (.t 1)) .no, .mk (some 46) (some (39, true))
  (.callV (.t 40) [.t 44, .t 45]) .no, .mk (some 47) (some (39, true)) (.bin .eql (.t 46) (.c (.one (.st (.int .i64 0)))))
  .no, .mk (some 48) none
  (.pick (.t 39) (.t 47) (.c (.one (.st (.bool false)))))
  .no, .mk (some 6) none (.mov (.t 35)) .no, .mk (some 7) none (.mov (.t 48)) .no])
  .ret)))))
theorem tr_slices_BinarySearchFunc_metaprune_api_Bind_metaprune_api_Bind_stringM : trCode Try.prog 49 [] (Try.f90.body.getD .skip) = some ir_slices_BinarySearchFunc_metaprune_api_Bind_metaprune_api_Bind_stringM := by kernel_rfl
theorem ac_slices_BinarySearchFunc_metaprune_api_Bind_metaprune_api_Bind_stringM {xs : List AV} {r : AV} (hn : xs.length ≤ 49) (h : ∀ C : Ctx, C.n = 49 → IWP Try.prog C [] ir_slices_BinarySearchFunc_metaprune_api_Bind_metaprune_api_Bind_stringM (FinQ [.t 6, .t 7] r) (AS.start xs)) : ACalls Try.prog 90 xs r :=
  acalls_of Try.func90 rfl tr_slices_BinarySearchFunc_metaprune_api_Bind_metaprune_api_Bind_stringM rfl hn h
theorem acS_slices_BinarySearchFunc_metaprune_api_Bind_metaprune_api_Bind_stringM {xs : List AV} {S S' : AStore} {r : AV} (hn : xs.length ≤ 49) (h : Clean S → ∀ C : Ctx, C.n = 49 → IWP Try.prog C [] ir_slices_BinarySearchFunc_metaprune_api_Bind_metaprune_api_Bind_stringM (FinS C [.t 6, .t 7] r S') (AS.startS xs S)) : ACallsS Try.prog 90 xs S r S' :=
  acallsS_of Try.func90 rfl tr_slices_BinarySearchFunc_metaprune_api_Bind_metaprune_api_Bind_stringM rfl hn h

def ir_subst_FindM : IR :=
  (.seq
  (.ops
  [.mk (some 4) none
  (.alloc 24 [.st (.str (ByteArray.mk (#[]))), .full []]) .no, .mk (some 5) none (.mov (.c (.one (.st (.bool false)))))
  .no])
  (.seq
  (.ops
  [.mk (some 9) none (.mov (.t 0)) .no, .mk (some 10) none (.mov (.t 1)) .no, .mk (some 11) none
  (.callR 90
  [.t 9, .t 10, .c (.one (.fn 91 []))])
  .no, .mk (some 8) none (.mov (.t 11)) .no, .mk (some 12) none (.extract 0 (.t 8)) .no, .mk (some 13) none (.extract 1 (.t 8)) .no, .mk (some 6) none (.mov (.t 12)) .no, .mk (some 7) none (.mov (.t 13)) .no])
  (.seq
  (.seq
  (.ops
  [.mk (some 14) none (.mov (.t 7)) .no, .mk (some 15) none (.un .not (.t 14)) .no])
  (.cond (.t 15)
  (.seq
  (.ops
  [.mk (some 16) none
  (.build [.st (.str (ByteArray.mk (#[]))), .full []] [])
  .no, .mk none none (.store 2 (.t 4) (.t 16)) .no, .mk (some 5) none (.mov (.c (.one (.st (.bool false)))))
  .no])
  .ret)
  .skip))
  (.seq
  (.ops
  [.mk (some 17) none (.mov (.t 0)) .no, .mk (some 18) none (.mov (.t 6)) .no, .mk (some 19) none (.indexAddr 3 (.t 17) (.t 18))
  .no, .mk (some 20) none (.fieldAddr 1 (.t 19)) .no, .mk (some 21) none (.load true 2 (.t 20)) .no, .mk none none (.store 2 (.t 4) (.t 21)) .no, .mk (some 5) none (.mov (.c (.one (.st (.bool true)))))
  .no])
  .ret))))
theorem tr_subst_FindM : trCode Try.prog 22 [40000011] (Try.f82.body.getD .skip) = some ir_subst_FindM := by kernel_rfl
theorem ac_subst_FindM {xs : List AV} {r : AV} (hn : xs.length ≤ 22) (h : ∀ C : Ctx, C.n = 22 → IWP Try.prog C [40000011] ir_subst_FindM (FinQ [.cell 4 true 2, .t 5] r) (AS.start xs)) : ACalls Try.prog 82 xs r :=
  acalls_of Try.func82 rfl tr_subst_FindM rfl hn h
theorem acS_subst_FindM {xs : List AV} {S S' : AStore} {r : AV} (hn : xs.length ≤ 22) (h : Clean S → ∀ C : Ctx, C.n = 22 → IWP Try.prog C [40000011] ir_subst_FindM (FinS C [.cell 4 true 2, .t 5] r S') (AS.startS xs S)) : ACallsS Try.prog 82 xs S r S' :=
  acallsS_of Try.func82 rfl tr_subst_FindM rfl hn h

def ir_metaprune_subst_maker_copyM : IR :=
  (.seq
  (.ops
  [.mk (some 4) none (.box 24 (.t 1)) .no, .mk (some 6) none
  (.alloc 24 [.st (.str (ByteArray.mk (#[]))), .full []]) .no])
  (.seq
  (.seq
  (.ops [.mk (some 12) none (.mov (.t 2)) .no])
  (.cond (.t 12)
  (.seq
  (.ops
  [.mk (some 14) none (.mov (.t 0)) .no, .mk (some 15) none (.nilCheck (.t 14)) .no, .mk (some 16) none (.fieldAddr 0 (.t 15)) .no, .mk (some 17) none (.load false 1 (.t 16)) .no, .mk (some 18) none (.fieldAddr 0 (.t 4)) .no, .mk (some 19) none (.load false 1 (.t 18)) .no, .mk (some 20) none (.callR 82 [.t 17, .t 19]) .no, .mk (some 13) none (.mov (.t 20)) .no, .mk (some 21) none (.extract 0 (.t 13)) .no, .mk (some 22) none (.extract 1 (.t 13)) .no, .mk (some 7) none
  (.alloc 24 [.st (.str (ByteArray.mk (#[]))), .full []])
  .no, .mk none none (.store 2 (.t 7) (.t 21)) .no, .mk (some 8) none (.mov (.t 22)) .no])
  (.seq
  (.ops [.mk (some 23) none (.mov (.t 8)) .no])
  (.cond (.t 23)
  (.seq
  (.ops
  [.mk (some 24) none (.mov (.t 0)) .no, .mk (some 25) none (.load true 2 (.t 7)) .no, .mk (some 26) none
  (.callS 69
  [.t 24, .t 25, .c (.one (.st (.bool false)))])
  .no, .mk none none (.store 2 (.t 6) (.t 26)) .no])
  .ret)
  .skip)))
  .skip))
  (.seq
  (.seq
  (.ops
  [.mk (some 27) none (.mov (.t 0)) .no, .mk (some 28) none (.nilCheck (.t 27)) .no, .mk (some 29) none (.fieldAddr 1 (.t 28)) .no, .mk (some 30) none (.load false 1 (.t 29)) .no, .mk (some 31) none (.bin .sub (.t 30) (.c (.one (.st (.int .i64 1)))))
  .no, .mk (some 32) none (.nilCheck (.t 27)) .no, .mk (some 33) none (.fieldAddr 1 (.t 32)) .no, .mk none none (.store 1 (.t 33) (.t 31)) .no])
  (.seq
  (.ops
  [.mk (some 34) none (.mov (.t 0)) .no, .mk (some 35) none (.nilCheck (.t 34)) .no, .mk (some 36) none (.fieldAddr 1 (.t 35)) .no, .mk (some 37) none (.load false 1 (.t 36)) .no, .mk (some 38) none (.bin .lss (.t 37) (.c (.one (.st (.int .i64 0)))))
  .no])
  (.cond (.t 38)
  (.seq
  (.ops
  [.mk (some 39) none
  (.build [.st (.str (ByteArray.mk (#[]))), .full []] [])
  .no, .mk none none (.store 2 (.t 6) (.t 39)) .no])
  .ret)
  .skip)))
  (.seq
  (.ops
  [.mk (some 40) none (.fieldAddr 0 (.t 4)) .no, .mk (some 41) none (.load false 1 (.t 40)) .no, .mk (some 42) none
  (.build [.st (.str (ByteArray.mk (#[]))), .full []]
  [(0, 1, .t 41)])
  .no, .mk (some 9) none
  (.alloc 24 [.st (.str (ByteArray.mk (#[]))), .full []]) .no, .mk none none (.store 2 (.t 9) (.t 42)) .no])
  (.seq
  (.seq
  (.ops
  [.mk (some 43) none (.fieldAddr 1 (.t 4)) .no, .mk (some 44) none (.load false 1 (.t 43)) .no, .mk (some 45) none (.len false (.t 44)) .no, .mk (some 46) none (.mov (.c (.one (.st (.int .i64 0)))))
  .no])
  (.block 0
  (.loop
  (.seq
  (.ops
  [.mk (some 47) none (.bin .lss (.t 46) (.t 45))
  .no])
  (.seq (.cond (.t 47) .skip (.exit 0))
  (.seq
  (.block 1
  (.seq
  (.ops
  [.mk (some 48) none (.indexAddr 2 (.t 44) (.t 46))
  .no, .mk (some 49) none (.load true 2 (.t 48)) .no, .mk (some 11) none
  (.alloc 24 [.st (.str (ByteArray.mk (#[]))), .full []])
  .no, .mk none none (.store 2 (.t 11) (.t 49))
  .no])
  (.seq
  (.ops
  [.mk (some 50) none (.fieldAddr 1 (.t 9)) (.onb 9), .mk (some 51) none (.load false 1 (.t 50)) (.onb 9), .mk (some 52) none (.mov (.t 0)) .no, .mk (some 53) none (.load true 2 (.t 11)) .no, .mk (some 54) none (.mov (.t 2)) .no, .mk (some 55) none
  (.callS 69 [.t 52, .t 53, .t 54])
  (.keeps [9, 9]), .mk (some 56) none (.buildSlice false 24 2 [.t 55]) .no, .mk (some 57) none (.append false 24 2 40 (.t 51) (.t 56))
  .no, .mk (some 58) none (.fieldAddr 1 (.t 9)) .no, .mk none none (.store 1 (.t 58) (.t 57))
  .no])
  (.seq
  (.ops
  [.mk (some 59) none (.mov (.t 0)) .no, .mk (some 60) none (.nilCheck (.t 59)) .no, .mk (some 61) none (.fieldAddr 1 (.t 60)) .no, .mk (some 62) none (.load false 1 (.t 61)) .no, .mk (some 63) none (.bin .lss (.t 62) (.c (.one (.st (.int .i64 0)))))
  .no])
  (.cond (.t 63)
  (.seq
  (.ops
  [.mk (some 64) none
  (.build [.st (.str (ByteArray.mk (#[]))), .full []] [])
  .no, .mk none none (.store 2 (.t 6) (.t 64))
  .no])
  .ret)
  .skip)))))
  (.ops
  [.mk (some 65) none (.bin .add (.t 46) (.c (.one (.st (.int .i64 1)))))
  .no, .mk (some 46) none (.mov (.t 65)) .no])))))))
  (.seq
  (.ops
  [.mk (some 66) none (.load true 2 (.t 9)) .no, .mk none none (.store 2 (.t 6) (.t 66)) .no])
  .ret))))))
theorem tr_metaprune_subst_maker_copyM : trCode Try.prog 67 [40000020, 26, 55] (Try.f69.body.getD .skip) = some ir_metaprune_subst_maker_copyM := by kernel_rfl
theorem ac_metaprune_subst_maker_copyM {xs : List AV} {r : AV} (hn : xs.length ≤ 67) (h : ∀ C : Ctx, C.n = 67 → IWP Try.prog C [40000020, 26, 55] ir_metaprune_subst_maker_copyM (FinQ [.cell 6 true 2] r) (AS.start xs)) : ACalls Try.prog 69 xs r :=
  acalls_of Try.func69 rfl tr_metaprune_subst_maker_copyM rfl hn h
theorem acS_metaprune_subst_maker_copyM {xs : List AV} {S S' : AStore} {r : AV} (hn : xs.length ≤ 67) (h : Clean S → ∀ C : Ctx, C.n = 67 → IWP Try.prog C [40000020, 26, 55] ir_metaprune_subst_maker_copyM (FinS C [.cell 6 true 2] r S') (AS.startS xs S)) : ACallsS Try.prog 69 xs S r S' :=
  acallsS_of Try.func69 rfl tr_metaprune_subst_maker_copyM rfl hn h

def ir_subst_OnM : IR :=
  (.seq
  (.ops
  [.mk (some 3) none (.box 24 (.t 1)) .no, .mk (some 4) none
  (.alloc 24 [.st (.str (ByteArray.mk (#[]))), .full []]) .no, .mk (some 5) none (.mov (.c (.one (.st (.bool false)))))
  .no])
  (.seq
  (.ops
  [.mk (some 8) none (.mov (.t 0)) .no, .mk (some 9) none
  (.build [.full [], .st (.int .i64 0)]
  [(0, 1, .t 8), (1, 1, .c (.one (.st (.int .i64 2000))))])
  .no, .mk (some 10) none (.box 85 (.t 9)) .no, .mk (some 6) none (.mov (.t 10)) .no])
  (.seq
  (.ops
  [.mk (some 11) none (.mov (.t 6)) .no, .mk (some 12) none (.load true 2 (.t 3)) .no, .mk (some 13) none
  (.callS 69
  [.t 11, .t 12, .c (.one (.st (.bool true)))])
  .no, .mk (some 7) none
  (.alloc 24 [.st (.str (ByteArray.mk (#[]))), .full []]) .no, .mk none none (.store 2 (.t 7) (.t 13)) .no])
  (.seq
  (.ops
  [.mk (some 14) none (.load true 2 (.t 7)) .no, .mk (some 15) none (.mov (.t 6)) .no, .mk (some 16) none (.nilCheck (.t 15)) (.onb 10), .mk (some 17) none (.fieldAddr 1 (.t 16)) (.onb 10), .mk (some 18) none (.load false 1 (.t 17)) (.onb 10), .mk (some 19) none (.bin .geq (.t 18) (.c (.one (.st (.int .i64 0)))))
  .no, .mk none none (.store 2 (.t 4) (.t 14)) (.onb 4), .mk (some 5) none (.mov (.t 19)) .no])
  .ret))))
theorem tr_subst_OnM : trCode Try.prog 20 [13, 10060010] (Try.f49.body.getD .skip) = some ir_subst_OnM := by kernel_rfl
theorem ac_subst_OnM {xs : List AV} {r : AV} (hn : xs.length ≤ 20) (h : ∀ C : Ctx, C.n = 20 → IWP Try.prog C [13, 10060010] ir_subst_OnM (FinQ [.cell 4 true 2, .t 5] r) (AS.start xs)) : ACalls Try.prog 49 xs r :=
  acalls_of Try.func49 rfl tr_subst_OnM rfl hn h
theorem acS_subst_OnM {xs : List AV} {S S' : AStore} {r : AV} (hn : xs.length ≤ 20) (h : Clean S → ∀ C : Ctx, C.n = 20 → IWP Try.prog C [13, 10060010] ir_subst_OnM (FinS C [.cell 4 true 2, .t 5] r S') (AS.startS xs S)) : ACallsS Try.prog 49 xs S r S' :=
  acallsS_of Try.func49 rfl tr_subst_OnM rfl hn h

def ir_subst_SortM : IR :=
  (.seq
  (.ops
  [.mk (some 2) none (.mov (.c (.one (.full []))))
  .no])
  (.seq
  (.ops
  [.mk (some 3) none (.mov (.t 0)) .no, .mk (some 4) none
  (.callS 79 [.t 3, .c (.one (.fn 80 []))])
  .no])
  (.seq
  (.ops
  [.mk (some 5) none (.mov (.t 0)) .no, .mk (some 2) none (.mov (.t 5)) .no])
  .ret)))
theorem tr_subst_SortM : trCode Try.prog 6 [4] (Try.f66.body.getD .skip) = some ir_subst_SortM := by kernel_rfl
theorem ac_subst_SortM {xs : List AV} {r : AV} (hn : xs.length ≤ 6) (h : ∀ C : Ctx, C.n = 6 → IWP Try.prog C [4] ir_subst_SortM (FinQ [.t 2] r) (AS.start xs)) : ACalls Try.prog 66 xs r :=
  acalls_of Try.func66 rfl tr_subst_SortM rfl hn h
theorem acS_subst_SortM {xs : List AV} {S S' : AStore} {r : AV} (hn : xs.length ≤ 6) (h : Clean S → ∀ C : Ctx, C.n = 6 → IWP Try.prog C [4] ir_subst_SortM (FinS C [.t 2] r S') (AS.startS xs S)) : ACallsS Try.prog 66 xs S r S' :=
  acallsS_of Try.func66 rfl tr_subst_SortM rfl hn h

end Go.Proofs.Ytpajlfdhmjgpnaa
