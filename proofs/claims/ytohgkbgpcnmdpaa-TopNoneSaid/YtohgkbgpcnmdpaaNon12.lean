/-
  Part 12 of the texts: IrSubst; BSubst. Conditions: none.
-/
import Derived.Test.YtohgkbgpcnmdpaaNon11
namespace Go.Proofs.Ytohgkbgpcnmdpaa
open Go Go.RowKit
set_option maxRecDepth 100000
def ir_R_For : IR :=
  (.seq
  (.ops
  [.mk (some 4) none
  (.alloc 24 [.st (.str (ByteArray.mk (#[]))), .full []]) .no, .mk (some 5) none (.mov (.c (.one (.st (.bool false)))))
  .no])
  (.seq
  (.seq
  (.ops
  [.mk (some 6) none (.mov (.c (.one (.st (.int .i64 0)))))
  .no])
  (.block 0
  (.loop
  (.seq
  (.seq
  (.ops
  [.mk (some 7) none (.mov (.t 6)) .no, .mk (some 8) none (.mov (.t 0)) .no, .mk (some 9) none (.len false (.t 8)) .no, .mk (some 10) none (.bin .lss (.t 7) (.t 9))
  .no])
  (.cond (.t 10) .skip (.exit 0)))
  (.seq
  (.block 1
  (.seq
  (.ops
  [.mk (some 13) none (.mov (.t 0)) .no, .mk (some 14) none (.mov (.t 6)) .no, .mk (some 15) none (.indexAddr 3 (.t 13) (.t 14))
  .no, .mk (some 16) none (.fieldAddr 0 (.t 15)) .no, .mk (some 17) none (.load false 1 (.t 16)) .no, .mk (some 18) none (.mov (.t 1)) .no, .mk (some 19) none (.bin .eql (.t 17) (.t 18))
  .no])
  (.cond (.t 19)
  (.seq
  (.ops
  [.mk (some 20) none (.mov (.t 0)) .no, .mk (some 21) none (.mov (.t 6)) .no, .mk (some 22) none (.indexAddr 3 (.t 20) (.t 21))
  .no, .mk (some 23) none (.fieldAddr 1 (.t 22)) .no, .mk (some 24) none (.load true 2 (.t 23)) .no, .mk none none (.store 2 (.t 4) (.t 24))
  .no, .mk (some 5) none (.mov (.c (.one (.st (.bool true)))))
  .no])
  .ret)
  .skip)))
  (.ops
  [.mk (some 11) none (.mov (.t 6)) .no, .mk (some 12) none (.bin .add (.t 11) (.c (.one (.st (.int .i64 1)))))
  .no, .mk (some 6) none (.mov (.t 12)) .no]))))))
  (.seq
  (.ops
  [.mk (some 25) none
  (.build [.st (.str (ByteArray.mk (#[]))), .full []] []) .no, .mk none none (.store 2 (.t 4) (.t 25)) .no, .mk (some 5) none (.mov (.c (.one (.st (.bool false)))))
  .no])
  .ret)))
theorem tr_R_For : trCode Try.prog 26 [] (Try.f59.body.getD .skip) = some ir_R_For := by kernel_rfl
theorem ac_R_For {xs : List AV} {r : AV} (hn : xs.length ≤ 26) (h : ∀ C : Ctx, C.n = 26 → IWP Try.prog C [] ir_R_For (FinQ [.cell 4 true 2, .t 5] r) (AS.start xs)) : ACalls Try.prog 59 xs r :=
  acalls_of Try.func59 rfl tr_R_For rfl hn h
def ir_R_grown : IR :=
  (.seq
  (.ops
  [.mk (some 4) none (.box 24 (.t 1)) .no, .mk (some 6) none (.mov (.c (.one (.st (.int .i64 0)))))
  .no])
  (.seq
  (.ops
  [.mk (some 12) none (.mov (.t 0)) .no, .mk (some 13) none (.fieldAddr 0 (.t 4)) .no, .mk (some 14) none (.load false 1 (.t 13)) .no, .mk (some 15) none (.call 59 [.t 12, .t 14]) .no, .mk (some 11) none (.mov (.t 15)) .no, .mk (some 16) none (.extract 0 (.t 11)) .no, .mk (some 17) none (.extract 1 (.t 11)) .no, .mk (some 7) none
  (.alloc 24 [.st (.str (ByteArray.mk (#[]))), .full []]) .no, .mk none none (.store 2 (.t 7) (.t 16)) .no, .mk (some 8) none (.mov (.t 17)) .no])
  (.seq
  (.seq
  (.ops
  [.mk (some 18) none (.mov (.t 8)) .no, .mk (some 19) none (.mov (.t 18)) .no, .mk (some 20) (some (19, true)) (.fieldAddr 1 (.t 4)) .no, .mk (some 21) (some (19, true)) (.load false 1 (.t 20)) .no, .mk (some 22) (some (19, true)) (.len false (.t 21)) .no, .mk (some 23) (some (19, true)) (.bin .eql (.t 22) (.c (.one (.st (.int .i64 0)))))
  .no, .mk (some 24) none
  (.pick (.t 19) (.t 23) (.c (.one (.st (.bool false)))))
  .no])
  (.cond (.t 24)
  (.seq
  (.ops
  [.mk (some 25) none (.load true 2 (.t 7)) .no, .mk (some 26) none (.mov (.t 2)) .no, .mk (some 27) none (.call 23 [.t 25, .t 26]) .no, .mk (some 6) none (.mov (.t 27)) .no])
  .ret)
  .skip))
  (.seq
  (.ops
  [.mk (some 9) none (.mov (.c (.one (.st (.int .i64 1)))))
  .no])
  (.seq
  (.seq
  (.ops
  [.mk (some 10) none (.mov (.c (.one (.st (.int .i64 0)))))
  .no])
  (.block 0
  (.loop
  (.seq
  (.seq
  (.ops
  [.mk (some 28) none (.mov (.t 10)) .no, .mk (some 29) none (.fieldAddr 1 (.t 4)) .no, .mk (some 30) none (.load false 1 (.t 29)) .no, .mk (some 31) none (.len false (.t 30)) .no, .mk (some 32) none (.bin .lss (.t 28) (.t 31))
  .no, .mk (some 33) none (.mov (.t 32)) .no, .mk (some 34) (some (33, true)) (.mov (.t 9)) .no, .mk (some 35) (some (33, true)) (.mov (.t 2)) .no, .mk (some 36) (some (33, true)) (.bin .leq (.t 34) (.t 35)) .no, .mk (some 37) none
  (.pick (.t 33) (.t 36) (.c (.one (.st (.bool false)))))
  .no])
  (.cond (.t 37) .skip (.exit 0)))
  (.seq
  (.block 1
  (.ops
  [.mk (some 40) none (.mov (.t 9)) .no, .mk (some 41) none (.mov (.t 0)) .no, .mk (some 42) none (.fieldAddr 1 (.t 4)) .no, .mk (some 43) none (.load false 1 (.t 42)) .no, .mk (some 44) none (.mov (.t 10)) .no, .mk (some 45) none (.indexAddr 2 (.t 43) (.t 44))
  .no, .mk (some 46) none (.load true 2 (.t 45)) .no, .mk (some 47) none (.mov (.t 2)) .no, .mk (some 48) none (.mov (.t 9)) .no, .mk (some 49) none (.bin .sub (.t 47) (.t 48))
  .no, .mk (some 50) none (.call 39 [.t 41, .t 46, .t 49]) .no, .mk (some 51) none (.bin .add (.t 40) (.t 50))
  .no, .mk (some 9) none (.mov (.t 51)) .no]))
  (.ops
  [.mk (some 38) none (.mov (.t 10)) .no, .mk (some 39) none (.bin .add (.t 38) (.c (.one (.st (.int .i64 1)))))
  .no, .mk (some 10) none (.mov (.t 39)) .no]))))))
  (.seq
  (.seq
  (.ops
  [.mk (some 52) none (.mov (.t 9)) .no, .mk (some 53) none (.mov (.t 2)) .no, .mk (some 54) none (.bin .gtr (.t 52) (.t 53))
  .no])
  (.cond (.t 54)
  (.seq
  (.ops
  [.mk (some 55) none (.mov (.t 2)) .no, .mk (some 56) none (.bin .add (.t 55) (.c (.one (.st (.int .i64 1)))))
  .no, .mk (some 6) none (.mov (.t 56)) .no])
  .ret)
  .skip))
  (.seq
  (.ops
  [.mk (some 57) none (.mov (.t 9)) .no, .mk (some 6) none (.mov (.t 57)) .no])
  .ret)))))))
theorem tr_R_grown : trCode Try.prog 58 [] (Try.f39.body.getD .skip) = some ir_R_grown := by kernel_rfl
theorem ac_R_grown {xs : List AV} {r : AV} (hn : xs.length ≤ 58) (h : ∀ C : Ctx, C.n = 58 → IWP Try.prog C [] ir_R_grown (FinQ [.t 6] r) (AS.start xs)) : ACalls Try.prog 39 xs r :=
  acalls_of Try.func39 rfl tr_R_grown rfl hn h
def ir_R_on : IR :=
  (.seq
  (.ops
  [.mk (some 3) none (.box 24 (.t 1)) .no, .mk (some 4) none
  (.alloc 24 [.st (.str (ByteArray.mk (#[]))), .full []]) .no])
  (.seq
  (.ops
  [.mk (some 10) none (.mov (.t 0)) .no, .mk (some 11) none (.fieldAddr 0 (.t 3)) .no, .mk (some 12) none (.load false 1 (.t 11)) .no, .mk (some 13) none (.call 59 [.t 10, .t 12]) .no, .mk (some 9) none (.mov (.t 13)) .no, .mk (some 14) none (.extract 0 (.t 9)) .no, .mk (some 15) none (.extract 1 (.t 9)) .no, .mk (some 5) none
  (.alloc 24 [.st (.str (ByteArray.mk (#[]))), .full []]) .no, .mk none none (.store 2 (.t 5) (.t 14)) .no, .mk (some 6) none (.mov (.t 15)) .no])
  (.seq
  (.seq
  (.ops
  [.mk (some 16) none (.mov (.t 6)) .no, .mk (some 17) none (.mov (.t 16)) .no, .mk (some 18) (some (17, true)) (.fieldAddr 1 (.t 3)) .no, .mk (some 19) (some (17, true)) (.load false 1 (.t 18)) .no, .mk (some 20) (some (17, true)) (.len false (.t 19)) .no, .mk (some 21) (some (17, true)) (.bin .eql (.t 20) (.c (.one (.st (.int .i64 0)))))
  .no, .mk (some 22) none
  (.pick (.t 17) (.t 21) (.c (.one (.st (.bool false)))))
  .no])
  (.cond (.t 22)
  (.seq
  (.ops
  [.mk (some 23) none (.load true 2 (.t 5)) .no, .mk none none (.store 2 (.t 4) (.t 23)) .no])
  .ret)
  .skip))
  (.seq
  (.ops
  [.mk (some 24) none (.fieldAddr 0 (.t 3)) .no, .mk (some 25) none (.load false 1 (.t 24)) .no, .mk (some 26) none
  (.build [.st (.str (ByteArray.mk (#[]))), .full []]
  [(0, 1, .t 25)])
  .no, .mk (some 7) none
  (.alloc 24 [.st (.str (ByteArray.mk (#[]))), .full []]) .no, .mk none none (.store 2 (.t 7) (.t 26)) .no])
  (.seq
  (.seq
  (.ops
  [.mk (some 8) none (.mov (.c (.one (.st (.int .i64 0)))))
  .no])
  (.block 0
  (.loop
  (.seq
  (.seq
  (.ops
  [.mk (some 27) none (.mov (.t 8)) .no, .mk (some 28) none (.fieldAddr 1 (.t 3)) .no, .mk (some 29) none (.load false 1 (.t 28)) .no, .mk (some 30) none (.len false (.t 29)) .no, .mk (some 31) none (.bin .lss (.t 27) (.t 30))
  .no])
  (.cond (.t 31) .skip (.exit 0)))
  (.seq
  (.block 1
  (.ops
  [.mk (some 34) none (.fieldAddr 1 (.t 7)) .no, .mk (some 35) none (.load false 1 (.t 34)) .no, .mk (some 36) none (.mov (.t 0)) .no, .mk (some 37) none (.fieldAddr 1 (.t 3)) .no, .mk (some 38) none (.load false 1 (.t 37)) .no, .mk (some 39) none (.mov (.t 8)) .no, .mk (some 40) none (.indexAddr 2 (.t 38) (.t 39))
  .no, .mk (some 41) none (.load true 2 (.t 40)) .no, .mk (some 42) none (.call 40 [.t 36, .t 41])
  .no, .mk (some 43) none (.buildSlice false 24 2 [.t 42]) .no, .mk (some 44) none (.append false 24 2 40 (.t 35) (.t 43))
  .no, .mk (some 45) none (.fieldAddr 1 (.t 7)) .no, .mk none none (.store 1 (.t 45) (.t 44))
  .no]))
  (.ops
  [.mk (some 32) none (.mov (.t 8)) .no, .mk (some 33) none (.bin .add (.t 32) (.c (.one (.st (.int .i64 1)))))
  .no, .mk (some 8) none (.mov (.t 33)) .no]))))))
  (.seq
  (.ops
  [.mk (some 46) none (.load true 2 (.t 7)) .no, .mk none none (.store 2 (.t 4) (.t 46)) .no])
  .ret))))))
theorem tr_R_on : trCode Try.prog 47 [] (Try.f40.body.getD .skip) = some ir_R_on := by kernel_rfl
theorem ac_R_on {xs : List AV} {r : AV} (hn : xs.length ≤ 47) (h : ∀ C : Ctx, C.n = 47 → IWP Try.prog C [] ir_R_on (FinQ [.cell 4 true 2] r) (AS.start xs)) : ACalls Try.prog 40 xs r :=
  acalls_of Try.func40 rfl tr_R_on rfl hn h
def ir_R_On : IR :=
  (.seq
  (.ops
  [.mk (some 3) none (.box 24 (.t 1)) .no, .mk (some 4) none
  (.alloc 24 [.st (.str (ByteArray.mk (#[]))), .full []]) .no, .mk (some 5) none (.mov (.c (.one (.st (.bool false)))))
  .no])
  (.seq
  (.seq
  (.ops
  [.mk (some 6) none (.mov (.t 0)) .no, .mk (some 7) none (.load true 2 (.t 3)) .no, .mk (some 8) none (.call 39
  [.t 6, .t 7, .c (.one (.st (.int .i64 2000)))])
  .no, .mk (some 9) none (.bin .gtr (.t 8) (.c (.one (.st (.int .i64 2000)))))
  .no])
  (.cond (.t 9)
  (.seq
  (.ops
  [.mk (some 10) none
  (.build [.st (.str (ByteArray.mk (#[]))), .full []] [])
  .no, .mk none none (.store 2 (.t 4) (.t 10)) .no, .mk (some 5) none (.mov (.c (.one (.st (.bool false)))))
  .no])
  .ret)
  .skip))
  (.seq
  (.ops
  [.mk (some 11) none (.mov (.t 0)) .no, .mk (some 12) none (.load true 2 (.t 3)) .no, .mk (some 13) none (.call 40 [.t 11, .t 12]) .no, .mk none none (.store 2 (.t 4) (.t 13)) .no, .mk (some 5) none (.mov (.c (.one (.st (.bool true)))))
  .no])
  .ret)))
theorem tr_R_On : trCode Try.prog 14 [] (Try.f20.body.getD .skip) = some ir_R_On := by kernel_rfl
theorem ac_R_On {xs : List AV} {r : AV} (hn : xs.length ≤ 14) (h : ∀ C : Ctx, C.n = 14 → IWP Try.prog C [] ir_R_On (FinQ [.cell 4 true 2, .t 5] r) (AS.start xs)) : ACalls Try.prog 20 xs r :=
  acalls_of Try.func20 rfl tr_R_On rfl hn h
def ir_cmp_isNaN_string : IR :=
  (.seq
  (.ops
  [.mk (some 2) none (.mov (.c (.one (.st (.bool false)))))
  .no])
  (.seq
  (.ops
  [.mk (some 3) none (.mov (.t 0)) .no, .mk (some 4) none (.mov (.t 0)) .no, .mk (some 5) none (.bin .neq (.t 3) (.t 4)) .no, .mk (some 2) none (.mov (.t 5)) .no])
  .ret))
theorem tr_cmp_isNaN_string : trCode Try.prog 6 [] (Try.f71.body.getD .skip) = some ir_cmp_isNaN_string := by kernel_rfl
theorem ac_cmp_isNaN_string {xs : List AV} {r : AV} (hn : xs.length ≤ 6) (h : ∀ C : Ctx, C.n = 6 → IWP Try.prog C [] ir_cmp_isNaN_string (FinQ [.t 2] r) (AS.start xs)) : ACalls Try.prog 71 xs r :=
  acalls_of Try.func71 rfl tr_cmp_isNaN_string rfl hn h
def ir_cmp_Compare_string : IR :=
  (.seq
  (.ops
  [.mk (some 4) none (.mov (.c (.one (.st (.int .i64 0)))))
  .no])
  (.seq
  (.ops
  [.mk (some 7) none (.mov (.t 0)) .no, .mk (some 8) none (.call 71 [.t 7]) .no, .mk (some 5) none (.mov (.t 8)) .no])
  (.seq
  (.ops
  [.mk (some 9) none (.mov (.t 1)) .no, .mk (some 10) none (.call 71 [.t 9]) .no, .mk (some 6) none (.mov (.t 10)) .no])
  (.seq
  (.seq
  (.ops [.mk (some 11) none (.mov (.t 5)) .no])
  (.cond (.t 11)
  (.seq
  (.seq
  (.ops [.mk (some 12) none (.mov (.t 6)) .no])
  (.cond (.t 12)
  (.seq
  (.ops
  [.mk (some 4) none (.mov (.c (.one (.st (.int .i64 0)))))
  .no])
  .ret)
  .skip))
  (.seq
  (.ops
  [.mk (some 4) none (.mov (.c (.one (.st (.int .i64 (-1))))))
  .no])
  .ret))
  .skip))
  (.seq
  (.seq
  (.ops [.mk (some 13) none (.mov (.t 6)) .no])
  (.cond (.t 13)
  (.seq
  (.ops
  [.mk (some 4) none (.mov (.c (.one (.st (.int .i64 1)))))
  .no])
  .ret)
  .skip))
  (.seq
  (.seq
  (.ops
  [.mk (some 14) none (.mov (.t 0)) .no, .mk (some 15) none (.mov (.t 1)) .no, .mk (some 16) none (.bin .lss (.t 14) (.t 15))
  .no])
  (.cond (.t 16)
  (.seq
  (.ops
  [.mk (some 4) none (.mov (.c (.one (.st (.int .i64 (-1))))))
  .no])
  .ret)
  .skip))
  (.seq
  (.seq
  (.ops
  [.mk (some 17) none (.mov (.t 0)) .no, .mk (some 18) none (.mov (.t 1)) .no, .mk (some 19) none (.bin .gtr (.t 17) (.t 18))
  .no])
  (.cond (.t 19)
  (.seq
  (.ops
  [.mk (some 4) none (.mov (.c (.one (.st (.int .i64 1)))))
  .no])
  .ret)
  .skip))
  (.seq
  (.ops
  [.mk (some 4) none (.mov (.c (.one (.st (.int .i64 0)))))
  .no])
  .ret))))))))
theorem tr_cmp_Compare_string : trCode Try.prog 20 [] (Try.f63.body.getD .skip) = some ir_cmp_Compare_string := by kernel_rfl
theorem ac_cmp_Compare_string {xs : List AV} {r : AV} (hn : xs.length ≤ 20) (h : ∀ C : Ctx, C.n = 20 → IWP Try.prog C [] ir_cmp_Compare_string (FinQ [.t 4] r) (AS.start xs)) : ACalls Try.prog 63 xs r :=
  acalls_of Try.func63 rfl tr_cmp_Compare_string rfl hn h
def ir_subst_Find_1 : IR :=
  (.seq
  (.ops
  [.mk (some 2) none (.box 56 (.t 0)) .no, .mk (some 4) none (.mov (.c (.one (.st (.int .i64 0)))))
  .no])
  (.seq
  (.ops
  [.mk (some 5) none (.fieldAddr 0 (.t 2)) .no, .mk (some 6) none (.load false 1 (.t 5)) .no, .mk (some 7) none (.mov (.t 1)) .no, .mk (some 8) none (.call 63 [.t 6, .t 7]) .no, .mk (some 4) none (.mov (.t 8)) .no])
  .ret))
theorem tr_subst_Find_1 : trCode Try.prog 9 [] (Try.f62.body.getD .skip) = some ir_subst_Find_1 := by kernel_rfl
theorem ac_subst_Find_1 {xs : List AV} {r : AV} (hn : xs.length ≤ 9) (h : ∀ C : Ctx, C.n = 9 → IWP Try.prog C [] ir_subst_Find_1 (FinQ [.t 4] r) (AS.start xs)) : ACalls Try.prog 62 xs r :=
  acalls_of Try.func62 rfl tr_subst_Find_1 rfl hn h
def ir_slices_BinarySearchFunc_metaprune_api_Bind_metaprune_api_Bind_string : IR :=
  (.seq
  (.ops
  [.mk (some 6) none (.mov (.c (.one (.st (.int .i64 0)))))
  .no, .mk (some 7) none (.mov (.c (.one (.st (.bool false)))))
  .no])
  (.seq
  (.ops
  [.mk (some 12) none (.mov (.t 0)) .no, .mk (some 13) none (.len false (.t 12)) .no, .mk (some 8) none (.mov (.t 13)) .no])
  (.seq
  (.ops
  [.mk (some 14) none (.mov (.t 8)) .no, .mk (some 9) none (.mov (.c (.one (.st (.int .i64 0)))))
  .no, .mk (some 10) none (.mov (.t 14)) .no])
  (.seq
  (.block 0
  (.loop
  (.seq
  (.seq
  (.ops
  [.mk (some 15) none (.mov (.t 9)) .no, .mk (some 16) none (.mov (.t 10)) .no, .mk (some 17) none (.bin .lss (.t 15) (.t 16))
  .no])
  (.cond (.t 17) .skip (.exit 0)))
  (.block 1
  (.seq
  (.ops
  [.mk (some 18) none (.mov (.t 9)) .no, .mk (some 19) none (.mov (.t 10)) .no, .mk (some 20) none (.bin .add (.t 18) (.t 19))
  .no, .mk (some 21) none (.conv .u64 (.t 20)) .no, .mk (some 22) none (.bin .shr (.t 21) (.c (.one (.st (.int .u64 1)))))
  .no, .mk (some 23) none (.conv .i64 (.t 22)) .no, .mk (some 11) none (.mov (.t 23)) .no])
  (.seq
  (.ops
  [.mk (some 24) none (.mov (.t 2)) .no, .mk (some 25) none (.mov (.t 0)) .no, .mk (some 26) none (.mov (.t 11)) .no, .mk (some 27) none (.indexAddr 3 (.t 25) (.t 26))
  .no, .mk (some 28) none (.load true 3 (.t 27)) .no, .mk (some 29) none (.mov (.t 1)) .no, .mk (some 30) none
  (.callV (.t 24) [.t 28, .t 29]) .no, .mk (some 31) none (.bin .lss (.t 30) (.c (.one (.st (.int .i64 0)))))
  .no])
  (.cond (.t 31)
  (.ops
  [.mk (some 32) none (.mov (.t 11)) .no, .mk (some 33) none (.bin .add (.t 32) (.c (.one (.st (.int .i64 1)))))
  .no, .mk (some 9) none (.mov (.t 33)) .no])
  (.ops
  [.mk (some 34) none (.mov (.t 11)) .no, .mk (some 10) none (.mov (.t 34)) .no]))))))))
  (.seq
  (.ops
  [.mk (some 35) none (.mov (.t 9)) .no, .mk (some 36) none (.mov (.t 9)) .no, .mk (some 37) none (.mov (.t 8)) .no, .mk (some 38) none (.bin .lss (.t 36) (.t 37))
  .no, .mk (some 39) none (.mov (.t 38)) .no, .mk (some 40) (some (39, true)) (.mov (.t 2)) .no, .mk (some 41) (some (39, true)) (.mov (.t 0)) .no, .mk (some 42) (some (39, true)) (.mov (.t 9)) .no, .mk (some 43) (some (39, true)) (.indexAddr 3 (.t 41) (.t 42))
  .no, .mk (some 44) (some (39, true)) (.load true 3 (.t 43)) .no, .mk (some 45) (some (39, true)) (.mov (.t 1)) .no, .mk (some 46) (some (39, true))
  (.callV (.t 40) [.t 44, .t 45]) .no, .mk (some 47) (some (39, true)) (.bin .eql (.t 46) (.c (.one (.st (.int .i64 0)))))
  .no, .mk (some 48) none
  (.pick (.t 39) (.t 47) (.c (.one (.st (.bool false)))))
  .no, .mk (some 6) none (.mov (.t 35)) .no, .mk (some 7) none (.mov (.t 48)) .no])
  .ret)))))
theorem tr_slices_BinarySearchFunc_metaprune_api_Bind_metaprune_api_Bind_string : trCode Try.prog 49 [] (Try.f61.body.getD .skip) = some ir_slices_BinarySearchFunc_metaprune_api_Bind_metaprune_api_Bind_string := by kernel_rfl
theorem ac_slices_BinarySearchFunc_metaprune_api_Bind_metaprune_api_Bind_string {xs : List AV} {r : AV} (hn : xs.length ≤ 49) (h : ∀ C : Ctx, C.n = 49 → IWP Try.prog C [] ir_slices_BinarySearchFunc_metaprune_api_Bind_metaprune_api_Bind_string (FinQ [.t 6, .t 7] r) (AS.start xs)) : ACalls Try.prog 61 xs r :=
  acalls_of Try.func61 rfl tr_slices_BinarySearchFunc_metaprune_api_Bind_metaprune_api_Bind_string rfl hn h
def ir_subst_Find : IR :=
  (.seq
  (.ops
  [.mk (some 4) none
  (.alloc 24 [.st (.str (ByteArray.mk (#[]))), .full []]) .no, .mk (some 5) none (.mov (.c (.one (.st (.bool false)))))
  .no])
  (.seq
  (.ops
  [.mk (some 9) none (.mov (.t 0)) .no, .mk (some 10) none (.mov (.t 1)) .no, .mk (some 11) none (.call 61
  [.t 9, .t 10, .c (.one (.fn 62 []))])
  .no, .mk (some 8) none (.mov (.t 11)) .no, .mk (some 12) none (.extract 0 (.t 8)) .no, .mk (some 13) none (.extract 1 (.t 8)) .no, .mk (some 6) none (.mov (.t 12)) .no, .mk (some 7) none (.mov (.t 13)) .no])
  (.seq
  (.seq
  (.ops
  [.mk (some 14) none (.mov (.t 7)) .no, .mk (some 15) none (.un .not (.t 14)) .no])
  (.cond (.t 15)
  (.seq
  (.ops
  [.mk (some 16) none
  (.build [.st (.str (ByteArray.mk (#[]))), .full []] [])
  .no, .mk none none (.store 2 (.t 4) (.t 16)) .no, .mk (some 5) none (.mov (.c (.one (.st (.bool false)))))
  .no])
  .ret)
  .skip))
  (.seq
  (.ops
  [.mk (some 17) none (.mov (.t 0)) .no, .mk (some 18) none (.mov (.t 6)) .no, .mk (some 19) none (.indexAddr 3 (.t 17) (.t 18))
  .no, .mk (some 20) none (.fieldAddr 1 (.t 19)) .no, .mk (some 21) none (.load true 2 (.t 20)) .no, .mk none none (.store 2 (.t 4) (.t 21)) .no, .mk (some 5) none (.mov (.c (.one (.st (.bool true)))))
  .no])
  .ret))))
theorem tr_subst_Find : trCode Try.prog 22 [] (Try.f43.body.getD .skip) = some ir_subst_Find := by kernel_rfl
theorem ac_subst_Find {xs : List AV} {r : AV} (hn : xs.length ≤ 22) (h : ∀ C : Ctx, C.n = 22 → IWP Try.prog C [] ir_subst_Find (FinQ [.cell 4 true 2, .t 5] r) (AS.start xs)) : ACalls Try.prog 43 xs r :=
  acalls_of Try.func43 rfl tr_subst_Find rfl hn h
def ir_metaprune_subst_maker_copy : IR :=
  (.seq
  (.ops
  [.mk (some 4) none (.box 24 (.t 1)) .no, .mk (some 6) none
  (.alloc 24 [.st (.str (ByteArray.mk (#[]))), .full []]) .no])
  (.seq
  (.seq
  (.ops [.mk (some 12) none (.mov (.t 2)) .no])
  (.cond (.t 12)
  (.seq
  (.ops
  [.mk (some 14) none (.mov (.t 0)) .no, .mk (some 15) none (.nilCheck (.t 14)) .no, .mk (some 16) none (.fieldAddr 0 (.t 15)) .no, .mk (some 17) none (.load false 1 (.t 16)) .no, .mk (some 18) none (.fieldAddr 0 (.t 4)) .no, .mk (some 19) none (.load false 1 (.t 18)) .no, .mk (some 20) none (.call 43 [.t 17, .t 19]) .no, .mk (some 13) none (.mov (.t 20)) .no, .mk (some 21) none (.extract 0 (.t 13)) .no, .mk (some 22) none (.extract 1 (.t 13)) .no, .mk (some 7) none
  (.alloc 24 [.st (.str (ByteArray.mk (#[]))), .full []])
  .no, .mk none none (.store 2 (.t 7) (.t 21)) .no, .mk (some 8) none (.mov (.t 22)) .no])
  (.seq
  (.ops [.mk (some 23) none (.mov (.t 8)) .no])
  (.cond (.t 23)
  (.seq
  (.ops
  [.mk (some 24) none (.mov (.t 0)) .no, .mk (some 25) none (.load true 2 (.t 7)) .no, .mk (some 26) none
  (.callS 65
  [.t 24, .t 25, .c (.one (.st (.bool false)))])
  .no, .mk none none (.store 2 (.t 6) (.t 26)) .no])
  .ret)
  .skip)))
  .skip))
  (.seq
  (.seq
  (.ops
  [.mk (some 27) none (.mov (.t 0)) .no, .mk (some 28) none (.nilCheck (.t 27)) .no, .mk (some 29) none (.fieldAddr 1 (.t 28)) .no, .mk (some 30) none (.load false 1 (.t 29)) .no, .mk (some 31) none (.bin .sub (.t 30) (.c (.one (.st (.int .i64 1)))))
  .no, .mk (some 32) none (.nilCheck (.t 27)) .no, .mk (some 33) none (.fieldAddr 1 (.t 32)) .no, .mk none none (.store 1 (.t 33) (.t 31)) .no])
  (.seq
  (.ops
  [.mk (some 34) none (.mov (.t 0)) .no, .mk (some 35) none (.nilCheck (.t 34)) .no, .mk (some 36) none (.fieldAddr 1 (.t 35)) .no, .mk (some 37) none (.load false 1 (.t 36)) .no, .mk (some 38) none (.bin .lss (.t 37) (.c (.one (.st (.int .i64 0)))))
  .no])
  (.cond (.t 38)
  (.seq
  (.ops
  [.mk (some 39) none
  (.build [.st (.str (ByteArray.mk (#[]))), .full []] [])
  .no, .mk none none (.store 2 (.t 6) (.t 39)) .no])
  .ret)
  .skip)))
  (.seq
  (.ops
  [.mk (some 40) none (.fieldAddr 0 (.t 4)) .no, .mk (some 41) none (.load false 1 (.t 40)) .no, .mk (some 42) none
  (.build [.st (.str (ByteArray.mk (#[]))), .full []]
  [(0, 1, .t 41)])
  .no, .mk (some 9) none
  (.alloc 24 [.st (.str (ByteArray.mk (#[]))), .full []]) .no, .mk none none (.store 2 (.t 9) (.t 42)) .no])
  (.seq
  (.seq
  (.ops
  [.mk (some 43) none (.fieldAddr 1 (.t 4)) .no, .mk (some 44) none (.load false 1 (.t 43)) .no, .mk (some 45) none (.len false (.t 44)) .no, .mk (some 46) none (.mov (.c (.one (.st (.int .i64 0)))))
  .no])
  (.block 0
  (.loop
  (.seq
  (.ops
  [.mk (some 47) none (.bin .lss (.t 46) (.t 45))
  .no])
  (.seq (.cond (.t 47) .skip (.exit 0))
  (.seq
  (.block 1
  (.seq
  (.ops
  [.mk (some 48) none (.indexAddr 2 (.t 44) (.t 46))
  .no, .mk (some 49) none (.load true 2 (.t 48)) .no, .mk (some 11) none
  (.alloc 24 [.st (.str (ByteArray.mk (#[]))), .full []])
  .no, .mk none none (.store 2 (.t 11) (.t 49))
  .no])
  (.seq
  (.ops
  [.mk (some 50) none (.fieldAddr 1 (.t 9)) (.onb 9), .mk (some 51) none (.load false 1 (.t 50)) (.onb 9), .mk (some 52) none (.mov (.t 0)) .no, .mk (some 53) none (.load true 2 (.t 11)) .no, .mk (some 54) none (.mov (.t 2)) .no, .mk (some 55) none
  (.callS 65 [.t 52, .t 53, .t 54])
  (.keeps [9, 9]), .mk (some 56) none (.buildSlice false 24 2 [.t 55]) .no, .mk (some 57) none (.append false 24 2 40 (.t 51) (.t 56))
  .no, .mk (some 58) none (.fieldAddr 1 (.t 9)) .no, .mk none none (.store 1 (.t 58) (.t 57))
  .no])
  (.seq
  (.ops
  [.mk (some 59) none (.mov (.t 0)) .no, .mk (some 60) none (.nilCheck (.t 59)) .no, .mk (some 61) none (.fieldAddr 1 (.t 60)) .no, .mk (some 62) none (.load false 1 (.t 61)) .no, .mk (some 63) none (.bin .lss (.t 62) (.c (.one (.st (.int .i64 0)))))
  .no])
  (.cond (.t 63)
  (.seq
  (.ops
  [.mk (some 64) none
  (.build [.st (.str (ByteArray.mk (#[]))), .full []] [])
  .no, .mk none none (.store 2 (.t 6) (.t 64))
  .no])
  .ret)
  .skip)))))
  (.ops
  [.mk (some 65) none (.bin .add (.t 46) (.c (.one (.st (.int .i64 1)))))
  .no, .mk (some 46) none (.mov (.t 65)) .no])))))))
  (.seq
  (.ops
  [.mk (some 66) none (.load true 2 (.t 9)) .no, .mk none none (.store 2 (.t 6) (.t 66)) .no])
  .ret))))))
theorem tr_metaprune_subst_maker_copy : trCode Try.prog 67 [26, 55] (Try.f65.body.getD .skip) = some ir_metaprune_subst_maker_copy := by kernel_rfl
theorem acS_metaprune_subst_maker_copy {xs : List AV} {S S' : AStore} {r : AV} (hn : xs.length ≤ 67) (h : Clean S → ∀ C : Ctx, C.n = 67 → IWP Try.prog C [26, 55] ir_metaprune_subst_maker_copy (FinS C [.cell 6 true 2] r S') (AS.startS xs S)) : ACallsS Try.prog 65 xs S r S' :=
  acallsS_of Try.func65 rfl tr_metaprune_subst_maker_copy rfl hn h
def ir_subst_On : IR :=
  (.seq
  (.ops
  [.mk (some 3) none (.box 24 (.t 1)) .no, .mk (some 4) none
  (.alloc 24 [.st (.str (ByteArray.mk (#[]))), .full []]) .no, .mk (some 5) none (.mov (.c (.one (.st (.bool false)))))
  .no])
  (.seq
  (.ops
  [.mk (some 8) none (.mov (.t 0)) .no, .mk (some 9) none
  (.build [.full [], .st (.int .i64 0)]
  [(0, 1, .t 8), (1, 1, .c (.one (.st (.int .i64 2000))))])
  .no, .mk (some 10) none (.box 104 (.t 9)) .no, .mk (some 6) none (.mov (.t 10)) .no])
  (.seq
  (.ops
  [.mk (some 11) none (.mov (.t 6)) .no, .mk (some 12) none (.load true 2 (.t 3)) .no, .mk (some 13) none
  (.callS 65
  [.t 11, .t 12, .c (.one (.st (.bool true)))])
  .no, .mk (some 7) none
  (.alloc 24 [.st (.str (ByteArray.mk (#[]))), .full []]) .no, .mk none none (.store 2 (.t 7) (.t 13)) .no])
  (.seq
  (.ops
  [.mk (some 14) none (.load true 2 (.t 7)) .no, .mk (some 15) none (.mov (.t 6)) .no, .mk (some 16) none (.nilCheck (.t 15)) (.onb 10), .mk (some 17) none (.fieldAddr 1 (.t 16)) (.onb 10), .mk (some 18) none (.load false 1 (.t 17)) (.onb 10), .mk (some 19) none (.bin .geq (.t 18) (.c (.one (.st (.int .i64 0)))))
  .no, .mk none none (.store 2 (.t 4) (.t 14)) (.onb 4), .mk (some 5) none (.mov (.t 19)) .no])
  .ret))))
theorem tr_subst_On : trCode Try.prog 20 [13, 10060010] (Try.f46.body.getD .skip) = some ir_subst_On := by kernel_rfl
theorem ac_subst_On {xs : List AV} {r : AV} (hn : xs.length ≤ 20) (h : ∀ C : Ctx, C.n = 20 → IWP Try.prog C [13, 10060010] ir_subst_On (FinQ [.cell 4 true 2, .t 5] r) (AS.start xs)) : ACalls Try.prog 46 xs r :=
  acalls_of Try.func46 rfl tr_subst_On rfl hn h
end Go.Proofs.Ytohgkbgpcnmdpaa

namespace Go.Proofs.Ytohgkbgpcnmdpaa
open Go Go.RowKit
set_option linter.unusedVariables false
set_option linter.unusedSimpArgs false
set_option maxHeartbeats 400000
theorem for_a (l : List Bd) (n : ByteArray) : ACalls Try.prog 59 [aBds l, aStr n] (.tup [aTm ((lookup l n).getD Tm.nil), aBool (lookup l n).isSome]) := by
  refine ac_R_For (Nat.le_of_ble_eq_true rfl) fun C hC => ?_
  unfold ir_R_For
  refine IWP.learn 0 (by omega) fun hkn => ?_
  have hkn := known_len hkn
  rw [List.length_map] at hkn
  repeat' (first | (with_reducible first | refine Wa ?_ | refine Wb ?_ | refine Wc ?_ | refine Wd ?_ | refine We ?_ | refine Wf ?_ | refine Wg ?_ | refine Wh ?_ | refine Wi ?_ | refine Wj ?_ | refine Wk (by decide) ?_ | refine Wl ?_ | refine Wm ?_ | refine Wn ?_) | ((with_reducible first | refine Wo (fun K hK => ?_) | refine Wq ?_ | refine Wr ?_); (try simp only [go_sem, List.forall_mem_nil, ↓guard_ite, ↓pick_ite, seval, encT_eq, inR_i64]); (repeat with_reducible refine And.intro (by first | omega | (with_reducible first | exact lens_encT | exact lens_encL | exact lens_encB | exact lens_encP) | (simp; done) | (simp only [List.length_take, List.length_map, List.length_append, maxLen_eq]; omega)) ?_); (try (with_reducible refine hK _ ?_; clear hK K))))
  refine IWP.loop (fun m s => ∃ k, k ≤ l.length ∧ m = l.length - k ∧ (∀ c ∈ l.take k, c.1 ≠ n) ∧ s.env 0 = aBds l ∧ s.env 1 = aStr n ∧ s.env 4 = .one (.ptr 4 1 0 0) ∧ s.S 4 = some (.box 24 [.st (.str ⟨#[]⟩), .full []]) ∧ s.env 6 = aInt k) l.length ⟨0, Nat.zero_le _, rfl, by simp, rfl, rfl, rfl, rfl, rfl⟩ ?_
  rintro m ⟨env, S⟩ ⟨k, hk, rfl, h0, e0, e1, e4, s4, e6⟩
  simp only at e0 e1 e4 s4 e6
  by_cases hlt : (k : Int) < l.length
  · obtain ⟨b, hb⟩ := get_lt (show k < l.length by omega)
    repeat' (first | (with_reducible first | refine Wa ?_ | refine Wb ?_ | refine Wc ?_ | refine Wd ?_ | refine We ?_ | refine Wf ?_ | refine Wg ?_ | refine Wh ?_ | refine Wi ?_ | refine Wj ?_ | refine Wk (by decide) ?_ | refine Wl ?_ | refine Wm ?_ | refine Wn ?_) | ((with_reducible first | refine Wo (fun K hK => ?_) | refine Wq ?_ | refine Wr ?_); (try simp only [go_sem, List.forall_mem_nil, ↓guard_ite, ↓pick_ite, seval, encT_eq, inR_i64, e0, e1, e4, s4, e6, hlt]); (repeat with_reducible refine And.intro (by first | omega | (with_reducible first | exact lens_encT | exact lens_encL | exact lens_encB | exact lens_encP) | (simp; done) | (simp only [List.length_take, List.length_map, List.length_append, maxLen_eq]; omega)) ?_); (try (with_reducible refine hK _ ?_; clear hK K))))
    with_reducible refine Wp ?_
    simp only [go_sem, List.forall_mem_nil, ↓guard_ite, ↓pick_ite, seval, true_implies, false_implies, implies_true, decide_eq_true_eq, decide_eq_false_iff_not, Int.ofNat_lt, hlt]
    (try with_reducible refine ite_conj ?_)
    repeat' (first | (with_reducible first | refine Wa ?_ | refine Wb ?_ | refine Wc ?_ | refine Wd ?_ | refine We ?_ | refine Wf ?_ | refine Wg ?_ | refine Wh ?_ | refine Wi ?_ | refine Wj ?_ | refine Wk (by decide) ?_ | refine Wl ?_ | refine Wm ?_ | refine Wn ?_) | ((with_reducible first | refine Wo (fun K hK => ?_) | refine Wq ?_ | refine Wr ?_); (try simp only [go_sem, List.forall_mem_nil, ↓guard_ite, ↓pick_ite, seval, encT_eq, inR_i64, e0, e1, e4, s4, e6, hb, encB]); (repeat with_reducible refine And.intro (by first | omega | (with_reducible first | exact lens_encT | exact lens_encL | exact lens_encB | exact lens_encP) | (simp; done) | (simp only [List.length_take, List.length_map, List.length_append, maxLen_eq]; omega)) ?_); (try (with_reducible refine hK _ ?_; clear hK K))))
    by_cases he : b.1 = n
    · with_reducible refine Wp ?_
      simp only [go_sem, List.forall_mem_nil, ↓guard_ite, ↓pick_ite, seval, true_implies, false_implies, implies_true, decide_eq_true_eq, decide_eq_false_iff_not, Int.ofNat_lt, he]
      (try with_reducible refine ite_conj ?_)
      repeat' (first | (with_reducible first | refine Wa ?_ | refine Wb ?_ | refine Wc ?_ | refine Wd ?_ | refine We ?_ | refine Wf ?_ | refine Wg ?_ | refine Wh ?_ | refine Wi ?_ | refine Wj ?_ | refine Wk (by decide) ?_ | refine Wl ?_ | refine Wm ?_ | refine Wn ?_) | ((with_reducible first | refine Wo (fun K hK => ?_) | refine Wq ?_ | refine Wr ?_); (try simp only [go_sem, List.forall_mem_nil, ↓guard_ite, ↓pick_ite, seval, encT_eq, inR_i64, e0, e1, e4, s4, e6, hb, encB]); (repeat with_reducible refine And.intro (by first | omega | (with_reducible first | exact lens_encT | exact lens_encL | exact lens_encB | exact lens_encP) | (simp; done) | (simp only [List.length_take, List.length_map, List.length_append, maxLen_eq]; omega)) ?_); (try (with_reducible refine hK _ ?_; clear hK K))))
      simp only [go_sem, List.forall_mem_nil, ↓guard_ite, ↓pick_ite, seval, FinQ, AS.result, resAll, resOne, tupV, e4]
      rw [lookup_take hb he h0]
      rfl
    · with_reducible refine Wp ?_
      simp only [go_sem, List.forall_mem_nil, ↓guard_ite, ↓pick_ite, seval, true_implies, false_implies, implies_true, decide_eq_true_eq, decide_eq_false_iff_not, Int.ofNat_lt, he]
      (try with_reducible refine ite_conj ?_)
      repeat' (first | (with_reducible first | refine Wa ?_ | refine Wb ?_ | refine Wc ?_ | refine Wd ?_ | refine We ?_ | refine Wf ?_ | refine Wg ?_ | refine Wh ?_ | refine Wi ?_ | refine Wj ?_ | refine Wk (by decide) ?_ | refine Wl ?_ | refine Wm ?_ | refine Wn ?_) | ((with_reducible first | refine Wo (fun K hK => ?_) | refine Wq ?_ | refine Wr ?_); (try simp only [go_sem, List.forall_mem_nil, ↓guard_ite, ↓pick_ite, seval, encT_eq, inR_i64, e0, e1, e4, s4, e6]); (repeat with_reducible refine And.intro (by first | omega | (with_reducible first | exact lens_encT | exact lens_encL | exact lens_encB | exact lens_encP) | (simp; done) | (simp only [List.length_take, List.length_map, List.length_append, maxLen_eq]; omega)) ?_); (try (with_reducible refine hK _ ?_; clear hK K))))
      refine then_normal ⟨l.length - (k + 1), by omega, k + 1, by omega, rfl, ?_, ?_⟩
      · rw [take_snoc hb]
        intro c hc
        rcases List.mem_append.1 hc with hc | hc
        · exact h0 c hc
        · rw [List.mem_singleton.1 hc]; exact he
      · simp only [go_sem, List.forall_mem_nil, ↓guard_ite, ↓pick_ite, seval, encT_eq, inR_i64, e0, e1, e4, s4, e6]
        congr 3
  · repeat' (first | (with_reducible first | refine Wa ?_ | refine Wb ?_ | refine Wc ?_ | refine Wd ?_ | refine We ?_ | refine Wf ?_ | refine Wg ?_ | refine Wh ?_ | refine Wi ?_ | refine Wj ?_ | refine Wk (by decide) ?_ | refine Wl ?_ | refine Wm ?_ | refine Wn ?_) | ((with_reducible first | refine Wo (fun K hK => ?_) | refine Wq ?_ | refine Wr ?_); (try simp only [go_sem, List.forall_mem_nil, ↓guard_ite, ↓pick_ite, seval, encT_eq, inR_i64, e0, e1, e4, s4, e6, hlt]); (repeat with_reducible refine And.intro (by first | omega | (with_reducible first | exact lens_encT | exact lens_encL | exact lens_encB | exact lens_encP) | (simp; done) | (simp only [List.length_take, List.length_map, List.length_append, maxLen_eq]; omega)) ?_); (try (with_reducible refine hK _ ?_; clear hK K))))
    with_reducible refine Wp ?_
    simp only [go_sem, List.forall_mem_nil, ↓guard_ite, ↓pick_ite, seval, true_implies, false_implies, implies_true, decide_eq_true_eq, decide_eq_false_iff_not, Int.ofNat_lt, hlt]
    (try with_reducible refine ite_conj ?_)
    repeat' (first | (with_reducible first | refine Wa ?_ | refine Wb ?_ | refine Wc ?_ | refine Wd ?_ | refine We ?_ | refine Wf ?_ | refine Wg ?_ | refine Wh ?_ | refine Wi ?_ | refine Wj ?_ | refine Wk (by decide) ?_ | refine Wl ?_ | refine Wm ?_ | refine Wn ?_) | ((with_reducible first | refine Wo (fun K hK => ?_) | refine Wq ?_ | refine Wr ?_); (try simp only [go_sem, List.forall_mem_nil, ↓guard_ite, ↓pick_ite, seval, encT_eq, inR_i64, e0, e1, e4, s4, e6]); (repeat with_reducible refine And.intro (by first | omega | (with_reducible first | exact lens_encT | exact lens_encL | exact lens_encB | exact lens_encP) | (simp; done) | (simp only [List.length_take, List.length_map, List.length_append, maxLen_eq]; omega)) ?_); (try (with_reducible refine hK _ ?_; clear hK K))))
    simp only [go_sem, List.forall_mem_nil, ↓guard_ite, ↓pick_ite, seval, FinQ, AS.result, resAll, resOne, tupV, e4]
    rw [List.take_of_length_le (by omega)] at h0
    rw [lookup_none h0]
    rfl
theorem isNaN_a (a : ByteArray) : ACalls Try.prog 71 [aStr a] (aBool false) := by
  refine ac_cmp_isNaN_string (Nat.le_of_ble_eq_true rfl) fun C hC => ?_
  unfold ir_cmp_isNaN_string
  repeat' (first | (with_reducible first | refine Wa ?_ | refine Wb ?_ | refine Wc ?_ | refine Wd ?_ | refine We ?_ | refine Wf ?_ | refine Wg ?_ | refine Wh ?_ | refine Wi ?_ | refine Wj ?_ | refine Wk (by decide) ?_ | refine Wl ?_ | refine Wm ?_ | refine Wn ?_) | ((with_reducible first | refine Wo (fun K hK => ?_) | refine Wq ?_ | refine Wr ?_); (try simp only [go_sem, List.forall_mem_nil, ↓guard_ite, ↓pick_ite, seval, encT_eq, inR_i64]); (repeat with_reducible refine And.intro (by first | omega | (with_reducible first | exact lens_encT | exact lens_encL | exact lens_encB | exact lens_encP) | (simp; done) | (simp only [List.length_take, List.length_map, List.length_append, maxLen_eq]; omega)) ?_); (try (with_reducible refine hK _ ?_; clear hK K))))
  simp only [go_sem, List.forall_mem_nil, ↓guard_ite, ↓pick_ite, seval, FinQ, AS.result, resAll, resOne, tupV]
theorem compare_a (a b : ByteArray) : ACalls Try.prog 63 [aStr a, aStr b] (aInt (cmpI a b)) := by
  refine ac_cmp_Compare_string (Nat.le_of_ble_eq_true rfl) fun C hC => ?_
  unfold ir_cmp_Compare_string
  repeat' (first | (with_reducible first | refine Wa ?_ | refine Wb ?_ | refine Wc ?_ | refine Wd ?_ | refine We ?_ | refine Wf ?_ | refine Wg ?_ | refine Wh ?_ | refine Wi ?_ | refine Wj ?_ | refine Wk (by decide) ?_ | refine Wl ?_ | refine Wm ?_ | refine Wn ?_) | refine CallG.mk _ (isNaN_a a) ?_ | refine CallG.mk _ (isNaN_a b) ?_ | ((with_reducible first | refine Wo (fun K hK => ?_) | refine Wq ?_ | refine Wr ?_); (try simp only [go_sem, List.forall_mem_nil, ↓guard_ite, ↓pick_ite, seval, encT_eq, inR_i64]); (repeat with_reducible refine And.intro (by first | omega | (with_reducible first | exact lens_encT | exact lens_encL | exact lens_encB | exact lens_encP) | (simp; done) | (simp only [List.length_take, List.length_map, List.length_append, maxLen_eq]; omega)) ?_); (try (with_reducible refine hK _ ?_; clear hK K))))
  with_reducible refine Wp ?_
  simp only [go_sem, List.forall_mem_nil, ↓guard_ite, ↓pick_ite, seval, true_implies, false_implies, implies_true, decide_eq_true_eq, decide_eq_false_iff_not, Int.ofNat_lt]
  (try with_reducible refine ite_conj ?_)
  repeat' (first | (with_reducible first | refine Wa ?_ | refine Wb ?_ | refine Wc ?_ | refine Wd ?_ | refine We ?_ | refine Wf ?_ | refine Wg ?_ | refine Wh ?_ | refine Wi ?_ | refine Wj ?_ | refine Wk (by decide) ?_ | refine Wl ?_ | refine Wm ?_ | refine Wn ?_) | ((with_reducible first | refine Wo (fun K hK => ?_) | refine Wq ?_ | refine Wr ?_); (try simp only [go_sem, List.forall_mem_nil, ↓guard_ite, ↓pick_ite, seval, encT_eq, inR_i64]); (repeat with_reducible refine And.intro (by first | omega | (with_reducible first | exact lens_encT | exact lens_encL | exact lens_encB | exact lens_encP) | (simp; done) | (simp only [List.length_take, List.length_map, List.length_append, maxLen_eq]; omega)) ?_); (try (with_reducible refine hK _ ?_; clear hK K))))
  with_reducible refine Wp ?_
  simp only [go_sem, List.forall_mem_nil, ↓guard_ite, ↓pick_ite, seval, true_implies, false_implies, implies_true, decide_eq_true_eq, decide_eq_false_iff_not, Int.ofNat_lt]
  (try with_reducible refine ite_conj ?_)
  repeat' (first | (with_reducible first | refine Wa ?_ | refine Wb ?_ | refine Wc ?_ | refine Wd ?_ | refine We ?_ | refine Wf ?_ | refine Wg ?_ | refine Wh ?_ | refine Wi ?_ | refine Wj ?_ | refine Wk (by decide) ?_ | refine Wl ?_ | refine Wm ?_ | refine Wn ?_) | ((with_reducible first | refine Wo (fun K hK => ?_) | refine Wq ?_ | refine Wr ?_); (try simp only [go_sem, List.forall_mem_nil, ↓guard_ite, ↓pick_ite, seval, encT_eq, inR_i64]); (repeat with_reducible refine And.intro (by first | omega | (with_reducible first | exact lens_encT | exact lens_encL | exact lens_encB | exact lens_encP) | (simp; done) | (simp only [List.length_take, List.length_map, List.length_append, maxLen_eq]; omega)) ?_); (try (with_reducible refine hK _ ?_; clear hK K))))
  unfold cmpI
  cases h : sLt a b with
  | true =>
    with_reducible refine Wp ?_
    simp only [go_sem, List.forall_mem_nil, ↓guard_ite, ↓pick_ite, seval, true_implies, false_implies, implies_true, decide_eq_true_eq, decide_eq_false_iff_not, Int.ofNat_lt]
    (try with_reducible refine ite_conj ?_)
    repeat' (first | (with_reducible first | refine Wa ?_ | refine Wb ?_ | refine Wc ?_ | refine Wd ?_ | refine We ?_ | refine Wf ?_ | refine Wg ?_ | refine Wh ?_ | refine Wi ?_ | refine Wj ?_ | refine Wk (by decide) ?_ | refine Wl ?_ | refine Wm ?_ | refine Wn ?_) | ((with_reducible first | refine Wo (fun K hK => ?_) | refine Wq ?_ | refine Wr ?_); (try simp only [go_sem, List.forall_mem_nil, ↓guard_ite, ↓pick_ite, seval, encT_eq, inR_i64]); (repeat with_reducible refine And.intro (by first | omega | (with_reducible first | exact lens_encT | exact lens_encL | exact lens_encB | exact lens_encP) | (simp; done) | (simp only [List.length_take, List.length_map, List.length_append, maxLen_eq]; omega)) ?_); (try (with_reducible refine hK _ ?_; clear hK K))))
    simp only [go_sem, List.forall_mem_nil, ↓guard_ite, ↓pick_ite, seval, FinQ, AS.result, resAll, resOne, tupV]
  | false =>
    with_reducible refine Wp ?_
    simp only [go_sem, List.forall_mem_nil, ↓guard_ite, ↓pick_ite, seval, true_implies, false_implies, implies_true, decide_eq_true_eq, decide_eq_false_iff_not, Int.ofNat_lt]
    (try with_reducible refine ite_conj ?_)
    by_cases he : a = b
    · repeat' (first | (with_reducible first | refine Wa ?_ | refine Wb ?_ | refine Wc ?_ | refine Wd ?_ | refine We ?_ | refine Wf ?_ | refine Wg ?_ | refine Wh ?_ | refine Wi ?_ | refine Wj ?_ | refine Wk (by decide) ?_ | refine Wl ?_ | refine Wm ?_ | refine Wn ?_) | ((with_reducible first | refine Wo (fun K hK => ?_) | refine Wq ?_ | refine Wr ?_); (try simp only [go_sem, List.forall_mem_nil, ↓guard_ite, ↓pick_ite, seval, encT_eq, inR_i64, h, he, Bool.or_true, Bool.or_false]); (repeat with_reducible refine And.intro (by first | omega | (with_reducible first | exact lens_encT | exact lens_encL | exact lens_encB | exact lens_encP) | (simp; done) | (simp only [List.length_take, List.length_map, List.length_append, maxLen_eq]; omega)) ?_); (try (with_reducible refine hK _ ?_; clear hK K))))
      with_reducible refine Wp ?_
      simp only [go_sem, List.forall_mem_nil, ↓guard_ite, ↓pick_ite, seval, true_implies, false_implies, implies_true, decide_eq_true_eq, decide_eq_false_iff_not, Int.ofNat_lt, h, he, Bool.or_true, Bool.or_false]
      (try with_reducible refine ite_conj ?_)
      repeat' (first | (with_reducible first | refine Wa ?_ | refine Wb ?_ | refine Wc ?_ | refine Wd ?_ | refine We ?_ | refine Wf ?_ | refine Wg ?_ | refine Wh ?_ | refine Wi ?_ | refine Wj ?_ | refine Wk (by decide) ?_ | refine Wl ?_ | refine Wm ?_ | refine Wn ?_) | ((with_reducible first | refine Wo (fun K hK => ?_) | refine Wq ?_ | refine Wr ?_); (try simp only [go_sem, List.forall_mem_nil, ↓guard_ite, ↓pick_ite, seval, encT_eq, inR_i64]); (repeat with_reducible refine And.intro (by first | omega | (with_reducible first | exact lens_encT | exact lens_encL | exact lens_encB | exact lens_encP) | (simp; done) | (simp only [List.length_take, List.length_map, List.length_append, maxLen_eq]; omega)) ?_); (try (with_reducible refine hK _ ?_; clear hK K))))
      simp only [go_sem, List.forall_mem_nil, ↓guard_ite, ↓pick_ite, seval, FinQ, AS.result, resAll, resOne, tupV, h, he]
    · repeat' (first | (with_reducible first | refine Wa ?_ | refine Wb ?_ | refine Wc ?_ | refine Wd ?_ | refine We ?_ | refine Wf ?_ | refine Wg ?_ | refine Wh ?_ | refine Wi ?_ | refine Wj ?_ | refine Wk (by decide) ?_ | refine Wl ?_ | refine Wm ?_ | refine Wn ?_) | ((with_reducible first | refine Wo (fun K hK => ?_) | refine Wq ?_ | refine Wr ?_); (try simp only [go_sem, List.forall_mem_nil, ↓guard_ite, ↓pick_ite, seval, encT_eq, inR_i64, h, he, Bool.or_true, Bool.or_false]); (repeat with_reducible refine And.intro (by first | omega | (with_reducible first | exact lens_encT | exact lens_encL | exact lens_encB | exact lens_encP) | (simp; done) | (simp only [List.length_take, List.length_map, List.length_append, maxLen_eq]; omega)) ?_); (try (with_reducible refine hK _ ?_; clear hK K))))
      with_reducible refine Wp ?_
      simp only [go_sem, List.forall_mem_nil, ↓guard_ite, ↓pick_ite, seval, true_implies, false_implies, implies_true, decide_eq_true_eq, decide_eq_false_iff_not, Int.ofNat_lt, h, he, Bool.or_true, Bool.or_false]
      (try with_reducible refine ite_conj ?_)
      repeat' (first | (with_reducible first | refine Wa ?_ | refine Wb ?_ | refine Wc ?_ | refine Wd ?_ | refine We ?_ | refine Wf ?_ | refine Wg ?_ | refine Wh ?_ | refine Wi ?_ | refine Wj ?_ | refine Wk (by decide) ?_ | refine Wl ?_ | refine Wm ?_ | refine Wn ?_) | ((with_reducible first | refine Wo (fun K hK => ?_) | refine Wq ?_ | refine Wr ?_); (try simp only [go_sem, List.forall_mem_nil, ↓guard_ite, ↓pick_ite, seval, encT_eq, inR_i64]); (repeat with_reducible refine And.intro (by first | omega | (with_reducible first | exact lens_encT | exact lens_encL | exact lens_encB | exact lens_encP) | (simp; done) | (simp only [List.length_take, List.length_map, List.length_append, maxLen_eq]; omega)) ?_); (try (with_reducible refine hK _ ?_; clear hK K))))
      simp only [go_sem, List.forall_mem_nil, ↓guard_ite, ↓pick_ite, seval, FinQ, AS.result, resAll, resOne, tupV, h, he]
theorem find1_a (b : Bd) (n : ByteArray) : ACalls Try.prog 62 [aBd b, aStr n] (aInt (cmpI b.1 n)) := by
  refine ac_subst_Find_1 (Nat.le_of_ble_eq_true rfl) fun C hC => ?_
  unfold ir_subst_Find_1
  repeat' (first | (with_reducible first | refine Wa ?_ | refine Wb ?_ | refine Wc ?_ | refine Wd ?_ | refine We ?_ | refine Wf ?_ | refine Wg ?_ | refine Wh ?_ | refine Wi ?_ | refine Wj ?_ | refine Wk (by decide) ?_ | refine Wl ?_ | refine Wm ?_ | refine Wn ?_) | refine CallG.mk _ (compare_a b.1 n) ?_ | ((with_reducible first | refine Wo (fun K hK => ?_) | refine Wq ?_ | refine Wr ?_); (try simp only [go_sem, List.forall_mem_nil, ↓guard_ite, ↓pick_ite, seval, encT_eq, inR_i64]); (repeat with_reducible refine And.intro (by first | omega | (with_reducible first | exact lens_encT | exact lens_encL | exact lens_encB | exact lens_encP) | (simp; done) | (simp only [List.length_take, List.length_map, List.length_append, maxLen_eq]; omega)) ?_); (try (with_reducible refine hK _ ?_; clear hK K))))
  simp only [go_sem, List.forall_mem_nil, ↓guard_ite, ↓pick_ite, seval, FinQ, AS.result, resAll, resOne, tupV]
theorem cmpI_neg {a b : ByteArray} : cmpI a b < 0 ↔ sLt a b = true := by
  unfold cmpI
  split
  · rename_i h; simp [h]
  · rename_i h
    split <;> simp [h]
theorem cmpI_zero {a b : ByteArray} : cmpI a b = 0 ↔ a = b := by
  unfold cmpI
  split
  · rename_i h
    constructor
    · intro h'; cases h'
    · intro e; subst e; rw [sLt_irrefl] at h; cases h
  · split <;> simp_all
def foundAt (l : List Bd) (n : ByteArray) (i : Nat) : Bool := match l[i]? with
  | some b => decide (b.1 = n)
  | none => false
theorem find1_S (b : Bd) (n : ByteArray) (S : AStore) : ACallsS Try.prog 62 [aBd b, aStr n] S (aInt (cmpI b.1 n)) S := (find1_a b n).toS rfl
theorem half {i j : Nat} (h : i < j) : (((i : Int) + j).fdiv 2) = (((i + j) / 2 : Nat) : Int) ∧ i ≤ (i + j) / 2 ∧ (i + j) / 2 < j := by
  refine ⟨?_, by omega, by omega⟩
  rw [Int.fdiv_eq_ediv_of_nonneg _ (by omega)]
  omega
theorem inR_u64 (n : Int) : inR .u64 n ↔ 0 ≤ n ∧ n ≤ 18446744073709551615 := by
  simp [inR, IntKind.min, IntKind.max, IntKind.signed, IntKind.bits]
theorem search_a (l : List Bd) (h40 : l.length ≤ 100000) (ho : Ordered l) (n : ByteArray) :
    ∃ i : Nat, i ≤ l.length ∧ (∀ k b, l[k]? = some b → k < i → sLt b.1 n = true) ∧ (∀ k b, l[k]? = some b → i ≤ k → sLt b.1 n = false) ∧
      ACalls Try.prog 61 [aBds l, aStr n, .one (.fn 62 [])] (.tup [aInt i, aBool (foundAt l n i)]) := by
  obtain ⟨i0, hi0, hlo, hhi⟩ : ∃ i : Nat, i ≤ l.length ∧ (∀ k b, l[k]? = some b → k < i → sLt b.1 n = true) ∧ (∀ k b, l[k]? = some b → i ≤ k → sLt b.1 n = false) := by
    clear h40
    induction l with
    | nil => exact ⟨0, by simp, by simp, by simp⟩
    | cons c l ih =>
      obtain ⟨o1, o2⟩ := List.pairwise_cons.1 ho
      obtain ⟨i, q1, q2, q3⟩ := ih o2
      cases hc : sLt c.1 n with
      | true =>
        refine ⟨i + 1, by simp; omega, fun k b hk hki => ?_, fun k b hk hki => ?_⟩
        · cases k with
          | zero => simp at hk; subst hk; exact hc
          | succ k => exact q2 k b (by simpa using hk) (by omega)
        · cases k with
          | zero => omega
          | succ k => exact q3 k b (by simpa using hk) (by omega)
      | false =>
        refine ⟨0, by simp, fun k b hk hki => by omega, fun k b hk hki => ?_⟩
        cases k with
        | zero => simp at hk; subst hk; exact hc
        | succ k =>
          have hm := mem_of_get (show l[k]? = some b by simpa using hk)
          cases hb : sLt b.1 n with
          | false => rfl
          | true => have := sLt_trans (o1 b hm) hb; rw [hc] at this; cases this
  refine ⟨i0, hi0, hlo, hhi, ?_⟩
  have hplain : plainF Try.prog 62 = true := by kernel_rfl
  refine ac_slices_BinarySearchFunc_metaprune_api_Bind_metaprune_api_Bind_string (Nat.le_of_ble_eq_true rfl) fun C hC => ?_
  unfold ir_slices_BinarySearchFunc_metaprune_api_Bind_metaprune_api_Bind_string
  repeat' (first | (with_reducible first | refine Wa ?_ | refine Wb ?_ | refine Wc ?_ | refine Wd ?_ | refine We ?_ | refine Wf ?_ | refine Wg ?_ | refine Wh ?_ | refine Wi ?_ | refine Wj ?_ | refine Wk (by decide) ?_ | refine Wl ?_ | refine Wm ?_ | refine Wn ?_) | ((with_reducible first | refine Wo (fun K hK => ?_) | refine Wq ?_ | refine Wr ?_); (try simp only [go_sem, List.forall_mem_nil, ↓guard_ite, ↓pick_ite, seval, encT_eq, inR_i64]); (repeat with_reducible refine And.intro (by first | omega | (with_reducible first | exact lens_encT | exact lens_encL | exact lens_encB | exact lens_encP) | (simp; done) | (simp only [List.length_take, List.length_map, List.length_append, maxLen_eq]; omega)) ?_); (try (with_reducible refine hK _ ?_; clear hK K))))
  refine IWP.loop (fun m s => ∃ i j : Nat, i ≤ i0 ∧ i0 ≤ j ∧ j ≤ l.length ∧ m = j - i ∧ s.env 0 = aBds l ∧ s.env 1 = aStr n ∧ s.env 2 = .one (.fn 62 []) ∧ s.env 8 = aInt l.length ∧ s.env 9 = aInt i ∧ s.env 10 = aInt j) l.length ⟨0, l.length, Nat.zero_le _, hi0, Nat.le_refl _, rfl, rfl, rfl, rfl, rfl, rfl, rfl⟩ ?_
  rintro m ⟨env, S⟩ ⟨i, j, hi, hj, hjl, rfl, e0, e1, e2, e8, e9, e10⟩
  simp only at e0 e1 e2 e8 e9 e10
  by_cases hlt : (i : Int) < j
  · obtain ⟨z1, z2, z3⟩ := half (show i < j by omega)
    obtain ⟨b, hb⟩ := get_lt (show (i + j) / 2 < l.length by omega)
    repeat' (first | (with_reducible first | refine Wa ?_ | refine Wb ?_ | refine Wc ?_ | refine Wd ?_ | refine We ?_ | refine Wf ?_ | refine Wg ?_ | refine Wh ?_ | refine Wi ?_ | refine Wj ?_ | refine Wk (by decide) ?_ | refine Wl ?_ | refine Wm ?_ | refine Wn ?_) | ((with_reducible first | refine Wo (fun K hK => ?_) | refine Wq ?_ | refine Wr ?_); (try simp only [go_sem, List.forall_mem_nil, ↓guard_ite, ↓pick_ite, seval, encT_eq, inR_i64, e0, e1, e2, e8, e9, e10, hlt]); (repeat with_reducible refine And.intro (by first | omega | (with_reducible first | exact lens_encT | exact lens_encL | exact lens_encB | exact lens_encP) | (simp; done) | (simp only [List.length_take, List.length_map, List.length_append, maxLen_eq]; omega)) ?_); (try (with_reducible refine hK _ ?_; clear hK K))))
    with_reducible refine Wp ?_
    simp only [go_sem, List.forall_mem_nil, ↓guard_ite, ↓pick_ite, seval, true_implies, false_implies, implies_true, decide_eq_true_eq, decide_eq_false_iff_not, Int.ofNat_lt, hlt]
    (try with_reducible refine ite_conj ?_)
    have hbits : (1 : Nat) ≤ IntKind.u64.bits := by show 1 ≤ 64; omega
    repeat' (first | (with_reducible first | refine Wa ?_ | refine Wb ?_ | refine Wc ?_ | refine Wd ?_ | refine We ?_ | refine Wf ?_ | refine Wg ?_ | refine Wh ?_ | refine Wi ?_ | refine Wj ?_ | refine Wk (by decide) ?_ | refine Wl ?_ | refine Wm ?_ | refine Wn ?_) | ((with_reducible first | refine Wo (fun K hK => ?_) | refine Wq ?_ | refine Wr ?_); (try simp only [go_sem, List.forall_mem_nil, ↓guard_ite, ↓pick_ite, seval, encT_eq, inR_i64, e0, e1, e2, e8, e9, e10, hlt, z1, inR_u64, hbits, hb, encB, hplain]); (repeat with_reducible refine And.intro (by first | omega | (with_reducible first | exact lens_encT | exact lens_encL | exact lens_encB | exact lens_encP) | (simp; done) | (simp only [List.length_take, List.length_map, List.length_append, maxLen_eq]; omega)) ?_); (try (with_reducible refine hK _ ?_; clear hK K))))
    refine ⟨_, _, find1_S b n _, ?_⟩
    cases hc : sLt b.1 n with
    | true =>
      have hneg : cmpI b.1 n < 0 := cmpI_neg.2 hc
      repeat' (first | (with_reducible first | refine Wa ?_ | refine Wb ?_ | refine Wc ?_ | refine Wd ?_ | refine We ?_ | refine Wf ?_ | refine Wg ?_ | refine Wh ?_ | refine Wi ?_ | refine Wj ?_ | refine Wk (by decide) ?_ | refine Wl ?_ | refine Wm ?_ | refine Wn ?_) | ((with_reducible first | refine Wo (fun K hK => ?_) | refine Wq ?_ | refine Wr ?_); (try simp only [go_sem, List.forall_mem_nil, ↓guard_ite, ↓pick_ite, seval, encT_eq, inR_i64, hneg]); (repeat with_reducible refine And.intro (by first | omega | (with_reducible first | exact lens_encT | exact lens_encL | exact lens_encB | exact lens_encP) | (simp; done) | (simp only [List.length_take, List.length_map, List.length_append, maxLen_eq]; omega)) ?_); (try (with_reducible refine hK _ ?_; clear hK K))))
      with_reducible refine Wp ?_
      simp only [go_sem, List.forall_mem_nil, ↓guard_ite, ↓pick_ite, seval, true_implies, false_implies, implies_true, decide_eq_true_eq, decide_eq_false_iff_not, Int.ofNat_lt, hneg]
      (try with_reducible refine ite_conj ?_)
      repeat' (first | (with_reducible first | refine Wa ?_ | refine Wb ?_ | refine Wc ?_ | refine Wd ?_ | refine We ?_ | refine Wf ?_ | refine Wg ?_ | refine Wh ?_ | refine Wi ?_ | refine Wj ?_ | refine Wk (by decide) ?_ | refine Wl ?_ | refine Wm ?_ | refine Wn ?_) | ((with_reducible first | refine Wo (fun K hK => ?_) | refine Wq ?_ | refine Wr ?_); (try simp only [go_sem, List.forall_mem_nil, ↓guard_ite, ↓pick_ite, seval, encT_eq, inR_i64, e0, e1, e2, e8, e9, e10]); (repeat with_reducible refine And.intro (by first | omega | (with_reducible first | exact lens_encT | exact lens_encL | exact lens_encB | exact lens_encP) | (simp; done) | (simp only [List.length_take, List.length_map, List.length_append, maxLen_eq]; omega)) ?_); (try (with_reducible refine hK _ ?_; clear hK K))))
      refine then_normal ⟨j - ((i + j) / 2 + 1), by omega, (i + j) / 2 + 1, j, ?_, hj, hjl, rfl, ?_⟩
      · rcases Nat.lt_or_ge ((i + j) / 2) i0 with h | h
        · omega
        · rw [hhi _ b hb h] at hc; cases hc
      · simp only [go_sem, List.forall_mem_nil, ↓guard_ite, ↓pick_ite, seval, encT_eq, inR_i64, e0, e1, e2, e8, e9, e10]
        congr 3
    | false =>
      have hneg : ¬ cmpI b.1 n < 0 := fun h => by rw [cmpI_neg.1 h] at hc; cases hc
      repeat' (first | (with_reducible first | refine Wa ?_ | refine Wb ?_ | refine Wc ?_ | refine Wd ?_ | refine We ?_ | refine Wf ?_ | refine Wg ?_ | refine Wh ?_ | refine Wi ?_ | refine Wj ?_ | refine Wk (by decide) ?_ | refine Wl ?_ | refine Wm ?_ | refine Wn ?_) | ((with_reducible first | refine Wo (fun K hK => ?_) | refine Wq ?_ | refine Wr ?_); (try simp only [go_sem, List.forall_mem_nil, ↓guard_ite, ↓pick_ite, seval, encT_eq, inR_i64, hneg]); (repeat with_reducible refine And.intro (by first | omega | (with_reducible first | exact lens_encT | exact lens_encL | exact lens_encB | exact lens_encP) | (simp; done) | (simp only [List.length_take, List.length_map, List.length_append, maxLen_eq]; omega)) ?_); (try (with_reducible refine hK _ ?_; clear hK K))))
      with_reducible refine Wp ?_
      simp only [go_sem, List.forall_mem_nil, ↓guard_ite, ↓pick_ite, seval, true_implies, false_implies, implies_true, decide_eq_true_eq, decide_eq_false_iff_not, Int.ofNat_lt, hneg]
      (try with_reducible refine ite_conj ?_)
      repeat' (first | (with_reducible first | refine Wa ?_ | refine Wb ?_ | refine Wc ?_ | refine Wd ?_ | refine We ?_ | refine Wf ?_ | refine Wg ?_ | refine Wh ?_ | refine Wi ?_ | refine Wj ?_ | refine Wk (by decide) ?_ | refine Wl ?_ | refine Wm ?_ | refine Wn ?_) | ((with_reducible first | refine Wo (fun K hK => ?_) | refine Wq ?_ | refine Wr ?_); (try simp only [go_sem, List.forall_mem_nil, ↓guard_ite, ↓pick_ite, seval, encT_eq, inR_i64, e0, e1, e2, e8, e9, e10]); (repeat with_reducible refine And.intro (by first | omega | (with_reducible first | exact lens_encT | exact lens_encL | exact lens_encB | exact lens_encP) | (simp; done) | (simp only [List.length_take, List.length_map, List.length_append, maxLen_eq]; omega)) ?_); (try (with_reducible refine hK _ ?_; clear hK K))))
      refine then_normal ⟨(i + j) / 2 - i, by omega, i, (i + j) / 2, hi, ?_, by omega, rfl, ?_⟩
      · rcases Nat.lt_or_ge ((i + j) / 2) i0 with h | h
        · rw [hlo _ b hb h] at hc; cases hc
        · omega
      · simp only [go_sem, List.forall_mem_nil, ↓guard_ite, ↓pick_ite, seval, encT_eq, inR_i64, e0, e1, e2, e8, e9, e10]
  · have hii : i = i0 := by omega
    subst hii
    have hjj : j = i := by omega
    subst hjj
    repeat' (first | (with_reducible first | refine Wa ?_ | refine Wb ?_ | refine Wc ?_ | refine Wd ?_ | refine We ?_ | refine Wf ?_ | refine Wg ?_ | refine Wh ?_ | refine Wi ?_ | refine Wj ?_ | refine Wk (by decide) ?_ | refine Wl ?_ | refine Wm ?_ | refine Wn ?_) | ((with_reducible first | refine Wo (fun K hK => ?_) | refine Wq ?_ | refine Wr ?_); (try simp only [go_sem, List.forall_mem_nil, ↓guard_ite, ↓pick_ite, seval, encT_eq, inR_i64, e0, e1, e2, e8, e9, e10, hlt]); (repeat with_reducible refine And.intro (by first | omega | (with_reducible first | exact lens_encT | exact lens_encL | exact lens_encB | exact lens_encP) | (simp; done) | (simp only [List.length_take, List.length_map, List.length_append, maxLen_eq]; omega)) ?_); (try (with_reducible refine hK _ ?_; clear hK K))))
    with_reducible refine Wp ?_
    simp only [go_sem, List.forall_mem_nil, ↓guard_ite, ↓pick_ite, seval, true_implies, false_implies, implies_true, decide_eq_true_eq, decide_eq_false_iff_not, Int.ofNat_lt, hlt]
    (try with_reducible refine ite_conj ?_)
    by_cases hil : (j : Int) < l.length
    · obtain ⟨b, hb⟩ := get_lt (show j < l.length by omega)
      repeat' (first | (with_reducible first | refine Wa ?_ | refine Wb ?_ | refine Wc ?_ | refine Wd ?_ | refine We ?_ | refine Wf ?_ | refine Wg ?_ | refine Wh ?_ | refine Wi ?_ | refine Wj ?_ | refine Wk (by decide) ?_ | refine Wl ?_ | refine Wm ?_ | refine Wn ?_) | ((with_reducible first | refine Wo (fun K hK => ?_) | refine Wq ?_ | refine Wr ?_); (try simp only [go_sem, List.forall_mem_nil, ↓guard_ite, ↓pick_ite, seval, encT_eq, inR_i64, e0, e1, e2, e8, e9, e10, hil, hb, encB, hplain]); (repeat with_reducible refine And.intro (by first | omega | (with_reducible first | exact lens_encT | exact lens_encL | exact lens_encB | exact lens_encP) | (simp; done) | (simp only [List.length_take, List.length_map, List.length_append, maxLen_eq]; omega)) ?_); (try (with_reducible refine hK _ ?_; clear hK K))))
      refine ⟨_, _, find1_S b n _, ?_⟩
      repeat' (first | (with_reducible first | refine Wa ?_ | refine Wb ?_ | refine Wc ?_ | refine Wd ?_ | refine We ?_ | refine Wf ?_ | refine Wg ?_ | refine Wh ?_ | refine Wi ?_ | refine Wj ?_ | refine Wk (by decide) ?_ | refine Wl ?_ | refine Wm ?_ | refine Wn ?_) | ((with_reducible first | refine Wo (fun K hK => ?_) | refine Wq ?_ | refine Wr ?_); (try simp only [go_sem, List.forall_mem_nil, ↓guard_ite, ↓pick_ite, seval, encT_eq, inR_i64]); (repeat with_reducible refine And.intro (by first | omega | (with_reducible first | exact lens_encT | exact lens_encL | exact lens_encB | exact lens_encP) | (simp; done) | (simp only [List.length_take, List.length_map, List.length_append, maxLen_eq]; omega)) ?_); (try (with_reducible refine hK _ ?_; clear hK K))))
      simp only [go_sem, List.forall_mem_nil, ↓guard_ite, ↓pick_ite, seval, FinQ, AS.result, resAll, resOne, tupV]
      unfold foundAt
      rw [hb]
      simp only [cmpI_zero]
    · repeat' (first | (with_reducible first | refine Wa ?_ | refine Wb ?_ | refine Wc ?_ | refine Wd ?_ | refine We ?_ | refine Wf ?_ | refine Wg ?_ | refine Wh ?_ | refine Wi ?_ | refine Wj ?_ | refine Wk (by decide) ?_ | refine Wl ?_ | refine Wm ?_ | refine Wn ?_) | ((with_reducible first | refine Wo (fun K hK => ?_) | refine Wq ?_ | refine Wr ?_); (try simp only [go_sem, List.forall_mem_nil, ↓guard_ite, ↓pick_ite, seval, encT_eq, inR_i64, e0, e1, e2, e8, e9, e10, hil]); (repeat with_reducible refine And.intro (by first | omega | (with_reducible first | exact lens_encT | exact lens_encL | exact lens_encB | exact lens_encP) | (simp; done) | (simp only [List.length_take, List.length_map, List.length_append, maxLen_eq]; omega)) ?_); (try (with_reducible refine hK _ ?_; clear hK K))))
      simp only [go_sem, List.forall_mem_nil, ↓guard_ite, ↓pick_ite, seval, FinQ, AS.result, resAll, resOne, tupV]
      unfold foundAt
      rw [List.getElem?_eq_none (by omega)]
theorem found_lookup {l : List Bd} {n : ByteArray} {i : Nat} (hlo : ∀ k b, l[k]? = some b → k < i → sLt b.1 n = true) (hhi : ∀ k b, l[k]? = some b → i ≤ k → sLt b.1 n = false) (ho : Ordered l) :
    (∃ b, l[i]? = some b ∧ b.1 = n ∧ lookup l n = some b.2) ∨ (foundAt l n i = false ∧ lookup l n = none) := by
  have hlow : ∀ c ∈ l.take i, c.1 ≠ n := fun c hc e => by
    obtain ⟨k, hk, rfl⟩ := List.getElem_of_mem hc
    rw [List.length_take] at hk
    have := hlo k l[k] (List.getElem?_eq_getElem (by omega)) (by omega)
    rw [List.getElem_take] at e
    rw [e, sLt_irrefl] at this
    cases this
  by_cases hil : i < l.length
  · obtain ⟨b, hb⟩ := get_lt hil
    by_cases he : b.1 = n
    · exact .inl ⟨b, hb, he, lookup_take hb he hlow⟩
    · refine .inr ⟨by unfold foundAt; rw [hb]; exact decide_eq_false he, lookup_none fun c hc e => ?_⟩
      obtain ⟨k, hk, rfl⟩ := List.getElem_of_mem hc
      have hck := List.getElem?_eq_getElem hk
      rcases Nat.lt_trichotomy k i with h | h | h
      · have := hlo k _ hck h
        rw [e, sLt_irrefl] at this
        cases this
      · subst h
        rw [hb] at hck
        cases hck
        exact he e
      · have h1 := ordered_get ho hb hck h
        rw [e, hhi i b hb (Nat.le_refl _)] at h1
        cases h1
  · refine .inr ⟨by unfold foundAt; rw [List.getElem?_eq_none (by omega)], lookup_none fun c hc => hlow c ?_⟩
    rw [List.take_of_length_le (by omega)]
    exact hc
theorem find_a (l : List Bd) (h40 : l.length ≤ 100000) (ho : Ordered l) (n : ByteArray) : ACalls Try.prog 43 [aBds l, aStr n] (.tup [aTm ((lookup l n).getD Tm.nil), aBool (lookup l n).isSome]) := by
  obtain ⟨i, hi, hlo, hhi, hs⟩ := search_a l h40 ho n
  refine ac_subst_Find (Nat.le_of_ble_eq_true rfl) fun C hC => ?_
  unfold ir_subst_Find
  repeat' (first | (with_reducible first | refine Wa ?_ | refine Wb ?_ | refine Wc ?_ | refine Wd ?_ | refine We ?_ | refine Wf ?_ | refine Wg ?_ | refine Wh ?_ | refine Wi ?_ | refine Wj ?_ | refine Wk (by decide) ?_ | refine Wl ?_ | refine Wm ?_ | refine Wn ?_) | ((with_reducible first | refine Wo (fun K hK => ?_) | refine Wq ?_ | refine Wr ?_); (try simp only [go_sem, List.forall_mem_nil, ↓guard_ite, ↓pick_ite, seval, encT_eq, inR_i64]); (repeat with_reducible refine And.intro (by first | omega | (with_reducible first | exact lens_encT | exact lens_encL | exact lens_encB | exact lens_encP) | (simp; done) | (simp only [List.length_take, List.length_map, List.length_append, maxLen_eq]; omega)) ?_); (try (with_reducible refine hK _ ?_; clear hK K))))
  refine ⟨_, hs, ?_⟩
  rcases found_lookup hlo hhi ho with ⟨b, hb, he, hl⟩ | ⟨hf, hl⟩
  · have hf : foundAt l n i = true := by unfold foundAt; rw [hb]; exact decide_eq_true he
    repeat' (first | (with_reducible first | refine Wa ?_ | refine Wb ?_ | refine Wc ?_ | refine Wd ?_ | refine We ?_ | refine Wf ?_ | refine Wg ?_ | refine Wh ?_ | refine Wi ?_ | refine Wj ?_ | refine Wk (by decide) ?_ | refine Wl ?_ | refine Wm ?_ | refine Wn ?_) | ((with_reducible first | refine Wo (fun K hK => ?_) | refine Wq ?_ | refine Wr ?_); (try simp only [go_sem, List.forall_mem_nil, ↓guard_ite, ↓pick_ite, seval, encT_eq, inR_i64, hf]); (repeat with_reducible refine And.intro (by first | omega | (with_reducible first | exact lens_encT | exact lens_encL | exact lens_encB | exact lens_encP) | (simp; done) | (simp only [List.length_take, List.length_map, List.length_append, maxLen_eq]; omega)) ?_); (try (with_reducible refine hK _ ?_; clear hK K))))
    with_reducible refine Wp ?_
    simp only [go_sem, List.forall_mem_nil, ↓guard_ite, ↓pick_ite, seval, true_implies, false_implies, implies_true, decide_eq_true_eq, decide_eq_false_iff_not, Int.ofNat_lt, hf]
    (try with_reducible refine ite_conj ?_)
    repeat' (first | (with_reducible first | refine Wa ?_ | refine Wb ?_ | refine Wc ?_ | refine Wd ?_ | refine We ?_ | refine Wf ?_ | refine Wg ?_ | refine Wh ?_ | refine Wi ?_ | refine Wj ?_ | refine Wk (by decide) ?_ | refine Wl ?_ | refine Wm ?_ | refine Wn ?_) | ((with_reducible first | refine Wo (fun K hK => ?_) | refine Wq ?_ | refine Wr ?_); (try simp only [go_sem, List.forall_mem_nil, ↓guard_ite, ↓pick_ite, seval, encT_eq, inR_i64, hb, encB]); (repeat with_reducible refine And.intro (by first | omega | (with_reducible first | exact lens_encT | exact lens_encL | exact lens_encB | exact lens_encP) | (simp; done) | (simp only [List.length_take, List.length_map, List.length_append, maxLen_eq]; omega)) ?_); (try (with_reducible refine hK _ ?_; clear hK K))))
    simp only [go_sem, List.forall_mem_nil, ↓guard_ite, ↓pick_ite, seval, FinQ, AS.result, resAll, resOne, tupV]
    rw [hl]
    rfl
  · repeat' (first | (with_reducible first | refine Wa ?_ | refine Wb ?_ | refine Wc ?_ | refine Wd ?_ | refine We ?_ | refine Wf ?_ | refine Wg ?_ | refine Wh ?_ | refine Wi ?_ | refine Wj ?_ | refine Wk (by decide) ?_ | refine Wl ?_ | refine Wm ?_ | refine Wn ?_) | ((with_reducible first | refine Wo (fun K hK => ?_) | refine Wq ?_ | refine Wr ?_); (try simp only [go_sem, List.forall_mem_nil, ↓guard_ite, ↓pick_ite, seval, encT_eq, inR_i64, hf]); (repeat with_reducible refine And.intro (by first | omega | (with_reducible first | exact lens_encT | exact lens_encL | exact lens_encB | exact lens_encP) | (simp; done) | (simp only [List.length_take, List.length_map, List.length_append, maxLen_eq]; omega)) ?_); (try (with_reducible refine hK _ ?_; clear hK K))))
    with_reducible refine Wp ?_
    simp only [go_sem, List.forall_mem_nil, ↓guard_ite, ↓pick_ite, seval, true_implies, false_implies, implies_true, decide_eq_true_eq, decide_eq_false_iff_not, Int.ofNat_lt, hf]
    (try with_reducible refine ite_conj ?_)
    repeat' (first | (with_reducible first | refine Wa ?_ | refine Wb ?_ | refine Wc ?_ | refine Wd ?_ | refine We ?_ | refine Wf ?_ | refine Wg ?_ | refine Wh ?_ | refine Wi ?_ | refine Wj ?_ | refine Wk (by decide) ?_ | refine Wl ?_ | refine Wm ?_ | refine Wn ?_) | ((with_reducible first | refine Wo (fun K hK => ?_) | refine Wq ?_ | refine Wr ?_); (try simp only [go_sem, List.forall_mem_nil, ↓guard_ite, ↓pick_ite, seval, encT_eq, inR_i64]); (repeat with_reducible refine And.intro (by first | omega | (with_reducible first | exact lens_encT | exact lens_encL | exact lens_encB | exact lens_encP) | (simp; done) | (simp only [List.length_take, List.length_map, List.length_append, maxLen_eq]; omega)) ?_); (try (with_reducible refine hK _ ?_; clear hK K))))
    simp only [go_sem, List.forall_mem_nil, ↓guard_ite, ↓pick_ite, seval, FinQ, AS.result, resAll, resOne, tupV]
    rw [hl]
    rfl
end Go.Proofs.Ytohgkbgpcnmdpaa
