/-
  Part 12 of the texts: IrRew; PSubst; PSort; PMatch; PPair. Conditions: none.
-/
import Derived.Test.YtkekmeiiikkabaaRewE11
namespace Go.Proofs.Ytkekmeiiikkabaa
open Go Go.RowKit
set_option maxRecDepth 100000

def ir_slices_ContainsFunc_string_string : IR :=
  (.seq
  (.ops
  [.mk (some 4) none (.mov (.c (.one (.st (.bool false)))))
  .no])
  (.seq
  (.ops
  [.mk (some 5) none (.mov (.t 0)) .no, .mk (some 6) none (.mov (.t 1)) .no, .mk (some 7) none (.callS 53 [.t 5, .t 6]) .no, .mk (some 8) none (.bin .geq (.t 7) (.c (.one (.st (.int .i64 0)))))
  .no, .mk (some 4) none (.mov (.t 8)) .no])
  .ret))
theorem tr_slices_ContainsFunc_string_string : trCode Try.prog 9 [7] (Try.f35.body.getD .skip) = some ir_slices_ContainsFunc_string_string := by kernel_rfl
theorem acS_slices_ContainsFunc_string_string {xs : List AV} {S S' : AStore} {r : AV} (hn : xs.length ≤ 9) (h : Clean S → ∀ C : Ctx, C.n = 9 → IWP Try.prog C [7] ir_slices_ContainsFunc_string_string (FinS C [.t 4] r S') (AS.startS xs S)) : ACallsS Try.prog 35 xs S r S' :=
  acallsS_of Try.func35 rfl tr_slices_ContainsFunc_string_string rfl hn h

def ir_slices_IndexFunc_string_string : IR :=
  (.seq
  (.ops
  [.mk (some 4) none (.mov (.c (.one (.st (.int .i64 0)))))
  .no])
  (.seq
  (.seq
  (.ops
  [.mk (some 6) none (.mov (.t 0)) .no, .mk (some 7) none (.len false (.t 6)) .no, .mk (some 8) none (.mov (.c (.one (.st (.int .i64 0)))))
  .no])
  (.block 0
  (.loop
  (.seq
  (.ops
  [.mk (some 9) none (.bin .lss (.t 8) (.t 7))
  .no])
  (.seq (.cond (.t 9) .skip (.exit 0))
  (.seq
  (.block 1
  (.seq
  (.ops
  [.mk (some 10) none (.mov (.t 8)) .no, .mk (some 5) none (.mov (.t 10)) .no])
  (.seq
  (.ops
  [.mk (some 11) none (.mov (.t 1)) .no, .mk (some 12) none (.mov (.t 0)) .no, .mk (some 13) none (.mov (.t 5)) .no, .mk (some 14) none (.indexAddr 1 (.t 12) (.t 13))
  .no, .mk (some 15) none (.load false 1 (.t 14)) .no, .mk (some 16) none (.callV (.t 11) [.t 15])
  .no])
  (.cond (.t 16)
  (.seq
  (.ops
  [.mk (some 17) none (.mov (.t 5)) .no, .mk (some 4) none (.mov (.t 17)) .no])
  .ret)
  .skip))))
  (.ops
  [.mk (some 18) none (.bin .add (.t 8) (.c (.one (.st (.int .i64 1)))))
  .no, .mk (some 8) none (.mov (.t 18)) .no])))))))
  (.seq
  (.ops
  [.mk (some 4) none (.mov (.c (.one (.st (.int .i64 (-1))))))
  .no])
  .ret)))
theorem tr_slices_IndexFunc_string_string : trCode Try.prog 19 [] (Try.f53.body.getD .skip) = some ir_slices_IndexFunc_string_string := by kernel_rfl
theorem acS_slices_IndexFunc_string_string {xs : List AV} {S S' : AStore} {r : AV} (hn : xs.length ≤ 19) (h : Clean S → ∀ C : Ctx, C.n = 19 → IWP Try.prog C [] ir_slices_IndexFunc_string_string (FinS C [.t 4] r S') (AS.startS xs S)) : ACallsS Try.prog 53 xs S r S' :=
  acallsS_of Try.func53 rfl tr_slices_IndexFunc_string_string rfl hn h

def ir_rewrite_Check_1 : IR :=
  (.seq
  (.ops
  [.mk (some 3) none (.mov (.c (.one (.st (.bool false)))))
  .no])
  (.seq
  (.ops
  [.mk (some 4) none (.load false 1 (.t 1)) .no, .mk (some 5) none (.mov (.t 0)) .no, .mk (some 6) none (.call 37 [.t 4, .t 5]) .no, .mk (some 7) none (.un .not (.t 6)) .no, .mk (some 3) none (.mov (.t 7)) .no])
  .ret))
theorem tr_rewrite_Check_1 : trCode Try.prog 8 [] (Try.f36.body.getD .skip) = some ir_rewrite_Check_1 := by kernel_rfl
theorem acS_rewrite_Check_1 {xs : List AV} {S S' : AStore} {r : AV} (hn : xs.length ≤ 8) (h : Clean S → ∀ C : Ctx, C.n = 8 → IWP Try.prog C [] ir_rewrite_Check_1 (FinS C [.t 3] r S') (AS.startS xs S)) : ACallsS Try.prog 36 xs S r S' :=
  acallsS_of Try.func36 rfl tr_rewrite_Check_1 rfl hn h

def ir_rewrite_Check : IR :=
  (.seq
  (.ops
  [.mk (some 2) none (.mov (.c (.one (.st (.int .i64 0)))))
  .no])
  (.seq
  (.seq
  (.ops
  [.mk (some 7) none (.mov (.t 0)) .no, .mk (some 8) none (.len false (.t 7)) .no, .mk (some 9) none (.bin .gtr (.t 8) (.c (.one (.st (.int .i64 40)))))
  .no])
  (.cond (.t 9)
  (.seq
  (.ops
  [.mk (some 2) none (.mov (.c (.one (.st (.int .i64 3)))))
  .no])
  .ret)
  .skip))
  (.seq
  (.seq
  (.ops
  [.mk (some 10) none (.mov (.t 0)) .no, .mk (some 11) none (.len false (.t 10)) .no, .mk (some 12) none (.mov (.c (.one (.st (.int .i64 0)))))
  .no])
  (.block 0
  (.loop
  (.seq
  (.ops
  [.mk (some 13) none (.bin .lss (.t 12) (.t 11))
  .no])
  (.seq (.cond (.t 13) .skip (.exit 0))
  (.seq
  (.block 1
  (.seq
  (.ops
  [.mk (some 14) none (.indexAddr 4 (.t 10) (.t 12))
  .no, .mk (some 15) none (.load true 4 (.t 14)) .no, .mk (some 4) none
  (.alloc 45
  [.st (.str (ByteArray.mk (#[]))), .full [], .st (.str (ByteArray.mk (#[]))), .full []])
  .no, .mk none none (.store 4 (.t 4) (.t 15))
  .no])
  (.seq
  (.seq
  (.ops
  [.mk (some 16) none (.fieldAddr 0 (.t 4)) .no, .mk (some 17) none (.load true 2 (.t 16)) .no, .mk (some 18) none (.fieldAddr 2 (.t 4)) .no, .mk (some 19) none (.load true 2 (.t 18)) .no, .mk (some 20) none (.call 32 [.t 17, .t 19])
  .no, .mk (some 5) none (.mov (.t 20)) .no])
  (.seq
  (.ops
  [.mk (some 21) none (.mov (.t 5)) .no, .mk (some 22) none (.bin .neq (.t 21) (.c (.one (.st (.int .i64 0)))))
  .no])
  (.cond (.t 22)
  (.seq
  (.ops
  [.mk (some 23) none (.mov (.t 5)) .no, .mk (some 2) none (.mov (.t 23)) .no])
  .ret)
  .skip)))
  (.seq
  (.seq
  (.ops
  [.mk (some 24) none (.fieldAddr 0 (.t 4)) .no, .mk (some 25) none (.fieldAddr 0 (.t 24)) .no, .mk (some 26) none (.load false 1 (.t 25)) .no, .mk (some 27) none (.call 33 [.t 26]) .no])
  (.cond (.t 27)
  (.seq
  (.ops
  [.mk (some 2) none (.mov (.c (.one (.st (.int .i64 2)))))
  .no])
  .ret)
  .skip))
  (.seq
  (.ops
  [.mk (some 28) none (.fieldAddr 0 (.t 4)) .no, .mk (some 29) none (.load true 2 (.t 28)) .no, .mk (some 30) none (.call 34 [.t 29]) .no, .mk (some 6) none (.alloc 47 [.full []]) .no, .mk none none (.store 1 (.t 6) (.t 30))
  .no])
  (.seq
  (.ops
  [.mk (some 31) none (.fieldAddr 2 (.t 4)) .no, .mk (some 32) none (.load true 2 (.t 31)) .no, .mk (some 33) none (.call 34 [.t 32]) .no, .mk (some 34) none (.makeFunc 36 [.t 6]) .no, .mk (some 35) none (.callS 35 [.t 33, .t 34])
  .no])
  (.cond (.t 35)
  (.seq
  (.ops
  [.mk (some 2) none (.mov (.c (.one (.st (.int .i64 15)))))
  .no])
  .ret)
  .skip)))))))
  (.ops
  [.mk (some 36) none (.bin .add (.t 12) (.c (.one (.st (.int .i64 1)))))
  .no, .mk (some 12) none (.mov (.t 36)) .no])))))))
  (.seq
  (.ops
  [.mk (some 2) none (.mov (.c (.one (.st (.int .i64 0)))))
  .no])
  .ret))))
theorem tr_rewrite_Check : trCode Try.prog 37 [35] (Try.f11.body.getD .skip) = some ir_rewrite_Check := by kernel_rfl
theorem ac_rewrite_Check {xs : List AV} {r : AV} (hn : xs.length ≤ 37) (h : ∀ C : Ctx, C.n = 37 → IWP Try.prog C [35] ir_rewrite_Check (FinQ [.t 2] r) (AS.start xs)) : ACalls Try.prog 11 xs r :=
  acalls_of Try.func11 rfl tr_rewrite_Check rfl hn h
def ir_rewrite_Args : IR :=
  (.seq
  (.ops
  [.mk (some 3) none (.box 25 (.t 1)) .no, .mk (some 4) none (.mov (.c (.one (.st (.int .i64 0)))))
  .no])
  (.seq
  (.seq
  (.ops
  [.mk (some 6) none (.mov (.t 0)) .no, .mk (some 7) none (.call 11 [.t 6]) .no, .mk (some 5) none (.mov (.t 7)) .no])
  (.seq
  (.ops
  [.mk (some 8) none (.mov (.t 5)) .no, .mk (some 9) none (.bin .neq (.t 8) (.c (.one (.st (.int .i64 0)))))
  .no])
  (.cond (.t 9)
  (.seq
  (.ops
  [.mk (some 10) none (.mov (.t 5)) .no, .mk (some 4) none (.mov (.t 10)) .no])
  .ret)
  .skip)))
  (.seq
  (.ops
  [.mk (some 11) none (.load true 2 (.t 3)) .no, .mk (some 12) none (.call 44 [.t 11]) .no, .mk (some 4) none (.mov (.t 12)) .no])
  .ret)))
theorem tr_rewrite_Args : trCode Try.prog 13 [] (Try.f30.body.getD .skip) = some ir_rewrite_Args := by kernel_rfl
theorem ac_rewrite_Args {xs : List AV} {r : AV} (hn : xs.length ≤ 13) (h : ∀ C : Ctx, C.n = 13 → IWP Try.prog C [] ir_rewrite_Args (FinQ [.t 4] r) (AS.start xs)) : ACalls Try.prog 30 xs r :=
  acalls_of Try.func30 rfl tr_rewrite_Args rfl hn h
def ir_rewrite_Root : IR :=
  (.seq
  (.ops
  [.mk (some 4) none (.box 25 (.t 1)) .no, .mk (some 6) none
  (.alloc 25 [.st (.str (ByteArray.mk (#[]))), .full []]) .no, .mk (some 7) none (.mov (.c (.one (.st (.int .i64 0)))))
  .no, .mk (some 8) none (.mov (.c (.one (.st (.int .i64 0)))))
  .no])
  (.seq
  (.seq
  (.ops
  [.mk (some 14) none (.mov (.t 2)) .no, .mk (some 9) none (.mov (.t 14)) .no])
  (.block 0
  (.loop
  (.seq
  (.seq
  (.ops
  [.mk (some 15) none (.mov (.t 9)) .no, .mk (some 16) none (.mov (.t 0)) .no, .mk (some 17) none (.len false (.t 16)) .no, .mk (some 18) none (.bin .lss (.t 15) (.t 17))
  .no])
  (.cond (.t 18) .skip (.exit 0)))
  (.seq
  (.block 1
  (.seq
  (.ops
  [.mk (some 22) none (.mov (.t 0)) .no, .mk (some 23) none (.mov (.t 9)) .no, .mk (some 24) none (.indexAddr 4 (.t 22) (.t 23))
  .no, .mk (some 25) none (.fieldAddr 0 (.t 24)) .no, .mk (some 26) none (.load true 2 (.t 25)) .no, .mk (some 27) none (.load true 2 (.t 4)) .no, .mk (some 28) none (.call 67 [.t 26, .t 27])
  .no, .mk (some 21) none (.mov (.t 28)) .no, .mk (some 29) none (.extract 0 (.t 21)) .no, .mk (some 30) none (.extract 1 (.t 21)) .no, .mk (some 10) none (.mov (.t 29)) .no, .mk (some 11) none (.mov (.t 30)) .no])
  (.seq
  (.ops [.mk (some 31) none (.mov (.t 11)) .no])
  (.cond (.t 31)
  (.seq
  (.ops
  [.mk (some 33) none (.mov (.t 10)) .no, .mk (some 34) none (.mov (.t 0)) .no, .mk (some 35) none (.mov (.t 9)) .no, .mk (some 36) none (.indexAddr 4 (.t 34) (.t 35))
  .no, .mk (some 37) none (.fieldAddr 2 (.t 36)) .no, .mk (some 38) none (.load true 2 (.t 37)) .no, .mk (some 39) none (.call 68 [.t 33, .t 38])
  .no, .mk (some 32) none (.mov (.t 39)) .no, .mk (some 40) none (.extract 0 (.t 32)) .no, .mk (some 41) none (.extract 1 (.t 32)) .no, .mk (some 12) none
  (.alloc 25 [.st (.str (ByteArray.mk (#[]))), .full []])
  .no, .mk none none (.store 2 (.t 12) (.t 40))
  .no, .mk (some 13) none (.mov (.t 41)) .no])
  (.seq
  (.seq
  (.ops
  [.mk (some 42) none (.mov (.t 13)) .no, .mk (some 43) none (.un .not (.t 42)) .no])
  (.cond (.t 43)
  (.seq
  (.ops
  [.mk (some 44) none
  (.build [.st (.str (ByteArray.mk (#[]))), .full []] [])
  .no, .mk (some 45) none (.mov (.t 9)) .no, .mk none none (.store 2 (.t 6) (.t 44))
  .no, .mk (some 7) none (.mov (.t 45)) .no, .mk (some 8) none (.mov (.c (.one (.st (.int .i64 8)))))
  .no])
  .ret)
  .skip))
  (.seq
  (.ops
  [.mk (some 46) none (.load true 2 (.t 12)) .no, .mk (some 47) none (.mov (.t 9)) .no, .mk none none (.store 2 (.t 6) (.t 46))
  .no, .mk (some 7) none (.mov (.t 47)) .no, .mk (some 8) none (.mov (.c (.one (.st (.int .i64 0)))))
  .no])
  .ret)))
  .skip))))
  (.ops
  [.mk (some 19) none (.mov (.t 9)) .no, .mk (some 20) none (.bin .add (.t 19) (.c (.one (.st (.int .i64 1)))))
  .no, .mk (some 9) none (.mov (.t 20)) .no]))))))
  (.seq
  (.ops
  [.mk (some 48) none
  (.build [.st (.str (ByteArray.mk (#[]))), .full []] []) .no, .mk none none (.store 2 (.t 6) (.t 48)) .no, .mk (some 7) none (.mov (.c (.one (.st (.int .i64 (-1))))))
  .no, .mk (some 8) none (.mov (.c (.one (.st (.int .i64 0)))))
  .no])
  .ret)))
theorem tr_rewrite_Root : trCode Try.prog 49 [] (Try.f51.body.getD .skip) = some ir_rewrite_Root := by kernel_rfl
theorem ac_rewrite_Root {xs : List AV} {r : AV} (hn : xs.length ≤ 49) (h : ∀ C : Ctx, C.n = 49 → IWP Try.prog C [] ir_rewrite_Root (FinQ [.cell 6 true 2, .t 7, .t 8] r) (AS.start xs)) : ACalls Try.prog 51 xs r :=
  acalls_of Try.func51 rfl tr_rewrite_Root rfl hn h
def ir_rewrite_innermost : IR :=
  (.seq
  (.ops
  [.mk (some 3) none (.box 25 (.t 1)) .no, .mk (some 4) none
  (.alloc 25 [.st (.str (ByteArray.mk (#[]))), .full []]) .no, .mk (some 5) none (.mov (.c (.one (.st (.bool false)))))
  .no, .mk (some 6) none (.mov (.c (.one (.st (.int .i64 0)))))
  .no])
  (.seq
  (.seq
  (.ops
  [.mk (some 15) none (.fieldAddr 1 (.t 3)) .no, .mk (some 16) none (.load false 1 (.t 15)) .no, .mk (some 17) none (.len false (.t 16)) .no, .mk (some 18) none (.mov (.c (.one (.st (.int .i64 0)))))
  .no])
  (.block 0
  (.loop
  (.seq
  (.ops
  [.mk (some 19) none (.bin .lss (.t 18) (.t 17))
  .no])
  (.seq (.cond (.t 19) .skip (.exit 0))
  (.seq
  (.block 1
  (.seq
  (.ops
  [.mk (some 20) none (.mov (.t 18)) .no, .mk (some 7) none (.mov (.t 20)) .no])
  (.seq
  (.ops
  [.mk (some 22) none (.mov (.t 0)) .no, .mk (some 23) none (.fieldAddr 1 (.t 3)) .no, .mk (some 24) none (.load false 1 (.t 23)) .no, .mk (some 25) none (.mov (.t 7)) .no, .mk (some 26) none (.indexAddr 2 (.t 24) (.t 25))
  .no, .mk (some 27) none (.load true 2 (.t 26)) .no, .mk (some 28) none (.call 56 [.t 22, .t 27])
  .no, .mk (some 21) none (.mov (.t 28)) .no, .mk (some 29) none (.extract 0 (.t 21)) .no, .mk (some 30) none (.extract 1 (.t 21)) .no, .mk (some 31) none (.extract 2 (.t 21)) .no, .mk (some 8) none
  (.alloc 25 [.st (.str (ByteArray.mk (#[]))), .full []])
  .no, .mk none none (.store 2 (.t 8) (.t 29))
  .no, .mk (some 9) none (.mov (.t 30)) .no, .mk (some 10) none (.mov (.t 31)) .no])
  (.seq
  (.ops
  [.mk (some 32) none (.mov (.t 10)) .no, .mk (some 33) none (.bin .neq (.t 32) (.c (.one (.st (.int .i64 0)))))
  .no, .mk (some 34) none (.mov (.t 33)) .no, .mk (some 35) (some (34, false)) (.mov (.t 9)) .no, .mk (some 36) none
  (.pick (.t 34) (.c (.one (.st (.bool true)))) (.t 35))
  .no])
  (.cond (.t 36)
  (.seq
  (.ops
  [.mk (some 37) none (.fieldAddr 0 (.t 3)) .no, .mk (some 38) none (.load false 1 (.t 37)) .no, .mk (some 39) none (.fieldAddr 1 (.t 3)) .no, .mk (some 40) none (.load false 1 (.t 39)) .no, .mk (some 41) none (.callN 57 [.t 40]) .no, .mk (some 42) none
  (.build [.st (.str (ByteArray.mk (#[]))), .full []]
  [(0, 1, .t 38), (1, 1, .t 41)])
  .no, .mk (some 11) none
  (.alloc 25 [.st (.str (ByteArray.mk (#[]))), .full []])
  .no, .mk none none (.store 2 (.t 11) (.t 42))
  .no])
  (.seq
  (.ops
  [.mk (some 43) none (.fieldAddr 1 (.t 11)) .no, .mk (some 44) none (.load false 1 (.t 43)) .no, .mk (some 45) none (.mov (.t 7)) .no, .mk (some 46) none (.load true 2 (.t 8)) .no, .mk (some 47) none (.indexAddr 2 (.t 44) (.t 45))
  .no, .mk none none (.store 2 (.t 47) (.t 46))
  .no])
  (.seq
  (.ops
  [.mk (some 48) none (.load true 2 (.t 11)) .no, .mk (some 49) none (.mov (.t 9)) .no, .mk (some 50) none (.mov (.t 10)) .no, .mk none none (.store 2 (.t 4) (.t 48))
  .no, .mk (some 5) none (.mov (.t 49)) .no, .mk (some 6) none (.mov (.t 50)) .no])
  .ret)))
  .skip)))))
  (.ops
  [.mk (some 51) none (.bin .add (.t 18) (.c (.one (.st (.int .i64 1)))))
  .no, .mk (some 18) none (.mov (.t 51)) .no])))))))
  (.seq
  (.ops
  [.mk (some 53) none (.mov (.t 0)) .no, .mk (some 54) none (.load true 2 (.t 3)) .no, .mk (some 55) none (.call 51
  [.t 53, .t 54, .c (.one (.st (.int .i64 0)))])
  .no, .mk (some 52) none (.mov (.t 55)) .no, .mk (some 56) none (.extract 0 (.t 52)) .no, .mk (some 57) none (.extract 1 (.t 52)) .no, .mk (some 58) none (.extract 2 (.t 52)) .no, .mk (some 12) none
  (.alloc 25 [.st (.str (ByteArray.mk (#[]))), .full []]) .no, .mk none none (.store 2 (.t 12) (.t 56)) .no, .mk (some 13) none (.mov (.t 57)) .no, .mk (some 14) none (.mov (.t 58)) .no])
  (.seq
  (.ops
  [.mk (some 59) none (.load true 2 (.t 12)) .no, .mk (some 60) none (.mov (.t 13)) .no, .mk (some 61) none (.bin .geq (.t 60) (.c (.one (.st (.int .i64 0)))))
  .no, .mk (some 62) none (.mov (.t 14)) .no, .mk none none (.store 2 (.t 4) (.t 59)) .no, .mk (some 5) none (.mov (.t 61)) .no, .mk (some 6) none (.mov (.t 62)) .no])
  .ret))))
theorem tr_rewrite_innermost : trCode Try.prog 63 [20000041] (Try.f56.body.getD .skip) = some ir_rewrite_innermost := by kernel_rfl
theorem ac_rewrite_innermost {xs : List AV} {r : AV} (hn : xs.length ≤ 63) (h : ∀ C : Ctx, C.n = 63 → IWP Try.prog C [20000041] ir_rewrite_innermost (FinQ [.cell 4 true 2, .t 5, .t 6] r) (AS.start xs)) : ACalls Try.prog 56 xs r :=
  acalls_of Try.func56 rfl tr_rewrite_innermost rfl hn h
def ir_rewrite_outermost : IR :=
  (.seq
  (.ops
  [.mk (some 3) none (.box 25 (.t 1)) .no, .mk (some 4) none
  (.alloc 25 [.st (.str (ByteArray.mk (#[]))), .full []]) .no, .mk (some 5) none (.mov (.c (.one (.st (.bool false)))))
  .no, .mk (some 6) none (.mov (.c (.one (.st (.int .i64 0)))))
  .no])
  (.seq
  (.ops
  [.mk (some 16) none (.mov (.t 0)) .no, .mk (some 17) none (.load true 2 (.t 3)) .no, .mk (some 18) none (.call 51
  [.t 16, .t 17, .c (.one (.st (.int .i64 0)))])
  .no, .mk (some 15) none (.mov (.t 18)) .no, .mk (some 19) none (.extract 0 (.t 15)) .no, .mk (some 20) none (.extract 1 (.t 15)) .no, .mk (some 21) none (.extract 2 (.t 15)) .no, .mk (some 7) none
  (.alloc 25 [.st (.str (ByteArray.mk (#[]))), .full []]) .no, .mk none none (.store 2 (.t 7) (.t 19)) .no, .mk (some 8) none (.mov (.t 20)) .no, .mk (some 9) none (.mov (.t 21)) .no])
  (.seq
  (.seq
  (.ops
  [.mk (some 22) none (.mov (.t 8)) .no, .mk (some 23) none (.bin .geq (.t 22) (.c (.one (.st (.int .i64 0)))))
  .no, .mk (some 24) none (.mov (.t 23)) .no, .mk (some 25) (some (24, false)) (.mov (.t 9)) .no, .mk (some 26) (some (24, false)) (.bin .neq (.t 25) (.c (.one (.st (.int .i64 0)))))
  .no, .mk (some 27) none
  (.pick (.t 24) (.c (.one (.st (.bool true)))) (.t 26))
  .no])
  (.cond (.t 27)
  (.seq
  (.ops
  [.mk (some 28) none (.load true 2 (.t 7)) .no, .mk (some 29) none (.mov (.t 8)) .no, .mk (some 30) none (.bin .geq (.t 29) (.c (.one (.st (.int .i64 0)))))
  .no, .mk (some 31) none (.mov (.t 9)) .no, .mk none none (.store 2 (.t 4) (.t 28)) .no, .mk (some 5) none (.mov (.t 30)) .no, .mk (some 6) none (.mov (.t 31)) .no])
  .ret)
  .skip))
  (.seq
  (.seq
  (.ops
  [.mk (some 32) none (.fieldAddr 1 (.t 3)) .no, .mk (some 33) none (.load false 1 (.t 32)) .no, .mk (some 34) none (.len false (.t 33)) .no, .mk (some 35) none (.mov (.c (.one (.st (.int .i64 0)))))
  .no])
  (.block 0
  (.loop
  (.seq
  (.ops
  [.mk (some 36) none (.bin .lss (.t 35) (.t 34))
  .no])
  (.seq (.cond (.t 36) .skip (.exit 0))
  (.seq
  (.block 1
  (.seq
  (.ops
  [.mk (some 37) none (.mov (.t 35)) .no, .mk (some 10) none (.mov (.t 37)) .no])
  (.seq
  (.ops
  [.mk (some 39) none (.mov (.t 0)) .no, .mk (some 40) none (.fieldAddr 1 (.t 3)) .no, .mk (some 41) none (.load false 1 (.t 40)) .no, .mk (some 42) none (.mov (.t 10)) .no, .mk (some 43) none (.indexAddr 2 (.t 41) (.t 42))
  .no, .mk (some 44) none (.load true 2 (.t 43)) .no, .mk (some 45) none (.call 42 [.t 39, .t 44])
  .no, .mk (some 38) none (.mov (.t 45)) .no, .mk (some 46) none (.extract 0 (.t 38)) .no, .mk (some 47) none (.extract 1 (.t 38)) .no, .mk (some 48) none (.extract 2 (.t 38)) .no, .mk (some 11) none
  (.alloc 25 [.st (.str (ByteArray.mk (#[]))), .full []])
  .no, .mk none none (.store 2 (.t 11) (.t 46))
  .no, .mk (some 12) none (.mov (.t 47)) .no, .mk (some 13) none (.mov (.t 48)) .no])
  (.seq
  (.ops
  [.mk (some 49) none (.mov (.t 13)) .no, .mk (some 50) none (.bin .neq (.t 49) (.c (.one (.st (.int .i64 0)))))
  .no, .mk (some 51) none (.mov (.t 50)) .no, .mk (some 52) (some (51, false)) (.mov (.t 12)) .no, .mk (some 53) none
  (.pick (.t 51) (.c (.one (.st (.bool true)))) (.t 52))
  .no])
  (.cond (.t 53)
  (.seq
  (.ops
  [.mk (some 54) none (.fieldAddr 0 (.t 3)) .no, .mk (some 55) none (.load false 1 (.t 54)) .no, .mk (some 56) none (.fieldAddr 1 (.t 3)) .no, .mk (some 57) none (.load false 1 (.t 56)) .no, .mk (some 58) none (.callN 57 [.t 57]) .no, .mk (some 59) none
  (.build [.st (.str (ByteArray.mk (#[]))), .full []]
  [(0, 1, .t 55), (1, 1, .t 58)])
  .no, .mk (some 14) none
  (.alloc 25 [.st (.str (ByteArray.mk (#[]))), .full []])
  .no, .mk none none (.store 2 (.t 14) (.t 59))
  .no])
  (.seq
  (.ops
  [.mk (some 60) none (.fieldAddr 1 (.t 14)) .no, .mk (some 61) none (.load false 1 (.t 60)) .no, .mk (some 62) none (.mov (.t 10)) .no, .mk (some 63) none (.load true 2 (.t 11)) .no, .mk (some 64) none (.indexAddr 2 (.t 61) (.t 62))
  .no, .mk none none (.store 2 (.t 64) (.t 63))
  .no])
  (.seq
  (.ops
  [.mk (some 65) none (.load true 2 (.t 14)) .no, .mk (some 66) none (.mov (.t 12)) .no, .mk (some 67) none (.mov (.t 13)) .no, .mk none none (.store 2 (.t 4) (.t 65))
  .no, .mk (some 5) none (.mov (.t 66)) .no, .mk (some 6) none (.mov (.t 67)) .no])
  .ret)))
  .skip)))))
  (.ops
  [.mk (some 68) none (.bin .add (.t 35) (.c (.one (.st (.int .i64 1)))))
  .no, .mk (some 35) none (.mov (.t 68)) .no])))))))
  (.seq
  (.ops
  [.mk (some 69) none (.load true 2 (.t 3)) .no, .mk none none (.store 2 (.t 4) (.t 69)) .no, .mk (some 5) none (.mov (.c (.one (.st (.bool false)))))
  .no, .mk (some 6) none (.mov (.c (.one (.st (.int .i64 0)))))
  .no])
  .ret)))))
theorem tr_rewrite_outermost : trCode Try.prog 70 [20000058] (Try.f42.body.getD .skip) = some ir_rewrite_outermost := by kernel_rfl
theorem ac_rewrite_outermost {xs : List AV} {r : AV} (hn : xs.length ≤ 70) (h : ∀ C : Ctx, C.n = 70 → IWP Try.prog C [20000058] ir_rewrite_outermost (FinQ [.cell 4 true 2, .t 5, .t 6] r) (AS.start xs)) : ACalls Try.prog 42 xs r :=
  acalls_of Try.func42 rfl tr_rewrite_outermost rfl hn h
def ir_rewrite_Inner : IR :=
  (.seq
  (.ops
  [.mk (some 4) none (.box 25 (.t 1)) .no, .mk (some 6) none
  (.alloc 25 [.st (.str (ByteArray.mk (#[]))), .full []]) .no, .mk (some 7) none (.mov (.c (.one (.st (.int .i64 0)))))
  .no, .mk (some 8) none (.mov (.c (.one (.st (.int .i64 0)))))
  .no])
  (.seq
  (.ops
  [.mk (some 12) none (.mov (.t 0)) .no, .mk (some 13) none (.load true 2 (.t 4)) .no, .mk (some 14) none (.call 30 [.t 12, .t 13]) .no, .mk (some 9) none (.mov (.t 14)) .no])
  (.seq
  (.seq
  (.ops
  [.mk (some 15) none (.mov (.t 9)) .no, .mk (some 16) none (.bin .eql (.t 15) (.c (.one (.st (.int .i64 0)))))
  .no])
  (.cond (.t 16)
  (.ops
  [.mk (some 17) none (.mov (.t 2)) .no, .mk (some 18) none (.call 39 [.t 17]) .no, .mk (some 9) none (.mov (.t 18)) .no])
  .skip))
  (.seq
  (.seq
  (.ops
  [.mk (some 19) none (.mov (.t 9)) .no, .mk (some 20) none (.bin .neq (.t 19) (.c (.one (.st (.int .i64 0)))))
  .no])
  (.cond (.t 20)
  (.seq
  (.ops
  [.mk (some 21) none
  (.build [.st (.str (ByteArray.mk (#[]))), .full []] [])
  .no, .mk (some 22) none (.mov (.t 9)) .no, .mk none none (.store 2 (.t 6) (.t 21)) .no, .mk (some 7) none (.mov (.c (.one (.st (.int .i64 0)))))
  .no, .mk (some 8) none (.mov (.t 22)) .no])
  .ret)
  .skip))
  (.seq
  (.ops
  [.mk (some 24) none (.mov (.t 0)) .no, .mk (some 25) none (.load true 2 (.t 4)) .no, .mk (some 26) none (.mov (.t 2)) .no, .mk (some 27) none (.call 40 [.t 24, .t 25, .t 26])
  .no, .mk (some 23) none (.mov (.t 27)) .no, .mk (some 28) none (.extract 0 (.t 23)) .no, .mk (some 29) none (.extract 1 (.t 23)) .no, .mk (some 30) none (.extract 2 (.t 23)) .no, .mk (some 10) none
  (.alloc 25 [.st (.str (ByteArray.mk (#[]))), .full []])
  .no, .mk none none (.store 2 (.t 10) (.t 28)) .no, .mk (some 11) none (.mov (.t 29)) .no, .mk (some 9) none (.mov (.t 30)) .no])
  (.seq
  (.seq
  (.ops
  [.mk (some 31) none (.mov (.t 9)) .no, .mk (some 32) none (.bin .neq (.t 31) (.c (.one (.st (.int .i64 0)))))
  .no])
  (.cond (.t 32)
  (.seq
  (.ops
  [.mk (some 33) none
  (.build [.st (.str (ByteArray.mk (#[]))), .full []] [])
  .no, .mk (some 34) none (.mov (.t 9)) .no, .mk none none (.store 2 (.t 6) (.t 33))
  .no, .mk (some 7) none (.mov (.c (.one (.st (.int .i64 0)))))
  .no, .mk (some 8) none (.mov (.t 34)) .no])
  .ret)
  .skip))
  (.seq
  (.ops
  [.mk (some 35) none (.load true 2 (.t 10)) .no, .mk (some 36) none (.mov (.t 11)) .no, .mk none none (.store 2 (.t 6) (.t 35)) .no, .mk (some 7) none (.mov (.t 36)) .no, .mk (some 8) none (.mov (.c (.one (.st (.int .i64 0)))))
  .no])
  .ret)))))))
theorem tr_rewrite_Inner : trCode Try.prog 37 [] (Try.f17.body.getD .skip) = some ir_rewrite_Inner := by kernel_rfl
theorem ac_rewrite_Inner {xs : List AV} {r : AV} (hn : xs.length ≤ 37) (h : ∀ C : Ctx, C.n = 37 → IWP Try.prog C [] ir_rewrite_Inner (FinQ [.cell 6 true 2, .t 7, .t 8] r) (AS.start xs)) : ACalls Try.prog 17 xs r :=
  acalls_of Try.func17 rfl tr_rewrite_Inner rfl hn h
def ir_rewrite_Last : IR :=
  (.seq
  (.ops
  [.mk (some 4) none (.box 25 (.t 1)) .no, .mk (some 6) none
  (.alloc 25 [.st (.str (ByteArray.mk (#[]))), .full []]) .no, .mk (some 7) none (.mov (.c (.one (.st (.int .i64 0)))))
  .no, .mk (some 8) none (.mov (.c (.one (.st (.int .i64 0)))))
  .no])
  (.seq
  (.ops
  [.mk (some 13) none (.load true 2 (.t 4)) .no, .mk (some 14) none (.call 41 [.t 13]) .no, .mk none none (.store 2 (.t 4) (.t 14)) .no])
  (.seq
  (.ops
  [.mk (some 9) none (.mov (.c (.one (.st (.int .i64 0)))))
  .no])
  (.block 0
  (.loop
  (.seq
  (.block 1
  (.seq
  (.ops
  [.mk (some 18) none (.mov (.t 0)) .no, .mk (some 19) none (.load true 2 (.t 4)) .no, .mk (some 20) none (.call 56 [.t 18, .t 19])
  .no, .mk (some 17) none (.mov (.t 20)) .no, .mk (some 21) none (.extract 0 (.t 17)) .no, .mk (some 22) none (.extract 1 (.t 17)) .no, .mk (some 23) none (.extract 2 (.t 17)) .no, .mk (some 10) none
  (.alloc 25 [.st (.str (ByteArray.mk (#[]))), .full []])
  .no, .mk none none (.store 2 (.t 10) (.t 21)) .no, .mk (some 11) none (.mov (.t 22)) .no, .mk (some 12) none (.mov (.t 23)) .no])
  (.seq
  (.seq
  (.ops
  [.mk (some 24) none (.mov (.t 11)) .no, .mk (some 25) none (.mov (.t 24)) .no, .mk (some 26) (some (25, true)) (.mov (.t 9)) .no, .mk (some 27) (some (25, true)) (.mov (.t 2)) .no, .mk (some 28) (some (25, true)) (.bin .eql (.t 26) (.t 27)) .no, .mk (some 29) none
  (.pick (.t 25) (.t 28) (.c (.one (.st (.bool false)))))
  .no])
  (.cond (.t 29)
  (.ops
  [.mk (some 12) none (.mov (.c (.one (.st (.int .i64 9)))))
  .no])
  .skip))
  (.seq
  (.seq
  (.ops
  [.mk (some 30) none (.mov (.t 12)) .no, .mk (some 31) none (.bin .neq (.t 30) (.c (.one (.st (.int .i64 0)))))
  .no])
  (.cond (.t 31)
  (.seq
  (.ops
  [.mk (some 32) none
  (.build [.st (.str (ByteArray.mk (#[]))), .full []] [])
  .no, .mk (some 33) none (.mov (.t 12)) .no, .mk none none (.store 2 (.t 6) (.t 32))
  .no, .mk (some 7) none (.mov (.c (.one (.st (.int .i64 0)))))
  .no, .mk (some 8) none (.mov (.t 33)) .no])
  .ret)
  .skip))
  (.seq
  (.seq
  (.ops
  [.mk (some 34) none (.mov (.t 11)) .no, .mk (some 35) none (.un .not (.t 34)) .no])
  (.cond (.t 35)
  (.seq
  (.ops
  [.mk (some 36) none (.load true 2 (.t 4)) .no, .mk (some 37) none (.mov (.t 9)) .no, .mk none none (.store 2 (.t 6) (.t 36))
  .no, .mk (some 7) none (.mov (.t 37)) .no, .mk (some 8) none (.mov (.c (.one (.st (.int .i64 0)))))
  .no])
  .ret)
  .skip))
  (.seq
  (.ops
  [.mk (some 38) none (.load true 2 (.t 10)) .no, .mk none none (.store 2 (.t 4) (.t 38))
  .no])
  (.seq
  (.ops
  [.mk (some 39) none (.load true 2 (.t 4)) .no, .mk (some 40) none (.call 43 [.t 39]) .no, .mk (some 41) none (.bin .gtr (.t 40) (.c (.one (.st (.int .i64 2000)))))
  .no])
  (.cond (.t 41)
  (.seq
  (.ops
  [.mk (some 42) none
  (.build [.st (.str (ByteArray.mk (#[]))), .full []] [])
  .no, .mk none none (.store 2 (.t 6) (.t 42))
  .no, .mk (some 7) none (.mov (.c (.one (.st (.int .i64 0)))))
  .no, .mk (some 8) none (.mov (.c (.one (.st (.int .i64 8)))))
  .no])
  .ret)
  .skip))))))))
  (.ops
  [.mk (some 15) none (.mov (.t 9)) .no, .mk (some 16) none (.bin .add (.t 15) (.c (.one (.st (.int .i64 1)))))
  .no, .mk (some 9) none (.mov (.t 16)) .no])))))))
theorem tr_rewrite_Last : trCode Try.prog 43 [] (Try.f40.body.getD .skip) = some ir_rewrite_Last := by kernel_rfl
theorem ac_rewrite_Last {xs : List AV} {r : AV} (hn : xs.length ≤ 43) (h : ∀ C : Ctx, C.n = 43 → IWP Try.prog C [] ir_rewrite_Last (FinQ [.cell 6 true 2, .t 7, .t 8] r) (AS.start xs)) : ACalls Try.prog 40 xs r :=
  acalls_of Try.func40 rfl tr_rewrite_Last rfl hn h
def ir_rewrite_Outer : IR :=
  (.seq
  (.ops
  [.mk (some 4) none (.box 25 (.t 1)) .no, .mk (some 6) none
  (.alloc 25 [.st (.str (ByteArray.mk (#[]))), .full []]) .no, .mk (some 7) none (.mov (.c (.one (.st (.int .i64 0)))))
  .no, .mk (some 8) none (.mov (.c (.one (.st (.int .i64 0)))))
  .no])
  (.seq
  (.ops
  [.mk (some 14) none (.mov (.t 0)) .no, .mk (some 15) none (.load true 2 (.t 4)) .no, .mk (some 16) none (.call 30 [.t 14, .t 15]) .no, .mk (some 9) none (.mov (.t 16)) .no])
  (.seq
  (.seq
  (.ops
  [.mk (some 17) none (.mov (.t 9)) .no, .mk (some 18) none (.bin .eql (.t 17) (.c (.one (.st (.int .i64 0)))))
  .no])
  (.cond (.t 18)
  (.ops
  [.mk (some 19) none (.mov (.t 2)) .no, .mk (some 20) none (.call 39 [.t 19]) .no, .mk (some 9) none (.mov (.t 20)) .no])
  .skip))
  (.seq
  (.seq
  (.ops
  [.mk (some 21) none (.mov (.t 9)) .no, .mk (some 22) none (.bin .neq (.t 21) (.c (.one (.st (.int .i64 0)))))
  .no])
  (.cond (.t 22)
  (.seq
  (.ops
  [.mk (some 23) none
  (.build [.st (.str (ByteArray.mk (#[]))), .full []] [])
  .no, .mk (some 24) none (.mov (.t 9)) .no, .mk none none (.store 2 (.t 6) (.t 23)) .no, .mk (some 7) none (.mov (.c (.one (.st (.int .i64 0)))))
  .no, .mk (some 8) none (.mov (.t 24)) .no])
  .ret)
  .skip))
  (.seq
  (.ops
  [.mk (some 25) none (.load true 2 (.t 4)) .no, .mk (some 26) none (.call 41 [.t 25]) .no, .mk none none (.store 2 (.t 4) (.t 26)) .no])
  (.seq
  (.ops
  [.mk (some 10) none (.mov (.c (.one (.st (.int .i64 0)))))
  .no])
  (.block 0
  (.loop
  (.seq
  (.block 1
  (.seq
  (.ops
  [.mk (some 30) none (.mov (.t 0)) .no, .mk (some 31) none (.load true 2 (.t 4)) .no, .mk (some 32) none (.call 42 [.t 30, .t 31])
  .no, .mk (some 29) none (.mov (.t 32)) .no, .mk (some 33) none (.extract 0 (.t 29)) .no, .mk (some 34) none (.extract 1 (.t 29)) .no, .mk (some 35) none (.extract 2 (.t 29)) .no, .mk (some 11) none
  (.alloc 25 [.st (.str (ByteArray.mk (#[]))), .full []])
  .no, .mk none none (.store 2 (.t 11) (.t 33))
  .no, .mk (some 12) none (.mov (.t 34)) .no, .mk (some 13) none (.mov (.t 35)) .no])
  (.seq
  (.seq
  (.ops
  [.mk (some 36) none (.mov (.t 12)) .no, .mk (some 37) none (.mov (.t 36)) .no, .mk (some 38) (some (37, true)) (.mov (.t 10)) .no, .mk (some 39) (some (37, true)) (.mov (.t 2)) .no, .mk (some 40) (some (37, true)) (.bin .eql (.t 38) (.t 39)) .no, .mk (some 41) none
  (.pick (.t 37) (.t 40) (.c (.one (.st (.bool false)))))
  .no])
  (.cond (.t 41)
  (.ops
  [.mk (some 13) none (.mov (.c (.one (.st (.int .i64 9)))))
  .no])
  .skip))
  (.seq
  (.seq
  (.ops
  [.mk (some 42) none (.mov (.t 13)) .no, .mk (some 43) none (.bin .neq (.t 42) (.c (.one (.st (.int .i64 0)))))
  .no])
  (.cond (.t 43)
  (.seq
  (.ops
  [.mk (some 44) none
  (.build [.st (.str (ByteArray.mk (#[]))), .full []] [])
  .no, .mk (some 45) none (.mov (.t 13)) .no, .mk none none (.store 2 (.t 6) (.t 44))
  .no, .mk (some 7) none (.mov (.c (.one (.st (.int .i64 0)))))
  .no, .mk (some 8) none (.mov (.t 45)) .no])
  .ret)
  .skip))
  (.seq
  (.seq
  (.ops
  [.mk (some 46) none (.mov (.t 12)) .no, .mk (some 47) none (.un .not (.t 46)) .no])
  (.cond (.t 47)
  (.seq
  (.ops
  [.mk (some 48) none (.load true 2 (.t 4)) .no, .mk (some 49) none (.mov (.t 10)) .no, .mk none none (.store 2 (.t 6) (.t 48))
  .no, .mk (some 7) none (.mov (.t 49)) .no, .mk (some 8) none (.mov (.c (.one (.st (.int .i64 0)))))
  .no])
  .ret)
  .skip))
  (.seq
  (.ops
  [.mk (some 50) none (.load true 2 (.t 11)) .no, .mk (some 51) none (.call 41 [.t 50]) .no, .mk none none (.store 2 (.t 4) (.t 51))
  .no])
  (.seq
  (.ops
  [.mk (some 52) none (.load true 2 (.t 4)) .no, .mk (some 53) none (.call 43 [.t 52]) .no, .mk (some 54) none (.bin .gtr (.t 53) (.c (.one (.st (.int .i64 2000)))))
  .no])
  (.cond (.t 54)
  (.seq
  (.ops
  [.mk (some 55) none
  (.build [.st (.str (ByteArray.mk (#[]))), .full []] [])
  .no, .mk none none (.store 2 (.t 6) (.t 55))
  .no, .mk (some 7) none (.mov (.c (.one (.st (.int .i64 0)))))
  .no, .mk (some 8) none (.mov (.c (.one (.st (.int .i64 8)))))
  .no])
  .ret)
  .skip))))))))
  (.ops
  [.mk (some 27) none (.mov (.t 10)) .no, .mk (some 28) none (.bin .add (.t 27) (.c (.one (.st (.int .i64 1)))))
  .no, .mk (some 10) none (.mov (.t 28)) .no]))))))))))
theorem tr_rewrite_Outer : trCode Try.prog 56 [] (Try.f18.body.getD .skip) = some ir_rewrite_Outer := by kernel_rfl
theorem ac_rewrite_Outer {xs : List AV} {r : AV} (hn : xs.length ≤ 56) (h : ∀ C : Ctx, C.n = 56 → IWP Try.prog C [] ir_rewrite_Outer (FinQ [.cell 6 true 2, .t 7, .t 8] r) (AS.start xs)) : ACalls Try.prog 18 xs r :=
  acalls_of Try.func18 rfl tr_rewrite_Outer rfl hn h
def ir_rewrite_Meet : IR :=
  (.seq
  (.ops
  [.mk (some 5) none (.box 25 (.t 1)) .no, .mk (some 6) none (.box 25 (.t 2)) .no, .mk (some 8) none (.mov (.c (.one (.st (.bool false)))))
  .no, .mk (some 9) none (.mov (.c (.one (.st (.int .i64 0)))))
  .no])
  (.seq
  (.ops
  [.mk (some 11) none (.mov (.t 0)) .no, .mk (some 12) none (.load true 2 (.t 5)) .no, .mk (some 13) none (.call 30 [.t 11, .t 12]) .no, .mk (some 10) none (.mov (.t 13)) .no])
  (.seq
  (.seq
  (.ops
  [.mk (some 14) none (.mov (.t 10)) .no, .mk (some 15) none (.bin .eql (.t 14) (.c (.one (.st (.int .i64 0)))))
  .no])
  (.cond (.t 15)
  (.ops
  [.mk (some 16) none (.load true 2 (.t 6)) .no, .mk (some 17) none (.call 44 [.t 16]) .no, .mk (some 10) none (.mov (.t 17)) .no])
  .skip))
  (.seq
  (.seq
  (.ops
  [.mk (some 18) none (.mov (.t 10)) .no, .mk (some 19) none (.bin .eql (.t 18) (.c (.one (.st (.int .i64 0)))))
  .no])
  (.cond (.t 19)
  (.ops
  [.mk (some 20) none (.mov (.t 3)) .no, .mk (some 21) none (.call 39 [.t 20]) .no, .mk (some 10) none (.mov (.t 21)) .no])
  .skip))
  (.seq
  (.seq
  (.ops
  [.mk (some 22) none (.mov (.t 10)) .no, .mk (some 23) none (.bin .neq (.t 22) (.c (.one (.st (.int .i64 0)))))
  .no])
  (.cond (.t 23)
  (.seq
  (.ops
  [.mk (some 24) none (.mov (.t 10)) .no, .mk (some 8) none (.mov (.c (.one (.st (.bool false)))))
  .no, .mk (some 9) none (.mov (.t 24)) .no])
  .ret)
  .skip))
  (.seq
  (.ops
  [.mk (some 25) none (.mov (.t 0)) .no, .mk (some 26) none (.load true 2 (.t 5)) .no, .mk (some 27) none (.load true 2 (.t 6)) .no, .mk (some 28) none (.mov (.t 3)) .no, .mk (some 29) none (.call 45 [.t 25, .t 26, .t 27, .t 28])
  .no, .mk (some 30) none (.extract 0 (.t 29)) .no, .mk (some 31) none (.extract 1 (.t 29)) .no, .mk (some 8) none (.mov (.t 30)) .no, .mk (some 9) none (.mov (.t 31)) .no])
  .ret))))))
theorem tr_rewrite_Meet : trCode Try.prog 32 [] (Try.f19.body.getD .skip) = some ir_rewrite_Meet := by kernel_rfl
theorem ac_rewrite_Meet {xs : List AV} {r : AV} (hn : xs.length ≤ 32) (h : ∀ C : Ctx, C.n = 32 → IWP Try.prog C [] ir_rewrite_Meet (FinQ [.t 8, .t 9] r) (AS.start xs)) : ACalls Try.prog 19 xs r :=
  acalls_of Try.func19 rfl tr_rewrite_Meet rfl hn h
def ir_rewrite_Met : IR :=
  (.seq
  (.ops
  [.mk (some 5) none (.box 25 (.t 1)) .no, .mk (some 6) none (.box 25 (.t 2)) .no, .mk (some 8) none (.mov (.c (.one (.st (.bool false)))))
  .no, .mk (some 9) none (.mov (.c (.one (.st (.int .i64 0)))))
  .no])
  (.seq
  (.ops
  [.mk (some 16) none (.mov (.t 0)) .no, .mk (some 17) none (.load true 2 (.t 5)) .no, .mk (some 18) none (.mov (.t 3)) .no, .mk (some 19) none (.call 40 [.t 16, .t 17, .t 18])
  .no, .mk (some 15) none (.mov (.t 19)) .no, .mk (some 20) none (.extract 0 (.t 15)) .no, .mk (some 21) none (.extract 1 (.t 15)) .no, .mk (some 22) none (.extract 2 (.t 15)) .no, .mk (some 10) none
  (.alloc 25 [.st (.str (ByteArray.mk (#[]))), .full []]) .no, .mk none none (.store 2 (.t 10) (.t 20)) .no, .mk (some 11) none (.mov (.t 21)) .no, .mk (some 12) none (.mov (.t 22)) .no])
  (.seq
  (.seq
  (.ops
  [.mk (some 23) none (.mov (.t 12)) .no, .mk (some 24) none (.bin .neq (.t 23) (.c (.one (.st (.int .i64 0)))))
  .no])
  (.cond (.t 24)
  (.seq
  (.ops
  [.mk (some 25) none (.mov (.t 12)) .no, .mk (some 8) none (.mov (.c (.one (.st (.bool false)))))
  .no, .mk (some 9) none (.mov (.t 25)) .no])
  .ret)
  .skip))
  (.seq
  (.ops
  [.mk (some 27) none (.mov (.t 0)) .no, .mk (some 28) none (.load true 2 (.t 6)) .no, .mk (some 29) none (.mov (.t 3)) .no, .mk (some 30) none (.call 40 [.t 27, .t 28, .t 29])
  .no, .mk (some 26) none (.mov (.t 30)) .no, .mk (some 31) none (.extract 0 (.t 26)) .no, .mk (some 32) none (.extract 1 (.t 26)) .no, .mk (some 33) none (.extract 2 (.t 26)) .no, .mk (some 13) none
  (.alloc 25 [.st (.str (ByteArray.mk (#[]))), .full []]) .no, .mk none none (.store 2 (.t 13) (.t 31)) .no, .mk (some 14) none (.mov (.t 32)) .no, .mk (some 12) none (.mov (.t 33)) .no])
  (.seq
  (.seq
  (.ops
  [.mk (some 34) none (.mov (.t 12)) .no, .mk (some 35) none (.bin .neq (.t 34) (.c (.one (.st (.int .i64 0)))))
  .no])
  (.cond (.t 35)
  (.seq
  (.ops
  [.mk (some 36) none (.mov (.t 12)) .no, .mk (some 8) none (.mov (.c (.one (.st (.bool false)))))
  .no, .mk (some 9) none (.mov (.t 36)) .no])
  .ret)
  .skip))
  (.seq
  (.ops
  [.mk (some 37) none (.load true 2 (.t 10)) .no, .mk (some 38) none (.load true 2 (.t 13)) .no, .mk (some 39) none (.call 60 [.t 37, .t 38]) .no, .mk (some 8) none (.mov (.t 39)) .no, .mk (some 9) none (.mov (.c (.one (.st (.int .i64 0)))))
  .no])
  .ret))))))
theorem tr_rewrite_Met : trCode Try.prog 40 [] (Try.f45.body.getD .skip) = some ir_rewrite_Met := by kernel_rfl
theorem ac_rewrite_Met {xs : List AV} {r : AV} (hn : xs.length ≤ 40) (h : ∀ C : Ctx, C.n = 40 → IWP Try.prog C [] ir_rewrite_Met (FinQ [.t 8, .t 9] r) (AS.start xs)) : ACalls Try.prog 45 xs r :=
  acalls_of Try.func45 rfl tr_rewrite_Met rfl hn h
def ir_rewrite_fuel : IR :=
  (.seq
  (.ops
  [.mk (some 2) none (.mov (.c (.one (.st (.int .i64 0)))))
  .no])
  (.seq
  (.seq
  (.ops
  [.mk (some 3) none (.mov (.t 0)) .no, .mk (some 4) none (.bin .lss (.t 3) (.c (.one (.st (.int .i64 0)))))
  .no, .mk (some 5) none (.mov (.t 4)) .no, .mk (some 6) (some (5, false)) (.mov (.t 0)) .no, .mk (some 7) (some (5, false)) (.bin .gtr (.t 6) (.c (.one (.st (.int .i64 400)))))
  .no, .mk (some 8) none
  (.pick (.t 5) (.c (.one (.st (.bool true)))) (.t 7))
  .no])
  (.cond (.t 8)
  (.seq
  (.ops
  [.mk (some 2) none (.mov (.c (.one (.st (.int .i64 10)))))
  .no])
  .ret)
  .skip))
  (.seq
  (.ops
  [.mk (some 2) none (.mov (.c (.one (.st (.int .i64 0)))))
  .no])
  .ret)))
theorem tr_rewrite_fuel : trCode Try.prog 9 [] (Try.f39.body.getD .skip) = some ir_rewrite_fuel := by kernel_rfl
theorem ac_rewrite_fuel {xs : List AV} {r : AV} (hn : xs.length ≤ 9) (h : ∀ C : Ctx, C.n = 9 → IWP Try.prog C [] ir_rewrite_fuel (FinQ [.t 2] r) (AS.start xs)) : ACalls Try.prog 39 xs r :=
  acalls_of Try.func39 rfl tr_rewrite_fuel rfl hn h
def ir_R_RulesMay : IR :=
  (.seq
  (.ops
  [.mk (some 2) none (.mov (.c (.one (.st (.int .i64 0)))))
  .no])
  (.seq
  (.seq
  (.ops
  [.mk (some 8) none (.mov (.t 0)) .no, .mk (some 9) none (.len false (.t 8)) .no, .mk (some 10) none (.bin .gtr (.t 9) (.c (.one (.st (.int .i64 40)))))
  .no])
  (.cond (.t 10)
  (.seq
  (.ops
  [.mk (some 2) none (.mov (.c (.one (.st (.int .i64 3)))))
  .no])
  .ret)
  .skip))
  (.seq
  (.seq
  (.ops
  [.mk (some 3) none (.mov (.c (.one (.st (.int .i64 0)))))
  .no])
  (.block 0
  (.loop
  (.seq
  (.seq
  (.ops
  [.mk (some 11) none (.mov (.t 3)) .no, .mk (some 12) none (.mov (.t 0)) .no, .mk (some 13) none (.len false (.t 12)) .no, .mk (some 14) none (.bin .lss (.t 11) (.t 13))
  .no])
  (.cond (.t 14) .skip (.exit 0)))
  (.seq
  (.block 1
  (.seq
  (.ops
  [.mk (some 17) none (.mov (.t 0)) .no, .mk (some 18) none (.mov (.t 3)) .no, .mk (some 19) none (.indexAddr 4 (.t 17) (.t 18))
  .no, .mk (some 20) none (.fieldAddr 0 (.t 19)) .no, .mk (some 21) none (.load true 2 (.t 20)) .no, .mk (some 22) none (.mov (.t 0)) .no, .mk (some 23) none (.mov (.t 3)) .no, .mk (some 24) none (.indexAddr 4 (.t 22) (.t 23))
  .no, .mk (some 25) none (.fieldAddr 2 (.t 24)) .no, .mk (some 26) none (.load true 2 (.t 25)) .no, .mk (some 27) none (.call 13 [.t 21, .t 26])
  .no, .mk (some 4) none (.mov (.t 27)) .no])
  (.seq
  (.seq
  (.ops
  [.mk (some 28) none (.mov (.t 4)) .no, .mk (some 29) none (.bin .neq (.t 28) (.c (.one (.st (.int .i64 0)))))
  .no])
  (.cond (.t 29)
  (.seq
  (.ops
  [.mk (some 30) none (.mov (.t 4)) .no, .mk (some 2) none (.mov (.t 30)) .no])
  .ret)
  .skip))
  (.seq
  (.seq
  (.ops
  [.mk (some 31) none (.mov (.t 0)) .no, .mk (some 32) none (.mov (.t 3)) .no, .mk (some 33) none (.indexAddr 4 (.t 31) (.t 32))
  .no, .mk (some 34) none (.fieldAddr 0 (.t 33)) .no, .mk (some 35) none (.fieldAddr 0 (.t 34)) .no, .mk (some 36) none (.load false 1 (.t 35)) .no, .mk (some 37) none (.call 21 [.t 36]) .no])
  (.cond (.t 37)
  (.seq
  (.ops
  [.mk (some 2) none (.mov (.c (.one (.st (.int .i64 2)))))
  .no])
  .ret)
  .skip))
  (.seq
  (.ops
  [.mk (some 38) none (.mov (.t 0)) .no, .mk (some 39) none (.mov (.t 3)) .no, .mk (some 40) none (.indexAddr 4 (.t 38) (.t 39))
  .no, .mk (some 41) none (.fieldAddr 0 (.t 40)) .no, .mk (some 42) none (.load true 2 (.t 41)) .no, .mk (some 43) none (.call 22 [.t 42]) .no, .mk (some 5) none (.mov (.t 43)) .no])
  (.seq
  (.ops
  [.mk (some 44) none (.mov (.t 0)) .no, .mk (some 45) none (.mov (.t 3)) .no, .mk (some 46) none (.indexAddr 4 (.t 44) (.t 45))
  .no, .mk (some 47) none (.fieldAddr 2 (.t 46)) .no, .mk (some 48) none (.load true 2 (.t 47)) .no, .mk (some 49) none (.call 22 [.t 48]) .no, .mk (some 6) none (.mov (.t 49)) .no])
  (.seq
  (.ops
  [.mk (some 7) none (.mov (.c (.one (.st (.int .i64 0)))))
  .no])
  (.block 2
  (.loop
  (.seq
  (.seq
  (.ops
  [.mk (some 50) none (.mov (.t 7)) .no, .mk (some 51) none (.mov (.t 6)) .no, .mk (some 52) none (.len false (.t 51)) .no, .mk (some 53) none (.bin .lss (.t 50) (.t 52)) .no])
  (.cond (.t 53) .skip (.exit 2)))
  (.seq
  (.block 3
  (.seq
  (.ops
  [.mk (some 56) none (.mov (.t 6)) .no, .mk (some 57) none (.mov (.t 7)) .no, .mk (some 58) none (.indexAddr 1 (.t 56) (.t 57))
  .no, .mk (some 59) none (.load false 1 (.t 58))
  .no, .mk (some 60) none (.mov (.t 5)) .no, .mk (some 61) none (.call 23 [.t 59, .t 60])
  .no, .mk (some 62) none (.un .not (.t 61))
  .no])
  (.cond (.t 62)
  (.seq
  (.ops
  [.mk (some 2) none (.mov (.c (.one (.st (.int .i64 15)))))
  .no])
  .ret)
  .skip)))
  (.ops
  [.mk (some 54) none (.mov (.t 7)) .no, .mk (some 55) none (.bin .add (.t 54) (.c (.one (.st (.int .i64 1)))))
  .no, .mk (some 7) none (.mov (.t 55)) .no]))))))))))))
  (.ops
  [.mk (some 15) none (.mov (.t 3)) .no, .mk (some 16) none (.bin .add (.t 15) (.c (.one (.st (.int .i64 1)))))
  .no, .mk (some 3) none (.mov (.t 16)) .no]))))))
  (.seq
  (.ops
  [.mk (some 2) none (.mov (.c (.one (.st (.int .i64 0)))))
  .no])
  .ret))))
theorem tr_R_RulesMay : trCode Try.prog 63 [] (Try.f7.body.getD .skip) = some ir_R_RulesMay := by kernel_rfl
theorem ac_R_RulesMay {xs : List AV} {r : AV} (hn : xs.length ≤ 63) (h : ∀ C : Ctx, C.n = 63 → IWP Try.prog C [] ir_R_RulesMay (FinQ [.t 2] r) (AS.start xs)) : ACalls Try.prog 7 xs r :=
  acalls_of Try.func7 rfl tr_R_RulesMay rfl hn h
def ir_R_fits : IR :=
  (.seq
  (.ops
  [.mk (some 2) none (.box 45 (.t 0)) .no, .mk (some 3) none (.box 25 (.t 1)) .no, .mk (some 4) none
  (.alloc 25 [.st (.str (ByteArray.mk (#[]))), .full []]) .no, .mk (some 5) none (.mov (.c (.one (.st (.bool false)))))
  .no, .mk (some 6) none (.mov (.c (.one (.st (.bool false)))))
  .no])
  (.seq
  (.ops
  [.mk (some 12) none (.fieldAddr 0 (.t 2)) .no, .mk (some 13) none (.load true 2 (.t 12)) .no, .mk (some 14) none (.load true 2 (.t 3)) .no, .mk (some 15) none (.call 47 [.t 13, .t 14]) .no, .mk (some 11) none (.mov (.t 15)) .no, .mk (some 16) none (.extract 0 (.t 11)) .no, .mk (some 17) none (.extract 1 (.t 11)) .no, .mk (some 7) none (.mov (.t 16)) .no, .mk (some 8) none (.mov (.t 17)) .no])
  (.seq
  (.seq
  (.ops
  [.mk (some 18) none (.mov (.t 8)) .no, .mk (some 19) none (.un .not (.t 18)) .no])
  (.cond (.t 19)
  (.seq
  (.ops
  [.mk (some 20) none
  (.build [.st (.str (ByteArray.mk (#[]))), .full []] [])
  .no, .mk none none (.store 2 (.t 4) (.t 20)) .no, .mk (some 5) none (.mov (.c (.one (.st (.bool false)))))
  .no, .mk (some 6) none (.mov (.c (.one (.st (.bool false)))))
  .no])
  .ret)
  .skip))
  (.seq
  (.ops
  [.mk (some 22) none (.mov (.t 7)) .no, .mk (some 23) none (.fieldAddr 2 (.t 2)) .no, .mk (some 24) none (.load true 2 (.t 23)) .no, .mk (some 25) none (.call 48 [.t 22, .t 24]) .no, .mk (some 21) none (.mov (.t 25)) .no, .mk (some 26) none (.extract 0 (.t 21)) .no, .mk (some 27) none (.extract 1 (.t 21)) .no, .mk (some 9) none
  (.alloc 25 [.st (.str (ByteArray.mk (#[]))), .full []]) .no, .mk none none (.store 2 (.t 9) (.t 26)) .no, .mk (some 10) none (.mov (.t 27)) .no])
  (.seq
  (.ops
  [.mk (some 28) none (.load true 2 (.t 9)) .no, .mk (some 29) none (.mov (.t 10)) .no, .mk (some 30) none (.un .not (.t 29)) .no, .mk none none (.store 2 (.t 4) (.t 28)) .no, .mk (some 5) none (.mov (.c (.one (.st (.bool true)))))
  .no, .mk (some 6) none (.mov (.t 30)) .no])
  .ret)))))
theorem tr_R_fits : trCode Try.prog 31 [] (Try.f28.body.getD .skip) = some ir_R_fits := by kernel_rfl
theorem ac_R_fits {xs : List AV} {r : AV} (hn : xs.length ≤ 31) (h : ∀ C : Ctx, C.n = 31 → IWP Try.prog C [] ir_R_fits (FinQ [.cell 4 true 2, .t 5, .t 6] r) (AS.start xs)) : ACalls Try.prog 28 xs r :=
  acalls_of Try.func28 rfl tr_R_fits rfl hn h
def ir_R_Fit : IR :=
  (.seq
  (.ops
  [.mk (some 3) none (.box 25 (.t 1)) .no, .mk (some 4) none (.mov (.c (.one (.st (.bool false)))))
  .no])
  (.seq
  (.seq
  (.ops
  [.mk (some 5) none (.mov (.c (.one (.st (.int .i64 0)))))
  .no])
  (.block 0
  (.loop
  (.seq
  (.seq
  (.ops
  [.mk (some 8) none (.mov (.t 5)) .no, .mk (some 9) none (.mov (.t 0)) .no, .mk (some 10) none (.len false (.t 9)) .no, .mk (some 11) none (.bin .lss (.t 8) (.t 10))
  .no])
  (.cond (.t 11) .skip (.exit 0)))
  (.seq
  (.block 1
  (.seq
  (.ops
  [.mk (some 15) none (.mov (.t 0)) .no, .mk (some 16) none (.mov (.t 5)) .no, .mk (some 17) none (.indexAddr 4 (.t 15) (.t 16))
  .no, .mk (some 18) none (.fieldAddr 0 (.t 17)) .no, .mk (some 19) none (.load true 2 (.t 18)) .no, .mk (some 20) none (.load true 2 (.t 3)) .no, .mk (some 21) none (.call 47 [.t 19, .t 20])
  .no, .mk (some 14) none (.mov (.t 21)) .no, .mk (some 22) none (.extract 0 (.t 14)) .no, .mk (some 23) none (.extract 1 (.t 14)) .no, .mk (some 6) none (.mov (.t 22)) .no, .mk (some 7) none (.mov (.t 23)) .no])
  (.seq
  (.ops [.mk (some 24) none (.mov (.t 7)) .no])
  (.cond (.t 24)
  (.seq
  (.ops
  [.mk (some 4) none (.mov (.c (.one (.st (.bool true)))))
  .no])
  .ret)
  .skip))))
  (.ops
  [.mk (some 12) none (.mov (.t 5)) .no, .mk (some 13) none (.bin .add (.t 12) (.c (.one (.st (.int .i64 1)))))
  .no, .mk (some 5) none (.mov (.t 13)) .no]))))))
  (.seq
  (.ops
  [.mk (some 4) none (.mov (.c (.one (.st (.bool false)))))
  .no])
  .ret)))
theorem tr_R_Fit : trCode Try.prog 25 [] (Try.f55.body.getD .skip) = some ir_R_Fit := by kernel_rfl
theorem ac_R_Fit {xs : List AV} {r : AV} (hn : xs.length ≤ 25) (h : ∀ C : Ctx, C.n = 25 → IWP Try.prog C [] ir_R_Fit (FinQ [.t 4] r) (AS.start xs)) : ACalls Try.prog 55 xs r :=
  acalls_of Try.func55 rfl tr_R_Fit rfl hn h
def ir_R_next : IR :=
  (.seq
  (.ops
  [.mk (some 4) none (.box 25 (.t 1)) .no, .mk (some 6) none (.mov (.c (.one (.full []))))
  .no, .mk (some 7) none (.mov (.c (.one (.st (.bool false)))))
  .no])
  (.seq
  (.ops
  [.mk (some 15) none (.load true 2 (.t 4)) .no, .mk (some 16) none (.call 26 [.t 15]) .no, .mk (some 8) none (.mov (.t 16)) .no])
  (.seq
  (.seq
  (.ops
  [.mk (some 9) none (.mov (.c (.one (.st (.int .i64 0)))))
  .no])
  (.block 0
  (.loop
  (.seq
  (.seq
  (.ops
  [.mk (some 17) none (.mov (.t 9)) .no, .mk (some 18) none (.mov (.t 8)) .no, .mk (some 19) none (.len false (.t 18)) .no, .mk (some 20) none (.bin .lss (.t 17) (.t 19))
  .no])
  (.cond (.t 20) .skip (.exit 0)))
  (.seq
  (.block 1
  (.seq
  (.ops
  [.mk (some 24) none (.load true 2 (.t 4)) .no, .mk (some 25) none (.mov (.t 8)) .no, .mk (some 26) none (.mov (.t 9)) .no, .mk (some 27) none (.indexAddr 1 (.t 25) (.t 26))
  .no, .mk (some 28) none (.load false 1 (.t 27)) .no, .mk (some 29) none (.call 27 [.t 24, .t 28])
  .no, .mk (some 23) none (.mov (.t 29)) .no, .mk (some 30) none (.extract 0 (.t 23)) .no, .mk (some 31) none (.extract 1 (.t 23)) .no, .mk (some 10) none
  (.alloc 25 [.st (.str (ByteArray.mk (#[]))), .full []])
  .no, .mk none none (.store 2 (.t 10) (.t 30))
  .no, .mk (some 11) none (.mov (.t 31)) .no])
  (.seq
  (.seq
  (.ops
  [.mk (some 32) none (.mov (.t 0)) .no, .mk (some 33) none (.load true 2 (.t 10)) .no, .mk (some 34) none (.call 55 [.t 32, .t 33])
  .no, .mk (some 35) none (.un .not (.t 34)) .no])
  (.cond (.t 35) (.exit 1) .skip))
  (.seq
  (.ops
  [.mk (some 36) none (.load true 2 (.t 10)) .no, .mk (some 37) none (.call 24 [.t 36]) .no, .mk (some 12) none (.mov (.t 37)) .no])
  (.seq
  (.ops
  [.mk (some 13) none (.mov (.c (.one (.st (.bool true)))))
  .no])
  (.seq
  (.seq
  (.ops
  [.mk (some 14) none (.mov (.c (.one (.st (.int .i64 1)))))
  .no])
  (.block 2
  (.loop
  (.seq
  (.seq
  (.ops
  [.mk (some 38) none (.mov (.t 14)) .no, .mk (some 39) none (.mov (.t 12)) .no, .mk (some 40) none (.len false (.t 39)) .no, .mk (some 41) none (.bin .lss (.t 38) (.t 40)) .no, .mk (some 42) none (.mov (.t 41)) .no, .mk (some 43) (some (42, true)) (.mov (.t 2))
  .no, .mk (some 44) none
  (.pick (.t 42) (.t 43) (.c (.one (.st (.bool false)))))
  .no, .mk (some 45) none (.mov (.t 44)) .no, .mk (some 46) (some (45, true)) (.mov (.t 13))
  .no, .mk (some 47) none
  (.pick (.t 45) (.t 46) (.c (.one (.st (.bool false)))))
  .no])
  (.cond (.t 47) .skip (.exit 2)))
  (.seq
  (.block 3
  (.ops
  [.mk (some 50) none (.mov (.t 0)) .no, .mk (some 51) none (.mov (.t 12)) .no, .mk (some 52) none (.mov (.t 14)) .no, .mk (some 53) none (.indexAddr 2 (.t 51) (.t 52))
  .no, .mk (some 54) none (.load true 2 (.t 53)) .no, .mk (some 55) none (.call 55 [.t 50, .t 54])
  .no, .mk (some 56) none (.un .not (.t 55)) .no, .mk (some 13) none (.mov (.t 56)) .no]))
  (.ops
  [.mk (some 48) none (.mov (.t 14)) .no, .mk (some 49) none (.bin .add (.t 48) (.c (.one (.st (.int .i64 1)))))
  .no, .mk (some 14) none (.mov (.t 49)) .no]))))))
  (.seq
  (.ops
  [.mk (some 57) none (.mov (.t 13)) .no])
  (.cond (.t 57)
  (.seq
  (.ops
  [.mk (some 58) none (.mov (.t 8)) .no, .mk (some 59) none (.mov (.t 9)) .no, .mk (some 60) none (.indexAddr 1 (.t 58) (.t 59))
  .no, .mk (some 61) none (.load false 1 (.t 60)) .no, .mk (some 6) none (.mov (.t 61)) .no, .mk (some 7) none (.mov (.c (.one (.st (.bool true)))))
  .no])
  .ret)
  .skip))))))))
  (.ops
  [.mk (some 21) none (.mov (.t 9)) .no, .mk (some 22) none (.bin .add (.t 21) (.c (.one (.st (.int .i64 1)))))
  .no, .mk (some 9) none (.mov (.t 22)) .no]))))))
  (.seq
  (.ops
  [.mk (some 6) none (.mov (.c (.one (.full []))))
  .no, .mk (some 7) none (.mov (.c (.one (.st (.bool false)))))
  .no])
  .ret))))
theorem tr_R_next : trCode Try.prog 62 [] (Try.f38.body.getD .skip) = some ir_R_next := by kernel_rfl
theorem ac_R_next {xs : List AV} {r : AV} (hn : xs.length ≤ 62) (h : ∀ C : Ctx, C.n = 62 → IWP Try.prog C [] ir_R_next (FinQ [.t 6, .t 7] r) (AS.start xs)) : ACalls Try.prog 38 xs r :=
  acalls_of Try.func38 rfl tr_R_next rfl hn h
def ir_R_EndOf : IR :=
  (.seq
  (.ops
  [.mk (some 5) none (.box 25 (.t 1)) .no, .mk (some 8) none
  (.alloc 25 [.st (.str (ByteArray.mk (#[]))), .full []]) .no, .mk (some 9) none (.mov (.c (.one (.st (.int .i64 0)))))
  .no, .mk (some 10) none (.mov (.c (.one (.st (.int .i64 0)))))
  .no])
  (.seq
  (.ops
  [.mk (some 11) none (.mov (.c (.one (.st (.int .i64 0)))))
  .no])
  (.block 0
  (.loop
  (.block 1
  (.seq
  (.ops
  [.mk (some 21) none (.mov (.t 0)) .no, .mk (some 22) none (.load true 2 (.t 5)) .no, .mk (some 23) none (.mov (.t 3)) .no, .mk (some 24) none (.call 38 [.t 21, .t 22, .t 23]) .no, .mk (some 20) none (.mov (.t 24)) .no, .mk (some 25) none (.extract 0 (.t 20)) .no, .mk (some 26) none (.extract 1 (.t 20)) .no, .mk (some 12) none (.mov (.t 25)) .no, .mk (some 13) none (.mov (.t 26)) .no])
  (.seq
  (.seq
  (.ops
  [.mk (some 27) none (.mov (.t 13)) .no, .mk (some 28) none (.un .not (.t 27)) .no])
  (.cond (.t 28)
  (.seq
  (.ops
  [.mk (some 29) none (.load true 2 (.t 5)) .no, .mk (some 30) none (.mov (.t 11)) .no, .mk none none (.store 2 (.t 8) (.t 29))
  .no, .mk (some 9) none (.mov (.t 30)) .no, .mk (some 10) none (.mov (.c (.one (.st (.int .i64 0)))))
  .no])
  .ret)
  .skip))
  (.seq
  (.seq
  (.ops
  [.mk (some 31) none (.mov (.t 11)) .no, .mk (some 32) none (.mov (.t 2)) .no, .mk (some 33) none (.bin .eql (.t 31) (.t 32))
  .no])
  (.cond (.t 33)
  (.seq
  (.ops
  [.mk (some 34) none
  (.build [.st (.str (ByteArray.mk (#[]))), .full []] [])
  .no, .mk none none (.store 2 (.t 8) (.t 34))
  .no, .mk (some 9) none (.mov (.c (.one (.st (.int .i64 0)))))
  .no, .mk (some 10) none (.mov (.c (.one (.st (.int .i64 9)))))
  .no])
  .ret)
  .skip))
  (.seq
  (.ops
  [.mk (some 35) none (.mov (.t 11)) .no, .mk (some 36) none (.bin .add (.t 35) (.c (.one (.st (.int .i64 1)))))
  .no, .mk (some 11) none (.mov (.t 36)) .no])
  (.seq
  (.ops
  [.mk (some 38) none (.load true 2 (.t 5)) .no, .mk (some 39) none (.mov (.t 12)) .no, .mk (some 40) none (.call 27 [.t 38, .t 39])
  .no, .mk (some 37) none (.mov (.t 40)) .no, .mk (some 41) none (.extract 0 (.t 37)) .no, .mk (some 42) none (.extract 1 (.t 37)) .no, .mk (some 14) none
  (.alloc 25 [.st (.str (ByteArray.mk (#[]))), .full []])
  .no, .mk none none (.store 2 (.t 14) (.t 41))
  .no, .mk (some 15) none (.mov (.t 42)) .no])
  (.seq
  (.seq
  (.ops
  [.mk (some 16) none (.mov (.c (.one (.st (.int .i64 0)))))
  .no])
  (.block 2
  (.loop
  (.seq
  (.seq
  (.ops
  [.mk (some 43) none (.mov (.t 16)) .no, .mk (some 44) none (.mov (.t 0)) .no, .mk (some 45) none (.len false (.t 44)) .no, .mk (some 46) none (.bin .lss (.t 43) (.t 45))
  .no])
  (.cond (.t 46) .skip (.exit 2)))
  (.seq
  (.block 3
  (.seq
  (.ops
  [.mk (some 50) none (.mov (.t 0)) .no, .mk (some 51) none (.mov (.t 16)) .no, .mk (some 52) none (.indexAddr 4 (.t 50) (.t 51))
  .no, .mk (some 53) none (.load true 4 (.t 52)) .no, .mk (some 54) none (.load true 2 (.t 14)) .no, .mk (some 55) none (.call 28 [.t 53, .t 54])
  .no, .mk (some 49) none (.mov (.t 55)) .no, .mk (some 56) none (.extract 0 (.t 49)) .no, .mk (some 57) none (.extract 1 (.t 49)) .no, .mk (some 58) none (.extract 2 (.t 49)) .no, .mk (some 17) none
  (.alloc 25 [.st (.str (ByteArray.mk (#[]))), .full []])
  .no, .mk none none (.store 2 (.t 17) (.t 56))
  .no, .mk (some 18) none (.mov (.t 57)) .no, .mk (some 19) none (.mov (.t 58)) .no])
  (.seq
  (.seq
  (.ops
  [.mk (some 59) none (.mov (.t 19)) .no])
  (.cond (.t 59)
  (.seq
  (.ops
  [.mk (some 60) none
  (.build [.st (.str (ByteArray.mk (#[]))), .full []]
  [])
  .no, .mk none none (.store 2 (.t 8) (.t 60))
  .no, .mk (some 9) none (.mov (.c (.one (.st (.int .i64 0)))))
  .no, .mk (some 10) none (.mov (.c (.one (.st (.int .i64 8)))))
  .no])
  .ret)
  .skip))
  (.seq
  (.ops
  [.mk (some 61) none (.mov (.t 18)) .no])
  (.cond (.t 61)
  (.seq
  (.ops
  [.mk (some 62) none (.load true 2 (.t 5))
  .no, .mk (some 63) none (.mov (.t 12)) .no, .mk (some 64) none (.load true 2 (.t 17))
  .no, .mk (some 65) none (.call 29 [.t 62, .t 63, .t 64])
  .no, .mk none none (.store 2 (.t 5) (.t 65))
  .no])
  (.exit 2))
  .skip)))))
  (.ops
  [.mk (some 47) none (.mov (.t 16)) .no, .mk (some 48) none (.bin .add (.t 47) (.c (.one (.st (.int .i64 1)))))
  .no, .mk (some 16) none (.mov (.t 48)) .no]))))))
  (.seq
  (.ops
  [.mk (some 66) none (.load true 2 (.t 5)) .no, .mk (some 67) none (.call 14
  [.t 66, .c (.one (.st (.int .i64 2000)))])
  .no, .mk (some 68) none (.bin .gtr (.t 67) (.c (.one (.st (.int .i64 2000)))))
  .no])
  (.cond (.t 68)
  (.seq
  (.ops
  [.mk (some 69) none
  (.build [.st (.str (ByteArray.mk (#[]))), .full []] [])
  .no, .mk none none (.store 2 (.t 8) (.t 69))
  .no, .mk (some 9) none (.mov (.c (.one (.st (.int .i64 0)))))
  .no, .mk (some 10) none (.mov (.c (.one (.st (.int .i64 8)))))
  .no])
  .ret)
  .skip)))))))))))))
theorem tr_R_EndOf : trCode Try.prog 70 [] (Try.f15.body.getD .skip) = some ir_R_EndOf := by kernel_rfl
theorem ac_R_EndOf {xs : List AV} {r : AV} (hn : xs.length ≤ 70) (h : ∀ C : Ctx, C.n = 70 → IWP Try.prog C [] ir_R_EndOf (FinQ [.cell 8 true 2, .t 9, .t 10] r) (AS.start xs)) : ACalls Try.prog 15 xs r :=
  acalls_of Try.func15 rfl tr_R_EndOf rfl hn h
def ir_R_MeetOf : IR :=
  (.seq
  (.ops
  [.mk (some 5) none (.box 25 (.t 1)) .no, .mk (some 6) none (.box 25 (.t 2)) .no, .mk (some 8) none (.mov (.c (.one (.st (.bool false)))))
  .no, .mk (some 9) none (.mov (.c (.one (.st (.int .i64 0)))))
  .no])
  (.seq
  (.ops
  [.mk (some 16) none (.mov (.t 0)) .no, .mk (some 17) none (.load true 2 (.t 5)) .no, .mk (some 18) none (.mov (.t 3)) .no, .mk (some 19) none (.call 15
  [.t 16, .t 17, .t 18, .c (.one (.st (.bool true)))])
  .no, .mk (some 15) none (.mov (.t 19)) .no, .mk (some 20) none (.extract 0 (.t 15)) .no, .mk (some 21) none (.extract 1 (.t 15)) .no, .mk (some 22) none (.extract 2 (.t 15)) .no, .mk (some 10) none
  (.alloc 25 [.st (.str (ByteArray.mk (#[]))), .full []]) .no, .mk none none (.store 2 (.t 10) (.t 20)) .no, .mk (some 11) none (.mov (.t 21)) .no, .mk (some 12) none (.mov (.t 22)) .no])
  (.seq
  (.seq
  (.ops
  [.mk (some 23) none (.mov (.t 12)) .no, .mk (some 24) none (.bin .neq (.t 23) (.c (.one (.st (.int .i64 0)))))
  .no])
  (.cond (.t 24)
  (.seq
  (.ops
  [.mk (some 25) none (.mov (.t 12)) .no, .mk (some 8) none (.mov (.c (.one (.st (.bool false)))))
  .no, .mk (some 9) none (.mov (.t 25)) .no])
  .ret)
  .skip))
  (.seq
  (.ops
  [.mk (some 27) none (.mov (.t 0)) .no, .mk (some 28) none (.load true 2 (.t 6)) .no, .mk (some 29) none (.mov (.t 3)) .no, .mk (some 30) none (.call 15
  [.t 27, .t 28, .t 29, .c (.one (.st (.bool true)))])
  .no, .mk (some 26) none (.mov (.t 30)) .no, .mk (some 31) none (.extract 0 (.t 26)) .no, .mk (some 32) none (.extract 1 (.t 26)) .no, .mk (some 33) none (.extract 2 (.t 26)) .no, .mk (some 13) none
  (.alloc 25 [.st (.str (ByteArray.mk (#[]))), .full []]) .no, .mk none none (.store 2 (.t 13) (.t 31)) .no, .mk (some 14) none (.mov (.t 32)) .no, .mk (some 12) none (.mov (.t 33)) .no])
  (.seq
  (.seq
  (.ops
  [.mk (some 34) none (.mov (.t 12)) .no, .mk (some 35) none (.bin .neq (.t 34) (.c (.one (.st (.int .i64 0)))))
  .no])
  (.cond (.t 35)
  (.seq
  (.ops
  [.mk (some 36) none (.mov (.t 12)) .no, .mk (some 8) none (.mov (.c (.one (.st (.bool false)))))
  .no, .mk (some 9) none (.mov (.t 36)) .no])
  .ret)
  .skip))
  (.seq
  (.ops
  [.mk (some 37) none (.load true 2 (.t 10)) .no, .mk (some 38) none (.load true 2 (.t 13)) .no, .mk (some 39) none (.call 12 [.t 37, .t 38]) .no, .mk (some 8) none (.mov (.t 39)) .no, .mk (some 9) none (.mov (.c (.one (.st (.int .i64 0)))))
  .no])
  .ret))))))
theorem tr_R_MeetOf : trCode Try.prog 40 [] (Try.f16.body.getD .skip) = some ir_R_MeetOf := by kernel_rfl
theorem ac_R_MeetOf {xs : List AV} {r : AV} (hn : xs.length ≤ 40) (h : ∀ C : Ctx, C.n = 40 → IWP Try.prog C [] ir_R_MeetOf (FinQ [.t 8, .t 9] r) (AS.start xs)) : ACalls Try.prog 16 xs r :=
  acalls_of Try.func16 rfl tr_R_MeetOf rfl hn h
def ir_L_RewriteEnds : IR :=
  (.seq
  (.ops
  [.mk (some 5) none (.box 25 (.t 1)) .no, .mk (some 6) none (.box 25 (.t 2)) .no, .mk (some 8) none (.mov (.c (.one (.st (.bool false)))))
  .no])
  (.seq
  (.seq
  (.ops
  [.mk (some 25) none (.mov (.t 0)) .no, .mk (some 26) none (.call 5 [.t 25]) .no, .mk (some 27) none (.mov (.t 26)) .no, .mk (some 28) (some (27, false)) (.load true 2 (.t 5)) .no, .mk (some 29) (some (27, false)) (.call 6 [.t 28]) .no, .mk (some 30) none
  (.pick (.t 27) (.c (.one (.st (.bool true)))) (.t 29))
  .no, .mk (some 31) none (.mov (.t 30)) .no, .mk (some 32) (some (31, false)) (.load true 2 (.t 6)) .no, .mk (some 33) (some (31, false)) (.call 6 [.t 32]) .no, .mk (some 34) none
  (.pick (.t 31) (.c (.one (.st (.bool true)))) (.t 33))
  .no, .mk (some 35) none (.mov (.t 34)) .no, .mk (some 36) (some (35, false)) (.mov (.t 3)) .no, .mk (some 37) (some (35, false)) (.bin .gtr (.t 36) (.c (.one (.st (.int .i64 30)))))
  .no, .mk (some 38) (some (35, false)) (.mov (.t 37)) .no, .mk (some 39) (some (38, true)) (.mov (.t 3)) .no, .mk (some 40) (some (38, true)) (.bin .leq (.t 39) (.c (.one (.st (.int .i64 400)))))
  .no, .mk (some 41) (some (35, false))
  (.pick (.t 38) (.t 40) (.c (.one (.st (.bool false)))))
  .no, .mk (some 42) none
  (.pick (.t 35) (.c (.one (.st (.bool true)))) (.t 41))
  .no])
  (.cond (.t 42)
  (.seq
  (.ops
  [.mk (some 8) none (.mov (.c (.one (.st (.bool true)))))
  .no])
  .ret)
  .skip))
  (.seq
  (.ops
  [.mk (some 43) none (.mov (.t 0)) .no, .mk (some 44) none (.call 7 [.t 43]) .no, .mk (some 9) none (.mov (.t 44)) .no])
  (.seq
  (.ops
  [.mk (some 45) none (.mov (.t 9)) .no, .mk (some 10) none (.mov (.t 45)) .no])
  (.seq
  (.seq
  (.ops
  [.mk (some 46) none (.mov (.t 9)) .no, .mk (some 47) none (.bin .eql (.t 46) (.c (.one (.st (.int .i64 0)))))
  .no])
  (.cond (.t 47)
  (.seq
  (.ops
  [.mk (some 48) none (.load true 2 (.t 5)) .no, .mk (some 49) none (.call 8 [.t 48]) .no, .mk (some 9) none (.mov (.t 49)) .no])
  (.ops
  [.mk (some 50) none (.load true 2 (.t 5)) .no, .mk (some 51) none (.load true 2 (.t 6)) .no, .mk (some 52) none (.call 13 [.t 50, .t 51])
  .no, .mk (some 10) none (.mov (.t 52)) .no]))
  .skip))
  (.seq
  (.seq
  (.ops
  [.mk (some 53) none (.mov (.t 10)) .no, .mk (some 54) none (.bin .eql (.t 53) (.c (.one (.st (.int .i64 0)))))
  .no, .mk (some 55) none (.mov (.t 54)) .no, .mk (some 56) (some (55, true)) (.load true 2 (.t 5)) .no, .mk (some 57) (some (55, true)) (.call 14
  [.t 56, .c (.one (.st (.int .i64 40)))])
  .no, .mk (some 58) (some (55, true)) (.bin .gtr (.t 57) (.c (.one (.st (.int .i64 40)))))
  .no, .mk (some 59) (some (55, true)) (.mov (.t 58)) .no, .mk (some 60) (some (59, false)) (.load true 2 (.t 6)) .no, .mk (some 61) (some (59, false)) (.call 14
  [.t 60, .c (.one (.st (.int .i64 40)))])
  .no, .mk (some 62) (some (59, false)) (.bin .gtr (.t 61) (.c (.one (.st (.int .i64 40)))))
  .no, .mk (some 63) (some (55, true))
  (.pick (.t 59) (.c (.one (.st (.bool true)))) (.t 62))
  .no, .mk (some 64) (some (55, true)) (.mov (.t 63)) .no, .mk (some 65) (some (64, false)) (.mov (.t 0)) .no, .mk (some 66) (some (64, false)) (.len false (.t 65)) .no, .mk (some 67) (some (64, false)) (.bin .gtr (.t 66) (.c (.one (.st (.int .i64 12)))))
  .no, .mk (some 68) (some (55, true))
  (.pick (.t 64) (.c (.one (.st (.bool true)))) (.t 67))
  .no, .mk (some 69) none
  (.pick (.t 55) (.t 68) (.c (.one (.st (.bool false)))))
  .no])
  (.cond (.t 69)
  (.seq
  (.ops
  [.mk (some 8) none (.mov (.c (.one (.st (.bool true)))))
  .no])
  .ret)
  .skip))
  (.seq
  (.seq
  (.ops
  [.mk (some 70) none (.mov (.t 3)) .no, .mk (some 71) none (.bin .lss (.t 70) (.c (.one (.st (.int .i64 0)))))
  .no, .mk (some 72) none (.mov (.t 71)) .no, .mk (some 73) (some (72, false)) (.mov (.t 3)) .no, .mk (some 74) (some (72, false)) (.bin .gtr (.t 73) (.c (.one (.st (.int .i64 400)))))
  .no, .mk (some 75) none
  (.pick (.t 72) (.c (.one (.st (.bool true)))) (.t 74))
  .no])
  (.cond (.t 75)
  (.seq
  (.seq
  (.ops
  [.mk (some 76) none (.mov (.t 9)) .no, .mk (some 77) none (.bin .eql (.t 76) (.c (.one (.st (.int .i64 0)))))
  .no])
  (.cond (.t 77)
  (.ops
  [.mk (some 9) none (.mov (.c (.one (.st (.int .i64 10)))))
  .no])
  .skip))
  (.seq
  (.ops
  [.mk (some 78) none (.mov (.t 10)) .no, .mk (some 79) none (.bin .eql (.t 78) (.c (.one (.st (.int .i64 0)))))
  .no])
  (.cond (.t 79)
  (.ops
  [.mk (some 10) none (.mov (.c (.one (.st (.int .i64 10)))))
  .no])
  .skip)))
  .skip))
  (.seq
  (.ops
  [.mk (some 80) none
  (.build [.st (.str (ByteArray.mk (#[]))), .full []] [])
  .no, .mk (some 11) none
  (.alloc 25 [.st (.str (ByteArray.mk (#[]))), .full []])
  .no, .mk none none (.store 2 (.t 11) (.t 80))
  .no])
  (.seq
  (.ops
  [.mk (some 81) none
  (.build [.st (.str (ByteArray.mk (#[]))), .full []] [])
  .no, .mk (some 12) none
  (.alloc 25 [.st (.str (ByteArray.mk (#[]))), .full []])
  .no, .mk none none (.store 2 (.t 12) (.t 81))
  .no])
  (.seq
  (.ops
  [.mk (some 13) none (.mov (.c (.one (.st (.int .i64 0)))))
  .no])
  (.seq
  (.ops
  [.mk (some 14) none (.mov (.c (.one (.st (.int .i64 0)))))
  .no])
  (.seq
  (.ops
  [.mk (some 82) none (.mov (.t 9)) .no, .mk (some 15) none (.mov (.t 82)) .no])
  (.seq
  (.ops
  [.mk (some 16) none (.mov (.c (.one (.st (.bool false)))))
  .no])
  (.seq
  (.seq
  (.ops
  [.mk (some 83) none (.mov (.t 9)) .no, .mk (some 84) none (.bin .eql (.t 83) (.c (.one (.st (.int .i64 0)))))
  .no])
  (.cond (.t 84)
  (.seq
  (.ops
  [.mk (some 86) none (.mov (.t 0)) .no, .mk (some 87) none (.load true 2 (.t 5)) .no, .mk (some 88) none (.mov (.t 3)) .no, .mk (some 89) none (.call 15
  [.t 86, .t 87, .t 88, .c (.one (.st (.bool true)))])
  .no, .mk (some 85) none (.mov (.t 89)) .no, .mk (some 90) none (.extract 0 (.t 85)) .no, .mk (some 91) none (.extract 1 (.t 85)) .no, .mk (some 92) none (.extract 2 (.t 85)) .no, .mk none none (.store 2 (.t 11) (.t 90))
  .no, .mk (some 13) none (.mov (.t 91)) .no, .mk (some 9) none (.mov (.t 92)) .no])
  (.ops
  [.mk (some 94) none (.mov (.t 0)) .no, .mk (some 95) none (.load true 2 (.t 5)) .no, .mk (some 96) none (.mov (.t 3)) .no, .mk (some 97) none (.call 15
  [.t 94, .t 95, .t 96, .c (.one (.st (.bool false)))])
  .no, .mk (some 93) none (.mov (.t 97)) .no, .mk (some 98) none (.extract 0 (.t 93)) .no, .mk (some 99) none (.extract 1 (.t 93)) .no, .mk (some 100) none (.extract 2 (.t 93)) .no, .mk none none (.store 2 (.t 12) (.t 98))
  .no, .mk (some 14) none (.mov (.t 99)) .no, .mk (some 15) none (.mov (.t 100)) .no]))
  .skip))
  (.seq
  (.seq
  (.ops
  [.mk (some 101) none (.mov (.t 10)) .no, .mk (some 102) none (.bin .eql (.t 101) (.c (.one (.st (.int .i64 0)))))
  .no])
  (.cond (.t 102)
  (.ops
  [.mk (some 104) none (.mov (.t 0)) .no, .mk (some 105) none (.load true 2 (.t 5)) .no, .mk (some 106) none (.load true 2 (.t 6)) .no, .mk (some 107) none (.mov (.t 3)) .no, .mk (some 108) none (.call 16
  [.t 104, .t 105, .t 106, .t 107])
  .no, .mk (some 103) none (.mov (.t 108)) .no, .mk (some 109) none (.extract 0 (.t 103)) .no, .mk (some 110) none (.extract 1 (.t 103)) .no, .mk (some 16) none (.mov (.t 109)) .no, .mk (some 10) none (.mov (.t 110)) .no])
  .skip))
  (.seq
  (.ops
  [.mk (some 112) none (.mov (.t 0)) .no, .mk (some 113) none (.load true 2 (.t 5)) .no, .mk (some 114) none (.mov (.t 3)) .no, .mk (some 115) none (.call 17 [.t 112, .t 113, .t 114]) .no, .mk (some 111) none (.mov (.t 115)) .no, .mk (some 116) none (.extract 0 (.t 111)) .no, .mk (some 117) none (.extract 1 (.t 111)) .no, .mk (some 118) none (.extract 2 (.t 111)) .no, .mk (some 17) none
  (.alloc 25 [.st (.str (ByteArray.mk (#[]))), .full []])
  .no, .mk none none (.store 2 (.t 17) (.t 116))
  .no, .mk (some 18) none (.mov (.t 117)) .no, .mk (some 19) none (.mov (.t 118)) .no])
  (.seq
  (.ops
  [.mk (some 120) none (.mov (.t 0)) .no, .mk (some 121) none (.load true 2 (.t 5)) .no, .mk (some 122) none (.mov (.t 3)) .no, .mk (some 123) none (.call 18 [.t 120, .t 121, .t 122])
  .no, .mk (some 119) none (.mov (.t 123)) .no, .mk (some 124) none (.extract 0 (.t 119)) .no, .mk (some 125) none (.extract 1 (.t 119)) .no, .mk (some 126) none (.extract 2 (.t 119)) .no, .mk (some 20) none
  (.alloc 25 [.st (.str (ByteArray.mk (#[]))), .full []])
  .no, .mk none none (.store 2 (.t 20) (.t 124))
  .no, .mk (some 21) none (.mov (.t 125)) .no, .mk (some 22) none (.mov (.t 126)) .no])
  (.seq
  (.ops
  [.mk (some 128) none (.mov (.t 0)) .no, .mk (some 129) none (.load true 2 (.t 5)) .no, .mk (some 130) none (.load true 2 (.t 6)) .no, .mk (some 131) none (.mov (.t 3)) .no, .mk (some 132) none (.call 19
  [.t 128, .t 129, .t 130, .t 131])
  .no, .mk (some 127) none (.mov (.t 132)) .no, .mk (some 133) none (.extract 0 (.t 127)) .no, .mk (some 134) none (.extract 1 (.t 127)) .no, .mk (some 23) none (.mov (.t 133)) .no, .mk (some 24) none (.mov (.t 134)) .no])
  (.seq
  (.ops
  [.mk (some 135) none (.load true 2 (.t 17)) .no, .mk (some 136) none (.mov (.t 19)) .no, .mk (some 137) none (.load true 2 (.t 11)) .no, .mk (some 138) none (.mov (.t 9)) .no, .mk (some 139) none (.call 20
  [.t 135, .t 136, .t 137, .t 138])
  .no, .mk (some 140) none (.mov (.t 139)) .no, .mk (some 141) (some (140, true)) (.mov (.t 18))
  .no, .mk (some 142) (some (140, true)) (.mov (.t 13))
  .no, .mk (some 143) (some (140, true)) (.bin .eql (.t 141) (.t 142)) .no, .mk (some 144) none
  (.pick (.t 140) (.t 143) (.c (.one (.st (.bool false)))))
  .no, .mk (some 145) none (.mov (.t 144)) .no, .mk (some 146) (some (145, true)) (.load true 2 (.t 20))
  .no, .mk (some 147) (some (145, true)) (.mov (.t 22))
  .no, .mk (some 148) (some (145, true)) (.load true 2 (.t 12))
  .no, .mk (some 149) (some (145, true)) (.mov (.t 15))
  .no, .mk (some 150) (some (145, true)) (.call 20
  [.t 146, .t 147, .t 148, .t 149])
  .no, .mk (some 151) none
  (.pick (.t 145) (.t 150) (.c (.one (.st (.bool false)))))
  .no, .mk (some 152) none (.mov (.t 151)) .no, .mk (some 153) (some (152, true)) (.mov (.t 21))
  .no, .mk (some 154) (some (152, true)) (.mov (.t 14))
  .no, .mk (some 155) (some (152, true)) (.bin .eql (.t 153) (.t 154)) .no, .mk (some 156) none
  (.pick (.t 152) (.t 155) (.c (.one (.st (.bool false)))))
  .no, .mk (some 157) none (.mov (.t 156)) .no, .mk (some 158) (some (157, true)) (.mov (.t 23))
  .no, .mk (some 159) (some (157, true)) (.mov (.t 16))
  .no, .mk (some 160) (some (157, true))
  (.eqB false (.t 158) (.t 159)) .no, .mk (some 161) none
  (.pick (.t 157) (.t 160) (.c (.one (.st (.bool false)))))
  .no, .mk (some 162) none (.mov (.t 161)) .no, .mk (some 163) (some (162, true)) (.mov (.t 24))
  .no, .mk (some 164) (some (162, true)) (.mov (.t 10))
  .no, .mk (some 165) (some (162, true)) (.bin .eql (.t 163) (.t 164)) .no, .mk (some 166) none
  (.pick (.t 162) (.t 165) (.c (.one (.st (.bool false)))))
  .no, .mk (some 8) none (.mov (.t 166)) .no])
  .ret)))))))))))))))))))
theorem tr_L_RewriteEnds : trCode Try.prog 167 [] (Try.f4.body.getD .skip) = some ir_L_RewriteEnds := by kernel_rfl
theorem ac_L_RewriteEnds {xs : List AV} {r : AV} (hn : xs.length ≤ 167) (h : ∀ C : Ctx, C.n = 167 → IWP Try.prog C [] ir_L_RewriteEnds (FinQ [.t 8] r) (AS.start xs)) : ACalls Try.prog 4 xs r :=
  acalls_of Try.func4 rfl tr_L_RewriteEnds rfl hn h
end Go.Proofs.Ytkekmeiiikkabaa

namespace Go.Proofs.Ytkekmeiiikkabaa
open Go Go.RowKit
set_option linter.unusedVariables false

/-! ### the order of texts -/
theorem bl_irrefl : ∀ l : List UInt8, Op.bytesLess l l = false
  | [] => by simp [Op.bytesLess]
  | x :: xs => by simp [Op.bytesLess, bl_irrefl xs]
theorem bl_trans : ∀ (a b c : List UInt8), Op.bytesLess a b = true → Op.bytesLess b c = true → Op.bytesLess a c = true
  | _, [], _, h, _ => by simp [Op.bytesLess] at h
  | _, _ :: _, [], _, k => by simp [Op.bytesLess] at k
  | [], _ :: _, _ :: _, _, _ => by simp [Op.bytesLess]
  | x :: xs, y :: ys, z :: zs, h, k => by
    simp only [Op.bytesLess, Bool.or_eq_true, Bool.and_eq_true, decide_eq_true_eq, beq_iff_eq] at h k ⊢
    rcases h with h | ⟨rfl, h⟩
    · rcases k with k | ⟨rfl, k⟩
      · exact .inl (UInt8.lt_trans h k)
      · exact .inl h
    · rcases k with k | ⟨rfl, k⟩
      · exact .inl k
      · exact .inr ⟨rfl, bl_trans xs ys zs h k⟩
theorem bl_total : ∀ (a b : List UInt8), Op.bytesLess a b = true ∨ a = b ∨ Op.bytesLess b a = true
  | [], [] => .inr (.inl rfl)
  | [], _ :: _ => .inl (by simp [Op.bytesLess])
  | _ :: _, [] => .inr (.inr (by simp [Op.bytesLess]))
  | x :: xs, y :: ys => by
    simp only [Op.bytesLess, Bool.or_eq_true, Bool.and_eq_true, decide_eq_true_eq, beq_iff_eq, List.cons.injEq]
    rcases Nat.lt_trichotomy x.toNat y.toNat with h | h | h
    · exact .inl (.inl h)
    · have e : x = y := UInt8.toNat_inj.1 h
      subst e
      rcases bl_total xs ys with h | h | h
      · exact .inl (.inr ⟨rfl, h⟩)
      · exact .inr (.inl ⟨rfl, h⟩)
      · exact .inr (.inr (.inr ⟨rfl, h⟩))
    · exact .inr (.inr (.inl h))
theorem bytes_eq {a b : ByteArray} (h : a.toList = b.toList) : a = b := by
  rw [ByteArray.toList_eq, ByteArray.toList_eq] at h
  cases a; cases b
  simp only at h
  congr 1
  exact Array.toList_inj.1 h
theorem sLt_irrefl (a : ByteArray) : sLt a a = false := bl_irrefl _
theorem sLt_trans {a b c : ByteArray} (h : sLt a b = true) (k : sLt b c = true) : sLt a c = true := bl_trans _ _ _ h k
theorem sLt_total (a b : ByteArray) : sLt a b = true ∨ a = b ∨ sLt b a = true := by
  rcases bl_total a.toList b.toList with h | h | h
  · exact .inl h
  · exact .inr (.inl (bytes_eq h))
  · exact .inr (.inr h)
def cmpI (a b : ByteArray) : Int := if sLt a b = true then -1 else if a = b then 0 else 1

/-! ### bindings -/
abbrev Bd := ByteArray × Tm
def encB (b : Bd) : List SV := [.str b.1, .str b.2.name, .list (b.2.args.map encT)]
abbrev aBds (l : List Bd) : AV := .one (.st (.list (l.map encB)))
abbrev aBd (b : Bd) : AV := .agg [.st (.str b.1), .st (.str b.2.name), .st (.list (b.2.args.map encT))]
theorem lens_encB {ts : List Bd} : ∀ x ∈ ts.map encB, x.length = 3 := by
  intro x hx
  obtain ⟨a, _, rfl⟩ := List.mem_map.1 hx
  rfl
theorem drop_get {α : Type} {xs : List α} {k : Nat} {a : α} (h : xs[k]? = some a) : xs.drop k = a :: xs.drop (k + 1) := by
  have hk := lt_of_get h
  rw [List.getElem?_eq_getElem hk] at h
  rw [List.drop_eq_getElem_cons hk]
  simp at h
  rw [h]
/-- Names in order, each greater than those ahead. -/
def Ordered (l : List Bd) : Prop := l.Pairwise fun a b => sLt a.1 b.1 = true
/-! ### what stands for a name -/
def lookup (l : List Bd) (n : ByteArray) : Option Tm := (l.find? fun b => decide (b.1 = n)).map (·.2)
theorem lookup_none {l : List Bd} {n : ByteArray} (h : ∀ b ∈ l, b.1 ≠ n) : lookup l n = none := by
  unfold lookup
  rw [List.find?_eq_none.2 (fun b hb => by simpa using h b hb)]
  rfl
theorem lookup_take {l : List Bd} {n : ByteArray} {k : Nat} {b : Bd} (hk : l[k]? = some b) (hb : b.1 = n) (h : ∀ c ∈ l.take k, c.1 ≠ n) : lookup l n = some b.2 := by
  unfold lookup
  rw [← List.take_append_drop k l, List.find?_append, List.find?_eq_none.2 (fun c hc => by simpa using h c hc), drop_get hk]
  simp [hb]
theorem lookup_mem {l : List Bd} {n : ByteArray} {x : Tm} (h : lookup l n = some x) : ∃ b ∈ l, b.1 = n ∧ b.2 = x := by
  unfold lookup at h
  rw [Option.map_eq_some_iff] at h
  obtain ⟨b, h1, h2⟩ := h
  exact ⟨b, List.mem_of_find?_eq_some h1, by simpa using List.find?_some h1, h2⟩
/-- In order, a name stands once. -/
theorem ordered_get {l : List Bd} (h : Ordered l) {i j : Nat} {a b : Bd} (hi : l[i]? = some a) (hj : l[j]? = some b) (hij : i < j) : sLt a.1 b.1 = true := by
  have h1 := List.pairwise_iff_getElem.1 h
  obtain ⟨hi1, hi2⟩ := List.getElem?_eq_some_iff.1 hi
  obtain ⟨hj1, hj2⟩ := List.getElem?_eq_some_iff.1 hj
  have := h1 i j hi1 hj1 hij
  rw [hi2, hj2] at this
  exact this

/-! ### substitution -/
mutual
def Tm.on (s : List Bd) : Tm → Tm
  | .mk n xs => match (if xs.isEmpty then lookup s n else none) with
    | some x => x
    | none => .mk n (Tm.onL s xs)
def Tm.onL (s : List Bd) : List Tm → List Tm
  | [] => []
  | t :: ts => t.on s :: Tm.onL s ts
end
theorem Tm.onL_eq (s : List Bd) : ∀ ts : List Tm, Tm.onL s ts = ts.map (Tm.on s)
  | [] => rfl
  | t :: ts => by rw [Tm.onL, Tm.onL_eq s ts]; rfl
theorem Tm.on_leaf {s : List Bd} {t x : Tm} (h : lookup s t.name = some x) (h0 : t.args = []) : t.on s = x := by
  cases t with
  | mk n xs =>
    simp only [Tm.name_mk, Tm.args_mk] at h h0
    subst h0
    simp [Tm.on, h]
theorem Tm.on_knot {s : List Bd} {t : Tm} (h : lookup s t.name = none ∨ t.args ≠ []) : t.on s = .mk t.name (t.args.map (Tm.on s)) := by
  cases t with
  | mk n xs =>
    simp only [Tm.name_mk, Tm.args_mk] at h ⊢
    rw [← Tm.onL_eq]
    rcases h with h | h
    · simp [Tm.on, h]
    · cases xs with
      | nil => exact absurd rfl h
      | cons y ys => simp [Tm.on]
/-- no knot with a variable's name has arguments -/
theorem Tm.chk_args {t : Tm} (h : t.chk = 0) : (isVar t.name = true → t.args = []) ∧ ∀ a ∈ t.args, a.chk = 0 := by
  have hc := Tm.chk_eq t
  rw [h] at hc
  by_cases h1 : chkOne t = 0
  · rw [if_pos h1] at hc
    have key : ∀ {xs : List Tm}, Tm.chkL xs = 0 → ∀ a ∈ xs, a.chk = 0 := by
      intro xs
      induction xs with
      | nil => simp
      | cons x xs ih =>
        intro hx a ha
        simp only [Tm.chkL] at hx
        split at hx
        · rename_i h2
          rcases List.mem_cons.1 ha with rfl | ha
          · exact h2
          · exact ih hx a ha
        · rename_i h2
          exact absurd hx h2
    refine ⟨fun hv => ?_, key hc.symm⟩
    unfold chkOne at h1
    split at h1
    · split at h1
      · cases h1
      · rename_i h2
        simp only [hv, true_and, Nat.not_lt, Nat.le_zero] at h2
        exact List.eq_nil_of_length_eq_zero h2
    · cases h1
  · rw [if_neg h1] at hc
    exact absurd hc.symm h1
theorem Tm.may_chk {t : Tm} (h : t.may = 0) : t.chk = 0 ∧ t.size ≤ 200 := by
  unfold Tm.may at h
  split at h
  · cases h
  · exact ⟨h, by omega⟩

/-! ### classes -/
end Go.Proofs.Ytkekmeiiikkabaa

namespace Go.Proofs.Ytkekmeiiikkabaa
open Go Go.RowKit
set_option linter.unusedVariables false

/-- A binding laid into a sorted row: behind all whose names are no greater. -/
def insB (b : Bd) : List Bd → List Bd
  | [] => [b]
  | c :: l => if sLt b.1 c.1 = true then b :: c :: l else c :: insB b l
def sortB (l : List Bd) : List Bd := l.foldl (fun acc b => insB b acc) []
/-- No two names alike. -/
def Named (l : List Bd) : Prop := (l.map (·.1)).Nodup
theorem insB_perm (b : Bd) : ∀ l : List Bd, (insB b l).Perm (b :: l)
  | [] => List.Perm.refl _
  | c :: l => by
    unfold insB
    split
    · exact List.Perm.refl _
    · exact ((insB_perm b l).cons c).trans (List.Perm.swap b c l)
theorem insB_ordered {b : Bd} : ∀ {l : List Bd}, Ordered l → (∀ c ∈ l, c.1 ≠ b.1) → Ordered (insB b l)
  | [], _, _ => List.pairwise_cons.2 ⟨by simp, List.Pairwise.nil⟩
  | c :: l, ho, hn => by
    obtain ⟨o1, o2⟩ := List.pairwise_cons.1 ho
    unfold insB
    split
    · rename_i h
      exact List.pairwise_cons.2 ⟨fun x hx => by
        rcases List.mem_cons.1 hx with rfl | hx
        · exact h
        · exact sLt_trans h (o1 x hx), ho⟩
    · rename_i h
      refine List.pairwise_cons.2 ⟨fun x hx => ?_, insB_ordered o2 fun x hx => hn x (by simp [hx])⟩
      rcases List.mem_cons.1 ((insB_perm b l).mem_iff.1 hx) with rfl | hx
      · rcases sLt_total c.1 x.1 with k | k | k
        · exact k
        · exact absurd k (hn c (by simp))
        · exact absurd k h
      · exact o1 x hx
theorem sortB_snoc (l : List Bd) (b : Bd) : sortB (l ++ [b]) = insB b (sortB l) := by unfold sortB; rw [List.foldl_append]; rfl
theorem foldl_ins_perm : ∀ (l acc : List Bd), (l.foldl (fun acc b => insB b acc) acc).Perm (l ++ acc)
  | [], acc => List.Perm.refl _
  | b :: l, acc => by
    rw [List.foldl_cons]
    refine (foldl_ins_perm l _).trans ?_
    refine ((insB_perm b acc).append_left l).trans ?_
    exact List.perm_middle
theorem sortB_perm (l : List Bd) : (sortB l).Perm l := by
  have := foldl_ins_perm l []
  rw [List.append_nil] at this
  exact this
theorem foldl_ins_ordered : ∀ (l acc : List Bd), Ordered acc → Named (acc ++ l) → Ordered (l.foldl (fun acc b => insB b acc) acc)
  | [], acc, ho, _ => ho
  | b :: l, acc, ho, hn => by
    rw [List.foldl_cons]
    have hp : (acc ++ b :: l).Perm (insB b acc ++ l) := (List.perm_middle).trans (by rw [← List.cons_append]; exact ((insB_perm b acc).symm.append_right l))
    refine foldl_ins_ordered l _ (insB_ordered ho fun c hc e => ?_) ((hp.map _).nodup_iff.1 hn)
    unfold Named at hn
    rw [List.map_append, List.nodup_append] at hn
    exact hn.2.2 _ (List.mem_map.2 ⟨c, hc, rfl⟩) _ (by simp) e
theorem sortB_ordered {l : List Bd} (hn : Named l) : Ordered (sortB l) := foldl_ins_ordered l [] List.Pairwise.nil (by simpa using hn)
theorem ordered_unique : ∀ {l m : List Bd}, Ordered l → Ordered m → l.Perm m → l = m
  | [], m, _, _, h => (List.nil_perm.1 h).symm
  | a :: l, [], _, _, h => absurd h.length_eq (by simp)
  | a :: l, c :: m, hl, hm, h => by
    obtain ⟨l1, l2⟩ := List.pairwise_cons.1 hl
    obtain ⟨m1, m2⟩ := List.pairwise_cons.1 hm
    have e : a = c := by
      rcases List.mem_cons.1 (h.mem_iff.1 (List.mem_cons_self)) with e | e
      · exact e
      · rcases List.mem_cons.1 (h.mem_iff.2 (List.mem_cons_self)) with e2 | e2
        · exact e2.symm
        · have := sLt_trans (m1 a e) (l1 c e2)
          rw [sLt_irrefl] at this
          cases this
    subst e
    rw [ordered_unique l2 m2 (List.Perm.cons_inv h)]
theorem sortB_mem {l : List Bd} {b : Bd} : b ∈ sortB l ↔ b ∈ l := (sortB_perm l).mem_iff
theorem sortB_length (l : List Bd) : (sortB l).length = l.length := (sortB_perm l).length_eq
theorem named_perm {l m : List Bd} (h : l.Perm m) (hn : Named l) : Named m := ((h.map _).nodup_iff).1 hn
end Go.Proofs.Ytkekmeiiikkabaa

namespace Go.Proofs.Ytkekmeiiikkabaa
open Go Go.RowKit
set_option linter.unusedVariables false

mutual
/-- What is bound behind matching; does it go on? -/
def Tm.mt : Tm → Tm → List Bd → List Bd × Bool
  | .mk n xs, t, l => if isVar n = true then (match lookup l n with
      | some x => (l, x.beq t)
      | none => (l ++ [(n, t)], true))
    else if n = t.name ∧ xs.length = t.args.length then Tm.mtL xs t.args l else (l, false)
def Tm.mtL : List Tm → List Tm → List Bd → List Bd × Bool
  | x :: xs, y :: ys, l => if (x.mt y l).2 = true then Tm.mtL xs ys (x.mt y l).1 else ((x.mt y l).1, false)
  | _, _, l => (l, true)
end
section
variable {p t : Tm} {l : List Bd}
theorem Tm.mt_old (hv : isVar p.name = true) {x : Tm} (h : lookup l p.name = some x) : p.mt t l = (l, x.beq t) := by
  cases p with
  | mk n xs =>
    simp only [Tm.name_mk] at hv h
    rw [Tm.mt, if_pos hv, h]
theorem Tm.mt_new (hv : isVar p.name = true) (h : lookup l p.name = none) : p.mt t l = (l ++ [(p.name, t)], true) := by
  cases p with
  | mk n xs =>
    simp only [Tm.name_mk] at hv h
    rw [Tm.mt, if_pos hv, h]
    rfl
theorem Tm.mt_clash (hv : isVar p.name = false) (h : ¬ (p.name = t.name ∧ p.args.length = t.args.length)) : p.mt t l = (l, false) := by
  cases p with
  | mk n xs =>
    simp only [Tm.name_mk, Tm.args_mk] at hv h
    rw [Tm.mt, if_neg (by simp [hv]), if_neg h]
theorem Tm.mt_knot (hv : isVar p.name = false) (h1 : p.name = t.name) (h2 : p.args.length = t.args.length) : p.mt t l = Tm.mtL p.args t.args l := by
  cases p with
  | mk n xs =>
    simp only [Tm.name_mk, Tm.args_mk] at hv h1 h2
    rw [Tm.mt, if_neg (by simp [hv]), if_pos ⟨h1, h2⟩]
    rfl
end
theorem Tm.mtL_nil (ys : List Tm) (l : List Bd) : Tm.mtL [] ys l = (l, true) := by cases ys <;> simp [Tm.mtL]
theorem Tm.mtL_append : ∀ (xs ys xs' ys' : List Tm) (l : List Bd), xs.length = ys.length → Tm.mtL (xs ++ xs') (ys ++ ys') l = if (Tm.mtL xs ys l).2 = true then Tm.mtL xs' ys' (Tm.mtL xs ys l).1 else ((Tm.mtL xs ys l).1, false)
  | [], [], xs', ys', l, _ => by simp [Tm.mtL_nil]
  | x :: xs, y :: ys, xs', ys', l, h => by
    simp only [List.cons_append, Tm.mtL]
    by_cases hx : (x.mt y l).2 = true
    · simp only [hx, if_true]
      exact Tm.mtL_append xs ys xs' ys' _ (by simpa using h)
    · simp only [hx]
      simp
  | [], y :: ys, _, _, _, h => by simp at h
  | x :: xs, [], _, _, _, h => by simp at h
/-- One thing on. -/
theorem Tm.mtL_take {xs ys : List Tm} {k : Nat} {x y : Tm} {l : List Bd} (hl : xs.length = ys.length) (hx : xs[k]? = some x) (hy : ys[k]? = some y) (h : (Tm.mtL (xs.take k) (ys.take k) l).2 = true) :
    Tm.mtL (xs.take (k + 1)) (ys.take (k + 1)) l = x.mt y (Tm.mtL (xs.take k) (ys.take k) l).1 := by
  rw [take_snoc hx, take_snoc hy, Tm.mtL_append _ _ _ _ _ (by simp [hl]), if_pos h]
  generalize Tm.mtL (xs.take k) (ys.take k) l = q
  simp only [Tm.mtL]
  split
  · rename_i h1
    exact Prod.ext rfl h1.symm
  · rename_i h1
    exact Prod.ext rfl (by simpa using h1)
theorem Tm.mtL_no {xs ys : List Tm} {k : Nat} {l : List Bd} (hl : xs.length = ys.length) (h : (Tm.mtL (xs.take k) (ys.take k) l).2 = false) : Tm.mtL xs ys l = ((Tm.mtL (xs.take k) (ys.take k) l).1, false) := by
  have e : Tm.mtL xs ys l = Tm.mtL (xs.take k ++ xs.drop k) (ys.take k ++ ys.drop k) l := by rw [List.take_append_drop, List.take_append_drop]
  rw [e, Tm.mtL_append _ _ _ _ _ (by simp [hl]), h]
  rfl
/-- What matching keeps: names stand once; few are bound; what is bound is a part of the term. -/
structure MtOk (l l' : List Bd) (many most : Nat) : Prop where
  named : Named l → Named l'
  len : l'.length ≤ l.length + many
  size : ∀ b ∈ l', b ∈ l ∨ b.2.size ≤ most
theorem MtOk.refl (l : List Bd) (n m : Nat) : MtOk l l n m := ⟨fun h => h, by omega, fun b hb => .inl hb⟩
theorem MtOk.trans {a b c : List Bd} {n m k n' m' : Nat} (h : MtOk a b n m) (h' : MtOk b c n' m') (hn : n + n' ≤ k) {M : Nat} (h1 : m ≤ M) (h2 : m' ≤ M) : MtOk a c k M := by
  refine ⟨fun q => h'.named (h.named q), by have := h.len; have := h'.len; omega, fun x hx => ?_⟩
  rcases h'.size x hx with h3 | h3
  · rcases h.size x h3 with h4 | h4
    · exact .inl h4
    · exact .inr (by omega)
  · exact .inr (by omega)
theorem lookup_names {l : List Bd} {n : ByteArray} (h : lookup l n = none) : n ∉ l.map (·.1) := by
  intro hm
  obtain ⟨b, hb, rfl⟩ := List.mem_map.1 hm
  unfold lookup at h
  rw [Option.map_eq_none_iff, List.find?_eq_none] at h
  exact h b hb (by simp)
theorem named_snoc {l : List Bd} {b : Bd} (h : lookup l b.1 = none) (hn : Named l) : Named (l ++ [b]) := by
  unfold Named at *
  rw [List.map_append, List.nodup_append]
  refine ⟨hn, by simp, fun x hx y hy e => ?_⟩
  simp only [List.map_cons, List.map_nil, List.mem_singleton] at hy
  subst hy
  subst e
  exact lookup_names h hx
mutual
theorem Tm.mt_ok : ∀ (p t : Tm) (l : List Bd), MtOk l (p.mt t l).1 p.size t.size
  | .mk n xs, t, l => by
    rw [Tm.mt]
    split
    · split
      · exact MtOk.refl _ _ _
      · rename_i h
        refine ⟨fun hn => named_snoc h hn, ?_, fun b hb => ?_⟩
        · have := Tm.size_pos (.mk n xs)
          rw [List.length_append, List.length_singleton]
          omega
        · rcases List.mem_append.1 hb with hb | hb
          · exact .inl hb
          · rw [List.mem_singleton] at hb
            subst hb
            exact .inr (Nat.le_refl _)
    · split
      · have := Tm.mtL_ok xs t.args l
        have h1 := Tm.size_eq t
        exact ⟨this.named, by have := this.len; rw [Tm.size]; omega, fun b hb => (this.size b hb).imp_right (by omega)⟩
      · exact MtOk.refl _ _ _
theorem Tm.mtL_ok : ∀ (xs ys : List Tm) (l : List Bd), MtOk l (Tm.mtL xs ys l).1 (Tm.sizes xs) (Tm.sizes ys)
  | [], ys, l => by rw [Tm.mtL_nil]; exact MtOk.refl _ _ _
  | x :: xs, [], l => by rw [Tm.mtL]; exact MtOk.refl _ _ _; simp
  | x :: xs, y :: ys, l => by
    rw [Tm.mtL]
    have h1 := Tm.mt_ok x y l
    split
    · exact h1.trans (Tm.mtL_ok xs ys _) (by rw [Tm.sizes]; exact Nat.le_refl _) (by rw [Tm.sizes]; omega) (by rw [Tm.sizes]; omega)
    · exact ⟨h1.named, by have := h1.len; rw [Tm.sizes]; show (x.mt y l).1.length ≤ _; omega, fun b hb => (h1.size b hb).imp_right (by rw [Tm.sizes]; omega)⟩
end
/-- What must stand for the pattern's variables; nothing, if it is no case. -/
def caseOf (p t : Tm) : List Bd := if (p.mt t []).2 = true then sortB (p.mt t []).1 else []
def isCase (p t : Tm) : Bool := (p.mt t []).2
theorem named_nil : Named [] := List.nodup_nil
theorem mt_named (p t : Tm) : Named (p.mt t []).1 := (Tm.mt_ok p t []).named named_nil
theorem mt_len (p t : Tm) : (p.mt t []).1.length ≤ p.size := by have := (Tm.mt_ok p t []).len; simpa using this
theorem mt_size (p t : Tm) : ∀ b ∈ (p.mt t []).1, b.2.size ≤ t.size := fun b hb => ((Tm.mt_ok p t []).size b hb).resolve_left (by simp)
end Go.Proofs.Ytkekmeiiikkabaa

namespace Go.Proofs.Ytkekmeiiikkabaa
open Go Go.RowKit
set_option linter.unusedVariables false

abbrev Pr := Tm × Tm
def encP (p : Pr) : List SV := [.str p.1.name, .list (p.1.args.map encT), .str p.2.name, .list (p.2.args.map encT)]
abbrev aPrs (l : List Pr) : AV := .one (.st (.list (l.map encP)))
abbrev aPr (p : Pr) : AV := .agg [.st (.str p.1.name), .st (.list (p.1.args.map encT)), .st (.str p.2.name), .st (.list (p.2.args.map encT))]
theorem lens_encP {ts : List Pr} : ∀ x ∈ ts.map encP, x.length = 4 := by
  intro x hx
  obtain ⟨a, _, rfl⟩ := List.mem_map.1 hx
  rfl

end Go.Proofs.Ytkekmeiiikkabaa
