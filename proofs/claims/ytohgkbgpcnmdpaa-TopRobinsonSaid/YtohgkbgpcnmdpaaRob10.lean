/-
  Part 10 of the texts: IrTerm. Conditions: none.
-/
import Derived.Test.YtohgkbgpcnmdpaaRob9
namespace Go.Proofs.Ytohgkbgpcnmdpaa
open Go Go.RowKit
set_option maxRecDepth 100000
def ir_term_letter : IR :=
  (.seq
  (.ops
  [.mk (some 2) none (.mov (.c (.one (.st (.bool false)))))
  .no])
  (.seq
  (.ops
  [.mk (some 3) none (.mov (.t 0)) .no, .mk (some 4) none (.bin .geq (.t 3) (.c (.one (.st (.int .u8 97)))))
  .no, .mk (some 5) none (.mov (.t 4)) .no, .mk (some 6) (some (5, true)) (.mov (.t 0)) .no, .mk (some 7) (some (5, true)) (.bin .leq (.t 6) (.c (.one (.st (.int .u8 122)))))
  .no, .mk (some 8) none
  (.pick (.t 5) (.t 7) (.c (.one (.st (.bool false)))))
  .no, .mk (some 9) none (.mov (.t 8)) .no, .mk (some 10) (some (9, false)) (.mov (.t 0)) .no, .mk (some 11) (some (9, false)) (.bin .geq (.t 10) (.c (.one (.st (.int .u8 65)))))
  .no, .mk (some 12) (some (9, false)) (.mov (.t 11)) .no, .mk (some 13) (some (12, true)) (.mov (.t 0)) .no, .mk (some 14) (some (12, true)) (.bin .leq (.t 13) (.c (.one (.st (.int .u8 90)))))
  .no, .mk (some 15) (some (9, false))
  (.pick (.t 12) (.t 14) (.c (.one (.st (.bool false)))))
  .no, .mk (some 16) none
  (.pick (.t 9) (.c (.one (.st (.bool true)))) (.t 15))
  .no, .mk (some 17) none (.mov (.t 16)) .no, .mk (some 18) (some (17, false)) (.mov (.t 0)) .no, .mk (some 19) (some (17, false)) (.bin .geq (.t 18) (.c (.one (.st (.int .u8 48)))))
  .no, .mk (some 20) (some (17, false)) (.mov (.t 19)) .no, .mk (some 21) (some (20, true)) (.mov (.t 0)) .no, .mk (some 22) (some (20, true)) (.bin .leq (.t 21) (.c (.one (.st (.int .u8 57)))))
  .no, .mk (some 23) (some (17, false))
  (.pick (.t 20) (.t 22) (.c (.one (.st (.bool false)))))
  .no, .mk (some 24) none
  (.pick (.t 17) (.c (.one (.st (.bool true)))) (.t 23))
  .no, .mk (some 2) none (.mov (.t 24)) .no])
  .ret))
theorem tr_term_letter : trCode Try.prog 25 [] (Try.f47.body.getD .skip) = some ir_term_letter := by kernel_rfl
theorem ac_term_letter {xs : List AV} {r : AV} (hn : xs.length ≤ 25) (h : ∀ C : Ctx, C.n = 25 → IWP Try.prog C [] ir_term_letter (FinQ [.t 2] r) (AS.start xs)) : ACalls Try.prog 47 xs r :=
  acalls_of Try.func47 rfl tr_term_letter rfl hn h
def ir_term_Name : IR :=
  (.seq
  (.ops
  [.mk (some 2) none (.mov (.c (.one (.st (.bool false)))))
  .no])
  (.seq
  (.seq
  (.ops
  [.mk (some 4) none (.mov (.t 0)) .no, .mk (some 5) none (.len true (.t 4)) .no, .mk (some 6) none (.bin .lss (.t 5) (.c (.one (.st (.int .i64 1)))))
  .no, .mk (some 7) none (.mov (.t 6)) .no, .mk (some 8) (some (7, false)) (.mov (.t 0)) .no, .mk (some 9) (some (7, false)) (.len true (.t 8)) .no, .mk (some 10) (some (7, false)) (.bin .gtr (.t 9) (.c (.one (.st (.int .i64 8)))))
  .no, .mk (some 11) none
  (.pick (.t 7) (.c (.one (.st (.bool true)))) (.t 10))
  .no, .mk (some 12) none (.mov (.t 11)) .no, .mk (some 13) (some (12, false)) (.mov (.t 0)) .no, .mk (some 14) (some (12, false))
  (.indexStr (.t 13) (.c (.one (.st (.int .i64 0)))))
  .no, .mk (some 15) (some (12, false)) (.bin .geq (.t 14) (.c (.one (.st (.int .u8 48)))))
  .no, .mk (some 16) (some (12, false)) (.mov (.t 15)) .no, .mk (some 17) (some (16, true)) (.mov (.t 0)) .no, .mk (some 18) (some (16, true))
  (.indexStr (.t 17) (.c (.one (.st (.int .i64 0)))))
  .no, .mk (some 19) (some (16, true)) (.bin .leq (.t 18) (.c (.one (.st (.int .u8 57)))))
  .no, .mk (some 20) (some (12, false))
  (.pick (.t 16) (.t 19) (.c (.one (.st (.bool false)))))
  .no, .mk (some 21) none
  (.pick (.t 12) (.c (.one (.st (.bool true)))) (.t 20))
  .no])
  (.cond (.t 21)
  (.seq
  (.ops
  [.mk (some 2) none (.mov (.c (.one (.st (.bool false)))))
  .no])
  .ret)
  .skip))
  (.seq
  (.seq
  (.ops
  [.mk (some 22) none (.mov (.t 0)) .no, .mk (some 23) none (.len true (.t 22)) .no, .mk (some 24) none (.mov (.c (.one (.st (.int .i64 0)))))
  .no])
  (.block 0
  (.loop
  (.seq
  (.ops
  [.mk (some 25) none (.bin .lss (.t 24) (.t 23))
  .no])
  (.seq (.cond (.t 25) .skip (.exit 0))
  (.seq
  (.block 1
  (.seq
  (.ops
  [.mk (some 26) none (.mov (.t 24)) .no, .mk (some 3) none (.mov (.t 26)) .no])
  (.seq
  (.ops
  [.mk (some 27) none (.mov (.t 0)) .no, .mk (some 28) none (.mov (.t 3)) .no, .mk (some 29) none (.indexStr (.t 27) (.t 28))
  .no, .mk (some 30) none (.call 47 [.t 29]) .no, .mk (some 31) none (.un .not (.t 30)) .no])
  (.cond (.t 31)
  (.seq
  (.ops
  [.mk (some 2) none (.mov (.c (.one (.st (.bool false)))))
  .no])
  .ret)
  .skip))))
  (.ops
  [.mk (some 32) none (.bin .add (.t 24) (.c (.one (.st (.int .i64 1)))))
  .no, .mk (some 24) none (.mov (.t 32)) .no])))))))
  (.seq
  (.ops
  [.mk (some 2) none (.mov (.c (.one (.st (.bool true)))))
  .no])
  .ret))))
theorem tr_term_Name : trCode Try.prog 33 [] (Try.f48.body.getD .skip) = some ir_term_Name := by kernel_rfl
theorem ac_term_Name {xs : List AV} {r : AV} (hn : xs.length ≤ 33) (h : ∀ C : Ctx, C.n = 33 → IWP Try.prog C [] ir_term_Name (FinQ [.t 2] r) (AS.start xs)) : ACalls Try.prog 48 xs r :=
  acalls_of Try.func48 rfl tr_term_Name rfl hn h
def ir_term_Variable : IR :=
  (.seq
  (.ops
  [.mk (some 2) none (.mov (.c (.one (.st (.bool false)))))
  .no])
  (.seq
  (.ops
  [.mk (some 3) none (.mov (.t 0)) .no, .mk (some 4) none (.bin .neq (.t 3) (.c (.one (.st (.str (ByteArray.mk (#[])))))))
  .no, .mk (some 5) none (.mov (.t 4)) .no, .mk (some 6) (some (5, true)) (.mov (.t 0)) .no, .mk (some 7) (some (5, true))
  (.indexStr (.t 6) (.c (.one (.st (.int .i64 0)))))
  .no, .mk (some 8) (some (5, true)) (.bin .geq (.t 7) (.c (.one (.st (.int .u8 65)))))
  .no, .mk (some 9) none
  (.pick (.t 5) (.t 8) (.c (.one (.st (.bool false)))))
  .no, .mk (some 10) none (.mov (.t 9)) .no, .mk (some 11) (some (10, true)) (.mov (.t 0)) .no, .mk (some 12) (some (10, true))
  (.indexStr (.t 11) (.c (.one (.st (.int .i64 0)))))
  .no, .mk (some 13) (some (10, true)) (.bin .leq (.t 12) (.c (.one (.st (.int .u8 90)))))
  .no, .mk (some 14) none
  (.pick (.t 10) (.t 13) (.c (.one (.st (.bool false)))))
  .no, .mk (some 2) none (.mov (.t 14)) .no])
  .ret))
theorem tr_term_Variable : trCode Try.prog 15 [] (Try.f44.body.getD .skip) = some ir_term_Variable := by kernel_rfl
theorem ac_term_Variable {xs : List AV} {r : AV} (hn : xs.length ≤ 15) (h : ∀ C : Ctx, C.n = 15 → IWP Try.prog C [] ir_term_Variable (FinQ [.t 2] r) (AS.start xs)) : ACalls Try.prog 44 xs r :=
  acalls_of Try.func44 rfl tr_term_Variable rfl hn h
def ir_term_within : IR :=
  (.seq
  (.ops
  [.mk (some 2) none (.box 24 (.t 0)) .no, .mk (some 4) none (.mov (.c (.one (.st (.int .i64 0)))))
  .no])
  (.seq
  (.ops
  [.mk (some 7) none (.mov (.t 1)) .no, .mk (some 8) none (.bin .sub (.t 7) (.c (.one (.st (.int .i64 1)))))
  .no, .mk (some 1) none (.mov (.t 8)) .no])
  (.seq
  (.seq
  (.ops
  [.mk (some 9) none (.fieldAddr 1 (.t 2)) .no, .mk (some 10) none (.load false 1 (.t 9)) .no, .mk (some 11) none (.len false (.t 10)) .no, .mk (some 12) none (.mov (.c (.one (.st (.int .i64 0)))))
  .no])
  (.block 0
  (.loop
  (.seq
  (.ops
  [.mk (some 13) none (.bin .lss (.t 12) (.t 11))
  .no])
  (.seq (.cond (.t 13) .skip (.exit 0))
  (.seq
  (.block 1
  (.seq
  (.ops
  [.mk (some 14) none (.indexAddr 2 (.t 10) (.t 12))
  .no, .mk (some 15) none (.load true 2 (.t 14)) .no, .mk (some 6) none
  (.alloc 24 [.st (.str (ByteArray.mk (#[]))), .full []])
  .no, .mk none none (.store 2 (.t 6) (.t 15))
  .no])
  (.seq
  (.seq
  (.ops
  [.mk (some 16) none (.mov (.t 1)) .no, .mk (some 17) none (.bin .lss (.t 16) (.c (.one (.st (.int .i64 0)))))
  .no])
  (.cond (.t 17) (.exit 0) .skip))
  (.ops
  [.mk (some 18) none (.load true 2 (.t 6)) .no, .mk (some 19) none (.mov (.t 1)) .no, .mk (some 20) none (.call 53 [.t 18, .t 19])
  .no, .mk (some 1) none (.mov (.t 20)) .no]))))
  (.ops
  [.mk (some 21) none (.bin .add (.t 12) (.c (.one (.st (.int .i64 1)))))
  .no, .mk (some 12) none (.mov (.t 21)) .no])))))))
  (.seq
  (.ops
  [.mk (some 22) none (.mov (.t 1)) .no, .mk (some 4) none (.mov (.t 22)) .no])
  .ret))))
theorem tr_term_within : trCode Try.prog 23 [] (Try.f53.body.getD .skip) = some ir_term_within := by kernel_rfl
theorem ac_term_within {xs : List AV} {r : AV} (hn : xs.length ≤ 23) (h : ∀ C : Ctx, C.n = 23 → IWP Try.prog C [] ir_term_within (FinQ [.t 4] r) (AS.start xs)) : ACalls Try.prog 53 xs r :=
  acalls_of Try.func53 rfl tr_term_within rfl hn h
def ir_R_Size : IR :=
  (.seq
  (.ops
  [.mk (some 2) none (.box 24 (.t 0)) .no, .mk (some 4) none (.mov (.c (.one (.st (.int .i64 0)))))
  .no])
  (.seq
  (.ops
  [.mk (some 5) none (.mov (.c (.one (.st (.int .i64 1)))))
  .no])
  (.seq
  (.seq
  (.ops
  [.mk (some 6) none (.mov (.c (.one (.st (.int .i64 0)))))
  .no])
  (.block 0
  (.loop
  (.seq
  (.seq
  (.ops
  [.mk (some 7) none (.mov (.t 6)) .no, .mk (some 8) none (.fieldAddr 1 (.t 2)) .no, .mk (some 9) none (.load false 1 (.t 8)) .no, .mk (some 10) none (.len false (.t 9)) .no, .mk (some 11) none (.bin .lss (.t 7) (.t 10))
  .no, .mk (some 12) none (.mov (.t 11)) .no, .mk (some 13) (some (12, true)) (.mov (.t 5)) .no, .mk (some 14) (some (12, true)) (.mov (.t 1)) .no, .mk (some 15) (some (12, true)) (.bin .leq (.t 13) (.t 14))
  .no, .mk (some 16) none
  (.pick (.t 12) (.t 15) (.c (.one (.st (.bool false)))))
  .no])
  (.cond (.t 16) .skip (.exit 0)))
  (.seq
  (.block 1
  (.ops
  [.mk (some 19) none (.mov (.t 5)) .no, .mk (some 20) none (.fieldAddr 1 (.t 2)) .no, .mk (some 21) none (.load false 1 (.t 20)) .no, .mk (some 22) none (.mov (.t 6)) .no, .mk (some 23) none (.indexAddr 2 (.t 21) (.t 22))
  .no, .mk (some 24) none (.load true 2 (.t 23)) .no, .mk (some 25) none (.mov (.t 1)) .no, .mk (some 26) none (.mov (.t 5)) .no, .mk (some 27) none (.bin .sub (.t 25) (.t 26))
  .no, .mk (some 28) none (.call 23 [.t 24, .t 27])
  .no, .mk (some 29) none (.bin .add (.t 19) (.t 28))
  .no, .mk (some 5) none (.mov (.t 29)) .no]))
  (.ops
  [.mk (some 17) none (.mov (.t 6)) .no, .mk (some 18) none (.bin .add (.t 17) (.c (.one (.st (.int .i64 1)))))
  .no, .mk (some 6) none (.mov (.t 18)) .no]))))))
  (.seq
  (.seq
  (.ops
  [.mk (some 30) none (.mov (.t 5)) .no, .mk (some 31) none (.mov (.t 1)) .no, .mk (some 32) none (.bin .gtr (.t 30) (.t 31))
  .no])
  (.cond (.t 32)
  (.seq
  (.ops
  [.mk (some 33) none (.mov (.t 1)) .no, .mk (some 34) none (.bin .add (.t 33) (.c (.one (.st (.int .i64 1)))))
  .no, .mk (some 4) none (.mov (.t 34)) .no])
  .ret)
  .skip))
  (.seq
  (.ops
  [.mk (some 35) none (.mov (.t 5)) .no, .mk (some 4) none (.mov (.t 35)) .no])
  .ret)))))
theorem tr_R_Size : trCode Try.prog 36 [] (Try.f23.body.getD .skip) = some ir_R_Size := by kernel_rfl
theorem ac_R_Size {xs : List AV} {r : AV} (hn : xs.length ≤ 36) (h : ∀ C : Ctx, C.n = 36 → IWP Try.prog C [] ir_R_Size (FinQ [.t 4] r) (AS.start xs)) : ACalls Try.prog 23 xs r :=
  acalls_of Try.func23 rfl tr_R_Size rfl hn h
def ir_term_check : IR :=
  (.seq
  (.ops
  [.mk (some 1) none (.box 24 (.t 0)) .no, .mk (some 2) none (.mov (.c (.one (.st (.int .i64 0)))))
  .no])
  (.seq
  (.seq
  (.ops
  [.mk (some 6) none (.fieldAddr 0 (.t 1)) .no, .mk (some 7) none (.load false 1 (.t 6)) .no, .mk (some 8) none (.call 48 [.t 7]) .no, .mk (some 9) none (.un .not (.t 8)) .no])
  (.cond (.t 9)
  (.seq
  (.ops
  [.mk (some 2) none (.mov (.c (.one (.st (.int .i64 1)))))
  .no])
  .ret)
  .skip))
  (.seq
  (.seq
  (.ops
  [.mk (some 10) none (.fieldAddr 0 (.t 1)) .no, .mk (some 11) none (.load false 1 (.t 10)) .no, .mk (some 12) none (.call 44 [.t 11]) .no, .mk (some 13) none (.mov (.t 12)) .no, .mk (some 14) (some (13, true)) (.fieldAddr 1 (.t 1)) .no, .mk (some 15) (some (13, true)) (.load false 1 (.t 14)) .no, .mk (some 16) (some (13, true)) (.len false (.t 15)) .no, .mk (some 17) (some (13, true)) (.bin .gtr (.t 16) (.c (.one (.st (.int .i64 0)))))
  .no, .mk (some 18) none
  (.pick (.t 13) (.t 17) (.c (.one (.st (.bool false)))))
  .no])
  (.cond (.t 18)
  (.seq
  (.ops
  [.mk (some 2) none (.mov (.c (.one (.st (.int .i64 2)))))
  .no])
  .ret)
  .skip))
  (.seq
  (.seq
  (.ops
  [.mk (some 19) none (.fieldAddr 1 (.t 1)) .no, .mk (some 20) none (.load false 1 (.t 19)) .no, .mk (some 21) none (.len false (.t 20)) .no, .mk (some 22) none (.mov (.c (.one (.st (.int .i64 0)))))
  .no])
  (.block 0
  (.loop
  (.seq
  (.ops
  [.mk (some 23) none (.bin .lss (.t 22) (.t 21))
  .no])
  (.seq (.cond (.t 23) .skip (.exit 0))
  (.seq
  (.block 1
  (.seq
  (.ops
  [.mk (some 24) none (.indexAddr 2 (.t 20) (.t 22))
  .no, .mk (some 25) none (.load true 2 (.t 24)) .no, .mk (some 4) none
  (.alloc 24 [.st (.str (ByteArray.mk (#[]))), .full []])
  .no, .mk none none (.store 2 (.t 4) (.t 25))
  .no])
  (.seq
  (.ops
  [.mk (some 26) none (.load true 2 (.t 4)) .no, .mk (some 27) none (.call 54 [.t 26]) .no, .mk (some 5) none (.mov (.t 27)) .no])
  (.seq
  (.ops
  [.mk (some 28) none (.mov (.t 5)) .no, .mk (some 29) none (.bin .neq (.t 28) (.c (.one (.st (.int .i64 0)))))
  .no])
  (.cond (.t 29)
  (.seq
  (.ops
  [.mk (some 30) none (.mov (.t 5)) .no, .mk (some 2) none (.mov (.t 30)) .no])
  .ret)
  .skip)))))
  (.ops
  [.mk (some 31) none (.bin .add (.t 22) (.c (.one (.st (.int .i64 1)))))
  .no, .mk (some 22) none (.mov (.t 31)) .no])))))))
  (.seq
  (.ops
  [.mk (some 2) none (.mov (.c (.one (.st (.int .i64 0)))))
  .no])
  .ret)))))
theorem tr_term_check : trCode Try.prog 32 [] (Try.f54.body.getD .skip) = some ir_term_check := by kernel_rfl
theorem ac_term_check {xs : List AV} {r : AV} (hn : xs.length ≤ 32) (h : ∀ C : Ctx, C.n = 32 → IWP Try.prog C [] ir_term_check (FinQ [.t 2] r) (AS.start xs)) : ACalls Try.prog 54 xs r :=
  acalls_of Try.func54 rfl tr_term_check rfl hn h
def ir_term_Check : IR :=
  (.seq
  (.ops
  [.mk (some 1) none (.box 24 (.t 0)) .no, .mk (some 2) none (.mov (.c (.one (.st (.int .i64 0)))))
  .no])
  (.seq
  (.seq
  (.ops
  [.mk (some 3) none (.load true 2 (.t 1)) .no, .mk (some 4) none (.call 53
  [.t 3, .c (.one (.st (.int .i64 200)))])
  .no, .mk (some 5) none (.bin .lss (.t 4) (.c (.one (.st (.int .i64 0)))))
  .no])
  (.cond (.t 5)
  (.seq
  (.ops
  [.mk (some 2) none (.mov (.c (.one (.st (.int .i64 3)))))
  .no])
  .ret)
  .skip))
  (.seq
  (.ops
  [.mk (some 6) none (.load true 2 (.t 1)) .no, .mk (some 7) none (.call 54 [.t 6]) .no, .mk (some 2) none (.mov (.t 7)) .no])
  .ret)))
theorem tr_term_Check : trCode Try.prog 8 [] (Try.f30.body.getD .skip) = some ir_term_Check := by kernel_rfl
theorem ac_term_Check {xs : List AV} {r : AV} (hn : xs.length ≤ 8) (h : ∀ C : Ctx, C.n = 8 → IWP Try.prog C [] ir_term_Check (FinQ [.t 2] r) (AS.start xs)) : ACalls Try.prog 30 xs r :=
  acalls_of Try.func30 rfl tr_term_Check rfl hn h
def ir_R_Same : IR :=
  (.seq
  (.ops
  [.mk (some 2) none (.box 24 (.t 0)) .no, .mk (some 3) none (.box 24 (.t 1)) .no, .mk (some 4) none (.mov (.c (.one (.st (.bool false)))))
  .no])
  (.seq
  (.seq
  (.ops
  [.mk (some 6) none (.fieldAddr 0 (.t 2)) .no, .mk (some 7) none (.load false 1 (.t 6)) .no, .mk (some 8) none (.fieldAddr 0 (.t 3)) .no, .mk (some 9) none (.load false 1 (.t 8)) .no, .mk (some 10) none (.bin .neq (.t 7) (.t 9))
  .no, .mk (some 11) none (.mov (.t 10)) .no, .mk (some 12) (some (11, false)) (.fieldAddr 1 (.t 2)) .no, .mk (some 13) (some (11, false)) (.load false 1 (.t 12)) .no, .mk (some 14) (some (11, false)) (.len false (.t 13)) .no, .mk (some 15) (some (11, false)) (.fieldAddr 1 (.t 3)) .no, .mk (some 16) (some (11, false)) (.load false 1 (.t 15)) .no, .mk (some 17) (some (11, false)) (.len false (.t 16)) .no, .mk (some 18) (some (11, false)) (.bin .neq (.t 14) (.t 17))
  .no, .mk (some 19) none
  (.pick (.t 11) (.c (.one (.st (.bool true)))) (.t 18))
  .no])
  (.cond (.t 19)
  (.seq
  (.ops
  [.mk (some 4) none (.mov (.c (.one (.st (.bool false)))))
  .no])
  .ret)
  .skip))
  (.seq
  (.seq
  (.ops
  [.mk (some 5) none (.mov (.c (.one (.st (.int .i64 0)))))
  .no])
  (.block 0
  (.loop
  (.seq
  (.seq
  (.ops
  [.mk (some 20) none (.mov (.t 5)) .no, .mk (some 21) none (.fieldAddr 1 (.t 2)) .no, .mk (some 22) none (.load false 1 (.t 21)) .no, .mk (some 23) none (.len false (.t 22)) .no, .mk (some 24) none (.bin .lss (.t 20) (.t 23))
  .no])
  (.cond (.t 24) .skip (.exit 0)))
  (.seq
  (.block 1
  (.seq
  (.ops
  [.mk (some 27) none (.fieldAddr 1 (.t 2)) .no, .mk (some 28) none (.load false 1 (.t 27)) .no, .mk (some 29) none (.mov (.t 5)) .no, .mk (some 30) none (.indexAddr 2 (.t 28) (.t 29))
  .no, .mk (some 31) none (.load true 2 (.t 30)) .no, .mk (some 32) none (.fieldAddr 1 (.t 3)) .no, .mk (some 33) none (.load false 1 (.t 32)) .no, .mk (some 34) none (.mov (.t 5)) .no, .mk (some 35) none (.indexAddr 2 (.t 33) (.t 34))
  .no, .mk (some 36) none (.load true 2 (.t 35)) .no, .mk (some 37) none (.call 14 [.t 31, .t 36])
  .no, .mk (some 38) none (.un .not (.t 37)) .no])
  (.cond (.t 38)
  (.seq
  (.ops
  [.mk (some 4) none (.mov (.c (.one (.st (.bool false)))))
  .no])
  .ret)
  .skip)))
  (.ops
  [.mk (some 25) none (.mov (.t 5)) .no, .mk (some 26) none (.bin .add (.t 25) (.c (.one (.st (.int .i64 1)))))
  .no, .mk (some 5) none (.mov (.t 26)) .no]))))))
  (.seq
  (.ops
  [.mk (some 4) none (.mov (.c (.one (.st (.bool true)))))
  .no])
  .ret))))
theorem tr_R_Same : trCode Try.prog 39 [] (Try.f14.body.getD .skip) = some ir_R_Same := by kernel_rfl
theorem ac_R_Same {xs : List AV} {r : AV} (hn : xs.length ≤ 39) (h : ∀ C : Ctx, C.n = 39 → IWP Try.prog C [] ir_R_Same (FinQ [.t 4] r) (AS.start xs)) : ACalls Try.prog 14 xs r :=
  acalls_of Try.func14 rfl tr_R_Same rfl hn h
def ir_slices_Index_string_string : IR :=
  (.seq
  (.ops
  [.mk (some 4) none (.mov (.c (.one (.st (.int .i64 0)))))
  .no])
  (.seq
  (.seq
  (.ops
  [.mk (some 6) none (.mov (.t 0)) .no, .mk (some 7) none (.len false (.t 6)) .no, .mk (some 8) none (.mov (.c (.one (.st (.int .i64 0)))))
  .no])
  (.block 0
  (.loop
  (.seq
  (.ops
  [.mk (some 9) none (.bin .lss (.t 8) (.t 7))
  .no])
  (.seq (.cond (.t 9) .skip (.exit 0))
  (.seq
  (.block 1
  (.seq
  (.ops
  [.mk (some 10) none (.mov (.t 8)) .no, .mk (some 5) none (.mov (.t 10)) .no])
  (.seq
  (.ops
  [.mk (some 11) none (.mov (.t 1)) .no, .mk (some 12) none (.mov (.t 0)) .no, .mk (some 13) none (.mov (.t 5)) .no, .mk (some 14) none (.indexAddr 1 (.t 12) (.t 13))
  .no, .mk (some 15) none (.load false 1 (.t 14)) .no, .mk (some 16) none (.bin .eql (.t 11) (.t 15))
  .no])
  (.cond (.t 16)
  (.seq
  (.ops
  [.mk (some 17) none (.mov (.t 5)) .no, .mk (some 4) none (.mov (.t 17)) .no])
  .ret)
  .skip))))
  (.ops
  [.mk (some 18) none (.bin .add (.t 8) (.c (.one (.st (.int .i64 1)))))
  .no, .mk (some 8) none (.mov (.t 18)) .no])))))))
  (.seq
  (.ops
  [.mk (some 4) none (.mov (.c (.one (.st (.int .i64 (-1))))))
  .no])
  .ret)))
theorem tr_slices_Index_string_string : trCode Try.prog 19 [] (Try.f64.body.getD .skip) = some ir_slices_Index_string_string := by kernel_rfl
theorem ac_slices_Index_string_string {xs : List AV} {r : AV} (hn : xs.length ≤ 19) (h : ∀ C : Ctx, C.n = 19 → IWP Try.prog C [] ir_slices_Index_string_string (FinQ [.t 4] r) (AS.start xs)) : ACalls Try.prog 64 xs r :=
  acalls_of Try.func64 rfl tr_slices_Index_string_string rfl hn h
def ir_slices_Contains_string_string : IR :=
  (.seq
  (.ops
  [.mk (some 4) none (.mov (.c (.one (.st (.bool false)))))
  .no])
  (.seq
  (.ops
  [.mk (some 5) none (.mov (.t 0)) .no, .mk (some 6) none (.mov (.t 1)) .no, .mk (some 7) none (.call 64 [.t 5, .t 6]) .no, .mk (some 8) none (.bin .geq (.t 7) (.c (.one (.st (.int .i64 0)))))
  .no, .mk (some 4) none (.mov (.t 8)) .no])
  .ret))
theorem tr_slices_Contains_string_string : trCode Try.prog 9 [] (Try.f45.body.getD .skip) = some ir_slices_Contains_string_string := by kernel_rfl
theorem ac_slices_Contains_string_string {xs : List AV} {r : AV} (hn : xs.length ≤ 9) (h : ∀ C : Ctx, C.n = 9 → IWP Try.prog C [] ir_slices_Contains_string_string (FinQ [.t 4] r) (AS.start xs)) : ACalls Try.prog 45 xs r :=
  acalls_of Try.func45 rfl tr_slices_Contains_string_string rfl hn h
def ir_term_vars : IR :=
  (.seq
  (.ops
  [.mk (some 2) none (.box 24 (.t 0)) .no, .mk (some 4) none (.mov (.c (.one (.full []))))
  .no])
  (.seq
  (.seq
  (.ops
  [.mk (some 7) none (.fieldAddr 0 (.t 2)) .no, .mk (some 8) none (.load false 1 (.t 7)) .no, .mk (some 9) none (.call 44 [.t 8]) .no, .mk (some 10) none (.mov (.t 9)) .no, .mk (some 11) (some (10, true)) (.mov (.t 1)) .no, .mk (some 12) (some (10, true)) (.fieldAddr 0 (.t 2)) .no, .mk (some 13) (some (10, true)) (.load false 1 (.t 12)) .no, .mk (some 14) (some (10, true)) (.call 45 [.t 11, .t 13])
  .no, .mk (some 15) (some (10, true)) (.un .not (.t 14)) .no, .mk (some 16) none
  (.pick (.t 10) (.t 15) (.c (.one (.st (.bool false)))))
  .no])
  (.cond (.t 16)
  (.ops
  [.mk (some 17) none (.mov (.t 1)) .no, .mk (some 18) none (.fieldAddr 0 (.t 2)) .no, .mk (some 19) none (.load false 1 (.t 18)) .no, .mk (some 20) none (.buildFlat [.t 19]) .no, .mk (some 21) none (.append false 9 1 16 (.t 17) (.t 20))
  .no, .mk (some 1) none (.mov (.t 21)) .no])
  .skip))
  (.seq
  (.seq
  (.ops
  [.mk (some 22) none (.fieldAddr 1 (.t 2)) .no, .mk (some 23) none (.load false 1 (.t 22)) .no, .mk (some 24) none (.len false (.t 23)) .no, .mk (some 25) none (.mov (.c (.one (.st (.int .i64 0)))))
  .no])
  (.block 0
  (.loop
  (.seq
  (.ops
  [.mk (some 26) none (.bin .lss (.t 25) (.t 24))
  .no])
  (.seq (.cond (.t 26) .skip (.exit 0))
  (.seq
  (.block 1
  (.seq
  (.ops
  [.mk (some 27) none (.indexAddr 2 (.t 23) (.t 25))
  .no, .mk (some 28) none (.load true 2 (.t 27)) .no, .mk (some 6) none
  (.alloc 24 [.st (.str (ByteArray.mk (#[]))), .full []])
  .no, .mk none none (.store 2 (.t 6) (.t 28))
  .no])
  (.ops
  [.mk (some 29) none (.load true 2 (.t 6)) .no, .mk (some 30) none (.mov (.t 1)) .no, .mk (some 31) none (.callS 60 [.t 29, .t 30])
  .no, .mk (some 1) none (.mov (.t 31)) .no])))
  (.ops
  [.mk (some 32) none (.bin .add (.t 25) (.c (.one (.st (.int .i64 1)))))
  .no, .mk (some 25) none (.mov (.t 32)) .no])))))))
  (.seq
  (.ops
  [.mk (some 33) none (.mov (.t 1)) .no, .mk (some 4) none (.mov (.t 33)) .no])
  .ret))))
theorem tr_term_vars : trCode Try.prog 34 [31] (Try.f60.body.getD .skip) = some ir_term_vars := by kernel_rfl
theorem acS_term_vars {xs : List AV} {S S' : AStore} {r : AV} (hn : xs.length ≤ 34) (h : Clean S → ∀ C : Ctx, C.n = 34 → IWP Try.prog C [31] ir_term_vars (FinS C [.t 4] r S') (AS.startS xs S)) : ACallsS Try.prog 60 xs S r S' :=
  acallsS_of Try.func60 rfl tr_term_vars rfl hn h
def ir_term_Vars : IR :=
  (.seq
  (.ops
  [.mk (some 1) none (.box 24 (.t 0)) .no, .mk (some 2) none (.mov (.c (.one (.full []))))
  .no])
  (.seq
  (.ops
  [.mk (some 3) none (.load true 2 (.t 1)) .no, .mk (some 4) none
  (.callS 60 [.t 3, .c (.one (.full []))])
  .no, .mk (some 2) none (.mov (.t 4)) .no])
  .ret))
theorem tr_term_Vars : trCode Try.prog 5 [4] (Try.f42.body.getD .skip) = some ir_term_Vars := by kernel_rfl
theorem ac_term_Vars {xs : List AV} {r : AV} (hn : xs.length ≤ 5) (h : ∀ C : Ctx, C.n = 5 → IWP Try.prog C [4] ir_term_Vars (FinQ [.t 2] r) (AS.start xs)) : ACalls Try.prog 42 xs r :=
  acalls_of Try.func42 rfl tr_term_Vars rfl hn h
end Go.Proofs.Ytohgkbgpcnmdpaa
