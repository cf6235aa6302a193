/-
  The program's functions in abstract operations: written by a program of mine out of the translation; each is shown to be the translation's.
  Conditions: none.
-/
import Derived.Test.YtpajlfdhmjgpnaaBBoth
namespace Go.Proofs.Ytpajlfdhmjgpnaa
open Go Go.RowKit
set_option maxRecDepth 100000

def ir_term_Size : IR :=
  (.seq
  (.ops
  [.mk (some 1) none (.box 24 (.t 0)) .no, .mk (some 2) none (.mov (.c (.one (.st (.int .i64 0)))))
  .no])
  (.seq
  (.ops
  [.mk (some 3) none (.mov (.c (.one (.st (.int .i64 1)))))
  .no])
  (.seq
  (.seq
  (.ops
  [.mk (some 6) none (.fieldAddr 1 (.t 1)) .no, .mk (some 7) none (.load false 1 (.t 6)) .no, .mk (some 8) none (.len false (.t 7)) .no, .mk (some 9) none (.mov (.c (.one (.st (.int .i64 0)))))
  .no])
  (.block 0
  (.loop
  (.seq
  (.ops
  [.mk (some 10) none (.bin .lss (.t 9) (.t 8))
  .no])
  (.seq (.cond (.t 10) .skip (.exit 0))
  (.seq
  (.block 1
  (.seq
  (.ops
  [.mk (some 11) none (.indexAddr 2 (.t 7) (.t 9))
  .no, .mk (some 12) none (.load true 2 (.t 11)) .no, .mk (some 5) none
  (.alloc 24 [.st (.str (ByteArray.mk (#[]))), .full []])
  .no, .mk none none (.store 2 (.t 5) (.t 12))
  .no])
  (.ops
  [.mk (some 13) none (.mov (.t 3)) .no, .mk (some 14) none (.load true 2 (.t 5)) .no, .mk (some 15) none (.call 74 [.t 14]) .no, .mk (some 16) none (.bin .add (.t 13) (.t 15))
  .no, .mk (some 3) none (.mov (.t 16)) .no])))
  (.ops
  [.mk (some 17) none (.bin .add (.t 9) (.c (.one (.st (.int .i64 1)))))
  .no, .mk (some 9) none (.mov (.t 17)) .no])))))))
  (.seq
  (.ops
  [.mk (some 18) none (.mov (.t 3)) .no, .mk (some 2) none (.mov (.t 18)) .no])
  .ret))))
theorem tr_term_Size : trCode Try.prog 19 [] (Try.f74.body.getD .skip) = some ir_term_Size := by kernel_rfl
theorem ac_term_Size {xs : List AV} {r : AV} (hn : xs.length ≤ 19) (h : ∀ C : Ctx, C.n = 19 → IWP Try.prog C [] ir_term_Size (FinQ [.t 2] r) (AS.start xs)) : ACalls Try.prog 74 xs r :=
  acalls_of Try.func74 rfl tr_term_Size rfl hn h
theorem acS_term_Size {xs : List AV} {S S' : AStore} {r : AV} (hn : xs.length ≤ 19) (h : Clean S → ∀ C : Ctx, C.n = 19 → IWP Try.prog C [] ir_term_Size (FinS C [.t 2] r S') (AS.startS xs S)) : ACallsS Try.prog 74 xs S r S' :=
  acallsS_of Try.func74 rfl tr_term_Size rfl hn h

def ir_slices_Index_string_stringR : IR :=
  (.seq
  (.ops
  [.mk (some 4) none (.mov (.c (.one (.st (.int .i64 0)))))
  .no])
  (.seq
  (.seq
  (.ops
  [.mk (some 6) none (.mov (.t 0)) .no, .mk (some 7) none (.len false (.t 6)) .no, .mk (some 8) none (.mov (.c (.one (.st (.int .i64 0)))))
  .no])
  (.block 0
  (.loop
  (.seq
  (.ops
  [.mk (some 9) none (.bin .lss (.t 8) (.t 7))
  .no])
  (.seq (.cond (.t 9) .skip (.exit 0))
  (.seq
  (.block 1
  (.seq
  (.ops
  [.mk (some 10) none (.mov (.t 8)) .no, .mk (some 5) none (.mov (.t 10)) .no])
  (.seq
  (.ops
  [.mk (some 11) none (.mov (.t 1)) .no, .mk (some 12) none (.mov (.t 0)) .no, .mk (some 13) none (.mov (.t 5)) .no, .mk (some 14) none (.indexAddr 1 (.t 12) (.t 13))
  .no, .mk (some 15) none (.load false 1 (.t 14)) .no, .mk (some 16) none (.bin .eql (.t 11) (.t 15))
  .no])
  (.cond (.t 16)
  (.seq
  (.ops
  [.mk (some 17) none (.mov (.t 5)) .no, .mk (some 4) none (.mov (.t 17)) .no])
  .ret)
  .skip))))
  (.ops
  [.mk (some 18) none (.bin .add (.t 8) (.c (.one (.st (.int .i64 1)))))
  .no, .mk (some 8) none (.mov (.t 18)) .no])))))))
  (.seq
  (.ops
  [.mk (some 4) none (.mov (.c (.one (.st (.int .i64 (-1))))))
  .no])
  .ret)))
theorem tr_slices_Index_string_stringR : trCode Try.prog 19 [] (Try.f78.body.getD .skip) = some ir_slices_Index_string_stringR := by kernel_rfl
theorem ac_slices_Index_string_stringR {xs : List AV} {r : AV} (hn : xs.length ≤ 19) (h : ∀ C : Ctx, C.n = 19 → IWP Try.prog C [] ir_slices_Index_string_stringR (FinQ [.t 4] r) (AS.start xs)) : ACalls Try.prog 78 xs r :=
  acalls_of Try.func78 rfl tr_slices_Index_string_stringR rfl hn h
theorem acS_slices_Index_string_stringR {xs : List AV} {S S' : AStore} {r : AV} (hn : xs.length ≤ 19) (h : Clean S → ∀ C : Ctx, C.n = 19 → IWP Try.prog C [] ir_slices_Index_string_stringR (FinS C [.t 4] r S') (AS.startS xs S)) : ACallsS Try.prog 78 xs S r S' :=
  acallsS_of Try.func78 rfl tr_slices_Index_string_stringR rfl hn h

def ir_cmp_isNaN_int : IR :=
  (.seq
  (.ops
  [.mk (some 2) none (.mov (.c (.one (.st (.bool false)))))
  .no])
  (.seq
  (.ops
  [.mk (some 3) none (.mov (.t 0)) .no, .mk (some 4) none (.mov (.t 0)) .no, .mk (some 5) none (.bin .neq (.t 3) (.t 4)) .no, .mk (some 2) none (.mov (.t 5)) .no])
  .ret))
theorem tr_cmp_isNaN_int : trCode Try.prog 6 [] (Try.f92.body.getD .skip) = some ir_cmp_isNaN_int := by kernel_rfl
theorem ac_cmp_isNaN_int {xs : List AV} {r : AV} (hn : xs.length ≤ 6) (h : ∀ C : Ctx, C.n = 6 → IWP Try.prog C [] ir_cmp_isNaN_int (FinQ [.t 2] r) (AS.start xs)) : ACalls Try.prog 92 xs r :=
  acalls_of Try.func92 rfl tr_cmp_isNaN_int rfl hn h
theorem acS_cmp_isNaN_int {xs : List AV} {S S' : AStore} {r : AV} (hn : xs.length ≤ 6) (h : Clean S → ∀ C : Ctx, C.n = 6 → IWP Try.prog C [] ir_cmp_isNaN_int (FinS C [.t 2] r S') (AS.startS xs S)) : ACallsS Try.prog 92 xs S r S' :=
  acallsS_of Try.func92 rfl tr_cmp_isNaN_int rfl hn h

def ir_cmp_Compare_int : IR :=
  (.seq
  (.ops
  [.mk (some 4) none (.mov (.c (.one (.st (.int .i64 0)))))
  .no])
  (.seq
  (.ops
  [.mk (some 7) none (.mov (.t 0)) .no, .mk (some 8) none (.call 92 [.t 7]) .no, .mk (some 5) none (.mov (.t 8)) .no])
  (.seq
  (.ops
  [.mk (some 9) none (.mov (.t 1)) .no, .mk (some 10) none (.call 92 [.t 9]) .no, .mk (some 6) none (.mov (.t 10)) .no])
  (.seq
  (.seq
  (.ops [.mk (some 11) none (.mov (.t 5)) .no])
  (.cond (.t 11)
  (.seq
  (.seq
  (.ops [.mk (some 12) none (.mov (.t 6)) .no])
  (.cond (.t 12)
  (.seq
  (.ops
  [.mk (some 4) none (.mov (.c (.one (.st (.int .i64 0)))))
  .no])
  .ret)
  .skip))
  (.seq
  (.ops
  [.mk (some 4) none (.mov (.c (.one (.st (.int .i64 (-1))))))
  .no])
  .ret))
  .skip))
  (.seq
  (.seq
  (.ops [.mk (some 13) none (.mov (.t 6)) .no])
  (.cond (.t 13)
  (.seq
  (.ops
  [.mk (some 4) none (.mov (.c (.one (.st (.int .i64 1)))))
  .no])
  .ret)
  .skip))
  (.seq
  (.seq
  (.ops
  [.mk (some 14) none (.mov (.t 0)) .no, .mk (some 15) none (.mov (.t 1)) .no, .mk (some 16) none (.bin .lss (.t 14) (.t 15))
  .no])
  (.cond (.t 16)
  (.seq
  (.ops
  [.mk (some 4) none (.mov (.c (.one (.st (.int .i64 (-1))))))
  .no])
  .ret)
  .skip))
  (.seq
  (.seq
  (.ops
  [.mk (some 17) none (.mov (.t 0)) .no, .mk (some 18) none (.mov (.t 1)) .no, .mk (some 19) none (.bin .gtr (.t 17) (.t 18))
  .no])
  (.cond (.t 19)
  (.seq
  (.ops
  [.mk (some 4) none (.mov (.c (.one (.st (.int .i64 1)))))
  .no])
  .ret)
  .skip))
  (.seq
  (.ops
  [.mk (some 4) none (.mov (.c (.one (.st (.int .i64 0)))))
  .no])
  .ret))))))))
theorem tr_cmp_Compare_int : trCode Try.prog 20 [] (Try.f85.body.getD .skip) = some ir_cmp_Compare_int := by kernel_rfl
theorem ac_cmp_Compare_int {xs : List AV} {r : AV} (hn : xs.length ≤ 20) (h : ∀ C : Ctx, C.n = 20 → IWP Try.prog C [] ir_cmp_Compare_int (FinQ [.t 4] r) (AS.start xs)) : ACalls Try.prog 85 xs r :=
  acalls_of Try.func85 rfl tr_cmp_Compare_int rfl hn h
theorem acS_cmp_Compare_int {xs : List AV} {S S' : AStore} {r : AV} (hn : xs.length ≤ 20) (h : Clean S → ∀ C : Ctx, C.n = 20 → IWP Try.prog C [] ir_cmp_Compare_int (FinS C [.t 4] r S') (AS.startS xs S)) : ACallsS Try.prog 85 xs S r S' :=
  acallsS_of Try.func85 rfl tr_cmp_Compare_int rfl hn h

def ir_cmp_Or_int : IR :=
  (.seq
  (.ops
  [.mk (some 2) none (.mov (.c (.one (.st (.int .i64 0)))))
  .no])
  (.seq
  (.ops
  [.mk (some 3) none (.mov (.c (.one (.st (.int .i64 0)))))
  .no])
  (.seq
  (.seq
  (.ops
  [.mk (some 6) none (.mov (.t 0)) .no, .mk (some 7) none (.len false (.t 6)) .no, .mk (some 8) none (.mov (.c (.one (.st (.int .i64 0)))))
  .no])
  (.block 0
  (.loop
  (.seq
  (.ops
  [.mk (some 9) none (.bin .lss (.t 8) (.t 7))
  .no])
  (.seq (.cond (.t 9) .skip (.exit 0))
  (.seq
  (.block 1
  (.seq
  (.ops
  [.mk (some 10) none (.indexAddr 1 (.t 6) (.t 8))
  .no, .mk (some 11) none (.load false 1 (.t 10)) .no, .mk (some 5) none (.mov (.t 11)) .no])
  (.seq
  (.ops
  [.mk (some 12) none (.mov (.t 5)) .no, .mk (some 13) none (.mov (.t 3)) .no, .mk (some 14) none (.bin .neq (.t 12) (.t 13))
  .no])
  (.cond (.t 14)
  (.seq
  (.ops
  [.mk (some 15) none (.mov (.t 5)) .no, .mk (some 2) none (.mov (.t 15)) .no])
  .ret)
  .skip))))
  (.ops
  [.mk (some 16) none (.bin .add (.t 8) (.c (.one (.st (.int .i64 1)))))
  .no, .mk (some 8) none (.mov (.t 16)) .no])))))))
  (.seq
  (.ops
  [.mk (some 17) none (.mov (.t 3)) .no, .mk (some 2) none (.mov (.t 17)) .no])
  .ret))))
theorem tr_cmp_Or_int : trCode Try.prog 18 [] (Try.f84.body.getD .skip) = some ir_cmp_Or_int := by kernel_rfl
theorem ac_cmp_Or_int {xs : List AV} {r : AV} (hn : xs.length ≤ 18) (h : ∀ C : Ctx, C.n = 18 → IWP Try.prog C [] ir_cmp_Or_int (FinQ [.t 2] r) (AS.start xs)) : ACalls Try.prog 84 xs r :=
  acalls_of Try.func84 rfl tr_cmp_Or_int rfl hn h
theorem acS_cmp_Or_int {xs : List AV} {S S' : AStore} {r : AV} (hn : xs.length ≤ 18) (h : Clean S → ∀ C : Ctx, C.n = 18 → IWP Try.prog C [] ir_cmp_Or_int (FinS C [.t 2] r S') (AS.startS xs S)) : ACallsS Try.prog 84 xs S r S' :=
  acallsS_of Try.func84 rfl tr_cmp_Or_int rfl hn h

def ir_order_symbols : IR :=
  (.seq
  (.ops
  [.mk (some 4) none (.box 24 (.t 1)) .no, .mk (some 5) none (.box 24 (.t 2)) .no, .mk (some 6) none (.mov (.c (.one (.st (.int .i64 0)))))
  .no])
  (.seq
  (.ops
  [.mk (some 7) none (.mov (.t 0)) .no, .mk (some 8) none (.fieldAddr 0 (.t 4)) .no, .mk (some 9) none (.load false 1 (.t 8)) .no, .mk (some 10) none (.call 78 [.t 7, .t 9]) .no, .mk (some 11) none (.mov (.t 0)) .no, .mk (some 12) none (.fieldAddr 0 (.t 5)) .no, .mk (some 13) none (.load false 1 (.t 12)) .no, .mk (some 14) none (.call 78 [.t 11, .t 13]) .no, .mk (some 15) none (.call 85 [.t 10, .t 14]) .no, .mk (some 16) none (.fieldAddr 0 (.t 4)) .no, .mk (some 17) none (.load false 1 (.t 16)) .no, .mk (some 18) none (.fieldAddr 0 (.t 5)) .no, .mk (some 19) none (.load false 1 (.t 18)) .no, .mk (some 20) none (.call 81 [.t 17, .t 19]) .no, .mk (some 21) none (.fieldAddr 1 (.t 4)) .no, .mk (some 22) none (.load false 1 (.t 21)) .no, .mk (some 23) none (.len false (.t 22)) .no, .mk (some 24) none (.fieldAddr 1 (.t 5)) .no, .mk (some 25) none (.load false 1 (.t 24)) .no, .mk (some 26) none (.len false (.t 25)) .no, .mk (some 27) none (.call 85 [.t 23, .t 26]) .no, .mk (some 28) none (.buildFlat [.t 15, .t 20, .t 27])
  .no, .mk (some 29) none (.call 84 [.t 28]) .no, .mk (some 6) none (.mov (.t 29)) .no])
  .ret))
theorem tr_order_symbols : trCode Try.prog 30 [] (Try.f75.body.getD .skip) = some ir_order_symbols := by kernel_rfl
theorem ac_order_symbols {xs : List AV} {r : AV} (hn : xs.length ≤ 30) (h : ∀ C : Ctx, C.n = 30 → IWP Try.prog C [] ir_order_symbols (FinQ [.t 6] r) (AS.start xs)) : ACalls Try.prog 75 xs r :=
  acalls_of Try.func75 rfl tr_order_symbols rfl hn h
theorem acS_order_symbols {xs : List AV} {S S' : AStore} {r : AV} (hn : xs.length ≤ 30) (h : Clean S → ∀ C : Ctx, C.n = 30 → IWP Try.prog C [] ir_order_symbols (FinS C [.t 6] r S') (AS.startS xs S)) : ACallsS Try.prog 75 xs S r S' :=
  acallsS_of Try.func75 rfl tr_order_symbols rfl hn h

def ir_order_Check : IR :=
  (.seq
  (.ops
  [.mk (some 2) none (.mov (.c (.one (.st (.int .i64 0)))))
  .no])
  (.seq
  (.seq
  (.ops
  [.mk (some 5) none (.mov (.t 0)) .no, .mk (some 6) none (.len false (.t 5)) .no, .mk (some 7) none (.bin .gtr (.t 6) (.c (.one (.st (.int .i64 40)))))
  .no])
  (.cond (.t 7)
  (.seq
  (.ops
  [.mk (some 2) none (.mov (.c (.one (.st (.int .i64 3)))))
  .no])
  .ret)
  .skip))
  (.seq
  (.seq
  (.ops
  [.mk (some 8) none (.mov (.t 0)) .no, .mk (some 9) none (.len false (.t 8)) .no, .mk (some 10) none (.mov (.c (.one (.st (.int .i64 0)))))
  .no])
  (.block 0
  (.loop
  (.seq
  (.ops
  [.mk (some 11) none (.bin .lss (.t 10) (.t 9))
  .no])
  (.seq (.cond (.t 11) .skip (.exit 0))
  (.seq
  (.block 1
  (.seq
  (.ops
  [.mk (some 12) none (.mov (.t 10)) .no, .mk (some 13) none (.indexAddr 1 (.t 8) (.t 10))
  .no, .mk (some 14) none (.load false 1 (.t 13)) .no, .mk (some 3) none (.mov (.t 12)) .no, .mk (some 4) none (.mov (.t 14)) .no])
  (.seq
  (.seq
  (.ops
  [.mk (some 15) none (.mov (.t 4)) .no, .mk (some 16) none (.call 60 [.t 15]) .no, .mk (some 17) none (.un .not (.t 16)) .no, .mk (some 18) none (.mov (.t 17)) .no, .mk (some 19) (some (18, false)) (.mov (.t 4)) .no, .mk (some 20) (some (18, false)) (.call 61 [.t 19]) .no, .mk (some 21) none
  (.pick (.t 18) (.c (.one (.st (.bool true)))) (.t 20))
  .no])
  (.cond (.t 21)
  (.seq
  (.ops
  [.mk (some 2) none (.mov (.c (.one (.st (.int .i64 1)))))
  .no])
  .ret)
  .skip))
  (.seq
  (.ops
  [.mk (some 22) none (.mov (.t 0)) .no, .mk (some 23) none (.mov (.t 3)) .no, .mk (some 24) none
  (.sliceL 1 (.t 22) none (some (.t 23))) .no, .mk (some 25) none (.mov (.t 4)) .no, .mk (some 26) none (.call 62 [.t 24, .t 25])
  .no])
  (.cond (.t 26)
  (.seq
  (.ops
  [.mk (some 2) none (.mov (.c (.one (.st (.int .i64 4)))))
  .no])
  .ret)
  .skip)))))
  (.ops
  [.mk (some 27) none (.bin .add (.t 10) (.c (.one (.st (.int .i64 1)))))
  .no, .mk (some 10) none (.mov (.t 27)) .no])))))))
  (.seq
  (.ops
  [.mk (some 2) none (.mov (.c (.one (.st (.int .i64 0)))))
  .no])
  .ret))))
theorem tr_order_Check : trCode Try.prog 28 [] (Try.f33.body.getD .skip) = some ir_order_Check := by kernel_rfl
theorem ac_order_Check {xs : List AV} {r : AV} (hn : xs.length ≤ 28) (h : ∀ C : Ctx, C.n = 28 → IWP Try.prog C [] ir_order_Check (FinQ [.t 2] r) (AS.start xs)) : ACalls Try.prog 33 xs r :=
  acalls_of Try.func33 rfl tr_order_Check rfl hn h
theorem acS_order_Check {xs : List AV} {S S' : AStore} {r : AV} (hn : xs.length ≤ 28) (h : Clean S → ∀ C : Ctx, C.n = 28 → IWP Try.prog C [] ir_order_Check (FinS C [.t 2] r S') (AS.startS xs S)) : ACallsS Try.prog 33 xs S r S' :=
  acallsS_of Try.func33 rfl tr_order_Check rfl hn h

def ir_order_args : IR :=
  (.seq
  (.ops
  [.mk (some 4) none (.box 24 (.t 1)) .no, .mk (some 5) none (.box 24 (.t 2)) .no, .mk (some 6) none (.mov (.c (.one (.st (.int .i64 0)))))
  .no])
  (.seq
  (.seq
  (.ops
  [.mk (some 8) none (.mov (.t 0)) .no, .mk (some 9) none (.call 33 [.t 8]) .no, .mk (some 7) none (.mov (.t 9)) .no])
  (.seq
  (.ops
  [.mk (some 10) none (.mov (.t 7)) .no, .mk (some 11) none (.bin .neq (.t 10) (.c (.one (.st (.int .i64 0)))))
  .no])
  (.cond (.t 11)
  (.seq
  (.ops
  [.mk (some 12) none (.mov (.t 7)) .no, .mk (some 6) none (.mov (.t 12)) .no])
  .ret)
  .skip)))
  (.seq
  (.ops
  [.mk (some 13) none (.load true 2 (.t 4)) .no, .mk (some 14) none (.load true 2 (.t 5)) .no, .mk (some 15) none (.call 40 [.t 13, .t 14]) .no, .mk (some 6) none (.mov (.t 15)) .no])
  .ret)))
theorem tr_order_args : trCode Try.prog 16 [] (Try.f57.body.getD .skip) = some ir_order_args := by kernel_rfl
theorem ac_order_args {xs : List AV} {r : AV} (hn : xs.length ≤ 16) (h : ∀ C : Ctx, C.n = 16 → IWP Try.prog C [] ir_order_args (FinQ [.t 6] r) (AS.start xs)) : ACalls Try.prog 57 xs r :=
  acalls_of Try.func57 rfl tr_order_args rfl hn h
theorem acS_order_args {xs : List AV} {S S' : AStore} {r : AV} (hn : xs.length ≤ 16) (h : Clean S → ∀ C : Ctx, C.n = 16 → IWP Try.prog C [] ir_order_args (FinS C [.t 6] r S') (AS.startS xs S)) : ACallsS Try.prog 57 xs S r S' :=
  acallsS_of Try.func57 rfl tr_order_args rfl hn h

def ir_order_count : IR :=
  (.seq
  (.ops [.mk (some 3) none (.box 24 (.t 0)) .no])
  (.seq
  (.seq
  (.ops
  [.mk (some 8) none (.fieldAddr 0 (.t 3)) .no, .mk (some 9) none (.load false 1 (.t 8)) .no, .mk (some 10) none (.call 61 [.t 9]) .no])
  (.cond (.t 10)
  (.ops
  [.mk (some 11) none (.mov (.t 1)) .no, .mk (some 12) none (.fieldAddr 0 (.t 3)) .no, .mk (some 13) none (.load false 1 (.t 12)) .no, .mk (some 14) none
  (.lookup none false (.one (.st (.int .i64 0))) (.t 11) (.t 13))
  .no, .mk (some 15) none (.mov (.t 2)) .no, .mk (some 16) none (.bin .add (.t 14) (.t 15))
  .no, .mk none none
  (.mapSet none (.t 11) (.t 13) (.t 16)) .no])
  .skip))
  (.seq
  (.ops
  [.mk (some 17) none (.fieldAddr 1 (.t 3)) .no, .mk (some 18) none (.load false 1 (.t 17)) .no, .mk (some 19) none (.len false (.t 18)) .no, .mk (some 20) none (.mov (.c (.one (.st (.int .i64 0)))))
  .no])
  (.block 0
  (.loop
  (.seq
  (.ops
  [.mk (some 21) none (.bin .lss (.t 20) (.t 19))
  .no])
  (.seq (.cond (.t 21) .skip (.exit 0))
  (.seq
  (.block 1
  (.seq
  (.ops
  [.mk (some 22) none (.indexAddr 2 (.t 18) (.t 20))
  .no, .mk (some 23) none (.load true 2 (.t 22)) .no, .mk (some 7) none
  (.alloc 24 [.st (.str (ByteArray.mk (#[]))), .full []])
  .no, .mk none none (.store 2 (.t 7) (.t 23))
  .no])
  (.ops
  [.mk (some 24) none (.load true 2 (.t 7)) .no, .mk (some 25) none (.mov (.t 1)) .no, .mk (some 26) none (.mov (.t 2)) .no, .mk (some 27) none
  (.callS 73 [.t 24, .t 25, .t 26]) .no])))
  (.ops
  [.mk (some 28) none (.bin .add (.t 20) (.c (.one (.st (.int .i64 1)))))
  .no, .mk (some 20) none (.mov (.t 28)) .no])))))))))
theorem tr_order_count : trCode Try.prog 29 [27] (Try.f73.body.getD .skip) = some ir_order_count := by kernel_rfl
theorem ac_order_count {xs : List AV} {r : AV} (hn : xs.length ≤ 29) (h : ∀ C : Ctx, C.n = 29 → IWP Try.prog C [27] ir_order_count (FinQ [] r) (AS.start xs)) : ACalls Try.prog 73 xs r :=
  acalls_of Try.func73 rfl tr_order_count rfl hn h
theorem acS_order_count {xs : List AV} {S S' : AStore} {r : AV} (hn : xs.length ≤ 29) (h : Clean S → ∀ C : Ctx, C.n = 29 → IWP Try.prog C [27] ir_order_count (FinS C [] r S') (AS.startS xs S)) : ACallsS Try.prog 73 xs S r S' :=
  acallsS_of Try.func73 rfl tr_order_count rfl hn h

def ir_order_heavier : IR :=
  (.seq
  (.ops
  [.mk (some 4) none (.box 24 (.t 1)) .no, .mk (some 5) none (.box 24 (.t 2)) .no, .mk (some 6) none (.mov (.c (.one (.st (.bool false)))))
  .no])
  (.seq
  (.ops
  [.mk (some 13) none (.makeMap none) .no, .mk (some 7) none (.mov (.t 13)) .no])
  (.seq
  (.ops
  [.mk (some 14) none (.load true 2 (.t 4)) .no, .mk (some 15) none (.mov (.t 7)) .no, .mk (some 16) none
  (.callS 73
  [.t 14, .t 15, .c (.one (.st (.int .i64 1)))])
  .no])
  (.seq
  (.ops
  [.mk (some 17) none (.load true 2 (.t 5)) .no, .mk (some 18) none (.mov (.t 7)) .no, .mk (some 19) none
  (.callS 73
  [.t 17, .t 18, .c (.one (.st (.int .i64 (-1))))])
  .no])
  (.seq
  (.seq
  (.ops
  [.mk (some 20) none (.mov (.t 7)) .no, .mk (some 21) none (.rangeM (.t 20)) .no])
  (.block 0
  (.loop
  (.seq
  (.ops
  [.mk (some 22) none (.next (.t 21)) .no, .mk (some 23) none (.extract 0 (.t 22)) .no])
  (.seq (.cond (.t 23) .skip (.exit 0))
  (.block 1
  (.seq
  (.ops
  [.mk (some 24) none (.entry (.t 21)) .no, .mk (some 25) none (.extract 1 (.t 24)) .no, .mk (some 9) none (.mov (.t 25)) .no])
  (.seq
  (.ops
  [.mk (some 26) none (.mov (.t 9)) .no, .mk (some 27) none (.bin .lss (.t 26) (.c (.one (.st (.int .i64 0)))))
  .no])
  (.cond (.t 27)
  (.seq
  (.ops
  [.mk (some 6) none (.mov (.c (.one (.st (.bool false)))))
  .no])
  .ret)
  .skip)))))))))
  (.seq
  (.seq
  (.ops
  [.mk (some 28) none (.load true 2 (.t 4)) .no, .mk (some 29) none (.call 74 [.t 28]) .no, .mk (some 30) none (.load true 2 (.t 5)) .no, .mk (some 31) none (.call 74 [.t 30]) .no, .mk (some 32) none (.bin .sub (.t 29) (.t 31))
  .no, .mk (some 10) none (.mov (.t 32)) .no])
  (.seq
  (.ops
  [.mk (some 33) none (.mov (.t 10)) .no, .mk (some 34) none (.bin .neq (.t 33) (.c (.one (.st (.int .i64 0)))))
  .no])
  (.cond (.t 34)
  (.seq
  (.ops
  [.mk (some 35) none (.mov (.t 10)) .no, .mk (some 36) none (.bin .gtr (.t 35) (.c (.one (.st (.int .i64 0)))))
  .no, .mk (some 6) none (.mov (.t 36)) .no])
  .ret)
  .skip)))
  (.seq
  (.seq
  (.ops
  [.mk (some 37) none (.fieldAddr 0 (.t 4)) .no, .mk (some 38) none (.load false 1 (.t 37)) .no, .mk (some 39) none (.call 61 [.t 38]) .no, .mk (some 40) none (.mov (.t 39)) .no, .mk (some 41) (some (40, false)) (.fieldAddr 0 (.t 5)) .no, .mk (some 42) (some (40, false)) (.load false 1 (.t 41)) .no, .mk (some 43) (some (40, false)) (.call 61 [.t 42]) .no, .mk (some 44) none
  (.pick (.t 40) (.c (.one (.st (.bool true)))) (.t 43))
  .no])
  (.cond (.t 44)
  (.seq
  (.ops
  [.mk (some 6) none (.mov (.c (.one (.st (.bool false)))))
  .no])
  .ret)
  .skip))
  (.seq
  (.seq
  (.ops
  [.mk (some 45) none (.mov (.t 0)) .no, .mk (some 46) none (.load true 2 (.t 4)) .no, .mk (some 47) none (.load true 2 (.t 5)) .no, .mk (some 48) none (.call 75 [.t 45, .t 46, .t 47]) .no, .mk (some 11) none (.mov (.t 48)) .no])
  (.seq
  (.ops
  [.mk (some 49) none (.mov (.t 11)) .no, .mk (some 50) none (.bin .neq (.t 49) (.c (.one (.st (.int .i64 0)))))
  .no])
  (.cond (.t 50)
  (.seq
  (.ops
  [.mk (some 51) none (.mov (.t 11)) .no, .mk (some 52) none (.bin .gtr (.t 51) (.c (.one (.st (.int .i64 0)))))
  .no, .mk (some 6) none (.mov (.t 52)) .no])
  .ret)
  .skip)))
  (.seq
  (.seq
  (.ops
  [.mk (some 53) none (.fieldAddr 1 (.t 4)) .no, .mk (some 54) none (.load false 1 (.t 53)) .no, .mk (some 55) none (.len false (.t 54)) .no, .mk (some 56) none (.mov (.c (.one (.st (.int .i64 0)))))
  .no])
  (.block 2
  (.loop
  (.seq
  (.ops
  [.mk (some 57) none (.bin .lss (.t 56) (.t 55))
  .no])
  (.seq (.cond (.t 57) .skip (.exit 2))
  (.seq
  (.block 3
  (.seq
  (.ops
  [.mk (some 58) none (.mov (.t 56)) .no, .mk (some 12) none (.mov (.t 58)) .no])
  (.seq
  (.ops
  [.mk (some 59) none (.fieldAddr 1 (.t 4)) .no, .mk (some 60) none (.load false 1 (.t 59)) .no, .mk (some 61) none (.mov (.t 12)) .no, .mk (some 62) none (.indexAddr 2 (.t 60) (.t 61))
  .no, .mk (some 63) none (.load true 2 (.t 62)) .no, .mk (some 64) none (.fieldAddr 1 (.t 5)) .no, .mk (some 65) none (.load false 1 (.t 64)) .no, .mk (some 66) none (.mov (.t 12)) .no, .mk (some 67) none (.indexAddr 2 (.t 65) (.t 66))
  .no, .mk (some 68) none (.load true 2 (.t 67)) .no, .mk (some 69) none (.call 76 [.t 63, .t 68])
  .no, .mk (some 70) none (.un .not (.t 69)) .no])
  (.cond (.t 70)
  (.seq
  (.ops
  [.mk (some 71) none (.mov (.t 0)) .no, .mk (some 72) none (.fieldAddr 1 (.t 4)) .no, .mk (some 73) none (.load false 1 (.t 72))
  .no, .mk (some 74) none (.mov (.t 12)) .no, .mk (some 75) none (.indexAddr 2 (.t 73) (.t 74))
  .no, .mk (some 76) none (.load true 2 (.t 75)) .no, .mk (some 77) none (.fieldAddr 1 (.t 5)) .no, .mk (some 78) none (.load false 1 (.t 77))
  .no, .mk (some 79) none (.mov (.t 12)) .no, .mk (some 80) none (.indexAddr 2 (.t 78) (.t 79))
  .no, .mk (some 81) none (.load true 2 (.t 80)) .no, .mk (some 82) none (.call 59 [.t 71, .t 76, .t 81])
  .no, .mk (some 6) none (.mov (.t 82)) .no])
  .ret)
  .skip))))
  (.ops
  [.mk (some 83) none (.bin .add (.t 56) (.c (.one (.st (.int .i64 1)))))
  .no, .mk (some 56) none (.mov (.t 83)) .no])))))))
  (.seq
  (.ops
  [.mk (some 6) none (.mov (.c (.one (.st (.bool false)))))
  .no])
  .ret))))))))))
theorem tr_order_heavier : trCode Try.prog 84 [16, 19] (Try.f59.body.getD .skip) = some ir_order_heavier := by kernel_rfl
theorem ac_order_heavier {xs : List AV} {r : AV} (hn : xs.length ≤ 84) (h : ∀ C : Ctx, C.n = 84 → IWP Try.prog C [16, 19] ir_order_heavier (FinQ [.t 6] r) (AS.start xs)) : ACalls Try.prog 59 xs r :=
  acalls_of Try.func59 rfl tr_order_heavier rfl hn h
theorem acS_order_heavier {xs : List AV} {S S' : AStore} {r : AV} (hn : xs.length ≤ 84) (h : Clean S → ∀ C : Ctx, C.n = 84 → IWP Try.prog C [16, 19] ir_order_heavier (FinS C [.t 6] r S') (AS.startS xs S)) : ACallsS Try.prog 59 xs S r S' :=
  acallsS_of Try.func59 rfl tr_order_heavier rfl hn h

def ir_order_Weight : IR :=
  (.seq
  (.ops
  [.mk (some 4) none (.box 24 (.t 1)) .no, .mk (some 5) none (.box 24 (.t 2)) .no, .mk (some 6) none (.mov (.c (.one (.st (.bool false)))))
  .no, .mk (some 7) none (.mov (.c (.one (.st (.int .i64 0)))))
  .no])
  (.seq
  (.seq
  (.ops
  [.mk (some 9) none (.mov (.t 0)) .no, .mk (some 10) none (.load true 2 (.t 4)) .no, .mk (some 11) none (.load true 2 (.t 5)) .no, .mk (some 12) none (.call 57 [.t 9, .t 10, .t 11])
  .no, .mk (some 8) none (.mov (.t 12)) .no])
  (.seq
  (.ops
  [.mk (some 13) none (.mov (.t 8)) .no, .mk (some 14) none (.bin .neq (.t 13) (.c (.one (.st (.int .i64 0)))))
  .no])
  (.cond (.t 14)
  (.seq
  (.ops
  [.mk (some 15) none (.mov (.t 8)) .no, .mk (some 6) none (.mov (.c (.one (.st (.bool false)))))
  .no, .mk (some 7) none (.mov (.t 15)) .no])
  .ret)
  .skip)))
  (.seq
  (.ops
  [.mk (some 16) none (.mov (.t 0)) .no, .mk (some 17) none (.load true 2 (.t 4)) .no, .mk (some 18) none (.load true 2 (.t 5)) .no, .mk (some 19) none (.call 59 [.t 16, .t 17, .t 18])
  .no, .mk (some 6) none (.mov (.t 19)) .no, .mk (some 7) none (.mov (.c (.one (.st (.int .i64 0)))))
  .no])
  .ret)))
theorem tr_order_Weight : trCode Try.prog 20 [] (Try.f32.body.getD .skip) = some ir_order_Weight := by kernel_rfl
theorem ac_order_Weight {xs : List AV} {r : AV} (hn : xs.length ≤ 20) (h : ∀ C : Ctx, C.n = 20 → IWP Try.prog C [] ir_order_Weight (FinQ [.t 6, .t 7] r) (AS.start xs)) : ACalls Try.prog 32 xs r :=
  acalls_of Try.func32 rfl tr_order_Weight rfl hn h
theorem acS_order_Weight {xs : List AV} {S S' : AStore} {r : AV} (hn : xs.length ≤ 20) (h : Clean S → ∀ C : Ctx, C.n = 20 → IWP Try.prog C [] ir_order_Weight (FinS C [.t 6, .t 7] r S') (AS.startS xs S)) : ACallsS Try.prog 32 xs S r S' :=
  acallsS_of Try.func32 rfl tr_order_Weight rfl hn h

end Go.Proofs.Ytpajlfdhmjgpnaa
