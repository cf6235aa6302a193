/-
  The program's functions in abstract operations: written by a program of mine out of the translation; each is shown to be the translation's.
  Conditions: none.
-/
import Derived.Test.YtghjdcfoaackoaaPAuto
namespace Go.Proofs.Ytghjdcfoaackoaa
open Go Go.RowKit
set_option maxRecDepth 100000

def ir_slices_Clone_int_int : IR :=
  (.seq
  (.ops
  [.mk (some 2) none (.mov (.c (.one (.full []))))
  .no])
  (.seq
  (.seq
  (.ops
  [.mk (some 3) none (.mov (.t 0)) .no, .mk (some 4) none (.eqN false (.t 3)) .no])
  (.cond (.t 4)
  (.seq
  (.ops
  [.mk (some 2) none (.mov (.c (.one (.full []))))
  .no])
  .ret)
  .skip))
  (.seq
  (.ops
  [.mk (some 5) none (.buildFlat []) .no, .mk (some 6) none (.mov (.t 0)) .no, .mk (some 7) none (.append false 3 1 8 (.t 5) (.t 6))
  .no, .mk (some 2) none (.mov (.t 7)) .no])
  .ret)))
theorem tr_slices_Clone_int_int : trCode Try.prog 8 [] (Try.f13.body.getD .skip) = some ir_slices_Clone_int_int := by kernel_rfl
theorem ac_slices_Clone_int_int {xs : List AV} {r : AV} (hn : xs.length ≤ 8) (h : ∀ C : Ctx, C.n = 8 → IWP Try.prog C [] ir_slices_Clone_int_int (FinQ [.t 2] r) (AS.start xs)) : ACalls Try.prog 13 xs r :=
  acalls_of Try.func13 rfl tr_slices_Clone_int_int rfl hn h
theorem acS_slices_Clone_int_int {xs : List AV} {S S' : AStore} {r : AV} (hn : xs.length ≤ 8) (h : Clean S → ∀ C : Ctx, C.n = 8 → IWP Try.prog C [] ir_slices_Clone_int_int (FinS C [.t 2] r S') (AS.startS xs S)) : ACallsS Try.prog 13 xs S r S' :=
  acallsS_of Try.func13 rfl tr_slices_Clone_int_int rfl hn h

def ir_slices_ContainsFunc_int_int : IR :=
  (.seq
  (.ops
  [.mk (some 4) none (.mov (.c (.one (.st (.bool false)))))
  .no])
  (.seq
  (.ops
  [.mk (some 5) none (.mov (.t 0)) .no, .mk (some 6) none (.mov (.t 1)) .no, .mk (some 7) none (.callS 25 [.t 5, .t 6]) .no, .mk (some 8) none (.bin .geq (.t 7) (.c (.one (.st (.int .i64 0)))))
  .no, .mk (some 4) none (.mov (.t 8)) .no])
  .ret))
theorem tr_slices_ContainsFunc_int_int : trCode Try.prog 9 [7] (Try.f22.body.getD .skip) = some ir_slices_ContainsFunc_int_int := by kernel_rfl
theorem ac_slices_ContainsFunc_int_int {xs : List AV} {r : AV} (hn : xs.length ≤ 9) (h : ∀ C : Ctx, C.n = 9 → IWP Try.prog C [7] ir_slices_ContainsFunc_int_int (FinQ [.t 4] r) (AS.start xs)) : ACalls Try.prog 22 xs r :=
  acalls_of Try.func22 rfl tr_slices_ContainsFunc_int_int rfl hn h
theorem acS_slices_ContainsFunc_int_int {xs : List AV} {S S' : AStore} {r : AV} (hn : xs.length ≤ 9) (h : Clean S → ∀ C : Ctx, C.n = 9 → IWP Try.prog C [7] ir_slices_ContainsFunc_int_int (FinS C [.t 4] r S') (AS.startS xs S)) : ACallsS Try.prog 22 xs S r S' :=
  acallsS_of Try.func22 rfl tr_slices_ContainsFunc_int_int rfl hn h

def ir_slices_IndexFunc_int_int : IR :=
  (.seq
  (.ops
  [.mk (some 4) none (.mov (.c (.one (.st (.int .i64 0)))))
  .no])
  (.seq
  (.seq
  (.ops
  [.mk (some 6) none (.mov (.t 0)) .no, .mk (some 7) none (.len false (.t 6)) .no, .mk (some 8) none (.mov (.c (.one (.st (.int .i64 0)))))
  .no])
  (.block 0
  (.loop
  (.seq
  (.ops
  [.mk (some 9) none (.bin .lss (.t 8) (.t 7))
  .no])
  (.seq (.cond (.t 9) .skip (.exit 0))
  (.seq
  (.block 1
  (.seq
  (.ops
  [.mk (some 10) none (.mov (.t 8)) .no, .mk (some 5) none (.mov (.t 10)) .no])
  (.seq
  (.ops
  [.mk (some 11) none (.mov (.t 1)) .no, .mk (some 12) none (.mov (.t 0)) .no, .mk (some 13) none (.mov (.t 5)) .no, .mk (some 14) none (.indexAddr 1 (.t 12) (.t 13))
  .no, .mk (some 15) none (.load false 1 (.t 14)) .no, .mk (some 16) none (.callV (.t 11) [.t 15])
  .no])
  (.cond (.t 16)
  (.seq
  (.ops
  [.mk (some 17) none (.mov (.t 5)) .no, .mk (some 4) none (.mov (.t 17)) .no])
  .ret)
  .skip))))
  (.ops
  [.mk (some 18) none (.bin .add (.t 8) (.c (.one (.st (.int .i64 1)))))
  .no, .mk (some 8) none (.mov (.t 18)) .no])))))))
  (.seq
  (.ops
  [.mk (some 4) none (.mov (.c (.one (.st (.int .i64 (-1))))))
  .no])
  .ret)))
theorem tr_slices_IndexFunc_int_int : trCode Try.prog 19 [] (Try.f25.body.getD .skip) = some ir_slices_IndexFunc_int_int := by kernel_rfl
theorem ac_slices_IndexFunc_int_int {xs : List AV} {r : AV} (hn : xs.length ≤ 19) (h : ∀ C : Ctx, C.n = 19 → IWP Try.prog C [] ir_slices_IndexFunc_int_int (FinQ [.t 4] r) (AS.start xs)) : ACalls Try.prog 25 xs r :=
  acalls_of Try.func25 rfl tr_slices_IndexFunc_int_int rfl hn h
theorem acS_slices_IndexFunc_int_int {xs : List AV} {S S' : AStore} {r : AV} (hn : xs.length ≤ 19) (h : Clean S → ∀ C : Ctx, C.n = 19 → IWP Try.prog C [] ir_slices_IndexFunc_int_int (FinS C [.t 4] r S') (AS.startS xs S)) : ACallsS Try.prog 25 xs S r S' :=
  acallsS_of Try.func25 rfl tr_slices_IndexFunc_int_int rfl hn h

def ir_auto_Bounded_1 : IR :=
  (.seq
  (.ops
  [.mk (some 3) none (.mov (.c (.one (.st (.bool false)))))
  .no])
  (.seq
  (.ops
  [.mk (some 4) none (.mov (.t 0)) .no, .mk (some 5) none (.bin .lss (.t 4) (.c (.one (.st (.int .i64 0)))))
  .no, .mk (some 6) none (.mov (.t 5)) .no, .mk (some 7) (some (6, false)) (.mov (.t 0)) .no, .mk (some 8) (some (6, false)) (.fieldAddr 0 (.t 1)) .no, .mk (some 9) (some (6, false)) (.load false 1 (.t 8)) .no, .mk (some 10) (some (6, false)) (.bin .geq (.t 7) (.t 9))
  .no, .mk (some 11) none
  (.pick (.t 6) (.c (.one (.st (.bool true)))) (.t 10))
  .no, .mk (some 3) none (.mov (.t 11)) .no])
  .ret))
theorem tr_auto_Bounded_1 : trCode Try.prog 12 [] (Try.f23.body.getD .skip) = some ir_auto_Bounded_1 := by kernel_rfl
theorem ac_auto_Bounded_1 {xs : List AV} {r : AV} (hn : xs.length ≤ 12) (h : ∀ C : Ctx, C.n = 12 → IWP Try.prog C [] ir_auto_Bounded_1 (FinQ [.t 3] r) (AS.start xs)) : ACalls Try.prog 23 xs r :=
  acalls_of Try.func23 rfl tr_auto_Bounded_1 rfl hn h
theorem acS_auto_Bounded_1 {xs : List AV} {S S' : AStore} {r : AV} (hn : xs.length ≤ 12) (h : Clean S → ∀ C : Ctx, C.n = 12 → IWP Try.prog C [] ir_auto_Bounded_1 (FinS C [.t 3] r S') (AS.startS xs S)) : ACallsS Try.prog 23 xs S r S' :=
  acallsS_of Try.func23 rfl tr_auto_Bounded_1 rfl hn h

def ir_auto_Bounded : IR :=
  (.seq
  (.ops
  [.mk (some 3) none (.box 25 (.t 0)) .no, .mk (some 6) none (.mov (.c (.one (.st (.int .i64 0)))))
  .no])
  (.seq
  (.seq
  (.ops
  [.mk (some 11) none (.fieldAddr 0 (.t 3)) .no, .mk (some 12) none (.load false 1 (.t 11)) .no, .mk (some 13) none (.bin .lss (.t 12) (.c (.one (.st (.int .i64 0)))))
  .no, .mk (some 14) none (.mov (.t 13)) .no, .mk (some 15) (some (14, false)) (.fieldAddr 0 (.t 3)) .no, .mk (some 16) (some (14, false)) (.load false 1 (.t 15)) .no, .mk (some 17) (some (14, false)) (.mov (.t 1)) .no, .mk (some 18) (some (14, false)) (.bin .gtr (.t 16) (.t 17))
  .no, .mk (some 19) none
  (.pick (.t 14) (.c (.one (.st (.bool true)))) (.t 18))
  .no, .mk (some 20) none (.mov (.t 19)) .no, .mk (some 21) (some (20, false)) (.fieldAddr 1 (.t 3)) .no, .mk (some 22) (some (20, false)) (.load false 1 (.t 21)) .no, .mk (some 23) (some (20, false)) (.len false (.t 22)) .no, .mk (some 24) (some (20, false)) (.mov (.t 2)) .no, .mk (some 25) (some (20, false)) (.bin .gtr (.t 23) (.t 24))
  .no, .mk (some 26) none
  (.pick (.t 20) (.c (.one (.st (.bool true)))) (.t 25))
  .no])
  (.cond (.t 26)
  (.seq
  (.ops
  [.mk (some 6) none (.mov (.c (.one (.st (.int .i64 3)))))
  .no])
  .ret)
  .skip))
  (.seq
  (.seq
  (.ops
  [.mk (some 27) none (.fieldAddr 1 (.t 3)) .no, .mk (some 28) none (.load false 1 (.t 27)) .no, .mk (some 29) none (.len false (.t 28)) .no, .mk (some 30) none (.mov (.c (.one (.st (.int .i64 0)))))
  .no])
  (.block 0
  (.loop
  (.seq
  (.ops
  [.mk (some 31) none (.bin .lss (.t 30) (.t 29))
  .no])
  (.seq (.cond (.t 31) .skip (.exit 0))
  (.seq
  (.block 1
  (.seq
  (.ops
  [.mk (some 32) none (.indexAddr 3 (.t 28) (.t 30))
  .no, .mk (some 33) none (.load true 3 (.t 32)) .no, .mk (some 8) none
  (.alloc 38
  [.st (.str (ByteArray.mk (#[]))), .full [], .st (.int .i64 0)])
  .no, .mk none none (.store 3 (.t 8) (.t 33))
  .no])
  (.seq
  (.seq
  (.ops
  [.mk (some 34) none (.fieldAddr 0 (.t 8)) .no, .mk (some 35) none (.load false 1 (.t 34)) .no, .mk (some 36) none (.call 20 [.t 35]) .no, .mk (some 37) none (.un .not (.t 36)) .no, .mk (some 38) none (.mov (.t 37)) .no, .mk (some 39) (some (38, false)) (.fieldAddr 0 (.t 8)) .no, .mk (some 40) (some (38, false)) (.load false 1 (.t 39))
  .no, .mk (some 41) (some (38, false)) (.call 21 [.t 40]) .no, .mk (some 42) none
  (.pick (.t 38) (.c (.one (.st (.bool true)))) (.t 41))
  .no])
  (.cond (.t 42)
  (.seq
  (.ops
  [.mk (some 6) none (.mov (.c (.one (.st (.int .i64 1)))))
  .no])
  .ret)
  .skip))
  (.seq
  (.seq
  (.ops
  [.mk (some 43) none (.fieldAddr 1 (.t 8)) .no, .mk (some 44) none (.load false 1 (.t 43)) .no, .mk (some 45) none (.len false (.t 44)) .no, .mk (some 46) none (.bin .gtr (.t 45) (.c (.one (.st (.int .i64 4)))))
  .no])
  (.cond (.t 46)
  (.seq
  (.ops
  [.mk (some 6) none (.mov (.c (.one (.st (.int .i64 3)))))
  .no])
  .ret)
  .skip))
  (.seq
  (.ops
  [.mk (some 47) none (.fieldAddr 1 (.t 8)) .no, .mk (some 48) none (.load false 1 (.t 47)) .no, .mk (some 49) none (.callN 13 [.t 48]) (.keeps [8, 8]), .mk (some 50) none (.fieldAddr 2 (.t 8)) (.onb 8), .mk (some 51) none (.load false 1 (.t 50)) (.onb 8), .mk (some 52) none (.buildFlat [.t 51]) .no, .mk (some 53) none (.append false 3 1 8 (.t 49) (.t 52))
  .no, .mk (some 54) none (.len false (.t 53)) .no, .mk (some 55) none (.mov (.c (.one (.st (.int .i64 0)))))
  .no])
  (.block 2
  (.loop
  (.seq
  (.ops
  [.mk (some 56) none (.bin .lss (.t 55) (.t 54))
  .no])
  (.seq (.cond (.t 56) .skip (.exit 2))
  (.seq
  (.block 3
  (.seq
  (.ops
  [.mk (some 57) none (.indexAddr 1 (.t 53) (.t 55))
  .no, .mk (some 58) none (.load false 1 (.t 57))
  .no, .mk (some 10) none (.mov (.t 58)) .no])
  (.seq
  (.ops
  [.mk (some 59) none (.mov (.t 10)) .no, .mk (some 60) none (.bin .lss (.t 59) (.c (.one (.st (.int .i64 0)))))
  .no, .mk (some 61) none (.mov (.t 60)) .no, .mk (some 62) (some (61, false)) (.mov (.t 10))
  .no, .mk (some 63) (some (61, false)) (.fieldAddr 0 (.t 3))
  .no, .mk (some 64) (some (61, false)) (.load false 1 (.t 63))
  .no, .mk (some 65) (some (61, false)) (.bin .geq (.t 62) (.t 64)) .no, .mk (some 66) none
  (.pick (.t 61) (.c (.one (.st (.bool true)))) (.t 65))
  .no])
  (.cond (.t 66)
  (.seq
  (.ops
  [.mk (some 6) none (.mov (.c (.one (.st (.int .i64 10)))))
  .no])
  .ret)
  .skip))))
  (.ops
  [.mk (some 67) none (.bin .add (.t 55) (.c (.one (.st (.int .i64 1)))))
  .no, .mk (some 55) none (.mov (.t 67)) .no])))))))))))
  (.ops
  [.mk (some 68) none (.bin .add (.t 30) (.c (.one (.st (.int .i64 1)))))
  .no, .mk (some 30) none (.mov (.t 68)) .no])))))))
  (.seq
  (.seq
  (.ops
  [.mk (some 69) none (.fieldAddr 2 (.t 3)) .no, .mk (some 70) none (.load false 1 (.t 69)) .no, .mk (some 71) none (.makeFunc 23 [.t 3]) .no, .mk (some 72) none (.callS 22 [.t 70, .t 71]) .no])
  (.cond (.t 72)
  (.seq
  (.ops
  [.mk (some 6) none (.mov (.c (.one (.st (.int .i64 10)))))
  .no])
  .ret)
  .skip))
  (.seq
  (.ops
  [.mk (some 6) none (.mov (.c (.one (.st (.int .i64 0)))))
  .no])
  .ret)))))
theorem tr_auto_Bounded : trCode Try.prog 73 [20000049, 72] (Try.f19.body.getD .skip) = some ir_auto_Bounded := by kernel_rfl
theorem ac_auto_Bounded {xs : List AV} {r : AV} (hn : xs.length ≤ 73) (h : ∀ C : Ctx, C.n = 73 → IWP Try.prog C [20000049, 72] ir_auto_Bounded (FinQ [.t 6] r) (AS.start xs)) : ACalls Try.prog 19 xs r :=
  acalls_of Try.func19 rfl tr_auto_Bounded rfl hn h
theorem acS_auto_Bounded {xs : List AV} {S S' : AStore} {r : AV} (hn : xs.length ≤ 73) (h : Clean S → ∀ C : Ctx, C.n = 73 → IWP Try.prog C [20000049, 72] ir_auto_Bounded (FinS C [.t 6] r S') (AS.startS xs S)) : ACallsS Try.prog 19 xs S r S' :=
  acallsS_of Try.func19 rfl tr_auto_Bounded rfl hn h

def ir_auto_Check : IR :=
  (.seq
  (.ops
  [.mk (some 1) none (.box 25 (.t 0)) .no, .mk (some 2) none (.mov (.c (.one (.st (.int .i64 0)))))
  .no])
  (.seq
  (.ops
  [.mk (some 3) none (.load true 3 (.t 1)) .no, .mk (some 4) none (.call 19
  [.t 3, .c (.one (.st (.int .i64 8))), .c (.one (.st (.int .i64 40)))])
  .no, .mk (some 2) none (.mov (.t 4)) .no])
  .ret))
theorem tr_auto_Check : trCode Try.prog 5 [] (Try.f17.body.getD .skip) = some ir_auto_Check := by kernel_rfl
theorem ac_auto_Check {xs : List AV} {r : AV} (hn : xs.length ≤ 5) (h : ∀ C : Ctx, C.n = 5 → IWP Try.prog C [] ir_auto_Check (FinQ [.t 2] r) (AS.start xs)) : ACalls Try.prog 17 xs r :=
  acalls_of Try.func17 rfl tr_auto_Check rfl hn h
theorem acS_auto_Check {xs : List AV} {S S' : AStore} {r : AV} (hn : xs.length ≤ 5) (h : Clean S → ∀ C : Ctx, C.n = 5 → IWP Try.prog C [] ir_auto_Check (FinS C [.t 2] r S') (AS.startS xs S)) : ACallsS Try.prog 17 xs S r S' :=
  acallsS_of Try.func17 rfl tr_auto_Check rfl hn h

def ir_auto_pair : IR :=
  (.seq
  (.ops
  [.mk (some 2) none (.box 25 (.t 0)) .no, .mk (some 3) none (.box 25 (.t 1)) .no, .mk (some 4) none (.mov (.c (.one (.st (.int .i64 0)))))
  .no])
  (.seq
  (.seq
  (.ops
  [.mk (some 6) none (.load true 3 (.t 2)) .no, .mk (some 7) none (.call 17 [.t 6]) .no, .mk (some 5) none (.mov (.t 7)) .no])
  (.seq
  (.ops
  [.mk (some 8) none (.mov (.t 5)) .no, .mk (some 9) none (.bin .neq (.t 8) (.c (.one (.st (.int .i64 0)))))
  .no])
  (.cond (.t 9)
  (.seq
  (.ops
  [.mk (some 10) none (.mov (.t 5)) .no, .mk (some 4) none (.mov (.t 10)) .no])
  .ret)
  .skip)))
  (.seq
  (.ops
  [.mk (some 11) none (.load true 3 (.t 3)) .no, .mk (some 12) none (.call 17 [.t 11]) .no, .mk (some 4) none (.mov (.t 12)) .no])
  .ret)))
theorem tr_auto_pair : trCode Try.prog 13 [] (Try.f12.body.getD .skip) = some ir_auto_pair := by kernel_rfl
theorem ac_auto_pair {xs : List AV} {r : AV} (hn : xs.length ≤ 13) (h : ∀ C : Ctx, C.n = 13 → IWP Try.prog C [] ir_auto_pair (FinQ [.t 4] r) (AS.start xs)) : ACalls Try.prog 12 xs r :=
  acalls_of Try.func12 rfl tr_auto_pair rfl hn h
theorem acS_auto_pair {xs : List AV} {S S' : AStore} {r : AV} (hn : xs.length ≤ 13) (h : Clean S → ∀ C : Ctx, C.n = 13 → IWP Try.prog C [] ir_auto_pair (FinS C [.t 4] r S') (AS.startS xs S)) : ACallsS Try.prog 12 xs S r S' :=
  acallsS_of Try.func12 rfl tr_auto_pair rfl hn h

def ir_auto_Both : IR :=
  (.seq
  (.ops
  [.mk (some 2) none (.box 25 (.t 0)) .no, .mk (some 3) none (.box 25 (.t 1)) .no, .mk (some 4) none
  (.alloc 25 [.st (.int .i64 0), .full [], .full []])
  .no, .mk (some 5) none (.mov (.c (.one (.st (.int .i64 0)))))
  .no])
  (.seq
  (.seq
  (.ops
  [.mk (some 18) none (.load true 3 (.t 2)) .no, .mk (some 19) none (.load true 3 (.t 3)) .no, .mk (some 20) none (.call 12 [.t 18, .t 19]) .no, .mk (some 6) none (.mov (.t 20)) .no])
  (.seq
  (.ops
  [.mk (some 21) none (.mov (.t 6)) .no, .mk (some 22) none (.bin .neq (.t 21) (.c (.one (.st (.int .i64 0)))))
  .no])
  (.cond (.t 22)
  (.seq
  (.ops
  [.mk (some 23) none
  (.build [.st (.int .i64 0), .full [], .full []] [])
  .no, .mk (some 24) none (.mov (.t 6)) .no, .mk none none (.store 3 (.t 4) (.t 23)) .no, .mk (some 5) none (.mov (.t 24)) .no])
  .ret)
  .skip)))
  (.seq
  (.ops
  [.mk (some 25) none (.fieldAddr 0 (.t 2)) .no, .mk (some 26) none (.load false 1 (.t 25)) .no, .mk (some 27) none (.fieldAddr 0 (.t 3)) .no, .mk (some 28) none (.load false 1 (.t 27)) .no, .mk (some 29) none (.bin .mul (.t 26) (.t 28))
  .no, .mk (some 30) none
  (.build [.st (.int .i64 0), .full [], .full []]
  [(0, 1, .t 29)])
  .no, .mk (some 7) none
  (.alloc 25 [.st (.int .i64 0), .full [], .full []])
  .no, .mk none none (.store 3 (.t 7) (.t 30)) .no])
  (.seq
  (.seq
  (.ops
  [.mk (some 31) none (.fieldAddr 1 (.t 2)) .no, .mk (some 32) none (.load false 1 (.t 31)) .no, .mk (some 33) none (.len false (.t 32)) .no, .mk (some 34) none (.mov (.c (.one (.st (.int .i64 0)))))
  .no])
  (.block 0
  (.loop
  (.seq
  (.ops
  [.mk (some 35) none (.bin .lss (.t 34) (.t 33))
  .no])
  (.seq (.cond (.t 35) .skip (.exit 0))
  (.seq
  (.block 1
  (.seq
  (.ops
  [.mk (some 36) none (.indexAddr 3 (.t 32) (.t 34))
  .no, .mk (some 37) none (.load true 3 (.t 36)) .no, .mk (some 9) none
  (.alloc 38
  [.st (.str (ByteArray.mk (#[]))), .full [], .st (.int .i64 0)])
  .no, .mk none none (.store 3 (.t 9) (.t 37))
  .no])
  (.seq
  (.ops
  [.mk (some 38) none (.fieldAddr 1 (.t 3)) .no, .mk (some 39) none (.load false 1 (.t 38)) .no, .mk (some 40) none (.len false (.t 39)) .no, .mk (some 41) none (.mov (.c (.one (.st (.int .i64 0)))))
  .no])
  (.block 2
  (.loop
  (.seq
  (.ops
  [.mk (some 42) none (.bin .lss (.t 41) (.t 40))
  .no])
  (.seq (.cond (.t 42) .skip (.exit 2))
  (.seq
  (.block 3
  (.seq
  (.ops
  [.mk (some 43) none (.indexAddr 3 (.t 39) (.t 41))
  .no, .mk (some 44) none (.load true 3 (.t 43)) .no, .mk (some 11) none
  (.alloc 38
  [.st (.str (ByteArray.mk (#[]))), .full [], .st (.int .i64 0)])
  .no, .mk none none (.store 3 (.t 11) (.t 44))
  .no])
  (.seq
  (.seq
  (.ops
  [.mk (some 45) none (.fieldAddr 0 (.t 9)) .no, .mk (some 46) none (.load false 1 (.t 45))
  .no, .mk (some 47) none (.fieldAddr 0 (.t 11)) .no, .mk (some 48) none (.load false 1 (.t 47))
  .no, .mk (some 49) none (.bin .neq (.t 46) (.t 48)) .no, .mk (some 50) none (.mov (.t 49)) .no, .mk (some 51) (some (50, false)) (.fieldAddr 1 (.t 9))
  .no, .mk (some 52) (some (50, false)) (.load false 1 (.t 51))
  .no, .mk (some 53) (some (50, false)) (.len false (.t 52))
  .no, .mk (some 54) (some (50, false)) (.fieldAddr 1 (.t 11))
  .no, .mk (some 55) (some (50, false)) (.load false 1 (.t 54))
  .no, .mk (some 56) (some (50, false)) (.len false (.t 55))
  .no, .mk (some 57) (some (50, false)) (.bin .neq (.t 53) (.t 56)) .no, .mk (some 58) none
  (.pick (.t 50) (.c (.one (.st (.bool true)))) (.t 57))
  .no])
  (.cond (.t 58) (.exit 3) .skip))
  (.seq
  (.ops
  [.mk (some 59) none (.fieldAddr 0 (.t 9)) .no, .mk (some 60) none (.load false 1 (.t 59))
  .no, .mk (some 61) none (.fieldAddr 2 (.t 9)) .no, .mk (some 62) none (.load false 1 (.t 61))
  .no, .mk (some 63) none (.fieldAddr 0 (.t 3)) .no, .mk (some 64) none (.load false 1 (.t 63))
  .no, .mk (some 65) none (.bin .mul (.t 62) (.t 64)) .no, .mk (some 66) none (.fieldAddr 2 (.t 11)) .no, .mk (some 67) none (.load false 1 (.t 66))
  .no, .mk (some 68) none (.bin .add (.t 65) (.t 67)) .no, .mk (some 69) none
  (.build
  [.st (.str (ByteArray.mk (#[]))), .full [], .st (.int .i64 0)]
  [(0, 1, .t 60), (2, 1, .t 68)])
  .no, .mk (some 12) none
  (.alloc 38
  [.st (.str (ByteArray.mk (#[]))), .full [], .st (.int .i64 0)])
  .no, .mk none none (.store 3 (.t 12) (.t 69))
  .no])
  (.seq
  (.seq
  (.ops
  [.mk (some 70) none (.fieldAddr 1 (.t 9))
  .no, .mk (some 71) none (.load false 1 (.t 70))
  .no, .mk (some 72) none (.len false (.t 71))
  .no, .mk (some 73) none (.mov (.c (.one (.st (.int .i64 0)))))
  .no])
  (.block 4
  (.loop
  (.seq
  (.ops
  [.mk (some 74) none (.bin .lss (.t 73) (.t 72)) .no])
  (.seq
  (.cond (.t 74) .skip (.exit 4))
  (.seq
  (.block 5
  (.seq
  (.ops
  [.mk (some 75) none (.mov (.t 73))
  .no, .mk (some 13) none (.mov (.t 75))
  .no])
  (.ops
  [.mk (some 76) none (.fieldAddr 1 (.t 12))
  .no, .mk (some 77) none (.load false 1 (.t 76))
  .no, .mk (some 78) none (.fieldAddr 1 (.t 9))
  .no, .mk (some 79) none (.load false 1 (.t 78))
  .no, .mk (some 80) none (.mov (.t 13))
  .no, .mk (some 81) none
  (.indexAddr 1 (.t 79) (.t 80)) .no, .mk (some 82) none (.load false 1 (.t 81))
  .no, .mk (some 83) none (.fieldAddr 0 (.t 3))
  .no, .mk (some 84) none (.load false 1 (.t 83))
  .no, .mk (some 85) none (.bin .mul (.t 82) (.t 84)) .no, .mk (some 86) none (.fieldAddr 1 (.t 11))
  .no, .mk (some 87) none (.load false 1 (.t 86))
  .no, .mk (some 88) none (.mov (.t 13))
  .no, .mk (some 89) none
  (.indexAddr 1 (.t 87) (.t 88)) .no, .mk (some 90) none (.load false 1 (.t 89))
  .no, .mk (some 91) none (.bin .add (.t 85) (.t 90)) .no, .mk (some 92) none (.buildFlat [.t 91])
  .no, .mk (some 93) none
  (.append false 3 1 8 (.t 77) (.t 92))
  .no, .mk (some 94) none (.fieldAddr 1 (.t 12))
  .no, .mk none none (.store 1 (.t 94) (.t 93)) .no])))
  (.ops
  [.mk (some 95) none (.bin .add (.t 73) (.c (.one (.st (.int .i64 1)))))
  .no, .mk (some 73) none (.mov (.t 95))
  .no])))))))
  (.ops
  [.mk (some 96) none (.fieldAddr 1 (.t 7)) .no, .mk (some 97) none (.load false 1 (.t 96))
  .no, .mk (some 98) none (.load true 3 (.t 12))
  .no, .mk (some 99) none (.buildSlice false 38 3 [.t 98])
  .no, .mk (some 100) none
  (.append false 38 3 48 (.t 97) (.t 99)) .no, .mk (some 101) none (.fieldAddr 1 (.t 7))
  .no, .mk none none (.store 1 (.t 101) (.t 100))
  .no]))))))
  (.ops
  [.mk (some 102) none (.bin .add (.t 41) (.c (.one (.st (.int .i64 1)))))
  .no, .mk (some 41) none (.mov (.t 102)) .no])))))))))
  (.ops
  [.mk (some 103) none (.bin .add (.t 34) (.c (.one (.st (.int .i64 1)))))
  .no, .mk (some 34) none (.mov (.t 103)) .no])))))))
  (.seq
  (.seq
  (.ops
  [.mk (some 104) none (.fieldAddr 2 (.t 2)) .no, .mk (some 105) none (.load false 1 (.t 104)) .no, .mk (some 106) none (.len false (.t 105)) .no, .mk (some 107) none (.mov (.c (.one (.st (.int .i64 0)))))
  .no])
  (.block 6
  (.loop
  (.seq
  (.ops
  [.mk (some 108) none (.bin .lss (.t 107) (.t 106))
  .no])
  (.seq (.cond (.t 108) .skip (.exit 6))
  (.seq
  (.block 7
  (.seq
  (.ops
  [.mk (some 109) none (.indexAddr 1 (.t 105) (.t 107))
  .no, .mk (some 110) none (.load false 1 (.t 109)) .no, .mk (some 15) none (.mov (.t 110)) .no])
  (.seq
  (.ops
  [.mk (some 111) none (.fieldAddr 2 (.t 3)) .no, .mk (some 112) none (.load false 1 (.t 111)) .no, .mk (some 113) none (.len false (.t 112)) .no, .mk (some 114) none (.mov (.c (.one (.st (.int .i64 0)))))
  .no])
  (.block 8
  (.loop
  (.seq
  (.ops
  [.mk (some 115) none (.bin .lss (.t 114) (.t 113))
  .no])
  (.seq (.cond (.t 115) .skip (.exit 8))
  (.seq
  (.block 9
  (.seq
  (.ops
  [.mk (some 116) none
  (.indexAddr 1 (.t 112) (.t 114)) .no, .mk (some 117) none (.load false 1 (.t 116))
  .no, .mk (some 17) none (.mov (.t 117)) .no])
  (.ops
  [.mk (some 118) none (.fieldAddr 2 (.t 7)) .no, .mk (some 119) none (.load false 1 (.t 118))
  .no, .mk (some 120) none (.mov (.t 15)) .no, .mk (some 121) none (.fieldAddr 0 (.t 3)) .no, .mk (some 122) none (.load false 1 (.t 121))
  .no, .mk (some 123) none (.bin .mul (.t 120) (.t 122)) .no, .mk (some 124) none (.mov (.t 17)) .no, .mk (some 125) none (.bin .add (.t 123) (.t 124)) .no, .mk (some 126) none (.buildFlat [.t 125]) .no, .mk (some 127) none
  (.append false 3 1 8 (.t 119) (.t 126)) .no, .mk (some 128) none (.fieldAddr 2 (.t 7)) .no, .mk none none (.store 1 (.t 128) (.t 127))
  .no])))
  (.ops
  [.mk (some 129) none (.bin .add (.t 114) (.c (.one (.st (.int .i64 1)))))
  .no, .mk (some 114) none (.mov (.t 129)) .no])))))))))
  (.ops
  [.mk (some 130) none (.bin .add (.t 107) (.c (.one (.st (.int .i64 1)))))
  .no, .mk (some 107) none (.mov (.t 130)) .no])))))))
  (.seq
  (.ops
  [.mk (some 131) none (.load true 3 (.t 7)) .no, .mk none none (.store 3 (.t 4) (.t 131)) .no, .mk (some 5) none (.mov (.c (.one (.st (.int .i64 0)))))
  .no])
  .ret))))))
theorem tr_auto_Both : trCode Try.prog 132 [] (Try.f7.body.getD .skip) = some ir_auto_Both := by kernel_rfl
theorem ac_auto_Both {xs : List AV} {r : AV} (hn : xs.length ≤ 132) (h : ∀ C : Ctx, C.n = 132 → IWP Try.prog C [] ir_auto_Both (FinQ [.cell 4 true 3, .t 5] r) (AS.start xs)) : ACalls Try.prog 7 xs r :=
  acalls_of Try.func7 rfl tr_auto_Both rfl hn h
theorem acS_auto_Both {xs : List AV} {S S' : AStore} {r : AV} (hn : xs.length ≤ 132) (h : Clean S → ∀ C : Ctx, C.n = 132 → IWP Try.prog C [] ir_auto_Both (FinS C [.cell 4 true 3, .t 5] r S') (AS.startS xs S)) : ACallsS Try.prog 7 xs S r S' :=
  acallsS_of Try.func7 rfl tr_auto_Both rfl hn h

def ir_auto_Either : IR :=
  (.seq
  (.ops
  [.mk (some 2) none (.box 25 (.t 0)) .no, .mk (some 3) none (.box 25 (.t 1)) .no, .mk (some 4) none
  (.alloc 25 [.st (.int .i64 0), .full [], .full []])
  .no, .mk (some 5) none (.mov (.c (.one (.st (.int .i64 0)))))
  .no])
  (.seq
  (.seq
  (.ops
  [.mk (some 17) none (.load true 3 (.t 2)) .no, .mk (some 18) none (.load true 3 (.t 3)) .no, .mk (some 19) none (.call 12 [.t 17, .t 18]) .no, .mk (some 6) none (.mov (.t 19)) .no])
  (.seq
  (.ops
  [.mk (some 20) none (.mov (.t 6)) .no, .mk (some 21) none (.bin .neq (.t 20) (.c (.one (.st (.int .i64 0)))))
  .no])
  (.cond (.t 21)
  (.seq
  (.ops
  [.mk (some 22) none
  (.build [.st (.int .i64 0), .full [], .full []] [])
  .no, .mk (some 23) none (.mov (.t 6)) .no, .mk none none (.store 3 (.t 4) (.t 22)) .no, .mk (some 5) none (.mov (.t 23)) .no])
  .ret)
  .skip)))
  (.seq
  (.ops
  [.mk (some 24) none (.fieldAddr 0 (.t 2)) .no, .mk (some 25) none (.load false 1 (.t 24)) .no, .mk (some 26) none (.fieldAddr 0 (.t 3)) .no, .mk (some 27) none (.load false 1 (.t 26)) .no, .mk (some 28) none (.bin .add (.t 25) (.t 27))
  .no, .mk (some 29) none (.fieldAddr 2 (.t 2)) .no, .mk (some 30) none (.load false 1 (.t 29)) .no, .mk (some 31) none (.callN 13 [.t 30]) .no, .mk (some 32) none
  (.build [.st (.int .i64 0), .full [], .full []]
  [(0, 1, .t 28), (2, 1, .t 31)])
  .no, .mk (some 7) none
  (.alloc 25 [.st (.int .i64 0), .full [], .full []])
  .no, .mk none none (.store 3 (.t 7) (.t 32)) .no])
  (.seq
  (.seq
  (.ops
  [.mk (some 33) none (.fieldAddr 1 (.t 2)) .no, .mk (some 34) none (.load false 1 (.t 33)) .no, .mk (some 35) none (.len false (.t 34)) .no, .mk (some 36) none (.mov (.c (.one (.st (.int .i64 0)))))
  .no])
  (.block 0
  (.loop
  (.seq
  (.ops
  [.mk (some 37) none (.bin .lss (.t 36) (.t 35))
  .no])
  (.seq (.cond (.t 37) .skip (.exit 0))
  (.seq
  (.block 1
  (.seq
  (.ops
  [.mk (some 38) none (.indexAddr 3 (.t 34) (.t 36))
  .no, .mk (some 39) none (.load true 3 (.t 38)) .no, .mk (some 9) none
  (.alloc 38
  [.st (.str (ByteArray.mk (#[]))), .full [], .st (.int .i64 0)])
  .no, .mk none none (.store 3 (.t 9) (.t 39))
  .no])
  (.ops
  [.mk (some 40) none (.fieldAddr 1 (.t 7)) .no, .mk (some 41) none (.load false 1 (.t 40)) .no, .mk (some 42) none (.fieldAddr 0 (.t 9)) .no, .mk (some 43) none (.load false 1 (.t 42)) .no, .mk (some 44) none (.fieldAddr 1 (.t 9)) .no, .mk (some 45) none (.load false 1 (.t 44)) .no, .mk (some 46) none (.call 13 [.t 45]) .no, .mk (some 47) none (.fieldAddr 2 (.t 9)) .no, .mk (some 48) none (.load false 1 (.t 47)) .no, .mk (some 49) none
  (.build
  [.st (.str (ByteArray.mk (#[]))), .full [], .st (.int .i64 0)]
  [(0, 1, .t 43), (1, 1, .t 46), (2, 1, .t 48)])
  .no, .mk (some 50) none (.buildSlice false 38 3 [.t 49]) .no, .mk (some 51) none (.append false 38 3 48 (.t 41) (.t 50))
  .no, .mk (some 52) none (.fieldAddr 1 (.t 7)) .no, .mk none none (.store 1 (.t 52) (.t 51))
  .no])))
  (.ops
  [.mk (some 53) none (.bin .add (.t 36) (.c (.one (.st (.int .i64 1)))))
  .no, .mk (some 36) none (.mov (.t 53)) .no])))))))
  (.seq
  (.seq
  (.ops
  [.mk (some 54) none (.fieldAddr 1 (.t 3)) .no, .mk (some 55) none (.load false 1 (.t 54)) .no, .mk (some 56) none (.len false (.t 55)) .no, .mk (some 57) none (.mov (.c (.one (.st (.int .i64 0)))))
  .no])
  (.block 2
  (.loop
  (.seq
  (.ops
  [.mk (some 58) none (.bin .lss (.t 57) (.t 56))
  .no])
  (.seq (.cond (.t 58) .skip (.exit 2))
  (.seq
  (.block 3
  (.seq
  (.ops
  [.mk (some 59) none (.indexAddr 3 (.t 55) (.t 57))
  .no, .mk (some 60) none (.load true 3 (.t 59)) .no, .mk (some 11) none
  (.alloc 38
  [.st (.str (ByteArray.mk (#[]))), .full [], .st (.int .i64 0)])
  .no, .mk none none (.store 3 (.t 11) (.t 60))
  .no])
  (.seq
  (.ops
  [.mk (some 61) none (.fieldAddr 0 (.t 11)) .no, .mk (some 62) none (.load false 1 (.t 61)) .no, .mk (some 63) none (.fieldAddr 2 (.t 11)) .no, .mk (some 64) none (.load false 1 (.t 63)) .no, .mk (some 65) none (.fieldAddr 0 (.t 2)) .no, .mk (some 66) none (.load false 1 (.t 65)) .no, .mk (some 67) none (.bin .add (.t 64) (.t 66))
  .no, .mk (some 68) none
  (.build
  [.st (.str (ByteArray.mk (#[]))), .full [], .st (.int .i64 0)]
  [(0, 1, .t 62), (2, 1, .t 67)])
  .no, .mk (some 12) none
  (.alloc 38
  [.st (.str (ByteArray.mk (#[]))), .full [], .st (.int .i64 0)])
  .no, .mk none none (.store 3 (.t 12) (.t 68))
  .no])
  (.seq
  (.seq
  (.ops
  [.mk (some 69) none (.fieldAddr 1 (.t 11)) .no, .mk (some 70) none (.load false 1 (.t 69)) .no, .mk (some 71) none (.len false (.t 70)) .no, .mk (some 72) none (.mov (.c (.one (.st (.int .i64 0)))))
  .no])
  (.block 4
  (.loop
  (.seq
  (.ops
  [.mk (some 73) none (.bin .lss (.t 72) (.t 71))
  .no])
  (.seq (.cond (.t 73) .skip (.exit 4))
  (.seq
  (.block 5
  (.seq
  (.ops
  [.mk (some 74) none
  (.indexAddr 1 (.t 70) (.t 72)) .no, .mk (some 75) none (.load false 1 (.t 74))
  .no, .mk (some 14) none (.mov (.t 75)) .no])
  (.ops
  [.mk (some 76) none (.fieldAddr 1 (.t 12)) .no, .mk (some 77) none (.load false 1 (.t 76))
  .no, .mk (some 78) none (.mov (.t 14)) .no, .mk (some 79) none (.fieldAddr 0 (.t 2)) .no, .mk (some 80) none (.load false 1 (.t 79))
  .no, .mk (some 81) none (.bin .add (.t 78) (.t 80)) .no, .mk (some 82) none (.buildFlat [.t 81]) .no, .mk (some 83) none
  (.append false 3 1 8 (.t 77) (.t 82)) .no, .mk (some 84) none (.fieldAddr 1 (.t 12))
  .no, .mk none none (.store 1 (.t 84) (.t 83))
  .no])))
  (.ops
  [.mk (some 85) none (.bin .add (.t 72) (.c (.one (.st (.int .i64 1)))))
  .no, .mk (some 72) none (.mov (.t 85)) .no])))))))
  (.ops
  [.mk (some 86) none (.fieldAddr 1 (.t 7)) .no, .mk (some 87) none (.load false 1 (.t 86)) .no, .mk (some 88) none (.load true 3 (.t 12)) .no, .mk (some 89) none (.buildSlice false 38 3 [.t 88]) .no, .mk (some 90) none
  (.append false 38 3 48 (.t 87) (.t 89)) .no, .mk (some 91) none (.fieldAddr 1 (.t 7)) .no, .mk none none (.store 1 (.t 91) (.t 90))
  .no])))))
  (.ops
  [.mk (some 92) none (.bin .add (.t 57) (.c (.one (.st (.int .i64 1)))))
  .no, .mk (some 57) none (.mov (.t 92)) .no])))))))
  (.seq
  (.seq
  (.ops
  [.mk (some 93) none (.fieldAddr 2 (.t 3)) .no, .mk (some 94) none (.load false 1 (.t 93)) .no, .mk (some 95) none (.len false (.t 94)) .no, .mk (some 96) none (.mov (.c (.one (.st (.int .i64 0)))))
  .no])
  (.block 6
  (.loop
  (.seq
  (.ops
  [.mk (some 97) none (.bin .lss (.t 96) (.t 95))
  .no])
  (.seq (.cond (.t 97) .skip (.exit 6))
  (.seq
  (.block 7
  (.seq
  (.ops
  [.mk (some 98) none (.indexAddr 1 (.t 94) (.t 96))
  .no, .mk (some 99) none (.load false 1 (.t 98)) .no, .mk (some 16) none (.mov (.t 99)) .no])
  (.ops
  [.mk (some 100) none (.fieldAddr 2 (.t 7)) .no, .mk (some 101) none (.load false 1 (.t 100)) .no, .mk (some 102) none (.mov (.t 16)) .no, .mk (some 103) none (.fieldAddr 0 (.t 2)) .no, .mk (some 104) none (.load false 1 (.t 103)) .no, .mk (some 105) none (.bin .add (.t 102) (.t 104))
  .no, .mk (some 106) none (.buildFlat [.t 105]) .no, .mk (some 107) none
  (.append false 3 1 8 (.t 101) (.t 106)) .no, .mk (some 108) none (.fieldAddr 2 (.t 7)) .no, .mk none none (.store 1 (.t 108) (.t 107))
  .no])))
  (.ops
  [.mk (some 109) none (.bin .add (.t 96) (.c (.one (.st (.int .i64 1)))))
  .no, .mk (some 96) none (.mov (.t 109)) .no])))))))
  (.seq
  (.ops
  [.mk (some 110) none (.load true 3 (.t 7)) .no, .mk none none (.store 3 (.t 4) (.t 110)) .no, .mk (some 5) none (.mov (.c (.one (.st (.int .i64 0)))))
  .no])
  .ret)))))))
theorem tr_auto_Either : trCode Try.prog 111 [20000031] (Try.f8.body.getD .skip) = some ir_auto_Either := by kernel_rfl
theorem ac_auto_Either {xs : List AV} {r : AV} (hn : xs.length ≤ 111) (h : ∀ C : Ctx, C.n = 111 → IWP Try.prog C [20000031] ir_auto_Either (FinQ [.cell 4 true 3, .t 5] r) (AS.start xs)) : ACalls Try.prog 8 xs r :=
  acalls_of Try.func8 rfl tr_auto_Either rfl hn h
theorem acS_auto_Either {xs : List AV} {S S' : AStore} {r : AV} (hn : xs.length ≤ 111) (h : Clean S → ∀ C : Ctx, C.n = 111 → IWP Try.prog C [20000031] ir_auto_Either (FinS C [.cell 4 true 3, .t 5] r S') (AS.startS xs S)) : ACallsS Try.prog 8 xs S r S' :=
  acallsS_of Try.func8 rfl tr_auto_Either rfl hn h

def ir_R_AutoMay : IR :=
  (.seq
  (.ops
  [.mk (some 3) none (.box 25 (.t 0)) .no, .mk (some 6) none (.mov (.c (.one (.st (.int .i64 0)))))
  .no])
  (.seq
  (.seq
  (.ops
  [.mk (some 11) none (.fieldAddr 0 (.t 3)) .no, .mk (some 12) none (.load false 1 (.t 11)) .no, .mk (some 13) none (.bin .lss (.t 12) (.c (.one (.st (.int .i64 0)))))
  .no, .mk (some 14) none (.mov (.t 13)) .no, .mk (some 15) (some (14, false)) (.fieldAddr 0 (.t 3)) .no, .mk (some 16) (some (14, false)) (.load false 1 (.t 15)) .no, .mk (some 17) (some (14, false)) (.mov (.t 1)) .no, .mk (some 18) (some (14, false)) (.bin .gtr (.t 16) (.t 17))
  .no, .mk (some 19) none
  (.pick (.t 14) (.c (.one (.st (.bool true)))) (.t 18))
  .no, .mk (some 20) none (.mov (.t 19)) .no, .mk (some 21) (some (20, false)) (.fieldAddr 1 (.t 3)) .no, .mk (some 22) (some (20, false)) (.load false 1 (.t 21)) .no, .mk (some 23) (some (20, false)) (.len false (.t 22)) .no, .mk (some 24) (some (20, false)) (.mov (.t 2)) .no, .mk (some 25) (some (20, false)) (.bin .gtr (.t 23) (.t 24))
  .no, .mk (some 26) none
  (.pick (.t 20) (.c (.one (.st (.bool true)))) (.t 25))
  .no])
  (.cond (.t 26)
  (.seq
  (.ops
  [.mk (some 6) none (.mov (.c (.one (.st (.int .i64 3)))))
  .no])
  .ret)
  .skip))
  (.seq
  (.seq
  (.ops
  [.mk (some 7) none (.mov (.c (.one (.st (.int .i64 0)))))
  .no])
  (.block 0
  (.loop
  (.seq
  (.seq
  (.ops
  [.mk (some 27) none (.mov (.t 7)) .no, .mk (some 28) none (.fieldAddr 1 (.t 3)) .no, .mk (some 29) none (.load false 1 (.t 28)) .no, .mk (some 30) none (.len false (.t 29)) .no, .mk (some 31) none (.bin .lss (.t 27) (.t 30))
  .no])
  (.cond (.t 31) .skip (.exit 0)))
  (.seq
  (.block 1
  (.seq
  (.ops
  [.mk (some 34) none (.fieldAddr 1 (.t 3)) .no, .mk (some 35) none (.load false 1 (.t 34)) .no, .mk (some 36) none (.mov (.t 7)) .no, .mk (some 37) none (.indexAddr 3 (.t 35) (.t 36))
  .no, .mk (some 38) none (.load true 3 (.t 37)) .no, .mk (some 8) none
  (.alloc 38
  [.st (.str (ByteArray.mk (#[]))), .full [], .st (.int .i64 0)])
  .no, .mk none none (.store 3 (.t 8) (.t 38))
  .no])
  (.seq
  (.seq
  (.ops
  [.mk (some 39) none (.fieldAddr 0 (.t 8)) .no, .mk (some 40) none (.load false 1 (.t 39)) .no, .mk (some 41) none (.call 10 [.t 40]) .no, .mk (some 42) none (.un .not (.t 41)) .no, .mk (some 43) none (.mov (.t 42)) .no, .mk (some 44) (some (43, false)) (.fieldAddr 0 (.t 8)) .no, .mk (some 45) (some (43, false)) (.load false 1 (.t 44))
  .no, .mk (some 46) (some (43, false)) (.call 11 [.t 45]) .no, .mk (some 47) none
  (.pick (.t 43) (.c (.one (.st (.bool true)))) (.t 46))
  .no])
  (.cond (.t 47)
  (.seq
  (.ops
  [.mk (some 6) none (.mov (.c (.one (.st (.int .i64 1)))))
  .no])
  .ret)
  .skip))
  (.seq
  (.seq
  (.ops
  [.mk (some 48) none (.fieldAddr 1 (.t 8)) .no, .mk (some 49) none (.load false 1 (.t 48)) .no, .mk (some 50) none (.len false (.t 49)) .no, .mk (some 51) none (.bin .gtr (.t 50) (.c (.one (.st (.int .i64 4)))))
  .no])
  (.cond (.t 51)
  (.seq
  (.ops
  [.mk (some 6) none (.mov (.c (.one (.st (.int .i64 3)))))
  .no])
  .ret)
  .skip))
  (.seq
  (.seq
  (.ops
  [.mk (some 9) none (.mov (.c (.one (.st (.int .i64 0)))))
  .no])
  (.block 2
  (.loop
  (.seq
  (.seq
  (.ops
  [.mk (some 52) none (.mov (.t 9)) .no, .mk (some 53) none (.fieldAddr 1 (.t 8)) .no, .mk (some 54) none (.load false 1 (.t 53)) .no, .mk (some 55) none (.len false (.t 54)) .no, .mk (some 56) none (.bin .lss (.t 52) (.t 55))
  .no])
  (.cond (.t 56) .skip (.exit 2)))
  (.seq
  (.block 3
  (.seq
  (.ops
  [.mk (some 59) none (.fieldAddr 1 (.t 8)) .no, .mk (some 60) none (.load false 1 (.t 59))
  .no, .mk (some 61) none (.mov (.t 9)) .no, .mk (some 62) none (.indexAddr 1 (.t 60) (.t 61))
  .no, .mk (some 63) none (.load false 1 (.t 62))
  .no, .mk (some 64) none (.bin .lss (.t 63) (.c (.one (.st (.int .i64 0)))))
  .no, .mk (some 65) none (.mov (.t 64)) .no, .mk (some 66) (some (65, false)) (.fieldAddr 1 (.t 8))
  .no, .mk (some 67) (some (65, false)) (.load false 1 (.t 66))
  .no, .mk (some 68) (some (65, false)) (.mov (.t 9))
  .no, .mk (some 69) (some (65, false))
  (.indexAddr 1 (.t 67) (.t 68)) .no, .mk (some 70) (some (65, false)) (.load false 1 (.t 69))
  .no, .mk (some 71) (some (65, false)) (.fieldAddr 0 (.t 3))
  .no, .mk (some 72) (some (65, false)) (.load false 1 (.t 71))
  .no, .mk (some 73) (some (65, false)) (.bin .geq (.t 70) (.t 72)) .no, .mk (some 74) none
  (.pick (.t 65) (.c (.one (.st (.bool true)))) (.t 73))
  .no])
  (.cond (.t 74)
  (.seq
  (.ops
  [.mk (some 6) none (.mov (.c (.one (.st (.int .i64 10)))))
  .no])
  .ret)
  .skip)))
  (.ops
  [.mk (some 57) none (.mov (.t 9)) .no, .mk (some 58) none (.bin .add (.t 57) (.c (.one (.st (.int .i64 1)))))
  .no, .mk (some 9) none (.mov (.t 58)) .no]))))))
  (.seq
  (.ops
  [.mk (some 75) none (.fieldAddr 2 (.t 8)) .no, .mk (some 76) none (.load false 1 (.t 75)) .no, .mk (some 77) none (.bin .lss (.t 76) (.c (.one (.st (.int .i64 0)))))
  .no, .mk (some 78) none (.mov (.t 77)) .no, .mk (some 79) (some (78, false)) (.fieldAddr 2 (.t 8))
  .no, .mk (some 80) (some (78, false)) (.load false 1 (.t 79))
  .no, .mk (some 81) (some (78, false)) (.fieldAddr 0 (.t 3))
  .no, .mk (some 82) (some (78, false)) (.load false 1 (.t 81))
  .no, .mk (some 83) (some (78, false)) (.bin .geq (.t 80) (.t 82)) .no, .mk (some 84) none
  (.pick (.t 78) (.c (.one (.st (.bool true)))) (.t 83))
  .no])
  (.cond (.t 84)
  (.seq
  (.ops
  [.mk (some 6) none (.mov (.c (.one (.st (.int .i64 10)))))
  .no])
  .ret)
  .skip)))))))
  (.ops
  [.mk (some 32) none (.mov (.t 7)) .no, .mk (some 33) none (.bin .add (.t 32) (.c (.one (.st (.int .i64 1)))))
  .no, .mk (some 7) none (.mov (.t 33)) .no]))))))
  (.seq
  (.seq
  (.ops
  [.mk (some 10) none (.mov (.c (.one (.st (.int .i64 0)))))
  .no])
  (.block 4
  (.loop
  (.seq
  (.seq
  (.ops
  [.mk (some 85) none (.mov (.t 10)) .no, .mk (some 86) none (.fieldAddr 2 (.t 3)) .no, .mk (some 87) none (.load false 1 (.t 86)) .no, .mk (some 88) none (.len false (.t 87)) .no, .mk (some 89) none (.bin .lss (.t 85) (.t 88))
  .no])
  (.cond (.t 89) .skip (.exit 4)))
  (.seq
  (.block 5
  (.seq
  (.ops
  [.mk (some 92) none (.fieldAddr 2 (.t 3)) .no, .mk (some 93) none (.load false 1 (.t 92)) .no, .mk (some 94) none (.mov (.t 10)) .no, .mk (some 95) none (.indexAddr 1 (.t 93) (.t 94))
  .no, .mk (some 96) none (.load false 1 (.t 95)) .no, .mk (some 97) none (.bin .lss (.t 96) (.c (.one (.st (.int .i64 0)))))
  .no, .mk (some 98) none (.mov (.t 97)) .no, .mk (some 99) (some (98, false)) (.fieldAddr 2 (.t 3)) .no, .mk (some 100) (some (98, false)) (.load false 1 (.t 99))
  .no, .mk (some 101) (some (98, false)) (.mov (.t 10)) .no, .mk (some 102) (some (98, false))
  (.indexAddr 1 (.t 100) (.t 101)) .no, .mk (some 103) (some (98, false)) (.load false 1 (.t 102))
  .no, .mk (some 104) (some (98, false)) (.fieldAddr 0 (.t 3)) .no, .mk (some 105) (some (98, false)) (.load false 1 (.t 104))
  .no, .mk (some 106) (some (98, false)) (.bin .geq (.t 103) (.t 105)) .no, .mk (some 107) none
  (.pick (.t 98) (.c (.one (.st (.bool true)))) (.t 106))
  .no])
  (.cond (.t 107)
  (.seq
  (.ops
  [.mk (some 6) none (.mov (.c (.one (.st (.int .i64 10)))))
  .no])
  .ret)
  .skip)))
  (.ops
  [.mk (some 90) none (.mov (.t 10)) .no, .mk (some 91) none (.bin .add (.t 90) (.c (.one (.st (.int .i64 1)))))
  .no, .mk (some 10) none (.mov (.t 91)) .no]))))))
  (.seq
  (.ops
  [.mk (some 6) none (.mov (.c (.one (.st (.int .i64 0)))))
  .no])
  .ret)))))
theorem tr_R_AutoMay : trCode Try.prog 108 [] (Try.f6.body.getD .skip) = some ir_R_AutoMay := by kernel_rfl
theorem ac_R_AutoMay {xs : List AV} {r : AV} (hn : xs.length ≤ 108) (h : ∀ C : Ctx, C.n = 108 → IWP Try.prog C [] ir_R_AutoMay (FinQ [.t 6] r) (AS.start xs)) : ACalls Try.prog 6 xs r :=
  acalls_of Try.func6 rfl tr_R_AutoMay rfl hn h
theorem acS_R_AutoMay {xs : List AV} {S S' : AStore} {r : AV} (hn : xs.length ≤ 108) (h : Clean S → ∀ C : Ctx, C.n = 108 → IWP Try.prog C [] ir_R_AutoMay (FinS C [.t 6] r S') (AS.startS xs S)) : ACallsS Try.prog 6 xs S r S' :=
  acallsS_of Try.func6 rfl tr_R_AutoMay rfl hn h

def ir_R_EndsIn : IR :=
  (.seq
  (.ops
  [.mk (some 2) none (.box 25 (.t 0)) .no, .mk (some 3) none (.box 28 (.t 1)) .no, .mk (some 4) none (.mov (.c (.one (.full []))))
  .no])
  (.seq
  (.ops
  [.mk (some 5) none (.mov (.c (.one (.full []))))
  .no])
  (.seq
  (.seq
  (.ops
  [.mk (some 6) none (.mov (.c (.one (.st (.int .i64 0)))))
  .no])
  (.block 0
  (.loop
  (.seq
  (.seq
  (.ops
  [.mk (some 7) none (.mov (.t 6)) .no, .mk (some 8) none (.fieldAddr 1 (.t 3)) .no, .mk (some 9) none (.load false 1 (.t 8)) .no, .mk (some 10) none (.len false (.t 9)) .no, .mk (some 11) none (.bin .lss (.t 7) (.t 10))
  .no])
  (.cond (.t 11) .skip (.exit 0)))
  (.seq
  (.block 1
  (.ops
  [.mk (some 14) none (.mov (.t 5)) .no, .mk (some 15) none (.load true 3 (.t 2)) .no, .mk (some 16) none (.fieldAddr 1 (.t 3)) .no, .mk (some 17) none (.load false 1 (.t 16)) .no, .mk (some 18) none (.mov (.t 6)) .no, .mk (some 19) none (.indexAddr 2 (.t 17) (.t 18))
  .no, .mk (some 20) none (.load true 2 (.t 19)) .no, .mk (some 21) none (.call 15 [.t 15, .t 20])
  .no, .mk (some 22) none (.buildSlice false 43 1 [.t 21]) .no, .mk (some 23) none (.append false 43 1 24 (.t 14) (.t 22))
  .no, .mk (some 5) none (.mov (.t 23)) .no]))
  (.ops
  [.mk (some 12) none (.mov (.t 6)) .no, .mk (some 13) none (.bin .add (.t 12) (.c (.one (.st (.int .i64 1)))))
  .no, .mk (some 6) none (.mov (.t 13)) .no]))))))
  (.seq
  (.ops
  [.mk (some 24) none (.load true 3 (.t 2)) .no, .mk (some 25) none (.fieldAddr 0 (.t 3)) .no, .mk (some 26) none (.load false 1 (.t 25)) .no, .mk (some 27) none (.mov (.t 5)) .no, .mk (some 28) none (.call 18 [.t 24, .t 26, .t 27])
  .no, .mk (some 4) none (.mov (.t 28)) .no])
  .ret))))
theorem tr_R_EndsIn : trCode Try.prog 29 [] (Try.f15.body.getD .skip) = some ir_R_EndsIn := by kernel_rfl
theorem ac_R_EndsIn {xs : List AV} {r : AV} (hn : xs.length ≤ 29) (h : ∀ C : Ctx, C.n = 29 → IWP Try.prog C [] ir_R_EndsIn (FinQ [.t 4] r) (AS.start xs)) : ACalls Try.prog 15 xs r :=
  acalls_of Try.func15 rfl tr_R_EndsIn rfl hn h
theorem acS_R_EndsIn {xs : List AV} {S S' : AStore} {r : AV} (hn : xs.length ≤ 29) (h : Clean S → ∀ C : Ctx, C.n = 29 → IWP Try.prog C [] ir_R_EndsIn (FinS C [.t 4] r S') (AS.startS xs S)) : ACallsS Try.prog 15 xs S r S' :=
  acallsS_of Try.func15 rfl tr_R_EndsIn rfl hn h

def ir_R_Ending : IR :=
  (.seq
  (.ops
  [.mk (some 3) none (.box 25 (.t 0)) .no, .mk (some 6) none (.mov (.c (.one (.full []))))
  .no])
  (.seq
  (.ops
  [.mk (some 12) none (.fieldAddr 0 (.t 3)) .no, .mk (some 13) none (.load false 1 (.t 12)) .no, .mk (some 14) none
  (.makeSlice 4 1 1 [.bool false] (.t 13) (.t 13)) .no, .mk (some 7) none (.mov (.t 14)) .no])
  (.seq
  (.seq
  (.ops
  [.mk (some 8) none (.mov (.c (.one (.st (.int .i64 0)))))
  .no])
  (.block 0
  (.loop
  (.seq
  (.seq
  (.ops
  [.mk (some 15) none (.mov (.t 8)) .no, .mk (some 16) none (.fieldAddr 1 (.t 3)) .no, .mk (some 17) none (.load false 1 (.t 16)) .no, .mk (some 18) none (.len false (.t 17)) .no, .mk (some 19) none (.bin .lss (.t 15) (.t 18))
  .no])
  (.cond (.t 19) .skip (.exit 0)))
  (.seq
  (.block 1
  (.seq
  (.ops
  [.mk (some 22) none (.fieldAddr 1 (.t 3)) .no, .mk (some 23) none (.load false 1 (.t 22)) .no, .mk (some 24) none (.mov (.t 8)) .no, .mk (some 25) none (.indexAddr 3 (.t 23) (.t 24))
  .no, .mk (some 26) none (.load true 3 (.t 25)) .no, .mk (some 9) none
  (.alloc 38
  [.st (.str (ByteArray.mk (#[]))), .full [], .st (.int .i64 0)])
  .no, .mk none none (.store 3 (.t 9) (.t 26))
  .no])
  (.seq
  (.seq
  (.ops
  [.mk (some 27) none (.fieldAddr 0 (.t 9)) .no, .mk (some 28) none (.load false 1 (.t 27)) .no, .mk (some 29) none (.mov (.t 1)) .no, .mk (some 30) none (.bin .neq (.t 28) (.t 29))
  .no, .mk (some 31) none (.mov (.t 30)) .no, .mk (some 32) (some (31, false)) (.fieldAddr 1 (.t 9)) .no, .mk (some 33) (some (31, false)) (.load false 1 (.t 32))
  .no, .mk (some 34) (some (31, false)) (.len false (.t 33))
  .no, .mk (some 35) (some (31, false)) (.mov (.t 2)) .no, .mk (some 36) (some (31, false)) (.len false (.t 35))
  .no, .mk (some 37) (some (31, false)) (.bin .neq (.t 34) (.t 36)) .no, .mk (some 38) none
  (.pick (.t 31) (.c (.one (.st (.bool true)))) (.t 37))
  .no])
  (.cond (.t 38) (.exit 1) .skip))
  (.seq
  (.ops
  [.mk (some 10) none (.mov (.c (.one (.st (.bool true)))))
  .no])
  (.seq
  (.seq
  (.ops
  [.mk (some 11) none (.mov (.c (.one (.st (.int .i64 0)))))
  .no])
  (.block 2
  (.loop
  (.seq
  (.seq
  (.ops
  [.mk (some 39) none (.mov (.t 11)) .no, .mk (some 40) none (.mov (.t 2)) .no, .mk (some 41) none (.len false (.t 40)) .no, .mk (some 42) none (.bin .lss (.t 39) (.t 41))
  .no])
  (.cond (.t 42) .skip (.exit 2)))
  (.seq
  (.block 3
  (.ops
  [.mk (some 45) none (.mov (.t 10)) .no, .mk (some 46) none (.mov (.t 45)) .no, .mk (some 47) (some (46, true)) (.mov (.t 2))
  .no, .mk (some 48) (some (46, true)) (.mov (.t 11))
  .no, .mk (some 49) (some (46, true))
  (.indexAddr 1 (.t 47) (.t 48)) .no, .mk (some 50) (some (46, true)) (.load false 1 (.t 49))
  .no, .mk (some 51) (some (46, true)) (.fieldAddr 1 (.t 9))
  .no, .mk (some 52) (some (46, true)) (.load false 1 (.t 51))
  .no, .mk (some 53) (some (46, true)) (.mov (.t 11))
  .no, .mk (some 54) (some (46, true))
  (.indexAddr 1 (.t 52) (.t 53)) .no, .mk (some 55) (some (46, true)) (.load false 1 (.t 54))
  .no, .mk (some 56) (some (46, true))
  (.indexAddr 1 (.t 50) (.t 55)) .no, .mk (some 57) (some (46, true)) (.load false 1 (.t 56))
  .no, .mk (some 58) none
  (.pick (.t 46) (.t 57) (.c (.one (.st (.bool false)))))
  .no, .mk (some 10) none (.mov (.t 58)) .no]))
  (.ops
  [.mk (some 43) none (.mov (.t 11)) .no, .mk (some 44) none (.bin .add (.t 43) (.c (.one (.st (.int .i64 1)))))
  .no, .mk (some 11) none (.mov (.t 44)) .no]))))))
  (.seq
  (.ops
  [.mk (some 59) none (.mov (.t 10)) .no])
  (.cond (.t 59)
  (.ops
  [.mk (some 60) none (.mov (.t 7)) .no, .mk (some 61) none (.fieldAddr 2 (.t 9)) .no, .mk (some 62) none (.load false 1 (.t 61)) .no, .mk (some 63) none (.indexAddr 1 (.t 60) (.t 62))
  .no, .mk none none (.store 1 (.t 63) (.c (.one (.st (.bool true)))))
  .no])
  .skip)))))))
  (.ops
  [.mk (some 20) none (.mov (.t 8)) .no, .mk (some 21) none (.bin .add (.t 20) (.c (.one (.st (.int .i64 1)))))
  .no, .mk (some 8) none (.mov (.t 21)) .no]))))))
  (.seq
  (.ops
  [.mk (some 64) none (.mov (.t 7)) .no, .mk (some 6) none (.mov (.t 64)) .no])
  .ret))))
theorem tr_R_Ending : trCode Try.prog 65 [] (Try.f18.body.getD .skip) = some ir_R_Ending := by kernel_rfl
theorem ac_R_Ending {xs : List AV} {r : AV} (hn : xs.length ≤ 65) (h : ∀ C : Ctx, C.n = 65 → IWP Try.prog C [] ir_R_Ending (FinQ [.t 6] r) (AS.start xs)) : ACalls Try.prog 18 xs r :=
  acalls_of Try.func18 rfl tr_R_Ending rfl hn h
theorem acS_R_Ending {xs : List AV} {S S' : AStore} {r : AV} (hn : xs.length ≤ 65) (h : Clean S → ∀ C : Ctx, C.n = 65 → IWP Try.prog C [] ir_R_Ending (FinS C [.t 6] r S') (AS.startS xs S)) : ACallsS Try.prog 18 xs S r S' :=
  acallsS_of Try.func18 rfl tr_R_Ending rfl hn h

def ir_R_Lasts : IR :=
  (.seq
  (.ops
  [.mk (some 2) none (.box 25 (.t 0)) .no, .mk (some 4) none (.mov (.c (.one (.st (.bool false)))))
  .no])
  (.seq
  (.seq
  (.ops
  [.mk (some 5) none (.mov (.c (.one (.st (.int .i64 0)))))
  .no])
  (.block 0
  (.loop
  (.seq
  (.seq
  (.ops
  [.mk (some 6) none (.mov (.t 5)) .no, .mk (some 7) none (.fieldAddr 2 (.t 2)) .no, .mk (some 8) none (.load false 1 (.t 7)) .no, .mk (some 9) none (.len false (.t 8)) .no, .mk (some 10) none (.bin .lss (.t 6) (.t 9))
  .no])
  (.cond (.t 10) .skip (.exit 0)))
  (.seq
  (.block 1
  (.seq
  (.ops
  [.mk (some 13) none (.mov (.t 1)) .no, .mk (some 14) none (.fieldAddr 2 (.t 2)) .no, .mk (some 15) none (.load false 1 (.t 14)) .no, .mk (some 16) none (.mov (.t 5)) .no, .mk (some 17) none (.indexAddr 1 (.t 15) (.t 16))
  .no, .mk (some 18) none (.load false 1 (.t 17)) .no, .mk (some 19) none (.indexAddr 1 (.t 13) (.t 18))
  .no, .mk (some 20) none (.load false 1 (.t 19)) .no])
  (.cond (.t 20)
  (.seq
  (.ops
  [.mk (some 4) none (.mov (.c (.one (.st (.bool true)))))
  .no])
  .ret)
  .skip)))
  (.ops
  [.mk (some 11) none (.mov (.t 5)) .no, .mk (some 12) none (.bin .add (.t 11) (.c (.one (.st (.int .i64 1)))))
  .no, .mk (some 5) none (.mov (.t 12)) .no]))))))
  (.seq
  (.ops
  [.mk (some 4) none (.mov (.c (.one (.st (.bool false)))))
  .no])
  .ret)))
theorem tr_R_Lasts : trCode Try.prog 21 [] (Try.f14.body.getD .skip) = some ir_R_Lasts := by kernel_rfl
theorem ac_R_Lasts {xs : List AV} {r : AV} (hn : xs.length ≤ 21) (h : ∀ C : Ctx, C.n = 21 → IWP Try.prog C [] ir_R_Lasts (FinQ [.t 4] r) (AS.start xs)) : ACalls Try.prog 14 xs r :=
  acalls_of Try.func14 rfl tr_R_Lasts rfl hn h
theorem acS_R_Lasts {xs : List AV} {S S' : AStore} {r : AV} (hn : xs.length ≤ 21) (h : Clean S → ∀ C : Ctx, C.n = 21 → IWP Try.prog C [] ir_R_Lasts (FinS C [.t 4] r S') (AS.startS xs S)) : ACallsS Try.prog 14 xs S r S' :=
  acallsS_of Try.func14 rfl tr_R_Lasts rfl hn h

def ir_R_AcceptsOf : IR :=
  (.seq
  (.ops
  [.mk (some 2) none (.box 25 (.t 0)) .no, .mk (some 3) none (.box 28 (.t 1)) .no, .mk (some 4) none (.mov (.c (.one (.st (.bool false)))))
  .no])
  (.seq
  (.ops
  [.mk (some 5) none (.load true 3 (.t 2)) .no, .mk (some 6) none (.load true 3 (.t 2)) .no, .mk (some 7) none (.load true 2 (.t 3)) .no, .mk (some 8) none (.call 15 [.t 6, .t 7]) .no, .mk (some 9) none (.call 14 [.t 5, .t 8]) .no, .mk (some 4) none (.mov (.t 9)) .no])
  .ret))
theorem tr_R_AcceptsOf : trCode Try.prog 10 [] (Try.f9.body.getD .skip) = some ir_R_AcceptsOf := by kernel_rfl
theorem ac_R_AcceptsOf {xs : List AV} {r : AV} (hn : xs.length ≤ 10) (h : ∀ C : Ctx, C.n = 10 → IWP Try.prog C [] ir_R_AcceptsOf (FinQ [.t 4] r) (AS.start xs)) : ACalls Try.prog 9 xs r :=
  acalls_of Try.func9 rfl tr_R_AcceptsOf rfl hn h
theorem acS_R_AcceptsOf {xs : List AV} {S S' : AStore} {r : AV} (hn : xs.length ≤ 10) (h : Clean S → ∀ C : Ctx, C.n = 10 → IWP Try.prog C [] ir_R_AcceptsOf (FinS C [.t 4] r S') (AS.startS xs S)) : ACallsS Try.prog 9 xs S r S' :=
  acallsS_of Try.func9 rfl tr_R_AcceptsOf rfl hn h

def ir_L_hugeAuto : IR :=
  (.seq
  (.ops
  [.mk (some 1) none (.box 25 (.t 0)) .no, .mk (some 2) none (.mov (.c (.one (.st (.bool false)))))
  .no])
  (.seq
  (.seq
  (.ops
  [.mk (some 3) none (.mov (.c (.one (.st (.int .i64 0)))))
  .no])
  (.block 0
  (.loop
  (.seq
  (.seq
  (.ops
  [.mk (some 4) none (.mov (.t 3)) .no, .mk (some 5) none (.fieldAddr 1 (.t 1)) .no, .mk (some 6) none (.load false 1 (.t 5)) .no, .mk (some 7) none (.len false (.t 6)) .no, .mk (some 8) none (.bin .lss (.t 4) (.t 7))
  .no])
  (.cond (.t 8) .skip (.exit 0)))
  (.seq
  (.block 1
  (.seq
  (.ops
  [.mk (some 11) none (.fieldAddr 1 (.t 1)) .no, .mk (some 12) none (.load false 1 (.t 11)) .no, .mk (some 13) none (.mov (.t 3)) .no, .mk (some 14) none (.indexAddr 3 (.t 12) (.t 13))
  .no, .mk (some 15) none (.fieldAddr 1 (.t 14)) .no, .mk (some 16) none (.load false 1 (.t 15)) .no, .mk (some 17) none (.len false (.t 16)) .no, .mk (some 18) none (.bin .gtr (.t 17) (.c (.one (.st (.int .i64 50)))))
  .no])
  (.cond (.t 18)
  (.seq
  (.ops
  [.mk (some 2) none (.mov (.c (.one (.st (.bool true)))))
  .no])
  .ret)
  .skip)))
  (.ops
  [.mk (some 9) none (.mov (.t 3)) .no, .mk (some 10) none (.bin .add (.t 9) (.c (.one (.st (.int .i64 1)))))
  .no, .mk (some 3) none (.mov (.t 10)) .no]))))))
  (.seq
  (.ops
  [.mk (some 19) none (.fieldAddr 1 (.t 1)) .no, .mk (some 20) none (.load false 1 (.t 19)) .no, .mk (some 21) none (.len false (.t 20)) .no, .mk (some 22) none (.bin .gtr (.t 21) (.c (.one (.st (.int .i64 100)))))
  .no, .mk (some 23) none (.mov (.t 22)) .no, .mk (some 24) (some (23, false)) (.fieldAddr 2 (.t 1)) .no, .mk (some 25) (some (23, false)) (.load false 1 (.t 24)) .no, .mk (some 26) (some (23, false)) (.len false (.t 25)) .no, .mk (some 27) (some (23, false)) (.bin .gtr (.t 26) (.c (.one (.st (.int .i64 100)))))
  .no, .mk (some 28) none
  (.pick (.t 23) (.c (.one (.st (.bool true)))) (.t 27))
  .no, .mk (some 2) none (.mov (.t 28)) .no])
  .ret)))
theorem tr_L_hugeAuto : trCode Try.prog 29 [] (Try.f4.body.getD .skip) = some ir_L_hugeAuto := by kernel_rfl
theorem ac_L_hugeAuto {xs : List AV} {r : AV} (hn : xs.length ≤ 29) (h : ∀ C : Ctx, C.n = 29 → IWP Try.prog C [] ir_L_hugeAuto (FinQ [.t 2] r) (AS.start xs)) : ACalls Try.prog 4 xs r :=
  acalls_of Try.func4 rfl tr_L_hugeAuto rfl hn h
theorem acS_L_hugeAuto {xs : List AV} {S S' : AStore} {r : AV} (hn : xs.length ≤ 29) (h : Clean S → ∀ C : Ctx, C.n = 29 → IWP Try.prog C [] ir_L_hugeAuto (FinS C [.t 2] r S') (AS.startS xs S)) : ACallsS Try.prog 4 xs S r S' :=
  acallsS_of Try.func4 rfl tr_L_hugeAuto rfl hn h

def ir_L_AutoPairs : IR :=
  (.seq
  (.ops
  [.mk (some 3) none (.box 25 (.t 0)) .no, .mk (some 4) none (.box 25 (.t 1)) .no, .mk (some 5) none (.box 28 (.t 2)) .no, .mk (some 6) none (.mov (.c (.one (.st (.bool false)))))
  .no])
  (.seq
  (.seq
  (.ops
  [.mk (some 14) none (.load true 3 (.t 3)) .no, .mk (some 15) none (.call 4 [.t 14]) .no, .mk (some 16) none (.mov (.t 15)) .no, .mk (some 17) (some (16, false)) (.load true 3 (.t 4)) .no, .mk (some 18) (some (16, false)) (.call 4 [.t 17]) .no, .mk (some 19) none
  (.pick (.t 16) (.c (.one (.st (.bool true)))) (.t 18))
  .no, .mk (some 20) none (.mov (.t 19)) .no, .mk (some 21) (some (20, false)) (.load true 2 (.t 5)) .no, .mk (some 22) (some (20, false)) (.call 5
  [.t 21, .c (.one (.st (.int .i64 100)))])
  .no, .mk (some 23) (some (20, false)) (.bin .gtr (.t 22) (.c (.one (.st (.int .i64 100)))))
  .no, .mk (some 24) none
  (.pick (.t 20) (.c (.one (.st (.bool true)))) (.t 23))
  .no])
  (.cond (.t 24)
  (.seq
  (.ops
  [.mk (some 6) none (.mov (.c (.one (.st (.bool true)))))
  .no])
  .ret)
  .skip))
  (.seq
  (.ops
  [.mk (some 25) none (.load true 3 (.t 3)) .no, .mk (some 26) none (.call 6
  [.t 25, .c (.one (.st (.int .i64 8))), .c (.one (.st (.int .i64 40)))])
  .no, .mk (some 7) none (.mov (.t 26)) .no])
  (.seq
  (.seq
  (.ops
  [.mk (some 27) none (.mov (.t 7)) .no, .mk (some 28) none (.bin .eql (.t 27) (.c (.one (.st (.int .i64 0)))))
  .no])
  (.cond (.t 28)
  (.ops
  [.mk (some 29) none (.load true 3 (.t 4)) .no, .mk (some 30) none (.call 6
  [.t 29, .c (.one (.st (.int .i64 8))), .c (.one (.st (.int .i64 40)))])
  .no, .mk (some 7) none (.mov (.t 30)) .no])
  .skip))
  (.seq
  (.ops
  [.mk (some 32) none (.load true 3 (.t 3)) .no, .mk (some 33) none (.load true 3 (.t 4)) .no, .mk (some 34) none (.call 7 [.t 32, .t 33]) .no, .mk (some 31) none (.mov (.t 34)) .no, .mk (some 35) none (.extract 0 (.t 31)) .no, .mk (some 36) none (.extract 1 (.t 31)) .no, .mk (some 8) none
  (.alloc 25 [.st (.int .i64 0), .full [], .full []])
  .no, .mk none none (.store 3 (.t 8) (.t 35)) .no, .mk (some 9) none (.mov (.t 36)) .no])
  (.seq
  (.ops
  [.mk (some 38) none (.load true 3 (.t 3)) .no, .mk (some 39) none (.load true 3 (.t 4)) .no, .mk (some 40) none (.call 8 [.t 38, .t 39]) .no, .mk (some 37) none (.mov (.t 40)) .no, .mk (some 41) none (.extract 0 (.t 37)) .no, .mk (some 42) none (.extract 1 (.t 37)) .no, .mk (some 10) none
  (.alloc 25 [.st (.int .i64 0), .full [], .full []])
  .no, .mk none none (.store 3 (.t 10) (.t 41)) .no, .mk (some 11) none (.mov (.t 42)) .no])
  (.seq
  (.seq
  (.ops
  [.mk (some 43) none (.mov (.t 9)) .no, .mk (some 44) none (.mov (.t 7)) .no, .mk (some 45) none (.bin .neq (.t 43) (.t 44))
  .no, .mk (some 46) none (.mov (.t 45)) .no, .mk (some 47) (some (46, false)) (.mov (.t 11)) .no, .mk (some 48) (some (46, false)) (.mov (.t 7)) .no, .mk (some 49) (some (46, false)) (.bin .neq (.t 47) (.t 48))
  .no, .mk (some 50) none
  (.pick (.t 46) (.c (.one (.st (.bool true)))) (.t 49))
  .no])
  (.cond (.t 50)
  (.seq
  (.ops
  [.mk (some 6) none (.mov (.c (.one (.st (.bool false)))))
  .no])
  .ret)
  .skip))
  (.seq
  (.seq
  (.ops
  [.mk (some 51) none (.mov (.t 7)) .no, .mk (some 52) none (.bin .neq (.t 51) (.c (.one (.st (.int .i64 0)))))
  .no])
  (.cond (.t 52)
  (.seq
  (.ops
  [.mk (some 53) none (.fieldAddr 0 (.t 8)) .no, .mk (some 54) none (.load false 1 (.t 53)) .no, .mk (some 55) none (.bin .eql (.t 54) (.c (.one (.st (.int .i64 0)))))
  .no, .mk (some 56) none (.mov (.t 55)) .no, .mk (some 57) (some (56, true)) (.fieldAddr 0 (.t 10)) .no, .mk (some 58) (some (56, true)) (.load false 1 (.t 57))
  .no, .mk (some 59) (some (56, true)) (.bin .eql (.t 58) (.c (.one (.st (.int .i64 0)))))
  .no, .mk (some 60) none
  (.pick (.t 56) (.t 59) (.c (.one (.st (.bool false)))))
  .no, .mk (some 61) none (.mov (.t 60)) .no, .mk (some 62) (some (61, true)) (.fieldAddr 1 (.t 8)) .no, .mk (some 63) (some (61, true)) (.load false 1 (.t 62))
  .no, .mk (some 64) (some (61, true)) (.len false (.t 63)) .no, .mk (some 65) (some (61, true)) (.fieldAddr 1 (.t 10)) .no, .mk (some 66) (some (61, true)) (.load false 1 (.t 65))
  .no, .mk (some 67) (some (61, true)) (.len false (.t 66)) .no, .mk (some 68) (some (61, true)) (.bin .add (.t 64) (.t 67)) .no, .mk (some 69) (some (61, true)) (.fieldAddr 2 (.t 8)) .no, .mk (some 70) (some (61, true)) (.load false 1 (.t 69))
  .no, .mk (some 71) (some (61, true)) (.len false (.t 70)) .no, .mk (some 72) (some (61, true)) (.bin .add (.t 68) (.t 71)) .no, .mk (some 73) (some (61, true)) (.fieldAddr 2 (.t 10)) .no, .mk (some 74) (some (61, true)) (.load false 1 (.t 73))
  .no, .mk (some 75) (some (61, true)) (.len false (.t 74)) .no, .mk (some 76) (some (61, true)) (.bin .add (.t 72) (.t 75)) .no, .mk (some 77) (some (61, true)) (.bin .eql (.t 76) (.c (.one (.st (.int .i64 0)))))
  .no, .mk (some 78) none
  (.pick (.t 61) (.t 77) (.c (.one (.st (.bool false)))))
  .no, .mk (some 6) none (.mov (.t 78)) .no])
  .ret)
  .skip))
  (.seq
  (.seq
  (.ops
  [.mk (some 79) none (.load true 3 (.t 8)) .no, .mk (some 80) none (.call 6
  [.t 79, .c (.one (.st (.int .i64 64))), .c (.one (.st (.int .i64 1600)))])
  .no, .mk (some 81) none (.bin .neq (.t 80) (.c (.one (.st (.int .i64 0)))))
  .no, .mk (some 82) none (.mov (.t 81)) .no, .mk (some 83) (some (82, false)) (.load true 3 (.t 10)) .no, .mk (some 84) (some (82, false)) (.call 6
  [.t 83, .c (.one (.st (.int .i64 64))), .c (.one (.st (.int .i64 1600)))])
  .no, .mk (some 85) (some (82, false)) (.bin .neq (.t 84) (.c (.one (.st (.int .i64 0)))))
  .no, .mk (some 86) none
  (.pick (.t 82) (.c (.one (.st (.bool true)))) (.t 85))
  .no, .mk (some 87) none (.mov (.t 86)) .no, .mk (some 88) (some (87, false)) (.fieldAddr 2 (.t 8)) .no, .mk (some 89) (some (87, false)) (.load false 1 (.t 88)) .no, .mk (some 90) (some (87, false)) (.len false (.t 89)) .no, .mk (some 91) (some (87, false)) (.bin .gtr (.t 90) (.c (.one (.st (.int .i64 100000)))))
  .no, .mk (some 92) none
  (.pick (.t 87) (.c (.one (.st (.bool true)))) (.t 91))
  .no, .mk (some 93) none (.mov (.t 92)) .no, .mk (some 94) (some (93, false)) (.fieldAddr 2 (.t 10)) .no, .mk (some 95) (some (93, false)) (.load false 1 (.t 94)) .no, .mk (some 96) (some (93, false)) (.len false (.t 95)) .no, .mk (some 97) (some (93, false)) (.bin .gtr (.t 96) (.c (.one (.st (.int .i64 100000)))))
  .no, .mk (some 98) none
  (.pick (.t 93) (.c (.one (.st (.bool true)))) (.t 97))
  .no])
  (.cond (.t 98)
  (.seq
  (.ops
  [.mk (some 6) none (.mov (.c (.one (.st (.bool false)))))
  .no])
  .ret)
  .skip))
  (.seq
  (.ops
  [.mk (some 99) none (.load true 3 (.t 3)) .no, .mk (some 100) none (.load true 2 (.t 5)) .no, .mk (some 101) none (.call 9 [.t 99, .t 100])
  .no, .mk (some 12) none (.mov (.t 101)) .no])
  (.seq
  (.ops
  [.mk (some 102) none (.load true 3 (.t 4)) .no, .mk (some 103) none (.load true 2 (.t 5)) .no, .mk (some 104) none (.call 9 [.t 102, .t 103])
  .no, .mk (some 13) none (.mov (.t 104)) .no])
  (.seq
  (.ops
  [.mk (some 105) none (.load true 3 (.t 8)) .no, .mk (some 106) none (.load true 2 (.t 5)) .no, .mk (some 107) none (.call 9 [.t 105, .t 106])
  .no, .mk (some 108) none (.mov (.t 12)) .no, .mk (some 109) none (.mov (.t 108)) .no, .mk (some 110) (some (109, true)) (.mov (.t 13)) .no, .mk (some 111) none
  (.pick (.t 109) (.t 110) (.c (.one (.st (.bool false)))))
  .no, .mk (some 112) none (.eqB false (.t 107) (.t 111))
  .no, .mk (some 113) none (.mov (.t 112)) .no, .mk (some 114) (some (113, true)) (.load true 3 (.t 10))
  .no, .mk (some 115) (some (113, true)) (.load true 2 (.t 5))
  .no, .mk (some 116) (some (113, true)) (.call 9 [.t 114, .t 115])
  .no, .mk (some 117) (some (113, true)) (.mov (.t 12)) .no, .mk (some 118) (some (113, true)) (.mov (.t 117)) .no, .mk (some 119) (some (118, false)) (.mov (.t 13)) .no, .mk (some 120) (some (113, true))
  (.pick (.t 118) (.c (.one (.st (.bool true)))) (.t 119))
  .no, .mk (some 121) (some (113, true))
  (.eqB false (.t 116) (.t 120)) .no, .mk (some 122) none
  (.pick (.t 113) (.t 121) (.c (.one (.st (.bool false)))))
  .no, .mk (some 6) none (.mov (.t 122)) .no])
  .ret))))))))))))
theorem tr_L_AutoPairs : trCode Try.prog 123 [] (Try.f3.body.getD .skip) = some ir_L_AutoPairs := by kernel_rfl
theorem ac_L_AutoPairs {xs : List AV} {r : AV} (hn : xs.length ≤ 123) (h : ∀ C : Ctx, C.n = 123 → IWP Try.prog C [] ir_L_AutoPairs (FinQ [.t 6] r) (AS.start xs)) : ACalls Try.prog 3 xs r :=
  acalls_of Try.func3 rfl tr_L_AutoPairs rfl hn h
theorem acS_L_AutoPairs {xs : List AV} {S S' : AStore} {r : AV} (hn : xs.length ≤ 123) (h : Clean S → ∀ C : Ctx, C.n = 123 → IWP Try.prog C [] ir_L_AutoPairs (FinS C [.t 6] r S') (AS.startS xs S)) : ACallsS Try.prog 3 xs S r S' :=
  acallsS_of Try.func3 rfl tr_L_AutoPairs rfl hn h

end Go.Proofs.Ytghjdcfoaackoaa
