/-
  Part 16 of the texts: IrSubst. Conditions: none.
-/
import Derived.Test.YtpajlfdhmjgpnaaPathP15
namespace Go.Proofs.Ytpajlfdhmjgpnaa
open Go Go.RowKit
set_option maxRecDepth 100000

def ir_R_For : IR :=
  (.seq
  (.ops
  [.mk (some 4) none
  (.alloc 24 [.st (.str (ByteArray.mk (#[]))), .full []]) .no, .mk (some 5) none (.mov (.c (.one (.st (.bool false)))))
  .no])
  (.seq
  (.seq
  (.ops
  [.mk (some 6) none (.mov (.c (.one (.st (.int .i64 0)))))
  .no])
  (.block 0
  (.loop
  (.seq
  (.seq
  (.ops
  [.mk (some 7) none (.mov (.t 6)) .no, .mk (some 8) none (.mov (.t 0)) .no, .mk (some 9) none (.len false (.t 8)) .no, .mk (some 10) none (.bin .lss (.t 7) (.t 9))
  .no])
  (.cond (.t 10) .skip (.exit 0)))
  (.seq
  (.block 1
  (.seq
  (.ops
  [.mk (some 13) none (.mov (.t 0)) .no, .mk (some 14) none (.mov (.t 6)) .no, .mk (some 15) none (.indexAddr 3 (.t 13) (.t 14))
  .no, .mk (some 16) none (.fieldAddr 0 (.t 15)) .no, .mk (some 17) none (.load false 1 (.t 16)) .no, .mk (some 18) none (.mov (.t 1)) .no, .mk (some 19) none (.bin .eql (.t 17) (.t 18))
  .no])
  (.cond (.t 19)
  (.seq
  (.ops
  [.mk (some 20) none (.mov (.t 0)) .no, .mk (some 21) none (.mov (.t 6)) .no, .mk (some 22) none (.indexAddr 3 (.t 20) (.t 21))
  .no, .mk (some 23) none (.fieldAddr 1 (.t 22)) .no, .mk (some 24) none (.load true 2 (.t 23)) .no, .mk none none (.store 2 (.t 4) (.t 24))
  .no, .mk (some 5) none (.mov (.c (.one (.st (.bool true)))))
  .no])
  .ret)
  .skip)))
  (.ops
  [.mk (some 11) none (.mov (.t 6)) .no, .mk (some 12) none (.bin .add (.t 11) (.c (.one (.st (.int .i64 1)))))
  .no, .mk (some 6) none (.mov (.t 12)) .no]))))))
  (.seq
  (.ops
  [.mk (some 25) none
  (.build [.st (.str (ByteArray.mk (#[]))), .full []] []) .no, .mk none none (.store 2 (.t 4) (.t 25)) .no, .mk (some 5) none (.mov (.c (.one (.st (.bool false)))))
  .no])
  .ret)))
theorem tr_R_For : trCode Try.prog 26 [] (Try.f63.body.getD .skip) = some ir_R_For := by kernel_rfl
theorem ac_R_For {xs : List AV} {r : AV} (hn : xs.length ≤ 26) (h : ∀ C : Ctx, C.n = 26 → IWP Try.prog C [] ir_R_For (FinQ [.cell 4 true 2, .t 5] r) (AS.start xs)) : ACalls Try.prog 63 xs r :=
  acalls_of Try.func63 rfl tr_R_For rfl hn h
theorem acS_R_For {xs : List AV} {S S' : AStore} {r : AV} (hn : xs.length ≤ 26) (h : Clean S → ∀ C : Ctx, C.n = 26 → IWP Try.prog C [] ir_R_For (FinS C [.cell 4 true 2, .t 5] r S') (AS.startS xs S)) : ACallsS Try.prog 63 xs S r S' :=
  acallsS_of Try.func63 rfl tr_R_For rfl hn h

def ir_R_grown : IR :=
  (.seq
  (.ops
  [.mk (some 4) none (.box 24 (.t 1)) .no, .mk (some 6) none (.mov (.c (.one (.st (.int .i64 0)))))
  .no])
  (.seq
  (.ops
  [.mk (some 12) none (.mov (.t 0)) .no, .mk (some 13) none (.fieldAddr 0 (.t 4)) .no, .mk (some 14) none (.load false 1 (.t 13)) .no, .mk (some 15) none (.call 63 [.t 12, .t 14]) .no, .mk (some 11) none (.mov (.t 15)) .no, .mk (some 16) none (.extract 0 (.t 11)) .no, .mk (some 17) none (.extract 1 (.t 11)) .no, .mk (some 7) none
  (.alloc 24 [.st (.str (ByteArray.mk (#[]))), .full []]) .no, .mk none none (.store 2 (.t 7) (.t 16)) .no, .mk (some 8) none (.mov (.t 17)) .no])
  (.seq
  (.seq
  (.ops
  [.mk (some 18) none (.mov (.t 8)) .no, .mk (some 19) none (.mov (.t 18)) .no, .mk (some 20) (some (19, true)) (.fieldAddr 1 (.t 4)) .no, .mk (some 21) (some (19, true)) (.load false 1 (.t 20)) .no, .mk (some 22) (some (19, true)) (.len false (.t 21)) .no, .mk (some 23) (some (19, true)) (.bin .eql (.t 22) (.c (.one (.st (.int .i64 0)))))
  .no, .mk (some 24) none
  (.pick (.t 19) (.t 23) (.c (.one (.st (.bool false)))))
  .no])
  (.cond (.t 24)
  (.seq
  (.ops
  [.mk (some 25) none (.load true 2 (.t 7)) .no, .mk (some 26) none (.mov (.t 2)) .no, .mk (some 27) none (.call 23 [.t 25, .t 26]) .no, .mk (some 6) none (.mov (.t 27)) .no])
  .ret)
  .skip))
  (.seq
  (.ops
  [.mk (some 9) none (.mov (.c (.one (.st (.int .i64 1)))))
  .no])
  (.seq
  (.seq
  (.ops
  [.mk (some 10) none (.mov (.c (.one (.st (.int .i64 0)))))
  .no])
  (.block 0
  (.loop
  (.seq
  (.seq
  (.ops
  [.mk (some 28) none (.mov (.t 10)) .no, .mk (some 29) none (.fieldAddr 1 (.t 4)) .no, .mk (some 30) none (.load false 1 (.t 29)) .no, .mk (some 31) none (.len false (.t 30)) .no, .mk (some 32) none (.bin .lss (.t 28) (.t 31))
  .no, .mk (some 33) none (.mov (.t 32)) .no, .mk (some 34) (some (33, true)) (.mov (.t 9)) .no, .mk (some 35) (some (33, true)) (.mov (.t 2)) .no, .mk (some 36) (some (33, true)) (.bin .leq (.t 34) (.t 35)) .no, .mk (some 37) none
  (.pick (.t 33) (.t 36) (.c (.one (.st (.bool false)))))
  .no])
  (.cond (.t 37) .skip (.exit 0)))
  (.seq
  (.block 1
  (.ops
  [.mk (some 40) none (.mov (.t 9)) .no, .mk (some 41) none (.mov (.t 0)) .no, .mk (some 42) none (.fieldAddr 1 (.t 4)) .no, .mk (some 43) none (.load false 1 (.t 42)) .no, .mk (some 44) none (.mov (.t 10)) .no, .mk (some 45) none (.indexAddr 2 (.t 43) (.t 44))
  .no, .mk (some 46) none (.load true 2 (.t 45)) .no, .mk (some 47) none (.mov (.t 2)) .no, .mk (some 48) none (.mov (.t 9)) .no, .mk (some 49) none (.bin .sub (.t 47) (.t 48))
  .no, .mk (some 50) none (.call 44 [.t 41, .t 46, .t 49]) .no, .mk (some 51) none (.bin .add (.t 40) (.t 50))
  .no, .mk (some 9) none (.mov (.t 51)) .no]))
  (.ops
  [.mk (some 38) none (.mov (.t 10)) .no, .mk (some 39) none (.bin .add (.t 38) (.c (.one (.st (.int .i64 1)))))
  .no, .mk (some 10) none (.mov (.t 39)) .no]))))))
  (.seq
  (.seq
  (.ops
  [.mk (some 52) none (.mov (.t 9)) .no, .mk (some 53) none (.mov (.t 2)) .no, .mk (some 54) none (.bin .gtr (.t 52) (.t 53))
  .no])
  (.cond (.t 54)
  (.seq
  (.ops
  [.mk (some 55) none (.mov (.t 2)) .no, .mk (some 56) none (.bin .add (.t 55) (.c (.one (.st (.int .i64 1)))))
  .no, .mk (some 6) none (.mov (.t 56)) .no])
  .ret)
  .skip))
  (.seq
  (.ops
  [.mk (some 57) none (.mov (.t 9)) .no, .mk (some 6) none (.mov (.t 57)) .no])
  .ret)))))))
theorem tr_R_grown : trCode Try.prog 58 [] (Try.f44.body.getD .skip) = some ir_R_grown := by kernel_rfl
theorem ac_R_grown {xs : List AV} {r : AV} (hn : xs.length ≤ 58) (h : ∀ C : Ctx, C.n = 58 → IWP Try.prog C [] ir_R_grown (FinQ [.t 6] r) (AS.start xs)) : ACalls Try.prog 44 xs r :=
  acalls_of Try.func44 rfl tr_R_grown rfl hn h
theorem acS_R_grown {xs : List AV} {S S' : AStore} {r : AV} (hn : xs.length ≤ 58) (h : Clean S → ∀ C : Ctx, C.n = 58 → IWP Try.prog C [] ir_R_grown (FinS C [.t 6] r S') (AS.startS xs S)) : ACallsS Try.prog 44 xs S r S' :=
  acallsS_of Try.func44 rfl tr_R_grown rfl hn h

def ir_R_on : IR :=
  (.seq
  (.ops
  [.mk (some 3) none (.box 24 (.t 1)) .no, .mk (some 4) none
  (.alloc 24 [.st (.str (ByteArray.mk (#[]))), .full []]) .no])
  (.seq
  (.ops
  [.mk (some 10) none (.mov (.t 0)) .no, .mk (some 11) none (.fieldAddr 0 (.t 3)) .no, .mk (some 12) none (.load false 1 (.t 11)) .no, .mk (some 13) none (.call 63 [.t 10, .t 12]) .no, .mk (some 9) none (.mov (.t 13)) .no, .mk (some 14) none (.extract 0 (.t 9)) .no, .mk (some 15) none (.extract 1 (.t 9)) .no, .mk (some 5) none
  (.alloc 24 [.st (.str (ByteArray.mk (#[]))), .full []]) .no, .mk none none (.store 2 (.t 5) (.t 14)) .no, .mk (some 6) none (.mov (.t 15)) .no])
  (.seq
  (.seq
  (.ops
  [.mk (some 16) none (.mov (.t 6)) .no, .mk (some 17) none (.mov (.t 16)) .no, .mk (some 18) (some (17, true)) (.fieldAddr 1 (.t 3)) .no, .mk (some 19) (some (17, true)) (.load false 1 (.t 18)) .no, .mk (some 20) (some (17, true)) (.len false (.t 19)) .no, .mk (some 21) (some (17, true)) (.bin .eql (.t 20) (.c (.one (.st (.int .i64 0)))))
  .no, .mk (some 22) none
  (.pick (.t 17) (.t 21) (.c (.one (.st (.bool false)))))
  .no])
  (.cond (.t 22)
  (.seq
  (.ops
  [.mk (some 23) none (.load true 2 (.t 5)) .no, .mk none none (.store 2 (.t 4) (.t 23)) .no])
  .ret)
  .skip))
  (.seq
  (.ops
  [.mk (some 24) none (.fieldAddr 0 (.t 3)) .no, .mk (some 25) none (.load false 1 (.t 24)) .no, .mk (some 26) none
  (.build [.st (.str (ByteArray.mk (#[]))), .full []]
  [(0, 1, .t 25)])
  .no, .mk (some 7) none
  (.alloc 24 [.st (.str (ByteArray.mk (#[]))), .full []]) .no, .mk none none (.store 2 (.t 7) (.t 26)) .no])
  (.seq
  (.seq
  (.ops
  [.mk (some 8) none (.mov (.c (.one (.st (.int .i64 0)))))
  .no])
  (.block 0
  (.loop
  (.seq
  (.seq
  (.ops
  [.mk (some 27) none (.mov (.t 8)) .no, .mk (some 28) none (.fieldAddr 1 (.t 3)) .no, .mk (some 29) none (.load false 1 (.t 28)) .no, .mk (some 30) none (.len false (.t 29)) .no, .mk (some 31) none (.bin .lss (.t 27) (.t 30))
  .no])
  (.cond (.t 31) .skip (.exit 0)))
  (.seq
  (.block 1
  (.ops
  [.mk (some 34) none (.fieldAddr 1 (.t 7)) .no, .mk (some 35) none (.load false 1 (.t 34)) .no, .mk (some 36) none (.mov (.t 0)) .no, .mk (some 37) none (.fieldAddr 1 (.t 3)) .no, .mk (some 38) none (.load false 1 (.t 37)) .no, .mk (some 39) none (.mov (.t 8)) .no, .mk (some 40) none (.indexAddr 2 (.t 38) (.t 39))
  .no, .mk (some 41) none (.load true 2 (.t 40)) .no, .mk (some 42) none (.call 45 [.t 36, .t 41])
  .no, .mk (some 43) none (.buildSlice false 24 2 [.t 42]) .no, .mk (some 44) none (.append false 24 2 40 (.t 35) (.t 43))
  .no, .mk (some 45) none (.fieldAddr 1 (.t 7)) .no, .mk none none (.store 1 (.t 45) (.t 44))
  .no]))
  (.ops
  [.mk (some 32) none (.mov (.t 8)) .no, .mk (some 33) none (.bin .add (.t 32) (.c (.one (.st (.int .i64 1)))))
  .no, .mk (some 8) none (.mov (.t 33)) .no]))))))
  (.seq
  (.ops
  [.mk (some 46) none (.load true 2 (.t 7)) .no, .mk none none (.store 2 (.t 4) (.t 46)) .no])
  .ret))))))
theorem tr_R_on : trCode Try.prog 47 [] (Try.f45.body.getD .skip) = some ir_R_on := by kernel_rfl
theorem ac_R_on {xs : List AV} {r : AV} (hn : xs.length ≤ 47) (h : ∀ C : Ctx, C.n = 47 → IWP Try.prog C [] ir_R_on (FinQ [.cell 4 true 2] r) (AS.start xs)) : ACalls Try.prog 45 xs r :=
  acalls_of Try.func45 rfl tr_R_on rfl hn h
theorem acS_R_on {xs : List AV} {S S' : AStore} {r : AV} (hn : xs.length ≤ 47) (h : Clean S → ∀ C : Ctx, C.n = 47 → IWP Try.prog C [] ir_R_on (FinS C [.cell 4 true 2] r S') (AS.startS xs S)) : ACallsS Try.prog 45 xs S r S' :=
  acallsS_of Try.func45 rfl tr_R_on rfl hn h

def ir_R_On : IR :=
  (.seq
  (.ops
  [.mk (some 3) none (.box 24 (.t 1)) .no, .mk (some 4) none
  (.alloc 24 [.st (.str (ByteArray.mk (#[]))), .full []]) .no, .mk (some 5) none (.mov (.c (.one (.st (.bool false)))))
  .no])
  (.seq
  (.seq
  (.ops
  [.mk (some 6) none (.mov (.t 0)) .no, .mk (some 7) none (.load true 2 (.t 3)) .no, .mk (some 8) none (.call 44
  [.t 6, .t 7, .c (.one (.st (.int .i64 2000)))])
  .no, .mk (some 9) none (.bin .gtr (.t 8) (.c (.one (.st (.int .i64 2000)))))
  .no])
  (.cond (.t 9)
  (.seq
  (.ops
  [.mk (some 10) none
  (.build [.st (.str (ByteArray.mk (#[]))), .full []] [])
  .no, .mk none none (.store 2 (.t 4) (.t 10)) .no, .mk (some 5) none (.mov (.c (.one (.st (.bool false)))))
  .no])
  .ret)
  .skip))
  (.seq
  (.ops
  [.mk (some 11) none (.mov (.t 0)) .no, .mk (some 12) none (.load true 2 (.t 3)) .no, .mk (some 13) none (.call 45 [.t 11, .t 12]) .no, .mk none none (.store 2 (.t 4) (.t 13)) .no, .mk (some 5) none (.mov (.c (.one (.st (.bool true)))))
  .no])
  .ret)))
theorem tr_R_On : trCode Try.prog 14 [] (Try.f21.body.getD .skip) = some ir_R_On := by kernel_rfl
theorem ac_R_On {xs : List AV} {r : AV} (hn : xs.length ≤ 14) (h : ∀ C : Ctx, C.n = 14 → IWP Try.prog C [] ir_R_On (FinQ [.cell 4 true 2, .t 5] r) (AS.start xs)) : ACalls Try.prog 21 xs r :=
  acalls_of Try.func21 rfl tr_R_On rfl hn h
theorem acS_R_On {xs : List AV} {S S' : AStore} {r : AV} (hn : xs.length ≤ 14) (h : Clean S → ∀ C : Ctx, C.n = 14 → IWP Try.prog C [] ir_R_On (FinS C [.cell 4 true 2, .t 5] r S') (AS.startS xs S)) : ACallsS Try.prog 21 xs S r S' :=
  acallsS_of Try.func21 rfl tr_R_On rfl hn h

def ir_subst_Check : IR :=
  (.seq
  (.ops
  [.mk (some 2) none (.mov (.c (.one (.st (.int .i64 0)))))
  .no])
  (.seq
  (.seq
  (.ops
  [.mk (some 6) none (.mov (.t 0)) .no, .mk (some 7) none (.len false (.t 6)) .no, .mk (some 8) none (.bin .gtr (.t 7) (.c (.one (.st (.int .i64 40)))))
  .no])
  (.cond (.t 8)
  (.seq
  (.ops
  [.mk (some 2) none (.mov (.c (.one (.st (.int .i64 3)))))
  .no])
  .ret)
  .skip))
  (.seq
  (.seq
  (.ops
  [.mk (some 9) none (.mov (.t 0)) .no, .mk (some 10) none (.len false (.t 9)) .no, .mk (some 11) none (.mov (.c (.one (.st (.int .i64 0)))))
  .no])
  (.block 0
  (.loop
  (.seq
  (.ops
  [.mk (some 12) none (.bin .lss (.t 11) (.t 10))
  .no])
  (.seq (.cond (.t 12) .skip (.exit 0))
  (.seq
  (.block 1
  (.seq
  (.ops
  [.mk (some 13) none (.mov (.t 11)) .no, .mk (some 14) none (.indexAddr 3 (.t 9) (.t 11))
  .no, .mk (some 15) none (.load true 3 (.t 14)) .no, .mk (some 4) none
  (.alloc 63
  [.st (.str (ByteArray.mk (#[]))), .st (.str (ByteArray.mk (#[]))),
  .full []])
  .no, .mk (some 3) none (.mov (.t 13)) .no, .mk none none (.store 3 (.t 4) (.t 15))
  .no])
  (.seq
  (.seq
  (.ops
  [.mk (some 16) none (.fieldAddr 0 (.t 4)) .no, .mk (some 17) none (.load false 1 (.t 16)) .no, .mk (some 18) none (.call 60 [.t 17]) .no, .mk (some 19) none (.un .not (.t 18)) .no, .mk (some 20) none (.mov (.t 19)) .no, .mk (some 21) (some (20, false)) (.fieldAddr 0 (.t 4)) .no, .mk (some 22) (some (20, false)) (.load false 1 (.t 21))
  .no, .mk (some 23) (some (20, false)) (.call 61 [.t 22]) .no, .mk (some 24) (some (20, false)) (.un .not (.t 23))
  .no, .mk (some 25) none
  (.pick (.t 20) (.c (.one (.st (.bool true)))) (.t 24))
  .no])
  (.cond (.t 25)
  (.seq
  (.ops
  [.mk (some 2) none (.mov (.c (.one (.st (.int .i64 1)))))
  .no])
  .ret)
  .skip))
  (.seq
  (.seq
  (.ops
  [.mk (some 26) none (.mov (.t 3)) .no, .mk (some 27) none (.bin .gtr (.t 26) (.c (.one (.st (.int .i64 0)))))
  .no, .mk (some 28) none (.mov (.t 27)) .no, .mk (some 29) (some (28, true)) (.fieldAddr 0 (.t 4)) .no, .mk (some 30) (some (28, true)) (.load false 1 (.t 29))
  .no, .mk (some 31) (some (28, true)) (.mov (.t 0)) .no, .mk (some 32) (some (28, true)) (.mov (.t 3)) .no, .mk (some 33) (some (28, true)) (.bin .sub (.t 32) (.c (.one (.st (.int .i64 1)))))
  .no, .mk (some 34) (some (28, true))
  (.indexAddr 3 (.t 31) (.t 33)) .no, .mk (some 35) (some (28, true)) (.fieldAddr 0 (.t 34))
  .no, .mk (some 36) (some (28, true)) (.load false 1 (.t 35))
  .no, .mk (some 37) (some (28, true)) (.bin .leq (.t 30) (.t 36)) .no, .mk (some 38) none
  (.pick (.t 28) (.t 37) (.c (.one (.st (.bool false)))))
  .no])
  (.cond (.t 38)
  (.seq
  (.ops
  [.mk (some 2) none (.mov (.c (.one (.st (.int .i64 14)))))
  .no])
  .ret)
  .skip))
  (.seq
  (.ops
  [.mk (some 39) none (.fieldAddr 1 (.t 4)) .no, .mk (some 40) none (.load true 2 (.t 39)) .no, .mk (some 41) none (.call 48 [.t 40]) .no, .mk (some 5) none (.mov (.t 41)) .no])
  (.seq
  (.ops
  [.mk (some 42) none (.mov (.t 5)) .no, .mk (some 43) none (.bin .neq (.t 42) (.c (.one (.st (.int .i64 0)))))
  .no])
  (.cond (.t 43)
  (.seq
  (.ops
  [.mk (some 44) none (.mov (.t 5)) .no, .mk (some 2) none (.mov (.t 44)) .no])
  .ret)
  .skip)))))))
  (.ops
  [.mk (some 45) none (.bin .add (.t 11) (.c (.one (.st (.int .i64 1)))))
  .no, .mk (some 11) none (.mov (.t 45)) .no])))))))
  (.seq
  (.ops
  [.mk (some 2) none (.mov (.c (.one (.st (.int .i64 0)))))
  .no])
  .ret))))
theorem tr_subst_Check : trCode Try.prog 46 [] (Try.f47.body.getD .skip) = some ir_subst_Check := by kernel_rfl
theorem ac_subst_Check {xs : List AV} {r : AV} (hn : xs.length ≤ 46) (h : ∀ C : Ctx, C.n = 46 → IWP Try.prog C [] ir_subst_Check (FinQ [.t 2] r) (AS.start xs)) : ACalls Try.prog 47 xs r :=
  acalls_of Try.func47 rfl tr_subst_Check rfl hn h
theorem acS_subst_Check {xs : List AV} {S S' : AStore} {r : AV} (hn : xs.length ≤ 46) (h : Clean S → ∀ C : Ctx, C.n = 46 → IWP Try.prog C [] ir_subst_Check (FinS C [.t 2] r S') (AS.startS xs S)) : ACallsS Try.prog 47 xs S r S' :=
  acallsS_of Try.func47 rfl tr_subst_Check rfl hn h

def ir_cmp_isNaN_string : IR :=
  (.seq
  (.ops
  [.mk (some 2) none (.mov (.c (.one (.st (.bool false)))))
  .no])
  (.seq
  (.ops
  [.mk (some 3) none (.mov (.t 0)) .no, .mk (some 4) none (.mov (.t 0)) .no, .mk (some 5) none (.bin .neq (.t 3) (.t 4)) .no, .mk (some 2) none (.mov (.t 5)) .no])
  .ret))
theorem tr_cmp_isNaN_string : trCode Try.prog 6 [] (Try.f89.body.getD .skip) = some ir_cmp_isNaN_string := by kernel_rfl
theorem ac_cmp_isNaN_string {xs : List AV} {r : AV} (hn : xs.length ≤ 6) (h : ∀ C : Ctx, C.n = 6 → IWP Try.prog C [] ir_cmp_isNaN_string (FinQ [.t 2] r) (AS.start xs)) : ACalls Try.prog 89 xs r :=
  acalls_of Try.func89 rfl tr_cmp_isNaN_string rfl hn h
theorem acS_cmp_isNaN_string {xs : List AV} {S S' : AStore} {r : AV} (hn : xs.length ≤ 6) (h : Clean S → ∀ C : Ctx, C.n = 6 → IWP Try.prog C [] ir_cmp_isNaN_string (FinS C [.t 2] r S') (AS.startS xs S)) : ACallsS Try.prog 89 xs S r S' :=
  acallsS_of Try.func89 rfl tr_cmp_isNaN_string rfl hn h

def ir_cmp_Compare_string : IR :=
  (.seq
  (.ops
  [.mk (some 4) none (.mov (.c (.one (.st (.int .i64 0)))))
  .no])
  (.seq
  (.ops
  [.mk (some 7) none (.mov (.t 0)) .no, .mk (some 8) none (.call 89 [.t 7]) .no, .mk (some 5) none (.mov (.t 8)) .no])
  (.seq
  (.ops
  [.mk (some 9) none (.mov (.t 1)) .no, .mk (some 10) none (.call 89 [.t 9]) .no, .mk (some 6) none (.mov (.t 10)) .no])
  (.seq
  (.seq
  (.ops [.mk (some 11) none (.mov (.t 5)) .no])
  (.cond (.t 11)
  (.seq
  (.seq
  (.ops [.mk (some 12) none (.mov (.t 6)) .no])
  (.cond (.t 12)
  (.seq
  (.ops
  [.mk (some 4) none (.mov (.c (.one (.st (.int .i64 0)))))
  .no])
  .ret)
  .skip))
  (.seq
  (.ops
  [.mk (some 4) none (.mov (.c (.one (.st (.int .i64 (-1))))))
  .no])
  .ret))
  .skip))
  (.seq
  (.seq
  (.ops [.mk (some 13) none (.mov (.t 6)) .no])
  (.cond (.t 13)
  (.seq
  (.ops
  [.mk (some 4) none (.mov (.c (.one (.st (.int .i64 1)))))
  .no])
  .ret)
  .skip))
  (.seq
  (.seq
  (.ops
  [.mk (some 14) none (.mov (.t 0)) .no, .mk (some 15) none (.mov (.t 1)) .no, .mk (some 16) none (.bin .lss (.t 14) (.t 15))
  .no])
  (.cond (.t 16)
  (.seq
  (.ops
  [.mk (some 4) none (.mov (.c (.one (.st (.int .i64 (-1))))))
  .no])
  .ret)
  .skip))
  (.seq
  (.seq
  (.ops
  [.mk (some 17) none (.mov (.t 0)) .no, .mk (some 18) none (.mov (.t 1)) .no, .mk (some 19) none (.bin .gtr (.t 17) (.t 18))
  .no])
  (.cond (.t 19)
  (.seq
  (.ops
  [.mk (some 4) none (.mov (.c (.one (.st (.int .i64 1)))))
  .no])
  .ret)
  .skip))
  (.seq
  (.ops
  [.mk (some 4) none (.mov (.c (.one (.st (.int .i64 0)))))
  .no])
  .ret))))))))
theorem tr_cmp_Compare_string : trCode Try.prog 20 [] (Try.f81.body.getD .skip) = some ir_cmp_Compare_string := by kernel_rfl
theorem ac_cmp_Compare_string {xs : List AV} {r : AV} (hn : xs.length ≤ 20) (h : ∀ C : Ctx, C.n = 20 → IWP Try.prog C [] ir_cmp_Compare_string (FinQ [.t 4] r) (AS.start xs)) : ACalls Try.prog 81 xs r :=
  acalls_of Try.func81 rfl tr_cmp_Compare_string rfl hn h
theorem acS_cmp_Compare_string {xs : List AV} {S S' : AStore} {r : AV} (hn : xs.length ≤ 20) (h : Clean S → ∀ C : Ctx, C.n = 20 → IWP Try.prog C [] ir_cmp_Compare_string (FinS C [.t 4] r S') (AS.startS xs S)) : ACallsS Try.prog 81 xs S r S' :=
  acallsS_of Try.func81 rfl tr_cmp_Compare_string rfl hn h

def ir_subst_Find_1 : IR :=
  (.seq
  (.ops
  [.mk (some 2) none (.box 63 (.t 0)) .no, .mk (some 4) none (.mov (.c (.one (.st (.int .i64 0)))))
  .no])
  (.seq
  (.ops
  [.mk (some 5) none (.fieldAddr 0 (.t 2)) .no, .mk (some 6) none (.load false 1 (.t 5)) .no, .mk (some 7) none (.mov (.t 1)) .no, .mk (some 8) none (.call 81 [.t 6, .t 7]) .no, .mk (some 4) none (.mov (.t 8)) .no])
  .ret))
theorem tr_subst_Find_1 : trCode Try.prog 9 [] (Try.f91.body.getD .skip) = some ir_subst_Find_1 := by kernel_rfl
theorem ac_subst_Find_1 {xs : List AV} {r : AV} (hn : xs.length ≤ 9) (h : ∀ C : Ctx, C.n = 9 → IWP Try.prog C [] ir_subst_Find_1 (FinQ [.t 4] r) (AS.start xs)) : ACalls Try.prog 91 xs r :=
  acalls_of Try.func91 rfl tr_subst_Find_1 rfl hn h
theorem acS_subst_Find_1 {xs : List AV} {S S' : AStore} {r : AV} (hn : xs.length ≤ 9) (h : Clean S → ∀ C : Ctx, C.n = 9 → IWP Try.prog C [] ir_subst_Find_1 (FinS C [.t 4] r S') (AS.startS xs S)) : ACallsS Try.prog 91 xs S r S' :=
  acallsS_of Try.func91 rfl tr_subst_Find_1 rfl hn h

def ir_slices_BinarySearchFunc_metaprune_api_Bind_metaprune_api_Bind_string : IR :=
  (.seq
  (.ops
  [.mk (some 6) none (.mov (.c (.one (.st (.int .i64 0)))))
  .no, .mk (some 7) none (.mov (.c (.one (.st (.bool false)))))
  .no])
  (.seq
  (.ops
  [.mk (some 12) none (.mov (.t 0)) .no, .mk (some 13) none (.len false (.t 12)) .no, .mk (some 8) none (.mov (.t 13)) .no])
  (.seq
  (.ops
  [.mk (some 14) none (.mov (.t 8)) .no, .mk (some 9) none (.mov (.c (.one (.st (.int .i64 0)))))
  .no, .mk (some 10) none (.mov (.t 14)) .no])
  (.seq
  (.block 0
  (.loop
  (.seq
  (.seq
  (.ops
  [.mk (some 15) none (.mov (.t 9)) .no, .mk (some 16) none (.mov (.t 10)) .no, .mk (some 17) none (.bin .lss (.t 15) (.t 16))
  .no])
  (.cond (.t 17) .skip (.exit 0)))
  (.block 1
  (.seq
  (.ops
  [.mk (some 18) none (.mov (.t 9)) .no, .mk (some 19) none (.mov (.t 10)) .no, .mk (some 20) none (.bin .add (.t 18) (.t 19))
  .no, .mk (some 21) none (.conv .u64 (.t 20)) .no, .mk (some 22) none (.bin .shr (.t 21) (.c (.one (.st (.int .u64 1)))))
  .no, .mk (some 23) none (.conv .i64 (.t 22)) .no, .mk (some 11) none (.mov (.t 23)) .no])
  (.seq
  (.ops
  [.mk (some 24) none (.mov (.t 2)) .no, .mk (some 25) none (.mov (.t 0)) .no, .mk (some 26) none (.mov (.t 11)) .no, .mk (some 27) none (.indexAddr 3 (.t 25) (.t 26))
  .no, .mk (some 28) none (.load true 3 (.t 27)) .no, .mk (some 29) none (.mov (.t 1)) .no, .mk (some 30) none
  (.callV (.t 24) [.t 28, .t 29]) .no, .mk (some 31) none (.bin .lss (.t 30) (.c (.one (.st (.int .i64 0)))))
  .no])
  (.cond (.t 31)
  (.ops
  [.mk (some 32) none (.mov (.t 11)) .no, .mk (some 33) none (.bin .add (.t 32) (.c (.one (.st (.int .i64 1)))))
  .no, .mk (some 9) none (.mov (.t 33)) .no])
  (.ops
  [.mk (some 34) none (.mov (.t 11)) .no, .mk (some 10) none (.mov (.t 34)) .no]))))))))
  (.seq
  (.ops
  [.mk (some 35) none (.mov (.t 9)) .no, .mk (some 36) none (.mov (.t 9)) .no, .mk (some 37) none (.mov (.t 8)) .no, .mk (some 38) none (.bin .lss (.t 36) (.t 37))
  .no, .mk (some 39) none (.mov (.t 38)) .no, .mk (some 40) (some (39, true)) (.mov (.t 2)) .no, .mk (some 41) (some (39, true)) (.mov (.t 0)) .no, .mk (some 42) (some (39, true)) (.mov (.t 9)) .no, .mk (some 43) (some (39, true)) (.indexAddr 3 (.t 41) (.t 42))
  .no, .mk (some 44) (some (39, true)) (.load true 3 (.t 43)) .no, .mk (some 45) (some (39, true)) (.mov (.t 1)) .no, .mk (some 46) (some (39, true))
  (.callV (.t 40) [.t 44, .t 45]) .no, .mk (some 47) (some (39, true)) (.bin .eql (.t 46) (.c (.one (.st (.int .i64 0)))))
  .no, .mk (some 48) none
  (.pick (.t 39) (.t 47) (.c (.one (.st (.bool false)))))
  .no, .mk (some 6) none (.mov (.t 35)) .no, .mk (some 7) none (.mov (.t 48)) .no])
  .ret)))))
theorem tr_slices_BinarySearchFunc_metaprune_api_Bind_metaprune_api_Bind_string : trCode Try.prog 49 [] (Try.f90.body.getD .skip) = some ir_slices_BinarySearchFunc_metaprune_api_Bind_metaprune_api_Bind_string := by kernel_rfl
theorem ac_slices_BinarySearchFunc_metaprune_api_Bind_metaprune_api_Bind_string {xs : List AV} {r : AV} (hn : xs.length ≤ 49) (h : ∀ C : Ctx, C.n = 49 → IWP Try.prog C [] ir_slices_BinarySearchFunc_metaprune_api_Bind_metaprune_api_Bind_string (FinQ [.t 6, .t 7] r) (AS.start xs)) : ACalls Try.prog 90 xs r :=
  acalls_of Try.func90 rfl tr_slices_BinarySearchFunc_metaprune_api_Bind_metaprune_api_Bind_string rfl hn h
theorem acS_slices_BinarySearchFunc_metaprune_api_Bind_metaprune_api_Bind_string {xs : List AV} {S S' : AStore} {r : AV} (hn : xs.length ≤ 49) (h : Clean S → ∀ C : Ctx, C.n = 49 → IWP Try.prog C [] ir_slices_BinarySearchFunc_metaprune_api_Bind_metaprune_api_Bind_string (FinS C [.t 6, .t 7] r S') (AS.startS xs S)) : ACallsS Try.prog 90 xs S r S' :=
  acallsS_of Try.func90 rfl tr_slices_BinarySearchFunc_metaprune_api_Bind_metaprune_api_Bind_string rfl hn h

def ir_subst_Find : IR :=
  (.seq
  (.ops
  [.mk (some 4) none
  (.alloc 24 [.st (.str (ByteArray.mk (#[]))), .full []]) .no, .mk (some 5) none (.mov (.c (.one (.st (.bool false)))))
  .no])
  (.seq
  (.ops
  [.mk (some 9) none (.mov (.t 0)) .no, .mk (some 10) none (.mov (.t 1)) .no, .mk (some 11) none (.call 90
  [.t 9, .t 10, .c (.one (.fn 91 []))])
  .no, .mk (some 8) none (.mov (.t 11)) .no, .mk (some 12) none (.extract 0 (.t 8)) .no, .mk (some 13) none (.extract 1 (.t 8)) .no, .mk (some 6) none (.mov (.t 12)) .no, .mk (some 7) none (.mov (.t 13)) .no])
  (.seq
  (.seq
  (.ops
  [.mk (some 14) none (.mov (.t 7)) .no, .mk (some 15) none (.un .not (.t 14)) .no])
  (.cond (.t 15)
  (.seq
  (.ops
  [.mk (some 16) none
  (.build [.st (.str (ByteArray.mk (#[]))), .full []] [])
  .no, .mk none none (.store 2 (.t 4) (.t 16)) .no, .mk (some 5) none (.mov (.c (.one (.st (.bool false)))))
  .no])
  .ret)
  .skip))
  (.seq
  (.ops
  [.mk (some 17) none (.mov (.t 0)) .no, .mk (some 18) none (.mov (.t 6)) .no, .mk (some 19) none (.indexAddr 3 (.t 17) (.t 18))
  .no, .mk (some 20) none (.fieldAddr 1 (.t 19)) .no, .mk (some 21) none (.load true 2 (.t 20)) .no, .mk none none (.store 2 (.t 4) (.t 21)) .no, .mk (some 5) none (.mov (.c (.one (.st (.bool true)))))
  .no])
  .ret))))
theorem tr_subst_Find : trCode Try.prog 22 [] (Try.f82.body.getD .skip) = some ir_subst_Find := by kernel_rfl
theorem ac_subst_Find {xs : List AV} {r : AV} (hn : xs.length ≤ 22) (h : ∀ C : Ctx, C.n = 22 → IWP Try.prog C [] ir_subst_Find (FinQ [.cell 4 true 2, .t 5] r) (AS.start xs)) : ACalls Try.prog 82 xs r :=
  acalls_of Try.func82 rfl tr_subst_Find rfl hn h
theorem acS_subst_Find {xs : List AV} {S S' : AStore} {r : AV} (hn : xs.length ≤ 22) (h : Clean S → ∀ C : Ctx, C.n = 22 → IWP Try.prog C [] ir_subst_Find (FinS C [.cell 4 true 2, .t 5] r S') (AS.startS xs S)) : ACallsS Try.prog 82 xs S r S' :=
  acallsS_of Try.func82 rfl tr_subst_Find rfl hn h

def ir_metaprune_subst_maker_copy : IR :=
  (.seq
  (.ops
  [.mk (some 4) none (.box 24 (.t 1)) .no, .mk (some 6) none
  (.alloc 24 [.st (.str (ByteArray.mk (#[]))), .full []]) .no])
  (.seq
  (.seq
  (.ops [.mk (some 12) none (.mov (.t 2)) .no])
  (.cond (.t 12)
  (.seq
  (.ops
  [.mk (some 14) none (.mov (.t 0)) .no, .mk (some 15) none (.nilCheck (.t 14)) .no, .mk (some 16) none (.fieldAddr 0 (.t 15)) .no, .mk (some 17) none (.load false 1 (.t 16)) .no, .mk (some 18) none (.fieldAddr 0 (.t 4)) .no, .mk (some 19) none (.load false 1 (.t 18)) .no, .mk (some 20) none (.call 82 [.t 17, .t 19]) .no, .mk (some 13) none (.mov (.t 20)) .no, .mk (some 21) none (.extract 0 (.t 13)) .no, .mk (some 22) none (.extract 1 (.t 13)) .no, .mk (some 7) none
  (.alloc 24 [.st (.str (ByteArray.mk (#[]))), .full []])
  .no, .mk none none (.store 2 (.t 7) (.t 21)) .no, .mk (some 8) none (.mov (.t 22)) .no])
  (.seq
  (.ops [.mk (some 23) none (.mov (.t 8)) .no])
  (.cond (.t 23)
  (.seq
  (.ops
  [.mk (some 24) none (.mov (.t 0)) .no, .mk (some 25) none (.load true 2 (.t 7)) .no, .mk (some 26) none
  (.callS 69
  [.t 24, .t 25, .c (.one (.st (.bool false)))])
  .no, .mk none none (.store 2 (.t 6) (.t 26)) .no])
  .ret)
  .skip)))
  .skip))
  (.seq
  (.seq
  (.ops
  [.mk (some 27) none (.mov (.t 0)) .no, .mk (some 28) none (.nilCheck (.t 27)) .no, .mk (some 29) none (.fieldAddr 1 (.t 28)) .no, .mk (some 30) none (.load false 1 (.t 29)) .no, .mk (some 31) none (.bin .sub (.t 30) (.c (.one (.st (.int .i64 1)))))
  .no, .mk (some 32) none (.nilCheck (.t 27)) .no, .mk (some 33) none (.fieldAddr 1 (.t 32)) .no, .mk none none (.store 1 (.t 33) (.t 31)) .no])
  (.seq
  (.ops
  [.mk (some 34) none (.mov (.t 0)) .no, .mk (some 35) none (.nilCheck (.t 34)) .no, .mk (some 36) none (.fieldAddr 1 (.t 35)) .no, .mk (some 37) none (.load false 1 (.t 36)) .no, .mk (some 38) none (.bin .lss (.t 37) (.c (.one (.st (.int .i64 0)))))
  .no])
  (.cond (.t 38)
  (.seq
  (.ops
  [.mk (some 39) none
  (.build [.st (.str (ByteArray.mk (#[]))), .full []] [])
  .no, .mk none none (.store 2 (.t 6) (.t 39)) .no])
  .ret)
  .skip)))
  (.seq
  (.ops
  [.mk (some 40) none (.fieldAddr 0 (.t 4)) .no, .mk (some 41) none (.load false 1 (.t 40)) .no, .mk (some 42) none
  (.build [.st (.str (ByteArray.mk (#[]))), .full []]
  [(0, 1, .t 41)])
  .no, .mk (some 9) none
  (.alloc 24 [.st (.str (ByteArray.mk (#[]))), .full []]) .no, .mk none none (.store 2 (.t 9) (.t 42)) .no])
  (.seq
  (.seq
  (.ops
  [.mk (some 43) none (.fieldAddr 1 (.t 4)) .no, .mk (some 44) none (.load false 1 (.t 43)) .no, .mk (some 45) none (.len false (.t 44)) .no, .mk (some 46) none (.mov (.c (.one (.st (.int .i64 0)))))
  .no])
  (.block 0
  (.loop
  (.seq
  (.ops
  [.mk (some 47) none (.bin .lss (.t 46) (.t 45))
  .no])
  (.seq (.cond (.t 47) .skip (.exit 0))
  (.seq
  (.block 1
  (.seq
  (.ops
  [.mk (some 48) none (.indexAddr 2 (.t 44) (.t 46))
  .no, .mk (some 49) none (.load true 2 (.t 48)) .no, .mk (some 11) none
  (.alloc 24 [.st (.str (ByteArray.mk (#[]))), .full []])
  .no, .mk none none (.store 2 (.t 11) (.t 49))
  .no])
  (.seq
  (.ops
  [.mk (some 50) none (.fieldAddr 1 (.t 9)) (.onb 9), .mk (some 51) none (.load false 1 (.t 50)) (.onb 9), .mk (some 52) none (.mov (.t 0)) .no, .mk (some 53) none (.load true 2 (.t 11)) .no, .mk (some 54) none (.mov (.t 2)) .no, .mk (some 55) none
  (.callS 69 [.t 52, .t 53, .t 54])
  (.keeps [9, 9]), .mk (some 56) none (.buildSlice false 24 2 [.t 55]) .no, .mk (some 57) none (.append false 24 2 40 (.t 51) (.t 56))
  .no, .mk (some 58) none (.fieldAddr 1 (.t 9)) .no, .mk none none (.store 1 (.t 58) (.t 57))
  .no])
  (.seq
  (.ops
  [.mk (some 59) none (.mov (.t 0)) .no, .mk (some 60) none (.nilCheck (.t 59)) .no, .mk (some 61) none (.fieldAddr 1 (.t 60)) .no, .mk (some 62) none (.load false 1 (.t 61)) .no, .mk (some 63) none (.bin .lss (.t 62) (.c (.one (.st (.int .i64 0)))))
  .no])
  (.cond (.t 63)
  (.seq
  (.ops
  [.mk (some 64) none
  (.build [.st (.str (ByteArray.mk (#[]))), .full []] [])
  .no, .mk none none (.store 2 (.t 6) (.t 64))
  .no])
  .ret)
  .skip)))))
  (.ops
  [.mk (some 65) none (.bin .add (.t 46) (.c (.one (.st (.int .i64 1)))))
  .no, .mk (some 46) none (.mov (.t 65)) .no])))))))
  (.seq
  (.ops
  [.mk (some 66) none (.load true 2 (.t 9)) .no, .mk none none (.store 2 (.t 6) (.t 66)) .no])
  .ret))))))
theorem tr_metaprune_subst_maker_copy : trCode Try.prog 67 [26, 55] (Try.f69.body.getD .skip) = some ir_metaprune_subst_maker_copy := by kernel_rfl
theorem ac_metaprune_subst_maker_copy {xs : List AV} {r : AV} (hn : xs.length ≤ 67) (h : ∀ C : Ctx, C.n = 67 → IWP Try.prog C [26, 55] ir_metaprune_subst_maker_copy (FinQ [.cell 6 true 2] r) (AS.start xs)) : ACalls Try.prog 69 xs r :=
  acalls_of Try.func69 rfl tr_metaprune_subst_maker_copy rfl hn h
theorem acS_metaprune_subst_maker_copy {xs : List AV} {S S' : AStore} {r : AV} (hn : xs.length ≤ 67) (h : Clean S → ∀ C : Ctx, C.n = 67 → IWP Try.prog C [26, 55] ir_metaprune_subst_maker_copy (FinS C [.cell 6 true 2] r S') (AS.startS xs S)) : ACallsS Try.prog 69 xs S r S' :=
  acallsS_of Try.func69 rfl tr_metaprune_subst_maker_copy rfl hn h

def ir_subst_On : IR :=
  (.seq
  (.ops
  [.mk (some 3) none (.box 24 (.t 1)) .no, .mk (some 4) none
  (.alloc 24 [.st (.str (ByteArray.mk (#[]))), .full []]) .no, .mk (some 5) none (.mov (.c (.one (.st (.bool false)))))
  .no])
  (.seq
  (.ops
  [.mk (some 8) none (.mov (.t 0)) .no, .mk (some 9) none
  (.build [.full [], .st (.int .i64 0)]
  [(0, 1, .t 8), (1, 1, .c (.one (.st (.int .i64 2000))))])
  .no, .mk (some 10) none (.box 85 (.t 9)) .no, .mk (some 6) none (.mov (.t 10)) .no])
  (.seq
  (.ops
  [.mk (some 11) none (.mov (.t 6)) .no, .mk (some 12) none (.load true 2 (.t 3)) .no, .mk (some 13) none
  (.callS 69
  [.t 11, .t 12, .c (.one (.st (.bool true)))])
  .no, .mk (some 7) none
  (.alloc 24 [.st (.str (ByteArray.mk (#[]))), .full []]) .no, .mk none none (.store 2 (.t 7) (.t 13)) .no])
  (.seq
  (.ops
  [.mk (some 14) none (.load true 2 (.t 7)) .no, .mk (some 15) none (.mov (.t 6)) .no, .mk (some 16) none (.nilCheck (.t 15)) (.onb 10), .mk (some 17) none (.fieldAddr 1 (.t 16)) (.onb 10), .mk (some 18) none (.load false 1 (.t 17)) (.onb 10), .mk (some 19) none (.bin .geq (.t 18) (.c (.one (.st (.int .i64 0)))))
  .no, .mk none none (.store 2 (.t 4) (.t 14)) (.onb 4), .mk (some 5) none (.mov (.t 19)) .no])
  .ret))))
theorem tr_subst_On : trCode Try.prog 20 [13, 10060010] (Try.f49.body.getD .skip) = some ir_subst_On := by kernel_rfl
theorem ac_subst_On {xs : List AV} {r : AV} (hn : xs.length ≤ 20) (h : ∀ C : Ctx, C.n = 20 → IWP Try.prog C [13, 10060010] ir_subst_On (FinQ [.cell 4 true 2, .t 5] r) (AS.start xs)) : ACalls Try.prog 49 xs r :=
  acalls_of Try.func49 rfl tr_subst_On rfl hn h
theorem acS_subst_On {xs : List AV} {S S' : AStore} {r : AV} (hn : xs.length ≤ 20) (h : Clean S → ∀ C : Ctx, C.n = 20 → IWP Try.prog C [13, 10060010] ir_subst_On (FinS C [.cell 4 true 2, .t 5] r S') (AS.startS xs S)) : ACallsS Try.prog 49 xs S r S' :=
  acallsS_of Try.func49 rfl tr_subst_On rfl hn h

def ir_subst_Apply : IR :=
  (.seq
  (.ops
  [.mk (some 3) none (.box 24 (.t 1)) .no, .mk (some 4) none
  (.alloc 24 [.st (.str (ByteArray.mk (#[]))), .full []]) .no, .mk (some 5) none (.mov (.c (.one (.st (.int .i64 0)))))
  .no])
  (.seq
  (.ops
  [.mk (some 9) none (.mov (.t 0)) .no, .mk (some 10) none (.call 47 [.t 9]) .no, .mk (some 6) none (.mov (.t 10)) .no])
  (.seq
  (.seq
  (.ops
  [.mk (some 11) none (.mov (.t 6)) .no, .mk (some 12) none (.bin .eql (.t 11) (.c (.one (.st (.int .i64 0)))))
  .no])
  (.cond (.t 12)
  (.ops
  [.mk (some 13) none (.load true 2 (.t 3)) .no, .mk (some 14) none (.call 48 [.t 13]) .no, .mk (some 6) none (.mov (.t 14)) .no])
  .skip))
  (.seq
  (.seq
  (.ops
  [.mk (some 15) none (.mov (.t 6)) .no, .mk (some 16) none (.bin .neq (.t 15) (.c (.one (.st (.int .i64 0)))))
  .no])
  (.cond (.t 16)
  (.seq
  (.ops
  [.mk (some 17) none
  (.build [.st (.str (ByteArray.mk (#[]))), .full []] [])
  .no, .mk (some 18) none (.mov (.t 6)) .no, .mk none none (.store 2 (.t 4) (.t 17)) .no, .mk (some 5) none (.mov (.t 18)) .no])
  .ret)
  .skip))
  (.seq
  (.ops
  [.mk (some 20) none (.mov (.t 0)) .no, .mk (some 21) none (.load true 2 (.t 3)) .no, .mk (some 22) none (.call 49 [.t 20, .t 21]) .no, .mk (some 19) none (.mov (.t 22)) .no, .mk (some 23) none (.extract 0 (.t 19)) .no, .mk (some 24) none (.extract 1 (.t 19)) .no, .mk (some 7) none
  (.alloc 24 [.st (.str (ByteArray.mk (#[]))), .full []])
  .no, .mk none none (.store 2 (.t 7) (.t 23)) .no, .mk (some 8) none (.mov (.t 24)) .no])
  (.seq
  (.seq
  (.ops
  [.mk (some 25) none (.mov (.t 8)) .no, .mk (some 26) none (.un .not (.t 25)) .no])
  (.cond (.t 26)
  (.seq
  (.ops
  [.mk (some 27) none
  (.build [.st (.str (ByteArray.mk (#[]))), .full []] [])
  .no, .mk none none (.store 2 (.t 4) (.t 27))
  .no, .mk (some 5) none (.mov (.c (.one (.st (.int .i64 8)))))
  .no])
  .ret)
  .skip))
  (.seq
  (.ops
  [.mk (some 28) none (.load true 2 (.t 7)) .no, .mk none none (.store 2 (.t 4) (.t 28)) .no, .mk (some 5) none (.mov (.c (.one (.st (.int .i64 0)))))
  .no])
  .ret)))))))
theorem tr_subst_Apply : trCode Try.prog 29 [] (Try.f24.body.getD .skip) = some ir_subst_Apply := by kernel_rfl
theorem ac_subst_Apply {xs : List AV} {r : AV} (hn : xs.length ≤ 29) (h : ∀ C : Ctx, C.n = 29 → IWP Try.prog C [] ir_subst_Apply (FinQ [.cell 4 true 2, .t 5] r) (AS.start xs)) : ACalls Try.prog 24 xs r :=
  acalls_of Try.func24 rfl tr_subst_Apply rfl hn h
theorem acS_subst_Apply {xs : List AV} {S S' : AStore} {r : AV} (hn : xs.length ≤ 29) (h : Clean S → ∀ C : Ctx, C.n = 29 → IWP Try.prog C [] ir_subst_Apply (FinS C [.cell 4 true 2, .t 5] r S') (AS.startS xs S)) : ACallsS Try.prog 24 xs S r S' :=
  acallsS_of Try.func24 rfl tr_subst_Apply rfl hn h

end Go.Proofs.Ytpajlfdhmjgpnaa
