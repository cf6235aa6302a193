/-
  The program's functions in abstract operations: written by a program of mine out of the translation; each is shown to be the translation's.
  Conditions: none.
-/
import Derived.Test.YteleofnflfofkaaDoorPLam
namespace Go.Proofs.YteleofnflfofkaaDoor
open Go Go.RowKit
set_option maxRecDepth 100000

def ir_lambda_within : IR :=
  (.seq
  (.ops
  [.mk (some 2) none (.box 24 (.t 0)) .no, .mk (some 4) none (.mov (.c (.one (.st (.int .i64 0)))))
  .no])
  (.seq
  (.ops
  [.mk (some 7) none (.mov (.t 1)) .no, .mk (some 8) none (.bin .sub (.t 7) (.c (.one (.st (.int .i64 1)))))
  .no, .mk (some 1) none (.mov (.t 8)) .no])
  (.seq
  (.seq
  (.ops
  [.mk (some 9) none (.fieldAddr 2 (.t 2)) .no, .mk (some 10) none (.load false 1 (.t 9)) .no, .mk (some 11) none (.len false (.t 10)) .no, .mk (some 12) none (.mov (.c (.one (.st (.int .i64 0)))))
  .no])
  (.block 0
  (.loop
  (.seq
  (.ops
  [.mk (some 13) none (.bin .lss (.t 12) (.t 11))
  .no])
  (.seq (.cond (.t 13) .skip (.exit 0))
  (.seq
  (.block 1
  (.seq
  (.ops
  [.mk (some 14) none (.indexAddr 3 (.t 10) (.t 12))
  .no, .mk (some 15) none (.load true 3 (.t 14)) .no, .mk (some 6) none
  (.alloc 24
  [.st (.int .i64 0), .st (.int .i64 0),
  .full []])
  .no, .mk none none (.store 3 (.t 6) (.t 15))
  .no])
  (.seq
  (.seq
  (.ops
  [.mk (some 16) none (.mov (.t 1)) .no, .mk (some 17) none (.bin .lss (.t 16) (.c (.one (.st (.int .i64 0)))))
  .no])
  (.cond (.t 17) (.exit 0) .skip))
  (.ops
  [.mk (some 18) none (.load true 3 (.t 6)) .no, .mk (some 19) none (.mov (.t 1)) .no, .mk (some 20) none (.call 61 [.t 18, .t 19])
  .no, .mk (some 1) none (.mov (.t 20)) .no]))))
  (.ops
  [.mk (some 21) none (.bin .add (.t 12) (.c (.one (.st (.int .i64 1)))))
  .no, .mk (some 12) none (.mov (.t 21)) .no])))))))
  (.seq
  (.ops
  [.mk (some 22) none (.mov (.t 1)) .no, .mk (some 4) none (.mov (.t 22)) .no])
  .ret))))
theorem tr_lambda_within : trCode Tryd.prog 23 [] (Tryd.f61.body.getD .skip) = some ir_lambda_within := by kernel_rfl
theorem ac_lambda_within {xs : List AV} {r : AV} (hn : xs.length ≤ 23) (h : ∀ C : Ctx, C.n = 23 → IWP Tryd.prog C [] ir_lambda_within (FinQ [.t 4] r) (AS.start xs)) : ACalls Tryd.prog 61 xs r :=
  acalls_of Tryd.func61 rfl tr_lambda_within rfl hn h
theorem acS_lambda_within {xs : List AV} {S S' : AStore} {r : AV} (hn : xs.length ≤ 23) (h : Clean S → ∀ C : Ctx, C.n = 23 → IWP Tryd.prog C [] ir_lambda_within (FinS C [.t 4] r S') (AS.startS xs S)) : ACallsS Tryd.prog 61 xs S r S' :=
  acallsS_of Tryd.func61 rfl tr_lambda_within rfl hn h

def ir_lambda_check : IR :=
  (.seq
  (.ops
  [.mk (some 3) none (.box 24 (.t 0)) .no, .mk (some 6) none (.mov (.c (.one (.st (.int .i64 0)))))
  .no])
  (.seq
  (.seq
  (.ops
  [.mk (some 11) none (.fieldAddr 0 (.t 3)) .no, .mk (some 12) none (.load false 1 (.t 11)) .no, .mk (some 13) none (.bin .lss (.t 12) (.c (.one (.st (.int .i64 1)))))
  .no, .mk (some 14) none (.mov (.t 13)) .no, .mk (some 15) (some (14, false)) (.fieldAddr 0 (.t 3)) .no, .mk (some 16) (some (14, false)) (.load false 1 (.t 15))
  .no, .mk (some 17) (some (14, false)) (.bin .gtr (.t 16) (.c (.one (.st (.int .i64 5)))))
  .no, .mk (some 18) none
  (.pick (.t 14) (.c (.one (.st (.bool true)))) (.t 17))
  .no, .mk (some 19) none (.mov (.t 18)) .no, .mk (some 20) (some (19, false)) (.fieldAddr 2 (.t 3)) .no, .mk (some 21) (some (19, false)) (.load false 1 (.t 20))
  .no, .mk (some 22) (some (19, false)) (.len false (.t 21)) .no, .mk (some 23) (some (19, false)) (.fieldAddr 0 (.t 3)) .no, .mk (some 24) (some (19, false)) (.load false 1 (.t 23))
  .no, .mk (some 25) (some (19, false))
  (.indexArr 6 1 (.c (.one
  (.eptr
  [.int .i64 0, .int .i64 0, .int .i64 1, .int .i64 2, .int .i64 0, .int .i64 0]))) (.t 24))
  .no, .mk (some 26) (some (19, false)) (.load false 1 (.t 25))
  .no, .mk (some 27) (some (19, false)) (.bin .neq (.t 22) (.t 26)) .no, .mk (some 28) none
  (.pick (.t 19) (.c (.one (.st (.bool true)))) (.t 27))
  .no])
  (.cond (.t 28)
  (.seq
  (.ops
  [.mk (some 6) none (.mov (.c (.one (.st (.int .i64 2)))))
  .no])
  .ret)
  .skip))
  (.seq
  (.ops
  [.mk (some 7) none (.mov (.c (.one (.st (.int .i64 1)))))
  .no])
  (.seq
  (.seq
  (.ops
  [.mk (some 29) none (.fieldAddr 0 (.t 3)) .no, .mk (some 30) none (.load false 1 (.t 29)) .no])
  (.block 0
  (.seq
  (.ops
  [.mk (some 32) none (.bin .eql (.t 30) (.c (.one (.st (.int .i64 1)))))
  .no, .mk (some 31) none (.mov (.t 32)) .no])
  (.cond (.t 31)
  (.ops
  [.mk (some 33) none (.mov (.t 1)) .no, .mk (some 7) none (.mov (.t 33)) .no])
  (.seq
  (.ops
  [.mk (some 35) none (.bin .eql (.t 30) (.c (.one (.st (.int .i64 4)))))
  .no, .mk (some 34) none (.mov (.t 35)) .no])
  (.cond (.t 34)
  (.ops
  [.mk (some 7) none (.mov (.c (.one (.st (.int .i64 40)))))
  .no])
  (.seq
  (.ops
  [.mk (some 37) none (.bin .eql (.t 30) (.c (.one (.st (.int .i64 5)))))
  .no, .mk (some 36) none (.mov (.t 37)) .no])
  (.cond (.t 36)
  (.ops
  [.mk (some 38) none (.mov (.t 2)) .no, .mk (some 7) none (.mov (.t 38)) .no])
  .skip))))))))
  (.seq
  (.seq
  (.ops
  [.mk (some 39) none (.fieldAddr 1 (.t 3)) .no, .mk (some 40) none (.load false 1 (.t 39)) .no, .mk (some 41) none (.bin .lss (.t 40) (.c (.one (.st (.int .i64 0)))))
  .no, .mk (some 42) none (.mov (.t 41)) .no, .mk (some 43) (some (42, false)) (.fieldAddr 1 (.t 3))
  .no, .mk (some 44) (some (42, false)) (.load false 1 (.t 43))
  .no, .mk (some 45) (some (42, false)) (.mov (.t 7)) .no, .mk (some 46) (some (42, false)) (.bin .geq (.t 44) (.t 45)) .no, .mk (some 47) none
  (.pick (.t 42) (.c (.one (.st (.bool true)))) (.t 46))
  .no])
  (.cond (.t 47)
  (.seq
  (.ops
  [.mk (some 6) none (.mov (.c (.one (.st (.int .i64 15)))))
  .no])
  .ret)
  .skip))
  (.seq
  (.seq
  (.ops
  [.mk (some 48) none (.fieldAddr 0 (.t 3)) .no, .mk (some 49) none (.load false 1 (.t 48)) .no, .mk (some 50) none (.bin .eql (.t 49) (.c (.one (.st (.int .i64 2)))))
  .no])
  (.cond (.t 50)
  (.ops
  [.mk (some 51) none (.mov (.t 1)) .no, .mk (some 52) none (.bin .add (.t 51) (.c (.one (.st (.int .i64 1)))))
  .no, .mk (some 1) none (.mov (.t 52)) .no])
  .skip))
  (.seq
  (.seq
  (.ops
  [.mk (some 53) none (.fieldAddr 2 (.t 3)) .no, .mk (some 54) none (.load false 1 (.t 53)) .no, .mk (some 55) none (.len false (.t 54)) .no, .mk (some 56) none (.mov (.c (.one (.st (.int .i64 0)))))
  .no])
  (.block 1
  (.loop
  (.seq
  (.ops
  [.mk (some 57) none (.bin .lss (.t 56) (.t 55))
  .no])
  (.seq (.cond (.t 57) .skip (.exit 1))
  (.seq
  (.block 2
  (.seq
  (.ops
  [.mk (some 58) none
  (.indexAddr 3 (.t 54) (.t 56)) .no, .mk (some 59) none (.load true 3 (.t 58))
  .no, .mk (some 9) none
  (.alloc 24
  [.st (.int .i64 0), .st (.int .i64 0),
  .full []])
  .no, .mk none none (.store 3 (.t 9) (.t 59))
  .no])
  (.seq
  (.ops
  [.mk (some 60) none (.load true 3 (.t 9))
  .no, .mk (some 61) none (.mov (.t 1)) .no, .mk (some 62) none (.mov (.t 2)) .no, .mk (some 63) none (.call 62 [.t 60, .t 61, .t 62])
  .no, .mk (some 10) none (.mov (.t 63)) .no])
  (.seq
  (.ops
  [.mk (some 64) none (.mov (.t 10)) .no, .mk (some 65) none (.bin .neq (.t 64) (.c (.one (.st (.int .i64 0)))))
  .no])
  (.cond (.t 65)
  (.seq
  (.ops
  [.mk (some 66) none (.mov (.t 10)) .no, .mk (some 6) none (.mov (.t 66))
  .no])
  .ret)
  .skip)))))
  (.ops
  [.mk (some 67) none (.bin .add (.t 56) (.c (.one (.st (.int .i64 1)))))
  .no, .mk (some 56) none (.mov (.t 67)) .no])))))))
  (.seq
  (.ops
  [.mk (some 6) none (.mov (.c (.one (.st (.int .i64 0)))))
  .no])
  .ret))))))))
theorem tr_lambda_check : trCode Tryd.prog 68 [] (Tryd.f62.body.getD .skip) = some ir_lambda_check := by kernel_rfl
theorem ac_lambda_check {xs : List AV} {r : AV} (hn : xs.length ≤ 68) (h : ∀ C : Ctx, C.n = 68 → IWP Tryd.prog C [] ir_lambda_check (FinQ [.t 6] r) (AS.start xs)) : ACalls Tryd.prog 62 xs r :=
  acalls_of Tryd.func62 rfl tr_lambda_check rfl hn h
theorem acS_lambda_check {xs : List AV} {S S' : AStore} {r : AV} (hn : xs.length ≤ 68) (h : Clean S → ∀ C : Ctx, C.n = 68 → IWP Tryd.prog C [] ir_lambda_check (FinS C [.t 6] r S') (AS.startS xs S)) : ACallsS Tryd.prog 62 xs S r S' :=
  acallsS_of Tryd.func62 rfl tr_lambda_check rfl hn h

def ir_lambda_CheckWith : IR :=
  (.seq
  (.ops
  [.mk (some 3) none (.box 24 (.t 0)) .no, .mk (some 6) none (.mov (.c (.one (.st (.int .i64 0)))))
  .no])
  (.seq
  (.seq
  (.ops
  [.mk (some 7) none (.mov (.t 1)) .no, .mk (some 8) none (.bin .lss (.t 7) (.c (.one (.st (.int .i64 0)))))
  .no, .mk (some 9) none (.mov (.t 8)) .no, .mk (some 10) (some (9, false)) (.mov (.t 1)) .no, .mk (some 11) (some (9, false)) (.bin .gtr (.t 10) (.c (.one (.st (.int .i64 40)))))
  .no, .mk (some 12) none
  (.pick (.t 9) (.c (.one (.st (.bool true)))) (.t 11))
  .no])
  (.cond (.t 12)
  (.seq
  (.ops
  [.mk (some 6) none (.mov (.c (.one (.st (.int .i64 10)))))
  .no])
  .ret)
  .skip))
  (.seq
  (.seq
  (.ops
  [.mk (some 13) none (.load true 3 (.t 3)) .no, .mk (some 14) none (.call 61
  [.t 13, .c (.one (.st (.int .i64 200)))])
  .no, .mk (some 15) none (.bin .lss (.t 14) (.c (.one (.st (.int .i64 0)))))
  .no])
  (.cond (.t 15)
  (.seq
  (.ops
  [.mk (some 6) none (.mov (.c (.one (.st (.int .i64 3)))))
  .no])
  .ret)
  .skip))
  (.seq
  (.ops
  [.mk (some 16) none (.load true 3 (.t 3)) .no, .mk (some 17) none (.mov (.t 1)) .no, .mk (some 18) none (.mov (.t 2)) .no, .mk (some 19) none (.call 62 [.t 16, .t 17, .t 18]) .no, .mk (some 6) none (.mov (.t 19)) .no])
  .ret))))
theorem tr_lambda_CheckWith : trCode Tryd.prog 20 [] (Tryd.f47.body.getD .skip) = some ir_lambda_CheckWith := by kernel_rfl
theorem ac_lambda_CheckWith {xs : List AV} {r : AV} (hn : xs.length ≤ 20) (h : ∀ C : Ctx, C.n = 20 → IWP Tryd.prog C [] ir_lambda_CheckWith (FinQ [.t 6] r) (AS.start xs)) : ACalls Tryd.prog 47 xs r :=
  acalls_of Tryd.func47 rfl tr_lambda_CheckWith rfl hn h
theorem acS_lambda_CheckWith {xs : List AV} {S S' : AStore} {r : AV} (hn : xs.length ≤ 20) (h : Clean S → ∀ C : Ctx, C.n = 20 → IWP Tryd.prog C [] ir_lambda_CheckWith (FinS C [.t 6] r S') (AS.startS xs S)) : ACallsS Tryd.prog 47 xs S r S' :=
  acallsS_of Tryd.func47 rfl tr_lambda_CheckWith rfl hn h

def ir_lambda_Check : IR :=
  (.seq
  (.ops
  [.mk (some 2) none (.box 24 (.t 0)) .no, .mk (some 4) none (.mov (.c (.one (.st (.int .i64 0)))))
  .no])
  (.seq
  (.ops
  [.mk (some 5) none (.load true 3 (.t 2)) .no, .mk (some 6) none (.mov (.t 1)) .no, .mk (some 7) none (.call 47
  [.t 5, .t 6, .c (.one (.st (.int .i64 0)))])
  .no, .mk (some 4) none (.mov (.t 7)) .no])
  .ret))
theorem tr_lambda_Check : trCode Tryd.prog 8 [] (Tryd.f26.body.getD .skip) = some ir_lambda_Check := by kernel_rfl
theorem ac_lambda_Check {xs : List AV} {r : AV} (hn : xs.length ≤ 8) (h : ∀ C : Ctx, C.n = 8 → IWP Tryd.prog C [] ir_lambda_Check (FinQ [.t 4] r) (AS.start xs)) : ACalls Tryd.prog 26 xs r :=
  acalls_of Tryd.func26 rfl tr_lambda_Check rfl hn h
theorem acS_lambda_Check {xs : List AV} {S S' : AStore} {r : AV} (hn : xs.length ≤ 8) (h : Clean S → ∀ C : Ctx, C.n = 8 → IWP Tryd.prog C [] ir_lambda_Check (FinS C [.t 4] r S') (AS.startS xs S)) : ACallsS Tryd.prog 26 xs S r S' :=
  acallsS_of Tryd.func26 rfl tr_lambda_Check rfl hn h

def ir_lambda_Size : IR :=
  (.seq
  (.ops
  [.mk (some 1) none (.box 24 (.t 0)) .no, .mk (some 2) none (.mov (.c (.one (.st (.int .i64 0)))))
  .no])
  (.seq
  (.ops
  [.mk (some 3) none (.mov (.c (.one (.st (.int .i64 1)))))
  .no])
  (.seq
  (.seq
  (.ops
  [.mk (some 6) none (.fieldAddr 2 (.t 1)) .no, .mk (some 7) none (.load false 1 (.t 6)) .no, .mk (some 8) none (.len false (.t 7)) .no, .mk (some 9) none (.mov (.c (.one (.st (.int .i64 0)))))
  .no])
  (.block 0
  (.loop
  (.seq
  (.ops
  [.mk (some 10) none (.bin .lss (.t 9) (.t 8))
  .no])
  (.seq (.cond (.t 10) .skip (.exit 0))
  (.seq
  (.block 1
  (.seq
  (.ops
  [.mk (some 11) none (.indexAddr 3 (.t 7) (.t 9))
  .no, .mk (some 12) none (.load true 3 (.t 11)) .no, .mk (some 5) none
  (.alloc 24
  [.st (.int .i64 0), .st (.int .i64 0),
  .full []])
  .no, .mk none none (.store 3 (.t 5) (.t 12))
  .no])
  (.ops
  [.mk (some 13) none (.mov (.t 3)) .no, .mk (some 14) none (.load true 3 (.t 5)) .no, .mk (some 15) none (.call 45 [.t 14]) .no, .mk (some 16) none (.bin .add (.t 13) (.t 15)) .no, .mk (some 3) none (.mov (.t 16)) .no])))
  (.ops
  [.mk (some 17) none (.bin .add (.t 9) (.c (.one (.st (.int .i64 1)))))
  .no, .mk (some 9) none (.mov (.t 17)) .no])))))))
  (.seq
  (.ops
  [.mk (some 18) none (.mov (.t 3)) .no, .mk (some 2) none (.mov (.t 18)) .no])
  .ret))))
theorem tr_lambda_Size : trCode Tryd.prog 19 [] (Tryd.f45.body.getD .skip) = some ir_lambda_Size := by kernel_rfl
theorem ac_lambda_Size {xs : List AV} {r : AV} (hn : xs.length ≤ 19) (h : ∀ C : Ctx, C.n = 19 → IWP Tryd.prog C [] ir_lambda_Size (FinQ [.t 2] r) (AS.start xs)) : ACalls Tryd.prog 45 xs r :=
  acalls_of Tryd.func45 rfl tr_lambda_Size rfl hn h
theorem acS_lambda_Size {xs : List AV} {S S' : AStore} {r : AV} (hn : xs.length ≤ 19) (h : Clean S → ∀ C : Ctx, C.n = 19 → IWP Tryd.prog C [] ir_lambda_Size (FinS C [.t 2] r S') (AS.startS xs S)) : ACallsS Tryd.prog 45 xs S r S' :=
  acallsS_of Tryd.func45 rfl tr_lambda_Size rfl hn h

def ir_lambda_V : IR :=
  (.seq
  (.ops
  [.mk (some 2) none
  (.alloc 24
  [.st (.int .i64 0), .st (.int .i64 0),
  .full []])
  .no])
  (.seq
  (.ops
  [.mk (some 3) none (.mov (.t 0)) .no, .mk (some 4) none
  (.build
  [.st (.int .i64 0), .st (.int .i64 0),
  .full []]
  [(0, 1, .c (.one (.st (.int .i64 1)))),
  (1, 1, .t 3)])
  .no, .mk none none (.store 3 (.t 2) (.t 4))
  .no])
  .ret))
theorem tr_lambda_V : trCode Tryd.prog 5 [] (Tryd.f66.body.getD .skip) = some ir_lambda_V := by kernel_rfl
theorem ac_lambda_V {xs : List AV} {r : AV} (hn : xs.length ≤ 5) (h : ∀ C : Ctx, C.n = 5 → IWP Tryd.prog C [] ir_lambda_V (FinQ [.cell 2 true 3] r) (AS.start xs)) : ACalls Tryd.prog 66 xs r :=
  acalls_of Tryd.func66 rfl tr_lambda_V rfl hn h
theorem acS_lambda_V {xs : List AV} {S S' : AStore} {r : AV} (hn : xs.length ≤ 5) (h : Clean S → ∀ C : Ctx, C.n = 5 → IWP Tryd.prog C [] ir_lambda_V (FinS C [.cell 2 true 3] r S') (AS.startS xs S)) : ACallsS Tryd.prog 66 xs S r S' :=
  acallsS_of Tryd.func66 rfl tr_lambda_V rfl hn h

def ir_R_LamSize : IR :=
  (.seq
  (.ops
  [.mk (some 2) none (.box 24 (.t 0)) .no, .mk (some 4) none (.mov (.c (.one (.st (.int .i64 0)))))
  .no])
  (.seq
  (.ops
  [.mk (some 5) none (.mov (.c (.one (.st (.int .i64 1)))))
  .no])
  (.seq
  (.seq
  (.ops
  [.mk (some 6) none (.mov (.c (.one (.st (.int .i64 0)))))
  .no])
  (.block 0
  (.loop
  (.seq
  (.seq
  (.ops
  [.mk (some 7) none (.mov (.t 6)) .no, .mk (some 8) none (.fieldAddr 2 (.t 2)) .no, .mk (some 9) none (.load false 1 (.t 8)) .no, .mk (some 10) none (.len false (.t 9)) .no, .mk (some 11) none (.bin .lss (.t 7) (.t 10))
  .no, .mk (some 12) none (.mov (.t 11)) .no, .mk (some 13) (some (12, true)) (.mov (.t 5)) .no, .mk (some 14) (some (12, true)) (.mov (.t 1)) .no, .mk (some 15) (some (12, true)) (.bin .leq (.t 13) (.t 14)) .no, .mk (some 16) none
  (.pick (.t 12) (.t 15) (.c (.one (.st (.bool false)))))
  .no])
  (.cond (.t 16) .skip (.exit 0)))
  (.seq
  (.block 1
  (.ops
  [.mk (some 19) none (.mov (.t 5)) .no, .mk (some 20) none (.fieldAddr 2 (.t 2)) .no, .mk (some 21) none (.load false 1 (.t 20)) .no, .mk (some 22) none (.mov (.t 6)) .no, .mk (some 23) none (.indexAddr 3 (.t 21) (.t 22))
  .no, .mk (some 24) none (.load true 3 (.t 23)) .no, .mk (some 25) none (.mov (.t 1)) .no, .mk (some 26) none (.mov (.t 5)) .no, .mk (some 27) none (.bin .sub (.t 25) (.t 26))
  .no, .mk (some 28) none (.call 7 [.t 24, .t 27])
  .no, .mk (some 29) none (.bin .add (.t 19) (.t 28))
  .no, .mk (some 5) none (.mov (.t 29)) .no]))
  (.ops
  [.mk (some 17) none (.mov (.t 6)) .no, .mk (some 18) none (.bin .add (.t 17) (.c (.one (.st (.int .i64 1)))))
  .no, .mk (some 6) none (.mov (.t 18)) .no]))))))
  (.seq
  (.seq
  (.ops
  [.mk (some 30) none (.mov (.t 5)) .no, .mk (some 31) none (.mov (.t 1)) .no, .mk (some 32) none (.bin .gtr (.t 30) (.t 31))
  .no])
  (.cond (.t 32)
  (.seq
  (.ops
  [.mk (some 33) none (.mov (.t 1)) .no, .mk (some 34) none (.bin .add (.t 33) (.c (.one (.st (.int .i64 1)))))
  .no, .mk (some 4) none (.mov (.t 34)) .no])
  .ret)
  .skip))
  (.seq
  (.ops
  [.mk (some 35) none (.mov (.t 5)) .no, .mk (some 4) none (.mov (.t 35)) .no])
  .ret)))))
theorem tr_R_LamSize : trCode Tryd.prog 36 [] (Tryd.f7.body.getD .skip) = some ir_R_LamSize := by kernel_rfl
theorem ac_R_LamSize {xs : List AV} {r : AV} (hn : xs.length ≤ 36) (h : ∀ C : Ctx, C.n = 36 → IWP Tryd.prog C [] ir_R_LamSize (FinQ [.t 4] r) (AS.start xs)) : ACalls Tryd.prog 7 xs r :=
  acalls_of Tryd.func7 rfl tr_R_LamSize rfl hn h
theorem acS_R_LamSize {xs : List AV} {S S' : AStore} {r : AV} (hn : xs.length ≤ 36) (h : Clean S → ∀ C : Ctx, C.n = 36 → IWP Tryd.prog C [] ir_R_LamSize (FinS C [.t 4] r S') (AS.startS xs S)) : ACallsS Tryd.prog 7 xs S r S' :=
  acallsS_of Tryd.func7 rfl tr_R_LamSize rfl hn h

def ir_R_LamMay : IR :=
  (.seq
  (.ops
  [.mk (some 3) none (.box 24 (.t 0)) .no, .mk (some 6) none (.mov (.c (.one (.st (.int .i64 0)))))
  .no])
  (.seq
  (.seq
  (.ops
  [.mk (some 7) none (.mov (.t 1)) .no, .mk (some 8) none (.bin .lss (.t 7) (.c (.one (.st (.int .i64 0)))))
  .no, .mk (some 9) none (.mov (.t 8)) .no, .mk (some 10) (some (9, false)) (.mov (.t 1)) .no, .mk (some 11) (some (9, false)) (.bin .gtr (.t 10) (.c (.one (.st (.int .i64 40)))))
  .no, .mk (some 12) none
  (.pick (.t 9) (.c (.one (.st (.bool true)))) (.t 11))
  .no])
  (.cond (.t 12)
  (.seq
  (.ops
  [.mk (some 6) none (.mov (.c (.one (.st (.int .i64 10)))))
  .no])
  .ret)
  .skip))
  (.seq
  (.seq
  (.ops
  [.mk (some 13) none (.load true 3 (.t 3)) .no, .mk (some 14) none (.call 7
  [.t 13, .c (.one (.st (.int .i64 200)))])
  .no, .mk (some 15) none (.bin .gtr (.t 14) (.c (.one (.st (.int .i64 200)))))
  .no])
  (.cond (.t 15)
  (.seq
  (.ops
  [.mk (some 6) none (.mov (.c (.one (.st (.int .i64 3)))))
  .no])
  .ret)
  .skip))
  (.seq
  (.ops
  [.mk (some 16) none (.load true 3 (.t 3)) .no, .mk (some 17) none (.mov (.t 1)) .no, .mk (some 18) none (.mov (.t 2)) .no, .mk (some 19) none (.call 22 [.t 16, .t 17, .t 18]) .no, .mk (some 6) none (.mov (.t 19)) .no])
  .ret))))
theorem tr_R_LamMay : trCode Tryd.prog 20 [] (Tryd.f6.body.getD .skip) = some ir_R_LamMay := by kernel_rfl
theorem ac_R_LamMay {xs : List AV} {r : AV} (hn : xs.length ≤ 20) (h : ∀ C : Ctx, C.n = 20 → IWP Tryd.prog C [] ir_R_LamMay (FinQ [.t 6] r) (AS.start xs)) : ACalls Tryd.prog 6 xs r :=
  acalls_of Tryd.func6 rfl tr_R_LamMay rfl hn h
theorem acS_R_LamMay {xs : List AV} {S S' : AStore} {r : AV} (hn : xs.length ≤ 20) (h : Clean S → ∀ C : Ctx, C.n = 20 → IWP Tryd.prog C [] ir_R_LamMay (FinS C [.t 6] r S') (AS.startS xs S)) : ACallsS Tryd.prog 6 xs S r S' :=
  acallsS_of Tryd.func6 rfl tr_R_LamMay rfl hn h

def ir_R_lamMay : IR :=
  (.seq
  (.ops
  [.mk (some 3) none (.box 24 (.t 0)) .no, .mk (some 6) none (.mov (.c (.one (.st (.int .i64 0)))))
  .no])
  (.seq
  (.ops
  [.mk (some 7) none (.mov (.c (.one (.st (.int .i64 1)))))
  .no])
  (.seq
  (.ops
  [.mk (some 8) none (.mov (.c (.one (.st (.int .i64 0)))))
  .no])
  (.seq
  (.ops
  [.mk (some 12) none (.mov (.t 1)) .no, .mk (some 9) none (.mov (.t 12)) .no])
  (.seq
  (.seq
  (.ops
  [.mk (some 13) none (.fieldAddr 0 (.t 3)) .no, .mk (some 14) none (.load false 1 (.t 13)) .no])
  (.block 0
  (.seq
  (.ops
  [.mk (some 16) none (.bin .eql (.t 14) (.c (.one (.st (.int .i64 1)))))
  .no, .mk (some 15) none (.mov (.t 16)) .no])
  (.cond (.t 15)
  (.ops
  [.mk (some 17) none (.mov (.t 1)) .no, .mk (some 7) none (.mov (.t 17)) .no])
  (.seq
  (.ops
  [.mk (some 19) none (.bin .eql (.t 14) (.c (.one (.st (.int .i64 2)))))
  .no, .mk (some 18) none (.mov (.t 19)) .no])
  (.cond (.t 18)
  (.seq
  (.ops
  [.mk (some 8) none (.mov (.c (.one (.st (.int .i64 1)))))
  .no])
  (.ops
  [.mk (some 20) none (.mov (.t 1)) .no, .mk (some 21) none (.bin .add (.t 20) (.c (.one (.st (.int .i64 1)))))
  .no, .mk (some 9) none (.mov (.t 21)) .no]))
  (.seq
  (.ops
  [.mk (some 23) none (.bin .eql (.t 14) (.c (.one (.st (.int .i64 3)))))
  .no, .mk (some 22) none (.mov (.t 23)) .no])
  (.cond (.t 22)
  (.ops
  [.mk (some 8) none (.mov (.c (.one (.st (.int .i64 2)))))
  .no])
  (.seq
  (.ops
  [.mk (some 25) none (.bin .eql (.t 14) (.c (.one (.st (.int .i64 4)))))
  .no, .mk (some 24) none (.mov (.t 25)) .no])
  (.cond (.t 24)
  (.ops
  [.mk (some 7) none (.mov (.c (.one (.st (.int .i64 40)))))
  .no])
  (.seq
  (.ops
  [.mk (some 27) none (.bin .eql (.t 14) (.c (.one (.st (.int .i64 5)))))
  .no, .mk (some 26) none (.mov (.t 27)) .no])
  (.cond (.t 26)
  (.ops
  [.mk (some 28) none (.mov (.t 2)) .no, .mk (some 7) none (.mov (.t 28)) .no])
  (.seq
  (.ops
  [.mk (some 6) none (.mov (.c (.one (.st (.int .i64 2)))))
  .no])
  .ret)))))))))))))
  (.seq
  (.seq
  (.ops
  [.mk (some 29) none (.fieldAddr 2 (.t 3)) .no, .mk (some 30) none (.load false 1 (.t 29)) .no, .mk (some 31) none (.len false (.t 30)) .no, .mk (some 32) none (.mov (.t 8)) .no, .mk (some 33) none (.bin .neq (.t 31) (.t 32))
  .no])
  (.cond (.t 33)
  (.seq
  (.ops
  [.mk (some 6) none (.mov (.c (.one (.st (.int .i64 2)))))
  .no])
  .ret)
  .skip))
  (.seq
  (.seq
  (.ops
  [.mk (some 34) none (.fieldAddr 1 (.t 3)) .no, .mk (some 35) none (.load false 1 (.t 34)) .no, .mk (some 36) none (.bin .lss (.t 35) (.c (.one (.st (.int .i64 0)))))
  .no, .mk (some 37) none (.mov (.t 36)) .no, .mk (some 38) (some (37, false)) (.fieldAddr 1 (.t 3))
  .no, .mk (some 39) (some (37, false)) (.load false 1 (.t 38))
  .no, .mk (some 40) (some (37, false)) (.mov (.t 7)) .no, .mk (some 41) (some (37, false)) (.bin .geq (.t 39) (.t 40)) .no, .mk (some 42) none
  (.pick (.t 37) (.c (.one (.st (.bool true)))) (.t 41))
  .no])
  (.cond (.t 42)
  (.seq
  (.ops
  [.mk (some 6) none (.mov (.c (.one (.st (.int .i64 15)))))
  .no])
  .ret)
  .skip))
  (.seq
  (.seq
  (.ops
  [.mk (some 10) none (.mov (.c (.one (.st (.int .i64 0)))))
  .no])
  (.block 1
  (.loop
  (.seq
  (.seq
  (.ops
  [.mk (some 43) none (.mov (.t 10)) .no, .mk (some 44) none (.mov (.t 8)) .no, .mk (some 45) none (.bin .lss (.t 43) (.t 44)) .no])
  (.cond (.t 45) .skip (.exit 1)))
  (.seq
  (.block 2
  (.seq
  (.ops
  [.mk (some 48) none (.fieldAddr 2 (.t 3)) .no, .mk (some 49) none (.load false 1 (.t 48))
  .no, .mk (some 50) none (.mov (.t 10)) .no, .mk (some 51) none
  (.indexAddr 3 (.t 49) (.t 50)) .no, .mk (some 52) none (.load true 3 (.t 51))
  .no, .mk (some 53) none (.mov (.t 9)) .no, .mk (some 54) none (.mov (.t 2)) .no, .mk (some 55) none (.call 22 [.t 52, .t 53, .t 54])
  .no, .mk (some 11) none (.mov (.t 55)) .no])
  (.seq
  (.ops
  [.mk (some 56) none (.mov (.t 11)) .no, .mk (some 57) none (.bin .neq (.t 56) (.c (.one (.st (.int .i64 0)))))
  .no])
  (.cond (.t 57)
  (.seq
  (.ops
  [.mk (some 58) none (.mov (.t 11)) .no, .mk (some 6) none (.mov (.t 58)) .no])
  .ret)
  .skip))))
  (.ops
  [.mk (some 46) none (.mov (.t 10)) .no, .mk (some 47) none (.bin .add (.t 46) (.c (.one (.st (.int .i64 1)))))
  .no, .mk (some 10) none (.mov (.t 47)) .no]))))))
  (.seq
  (.ops
  [.mk (some 6) none (.mov (.c (.one (.st (.int .i64 0)))))
  .no])
  .ret)))))))))
theorem tr_R_lamMay : trCode Tryd.prog 59 [] (Tryd.f22.body.getD .skip) = some ir_R_lamMay := by kernel_rfl
theorem ac_R_lamMay {xs : List AV} {r : AV} (hn : xs.length ≤ 59) (h : ∀ C : Ctx, C.n = 59 → IWP Tryd.prog C [] ir_R_lamMay (FinQ [.t 6] r) (AS.start xs)) : ACalls Tryd.prog 22 xs r :=
  acalls_of Tryd.func22 rfl tr_R_lamMay rfl hn h
theorem acS_R_lamMay {xs : List AV} {S S' : AStore} {r : AV} (hn : xs.length ≤ 59) (h : Clean S → ∀ C : Ctx, C.n = 59 → IWP Tryd.prog C [] ir_R_lamMay (FinS C [.t 6] r S') (AS.startS xs S)) : ACallsS Tryd.prog 22 xs S r S' :=
  acallsS_of Tryd.func22 rfl tr_R_lamMay rfl hn h

def ir_R_SameLam : IR :=
  (.seq
  (.ops
  [.mk (some 2) none (.box 24 (.t 0)) .no, .mk (some 3) none (.box 24 (.t 1)) .no, .mk (some 4) none (.mov (.c (.one (.st (.bool false)))))
  .no])
  (.seq
  (.seq
  (.ops
  [.mk (some 6) none (.fieldAddr 0 (.t 2)) .no, .mk (some 7) none (.load false 1 (.t 6)) .no, .mk (some 8) none (.fieldAddr 0 (.t 3)) .no, .mk (some 9) none (.load false 1 (.t 8)) .no, .mk (some 10) none (.bin .neq (.t 7) (.t 9))
  .no, .mk (some 11) none (.mov (.t 10)) .no, .mk (some 12) (some (11, false)) (.fieldAddr 1 (.t 2)) .no, .mk (some 13) (some (11, false)) (.load false 1 (.t 12))
  .no, .mk (some 14) (some (11, false)) (.fieldAddr 1 (.t 3)) .no, .mk (some 15) (some (11, false)) (.load false 1 (.t 14))
  .no, .mk (some 16) (some (11, false)) (.bin .neq (.t 13) (.t 15)) .no, .mk (some 17) none
  (.pick (.t 11) (.c (.one (.st (.bool true)))) (.t 16))
  .no, .mk (some 18) none (.mov (.t 17)) .no, .mk (some 19) (some (18, false)) (.fieldAddr 2 (.t 2)) .no, .mk (some 20) (some (18, false)) (.load false 1 (.t 19))
  .no, .mk (some 21) (some (18, false)) (.len false (.t 20)) .no, .mk (some 22) (some (18, false)) (.fieldAddr 2 (.t 3)) .no, .mk (some 23) (some (18, false)) (.load false 1 (.t 22))
  .no, .mk (some 24) (some (18, false)) (.len false (.t 23)) .no, .mk (some 25) (some (18, false)) (.bin .neq (.t 21) (.t 24)) .no, .mk (some 26) none
  (.pick (.t 18) (.c (.one (.st (.bool true)))) (.t 25))
  .no])
  (.cond (.t 26)
  (.seq
  (.ops
  [.mk (some 4) none (.mov (.c (.one (.st (.bool false)))))
  .no])
  .ret)
  .skip))
  (.seq
  (.seq
  (.ops
  [.mk (some 5) none (.mov (.c (.one (.st (.int .i64 0)))))
  .no])
  (.block 0
  (.loop
  (.seq
  (.seq
  (.ops
  [.mk (some 27) none (.mov (.t 5)) .no, .mk (some 28) none (.fieldAddr 2 (.t 2)) .no, .mk (some 29) none (.load false 1 (.t 28)) .no, .mk (some 30) none (.len false (.t 29)) .no, .mk (some 31) none (.bin .lss (.t 27) (.t 30))
  .no])
  (.cond (.t 31) .skip (.exit 0)))
  (.seq
  (.block 1
  (.seq
  (.ops
  [.mk (some 34) none (.fieldAddr 2 (.t 2)) .no, .mk (some 35) none (.load false 1 (.t 34)) .no, .mk (some 36) none (.mov (.t 5)) .no, .mk (some 37) none (.indexAddr 3 (.t 35) (.t 36))
  .no, .mk (some 38) none (.load true 3 (.t 37)) .no, .mk (some 39) none (.fieldAddr 2 (.t 3)) .no, .mk (some 40) none (.load false 1 (.t 39)) .no, .mk (some 41) none (.mov (.t 5)) .no, .mk (some 42) none (.indexAddr 3 (.t 40) (.t 41))
  .no, .mk (some 43) none (.load true 3 (.t 42)) .no, .mk (some 44) none (.call 46 [.t 38, .t 43])
  .no, .mk (some 45) none (.un .not (.t 44)) .no])
  (.cond (.t 45)
  (.seq
  (.ops
  [.mk (some 4) none (.mov (.c (.one (.st (.bool false)))))
  .no])
  .ret)
  .skip)))
  (.ops
  [.mk (some 32) none (.mov (.t 5)) .no, .mk (some 33) none (.bin .add (.t 32) (.c (.one (.st (.int .i64 1)))))
  .no, .mk (some 5) none (.mov (.t 33)) .no]))))))
  (.seq
  (.ops
  [.mk (some 4) none (.mov (.c (.one (.st (.bool true)))))
  .no])
  .ret))))
theorem tr_R_SameLam : trCode Tryd.prog 46 [] (Tryd.f46.body.getD .skip) = some ir_R_SameLam := by kernel_rfl
theorem ac_R_SameLam {xs : List AV} {r : AV} (hn : xs.length ≤ 46) (h : ∀ C : Ctx, C.n = 46 → IWP Tryd.prog C [] ir_R_SameLam (FinQ [.t 4] r) (AS.start xs)) : ACalls Tryd.prog 46 xs r :=
  acalls_of Tryd.func46 rfl tr_R_SameLam rfl hn h
theorem acS_R_SameLam {xs : List AV} {S S' : AStore} {r : AV} (hn : xs.length ≤ 46) (h : Clean S → ∀ C : Ctx, C.n = 46 → IWP Tryd.prog C [] ir_R_SameLam (FinS C [.t 4] r S') (AS.startS xs S)) : ACallsS Tryd.prog 46 xs S r S' :=
  acallsS_of Tryd.func46 rfl tr_R_SameLam rfl hn h

def ir_R_Var : IR :=
  (.seq
  (.ops
  [.mk (some 2) none
  (.alloc 24
  [.st (.int .i64 0), .st (.int .i64 0),
  .full []])
  .no])
  (.seq
  (.ops
  [.mk (some 3) none (.mov (.t 0)) .no, .mk (some 4) none
  (.build
  [.st (.int .i64 0), .st (.int .i64 0),
  .full []]
  [(0, 1, .c (.one (.st (.int .i64 1)))),
  (1, 1, .t 3)])
  .no, .mk none none (.store 3 (.t 2) (.t 4))
  .no])
  .ret))
theorem tr_R_Var : trCode Tryd.prog 5 [] (Tryd.f41.body.getD .skip) = some ir_R_Var := by kernel_rfl
theorem ac_R_Var {xs : List AV} {r : AV} (hn : xs.length ≤ 5) (h : ∀ C : Ctx, C.n = 5 → IWP Tryd.prog C [] ir_R_Var (FinQ [.cell 2 true 3] r) (AS.start xs)) : ACalls Tryd.prog 41 xs r :=
  acalls_of Tryd.func41 rfl tr_R_Var rfl hn h
theorem acS_R_Var {xs : List AV} {S S' : AStore} {r : AV} (hn : xs.length ≤ 5) (h : Clean S → ∀ C : Ctx, C.n = 5 → IWP Tryd.prog C [] ir_R_Var (FinS C [.cell 2 true 3] r S') (AS.startS xs S)) : ACallsS Tryd.prog 41 xs S r S' :=
  acallsS_of Tryd.func41 rfl tr_R_Var rfl hn h

def ir_L_lam2 : IR :=
  (.seq
  (.ops
  [.mk (some 4) none (.box 24 (.t 0)) .no, .mk (some 6) none (.box 24 (.t 2)) .no, .mk (some 8) none (.mov (.c (.one (.st (.bool false)))))
  .no])
  (.seq
  (.seq
  (.ops
  [.mk (some 9) none (.mov (.t 3)) .no, .mk (some 10) none (.bin .neq (.t 9) (.c (.one (.st (.int .i64 0)))))
  .no])
  (.cond (.t 10)
  (.seq
  (.ops
  [.mk (some 11) none (.mov (.t 1)) .no, .mk (some 12) none (.mov (.t 3)) .no, .mk (some 13) none (.bin .eql (.t 11) (.t 12))
  .no, .mk (some 14) none (.mov (.t 13)) .no, .mk (some 15) (some (14, true)) (.fieldAddr 0 (.t 4)) .no, .mk (some 16) (some (14, true)) (.load false 1 (.t 15))
  .no, .mk (some 17) (some (14, true)) (.bin .eql (.t 16) (.c (.one (.st (.int .i64 0)))))
  .no, .mk (some 18) none
  (.pick (.t 14) (.t 17) (.c (.one (.st (.bool false)))))
  .no, .mk (some 19) none (.mov (.t 18)) .no, .mk (some 20) (some (19, true)) (.fieldAddr 1 (.t 4)) .no, .mk (some 21) (some (19, true)) (.load false 1 (.t 20))
  .no, .mk (some 22) (some (19, true)) (.bin .eql (.t 21) (.c (.one (.st (.int .i64 0)))))
  .no, .mk (some 23) none
  (.pick (.t 19) (.t 22) (.c (.one (.st (.bool false)))))
  .no, .mk (some 24) none (.mov (.t 23)) .no, .mk (some 25) (some (24, true)) (.fieldAddr 2 (.t 4)) .no, .mk (some 26) (some (24, true)) (.load false 1 (.t 25))
  .no, .mk (some 27) (some (24, true)) (.len false (.t 26))
  .no, .mk (some 28) (some (24, true)) (.bin .eql (.t 27) (.c (.one (.st (.int .i64 0)))))
  .no, .mk (some 29) none
  (.pick (.t 24) (.t 28) (.c (.one (.st (.bool false)))))
  .no, .mk (some 8) none (.mov (.t 29)) .no])
  .ret)
  .skip))
  (.seq
  (.ops
  [.mk (some 30) none (.mov (.t 1)) .no, .mk (some 31) none (.bin .eql (.t 30) (.c (.one (.st (.int .i64 0)))))
  .no, .mk (some 32) none (.mov (.t 31)) .no, .mk (some 33) (some (32, true)) (.load true 3 (.t 4)) .no, .mk (some 34) (some (32, true)) (.load true 3 (.t 6)) .no, .mk (some 35) (some (32, true)) (.call 46 [.t 33, .t 34])
  .no, .mk (some 36) none
  (.pick (.t 32) (.t 35) (.c (.one (.st (.bool false)))))
  .no, .mk (some 8) none (.mov (.t 36)) .no])
  .ret)))
theorem tr_L_lam2 : trCode Tryd.prog 37 [] (Tryd.f21.body.getD .skip) = some ir_L_lam2 := by kernel_rfl
theorem ac_L_lam2 {xs : List AV} {r : AV} (hn : xs.length ≤ 37) (h : ∀ C : Ctx, C.n = 37 → IWP Tryd.prog C [] ir_L_lam2 (FinQ [.t 8] r) (AS.start xs)) : ACalls Tryd.prog 21 xs r :=
  acalls_of Tryd.func21 rfl tr_L_lam2 rfl hn h
theorem acS_L_lam2 {xs : List AV} {S S' : AStore} {r : AV} (hn : xs.length ≤ 37) (h : Clean S → ∀ C : Ctx, C.n = 37 → IWP Tryd.prog C [] ir_L_lam2 (FinS C [.t 8] r S') (AS.startS xs S)) : ACallsS Tryd.prog 21 xs S r S' :=
  acallsS_of Tryd.func21 rfl tr_L_lam2 rfl hn h

def ir_L_hugeLam : IR :=
  (.seq
  (.ops
  [.mk (some 1) none (.box 24 (.t 0)) .no, .mk (some 2) none (.mov (.c (.one (.st (.bool false)))))
  .no])
  (.seq
  (.ops
  [.mk (some 3) none (.load true 3 (.t 1)) .no, .mk (some 4) none (.call 7
  [.t 3, .c (.one (.st (.int .i64 3000)))])
  .no, .mk (some 5) none (.bin .gtr (.t 4) (.c (.one (.st (.int .i64 3000)))))
  .no, .mk (some 2) none (.mov (.t 5)) .no])
  .ret))
theorem tr_L_hugeLam : trCode Tryd.prog 6 [] (Tryd.f5.body.getD .skip) = some ir_L_hugeLam := by kernel_rfl
theorem ac_L_hugeLam {xs : List AV} {r : AV} (hn : xs.length ≤ 6) (h : ∀ C : Ctx, C.n = 6 → IWP Tryd.prog C [] ir_L_hugeLam (FinQ [.t 2] r) (AS.start xs)) : ACalls Tryd.prog 5 xs r :=
  acalls_of Tryd.func5 rfl tr_L_hugeLam rfl hn h
theorem acS_L_hugeLam {xs : List AV} {S S' : AStore} {r : AV} (hn : xs.length ≤ 6) (h : Clean S → ∀ C : Ctx, C.n = 6 → IWP Tryd.prog C [] ir_L_hugeLam (FinS C [.t 2] r S') (AS.startS xs S)) : ACallsS Tryd.prog 5 xs S r S' :=
  acallsS_of Tryd.func5 rfl tr_L_hugeLam rfl hn h

end Go.Proofs.YteleofnflfofkaaDoor
