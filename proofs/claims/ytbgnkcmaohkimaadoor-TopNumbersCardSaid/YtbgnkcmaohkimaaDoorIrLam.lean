/-
  The program's functions in abstract operations: written by a program of mine out of the translation; each is shown to be the translation's.
  Conditions: none.
-/
import Derived.Test.YtbgnkcmaohkimaaDoorPLam
namespace Go.Proofs.YtbgnkcmaohkimaaDoor
open Go Go.RowKit
set_option maxRecDepth 100000

def ir_lambda_within : IR :=
  (.seq
  (.ops
  [.mk (some 2) none (.box 25 (.t 0)) .no, .mk (some 4) none (.mov (.c (.one (.st (.int .i64 0)))))
  .no])
  (.seq
  (.ops
  [.mk (some 7) none (.mov (.t 1)) .no, .mk (some 8) none (.bin .sub (.t 7) (.c (.one (.st (.int .i64 1)))))
  .no, .mk (some 1) none (.mov (.t 8)) .no])
  (.seq
  (.seq
  (.ops
  [.mk (some 9) none (.fieldAddr 2 (.t 2)) .no, .mk (some 10) none (.load false 1 (.t 9)) .no, .mk (some 11) none (.len false (.t 10)) .no, .mk (some 12) none (.mov (.c (.one (.st (.int .i64 0)))))
  .no])
  (.block 0
  (.loop
  (.seq
  (.ops
  [.mk (some 13) none (.bin .lss (.t 12) (.t 11))
  .no])
  (.seq (.cond (.t 13) .skip (.exit 0))
  (.seq
  (.block 1
  (.seq
  (.ops
  [.mk (some 14) none (.indexAddr 3 (.t 10) (.t 12))
  .no, .mk (some 15) none (.load true 3 (.t 14)) .no, .mk (some 6) none
  (.alloc 25
  [.st (.int .i64 0), .st (.int .i64 0),
  .full []])
  .no, .mk none none (.store 3 (.t 6) (.t 15))
  .no])
  (.seq
  (.seq
  (.ops
  [.mk (some 16) none (.mov (.t 1)) .no, .mk (some 17) none (.bin .lss (.t 16) (.c (.one (.st (.int .i64 0)))))
  .no])
  (.cond (.t 17) (.exit 0) .skip))
  (.ops
  [.mk (some 18) none (.load true 3 (.t 6)) .no, .mk (some 19) none (.mov (.t 1)) .no, .mk (some 20) none (.call 29 [.t 18, .t 19])
  .no, .mk (some 1) none (.mov (.t 20)) .no]))))
  (.ops
  [.mk (some 21) none (.bin .add (.t 12) (.c (.one (.st (.int .i64 1)))))
  .no, .mk (some 12) none (.mov (.t 21)) .no])))))))
  (.seq
  (.ops
  [.mk (some 22) none (.mov (.t 1)) .no, .mk (some 4) none (.mov (.t 22)) .no])
  .ret))))
theorem tr_lambda_within : trCode Tryd.prog 23 [] (Tryd.f29.body.getD .skip) = some ir_lambda_within := by kernel_rfl
theorem ac_lambda_within {xs : List AV} {r : AV} (hn : xs.length ≤ 23) (h : ∀ C : Ctx, C.n = 23 → IWP Tryd.prog C [] ir_lambda_within (FinQ [.t 4] r) (AS.start xs)) : ACalls Tryd.prog 29 xs r :=
  acalls_of Tryd.func29 rfl tr_lambda_within rfl hn h
theorem acS_lambda_within {xs : List AV} {S S' : AStore} {r : AV} (hn : xs.length ≤ 23) (h : Clean S → ∀ C : Ctx, C.n = 23 → IWP Tryd.prog C [] ir_lambda_within (FinS C [.t 4] r S') (AS.startS xs S)) : ACallsS Tryd.prog 29 xs S r S' :=
  acallsS_of Tryd.func29 rfl tr_lambda_within rfl hn h

def ir_lambda_check : IR :=
  (.seq
  (.ops
  [.mk (some 3) none (.box 25 (.t 0)) .no, .mk (some 6) none (.mov (.c (.one (.st (.int .i64 0)))))
  .no])
  (.seq
  (.seq
  (.ops
  [.mk (some 11) none (.fieldAddr 0 (.t 3)) .no, .mk (some 12) none (.load false 1 (.t 11)) .no, .mk (some 13) none (.bin .lss (.t 12) (.c (.one (.st (.int .i64 1)))))
  .no, .mk (some 14) none (.mov (.t 13)) .no, .mk (some 15) (some (14, false)) (.fieldAddr 0 (.t 3)) .no, .mk (some 16) (some (14, false)) (.load false 1 (.t 15))
  .no, .mk (some 17) (some (14, false)) (.bin .gtr (.t 16) (.c (.one (.st (.int .i64 5)))))
  .no, .mk (some 18) none
  (.pick (.t 14) (.c (.one (.st (.bool true)))) (.t 17))
  .no, .mk (some 19) none (.mov (.t 18)) .no, .mk (some 20) (some (19, false)) (.fieldAddr 2 (.t 3)) .no, .mk (some 21) (some (19, false)) (.load false 1 (.t 20))
  .no, .mk (some 22) (some (19, false)) (.len false (.t 21)) .no, .mk (some 23) (some (19, false)) (.fieldAddr 0 (.t 3)) .no, .mk (some 24) (some (19, false)) (.load false 1 (.t 23))
  .no, .mk (some 25) (some (19, false))
  (.indexArr 6 1 (.c (.one
  (.eptr
  [.int .i64 0, .int .i64 0, .int .i64 1, .int .i64 2, .int .i64 0, .int .i64 0]))) (.t 24))
  .no, .mk (some 26) (some (19, false)) (.load false 1 (.t 25))
  .no, .mk (some 27) (some (19, false)) (.bin .neq (.t 22) (.t 26)) .no, .mk (some 28) none
  (.pick (.t 19) (.c (.one (.st (.bool true)))) (.t 27))
  .no])
  (.cond (.t 28)
  (.seq
  (.ops
  [.mk (some 6) none (.mov (.c (.one (.st (.int .i64 2)))))
  .no])
  .ret)
  .skip))
  (.seq
  (.ops
  [.mk (some 7) none (.mov (.c (.one (.st (.int .i64 1)))))
  .no])
  (.seq
  (.seq
  (.ops
  [.mk (some 29) none (.fieldAddr 0 (.t 3)) .no, .mk (some 30) none (.load false 1 (.t 29)) .no])
  (.block 0
  (.seq
  (.ops
  [.mk (some 32) none (.bin .eql (.t 30) (.c (.one (.st (.int .i64 1)))))
  .no, .mk (some 31) none (.mov (.t 32)) .no])
  (.cond (.t 31)
  (.ops
  [.mk (some 33) none (.mov (.t 1)) .no, .mk (some 7) none (.mov (.t 33)) .no])
  (.seq
  (.ops
  [.mk (some 35) none (.bin .eql (.t 30) (.c (.one (.st (.int .i64 4)))))
  .no, .mk (some 34) none (.mov (.t 35)) .no])
  (.cond (.t 34)
  (.ops
  [.mk (some 7) none (.mov (.c (.one (.st (.int .i64 40)))))
  .no])
  (.seq
  (.ops
  [.mk (some 37) none (.bin .eql (.t 30) (.c (.one (.st (.int .i64 5)))))
  .no, .mk (some 36) none (.mov (.t 37)) .no])
  (.cond (.t 36)
  (.ops
  [.mk (some 38) none (.mov (.t 2)) .no, .mk (some 7) none (.mov (.t 38)) .no])
  .skip))))))))
  (.seq
  (.seq
  (.ops
  [.mk (some 39) none (.fieldAddr 1 (.t 3)) .no, .mk (some 40) none (.load false 1 (.t 39)) .no, .mk (some 41) none (.bin .lss (.t 40) (.c (.one (.st (.int .i64 0)))))
  .no, .mk (some 42) none (.mov (.t 41)) .no, .mk (some 43) (some (42, false)) (.fieldAddr 1 (.t 3))
  .no, .mk (some 44) (some (42, false)) (.load false 1 (.t 43))
  .no, .mk (some 45) (some (42, false)) (.mov (.t 7)) .no, .mk (some 46) (some (42, false)) (.bin .geq (.t 44) (.t 45)) .no, .mk (some 47) none
  (.pick (.t 42) (.c (.one (.st (.bool true)))) (.t 46))
  .no])
  (.cond (.t 47)
  (.seq
  (.ops
  [.mk (some 6) none (.mov (.c (.one (.st (.int .i64 15)))))
  .no])
  .ret)
  .skip))
  (.seq
  (.seq
  (.ops
  [.mk (some 48) none (.fieldAddr 0 (.t 3)) .no, .mk (some 49) none (.load false 1 (.t 48)) .no, .mk (some 50) none (.bin .eql (.t 49) (.c (.one (.st (.int .i64 2)))))
  .no])
  (.cond (.t 50)
  (.ops
  [.mk (some 51) none (.mov (.t 1)) .no, .mk (some 52) none (.bin .add (.t 51) (.c (.one (.st (.int .i64 1)))))
  .no, .mk (some 1) none (.mov (.t 52)) .no])
  .skip))
  (.seq
  (.seq
  (.ops
  [.mk (some 53) none (.fieldAddr 2 (.t 3)) .no, .mk (some 54) none (.load false 1 (.t 53)) .no, .mk (some 55) none (.len false (.t 54)) .no, .mk (some 56) none (.mov (.c (.one (.st (.int .i64 0)))))
  .no])
  (.block 1
  (.loop
  (.seq
  (.ops
  [.mk (some 57) none (.bin .lss (.t 56) (.t 55))
  .no])
  (.seq (.cond (.t 57) .skip (.exit 1))
  (.seq
  (.block 2
  (.seq
  (.ops
  [.mk (some 58) none
  (.indexAddr 3 (.t 54) (.t 56)) .no, .mk (some 59) none (.load true 3 (.t 58))
  .no, .mk (some 9) none
  (.alloc 25
  [.st (.int .i64 0), .st (.int .i64 0),
  .full []])
  .no, .mk none none (.store 3 (.t 9) (.t 59))
  .no])
  (.seq
  (.ops
  [.mk (some 60) none (.load true 3 (.t 9))
  .no, .mk (some 61) none (.mov (.t 1)) .no, .mk (some 62) none (.mov (.t 2)) .no, .mk (some 63) none (.call 30 [.t 60, .t 61, .t 62])
  .no, .mk (some 10) none (.mov (.t 63)) .no])
  (.seq
  (.ops
  [.mk (some 64) none (.mov (.t 10)) .no, .mk (some 65) none (.bin .neq (.t 64) (.c (.one (.st (.int .i64 0)))))
  .no])
  (.cond (.t 65)
  (.seq
  (.ops
  [.mk (some 66) none (.mov (.t 10)) .no, .mk (some 6) none (.mov (.t 66))
  .no])
  .ret)
  .skip)))))
  (.ops
  [.mk (some 67) none (.bin .add (.t 56) (.c (.one (.st (.int .i64 1)))))
  .no, .mk (some 56) none (.mov (.t 67)) .no])))))))
  (.seq
  (.ops
  [.mk (some 6) none (.mov (.c (.one (.st (.int .i64 0)))))
  .no])
  .ret))))))))
theorem tr_lambda_check : trCode Tryd.prog 68 [] (Tryd.f30.body.getD .skip) = some ir_lambda_check := by kernel_rfl
theorem ac_lambda_check {xs : List AV} {r : AV} (hn : xs.length ≤ 68) (h : ∀ C : Ctx, C.n = 68 → IWP Tryd.prog C [] ir_lambda_check (FinQ [.t 6] r) (AS.start xs)) : ACalls Tryd.prog 30 xs r :=
  acalls_of Tryd.func30 rfl tr_lambda_check rfl hn h
theorem acS_lambda_check {xs : List AV} {S S' : AStore} {r : AV} (hn : xs.length ≤ 68) (h : Clean S → ∀ C : Ctx, C.n = 68 → IWP Tryd.prog C [] ir_lambda_check (FinS C [.t 6] r S') (AS.startS xs S)) : ACallsS Tryd.prog 30 xs S r S' :=
  acallsS_of Tryd.func30 rfl tr_lambda_check rfl hn h

def ir_lambda_CheckWith : IR :=
  (.seq
  (.ops
  [.mk (some 3) none (.box 25 (.t 0)) .no, .mk (some 6) none (.mov (.c (.one (.st (.int .i64 0)))))
  .no])
  (.seq
  (.seq
  (.ops
  [.mk (some 7) none (.mov (.t 1)) .no, .mk (some 8) none (.bin .lss (.t 7) (.c (.one (.st (.int .i64 0)))))
  .no, .mk (some 9) none (.mov (.t 8)) .no, .mk (some 10) (some (9, false)) (.mov (.t 1)) .no, .mk (some 11) (some (9, false)) (.bin .gtr (.t 10) (.c (.one (.st (.int .i64 40)))))
  .no, .mk (some 12) none
  (.pick (.t 9) (.c (.one (.st (.bool true)))) (.t 11))
  .no])
  (.cond (.t 12)
  (.seq
  (.ops
  [.mk (some 6) none (.mov (.c (.one (.st (.int .i64 10)))))
  .no])
  .ret)
  .skip))
  (.seq
  (.seq
  (.ops
  [.mk (some 13) none (.load true 3 (.t 3)) .no, .mk (some 14) none (.call 29
  [.t 13, .c (.one (.st (.int .i64 200)))])
  .no, .mk (some 15) none (.bin .lss (.t 14) (.c (.one (.st (.int .i64 0)))))
  .no])
  (.cond (.t 15)
  (.seq
  (.ops
  [.mk (some 6) none (.mov (.c (.one (.st (.int .i64 3)))))
  .no])
  .ret)
  .skip))
  (.seq
  (.ops
  [.mk (some 16) none (.load true 3 (.t 3)) .no, .mk (some 17) none (.mov (.t 1)) .no, .mk (some 18) none (.mov (.t 2)) .no, .mk (some 19) none (.call 30 [.t 16, .t 17, .t 18]) .no, .mk (some 6) none (.mov (.t 19)) .no])
  .ret))))
theorem tr_lambda_CheckWith : trCode Tryd.prog 20 [] (Tryd.f26.body.getD .skip) = some ir_lambda_CheckWith := by kernel_rfl
theorem ac_lambda_CheckWith {xs : List AV} {r : AV} (hn : xs.length ≤ 20) (h : ∀ C : Ctx, C.n = 20 → IWP Tryd.prog C [] ir_lambda_CheckWith (FinQ [.t 6] r) (AS.start xs)) : ACalls Tryd.prog 26 xs r :=
  acalls_of Tryd.func26 rfl tr_lambda_CheckWith rfl hn h
theorem acS_lambda_CheckWith {xs : List AV} {S S' : AStore} {r : AV} (hn : xs.length ≤ 20) (h : Clean S → ∀ C : Ctx, C.n = 20 → IWP Tryd.prog C [] ir_lambda_CheckWith (FinS C [.t 6] r S') (AS.startS xs S)) : ACallsS Tryd.prog 26 xs S r S' :=
  acallsS_of Tryd.func26 rfl tr_lambda_CheckWith rfl hn h

def ir_lambda_Check : IR :=
  (.seq
  (.ops
  [.mk (some 2) none (.box 25 (.t 0)) .no, .mk (some 4) none (.mov (.c (.one (.st (.int .i64 0)))))
  .no])
  (.seq
  (.ops
  [.mk (some 5) none (.load true 3 (.t 2)) .no, .mk (some 6) none (.mov (.t 1)) .no, .mk (some 7) none (.call 26
  [.t 5, .t 6, .c (.one (.st (.int .i64 0)))])
  .no, .mk (some 4) none (.mov (.t 7)) .no])
  .ret))
theorem tr_lambda_Check : trCode Tryd.prog 8 [] (Tryd.f20.body.getD .skip) = some ir_lambda_Check := by kernel_rfl
theorem ac_lambda_Check {xs : List AV} {r : AV} (hn : xs.length ≤ 8) (h : ∀ C : Ctx, C.n = 8 → IWP Tryd.prog C [] ir_lambda_Check (FinQ [.t 4] r) (AS.start xs)) : ACalls Tryd.prog 20 xs r :=
  acalls_of Tryd.func20 rfl tr_lambda_Check rfl hn h
theorem acS_lambda_Check {xs : List AV} {S S' : AStore} {r : AV} (hn : xs.length ≤ 8) (h : Clean S → ∀ C : Ctx, C.n = 8 → IWP Tryd.prog C [] ir_lambda_Check (FinS C [.t 4] r S') (AS.startS xs S)) : ACallsS Tryd.prog 20 xs S r S' :=
  acallsS_of Tryd.func20 rfl tr_lambda_Check rfl hn h

def ir_lambda_Size : IR :=
  (.seq
  (.ops
  [.mk (some 1) none (.box 25 (.t 0)) .no, .mk (some 2) none (.mov (.c (.one (.st (.int .i64 0)))))
  .no])
  (.seq
  (.ops
  [.mk (some 3) none (.mov (.c (.one (.st (.int .i64 1)))))
  .no])
  (.seq
  (.seq
  (.ops
  [.mk (some 6) none (.fieldAddr 2 (.t 1)) .no, .mk (some 7) none (.load false 1 (.t 6)) .no, .mk (some 8) none (.len false (.t 7)) .no, .mk (some 9) none (.mov (.c (.one (.st (.int .i64 0)))))
  .no])
  (.block 0
  (.loop
  (.seq
  (.ops
  [.mk (some 10) none (.bin .lss (.t 9) (.t 8))
  .no])
  (.seq (.cond (.t 10) .skip (.exit 0))
  (.seq
  (.block 1
  (.seq
  (.ops
  [.mk (some 11) none (.indexAddr 3 (.t 7) (.t 9))
  .no, .mk (some 12) none (.load true 3 (.t 11)) .no, .mk (some 5) none
  (.alloc 25
  [.st (.int .i64 0), .st (.int .i64 0),
  .full []])
  .no, .mk none none (.store 3 (.t 5) (.t 12))
  .no])
  (.ops
  [.mk (some 13) none (.mov (.t 3)) .no, .mk (some 14) none (.load true 3 (.t 5)) .no, .mk (some 15) none (.call 22 [.t 14]) .no, .mk (some 16) none (.bin .add (.t 13) (.t 15)) .no, .mk (some 3) none (.mov (.t 16)) .no])))
  (.ops
  [.mk (some 17) none (.bin .add (.t 9) (.c (.one (.st (.int .i64 1)))))
  .no, .mk (some 9) none (.mov (.t 17)) .no])))))))
  (.seq
  (.ops
  [.mk (some 18) none (.mov (.t 3)) .no, .mk (some 2) none (.mov (.t 18)) .no])
  .ret))))
theorem tr_lambda_Size : trCode Tryd.prog 19 [] (Tryd.f22.body.getD .skip) = some ir_lambda_Size := by kernel_rfl
theorem ac_lambda_Size {xs : List AV} {r : AV} (hn : xs.length ≤ 19) (h : ∀ C : Ctx, C.n = 19 → IWP Tryd.prog C [] ir_lambda_Size (FinQ [.t 2] r) (AS.start xs)) : ACalls Tryd.prog 22 xs r :=
  acalls_of Tryd.func22 rfl tr_lambda_Size rfl hn h
theorem acS_lambda_Size {xs : List AV} {S S' : AStore} {r : AV} (hn : xs.length ≤ 19) (h : Clean S → ∀ C : Ctx, C.n = 19 → IWP Tryd.prog C [] ir_lambda_Size (FinS C [.t 2] r S') (AS.startS xs S)) : ACallsS Tryd.prog 22 xs S r S' :=
  acallsS_of Tryd.func22 rfl tr_lambda_Size rfl hn h

def ir_lambda_V : IR :=
  (.seq
  (.ops
  [.mk (some 2) none
  (.alloc 25
  [.st (.int .i64 0), .st (.int .i64 0),
  .full []])
  .no])
  (.seq
  (.ops
  [.mk (some 3) none (.mov (.t 0)) .no, .mk (some 4) none
  (.build
  [.st (.int .i64 0), .st (.int .i64 0),
  .full []]
  [(0, 1, .c (.one (.st (.int .i64 1)))),
  (1, 1, .t 3)])
  .no, .mk none none (.store 3 (.t 2) (.t 4))
  .no])
  .ret))
theorem tr_lambda_V : trCode Tryd.prog 5 [] (Tryd.f11.body.getD .skip) = some ir_lambda_V := by kernel_rfl
theorem ac_lambda_V {xs : List AV} {r : AV} (hn : xs.length ≤ 5) (h : ∀ C : Ctx, C.n = 5 → IWP Tryd.prog C [] ir_lambda_V (FinQ [.cell 2 true 3] r) (AS.start xs)) : ACalls Tryd.prog 11 xs r :=
  acalls_of Tryd.func11 rfl tr_lambda_V rfl hn h
theorem acS_lambda_V {xs : List AV} {S S' : AStore} {r : AV} (hn : xs.length ≤ 5) (h : Clean S → ∀ C : Ctx, C.n = 5 → IWP Tryd.prog C [] ir_lambda_V (FinS C [.cell 2 true 3] r S') (AS.startS xs S)) : ACallsS Tryd.prog 11 xs S r S' :=
  acallsS_of Tryd.func11 rfl tr_lambda_V rfl hn h

def ir_lambda_Move : IR :=
  (.seq
  (.ops
  [.mk (some 3) none (.box 25 (.t 0)) .no, .mk (some 6) none
  (.alloc 25
  [.st (.int .i64 0), .st (.int .i64 0),
  .full []])
  .no])
  (.seq
  (.ops
  [.mk (some 10) none (.fieldAddr 0 (.t 3)) .no, .mk (some 11) none (.load false 1 (.t 10)) .no, .mk (some 12) none (.fieldAddr 1 (.t 3)) .no, .mk (some 13) none (.load false 1 (.t 12)) .no, .mk (some 14) none
  (.build
  [.st (.int .i64 0), .st (.int .i64 0),
  .full []]
  [(0, 1, .t 11), (1, 1, .t 13)])
  .no, .mk (some 7) none
  (.alloc 25
  [.st (.int .i64 0), .st (.int .i64 0),
  .full []])
  .no, .mk none none (.store 3 (.t 7) (.t 14))
  .no])
  (.seq
  (.seq
  (.ops
  [.mk (some 15) none (.fieldAddr 0 (.t 3)) .no, .mk (some 16) none (.load false 1 (.t 15)) .no])
  (.block 0
  (.seq
  (.ops
  [.mk (some 18) none (.bin .eql (.t 16) (.c (.one (.st (.int .i64 1)))))
  .no, .mk (some 17) none (.mov (.t 18)) .no])
  (.cond (.t 17)
  (.seq
  (.ops
  [.mk (some 19) none (.fieldAddr 1 (.t 3)) .no, .mk (some 20) none (.load false 1 (.t 19)) .no, .mk (some 21) none (.mov (.t 2)) .no, .mk (some 22) none (.bin .geq (.t 20) (.t 21))
  .no])
  (.cond (.t 22)
  (.ops
  [.mk (some 23) none (.fieldAddr 1 (.t 7)) .no, .mk (some 24) none (.load false 1 (.t 23)) .no, .mk (some 25) none (.mov (.t 1)) .no, .mk (some 26) none (.bin .add (.t 24) (.t 25))
  .no, .mk (some 27) none (.fieldAddr 1 (.t 7)) .no, .mk none none (.store 1 (.t 27) (.t 26))
  .no])
  .skip))
  (.seq
  (.ops
  [.mk (some 29) none (.bin .eql (.t 16) (.c (.one (.st (.int .i64 2)))))
  .no, .mk (some 28) none (.mov (.t 29)) .no])
  (.cond (.t 28)
  (.ops
  [.mk (some 30) none (.mov (.t 2)) .no, .mk (some 31) none (.bin .add (.t 30) (.c (.one (.st (.int .i64 1)))))
  .no, .mk (some 2) none (.mov (.t 31)) .no])
  .skip))))))
  (.seq
  (.seq
  (.ops
  [.mk (some 32) none (.fieldAddr 2 (.t 3)) .no, .mk (some 33) none (.load false 1 (.t 32)) .no, .mk (some 34) none (.len false (.t 33)) .no, .mk (some 35) none (.mov (.c (.one (.st (.int .i64 0)))))
  .no])
  (.block 1
  (.loop
  (.seq
  (.ops
  [.mk (some 36) none (.bin .lss (.t 35) (.t 34))
  .no])
  (.seq (.cond (.t 36) .skip (.exit 1))
  (.seq
  (.block 2
  (.seq
  (.ops
  [.mk (some 37) none (.indexAddr 3 (.t 33) (.t 35))
  .no, .mk (some 38) none (.load true 3 (.t 37)) .no, .mk (some 9) none
  (.alloc 25
  [.st (.int .i64 0), .st (.int .i64 0),
  .full []])
  .no, .mk none none (.store 3 (.t 9) (.t 38))
  .no])
  (.ops
  [.mk (some 39) none (.fieldAddr 2 (.t 7)) .no, .mk (some 40) none (.load false 1 (.t 39))
  .no, .mk (some 41) none (.load true 3 (.t 9)) .no, .mk (some 42) none (.mov (.t 1)) .no, .mk (some 43) none (.mov (.t 2)) .no, .mk (some 44) none (.call 27 [.t 41, .t 42, .t 43])
  .no, .mk (some 45) none (.buildSlice false 25 3 [.t 44])
  .no, .mk (some 46) none
  (.append false 25 3 40 (.t 40) (.t 45)) .no, .mk (some 47) none (.fieldAddr 2 (.t 7)) .no, .mk none none (.store 1 (.t 47) (.t 46))
  .no])))
  (.ops
  [.mk (some 48) none (.bin .add (.t 35) (.c (.one (.st (.int .i64 1)))))
  .no, .mk (some 35) none (.mov (.t 48)) .no])))))))
  (.seq
  (.ops
  [.mk (some 49) none (.load true 3 (.t 7)) .no, .mk none none (.store 3 (.t 6) (.t 49))
  .no])
  .ret)))))
theorem tr_lambda_Move : trCode Tryd.prog 50 [] (Tryd.f27.body.getD .skip) = some ir_lambda_Move := by kernel_rfl
theorem ac_lambda_Move {xs : List AV} {r : AV} (hn : xs.length ≤ 50) (h : ∀ C : Ctx, C.n = 50 → IWP Tryd.prog C [] ir_lambda_Move (FinQ [.cell 6 true 3] r) (AS.start xs)) : ACalls Tryd.prog 27 xs r :=
  acalls_of Tryd.func27 rfl tr_lambda_Move rfl hn h
theorem acS_lambda_Move {xs : List AV} {S S' : AStore} {r : AV} (hn : xs.length ≤ 50) (h : Clean S → ∀ C : Ctx, C.n = 50 → IWP Tryd.prog C [] ir_lambda_Move (FinS C [.cell 6 true 3] r S') (AS.startS xs S)) : ACallsS Tryd.prog 27 xs S r S' :=
  acallsS_of Tryd.func27 rfl tr_lambda_Move rfl hn h

def ir_lambda_into : IR :=
  (.seq
  (.ops
  [.mk (some 3) none (.box 25 (.t 0)) .no, .mk (some 4) none (.box 25 (.t 1)) .no, .mk (some 6) none
  (.alloc 25
  [.st (.int .i64 0), .st (.int .i64 0),
  .full []])
  .no])
  (.seq
  (.seq
  (.ops
  [.mk (some 10) none (.fieldAddr 0 (.t 3)) .no, .mk (some 11) none (.load false 1 (.t 10)) .no, .mk (some 12) none (.bin .eql (.t 11) (.c (.one (.st (.int .i64 1)))))
  .no])
  (.cond (.t 12)
  (.seq
  (.block 0
  (.seq
  (.ops
  [.mk (some 14) none (.fieldAddr 1 (.t 3)) .no, .mk (some 15) none (.load false 1 (.t 14)) .no, .mk (some 16) none (.mov (.t 2)) .no, .mk (some 17) none (.bin .eql (.t 15) (.t 16))
  .no, .mk (some 13) none (.mov (.t 17)) .no])
  (.cond (.t 13)
  (.seq
  (.ops
  [.mk (some 18) none (.load true 3 (.t 4)) .no, .mk (some 19) none (.mov (.t 2)) .no, .mk (some 20) none (.call 27
  [.t 18, .t 19, .c (.one (.st (.int .i64 0)))])
  .no, .mk none none (.store 3 (.t 6) (.t 20))
  .no])
  .ret)
  (.seq
  (.ops
  [.mk (some 22) none (.fieldAddr 1 (.t 3)) .no, .mk (some 23) none (.load false 1 (.t 22)) .no, .mk (some 24) none (.mov (.t 2)) .no, .mk (some 25) none (.bin .gtr (.t 23) (.t 24))
  .no, .mk (some 21) none (.mov (.t 25)) .no])
  (.cond (.t 21)
  (.seq
  (.ops
  [.mk (some 26) none (.fieldAddr 1 (.t 3)) .no, .mk (some 27) none (.load false 1 (.t 26)) .no, .mk (some 28) none (.bin .sub (.t 27) (.c (.one (.st (.int .i64 1)))))
  .no, .mk (some 29) none (.call 11 [.t 28]) .no, .mk none none (.store 3 (.t 6) (.t 29))
  .no])
  .ret)
  .skip)))))
  (.seq
  (.ops
  [.mk (some 30) none (.fieldAddr 1 (.t 3)) .no, .mk (some 31) none (.load false 1 (.t 30)) .no, .mk (some 32) none (.call 11 [.t 31]) .no, .mk none none (.store 3 (.t 6) (.t 32))
  .no])
  .ret))
  .skip))
  (.seq
  (.ops
  [.mk (some 33) none (.fieldAddr 0 (.t 3)) .no, .mk (some 34) none (.load false 1 (.t 33)) .no, .mk (some 35) none (.fieldAddr 1 (.t 3)) .no, .mk (some 36) none (.load false 1 (.t 35)) .no, .mk (some 37) none
  (.build
  [.st (.int .i64 0), .st (.int .i64 0),
  .full []]
  [(0, 1, .t 34), (1, 1, .t 36)])
  .no, .mk (some 7) none
  (.alloc 25
  [.st (.int .i64 0), .st (.int .i64 0),
  .full []])
  .no, .mk none none (.store 3 (.t 7) (.t 37))
  .no])
  (.seq
  (.seq
  (.ops
  [.mk (some 38) none (.fieldAddr 0 (.t 3)) .no, .mk (some 39) none (.load false 1 (.t 38)) .no, .mk (some 40) none (.bin .eql (.t 39) (.c (.one (.st (.int .i64 2)))))
  .no])
  (.cond (.t 40)
  (.ops
  [.mk (some 41) none (.mov (.t 2)) .no, .mk (some 42) none (.bin .add (.t 41) (.c (.one (.st (.int .i64 1)))))
  .no, .mk (some 2) none (.mov (.t 42)) .no])
  .skip))
  (.seq
  (.seq
  (.ops
  [.mk (some 43) none (.fieldAddr 2 (.t 3)) .no, .mk (some 44) none (.load false 1 (.t 43)) .no, .mk (some 45) none (.len false (.t 44)) .no, .mk (some 46) none (.mov (.c (.one (.st (.int .i64 0)))))
  .no])
  (.block 1
  (.loop
  (.seq
  (.ops
  [.mk (some 47) none (.bin .lss (.t 46) (.t 45))
  .no])
  (.seq (.cond (.t 47) .skip (.exit 1))
  (.seq
  (.block 2
  (.seq
  (.ops
  [.mk (some 48) none (.indexAddr 3 (.t 44) (.t 46))
  .no, .mk (some 49) none (.load true 3 (.t 48))
  .no, .mk (some 9) none
  (.alloc 25
  [.st (.int .i64 0), .st (.int .i64 0),
  .full []])
  .no, .mk none none (.store 3 (.t 9) (.t 49))
  .no])
  (.ops
  [.mk (some 50) none (.fieldAddr 2 (.t 7)) .no, .mk (some 51) none (.load false 1 (.t 50))
  .no, .mk (some 52) none (.load true 3 (.t 9))
  .no, .mk (some 53) none (.load true 3 (.t 4))
  .no, .mk (some 54) none (.mov (.t 2)) .no, .mk (some 55) none (.call 31 [.t 52, .t 53, .t 54])
  .no, .mk (some 56) none (.buildSlice false 25 3 [.t 55])
  .no, .mk (some 57) none
  (.append false 25 3 40 (.t 51) (.t 56)) .no, .mk (some 58) none (.fieldAddr 2 (.t 7)) .no, .mk none none (.store 1 (.t 58) (.t 57))
  .no])))
  (.ops
  [.mk (some 59) none (.bin .add (.t 46) (.c (.one (.st (.int .i64 1)))))
  .no, .mk (some 46) none (.mov (.t 59)) .no])))))))
  (.seq
  (.ops
  [.mk (some 60) none (.load true 3 (.t 7)) .no, .mk none none (.store 3 (.t 6) (.t 60))
  .no])
  .ret))))))
theorem tr_lambda_into : trCode Tryd.prog 61 [] (Tryd.f31.body.getD .skip) = some ir_lambda_into := by kernel_rfl
theorem ac_lambda_into {xs : List AV} {r : AV} (hn : xs.length ≤ 61) (h : ∀ C : Ctx, C.n = 61 → IWP Tryd.prog C [] ir_lambda_into (FinQ [.cell 6 true 3] r) (AS.start xs)) : ACalls Tryd.prog 31 xs r :=
  acalls_of Tryd.func31 rfl tr_lambda_into rfl hn h
theorem acS_lambda_into {xs : List AV} {S S' : AStore} {r : AV} (hn : xs.length ≤ 61) (h : Clean S → ∀ C : Ctx, C.n = 61 → IWP Tryd.prog C [] ir_lambda_into (FinS C [.cell 6 true 3] r S') (AS.startS xs S)) : ACallsS Tryd.prog 31 xs S r S' :=
  acallsS_of Tryd.func31 rfl tr_lambda_into rfl hn h

def ir_lambda_Into : IR :=
  (.seq
  (.ops
  [.mk (some 2) none (.box 25 (.t 0)) .no, .mk (some 3) none (.box 25 (.t 1)) .no, .mk (some 4) none
  (.alloc 25
  [.st (.int .i64 0), .st (.int .i64 0),
  .full []])
  .no])
  (.seq
  (.ops
  [.mk (some 5) none (.load true 3 (.t 2)) .no, .mk (some 6) none (.load true 3 (.t 3)) .no, .mk (some 7) none (.call 31
  [.t 5, .t 6, .c (.one (.st (.int .i64 0)))])
  .no, .mk none none (.store 3 (.t 4) (.t 7))
  .no])
  .ret))
theorem tr_lambda_Into : trCode Tryd.prog 8 [] (Tryd.f28.body.getD .skip) = some ir_lambda_Into := by kernel_rfl
theorem ac_lambda_Into {xs : List AV} {r : AV} (hn : xs.length ≤ 8) (h : ∀ C : Ctx, C.n = 8 → IWP Tryd.prog C [] ir_lambda_Into (FinQ [.cell 4 true 3] r) (AS.start xs)) : ACalls Tryd.prog 28 xs r :=
  acalls_of Tryd.func28 rfl tr_lambda_Into rfl hn h
theorem acS_lambda_Into {xs : List AV} {S S' : AStore} {r : AV} (hn : xs.length ≤ 8) (h : Clean S → ∀ C : Ctx, C.n = 8 → IWP Tryd.prog C [] ir_lambda_Into (FinS C [.cell 4 true 3] r S') (AS.startS xs S)) : ACallsS Tryd.prog 28 xs S r S' :=
  acallsS_of Tryd.func28 rfl tr_lambda_Into rfl hn h

def ir_R_Var : IR :=
  (.seq
  (.ops
  [.mk (some 2) none
  (.alloc 25
  [.st (.int .i64 0), .st (.int .i64 0),
  .full []])
  .no])
  (.seq
  (.ops
  [.mk (some 3) none (.mov (.t 0)) .no, .mk (some 4) none
  (.build
  [.st (.int .i64 0), .st (.int .i64 0),
  .full []]
  [(0, 1, .c (.one (.st (.int .i64 1)))),
  (1, 1, .t 3)])
  .no, .mk none none (.store 3 (.t 2) (.t 4))
  .no])
  .ret))
theorem tr_R_Var : trCode Tryd.prog 5 [] (Tryd.f9.body.getD .skip) = some ir_R_Var := by kernel_rfl
theorem ac_R_Var {xs : List AV} {r : AV} (hn : xs.length ≤ 5) (h : ∀ C : Ctx, C.n = 5 → IWP Tryd.prog C [] ir_R_Var (FinQ [.cell 2 true 3] r) (AS.start xs)) : ACalls Tryd.prog 9 xs r :=
  acalls_of Tryd.func9 rfl tr_R_Var rfl hn h
theorem acS_R_Var {xs : List AV} {S S' : AStore} {r : AV} (hn : xs.length ≤ 5) (h : Clean S → ∀ C : Ctx, C.n = 5 → IWP Tryd.prog C [] ir_R_Var (FinS C [.cell 2 true 3] r S') (AS.startS xs S)) : ACallsS Tryd.prog 9 xs S r S' :=
  acallsS_of Tryd.func9 rfl tr_R_Var rfl hn h

def ir_R_Higher : IR :=
  (.seq
  (.ops
  [.mk (some 3) none (.box 25 (.t 0)) .no, .mk (some 6) none
  (.alloc 25
  [.st (.int .i64 0), .st (.int .i64 0),
  .full []])
  .no])
  (.seq
  (.seq
  (.ops
  [.mk (some 9) none (.fieldAddr 0 (.t 3)) .no, .mk (some 10) none (.load false 1 (.t 9)) .no, .mk (some 11) none (.bin .eql (.t 10) (.c (.one (.st (.int .i64 1)))))
  .no])
  (.cond (.t 11)
  (.seq
  (.seq
  (.ops
  [.mk (some 12) none (.fieldAddr 1 (.t 3)) .no, .mk (some 13) none (.load false 1 (.t 12)) .no, .mk (some 14) none (.mov (.t 2)) .no, .mk (some 15) none (.bin .lss (.t 13) (.t 14))
  .no])
  (.cond (.t 15)
  (.seq
  (.ops
  [.mk (some 16) none (.load true 3 (.t 3)) .no, .mk none none (.store 3 (.t 6) (.t 16))
  .no])
  .ret)
  .skip))
  (.seq
  (.ops
  [.mk (some 17) none (.fieldAddr 1 (.t 3)) .no, .mk (some 18) none (.load false 1 (.t 17)) .no, .mk (some 19) none (.mov (.t 1)) .no, .mk (some 20) none (.bin .add (.t 18) (.t 19))
  .no, .mk (some 21) none (.call 9 [.t 20]) .no, .mk none none (.store 3 (.t 6) (.t 21))
  .no])
  .ret))
  .skip))
  (.seq
  (.seq
  (.ops
  [.mk (some 22) none (.fieldAddr 0 (.t 3)) .no, .mk (some 23) none (.load false 1 (.t 22)) .no, .mk (some 24) none (.bin .eql (.t 23) (.c (.one (.st (.int .i64 2)))))
  .no])
  (.cond (.t 24)
  (.ops
  [.mk (some 25) none (.mov (.t 2)) .no, .mk (some 26) none (.bin .add (.t 25) (.c (.one (.st (.int .i64 1)))))
  .no, .mk (some 2) none (.mov (.t 26)) .no])
  .skip))
  (.seq
  (.ops
  [.mk (some 27) none (.fieldAddr 0 (.t 3)) .no, .mk (some 28) none (.load false 1 (.t 27)) .no, .mk (some 29) none (.fieldAddr 1 (.t 3)) .no, .mk (some 30) none (.load false 1 (.t 29)) .no, .mk (some 31) none
  (.build
  [.st (.int .i64 0), .st (.int .i64 0),
  .full []]
  [(0, 1, .t 28), (1, 1, .t 30)])
  .no, .mk (some 7) none
  (.alloc 25
  [.st (.int .i64 0), .st (.int .i64 0),
  .full []])
  .no, .mk none none (.store 3 (.t 7) (.t 31))
  .no])
  (.seq
  (.seq
  (.ops
  [.mk (some 8) none (.mov (.c (.one (.st (.int .i64 0)))))
  .no])
  (.block 0
  (.loop
  (.seq
  (.seq
  (.ops
  [.mk (some 32) none (.mov (.t 8)) .no, .mk (some 33) none (.fieldAddr 2 (.t 3)) .no, .mk (some 34) none (.load false 1 (.t 33)) .no, .mk (some 35) none (.len false (.t 34)) .no, .mk (some 36) none (.bin .lss (.t 32) (.t 35))
  .no])
  (.cond (.t 36) .skip (.exit 0)))
  (.seq
  (.block 1
  (.ops
  [.mk (some 39) none (.fieldAddr 2 (.t 7)) .no, .mk (some 40) none (.load false 1 (.t 39)) .no, .mk (some 41) none (.fieldAddr 2 (.t 3)) .no, .mk (some 42) none (.load false 1 (.t 41)) .no, .mk (some 43) none (.mov (.t 8)) .no, .mk (some 44) none (.indexAddr 3 (.t 42) (.t 43))
  .no, .mk (some 45) none (.load true 3 (.t 44)) .no, .mk (some 46) none (.mov (.t 1)) .no, .mk (some 47) none (.mov (.t 2)) .no, .mk (some 48) none (.call 8 [.t 45, .t 46, .t 47])
  .no, .mk (some 49) none (.buildSlice false 25 3 [.t 48])
  .no, .mk (some 50) none
  (.append false 25 3 40 (.t 40) (.t 49)) .no, .mk (some 51) none (.fieldAddr 2 (.t 7)) .no, .mk none none (.store 1 (.t 51) (.t 50))
  .no]))
  (.ops
  [.mk (some 37) none (.mov (.t 8)) .no, .mk (some 38) none (.bin .add (.t 37) (.c (.one (.st (.int .i64 1)))))
  .no, .mk (some 8) none (.mov (.t 38)) .no]))))))
  (.seq
  (.ops
  [.mk (some 52) none (.load true 3 (.t 7)) .no, .mk none none (.store 3 (.t 6) (.t 52))
  .no])
  .ret))))))
theorem tr_R_Higher : trCode Tryd.prog 53 [] (Tryd.f8.body.getD .skip) = some ir_R_Higher := by kernel_rfl
theorem ac_R_Higher {xs : List AV} {r : AV} (hn : xs.length ≤ 53) (h : ∀ C : Ctx, C.n = 53 → IWP Tryd.prog C [] ir_R_Higher (FinQ [.cell 6 true 3] r) (AS.start xs)) : ACalls Tryd.prog 8 xs r :=
  acalls_of Tryd.func8 rfl tr_R_Higher rfl hn h
theorem acS_R_Higher {xs : List AV} {S S' : AStore} {r : AV} (hn : xs.length ≤ 53) (h : Clean S → ∀ C : Ctx, C.n = 53 → IWP Tryd.prog C [] ir_R_Higher (FinS C [.cell 6 true 3] r S') (AS.startS xs S)) : ACallsS Tryd.prog 8 xs S r S' :=
  acallsS_of Tryd.func8 rfl tr_R_Higher rfl hn h

end Go.Proofs.YtbgnkcmaohkimaaDoor
