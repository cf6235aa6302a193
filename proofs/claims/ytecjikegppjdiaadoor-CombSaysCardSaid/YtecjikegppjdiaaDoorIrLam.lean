/-
  The program's functions in abstract operations: written by a program of mine out of the translation; each is shown to be the translation's.
  Conditions: none.
-/
import Derived.Test.YtecjikegppjdiaaDoorPLam
namespace Go.Proofs.YtecjikegppjdiaaDoor
open Go Go.RowKit
set_option maxRecDepth 100000

def ir_lambda_Size : IR :=
  (.seq
  (.ops
  [.mk (some 1) none (.box 36 (.t 0)) .no, .mk (some 2) none (.mov (.c (.one (.st (.int .i64 0)))))
  .no])
  (.seq
  (.ops
  [.mk (some 3) none (.mov (.c (.one (.st (.int .i64 1)))))
  .no])
  (.seq
  (.seq
  (.ops
  [.mk (some 6) none (.fieldAddr 2 (.t 1)) .no, .mk (some 7) none (.load false 1 (.t 6)) .no, .mk (some 8) none (.len false (.t 7)) .no, .mk (some 9) none (.mov (.c (.one (.st (.int .i64 0)))))
  .no])
  (.block 0
  (.loop
  (.seq
  (.ops
  [.mk (some 10) none (.bin .lss (.t 9) (.t 8))
  .no])
  (.seq (.cond (.t 10) .skip (.exit 0))
  (.seq
  (.block 1
  (.seq
  (.ops
  [.mk (some 11) none (.indexAddr 3 (.t 7) (.t 9))
  .no, .mk (some 12) none (.load true 3 (.t 11)) .no, .mk (some 5) none
  (.alloc 36
  [.st (.int .i64 0), .st (.int .i64 0),
  .full []])
  .no, .mk none none (.store 3 (.t 5) (.t 12))
  .no])
  (.ops
  [.mk (some 13) none (.mov (.t 3)) .no, .mk (some 14) none (.load true 3 (.t 5)) .no, .mk (some 15) none (.call 36 [.t 14]) .no, .mk (some 16) none (.bin .add (.t 13) (.t 15)) .no, .mk (some 3) none (.mov (.t 16)) .no])))
  (.ops
  [.mk (some 17) none (.bin .add (.t 9) (.c (.one (.st (.int .i64 1)))))
  .no, .mk (some 9) none (.mov (.t 17)) .no])))))))
  (.seq
  (.ops
  [.mk (some 18) none (.mov (.t 3)) .no, .mk (some 2) none (.mov (.t 18)) .no])
  .ret))))
theorem tr_lambda_Size : trCode Tryd.prog 19 [] (Tryd.f36.body.getD .skip) = some ir_lambda_Size := by kernel_rfl
theorem ac_lambda_Size {xs : List AV} {r : AV} (hn : xs.length ≤ 19) (h : ∀ C : Ctx, C.n = 19 → IWP Tryd.prog C [] ir_lambda_Size (FinQ [.t 2] r) (AS.start xs)) : ACalls Tryd.prog 36 xs r :=
  acalls_of Tryd.func36 rfl tr_lambda_Size rfl hn h
theorem acS_lambda_Size {xs : List AV} {S S' : AStore} {r : AV} (hn : xs.length ≤ 19) (h : Clean S → ∀ C : Ctx, C.n = 19 → IWP Tryd.prog C [] ir_lambda_Size (FinS C [.t 2] r S') (AS.startS xs S)) : ACallsS Tryd.prog 36 xs S r S' :=
  acallsS_of Tryd.func36 rfl tr_lambda_Size rfl hn h

def ir_lambda_V : IR :=
  (.seq
  (.ops
  [.mk (some 2) none
  (.alloc 36
  [.st (.int .i64 0), .st (.int .i64 0),
  .full []])
  .no])
  (.seq
  (.ops
  [.mk (some 3) none (.mov (.t 0)) .no, .mk (some 4) none
  (.build
  [.st (.int .i64 0), .st (.int .i64 0),
  .full []]
  [(0, 1, .c (.one (.st (.int .i64 1)))),
  (1, 1, .t 3)])
  .no, .mk none none (.store 3 (.t 2) (.t 4))
  .no])
  .ret))
theorem tr_lambda_V : trCode Tryd.prog 5 [] (Tryd.f54.body.getD .skip) = some ir_lambda_V := by kernel_rfl
theorem ac_lambda_V {xs : List AV} {r : AV} (hn : xs.length ≤ 5) (h : ∀ C : Ctx, C.n = 5 → IWP Tryd.prog C [] ir_lambda_V (FinQ [.cell 2 true 3] r) (AS.start xs)) : ACalls Tryd.prog 54 xs r :=
  acalls_of Tryd.func54 rfl tr_lambda_V rfl hn h
theorem acS_lambda_V {xs : List AV} {S S' : AStore} {r : AV} (hn : xs.length ≤ 5) (h : Clean S → ∀ C : Ctx, C.n = 5 → IWP Tryd.prog C [] ir_lambda_V (FinS C [.cell 2 true 3] r S') (AS.startS xs S)) : ACallsS Tryd.prog 54 xs S r S' :=
  acallsS_of Tryd.func54 rfl tr_lambda_V rfl hn h

def ir_R_LamSize : IR :=
  (.seq
  (.ops
  [.mk (some 2) none (.box 36 (.t 0)) .no, .mk (some 4) none (.mov (.c (.one (.st (.int .i64 0)))))
  .no])
  (.seq
  (.ops
  [.mk (some 5) none (.mov (.c (.one (.st (.int .i64 1)))))
  .no])
  (.seq
  (.seq
  (.ops
  [.mk (some 6) none (.mov (.c (.one (.st (.int .i64 0)))))
  .no])
  (.block 0
  (.loop
  (.seq
  (.seq
  (.ops
  [.mk (some 7) none (.mov (.t 6)) .no, .mk (some 8) none (.fieldAddr 2 (.t 2)) .no, .mk (some 9) none (.load false 1 (.t 8)) .no, .mk (some 10) none (.len false (.t 9)) .no, .mk (some 11) none (.bin .lss (.t 7) (.t 10))
  .no, .mk (some 12) none (.mov (.t 11)) .no, .mk (some 13) (some (12, true)) (.mov (.t 5)) .no, .mk (some 14) (some (12, true)) (.mov (.t 1)) .no, .mk (some 15) (some (12, true)) (.bin .leq (.t 13) (.t 14)) .no, .mk (some 16) none
  (.pick (.t 12) (.t 15) (.c (.one (.st (.bool false)))))
  .no])
  (.cond (.t 16) .skip (.exit 0)))
  (.seq
  (.block 1
  (.ops
  [.mk (some 19) none (.mov (.t 5)) .no, .mk (some 20) none (.fieldAddr 2 (.t 2)) .no, .mk (some 21) none (.load false 1 (.t 20)) .no, .mk (some 22) none (.mov (.t 6)) .no, .mk (some 23) none (.indexAddr 3 (.t 21) (.t 22))
  .no, .mk (some 24) none (.load true 3 (.t 23)) .no, .mk (some 25) none (.mov (.t 1)) .no, .mk (some 26) none (.mov (.t 5)) .no, .mk (some 27) none (.bin .sub (.t 25) (.t 26))
  .no, .mk (some 28) none (.call 14 [.t 24, .t 27])
  .no, .mk (some 29) none (.bin .add (.t 19) (.t 28))
  .no, .mk (some 5) none (.mov (.t 29)) .no]))
  (.ops
  [.mk (some 17) none (.mov (.t 6)) .no, .mk (some 18) none (.bin .add (.t 17) (.c (.one (.st (.int .i64 1)))))
  .no, .mk (some 6) none (.mov (.t 18)) .no]))))))
  (.seq
  (.seq
  (.ops
  [.mk (some 30) none (.mov (.t 5)) .no, .mk (some 31) none (.mov (.t 1)) .no, .mk (some 32) none (.bin .gtr (.t 30) (.t 31))
  .no])
  (.cond (.t 32)
  (.seq
  (.ops
  [.mk (some 33) none (.mov (.t 1)) .no, .mk (some 34) none (.bin .add (.t 33) (.c (.one (.st (.int .i64 1)))))
  .no, .mk (some 4) none (.mov (.t 34)) .no])
  .ret)
  .skip))
  (.seq
  (.ops
  [.mk (some 35) none (.mov (.t 5)) .no, .mk (some 4) none (.mov (.t 35)) .no])
  .ret)))))
theorem tr_R_LamSize : trCode Tryd.prog 36 [] (Tryd.f14.body.getD .skip) = some ir_R_LamSize := by kernel_rfl
theorem ac_R_LamSize {xs : List AV} {r : AV} (hn : xs.length ≤ 36) (h : ∀ C : Ctx, C.n = 36 → IWP Tryd.prog C [] ir_R_LamSize (FinQ [.t 4] r) (AS.start xs)) : ACalls Tryd.prog 14 xs r :=
  acalls_of Tryd.func14 rfl tr_R_LamSize rfl hn h
theorem acS_R_LamSize {xs : List AV} {S S' : AStore} {r : AV} (hn : xs.length ≤ 36) (h : Clean S → ∀ C : Ctx, C.n = 36 → IWP Tryd.prog C [] ir_R_LamSize (FinS C [.t 4] r S') (AS.startS xs S)) : ACallsS Tryd.prog 14 xs S r S' :=
  acallsS_of Tryd.func14 rfl tr_R_LamSize rfl hn h

def ir_R_SameLam : IR :=
  (.seq
  (.ops
  [.mk (some 2) none (.box 36 (.t 0)) .no, .mk (some 3) none (.box 36 (.t 1)) .no, .mk (some 4) none (.mov (.c (.one (.st (.bool false)))))
  .no])
  (.seq
  (.seq
  (.ops
  [.mk (some 6) none (.fieldAddr 0 (.t 2)) .no, .mk (some 7) none (.load false 1 (.t 6)) .no, .mk (some 8) none (.fieldAddr 0 (.t 3)) .no, .mk (some 9) none (.load false 1 (.t 8)) .no, .mk (some 10) none (.bin .neq (.t 7) (.t 9))
  .no, .mk (some 11) none (.mov (.t 10)) .no, .mk (some 12) (some (11, false)) (.fieldAddr 1 (.t 2)) .no, .mk (some 13) (some (11, false)) (.load false 1 (.t 12))
  .no, .mk (some 14) (some (11, false)) (.fieldAddr 1 (.t 3)) .no, .mk (some 15) (some (11, false)) (.load false 1 (.t 14))
  .no, .mk (some 16) (some (11, false)) (.bin .neq (.t 13) (.t 15)) .no, .mk (some 17) none
  (.pick (.t 11) (.c (.one (.st (.bool true)))) (.t 16))
  .no, .mk (some 18) none (.mov (.t 17)) .no, .mk (some 19) (some (18, false)) (.fieldAddr 2 (.t 2)) .no, .mk (some 20) (some (18, false)) (.load false 1 (.t 19))
  .no, .mk (some 21) (some (18, false)) (.len false (.t 20)) .no, .mk (some 22) (some (18, false)) (.fieldAddr 2 (.t 3)) .no, .mk (some 23) (some (18, false)) (.load false 1 (.t 22))
  .no, .mk (some 24) (some (18, false)) (.len false (.t 23)) .no, .mk (some 25) (some (18, false)) (.bin .neq (.t 21) (.t 24)) .no, .mk (some 26) none
  (.pick (.t 18) (.c (.one (.st (.bool true)))) (.t 25))
  .no])
  (.cond (.t 26)
  (.seq
  (.ops
  [.mk (some 4) none (.mov (.c (.one (.st (.bool false)))))
  .no])
  .ret)
  .skip))
  (.seq
  (.seq
  (.ops
  [.mk (some 5) none (.mov (.c (.one (.st (.int .i64 0)))))
  .no])
  (.block 0
  (.loop
  (.seq
  (.seq
  (.ops
  [.mk (some 27) none (.mov (.t 5)) .no, .mk (some 28) none (.fieldAddr 2 (.t 2)) .no, .mk (some 29) none (.load false 1 (.t 28)) .no, .mk (some 30) none (.len false (.t 29)) .no, .mk (some 31) none (.bin .lss (.t 27) (.t 30))
  .no])
  (.cond (.t 31) .skip (.exit 0)))
  (.seq
  (.block 1
  (.seq
  (.ops
  [.mk (some 34) none (.fieldAddr 2 (.t 2)) .no, .mk (some 35) none (.load false 1 (.t 34)) .no, .mk (some 36) none (.mov (.t 5)) .no, .mk (some 37) none (.indexAddr 3 (.t 35) (.t 36))
  .no, .mk (some 38) none (.load true 3 (.t 37)) .no, .mk (some 39) none (.fieldAddr 2 (.t 3)) .no, .mk (some 40) none (.load false 1 (.t 39)) .no, .mk (some 41) none (.mov (.t 5)) .no, .mk (some 42) none (.indexAddr 3 (.t 40) (.t 41))
  .no, .mk (some 43) none (.load true 3 (.t 42)) .no, .mk (some 44) none (.call 37 [.t 38, .t 43])
  .no, .mk (some 45) none (.un .not (.t 44)) .no])
  (.cond (.t 45)
  (.seq
  (.ops
  [.mk (some 4) none (.mov (.c (.one (.st (.bool false)))))
  .no])
  .ret)
  .skip)))
  (.ops
  [.mk (some 32) none (.mov (.t 5)) .no, .mk (some 33) none (.bin .add (.t 32) (.c (.one (.st (.int .i64 1)))))
  .no, .mk (some 5) none (.mov (.t 33)) .no]))))))
  (.seq
  (.ops
  [.mk (some 4) none (.mov (.c (.one (.st (.bool true)))))
  .no])
  .ret))))
theorem tr_R_SameLam : trCode Tryd.prog 46 [] (Tryd.f37.body.getD .skip) = some ir_R_SameLam := by kernel_rfl
theorem ac_R_SameLam {xs : List AV} {r : AV} (hn : xs.length ≤ 46) (h : ∀ C : Ctx, C.n = 46 → IWP Tryd.prog C [] ir_R_SameLam (FinQ [.t 4] r) (AS.start xs)) : ACalls Tryd.prog 37 xs r :=
  acalls_of Tryd.func37 rfl tr_R_SameLam rfl hn h
theorem acS_R_SameLam {xs : List AV} {S S' : AStore} {r : AV} (hn : xs.length ≤ 46) (h : Clean S → ∀ C : Ctx, C.n = 46 → IWP Tryd.prog C [] ir_R_SameLam (FinS C [.t 4] r S') (AS.startS xs S)) : ACallsS Tryd.prog 37 xs S r S' :=
  acallsS_of Tryd.func37 rfl tr_R_SameLam rfl hn h

def ir_R_Var : IR :=
  (.seq
  (.ops
  [.mk (some 2) none
  (.alloc 36
  [.st (.int .i64 0), .st (.int .i64 0),
  .full []])
  .no])
  (.seq
  (.ops
  [.mk (some 3) none (.mov (.t 0)) .no, .mk (some 4) none
  (.build
  [.st (.int .i64 0), .st (.int .i64 0),
  .full []]
  [(0, 1, .c (.one (.st (.int .i64 1)))),
  (1, 1, .t 3)])
  .no, .mk none none (.store 3 (.t 2) (.t 4))
  .no])
  .ret))
theorem tr_R_Var : trCode Tryd.prog 5 [] (Tryd.f32.body.getD .skip) = some ir_R_Var := by kernel_rfl
theorem ac_R_Var {xs : List AV} {r : AV} (hn : xs.length ≤ 5) (h : ∀ C : Ctx, C.n = 5 → IWP Tryd.prog C [] ir_R_Var (FinQ [.cell 2 true 3] r) (AS.start xs)) : ACalls Tryd.prog 32 xs r :=
  acalls_of Tryd.func32 rfl tr_R_Var rfl hn h
theorem acS_R_Var {xs : List AV} {S S' : AStore} {r : AV} (hn : xs.length ≤ 5) (h : Clean S → ∀ C : Ctx, C.n = 5 → IWP Tryd.prog C [] ir_R_Var (FinS C [.cell 2 true 3] r S') (AS.startS xs S)) : ACallsS Tryd.prog 32 xs S r S' :=
  acallsS_of Tryd.func32 rfl tr_R_Var rfl hn h

def ir_L_lam2 : IR :=
  (.seq
  (.ops
  [.mk (some 4) none (.box 36 (.t 0)) .no, .mk (some 6) none (.box 36 (.t 2)) .no, .mk (some 8) none (.mov (.c (.one (.st (.bool false)))))
  .no])
  (.seq
  (.seq
  (.ops
  [.mk (some 9) none (.mov (.t 3)) .no, .mk (some 10) none (.bin .neq (.t 9) (.c (.one (.st (.int .i64 0)))))
  .no])
  (.cond (.t 10)
  (.seq
  (.ops
  [.mk (some 11) none (.mov (.t 1)) .no, .mk (some 12) none (.mov (.t 3)) .no, .mk (some 13) none (.bin .eql (.t 11) (.t 12))
  .no, .mk (some 14) none (.mov (.t 13)) .no, .mk (some 15) (some (14, true)) (.fieldAddr 0 (.t 4)) .no, .mk (some 16) (some (14, true)) (.load false 1 (.t 15))
  .no, .mk (some 17) (some (14, true)) (.bin .eql (.t 16) (.c (.one (.st (.int .i64 0)))))
  .no, .mk (some 18) none
  (.pick (.t 14) (.t 17) (.c (.one (.st (.bool false)))))
  .no, .mk (some 19) none (.mov (.t 18)) .no, .mk (some 20) (some (19, true)) (.fieldAddr 1 (.t 4)) .no, .mk (some 21) (some (19, true)) (.load false 1 (.t 20))
  .no, .mk (some 22) (some (19, true)) (.bin .eql (.t 21) (.c (.one (.st (.int .i64 0)))))
  .no, .mk (some 23) none
  (.pick (.t 19) (.t 22) (.c (.one (.st (.bool false)))))
  .no, .mk (some 24) none (.mov (.t 23)) .no, .mk (some 25) (some (24, true)) (.fieldAddr 2 (.t 4)) .no, .mk (some 26) (some (24, true)) (.load false 1 (.t 25))
  .no, .mk (some 27) (some (24, true)) (.len false (.t 26))
  .no, .mk (some 28) (some (24, true)) (.bin .eql (.t 27) (.c (.one (.st (.int .i64 0)))))
  .no, .mk (some 29) none
  (.pick (.t 24) (.t 28) (.c (.one (.st (.bool false)))))
  .no, .mk (some 8) none (.mov (.t 29)) .no])
  .ret)
  .skip))
  (.seq
  (.ops
  [.mk (some 30) none (.mov (.t 1)) .no, .mk (some 31) none (.bin .eql (.t 30) (.c (.one (.st (.int .i64 0)))))
  .no, .mk (some 32) none (.mov (.t 31)) .no, .mk (some 33) (some (32, true)) (.load true 3 (.t 4)) .no, .mk (some 34) (some (32, true)) (.load true 3 (.t 6)) .no, .mk (some 35) (some (32, true)) (.call 37 [.t 33, .t 34])
  .no, .mk (some 36) none
  (.pick (.t 32) (.t 35) (.c (.one (.st (.bool false)))))
  .no, .mk (some 8) none (.mov (.t 36)) .no])
  .ret)))
theorem tr_L_lam2 : trCode Tryd.prog 37 [] (Tryd.f16.body.getD .skip) = some ir_L_lam2 := by kernel_rfl
theorem ac_L_lam2 {xs : List AV} {r : AV} (hn : xs.length ≤ 37) (h : ∀ C : Ctx, C.n = 37 → IWP Tryd.prog C [] ir_L_lam2 (FinQ [.t 8] r) (AS.start xs)) : ACalls Tryd.prog 16 xs r :=
  acalls_of Tryd.func16 rfl tr_L_lam2 rfl hn h
theorem acS_L_lam2 {xs : List AV} {S S' : AStore} {r : AV} (hn : xs.length ≤ 37) (h : Clean S → ∀ C : Ctx, C.n = 37 → IWP Tryd.prog C [] ir_L_lam2 (FinS C [.t 8] r S') (AS.startS xs S)) : ACallsS Tryd.prog 16 xs S r S' :=
  acallsS_of Tryd.func16 rfl tr_L_lam2 rfl hn h

end Go.Proofs.YtecjikegppjdiaaDoor
