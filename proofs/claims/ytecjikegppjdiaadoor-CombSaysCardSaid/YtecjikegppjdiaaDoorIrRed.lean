/-
  The program's functions in abstract operations: written by a program of mine out of the translation; each is shown to be the translation's.
  Conditions: none.
-/
import Derived.Test.YtecjikegppjdiaaDoorBLamPut
namespace Go.Proofs.YtecjikegppjdiaaDoor
open Go Go.RowKit
set_option maxRecDepth 100000

def ir_lambda_A : IR :=
  (.seq
  (.ops
  [.mk (some 2) none (.box 36 (.t 0)) .no, .mk (some 3) none (.box 36 (.t 1)) .no, .mk (some 4) none
  (.alloc 36
  [.st (.int .i64 0), .st (.int .i64 0),
  .full []])
  .no])
  (.seq
  (.ops
  [.mk (some 5) none (.load true 3 (.t 2)) .no, .mk (some 6) none (.load true 3 (.t 3)) .no, .mk (some 7) none (.buildSlice false 36 3 [.t 5, .t 6])
  .no, .mk (some 8) none
  (.build
  [.st (.int .i64 0), .st (.int .i64 0),
  .full []]
  [(0, 1, .c (.one (.st (.int .i64 3)))),
  (2, 1, .t 7)])
  .no, .mk none none (.store 3 (.t 4) (.t 8))
  .no])
  .ret))
theorem tr_lambda_A : trCode Tryd.prog 9 [] (Tryd.f51.body.getD .skip) = some ir_lambda_A := by kernel_rfl
theorem ac_lambda_A {xs : List AV} {r : AV} (hn : xs.length ≤ 9) (h : ∀ C : Ctx, C.n = 9 → IWP Tryd.prog C [] ir_lambda_A (FinQ [.cell 4 true 3] r) (AS.start xs)) : ACalls Tryd.prog 51 xs r :=
  acalls_of Tryd.func51 rfl tr_lambda_A rfl hn h
theorem acS_lambda_A {xs : List AV} {S S' : AStore} {r : AV} (hn : xs.length ≤ 9) (h : Clean S → ∀ C : Ctx, C.n = 9 → IWP Tryd.prog C [] ir_lambda_A (FinS C [.cell 4 true 3] r S') (AS.startS xs S)) : ACallsS Tryd.prog 51 xs S r S' :=
  acallsS_of Tryd.func51 rfl tr_lambda_A rfl hn h

def ir_lambda_L : IR :=
  (.seq
  (.ops
  [.mk (some 1) none (.box 36 (.t 0)) .no, .mk (some 2) none
  (.alloc 36
  [.st (.int .i64 0), .st (.int .i64 0),
  .full []])
  .no])
  (.seq
  (.ops
  [.mk (some 3) none (.load true 3 (.t 1)) .no, .mk (some 4) none (.buildSlice false 36 3 [.t 3]) .no, .mk (some 5) none
  (.build
  [.st (.int .i64 0), .st (.int .i64 0),
  .full []]
  [(0, 1, .c (.one (.st (.int .i64 2)))),
  (2, 1, .t 4)])
  .no, .mk none none (.store 3 (.t 2) (.t 5))
  .no])
  .ret))
theorem tr_lambda_L : trCode Tryd.prog 6 [] (Tryd.f55.body.getD .skip) = some ir_lambda_L := by kernel_rfl
theorem ac_lambda_L {xs : List AV} {r : AV} (hn : xs.length ≤ 6) (h : ∀ C : Ctx, C.n = 6 → IWP Tryd.prog C [] ir_lambda_L (FinQ [.cell 2 true 3] r) (AS.start xs)) : ACalls Tryd.prog 55 xs r :=
  acalls_of Tryd.func55 rfl tr_lambda_L rfl hn h
theorem acS_lambda_L {xs : List AV} {S S' : AStore} {r : AV} (hn : xs.length ≤ 6) (h : Clean S → ∀ C : Ctx, C.n = 6 → IWP Tryd.prog C [] ir_lambda_L (FinS C [.cell 2 true 3] r S') (AS.startS xs S)) : ACallsS Tryd.prog 55 xs S r S' :=
  acallsS_of Tryd.func55 rfl tr_lambda_L rfl hn h

def ir_R_App : IR :=
  (.seq
  (.ops
  [.mk (some 2) none (.box 36 (.t 0)) .no, .mk (some 3) none (.box 36 (.t 1)) .no, .mk (some 4) none
  (.alloc 36
  [.st (.int .i64 0), .st (.int .i64 0),
  .full []])
  .no])
  (.seq
  (.ops
  [.mk (some 5) none (.load true 3 (.t 2)) .no, .mk (some 6) none (.load true 3 (.t 3)) .no, .mk (some 7) none (.buildSlice false 36 3 [.t 5, .t 6])
  .no, .mk (some 8) none
  (.build
  [.st (.int .i64 0), .st (.int .i64 0),
  .full []]
  [(0, 1, .c (.one (.st (.int .i64 3)))),
  (2, 1, .t 7)])
  .no, .mk none none (.store 3 (.t 4) (.t 8))
  .no])
  .ret))
theorem tr_R_App : trCode Tryd.prog 9 [] (Tryd.f30.body.getD .skip) = some ir_R_App := by kernel_rfl
theorem ac_R_App {xs : List AV} {r : AV} (hn : xs.length ≤ 9) (h : ∀ C : Ctx, C.n = 9 → IWP Tryd.prog C [] ir_R_App (FinQ [.cell 4 true 3] r) (AS.start xs)) : ACalls Tryd.prog 30 xs r :=
  acalls_of Tryd.func30 rfl tr_R_App rfl hn h
theorem acS_R_App {xs : List AV} {S S' : AStore} {r : AV} (hn : xs.length ≤ 9) (h : Clean S → ∀ C : Ctx, C.n = 9 → IWP Tryd.prog C [] ir_R_App (FinS C [.cell 4 true 3] r S') (AS.startS xs S)) : ACallsS Tryd.prog 30 xs S r S' :=
  acallsS_of Tryd.func30 rfl tr_R_App rfl hn h

def ir_R_Fun : IR :=
  (.seq
  (.ops
  [.mk (some 1) none (.box 36 (.t 0)) .no, .mk (some 2) none
  (.alloc 36
  [.st (.int .i64 0), .st (.int .i64 0),
  .full []])
  .no])
  (.seq
  (.ops
  [.mk (some 3) none (.load true 3 (.t 1)) .no, .mk (some 4) none (.buildSlice false 36 3 [.t 3]) .no, .mk (some 5) none
  (.build
  [.st (.int .i64 0), .st (.int .i64 0),
  .full []]
  [(0, 1, .c (.one (.st (.int .i64 2)))),
  (2, 1, .t 4)])
  .no, .mk none none (.store 3 (.t 2) (.t 5))
  .no])
  .ret))
theorem tr_R_Fun : trCode Tryd.prog 6 [] (Tryd.f31.body.getD .skip) = some ir_R_Fun := by kernel_rfl
theorem ac_R_Fun {xs : List AV} {r : AV} (hn : xs.length ≤ 6) (h : ∀ C : Ctx, C.n = 6 → IWP Tryd.prog C [] ir_R_Fun (FinQ [.cell 2 true 3] r) (AS.start xs)) : ACalls Tryd.prog 31 xs r :=
  acalls_of Tryd.func31 rfl tr_R_Fun rfl hn h
theorem acS_R_Fun {xs : List AV} {S S' : AStore} {r : AV} (hn : xs.length ≤ 6) (h : Clean S → ∀ C : Ctx, C.n = 6 → IWP Tryd.prog C [] ir_R_Fun (FinS C [.cell 2 true 3] r S') (AS.startS xs S)) : ACallsS Tryd.prog 31 xs S r S' :=
  acallsS_of Tryd.func31 rfl tr_R_Fun rfl hn h

end Go.Proofs.YtecjikegppjdiaaDoor
