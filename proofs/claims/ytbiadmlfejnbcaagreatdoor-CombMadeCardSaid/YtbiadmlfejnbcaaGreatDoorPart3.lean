/-
  Part 3 of the texts: IrTerm; BTerm; BVars; IrComb; BComb. Conditions: none.
-/
import Derived.Test.YtbiadmlfejnbcaaGreatDoorPart2
namespace Go.Proofs.YtbiadmlfejnbcaaGreatDoor
open Go Go.RowKit
set_option maxRecDepth 100000

def ir_term_letter : IR :=
  (.seq
  (.ops
  [.mk (some 2) none (.mov (.c (.one (.st (.bool false)))))
  .no])
  (.seq
  (.ops
  [.mk (some 3) none (.mov (.t 0)) .no, .mk (some 4) none (.bin .geq (.t 3) (.c (.one (.st (.int .u8 97)))))
  .no, .mk (some 5) none (.mov (.t 4)) .no, .mk (some 6) (some (5, true)) (.mov (.t 0))
  .no, .mk (some 7) (some (5, true)) (.bin .leq (.t 6) (.c (.one (.st (.int .u8 122)))))
  .no, .mk (some 8) none
  (.pick (.t 5) (.t 7) (.c (.one (.st (.bool false)))))
  .no, .mk (some 9) none (.mov (.t 8)) .no, .mk (some 10) (some (9, false)) (.mov (.t 0))
  .no, .mk (some 11) (some (9, false)) (.bin .geq (.t 10) (.c (.one (.st (.int .u8 65)))))
  .no, .mk (some 12) (some (9, false)) (.mov (.t 11))
  .no, .mk (some 13) (some (12, true)) (.mov (.t 0))
  .no, .mk (some 14) (some (12, true)) (.bin .leq (.t 13) (.c (.one (.st (.int .u8 90)))))
  .no, .mk (some 15) (some (9, false))
  (.pick (.t 12) (.t 14) (.c (.one (.st (.bool false)))))
  .no, .mk (some 16) none
  (.pick (.t 9) (.c (.one (.st (.bool true)))) (.t 15))
  .no, .mk (some 17) none (.mov (.t 16)) .no, .mk (some 18) (some (17, false)) (.mov (.t 0))
  .no, .mk (some 19) (some (17, false)) (.bin .geq (.t 18) (.c (.one (.st (.int .u8 48)))))
  .no, .mk (some 20) (some (17, false)) (.mov (.t 19))
  .no, .mk (some 21) (some (20, true)) (.mov (.t 0))
  .no, .mk (some 22) (some (20, true)) (.bin .leq (.t 21) (.c (.one (.st (.int .u8 57)))))
  .no, .mk (some 23) (some (17, false))
  (.pick (.t 20) (.t 22) (.c (.one (.st (.bool false)))))
  .no, .mk (some 24) none
  (.pick (.t 17) (.c (.one (.st (.bool true)))) (.t 23))
  .no, .mk (some 2) none (.mov (.t 24)) .no])
  .ret))
theorem tr_term_letter : trCode Tryz.prog 25 [] (Tryz.f66.body.getD .skip) = some ir_term_letter := by kernel_rfl
theorem ac_term_letter {xs : List AV} {r : AV} (hn : xs.length ≤ 25) (h : ∀ C : Ctx, C.n = 25 → IWP Tryz.prog C [] ir_term_letter (FinQ [.t 2] r) (AS.start xs)) : ACalls Tryz.prog 66 xs r :=
  acalls_of Tryz.func66 rfl tr_term_letter rfl hn h
theorem acS_term_letter {xs : List AV} {S S' : AStore} {r : AV} (hn : xs.length ≤ 25) (h : Clean S → ∀ C : Ctx, C.n = 25 → IWP Tryz.prog C [] ir_term_letter (FinS C [.t 2] r S') (AS.startS xs S)) : ACallsS Tryz.prog 66 xs S r S' :=
  acallsS_of Tryz.func66 rfl tr_term_letter rfl hn h

def ir_R_IsLetter : IR :=
  (.seq
  (.ops
  [.mk (some 2) none (.mov (.c (.one (.st (.bool false)))))
  .no])
  (.seq
  (.ops
  [.mk (some 3) none (.mov (.t 0)) .no, .mk (some 4) none (.bin .geq (.t 3) (.c (.one (.st (.int .u8 97)))))
  .no, .mk (some 5) none (.mov (.t 4)) .no, .mk (some 6) (some (5, true)) (.mov (.t 0))
  .no, .mk (some 7) (some (5, true)) (.bin .leq (.t 6) (.c (.one (.st (.int .u8 122)))))
  .no, .mk (some 8) none
  (.pick (.t 5) (.t 7) (.c (.one (.st (.bool false)))))
  .no, .mk (some 9) none (.mov (.t 8)) .no, .mk (some 10) (some (9, false)) (.mov (.t 0))
  .no, .mk (some 11) (some (9, false)) (.bin .geq (.t 10) (.c (.one (.st (.int .u8 65)))))
  .no, .mk (some 12) (some (9, false)) (.mov (.t 11))
  .no, .mk (some 13) (some (12, true)) (.mov (.t 0))
  .no, .mk (some 14) (some (12, true)) (.bin .leq (.t 13) (.c (.one (.st (.int .u8 90)))))
  .no, .mk (some 15) (some (9, false))
  (.pick (.t 12) (.t 14) (.c (.one (.st (.bool false)))))
  .no, .mk (some 16) none
  (.pick (.t 9) (.c (.one (.st (.bool true)))) (.t 15))
  .no, .mk (some 17) none (.mov (.t 16)) .no, .mk (some 18) (some (17, false)) (.mov (.t 0))
  .no, .mk (some 19) (some (17, false)) (.bin .geq (.t 18) (.c (.one (.st (.int .u8 48)))))
  .no, .mk (some 20) (some (17, false)) (.mov (.t 19))
  .no, .mk (some 21) (some (20, true)) (.mov (.t 0))
  .no, .mk (some 22) (some (20, true)) (.bin .leq (.t 21) (.c (.one (.st (.int .u8 57)))))
  .no, .mk (some 23) (some (17, false))
  (.pick (.t 20) (.t 22) (.c (.one (.st (.bool false)))))
  .no, .mk (some 24) none
  (.pick (.t 17) (.c (.one (.st (.bool true)))) (.t 23))
  .no, .mk (some 2) none (.mov (.t 24)) .no])
  .ret))
theorem tr_R_IsLetter : trCode Tryz.prog 25 [] (Tryz.f48.body.getD .skip) = some ir_R_IsLetter := by kernel_rfl
theorem ac_R_IsLetter {xs : List AV} {r : AV} (hn : xs.length ≤ 25) (h : ∀ C : Ctx, C.n = 25 → IWP Tryz.prog C [] ir_R_IsLetter (FinQ [.t 2] r) (AS.start xs)) : ACalls Tryz.prog 48 xs r :=
  acalls_of Tryz.func48 rfl tr_R_IsLetter rfl hn h
theorem acS_R_IsLetter {xs : List AV} {S S' : AStore} {r : AV} (hn : xs.length ≤ 25) (h : Clean S → ∀ C : Ctx, C.n = 25 → IWP Tryz.prog C [] ir_R_IsLetter (FinS C [.t 2] r S') (AS.startS xs S)) : ACallsS Tryz.prog 48 xs S r S' :=
  acallsS_of Tryz.func48 rfl tr_R_IsLetter rfl hn h

def ir_term_Name : IR :=
  (.seq
  (.ops
  [.mk (some 2) none (.mov (.c (.one (.st (.bool false)))))
  .no])
  (.seq
  (.seq
  (.ops
  [.mk (some 4) none (.mov (.t 0)) .no, .mk (some 5) none (.len true (.t 4)) .no, .mk (some 6) none (.bin .lss (.t 5) (.c (.one (.st (.int .i64 1)))))
  .no, .mk (some 7) none (.mov (.t 6)) .no, .mk (some 8) (some (7, false)) (.mov (.t 0))
  .no, .mk (some 9) (some (7, false)) (.len true (.t 8))
  .no, .mk (some 10) (some (7, false)) (.bin .gtr (.t 9) (.c (.one (.st (.int .i64 8)))))
  .no, .mk (some 11) none
  (.pick (.t 7) (.c (.one (.st (.bool true)))) (.t 10))
  .no, .mk (some 12) none (.mov (.t 11)) .no, .mk (some 13) (some (12, false)) (.mov (.t 0))
  .no, .mk (some 14) (some (12, false))
  (.indexStr (.t 13) (.c (.one (.st (.int .i64 0)))))
  .no, .mk (some 15) (some (12, false)) (.bin .geq (.t 14) (.c (.one (.st (.int .u8 48)))))
  .no, .mk (some 16) (some (12, false)) (.mov (.t 15))
  .no, .mk (some 17) (some (16, true)) (.mov (.t 0))
  .no, .mk (some 18) (some (16, true))
  (.indexStr (.t 17) (.c (.one (.st (.int .i64 0)))))
  .no, .mk (some 19) (some (16, true)) (.bin .leq (.t 18) (.c (.one (.st (.int .u8 57)))))
  .no, .mk (some 20) (some (12, false))
  (.pick (.t 16) (.t 19) (.c (.one (.st (.bool false)))))
  .no, .mk (some 21) none
  (.pick (.t 12) (.c (.one (.st (.bool true)))) (.t 20))
  .no])
  (.cond (.t 21)
  (.seq
  (.ops
  [.mk (some 2) none (.mov (.c (.one (.st (.bool false)))))
  .no])
  .ret)
  .skip))
  (.seq
  (.seq
  (.ops
  [.mk (some 22) none (.mov (.t 0)) .no, .mk (some 23) none (.len true (.t 22))
  .no, .mk (some 24) none (.mov (.c (.one (.st (.int .i64 0)))))
  .no])
  (.block 0
  (.loop
  (.seq
  (.ops
  [.mk (some 25) none (.bin .lss (.t 24) (.t 23)) .no])
  (.seq
  (.cond (.t 25) .skip (.exit 0))
  (.seq
  (.block 1
  (.seq
  (.ops
  [.mk (some 26) none (.mov (.t 24))
  .no, .mk (some 3) none (.mov (.t 26))
  .no])
  (.seq
  (.ops
  [.mk (some 27) none (.mov (.t 0))
  .no, .mk (some 28) none (.mov (.t 3))
  .no, .mk (some 29) none
  (.indexStr (.t 27) (.t 28)) .no, .mk (some 30) none (.call 66 [.t 29])
  .no, .mk (some 31) none (.un .not (.t 30))
  .no])
  (.cond (.t 31)
  (.seq
  (.ops
  [.mk (some 2) none (.mov (.c (.one (.st (.bool false)))))
  .no])
  .ret)
  .skip))))
  (.ops
  [.mk (some 32) none (.bin .add (.t 24) (.c (.one (.st (.int .i64 1)))))
  .no, .mk (some 24) none (.mov (.t 32))
  .no])))))))
  (.seq
  (.ops
  [.mk (some 2) none (.mov (.c (.one (.st (.bool true)))))
  .no])
  .ret))))
theorem tr_term_Name : trCode Tryz.prog 33 [] (Tryz.f49.body.getD .skip) = some ir_term_Name := by kernel_rfl
theorem ac_term_Name {xs : List AV} {r : AV} (hn : xs.length ≤ 33) (h : ∀ C : Ctx, C.n = 33 → IWP Tryz.prog C [] ir_term_Name (FinQ [.t 2] r) (AS.start xs)) : ACalls Tryz.prog 49 xs r :=
  acalls_of Tryz.func49 rfl tr_term_Name rfl hn h
theorem acS_term_Name {xs : List AV} {S S' : AStore} {r : AV} (hn : xs.length ≤ 33) (h : Clean S → ∀ C : Ctx, C.n = 33 → IWP Tryz.prog C [] ir_term_Name (FinS C [.t 2] r S') (AS.startS xs S)) : ACallsS Tryz.prog 49 xs S r S' :=
  acallsS_of Tryz.func49 rfl tr_term_Name rfl hn h

def ir_R_IsName : IR :=
  (.seq
  (.ops
  [.mk (some 2) none (.mov (.c (.one (.st (.bool false)))))
  .no])
  (.seq
  (.seq
  (.ops
  [.mk (some 4) none (.mov (.t 0)) .no, .mk (some 5) none (.bin .eql (.t 4) (.c (.one (.st (.str (ByteArray.mk (#[])))))))
  .no, .mk (some 6) none (.mov (.t 5)) .no, .mk (some 7) (some (6, false)) (.mov (.t 0))
  .no, .mk (some 8) (some (6, false)) (.len true (.t 7))
  .no, .mk (some 9) (some (6, false)) (.bin .gtr (.t 8) (.c (.one (.st (.int .i64 8)))))
  .no, .mk (some 10) none
  (.pick (.t 6) (.c (.one (.st (.bool true)))) (.t 9))
  .no, .mk (some 11) none (.mov (.t 10)) .no, .mk (some 12) (some (11, false)) (.mov (.t 0))
  .no, .mk (some 13) (some (11, false))
  (.indexStr (.t 12) (.c (.one (.st (.int .i64 0)))))
  .no, .mk (some 14) (some (11, false)) (.bin .geq (.t 13) (.c (.one (.st (.int .u8 48)))))
  .no, .mk (some 15) (some (11, false)) (.mov (.t 14))
  .no, .mk (some 16) (some (15, true)) (.mov (.t 0))
  .no, .mk (some 17) (some (15, true))
  (.indexStr (.t 16) (.c (.one (.st (.int .i64 0)))))
  .no, .mk (some 18) (some (15, true)) (.bin .leq (.t 17) (.c (.one (.st (.int .u8 57)))))
  .no, .mk (some 19) (some (11, false))
  (.pick (.t 15) (.t 18) (.c (.one (.st (.bool false)))))
  .no, .mk (some 20) none
  (.pick (.t 11) (.c (.one (.st (.bool true)))) (.t 19))
  .no])
  (.cond (.t 20)
  (.seq
  (.ops
  [.mk (some 2) none (.mov (.c (.one (.st (.bool false)))))
  .no])
  .ret)
  .skip))
  (.seq
  (.seq
  (.ops
  [.mk (some 3) none (.mov (.c (.one (.st (.int .i64 0)))))
  .no])
  (.block 0
  (.loop
  (.seq
  (.seq
  (.ops
  [.mk (some 21) none (.mov (.t 3)) .no, .mk (some 22) none (.mov (.t 0)) .no, .mk (some 23) none (.len true (.t 22))
  .no, .mk (some 24) none (.bin .lss (.t 21) (.t 23)) .no])
  (.cond (.t 24) .skip (.exit 0)))
  (.seq
  (.block 1
  (.seq
  (.ops
  [.mk (some 27) none (.mov (.t 0))
  .no, .mk (some 28) none (.mov (.t 3))
  .no, .mk (some 29) none
  (.indexStr (.t 27) (.t 28)) .no, .mk (some 30) none (.call 48 [.t 29])
  .no, .mk (some 31) none (.un .not (.t 30))
  .no])
  (.cond (.t 31)
  (.seq
  (.ops
  [.mk (some 2) none (.mov (.c (.one (.st (.bool false)))))
  .no])
  .ret)
  .skip)))
  (.ops
  [.mk (some 25) none (.mov (.t 3)) .no, .mk (some 26) none (.bin .add (.t 25) (.c (.one (.st (.int .i64 1)))))
  .no, .mk (some 3) none (.mov (.t 26))
  .no]))))))
  (.seq
  (.ops
  [.mk (some 2) none (.mov (.c (.one (.st (.bool true)))))
  .no])
  .ret))))
theorem tr_R_IsName : trCode Tryz.prog 32 [] (Tryz.f25.body.getD .skip) = some ir_R_IsName := by kernel_rfl
theorem ac_R_IsName {xs : List AV} {r : AV} (hn : xs.length ≤ 32) (h : ∀ C : Ctx, C.n = 32 → IWP Tryz.prog C [] ir_R_IsName (FinQ [.t 2] r) (AS.start xs)) : ACalls Tryz.prog 25 xs r :=
  acalls_of Tryz.func25 rfl tr_R_IsName rfl hn h
theorem acS_R_IsName {xs : List AV} {S S' : AStore} {r : AV} (hn : xs.length ≤ 32) (h : Clean S → ∀ C : Ctx, C.n = 32 → IWP Tryz.prog C [] ir_R_IsName (FinS C [.t 2] r S') (AS.startS xs S)) : ACallsS Tryz.prog 25 xs S r S' :=
  acallsS_of Tryz.func25 rfl tr_R_IsName rfl hn h

def ir_term_Variable : IR :=
  (.seq
  (.ops
  [.mk (some 2) none (.mov (.c (.one (.st (.bool false)))))
  .no])
  (.seq
  (.ops
  [.mk (some 3) none (.mov (.t 0)) .no, .mk (some 4) none (.bin .neq (.t 3) (.c (.one (.st (.str (ByteArray.mk (#[])))))))
  .no, .mk (some 5) none (.mov (.t 4)) .no, .mk (some 6) (some (5, true)) (.mov (.t 0))
  .no, .mk (some 7) (some (5, true))
  (.indexStr (.t 6) (.c (.one (.st (.int .i64 0)))))
  .no, .mk (some 8) (some (5, true)) (.bin .geq (.t 7) (.c (.one (.st (.int .u8 65)))))
  .no, .mk (some 9) none
  (.pick (.t 5) (.t 8) (.c (.one (.st (.bool false)))))
  .no, .mk (some 10) none (.mov (.t 9)) .no, .mk (some 11) (some (10, true)) (.mov (.t 0))
  .no, .mk (some 12) (some (10, true))
  (.indexStr (.t 11) (.c (.one (.st (.int .i64 0)))))
  .no, .mk (some 13) (some (10, true)) (.bin .leq (.t 12) (.c (.one (.st (.int .u8 90)))))
  .no, .mk (some 14) none
  (.pick (.t 10) (.t 13) (.c (.one (.st (.bool false)))))
  .no, .mk (some 2) none (.mov (.t 14)) .no])
  .ret))
theorem tr_term_Variable : trCode Tryz.prog 15 [] (Tryz.f50.body.getD .skip) = some ir_term_Variable := by kernel_rfl
theorem ac_term_Variable {xs : List AV} {r : AV} (hn : xs.length ≤ 15) (h : ∀ C : Ctx, C.n = 15 → IWP Tryz.prog C [] ir_term_Variable (FinQ [.t 2] r) (AS.start xs)) : ACalls Tryz.prog 50 xs r :=
  acalls_of Tryz.func50 rfl tr_term_Variable rfl hn h
theorem acS_term_Variable {xs : List AV} {S S' : AStore} {r : AV} (hn : xs.length ≤ 15) (h : Clean S → ∀ C : Ctx, C.n = 15 → IWP Tryz.prog C [] ir_term_Variable (FinS C [.t 2] r S') (AS.startS xs S)) : ACallsS Tryz.prog 50 xs S r S' :=
  acallsS_of Tryz.func50 rfl tr_term_Variable rfl hn h

def ir_R_IsVar : IR :=
  (.seq
  (.ops
  [.mk (some 2) none (.mov (.c (.one (.st (.bool false)))))
  .no])
  (.seq
  (.ops
  [.mk (some 3) none (.mov (.t 0)) .no, .mk (some 4) none (.bin .neq (.t 3) (.c (.one (.st (.str (ByteArray.mk (#[])))))))
  .no, .mk (some 5) none (.mov (.t 4)) .no, .mk (some 6) (some (5, true)) (.mov (.t 0))
  .no, .mk (some 7) (some (5, true))
  (.indexStr (.t 6) (.c (.one (.st (.int .i64 0)))))
  .no, .mk (some 8) (some (5, true)) (.bin .geq (.t 7) (.c (.one (.st (.int .u8 65)))))
  .no, .mk (some 9) none
  (.pick (.t 5) (.t 8) (.c (.one (.st (.bool false)))))
  .no, .mk (some 10) none (.mov (.t 9)) .no, .mk (some 11) (some (10, true)) (.mov (.t 0))
  .no, .mk (some 12) (some (10, true))
  (.indexStr (.t 11) (.c (.one (.st (.int .i64 0)))))
  .no, .mk (some 13) (some (10, true)) (.bin .leq (.t 12) (.c (.one (.st (.int .u8 90)))))
  .no, .mk (some 14) none
  (.pick (.t 10) (.t 13) (.c (.one (.st (.bool false)))))
  .no, .mk (some 2) none (.mov (.t 14)) .no])
  .ret))
theorem tr_R_IsVar : trCode Tryz.prog 15 [] (Tryz.f26.body.getD .skip) = some ir_R_IsVar := by kernel_rfl
theorem ac_R_IsVar {xs : List AV} {r : AV} (hn : xs.length ≤ 15) (h : ∀ C : Ctx, C.n = 15 → IWP Tryz.prog C [] ir_R_IsVar (FinQ [.t 2] r) (AS.start xs)) : ACalls Tryz.prog 26 xs r :=
  acalls_of Tryz.func26 rfl tr_R_IsVar rfl hn h
theorem acS_R_IsVar {xs : List AV} {S S' : AStore} {r : AV} (hn : xs.length ≤ 15) (h : Clean S → ∀ C : Ctx, C.n = 15 → IWP Tryz.prog C [] ir_R_IsVar (FinS C [.t 2] r S') (AS.startS xs S)) : ACallsS Tryz.prog 26 xs S r S' :=
  acallsS_of Tryz.func26 rfl tr_R_IsVar rfl hn h

def ir_term_within : IR :=
  (.seq
  (.ops
  [.mk (some 2) none (.box 30 (.t 0)) .no, .mk (some 4) none (.mov (.c (.one (.st (.int .i64 0)))))
  .no])
  (.seq
  (.ops
  [.mk (some 7) none (.mov (.t 1)) .no, .mk (some 8) none (.bin .sub (.t 7) (.c (.one (.st (.int .i64 1)))))
  .no, .mk (some 1) none (.mov (.t 8)) .no])
  (.seq
  (.seq
  (.ops
  [.mk (some 9) none (.fieldAddr 1 (.t 2)) .no, .mk (some 10) none (.load false 1 (.t 9))
  .no, .mk (some 11) none (.len false (.t 10))
  .no, .mk (some 12) none (.mov (.c (.one (.st (.int .i64 0)))))
  .no])
  (.block 0
  (.loop
  (.seq
  (.ops
  [.mk (some 13) none (.bin .lss (.t 12) (.t 11)) .no])
  (.seq
  (.cond (.t 13) .skip (.exit 0))
  (.seq
  (.block 1
  (.seq
  (.ops
  [.mk (some 14) none
  (.indexAddr 2 (.t 10) (.t 12)) .no, .mk (some 15) none (.load true 2 (.t 14))
  .no, .mk (some 6) none
  (.alloc 30
  [.st (.str (ByteArray.mk (#[]))), .full []])
  .no, .mk none none (.store 2 (.t 6) (.t 15)) .no])
  (.seq
  (.seq
  (.ops
  [.mk (some 16) none (.mov (.t 1))
  .no, .mk (some 17) none (.bin .lss (.t 16) (.c (.one (.st (.int .i64 0)))))
  .no])
  (.cond (.t 17) (.exit 0) .skip))
  (.ops
  [.mk (some 18) none (.load true 2 (.t 6))
  .no, .mk (some 19) none (.mov (.t 1))
  .no, .mk (some 20) none (.call 68 [.t 18, .t 19]) .no, .mk (some 1) none (.mov (.t 20))
  .no]))))
  (.ops
  [.mk (some 21) none (.bin .add (.t 12) (.c (.one (.st (.int .i64 1)))))
  .no, .mk (some 12) none (.mov (.t 21))
  .no])))))))
  (.seq
  (.ops
  [.mk (some 22) none (.mov (.t 1)) .no, .mk (some 4) none (.mov (.t 22)) .no])
  .ret))))
theorem tr_term_within : trCode Tryz.prog 23 [] (Tryz.f68.body.getD .skip) = some ir_term_within := by kernel_rfl
theorem ac_term_within {xs : List AV} {r : AV} (hn : xs.length ≤ 23) (h : ∀ C : Ctx, C.n = 23 → IWP Tryz.prog C [] ir_term_within (FinQ [.t 4] r) (AS.start xs)) : ACalls Tryz.prog 68 xs r :=
  acalls_of Tryz.func68 rfl tr_term_within rfl hn h
theorem acS_term_within {xs : List AV} {S S' : AStore} {r : AV} (hn : xs.length ≤ 23) (h : Clean S → ∀ C : Ctx, C.n = 23 → IWP Tryz.prog C [] ir_term_within (FinS C [.t 4] r S') (AS.startS xs S)) : ACallsS Tryz.prog 68 xs S r S' :=
  acallsS_of Tryz.func68 rfl tr_term_within rfl hn h

def ir_R_Size : IR :=
  (.seq
  (.ops
  [.mk (some 2) none (.box 30 (.t 0)) .no, .mk (some 4) none (.mov (.c (.one (.st (.int .i64 0)))))
  .no])
  (.seq
  (.ops
  [.mk (some 5) none (.mov (.c (.one (.st (.int .i64 1)))))
  .no])
  (.seq
  (.seq
  (.ops
  [.mk (some 6) none (.mov (.c (.one (.st (.int .i64 0)))))
  .no])
  (.block 0
  (.loop
  (.seq
  (.seq
  (.ops
  [.mk (some 7) none (.mov (.t 6)) .no, .mk (some 8) none (.fieldAddr 1 (.t 2))
  .no, .mk (some 9) none (.load false 1 (.t 8))
  .no, .mk (some 10) none (.len false (.t 9))
  .no, .mk (some 11) none (.bin .lss (.t 7) (.t 10)) .no, .mk (some 12) none (.mov (.t 11)) .no, .mk (some 13) (some (12, true)) (.mov (.t 5))
  .no, .mk (some 14) (some (12, true)) (.mov (.t 1))
  .no, .mk (some 15) (some (12, true)) (.bin .leq (.t 13) (.t 14)) .no, .mk (some 16) none
  (.pick (.t 12) (.t 15) (.c (.one (.st (.bool false)))))
  .no])
  (.cond (.t 16) .skip (.exit 0)))
  (.seq
  (.block 1
  (.ops
  [.mk (some 19) none (.mov (.t 5)) .no, .mk (some 20) none (.fieldAddr 1 (.t 2))
  .no, .mk (some 21) none (.load false 1 (.t 20))
  .no, .mk (some 22) none (.mov (.t 6)) .no, .mk (some 23) none
  (.indexAddr 2 (.t 21) (.t 22)) .no, .mk (some 24) none (.load true 2 (.t 23))
  .no, .mk (some 25) none (.mov (.t 1)) .no, .mk (some 26) none (.mov (.t 5)) .no, .mk (some 27) none (.bin .sub (.t 25) (.t 26)) .no, .mk (some 28) none (.call 8 [.t 24, .t 27]) .no, .mk (some 29) none (.bin .add (.t 19) (.t 28)) .no, .mk (some 5) none (.mov (.t 29))
  .no]))
  (.ops
  [.mk (some 17) none (.mov (.t 6)) .no, .mk (some 18) none (.bin .add (.t 17) (.c (.one (.st (.int .i64 1)))))
  .no, .mk (some 6) none (.mov (.t 18))
  .no]))))))
  (.seq
  (.seq
  (.ops
  [.mk (some 30) none (.mov (.t 5)) .no, .mk (some 31) none (.mov (.t 1)) .no, .mk (some 32) none (.bin .gtr (.t 30) (.t 31)) .no])
  (.cond (.t 32)
  (.seq
  (.ops
  [.mk (some 33) none (.mov (.t 1)) .no, .mk (some 34) none (.bin .add (.t 33) (.c (.one (.st (.int .i64 1)))))
  .no, .mk (some 4) none (.mov (.t 34)) .no])
  .ret)
  .skip))
  (.seq
  (.ops
  [.mk (some 35) none (.mov (.t 5)) .no, .mk (some 4) none (.mov (.t 35)) .no])
  .ret)))))
theorem tr_R_Size : trCode Tryz.prog 36 [] (Tryz.f8.body.getD .skip) = some ir_R_Size := by kernel_rfl
theorem ac_R_Size {xs : List AV} {r : AV} (hn : xs.length ≤ 36) (h : ∀ C : Ctx, C.n = 36 → IWP Tryz.prog C [] ir_R_Size (FinQ [.t 4] r) (AS.start xs)) : ACalls Tryz.prog 8 xs r :=
  acalls_of Tryz.func8 rfl tr_R_Size rfl hn h
theorem acS_R_Size {xs : List AV} {S S' : AStore} {r : AV} (hn : xs.length ≤ 36) (h : Clean S → ∀ C : Ctx, C.n = 36 → IWP Tryz.prog C [] ir_R_Size (FinS C [.t 4] r S') (AS.startS xs S)) : ACallsS Tryz.prog 8 xs S r S' :=
  acallsS_of Tryz.func8 rfl tr_R_Size rfl hn h

def ir_term_check : IR :=
  (.seq
  (.ops
  [.mk (some 1) none (.box 30 (.t 0)) .no, .mk (some 2) none (.mov (.c (.one (.st (.int .i64 0)))))
  .no])
  (.seq
  (.seq
  (.ops
  [.mk (some 6) none (.fieldAddr 0 (.t 1)) .no, .mk (some 7) none (.load false 1 (.t 6))
  .no, .mk (some 8) none (.call 49 [.t 7]) .no, .mk (some 9) none (.un .not (.t 8)) .no])
  (.cond (.t 9)
  (.seq
  (.ops
  [.mk (some 2) none (.mov (.c (.one (.st (.int .i64 1)))))
  .no])
  .ret)
  .skip))
  (.seq
  (.seq
  (.ops
  [.mk (some 10) none (.fieldAddr 0 (.t 1)) .no, .mk (some 11) none (.load false 1 (.t 10))
  .no, .mk (some 12) none (.call 50 [.t 11]) .no, .mk (some 13) none (.mov (.t 12)) .no, .mk (some 14) (some (13, true)) (.fieldAddr 1 (.t 1))
  .no, .mk (some 15) (some (13, true)) (.load false 1 (.t 14))
  .no, .mk (some 16) (some (13, true)) (.len false (.t 15))
  .no, .mk (some 17) (some (13, true)) (.bin .gtr (.t 16) (.c (.one (.st (.int .i64 0)))))
  .no, .mk (some 18) none
  (.pick (.t 13) (.t 17) (.c (.one (.st (.bool false)))))
  .no])
  (.cond (.t 18)
  (.seq
  (.ops
  [.mk (some 2) none (.mov (.c (.one (.st (.int .i64 2)))))
  .no])
  .ret)
  .skip))
  (.seq
  (.seq
  (.ops
  [.mk (some 19) none (.fieldAddr 1 (.t 1)) .no, .mk (some 20) none (.load false 1 (.t 19))
  .no, .mk (some 21) none (.len false (.t 20))
  .no, .mk (some 22) none (.mov (.c (.one (.st (.int .i64 0)))))
  .no])
  (.block 0
  (.loop
  (.seq
  (.ops
  [.mk (some 23) none (.bin .lss (.t 22) (.t 21)) .no])
  (.seq
  (.cond (.t 23) .skip (.exit 0))
  (.seq
  (.block 1
  (.seq
  (.ops
  [.mk (some 24) none
  (.indexAddr 2 (.t 20) (.t 22)) .no, .mk (some 25) none (.load true 2 (.t 24))
  .no, .mk (some 4) none
  (.alloc 30
  [.st (.str (ByteArray.mk (#[]))), .full []])
  .no, .mk none none (.store 2 (.t 4) (.t 25)) .no])
  (.seq
  (.ops
  [.mk (some 26) none (.load true 2 (.t 4))
  .no, .mk (some 27) none (.call 69 [.t 26])
  .no, .mk (some 5) none (.mov (.t 27))
  .no])
  (.seq
  (.ops
  [.mk (some 28) none (.mov (.t 5))
  .no, .mk (some 29) none (.bin .neq (.t 28) (.c (.one (.st (.int .i64 0)))))
  .no])
  (.cond (.t 29)
  (.seq
  (.ops
  [.mk (some 30) none (.mov (.t 5))
  .no, .mk (some 2) none (.mov (.t 30))
  .no])
  .ret)
  .skip)))))
  (.ops
  [.mk (some 31) none (.bin .add (.t 22) (.c (.one (.st (.int .i64 1)))))
  .no, .mk (some 22) none (.mov (.t 31))
  .no])))))))
  (.seq
  (.ops
  [.mk (some 2) none (.mov (.c (.one (.st (.int .i64 0)))))
  .no])
  .ret)))))
theorem tr_term_check : trCode Tryz.prog 32 [] (Tryz.f69.body.getD .skip) = some ir_term_check := by kernel_rfl
theorem ac_term_check {xs : List AV} {r : AV} (hn : xs.length ≤ 32) (h : ∀ C : Ctx, C.n = 32 → IWP Tryz.prog C [] ir_term_check (FinQ [.t 2] r) (AS.start xs)) : ACalls Tryz.prog 69 xs r :=
  acalls_of Tryz.func69 rfl tr_term_check rfl hn h
theorem acS_term_check {xs : List AV} {S S' : AStore} {r : AV} (hn : xs.length ≤ 32) (h : Clean S → ∀ C : Ctx, C.n = 32 → IWP Tryz.prog C [] ir_term_check (FinS C [.t 2] r S') (AS.startS xs S)) : ACallsS Tryz.prog 69 xs S r S' :=
  acallsS_of Tryz.func69 rfl tr_term_check rfl hn h

def ir_term_Check : IR :=
  (.seq
  (.ops
  [.mk (some 1) none (.box 30 (.t 0)) .no, .mk (some 2) none (.mov (.c (.one (.st (.int .i64 0)))))
  .no])
  (.seq
  (.seq
  (.ops
  [.mk (some 3) none (.load true 2 (.t 1)) .no, .mk (some 4) none (.call 68
  [.t 3, .c (.one (.st (.int .i64 200)))])
  .no, .mk (some 5) none (.bin .lss (.t 4) (.c (.one (.st (.int .i64 0)))))
  .no])
  (.cond (.t 5)
  (.seq
  (.ops
  [.mk (some 2) none (.mov (.c (.one (.st (.int .i64 3)))))
  .no])
  .ret)
  .skip))
  (.seq
  (.ops
  [.mk (some 6) none (.load true 2 (.t 1)) .no, .mk (some 7) none (.call 69 [.t 6]) .no, .mk (some 2) none (.mov (.t 7)) .no])
  .ret)))
theorem tr_term_Check : trCode Tryz.prog 8 [] (Tryz.f53.body.getD .skip) = some ir_term_Check := by kernel_rfl
theorem ac_term_Check {xs : List AV} {r : AV} (hn : xs.length ≤ 8) (h : ∀ C : Ctx, C.n = 8 → IWP Tryz.prog C [] ir_term_Check (FinQ [.t 2] r) (AS.start xs)) : ACalls Tryz.prog 53 xs r :=
  acalls_of Tryz.func53 rfl tr_term_Check rfl hn h
theorem acS_term_Check {xs : List AV} {S S' : AStore} {r : AV} (hn : xs.length ≤ 8) (h : Clean S → ∀ C : Ctx, C.n = 8 → IWP Tryz.prog C [] ir_term_Check (FinS C [.t 2] r S') (AS.startS xs S)) : ACallsS Tryz.prog 53 xs S r S' :=
  acallsS_of Tryz.func53 rfl tr_term_Check rfl hn h

def ir_R_Knots : IR :=
  (.seq
  (.ops
  [.mk (some 1) none (.box 30 (.t 0)) .no, .mk (some 2) none (.mov (.c (.one (.full []))))
  .no])
  (.seq
  (.ops
  [.mk (some 5) none (.load true 2 (.t 1)) .no, .mk (some 6) none (.buildSlice false 30 2 [.t 5])
  .no, .mk (some 3) none (.mov (.t 6)) .no])
  (.seq
  (.seq
  (.ops
  [.mk (some 4) none (.mov (.c (.one (.st (.int .i64 0)))))
  .no])
  (.block 0
  (.loop
  (.seq
  (.seq
  (.ops
  [.mk (some 7) none (.mov (.t 4)) .no, .mk (some 8) none (.fieldAddr 1 (.t 1))
  .no, .mk (some 9) none (.load false 1 (.t 8))
  .no, .mk (some 10) none (.len false (.t 9))
  .no, .mk (some 11) none (.bin .lss (.t 7) (.t 10)) .no])
  (.cond (.t 11) .skip (.exit 0)))
  (.seq
  (.block 1
  (.ops
  [.mk (some 14) none (.mov (.t 3)) .no, .mk (some 15) none (.fieldAddr 1 (.t 1))
  .no, .mk (some 16) none (.load false 1 (.t 15))
  .no, .mk (some 17) none (.mov (.t 4)) .no, .mk (some 18) none
  (.indexAddr 2 (.t 16) (.t 17)) .no, .mk (some 19) none (.load true 2 (.t 18))
  .no, .mk (some 20) none (.call 43 [.t 19])
  .no, .mk (some 21) none
  (.append false 30 2 40 (.t 14) (.t 20)) .no, .mk (some 3) none (.mov (.t 21))
  .no]))
  (.ops
  [.mk (some 12) none (.mov (.t 4)) .no, .mk (some 13) none (.bin .add (.t 12) (.c (.one (.st (.int .i64 1)))))
  .no, .mk (some 4) none (.mov (.t 13))
  .no]))))))
  (.seq
  (.ops
  [.mk (some 22) none (.mov (.t 3)) .no, .mk (some 2) none (.mov (.t 22)) .no])
  .ret))))
theorem tr_R_Knots : trCode Tryz.prog 23 [] (Tryz.f43.body.getD .skip) = some ir_R_Knots := by kernel_rfl
theorem ac_R_Knots {xs : List AV} {r : AV} (hn : xs.length ≤ 23) (h : ∀ C : Ctx, C.n = 23 → IWP Tryz.prog C [] ir_R_Knots (FinQ [.t 2] r) (AS.start xs)) : ACalls Tryz.prog 43 xs r :=
  acalls_of Tryz.func43 rfl tr_R_Knots rfl hn h
theorem acS_R_Knots {xs : List AV} {S S' : AStore} {r : AV} (hn : xs.length ≤ 23) (h : Clean S → ∀ C : Ctx, C.n = 23 → IWP Tryz.prog C [] ir_R_Knots (FinS C [.t 2] r S') (AS.startS xs S)) : ACallsS Tryz.prog 43 xs S r S' :=
  acallsS_of Tryz.func43 rfl tr_R_Knots rfl hn h

def ir_R_TermMay : IR :=
  (.seq
  (.ops
  [.mk (some 1) none (.box 30 (.t 0)) .no, .mk (some 2) none (.mov (.c (.one (.st (.int .i64 0)))))
  .no])
  (.seq
  (.seq
  (.ops
  [.mk (some 5) none (.load true 2 (.t 1)) .no, .mk (some 6) none (.call 8
  [.t 5, .c (.one (.st (.int .i64 200)))])
  .no, .mk (some 7) none (.bin .gtr (.t 6) (.c (.one (.st (.int .i64 200)))))
  .no])
  (.cond (.t 7)
  (.seq
  (.ops
  [.mk (some 2) none (.mov (.c (.one (.st (.int .i64 3)))))
  .no])
  .ret)
  .skip))
  (.seq
  (.ops
  [.mk (some 8) none (.load true 2 (.t 1)) .no, .mk (some 9) none (.call 43 [.t 8]) .no, .mk (some 3) none (.mov (.t 9)) .no])
  (.seq
  (.seq
  (.ops
  [.mk (some 4) none (.mov (.c (.one (.st (.int .i64 0)))))
  .no])
  (.block 0
  (.loop
  (.seq
  (.seq
  (.ops
  [.mk (some 10) none (.mov (.t 4)) .no, .mk (some 11) none (.mov (.t 3)) .no, .mk (some 12) none (.len false (.t 11))
  .no, .mk (some 13) none (.bin .lss (.t 10) (.t 12)) .no])
  (.cond (.t 13) .skip (.exit 0)))
  (.seq
  (.block 1
  (.seq
  (.seq
  (.ops
  [.mk (some 16) none (.mov (.t 3))
  .no, .mk (some 17) none (.mov (.t 4))
  .no, .mk (some 18) none
  (.indexAddr 2 (.t 16) (.t 17)) .no, .mk (some 19) none (.fieldAddr 0 (.t 18))
  .no, .mk (some 20) none (.load false 1 (.t 19))
  .no, .mk (some 21) none (.call 25 [.t 20])
  .no, .mk (some 22) none (.un .not (.t 21))
  .no])
  (.cond (.t 22)
  (.seq
  (.ops
  [.mk (some 2) none (.mov (.c (.one (.st (.int .i64 1)))))
  .no])
  .ret)
  .skip))
  (.seq
  (.ops
  [.mk (some 23) none (.mov (.t 3))
  .no, .mk (some 24) none (.mov (.t 4))
  .no, .mk (some 25) none
  (.indexAddr 2 (.t 23) (.t 24)) .no, .mk (some 26) none (.fieldAddr 0 (.t 25))
  .no, .mk (some 27) none (.load false 1 (.t 26))
  .no, .mk (some 28) none (.call 26 [.t 27])
  .no, .mk (some 29) none (.mov (.t 28))
  .no, .mk (some 30) (some (29, true)) (.mov (.t 3))
  .no, .mk (some 31) (some (29, true)) (.mov (.t 4))
  .no, .mk (some 32) (some (29, true))
  (.indexAddr 2 (.t 30) (.t 31)) .no, .mk (some 33) (some (29, true)) (.fieldAddr 1 (.t 32))
  .no, .mk (some 34) (some (29, true)) (.load false 1 (.t 33))
  .no, .mk (some 35) (some (29, true)) (.len false (.t 34))
  .no, .mk (some 36) (some (29, true)) (.bin .gtr (.t 35) (.c (.one (.st (.int .i64 0)))))
  .no, .mk (some 37) none
  (.pick (.t 29) (.t 36) (.c (.one (.st (.bool false)))))
  .no])
  (.cond (.t 37)
  (.seq
  (.ops
  [.mk (some 2) none (.mov (.c (.one (.st (.int .i64 2)))))
  .no])
  .ret)
  .skip))))
  (.ops
  [.mk (some 14) none (.mov (.t 4)) .no, .mk (some 15) none (.bin .add (.t 14) (.c (.one (.st (.int .i64 1)))))
  .no, .mk (some 4) none (.mov (.t 15))
  .no]))))))
  (.seq
  (.ops
  [.mk (some 2) none (.mov (.c (.one (.st (.int .i64 0)))))
  .no])
  .ret)))))
theorem tr_R_TermMay : trCode Tryz.prog 38 [] (Tryz.f42.body.getD .skip) = some ir_R_TermMay := by kernel_rfl
theorem ac_R_TermMay {xs : List AV} {r : AV} (hn : xs.length ≤ 38) (h : ∀ C : Ctx, C.n = 38 → IWP Tryz.prog C [] ir_R_TermMay (FinQ [.t 2] r) (AS.start xs)) : ACalls Tryz.prog 42 xs r :=
  acalls_of Tryz.func42 rfl tr_R_TermMay rfl hn h
theorem acS_R_TermMay {xs : List AV} {S S' : AStore} {r : AV} (hn : xs.length ≤ 38) (h : Clean S → ∀ C : Ctx, C.n = 38 → IWP Tryz.prog C [] ir_R_TermMay (FinS C [.t 2] r S') (AS.startS xs S)) : ACallsS Tryz.prog 42 xs S r S' :=
  acallsS_of Tryz.func42 rfl tr_R_TermMay rfl hn h

def ir_R_Same : IR :=
  (.seq
  (.ops
  [.mk (some 2) none (.box 30 (.t 0)) .no, .mk (some 3) none (.box 30 (.t 1)) .no, .mk (some 4) none (.mov (.c (.one (.st (.bool false)))))
  .no])
  (.seq
  (.seq
  (.ops
  [.mk (some 6) none (.fieldAddr 0 (.t 2)) .no, .mk (some 7) none (.load false 1 (.t 6))
  .no, .mk (some 8) none (.fieldAddr 0 (.t 3)) .no, .mk (some 9) none (.load false 1 (.t 8))
  .no, .mk (some 10) none (.bin .neq (.t 7) (.t 9)) .no, .mk (some 11) none (.mov (.t 10)) .no, .mk (some 12) (some (11, false)) (.fieldAddr 1 (.t 2))
  .no, .mk (some 13) (some (11, false)) (.load false 1 (.t 12))
  .no, .mk (some 14) (some (11, false)) (.len false (.t 13))
  .no, .mk (some 15) (some (11, false)) (.fieldAddr 1 (.t 3))
  .no, .mk (some 16) (some (11, false)) (.load false 1 (.t 15))
  .no, .mk (some 17) (some (11, false)) (.len false (.t 16))
  .no, .mk (some 18) (some (11, false)) (.bin .neq (.t 14) (.t 17)) .no, .mk (some 19) none
  (.pick (.t 11) (.c (.one (.st (.bool true)))) (.t 18))
  .no])
  (.cond (.t 19)
  (.seq
  (.ops
  [.mk (some 4) none (.mov (.c (.one (.st (.bool false)))))
  .no])
  .ret)
  .skip))
  (.seq
  (.seq
  (.ops
  [.mk (some 5) none (.mov (.c (.one (.st (.int .i64 0)))))
  .no])
  (.block 0
  (.loop
  (.seq
  (.seq
  (.ops
  [.mk (some 20) none (.mov (.t 5)) .no, .mk (some 21) none (.fieldAddr 1 (.t 2))
  .no, .mk (some 22) none (.load false 1 (.t 21))
  .no, .mk (some 23) none (.len false (.t 22))
  .no, .mk (some 24) none (.bin .lss (.t 20) (.t 23)) .no])
  (.cond (.t 24) .skip (.exit 0)))
  (.seq
  (.block 1
  (.seq
  (.ops
  [.mk (some 27) none (.fieldAddr 1 (.t 2))
  .no, .mk (some 28) none (.load false 1 (.t 27))
  .no, .mk (some 29) none (.mov (.t 5))
  .no, .mk (some 30) none
  (.indexAddr 2 (.t 28) (.t 29)) .no, .mk (some 31) none (.load true 2 (.t 30))
  .no, .mk (some 32) none (.fieldAddr 1 (.t 3))
  .no, .mk (some 33) none (.load false 1 (.t 32))
  .no, .mk (some 34) none (.mov (.t 5))
  .no, .mk (some 35) none
  (.indexAddr 2 (.t 33) (.t 34)) .no, .mk (some 36) none (.load true 2 (.t 35))
  .no, .mk (some 37) none (.call 41 [.t 31, .t 36]) .no, .mk (some 38) none (.un .not (.t 37))
  .no])
  (.cond (.t 38)
  (.seq
  (.ops
  [.mk (some 4) none (.mov (.c (.one (.st (.bool false)))))
  .no])
  .ret)
  .skip)))
  (.ops
  [.mk (some 25) none (.mov (.t 5)) .no, .mk (some 26) none (.bin .add (.t 25) (.c (.one (.st (.int .i64 1)))))
  .no, .mk (some 5) none (.mov (.t 26))
  .no]))))))
  (.seq
  (.ops
  [.mk (some 4) none (.mov (.c (.one (.st (.bool true)))))
  .no])
  .ret))))
theorem tr_R_Same : trCode Tryz.prog 39 [] (Tryz.f41.body.getD .skip) = some ir_R_Same := by kernel_rfl
theorem ac_R_Same {xs : List AV} {r : AV} (hn : xs.length ≤ 39) (h : ∀ C : Ctx, C.n = 39 → IWP Tryz.prog C [] ir_R_Same (FinQ [.t 4] r) (AS.start xs)) : ACalls Tryz.prog 41 xs r :=
  acalls_of Tryz.func41 rfl tr_R_Same rfl hn h
theorem acS_R_Same {xs : List AV} {S S' : AStore} {r : AV} (hn : xs.length ≤ 39) (h : Clean S → ∀ C : Ctx, C.n = 39 → IWP Tryz.prog C [] ir_R_Same (FinS C [.t 4] r S') (AS.startS xs S)) : ACallsS Tryz.prog 41 xs S r S' :=
  acallsS_of Tryz.func41 rfl tr_R_Same rfl hn h

def ir_L_huge : IR :=
  (.seq
  (.ops
  [.mk (some 1) none (.box 30 (.t 0)) .no, .mk (some 2) none (.mov (.c (.one (.st (.bool false)))))
  .no])
  (.seq
  (.ops
  [.mk (some 3) none (.load true 2 (.t 1)) .no, .mk (some 4) none (.call 8
  [.t 3, .c (.one (.st (.int .i64 3000)))])
  .no, .mk (some 5) none (.bin .gtr (.t 4) (.c (.one (.st (.int .i64 3000)))))
  .no, .mk (some 2) none (.mov (.t 5)) .no])
  .ret))
theorem tr_L_huge : trCode Tryz.prog 6 [] (Tryz.f21.body.getD .skip) = some ir_L_huge := by kernel_rfl
theorem ac_L_huge {xs : List AV} {r : AV} (hn : xs.length ≤ 6) (h : ∀ C : Ctx, C.n = 6 → IWP Tryz.prog C [] ir_L_huge (FinQ [.t 2] r) (AS.start xs)) : ACalls Tryz.prog 21 xs r :=
  acalls_of Tryz.func21 rfl tr_L_huge rfl hn h
theorem acS_L_huge {xs : List AV} {S S' : AStore} {r : AV} (hn : xs.length ≤ 6) (h : Clean S → ∀ C : Ctx, C.n = 6 → IWP Tryz.prog C [] ir_L_huge (FinS C [.t 2] r S') (AS.startS xs S)) : ACallsS Tryz.prog 21 xs S r S' :=
  acallsS_of Tryz.func21 rfl tr_L_huge rfl hn h

def ir_L_term2 : IR :=
  (.seq
  (.ops
  [.mk (some 4) none (.box 30 (.t 0)) .no, .mk (some 6) none (.box 30 (.t 2)) .no, .mk (some 8) none (.mov (.c (.one (.st (.bool false)))))
  .no])
  (.seq
  (.seq
  (.ops
  [.mk (some 9) none (.mov (.t 3)) .no, .mk (some 10) none (.bin .neq (.t 9) (.c (.one (.st (.int .i64 0)))))
  .no])
  (.cond (.t 10)
  (.seq
  (.ops
  [.mk (some 11) none (.mov (.t 1)) .no, .mk (some 12) none (.mov (.t 3)) .no, .mk (some 13) none (.bin .eql (.t 11) (.t 12)) .no, .mk (some 14) none (.mov (.t 13)) .no, .mk (some 15) (some (14, true)) (.fieldAddr 0 (.t 4))
  .no, .mk (some 16) (some (14, true)) (.load false 1 (.t 15))
  .no, .mk (some 17) (some (14, true)) (.bin .eql (.t 16) (.c (.one (.st (.str (ByteArray.mk (#[])))))))
  .no, .mk (some 18) none
  (.pick (.t 14) (.t 17) (.c (.one (.st (.bool false)))))
  .no, .mk (some 19) none (.mov (.t 18)) .no, .mk (some 20) (some (19, true)) (.fieldAddr 1 (.t 4))
  .no, .mk (some 21) (some (19, true)) (.load false 1 (.t 20))
  .no, .mk (some 22) (some (19, true)) (.len false (.t 21))
  .no, .mk (some 23) (some (19, true)) (.bin .eql (.t 22) (.c (.one (.st (.int .i64 0)))))
  .no, .mk (some 24) none
  (.pick (.t 19) (.t 23) (.c (.one (.st (.bool false)))))
  .no, .mk (some 8) none (.mov (.t 24)) .no])
  .ret)
  .skip))
  (.seq
  (.ops
  [.mk (some 25) none (.mov (.t 1)) .no, .mk (some 26) none (.bin .eql (.t 25) (.c (.one (.st (.int .i64 0)))))
  .no, .mk (some 27) none (.mov (.t 26)) .no, .mk (some 28) (some (27, true)) (.load true 2 (.t 4))
  .no, .mk (some 29) (some (27, true)) (.load true 2 (.t 6))
  .no, .mk (some 30) (some (27, true)) (.call 41 [.t 28, .t 29]) .no, .mk (some 31) none
  (.pick (.t 27) (.t 30) (.c (.one (.st (.bool false)))))
  .no, .mk (some 8) none (.mov (.t 31)) .no])
  .ret)))
theorem tr_L_term2 : trCode Tryz.prog 32 [] (Tryz.f20.body.getD .skip) = some ir_L_term2 := by kernel_rfl
theorem ac_L_term2 {xs : List AV} {r : AV} (hn : xs.length ≤ 32) (h : ∀ C : Ctx, C.n = 32 → IWP Tryz.prog C [] ir_L_term2 (FinQ [.t 8] r) (AS.start xs)) : ACalls Tryz.prog 20 xs r :=
  acalls_of Tryz.func20 rfl tr_L_term2 rfl hn h
theorem acS_L_term2 {xs : List AV} {S S' : AStore} {r : AV} (hn : xs.length ≤ 32) (h : Clean S → ∀ C : Ctx, C.n = 32 → IWP Tryz.prog C [] ir_L_term2 (FinS C [.t 8] r S') (AS.startS xs S)) : ACallsS Tryz.prog 20 xs S r S' :=
  acallsS_of Tryz.func20 rfl tr_L_term2 rfl hn h

def ir_term_Copy : IR :=
  (.seq
  (.ops
  [.mk (some 1) none (.box 30 (.t 0)) .no, .mk (some 2) none
  (.alloc 30 [.st (.str (ByteArray.mk (#[]))), .full []])
  .no])
  (.seq
  (.ops
  [.mk (some 6) none (.fieldAddr 0 (.t 1)) .no, .mk (some 7) none (.load false 1 (.t 6)) .no, .mk (some 8) none
  (.build [.st (.str (ByteArray.mk (#[]))), .full []]
  [(0, 1, .t 7)])
  .no, .mk (some 3) none
  (.alloc 30 [.st (.str (ByteArray.mk (#[]))), .full []])
  .no, .mk none none (.store 2 (.t 3) (.t 8))
  .no])
  (.seq
  (.seq
  (.ops
  [.mk (some 9) none (.fieldAddr 1 (.t 1)) .no, .mk (some 10) none (.load false 1 (.t 9))
  .no, .mk (some 11) none (.len false (.t 10))
  .no, .mk (some 12) none (.mov (.c (.one (.st (.int .i64 0)))))
  .no])
  (.block 0
  (.loop
  (.seq
  (.ops
  [.mk (some 13) none (.bin .lss (.t 12) (.t 11)) .no])
  (.seq
  (.cond (.t 13) .skip (.exit 0))
  (.seq
  (.block 1
  (.seq
  (.ops
  [.mk (some 14) none
  (.indexAddr 2 (.t 10) (.t 12)) .no, .mk (some 15) none (.load true 2 (.t 14))
  .no, .mk (some 5) none
  (.alloc 30
  [.st (.str (ByteArray.mk (#[]))), .full []])
  .no, .mk none none (.store 2 (.t 5) (.t 15)) .no])
  (.ops
  [.mk (some 16) none (.fieldAddr 1 (.t 3))
  .no, .mk (some 17) none (.load false 1 (.t 16))
  .no, .mk (some 18) none (.load true 2 (.t 5))
  .no, .mk (some 19) none (.call 46 [.t 18])
  .no, .mk (some 20) none (.buildSlice false 30 2 [.t 19])
  .no, .mk (some 21) none
  (.append false 30 2 40 (.t 17) (.t 20))
  .no, .mk (some 22) none (.fieldAddr 1 (.t 3))
  .no, .mk none none (.store 1 (.t 22) (.t 21)) .no])))
  (.ops
  [.mk (some 23) none (.bin .add (.t 12) (.c (.one (.st (.int .i64 1)))))
  .no, .mk (some 12) none (.mov (.t 23))
  .no])))))))
  (.seq
  (.ops
  [.mk (some 24) none (.load true 2 (.t 3))
  .no, .mk none none (.store 2 (.t 2) (.t 24))
  .no])
  .ret))))
theorem tr_term_Copy : trCode Tryz.prog 25 [] (Tryz.f46.body.getD .skip) = some ir_term_Copy := by kernel_rfl
theorem ac_term_Copy {xs : List AV} {r : AV} (hn : xs.length ≤ 25) (h : ∀ C : Ctx, C.n = 25 → IWP Tryz.prog C [] ir_term_Copy (FinQ [.cell 2 true 2] r) (AS.start xs)) : ACalls Tryz.prog 46 xs r :=
  acalls_of Tryz.func46 rfl tr_term_Copy rfl hn h
theorem acS_term_Copy {xs : List AV} {S S' : AStore} {r : AV} (hn : xs.length ≤ 25) (h : Clean S → ∀ C : Ctx, C.n = 25 → IWP Tryz.prog C [] ir_term_Copy (FinS C [.cell 2 true 2] r S') (AS.startS xs S)) : ACallsS Tryz.prog 46 xs S r S' :=
  acallsS_of Tryz.func46 rfl tr_term_Copy rfl hn h

end Go.Proofs.YtbiadmlfejnbcaaGreatDoor

namespace Go.Proofs.YtbiadmlfejnbcaaGreatDoor
open Go Go.RowKit
set_option linter.unusedVariables false
set_option linter.unusedSimpArgs false
set_option maxHeartbeats 400000

theorem byteN_eq (s : ByteArray) (k : Nat) : byteN s k = byteAt s k := rfl
theorem size_ne {s : ByteArray} (h : ¬ s.size = 0) : ¬ s = ⟨#[]⟩ := fun e => h (by rw [e]; rfl)
theorem size_eq0 {s : ByteArray} (h : s.size = 0) : s = ⟨#[]⟩ := by
  have := ByteArray.size_eq_zero_iff.1 h
  exact this

theorem letter_a (n : Int) (h0 : 0 ≤ n) : ACalls Tryz.prog 66 [.one (.st (.int .u8 n))] (aBool (letterI n)) := by
  refine ac_term_letter (Nat.le_of_ble_eq_true rfl) fun C hC => ?_
  unfold ir_term_letter
  have hc : (97 ≤ n ∧ n ≤ 122) ∨ (122 < n) ∨ (n < 97 ∧ 65 ≤ n ∧ n ≤ 90) ∨ (n < 97 ∧ 90 < n) ∨ (n < 65 ∧ 48 ≤ n ∧ n ≤ 57) ∨ (n < 65 ∧ 57 < n) ∨ (n < 48) := by omega
  rcases hc with h | h | h | h | h | h | h
  · have h1 : 97 ≤ n := h.1
    have h2 : n ≤ 122 := h.2
    repeat' (first | (with_reducible first | refine Wa ?_ | refine Wb ?_ | refine Wc ?_ | refine Wd ?_ | refine We ?_ | refine Wf ?_ | refine Wg ?_ | refine Wh ?_ | refine Wi ?_ | refine Wj ?_ | refine Wk (by decide) ?_ | refine Wl ?_ | refine Wm ?_ | refine Wn ?_) | ((with_reducible first | refine Wo (fun K hK => ?_) | refine Wq ?_ | refine Wr ?_); (try simp only [go_sem, List.forall_mem_nil, ↓guard_ite, ↓pick_ite, seval, encT_eq, inR_i64, h1, h2]); (repeat with_reducible refine And.intro (by first | omega | with_reducible exact lens_encT | with_reducible exact lens_encL | (simp; done) | (simp only [List.length_take, List.length_map, List.length_append, maxLen_eq]; omega)) ?_); (try (with_reducible refine hK _ ?_; clear hK K))))
    simp only [go_sem, List.forall_mem_nil, ↓guard_ite, ↓pick_ite, seval, FinQ, AS.result, resAll, resOne, tupV, letterI, h1, h2]
    try simp
  · have h1 : 97 ≤ n := by omega
    have h2 : ¬ n ≤ 122 := by omega
    have h3 : 65 ≤ n := by omega
    have h4 : ¬ n ≤ 90 := by omega
    have h5 : 48 ≤ n := by omega
    have h6 : ¬ n ≤ 57 := by omega
    repeat' (first | (with_reducible first | refine Wa ?_ | refine Wb ?_ | refine Wc ?_ | refine Wd ?_ | refine We ?_ | refine Wf ?_ | refine Wg ?_ | refine Wh ?_ | refine Wi ?_ | refine Wj ?_ | refine Wk (by decide) ?_ | refine Wl ?_ | refine Wm ?_ | refine Wn ?_) | ((with_reducible first | refine Wo (fun K hK => ?_) | refine Wq ?_ | refine Wr ?_); (try simp only [go_sem, List.forall_mem_nil, ↓guard_ite, ↓pick_ite, seval, encT_eq, inR_i64, h1, h2, h3, h4, h5, h6]); (repeat with_reducible refine And.intro (by first | omega | with_reducible exact lens_encT | with_reducible exact lens_encL | (simp; done) | (simp only [List.length_take, List.length_map, List.length_append, maxLen_eq]; omega)) ?_); (try (with_reducible refine hK _ ?_; clear hK K))))
    simp only [go_sem, List.forall_mem_nil, ↓guard_ite, ↓pick_ite, seval, FinQ, AS.result, resAll, resOne, tupV, letterI, h1, h2, h3, h4, h5, h6]
    try simp
  · have h1 : ¬ 97 ≤ n := by omega
    have h3 : 65 ≤ n := by omega
    have h4 : n ≤ 90 := by omega
    repeat' (first | (with_reducible first | refine Wa ?_ | refine Wb ?_ | refine Wc ?_ | refine Wd ?_ | refine We ?_ | refine Wf ?_ | refine Wg ?_ | refine Wh ?_ | refine Wi ?_ | refine Wj ?_ | refine Wk (by decide) ?_ | refine Wl ?_ | refine Wm ?_ | refine Wn ?_) | ((with_reducible first | refine Wo (fun K hK => ?_) | refine Wq ?_ | refine Wr ?_); (try simp only [go_sem, List.forall_mem_nil, ↓guard_ite, ↓pick_ite, seval, encT_eq, inR_i64, h1, h3, h4]); (repeat with_reducible refine And.intro (by first | omega | with_reducible exact lens_encT | with_reducible exact lens_encL | (simp; done) | (simp only [List.length_take, List.length_map, List.length_append, maxLen_eq]; omega)) ?_); (try (with_reducible refine hK _ ?_; clear hK K))))
    simp only [go_sem, List.forall_mem_nil, ↓guard_ite, ↓pick_ite, seval, FinQ, AS.result, resAll, resOne, tupV, letterI, h1, h3, h4]
    try simp
  · have h1 : ¬ 97 ≤ n := by omega
    have h3 : 65 ≤ n := by omega
    have h4 : ¬ n ≤ 90 := by omega
    have h5 : 48 ≤ n := by omega
    have h6 : ¬ n ≤ 57 := by omega
    repeat' (first | (with_reducible first | refine Wa ?_ | refine Wb ?_ | refine Wc ?_ | refine Wd ?_ | refine We ?_ | refine Wf ?_ | refine Wg ?_ | refine Wh ?_ | refine Wi ?_ | refine Wj ?_ | refine Wk (by decide) ?_ | refine Wl ?_ | refine Wm ?_ | refine Wn ?_) | ((with_reducible first | refine Wo (fun K hK => ?_) | refine Wq ?_ | refine Wr ?_); (try simp only [go_sem, List.forall_mem_nil, ↓guard_ite, ↓pick_ite, seval, encT_eq, inR_i64, h1, h3, h4, h5, h6]); (repeat with_reducible refine And.intro (by first | omega | with_reducible exact lens_encT | with_reducible exact lens_encL | (simp; done) | (simp only [List.length_take, List.length_map, List.length_append, maxLen_eq]; omega)) ?_); (try (with_reducible refine hK _ ?_; clear hK K))))
    simp only [go_sem, List.forall_mem_nil, ↓guard_ite, ↓pick_ite, seval, FinQ, AS.result, resAll, resOne, tupV, letterI, h1, h3, h4, h5, h6]
    try simp
  · have h1 : ¬ 97 ≤ n := by omega
    have h3 : ¬ 65 ≤ n := by omega
    have h5 : 48 ≤ n := by omega
    have h6 : n ≤ 57 := by omega
    repeat' (first | (with_reducible first | refine Wa ?_ | refine Wb ?_ | refine Wc ?_ | refine Wd ?_ | refine We ?_ | refine Wf ?_ | refine Wg ?_ | refine Wh ?_ | refine Wi ?_ | refine Wj ?_ | refine Wk (by decide) ?_ | refine Wl ?_ | refine Wm ?_ | refine Wn ?_) | ((with_reducible first | refine Wo (fun K hK => ?_) | refine Wq ?_ | refine Wr ?_); (try simp only [go_sem, List.forall_mem_nil, ↓guard_ite, ↓pick_ite, seval, encT_eq, inR_i64, h1, h3, h5, h6]); (repeat with_reducible refine And.intro (by first | omega | with_reducible exact lens_encT | with_reducible exact lens_encL | (simp; done) | (simp only [List.length_take, List.length_map, List.length_append, maxLen_eq]; omega)) ?_); (try (with_reducible refine hK _ ?_; clear hK K))))
    simp only [go_sem, List.forall_mem_nil, ↓guard_ite, ↓pick_ite, seval, FinQ, AS.result, resAll, resOne, tupV, letterI, h1, h3, h5, h6]
    try simp
  · have h1 : ¬ 97 ≤ n := by omega
    have h3 : ¬ 65 ≤ n := by omega
    have h5 : 48 ≤ n := by omega
    have h6 : ¬ n ≤ 57 := by omega
    repeat' (first | (with_reducible first | refine Wa ?_ | refine Wb ?_ | refine Wc ?_ | refine Wd ?_ | refine We ?_ | refine Wf ?_ | refine Wg ?_ | refine Wh ?_ | refine Wi ?_ | refine Wj ?_ | refine Wk (by decide) ?_ | refine Wl ?_ | refine Wm ?_ | refine Wn ?_) | ((with_reducible first | refine Wo (fun K hK => ?_) | refine Wq ?_ | refine Wr ?_); (try simp only [go_sem, List.forall_mem_nil, ↓guard_ite, ↓pick_ite, seval, encT_eq, inR_i64, h1, h3, h5, h6]); (repeat with_reducible refine And.intro (by first | omega | with_reducible exact lens_encT | with_reducible exact lens_encL | (simp; done) | (simp only [List.length_take, List.length_map, List.length_append, maxLen_eq]; omega)) ?_); (try (with_reducible refine hK _ ?_; clear hK K))))
    simp only [go_sem, List.forall_mem_nil, ↓guard_ite, ↓pick_ite, seval, FinQ, AS.result, resAll, resOne, tupV, letterI, h1, h3, h5, h6]
    try simp
  · have h1 : ¬ 97 ≤ n := by omega
    have h3 : ¬ 65 ≤ n := by omega
    have h5 : ¬ 48 ≤ n := by omega
    repeat' (first | (with_reducible first | refine Wa ?_ | refine Wb ?_ | refine Wc ?_ | refine Wd ?_ | refine We ?_ | refine Wf ?_ | refine Wg ?_ | refine Wh ?_ | refine Wi ?_ | refine Wj ?_ | refine Wk (by decide) ?_ | refine Wl ?_ | refine Wm ?_ | refine Wn ?_) | ((with_reducible first | refine Wo (fun K hK => ?_) | refine Wq ?_ | refine Wr ?_); (try simp only [go_sem, List.forall_mem_nil, ↓guard_ite, ↓pick_ite, seval, encT_eq, inR_i64, h1, h3, h5]); (repeat with_reducible refine And.intro (by first | omega | with_reducible exact lens_encT | with_reducible exact lens_encL | (simp; done) | (simp only [List.length_take, List.length_map, List.length_append, maxLen_eq]; omega)) ?_); (try (with_reducible refine hK _ ?_; clear hK K))))
    simp only [go_sem, List.forall_mem_nil, ↓guard_ite, ↓pick_ite, seval, FinQ, AS.result, resAll, resOne, tupV, letterI, h1, h3, h5]
    try simp
theorem isLetter_a (n : Int) (h0 : 0 ≤ n) : ACalls Tryz.prog 48 [.one (.st (.int .u8 n))] (aBool (letterI n)) := by
  refine ac_R_IsLetter (Nat.le_of_ble_eq_true rfl) fun C hC => ?_
  unfold ir_R_IsLetter
  have hc : (97 ≤ n ∧ n ≤ 122) ∨ (122 < n) ∨ (n < 97 ∧ 65 ≤ n ∧ n ≤ 90) ∨ (n < 97 ∧ 90 < n) ∨ (n < 65 ∧ 48 ≤ n ∧ n ≤ 57) ∨ (n < 65 ∧ 57 < n) ∨ (n < 48) := by omega
  rcases hc with h | h | h | h | h | h | h
  · have h1 : 97 ≤ n := h.1
    have h2 : n ≤ 122 := h.2
    repeat' (first | (with_reducible first | refine Wa ?_ | refine Wb ?_ | refine Wc ?_ | refine Wd ?_ | refine We ?_ | refine Wf ?_ | refine Wg ?_ | refine Wh ?_ | refine Wi ?_ | refine Wj ?_ | refine Wk (by decide) ?_ | refine Wl ?_ | refine Wm ?_ | refine Wn ?_) | ((with_reducible first | refine Wo (fun K hK => ?_) | refine Wq ?_ | refine Wr ?_); (try simp only [go_sem, List.forall_mem_nil, ↓guard_ite, ↓pick_ite, seval, encT_eq, inR_i64, h1, h2]); (repeat with_reducible refine And.intro (by first | omega | with_reducible exact lens_encT | with_reducible exact lens_encL | (simp; done) | (simp only [List.length_take, List.length_map, List.length_append, maxLen_eq]; omega)) ?_); (try (with_reducible refine hK _ ?_; clear hK K))))
    simp only [go_sem, List.forall_mem_nil, ↓guard_ite, ↓pick_ite, seval, FinQ, AS.result, resAll, resOne, tupV, letterI, h1, h2]
    try simp
  · have h1 : 97 ≤ n := by omega
    have h2 : ¬ n ≤ 122 := by omega
    have h3 : 65 ≤ n := by omega
    have h4 : ¬ n ≤ 90 := by omega
    have h5 : 48 ≤ n := by omega
    have h6 : ¬ n ≤ 57 := by omega
    repeat' (first | (with_reducible first | refine Wa ?_ | refine Wb ?_ | refine Wc ?_ | refine Wd ?_ | refine We ?_ | refine Wf ?_ | refine Wg ?_ | refine Wh ?_ | refine Wi ?_ | refine Wj ?_ | refine Wk (by decide) ?_ | refine Wl ?_ | refine Wm ?_ | refine Wn ?_) | ((with_reducible first | refine Wo (fun K hK => ?_) | refine Wq ?_ | refine Wr ?_); (try simp only [go_sem, List.forall_mem_nil, ↓guard_ite, ↓pick_ite, seval, encT_eq, inR_i64, h1, h2, h3, h4, h5, h6]); (repeat with_reducible refine And.intro (by first | omega | with_reducible exact lens_encT | with_reducible exact lens_encL | (simp; done) | (simp only [List.length_take, List.length_map, List.length_append, maxLen_eq]; omega)) ?_); (try (with_reducible refine hK _ ?_; clear hK K))))
    simp only [go_sem, List.forall_mem_nil, ↓guard_ite, ↓pick_ite, seval, FinQ, AS.result, resAll, resOne, tupV, letterI, h1, h2, h3, h4, h5, h6]
    try simp
  · have h1 : ¬ 97 ≤ n := by omega
    have h3 : 65 ≤ n := by omega
    have h4 : n ≤ 90 := by omega
    repeat' (first | (with_reducible first | refine Wa ?_ | refine Wb ?_ | refine Wc ?_ | refine Wd ?_ | refine We ?_ | refine Wf ?_ | refine Wg ?_ | refine Wh ?_ | refine Wi ?_ | refine Wj ?_ | refine Wk (by decide) ?_ | refine Wl ?_ | refine Wm ?_ | refine Wn ?_) | ((with_reducible first | refine Wo (fun K hK => ?_) | refine Wq ?_ | refine Wr ?_); (try simp only [go_sem, List.forall_mem_nil, ↓guard_ite, ↓pick_ite, seval, encT_eq, inR_i64, h1, h3, h4]); (repeat with_reducible refine And.intro (by first | omega | with_reducible exact lens_encT | with_reducible exact lens_encL | (simp; done) | (simp only [List.length_take, List.length_map, List.length_append, maxLen_eq]; omega)) ?_); (try (with_reducible refine hK _ ?_; clear hK K))))
    simp only [go_sem, List.forall_mem_nil, ↓guard_ite, ↓pick_ite, seval, FinQ, AS.result, resAll, resOne, tupV, letterI, h1, h3, h4]
    try simp
  · have h1 : ¬ 97 ≤ n := by omega
    have h3 : 65 ≤ n := by omega
    have h4 : ¬ n ≤ 90 := by omega
    have h5 : 48 ≤ n := by omega
    have h6 : ¬ n ≤ 57 := by omega
    repeat' (first | (with_reducible first | refine Wa ?_ | refine Wb ?_ | refine Wc ?_ | refine Wd ?_ | refine We ?_ | refine Wf ?_ | refine Wg ?_ | refine Wh ?_ | refine Wi ?_ | refine Wj ?_ | refine Wk (by decide) ?_ | refine Wl ?_ | refine Wm ?_ | refine Wn ?_) | ((with_reducible first | refine Wo (fun K hK => ?_) | refine Wq ?_ | refine Wr ?_); (try simp only [go_sem, List.forall_mem_nil, ↓guard_ite, ↓pick_ite, seval, encT_eq, inR_i64, h1, h3, h4, h5, h6]); (repeat with_reducible refine And.intro (by first | omega | with_reducible exact lens_encT | with_reducible exact lens_encL | (simp; done) | (simp only [List.length_take, List.length_map, List.length_append, maxLen_eq]; omega)) ?_); (try (with_reducible refine hK _ ?_; clear hK K))))
    simp only [go_sem, List.forall_mem_nil, ↓guard_ite, ↓pick_ite, seval, FinQ, AS.result, resAll, resOne, tupV, letterI, h1, h3, h4, h5, h6]
    try simp
  · have h1 : ¬ 97 ≤ n := by omega
    have h3 : ¬ 65 ≤ n := by omega
    have h5 : 48 ≤ n := by omega
    have h6 : n ≤ 57 := by omega
    repeat' (first | (with_reducible first | refine Wa ?_ | refine Wb ?_ | refine Wc ?_ | refine Wd ?_ | refine We ?_ | refine Wf ?_ | refine Wg ?_ | refine Wh ?_ | refine Wi ?_ | refine Wj ?_ | refine Wk (by decide) ?_ | refine Wl ?_ | refine Wm ?_ | refine Wn ?_) | ((with_reducible first | refine Wo (fun K hK => ?_) | refine Wq ?_ | refine Wr ?_); (try simp only [go_sem, List.forall_mem_nil, ↓guard_ite, ↓pick_ite, seval, encT_eq, inR_i64, h1, h3, h5, h6]); (repeat with_reducible refine And.intro (by first | omega | with_reducible exact lens_encT | with_reducible exact lens_encL | (simp; done) | (simp only [List.length_take, List.length_map, List.length_append, maxLen_eq]; omega)) ?_); (try (with_reducible refine hK _ ?_; clear hK K))))
    simp only [go_sem, List.forall_mem_nil, ↓guard_ite, ↓pick_ite, seval, FinQ, AS.result, resAll, resOne, tupV, letterI, h1, h3, h5, h6]
    try simp
  · have h1 : ¬ 97 ≤ n := by omega
    have h3 : ¬ 65 ≤ n := by omega
    have h5 : 48 ≤ n := by omega
    have h6 : ¬ n ≤ 57 := by omega
    repeat' (first | (with_reducible first | refine Wa ?_ | refine Wb ?_ | refine Wc ?_ | refine Wd ?_ | refine We ?_ | refine Wf ?_ | refine Wg ?_ | refine Wh ?_ | refine Wi ?_ | refine Wj ?_ | refine Wk (by decide) ?_ | refine Wl ?_ | refine Wm ?_ | refine Wn ?_) | ((with_reducible first | refine Wo (fun K hK => ?_) | refine Wq ?_ | refine Wr ?_); (try simp only [go_sem, List.forall_mem_nil, ↓guard_ite, ↓pick_ite, seval, encT_eq, inR_i64, h1, h3, h5, h6]); (repeat with_reducible refine And.intro (by first | omega | with_reducible exact lens_encT | with_reducible exact lens_encL | (simp; done) | (simp only [List.length_take, List.length_map, List.length_append, maxLen_eq]; omega)) ?_); (try (with_reducible refine hK _ ?_; clear hK K))))
    simp only [go_sem, List.forall_mem_nil, ↓guard_ite, ↓pick_ite, seval, FinQ, AS.result, resAll, resOne, tupV, letterI, h1, h3, h5, h6]
    try simp
  · have h1 : ¬ 97 ≤ n := by omega
    have h3 : ¬ 65 ≤ n := by omega
    have h5 : ¬ 48 ≤ n := by omega
    repeat' (first | (with_reducible first | refine Wa ?_ | refine Wb ?_ | refine Wc ?_ | refine Wd ?_ | refine We ?_ | refine Wf ?_ | refine Wg ?_ | refine Wh ?_ | refine Wi ?_ | refine Wj ?_ | refine Wk (by decide) ?_ | refine Wl ?_ | refine Wm ?_ | refine Wn ?_) | ((with_reducible first | refine Wo (fun K hK => ?_) | refine Wq ?_ | refine Wr ?_); (try simp only [go_sem, List.forall_mem_nil, ↓guard_ite, ↓pick_ite, seval, encT_eq, inR_i64, h1, h3, h5]); (repeat with_reducible refine And.intro (by first | omega | with_reducible exact lens_encT | with_reducible exact lens_encL | (simp; done) | (simp only [List.length_take, List.length_map, List.length_append, maxLen_eq]; omega)) ?_); (try (with_reducible refine hK _ ?_; clear hK K))))
    simp only [go_sem, List.forall_mem_nil, ↓guard_ite, ↓pick_ite, seval, FinQ, AS.result, resAll, resOne, tupV, letterI, h1, h3, h5]
    try simp
theorem variable_a (s : ByteArray) : ACalls Tryz.prog 50 [aStr s] (aBool (isVar s)) := by
  by_cases h0 : s.size = 0
  · have := size_eq0 h0
    subst this
    refine ac_term_Variable (Nat.le_of_ble_eq_true rfl) fun C hC => ?_
    unfold ir_term_Variable
    repeat' (first | (with_reducible first | refine Wa ?_ | refine Wb ?_ | refine Wc ?_ | refine Wd ?_ | refine We ?_ | refine Wf ?_ | refine Wg ?_ | refine Wh ?_ | refine Wi ?_ | refine Wj ?_ | refine Wk (by decide) ?_ | refine Wl ?_ | refine Wm ?_ | refine Wn ?_) | ((with_reducible first | refine Wo (fun K hK => ?_) | refine Wq ?_ | refine Wr ?_); (try simp only [go_sem, List.forall_mem_nil, ↓guard_ite, ↓pick_ite, seval, encT_eq, inR_i64]); (repeat with_reducible refine And.intro (by first | omega | with_reducible exact lens_encT | with_reducible exact lens_encL | (simp; done) | (simp only [List.length_take, List.length_map, List.length_append, maxLen_eq]; omega)) ?_); (try (with_reducible refine hK _ ?_; clear hK K))))
    simp only [go_sem, List.forall_mem_nil, ↓guard_ite, ↓pick_ite, seval, FinQ, AS.result, resAll, resOne, tupV]
    rfl
  · have h1 := size_ne h0
    have h2 : 0 < s.size := by omega
    refine ac_term_Variable (Nat.le_of_ble_eq_true rfl) fun C hC => ?_
    unfold ir_term_Variable
    by_cases h3 : 65 ≤ byteAt s 0 <;> by_cases h4 : byteAt s 0 ≤ 90
    all_goals
      repeat' (first | (with_reducible first | refine Wa ?_ | refine Wb ?_ | refine Wc ?_ | refine Wd ?_ | refine We ?_ | refine Wf ?_ | refine Wg ?_ | refine Wh ?_ | refine Wi ?_ | refine Wj ?_ | refine Wk (by decide) ?_ | refine Wl ?_ | refine Wm ?_ | refine Wn ?_) | ((with_reducible first | refine Wo (fun K hK => ?_) | refine Wq ?_ | refine Wr ?_); (try simp only [go_sem, List.forall_mem_nil, ↓guard_ite, ↓pick_ite, seval, encT_eq, inR_i64, h1, h2, byteN_eq, h3, h4]); (repeat with_reducible refine And.intro (by first | omega | with_reducible exact lens_encT | with_reducible exact lens_encL | (simp; done) | (simp only [List.length_take, List.length_map, List.length_append, maxLen_eq]; omega)) ?_); (try (with_reducible refine hK _ ?_; clear hK K))))
      simp only [go_sem, List.forall_mem_nil, ↓guard_ite, ↓pick_ite, seval, FinQ, AS.result, resAll, resOne, tupV, isVar, h3, h4, h2]
      try simp

theorem isVar_a (s : ByteArray) : ACalls Tryz.prog 26 [aStr s] (aBool (isVar s)) := by
  by_cases h0 : s.size = 0
  · have := size_eq0 h0
    subst this
    refine ac_R_IsVar (Nat.le_of_ble_eq_true rfl) fun C hC => ?_
    unfold ir_R_IsVar
    repeat' (first | (with_reducible first | refine Wa ?_ | refine Wb ?_ | refine Wc ?_ | refine Wd ?_ | refine We ?_ | refine Wf ?_ | refine Wg ?_ | refine Wh ?_ | refine Wi ?_ | refine Wj ?_ | refine Wk (by decide) ?_ | refine Wl ?_ | refine Wm ?_ | refine Wn ?_) | ((with_reducible first | refine Wo (fun K hK => ?_) | refine Wq ?_ | refine Wr ?_); (try simp only [go_sem, List.forall_mem_nil, ↓guard_ite, ↓pick_ite, seval, encT_eq, inR_i64]); (repeat with_reducible refine And.intro (by first | omega | with_reducible exact lens_encT | with_reducible exact lens_encL | (simp; done) | (simp only [List.length_take, List.length_map, List.length_append, maxLen_eq]; omega)) ?_); (try (with_reducible refine hK _ ?_; clear hK K))))
    simp only [go_sem, List.forall_mem_nil, ↓guard_ite, ↓pick_ite, seval, FinQ, AS.result, resAll, resOne, tupV]
    rfl
  · have h1 := size_ne h0
    have h2 : 0 < s.size := by omega
    refine ac_R_IsVar (Nat.le_of_ble_eq_true rfl) fun C hC => ?_
    unfold ir_R_IsVar
    by_cases h3 : 65 ≤ byteAt s 0 <;> by_cases h4 : byteAt s 0 ≤ 90
    all_goals
      repeat' (first | (with_reducible first | refine Wa ?_ | refine Wb ?_ | refine Wc ?_ | refine Wd ?_ | refine We ?_ | refine Wf ?_ | refine Wg ?_ | refine Wh ?_ | refine Wi ?_ | refine Wj ?_ | refine Wk (by decide) ?_ | refine Wl ?_ | refine Wm ?_ | refine Wn ?_) | ((with_reducible first | refine Wo (fun K hK => ?_) | refine Wq ?_ | refine Wr ?_); (try simp only [go_sem, List.forall_mem_nil, ↓guard_ite, ↓pick_ite, seval, encT_eq, inR_i64, h1, h2, byteN_eq, h3, h4]); (repeat with_reducible refine And.intro (by first | omega | with_reducible exact lens_encT | with_reducible exact lens_encL | (simp; done) | (simp only [List.length_take, List.length_map, List.length_append, maxLen_eq]; omega)) ?_); (try (with_reducible refine hK _ ?_; clear hK K))))
      simp only [go_sem, List.forall_mem_nil, ↓guard_ite, ↓pick_ite, seval, FinQ, AS.result, resAll, resOne, tupV, isVar, h3, h4, h2]
      try simp
/-- What stands ahead of the letters of a name. -/
theorem nameOk_eq (s : ByteArray) (h1 : 1 ≤ s.size) (h8 : s.size ≤ 8) (hd : ¬ (48 ≤ byteAt s 0 ∧ byteAt s 0 ≤ 57)) : nameOk s = lettersTo s s.size := by
  unfold nameOk
  have : (decide (48 ≤ byteAt s 0) && decide (byteAt s 0 ≤ 57)) = false := by
    rw [Bool.and_eq_false_iff]
    simp
    omega
  rw [this]
  simp [h1, h8]
theorem lettersTo_zero (s : ByteArray) : lettersTo s 0 = true := rfl
theorem byte_ok {s : ByteArray} {k : Nat} : inR .u8 (byteAt s k) := by
  have := byteAt_range s k
  simp [inR, IntKind.min, IntKind.max, IntKind.signed, IntKind.bits]
  omega
theorem name_a (s : ByteArray) : ACalls Tryz.prog 49 [aStr s] (aBool (nameOk s)) := by
  by_cases h0 : s.size < 1
  · have e : nameOk s = false := by simp [nameOk]; omega
    rw [e]
    have h0' : (s.size : Int) < 1 := by omega
    refine ac_term_Name (Nat.le_of_ble_eq_true rfl) fun C hC => ?_
    unfold ir_term_Name
    repeat' (first | (with_reducible first | refine Wa ?_ | refine Wb ?_ | refine Wc ?_ | refine Wd ?_ | refine We ?_ | refine Wf ?_ | refine Wg ?_ | refine Wh ?_ | refine Wi ?_ | refine Wj ?_ | refine Wk (by decide) ?_ | refine Wl ?_ | refine Wm ?_ | refine Wn ?_) | ((with_reducible first | refine Wo (fun K hK => ?_) | refine Wq ?_ | refine Wr ?_); (try simp only [go_sem, List.forall_mem_nil, ↓guard_ite, ↓pick_ite, seval, encT_eq, inR_i64, h0']); (repeat with_reducible refine And.intro (by first | omega | with_reducible exact lens_encT | with_reducible exact lens_encL | (simp; done) | (simp only [List.length_take, List.length_map, List.length_append, maxLen_eq]; omega)) ?_); (try (with_reducible refine hK _ ?_; clear hK K))))
    with_reducible refine Wp ?_
    simp only [go_sem, List.forall_mem_nil, ↓guard_ite, ↓pick_ite, seval, true_implies, false_implies, implies_true, decide_eq_true_eq, decide_eq_false_iff_not, Int.ofNat_lt, h0']
    (try with_reducible refine ite_conj ?_)
    repeat' (first | (with_reducible first | refine Wa ?_ | refine Wb ?_ | refine Wc ?_ | refine Wd ?_ | refine We ?_ | refine Wf ?_ | refine Wg ?_ | refine Wh ?_ | refine Wi ?_ | refine Wj ?_ | refine Wk (by decide) ?_ | refine Wl ?_ | refine Wm ?_ | refine Wn ?_) | ((with_reducible first | refine Wo (fun K hK => ?_) | refine Wq ?_ | refine Wr ?_); (try simp only [go_sem, List.forall_mem_nil, ↓guard_ite, ↓pick_ite, seval, encT_eq, inR_i64]); (repeat with_reducible refine And.intro (by first | omega | with_reducible exact lens_encT | with_reducible exact lens_encL | (simp; done) | (simp only [List.length_take, List.length_map, List.length_append, maxLen_eq]; omega)) ?_); (try (with_reducible refine hK _ ?_; clear hK K))))
    simp only [go_sem, List.forall_mem_nil, ↓guard_ite, ↓pick_ite, seval, FinQ, AS.result, resAll, resOne, tupV]
  have h0' : ¬ (s.size : Int) < 1 := by omega
  by_cases h8 : 8 < s.size
  · have e : nameOk s = false := by simp [nameOk]; omega
    rw [e]
    have h8' : (8 : Int) < s.size := by omega
    refine ac_term_Name (Nat.le_of_ble_eq_true rfl) fun C hC => ?_
    unfold ir_term_Name
    repeat' (first | (with_reducible first | refine Wa ?_ | refine Wb ?_ | refine Wc ?_ | refine Wd ?_ | refine We ?_ | refine Wf ?_ | refine Wg ?_ | refine Wh ?_ | refine Wi ?_ | refine Wj ?_ | refine Wk (by decide) ?_ | refine Wl ?_ | refine Wm ?_ | refine Wn ?_) | ((with_reducible first | refine Wo (fun K hK => ?_) | refine Wq ?_ | refine Wr ?_); (try simp only [go_sem, List.forall_mem_nil, ↓guard_ite, ↓pick_ite, seval, encT_eq, inR_i64, h0', h8']); (repeat with_reducible refine And.intro (by first | omega | with_reducible exact lens_encT | with_reducible exact lens_encL | (simp; done) | (simp only [List.length_take, List.length_map, List.length_append, maxLen_eq]; omega)) ?_); (try (with_reducible refine hK _ ?_; clear hK K))))
    with_reducible refine Wp ?_
    simp only [go_sem, List.forall_mem_nil, ↓guard_ite, ↓pick_ite, seval, true_implies, false_implies, implies_true, decide_eq_true_eq, decide_eq_false_iff_not, Int.ofNat_lt, h0']
    (try with_reducible refine ite_conj ?_)
    repeat' (first | (with_reducible first | refine Wa ?_ | refine Wb ?_ | refine Wc ?_ | refine Wd ?_ | refine We ?_ | refine Wf ?_ | refine Wg ?_ | refine Wh ?_ | refine Wi ?_ | refine Wj ?_ | refine Wk (by decide) ?_ | refine Wl ?_ | refine Wm ?_ | refine Wn ?_) | ((with_reducible first | refine Wo (fun K hK => ?_) | refine Wq ?_ | refine Wr ?_); (try simp only [go_sem, List.forall_mem_nil, ↓guard_ite, ↓pick_ite, seval, encT_eq, inR_i64]); (repeat with_reducible refine And.intro (by first | omega | with_reducible exact lens_encT | with_reducible exact lens_encL | (simp; done) | (simp only [List.length_take, List.length_map, List.length_append, maxLen_eq]; omega)) ?_); (try (with_reducible refine hK _ ?_; clear hK K))))
    simp only [go_sem, List.forall_mem_nil, ↓guard_ite, ↓pick_ite, seval, FinQ, AS.result, resAll, resOne, tupV]
  have h8' : ¬ (8 : Int) < s.size := by omega
  have hpos : 0 < s.size := by omega
  by_cases hd : 48 ≤ byteAt s 0 ∧ byteAt s 0 ≤ 57
  · have e : nameOk s = false := by simp [nameOk, hd.1, hd.2]
    rw [e]
    refine ac_term_Name (Nat.le_of_ble_eq_true rfl) fun C hC => ?_
    unfold ir_term_Name
    repeat' (first | (with_reducible first | refine Wa ?_ | refine Wb ?_ | refine Wc ?_ | refine Wd ?_ | refine We ?_ | refine Wf ?_ | refine Wg ?_ | refine Wh ?_ | refine Wi ?_ | refine Wj ?_ | refine Wk (by decide) ?_ | refine Wl ?_ | refine Wm ?_ | refine Wn ?_) | ((with_reducible first | refine Wo (fun K hK => ?_) | refine Wq ?_ | refine Wr ?_); (try simp only [go_sem, List.forall_mem_nil, ↓guard_ite, ↓pick_ite, seval, encT_eq, inR_i64, h0', h8', hpos, byteN_eq, hd.1, hd.2]); (repeat with_reducible refine And.intro (by first | omega | with_reducible exact lens_encT | with_reducible exact lens_encL | (simp; done) | (simp only [List.length_take, List.length_map, List.length_append, maxLen_eq]; omega)) ?_); (try (with_reducible refine hK _ ?_; clear hK K))))
    with_reducible refine Wp ?_
    simp only [go_sem, List.forall_mem_nil, ↓guard_ite, ↓pick_ite, seval, true_implies, false_implies, implies_true, decide_eq_true_eq, decide_eq_false_iff_not, Int.ofNat_lt, h0']
    (try with_reducible refine ite_conj ?_)
    repeat' (first | (with_reducible first | refine Wa ?_ | refine Wb ?_ | refine Wc ?_ | refine Wd ?_ | refine We ?_ | refine Wf ?_ | refine Wg ?_ | refine Wh ?_ | refine Wi ?_ | refine Wj ?_ | refine Wk (by decide) ?_ | refine Wl ?_ | refine Wm ?_ | refine Wn ?_) | ((with_reducible first | refine Wo (fun K hK => ?_) | refine Wq ?_ | refine Wr ?_); (try simp only [go_sem, List.forall_mem_nil, ↓guard_ite, ↓pick_ite, seval, encT_eq, inR_i64]); (repeat with_reducible refine And.intro (by first | omega | with_reducible exact lens_encT | with_reducible exact lens_encL | (simp; done) | (simp only [List.length_take, List.length_map, List.length_append, maxLen_eq]; omega)) ?_); (try (with_reducible refine hK _ ?_; clear hK K))))
    simp only [go_sem, List.forall_mem_nil, ↓guard_ite, ↓pick_ite, seval, FinQ, AS.result, resAll, resOne, tupV]
  rw [nameOk_eq s (by omega) (by omega) hd]
  have hd2 : (48 ≤ byteAt s 0 ∧ ¬ byteAt s 0 ≤ 57) ∨ (¬ 48 ≤ byteAt s 0) := by omega
  refine ac_term_Name (Nat.le_of_ble_eq_true rfl) fun C hC => ?_
  unfold ir_term_Name
  have h57 : 48 ≤ byteAt s 0 → ¬ byteAt s 0 ≤ 57 := fun h h' => hd ⟨h, h'⟩
  by_cases h48 : 48 ≤ byteAt s 0
  all_goals
    simp only [h48, true_implies, false_implies] at h57
    repeat' (first | (with_reducible first | refine Wa ?_ | refine Wb ?_ | refine Wc ?_ | refine Wd ?_ | refine We ?_ | refine Wf ?_ | refine Wg ?_ | refine Wh ?_ | refine Wi ?_ | refine Wj ?_ | refine Wk (by decide) ?_ | refine Wl ?_ | refine Wm ?_ | refine Wn ?_) | ((with_reducible first | refine Wo (fun K hK => ?_) | refine Wq ?_ | refine Wr ?_); (try simp only [go_sem, List.forall_mem_nil, ↓guard_ite, ↓pick_ite, seval, encT_eq, inR_i64, h0', h8', hpos, byteN_eq, h48, h57]); (repeat with_reducible refine And.intro (by first | omega | with_reducible exact lens_encT | with_reducible exact lens_encL | (simp; done) | (simp only [List.length_take, List.length_map, List.length_append, maxLen_eq]; omega)) ?_); (try (with_reducible refine hK _ ?_; clear hK K))))
    with_reducible refine Wp ?_
    simp only [go_sem, List.forall_mem_nil, ↓guard_ite, ↓pick_ite, seval, true_implies, false_implies, implies_true, decide_eq_true_eq, decide_eq_false_iff_not, Int.ofNat_lt, h0']
    (try with_reducible refine ite_conj ?_)
    repeat' (first | (with_reducible first | refine Wa ?_ | refine Wb ?_ | refine Wc ?_ | refine Wd ?_ | refine We ?_ | refine Wf ?_ | refine Wg ?_ | refine Wh ?_ | refine Wi ?_ | refine Wj ?_ | refine Wk (by decide) ?_ | refine Wl ?_ | refine Wm ?_ | refine Wn ?_) | ((with_reducible first | refine Wo (fun K hK => ?_) | refine Wq ?_ | refine Wr ?_); (try simp only [go_sem, List.forall_mem_nil, ↓guard_ite, ↓pick_ite, seval, encT_eq, inR_i64]); (repeat with_reducible refine And.intro (by first | omega | with_reducible exact lens_encT | with_reducible exact lens_encL | (simp; done) | (simp only [List.length_take, List.length_map, List.length_append, maxLen_eq]; omega)) ?_); (try (with_reducible refine hK _ ?_; clear hK K))))
    refine IWP.loop (fun m x => ∃ k, k ≤ s.size ∧ m = s.size - k ∧ lettersTo s k = true ∧ x.env 0 = aStr s ∧ x.env 23 = aInt s.size ∧ x.env 24 = aInt k) s.size ⟨0, Nat.zero_le _, rfl, rfl, rfl, rfl, rfl⟩ ?_
    rintro m ⟨env, S⟩ ⟨k, hk, rfl, hl, e0, e23, e24⟩
    simp only at e0 e23 e24
    repeat' (first | (with_reducible first | refine Wa ?_ | refine Wb ?_ | refine Wc ?_ | refine Wd ?_ | refine We ?_ | refine Wf ?_ | refine Wg ?_ | refine Wh ?_ | refine Wi ?_ | refine Wj ?_ | refine Wk (by decide) ?_ | refine Wl ?_ | refine Wm ?_ | refine Wn ?_) | ((with_reducible first | refine Wo (fun K hK => ?_) | refine Wq ?_ | refine Wr ?_); (try simp only [go_sem, List.forall_mem_nil, ↓guard_ite, ↓pick_ite, seval, encT_eq, inR_i64, e0, e23, e24]); (repeat with_reducible refine And.intro (by first | omega | with_reducible exact lens_encT | with_reducible exact lens_encL | (simp; done) | (simp only [List.length_take, List.length_map, List.length_append, maxLen_eq]; omega)) ?_); (try (with_reducible refine hK _ ?_; clear hK K))))
    with_reducible refine Wp ?_
    simp only [go_sem, List.forall_mem_nil, ↓guard_ite, ↓pick_ite, seval, true_implies, false_implies, implies_true, decide_eq_true_eq, decide_eq_false_iff_not, Int.ofNat_lt, e0, e23, e24]
    (try with_reducible refine ite_conj ?_)
    refine ⟨fun hlt => ?_, fun hge => ?_⟩
    · have hlt' : k < s.size := by omega
      repeat' (first | (with_reducible first | refine Wa ?_ | refine Wb ?_ | refine Wc ?_ | refine Wd ?_ | refine We ?_ | refine Wf ?_ | refine Wg ?_ | refine Wh ?_ | refine Wi ?_ | refine Wj ?_ | refine Wk (by decide) ?_ | refine Wl ?_ | refine Wm ?_ | refine Wn ?_) | refine CallG.mk _ (letter_a _ (byteAt_range s k).1) ?_ | ((with_reducible first | refine Wo (fun K hK => ?_) | refine Wq ?_ | refine Wr ?_); (try simp only [go_sem, List.forall_mem_nil, ↓guard_ite, ↓pick_ite, seval, encT_eq, inR_i64, e0, e23, e24, hlt', byteN_eq]); (repeat with_reducible refine And.intro (by first | omega | with_reducible exact lens_encT | with_reducible exact lens_encL | (simp; done) | (simp only [List.length_take, List.length_map, List.length_append, maxLen_eq]; omega)) ?_); (try (with_reducible refine hK _ ?_; clear hK K))))
      with_reducible refine Wp ?_
      simp only [go_sem, List.forall_mem_nil, ↓guard_ite, ↓pick_ite, seval, true_implies, false_implies, implies_true, decide_eq_true_eq, decide_eq_false_iff_not, Int.ofNat_lt]
      (try with_reducible refine ite_conj ?_)
      refine ⟨fun hn => ?_, fun hn => ?_⟩
      · repeat' (first | (with_reducible first | refine Wa ?_ | refine Wb ?_ | refine Wc ?_ | refine Wd ?_ | refine We ?_ | refine Wf ?_ | refine Wg ?_ | refine Wh ?_ | refine Wi ?_ | refine Wj ?_ | refine Wk (by decide) ?_ | refine Wl ?_ | refine Wm ?_ | refine Wn ?_) | ((with_reducible first | refine Wo (fun K hK => ?_) | refine Wq ?_ | refine Wr ?_); (try simp only [go_sem, List.forall_mem_nil, ↓guard_ite, ↓pick_ite, seval, encT_eq, inR_i64]); (repeat with_reducible refine And.intro (by first | omega | with_reducible exact lens_encT | with_reducible exact lens_encL | (simp; done) | (simp only [List.length_take, List.length_map, List.length_append, maxLen_eq]; omega)) ?_); (try (with_reducible refine hK _ ?_; clear hK K))))
        simp only [go_sem, List.forall_mem_nil, ↓guard_ite, ↓pick_ite, seval, FinQ, AS.result, resAll, resOne, tupV]
        rw [lettersTo_no s k hlt' (by simpa using hn)]
      · repeat' (first | (with_reducible first | refine Wa ?_ | refine Wb ?_ | refine Wc ?_ | refine Wd ?_ | refine We ?_ | refine Wf ?_ | refine Wg ?_ | refine Wh ?_ | refine Wi ?_ | refine Wj ?_ | refine Wk (by decide) ?_ | refine Wl ?_ | refine Wm ?_ | refine Wn ?_) | ((with_reducible first | refine Wo (fun K hK => ?_) | refine Wq ?_ | refine Wr ?_); (try simp only [go_sem, List.forall_mem_nil, ↓guard_ite, ↓pick_ite, seval, encT_eq, inR_i64, e0, e23, e24]); (repeat with_reducible refine And.intro (by first | omega | with_reducible exact lens_encT | with_reducible exact lens_encL | (simp; done) | (simp only [List.length_take, List.length_map, List.length_append, maxLen_eq]; omega)) ?_); (try (with_reducible refine hK _ ?_; clear hK K))))
        refine then_normal ⟨s.size - (k + 1), by omega, k + 1, by omega, rfl, ?_, ?_⟩
        · rw [lettersTo_succ s k hlt', hl]
          simpa using hn
        · simp only [go_sem, List.forall_mem_nil, ↓guard_ite, ↓pick_ite, seval, encT_eq, inR_i64, e0, e23, e24]
          congr 3
    · repeat' (first | (with_reducible first | refine Wa ?_ | refine Wb ?_ | refine Wc ?_ | refine Wd ?_ | refine We ?_ | refine Wf ?_ | refine Wg ?_ | refine Wh ?_ | refine Wi ?_ | refine Wj ?_ | refine Wk (by decide) ?_ | refine Wl ?_ | refine Wm ?_ | refine Wn ?_) | ((with_reducible first | refine Wo (fun K hK => ?_) | refine Wq ?_ | refine Wr ?_); (try simp only [go_sem, List.forall_mem_nil, ↓guard_ite, ↓pick_ite, seval, encT_eq, inR_i64]); (repeat with_reducible refine And.intro (by first | omega | with_reducible exact lens_encT | with_reducible exact lens_encL | (simp; done) | (simp only [List.length_take, List.length_map, List.length_append, maxLen_eq]; omega)) ?_); (try (with_reducible refine hK _ ?_; clear hK K))))
      simp only [go_sem, List.forall_mem_nil, ↓guard_ite, ↓pick_ite, seval, FinQ, AS.result, resAll, resOne, tupV]
      rw [show s.size = k by omega, hl]
theorem isName_a (s : ByteArray) : ACalls Tryz.prog 25 [aStr s] (aBool (nameOk s)) := by
  by_cases h0 : s.size < 1
  · have e : nameOk s = false := by simp [nameOk]; omega
    rw [e]
    have h0' : s = ⟨#[]⟩ := size_eq0 (by omega)
    subst h0'
    refine ac_R_IsName (Nat.le_of_ble_eq_true rfl) fun C hC => ?_
    unfold ir_R_IsName
    repeat' (first | (with_reducible first | refine Wa ?_ | refine Wb ?_ | refine Wc ?_ | refine Wd ?_ | refine We ?_ | refine Wf ?_ | refine Wg ?_ | refine Wh ?_ | refine Wi ?_ | refine Wj ?_ | refine Wk (by decide) ?_ | refine Wl ?_ | refine Wm ?_ | refine Wn ?_) | ((with_reducible first | refine Wo (fun K hK => ?_) | refine Wq ?_ | refine Wr ?_); (try simp only [go_sem, List.forall_mem_nil, ↓guard_ite, ↓pick_ite, seval, encT_eq, inR_i64]); (repeat with_reducible refine And.intro (by first | omega | with_reducible exact lens_encT | with_reducible exact lens_encL | (simp; done) | (simp only [List.length_take, List.length_map, List.length_append, maxLen_eq]; omega)) ?_); (try (with_reducible refine hK _ ?_; clear hK K))))
    with_reducible refine Wp ?_
    simp only [go_sem, List.forall_mem_nil, ↓guard_ite, ↓pick_ite, seval, true_implies, false_implies, implies_true, decide_eq_true_eq, decide_eq_false_iff_not, Int.ofNat_lt]
    (try with_reducible refine ite_conj ?_)
    repeat' (first | (with_reducible first | refine Wa ?_ | refine Wb ?_ | refine Wc ?_ | refine Wd ?_ | refine We ?_ | refine Wf ?_ | refine Wg ?_ | refine Wh ?_ | refine Wi ?_ | refine Wj ?_ | refine Wk (by decide) ?_ | refine Wl ?_ | refine Wm ?_ | refine Wn ?_) | ((with_reducible first | refine Wo (fun K hK => ?_) | refine Wq ?_ | refine Wr ?_); (try simp only [go_sem, List.forall_mem_nil, ↓guard_ite, ↓pick_ite, seval, encT_eq, inR_i64]); (repeat with_reducible refine And.intro (by first | omega | with_reducible exact lens_encT | with_reducible exact lens_encL | (simp; done) | (simp only [List.length_take, List.length_map, List.length_append, maxLen_eq]; omega)) ?_); (try (with_reducible refine hK _ ?_; clear hK K))))
    simp only [go_sem, List.forall_mem_nil, ↓guard_ite, ↓pick_ite, seval, FinQ, AS.result, resAll, resOne, tupV]
  have h0' : ¬ s = ⟨#[]⟩ := size_ne (by omega)
  by_cases h8 : 8 < s.size
  · have e : nameOk s = false := by simp [nameOk]; omega
    rw [e]
    have h8' : (8 : Int) < s.size := by omega
    refine ac_R_IsName (Nat.le_of_ble_eq_true rfl) fun C hC => ?_
    unfold ir_R_IsName
    repeat' (first | (with_reducible first | refine Wa ?_ | refine Wb ?_ | refine Wc ?_ | refine Wd ?_ | refine We ?_ | refine Wf ?_ | refine Wg ?_ | refine Wh ?_ | refine Wi ?_ | refine Wj ?_ | refine Wk (by decide) ?_ | refine Wl ?_ | refine Wm ?_ | refine Wn ?_) | ((with_reducible first | refine Wo (fun K hK => ?_) | refine Wq ?_ | refine Wr ?_); (try simp only [go_sem, List.forall_mem_nil, ↓guard_ite, ↓pick_ite, seval, encT_eq, inR_i64, h0', h8']); (repeat with_reducible refine And.intro (by first | omega | with_reducible exact lens_encT | with_reducible exact lens_encL | (simp; done) | (simp only [List.length_take, List.length_map, List.length_append, maxLen_eq]; omega)) ?_); (try (with_reducible refine hK _ ?_; clear hK K))))
    with_reducible refine Wp ?_
    simp only [go_sem, List.forall_mem_nil, ↓guard_ite, ↓pick_ite, seval, true_implies, false_implies, implies_true, decide_eq_true_eq, decide_eq_false_iff_not, Int.ofNat_lt, h0']
    (try with_reducible refine ite_conj ?_)
    repeat' (first | (with_reducible first | refine Wa ?_ | refine Wb ?_ | refine Wc ?_ | refine Wd ?_ | refine We ?_ | refine Wf ?_ | refine Wg ?_ | refine Wh ?_ | refine Wi ?_ | refine Wj ?_ | refine Wk (by decide) ?_ | refine Wl ?_ | refine Wm ?_ | refine Wn ?_) | ((with_reducible first | refine Wo (fun K hK => ?_) | refine Wq ?_ | refine Wr ?_); (try simp only [go_sem, List.forall_mem_nil, ↓guard_ite, ↓pick_ite, seval, encT_eq, inR_i64]); (repeat with_reducible refine And.intro (by first | omega | with_reducible exact lens_encT | with_reducible exact lens_encL | (simp; done) | (simp only [List.length_take, List.length_map, List.length_append, maxLen_eq]; omega)) ?_); (try (with_reducible refine hK _ ?_; clear hK K))))
    simp only [go_sem, List.forall_mem_nil, ↓guard_ite, ↓pick_ite, seval, FinQ, AS.result, resAll, resOne, tupV]
  have h8' : ¬ (8 : Int) < s.size := by omega
  have hpos : 0 < s.size := by omega
  by_cases hd : 48 ≤ byteAt s 0 ∧ byteAt s 0 ≤ 57
  · have e : nameOk s = false := by simp [nameOk, hd.1, hd.2]
    rw [e]
    refine ac_R_IsName (Nat.le_of_ble_eq_true rfl) fun C hC => ?_
    unfold ir_R_IsName
    repeat' (first | (with_reducible first | refine Wa ?_ | refine Wb ?_ | refine Wc ?_ | refine Wd ?_ | refine We ?_ | refine Wf ?_ | refine Wg ?_ | refine Wh ?_ | refine Wi ?_ | refine Wj ?_ | refine Wk (by decide) ?_ | refine Wl ?_ | refine Wm ?_ | refine Wn ?_) | ((with_reducible first | refine Wo (fun K hK => ?_) | refine Wq ?_ | refine Wr ?_); (try simp only [go_sem, List.forall_mem_nil, ↓guard_ite, ↓pick_ite, seval, encT_eq, inR_i64, h0', h8', hpos, byteN_eq, hd.1, hd.2]); (repeat with_reducible refine And.intro (by first | omega | with_reducible exact lens_encT | with_reducible exact lens_encL | (simp; done) | (simp only [List.length_take, List.length_map, List.length_append, maxLen_eq]; omega)) ?_); (try (with_reducible refine hK _ ?_; clear hK K))))
    with_reducible refine Wp ?_
    simp only [go_sem, List.forall_mem_nil, ↓guard_ite, ↓pick_ite, seval, true_implies, false_implies, implies_true, decide_eq_true_eq, decide_eq_false_iff_not, Int.ofNat_lt, h0']
    (try with_reducible refine ite_conj ?_)
    repeat' (first | (with_reducible first | refine Wa ?_ | refine Wb ?_ | refine Wc ?_ | refine Wd ?_ | refine We ?_ | refine Wf ?_ | refine Wg ?_ | refine Wh ?_ | refine Wi ?_ | refine Wj ?_ | refine Wk (by decide) ?_ | refine Wl ?_ | refine Wm ?_ | refine Wn ?_) | ((with_reducible first | refine Wo (fun K hK => ?_) | refine Wq ?_ | refine Wr ?_); (try simp only [go_sem, List.forall_mem_nil, ↓guard_ite, ↓pick_ite, seval, encT_eq, inR_i64]); (repeat with_reducible refine And.intro (by first | omega | with_reducible exact lens_encT | with_reducible exact lens_encL | (simp; done) | (simp only [List.length_take, List.length_map, List.length_append, maxLen_eq]; omega)) ?_); (try (with_reducible refine hK _ ?_; clear hK K))))
    simp only [go_sem, List.forall_mem_nil, ↓guard_ite, ↓pick_ite, seval, FinQ, AS.result, resAll, resOne, tupV]
  rw [nameOk_eq s (by omega) (by omega) hd]
  refine ac_R_IsName (Nat.le_of_ble_eq_true rfl) fun C hC => ?_
  unfold ir_R_IsName
  have h57 : 48 ≤ byteAt s 0 → ¬ byteAt s 0 ≤ 57 := fun h h' => hd ⟨h, h'⟩
  by_cases h48 : 48 ≤ byteAt s 0
  all_goals
    simp only [h48, true_implies, false_implies] at h57
    repeat' (first | (with_reducible first | refine Wa ?_ | refine Wb ?_ | refine Wc ?_ | refine Wd ?_ | refine We ?_ | refine Wf ?_ | refine Wg ?_ | refine Wh ?_ | refine Wi ?_ | refine Wj ?_ | refine Wk (by decide) ?_ | refine Wl ?_ | refine Wm ?_ | refine Wn ?_) | ((with_reducible first | refine Wo (fun K hK => ?_) | refine Wq ?_ | refine Wr ?_); (try simp only [go_sem, List.forall_mem_nil, ↓guard_ite, ↓pick_ite, seval, encT_eq, inR_i64, h0', h8', hpos, byteN_eq, h48, h57]); (repeat with_reducible refine And.intro (by first | omega | with_reducible exact lens_encT | with_reducible exact lens_encL | (simp; done) | (simp only [List.length_take, List.length_map, List.length_append, maxLen_eq]; omega)) ?_); (try (with_reducible refine hK _ ?_; clear hK K))))
    with_reducible refine Wp ?_
    simp only [go_sem, List.forall_mem_nil, ↓guard_ite, ↓pick_ite, seval, true_implies, false_implies, implies_true, decide_eq_true_eq, decide_eq_false_iff_not, Int.ofNat_lt, h0']
    (try with_reducible refine ite_conj ?_)
    repeat' (first | (with_reducible first | refine Wa ?_ | refine Wb ?_ | refine Wc ?_ | refine Wd ?_ | refine We ?_ | refine Wf ?_ | refine Wg ?_ | refine Wh ?_ | refine Wi ?_ | refine Wj ?_ | refine Wk (by decide) ?_ | refine Wl ?_ | refine Wm ?_ | refine Wn ?_) | ((with_reducible first | refine Wo (fun K hK => ?_) | refine Wq ?_ | refine Wr ?_); (try simp only [go_sem, List.forall_mem_nil, ↓guard_ite, ↓pick_ite, seval, encT_eq, inR_i64]); (repeat with_reducible refine And.intro (by first | omega | with_reducible exact lens_encT | with_reducible exact lens_encL | (simp; done) | (simp only [List.length_take, List.length_map, List.length_append, maxLen_eq]; omega)) ?_); (try (with_reducible refine hK _ ?_; clear hK K))))
    refine IWP.loop (fun m x => ∃ k, k ≤ s.size ∧ m = s.size - k ∧ lettersTo s k = true ∧ x.env 0 = aStr s ∧ x.env 3 = aInt k) s.size ⟨0, Nat.zero_le _, rfl, rfl, rfl, rfl⟩ ?_
    rintro m ⟨env, S⟩ ⟨k, hk, rfl, hl, e0, e3⟩
    simp only at e0 e3
    repeat' (first | (with_reducible first | refine Wa ?_ | refine Wb ?_ | refine Wc ?_ | refine Wd ?_ | refine We ?_ | refine Wf ?_ | refine Wg ?_ | refine Wh ?_ | refine Wi ?_ | refine Wj ?_ | refine Wk (by decide) ?_ | refine Wl ?_ | refine Wm ?_ | refine Wn ?_) | ((with_reducible first | refine Wo (fun K hK => ?_) | refine Wq ?_ | refine Wr ?_); (try simp only [go_sem, List.forall_mem_nil, ↓guard_ite, ↓pick_ite, seval, encT_eq, inR_i64, e0, e3]); (repeat with_reducible refine And.intro (by first | omega | with_reducible exact lens_encT | with_reducible exact lens_encL | (simp; done) | (simp only [List.length_take, List.length_map, List.length_append, maxLen_eq]; omega)) ?_); (try (with_reducible refine hK _ ?_; clear hK K))))
    with_reducible refine Wp ?_
    simp only [go_sem, List.forall_mem_nil, ↓guard_ite, ↓pick_ite, seval, true_implies, false_implies, implies_true, decide_eq_true_eq, decide_eq_false_iff_not, Int.ofNat_lt, e0, e3]
    (try with_reducible refine ite_conj ?_)
    refine ⟨fun hlt => ?_, fun hge => ?_⟩
    · have hlt' : k < s.size := by omega
      repeat' (first | (with_reducible first | refine Wa ?_ | refine Wb ?_ | refine Wc ?_ | refine Wd ?_ | refine We ?_ | refine Wf ?_ | refine Wg ?_ | refine Wh ?_ | refine Wi ?_ | refine Wj ?_ | refine Wk (by decide) ?_ | refine Wl ?_ | refine Wm ?_ | refine Wn ?_) | refine CallG.mk _ (isLetter_a _ (byteAt_range s k).1) ?_ | ((with_reducible first | refine Wo (fun K hK => ?_) | refine Wq ?_ | refine Wr ?_); (try simp only [go_sem, List.forall_mem_nil, ↓guard_ite, ↓pick_ite, seval, encT_eq, inR_i64, e0, e3, hlt', byteN_eq]); (repeat with_reducible refine And.intro (by first | omega | with_reducible exact lens_encT | with_reducible exact lens_encL | (simp; done) | (simp only [List.length_take, List.length_map, List.length_append, maxLen_eq]; omega)) ?_); (try (with_reducible refine hK _ ?_; clear hK K))))
      with_reducible refine Wp ?_
      simp only [go_sem, List.forall_mem_nil, ↓guard_ite, ↓pick_ite, seval, true_implies, false_implies, implies_true, decide_eq_true_eq, decide_eq_false_iff_not, Int.ofNat_lt]
      (try with_reducible refine ite_conj ?_)
      refine ⟨fun hn => ?_, fun hn => ?_⟩
      · repeat' (first | (with_reducible first | refine Wa ?_ | refine Wb ?_ | refine Wc ?_ | refine Wd ?_ | refine We ?_ | refine Wf ?_ | refine Wg ?_ | refine Wh ?_ | refine Wi ?_ | refine Wj ?_ | refine Wk (by decide) ?_ | refine Wl ?_ | refine Wm ?_ | refine Wn ?_) | ((with_reducible first | refine Wo (fun K hK => ?_) | refine Wq ?_ | refine Wr ?_); (try simp only [go_sem, List.forall_mem_nil, ↓guard_ite, ↓pick_ite, seval, encT_eq, inR_i64]); (repeat with_reducible refine And.intro (by first | omega | with_reducible exact lens_encT | with_reducible exact lens_encL | (simp; done) | (simp only [List.length_take, List.length_map, List.length_append, maxLen_eq]; omega)) ?_); (try (with_reducible refine hK _ ?_; clear hK K))))
        simp only [go_sem, List.forall_mem_nil, ↓guard_ite, ↓pick_ite, seval, FinQ, AS.result, resAll, resOne, tupV]
        rw [lettersTo_no s k hlt' (by simpa using hn)]
      · repeat' (first | (with_reducible first | refine Wa ?_ | refine Wb ?_ | refine Wc ?_ | refine Wd ?_ | refine We ?_ | refine Wf ?_ | refine Wg ?_ | refine Wh ?_ | refine Wi ?_ | refine Wj ?_ | refine Wk (by decide) ?_ | refine Wl ?_ | refine Wm ?_ | refine Wn ?_) | ((with_reducible first | refine Wo (fun K hK => ?_) | refine Wq ?_ | refine Wr ?_); (try simp only [go_sem, List.forall_mem_nil, ↓guard_ite, ↓pick_ite, seval, encT_eq, inR_i64, e0, e3]); (repeat with_reducible refine And.intro (by first | omega | with_reducible exact lens_encT | with_reducible exact lens_encL | (simp; done) | (simp only [List.length_take, List.length_map, List.length_append, maxLen_eq]; omega)) ?_); (try (with_reducible refine hK _ ?_; clear hK K))))
        refine then_normal ⟨s.size - (k + 1), by omega, k + 1, by omega, rfl, ?_, ?_⟩
        · rw [lettersTo_succ s k hlt', hl]
          simpa using hn
        · simp only [go_sem, List.forall_mem_nil, ↓guard_ite, ↓pick_ite, seval, encT_eq, inR_i64, e0, e3]
          congr 3
    · repeat' (first | (with_reducible first | refine Wa ?_ | refine Wb ?_ | refine Wc ?_ | refine Wd ?_ | refine We ?_ | refine Wf ?_ | refine Wg ?_ | refine Wh ?_ | refine Wi ?_ | refine Wj ?_ | refine Wk (by decide) ?_ | refine Wl ?_ | refine Wm ?_ | refine Wn ?_) | ((with_reducible first | refine Wo (fun K hK => ?_) | refine Wq ?_ | refine Wr ?_); (try simp only [go_sem, List.forall_mem_nil, ↓guard_ite, ↓pick_ite, seval, encT_eq, inR_i64]); (repeat with_reducible refine And.intro (by first | omega | with_reducible exact lens_encT | with_reducible exact lens_encL | (simp; done) | (simp only [List.length_take, List.length_map, List.length_append, maxLen_eq]; omega)) ?_); (try (with_reducible refine hK _ ?_; clear hK K))))
      simp only [go_sem, List.forall_mem_nil, ↓guard_ite, ↓pick_ite, seval, FinQ, AS.result, resAll, resOne, tupV]
      rw [show s.size = k by omega, hl]

theorem within_a (t : Tm) (m : Int) (h0 : 0 ≤ m) (h1 : m ≤ 9223372036854775807) : ACalls Tryz.prog 68 [aTm t, aInt m] (aInt (lessBy t.size m)) := by
  induction h : SizeOf.sizeOf t using Nat.strongRecOn generalizing t m with
  | _ N ih =>
  subst h
  have hs := Tm.size_eq t
  refine ac_term_within (Nat.le_of_ble_eq_true rfl) fun C hC => ?_
  unfold ir_term_within
  refine IWP.learn 0 (by omega) fun hkn => ?_
  have hkn := known_tm hkn
  repeat' (first | (with_reducible first | refine Wa ?_ | refine Wb ?_ | refine Wc ?_ | refine Wd ?_ | refine We ?_ | refine Wf ?_ | refine Wg ?_ | refine Wh ?_ | refine Wi ?_ | refine Wj ?_ | refine Wk (by decide) ?_ | refine Wl ?_ | refine Wm ?_ | refine Wn ?_) | ((with_reducible first | refine Wo (fun K hK => ?_) | refine Wq ?_ | refine Wr ?_); (try simp only [go_sem, List.forall_mem_nil, ↓guard_ite, ↓pick_ite, seval, encT_eq, inR_i64]); (repeat with_reducible refine And.intro (by first | omega | with_reducible exact lens_encT | with_reducible exact lens_encL | (simp; done) | (simp only [List.length_take, List.length_map, List.length_append, maxLen_eq]; omega)) ?_); (try (with_reducible refine hK _ ?_; clear hK K))))
  refine IWP.loopD [6] (fun n s => ∃ k, k ≤ t.args.length ∧ n = t.args.length - k ∧ s.env 1 = aInt (lessBy (1 + Tm.sizes (t.args.take k)) m) ∧ s.env 10 = .one (.st (.list (t.args.map encT))) ∧ s.env 11 = aInt t.args.length ∧ s.env 12 = aInt k ∧ s.S 6 = none) t.args.length ⟨0, Nat.zero_le _, rfl, by
    simp only [go_sem, List.forall_mem_nil, ↓guard_ite, ↓pick_ite, seval, encT_eq, inR_i64]
    rw [lessBy]
    have z0 : Tm.sizes [] = 0 := rfl
    congr 3
    split <;> omega, rfl, rfl, rfl, rfl⟩ ?_
  rintro n ⟨env, S⟩ ⟨k, hk, rfl, e1, e10, e11, e12, s6⟩
  simp only at e1 e10 e11 e12 s6
  repeat' (first | (with_reducible first | refine Wa ?_ | refine Wb ?_ | refine Wc ?_ | refine Wd ?_ | refine We ?_ | refine Wf ?_ | refine Wg ?_ | refine Wh ?_ | refine Wi ?_ | refine Wj ?_ | refine Wk (by decide) ?_ | refine Wl ?_ | refine Wm ?_ | refine Wn ?_) | ((with_reducible first | refine Wo (fun K hK => ?_) | refine Wq ?_ | refine Wr ?_); (try simp only [go_sem, List.forall_mem_nil, ↓guard_ite, ↓pick_ite, seval, encT_eq, inR_i64, e1, e10, e11, e12, s6]); (repeat with_reducible refine And.intro (by first | omega | with_reducible exact lens_encT | with_reducible exact lens_encL | (simp; done) | (simp only [List.length_take, List.length_map, List.length_append, maxLen_eq]; omega)) ?_); (try (with_reducible refine hK _ ?_; clear hK K))))
  with_reducible refine Wp ?_
  simp only [go_sem, List.forall_mem_nil, ↓guard_ite, ↓pick_ite, seval, true_implies, false_implies, implies_true, decide_eq_true_eq, decide_eq_false_iff_not, Int.ofNat_lt, e1, e10, e11, e12, s6]
  (try with_reducible refine ite_conj ?_)
  refine ⟨fun hlt => ?_, fun hge => ?_⟩
  · obtain ⟨a, ha⟩ := get_lt (show k < t.args.length by omega)
    have z1 := Tm.sizes_take ha
    have z2 := Tm.sizes_take_le t.args (k + 1)
    have z3 := Tm.length_le t.args
    have z4 := lessBy_le (1 + Tm.sizes (t.args.take k)) m h0
    repeat' (first | (with_reducible first | refine Wa ?_ | refine Wb ?_ | refine Wc ?_ | refine Wd ?_ | refine We ?_ | refine Wf ?_ | refine Wg ?_ | refine Wh ?_ | refine Wi ?_ | refine Wj ?_ | refine Wk (by decide) ?_ | refine Wl ?_ | refine Wm ?_ | refine Wn ?_) | ((with_reducible first | refine Wo (fun K hK => ?_) | refine Wq ?_ | refine Wr ?_); (try simp only [go_sem, List.forall_mem_nil, ↓guard_ite, ↓pick_ite, seval, encT_eq, inR_i64, e1, e10, e11, e12, s6, ha]); (repeat with_reducible refine And.intro (by first | omega | with_reducible exact lens_encT | with_reducible exact lens_encL | (simp; done) | (simp only [List.length_take, List.length_map, List.length_append, maxLen_eq]; omega)) ?_); (try (with_reducible refine hK _ ?_; clear hK K))))
    with_reducible refine Wp ?_
    simp only [go_sem, List.forall_mem_nil, ↓guard_ite, ↓pick_ite, seval, true_implies, false_implies, implies_true, decide_eq_true_eq, decide_eq_false_iff_not, Int.ofNat_lt, e1]
    (try with_reducible refine ite_conj ?_)
    refine ⟨fun hb => ?_, fun hb => ?_⟩
    · repeat' (first | (with_reducible first | refine Wa ?_ | refine Wb ?_ | refine Wc ?_ | refine Wd ?_ | refine We ?_ | refine Wf ?_ | refine Wg ?_ | refine Wh ?_ | refine Wi ?_ | refine Wj ?_ | refine Wk (by decide) ?_ | refine Wl ?_ | refine Wm ?_ | refine Wn ?_) | ((with_reducible first | refine Wo (fun K hK => ?_) | refine Wq ?_ | refine Wr ?_); (try simp only [go_sem, List.forall_mem_nil, ↓guard_ite, ↓pick_ite, seval, encT_eq, inR_i64, e1]); (repeat with_reducible refine And.intro (by first | omega | with_reducible exact lens_encT | with_reducible exact lens_encL | (simp; done) | (simp only [List.length_take, List.length_map, List.length_append, maxLen_eq]; omega)) ?_); (try (with_reducible refine hK _ ?_; clear hK K))))
      simp only [go_sem, List.forall_mem_nil, ↓guard_ite, ↓pick_ite, seval, FinQ, AS.result, resAll, resOne, tupV, e1]
      rw [lessBy_neg hb (show _ ≤ t.size by rw [hs]; omega)]
    · repeat' (first | (with_reducible first | refine Wa ?_ | refine Wb ?_ | refine Wc ?_ | refine Wd ?_ | refine We ?_ | refine Wf ?_ | refine Wg ?_ | refine Wh ?_ | refine Wi ?_ | refine Wj ?_ | refine Wk (by decide) ?_ | refine Wl ?_ | refine Wm ?_ | refine Wn ?_) | refine CallG.mk _ (ih _ (Tm.lt_of_arg (mem_of_get ha)) a _ (by omega) (by omega) rfl) ?_ | ((with_reducible first | refine Wo (fun K hK => ?_) | refine Wq ?_ | refine Wr ?_); (try simp only [go_sem, List.forall_mem_nil, ↓guard_ite, ↓pick_ite, seval, encT_eq, inR_i64, e1, e10, e11, e12, s6, ha]); (repeat with_reducible refine And.intro (by first | omega | with_reducible exact lens_encT | with_reducible exact lens_encL | (simp; done) | (simp only [List.length_take, List.length_map, List.length_append, maxLen_eq]; omega)) ?_); (try (with_reducible refine hK _ ?_; clear hK K))))
      refine then_normal ⟨t.args.length - (k + 1), by omega, k + 1, by omega, rfl, ?_⟩
      simp only [go_sem, List.forall_mem_nil, ↓guard_ite, ↓pick_ite, seval, AS.drop, dropS, AC.clears, AC.clear, AC.highs, AC.high, Bool.not_false, Bool.true_and, Bool.and_self, AV.purge, AV.purges, AC.purge, ABlk.purge, List.contains_cons, List.contains_nil, Nat.reduceBEq, Bool.or_self, Bool.or_false, Bool.false_or, Bool.or_true, encT_eq, inR_i64, e1, e10, e11, e12, s6]
      exact ⟨by rw [lessBy_step (by omega), z1]; congr 4; omega, by congr 3⟩
  · repeat' (first | (with_reducible first | refine Wa ?_ | refine Wb ?_ | refine Wc ?_ | refine Wd ?_ | refine We ?_ | refine Wf ?_ | refine Wg ?_ | refine Wh ?_ | refine Wi ?_ | refine Wj ?_ | refine Wk (by decide) ?_ | refine Wl ?_ | refine Wm ?_ | refine Wn ?_) | ((with_reducible first | refine Wo (fun K hK => ?_) | refine Wq ?_ | refine Wr ?_); (try simp only [go_sem, List.forall_mem_nil, ↓guard_ite, ↓pick_ite, seval, encT_eq, inR_i64, e1]); (repeat with_reducible refine And.intro (by first | omega | with_reducible exact lens_encT | with_reducible exact lens_encL | (simp; done) | (simp only [List.length_take, List.length_map, List.length_append, maxLen_eq]; omega)) ?_); (try (with_reducible refine hK _ ?_; clear hK K))))
    simp only [go_sem, List.forall_mem_nil, ↓guard_ite, ↓pick_ite, seval, FinQ, AS.result, resAll, resOne, tupV, e1]
    rw [List.take_of_length_le (by omega), hs]

theorem sizeR_a (t : Tm) (m : Int) (h0 : 0 ≤ m) (h1 : m ≤ 9223372036854775806) : ACalls Tryz.prog 8 [aTm t, aInt m] (aInt (capTo t.size m)) := by
  induction h : SizeOf.sizeOf t using Nat.strongRecOn generalizing t m with
  | _ N ih =>
  subst h
  have hs := Tm.size_eq t
  refine ac_R_Size (Nat.le_of_ble_eq_true rfl) fun C hC => ?_
  unfold ir_R_Size
  refine IWP.learn 0 (by omega) fun hkn => ?_
  have hkn := known_tm hkn
  repeat' (first | (with_reducible first | refine Wa ?_ | refine Wb ?_ | refine Wc ?_ | refine Wd ?_ | refine We ?_ | refine Wf ?_ | refine Wg ?_ | refine Wh ?_ | refine Wi ?_ | refine Wj ?_ | refine Wk (by decide) ?_ | refine Wl ?_ | refine Wm ?_ | refine Wn ?_) | ((with_reducible first | refine Wo (fun K hK => ?_) | refine Wq ?_ | refine Wr ?_); (try simp only [go_sem, List.forall_mem_nil, ↓guard_ite, ↓pick_ite, seval, encT_eq, inR_i64]); (repeat with_reducible refine And.intro (by first | omega | with_reducible exact lens_encT | with_reducible exact lens_encL | (simp; done) | (simp only [List.length_take, List.length_map, List.length_append, maxLen_eq]; omega)) ?_); (try (with_reducible refine hK _ ?_; clear hK K))))
  refine IWP.loop (fun n s => ∃ k, k ≤ t.args.length ∧ n = t.args.length - k ∧ s.env 5 = aInt (capTo (1 + Tm.sizes (t.args.take k)) m) ∧ s.env 1 = aInt m ∧ s.env 2 = .one (.ptr 2 1 0 0) ∧ s.env 6 = aInt k ∧ s.S 2 = some (.box 30 [.st (.str t.name), .st (.list (t.args.map encT))])) t.args.length ⟨0, Nat.zero_le _, rfl, by
    simp only [go_sem, List.forall_mem_nil, ↓guard_ite, ↓pick_ite, seval, encT_eq, inR_i64]
    rw [capTo]
    have z0 : Tm.sizes [] = 0 := rfl
    congr 3
    split <;> omega, rfl, rfl, rfl, rfl⟩ ?_
  rintro n ⟨env, S⟩ ⟨k, hk, rfl, e5, e1, e2, e6, s2⟩
  simp only at e5 e1 e2 e6 s2
  have z4 := capTo_le (1 + Tm.sizes (t.args.take k)) m h0
  by_cases hlt : (k : Int) < t.args.length
  · obtain ⟨a, ha⟩ := get_lt (show k < t.args.length by omega)
    have z1 := Tm.sizes_take ha
    have z2 := Tm.sizes_take_le t.args (k + 1)
    by_cases hb : m < capTo (1 + Tm.sizes (t.args.take k)) m
    · have hb' : ¬ capTo (1 + Tm.sizes (t.args.take k)) m ≤ m := by omega
      repeat' (first | (with_reducible first | refine Wa ?_ | refine Wb ?_ | refine Wc ?_ | refine Wd ?_ | refine We ?_ | refine Wf ?_ | refine Wg ?_ | refine Wh ?_ | refine Wi ?_ | refine Wj ?_ | refine Wk (by decide) ?_ | refine Wl ?_ | refine Wm ?_ | refine Wn ?_) | ((with_reducible first | refine Wo (fun K hK => ?_) | refine Wq ?_ | refine Wr ?_); (try simp only [go_sem, List.forall_mem_nil, ↓guard_ite, ↓pick_ite, seval, encT_eq, inR_i64, e5, e1, e2, e6, s2, hlt, hb']); (repeat with_reducible refine And.intro (by first | omega | with_reducible exact lens_encT | with_reducible exact lens_encL | (simp; done) | (simp only [List.length_take, List.length_map, List.length_append, maxLen_eq]; omega)) ?_); (try (with_reducible refine hK _ ?_; clear hK K))))
      with_reducible refine Wp ?_
      simp only [go_sem, List.forall_mem_nil, ↓guard_ite, ↓pick_ite, seval, true_implies, false_implies, implies_true, decide_eq_true_eq, decide_eq_false_iff_not, Int.ofNat_lt, hb']
      (try with_reducible refine ite_conj ?_)
      repeat' (first | (with_reducible first | refine Wa ?_ | refine Wb ?_ | refine Wc ?_ | refine Wd ?_ | refine We ?_ | refine Wf ?_ | refine Wg ?_ | refine Wh ?_ | refine Wi ?_ | refine Wj ?_ | refine Wk (by decide) ?_ | refine Wl ?_ | refine Wm ?_ | refine Wn ?_) | ((with_reducible first | refine Wo (fun K hK => ?_) | refine Wq ?_ | refine Wr ?_); (try simp only [go_sem, List.forall_mem_nil, ↓guard_ite, ↓pick_ite, seval, encT_eq, inR_i64, e5, e1, e2, e6, s2]); (repeat with_reducible refine And.intro (by first | omega | with_reducible exact lens_encT | with_reducible exact lens_encL | (simp; done) | (simp only [List.length_take, List.length_map, List.length_append, maxLen_eq]; omega)) ?_); (try (with_reducible refine hK _ ?_; clear hK K))))
      with_reducible refine Wp ?_
      simp only [go_sem, List.forall_mem_nil, ↓guard_ite, ↓pick_ite, seval, true_implies, false_implies, implies_true, decide_eq_true_eq, decide_eq_false_iff_not, Int.ofNat_lt, hb]
      (try with_reducible refine ite_conj ?_)
      repeat' (first | (with_reducible first | refine Wa ?_ | refine Wb ?_ | refine Wc ?_ | refine Wd ?_ | refine We ?_ | refine Wf ?_ | refine Wg ?_ | refine Wh ?_ | refine Wi ?_ | refine Wj ?_ | refine Wk (by decide) ?_ | refine Wl ?_ | refine Wm ?_ | refine Wn ?_) | ((with_reducible first | refine Wo (fun K hK => ?_) | refine Wq ?_ | refine Wr ?_); (try simp only [go_sem, List.forall_mem_nil, ↓guard_ite, ↓pick_ite, seval, encT_eq, inR_i64, e1]); (repeat with_reducible refine And.intro (by first | omega | with_reducible exact lens_encT | with_reducible exact lens_encL | (simp; done) | (simp only [List.length_take, List.length_map, List.length_append, maxLen_eq]; omega)) ?_); (try (with_reducible refine hK _ ?_; clear hK K))))
      simp only [go_sem, List.forall_mem_nil, ↓guard_ite, ↓pick_ite, seval, FinQ, AS.result, resAll, resOne, tupV]
      rw [capTo_over hb (show _ ≤ t.size by rw [hs]; omega)]
    · have hb' : capTo (1 + Tm.sizes (t.args.take k)) m ≤ m := by omega
      obtain ⟨b1, b2⟩ := capTo_in hb
      repeat' (first | (with_reducible first | refine Wa ?_ | refine Wb ?_ | refine Wc ?_ | refine Wd ?_ | refine We ?_ | refine Wf ?_ | refine Wg ?_ | refine Wh ?_ | refine Wi ?_ | refine Wj ?_ | refine Wk (by decide) ?_ | refine Wl ?_ | refine Wm ?_ | refine Wn ?_) | ((with_reducible first | refine Wo (fun K hK => ?_) | refine Wq ?_ | refine Wr ?_); (try simp only [go_sem, List.forall_mem_nil, ↓guard_ite, ↓pick_ite, seval, encT_eq, inR_i64, e5, e1, e2, e6, s2, hlt, hb']); (repeat with_reducible refine And.intro (by first | omega | with_reducible exact lens_encT | with_reducible exact lens_encL | (simp; done) | (simp only [List.length_take, List.length_map, List.length_append, maxLen_eq]; omega)) ?_); (try (with_reducible refine hK _ ?_; clear hK K))))
      with_reducible refine Wp ?_
      simp only [go_sem, List.forall_mem_nil, ↓guard_ite, ↓pick_ite, seval, true_implies, false_implies, implies_true, decide_eq_true_eq, decide_eq_false_iff_not, Int.ofNat_lt, hb']
      (try with_reducible refine ite_conj ?_)
      repeat' (first | (with_reducible first | refine Wa ?_ | refine Wb ?_ | refine Wc ?_ | refine Wd ?_ | refine We ?_ | refine Wf ?_ | refine Wg ?_ | refine Wh ?_ | refine Wi ?_ | refine Wj ?_ | refine Wk (by decide) ?_ | refine Wl ?_ | refine Wm ?_ | refine Wn ?_) | ((with_reducible first | refine Wo (fun K hK => ?_) | refine Wq ?_ | refine Wr ?_); (try simp only [go_sem, List.forall_mem_nil, ↓guard_ite, ↓pick_ite, seval, encT_eq, inR_i64, e5, e1, e2, e6, s2, ha]); (repeat with_reducible refine And.intro (by first | omega | with_reducible exact lens_encT | with_reducible exact lens_encL | (simp; done) | (simp only [List.length_take, List.length_map, List.length_append, maxLen_eq]; omega)) ?_); (try (with_reducible refine hK _ ?_; clear hK K))))
      refine ⟨_, ih _ (Tm.lt_of_arg (mem_of_get ha)) a (m - capTo (1 + Tm.sizes (t.args.take k)) m) (by omega) (by omega) rfl, ?_⟩
      have z5 := capTo_le a.size (m - capTo (1 + Tm.sizes (t.args.take k)) m) (by omega)
      repeat' (first | (with_reducible first | refine Wa ?_ | refine Wb ?_ | refine Wc ?_ | refine Wd ?_ | refine We ?_ | refine Wf ?_ | refine Wg ?_ | refine Wh ?_ | refine Wi ?_ | refine Wj ?_ | refine Wk (by decide) ?_ | refine Wl ?_ | refine Wm ?_ | refine Wn ?_) | ((with_reducible first | refine Wo (fun K hK => ?_) | refine Wq ?_ | refine Wr ?_); (try simp only [go_sem, List.forall_mem_nil, ↓guard_ite, ↓pick_ite, seval, encT_eq, inR_i64, e5, e1, e2, e6, s2]); (repeat with_reducible refine And.intro (by first | omega | with_reducible exact lens_encT | with_reducible exact lens_encL | (simp; done) | (simp only [List.length_take, List.length_map, List.length_append, maxLen_eq]; omega)) ?_); (try (with_reducible refine hK _ ?_; clear hK K))))
      refine then_normal ⟨t.args.length - (k + 1), by omega, k + 1, by omega, rfl, ?_⟩
      simp only [go_sem, List.forall_mem_nil, ↓guard_ite, ↓pick_ite, seval, encT_eq, inR_i64, e5, e1, e2, e6, s2]
      exact ⟨by rw [b1, capTo_step b2, z1]; congr 4; omega, by congr 3⟩
  · repeat' (first | (with_reducible first | refine Wa ?_ | refine Wb ?_ | refine Wc ?_ | refine Wd ?_ | refine We ?_ | refine Wf ?_ | refine Wg ?_ | refine Wh ?_ | refine Wi ?_ | refine Wj ?_ | refine Wk (by decide) ?_ | refine Wl ?_ | refine Wm ?_ | refine Wn ?_) | ((with_reducible first | refine Wo (fun K hK => ?_) | refine Wq ?_ | refine Wr ?_); (try simp only [go_sem, List.forall_mem_nil, ↓guard_ite, ↓pick_ite, seval, encT_eq, inR_i64, e5, e1, e2, e6, s2, hlt]); (repeat with_reducible refine And.intro (by first | omega | with_reducible exact lens_encT | with_reducible exact lens_encL | (simp; done) | (simp only [List.length_take, List.length_map, List.length_append, maxLen_eq]; omega)) ?_); (try (with_reducible refine hK _ ?_; clear hK K))))
    with_reducible refine Wp ?_
    simp only [go_sem, List.forall_mem_nil, ↓guard_ite, ↓pick_ite, seval, true_implies, false_implies, implies_true, decide_eq_true_eq, decide_eq_false_iff_not, Int.ofNat_lt]
    (try with_reducible refine ite_conj ?_)
    have hfull : 1 + Tm.sizes (t.args.take k) = t.size := by rw [List.take_of_length_le (by omega), hs]
    rw [hfull] at e5 z4
    repeat' (first | (with_reducible first | refine Wa ?_ | refine Wb ?_ | refine Wc ?_ | refine Wd ?_ | refine We ?_ | refine Wf ?_ | refine Wg ?_ | refine Wh ?_ | refine Wi ?_ | refine Wj ?_ | refine Wk (by decide) ?_ | refine Wl ?_ | refine Wm ?_ | refine Wn ?_) | ((with_reducible first | refine Wo (fun K hK => ?_) | refine Wq ?_ | refine Wr ?_); (try simp only [go_sem, List.forall_mem_nil, ↓guard_ite, ↓pick_ite, seval, encT_eq, inR_i64, e5, e1]); (repeat with_reducible refine And.intro (by first | omega | with_reducible exact lens_encT | with_reducible exact lens_encL | (simp; done) | (simp only [List.length_take, List.length_map, List.length_append, maxLen_eq]; omega)) ?_); (try (with_reducible refine hK _ ?_; clear hK K))))
    by_cases hb : m < capTo t.size m
    · with_reducible refine Wp ?_
      simp only [go_sem, List.forall_mem_nil, ↓guard_ite, ↓pick_ite, seval, true_implies, false_implies, implies_true, decide_eq_true_eq, decide_eq_false_iff_not, Int.ofNat_lt, hb]
      (try with_reducible refine ite_conj ?_)
      repeat' (first | (with_reducible first | refine Wa ?_ | refine Wb ?_ | refine Wc ?_ | refine Wd ?_ | refine We ?_ | refine Wf ?_ | refine Wg ?_ | refine Wh ?_ | refine Wi ?_ | refine Wj ?_ | refine Wk (by decide) ?_ | refine Wl ?_ | refine Wm ?_ | refine Wn ?_) | ((with_reducible first | refine Wo (fun K hK => ?_) | refine Wq ?_ | refine Wr ?_); (try simp only [go_sem, List.forall_mem_nil, ↓guard_ite, ↓pick_ite, seval, encT_eq, inR_i64, e1]); (repeat with_reducible refine And.intro (by first | omega | with_reducible exact lens_encT | with_reducible exact lens_encL | (simp; done) | (simp only [List.length_take, List.length_map, List.length_append, maxLen_eq]; omega)) ?_); (try (with_reducible refine hK _ ?_; clear hK K))))
      simp only [go_sem, List.forall_mem_nil, ↓guard_ite, ↓pick_ite, seval, FinQ, AS.result, resAll, resOne, tupV]
      rw [capTo_over hb (Nat.le_refl _)]
    · with_reducible refine Wp ?_
      simp only [go_sem, List.forall_mem_nil, ↓guard_ite, ↓pick_ite, seval, true_implies, false_implies, implies_true, decide_eq_true_eq, decide_eq_false_iff_not, Int.ofNat_lt, hb]
      (try with_reducible refine ite_conj ?_)
      repeat' (first | (with_reducible first | refine Wa ?_ | refine Wb ?_ | refine Wc ?_ | refine Wd ?_ | refine We ?_ | refine Wf ?_ | refine Wg ?_ | refine Wh ?_ | refine Wi ?_ | refine Wj ?_ | refine Wk (by decide) ?_ | refine Wl ?_ | refine Wm ?_ | refine Wn ?_) | ((with_reducible first | refine Wo (fun K hK => ?_) | refine Wq ?_ | refine Wr ?_); (try simp only [go_sem, List.forall_mem_nil, ↓guard_ite, ↓pick_ite, seval, encT_eq, inR_i64, e5]); (repeat with_reducible refine And.intro (by first | omega | with_reducible exact lens_encT | with_reducible exact lens_encL | (simp; done) | (simp only [List.length_take, List.length_map, List.length_append, maxLen_eq]; omega)) ?_); (try (with_reducible refine hK _ ?_; clear hK K))))
      simp only [go_sem, List.forall_mem_nil, ↓guard_ite, ↓pick_ite, seval, FinQ, AS.result, resAll, resOne, tupV, e5]

theorem check_a (t : Tm) : ACalls Tryz.prog 69 [aTm t] (aInt t.chk) := by
  induction h : SizeOf.sizeOf t using Nat.strongRecOn generalizing t with
  | _ N ih =>
  subst h
  have hc := Tm.chk_eq t
  have hc1 : chkOne t = if nameOk t.name = true then (if isVar t.name = true ∧ 0 < t.args.length then 2 else 0) else 1 := rfl
  refine ac_term_check (Nat.le_of_ble_eq_true rfl) fun C hC => ?_
  unfold ir_term_check
  refine IWP.learn 0 (by omega) fun hkn => ?_
  have hkn := known_tm hkn
  repeat' (first | (with_reducible first | refine Wa ?_ | refine Wb ?_ | refine Wc ?_ | refine Wd ?_ | refine We ?_ | refine Wf ?_ | refine Wg ?_ | refine Wh ?_ | refine Wi ?_ | refine Wj ?_ | refine Wk (by decide) ?_ | refine Wl ?_ | refine Wm ?_ | refine Wn ?_) | ((with_reducible first | refine Wo (fun K hK => ?_) | refine Wq ?_ | refine Wr ?_); (try simp only [go_sem, List.forall_mem_nil, ↓guard_ite, ↓pick_ite, seval, encT_eq, inR_i64]); (repeat with_reducible refine And.intro (by first | omega | with_reducible exact lens_encT | with_reducible exact lens_encL | (simp; done) | (simp only [List.length_take, List.length_map, List.length_append, maxLen_eq]; omega)) ?_); (try (with_reducible refine hK _ ?_; clear hK K))))
  refine ⟨_, name_a _, ?_⟩
  cases hn : nameOk t.name with
  | false =>
    rw [hn, if_neg (by simp)] at hc1
    repeat' (first | (with_reducible first | refine Wa ?_ | refine Wb ?_ | refine Wc ?_ | refine Wd ?_ | refine We ?_ | refine Wf ?_ | refine Wg ?_ | refine Wh ?_ | refine Wi ?_ | refine Wj ?_ | refine Wk (by decide) ?_ | refine Wl ?_ | refine Wm ?_ | refine Wn ?_) | ((with_reducible first | refine Wo (fun K hK => ?_) | refine Wq ?_ | refine Wr ?_); (try simp only [go_sem, List.forall_mem_nil, ↓guard_ite, ↓pick_ite, seval, encT_eq, inR_i64]); (repeat with_reducible refine And.intro (by first | omega | with_reducible exact lens_encT | with_reducible exact lens_encL | (simp; done) | (simp only [List.length_take, List.length_map, List.length_append, maxLen_eq]; omega)) ?_); (try (with_reducible refine hK _ ?_; clear hK K))))
    with_reducible refine Wp ?_
    simp only [go_sem, List.forall_mem_nil, ↓guard_ite, ↓pick_ite, seval, true_implies, false_implies, implies_true, decide_eq_true_eq, decide_eq_false_iff_not, Int.ofNat_lt]
    (try with_reducible refine ite_conj ?_)
    repeat' (first | (with_reducible first | refine Wa ?_ | refine Wb ?_ | refine Wc ?_ | refine Wd ?_ | refine We ?_ | refine Wf ?_ | refine Wg ?_ | refine Wh ?_ | refine Wi ?_ | refine Wj ?_ | refine Wk (by decide) ?_ | refine Wl ?_ | refine Wm ?_ | refine Wn ?_) | ((with_reducible first | refine Wo (fun K hK => ?_) | refine Wq ?_ | refine Wr ?_); (try simp only [go_sem, List.forall_mem_nil, ↓guard_ite, ↓pick_ite, seval, encT_eq, inR_i64]); (repeat with_reducible refine And.intro (by first | omega | with_reducible exact lens_encT | with_reducible exact lens_encL | (simp; done) | (simp only [List.length_take, List.length_map, List.length_append, maxLen_eq]; omega)) ?_); (try (with_reducible refine hK _ ?_; clear hK K))))
    simp only [go_sem, List.forall_mem_nil, ↓guard_ite, ↓pick_ite, seval, FinQ, AS.result, resAll, resOne, tupV]
    rw [hc, hc1]
    rfl
  | true =>
    rw [hn, if_pos rfl] at hc1
    repeat' (first | (with_reducible first | refine Wa ?_ | refine Wb ?_ | refine Wc ?_ | refine Wd ?_ | refine We ?_ | refine Wf ?_ | refine Wg ?_ | refine Wh ?_ | refine Wi ?_ | refine Wj ?_ | refine Wk (by decide) ?_ | refine Wl ?_ | refine Wm ?_ | refine Wn ?_) | ((with_reducible first | refine Wo (fun K hK => ?_) | refine Wq ?_ | refine Wr ?_); (try simp only [go_sem, List.forall_mem_nil, ↓guard_ite, ↓pick_ite, seval, encT_eq, inR_i64]); (repeat with_reducible refine And.intro (by first | omega | with_reducible exact lens_encT | with_reducible exact lens_encL | (simp; done) | (simp only [List.length_take, List.length_map, List.length_append, maxLen_eq]; omega)) ?_); (try (with_reducible refine hK _ ?_; clear hK K))))
    with_reducible refine Wp ?_
    simp only [go_sem, List.forall_mem_nil, ↓guard_ite, ↓pick_ite, seval, true_implies, false_implies, implies_true, decide_eq_true_eq, decide_eq_false_iff_not, Int.ofNat_lt]
    (try with_reducible refine ite_conj ?_)
    repeat' (first | (with_reducible first | refine Wa ?_ | refine Wb ?_ | refine Wc ?_ | refine Wd ?_ | refine We ?_ | refine Wf ?_ | refine Wg ?_ | refine Wh ?_ | refine Wi ?_ | refine Wj ?_ | refine Wk (by decide) ?_ | refine Wl ?_ | refine Wm ?_ | refine Wn ?_) | ((with_reducible first | refine Wo (fun K hK => ?_) | refine Wq ?_ | refine Wr ?_); (try simp only [go_sem, List.forall_mem_nil, ↓guard_ite, ↓pick_ite, seval, encT_eq, inR_i64]); (repeat with_reducible refine And.intro (by first | omega | with_reducible exact lens_encT | with_reducible exact lens_encL | (simp; done) | (simp only [List.length_take, List.length_map, List.length_append, maxLen_eq]; omega)) ?_); (try (with_reducible refine hK _ ?_; clear hK K))))
    refine ⟨_, variable_a _, ?_⟩
    by_cases hv : isVar t.name = true ∧ 0 < t.args.length
    · obtain ⟨hv1, hv2⟩ := hv
      have hv2' : (0 : Int) < t.args.length := by omega
      rw [if_pos ⟨hv1, hv2⟩] at hc1
      rw [hv1]
      repeat' (first | (with_reducible first | refine Wa ?_ | refine Wb ?_ | refine Wc ?_ | refine Wd ?_ | refine We ?_ | refine Wf ?_ | refine Wg ?_ | refine Wh ?_ | refine Wi ?_ | refine Wj ?_ | refine Wk (by decide) ?_ | refine Wl ?_ | refine Wm ?_ | refine Wn ?_) | ((with_reducible first | refine Wo (fun K hK => ?_) | refine Wq ?_ | refine Wr ?_); (try simp only [go_sem, List.forall_mem_nil, ↓guard_ite, ↓pick_ite, seval, encT_eq, inR_i64, hv2']); (repeat with_reducible refine And.intro (by first | omega | with_reducible exact lens_encT | with_reducible exact lens_encL | (simp; done) | (simp only [List.length_take, List.length_map, List.length_append, maxLen_eq]; omega)) ?_); (try (with_reducible refine hK _ ?_; clear hK K))))
      with_reducible refine Wp ?_
      simp only [go_sem, List.forall_mem_nil, ↓guard_ite, ↓pick_ite, seval, true_implies, false_implies, implies_true, decide_eq_true_eq, decide_eq_false_iff_not, Int.ofNat_lt, hv2']
      (try with_reducible refine ite_conj ?_)
      repeat' (first | (with_reducible first | refine Wa ?_ | refine Wb ?_ | refine Wc ?_ | refine Wd ?_ | refine We ?_ | refine Wf ?_ | refine Wg ?_ | refine Wh ?_ | refine Wi ?_ | refine Wj ?_ | refine Wk (by decide) ?_ | refine Wl ?_ | refine Wm ?_ | refine Wn ?_) | ((with_reducible first | refine Wo (fun K hK => ?_) | refine Wq ?_ | refine Wr ?_); (try simp only [go_sem, List.forall_mem_nil, ↓guard_ite, ↓pick_ite, seval, encT_eq, inR_i64]); (repeat with_reducible refine And.intro (by first | omega | with_reducible exact lens_encT | with_reducible exact lens_encL | (simp; done) | (simp only [List.length_take, List.length_map, List.length_append, maxLen_eq]; omega)) ?_); (try (with_reducible refine hK _ ?_; clear hK K))))
      simp only [go_sem, List.forall_mem_nil, ↓guard_ite, ↓pick_ite, seval, FinQ, AS.result, resAll, resOne, tupV]
      rw [hc, hc1]
      rfl
    · rw [if_neg hv] at hc1
      rw [if_pos hc1] at hc
      have hv2 : isVar t.name = true → ¬ (0 : Int) < t.args.length := fun h h' => hv ⟨h, by omega⟩
      cases hvv : isVar t.name
      all_goals
        simp only [hvv, true_implies, false_implies, Bool.false_eq_true] at hv2
        repeat' (first | (with_reducible first | refine Wa ?_ | refine Wb ?_ | refine Wc ?_ | refine Wd ?_ | refine We ?_ | refine Wf ?_ | refine Wg ?_ | refine Wh ?_ | refine Wi ?_ | refine Wj ?_ | refine Wk (by decide) ?_ | refine Wl ?_ | refine Wm ?_ | refine Wn ?_) | ((with_reducible first | refine Wo (fun K hK => ?_) | refine Wq ?_ | refine Wr ?_); (try simp only [go_sem, List.forall_mem_nil, ↓guard_ite, ↓pick_ite, seval, encT_eq, inR_i64, hv2]); (repeat with_reducible refine And.intro (by first | omega | with_reducible exact lens_encT | with_reducible exact lens_encL | (simp; done) | (simp only [List.length_take, List.length_map, List.length_append, maxLen_eq]; omega)) ?_); (try (with_reducible refine hK _ ?_; clear hK K))))
        with_reducible refine Wp ?_
        simp only [go_sem, List.forall_mem_nil, ↓guard_ite, ↓pick_ite, seval, true_implies, false_implies, implies_true, decide_eq_true_eq, decide_eq_false_iff_not, Int.ofNat_lt, hv2]
        (try with_reducible refine ite_conj ?_)
        repeat' (first | (with_reducible first | refine Wa ?_ | refine Wb ?_ | refine Wc ?_ | refine Wd ?_ | refine We ?_ | refine Wf ?_ | refine Wg ?_ | refine Wh ?_ | refine Wi ?_ | refine Wj ?_ | refine Wk (by decide) ?_ | refine Wl ?_ | refine Wm ?_ | refine Wn ?_) | ((with_reducible first | refine Wo (fun K hK => ?_) | refine Wq ?_ | refine Wr ?_); (try simp only [go_sem, List.forall_mem_nil, ↓guard_ite, ↓pick_ite, seval, encT_eq, inR_i64]); (repeat with_reducible refine And.intro (by first | omega | with_reducible exact lens_encT | with_reducible exact lens_encL | (simp; done) | (simp only [List.length_take, List.length_map, List.length_append, maxLen_eq]; omega)) ?_); (try (with_reducible refine hK _ ?_; clear hK K))))
        refine IWP.loopD [4] (fun n s => ∃ k, k ≤ t.args.length ∧ n = t.args.length - k ∧ Tm.chkL (t.args.take k) = 0 ∧ s.env 20 = .one (.st (.list (t.args.map encT))) ∧ s.env 21 = aInt t.args.length ∧ s.env 22 = aInt k ∧ s.S 4 = none) t.args.length ⟨0, Nat.zero_le _, rfl, rfl, rfl, rfl, rfl, rfl⟩ ?_
        rintro n ⟨env, S⟩ ⟨k, hk, rfl, h0, e20, e21, e22, s4⟩
        simp only at e20 e21 e22 s4
        repeat' (first | (with_reducible first | refine Wa ?_ | refine Wb ?_ | refine Wc ?_ | refine Wd ?_ | refine We ?_ | refine Wf ?_ | refine Wg ?_ | refine Wh ?_ | refine Wi ?_ | refine Wj ?_ | refine Wk (by decide) ?_ | refine Wl ?_ | refine Wm ?_ | refine Wn ?_) | ((with_reducible first | refine Wo (fun K hK => ?_) | refine Wq ?_ | refine Wr ?_); (try simp only [go_sem, List.forall_mem_nil, ↓guard_ite, ↓pick_ite, seval, encT_eq, inR_i64, e20, e21, e22, s4]); (repeat with_reducible refine And.intro (by first | omega | with_reducible exact lens_encT | with_reducible exact lens_encL | (simp; done) | (simp only [List.length_take, List.length_map, List.length_append, maxLen_eq]; omega)) ?_); (try (with_reducible refine hK _ ?_; clear hK K))))
        with_reducible refine Wp ?_
        simp only [go_sem, List.forall_mem_nil, ↓guard_ite, ↓pick_ite, seval, true_implies, false_implies, implies_true, decide_eq_true_eq, decide_eq_false_iff_not, Int.ofNat_lt, e20, e21, e22, s4]
        (try with_reducible refine ite_conj ?_)
        refine ⟨fun hlt => ?_, fun hge => ?_⟩
        · obtain ⟨a, ha⟩ := get_lt (show k < t.args.length by omega)
          obtain ⟨g1, g2⟩ := Tm.chkL_get ha h0
          repeat' (first | (with_reducible first | refine Wa ?_ | refine Wb ?_ | refine Wc ?_ | refine Wd ?_ | refine We ?_ | refine Wf ?_ | refine Wg ?_ | refine Wh ?_ | refine Wi ?_ | refine Wj ?_ | refine Wk (by decide) ?_ | refine Wl ?_ | refine Wm ?_ | refine Wn ?_) | refine CallG.mk _ (ih _ (Tm.lt_of_arg (mem_of_get ha)) a rfl) ?_ | ((with_reducible first | refine Wo (fun K hK => ?_) | refine Wq ?_ | refine Wr ?_); (try simp only [go_sem, List.forall_mem_nil, ↓guard_ite, ↓pick_ite, seval, encT_eq, inR_i64, e20, e21, e22, s4, ha]); (repeat with_reducible refine And.intro (by first | omega | with_reducible exact lens_encT | with_reducible exact lens_encL | (simp; done) | (simp only [List.length_take, List.length_map, List.length_append, maxLen_eq]; omega)) ?_); (try (with_reducible refine hK _ ?_; clear hK K))))
          with_reducible refine Wp ?_
          simp only [go_sem, List.forall_mem_nil, ↓guard_ite, ↓pick_ite, seval, true_implies, false_implies, implies_true, decide_eq_true_eq, decide_eq_false_iff_not, Int.ofNat_lt]
          (try with_reducible refine ite_conj ?_)
          refine ⟨fun hb => ?_, fun hb => ?_⟩
          · repeat' (first | (with_reducible first | refine Wa ?_ | refine Wb ?_ | refine Wc ?_ | refine Wd ?_ | refine We ?_ | refine Wf ?_ | refine Wg ?_ | refine Wh ?_ | refine Wi ?_ | refine Wj ?_ | refine Wk (by decide) ?_ | refine Wl ?_ | refine Wm ?_ | refine Wn ?_) | ((with_reducible first | refine Wo (fun K hK => ?_) | refine Wq ?_ | refine Wr ?_); (try simp only [go_sem, List.forall_mem_nil, ↓guard_ite, ↓pick_ite, seval, encT_eq, inR_i64]); (repeat with_reducible refine And.intro (by first | omega | with_reducible exact lens_encT | with_reducible exact lens_encL | (simp; done) | (simp only [List.length_take, List.length_map, List.length_append, maxLen_eq]; omega)) ?_); (try (with_reducible refine hK _ ?_; clear hK K))))
            simp only [go_sem, List.forall_mem_nil, ↓guard_ite, ↓pick_ite, seval, FinQ, AS.result, resAll, resOne, tupV]
            rw [hc, g2 hb]
          · repeat' (first | (with_reducible first | refine Wa ?_ | refine Wb ?_ | refine Wc ?_ | refine Wd ?_ | refine We ?_ | refine Wf ?_ | refine Wg ?_ | refine Wh ?_ | refine Wi ?_ | refine Wj ?_ | refine Wk (by decide) ?_ | refine Wl ?_ | refine Wm ?_ | refine Wn ?_) | ((with_reducible first | refine Wo (fun K hK => ?_) | refine Wq ?_ | refine Wr ?_); (try simp only [go_sem, List.forall_mem_nil, ↓guard_ite, ↓pick_ite, seval, encT_eq, inR_i64, e20, e21, e22, s4]); (repeat with_reducible refine And.intro (by first | omega | with_reducible exact lens_encT | with_reducible exact lens_encL | (simp; done) | (simp only [List.length_take, List.length_map, List.length_append, maxLen_eq]; omega)) ?_); (try (with_reducible refine hK _ ?_; clear hK K))))
            refine then_normal ⟨t.args.length - (k + 1), by omega, k + 1, by omega, rfl, g1 (by omega), ?_⟩
            simp only [go_sem, List.forall_mem_nil, ↓guard_ite, ↓pick_ite, seval, AS.drop, dropS, AC.clears, AC.clear, AC.highs, AC.high, Bool.not_false, Bool.true_and, Bool.and_self, AV.purge, AV.purges, AC.purge, ABlk.purge, List.contains_cons, List.contains_nil, Nat.reduceBEq, Bool.or_self, Bool.or_false, Bool.false_or, Bool.or_true, encT_eq, inR_i64, e20, e21, e22, s4]
            congr 3
        · repeat' (first | (with_reducible first | refine Wa ?_ | refine Wb ?_ | refine Wc ?_ | refine Wd ?_ | refine We ?_ | refine Wf ?_ | refine Wg ?_ | refine Wh ?_ | refine Wi ?_ | refine Wj ?_ | refine Wk (by decide) ?_ | refine Wl ?_ | refine Wm ?_ | refine Wn ?_) | ((with_reducible first | refine Wo (fun K hK => ?_) | refine Wq ?_ | refine Wr ?_); (try simp only [go_sem, List.forall_mem_nil, ↓guard_ite, ↓pick_ite, seval, encT_eq, inR_i64]); (repeat with_reducible refine And.intro (by first | omega | with_reducible exact lens_encT | with_reducible exact lens_encL | (simp; done) | (simp only [List.length_take, List.length_map, List.length_append, maxLen_eq]; omega)) ?_); (try (with_reducible refine hK _ ?_; clear hK K))))
          simp only [go_sem, List.forall_mem_nil, ↓guard_ite, ↓pick_ite, seval, FinQ, AS.result, resAll, resOne, tupV]
          rw [List.take_of_length_le (by omega)] at h0
          rw [hc, h0]
theorem checkT_a (t : Tm) : ACalls Tryz.prog 53 [aTm t] (aInt t.may) := by
  have hm : t.may = if 200 < t.size then 3 else t.chk := rfl
  refine ac_term_Check (Nat.le_of_ble_eq_true rfl) fun C hC => ?_
  unfold ir_term_Check
  repeat' (first | (with_reducible first | refine Wa ?_ | refine Wb ?_ | refine Wc ?_ | refine Wd ?_ | refine We ?_ | refine Wf ?_ | refine Wg ?_ | refine Wh ?_ | refine Wi ?_ | refine Wj ?_ | refine Wk (by decide) ?_ | refine Wl ?_ | refine Wm ?_ | refine Wn ?_) | ((with_reducible first | refine Wo (fun K hK => ?_) | refine Wq ?_ | refine Wr ?_); (try simp only [go_sem, List.forall_mem_nil, ↓guard_ite, ↓pick_ite, seval, encT_eq, inR_i64]); (repeat with_reducible refine And.intro (by first | omega | with_reducible exact lens_encT | with_reducible exact lens_encL | (simp; done) | (simp only [List.length_take, List.length_map, List.length_append, maxLen_eq]; omega)) ?_); (try (with_reducible refine hK _ ?_; clear hK K))))
  refine ⟨_, within_a t 200 (by omega) (by omega), ?_⟩
  by_cases h : lessBy t.size 200 < 0
  · repeat' (first | (with_reducible first | refine Wa ?_ | refine Wb ?_ | refine Wc ?_ | refine Wd ?_ | refine We ?_ | refine Wf ?_ | refine Wg ?_ | refine Wh ?_ | refine Wi ?_ | refine Wj ?_ | refine Wk (by decide) ?_ | refine Wl ?_ | refine Wm ?_ | refine Wn ?_) | ((with_reducible first | refine Wo (fun K hK => ?_) | refine Wq ?_ | refine Wr ?_); (try simp only [go_sem, List.forall_mem_nil, ↓guard_ite, ↓pick_ite, seval, encT_eq, inR_i64, h]); (repeat with_reducible refine And.intro (by first | omega | with_reducible exact lens_encT | with_reducible exact lens_encL | (simp; done) | (simp only [List.length_take, List.length_map, List.length_append, maxLen_eq]; omega)) ?_); (try (with_reducible refine hK _ ?_; clear hK K))))
    with_reducible refine Wp ?_
    simp only [go_sem, List.forall_mem_nil, ↓guard_ite, ↓pick_ite, seval, true_implies, false_implies, implies_true, decide_eq_true_eq, decide_eq_false_iff_not, Int.ofNat_lt, h]
    (try with_reducible refine ite_conj ?_)
    repeat' (first | (with_reducible first | refine Wa ?_ | refine Wb ?_ | refine Wc ?_ | refine Wd ?_ | refine We ?_ | refine Wf ?_ | refine Wg ?_ | refine Wh ?_ | refine Wi ?_ | refine Wj ?_ | refine Wk (by decide) ?_ | refine Wl ?_ | refine Wm ?_ | refine Wn ?_) | ((with_reducible first | refine Wo (fun K hK => ?_) | refine Wq ?_ | refine Wr ?_); (try simp only [go_sem, List.forall_mem_nil, ↓guard_ite, ↓pick_ite, seval, encT_eq, inR_i64]); (repeat with_reducible refine And.intro (by first | omega | with_reducible exact lens_encT | with_reducible exact lens_encL | (simp; done) | (simp only [List.length_take, List.length_map, List.length_append, maxLen_eq]; omega)) ?_); (try (with_reducible refine hK _ ?_; clear hK K))))
    simp only [go_sem, List.forall_mem_nil, ↓guard_ite, ↓pick_ite, seval, FinQ, AS.result, resAll, resOne, tupV]
    unfold lessBy at h
    rw [hm, if_pos (by split at h <;> omega)]
  · repeat' (first | (with_reducible first | refine Wa ?_ | refine Wb ?_ | refine Wc ?_ | refine Wd ?_ | refine We ?_ | refine Wf ?_ | refine Wg ?_ | refine Wh ?_ | refine Wi ?_ | refine Wj ?_ | refine Wk (by decide) ?_ | refine Wl ?_ | refine Wm ?_ | refine Wn ?_) | ((with_reducible first | refine Wo (fun K hK => ?_) | refine Wq ?_ | refine Wr ?_); (try simp only [go_sem, List.forall_mem_nil, ↓guard_ite, ↓pick_ite, seval, encT_eq, inR_i64, h]); (repeat with_reducible refine And.intro (by first | omega | with_reducible exact lens_encT | with_reducible exact lens_encL | (simp; done) | (simp only [List.length_take, List.length_map, List.length_append, maxLen_eq]; omega)) ?_); (try (with_reducible refine hK _ ?_; clear hK K))))
    with_reducible refine Wp ?_
    simp only [go_sem, List.forall_mem_nil, ↓guard_ite, ↓pick_ite, seval, true_implies, false_implies, implies_true, decide_eq_true_eq, decide_eq_false_iff_not, Int.ofNat_lt, h]
    (try with_reducible refine ite_conj ?_)
    repeat' (first | (with_reducible first | refine Wa ?_ | refine Wb ?_ | refine Wc ?_ | refine Wd ?_ | refine We ?_ | refine Wf ?_ | refine Wg ?_ | refine Wh ?_ | refine Wi ?_ | refine Wj ?_ | refine Wk (by decide) ?_ | refine Wl ?_ | refine Wm ?_ | refine Wn ?_) | refine CallG.mk _ (check_a t) ?_ | ((with_reducible first | refine Wo (fun K hK => ?_) | refine Wq ?_ | refine Wr ?_); (try simp only [go_sem, List.forall_mem_nil, ↓guard_ite, ↓pick_ite, seval, encT_eq, inR_i64]); (repeat with_reducible refine And.intro (by first | omega | with_reducible exact lens_encT | with_reducible exact lens_encL | (simp; done) | (simp only [List.length_take, List.length_map, List.length_append, maxLen_eq]; omega)) ?_); (try (with_reducible refine hK _ ?_; clear hK K))))
    simp only [go_sem, List.forall_mem_nil, ↓guard_ite, ↓pick_ite, seval, FinQ, AS.result, resAll, resOne, tupV]
    unfold lessBy at h
    rw [hm, if_neg (by split at h <;> omega)]
theorem knots_a (t : Tm) (hz : t.size ≤ 1000000) : ACalls Tryz.prog 43 [aTm t] (aTms t.knots) := by
  induction h : SizeOf.sizeOf t using Nat.strongRecOn generalizing t with
  | _ N ih =>
  subst h
  have hs := Tm.size_eq t
  refine ac_R_Knots (Nat.le_of_ble_eq_true rfl) fun C hC => ?_
  unfold ir_R_Knots
  repeat' (first | (with_reducible first | refine Wa ?_ | refine Wb ?_ | refine Wc ?_ | refine Wd ?_ | refine We ?_ | refine Wf ?_ | refine Wg ?_ | refine Wh ?_ | refine Wi ?_ | refine Wj ?_ | refine Wk (by decide) ?_ | refine Wl ?_ | refine Wm ?_ | refine Wn ?_) | ((with_reducible first | refine Wo (fun K hK => ?_) | refine Wq ?_ | refine Wr ?_); (try simp only [go_sem, List.forall_mem_nil, ↓guard_ite, ↓pick_ite, seval, encT_eq, inR_i64]); (repeat with_reducible refine And.intro (by first | omega | with_reducible exact lens_encT | with_reducible exact lens_encL | (simp; done) | (simp only [List.length_take, List.length_map, List.length_append, maxLen_eq]; omega)) ?_); (try (with_reducible refine hK _ ?_; clear hK K))))
  refine IWP.ghost (Ghost.own 3 21 30 2 (xs := ([t].map encT)) (by simp only [go_sem, List.forall_mem_nil, ↓guard_ite, ↓pick_ite, seval, encT_eq, inR_i64]) rfl lens_encT (by omega)) ?_
  have hlen := Tm.length_le t.args
  refine IWP.loopD [] (fun m s => ∃ k, k ≤ t.args.length ∧ m = t.args.length - k ∧ s.env 1 = .one (.ptr 1 1 0 0) ∧ s.S 1 = some (.box 30 [.st (.str t.name), .st (.list (t.args.map encT))]) ∧ s.env 3 = .one (.row 21 (t :: Tm.knotsL (t.args.take k)).length) ∧ s.S 21 = some (.arow 30 2 ((t :: Tm.knotsL (t.args.take k)).map encT)) ∧ s.env 4 = aInt k)
    t.args.length ⟨0, Nat.zero_le _, rfl, rfl, rfl, rfl, rfl, rfl⟩ ?_
  rintro m ⟨env, S⟩ ⟨k, hk, rfl, e1, s1, e3, s21, e4⟩
  simp only at e1 s1 e3 s21 e4
  repeat' (first | (with_reducible first | refine Wa ?_ | refine Wb ?_ | refine Wc ?_ | refine Wd ?_ | refine We ?_ | refine Wf ?_ | refine Wg ?_ | refine Wh ?_ | refine Wi ?_ | refine Wj ?_ | refine Wk (by decide) ?_ | refine Wl ?_ | refine Wm ?_ | refine Wn ?_) | ((with_reducible first | refine Wo (fun K hK => ?_) | refine Wq ?_ | refine Wr ?_); (try simp only [go_sem, List.forall_mem_nil, ↓guard_ite, ↓pick_ite, seval, encT_eq, inR_i64, e1, s1, e3, s21, e4]); (repeat with_reducible refine And.intro (by first | omega | with_reducible exact lens_encT | with_reducible exact lens_encL | (simp; done) | (simp only [List.length_take, List.length_map, List.length_append, maxLen_eq]; omega)) ?_); (try (with_reducible refine hK _ ?_; clear hK K))))
  with_reducible refine Wp ?_
  simp only [go_sem, List.forall_mem_nil, ↓guard_ite, ↓pick_ite, seval, true_implies, false_implies, implies_true, decide_eq_true_eq, decide_eq_false_iff_not, Int.ofNat_lt]
  (try with_reducible refine ite_conj ?_)
  refine ⟨fun hlt => ?_, fun hge => ?_⟩
  · obtain ⟨a, ha⟩ := get_lt (show k < t.args.length by omega)
    have z1 := Tm.sizes_take ha
    have z2 := Tm.sizes_take_le t.args (k + 1)
    have z3 := Tm.knots_length a
    have z4 := Tm.knotsL_length (t.args.take k)
    repeat' (first | (with_reducible first | refine Wa ?_ | refine Wb ?_ | refine Wc ?_ | refine Wd ?_ | refine We ?_ | refine Wf ?_ | refine Wg ?_ | refine Wh ?_ | refine Wi ?_ | refine Wj ?_ | refine Wk (by decide) ?_ | refine Wl ?_ | refine Wm ?_ | refine Wn ?_) | refine CallG.mk _ (ih _ (Tm.lt_of_arg (mem_of_get ha)) a (by omega) rfl) ?_ | ((with_reducible first | refine Wo (fun K hK => ?_) | refine Wq ?_ | refine Wr ?_); (try simp only [go_sem, List.forall_mem_nil, ↓guard_ite, ↓pick_ite, seval, encT_eq, inR_i64, e1, s1, e3, s21, e4, ha]); (repeat with_reducible refine And.intro (by first | omega | with_reducible exact lens_encT | with_reducible exact lens_encL | (simp; done) | (simp only [List.length_take, List.length_map, List.length_append, maxLen_eq]; omega)) ?_); (try (with_reducible refine hK _ ?_; clear hK K))))
    refine then_normal ⟨t.args.length - (k + 1), by omega, k + 1, by omega, rfl, ?_⟩
    simp only [go_sem, List.forall_mem_nil, ↓guard_ite, ↓pick_ite, seval, AS.drop, dropS, AC.clears, AC.clear, AC.highs, AC.high, Bool.not_false, Bool.true_and, Bool.and_self, AV.purge, AV.purges, AC.purge, ABlk.purge, List.contains_cons, List.contains_nil, Nat.reduceBEq, Bool.or_self, Bool.or_false, Bool.false_or, Bool.or_true, encT_eq, inR_i64, e1, s1, e3, s21, e4]
    rw [Tm.knotsL_take ha]
    exact ⟨by simp <;> omega, by simp [encT_eq], rfl⟩
  · repeat' (first | (with_reducible first | refine Wa ?_ | refine Wb ?_ | refine Wc ?_ | refine Wd ?_ | refine We ?_ | refine Wf ?_ | refine Wg ?_ | refine Wh ?_ | refine Wi ?_ | refine Wj ?_ | refine Wk (by decide) ?_ | refine Wl ?_ | refine Wm ?_ | refine Wn ?_) | ((with_reducible first | refine Wo (fun K hK => ?_) | refine Wq ?_ | refine Wr ?_); (try simp only [go_sem, List.forall_mem_nil, ↓guard_ite, ↓pick_ite, seval, encT_eq, inR_i64, e1, s1, e3, s21, e4]); (repeat with_reducible refine And.intro (by first | omega | with_reducible exact lens_encT | with_reducible exact lens_encL | (simp; done) | (simp only [List.length_take, List.length_map, List.length_append, maxLen_eq]; omega)) ?_); (try (with_reducible refine hK _ ?_; clear hK K))))
    simp only [go_sem, List.forall_mem_nil, ↓guard_ite, ↓pick_ite, seval, FinQ, AS.result, resAll, resOne, tupV, e3, s21]
    rw [List.take_of_length_le (by omega), Tm.knots_eq]
    rfl

theorem termMay_a (t : Tm) : ACalls Tryz.prog 42 [aTm t] (aInt t.may) := by
  have hm : t.may = if 200 < t.size then 3 else t.chk := rfl
  refine ac_R_TermMay (Nat.le_of_ble_eq_true rfl) fun C hC => ?_
  unfold ir_R_TermMay
  repeat' (first | (with_reducible first | refine Wa ?_ | refine Wb ?_ | refine Wc ?_ | refine Wd ?_ | refine We ?_ | refine Wf ?_ | refine Wg ?_ | refine Wh ?_ | refine Wi ?_ | refine Wj ?_ | refine Wk (by decide) ?_ | refine Wl ?_ | refine Wm ?_ | refine Wn ?_) | ((with_reducible first | refine Wo (fun K hK => ?_) | refine Wq ?_ | refine Wr ?_); (try simp only [go_sem, List.forall_mem_nil, ↓guard_ite, ↓pick_ite, seval, encT_eq, inR_i64]); (repeat with_reducible refine And.intro (by first | omega | with_reducible exact lens_encT | with_reducible exact lens_encL | (simp; done) | (simp only [List.length_take, List.length_map, List.length_append, maxLen_eq]; omega)) ?_); (try (with_reducible refine hK _ ?_; clear hK K))))
  refine ⟨_, sizeR_a t 200 (by omega) (by omega), ?_⟩
  by_cases h : (200 : Int) < capTo t.size 200
  · repeat' (first | (with_reducible first | refine Wa ?_ | refine Wb ?_ | refine Wc ?_ | refine Wd ?_ | refine We ?_ | refine Wf ?_ | refine Wg ?_ | refine Wh ?_ | refine Wi ?_ | refine Wj ?_ | refine Wk (by decide) ?_ | refine Wl ?_ | refine Wm ?_ | refine Wn ?_) | ((with_reducible first | refine Wo (fun K hK => ?_) | refine Wq ?_ | refine Wr ?_); (try simp only [go_sem, List.forall_mem_nil, ↓guard_ite, ↓pick_ite, seval, encT_eq, inR_i64, h]); (repeat with_reducible refine And.intro (by first | omega | with_reducible exact lens_encT | with_reducible exact lens_encL | (simp; done) | (simp only [List.length_take, List.length_map, List.length_append, maxLen_eq]; omega)) ?_); (try (with_reducible refine hK _ ?_; clear hK K))))
    with_reducible refine Wp ?_
    simp only [go_sem, List.forall_mem_nil, ↓guard_ite, ↓pick_ite, seval, true_implies, false_implies, implies_true, decide_eq_true_eq, decide_eq_false_iff_not, Int.ofNat_lt, h]
    (try with_reducible refine ite_conj ?_)
    repeat' (first | (with_reducible first | refine Wa ?_ | refine Wb ?_ | refine Wc ?_ | refine Wd ?_ | refine We ?_ | refine Wf ?_ | refine Wg ?_ | refine Wh ?_ | refine Wi ?_ | refine Wj ?_ | refine Wk (by decide) ?_ | refine Wl ?_ | refine Wm ?_ | refine Wn ?_) | ((with_reducible first | refine Wo (fun K hK => ?_) | refine Wq ?_ | refine Wr ?_); (try simp only [go_sem, List.forall_mem_nil, ↓guard_ite, ↓pick_ite, seval, encT_eq, inR_i64]); (repeat with_reducible refine And.intro (by first | omega | with_reducible exact lens_encT | with_reducible exact lens_encL | (simp; done) | (simp only [List.length_take, List.length_map, List.length_append, maxLen_eq]; omega)) ?_); (try (with_reducible refine hK _ ?_; clear hK K))))
    simp only [go_sem, List.forall_mem_nil, ↓guard_ite, ↓pick_ite, seval, FinQ, AS.result, resAll, resOne, tupV]
    unfold capTo at h
    rw [hm, if_pos (by split at h <;> omega)]
  have hz := (capTo_in h).2
  rw [if_neg (by omega)] at hm
  repeat' (first | (with_reducible first | refine Wa ?_ | refine Wb ?_ | refine Wc ?_ | refine Wd ?_ | refine We ?_ | refine Wf ?_ | refine Wg ?_ | refine Wh ?_ | refine Wi ?_ | refine Wj ?_ | refine Wk (by decide) ?_ | refine Wl ?_ | refine Wm ?_ | refine Wn ?_) | ((with_reducible first | refine Wo (fun K hK => ?_) | refine Wq ?_ | refine Wr ?_); (try simp only [go_sem, List.forall_mem_nil, ↓guard_ite, ↓pick_ite, seval, encT_eq, inR_i64, h]); (repeat with_reducible refine And.intro (by first | omega | with_reducible exact lens_encT | with_reducible exact lens_encL | (simp; done) | (simp only [List.length_take, List.length_map, List.length_append, maxLen_eq]; omega)) ?_); (try (with_reducible refine hK _ ?_; clear hK K))))
  with_reducible refine Wp ?_
  simp only [go_sem, List.forall_mem_nil, ↓guard_ite, ↓pick_ite, seval, true_implies, false_implies, implies_true, decide_eq_true_eq, decide_eq_false_iff_not, Int.ofNat_lt, h]
  (try with_reducible refine ite_conj ?_)
  repeat' (first | (with_reducible first | refine Wa ?_ | refine Wb ?_ | refine Wc ?_ | refine Wd ?_ | refine We ?_ | refine Wf ?_ | refine Wg ?_ | refine Wh ?_ | refine Wi ?_ | refine Wj ?_ | refine Wk (by decide) ?_ | refine Wl ?_ | refine Wm ?_ | refine Wn ?_) | refine CallG.mk _ (knots_a t (by omega)) ?_ | ((with_reducible first | refine Wo (fun K hK => ?_) | refine Wq ?_ | refine Wr ?_); (try simp only [go_sem, List.forall_mem_nil, ↓guard_ite, ↓pick_ite, seval, encT_eq, inR_i64]); (repeat with_reducible refine And.intro (by first | omega | with_reducible exact lens_encT | with_reducible exact lens_encL | (simp; done) | (simp only [List.length_take, List.length_map, List.length_append, maxLen_eq]; omega)) ?_); (try (with_reducible refine hK _ ?_; clear hK K))))
  have hl := Tm.knots_length t
  have hc := Tm.firstErr_knots t
  refine IWP.loop (fun n s => ∃ k, k ≤ t.knots.length ∧ n = t.knots.length - k ∧ firstErr (t.knots.take k) = 0 ∧ s.env 3 = aTms t.knots ∧ s.env 4 = aInt k) t.knots.length ⟨0, Nat.zero_le _, rfl, rfl, rfl, rfl⟩ ?_
  rintro n ⟨env, S⟩ ⟨k, hk, rfl, h0, e3, e4⟩
  simp only at e3 e4
  repeat' (first | (with_reducible first | refine Wa ?_ | refine Wb ?_ | refine Wc ?_ | refine Wd ?_ | refine We ?_ | refine Wf ?_ | refine Wg ?_ | refine Wh ?_ | refine Wi ?_ | refine Wj ?_ | refine Wk (by decide) ?_ | refine Wl ?_ | refine Wm ?_ | refine Wn ?_) | ((with_reducible first | refine Wo (fun K hK => ?_) | refine Wq ?_ | refine Wr ?_); (try simp only [go_sem, List.forall_mem_nil, ↓guard_ite, ↓pick_ite, seval, encT_eq, inR_i64, e3, e4]); (repeat with_reducible refine And.intro (by first | omega | with_reducible exact lens_encT | with_reducible exact lens_encL | (simp; done) | (simp only [List.length_take, List.length_map, List.length_append, maxLen_eq]; omega)) ?_); (try (with_reducible refine hK _ ?_; clear hK K))))
  with_reducible refine Wp ?_
  simp only [go_sem, List.forall_mem_nil, ↓guard_ite, ↓pick_ite, seval, true_implies, false_implies, implies_true, decide_eq_true_eq, decide_eq_false_iff_not, Int.ofNat_lt]
  (try with_reducible refine ite_conj ?_)
  refine ⟨fun hlt => ?_, fun hge => ?_⟩
  · obtain ⟨a, ha⟩ := get_lt (show k < t.knots.length by omega)
    obtain ⟨g1, g2⟩ := firstErr_get ha h0
    have hc1 : chkOne a = if nameOk a.name = true then (if isVar a.name = true ∧ 0 < a.args.length then 2 else 0) else 1 := rfl
    repeat' (first | (with_reducible first | refine Wa ?_ | refine Wb ?_ | refine Wc ?_ | refine Wd ?_ | refine We ?_ | refine Wf ?_ | refine Wg ?_ | refine Wh ?_ | refine Wi ?_ | refine Wj ?_ | refine Wk (by decide) ?_ | refine Wl ?_ | refine Wm ?_ | refine Wn ?_) | ((with_reducible first | refine Wo (fun K hK => ?_) | refine Wq ?_ | refine Wr ?_); (try simp only [go_sem, List.forall_mem_nil, ↓guard_ite, ↓pick_ite, seval, encT_eq, inR_i64, e3, e4, ha]); (repeat with_reducible refine And.intro (by first | omega | with_reducible exact lens_encT | with_reducible exact lens_encL | (simp; done) | (simp only [List.length_take, List.length_map, List.length_append, maxLen_eq]; omega)) ?_); (try (with_reducible refine hK _ ?_; clear hK K))))
    refine ⟨_, isName_a _, ?_⟩
    cases hn : nameOk a.name with
    | false =>
      rw [hn, if_neg (by simp)] at hc1
      repeat' (first | (with_reducible first | refine Wa ?_ | refine Wb ?_ | refine Wc ?_ | refine Wd ?_ | refine We ?_ | refine Wf ?_ | refine Wg ?_ | refine Wh ?_ | refine Wi ?_ | refine Wj ?_ | refine Wk (by decide) ?_ | refine Wl ?_ | refine Wm ?_ | refine Wn ?_) | ((with_reducible first | refine Wo (fun K hK => ?_) | refine Wq ?_ | refine Wr ?_); (try simp only [go_sem, List.forall_mem_nil, ↓guard_ite, ↓pick_ite, seval, encT_eq, inR_i64]); (repeat with_reducible refine And.intro (by first | omega | with_reducible exact lens_encT | with_reducible exact lens_encL | (simp; done) | (simp only [List.length_take, List.length_map, List.length_append, maxLen_eq]; omega)) ?_); (try (with_reducible refine hK _ ?_; clear hK K))))
      with_reducible refine Wp ?_
      simp only [go_sem, List.forall_mem_nil, ↓guard_ite, ↓pick_ite, seval, true_implies, false_implies, implies_true, decide_eq_true_eq, decide_eq_false_iff_not, Int.ofNat_lt]
      (try with_reducible refine ite_conj ?_)
      repeat' (first | (with_reducible first | refine Wa ?_ | refine Wb ?_ | refine Wc ?_ | refine Wd ?_ | refine We ?_ | refine Wf ?_ | refine Wg ?_ | refine Wh ?_ | refine Wi ?_ | refine Wj ?_ | refine Wk (by decide) ?_ | refine Wl ?_ | refine Wm ?_ | refine Wn ?_) | ((with_reducible first | refine Wo (fun K hK => ?_) | refine Wq ?_ | refine Wr ?_); (try simp only [go_sem, List.forall_mem_nil, ↓guard_ite, ↓pick_ite, seval, encT_eq, inR_i64]); (repeat with_reducible refine And.intro (by first | omega | with_reducible exact lens_encT | with_reducible exact lens_encL | (simp; done) | (simp only [List.length_take, List.length_map, List.length_append, maxLen_eq]; omega)) ?_); (try (with_reducible refine hK _ ?_; clear hK K))))
      simp only [go_sem, List.forall_mem_nil, ↓guard_ite, ↓pick_ite, seval, FinQ, AS.result, resAll, resOne, tupV]
      rw [hm, ← hc, g2 (by omega), hc1]
    | true =>
      rw [hn, if_pos rfl] at hc1
      repeat' (first | (with_reducible first | refine Wa ?_ | refine Wb ?_ | refine Wc ?_ | refine Wd ?_ | refine We ?_ | refine Wf ?_ | refine Wg ?_ | refine Wh ?_ | refine Wi ?_ | refine Wj ?_ | refine Wk (by decide) ?_ | refine Wl ?_ | refine Wm ?_ | refine Wn ?_) | ((with_reducible first | refine Wo (fun K hK => ?_) | refine Wq ?_ | refine Wr ?_); (try simp only [go_sem, List.forall_mem_nil, ↓guard_ite, ↓pick_ite, seval, encT_eq, inR_i64]); (repeat with_reducible refine And.intro (by first | omega | with_reducible exact lens_encT | with_reducible exact lens_encL | (simp; done) | (simp only [List.length_take, List.length_map, List.length_append, maxLen_eq]; omega)) ?_); (try (with_reducible refine hK _ ?_; clear hK K))))
      with_reducible refine Wp ?_
      simp only [go_sem, List.forall_mem_nil, ↓guard_ite, ↓pick_ite, seval, true_implies, false_implies, implies_true, decide_eq_true_eq, decide_eq_false_iff_not, Int.ofNat_lt]
      (try with_reducible refine ite_conj ?_)
      repeat' (first | (with_reducible first | refine Wa ?_ | refine Wb ?_ | refine Wc ?_ | refine Wd ?_ | refine We ?_ | refine Wf ?_ | refine Wg ?_ | refine Wh ?_ | refine Wi ?_ | refine Wj ?_ | refine Wk (by decide) ?_ | refine Wl ?_ | refine Wm ?_ | refine Wn ?_) | ((with_reducible first | refine Wo (fun K hK => ?_) | refine Wq ?_ | refine Wr ?_); (try simp only [go_sem, List.forall_mem_nil, ↓guard_ite, ↓pick_ite, seval, encT_eq, inR_i64, e3, e4, ha]); (repeat with_reducible refine And.intro (by first | omega | with_reducible exact lens_encT | with_reducible exact lens_encL | (simp; done) | (simp only [List.length_take, List.length_map, List.length_append, maxLen_eq]; omega)) ?_); (try (with_reducible refine hK _ ?_; clear hK K))))
      refine ⟨_, isVar_a _, ?_⟩
      by_cases hv : isVar a.name = true ∧ 0 < a.args.length
      · obtain ⟨hv1, hv2⟩ := hv
        have hv2' : (0 : Int) < a.args.length := by omega
        rw [if_pos ⟨hv1, hv2⟩] at hc1
        rw [hv1]
        repeat' (first | (with_reducible first | refine Wa ?_ | refine Wb ?_ | refine Wc ?_ | refine Wd ?_ | refine We ?_ | refine Wf ?_ | refine Wg ?_ | refine Wh ?_ | refine Wi ?_ | refine Wj ?_ | refine Wk (by decide) ?_ | refine Wl ?_ | refine Wm ?_ | refine Wn ?_) | ((with_reducible first | refine Wo (fun K hK => ?_) | refine Wq ?_ | refine Wr ?_); (try simp only [go_sem, List.forall_mem_nil, ↓guard_ite, ↓pick_ite, seval, encT_eq, inR_i64, e3, e4, ha, hv2']); (repeat with_reducible refine And.intro (by first | omega | with_reducible exact lens_encT | with_reducible exact lens_encL | (simp; done) | (simp only [List.length_take, List.length_map, List.length_append, maxLen_eq]; omega)) ?_); (try (with_reducible refine hK _ ?_; clear hK K))))
        with_reducible refine Wp ?_
        simp only [go_sem, List.forall_mem_nil, ↓guard_ite, ↓pick_ite, seval, true_implies, false_implies, implies_true, decide_eq_true_eq, decide_eq_false_iff_not, Int.ofNat_lt, hv2']
        (try with_reducible refine ite_conj ?_)
        repeat' (first | (with_reducible first | refine Wa ?_ | refine Wb ?_ | refine Wc ?_ | refine Wd ?_ | refine We ?_ | refine Wf ?_ | refine Wg ?_ | refine Wh ?_ | refine Wi ?_ | refine Wj ?_ | refine Wk (by decide) ?_ | refine Wl ?_ | refine Wm ?_ | refine Wn ?_) | ((with_reducible first | refine Wo (fun K hK => ?_) | refine Wq ?_ | refine Wr ?_); (try simp only [go_sem, List.forall_mem_nil, ↓guard_ite, ↓pick_ite, seval, encT_eq, inR_i64]); (repeat with_reducible refine And.intro (by first | omega | with_reducible exact lens_encT | with_reducible exact lens_encL | (simp; done) | (simp only [List.length_take, List.length_map, List.length_append, maxLen_eq]; omega)) ?_); (try (with_reducible refine hK _ ?_; clear hK K))))
        simp only [go_sem, List.forall_mem_nil, ↓guard_ite, ↓pick_ite, seval, FinQ, AS.result, resAll, resOne, tupV]
        rw [hm, ← hc, g2 (by omega), hc1]
      · rw [if_neg hv] at hc1
        have hv2 : isVar a.name = true → ¬ (0 : Int) < a.args.length := fun h h' => hv ⟨h, by omega⟩
        cases hvv : isVar a.name
        all_goals
          simp only [hvv, true_implies, false_implies, Bool.false_eq_true] at hv2
          repeat' (first | (with_reducible first | refine Wa ?_ | refine Wb ?_ | refine Wc ?_ | refine Wd ?_ | refine We ?_ | refine Wf ?_ | refine Wg ?_ | refine Wh ?_ | refine Wi ?_ | refine Wj ?_ | refine Wk (by decide) ?_ | refine Wl ?_ | refine Wm ?_ | refine Wn ?_) | ((with_reducible first | refine Wo (fun K hK => ?_) | refine Wq ?_ | refine Wr ?_); (try simp only [go_sem, List.forall_mem_nil, ↓guard_ite, ↓pick_ite, seval, encT_eq, inR_i64, e3, e4, ha, hv2]); (repeat with_reducible refine And.intro (by first | omega | with_reducible exact lens_encT | with_reducible exact lens_encL | (simp; done) | (simp only [List.length_take, List.length_map, List.length_append, maxLen_eq]; omega)) ?_); (try (with_reducible refine hK _ ?_; clear hK K))))
          with_reducible refine Wp ?_
          simp only [go_sem, List.forall_mem_nil, ↓guard_ite, ↓pick_ite, seval, true_implies, false_implies, implies_true, decide_eq_true_eq, decide_eq_false_iff_not, Int.ofNat_lt, hv2]
          (try with_reducible refine ite_conj ?_)
          repeat' (first | (with_reducible first | refine Wa ?_ | refine Wb ?_ | refine Wc ?_ | refine Wd ?_ | refine We ?_ | refine Wf ?_ | refine Wg ?_ | refine Wh ?_ | refine Wi ?_ | refine Wj ?_ | refine Wk (by decide) ?_ | refine Wl ?_ | refine Wm ?_ | refine Wn ?_) | ((with_reducible first | refine Wo (fun K hK => ?_) | refine Wq ?_ | refine Wr ?_); (try simp only [go_sem, List.forall_mem_nil, ↓guard_ite, ↓pick_ite, seval, encT_eq, inR_i64, e3, e4]); (repeat with_reducible refine And.intro (by first | omega | with_reducible exact lens_encT | with_reducible exact lens_encL | (simp; done) | (simp only [List.length_take, List.length_map, List.length_append, maxLen_eq]; omega)) ?_); (try (with_reducible refine hK _ ?_; clear hK K))))
          refine then_normal ⟨t.knots.length - (k + 1), by omega, k + 1, by omega, rfl, g1 hc1, ?_⟩
          simp only [go_sem, List.forall_mem_nil, ↓guard_ite, ↓pick_ite, seval, encT_eq, inR_i64, e3, e4]
          congr 3
  · repeat' (first | (with_reducible first | refine Wa ?_ | refine Wb ?_ | refine Wc ?_ | refine Wd ?_ | refine We ?_ | refine Wf ?_ | refine Wg ?_ | refine Wh ?_ | refine Wi ?_ | refine Wj ?_ | refine Wk (by decide) ?_ | refine Wl ?_ | refine Wm ?_ | refine Wn ?_) | ((with_reducible first | refine Wo (fun K hK => ?_) | refine Wq ?_ | refine Wr ?_); (try simp only [go_sem, List.forall_mem_nil, ↓guard_ite, ↓pick_ite, seval, encT_eq, inR_i64]); (repeat with_reducible refine And.intro (by first | omega | with_reducible exact lens_encT | with_reducible exact lens_encL | (simp; done) | (simp only [List.length_take, List.length_map, List.length_append, maxLen_eq]; omega)) ?_); (try (with_reducible refine hK _ ?_; clear hK K))))
    simp only [go_sem, List.forall_mem_nil, ↓guard_ite, ↓pick_ite, seval, FinQ, AS.result, resAll, resOne, tupV]
    rw [List.take_of_length_le (by omega)] at h0
    rw [hm, ← hc, h0]

def twoMay (a b : Tm) : Int := if a.may = 0 then b.may else a.may
theorem huge_a (t : Tm) : ACalls Tryz.prog 21 [aTm t] (aBool (decide (3000 < t.size))) := by
  have hc : ((3000 : Int) < capTo t.size 3000) = (3000 < t.size) := by
    unfold capTo
    by_cases h : (3000 : Int) < t.size
    · rw [if_pos h]; simp; omega
    · rw [if_neg h]; simp; omega
  refine ac_L_huge (Nat.le_of_ble_eq_true rfl) fun C hC => ?_
  unfold ir_L_huge
  repeat' (first | (with_reducible first | refine Wa ?_ | refine Wb ?_ | refine Wc ?_ | refine Wd ?_ | refine We ?_ | refine Wf ?_ | refine Wg ?_ | refine Wh ?_ | refine Wi ?_ | refine Wj ?_ | refine Wk (by decide) ?_ | refine Wl ?_ | refine Wm ?_ | refine Wn ?_) | refine CallG.mk _ (sizeR_a t 3000 (by omega) (by omega)) ?_ | ((with_reducible first | refine Wo (fun K hK => ?_) | refine Wq ?_ | refine Wr ?_); (try simp only [go_sem, List.forall_mem_nil, ↓guard_ite, ↓pick_ite, seval, encT_eq, inR_i64]); (repeat with_reducible refine And.intro (by first | omega | with_reducible exact lens_encT | with_reducible exact lens_encL | (simp; done) | (simp only [List.length_take, List.length_map, List.length_append, maxLen_eq]; omega)) ?_); (try (with_reducible refine hK _ ?_; clear hK K))))
  simp only [go_sem, List.forall_mem_nil, ↓guard_ite, ↓pick_ite, seval, FinQ, AS.result, resAll, resOne, tupV, hc]
theorem isIn_step {x a : ByteArray} {l : List ByteArray} {k : Nat} (ha : l[k]? = some a) (h0 : isIn x (l.take k) = false) (hb : ¬ a = x) : isIn x (l.take (k + 1)) = false := by
  rw [take_snoc ha, isIn_no]
  rw [isIn_no] at h0
  simp only [List.mem_append, List.mem_singleton, not_or]
  exact ⟨h0, fun e => hb e.symm⟩
/-- where a name stands first; -1: nowhere -/
def whereIs (x : ByteArray) (l : List ByteArray) : Int := if isIn x l then (l.idxOf x : Nat) else -1
/-! ### two terms -/
mutual
def Tm.beq : Tm → Tm → Bool
  | .mk n xs, .mk m ys => decide (n = m) && Tm.beqL xs ys
def Tm.beqL : List Tm → List Tm → Bool
  | [], [] => true
  | x :: xs, y :: ys => x.beq y && Tm.beqL xs ys
  | _, _ => false
end
mutual
theorem Tm.beq_iff : ∀ a b : Tm, a.beq b = true ↔ a = b
  | .mk n xs, .mk m ys => by
    rw [Tm.beq, Bool.and_eq_true, Tm.beqL_iff xs ys, decide_eq_true_eq, Tm.mk.injEq]
theorem Tm.beqL_iff : ∀ xs ys : List Tm, Tm.beqL xs ys = true ↔ xs = ys
  | [], [] => by simp [Tm.beqL]
  | x :: xs, y :: ys => by rw [Tm.beqL, Bool.and_eq_true, Tm.beq_iff x y, Tm.beqL_iff xs ys, List.cons.injEq]
  | [], y :: ys => by simp [Tm.beqL]
  | x :: xs, [] => by simp [Tm.beqL]
end
theorem Tm.beq_refl (a : Tm) : a.beq a = true := (Tm.beq_iff a a).2 rfl
theorem Tm.eq_of {a b : Tm} (h1 : a.name = b.name) (h2 : a.args = b.args) : a = b := by
  cases a; cases b
  simp only [Tm.name_mk, Tm.args_mk] at h1 h2
  rw [h1, h2]
theorem sameR_a (a b : Tm) : ACalls Tryz.prog 41 [aTm a, aTm b] (aBool (a.beq b)) := by
  induction h : SizeOf.sizeOf a using Nat.strongRecOn generalizing a b with
  | _ N ih =>
  subst h
  have hno : a ≠ b → a.beq b = false := fun h => by
    rw [← Bool.not_eq_true, Tm.beq_iff]
    exact h
  refine ac_R_Same (Nat.le_of_ble_eq_true rfl) fun C hC => ?_
  unfold ir_R_Same
  refine IWP.learn 0 (by omega) fun hkn => ?_
  have hkn := known_tm hkn
  by_cases hn : a.name = b.name
  · by_cases hl : a.args.length = b.args.length
    · have hl' : (a.args.length : Int) = b.args.length := by omega
      repeat' (first | (with_reducible first | refine Wa ?_ | refine Wb ?_ | refine Wc ?_ | refine Wd ?_ | refine We ?_ | refine Wf ?_ | refine Wg ?_ | refine Wh ?_ | refine Wi ?_ | refine Wj ?_ | refine Wk (by decide) ?_ | refine Wl ?_ | refine Wm ?_ | refine Wn ?_) | ((with_reducible first | refine Wo (fun K hK => ?_) | refine Wq ?_ | refine Wr ?_); (try simp only [go_sem, List.forall_mem_nil, ↓guard_ite, ↓pick_ite, seval, encT_eq, inR_i64, hn, hl']); (repeat with_reducible refine And.intro (by first | omega | with_reducible exact lens_encT | with_reducible exact lens_encL | (simp; done) | (simp only [List.length_take, List.length_map, List.length_append, maxLen_eq]; omega)) ?_); (try (with_reducible refine hK _ ?_; clear hK K))))
      with_reducible refine Wp ?_
      simp only [go_sem, List.forall_mem_nil, ↓guard_ite, ↓pick_ite, seval, true_implies, false_implies, implies_true, decide_eq_true_eq, decide_eq_false_iff_not, Int.ofNat_lt, hn, hl']
      (try with_reducible refine ite_conj ?_)
      repeat' (first | (with_reducible first | refine Wa ?_ | refine Wb ?_ | refine Wc ?_ | refine Wd ?_ | refine We ?_ | refine Wf ?_ | refine Wg ?_ | refine Wh ?_ | refine Wi ?_ | refine Wj ?_ | refine Wk (by decide) ?_ | refine Wl ?_ | refine Wm ?_ | refine Wn ?_) | ((with_reducible first | refine Wo (fun K hK => ?_) | refine Wq ?_ | refine Wr ?_); (try simp only [go_sem, List.forall_mem_nil, ↓guard_ite, ↓pick_ite, seval, encT_eq, inR_i64]); (repeat with_reducible refine And.intro (by first | omega | with_reducible exact lens_encT | with_reducible exact lens_encL | (simp; done) | (simp only [List.length_take, List.length_map, List.length_append, maxLen_eq]; omega)) ?_); (try (with_reducible refine hK _ ?_; clear hK K))))
      refine IWP.loop (fun n s => ∃ k, k ≤ a.args.length ∧ n = a.args.length - k ∧ a.args.take k = b.args.take k ∧ s.env 2 = .one (.ptr 2 1 0 0) ∧ s.env 3 = .one (.ptr 3 1 0 0) ∧ s.S 2 = some (.box 30 [.st (.str b.name), .st (.list (a.args.map encT))]) ∧ s.S 3 = some (.box 30 [.st (.str b.name), .st (.list (b.args.map encT))]) ∧ s.env 5 = aInt k) a.args.length ⟨0, Nat.zero_le _, rfl, rfl, rfl, rfl, rfl, rfl, rfl⟩ ?_
      rintro n ⟨env, S⟩ ⟨k, hk, rfl, h0, e2, e3, s2, s3, e5⟩
      simp only at e2 e3 s2 s3 e5
      repeat' (first | (with_reducible first | refine Wa ?_ | refine Wb ?_ | refine Wc ?_ | refine Wd ?_ | refine We ?_ | refine Wf ?_ | refine Wg ?_ | refine Wh ?_ | refine Wi ?_ | refine Wj ?_ | refine Wk (by decide) ?_ | refine Wl ?_ | refine Wm ?_ | refine Wn ?_) | ((with_reducible first | refine Wo (fun K hK => ?_) | refine Wq ?_ | refine Wr ?_); (try simp only [go_sem, List.forall_mem_nil, ↓guard_ite, ↓pick_ite, seval, encT_eq, inR_i64, e2, e3, s2, s3, e5]); (repeat with_reducible refine And.intro (by first | omega | with_reducible exact lens_encT | with_reducible exact lens_encL | (simp; done) | (simp only [List.length_take, List.length_map, List.length_append, maxLen_eq]; omega)) ?_); (try (with_reducible refine hK _ ?_; clear hK K))))
      with_reducible refine Wp ?_
      simp only [go_sem, List.forall_mem_nil, ↓guard_ite, ↓pick_ite, seval, true_implies, false_implies, implies_true, decide_eq_true_eq, decide_eq_false_iff_not, Int.ofNat_lt]
      (try with_reducible refine ite_conj ?_)
      refine ⟨fun hlt => ?_, fun hge => ?_⟩
      · obtain ⟨x, hx⟩ := get_lt (show k < a.args.length by omega)
        obtain ⟨y, hy⟩ := get_lt (show k < b.args.length by omega)
        repeat' (first | (with_reducible first | refine Wa ?_ | refine Wb ?_ | refine Wc ?_ | refine Wd ?_ | refine We ?_ | refine Wf ?_ | refine Wg ?_ | refine Wh ?_ | refine Wi ?_ | refine Wj ?_ | refine Wk (by decide) ?_ | refine Wl ?_ | refine Wm ?_ | refine Wn ?_) | refine CallG.mk _ (ih _ (Tm.lt_of_arg (mem_of_get hx)) x y rfl) ?_ | ((with_reducible first | refine Wo (fun K hK => ?_) | refine Wq ?_ | refine Wr ?_); (try simp only [go_sem, List.forall_mem_nil, ↓guard_ite, ↓pick_ite, seval, encT_eq, inR_i64, e2, e3, s2, s3, e5, hx, hy]); (repeat with_reducible refine And.intro (by first | omega | with_reducible exact lens_encT | with_reducible exact lens_encL | (simp; done) | (simp only [List.length_take, List.length_map, List.length_append, maxLen_eq]; omega)) ?_); (try (with_reducible refine hK _ ?_; clear hK K))))
        cases hxy : x.beq y with
        | false =>
          with_reducible refine Wp ?_
          simp only [go_sem, List.forall_mem_nil, ↓guard_ite, ↓pick_ite, seval, true_implies, false_implies, implies_true, decide_eq_true_eq, decide_eq_false_iff_not, Int.ofNat_lt]
          (try with_reducible refine ite_conj ?_)
          repeat' (first | (with_reducible first | refine Wa ?_ | refine Wb ?_ | refine Wc ?_ | refine Wd ?_ | refine We ?_ | refine Wf ?_ | refine Wg ?_ | refine Wh ?_ | refine Wi ?_ | refine Wj ?_ | refine Wk (by decide) ?_ | refine Wl ?_ | refine Wm ?_ | refine Wn ?_) | ((with_reducible first | refine Wo (fun K hK => ?_) | refine Wq ?_ | refine Wr ?_); (try simp only [go_sem, List.forall_mem_nil, ↓guard_ite, ↓pick_ite, seval, encT_eq, inR_i64]); (repeat with_reducible refine And.intro (by first | omega | with_reducible exact lens_encT | with_reducible exact lens_encL | (simp; done) | (simp only [List.length_take, List.length_map, List.length_append, maxLen_eq]; omega)) ?_); (try (with_reducible refine hK _ ?_; clear hK K))))
          simp only [go_sem, List.forall_mem_nil, ↓guard_ite, ↓pick_ite, seval, FinQ, AS.result, resAll, resOne, tupV]
          rw [hno fun e => by
            subst e
            rw [hx] at hy
            cases hy
            rw [Tm.beq_refl] at hxy
            cases hxy]
        | true =>
          have hxy := (Tm.beq_iff x y).1 hxy
          with_reducible refine Wp ?_
          simp only [go_sem, List.forall_mem_nil, ↓guard_ite, ↓pick_ite, seval, true_implies, false_implies, implies_true, decide_eq_true_eq, decide_eq_false_iff_not, Int.ofNat_lt]
          (try with_reducible refine ite_conj ?_)
          repeat' (first | (with_reducible first | refine Wa ?_ | refine Wb ?_ | refine Wc ?_ | refine Wd ?_ | refine We ?_ | refine Wf ?_ | refine Wg ?_ | refine Wh ?_ | refine Wi ?_ | refine Wj ?_ | refine Wk (by decide) ?_ | refine Wl ?_ | refine Wm ?_ | refine Wn ?_) | ((with_reducible first | refine Wo (fun K hK => ?_) | refine Wq ?_ | refine Wr ?_); (try simp only [go_sem, List.forall_mem_nil, ↓guard_ite, ↓pick_ite, seval, encT_eq, inR_i64, e2, e3, s2, s3, e5]); (repeat with_reducible refine And.intro (by first | omega | with_reducible exact lens_encT | with_reducible exact lens_encL | (simp; done) | (simp only [List.length_take, List.length_map, List.length_append, maxLen_eq]; omega)) ?_); (try (with_reducible refine hK _ ?_; clear hK K))))
          refine then_normal ⟨a.args.length - (k + 1), by omega, k + 1, by omega, rfl, ?_, ?_⟩
          · rw [take_snoc hx, take_snoc hy, h0, hxy]
          · simp only [go_sem, List.forall_mem_nil, ↓guard_ite, ↓pick_ite, seval, encT_eq, inR_i64, e2, e3, s2, s3, e5]
            congr 3
      · repeat' (first | (with_reducible first | refine Wa ?_ | refine Wb ?_ | refine Wc ?_ | refine Wd ?_ | refine We ?_ | refine Wf ?_ | refine Wg ?_ | refine Wh ?_ | refine Wi ?_ | refine Wj ?_ | refine Wk (by decide) ?_ | refine Wl ?_ | refine Wm ?_ | refine Wn ?_) | ((with_reducible first | refine Wo (fun K hK => ?_) | refine Wq ?_ | refine Wr ?_); (try simp only [go_sem, List.forall_mem_nil, ↓guard_ite, ↓pick_ite, seval, encT_eq, inR_i64]); (repeat with_reducible refine And.intro (by first | omega | with_reducible exact lens_encT | with_reducible exact lens_encL | (simp; done) | (simp only [List.length_take, List.length_map, List.length_append, maxLen_eq]; omega)) ?_); (try (with_reducible refine hK _ ?_; clear hK K))))
        simp only [go_sem, List.forall_mem_nil, ↓guard_ite, ↓pick_ite, seval, FinQ, AS.result, resAll, resOne, tupV]
        rw [List.take_of_length_le (by omega), List.take_of_length_le (by omega)] at h0
        rw [Tm.eq_of hn h0, Tm.beq_refl]
    · have hl' : ¬ (a.args.length : Int) = b.args.length := by omega
      repeat' (first | (with_reducible first | refine Wa ?_ | refine Wb ?_ | refine Wc ?_ | refine Wd ?_ | refine We ?_ | refine Wf ?_ | refine Wg ?_ | refine Wh ?_ | refine Wi ?_ | refine Wj ?_ | refine Wk (by decide) ?_ | refine Wl ?_ | refine Wm ?_ | refine Wn ?_) | ((with_reducible first | refine Wo (fun K hK => ?_) | refine Wq ?_ | refine Wr ?_); (try simp only [go_sem, List.forall_mem_nil, ↓guard_ite, ↓pick_ite, seval, encT_eq, inR_i64, hn, hl']); (repeat with_reducible refine And.intro (by first | omega | with_reducible exact lens_encT | with_reducible exact lens_encL | (simp; done) | (simp only [List.length_take, List.length_map, List.length_append, maxLen_eq]; omega)) ?_); (try (with_reducible refine hK _ ?_; clear hK K))))
      with_reducible refine Wp ?_
      simp only [go_sem, List.forall_mem_nil, ↓guard_ite, ↓pick_ite, seval, true_implies, false_implies, implies_true, decide_eq_true_eq, decide_eq_false_iff_not, Int.ofNat_lt, hn, hl']
      (try with_reducible refine ite_conj ?_)
      repeat' (first | (with_reducible first | refine Wa ?_ | refine Wb ?_ | refine Wc ?_ | refine Wd ?_ | refine We ?_ | refine Wf ?_ | refine Wg ?_ | refine Wh ?_ | refine Wi ?_ | refine Wj ?_ | refine Wk (by decide) ?_ | refine Wl ?_ | refine Wm ?_ | refine Wn ?_) | ((with_reducible first | refine Wo (fun K hK => ?_) | refine Wq ?_ | refine Wr ?_); (try simp only [go_sem, List.forall_mem_nil, ↓guard_ite, ↓pick_ite, seval, encT_eq, inR_i64]); (repeat with_reducible refine And.intro (by first | omega | with_reducible exact lens_encT | with_reducible exact lens_encL | (simp; done) | (simp only [List.length_take, List.length_map, List.length_append, maxLen_eq]; omega)) ?_); (try (with_reducible refine hK _ ?_; clear hK K))))
      simp only [go_sem, List.forall_mem_nil, ↓guard_ite, ↓pick_ite, seval, FinQ, AS.result, resAll, resOne, tupV]
      rw [hno fun e => hl (by rw [e])]
  · repeat' (first | (with_reducible first | refine Wa ?_ | refine Wb ?_ | refine Wc ?_ | refine Wd ?_ | refine We ?_ | refine Wf ?_ | refine Wg ?_ | refine Wh ?_ | refine Wi ?_ | refine Wj ?_ | refine Wk (by decide) ?_ | refine Wl ?_ | refine Wm ?_ | refine Wn ?_) | ((with_reducible first | refine Wo (fun K hK => ?_) | refine Wq ?_ | refine Wr ?_); (try simp only [go_sem, List.forall_mem_nil, ↓guard_ite, ↓pick_ite, seval, encT_eq, inR_i64, hn]); (repeat with_reducible refine And.intro (by first | omega | with_reducible exact lens_encT | with_reducible exact lens_encL | (simp; done) | (simp only [List.length_take, List.length_map, List.length_append, maxLen_eq]; omega)) ?_); (try (with_reducible refine hK _ ?_; clear hK K))))
    with_reducible refine Wp ?_
    simp only [go_sem, List.forall_mem_nil, ↓guard_ite, ↓pick_ite, seval, true_implies, false_implies, implies_true, decide_eq_true_eq, decide_eq_false_iff_not, Int.ofNat_lt, hn]
    (try with_reducible refine ite_conj ?_)
    repeat' (first | (with_reducible first | refine Wa ?_ | refine Wb ?_ | refine Wc ?_ | refine Wd ?_ | refine We ?_ | refine Wf ?_ | refine Wg ?_ | refine Wh ?_ | refine Wi ?_ | refine Wj ?_ | refine Wk (by decide) ?_ | refine Wl ?_ | refine Wm ?_ | refine Wn ?_) | ((with_reducible first | refine Wo (fun K hK => ?_) | refine Wq ?_ | refine Wr ?_); (try simp only [go_sem, List.forall_mem_nil, ↓guard_ite, ↓pick_ite, seval, encT_eq, inR_i64]); (repeat with_reducible refine And.intro (by first | omega | with_reducible exact lens_encT | with_reducible exact lens_encL | (simp; done) | (simp only [List.length_take, List.length_map, List.length_append, maxLen_eq]; omega)) ?_); (try (with_reducible refine hK _ ?_; clear hK K))))
    simp only [go_sem, List.forall_mem_nil, ↓guard_ite, ↓pick_ite, seval, FinQ, AS.result, resAll, resOne, tupV]
    rw [hno fun e => hn (by rw [e])]

def Tm.nil : Tm := .mk ⟨#[]⟩ []
/-- two answers that are terms -/
def term2 (a : Tm) (e : Int) (b : Tm) (f : Int) : Bool := if f = 0 then decide (e = 0) && a.beq b else decide (e = f) && a.beq Tm.nil
theorem term2_self (a : Tm) (e f : Int) (h : f ≠ 0 → a = Tm.nil) (he : e = f) : term2 a e a f = true := by
  unfold term2
  subst he
  by_cases h0 : e = 0
  · simp [h0, Tm.beq_refl]
  · rw [if_neg h0, h h0]
    simp [Tm.beq_refl]
theorem term2_a (a b : Tm) (e f : Int) : ACalls Tryz.prog 20 [aTm a, aInt e, aTm b, aInt f] (aBool (term2 a e b f)) := by
  refine ac_L_term2 (Nat.le_of_ble_eq_true rfl) fun C hC => ?_
  unfold ir_L_term2
  by_cases hf : f = 0
  · repeat' (first | (with_reducible first | refine Wa ?_ | refine Wb ?_ | refine Wc ?_ | refine Wd ?_ | refine We ?_ | refine Wf ?_ | refine Wg ?_ | refine Wh ?_ | refine Wi ?_ | refine Wj ?_ | refine Wk (by decide) ?_ | refine Wl ?_ | refine Wm ?_ | refine Wn ?_) | ((with_reducible first | refine Wo (fun K hK => ?_) | refine Wq ?_ | refine Wr ?_); (try simp only [go_sem, List.forall_mem_nil, ↓guard_ite, ↓pick_ite, seval, encT_eq, inR_i64, hf]); (repeat with_reducible refine And.intro (by first | omega | with_reducible exact lens_encT | with_reducible exact lens_encL | (simp; done) | (simp only [List.length_take, List.length_map, List.length_append, maxLen_eq]; omega)) ?_); (try (with_reducible refine hK _ ?_; clear hK K))))
    with_reducible refine Wp ?_
    simp only [go_sem, List.forall_mem_nil, ↓guard_ite, ↓pick_ite, seval, true_implies, false_implies, implies_true, decide_eq_true_eq, decide_eq_false_iff_not, Int.ofNat_lt, hf]
    (try with_reducible refine ite_conj ?_)
    by_cases he : e = 0
    · repeat' (first | (with_reducible first | refine Wa ?_ | refine Wb ?_ | refine Wc ?_ | refine Wd ?_ | refine We ?_ | refine Wf ?_ | refine Wg ?_ | refine Wh ?_ | refine Wi ?_ | refine Wj ?_ | refine Wk (by decide) ?_ | refine Wl ?_ | refine Wm ?_ | refine Wn ?_) | refine CallG.mk _ (sameR_a a b) ?_ | ((with_reducible first | refine Wo (fun K hK => ?_) | refine Wq ?_ | refine Wr ?_); (try simp only [go_sem, List.forall_mem_nil, ↓guard_ite, ↓pick_ite, seval, encT_eq, inR_i64, he, hf]); (repeat with_reducible refine And.intro (by first | omega | with_reducible exact lens_encT | with_reducible exact lens_encL | (simp; done) | (simp only [List.length_take, List.length_map, List.length_append, maxLen_eq]; omega)) ?_); (try (with_reducible refine hK _ ?_; clear hK K))))
      simp only [go_sem, List.forall_mem_nil, ↓guard_ite, ↓pick_ite, seval, FinQ, AS.result, resAll, resOne, tupV, term2, hf, he]
      try simp
    · repeat' (first | (with_reducible first | refine Wa ?_ | refine Wb ?_ | refine Wc ?_ | refine Wd ?_ | refine We ?_ | refine Wf ?_ | refine Wg ?_ | refine Wh ?_ | refine Wi ?_ | refine Wj ?_ | refine Wk (by decide) ?_ | refine Wl ?_ | refine Wm ?_ | refine Wn ?_) | ((with_reducible first | refine Wo (fun K hK => ?_) | refine Wq ?_ | refine Wr ?_); (try simp only [go_sem, List.forall_mem_nil, ↓guard_ite, ↓pick_ite, seval, encT_eq, inR_i64, he, hf]); (repeat with_reducible refine And.intro (by first | omega | with_reducible exact lens_encT | with_reducible exact lens_encL | (simp; done) | (simp only [List.length_take, List.length_map, List.length_append, maxLen_eq]; omega)) ?_); (try (with_reducible refine hK _ ?_; clear hK K))))
      simp only [go_sem, List.forall_mem_nil, ↓guard_ite, ↓pick_ite, seval, FinQ, AS.result, resAll, resOne, tupV, term2, hf, he]
      try simp
  · repeat' (first | (with_reducible first | refine Wa ?_ | refine Wb ?_ | refine Wc ?_ | refine Wd ?_ | refine We ?_ | refine Wf ?_ | refine Wg ?_ | refine Wh ?_ | refine Wi ?_ | refine Wj ?_ | refine Wk (by decide) ?_ | refine Wl ?_ | refine Wm ?_ | refine Wn ?_) | ((with_reducible first | refine Wo (fun K hK => ?_) | refine Wq ?_ | refine Wr ?_); (try simp only [go_sem, List.forall_mem_nil, ↓guard_ite, ↓pick_ite, seval, encT_eq, inR_i64, hf]); (repeat with_reducible refine And.intro (by first | omega | with_reducible exact lens_encT | with_reducible exact lens_encL | (simp; done) | (simp only [List.length_take, List.length_map, List.length_append, maxLen_eq]; omega)) ?_); (try (with_reducible refine hK _ ?_; clear hK K))))
    with_reducible refine Wp ?_
    simp only [go_sem, List.forall_mem_nil, ↓guard_ite, ↓pick_ite, seval, true_implies, false_implies, implies_true, decide_eq_true_eq, decide_eq_false_iff_not, Int.ofNat_lt, hf]
    (try with_reducible refine ite_conj ?_)
    by_cases he : e = f
    · have hf' : ¬ e = 0 := by omega
      by_cases hn : a.name = ⟨#[]⟩
      · repeat' (first | (with_reducible first | refine Wa ?_ | refine Wb ?_ | refine Wc ?_ | refine Wd ?_ | refine We ?_ | refine Wf ?_ | refine Wg ?_ | refine Wh ?_ | refine Wi ?_ | refine Wj ?_ | refine Wk (by decide) ?_ | refine Wl ?_ | refine Wm ?_ | refine Wn ?_) | ((with_reducible first | refine Wo (fun K hK => ?_) | refine Wq ?_ | refine Wr ?_); (try simp only [go_sem, List.forall_mem_nil, ↓guard_ite, ↓pick_ite, seval, encT_eq, inR_i64, he, hf, hn]); (repeat with_reducible refine And.intro (by first | omega | with_reducible exact lens_encT | with_reducible exact lens_encL | (simp; done) | (simp only [List.length_take, List.length_map, List.length_append, maxLen_eq]; omega)) ?_); (try (with_reducible refine hK _ ?_; clear hK K))))
        simp only [go_sem, List.forall_mem_nil, ↓guard_ite, ↓pick_ite, seval, FinQ, AS.result, resAll, resOne, tupV, term2, hf, he, hn]
        congr 4
        simp only [Bool.true_and]
        rw [Bool.eq_iff_iff, Tm.beq_iff, decide_eq_true_eq]
        constructor
        · intro h
          have : a.args = [] := List.eq_nil_of_length_eq_zero (by omega)
          exact Tm.eq_of hn this
        · intro h
          rw [h]
          rfl
      · repeat' (first | (with_reducible first | refine Wa ?_ | refine Wb ?_ | refine Wc ?_ | refine Wd ?_ | refine We ?_ | refine Wf ?_ | refine Wg ?_ | refine Wh ?_ | refine Wi ?_ | refine Wj ?_ | refine Wk (by decide) ?_ | refine Wl ?_ | refine Wm ?_ | refine Wn ?_) | ((with_reducible first | refine Wo (fun K hK => ?_) | refine Wq ?_ | refine Wr ?_); (try simp only [go_sem, List.forall_mem_nil, ↓guard_ite, ↓pick_ite, seval, encT_eq, inR_i64, he, hf, hn]); (repeat with_reducible refine And.intro (by first | omega | with_reducible exact lens_encT | with_reducible exact lens_encL | (simp; done) | (simp only [List.length_take, List.length_map, List.length_append, maxLen_eq]; omega)) ?_); (try (with_reducible refine hK _ ?_; clear hK K))))
        simp only [go_sem, List.forall_mem_nil, ↓guard_ite, ↓pick_ite, seval, FinQ, AS.result, resAll, resOne, tupV, term2, hf, he, hn]
        simp only [Bool.true_and]
        rw [show a.beq Tm.nil = false by
          rw [← Bool.not_eq_true, Tm.beq_iff]
          intro h
          exact hn (by rw [h]; rfl)]
    · repeat' (first | (with_reducible first | refine Wa ?_ | refine Wb ?_ | refine Wc ?_ | refine Wd ?_ | refine We ?_ | refine Wf ?_ | refine Wg ?_ | refine Wh ?_ | refine Wi ?_ | refine Wj ?_ | refine Wk (by decide) ?_ | refine Wl ?_ | refine Wm ?_ | refine Wn ?_) | ((with_reducible first | refine Wo (fun K hK => ?_) | refine Wq ?_ | refine Wr ?_); (try simp only [go_sem, List.forall_mem_nil, ↓guard_ite, ↓pick_ite, seval, encT_eq, inR_i64, he, hf]); (repeat with_reducible refine And.intro (by first | omega | with_reducible exact lens_encT | with_reducible exact lens_encL | (simp; done) | (simp only [List.length_take, List.length_map, List.length_append, maxLen_eq]; omega)) ?_); (try (with_reducible refine hK _ ?_; clear hK K))))
      simp only [go_sem, List.forall_mem_nil, ↓guard_ite, ↓pick_ite, seval, FinQ, AS.result, resAll, resOne, tupV, term2, hf, he]
      try simp
end Go.Proofs.YtbiadmlfejnbcaaGreatDoor

namespace Go.Proofs.YtbiadmlfejnbcaaGreatDoor
open Go Go.RowKit
set_option linter.unusedVariables false
set_option linter.unusedSimpArgs false
set_option maxHeartbeats 400000

theorem lens_encS {ts : List ByteArray} : ∀ x ∈ ts.map encS, x.length = 1 := by
  intro x hx
  obtain ⟨a, _, rfl⟩ := List.mem_map.1 hx
  rfl
/-! ### the program's: with a row in hand -/
theorem updE_twice {α : Type} (f : Nat → α) (i : Nat) (a b : α) : updE (updE f i a) i b = updE f i b := by
  funext k
  unfold updE
  split <;> rfl
theorem updE_comm {α : Type} (f : Nat → α) {i j : Nat} (h : ¬ i = j) (a b : α) : updE (updE f i a) j b = updE (updE f j b) i a := by
  funext k
  unfold updE
  split
  · rename_i e
    subst e
    rw [if_neg (fun e => h e.symm)]
  · rfl
theorem updE_self {α : Type} {f : Nat → α} {i : Nat} {a : α} (h : f i = a) : updE f i a = f := by
  funext k
  unfold updE
  split
  · rename_i e
    rw [e, h]
  · rfl
/-- A term in memory of its own. -/
theorem copy_a (t : Tm) (hz : t.size ≤ 1000000) : ACalls Tryz.prog 46 [aTm t] (aTm t) := by
  induction h : SizeOf.sizeOf t using Nat.strongRecOn generalizing t with
  | _ N ih =>
  subst h
  have hs := Tm.size_eq t
  have hkn := Tm.length_le t.args
  refine ac_term_Copy (Nat.le_of_ble_eq_true rfl) fun C hC => ?_
  unfold ir_term_Copy
  repeat' (first | (with_reducible first | refine Wa ?_ | refine Wb ?_ | refine Wc ?_ | refine Wd ?_ | refine We ?_ | refine Wf ?_ | refine Wg ?_ | refine Wh ?_ | refine Wi ?_ | refine Wj ?_ | refine Wk (by decide) ?_ | refine Wl ?_ | refine Wm ?_ | refine Wn ?_) | ((with_reducible first | refine Wo (fun K hK => ?_) | refine Wq ?_ | refine Wr ?_); (try simp only [go_sem, List.forall_mem_nil, ↓guard_ite, ↓pick_ite, seval, encT_eq, inR_i64]); (repeat with_reducible refine And.intro (by first | omega | with_reducible exact lens_encT | with_reducible exact lens_encL | (simp; done) | (simp only [List.length_take, List.length_map, List.length_append, maxLen_eq]; omega)) ?_); (try (with_reducible refine hK _ ?_; clear hK K))))
  refine IWP.ghost (Ghost.ownC 3 1 21 30 2 (xs := ([] : List Tm).map encT) rfl rfl rfl lens_encT) ?_
  refine IWP.loopD [5] (fun m s => ∃ k, k ≤ t.args.length ∧ m = t.args.length - k ∧ s.env 2 = .one (.ptr 2 1 0 0) ∧ s.env 3 = .one (.ptr 3 1 0 0) ∧ s.S 2 = some (.box 30 [.st (.str ⟨#[]⟩), .full []]) ∧ s.S 3 = some (.box 30 [.st (.str t.name), .row 21 k]) ∧ s.S 21 = some (.arow 30 2 ((t.args.take k).map encT)) ∧ s.env 10 = .one (.st (.list (t.args.map encT))) ∧ s.env 11 = aInt t.args.length ∧ s.env 12 = aInt k ∧ s.S 5 = none)
    t.args.length ⟨0, Nat.zero_le _, rfl, rfl, rfl, rfl, rfl, rfl, rfl, rfl, rfl, rfl⟩ ?_
  rintro m ⟨env, S⟩ ⟨k, hk, rfl, e2, e3, s2, s3, s21, e10, e11, e12, s5⟩
  simp only at e2 e3 s2 s3 s21 e10 e11 e12 s5
  have hlk : (t.args.take k).length = k := by rw [List.length_take]; omega
  by_cases hlt : (k : Int) < t.args.length
  · obtain ⟨a, ha⟩ := get_lt (show k < t.args.length by omega)
    repeat' (first | (with_reducible first | refine Wa ?_ | refine Wb ?_ | refine Wc ?_ | refine Wd ?_ | refine We ?_ | refine Wf ?_ | refine Wg ?_ | refine Wh ?_ | refine Wi ?_ | refine Wj ?_ | refine Wk (by decide) ?_ | refine Wl ?_ | refine Wm ?_ | refine Wn ?_) | ((with_reducible first | refine Wo (fun K hK => ?_) | refine Wq ?_ | refine Wr ?_); (try simp only [go_sem, List.forall_mem_nil, ↓guard_ite, ↓pick_ite, seval, encT_eq, inR_i64, e2, e3, s2, s3, s21, e10, e11, e12, s5, hlt]); (repeat with_reducible refine And.intro (by first | omega | with_reducible exact lens_encT | with_reducible exact lens_encL | (simp; done) | (simp only [List.length_take, List.length_map, List.length_append, maxLen_eq]; omega)) ?_); (try (with_reducible refine hK _ ?_; clear hK K))))
    with_reducible refine Wp ?_
    simp only [go_sem, List.forall_mem_nil, ↓guard_ite, ↓pick_ite, seval, true_implies, false_implies, implies_true, decide_eq_true_eq, decide_eq_false_iff_not, Int.ofNat_lt, e10, e11, e12, hlt]
    (try with_reducible refine ite_conj ?_)
    repeat' (first | (with_reducible first | refine Wa ?_ | refine Wb ?_ | refine Wc ?_ | refine Wd ?_ | refine We ?_ | refine Wf ?_ | refine Wg ?_ | refine Wh ?_ | refine Wi ?_ | refine Wj ?_ | refine Wk (by decide) ?_ | refine Wl ?_ | refine Wm ?_ | refine Wn ?_) | refine CallG.mk _ (ih _ (Tm.lt_of_arg (mem_of_get ha)) a (by have := Tm.size_mem (mem_of_get ha); omega) rfl) ?_ | ((with_reducible first | refine Wo (fun K hK => ?_) | refine Wq ?_ | refine Wr ?_); (try simp only [go_sem, List.forall_mem_nil, ↓guard_ite, ↓pick_ite, seval, encT_eq, inR_i64, e2, e3, s2, s3, s21, e10, e11, e12, s5, ha, hlk]); (repeat with_reducible refine And.intro (by first | omega | with_reducible exact lens_encT | with_reducible exact lens_encL | (simp; done) | (simp only [List.length_take, List.length_map, List.length_append, maxLen_eq]; omega)) ?_); (try (with_reducible refine hK _ ?_; clear hK K))))
    refine then_normal ⟨t.args.length - (k + 1), by omega, k + 1, by omega, rfl, ?_⟩
    simp only [go_sem, List.forall_mem_nil, ↓guard_ite, ↓pick_ite, seval, AS.drop, dropS, AC.clears, AC.clear, AC.highs, AC.high, Bool.not_false, Bool.true_and, Bool.and_self, AV.purge, AV.purges, AC.purge, ABlk.purge, List.contains_cons, List.contains_nil, Nat.reduceBEq, Bool.or_self, Bool.or_false, Bool.false_or, Bool.or_true, encT_eq, inR_i64, e2, e3, s2, s3, s21, e10, e11, e12, s5]
    exact ⟨by rw [take_snoc ha]; simp [encT_eq], by congr 3⟩
  · repeat' (first | (with_reducible first | refine Wa ?_ | refine Wb ?_ | refine Wc ?_ | refine Wd ?_ | refine We ?_ | refine Wf ?_ | refine Wg ?_ | refine Wh ?_ | refine Wi ?_ | refine Wj ?_ | refine Wk (by decide) ?_ | refine Wl ?_ | refine Wm ?_ | refine Wn ?_) | ((with_reducible first | refine Wo (fun K hK => ?_) | refine Wq ?_ | refine Wr ?_); (try simp only [go_sem, List.forall_mem_nil, ↓guard_ite, ↓pick_ite, seval, encT_eq, inR_i64, e2, e3, s2, s3, s21, e10, e11, e12, s5, hlt]); (repeat with_reducible refine And.intro (by first | omega | with_reducible exact lens_encT | with_reducible exact lens_encL | (simp; done) | (simp only [List.length_take, List.length_map, List.length_append, maxLen_eq]; omega)) ?_); (try (with_reducible refine hK _ ?_; clear hK K))))
    with_reducible refine Wp ?_
    simp only [go_sem, List.forall_mem_nil, ↓guard_ite, ↓pick_ite, seval, true_implies, false_implies, implies_true, decide_eq_true_eq, decide_eq_false_iff_not, Int.ofNat_lt, e10, e11, e12, hlt]
    (try with_reducible refine ite_conj ?_)
    repeat' (first | (with_reducible first | refine Wa ?_ | refine Wb ?_ | refine Wc ?_ | refine Wd ?_ | refine We ?_ | refine Wf ?_ | refine Wg ?_ | refine Wh ?_ | refine Wi ?_ | refine Wj ?_ | refine Wk (by decide) ?_ | refine Wl ?_ | refine Wm ?_ | refine Wn ?_) | ((with_reducible first | refine Wo (fun K hK => ?_) | refine Wq ?_ | refine Wr ?_); (try simp only [go_sem, List.forall_mem_nil, ↓guard_ite, ↓pick_ite, seval, encT_eq, inR_i64, e2, e3, s2, s3, s21, e10, e11, e12, s5]); (repeat with_reducible refine And.intro (by first | omega | with_reducible exact lens_encT | with_reducible exact lens_encL | (simp; done) | (simp only [List.length_take, List.length_map, List.length_append, maxLen_eq]; omega)) ?_); (try (with_reducible refine hK _ ?_; clear hK K))))
    have hall : t.args.take k = t.args := List.take_of_length_le (by omega)
    rw [hall] at hlk s21
    simp only [go_sem, List.forall_mem_nil, ↓guard_ite, ↓pick_ite, seval, FinQ, AS.result, resAll, resOne, tupV, e2, s2, s21, hlk]
end Go.Proofs.YtbiadmlfejnbcaaGreatDoor

namespace Go.Proofs.YtbiadmlfejnbcaaGreatDoor
open Go Go.RowKit
set_option maxRecDepth 100000

def ir_comb_form : IR :=
  (.seq
  (.ops
  [.mk (some 1) none (.box 30 (.t 0)) .no, .mk (some 2) none (.mov (.c (.one (.st (.int .i64 0)))))
  .no])
  (.seq
  (.seq
  (.ops
  [.mk (some 3) none (.fieldAddr 1 (.t 1)) .no, .mk (some 4) none (.load false 1 (.t 3))
  .no, .mk (some 5) none (.len false (.t 4)) .no, .mk (some 6) none (.bin .eql (.t 5) (.c (.one (.st (.int .i64 0)))))
  .no])
  (.cond (.t 6)
  (.seq
  (.ops
  [.mk (some 2) none (.mov (.c (.one (.st (.int .i64 0)))))
  .no])
  .ret)
  .skip))
  (.seq
  (.seq
  (.ops
  [.mk (some 7) none (.fieldAddr 0 (.t 1)) .no, .mk (some 8) none (.load false 1 (.t 7))
  .no, .mk (some 9) none (.bin .neq (.t 8) (.c (.one (.st (.str (ByteArray.mk (#[97, 112])))))))
  .no, .mk (some 10) none (.mov (.t 9)) .no, .mk (some 11) (some (10, false)) (.fieldAddr 1 (.t 1))
  .no, .mk (some 12) (some (10, false)) (.load false 1 (.t 11))
  .no, .mk (some 13) (some (10, false)) (.len false (.t 12))
  .no, .mk (some 14) (some (10, false)) (.bin .neq (.t 13) (.c (.one (.st (.int .i64 2)))))
  .no, .mk (some 15) none
  (.pick (.t 10) (.c (.one (.st (.bool true)))) (.t 14))
  .no])
  (.cond (.t 15)
  (.seq
  (.ops
  [.mk (some 2) none (.mov (.c (.one (.st (.int .i64 2)))))
  .no])
  .ret)
  .skip))
  (.seq
  (.ops
  [.mk (some 16) none (.fieldAddr 1 (.t 1)) .no, .mk (some 17) none (.load false 1 (.t 16))
  .no, .mk (some 18) none
  (.indexAddr 2 (.t 17) (.c (.one (.st (.int .i64 0)))))
  .no, .mk (some 19) none (.load true 2 (.t 18))
  .no, .mk (some 20) none (.call 54 [.t 19]) .no, .mk (some 21) none (.fieldAddr 1 (.t 1)) .no, .mk (some 22) none (.load false 1 (.t 21))
  .no, .mk (some 23) none
  (.indexAddr 2 (.t 22) (.c (.one (.st (.int .i64 1)))))
  .no, .mk (some 24) none (.load true 2 (.t 23))
  .no, .mk (some 25) none (.call 54 [.t 24]) .no, .mk (some 26) none
  (.mm true (.t 20) (.t 25)) .no, .mk (some 2) none (.mov (.t 26)) .no])
  .ret))))
theorem tr_comb_form : trCode Tryz.prog 27 [] (Tryz.f54.body.getD .skip) = some ir_comb_form := by kernel_rfl
theorem ac_comb_form {xs : List AV} {r : AV} (hn : xs.length ≤ 27) (h : ∀ C : Ctx, C.n = 27 → IWP Tryz.prog C [] ir_comb_form (FinQ [.t 2] r) (AS.start xs)) : ACalls Tryz.prog 54 xs r :=
  acalls_of Tryz.func54 rfl tr_comb_form rfl hn h
theorem acS_comb_form {xs : List AV} {S S' : AStore} {r : AV} (hn : xs.length ≤ 27) (h : Clean S → ∀ C : Ctx, C.n = 27 → IWP Tryz.prog C [] ir_comb_form (FinS C [.t 2] r S') (AS.startS xs S)) : ACallsS Tryz.prog 54 xs S r S' :=
  acallsS_of Tryz.func54 rfl tr_comb_form rfl hn h

def ir_comb_Check : IR :=
  (.seq
  (.ops
  [.mk (some 1) none (.box 30 (.t 0)) .no, .mk (some 2) none (.mov (.c (.one (.st (.int .i64 0)))))
  .no])
  (.seq
  (.seq
  (.ops
  [.mk (some 4) none (.load true 2 (.t 1)) .no, .mk (some 5) none (.call 53 [.t 4]) .no, .mk (some 3) none (.mov (.t 5)) .no])
  (.seq
  (.ops
  [.mk (some 6) none (.mov (.t 3)) .no, .mk (some 7) none (.bin .neq (.t 6) (.c (.one (.st (.int .i64 0)))))
  .no])
  (.cond (.t 7)
  (.seq
  (.ops
  [.mk (some 8) none (.mov (.t 3)) .no, .mk (some 2) none (.mov (.t 8)) .no])
  .ret)
  .skip)))
  (.seq
  (.ops
  [.mk (some 9) none (.load true 2 (.t 1)) .no, .mk (some 10) none (.call 54 [.t 9]) .no, .mk (some 2) none (.mov (.t 10)) .no])
  .ret)))
theorem tr_comb_Check : trCode Tryz.prog 11 [] (Tryz.f28.body.getD .skip) = some ir_comb_Check := by kernel_rfl
theorem ac_comb_Check {xs : List AV} {r : AV} (hn : xs.length ≤ 11) (h : ∀ C : Ctx, C.n = 11 → IWP Tryz.prog C [] ir_comb_Check (FinQ [.t 2] r) (AS.start xs)) : ACalls Tryz.prog 28 xs r :=
  acalls_of Tryz.func28 rfl tr_comb_Check rfl hn h
theorem acS_comb_Check {xs : List AV} {S S' : AStore} {r : AV} (hn : xs.length ≤ 11) (h : Clean S → ∀ C : Ctx, C.n = 11 → IWP Tryz.prog C [] ir_comb_Check (FinS C [.t 2] r S') (AS.startS xs S)) : ACallsS Tryz.prog 28 xs S r S' :=
  acallsS_of Tryz.func28 rfl tr_comb_Check rfl hn h

def ir_R_CombMay : IR :=
  (.seq
  (.ops
  [.mk (some 1) none (.box 30 (.t 0)) .no, .mk (some 2) none (.mov (.c (.one (.st (.int .i64 0)))))
  .no])
  (.seq
  (.ops
  [.mk (some 6) none (.load true 2 (.t 1)) .no, .mk (some 7) none (.call 42 [.t 6]) .no, .mk (some 3) none (.mov (.t 7)) .no])
  (.seq
  (.seq
  (.ops
  [.mk (some 8) none (.mov (.t 3)) .no, .mk (some 9) none (.bin .neq (.t 8) (.c (.one (.st (.int .i64 0)))))
  .no])
  (.cond (.t 9)
  (.seq
  (.ops
  [.mk (some 10) none (.mov (.t 3)) .no, .mk (some 2) none (.mov (.t 10)) .no])
  .ret)
  .skip))
  (.seq
  (.ops
  [.mk (some 11) none (.load true 2 (.t 1))
  .no, .mk (some 12) none (.call 43 [.t 11]) .no, .mk (some 4) none (.mov (.t 12)) .no])
  (.seq
  (.seq
  (.ops
  [.mk (some 5) none (.mov (.c (.one (.st (.int .i64 0)))))
  .no])
  (.block 0
  (.loop
  (.seq
  (.seq
  (.ops
  [.mk (some 13) none (.mov (.t 5))
  .no, .mk (some 14) none (.mov (.t 4))
  .no, .mk (some 15) none (.len false (.t 14))
  .no, .mk (some 16) none (.bin .lss (.t 13) (.t 15)) .no])
  (.cond (.t 16) .skip (.exit 0)))
  (.seq
  (.block 1
  (.seq
  (.ops
  [.mk (some 19) none (.mov (.t 4))
  .no, .mk (some 20) none (.mov (.t 5))
  .no, .mk (some 21) none
  (.indexAddr 2 (.t 19) (.t 20)) .no, .mk (some 22) none (.fieldAddr 1 (.t 21))
  .no, .mk (some 23) none (.load false 1 (.t 22))
  .no, .mk (some 24) none (.len false (.t 23))
  .no, .mk (some 25) none (.bin .gtr (.t 24) (.c (.one (.st (.int .i64 0)))))
  .no, .mk (some 26) none (.mov (.t 25))
  .no, .mk (some 27) (some (26, true)) (.mov (.t 4))
  .no, .mk (some 28) (some (26, true)) (.mov (.t 5))
  .no, .mk (some 29) (some (26, true))
  (.indexAddr 2 (.t 27) (.t 28)) .no, .mk (some 30) (some (26, true)) (.fieldAddr 0 (.t 29))
  .no, .mk (some 31) (some (26, true)) (.load false 1 (.t 30))
  .no, .mk (some 32) (some (26, true)) (.bin .neq (.t 31) (.c (.one (.st (.str (ByteArray.mk (#[97, 112])))))))
  .no, .mk (some 33) (some (26, true)) (.mov (.t 32))
  .no, .mk (some 34) (some (33, false)) (.mov (.t 4))
  .no, .mk (some 35) (some (33, false)) (.mov (.t 5))
  .no, .mk (some 36) (some (33, false))
  (.indexAddr 2 (.t 34) (.t 35)) .no, .mk (some 37) (some (33, false)) (.fieldAddr 1 (.t 36))
  .no, .mk (some 38) (some (33, false)) (.load false 1 (.t 37))
  .no, .mk (some 39) (some (33, false)) (.len false (.t 38))
  .no, .mk (some 40) (some (33, false)) (.bin .neq (.t 39) (.c (.one (.st (.int .i64 2)))))
  .no, .mk (some 41) (some (26, true))
  (.pick (.t 33) (.c (.one (.st (.bool true)))) (.t 40))
  .no, .mk (some 42) none
  (.pick (.t 26) (.t 41) (.c (.one (.st (.bool false)))))
  .no])
  (.cond (.t 42)
  (.seq
  (.ops
  [.mk (some 2) none (.mov (.c (.one (.st (.int .i64 2)))))
  .no])
  .ret)
  .skip)))
  (.ops
  [.mk (some 17) none (.mov (.t 5))
  .no, .mk (some 18) none (.bin .add (.t 17) (.c (.one (.st (.int .i64 1)))))
  .no, .mk (some 5) none (.mov (.t 18))
  .no]))))))
  (.seq
  (.ops
  [.mk (some 2) none (.mov (.c (.one (.st (.int .i64 0)))))
  .no])
  .ret))))))
theorem tr_R_CombMay : trCode Tryz.prog 43 [] (Tryz.f22.body.getD .skip) = some ir_R_CombMay := by kernel_rfl
theorem ac_R_CombMay {xs : List AV} {r : AV} (hn : xs.length ≤ 43) (h : ∀ C : Ctx, C.n = 43 → IWP Tryz.prog C [] ir_R_CombMay (FinQ [.t 2] r) (AS.start xs)) : ACalls Tryz.prog 22 xs r :=
  acalls_of Tryz.func22 rfl tr_R_CombMay rfl hn h
theorem acS_R_CombMay {xs : List AV} {S S' : AStore} {r : AV} (hn : xs.length ≤ 43) (h : Clean S → ∀ C : Ctx, C.n = 43 → IWP Tryz.prog C [] ir_R_CombMay (FinS C [.t 2] r S') (AS.startS xs S)) : ACallsS Tryz.prog 22 xs S r S' :=
  acallsS_of Tryz.func22 rfl tr_R_CombMay rfl hn h

def ir_comb_ap : IR :=
  (.seq
  (.ops
  [.mk (some 2) none (.box 30 (.t 0)) .no, .mk (some 3) none (.box 30 (.t 1)) .no, .mk (some 4) none
  (.alloc 30 [.st (.str (ByteArray.mk (#[]))), .full []])
  .no])
  (.seq
  (.ops
  [.mk (some 5) none (.load true 2 (.t 2)) .no, .mk (some 6) none (.load true 2 (.t 3)) .no, .mk (some 7) none
  (.buildSlice false 30 2 [.t 5, .t 6]) .no, .mk (some 8) none
  (.build [.st (.str (ByteArray.mk (#[]))), .full []]
  [(0, 1, .c (.one (.st (.str (ByteArray.mk (#[97, 112])))))),
  (1, 1, .t 7)])
  .no, .mk none none (.store 2 (.t 4) (.t 8))
  .no])
  .ret))
theorem tr_comb_ap : trCode Tryz.prog 9 [] (Tryz.f62.body.getD .skip) = some ir_comb_ap := by kernel_rfl
theorem ac_comb_ap {xs : List AV} {r : AV} (hn : xs.length ≤ 9) (h : ∀ C : Ctx, C.n = 9 → IWP Tryz.prog C [] ir_comb_ap (FinQ [.cell 4 true 2] r) (AS.start xs)) : ACalls Tryz.prog 62 xs r :=
  acalls_of Tryz.func62 rfl tr_comb_ap rfl hn h
theorem acS_comb_ap {xs : List AV} {S S' : AStore} {r : AV} (hn : xs.length ≤ 9) (h : Clean S → ∀ C : Ctx, C.n = 9 → IWP Tryz.prog C [] ir_comb_ap (FinS C [.cell 4 true 2] r S') (AS.startS xs S)) : ACallsS Tryz.prog 62 xs S r S' :=
  acallsS_of Tryz.func62 rfl tr_comb_ap rfl hn h

def ir_R_Put2 : IR :=
  (.seq
  (.ops
  [.mk (some 2) none (.box 30 (.t 0)) .no, .mk (some 3) none (.box 30 (.t 1)) .no, .mk (some 4) none
  (.alloc 30 [.st (.str (ByteArray.mk (#[]))), .full []])
  .no])
  (.seq
  (.ops
  [.mk (some 5) none (.load true 2 (.t 2)) .no, .mk (some 6) none (.load true 2 (.t 3)) .no, .mk (some 7) none
  (.buildSlice false 30 2 [.t 5, .t 6]) .no, .mk (some 8) none
  (.build [.st (.str (ByteArray.mk (#[]))), .full []]
  [(0, 1, .c (.one (.st (.str (ByteArray.mk (#[97, 112])))))),
  (1, 1, .t 7)])
  .no, .mk none none (.store 2 (.t 4) (.t 8))
  .no])
  .ret))
theorem tr_R_Put2 : trCode Tryz.prog 9 [] (Tryz.f11.body.getD .skip) = some ir_R_Put2 := by kernel_rfl
theorem ac_R_Put2 {xs : List AV} {r : AV} (hn : xs.length ≤ 9) (h : ∀ C : Ctx, C.n = 9 → IWP Tryz.prog C [] ir_R_Put2 (FinQ [.cell 4 true 2] r) (AS.start xs)) : ACalls Tryz.prog 11 xs r :=
  acalls_of Tryz.func11 rfl tr_R_Put2 rfl hn h
theorem acS_R_Put2 {xs : List AV} {S S' : AStore} {r : AV} (hn : xs.length ≤ 9) (h : Clean S → ∀ C : Ctx, C.n = 9 → IWP Tryz.prog C [] ir_R_Put2 (FinS C [.cell 4 true 2] r S') (AS.startS xs S)) : ACallsS Tryz.prog 11 xs S r S' :=
  acallsS_of Tryz.func11 rfl tr_R_Put2 rfl hn h

def ir_R_Row : IR :=
  (.seq
  (.ops
  [.mk (some 1) none (.box 30 (.t 0)) .no, .mk (some 2) none
  (.alloc 30 [.st (.str (ByteArray.mk (#[]))), .full []])
  .no, .mk (some 3) none (.mov (.c (.one (.full []))))
  .no])
  (.seq
  (.seq
  (.ops
  [.mk (some 6) none (.fieldAddr 1 (.t 1)) .no, .mk (some 7) none (.load false 1 (.t 6))
  .no, .mk (some 8) none (.len false (.t 7)) .no, .mk (some 9) none (.bin .eql (.t 8) (.c (.one (.st (.int .i64 0)))))
  .no])
  (.cond (.t 9)
  (.seq
  (.ops
  [.mk (some 10) none (.load true 2 (.t 1))
  .no, .mk none none (.store 2 (.t 2) (.t 10))
  .no, .mk (some 3) none (.mov (.c (.one (.full []))))
  .no])
  .ret)
  .skip))
  (.seq
  (.ops
  [.mk (some 12) none (.fieldAddr 1 (.t 1)) .no, .mk (some 13) none (.load false 1 (.t 12))
  .no, .mk (some 14) none
  (.indexAddr 2 (.t 13) (.c (.one (.st (.int .i64 0)))))
  .no, .mk (some 15) none (.load true 2 (.t 14))
  .no, .mk (some 16) none (.callS 63 [.t 15]) .no, .mk (some 11) none (.mov (.t 16)) .no, .mk (some 17) none (.extract 0 (.t 11)) .no, .mk (some 18) none (.extract 1 (.t 11)) .no, .mk (some 4) none
  (.alloc 30 [.st (.str (ByteArray.mk (#[]))), .full []])
  .no, .mk none none (.store 2 (.t 4) (.t 17))
  .no, .mk (some 5) none (.mov (.t 18)) .no])
  (.seq
  (.ops
  [.mk (some 19) none (.load true 2 (.t 4))
  (.onb 4), .mk (some 20) none (.mov (.t 5)) .no, .mk (some 21) none (.fieldAddr 1 (.t 1)) .no, .mk (some 22) none (.load false 1 (.t 21))
  .no, .mk (some 23) none
  (.indexAddr 2 (.t 22) (.c (.one (.st (.int .i64 1)))))
  .no, .mk (some 24) none (.load true 2 (.t 23))
  .no, .mk (some 25) none (.buildSlice false 30 2 [.t 24])
  .no, .mk (some 26) none
  (.append false 30 2 40 (.t 20) (.t 25)) (.keeps [4]), .mk none none (.store 2 (.t 2) (.t 19))
  .no, .mk (some 3) none (.mov (.t 26)) .no])
  .ret))))
theorem tr_R_Row : trCode Tryz.prog 27 [16] (Tryz.f63.body.getD .skip) = some ir_R_Row := by kernel_rfl
theorem ac_R_Row {xs : List AV} {r : AV} (hn : xs.length ≤ 27) (h : ∀ C : Ctx, C.n = 27 → IWP Tryz.prog C [16] ir_R_Row (FinQ [.cell 2 true 2, .t 3] r) (AS.start xs)) : ACalls Tryz.prog 63 xs r :=
  acalls_of Tryz.func63 rfl tr_R_Row rfl hn h
theorem acS_R_Row {xs : List AV} {S S' : AStore} {r : AV} (hn : xs.length ≤ 27) (h : Clean S → ∀ C : Ctx, C.n = 27 → IWP Tryz.prog C [16] ir_R_Row (FinS C [.cell 2 true 2, .t 3] r S') (AS.startS xs S)) : ACallsS Tryz.prog 63 xs S r S' :=
  acallsS_of Tryz.func63 rfl tr_R_Row rfl hn h

def ir_R_CombStep : IR :=
  (.seq
  (.ops
  [.mk (some 1) none (.box 30 (.t 0)) .no, .mk (some 2) none
  (.alloc 30 [.st (.str (ByteArray.mk (#[]))), .full []])
  .no, .mk (some 3) none (.mov (.c (.one (.st (.bool false)))))
  .no])
  (.seq
  (.ops
  [.mk (some 14) none (.load true 2 (.t 1)) .no, .mk (some 15) none (.call 63 [.t 14]) .no, .mk (some 13) none (.mov (.t 15)) .no, .mk (some 16) none (.extract 0 (.t 13)) .no, .mk (some 17) none (.extract 1 (.t 13)) .no, .mk (some 4) none
  (.alloc 30 [.st (.str (ByteArray.mk (#[]))), .full []])
  .no, .mk none none (.store 2 (.t 4) (.t 16))
  .no, .mk (some 5) none (.mov (.t 17)) .no])
  (.seq
  (.ops
  [.mk (some 6) none (.mov (.c (.one (.st (.int .i64 0)))))
  .no])
  (.seq
  (.ops
  [.mk (some 18) none
  (.build [.st (.str (ByteArray.mk (#[]))), .full []]
  [])
  .no, .mk (some 7) none
  (.alloc 30
  [.st (.str (ByteArray.mk (#[]))), .full []])
  .no, .mk none none (.store 2 (.t 7) (.t 18))
  .no])
  (.seq
  (.seq
  (.ops
  [.mk (some 19) none (.fieldAddr 0 (.t 4))
  .no, .mk (some 20) none (.load false 1 (.t 19))
  .no, .mk (some 21) none (.bin .eql (.t 20) (.c (.one (.st (.str (ByteArray.mk (#[105])))))))
  .no, .mk (some 22) none (.mov (.t 21)) .no, .mk (some 23) (some (22, true)) (.mov (.t 5))
  .no, .mk (some 24) (some (22, true)) (.len false (.t 23))
  .no, .mk (some 25) (some (22, true)) (.bin .geq (.t 24) (.c (.one (.st (.int .i64 1)))))
  .no, .mk (some 26) none
  (.pick (.t 22) (.t 25) (.c (.one (.st (.bool false)))))
  .no])
  (.cond (.t 26)
  (.seq
  (.ops
  [.mk (some 6) none (.mov (.c (.one (.st (.int .i64 1)))))
  .no])
  (.ops
  [.mk (some 27) none (.mov (.t 5)) .no, .mk (some 28) none
  (.indexAddr 2 (.t 27) (.c (.one (.st (.int .i64 0)))))
  .no, .mk (some 29) none (.load true 2 (.t 28))
  .no, .mk none none (.store 2 (.t 7) (.t 29))
  .no]))
  .skip))
  (.seq
  (.seq
  (.ops
  [.mk (some 30) none (.fieldAddr 0 (.t 4))
  .no, .mk (some 31) none (.load false 1 (.t 30))
  .no, .mk (some 32) none (.bin .eql (.t 31) (.c (.one (.st (.str (ByteArray.mk (#[107])))))))
  .no, .mk (some 33) none (.mov (.t 32)) .no, .mk (some 34) (some (33, true)) (.mov (.t 5))
  .no, .mk (some 35) (some (33, true)) (.len false (.t 34))
  .no, .mk (some 36) (some (33, true)) (.bin .geq (.t 35) (.c (.one (.st (.int .i64 2)))))
  .no, .mk (some 37) none
  (.pick (.t 33) (.t 36) (.c (.one (.st (.bool false)))))
  .no])
  (.cond (.t 37)
  (.seq
  (.ops
  [.mk (some 6) none (.mov (.c (.one (.st (.int .i64 2)))))
  .no])
  (.ops
  [.mk (some 38) none (.mov (.t 5)) .no, .mk (some 39) none
  (.indexAddr 2 (.t 38) (.c (.one (.st (.int .i64 0)))))
  .no, .mk (some 40) none (.load true 2 (.t 39))
  .no, .mk none none (.store 2 (.t 7) (.t 40)) .no]))
  .skip))
  (.seq
  (.seq
  (.ops
  [.mk (some 41) none (.fieldAddr 0 (.t 4))
  .no, .mk (some 42) none (.load false 1 (.t 41))
  .no, .mk (some 43) none (.bin .eql (.t 42) (.c (.one (.st (.str (ByteArray.mk (#[115])))))))
  .no, .mk (some 44) none (.mov (.t 43)) .no, .mk (some 45) (some (44, true)) (.mov (.t 5))
  .no, .mk (some 46) (some (44, true)) (.len false (.t 45))
  .no, .mk (some 47) (some (44, true)) (.bin .geq (.t 46) (.c (.one (.st (.int .i64 3)))))
  .no, .mk (some 48) none
  (.pick (.t 44) (.t 47) (.c (.one (.st (.bool false)))))
  .no])
  (.cond (.t 48)
  (.seq
  (.ops
  [.mk (some 6) none (.mov (.c (.one (.st (.int .i64 3)))))
  .no])
  (.ops
  [.mk (some 49) none (.mov (.t 5))
  .no, .mk (some 50) none
  (.indexAddr 2 (.t 49) (.c (.one (.st (.int .i64 0)))))
  .no, .mk (some 51) none (.load true 2 (.t 50))
  .no, .mk (some 52) none (.mov (.t 5))
  .no, .mk (some 53) none
  (.indexAddr 2 (.t 52) (.c (.one (.st (.int .i64 2)))))
  .no, .mk (some 54) none (.load true 2 (.t 53))
  .no, .mk (some 55) none (.call 11 [.t 51, .t 54]) .no, .mk (some 56) none (.mov (.t 5))
  .no, .mk (some 57) none
  (.indexAddr 2 (.t 56) (.c (.one (.st (.int .i64 1)))))
  .no, .mk (some 58) none (.load true 2 (.t 57))
  .no, .mk (some 59) none (.mov (.t 5))
  .no, .mk (some 60) none
  (.indexAddr 2 (.t 59) (.c (.one (.st (.int .i64 2)))))
  .no, .mk (some 61) none (.load true 2 (.t 60))
  .no, .mk (some 62) none (.call 11 [.t 58, .t 61]) .no, .mk (some 63) none (.call 11 [.t 55, .t 62]) .no, .mk none none (.store 2 (.t 7) (.t 63)) .no]))
  .skip))
  (.seq
  (.seq
  (.ops
  [.mk (some 64) none (.mov (.t 6)) .no, .mk (some 65) none (.bin .gtr (.t 64) (.c (.one (.st (.int .i64 0)))))
  .no])
  (.cond (.t 65)
  (.seq
  (.seq
  (.ops
  [.mk (some 66) none (.mov (.t 6))
  .no, .mk (some 8) none (.mov (.t 66))
  .no])
  (.block 0
  (.loop
  (.seq
  (.seq
  (.ops
  [.mk (some 67) none (.mov (.t 8))
  .no, .mk (some 68) none (.mov (.t 5))
  .no, .mk (some 69) none (.len false (.t 68))
  .no, .mk (some 70) none (.bin .lss (.t 67) (.t 69))
  .no])
  (.cond (.t 70) .skip (.exit 0)))
  (.seq
  (.block 1
  (.ops
  [.mk (some 73) none (.load true 2 (.t 7))
  .no, .mk (some 74) none (.mov (.t 5))
  .no, .mk (some 75) none (.mov (.t 8))
  .no, .mk (some 76) none
  (.indexAddr 2 (.t 74) (.t 75))
  .no, .mk (some 77) none (.load true 2 (.t 76))
  .no, .mk (some 78) none (.call 11 [.t 73, .t 77]) .no, .mk none none (.store 2 (.t 7) (.t 78)) .no]))
  (.ops
  [.mk (some 71) none (.mov (.t 8))
  .no, .mk (some 72) none (.bin .add (.t 71) (.c (.one (.st (.int .i64 1)))))
  .no, .mk (some 8) none (.mov (.t 72))
  .no]))))))
  (.seq
  (.ops
  [.mk (some 79) none (.load true 2 (.t 7))
  .no, .mk none none (.store 2 (.t 2) (.t 79)) .no, .mk (some 3) none (.mov (.c (.one (.st (.bool true)))))
  .no])
  .ret))
  .skip))
  (.seq
  (.seq
  (.ops
  [.mk (some 9) none (.mov (.c (.one (.st (.int .i64 0)))))
  .no])
  (.block 2
  (.loop
  (.seq
  (.seq
  (.ops
  [.mk (some 80) none (.mov (.t 9))
  .no, .mk (some 81) none (.mov (.t 5))
  .no, .mk (some 82) none (.len false (.t 81))
  .no, .mk (some 83) none (.bin .lss (.t 80) (.t 82))
  .no])
  (.cond (.t 83) .skip (.exit 2)))
  (.seq
  (.block 3
  (.seq
  (.ops
  [.mk (some 87) none (.mov (.t 5))
  .no, .mk (some 88) none (.mov (.t 9))
  .no, .mk (some 89) none
  (.indexAddr 2 (.t 87) (.t 88)) .no, .mk (some 90) none (.load true 2 (.t 89))
  .no, .mk (some 91) none (.call 44 [.t 90])
  .no, .mk (some 86) none (.mov (.t 91))
  .no, .mk (some 92) none (.extract 0 (.t 86))
  .no, .mk (some 93) none (.extract 1 (.t 86))
  .no, .mk (some 10) none
  (.alloc 30
  [.st (.str (ByteArray.mk (#[]))), .full []])
  .no, .mk none none (.store 2 (.t 10) (.t 92)) .no, .mk (some 11) none (.mov (.t 93))
  .no])
  (.seq
  (.ops
  [.mk (some 94) none (.mov (.t 11))
  .no])
  (.cond (.t 94)
  (.seq
  (.ops
  [.mk (some 95) none (.load true 2 (.t 4))
  .no, .mk none none (.store 2 (.t 7) (.t 95))
  .no])
  (.seq
  (.seq
  (.ops
  [.mk (some 12) none (.mov (.c (.one (.st (.int .i64 0)))))
  .no])
  (.block 4
  (.loop
  (.seq
  (.seq
  (.ops
  [.mk (some 96) none (.mov (.t 12))
  .no, .mk (some 97) none (.mov (.t 5))
  .no, .mk (some 98) none (.len false (.t 97))
  .no, .mk (some 99) none (.bin .lss (.t 96) (.t 98))
  .no])
  (.cond (.t 99) .skip
  (.exit 4)))
  (.seq
  (.block 5
  (.seq
  (.ops
  [.mk (some 102) none (.mov (.t 12))
  .no, .mk (some 103) none (.mov (.t 9))
  .no, .mk (some 104) none (.bin .eql (.t 102) (.t 103))
  .no])
  (.cond (.t 104)
  (.ops
  [.mk (some 105) none (.load true 2 (.t 7)) .no, .mk (some 106) none (.load true 2 (.t 10)) .no, .mk (some 107) none (.call 11 [.t 105, .t 106])
  .no, .mk none none (.store 2 (.t 7) (.t 107))
  .no])
  (.ops
  [.mk (some 108) none (.load true 2 (.t 7)) .no, .mk (some 109) none (.mov (.t 5))
  .no, .mk (some 110) none (.mov (.t 12))
  .no, .mk (some 111) none
  (.indexAddr 2 (.t 109) (.t 110))
  .no, .mk (some 112) none (.load true 2 (.t 111)) .no, .mk (some 113) none (.call 11 [.t 108, .t 112])
  .no, .mk none none (.store 2 (.t 7) (.t 113))
  .no]))))
  (.ops
  [.mk (some 100) none (.mov (.t 12))
  .no, .mk (some 101) none (.bin .add (.t 100) (.c (.one (.st (.int .i64 1)))))
  .no, .mk (some 12) none (.mov (.t 101))
  .no]))))))
  (.seq
  (.ops
  [.mk (some 114) none (.load true 2 (.t 7))
  .no, .mk none none (.store 2 (.t 2) (.t 114))
  .no, .mk (some 3) none (.mov (.c (.one (.st (.bool true)))))
  .no])
  .ret)))
  .skip))))
  (.ops
  [.mk (some 84) none (.mov (.t 9))
  .no, .mk (some 85) none (.bin .add (.t 84) (.c (.one (.st (.int .i64 1)))))
  .no, .mk (some 9) none (.mov (.t 85))
  .no]))))))
  (.seq
  (.ops
  [.mk (some 115) none (.load true 2 (.t 1))
  .no, .mk none none (.store 2 (.t 2) (.t 115)) .no, .mk (some 3) none (.mov (.c (.one (.st (.bool false)))))
  .no])
  .ret))))))))))
theorem tr_R_CombStep : trCode Tryz.prog 116 [] (Tryz.f44.body.getD .skip) = some ir_R_CombStep := by kernel_rfl
theorem ac_R_CombStep {xs : List AV} {r : AV} (hn : xs.length ≤ 116) (h : ∀ C : Ctx, C.n = 116 → IWP Tryz.prog C [] ir_R_CombStep (FinQ [.cell 2 true 2, .t 3] r) (AS.start xs)) : ACalls Tryz.prog 44 xs r :=
  acalls_of Tryz.func44 rfl tr_R_CombStep rfl hn h
theorem acS_R_CombStep {xs : List AV} {S S' : AStore} {r : AV} (hn : xs.length ≤ 116) (h : Clean S → ∀ C : Ctx, C.n = 116 → IWP Tryz.prog C [] ir_R_CombStep (FinS C [.cell 2 true 2, .t 3] r S') (AS.startS xs S)) : ACallsS Tryz.prog 44 xs S r S' :=
  acallsS_of Tryz.func44 rfl tr_R_CombStep rfl hn h

def ir_R_CombEnd : IR :=
  (.seq
  (.ops
  [.mk (some 2) none (.box 30 (.t 0)) .no, .mk (some 4) none
  (.alloc 30 [.st (.str (ByteArray.mk (#[]))), .full []])
  .no, .mk (some 5) none (.mov (.c (.one (.st (.int .i64 0)))))
  .no, .mk (some 6) none (.mov (.c (.one (.st (.int .i64 0)))))
  .no])
  (.seq
  (.ops
  [.mk (some 7) none (.mov (.c (.one (.st (.int .i64 0)))))
  .no])
  (.block 0
  (.loop
  (.block 1
  (.seq
  (.ops
  [.mk (some 11) none (.load true 2 (.t 2))
  .no, .mk (some 12) none (.call 44 [.t 11]) .no, .mk (some 10) none (.mov (.t 12)) .no, .mk (some 13) none (.extract 0 (.t 10))
  .no, .mk (some 14) none (.extract 1 (.t 10))
  .no, .mk (some 8) none
  (.alloc 30
  [.st (.str (ByteArray.mk (#[]))), .full []])
  .no, .mk none none (.store 2 (.t 8) (.t 13))
  .no, .mk (some 9) none (.mov (.t 14)) .no])
  (.seq
  (.seq
  (.ops
  [.mk (some 15) none (.mov (.t 9)) .no, .mk (some 16) none (.un .not (.t 15))
  .no])
  (.cond (.t 16)
  (.seq
  (.ops
  [.mk (some 17) none (.load true 2 (.t 2))
  .no, .mk (some 18) none (.mov (.t 7))
  .no, .mk none none (.store 2 (.t 4) (.t 17)) .no, .mk (some 5) none (.mov (.t 18))
  .no, .mk (some 6) none (.mov (.c (.one (.st (.int .i64 0)))))
  .no])
  .ret)
  .skip))
  (.seq
  (.seq
  (.ops
  [.mk (some 19) none (.mov (.t 7)) .no, .mk (some 20) none (.mov (.t 1)) .no, .mk (some 21) none (.bin .eql (.t 19) (.t 20)) .no])
  (.cond (.t 21)
  (.seq
  (.ops
  [.mk (some 22) none
  (.build
  [.st (.str (ByteArray.mk (#[]))), .full []] [])
  .no, .mk none none (.store 2 (.t 4) (.t 22)) .no, .mk (some 5) none (.mov (.c (.one (.st (.int .i64 0)))))
  .no, .mk (some 6) none (.mov (.c (.one (.st (.int .i64 9)))))
  .no])
  .ret)
  .skip))
  (.seq
  (.ops
  [.mk (some 23) none (.load true 2 (.t 8))
  .no, .mk none none (.store 2 (.t 2) (.t 23)) .no])
  (.seq
  (.ops
  [.mk (some 24) none (.mov (.t 7))
  .no, .mk (some 25) none (.bin .add (.t 24) (.c (.one (.st (.int .i64 1)))))
  .no, .mk (some 7) none (.mov (.t 25))
  .no])
  (.seq
  (.ops
  [.mk (some 26) none (.load true 2 (.t 2))
  .no, .mk (some 27) none (.call 8
  [.t 26, .c (.one (.st (.int .i64 2000)))])
  .no, .mk (some 28) none (.bin .gtr (.t 27) (.c (.one (.st (.int .i64 2000)))))
  .no])
  (.cond (.t 28)
  (.seq
  (.ops
  [.mk (some 29) none
  (.build
  [.st (.str (ByteArray.mk (#[]))), .full []] [])
  .no, .mk none none (.store 2 (.t 4) (.t 29)) .no, .mk (some 5) none (.mov (.c (.one (.st (.int .i64 0)))))
  .no, .mk (some 6) none (.mov (.c (.one (.st (.int .i64 8)))))
  .no])
  .ret)
  .skip))))))))))))
theorem tr_R_CombEnd : trCode Tryz.prog 30 [] (Tryz.f23.body.getD .skip) = some ir_R_CombEnd := by kernel_rfl
theorem ac_R_CombEnd {xs : List AV} {r : AV} (hn : xs.length ≤ 30) (h : ∀ C : Ctx, C.n = 30 → IWP Tryz.prog C [] ir_R_CombEnd (FinQ [.cell 4 true 2, .t 5, .t 6] r) (AS.start xs)) : ACalls Tryz.prog 23 xs r :=
  acalls_of Tryz.func23 rfl tr_R_CombEnd rfl hn h
theorem acS_R_CombEnd {xs : List AV} {S S' : AStore} {r : AV} (hn : xs.length ≤ 30) (h : Clean S → ∀ C : Ctx, C.n = 30 → IWP Tryz.prog C [] ir_R_CombEnd (FinS C [.cell 4 true 2, .t 5, .t 6] r S') (AS.startS xs S)) : ACallsS Tryz.prog 23 xs S r S' :=
  acallsS_of Tryz.func23 rfl tr_R_CombEnd rfl hn h

def ir_comb_step_1 : IR :=
  (.seq
  (.ops
  [.mk (some 4) none
  (.alloc 30 [.st (.str (ByteArray.mk (#[]))), .full []])
  .no])
  (.seq
  (.ops
  [.mk (some 5) none (.load false 1 (.t 1)) .no, .mk (some 6) none (.load false 1 (.t 2)) .no, .mk (some 7) none (.bin .sub (.t 6) (.c (.one (.st (.int .i64 1)))))
  .no, .mk (some 8) none (.mov (.t 0)) .no, .mk (some 9) none (.bin .sub (.t 7) (.t 8))
  .no, .mk (some 10) none (.indexAddr 2 (.t 5) (.t 9))
  .no, .mk (some 11) none (.load true 2 (.t 10)) .no, .mk none none (.store 2 (.t 4) (.t 11))
  .no])
  .ret))
theorem tr_comb_step_1 : trCode Tryz.prog 12 [] (Tryz.f64.body.getD .skip) = some ir_comb_step_1 := by kernel_rfl
theorem ac_comb_step_1 {xs : List AV} {r : AV} (hn : xs.length ≤ 12) (h : ∀ C : Ctx, C.n = 12 → IWP Tryz.prog C [] ir_comb_step_1 (FinQ [.cell 4 true 2] r) (AS.start xs)) : ACalls Tryz.prog 64 xs r :=
  acalls_of Tryz.func64 rfl tr_comb_step_1 rfl hn h
theorem acS_comb_step_1 {xs : List AV} {S S' : AStore} {r : AV} (hn : xs.length ≤ 12) (h : Clean S → ∀ C : Ctx, C.n = 12 → IWP Tryz.prog C [] ir_comb_step_1 (FinS C [.cell 4 true 2] r S') (AS.startS xs S)) : ACallsS Tryz.prog 64 xs S r S' :=
  acallsS_of Tryz.func64 rfl tr_comb_step_1 rfl hn h

def ir_slices_Clone_metaprune_api_Term_metaprune_api_Term : IR :=
  (.seq
  (.ops
  [.mk (some 2) none (.mov (.c (.one (.full []))))
  .no])
  (.seq
  (.seq
  (.ops
  [.mk (some 3) none (.mov (.t 0)) .no, .mk (some 4) none (.eqN false (.t 3)) .no])
  (.cond (.t 4)
  (.seq
  (.ops
  [.mk (some 2) none (.mov (.c (.one (.full []))))
  .no])
  .ret)
  .skip))
  (.seq
  (.ops
  [.mk (some 5) none (.buildSlice false 30 2 []) .no, .mk (some 6) none (.mov (.t 0)) .no, .mk (some 7) none
  (.append true 30 2 40 (.t 5) (.t 6)) .no, .mk (some 2) none (.mov (.t 7)) .no])
  .ret)))
theorem tr_slices_Clone_metaprune_api_Term_metaprune_api_Term : trCode Tryz.prog 8 [7] (Tryz.f65.body.getD .skip) = some ir_slices_Clone_metaprune_api_Term_metaprune_api_Term := by kernel_rfl
theorem ac_slices_Clone_metaprune_api_Term_metaprune_api_Term {xs : List AV} {r : AV} (hn : xs.length ≤ 8) (h : ∀ C : Ctx, C.n = 8 → IWP Tryz.prog C [7] ir_slices_Clone_metaprune_api_Term_metaprune_api_Term (FinQ [.t 2] r) (AS.start xs)) : ACalls Tryz.prog 65 xs r :=
  acalls_of Tryz.func65 rfl tr_slices_Clone_metaprune_api_Term_metaprune_api_Term rfl hn h
theorem acS_slices_Clone_metaprune_api_Term_metaprune_api_Term {xs : List AV} {S S' : AStore} {r : AV} (hn : xs.length ≤ 8) (h : Clean S → ∀ C : Ctx, C.n = 8 → IWP Tryz.prog C [7] ir_slices_Clone_metaprune_api_Term_metaprune_api_Term (FinS C [.t 2] r S') (AS.startS xs S)) : ACallsS Tryz.prog 65 xs S r S' :=
  acallsS_of Tryz.func65 rfl tr_slices_Clone_metaprune_api_Term_metaprune_api_Term rfl hn h

def ir_comb_step : IR :=
  (.seq
  (.ops
  [.mk (some 1) none (.box 30 (.t 0)) .no, .mk (some 2) none
  (.alloc 30 [.st (.str (ByteArray.mk (#[]))), .full []])
  .no, .mk (some 3) none (.mov (.c (.one (.st (.bool false)))))
  .no])
  (.seq
  (.ops
  [.mk (some 4) none (.alloc 28 [.full []]) .no])
  (.seq
  (.ops
  [.mk (some 15) none (.load true 2 (.t 1)) .no, .mk (some 5) none
  (.alloc 30 [.st (.str (ByteArray.mk (#[]))), .full []])
  .no, .mk none none (.store 2 (.t 5) (.t 15))
  .no])
  (.seq
  (.block 0
  (.loop
  (.seq
  (.seq
  (.ops
  [.mk (some 16) none (.fieldAddr 1 (.t 5))
  .no, .mk (some 17) none (.load false 1 (.t 16))
  .no, .mk (some 18) none (.len false (.t 17))
  .no, .mk (some 19) none (.bin .eql (.t 18) (.c (.one (.st (.int .i64 2)))))
  .no])
  (.cond (.t 19) .skip (.exit 0)))
  (.block 1
  (.seq
  (.ops
  [.mk (some 20) none (.load false 1 (.t 4))
  .no, .mk (some 21) none (.fieldAddr 1 (.t 5))
  .no, .mk (some 22) none (.load false 1 (.t 21))
  .no, .mk (some 23) none
  (.indexAddr 2 (.t 22) (.c (.one (.st (.int .i64 1)))))
  .no, .mk (some 24) none (.load true 2 (.t 23))
  .no, .mk (some 25) none (.len false (.t 20))
  .no, .mk (some 26) none
  (.buildSlice false 30 2
  [.c
  (.agg
  [.st (.str (ByteArray.mk (#[]))), .full []])])
  .no, .mk (some 27) none
  (.append true 30 2 40 (.t 20) (.t 26)) .no, .mk (some 28) none
  (.indexAddr 2 (.t 27) (.t 25)) .no, .mk none none (.store 2 (.t 28) (.t 24)) (.onb 27), .mk none none (.store 1 (.t 4) (.t 27)) (.onb 4)])
  (.ops
  [.mk (some 29) none (.fieldAddr 1 (.t 5))
  .no, .mk (some 30) none (.load false 1 (.t 29))
  .no, .mk (some 31) none
  (.indexAddr 2 (.t 30) (.c (.one (.st (.int .i64 0)))))
  .no, .mk (some 32) none (.load true 2 (.t 31))
  .no, .mk none none (.store 2 (.t 5) (.t 32)) .no]))))))
  (.seq
  (.ops
  [.mk (some 33) none (.load false 1 (.t 4))
  .no, .mk (some 34) none (.len false (.t 33))
  .no, .mk (some 6) none
  (.alloc 3 [.st (.int .i64 0)]) .no, .mk none none (.store 1 (.t 6) (.t 34))
  .no])
  (.seq
  (.ops
  [.mk (some 35) none
  (.makeFunc 64 [.t 4, .t 6]) .no, .mk (some 7) none (.mov (.t 35)) .no])
  (.seq
  (.ops
  [.mk (some 8) none
  (.alloc 30
  [.st (.str (ByteArray.mk (#[]))), .full []])
  .no])
  (.seq
  (.ops
  [.mk (some 9) none (.mov (.c (.one (.st (.int .i64 0)))))
  .no])
  (.seq
  (.block 2
  (.seq
  (.ops
  [.mk (some 72) none (.fieldAddr 0 (.t 5))
  .no, .mk (some 73) none (.load false 1 (.t 72))
  .no, .mk (some 74) none (.bin .eql (.t 73) (.c (.one (.st (.str (ByteArray.mk (#[105])))))))
  .no, .mk (some 75) none (.mov (.t 74))
  .no, .mk (some 76) (some (75, true)) (.load false 1 (.t 6))
  .no, .mk (some 77) (some (75, true)) (.bin .gtr (.t 76) (.c (.one (.st (.int .i64 0)))))
  .no, .mk (some 78) none
  (.pick (.t 75) (.t 77) (.c (.one (.st (.bool false)))))
  .no, .mk (some 71) none (.mov (.t 78))
  .no])
  (.cond (.t 71)
  (.ops
  [.mk (some 79) none (.mov (.t 7))
  .no, .mk (some 80) none
  (.callV (.t 79)
  [.c (.one (.st (.int .i64 0)))])
  .no, .mk none none (.store 2 (.t 8) (.t 80)) .no, .mk (some 9) none (.mov (.c (.one (.st (.int .i64 1)))))
  .no])
  (.seq
  (.ops
  [.mk (some 82) none (.fieldAddr 0 (.t 5))
  .no, .mk (some 83) none (.load false 1 (.t 82))
  .no, .mk (some 84) none (.bin .eql (.t 83) (.c (.one (.st (.str (ByteArray.mk (#[107])))))))
  .no, .mk (some 85) none (.mov (.t 84))
  .no, .mk (some 86) (some (85, true)) (.load false 1 (.t 6))
  .no, .mk (some 87) (some (85, true)) (.bin .gtr (.t 86) (.c (.one (.st (.int .i64 1)))))
  .no, .mk (some 88) none
  (.pick (.t 85) (.t 87) (.c (.one (.st (.bool false)))))
  .no, .mk (some 81) none (.mov (.t 88))
  .no])
  (.cond (.t 81)
  (.ops
  [.mk (some 89) none (.mov (.t 7))
  .no, .mk (some 90) none
  (.callV (.t 89)
  [.c (.one (.st (.int .i64 0)))])
  .no, .mk none none (.store 2 (.t 8) (.t 90)) .no, .mk (some 9) none (.mov (.c (.one (.st (.int .i64 2)))))
  .no])
  (.seq
  (.ops
  [.mk (some 92) none (.fieldAddr 0 (.t 5))
  .no, .mk (some 93) none (.load false 1 (.t 92))
  .no, .mk (some 94) none (.bin .eql (.t 93) (.c (.one (.st (.str (ByteArray.mk (#[115])))))))
  .no, .mk (some 95) none (.mov (.t 94))
  .no, .mk (some 96) (some (95, true)) (.load false 1 (.t 6))
  .no, .mk (some 97) (some (95, true)) (.bin .gtr (.t 96) (.c (.one (.st (.int .i64 2)))))
  .no, .mk (some 98) none
  (.pick (.t 95) (.t 97) (.c (.one (.st (.bool false)))))
  .no, .mk (some 91) none (.mov (.t 98))
  .no])
  (.cond (.t 91)
  (.ops
  [.mk (some 99) none (.mov (.t 7))
  .no, .mk (some 100) none
  (.callV (.t 99)
  [.c (.one (.st (.int .i64 0)))])
  .no, .mk (some 101) none (.mov (.t 7))
  .no, .mk (some 102) none
  (.callV (.t 101)
  [.c (.one (.st (.int .i64 2)))])
  .no, .mk (some 103) none (.call 62 [.t 100, .t 102]) .no, .mk (some 104) none (.mov (.t 7))
  .no, .mk (some 105) none
  (.callV (.t 104)
  [.c (.one (.st (.int .i64 1)))])
  .no, .mk (some 106) none (.mov (.t 7))
  .no, .mk (some 107) none
  (.callV (.t 106)
  [.c (.one (.st (.int .i64 2)))])
  .no, .mk (some 108) none (.call 62 [.t 105, .t 107]) .no, .mk (some 109) none (.call 62 [.t 103, .t 108]) .no, .mk none none (.store 2 (.t 8) (.t 109)) .no, .mk (some 9) none (.mov (.c (.one (.st (.int .i64 3)))))
  .no])
  (.seq
  (.seq
  (.ops
  [.mk (some 36) none (.load false 1 (.t 6))
  .no, .mk (some 37) none (.mov (.c (.one (.st (.int .i64 0)))))
  .no])
  (.block 3
  (.loop
  (.seq
  (.ops
  [.mk (some 38) none (.bin .lss (.t 37) (.t 36))
  .no])
  (.seq
  (.cond (.t 38) .skip (.exit 3))
  (.seq
  (.block 4
  (.seq
  (.ops
  [.mk (some 39) none (.mov (.t 37))
  .no, .mk (some 10) none (.mov (.t 39))
  .no])
  (.seq
  (.ops
  [.mk (some 41) none (.mov (.t 7))
  .no, .mk (some 42) none (.mov (.t 10))
  .no, .mk (some 43) none
  (.callV (.t 41) [.t 42])
  .no, .mk (some 44) none (.call 45 [.t 43])
  .no, .mk (some 40) none (.mov (.t 44))
  .no, .mk (some 45) none (.extract 0 (.t 40))
  .no, .mk (some 46) none (.extract 1 (.t 40))
  .no, .mk (some 11) none
  (.alloc 30
  [.st (.str (ByteArray.mk (#[]))), .full []])
  .no, .mk none none (.store 2 (.t 11) (.t 45))
  .no, .mk (some 12) none (.mov (.t 46))
  .no])
  (.seq
  (.ops
  [.mk (some 47) none (.mov (.t 12))
  .no])
  (.cond (.t 47)
  (.seq
  (.ops
  [.mk (some 48) none (.load false 1 (.t 4)) .no, .mk (some 49) none
  (.callS 65 [.t 48]) .no, .mk none none (.store 1 (.t 4) (.t 49))
  .no])
  (.seq
  (.ops
  [.mk (some 50) none (.load false 1 (.t 4)) .no, .mk (some 51) none (.load false 1 (.t 6)) .no, .mk (some 52) none (.bin .sub (.t 51) (.c (.one (.st (.int .i64 1)))))
  .no, .mk (some 53) none (.mov (.t 10))
  .no, .mk (some 54) none (.bin .sub (.t 52) (.t 53))
  .no, .mk (some 55) none (.load true 2 (.t 11)) .no, .mk (some 56) none
  (.indexAddr 2 (.t 50) (.t 54))
  .no, .mk none none (.store 2 (.t 56) (.t 55))
  .no])
  (.seq
  (.ops
  [.mk (some 57) none (.load true 2 (.t 5)) .no, .mk none none (.store 2 (.t 8) (.t 57))
  .no])
  (.seq
  (.seq
  (.ops
  [.mk (some 58) none (.load false 1 (.t 6)) .no, .mk (some 59) none (.mov (.c (.one (.st (.int .i64 0)))))
  .no])
  (.block 5
  (.loop
  (.seq
  (.ops
  [.mk (some 60) none (.bin .lss (.t 59) (.t 58))
  .no])
  (.seq
  (.cond (.t 60) .skip
  (.exit 5))
  (.seq
  (.block 6
  (.seq
  (.ops
  [.mk (some 61) none (.mov (.t 59)) .no, .mk (some 13) none (.mov (.t 61)) .no])
  (.ops
  [.mk (some 62) none (.load true 2 (.t 8))
  (.onb 8), .mk (some 63) none (.mov (.t 7)) .no, .mk (some 64) none (.mov (.t 13)) .no, .mk (some 65) none
  (.callV (.t 63) [.t 64])
  (.keeps [8]), .mk (some 66) none (.call 62 [.t 62, .t 65])
  .no, .mk none none (.store 2 (.t 8) (.t 66))
  .no])))
  (.ops
  [.mk (some 67) none (.bin .add (.t 59) (.c (.one (.st (.int .i64 1)))))
  .no, .mk (some 59) none (.mov (.t 67)) .no])))))))
  (.seq
  (.ops
  [.mk (some 68) none (.load true 2 (.t 8)) .no, .mk none none (.store 2 (.t 2) (.t 68))
  .no, .mk (some 3) none (.mov (.c (.one (.st (.bool true)))))
  .no])
  .ret)))))
  .skip)))))
  (.ops
  [.mk (some 69) none (.bin .add (.t 37) (.c (.one (.st (.int .i64 1)))))
  .no, .mk (some 37) none (.mov (.t 69))
  .no])))))))
  (.seq
  (.ops
  [.mk (some 70) none (.load true 2 (.t 1))
  .no, .mk none none (.store 2 (.t 2) (.t 70)) .no, .mk (some 3) none (.mov (.c (.one (.st (.bool false)))))
  .no])
  .ret)))))))))
  (.seq
  (.seq
  (.ops
  [.mk (some 110) none (.mov (.t 9))
  .no, .mk (some 14) none (.mov (.t 110))
  .no])
  (.block 7
  (.loop
  (.seq
  (.seq
  (.ops
  [.mk (some 111) none (.mov (.t 14))
  .no, .mk (some 112) none (.load false 1 (.t 6))
  .no, .mk (some 113) none (.bin .lss (.t 111) (.t 112))
  .no])
  (.cond (.t 113) .skip (.exit 7)))
  (.seq
  (.block 8
  (.ops
  [.mk (some 116) none (.load true 2 (.t 8))
  (.onb 8), .mk (some 117) none (.mov (.t 7))
  .no, .mk (some 118) none (.mov (.t 14))
  .no, .mk (some 119) none
  (.callV (.t 117) [.t 118])
  (.keeps [8]), .mk (some 120) none (.call 62 [.t 116, .t 119]) .no, .mk none none (.store 2 (.t 8) (.t 120)) .no]))
  (.ops
  [.mk (some 114) none (.mov (.t 14))
  .no, .mk (some 115) none (.bin .add (.t 114) (.c (.one (.st (.int .i64 1)))))
  .no, .mk (some 14) none (.mov (.t 115))
  .no]))))))
  (.seq
  (.ops
  [.mk (some 121) none (.load true 2 (.t 8))
  .no, .mk none none (.store 2 (.t 2) (.t 121)) .no, .mk (some 3) none (.mov (.c (.one (.st (.bool true)))))
  .no])
  .ret)))))))))))
theorem tr_comb_step : trCode Tryz.prog 122 [27, 10280027, 49] (Tryz.f45.body.getD .skip) = some ir_comb_step := by kernel_rfl
theorem ac_comb_step {xs : List AV} {r : AV} (hn : xs.length ≤ 122) (h : ∀ C : Ctx, C.n = 122 → IWP Tryz.prog C [27, 10280027, 49] ir_comb_step (FinQ [.cell 2 true 2, .t 3] r) (AS.start xs)) : ACalls Tryz.prog 45 xs r :=
  acalls_of Tryz.func45 rfl tr_comb_step rfl hn h
theorem acS_comb_step {xs : List AV} {S S' : AStore} {r : AV} (hn : xs.length ≤ 122) (h : Clean S → ∀ C : Ctx, C.n = 122 → IWP Tryz.prog C [27, 10280027, 49] ir_comb_step (FinS C [.cell 2 true 2, .t 3] r S') (AS.startS xs S)) : ACallsS Tryz.prog 45 xs S r S' :=
  acallsS_of Tryz.func45 rfl tr_comb_step rfl hn h

def ir_comb_Run : IR :=
  (.seq
  (.ops
  [.mk (some 2) none (.box 30 (.t 0)) .no, .mk (some 4) none
  (.alloc 30 [.st (.str (ByteArray.mk (#[]))), .full []])
  .no, .mk (some 5) none (.mov (.c (.one (.st (.int .i64 0)))))
  .no, .mk (some 6) none (.mov (.c (.one (.st (.int .i64 0)))))
  .no])
  (.seq
  (.ops
  [.mk (some 11) none (.load true 2 (.t 2)) .no, .mk (some 12) none (.call 28 [.t 11]) .no, .mk (some 7) none (.mov (.t 12)) .no])
  (.seq
  (.seq
  (.ops
  [.mk (some 13) none (.mov (.t 7)) .no, .mk (some 14) none (.bin .eql (.t 13) (.c (.one (.st (.int .i64 0)))))
  .no, .mk (some 15) none (.mov (.t 14)) .no, .mk (some 16) (some (15, true)) (.mov (.t 1))
  .no, .mk (some 17) (some (15, true)) (.bin .lss (.t 16) (.c (.one (.st (.int .i64 0)))))
  .no, .mk (some 18) (some (15, true)) (.mov (.t 17))
  .no, .mk (some 19) (some (18, false)) (.mov (.t 1))
  .no, .mk (some 20) (some (18, false)) (.bin .gtr (.t 19) (.c (.one (.st (.int .i64 400)))))
  .no, .mk (some 21) (some (15, true))
  (.pick (.t 18) (.c (.one (.st (.bool true)))) (.t 20))
  .no, .mk (some 22) none
  (.pick (.t 15) (.t 21) (.c (.one (.st (.bool false)))))
  .no])
  (.cond (.t 22)
  (.ops
  [.mk (some 7) none (.mov (.c (.one (.st (.int .i64 10)))))
  .no])
  .skip))
  (.seq
  (.seq
  (.ops
  [.mk (some 23) none (.mov (.t 7)) .no, .mk (some 24) none (.bin .neq (.t 23) (.c (.one (.st (.int .i64 0)))))
  .no])
  (.cond (.t 24)
  (.seq
  (.ops
  [.mk (some 25) none
  (.build
  [.st (.str (ByteArray.mk (#[]))), .full []] [])
  .no, .mk (some 26) none (.mov (.t 7)) .no, .mk none none (.store 2 (.t 4) (.t 25))
  .no, .mk (some 5) none (.mov (.c (.one (.st (.int .i64 0)))))
  .no, .mk (some 6) none (.mov (.t 26)) .no])
  .ret)
  .skip))
  (.seq
  (.ops
  [.mk (some 8) none (.mov (.c (.one (.st (.int .i64 0)))))
  .no])
  (.block 0
  (.loop
  (.seq
  (.block 1
  (.seq
  (.ops
  [.mk (some 30) none (.load true 2 (.t 2))
  .no, .mk (some 31) none (.call 45 [.t 30])
  .no, .mk (some 29) none (.mov (.t 31))
  .no, .mk (some 32) none (.extract 0 (.t 29))
  .no, .mk (some 33) none (.extract 1 (.t 29))
  .no, .mk (some 9) none
  (.alloc 30
  [.st (.str (ByteArray.mk (#[]))), .full []])
  .no, .mk none none (.store 2 (.t 9) (.t 32)) .no, .mk (some 10) none (.mov (.t 33))
  .no])
  (.seq
  (.seq
  (.ops
  [.mk (some 34) none (.mov (.t 10))
  .no, .mk (some 35) none (.un .not (.t 34))
  .no])
  (.cond (.t 35)
  (.seq
  (.ops
  [.mk (some 36) none (.load true 2 (.t 2))
  .no, .mk (some 37) none (.call 46 [.t 36])
  .no, .mk (some 38) none (.mov (.t 8))
  .no, .mk none none (.store 2 (.t 4) (.t 37)) .no, .mk (some 5) none (.mov (.t 38))
  .no, .mk (some 6) none (.mov (.c (.one (.st (.int .i64 0)))))
  .no])
  .ret)
  .skip))
  (.seq
  (.seq
  (.ops
  [.mk (some 39) none (.mov (.t 8))
  .no, .mk (some 40) none (.mov (.t 1))
  .no, .mk (some 41) none (.bin .eql (.t 39) (.t 40)) .no])
  (.cond (.t 41)
  (.seq
  (.ops
  [.mk (some 42) none
  (.build
  [.st (.str (ByteArray.mk (#[]))), .full []] [])
  .no, .mk none none (.store 2 (.t 4) (.t 42)) .no, .mk (some 5) none (.mov (.c (.one (.st (.int .i64 0)))))
  .no, .mk (some 6) none (.mov (.c (.one (.st (.int .i64 9)))))
  .no])
  .ret)
  .skip))
  (.seq
  (.ops
  [.mk (some 43) none (.load true 2 (.t 9))
  .no, .mk none none (.store 2 (.t 2) (.t 43)) .no])
  (.seq
  (.ops
  [.mk (some 44) none (.load true 2 (.t 2))
  .no, .mk (some 45) none (.call 47 [.t 44])
  .no, .mk (some 46) none (.bin .gtr (.t 45) (.c (.one (.st (.int .i64 2000)))))
  .no])
  (.cond (.t 46)
  (.seq
  (.ops
  [.mk (some 47) none
  (.build
  [.st (.str (ByteArray.mk (#[]))), .full []] [])
  .no, .mk none none (.store 2 (.t 4) (.t 47)) .no, .mk (some 5) none (.mov (.c (.one (.st (.int .i64 0)))))
  .no, .mk (some 6) none (.mov (.c (.one (.st (.int .i64 8)))))
  .no])
  .ret)
  .skip)))))))
  (.ops
  [.mk (some 27) none (.mov (.t 8)) .no, .mk (some 28) none (.bin .add (.t 27) (.c (.one (.st (.int .i64 1)))))
  .no, .mk (some 8) none (.mov (.t 28))
  .no])))))))))
theorem tr_comb_Run : trCode Tryz.prog 48 [] (Tryz.f24.body.getD .skip) = some ir_comb_Run := by kernel_rfl
theorem ac_comb_Run {xs : List AV} {r : AV} (hn : xs.length ≤ 48) (h : ∀ C : Ctx, C.n = 48 → IWP Tryz.prog C [] ir_comb_Run (FinQ [.cell 4 true 2, .t 5, .t 6] r) (AS.start xs)) : ACalls Tryz.prog 24 xs r :=
  acalls_of Tryz.func24 rfl tr_comb_Run rfl hn h
theorem acS_comb_Run {xs : List AV} {S S' : AStore} {r : AV} (hn : xs.length ≤ 48) (h : Clean S → ∀ C : Ctx, C.n = 48 → IWP Tryz.prog C [] ir_comb_Run (FinS C [.cell 4 true 2, .t 5, .t 6] r S') (AS.startS xs S)) : ACallsS Tryz.prog 24 xs S r S' :=
  acallsS_of Tryz.func24 rfl tr_comb_Run rfl hn h

def ir_term_Size : IR :=
  (.seq
  (.ops
  [.mk (some 1) none (.box 30 (.t 0)) .no, .mk (some 2) none (.mov (.c (.one (.st (.int .i64 0)))))
  .no])
  (.seq
  (.ops
  [.mk (some 3) none (.mov (.c (.one (.st (.int .i64 1)))))
  .no])
  (.seq
  (.seq
  (.ops
  [.mk (some 6) none (.fieldAddr 1 (.t 1)) .no, .mk (some 7) none (.load false 1 (.t 6))
  .no, .mk (some 8) none (.len false (.t 7)) .no, .mk (some 9) none (.mov (.c (.one (.st (.int .i64 0)))))
  .no])
  (.block 0
  (.loop
  (.seq
  (.ops
  [.mk (some 10) none (.bin .lss (.t 9) (.t 8)) .no])
  (.seq
  (.cond (.t 10) .skip (.exit 0))
  (.seq
  (.block 1
  (.seq
  (.ops
  [.mk (some 11) none
  (.indexAddr 2 (.t 7) (.t 9)) .no, .mk (some 12) none (.load true 2 (.t 11))
  .no, .mk (some 5) none
  (.alloc 30
  [.st (.str (ByteArray.mk (#[]))), .full []])
  .no, .mk none none (.store 2 (.t 5) (.t 12)) .no])
  (.ops
  [.mk (some 13) none (.mov (.t 3))
  .no, .mk (some 14) none (.load true 2 (.t 5))
  .no, .mk (some 15) none (.call 47 [.t 14])
  .no, .mk (some 16) none (.bin .add (.t 13) (.t 15)) .no, .mk (some 3) none (.mov (.t 16))
  .no])))
  (.ops
  [.mk (some 17) none (.bin .add (.t 9) (.c (.one (.st (.int .i64 1)))))
  .no, .mk (some 9) none (.mov (.t 17))
  .no])))))))
  (.seq
  (.ops
  [.mk (some 18) none (.mov (.t 3)) .no, .mk (some 2) none (.mov (.t 18)) .no])
  .ret))))
theorem tr_term_Size : trCode Tryz.prog 19 [] (Tryz.f47.body.getD .skip) = some ir_term_Size := by kernel_rfl
theorem ac_term_Size {xs : List AV} {r : AV} (hn : xs.length ≤ 19) (h : ∀ C : Ctx, C.n = 19 → IWP Tryz.prog C [] ir_term_Size (FinQ [.t 2] r) (AS.start xs)) : ACalls Tryz.prog 47 xs r :=
  acalls_of Tryz.func47 rfl tr_term_Size rfl hn h
theorem acS_term_Size {xs : List AV} {S S' : AStore} {r : AV} (hn : xs.length ≤ 19) (h : Clean S → ∀ C : Ctx, C.n = 19 → IWP Tryz.prog C [] ir_term_Size (FinS C [.t 2] r S') (AS.startS xs S)) : ACallsS Tryz.prog 47 xs S r S' :=
  acallsS_of Tryz.func47 rfl tr_term_Size rfl hn h

def ir_L_CombRuns : IR :=
  (.seq
  (.ops
  [.mk (some 2) none (.box 30 (.t 0)) .no, .mk (some 4) none (.mov (.c (.one (.st (.bool false)))))
  .no])
  (.seq
  (.seq
  (.ops
  [.mk (some 11) none (.load true 2 (.t 2)) .no, .mk (some 12) none (.call 21 [.t 11]) .no, .mk (some 13) none (.mov (.t 12)) .no, .mk (some 14) (some (13, false)) (.mov (.t 1))
  .no, .mk (some 15) (some (13, false)) (.bin .gtr (.t 14) (.c (.one (.st (.int .i64 30)))))
  .no, .mk (some 16) (some (13, false)) (.mov (.t 15))
  .no, .mk (some 17) (some (16, true)) (.mov (.t 1))
  .no, .mk (some 18) (some (16, true)) (.bin .leq (.t 17) (.c (.one (.st (.int .i64 400)))))
  .no, .mk (some 19) (some (13, false))
  (.pick (.t 16) (.t 18) (.c (.one (.st (.bool false)))))
  .no, .mk (some 20) none
  (.pick (.t 13) (.c (.one (.st (.bool true)))) (.t 19))
  .no])
  (.cond (.t 20)
  (.seq
  (.ops
  [.mk (some 4) none (.mov (.c (.one (.st (.bool true)))))
  .no])
  .ret)
  .skip))
  (.seq
  (.ops
  [.mk (some 21) none (.load true 2 (.t 2)) .no, .mk (some 22) none (.call 22 [.t 21]) .no, .mk (some 5) none (.mov (.t 22)) .no])
  (.seq
  (.seq
  (.ops
  [.mk (some 23) none (.mov (.t 5)) .no, .mk (some 24) none (.bin .eql (.t 23) (.c (.one (.st (.int .i64 0)))))
  .no, .mk (some 25) none (.mov (.t 24)) .no, .mk (some 26) (some (25, true)) (.load true 2 (.t 2))
  .no, .mk (some 27) (some (25, true)) (.call 8
  [.t 26, .c (.one (.st (.int .i64 60)))])
  .no, .mk (some 28) (some (25, true)) (.bin .gtr (.t 27) (.c (.one (.st (.int .i64 60)))))
  .no, .mk (some 29) none
  (.pick (.t 25) (.t 28) (.c (.one (.st (.bool false)))))
  .no])
  (.cond (.t 29)
  (.seq
  (.ops
  [.mk (some 4) none (.mov (.c (.one (.st (.bool true)))))
  .no])
  .ret)
  .skip))
  (.seq
  (.seq
  (.ops
  [.mk (some 30) none (.mov (.t 5)) .no, .mk (some 31) none (.bin .eql (.t 30) (.c (.one (.st (.int .i64 0)))))
  .no, .mk (some 32) none (.mov (.t 31)) .no, .mk (some 33) (some (32, true)) (.mov (.t 1))
  .no, .mk (some 34) (some (32, true)) (.bin .lss (.t 33) (.c (.one (.st (.int .i64 0)))))
  .no, .mk (some 35) (some (32, true)) (.mov (.t 34))
  .no, .mk (some 36) (some (35, false)) (.mov (.t 1))
  .no, .mk (some 37) (some (35, false)) (.bin .gtr (.t 36) (.c (.one (.st (.int .i64 400)))))
  .no, .mk (some 38) (some (32, true))
  (.pick (.t 35) (.c (.one (.st (.bool true)))) (.t 37))
  .no, .mk (some 39) none
  (.pick (.t 32) (.t 38) (.c (.one (.st (.bool false)))))
  .no])
  (.cond (.t 39)
  (.ops
  [.mk (some 5) none (.mov (.c (.one (.st (.int .i64 10)))))
  .no])
  .skip))
  (.seq
  (.ops
  [.mk (some 40) none
  (.build
  [.st (.str (ByteArray.mk (#[]))), .full []] [])
  .no, .mk (some 6) none
  (.alloc 30
  [.st (.str (ByteArray.mk (#[]))), .full []])
  .no, .mk none none (.store 2 (.t 6) (.t 40))
  .no])
  (.seq
  (.ops
  [.mk (some 7) none (.mov (.c (.one (.st (.int .i64 0)))))
  .no])
  (.seq
  (.seq
  (.ops
  [.mk (some 41) none (.mov (.t 5)) .no, .mk (some 42) none (.bin .eql (.t 41) (.c (.one (.st (.int .i64 0)))))
  .no])
  (.cond (.t 42)
  (.ops
  [.mk (some 44) none (.load true 2 (.t 2))
  .no, .mk (some 45) none (.mov (.t 1))
  .no, .mk (some 46) none (.call 23 [.t 44, .t 45]) .no, .mk (some 43) none (.mov (.t 46))
  .no, .mk (some 47) none (.extract 0 (.t 43))
  .no, .mk (some 48) none (.extract 1 (.t 43))
  .no, .mk (some 49) none (.extract 2 (.t 43))
  .no, .mk none none (.store 2 (.t 6) (.t 47)) .no, .mk (some 7) none (.mov (.t 48))
  .no, .mk (some 5) none (.mov (.t 49))
  .no])
  .skip))
  (.seq
  (.ops
  [.mk (some 51) none (.load true 2 (.t 2))
  .no, .mk (some 52) none (.mov (.t 1)) .no, .mk (some 53) none (.call 24 [.t 51, .t 52]) .no, .mk (some 50) none (.mov (.t 53))
  .no, .mk (some 54) none (.extract 0 (.t 50))
  .no, .mk (some 55) none (.extract 1 (.t 50))
  .no, .mk (some 56) none (.extract 2 (.t 50))
  .no, .mk (some 8) none
  (.alloc 30
  [.st (.str (ByteArray.mk (#[]))), .full []])
  .no, .mk none none (.store 2 (.t 8) (.t 54)) .no, .mk (some 9) none (.mov (.t 55)) .no, .mk (some 10) none (.mov (.t 56))
  .no])
  (.seq
  (.ops
  [.mk (some 57) none (.load true 2 (.t 8))
  .no, .mk (some 58) none (.mov (.t 10))
  .no, .mk (some 59) none (.load true 2 (.t 6))
  .no, .mk (some 60) none (.mov (.t 5))
  .no, .mk (some 61) none (.call 20
  [.t 57, .t 58, .t 59, .t 60])
  .no, .mk (some 62) none (.mov (.t 61))
  .no, .mk (some 63) (some (62, true)) (.mov (.t 9))
  .no, .mk (some 64) (some (62, true)) (.mov (.t 7))
  .no, .mk (some 65) (some (62, true)) (.bin .eql (.t 63) (.t 64)) .no, .mk (some 66) none
  (.pick (.t 62) (.t 65) (.c (.one (.st (.bool false)))))
  .no, .mk (some 4) none (.mov (.t 66))
  .no])
  .ret))))))))))
theorem tr_L_CombRuns : trCode Tryz.prog 67 [] (Tryz.f9.body.getD .skip) = some ir_L_CombRuns := by kernel_rfl
theorem ac_L_CombRuns {xs : List AV} {r : AV} (hn : xs.length ≤ 67) (h : ∀ C : Ctx, C.n = 67 → IWP Tryz.prog C [] ir_L_CombRuns (FinQ [.t 4] r) (AS.start xs)) : ACalls Tryz.prog 9 xs r :=
  acalls_of Tryz.func9 rfl tr_L_CombRuns rfl hn h
theorem acS_L_CombRuns {xs : List AV} {S S' : AStore} {r : AV} (hn : xs.length ≤ 67) (h : Clean S → ∀ C : Ctx, C.n = 67 → IWP Tryz.prog C [] ir_L_CombRuns (FinS C [.t 4] r S') (AS.startS xs S)) : ACallsS Tryz.prog 9 xs S r S' :=
  acallsS_of Tryz.func9 rfl tr_L_CombRuns rfl hn h

end Go.Proofs.YtbiadmlfejnbcaaGreatDoor

namespace Go.Proofs.YtbiadmlfejnbcaaGreatDoor
open Go Go.RowKit
set_option linter.unusedVariables false
set_option linter.unusedSimpArgs false
set_option maxHeartbeats 400000

theorem tsize_a (t : Tm) (hz : t.size ≤ 1000000) : ACalls Tryz.prog 47 [aTm t] (aInt t.size) := by
  induction h : SizeOf.sizeOf t using Nat.strongRecOn generalizing t with
  | _ N ih =>
  subst h
  have hs := Tm.size_eq t
  have hkn := Tm.length_le t.args
  refine ac_term_Size (Nat.le_of_ble_eq_true rfl) fun C hC => ?_
  unfold ir_term_Size
  repeat' (first | (with_reducible first | refine Wa ?_ | refine Wb ?_ | refine Wc ?_ | refine Wd ?_ | refine We ?_ | refine Wf ?_ | refine Wg ?_ | refine Wh ?_ | refine Wi ?_ | refine Wj ?_ | refine Wk (by decide) ?_ | refine Wl ?_ | refine Wm ?_ | refine Wn ?_) | ((with_reducible first | refine Wo (fun K hK => ?_) | refine Wp ?_ | refine Wq ?_ | refine Wr ?_); (try simp only [go_sem, List.forall_mem_nil, ↓guard_ite, ↓pick_ite, seval, encT_eq, inR_i64, decide_eq_true_eq, decide_eq_false_iff_not, Int.ofNat_lt]); (repeat with_reducible refine And.intro (by first | omega | with_reducible exact lens_encT | with_reducible exact lens_encL | (simp; done) | (simp only [List.length_take, List.length_map, List.length_append, maxLen_eq]; omega)) ?_); (try (with_reducible refine hK _ ?_; clear hK K)); (try with_reducible refine ite_conj ?_)))
  refine IWP.loopD [5] (fun n s => ∃ k, k ≤ t.args.length ∧ n = t.args.length - k ∧ s.env 3 = aInt ((1 + Tm.sizes (t.args.take k) : Nat)) ∧ s.env 7 = .one (.st (.list (t.args.map encT))) ∧ s.env 8 = aInt t.args.length ∧ s.env 9 = aInt k ∧ s.S 5 = none) t.args.length ⟨0, Nat.zero_le _, rfl, rfl, rfl, rfl, rfl, rfl⟩ ?_
  rintro n ⟨env, S⟩ ⟨k, hk, rfl, e3, e7, e8, e9, s5⟩
  simp only at e3 e7 e8 e9 s5
  by_cases hlt : (k : Int) < t.args.length
  · obtain ⟨a, ha⟩ := get_lt (show k < t.args.length by omega)
    have z1 := Tm.sizes_take ha
    have z2 := Tm.sizes_take_le t.args (k + 1)
    have z3 := Tm.size_mem (mem_of_get ha)
    repeat' (first | (with_reducible first | refine Wa ?_ | refine Wb ?_ | refine Wc ?_ | refine Wd ?_ | refine We ?_ | refine Wf ?_ | refine Wg ?_ | refine Wh ?_ | refine Wi ?_ | refine Wj ?_ | refine Wk (by decide) ?_ | refine Wl ?_ | refine Wm ?_ | refine Wn ?_) | refine CallG.mk _ (ih _ (Tm.lt_of_arg (mem_of_get ha)) a (by omega) rfl) ?_ | ((with_reducible first | refine Wo (fun K hK => ?_) | refine Wp ?_ | refine Wq ?_ | refine Wr ?_); (try simp only [go_sem, List.forall_mem_nil, ↓guard_ite, ↓pick_ite, seval, encT_eq, inR_i64, e3, e7, e8, e9, s5, ha, hlt, decide_eq_true_eq, decide_eq_false_iff_not, Int.ofNat_lt]); (repeat with_reducible refine And.intro (by first | omega | with_reducible exact lens_encT | with_reducible exact lens_encL | (simp; done) | (simp only [List.length_take, List.length_map, List.length_append, maxLen_eq]; omega)) ?_); (try (with_reducible refine hK _ ?_; clear hK K)); (try with_reducible refine ite_conj ?_)))
    refine then_normal ⟨t.args.length - (k + 1), by omega, k + 1, by omega, rfl, ?_⟩
    simp only [go_sem, List.forall_mem_nil, ↓guard_ite, ↓pick_ite, seval, AS.drop, dropS, AC.clears, AC.clear, AC.highs, AC.high, Bool.not_false, Bool.true_and, Bool.and_self, AV.purge, AV.purges, AC.purge, ABlk.purge, List.contains_cons, List.contains_nil, Nat.reduceBEq, Bool.or_self, Bool.or_false, Bool.false_or, Bool.or_true, encT_eq, inR_i64, e3, e7, e8, e9, s5]
    exact ⟨by rw [z1]; congr 3; omega, by congr 3⟩
  · rw [List.take_of_length_le (by omega), ← hs] at e3
    repeat' (first | (with_reducible first | refine Wa ?_ | refine Wb ?_ | refine Wc ?_ | refine Wd ?_ | refine We ?_ | refine Wf ?_ | refine Wg ?_ | refine Wh ?_ | refine Wi ?_ | refine Wj ?_ | refine Wk (by decide) ?_ | refine Wl ?_ | refine Wm ?_ | refine Wn ?_) | ((with_reducible first | refine Wo (fun K hK => ?_) | refine Wp ?_ | refine Wq ?_ | refine Wr ?_); (try simp only [go_sem, List.forall_mem_nil, ↓guard_ite, ↓pick_ite, seval, encT_eq, inR_i64, e3, e7, e8, e9, s5, hlt, decide_eq_true_eq, decide_eq_false_iff_not, Int.ofNat_lt]); (repeat with_reducible refine And.intro (by first | omega | with_reducible exact lens_encT | with_reducible exact lens_encL | (simp; done) | (simp only [List.length_take, List.length_map, List.length_append, maxLen_eq]; omega)) ?_); (try (with_reducible refine hK _ ?_; clear hK K)); (try with_reducible refine ite_conj ?_)))
    simp only [go_sem, List.forall_mem_nil, ↓guard_ite, ↓pick_ite, seval, FinQ, AS.result, resAll, resOne, tupV, e3]

theorem apC_a (f x : Tm) : ACalls Tryz.prog 62 [aTm f, aTm x] (aTm (ap2 f x)) := by
  refine ac_comb_ap (Nat.le_of_ble_eq_true rfl) fun C hC => ?_
  unfold ir_comb_ap
  repeat' (first | (with_reducible first | refine Wa ?_ | refine Wb ?_ | refine Wc ?_ | refine Wd ?_ | refine We ?_ | refine Wf ?_ | refine Wg ?_ | refine Wh ?_ | refine Wi ?_ | refine Wj ?_ | refine Wk (by decide) ?_ | refine Wl ?_ | refine Wm ?_ | refine Wn ?_) | ((with_reducible first | refine Wo (fun K hK => ?_) | refine Wp ?_ | refine Wq ?_ | refine Wr ?_); (try simp only [go_sem, List.forall_mem_nil, ↓guard_ite, ↓pick_ite, seval, encT_eq, inR_i64, decide_eq_true_eq, decide_eq_false_iff_not, Int.ofNat_lt]); (repeat with_reducible refine And.intro (by first | omega | with_reducible exact lens_encT | with_reducible exact lens_encL | (simp; done) | (simp only [List.length_take, List.length_map, List.length_append, maxLen_eq]; omega)) ?_); (try (with_reducible refine hK _ ?_; clear hK K)); (try with_reducible refine ite_conj ?_)))
  simp only [go_sem, List.forall_mem_nil, ↓guard_ite, ↓pick_ite, seval, FinQ, AS.result, resAll, resOne, tupV]
  simp [ap2, apS, Tm.name_mk, Tm.args_mk, encT_eq]
theorem put2_a (f x : Tm) : ACalls Tryz.prog 11 [aTm f, aTm x] (aTm (ap2 f x)) := by
  refine ac_R_Put2 (Nat.le_of_ble_eq_true rfl) fun C hC => ?_
  unfold ir_R_Put2
  repeat' (first | (with_reducible first | refine Wa ?_ | refine Wb ?_ | refine Wc ?_ | refine Wd ?_ | refine We ?_ | refine Wf ?_ | refine Wg ?_ | refine Wh ?_ | refine Wi ?_ | refine Wj ?_ | refine Wk (by decide) ?_ | refine Wl ?_ | refine Wm ?_ | refine Wn ?_) | ((with_reducible first | refine Wo (fun K hK => ?_) | refine Wp ?_ | refine Wq ?_ | refine Wr ?_); (try simp only [go_sem, List.forall_mem_nil, ↓guard_ite, ↓pick_ite, seval, encT_eq, inR_i64, decide_eq_true_eq, decide_eq_false_iff_not, Int.ofNat_lt]); (repeat with_reducible refine And.intro (by first | omega | with_reducible exact lens_encT | with_reducible exact lens_encL | (simp; done) | (simp only [List.length_take, List.length_map, List.length_append, maxLen_eq]; omega)) ?_); (try (with_reducible refine hK _ ?_; clear hK K)); (try with_reducible refine ite_conj ?_)))
  simp only [go_sem, List.forall_mem_nil, ↓guard_ite, ↓pick_ite, seval, FinQ, AS.result, resAll, resOne, tupV]
  simp [ap2, apS, Tm.name_mk, Tm.args_mk, encT_eq]
def formE (b : Bool) : Int := if b then 0 else 2
theorem form_a (t : Tm) (hz : t.size ≤ 1000000) : ACalls Tryz.prog 54 [aTm t] (aInt (formE t.fm)) := by
  induction h : SizeOf.sizeOf t using Nat.strongRecOn generalizing t with
  | _ N ih =>
  subst h
  have hs := Tm.size_eq t
  have hlen := Tm.length_le t.args
  rw [Tm.fm_eq]
  by_cases h0 : t.args = []
  · refine ac_comb_form (Nat.le_of_ble_eq_true rfl) fun C hC => ?_
    unfold ir_comb_form
    repeat' (first | (with_reducible first | refine Wa ?_ | refine Wb ?_ | refine Wc ?_ | refine Wd ?_ | refine We ?_ | refine Wf ?_ | refine Wg ?_ | refine Wh ?_ | refine Wi ?_ | refine Wj ?_ | refine Wk (by decide) ?_ | refine Wl ?_ | refine Wm ?_ | refine Wn ?_) | ((with_reducible first | refine Wo (fun K hK => ?_) | refine Wp ?_ | refine Wq ?_ | refine Wr ?_); (try simp only [go_sem, List.forall_mem_nil, ↓guard_ite, ↓pick_ite, seval, encT_eq, inR_i64, h0, Int.cast_ofNat_Int, decide_eq_true_eq, decide_eq_false_iff_not, Int.ofNat_lt]); (repeat with_reducible refine And.intro (by first | omega | with_reducible exact lens_encT | with_reducible exact lens_encL | (simp; done) | (simp only [List.length_take, List.length_map, List.length_append, maxLen_eq]; omega)) ?_); (try (with_reducible refine hK _ ?_; clear hK K)); (try with_reducible refine ite_conj ?_)))
    simp only [go_sem, List.forall_mem_nil, ↓guard_ite, ↓pick_ite, seval, FinQ, AS.result, resAll, resOne, tupV]
    simp [formE, fmOne, h0, Tm.fms]
  have h0' : ¬ (t.args.length : Int) = 0 := fun e => h0 (List.eq_nil_of_length_eq_zero (by omega))
  by_cases h1 : t.name = apS
  case neg =>
    have h1' : ¬ t.name = ⟨#[97, 112]⟩ := h1
    refine ac_comb_form (Nat.le_of_ble_eq_true rfl) fun C hC => ?_
    unfold ir_comb_form
    repeat' (first | (with_reducible first | refine Wa ?_ | refine Wb ?_ | refine Wc ?_ | refine Wd ?_ | refine We ?_ | refine Wf ?_ | refine Wg ?_ | refine Wh ?_ | refine Wi ?_ | refine Wj ?_ | refine Wk (by decide) ?_ | refine Wl ?_ | refine Wm ?_ | refine Wn ?_) | ((with_reducible first | refine Wo (fun K hK => ?_) | refine Wp ?_ | refine Wq ?_ | refine Wr ?_); (try simp only [go_sem, List.forall_mem_nil, ↓guard_ite, ↓pick_ite, seval, encT_eq, inR_i64, h0', h1', decide_eq_true_eq, decide_eq_false_iff_not, Int.ofNat_lt]); (repeat with_reducible refine And.intro (by first | omega | with_reducible exact lens_encT | with_reducible exact lens_encL | (simp; done) | (simp only [List.length_take, List.length_map, List.length_append, maxLen_eq]; omega)) ?_); (try (with_reducible refine hK _ ?_; clear hK K)); (try with_reducible refine ite_conj ?_)))
    simp only [go_sem, List.forall_mem_nil, ↓guard_ite, ↓pick_ite, seval, FinQ, AS.result, resAll, resOne, tupV]
    simp [formE, fmOne, h0, h1]
  case pos =>
  have h1' : t.name = ⟨#[97, 112]⟩ := h1
  by_cases h2 : (t.args.length : Int) = 2
  case neg =>
    have h2' : ¬ t.args.length = 2 := by omega
    refine ac_comb_form (Nat.le_of_ble_eq_true rfl) fun C hC => ?_
    unfold ir_comb_form
    repeat' (first | (with_reducible first | refine Wa ?_ | refine Wb ?_ | refine Wc ?_ | refine Wd ?_ | refine We ?_ | refine Wf ?_ | refine Wg ?_ | refine Wh ?_ | refine Wi ?_ | refine Wj ?_ | refine Wk (by decide) ?_ | refine Wl ?_ | refine Wm ?_ | refine Wn ?_) | ((with_reducible first | refine Wo (fun K hK => ?_) | refine Wp ?_ | refine Wq ?_ | refine Wr ?_); (try simp only [go_sem, List.forall_mem_nil, ↓guard_ite, ↓pick_ite, seval, encT_eq, inR_i64, h0', h1', h2, decide_eq_true_eq, decide_eq_false_iff_not, Int.ofNat_lt]); (repeat with_reducible refine And.intro (by first | omega | with_reducible exact lens_encT | with_reducible exact lens_encL | (simp; done) | (simp only [List.length_take, List.length_map, List.length_append, maxLen_eq]; omega)) ?_); (try (with_reducible refine hK _ ?_; clear hK K)); (try with_reducible refine ite_conj ?_)))
    simp only [go_sem, List.forall_mem_nil, ↓guard_ite, ↓pick_ite, seval, FinQ, AS.result, resAll, resOne, tupV]
    simp [formE, fmOne, h0, h2']
  case pos =>
  have h2' : t.args.length = 2 := by omega
  obtain ⟨f, x, hfx⟩ : ∃ f x, t.args = [f, x] := by
    match hx : t.args, h2' with
    | [f, x], _ => exact ⟨f, x, rfl⟩
  have hf : f ∈ t.args := by rw [hfx]; simp
  have hx : x ∈ t.args := by rw [hfx]; simp
  have sf := Tm.size_mem hf
  have sx := Tm.size_mem hx
  have hone : fmOne t = true := by simp [fmOne, h1, h2']
  rw [hone, hfx]
  refine ac_comb_form (Nat.le_of_ble_eq_true rfl) fun C hC => ?_
  unfold ir_comb_form
  repeat' (first | (with_reducible first | refine Wa ?_ | refine Wb ?_ | refine Wc ?_ | refine Wd ?_ | refine We ?_ | refine Wf ?_ | refine Wg ?_ | refine Wh ?_ | refine Wi ?_ | refine Wj ?_ | refine Wk (by decide) ?_ | refine Wl ?_ | refine Wm ?_ | refine Wn ?_) | refine CallG.mk _ (ih _ (Tm.lt_of_arg hf) f (by omega) rfl) ?_ | ((with_reducible first | refine Wo (fun K hK => ?_) | refine Wp ?_ | refine Wq ?_ | refine Wr ?_); (try simp only [go_sem, List.forall_mem_nil, ↓guard_ite, ↓pick_ite, seval, encT_eq, inR_i64, hfx, h1', Int.cast_ofNat_Int, decide_eq_true_eq, decide_eq_false_iff_not, Int.ofNat_lt]); (repeat with_reducible refine And.intro (by first | omega | with_reducible exact lens_encT | with_reducible exact lens_encL | (simp; done) | (simp only [List.length_take, List.length_map, List.length_append, maxLen_eq]; omega)) ?_); (try (with_reducible refine hK _ ?_; clear hK K)); (try with_reducible refine ite_conj ?_)))
  refine ⟨_, ih _ (Tm.lt_of_arg hx) x (by omega) rfl, ?_⟩
  cases q1 : f.fm <;> cases q2 : x.fm
  all_goals
    repeat' (first | (with_reducible first | refine Wa ?_ | refine Wb ?_ | refine Wc ?_ | refine Wd ?_ | refine We ?_ | refine Wf ?_ | refine Wg ?_ | refine Wh ?_ | refine Wi ?_ | refine Wj ?_ | refine Wk (by decide) ?_ | refine Wl ?_ | refine Wm ?_ | refine Wn ?_) | ((with_reducible first | refine Wo (fun K hK => ?_) | refine Wp ?_ | refine Wq ?_ | refine Wr ?_); (try simp only [go_sem, List.forall_mem_nil, ↓guard_ite, ↓pick_ite, seval, encT_eq, inR_i64, formE, decide_eq_true_eq, decide_eq_false_iff_not, Int.ofNat_lt]); (repeat with_reducible refine And.intro (by first | omega | with_reducible exact lens_encT | with_reducible exact lens_encL | (simp; done) | (simp only [List.length_take, List.length_map, List.length_append, maxLen_eq]; omega)) ?_); (try (with_reducible refine hK _ ?_; clear hK K)); (try with_reducible refine ite_conj ?_)))
    simp only [go_sem, List.forall_mem_nil, ↓guard_ite, ↓pick_ite, seval, FinQ, AS.result, resAll, resOne, tupV]
    simp [formE, Tm.fms, q1, q2]
def combMay (t : Tm) : Int := if t.may = 0 then formE t.fm else t.may
theorem combCheck_a (t : Tm) : ACalls Tryz.prog 28 [aTm t] (aInt (combMay t)) := by
  refine ac_comb_Check (Nat.le_of_ble_eq_true rfl) fun C hC => ?_
  unfold ir_comb_Check
  unfold combMay
  by_cases h : t.may = 0
  · have hz : t.size ≤ 200 := by
      unfold Tm.may at h
      split at h <;> omega
    rw [if_pos h]
    repeat' (first | (with_reducible first | refine Wa ?_ | refine Wb ?_ | refine Wc ?_ | refine Wd ?_ | refine We ?_ | refine Wf ?_ | refine Wg ?_ | refine Wh ?_ | refine Wi ?_ | refine Wj ?_ | refine Wk (by decide) ?_ | refine Wl ?_ | refine Wm ?_ | refine Wn ?_) | refine CallG.mk _ (checkT_a t) ?_ | refine CallG.mk _ (form_a t (by omega)) ?_ | ((with_reducible first | refine Wo (fun K hK => ?_) | refine Wp ?_ | refine Wq ?_ | refine Wr ?_); (try simp only [go_sem, List.forall_mem_nil, ↓guard_ite, ↓pick_ite, seval, encT_eq, inR_i64, h, decide_eq_true_eq, decide_eq_false_iff_not, Int.ofNat_lt]); (repeat with_reducible refine And.intro (by first | omega | with_reducible exact lens_encT | with_reducible exact lens_encL | (simp; done) | (simp only [List.length_take, List.length_map, List.length_append, maxLen_eq]; omega)) ?_); (try (with_reducible refine hK _ ?_; clear hK K)); (try with_reducible refine ite_conj ?_)))
    simp only [go_sem, List.forall_mem_nil, ↓guard_ite, ↓pick_ite, seval, FinQ, AS.result, resAll, resOne, tupV]
  · rw [if_neg h]
    repeat' (first | (with_reducible first | refine Wa ?_ | refine Wb ?_ | refine Wc ?_ | refine Wd ?_ | refine We ?_ | refine Wf ?_ | refine Wg ?_ | refine Wh ?_ | refine Wi ?_ | refine Wj ?_ | refine Wk (by decide) ?_ | refine Wl ?_ | refine Wm ?_ | refine Wn ?_) | refine CallG.mk _ (checkT_a t) ?_ | ((with_reducible first | refine Wo (fun K hK => ?_) | refine Wp ?_ | refine Wq ?_ | refine Wr ?_); (try simp only [go_sem, List.forall_mem_nil, ↓guard_ite, ↓pick_ite, seval, encT_eq, inR_i64, h, decide_eq_true_eq, decide_eq_false_iff_not, Int.ofNat_lt]); (repeat with_reducible refine And.intro (by first | omega | with_reducible exact lens_encT | with_reducible exact lens_encL | (simp; done) | (simp only [List.length_take, List.length_map, List.length_append, maxLen_eq]; omega)) ?_); (try (with_reducible refine hK _ ?_; clear hK K)); (try with_reducible refine ite_conj ?_)))
    simp only [go_sem, List.forall_mem_nil, ↓guard_ite, ↓pick_ite, seval, FinQ, AS.result, resAll, resOne, tupV]

theorem may_size {t : Tm} (h : t.may = 0) : t.size ≤ 200 := by
  unfold Tm.may at h
  split at h <;> omega
/-- All the first ones are of the form. -/
theorem all_take {l : List Tm} {k : Nat} {a : Tm} (ha : l[k]? = some a) (h : (l.take k).all fmOne = true) : (l.take (k + 1)).all fmOne = fmOne a := by
  rw [take_snoc ha, List.all_append, h]
  simp
theorem all_no {l : List Tm} {k : Nat} (h : (l.take k).all fmOne = false) : l.all fmOne = false := by
  have := List.all_append (xs := l.take k) (ys := l.drop k) (f := fmOne)
  rw [List.take_append_drop, h] at this
  simpa using this
theorem combMayR_a (t : Tm) : ACalls Tryz.prog 22 [aTm t] (aInt (combMay t)) := by
  refine ac_R_CombMay (Nat.le_of_ble_eq_true rfl) fun C hC => ?_
  unfold ir_R_CombMay
  unfold combMay
  by_cases h : t.may = 0
  case neg =>
    rw [if_neg h]
    repeat' (first | (with_reducible first | refine Wa ?_ | refine Wb ?_ | refine Wc ?_ | refine Wd ?_ | refine We ?_ | refine Wf ?_ | refine Wg ?_ | refine Wh ?_ | refine Wi ?_ | refine Wj ?_ | refine Wk (by decide) ?_ | refine Wl ?_ | refine Wm ?_ | refine Wn ?_) | refine CallG.mk _ (termMay_a t) ?_ | ((with_reducible first | refine Wo (fun K hK => ?_) | refine Wp ?_ | refine Wq ?_ | refine Wr ?_); (try simp only [go_sem, List.forall_mem_nil, ↓guard_ite, ↓pick_ite, seval, encT_eq, inR_i64, h, decide_eq_true_eq, decide_eq_false_iff_not, Int.ofNat_lt]); (repeat with_reducible refine And.intro (by first | omega | with_reducible exact lens_encT | with_reducible exact lens_encL | (simp; done) | (simp only [List.length_take, List.length_map, List.length_append, maxLen_eq]; omega)) ?_); (try (with_reducible refine hK _ ?_; clear hK K)); (try with_reducible refine ite_conj ?_)))
    simp only [go_sem, List.forall_mem_nil, ↓guard_ite, ↓pick_ite, seval, FinQ, AS.result, resAll, resOne, tupV]
  case pos =>
  have hz := may_size h
  rw [if_pos h, Tm.fm_knots]
  have hkl := Tm.knots_length t
  have hKn := knots_a t (by omega)
  generalize t.knots = l at *
  repeat' (first | (with_reducible first | refine Wa ?_ | refine Wb ?_ | refine Wc ?_ | refine Wd ?_ | refine We ?_ | refine Wf ?_ | refine Wg ?_ | refine Wh ?_ | refine Wi ?_ | refine Wj ?_ | refine Wk (by decide) ?_ | refine Wl ?_ | refine Wm ?_ | refine Wn ?_) | refine CallG.mk _ (termMay_a t) ?_ | refine CallG.mk _ (hKn) ?_ | ((with_reducible first | refine Wo (fun K hK => ?_) | refine Wp ?_ | refine Wq ?_ | refine Wr ?_); (try simp only [go_sem, List.forall_mem_nil, ↓guard_ite, ↓pick_ite, seval, encT_eq, inR_i64, h, decide_eq_true_eq, decide_eq_false_iff_not, Int.ofNat_lt]); (repeat with_reducible refine And.intro (by first | omega | with_reducible exact lens_encT | with_reducible exact lens_encL | (simp; done) | (simp only [List.length_take, List.length_map, List.length_append, maxLen_eq]; omega)) ?_); (try (with_reducible refine hK _ ?_; clear hK K)); (try with_reducible refine ite_conj ?_)))
  refine IWP.loop (fun n s => ∃ k, k ≤ l.length ∧ n = l.length - k ∧ (l.take k).all fmOne = true ∧ s.env 4 = aTms l ∧ s.env 5 = aInt k) l.length ⟨0, Nat.zero_le _, rfl, rfl, rfl, rfl⟩ ?_
  rintro n ⟨env, S⟩ ⟨k, hk, rfl, hp, e4, e5⟩
  simp only at e4 e5
  by_cases hlt : (k : Int) < l.length
  · obtain ⟨a, ha⟩ := get_lt (show k < l.length by omega)
    have hcase : (¬ 0 < (a.args.length : Int) ∧ fmOne a = true) ∨ (0 < (a.args.length : Int) ∧ ¬ a.name = apS ∧ fmOne a = false) ∨ (0 < (a.args.length : Int) ∧ a.name = apS ∧ (a.args.length : Int) = 2 ∧ fmOne a = true) ∨ (0 < (a.args.length : Int) ∧ a.name = apS ∧ ¬ (a.args.length : Int) = 2 ∧ fmOne a = false) := by
      by_cases g0 : 0 < (a.args.length : Int)
      · have g0' : ¬ a.args = [] := fun e => by rw [e] at g0; simp at g0
        by_cases g1 : a.name = apS
        · by_cases g2 : (a.args.length : Int) = 2
          · exact Or.inr (Or.inr (Or.inl ⟨g0, g1, g2, by simp [fmOne, g1, show a.args.length = 2 by omega]⟩))
          · exact Or.inr (Or.inr (Or.inr ⟨g0, g1, g2, by simp [fmOne, g0', show ¬ a.args.length = 2 by omega]⟩))
        · exact Or.inr (Or.inl ⟨g0, g1, by simp [fmOne, g0', g1]⟩)
      · exact Or.inl ⟨g0, by simp [fmOne, List.eq_nil_of_length_eq_zero (show a.args.length = 0 by omega)]⟩
    rcases hcase with ⟨g0, g3⟩ | ⟨g0, g1, g3⟩ | ⟨g0, g1, g2, g3⟩ | ⟨g0, g1, g2, g3⟩
    · repeat' (first | (with_reducible first | refine Wa ?_ | refine Wb ?_ | refine Wc ?_ | refine Wd ?_ | refine We ?_ | refine Wf ?_ | refine Wg ?_ | refine Wh ?_ | refine Wi ?_ | refine Wj ?_ | refine Wk (by decide) ?_ | refine Wl ?_ | refine Wm ?_ | refine Wn ?_) | ((with_reducible first | refine Wo (fun K hK => ?_) | refine Wp ?_ | refine Wq ?_ | refine Wr ?_); (try simp only [go_sem, List.forall_mem_nil, ↓guard_ite, ↓pick_ite, seval, encT_eq, inR_i64, e4, e5, ha, hlt, g0, decide_eq_true_eq, decide_eq_false_iff_not, Int.ofNat_lt]); (repeat with_reducible refine And.intro (by first | omega | with_reducible exact lens_encT | with_reducible exact lens_encL | (simp; done) | (simp only [List.length_take, List.length_map, List.length_append, maxLen_eq]; omega)) ?_); (try (with_reducible refine hK _ ?_; clear hK K)); (try with_reducible refine ite_conj ?_)))
      refine then_normal ⟨l.length - (k + 1), by omega, k + 1, by omega, rfl, ?_⟩
      simp only [go_sem, List.forall_mem_nil, ↓guard_ite, ↓pick_ite, seval, encT_eq, inR_i64, e4, e5]
      exact ⟨by rw [all_take ha hp, g3], by congr 3⟩
    · have g1' : ¬ a.name = ⟨#[97, 112]⟩ := g1
      repeat' (first | (with_reducible first | refine Wa ?_ | refine Wb ?_ | refine Wc ?_ | refine Wd ?_ | refine We ?_ | refine Wf ?_ | refine Wg ?_ | refine Wh ?_ | refine Wi ?_ | refine Wj ?_ | refine Wk (by decide) ?_ | refine Wl ?_ | refine Wm ?_ | refine Wn ?_) | ((with_reducible first | refine Wo (fun K hK => ?_) | refine Wp ?_ | refine Wq ?_ | refine Wr ?_); (try simp only [go_sem, List.forall_mem_nil, ↓guard_ite, ↓pick_ite, seval, encT_eq, inR_i64, e4, e5, ha, hlt, g0, g1', decide_eq_true_eq, decide_eq_false_iff_not, Int.ofNat_lt]); (repeat with_reducible refine And.intro (by first | omega | with_reducible exact lens_encT | with_reducible exact lens_encL | (simp; done) | (simp only [List.length_take, List.length_map, List.length_append, maxLen_eq]; omega)) ?_); (try (with_reducible refine hK _ ?_; clear hK K)); (try with_reducible refine ite_conj ?_)))
      simp only [go_sem, List.forall_mem_nil, ↓guard_ite, ↓pick_ite, seval, FinQ, AS.result, resAll, resOne, tupV]
      rw [all_no (k := k + 1) (by rw [all_take ha hp, g3])]
      rfl
    · have g1' : a.name = ⟨#[97, 112]⟩ := g1
      repeat' (first | (with_reducible first | refine Wa ?_ | refine Wb ?_ | refine Wc ?_ | refine Wd ?_ | refine We ?_ | refine Wf ?_ | refine Wg ?_ | refine Wh ?_ | refine Wi ?_ | refine Wj ?_ | refine Wk (by decide) ?_ | refine Wl ?_ | refine Wm ?_ | refine Wn ?_) | ((with_reducible first | refine Wo (fun K hK => ?_) | refine Wp ?_ | refine Wq ?_ | refine Wr ?_); (try simp only [go_sem, List.forall_mem_nil, ↓guard_ite, ↓pick_ite, seval, encT_eq, inR_i64, e4, e5, ha, hlt, g0, g1', g2, decide_eq_true_eq, decide_eq_false_iff_not, Int.ofNat_lt]); (repeat with_reducible refine And.intro (by first | omega | with_reducible exact lens_encT | with_reducible exact lens_encL | (simp; done) | (simp only [List.length_take, List.length_map, List.length_append, maxLen_eq]; omega)) ?_); (try (with_reducible refine hK _ ?_; clear hK K)); (try with_reducible refine ite_conj ?_)))
      refine then_normal ⟨l.length - (k + 1), by omega, k + 1, by omega, rfl, ?_⟩
      simp only [go_sem, List.forall_mem_nil, ↓guard_ite, ↓pick_ite, seval, encT_eq, inR_i64, e4, e5]
      exact ⟨by rw [all_take ha hp, g3], by congr 3⟩
    · have g1' : a.name = ⟨#[97, 112]⟩ := g1
      repeat' (first | (with_reducible first | refine Wa ?_ | refine Wb ?_ | refine Wc ?_ | refine Wd ?_ | refine We ?_ | refine Wf ?_ | refine Wg ?_ | refine Wh ?_ | refine Wi ?_ | refine Wj ?_ | refine Wk (by decide) ?_ | refine Wl ?_ | refine Wm ?_ | refine Wn ?_) | ((with_reducible first | refine Wo (fun K hK => ?_) | refine Wp ?_ | refine Wq ?_ | refine Wr ?_); (try simp only [go_sem, List.forall_mem_nil, ↓guard_ite, ↓pick_ite, seval, encT_eq, inR_i64, e4, e5, ha, hlt, g0, g1', g2, decide_eq_true_eq, decide_eq_false_iff_not, Int.ofNat_lt]); (repeat with_reducible refine And.intro (by first | omega | with_reducible exact lens_encT | with_reducible exact lens_encL | (simp; done) | (simp only [List.length_take, List.length_map, List.length_append, maxLen_eq]; omega)) ?_); (try (with_reducible refine hK _ ?_; clear hK K)); (try with_reducible refine ite_conj ?_)))
      simp only [go_sem, List.forall_mem_nil, ↓guard_ite, ↓pick_ite, seval, FinQ, AS.result, resAll, resOne, tupV]
      rw [all_no (k := k + 1) (by rw [all_take ha hp, g3])]
      rfl
  · rw [List.take_of_length_le (by omega)] at hp
    rw [hp]
    repeat' (first | (with_reducible first | refine Wa ?_ | refine Wb ?_ | refine Wc ?_ | refine Wd ?_ | refine We ?_ | refine Wf ?_ | refine Wg ?_ | refine Wh ?_ | refine Wi ?_ | refine Wj ?_ | refine Wk (by decide) ?_ | refine Wl ?_ | refine Wm ?_ | refine Wn ?_) | ((with_reducible first | refine Wo (fun K hK => ?_) | refine Wp ?_ | refine Wq ?_ | refine Wr ?_); (try simp only [go_sem, List.forall_mem_nil, ↓guard_ite, ↓pick_ite, seval, encT_eq, inR_i64, e4, e5, hlt, decide_eq_true_eq, decide_eq_false_iff_not, Int.ofNat_lt]); (repeat with_reducible refine And.intro (by first | omega | with_reducible exact lens_encT | with_reducible exact lens_encL | (simp; done) | (simp only [List.length_take, List.length_map, List.length_append, maxLen_eq]; omega)) ?_); (try (with_reducible refine hK _ ?_; clear hK K)); (try with_reducible refine ite_conj ?_)))
    simp only [go_sem, List.forall_mem_nil, ↓guard_ite, ↓pick_ite, seval, FinQ, AS.result, resAll, resOne, tupV]
    rfl
theorem finS_same {C : Ctx} {rs : List RV} {r : AV} {e : AX} {s : AS} {S : AStore} (r0 : AV) (hS : Clean S) (he : match e with | .normal => True | .ret => True | _ => False)
    (h1 : (resAll s rs).map tupV = some r0) (h2 : outV s.S r0 = some r) (h4 : ∀ i, 1000 ≤ i → s.S i = S i) : FinS C rs r S e s :=
  finS_low he r0 h1 h2 (fun i b hi hb => (hS i b (by rw [← h4 i hi]; exact hb)).2) (by
    funext i
    unfold lowS
    split
    · exact (clean_none hS (by omega)).symm
    · exact h4 i (by omega)) hS
/-- The i-th from a row's end, as the closure tells it. -/
theorem at_S (ws : List Tm) (i : Nat) (x : Tm) (hi : i < ws.length) (hx : ws[ws.length - 1 - i]? = some x) (hl : ws.length ≤ 1000000) (b r c : Nat) (hb : 1000 ≤ b) (hr : 1000 ≤ r) (hc : 1000 ≤ c) (S : AStore)
    (sb : S b = some (.box 28 [.row r ws.length])) (sr : S r = some (.mrow 30 2 (ws.map encT))) (sc : S c = some (.box 3 [.st (.int .i64 ws.length)])) :
    ACallsS Tryz.prog 64 [aInt i, .one (.ptr b 1 0 0), .one (.ptr c 1 0 0)] S (aTm x) S := by
  refine acS_comb_step_1 (Nat.le_of_ble_eq_true rfl) fun hS C hC => ?_
  unfold ir_comb_step_1
  have s4 : S 4 = none := clean_none hS (by omega)
  have b4 : ¬ b = 4 := by omega
  have r4 : ¬ r = 4 := by omega
  have c4 : ¬ c = 4 := by omega
  have hto : ((ws.length : Int) - 1 - i).toNat = ws.length - 1 - i := by omega
  have h0 : 0 ≤ (ws.length : Int) - 1 - i := by omega
  have hlt : ws.length - 1 - i < ws.length := by omega
  repeat' (first | (with_reducible first | refine Wa ?_ | refine Wb ?_ | refine Wc ?_ | refine Wd ?_ | refine We ?_ | refine Wf ?_ | refine Wg ?_ | refine Wh ?_ | refine Wi ?_ | refine Wj ?_ | refine Wk (by decide) ?_ | refine Wl ?_ | refine Wm ?_ | refine Wn ?_) | ((with_reducible first | refine Wo (fun K hK => ?_) | refine Wp ?_ | refine Wq ?_ | refine Wr ?_); (try simp only [go_sem, List.forall_mem_nil, ↓guard_ite, ↓pick_ite, seval, encT_eq, inR_i64, s4, sb, sr, sc, b4, r4, c4, hto, h0, hlt, hx, decide_eq_true_eq, decide_eq_false_iff_not, Int.ofNat_lt]); (repeat with_reducible refine And.intro (by first | omega | with_reducible exact lens_encT | with_reducible exact lens_encL | (simp; done) | (simp only [List.length_take, List.length_map, List.length_append, maxLen_eq]; omega)) ?_); (try (with_reducible refine hK _ ?_; clear hK K)); (try with_reducible refine ite_conj ?_)))
  refine finS_same (aTm x) hS trivial ?_ ?_ fun j hj => ?_
  · rfl
  · rfl
  · have j4 : ¬ j = 4 := by omega
    simp only [updE, j4, if_false]

/-- A row made anew, given to the caller under the name a0. -/
theorem clone_S (ws : List Tm) (h0 : 0 < ws.length) (hl : ws.length ≤ 1000000) (r a0 : Nat) (hr : 1000 ≤ r) (ha : 1000 ≤ a0) (S : AStore) (sr : S r = some (.arow 30 2 (ws.map encT))) (hSa : S a0 = none) :
    ACallsS Tryz.prog 65 [.one (.row r ws.length)] S (.one (.row a0 ws.length)) (updE S a0 (some (.mrow 30 2 (ws.map encT)))) := by
  refine acS_slices_Clone_metaprune_api_Term_metaprune_api_Term (Nat.le_of_ble_eq_true rfl) fun hS C hC => ?_
  unfold ir_slices_Clone_metaprune_api_Term_metaprune_api_Term
  have s7 : S 7 = none := clean_none hS (by omega)
  have hne : ¬ ws = [] := fun e => by rw [e] at h0; simp at h0
  refine IWP.ghost (Ghost.settle 0 (v := aTms ws) ?_) ?_
  · simp [AS.startS, outV, outC, stC, sr]
  repeat' (first | (with_reducible first | refine Wa ?_ | refine Wb ?_ | refine Wc ?_ | refine Wd ?_ | refine We ?_ | refine Wf ?_ | refine Wg ?_ | refine Wh ?_ | refine Wi ?_ | refine Wj ?_ | refine Wk (by decide) ?_ | refine Wl ?_ | refine Wm ?_ | refine Wn ?_) | ((with_reducible first | refine Wo (fun K hK => ?_) | refine Wp ?_ | refine Wq ?_ | refine Wr ?_); (try simp only [go_sem, List.forall_mem_nil, ↓guard_ite, ↓pick_ite, seval, encT_eq, inR_i64, s7, h0, hne, decide_eq_true_eq, decide_eq_false_iff_not, Int.ofNat_lt]); (repeat with_reducible refine And.intro (by first | omega | with_reducible exact lens_encT | with_reducible exact lens_encL | (simp; done) | (simp only [List.length_take, List.length_map, List.length_append, maxLen_eq]; omega)) ?_); (try (with_reducible refine hK _ ?_; clear hK K)); (try with_reducible refine ite_conj ?_)))
  have hb : ∀ i b, 1000 ≤ i → updE S 7 (some (.mrow 30 2 (ws.map encT))) i = some b → b.high = true := high_updL (by omega) fun k c _ hk => (hS k c hk).2
  refine finS_at trivial ⟨_, Ghost.hand 7 a0 (b0 := .mrow 30 2 (ws.map encT)) (by omega) ha (by show updE _ _ _ _ = _; rw [updE_ne _ (by omega), hSa]) (by simp only [updE_same]) rfl hb, ?_, ?_, clean_upd hS ha rfl⟩
  · simp only [resAll, resOne, tupV, updE, AV.hand, AV.ren, AC.ren, oneTo, if_true, AV.high, AC.high, ha, decide_true, Option.map_some]
  · show updE (lowS _) _ _ = _
    rw [lowS_low _ (by omega), lowS_clean hS]

/-- A row by the document: what stands at the front, and to what it is applied; the row is the caller's under the name a0. -/
theorem row_S (t : Tm) (hf : t.fm = true) (hz : t.size ≤ 1000000) (a0 : Nat) (ha : 1000 ≤ a0) (S : AStore) (hSa : S a0 = none) :
    (t.args = [] ∧ ACallsS Tryz.prog 63 [aTm t] S (.tup [aTm t, .one (.full [])]) S) ∨
    (¬ t.args = [] ∧ ACallsS Tryz.prog 63 [aTm t] S (.tup [aTm t.hd, .one (.row a0 t.rw_.length)]) (updE S a0 (some (.arow 30 2 (t.rw_.map encT))))) := by
  induction h : SizeOf.sizeOf t using Nat.strongRecOn generalizing t a0 S with
  | _ N ih =>
  subst h
  rcases Tm.fm_cases hf with h0 | ⟨f, x, hn, hfx, ff, fx⟩
  · refine Or.inl ⟨h0, ?_⟩
    refine acS_R_Row (Nat.le_of_ble_eq_true rfl) fun hS C hC => ?_
    unfold ir_R_Row
    have s1 : S 1 = none := clean_none hS (by omega)
    have s2 : S 2 = none := clean_none hS (by omega)
    repeat' (first | (with_reducible first | refine Wa ?_ | refine Wb ?_ | refine Wc ?_ | refine Wd ?_ | refine We ?_ | refine Wf ?_ | refine Wg ?_ | refine Wh ?_ | refine Wi ?_ | refine Wj ?_ | refine Wk (by decide) ?_ | refine Wl ?_ | refine Wm ?_ | refine Wn ?_) | ((with_reducible first | refine Wo (fun K hK => ?_) | refine Wp ?_ | refine Wq ?_ | refine Wr ?_); (try simp only [go_sem, List.forall_mem_nil, ↓guard_ite, ↓pick_ite, seval, encT_eq, inR_i64, s1, s2, h0, Int.cast_ofNat_Int, decide_eq_true_eq, decide_eq_false_iff_not, Int.ofNat_lt]); (repeat with_reducible refine And.intro (by first | omega | with_reducible exact lens_encT | with_reducible exact lens_encL | (simp; done) | (simp only [List.length_take, List.length_map, List.length_append, maxLen_eq]; omega)) ?_); (try (with_reducible refine hK _ ?_; clear hK K)); (try with_reducible refine ite_conj ?_)))
    refine finS_high trivial ?_ rfl ?_ ?_ hS
    · simp [resAll, resOne, tupV, updE, blkCells, h0, pack]
    · exact high_updL (by omega) (high_updL (by omega) (high_updL (by omega) fun k c _ hk => (hS k c hk).2))
    · rw [lowS_low _ (by omega), lowS_low _ (by omega), lowS_low _ (by omega), lowS_clean hS]
  · have hne : ¬ t.args = [] := by rw [hfx]; simp
    have hfm : f ∈ t.args := by rw [hfx]; simp
    have sf := Tm.size_mem hfm
    have ss := Tm.size_eq t
    refine Or.inr ⟨hne, ?_⟩
    rw [Tm.hd_ap hfx, Tm.rw_ap hfx]
    refine acS_R_Row (Nat.le_of_ble_eq_true rfl) fun hS C hC => ?_
    unfold ir_R_Row
    have s1 : S 1 = none := clean_none hS (by omega)
    have s2 : S 2 = none := clean_none hS (by omega)
    have s4 : S 4 = none := clean_none hS (by omega)
    have s21 : S 21 = none := clean_none hS (by omega)
    have s26 : S 26 = none := clean_none hS (by omega)
    have hlen := Tm.length_le f.rw_
    have hsz := Tm.rw_size ff
    repeat' (first | (with_reducible first | refine Wa ?_ | refine Wb ?_ | refine Wc ?_ | refine Wd ?_ | refine We ?_ | refine Wf ?_ | refine Wg ?_ | refine Wh ?_ | refine Wi ?_ | refine Wj ?_ | refine Wk (by decide) ?_ | refine Wl ?_ | refine Wm ?_ | refine Wn ?_) | ((with_reducible first | refine Wo (fun K hK => ?_) | refine Wp ?_ | refine Wq ?_ | refine Wr ?_); (try simp only [go_sem, List.forall_mem_nil, ↓guard_ite, ↓pick_ite, seval, encT_eq, inR_i64, s1, s2, s4, hfx, Int.cast_ofNat_Int, decide_eq_true_eq, decide_eq_false_iff_not, Int.ofNat_lt]); (repeat with_reducible refine And.intro (by first | omega | with_reducible exact lens_encT | with_reducible exact lens_encL | (simp; done) | (simp only [List.length_take, List.length_map, List.length_append, maxLen_eq]; omega)) ?_); (try (with_reducible refine hK _ ?_; clear hK K)); (try with_reducible refine ite_conj ?_)))
    rcases ih _ (Tm.lt_of_arg hfm) f ff (by omega) (up1 21) (up1_le 21) (upS (updE (updE S 1 (some (.box 30 [.st (.str t.name), .st (.list [[.str f.name, .list (f.args.map encT)], [.str x.name, .list (x.args.map encT)]])]))) 2 (some (.box 30 [.st (.str ⟨#[]⟩), .full []])))) (by rw [upS_up]; simp [updE, s21]) rfl with ⟨g0, g1⟩ | ⟨g0, g1⟩
    · refine ⟨_, _, g1, ?_⟩
      repeat' (first | (with_reducible first | refine Wa ?_ | refine Wb ?_ | refine Wc ?_ | refine Wd ?_ | refine We ?_ | refine Wf ?_ | refine Wg ?_ | refine Wh ?_ | refine Wi ?_ | refine Wj ?_ | refine Wk (by decide) ?_ | refine Wl ?_ | refine Wm ?_ | refine Wn ?_) | ((with_reducible first | refine Wo (fun K hK => ?_) | refine Wp ?_ | refine Wq ?_ | refine Wr ?_); (try simp only [go_sem, List.forall_mem_nil, ↓guard_ite, ↓pick_ite, seval, encT_eq, inR_i64, s1, s2, s4, s26, hfx, decide_eq_true_eq, decide_eq_false_iff_not, Int.ofNat_lt]); (repeat with_reducible refine And.intro (by first | omega | with_reducible exact lens_encT | with_reducible exact lens_encL | (simp; done) | (simp only [List.length_take, List.length_map, List.length_append, maxLen_eq]; omega)) ?_); (try (with_reducible refine hK _ ?_; clear hK K)); (try with_reducible refine ite_conj ?_)))
      rw [Tm.hd_leaf g0, Tm.rw_leaf g0]
      simp only [List.length_nil, List.nil_append, Nat.zero_add]
      have n1 : ¬ a0 = 1 := by omega
      have n2 : ¬ a0 = 2 := by omega
      have n4 : ¬ a0 = 4 := by omega
      have n21 : ¬ a0 = 26 := by omega
      rw [show (.tup [aTm f, .one (.row a0 1)] : AV) = AV.ren (oneTo 26 a0) (.tup [aTm f, .one (.row 26 1)]) by simp [AV.ren, AV.rens, AC.ren, AC.rens, oneTo]]
      refine finS_hand trivial 26 a0 _ (b0 := .arow 30 2 ([x].map encT)) (by omega) ha ?_ ?_ rfl ?_ ?_ ?_ ?_ (clean_upd hS ha rfl)
      · simp [updE, hSa, n1, n2, n4, n21]
      · simp [updE, encT_eq]
      · repeat (refine high_updL (by omega) ?_)
        exact fun k c _ hk => (hS k c hk).2
      · simp [resAll, resOne, tupV, updE, blkCells, pack]
      · simp [AV.ren, AV.rens, AC.ren, AC.rens, AV.high, AV.highs, AC.high, AC.highs, oneTo, ha]
      · repeat rw [lowS_low _ (by omega)]
        rw [lowS_clean hS]
    · refine ⟨_, _, g1, ?_⟩
      repeat' (first | (with_reducible first | refine Wa ?_ | refine Wb ?_ | refine Wc ?_ | refine Wd ?_ | refine We ?_ | refine Wf ?_ | refine Wg ?_ | refine Wh ?_ | refine Wi ?_ | refine Wj ?_ | refine Wk (by decide) ?_ | refine Wl ?_ | refine Wm ?_ | refine Wn ?_) | ((with_reducible first | refine Wo (fun K hK => ?_) | refine Wp ?_ | refine Wq ?_ | refine Wr ?_); (try simp only [go_sem, List.forall_mem_nil, ↓guard_ite, ↓pick_ite, seval, encT_eq, inR_i64, s1, s2, s4, s21, hfx, decide_eq_true_eq, decide_eq_false_iff_not, Int.ofNat_lt]); (repeat with_reducible refine And.intro (by first | omega | with_reducible exact lens_encT | with_reducible exact lens_encL | (simp; done) | (simp only [List.length_take, List.length_map, List.length_append, maxLen_eq]; omega)) ?_); (try (with_reducible refine hK _ ?_; clear hK K)); (try with_reducible refine ite_conj ?_)))
      have n1 : ¬ a0 = 1 := by omega
      have n2 : ¬ a0 = 2 := by omega
      have n4 : ¬ a0 = 4 := by omega
      have n21 : ¬ a0 = 21 := by omega
      rw [show (.tup [aTm f.hd, .one (.row a0 (f.rw_.length + 1))] : AV) = AV.ren (oneTo 21 a0) (.tup [aTm f.hd, .one (.row 21 (f.rw_.length + 1))]) by simp [AV.ren, AV.rens, AC.ren, AC.rens, oneTo]]
      refine finS_hand trivial 21 a0 _ (b0 := .arow 30 2 ((f.rw_ ++ [x]).map encT)) (by omega) ha ?_ ?_ rfl ?_ ?_ ?_ ?_ (clean_upd hS ha rfl)
      · simp [updE, hSa, n1, n2, n4, n21]
      · simp [updE, encT_eq]
      · repeat (refine high_updL (by omega) ?_)
        exact fun k c _ hk => (hS k c hk).2
      · simp [resAll, resOne, tupV, updE, blkCells, pack]
      · simp [AV.ren, AV.rens, AC.ren, AC.rens, AV.high, AV.highs, AC.high, AC.highs, oneTo, ha]
      · repeat rw [lowS_low _ (by omega)]
        rw [lowS_clean hS]

theorem row_a (t : Tm) (hf : t.fm = true) (hz : t.size ≤ 1000000) : ACalls Tryz.prog 63 [aTm t] (.tup [aTm t.hd, aTms t.rw_]) := by
  rcases Tm.fm_cases hf with h0 | ⟨f, x, hn, hfx, ff, fx⟩
  · rw [Tm.hd_leaf h0, Tm.rw_leaf h0]
    refine ac_R_Row (Nat.le_of_ble_eq_true rfl) fun C hC => ?_
    unfold ir_R_Row
    repeat' (first | (with_reducible first | refine Wa ?_ | refine Wb ?_ | refine Wc ?_ | refine Wd ?_ | refine We ?_ | refine Wf ?_ | refine Wg ?_ | refine Wh ?_ | refine Wi ?_ | refine Wj ?_ | refine Wk (by decide) ?_ | refine Wl ?_ | refine Wm ?_ | refine Wn ?_) | ((with_reducible first | refine Wo (fun K hK => ?_) | refine Wp ?_ | refine Wq ?_ | refine Wr ?_); (try simp only [go_sem, List.forall_mem_nil, ↓guard_ite, ↓pick_ite, seval, encT_eq, inR_i64, h0, Int.cast_ofNat_Int, decide_eq_true_eq, decide_eq_false_iff_not, Int.ofNat_lt]); (repeat with_reducible refine And.intro (by first | omega | with_reducible exact lens_encT | with_reducible exact lens_encL | (simp; done) | (simp only [List.length_take, List.length_map, List.length_append, maxLen_eq]; omega)) ?_); (try (with_reducible refine hK _ ?_; clear hK K)); (try with_reducible refine ite_conj ?_)))
    simp only [go_sem, List.forall_mem_nil, ↓guard_ite, ↓pick_ite, seval, FinQ, AS.result, resAll, resOne, tupV, h0]
    try simp [h0]
  · have hfm : f ∈ t.args := by rw [hfx]; simp
    have sf := Tm.size_mem hfm
    have ss := Tm.size_eq t
    have hlen := Tm.length_le f.rw_
    have hsz := Tm.rw_size ff
    rw [Tm.hd_ap hfx, Tm.rw_ap hfx]
    refine ac_R_Row (Nat.le_of_ble_eq_true rfl) fun C hC => ?_
    unfold ir_R_Row
    repeat' (first | (with_reducible first | refine Wa ?_ | refine Wb ?_ | refine Wc ?_ | refine Wd ?_ | refine We ?_ | refine Wf ?_ | refine Wg ?_ | refine Wh ?_ | refine Wi ?_ | refine Wj ?_ | refine Wk (by decide) ?_ | refine Wl ?_ | refine Wm ?_ | refine Wn ?_) | ((with_reducible first | refine Wo (fun K hK => ?_) | refine Wp ?_ | refine Wq ?_ | refine Wr ?_); (try simp only [go_sem, List.forall_mem_nil, ↓guard_ite, ↓pick_ite, seval, encT_eq, inR_i64, hfx, Int.cast_ofNat_Int, decide_eq_true_eq, decide_eq_false_iff_not, Int.ofNat_lt]); (repeat with_reducible refine And.intro (by first | omega | with_reducible exact lens_encT | with_reducible exact lens_encL | (simp; done) | (simp only [List.length_take, List.length_map, List.length_append, maxLen_eq]; omega)) ?_); (try (with_reducible refine hK _ ?_; clear hK K)); (try with_reducible refine ite_conj ?_)))
    rcases row_S f ff (by omega) (up1 21) (up1_le 21) (upS (updE (updE noS 1 (some (.box 30 [.st (.str t.name), .st (.list [[.str f.name, .list (f.args.map encT)], [.str x.name, .list (x.args.map encT)]])]))) 2 (some (.box 30 [.st (.str ⟨#[]⟩), .full []])))) (by rw [upS_up]; rfl) with ⟨g0, g1⟩ | ⟨g0, g1⟩
    · refine ⟨_, _, g1, ?_⟩
      repeat' (first | (with_reducible first | refine Wa ?_ | refine Wb ?_ | refine Wc ?_ | refine Wd ?_ | refine We ?_ | refine Wf ?_ | refine Wg ?_ | refine Wh ?_ | refine Wi ?_ | refine Wj ?_ | refine Wk (by decide) ?_ | refine Wl ?_ | refine Wm ?_ | refine Wn ?_) | ((with_reducible first | refine Wo (fun K hK => ?_) | refine Wp ?_ | refine Wq ?_ | refine Wr ?_); (try simp only [go_sem, List.forall_mem_nil, ↓guard_ite, ↓pick_ite, seval, encT_eq, inR_i64, hfx, decide_eq_true_eq, decide_eq_false_iff_not, Int.ofNat_lt]); (repeat with_reducible refine And.intro (by first | omega | with_reducible exact lens_encT | with_reducible exact lens_encL | (simp; done) | (simp only [List.length_take, List.length_map, List.length_append, maxLen_eq]; omega)) ?_); (try (with_reducible refine hK _ ?_; clear hK K)); (try with_reducible refine ite_conj ?_)))
      rw [Tm.hd_leaf g0, Tm.rw_leaf g0]
      simp only [go_sem, List.forall_mem_nil, ↓guard_ite, ↓pick_ite, seval, FinQ, AS.result, resAll, resOne, tupV]
      try simp [encT_eq]
    · refine ⟨_, _, g1, ?_⟩
      repeat' (first | (with_reducible first | refine Wa ?_ | refine Wb ?_ | refine Wc ?_ | refine Wd ?_ | refine We ?_ | refine Wf ?_ | refine Wg ?_ | refine Wh ?_ | refine Wi ?_ | refine Wj ?_ | refine Wk (by decide) ?_ | refine Wl ?_ | refine Wm ?_ | refine Wn ?_) | ((with_reducible first | refine Wo (fun K hK => ?_) | refine Wp ?_ | refine Wq ?_ | refine Wr ?_); (try simp only [go_sem, List.forall_mem_nil, ↓guard_ite, ↓pick_ite, seval, encT_eq, inR_i64, hfx, decide_eq_true_eq, decide_eq_false_iff_not, Int.ofNat_lt]); (repeat with_reducible refine And.intro (by first | omega | with_reducible exact lens_encT | with_reducible exact lens_encL | (simp; done) | (simp only [List.length_take, List.length_map, List.length_append, maxLen_eq]; omega)) ?_); (try (with_reducible refine hK _ ?_; clear hK K)); (try with_reducible refine ite_conj ?_)))
      simp only [go_sem, List.forall_mem_nil, ↓guard_ite, ↓pick_ite, seval, FinQ, AS.result, resAll, resOne, tupV]
      try simp [encT_eq]
end Go.Proofs.YtbiadmlfejnbcaaGreatDoor
