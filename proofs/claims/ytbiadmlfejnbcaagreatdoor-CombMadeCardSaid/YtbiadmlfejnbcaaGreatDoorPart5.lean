/-
  Part 5 of the texts: IrTo; IrRed; BRed; BTo; BTo2; BTo3; BToLaw; IrRaw; BRaw; IrCMade; BCombR; BCombP. Conditions: none.
-/
import Derived.Test.YtbiadmlfejnbcaaGreatDoorPart4
namespace Go.Proofs.YtbiadmlfejnbcaaGreatDoor
open Go Go.RowKit
set_option maxRecDepth 100000

def ir_comb_Bracket : IR :=
  (.seq
  (.ops
  [.mk (some 3) none (.box 30 (.t 1)) .no, .mk (some 4) none
  (.alloc 30 [.st (.str (ByteArray.mk (#[]))), .full []])
  .no, .mk (some 5) none (.mov (.c (.one (.st (.int .i64 0)))))
  .no])
  (.seq
  (.seq
  (.ops
  [.mk (some 7) none (.mov (.t 0)) .no, .mk (some 8) none (.call 49 [.t 7]) .no, .mk (some 9) none (.un .not (.t 8)) .no, .mk (some 10) none (.mov (.t 9)) .no, .mk (some 11) (some (10, false)) (.mov (.t 0))
  .no, .mk (some 12) (some (10, false)) (.call 50 [.t 11])
  .no, .mk (some 13) (some (10, false)) (.un .not (.t 12))
  .no, .mk (some 14) none
  (.pick (.t 10) (.c (.one (.st (.bool true)))) (.t 13))
  .no])
  (.cond (.t 14)
  (.seq
  (.ops
  [.mk (some 15) none
  (.build [.st (.str (ByteArray.mk (#[]))), .full []]
  [])
  .no, .mk none none (.store 2 (.t 4) (.t 15))
  .no, .mk (some 5) none (.mov (.c (.one (.st (.int .i64 1)))))
  .no])
  .ret)
  .skip))
  (.seq
  (.seq
  (.ops
  [.mk (some 16) none (.load true 2 (.t 3))
  .no, .mk (some 17) none (.call 28 [.t 16]) .no, .mk (some 6) none (.mov (.t 17)) .no])
  (.seq
  (.ops
  [.mk (some 18) none (.mov (.t 6)) .no, .mk (some 19) none (.bin .neq (.t 18) (.c (.one (.st (.int .i64 0)))))
  .no])
  (.cond (.t 19)
  (.seq
  (.ops
  [.mk (some 20) none
  (.build
  [.st (.str (ByteArray.mk (#[]))), .full []] [])
  .no, .mk (some 21) none (.mov (.t 6)) .no, .mk none none (.store 2 (.t 4) (.t 20))
  .no, .mk (some 5) none (.mov (.t 21)) .no])
  .ret)
  .skip)))
  (.seq
  (.ops
  [.mk (some 22) none (.mov (.t 0)) .no, .mk (some 23) none (.load true 2 (.t 3))
  .no, .mk (some 24) none (.call 52 [.t 22, .t 23])
  .no, .mk (some 25) none (.call 51 [.t 24]) .no, .mk (some 26) none (.extract 0 (.t 25)) .no, .mk (some 27) none (.extract 1 (.t 25)) .no, .mk none none (.store 2 (.t 4) (.t 26))
  .no, .mk (some 5) none (.mov (.t 27)) .no])
  .ret))))
theorem tr_comb_Bracket : trCode Tryz.prog 28 [] (Tryz.f27.body.getD .skip) = some ir_comb_Bracket := by kernel_rfl
theorem ac_comb_Bracket {xs : List AV} {r : AV} (hn : xs.length ≤ 28) (h : ∀ C : Ctx, C.n = 28 → IWP Tryz.prog C [] ir_comb_Bracket (FinQ [.cell 4 true 2, .t 5] r) (AS.start xs)) : ACalls Tryz.prog 27 xs r :=
  acalls_of Tryz.func27 rfl tr_comb_Bracket rfl hn h
theorem acS_comb_Bracket {xs : List AV} {S S' : AStore} {r : AV} (hn : xs.length ≤ 28) (h : Clean S → ∀ C : Ctx, C.n = 28 → IWP Tryz.prog C [] ir_comb_Bracket (FinS C [.cell 4 true 2, .t 5] r S') (AS.startS xs S)) : ACallsS Tryz.prog 27 xs S r S' :=
  acallsS_of Tryz.func27 rfl tr_comb_Bracket rfl hn h

def ir_lambda_C : IR :=
  (.seq
  (.ops
  [.mk (some 2) none
  (.alloc 25
  [.st (.int .i64 0), .st (.int .i64 0),
  .full []])
  .no])
  (.seq
  (.ops
  [.mk (some 3) none (.mov (.t 0)) .no, .mk (some 4) none
  (.build
  [.st (.int .i64 0), .st (.int .i64 0),
  .full []]
  [(0, 1, .c (.one (.st (.int .i64 4)))),
  (1, 1, .t 3)])
  .no, .mk none none (.store 3 (.t 2) (.t 4))
  .no])
  .ret))
theorem tr_lambda_C : trCode Tryz.prog 5 [] (Tryz.f72.body.getD .skip) = some ir_lambda_C := by kernel_rfl
theorem ac_lambda_C {xs : List AV} {r : AV} (hn : xs.length ≤ 5) (h : ∀ C : Ctx, C.n = 5 → IWP Tryz.prog C [] ir_lambda_C (FinQ [.cell 2 true 3] r) (AS.start xs)) : ACalls Tryz.prog 72 xs r :=
  acalls_of Tryz.func72 rfl tr_lambda_C rfl hn h
theorem acS_lambda_C {xs : List AV} {S S' : AStore} {r : AV} (hn : xs.length ≤ 5) (h : Clean S → ∀ C : Ctx, C.n = 5 → IWP Tryz.prog C [] ir_lambda_C (FinS C [.cell 2 true 3] r S') (AS.startS xs S)) : ACallsS Tryz.prog 72 xs S r S' :=
  acallsS_of Tryz.func72 rfl tr_lambda_C rfl hn h

def ir_R_Con : IR :=
  (.seq
  (.ops
  [.mk (some 2) none
  (.alloc 25
  [.st (.int .i64 0), .st (.int .i64 0),
  .full []])
  .no])
  (.seq
  (.ops
  [.mk (some 3) none (.mov (.t 0)) .no, .mk (some 4) none
  (.build
  [.st (.int .i64 0), .st (.int .i64 0),
  .full []]
  [(0, 1, .c (.one (.st (.int .i64 4)))),
  (1, 1, .t 3)])
  .no, .mk none none (.store 3 (.t 2) (.t 4))
  .no])
  .ret))
theorem tr_R_Con : trCode Tryz.prog 5 [] (Tryz.f35.body.getD .skip) = some ir_R_Con := by kernel_rfl
theorem ac_R_Con {xs : List AV} {r : AV} (hn : xs.length ≤ 5) (h : ∀ C : Ctx, C.n = 5 → IWP Tryz.prog C [] ir_R_Con (FinQ [.cell 2 true 3] r) (AS.start xs)) : ACalls Tryz.prog 35 xs r :=
  acalls_of Tryz.func35 rfl tr_R_Con rfl hn h
theorem acS_R_Con {xs : List AV} {S S' : AStore} {r : AV} (hn : xs.length ≤ 5) (h : Clean S → ∀ C : Ctx, C.n = 5 → IWP Tryz.prog C [] ir_R_Con (FinS C [.cell 2 true 3] r S') (AS.startS xs S)) : ACallsS Tryz.prog 35 xs S r S' :=
  acallsS_of Tryz.func35 rfl tr_R_Con rfl hn h

def ir_comb_known : IR :=
  (.seq
  (.ops
  [.mk (some 2) none
  (.alloc 25
  [.st (.int .i64 0), .st (.int .i64 0),
  .full []])
  .no, .mk (some 3) none (.mov (.c (.one (.st (.bool false)))))
  .no])
  (.seq
  (.ops
  [.mk (some 4) none (.mov (.c (.one (.fn 79 []))))
  .no, .mk (some 5) none (.mov (.c (.one (.fn 80 []))))
  .no, .mk (some 6) none (.mov (.c (.one (.fn 73 []))))
  .no])
  (.seq
  (.seq
  (.ops
  [.mk (some 7) none (.mov (.t 0)) .no])
  (.block 0
  (.seq
  (.ops
  [.mk (some 9) none (.bin .eql (.t 7) (.c (.one (.st (.str (ByteArray.mk (#[105])))))))
  .no, .mk (some 8) none (.mov (.t 9)) .no])
  (.cond (.t 8)
  (.seq
  (.ops
  [.mk (some 10) none (.mov (.t 5)) .no, .mk (some 11) none (.mov (.t 4)) .no, .mk (some 12) none
  (.callV (.t 11)
  [.c (.one (.st (.int .i64 0)))])
  .no, .mk (some 13) none
  (.callV (.t 10) [.t 12]) .no, .mk none none (.store 3 (.t 2) (.t 13))
  .no, .mk (some 3) none (.mov (.c (.one (.st (.bool true)))))
  .no])
  .ret)
  (.seq
  (.ops
  [.mk (some 15) none (.bin .eql (.t 7) (.c (.one (.st (.str (ByteArray.mk (#[107])))))))
  .no, .mk (some 14) none (.mov (.t 15)) .no])
  (.cond (.t 14)
  (.seq
  (.ops
  [.mk (some 16) none (.mov (.t 5))
  .no, .mk (some 17) none (.mov (.t 5))
  .no, .mk (some 18) none (.mov (.t 4))
  .no, .mk (some 19) none
  (.callV (.t 18)
  [.c (.one (.st (.int .i64 1)))])
  .no, .mk (some 20) none
  (.callV (.t 17) [.t 19]) .no, .mk (some 21) none
  (.callV (.t 16) [.t 20]) .no, .mk none none (.store 3 (.t 2) (.t 21)) .no, .mk (some 3) none (.mov (.c (.one (.st (.bool true)))))
  .no])
  .ret)
  (.seq
  (.ops
  [.mk (some 23) none (.bin .eql (.t 7) (.c (.one (.st (.str (ByteArray.mk (#[115])))))))
  .no, .mk (some 22) none (.mov (.t 23))
  .no])
  (.cond (.t 22)
  (.seq
  (.ops
  [.mk (some 24) none (.mov (.t 5))
  .no, .mk (some 25) none (.mov (.t 5))
  .no, .mk (some 26) none (.mov (.t 5))
  .no, .mk (some 27) none (.mov (.t 6))
  .no, .mk (some 28) none (.mov (.t 6))
  .no, .mk (some 29) none (.mov (.t 4))
  .no, .mk (some 30) none
  (.callV (.t 29)
  [.c (.one (.st (.int .i64 2)))])
  .no, .mk (some 31) none (.mov (.t 4))
  .no, .mk (some 32) none
  (.callV (.t 31)
  [.c (.one (.st (.int .i64 0)))])
  .no, .mk (some 33) none
  (.callV (.t 28) [.t 30, .t 32])
  .no, .mk (some 34) none (.mov (.t 6))
  .no, .mk (some 35) none (.mov (.t 4))
  .no, .mk (some 36) none
  (.callV (.t 35)
  [.c (.one (.st (.int .i64 1)))])
  .no, .mk (some 37) none (.mov (.t 4))
  .no, .mk (some 38) none
  (.callV (.t 37)
  [.c (.one (.st (.int .i64 0)))])
  .no, .mk (some 39) none
  (.callV (.t 34) [.t 36, .t 38])
  .no, .mk (some 40) none
  (.callV (.t 27) [.t 33, .t 39])
  .no, .mk (some 41) none
  (.callV (.t 26) [.t 40]) .no, .mk (some 42) none
  (.callV (.t 25) [.t 41]) .no, .mk (some 43) none
  (.callV (.t 24) [.t 42]) .no, .mk none none (.store 3 (.t 2) (.t 43)) .no, .mk (some 3) none (.mov (.c (.one (.st (.bool true)))))
  .no])
  .ret)
  .skip))))))))
  (.seq
  (.ops
  [.mk (some 44) none
  (.build
  [.st (.int .i64 0), .st (.int .i64 0),
  .full []]
  [])
  .no, .mk none none (.store 3 (.t 2) (.t 44))
  .no, .mk (some 3) none (.mov (.c (.one (.st (.bool false)))))
  .no])
  .ret))))
theorem tr_comb_known : trCode Tryz.prog 45 [] (Tryz.f70.body.getD .skip) = some ir_comb_known := by kernel_rfl
theorem ac_comb_known {xs : List AV} {r : AV} (hn : xs.length ≤ 45) (h : ∀ C : Ctx, C.n = 45 → IWP Tryz.prog C [] ir_comb_known (FinQ [.cell 2 true 3, .t 3] r) (AS.start xs)) : ACalls Tryz.prog 70 xs r :=
  acalls_of Tryz.func70 rfl tr_comb_known rfl hn h
theorem acS_comb_known {xs : List AV} {S S' : AStore} {r : AV} (hn : xs.length ≤ 45) (h : Clean S → ∀ C : Ctx, C.n = 45 → IWP Tryz.prog C [] ir_comb_known (FinS C [.cell 2 true 3, .t 3] r S') (AS.startS xs S)) : ACallsS Tryz.prog 70 xs S r S' :=
  acallsS_of Tryz.func70 rfl tr_comb_known rfl hn h

def ir_comb_to : IR :=
  (.seq
  (.ops
  [.mk (some 1) none (.box 30 (.t 0)) .no, .mk (some 2) none
  (.alloc 25
  [.st (.int .i64 0), .st (.int .i64 0),
  .full []])
  .no, .mk (some 3) none (.mov (.c (.one (.st (.int .i64 0)))))
  .no])
  (.seq
  (.seq
  (.ops
  [.mk (some 11) none (.fieldAddr 1 (.t 1)) .no, .mk (some 12) none (.load false 1 (.t 11))
  .no, .mk (some 13) none (.len false (.t 12)) .no, .mk (some 14) none (.bin .eql (.t 13) (.c (.one (.st (.int .i64 0)))))
  .no])
  (.cond (.t 14)
  (.seq
  (.seq
  (.ops
  [.mk (some 16) none (.fieldAddr 0 (.t 1))
  .no, .mk (some 17) none (.load false 1 (.t 16))
  .no, .mk (some 18) none (.call 70 [.t 17]) .no, .mk (some 15) none (.mov (.t 18)) .no, .mk (some 19) none (.extract 0 (.t 15))
  .no, .mk (some 20) none (.extract 1 (.t 15))
  .no, .mk (some 4) none
  (.alloc 25
  [.st (.int .i64 0), .st (.int .i64 0), .full []])
  .no, .mk none none (.store 3 (.t 4) (.t 19))
  .no, .mk (some 5) none (.mov (.t 20)) .no])
  (.seq
  (.ops
  [.mk (some 21) none (.mov (.t 5)) .no])
  (.cond (.t 21)
  (.seq
  (.ops
  [.mk (some 22) none (.load true 3 (.t 4))
  .no, .mk none none (.store 3 (.t 2) (.t 22)) .no, .mk (some 3) none (.mov (.c (.one (.st (.int .i64 0)))))
  .no])
  .ret)
  .skip)))
  (.seq
  (.seq
  (.ops
  [.mk (some 23) none (.fieldAddr 0 (.t 1))
  .no, .mk (some 24) none (.load false 1 (.t 23))
  .no, .mk (some 25) none (.call 50 [.t 24])
  .no])
  (.cond (.t 25)
  (.seq
  (.ops
  [.mk (some 26) none
  (.build
  [.st (.int .i64 0), .st (.int .i64 0), .full []]
  [])
  .no, .mk none none (.store 3 (.t 2) (.t 26)) .no, .mk (some 3) none (.mov (.c (.one (.st (.int .i64 15)))))
  .no])
  .ret)
  .skip))
  (.seq
  (.ops
  [.mk (some 28) none (.fieldAddr 0 (.t 1))
  .no, .mk (some 29) none (.load false 1 (.t 28))
  .no, .mk (some 30) none
  (.sliceS (.t 29)
  (some (.c (.one (.st (.int .i64 1)))))
  none)
  .no, .mk (some 31) none (.call 71 [.t 30])
  .no, .mk (some 27) none (.mov (.t 31)) .no, .mk (some 32) none (.extract 0 (.t 27))
  .no, .mk (some 33) none (.extract 1 (.t 27))
  .no, .mk (some 6) none (.mov (.t 32)) .no, .mk (some 7) none (.mov (.t 33)) .no])
  (.seq
  (.seq
  (.ops
  [.mk (some 34) none (.fieldAddr 0 (.t 1))
  .no, .mk (some 35) none (.load false 1 (.t 34))
  .no, .mk (some 36) none
  (.indexStr (.t 35) (.c (.one (.st (.int .i64 0)))))
  .no, .mk (some 37) none (.bin .neq (.t 36) (.c (.one (.st (.int .u8 99)))))
  .no, .mk (some 38) none (.mov (.t 37))
  .no, .mk (some 39) (some (38, false)) (.mov (.t 7))
  .no, .mk (some 40) (some (38, false)) (.eqE true (.t 39))
  .no, .mk (some 41) none
  (.pick (.t 38) (.c (.one (.st (.bool true)))) (.t 40))
  .no, .mk (some 42) none (.mov (.t 41))
  .no, .mk (some 43) (some (42, false)) (.mov (.t 6))
  .no, .mk (some 44) (some (42, false)) (.call 61 [.t 43])
  .no, .mk (some 45) (some (42, false)) (.fieldAddr 0 (.t 1))
  .no, .mk (some 46) (some (42, false)) (.load false 1 (.t 45))
  .no, .mk (some 47) (some (42, false))
  (.sliceS (.t 46)
  (some (.c (.one (.st (.int .i64 1)))))
  none)
  .no, .mk (some 48) (some (42, false)) (.bin .neq (.t 44) (.t 47)) .no, .mk (some 49) none
  (.pick (.t 42) (.c (.one (.st (.bool true)))) (.t 48))
  .no, .mk (some 50) none (.mov (.t 49))
  .no, .mk (some 51) (some (50, false)) (.mov (.t 6))
  .no, .mk (some 52) (some (50, false)) (.bin .geq (.t 51) (.c (.one (.st (.int .i64 40)))))
  .no, .mk (some 53) none
  (.pick (.t 50) (.c (.one (.st (.bool true)))) (.t 52))
  .no])
  (.cond (.t 53)
  (.seq
  (.ops
  [.mk (some 54) none
  (.build
  [.st (.int .i64 0), .st (.int .i64 0), .full []]
  [])
  .no, .mk none none (.store 3 (.t 2) (.t 54)) .no, .mk (some 3) none (.mov (.c (.one (.st (.int .i64 1)))))
  .no])
  .ret)
  .skip))
  (.seq
  (.ops
  [.mk (some 55) none (.mov (.t 6)) .no, .mk (some 56) none (.call 72 [.t 55])
  .no, .mk none none (.store 3 (.t 2) (.t 56)) .no, .mk (some 3) none (.mov (.c (.one (.st (.int .i64 0)))))
  .no])
  .ret)))))
  .skip))
  (.seq
  (.ops
  [.mk (some 58) none (.fieldAddr 1 (.t 1)) .no, .mk (some 59) none (.load false 1 (.t 58))
  .no, .mk (some 60) none
  (.indexAddr 2 (.t 59) (.c (.one (.st (.int .i64 0)))))
  .no, .mk (some 61) none (.load true 2 (.t 60))
  .no, .mk (some 62) none (.call 56 [.t 61]) .no, .mk (some 57) none (.mov (.t 62)) .no, .mk (some 63) none (.extract 0 (.t 57)) .no, .mk (some 64) none (.extract 1 (.t 57)) .no, .mk (some 8) none
  (.alloc 25
  [.st (.int .i64 0), .st (.int .i64 0),
  .full []])
  .no, .mk none none (.store 3 (.t 8) (.t 63))
  .no, .mk (some 9) none (.mov (.t 64)) .no])
  (.seq
  (.seq
  (.ops
  [.mk (some 65) none (.mov (.t 9)) .no, .mk (some 66) none (.bin .neq (.t 65) (.c (.one (.st (.int .i64 0)))))
  .no])
  (.cond (.t 66)
  (.seq
  (.ops
  [.mk (some 67) none
  (.build
  [.st (.int .i64 0), .st (.int .i64 0), .full []]
  [])
  .no, .mk (some 68) none (.mov (.t 9)) .no, .mk none none (.store 3 (.t 2) (.t 67))
  .no, .mk (some 3) none (.mov (.t 68)) .no])
  .ret)
  .skip))
  (.seq
  (.ops
  [.mk (some 70) none (.fieldAddr 1 (.t 1)) .no, .mk (some 71) none (.load false 1 (.t 70))
  .no, .mk (some 72) none
  (.indexAddr 2 (.t 71) (.c (.one (.st (.int .i64 1)))))
  .no, .mk (some 73) none (.load true 2 (.t 72))
  .no, .mk (some 74) none (.call 56 [.t 73]) .no, .mk (some 69) none (.mov (.t 74)) .no, .mk (some 75) none (.extract 0 (.t 69)) .no, .mk (some 76) none (.extract 1 (.t 69)) .no, .mk (some 10) none
  (.alloc 25
  [.st (.int .i64 0), .st (.int .i64 0),
  .full []])
  .no, .mk none none (.store 3 (.t 10) (.t 75))
  .no, .mk (some 9) none (.mov (.t 76)) .no])
  (.seq
  (.ops
  [.mk (some 77) none (.load true 3 (.t 8))
  .no, .mk (some 78) none (.load true 3 (.t 10))
  .no, .mk (some 79) none (.call 73 [.t 77, .t 78]) .no, .mk (some 80) none (.mov (.t 9)) .no, .mk none none (.store 3 (.t 2) (.t 79))
  .no, .mk (some 3) none (.mov (.t 80)) .no])
  .ret))))))
theorem tr_comb_to : trCode Tryz.prog 81 [] (Tryz.f56.body.getD .skip) = some ir_comb_to := by kernel_rfl
theorem ac_comb_to {xs : List AV} {r : AV} (hn : xs.length ≤ 81) (h : ∀ C : Ctx, C.n = 81 → IWP Tryz.prog C [] ir_comb_to (FinQ [.cell 2 true 3, .t 3] r) (AS.start xs)) : ACalls Tryz.prog 56 xs r :=
  acalls_of Tryz.func56 rfl tr_comb_to rfl hn h
theorem acS_comb_to {xs : List AV} {S S' : AStore} {r : AV} (hn : xs.length ≤ 81) (h : Clean S → ∀ C : Ctx, C.n = 81 → IWP Tryz.prog C [] ir_comb_to (FinS C [.cell 2 true 3, .t 3] r S') (AS.startS xs S)) : ACallsS Tryz.prog 56 xs S r S' :=
  acallsS_of Tryz.func56 rfl tr_comb_to rfl hn h

def ir_comb_To : IR :=
  (.seq
  (.ops
  [.mk (some 1) none (.box 30 (.t 0)) .no, .mk (some 2) none
  (.alloc 25
  [.st (.int .i64 0), .st (.int .i64 0),
  .full []])
  .no, .mk (some 3) none (.mov (.c (.one (.st (.int .i64 0)))))
  .no])
  (.seq
  (.seq
  (.ops
  [.mk (some 7) none (.load true 2 (.t 1)) .no, .mk (some 8) none (.call 28 [.t 7]) .no, .mk (some 4) none (.mov (.t 8)) .no])
  (.seq
  (.ops
  [.mk (some 9) none (.mov (.t 4)) .no, .mk (some 10) none (.bin .neq (.t 9) (.c (.one (.st (.int .i64 0)))))
  .no])
  (.cond (.t 10)
  (.seq
  (.ops
  [.mk (some 11) none
  (.build
  [.st (.int .i64 0), .st (.int .i64 0), .full []]
  [])
  .no, .mk (some 12) none (.mov (.t 4)) .no, .mk none none (.store 3 (.t 2) (.t 11))
  .no, .mk (some 3) none (.mov (.t 12)) .no])
  .ret)
  .skip)))
  (.seq
  (.ops
  [.mk (some 14) none (.load true 2 (.t 1)) .no, .mk (some 15) none (.call 56 [.t 14]) .no, .mk (some 13) none (.mov (.t 15)) .no, .mk (some 16) none (.extract 0 (.t 13)) .no, .mk (some 17) none (.extract 1 (.t 13)) .no, .mk (some 5) none
  (.alloc 25
  [.st (.int .i64 0), .st (.int .i64 0),
  .full []])
  .no, .mk none none (.store 3 (.t 5) (.t 16))
  .no, .mk (some 6) none (.mov (.t 17)) .no])
  (.seq
  (.seq
  (.ops
  [.mk (some 18) none (.mov (.t 6)) .no, .mk (some 19) none (.bin .eql (.t 18) (.c (.one (.st (.int .i64 0)))))
  .no, .mk (some 20) none (.mov (.t 19)) .no, .mk (some 21) (some (20, true)) (.load true 3 (.t 5))
  .no, .mk (some 22) (some (20, true)) (.call 57 [.t 21])
  .no, .mk (some 23) (some (20, true)) (.bin .gtr (.t 22) (.c (.one (.st (.int .i64 2000)))))
  .no, .mk (some 24) none
  (.pick (.t 20) (.t 23) (.c (.one (.st (.bool false)))))
  .no])
  (.cond (.t 24)
  (.ops
  [.mk (some 6) none (.mov (.c (.one (.st (.int .i64 8)))))
  .no])
  .skip))
  (.seq
  (.seq
  (.ops
  [.mk (some 25) none (.mov (.t 6)) .no, .mk (some 26) none (.bin .neq (.t 25) (.c (.one (.st (.int .i64 0)))))
  .no])
  (.cond (.t 26)
  (.seq
  (.ops
  [.mk (some 27) none
  (.build
  [.st (.int .i64 0), .st (.int .i64 0), .full []]
  [])
  .no, .mk (some 28) none (.mov (.t 6)) .no, .mk none none (.store 3 (.t 2) (.t 27))
  .no, .mk (some 3) none (.mov (.t 28)) .no])
  .ret)
  .skip))
  (.seq
  (.ops
  [.mk (some 29) none (.load true 3 (.t 5))
  .no, .mk none none (.store 3 (.t 2) (.t 29))
  .no, .mk (some 3) none (.mov (.c (.one (.st (.int .i64 0)))))
  .no])
  .ret))))))
theorem tr_comb_To : trCode Tryz.prog 30 [] (Tryz.f30.body.getD .skip) = some ir_comb_To := by kernel_rfl
theorem ac_comb_To {xs : List AV} {r : AV} (hn : xs.length ≤ 30) (h : ∀ C : Ctx, C.n = 30 → IWP Tryz.prog C [] ir_comb_To (FinQ [.cell 2 true 3, .t 3] r) (AS.start xs)) : ACalls Tryz.prog 30 xs r :=
  acalls_of Tryz.func30 rfl tr_comb_To rfl hn h
theorem acS_comb_To {xs : List AV} {S S' : AStore} {r : AV} (hn : xs.length ≤ 30) (h : Clean S → ∀ C : Ctx, C.n = 30 → IWP Tryz.prog C [] ir_comb_To (FinS C [.cell 2 true 3, .t 3] r S') (AS.startS xs S)) : ACallsS Tryz.prog 30 xs S r S' :=
  acallsS_of Tryz.func30 rfl tr_comb_To rfl hn h

def ir_R_ConstOf : IR :=
  (.seq
  (.ops
  [.mk (some 2) none (.mov (.c (.one (.st (.int .i64 0)))))
  .no])
  (.seq
  (.seq
  (.ops
  [.mk (some 3) none (.mov (.c (.one (.st (.int .i64 0)))))
  .no])
  (.block 0
  (.loop
  (.seq
  (.seq
  (.ops
  [.mk (some 4) none (.mov (.t 3)) .no, .mk (some 5) none (.bin .lss (.t 4) (.c (.one (.st (.int .i64 40)))))
  .no])
  (.cond (.t 5) .skip (.exit 0)))
  (.seq
  (.block 1
  (.seq
  (.ops
  [.mk (some 8) none (.mov (.t 0)) .no, .mk (some 9) none (.mov (.t 3)) .no, .mk (some 10) none (.call 14 [.t 9])
  .no, .mk (some 11) none (.bin .add (.c (.one (.st (.str (ByteArray.mk (#[99])))))) (.t 10))
  .no, .mk (some 12) none (.bin .eql (.t 8) (.t 11)) .no])
  (.cond (.t 12)
  (.seq
  (.ops
  [.mk (some 13) none (.mov (.t 3))
  .no, .mk (some 2) none (.mov (.t 13))
  .no])
  .ret)
  .skip)))
  (.ops
  [.mk (some 6) none (.mov (.t 3)) .no, .mk (some 7) none (.bin .add (.t 6) (.c (.one (.st (.int .i64 1)))))
  .no, .mk (some 3) none (.mov (.t 7))
  .no]))))))
  (.seq
  (.ops
  [.mk (some 2) none (.mov (.c (.one (.st (.int .i64 (-1))))))
  .no])
  .ret)))
theorem tr_R_ConstOf : trCode Tryz.prog 14 [] (Tryz.f55.body.getD .skip) = some ir_R_ConstOf := by kernel_rfl
theorem ac_R_ConstOf {xs : List AV} {r : AV} (hn : xs.length ≤ 14) (h : ∀ C : Ctx, C.n = 14 → IWP Tryz.prog C [] ir_R_ConstOf (FinQ [.t 2] r) (AS.start xs)) : ACalls Tryz.prog 55 xs r :=
  acalls_of Tryz.func55 rfl tr_R_ConstOf rfl hn h
theorem acS_R_ConstOf {xs : List AV} {S S' : AStore} {r : AV} (hn : xs.length ≤ 14) (h : Clean S → ∀ C : Ctx, C.n = 14 → IWP Tryz.prog C [] ir_R_ConstOf (FinS C [.t 2] r S') (AS.startS xs S)) : ACallsS Tryz.prog 55 xs S r S' :=
  acallsS_of Tryz.func55 rfl tr_R_ConstOf rfl hn h

def ir_R_LamOf : IR :=
  (.seq
  (.ops
  [.mk (some 1) none (.box 30 (.t 0)) .no, .mk (some 2) none
  (.alloc 25
  [.st (.int .i64 0), .st (.int .i64 0),
  .full []])
  .no, .mk (some 3) none (.mov (.c (.one (.st (.int .i64 0)))))
  .no])
  (.seq
  (.seq
  (.ops
  [.mk (some 8) none (.fieldAddr 1 (.t 1)) .no, .mk (some 9) none (.load false 1 (.t 8))
  .no, .mk (some 10) none (.len false (.t 9)) .no, .mk (some 11) none (.bin .eql (.t 10) (.c (.one (.st (.int .i64 2)))))
  .no])
  (.cond (.t 11)
  (.seq
  (.ops
  [.mk (some 13) none (.fieldAddr 1 (.t 1)) .no, .mk (some 14) none (.load false 1 (.t 13))
  .no, .mk (some 15) none
  (.indexAddr 2 (.t 14) (.c (.one (.st (.int .i64 0)))))
  .no, .mk (some 16) none (.load true 2 (.t 15))
  .no, .mk (some 17) none (.call 29 [.t 16]) .no, .mk (some 12) none (.mov (.t 17)) .no, .mk (some 18) none (.extract 0 (.t 12)) .no, .mk (some 19) none (.extract 1 (.t 12)) .no, .mk (some 4) none
  (.alloc 25
  [.st (.int .i64 0), .st (.int .i64 0),
  .full []])
  .no, .mk none none (.store 3 (.t 4) (.t 18))
  .no, .mk (some 5) none (.mov (.t 19)) .no])
  (.seq
  (.seq
  (.ops
  [.mk (some 20) none (.mov (.t 5)) .no, .mk (some 21) none (.bin .neq (.t 20) (.c (.one (.st (.int .i64 0)))))
  .no])
  (.cond (.t 21)
  (.seq
  (.ops
  [.mk (some 22) none
  (.build
  [.st (.int .i64 0), .st (.int .i64 0), .full []]
  [])
  .no, .mk (some 23) none (.mov (.t 5)) .no, .mk none none (.store 3 (.t 2) (.t 22)) .no, .mk (some 3) none (.mov (.t 23))
  .no])
  .ret)
  .skip))
  (.seq
  (.ops
  [.mk (some 25) none (.fieldAddr 1 (.t 1))
  .no, .mk (some 26) none (.load false 1 (.t 25))
  .no, .mk (some 27) none
  (.indexAddr 2 (.t 26) (.c (.one (.st (.int .i64 1)))))
  .no, .mk (some 28) none (.load true 2 (.t 27))
  .no, .mk (some 29) none (.call 29 [.t 28])
  .no, .mk (some 24) none (.mov (.t 29)) .no, .mk (some 30) none (.extract 0 (.t 24))
  .no, .mk (some 31) none (.extract 1 (.t 24))
  .no, .mk (some 6) none
  (.alloc 25
  [.st (.int .i64 0), .st (.int .i64 0), .full []])
  .no, .mk none none (.store 3 (.t 6) (.t 30))
  .no, .mk (some 5) none (.mov (.t 31)) .no])
  (.seq
  (.seq
  (.ops
  [.mk (some 32) none (.mov (.t 5)) .no, .mk (some 33) none (.bin .neq (.t 32) (.c (.one (.st (.int .i64 0)))))
  .no])
  (.cond (.t 33)
  (.seq
  (.ops
  [.mk (some 34) none
  (.build
  [.st (.int .i64 0), .st (.int .i64 0), .full []]
  [])
  .no, .mk (some 35) none (.mov (.t 5))
  .no, .mk none none (.store 3 (.t 2) (.t 34)) .no, .mk (some 3) none (.mov (.t 35))
  .no])
  .ret)
  .skip))
  (.seq
  (.ops
  [.mk (some 36) none (.load true 3 (.t 4))
  .no, .mk (some 37) none (.load true 3 (.t 6))
  .no, .mk (some 38) none (.call 36 [.t 36, .t 37]) .no, .mk none none (.store 3 (.t 2) (.t 38)) .no, .mk (some 3) none (.mov (.c (.one (.st (.int .i64 0)))))
  .no])
  .ret)))))
  .skip))
  (.seq
  (.seq
  (.ops
  [.mk (some 39) none (.fieldAddr 0 (.t 1)) .no, .mk (some 40) none (.load false 1 (.t 39))
  .no])
  (.block 0
  (.seq
  (.ops
  [.mk (some 42) none (.bin .eql (.t 40) (.c (.one (.st (.str (ByteArray.mk (#[105])))))))
  .no, .mk (some 41) none (.mov (.t 42)) .no])
  (.cond (.t 41)
  (.seq
  (.ops
  [.mk (some 43) none (.call 34
  [.c (.one (.st (.int .i64 0)))])
  .no, .mk (some 44) none (.call 33 [.t 43])
  .no, .mk none none (.store 3 (.t 2) (.t 44))
  .no, .mk (some 3) none (.mov (.c (.one (.st (.int .i64 0)))))
  .no])
  .ret)
  (.seq
  (.ops
  [.mk (some 46) none (.bin .eql (.t 40) (.c (.one (.st (.str (ByteArray.mk (#[107])))))))
  .no, .mk (some 45) none (.mov (.t 46)) .no])
  (.cond (.t 45)
  (.seq
  (.ops
  [.mk (some 47) none (.call 34
  [.c (.one (.st (.int .i64 1)))])
  .no, .mk (some 48) none (.call 33 [.t 47])
  .no, .mk (some 49) none (.call 33 [.t 48])
  .no, .mk none none (.store 3 (.t 2) (.t 49)) .no, .mk (some 3) none (.mov (.c (.one (.st (.int .i64 0)))))
  .no])
  .ret)
  (.seq
  (.ops
  [.mk (some 51) none (.bin .eql (.t 40) (.c (.one (.st (.str (ByteArray.mk (#[115])))))))
  .no, .mk (some 50) none (.mov (.t 51))
  .no])
  (.cond (.t 50)
  (.seq
  (.ops
  [.mk (some 52) none (.call 34
  [.c (.one (.st (.int .i64 2)))])
  .no, .mk (some 53) none (.call 34
  [.c (.one (.st (.int .i64 0)))])
  .no, .mk (some 54) none (.call 36 [.t 52, .t 53]) .no, .mk (some 55) none (.call 34
  [.c (.one (.st (.int .i64 1)))])
  .no, .mk (some 56) none (.call 34
  [.c (.one (.st (.int .i64 0)))])
  .no, .mk (some 57) none (.call 36 [.t 55, .t 56]) .no, .mk (some 58) none (.call 36 [.t 54, .t 57]) .no, .mk (some 59) none (.call 33 [.t 58])
  .no, .mk (some 60) none (.call 33 [.t 59])
  .no, .mk (some 61) none (.call 33 [.t 60])
  .no, .mk none none (.store 3 (.t 2) (.t 61)) .no, .mk (some 3) none (.mov (.c (.one (.st (.int .i64 0)))))
  .no])
  .ret)
  .skip))))))))
  (.seq
  (.seq
  (.ops
  [.mk (some 62) none (.fieldAddr 0 (.t 1)) .no, .mk (some 63) none (.load false 1 (.t 62))
  .no, .mk (some 64) none (.call 26 [.t 63]) .no])
  (.cond (.t 64)
  (.seq
  (.ops
  [.mk (some 65) none
  (.build
  [.st (.int .i64 0), .st (.int .i64 0), .full []]
  [])
  .no, .mk none none (.store 3 (.t 2) (.t 65))
  .no, .mk (some 3) none (.mov (.c (.one (.st (.int .i64 15)))))
  .no])
  .ret)
  .skip))
  (.seq
  (.ops
  [.mk (some 66) none (.fieldAddr 0 (.t 1)) .no, .mk (some 67) none (.load false 1 (.t 66))
  .no, .mk (some 68) none (.call 55 [.t 67]) .no, .mk (some 7) none (.mov (.t 68)) .no])
  (.seq
  (.seq
  (.ops
  [.mk (some 69) none (.mov (.t 7)) .no, .mk (some 70) none (.bin .lss (.t 69) (.c (.one (.st (.int .i64 0)))))
  .no])
  (.cond (.t 70)
  (.seq
  (.ops
  [.mk (some 71) none
  (.build
  [.st (.int .i64 0), .st (.int .i64 0), .full []]
  [])
  .no, .mk none none (.store 3 (.t 2) (.t 71)) .no, .mk (some 3) none (.mov (.c (.one (.st (.int .i64 1)))))
  .no])
  .ret)
  .skip))
  (.seq
  (.ops
  [.mk (some 72) none (.mov (.t 7)) .no, .mk (some 73) none (.call 35 [.t 72])
  .no, .mk none none (.store 3 (.t 2) (.t 73))
  .no, .mk (some 3) none (.mov (.c (.one (.st (.int .i64 0)))))
  .no])
  .ret)))))))
theorem tr_R_LamOf : trCode Tryz.prog 74 [] (Tryz.f29.body.getD .skip) = some ir_R_LamOf := by kernel_rfl
theorem ac_R_LamOf {xs : List AV} {r : AV} (hn : xs.length ≤ 74) (h : ∀ C : Ctx, C.n = 74 → IWP Tryz.prog C [] ir_R_LamOf (FinQ [.cell 2 true 3, .t 3] r) (AS.start xs)) : ACalls Tryz.prog 29 xs r :=
  acalls_of Tryz.func29 rfl tr_R_LamOf rfl hn h
theorem acS_R_LamOf {xs : List AV} {S S' : AStore} {r : AV} (hn : xs.length ≤ 74) (h : Clean S → ∀ C : Ctx, C.n = 74 → IWP Tryz.prog C [] ir_R_LamOf (FinS C [.cell 2 true 3, .t 3] r S') (AS.startS xs S)) : ACallsS Tryz.prog 29 xs S r S' :=
  acallsS_of Tryz.func29 rfl tr_R_LamOf rfl hn h

def ir_L_CombSays : IR :=
  (.seq
  (.ops
  [.mk (some 3) none (.box 30 (.t 1)) .no, .mk (some 4) none (.mov (.c (.one (.st (.bool false)))))
  .no])
  (.seq
  (.seq
  (.ops
  [.mk (some 12) none (.mov (.t 0)) .no, .mk (some 13) none (.len true (.t 12)) .no, .mk (some 14) none (.bin .gtr (.t 13) (.c (.one (.st (.int .i64 100)))))
  .no, .mk (some 15) none (.mov (.t 14)) .no, .mk (some 16) (some (15, false)) (.load true 2 (.t 3))
  .no, .mk (some 17) (some (15, false)) (.call 21 [.t 16])
  .no, .mk (some 18) none
  (.pick (.t 15) (.c (.one (.st (.bool true)))) (.t 17))
  .no])
  (.cond (.t 18)
  (.seq
  (.ops
  [.mk (some 4) none (.mov (.c (.one (.st (.bool true)))))
  .no])
  .ret)
  .skip))
  (.seq
  (.ops
  [.mk (some 19) none (.load true 2 (.t 3)) .no, .mk (some 20) none (.call 22 [.t 19]) .no, .mk (some 5) none (.mov (.t 20)) .no])
  (.seq
  (.ops
  [.mk (some 21) none (.mov (.t 5)) .no, .mk (some 6) none (.mov (.t 21)) .no])
  (.seq
  (.seq
  (.ops
  [.mk (some 22) none (.mov (.t 0)) .no, .mk (some 23) none (.call 25 [.t 22]) .no, .mk (some 24) none (.un .not (.t 23))
  .no, .mk (some 25) none (.mov (.t 24)) .no, .mk (some 26) (some (25, false)) (.mov (.t 0))
  .no, .mk (some 27) (some (25, false)) (.call 26 [.t 26])
  .no, .mk (some 28) (some (25, false)) (.un .not (.t 27))
  .no, .mk (some 29) none
  (.pick (.t 25) (.c (.one (.st (.bool true)))) (.t 28))
  .no])
  (.cond (.t 29)
  (.ops
  [.mk (some 6) none (.mov (.c (.one (.st (.int .i64 1)))))
  .no])
  .skip))
  (.seq
  (.ops
  [.mk (some 30) none
  (.build
  [.st (.str (ByteArray.mk (#[]))), .full []] [])
  .no, .mk (some 7) none
  (.alloc 30
  [.st (.str (ByteArray.mk (#[]))), .full []])
  .no, .mk none none (.store 2 (.t 7) (.t 30))
  .no])
  (.seq
  (.seq
  (.ops
  [.mk (some 31) none (.mov (.t 6)) .no, .mk (some 32) none (.bin .eql (.t 31) (.c (.one (.st (.int .i64 0)))))
  .no])
  (.cond (.t 32)
  (.seq
  (.ops
  [.mk (some 33) none (.mov (.t 0))
  .no, .mk (some 34) none (.load true 2 (.t 3))
  .no, .mk (some 35) none (.call 15 [.t 33, .t 34]) .no, .mk none none (.store 2 (.t 7) (.t 35)) .no])
  (.seq
  (.ops
  [.mk (some 36) none (.load true 2 (.t 7))
  .no, .mk (some 37) none (.call 8
  [.t 36, .c (.one (.st (.int .i64 2000)))])
  .no, .mk (some 38) none (.bin .gtr (.t 37) (.c (.one (.st (.int .i64 2000)))))
  .no])
  (.cond (.t 38)
  (.ops
  [.mk (some 6) none (.mov (.c (.one (.st (.int .i64 8)))))
  .no])
  .skip)))
  .skip))
  (.seq
  (.ops
  [.mk (some 40) none (.mov (.t 0)) .no, .mk (some 41) none (.load true 2 (.t 3))
  .no, .mk (some 42) none (.call 27 [.t 40, .t 41]) .no, .mk (some 39) none (.mov (.t 42)) .no, .mk (some 43) none (.extract 0 (.t 39))
  .no, .mk (some 44) none (.extract 1 (.t 39))
  .no, .mk (some 8) none
  (.alloc 30
  [.st (.str (ByteArray.mk (#[]))), .full []])
  .no, .mk none none (.store 2 (.t 8) (.t 43))
  .no, .mk (some 9) none (.mov (.t 44)) .no])
  (.seq
  (.seq
  (.ops
  [.mk (some 45) none (.load true 2 (.t 3))
  .no, .mk (some 46) none (.call 28 [.t 45])
  .no, .mk (some 47) none (.mov (.t 5))
  .no, .mk (some 48) none (.bin .neq (.t 46) (.t 47)) .no, .mk (some 49) none (.mov (.t 48))
  .no, .mk (some 50) (some (49, false)) (.load true 2 (.t 8))
  .no, .mk (some 51) (some (49, false)) (.mov (.t 9))
  .no, .mk (some 52) (some (49, false)) (.load true 2 (.t 7))
  .no, .mk (some 53) (some (49, false)) (.mov (.t 6))
  .no, .mk (some 54) (some (49, false)) (.call 20
  [.t 50, .t 51, .t 52, .t 53])
  .no, .mk (some 55) (some (49, false)) (.un .not (.t 54))
  .no, .mk (some 56) none
  (.pick (.t 49) (.c (.one (.st (.bool true)))) (.t 55))
  .no])
  (.cond (.t 56)
  (.seq
  (.ops
  [.mk (some 4) none (.mov (.c (.one (.st (.bool false)))))
  .no])
  .ret)
  .skip))
  (.seq
  (.ops
  [.mk (some 57) none (.mov (.t 5))
  .no, .mk (some 6) none (.mov (.t 57))
  .no])
  (.seq
  (.ops
  [.mk (some 58) none
  (.build
  [.st (.int .i64 0), .st (.int .i64 0), .full []]
  [])
  .no, .mk (some 10) none
  (.alloc 25
  [.st (.int .i64 0), .st (.int .i64 0), .full []])
  .no, .mk none none (.store 3 (.t 10) (.t 58)) .no])
  (.seq
  (.seq
  (.ops
  [.mk (some 59) none (.mov (.t 6))
  .no, .mk (some 60) none (.bin .eql (.t 59) (.c (.one (.st (.int .i64 0)))))
  .no])
  (.cond (.t 60)
  (.ops
  [.mk (some 62) none (.load true 2 (.t 3))
  .no, .mk (some 63) none (.call 29 [.t 62])
  .no, .mk (some 61) none (.mov (.t 63))
  .no, .mk (some 64) none (.extract 0 (.t 61))
  .no, .mk (some 65) none (.extract 1 (.t 61))
  .no, .mk none none (.store 3 (.t 10) (.t 64)) .no, .mk (some 6) none (.mov (.t 65))
  .no])
  .skip))
  (.seq
  (.seq
  (.ops
  [.mk (some 66) none (.mov (.t 6))
  .no, .mk (some 67) none (.bin .eql (.t 66) (.c (.one (.st (.int .i64 0)))))
  .no, .mk (some 68) none (.mov (.t 67))
  .no, .mk (some 69) (some (68, true)) (.load true 3 (.t 10))
  .no, .mk (some 70) (some (68, true)) (.call 18
  [.t 69, .c (.one (.st (.int .i64 2000)))])
  .no, .mk (some 71) (some (68, true)) (.bin .gtr (.t 70) (.c (.one (.st (.int .i64 2000)))))
  .no, .mk (some 72) none
  (.pick (.t 68) (.t 71) (.c (.one (.st (.bool false)))))
  .no])
  (.cond (.t 72)
  (.ops
  [.mk (some 6) none (.mov (.c (.one (.st (.int .i64 8)))))
  .no])
  .skip))
  (.seq
  (.ops
  [.mk (some 74) none (.load true 2 (.t 3))
  .no, .mk (some 75) none (.call 30 [.t 74])
  .no, .mk (some 73) none (.mov (.t 75))
  .no, .mk (some 76) none (.extract 0 (.t 73))
  .no, .mk (some 77) none (.extract 1 (.t 73))
  .no, .mk (some 11) none
  (.alloc 25
  [.st (.int .i64 0), .st (.int .i64 0), .full []])
  .no, .mk none none (.store 3 (.t 11) (.t 76)) .no, .mk (some 9) none (.mov (.t 77))
  .no])
  (.seq
  (.ops
  [.mk (some 78) none (.load true 3 (.t 11))
  .no, .mk (some 79) none (.mov (.t 9))
  .no, .mk (some 80) none (.load true 3 (.t 10))
  .no, .mk (some 81) none (.mov (.t 6))
  .no, .mk (some 82) none (.call 31
  [.t 78, .t 79, .t 80, .t 81])
  .no, .mk (some 4) none (.mov (.t 82))
  .no])
  .ret)))))))))))))))
theorem tr_L_CombSays : trCode Tryz.prog 83 [] (Tryz.f10.body.getD .skip) = some ir_L_CombSays := by kernel_rfl
theorem ac_L_CombSays {xs : List AV} {r : AV} (hn : xs.length ≤ 83) (h : ∀ C : Ctx, C.n = 83 → IWP Tryz.prog C [] ir_L_CombSays (FinQ [.t 4] r) (AS.start xs)) : ACalls Tryz.prog 10 xs r :=
  acalls_of Tryz.func10 rfl tr_L_CombSays rfl hn h
theorem acS_L_CombSays {xs : List AV} {S S' : AStore} {r : AV} (hn : xs.length ≤ 83) (h : Clean S → ∀ C : Ctx, C.n = 83 → IWP Tryz.prog C [] ir_L_CombSays (FinS C [.t 4] r S') (AS.startS xs S)) : ACallsS Tryz.prog 10 xs S r S' :=
  acallsS_of Tryz.func10 rfl tr_L_CombSays rfl hn h

end Go.Proofs.YtbiadmlfejnbcaaGreatDoor

namespace Go.Proofs.YtbiadmlfejnbcaaGreatDoor
open Go Go.RowKit
set_option maxRecDepth 100000

def ir_lambda_A : IR :=
  (.seq
  (.ops
  [.mk (some 2) none (.box 25 (.t 0)) .no, .mk (some 3) none (.box 25 (.t 1)) .no, .mk (some 4) none
  (.alloc 25
  [.st (.int .i64 0), .st (.int .i64 0),
  .full []])
  .no])
  (.seq
  (.ops
  [.mk (some 5) none (.load true 3 (.t 2)) .no, .mk (some 6) none (.load true 3 (.t 3)) .no, .mk (some 7) none
  (.buildSlice false 25 3 [.t 5, .t 6]) .no, .mk (some 8) none
  (.build
  [.st (.int .i64 0), .st (.int .i64 0),
  .full []]
  [(0, 1, .c (.one (.st (.int .i64 3)))),
  (2, 1, .t 7)])
  .no, .mk none none (.store 3 (.t 4) (.t 8))
  .no])
  .ret))
theorem tr_lambda_A : trCode Tryz.prog 9 [] (Tryz.f73.body.getD .skip) = some ir_lambda_A := by kernel_rfl
theorem ac_lambda_A {xs : List AV} {r : AV} (hn : xs.length ≤ 9) (h : ∀ C : Ctx, C.n = 9 → IWP Tryz.prog C [] ir_lambda_A (FinQ [.cell 4 true 3] r) (AS.start xs)) : ACalls Tryz.prog 73 xs r :=
  acalls_of Tryz.func73 rfl tr_lambda_A rfl hn h
theorem acS_lambda_A {xs : List AV} {S S' : AStore} {r : AV} (hn : xs.length ≤ 9) (h : Clean S → ∀ C : Ctx, C.n = 9 → IWP Tryz.prog C [] ir_lambda_A (FinS C [.cell 4 true 3] r S') (AS.startS xs S)) : ACallsS Tryz.prog 73 xs S r S' :=
  acallsS_of Tryz.func73 rfl tr_lambda_A rfl hn h

def ir_lambda_L : IR :=
  (.seq
  (.ops
  [.mk (some 1) none (.box 25 (.t 0)) .no, .mk (some 2) none
  (.alloc 25
  [.st (.int .i64 0), .st (.int .i64 0),
  .full []])
  .no])
  (.seq
  (.ops
  [.mk (some 3) none (.load true 3 (.t 1)) .no, .mk (some 4) none (.buildSlice false 25 3 [.t 3])
  .no, .mk (some 5) none
  (.build
  [.st (.int .i64 0), .st (.int .i64 0),
  .full []]
  [(0, 1, .c (.one (.st (.int .i64 2)))),
  (2, 1, .t 4)])
  .no, .mk none none (.store 3 (.t 2) (.t 5))
  .no])
  .ret))
theorem tr_lambda_L : trCode Tryz.prog 6 [] (Tryz.f80.body.getD .skip) = some ir_lambda_L := by kernel_rfl
theorem ac_lambda_L {xs : List AV} {r : AV} (hn : xs.length ≤ 6) (h : ∀ C : Ctx, C.n = 6 → IWP Tryz.prog C [] ir_lambda_L (FinQ [.cell 2 true 3] r) (AS.start xs)) : ACalls Tryz.prog 80 xs r :=
  acalls_of Tryz.func80 rfl tr_lambda_L rfl hn h
theorem acS_lambda_L {xs : List AV} {S S' : AStore} {r : AV} (hn : xs.length ≤ 6) (h : Clean S → ∀ C : Ctx, C.n = 6 → IWP Tryz.prog C [] ir_lambda_L (FinS C [.cell 2 true 3] r S') (AS.startS xs S)) : ACallsS Tryz.prog 80 xs S r S' :=
  acallsS_of Tryz.func80 rfl tr_lambda_L rfl hn h

def ir_R_App : IR :=
  (.seq
  (.ops
  [.mk (some 2) none (.box 25 (.t 0)) .no, .mk (some 3) none (.box 25 (.t 1)) .no, .mk (some 4) none
  (.alloc 25
  [.st (.int .i64 0), .st (.int .i64 0),
  .full []])
  .no])
  (.seq
  (.ops
  [.mk (some 5) none (.load true 3 (.t 2)) .no, .mk (some 6) none (.load true 3 (.t 3)) .no, .mk (some 7) none
  (.buildSlice false 25 3 [.t 5, .t 6]) .no, .mk (some 8) none
  (.build
  [.st (.int .i64 0), .st (.int .i64 0),
  .full []]
  [(0, 1, .c (.one (.st (.int .i64 3)))),
  (2, 1, .t 7)])
  .no, .mk none none (.store 3 (.t 4) (.t 8))
  .no])
  .ret))
theorem tr_R_App : trCode Tryz.prog 9 [] (Tryz.f36.body.getD .skip) = some ir_R_App := by kernel_rfl
theorem ac_R_App {xs : List AV} {r : AV} (hn : xs.length ≤ 9) (h : ∀ C : Ctx, C.n = 9 → IWP Tryz.prog C [] ir_R_App (FinQ [.cell 4 true 3] r) (AS.start xs)) : ACalls Tryz.prog 36 xs r :=
  acalls_of Tryz.func36 rfl tr_R_App rfl hn h
theorem acS_R_App {xs : List AV} {S S' : AStore} {r : AV} (hn : xs.length ≤ 9) (h : Clean S → ∀ C : Ctx, C.n = 9 → IWP Tryz.prog C [] ir_R_App (FinS C [.cell 4 true 3] r S') (AS.startS xs S)) : ACallsS Tryz.prog 36 xs S r S' :=
  acallsS_of Tryz.func36 rfl tr_R_App rfl hn h

def ir_R_Fun : IR :=
  (.seq
  (.ops
  [.mk (some 1) none (.box 25 (.t 0)) .no, .mk (some 2) none
  (.alloc 25
  [.st (.int .i64 0), .st (.int .i64 0),
  .full []])
  .no])
  (.seq
  (.ops
  [.mk (some 3) none (.load true 3 (.t 1)) .no, .mk (some 4) none (.buildSlice false 25 3 [.t 3])
  .no, .mk (some 5) none
  (.build
  [.st (.int .i64 0), .st (.int .i64 0),
  .full []]
  [(0, 1, .c (.one (.st (.int .i64 2)))),
  (2, 1, .t 4)])
  .no, .mk none none (.store 3 (.t 2) (.t 5))
  .no])
  .ret))
theorem tr_R_Fun : trCode Tryz.prog 6 [] (Tryz.f33.body.getD .skip) = some ir_R_Fun := by kernel_rfl
theorem ac_R_Fun {xs : List AV} {r : AV} (hn : xs.length ≤ 6) (h : ∀ C : Ctx, C.n = 6 → IWP Tryz.prog C [] ir_R_Fun (FinQ [.cell 2 true 3] r) (AS.start xs)) : ACalls Tryz.prog 33 xs r :=
  acalls_of Tryz.func33 rfl tr_R_Fun rfl hn h
theorem acS_R_Fun {xs : List AV} {S S' : AStore} {r : AV} (hn : xs.length ≤ 6) (h : Clean S → ∀ C : Ctx, C.n = 6 → IWP Tryz.prog C [] ir_R_Fun (FinS C [.cell 2 true 3] r S') (AS.startS xs S)) : ACallsS Tryz.prog 33 xs S r S' :=
  acallsS_of Tryz.func33 rfl tr_R_Fun rfl hn h

end Go.Proofs.YtbiadmlfejnbcaaGreatDoor

namespace Go.Proofs.YtbiadmlfejnbcaaGreatDoor
open Go Go.RowKit
set_option linter.unusedVariables false
set_option linter.unusedSimpArgs false
set_option maxHeartbeats 400000

/-! ### sameness, in plain Lean -/
theorem Lm.same_eq (a b : Lm) : a.same b = (decide (a.kind = b.kind) && decide (a.idx = b.idx) && Lm.sames a.subs b.subs) := by cases a; cases b; rfl
theorem Lm.sames_len : ∀ {xs ys : List Lm}, ¬ xs.length = ys.length → Lm.sames xs ys = false
  | [], [], h => absurd rfl h
  | [], _ :: _, _ => rfl
  | _ :: _, [], _ => rfl
  | x :: xs, y :: ys, h => by
    rw [Lm.sames, Lm.sames_len (fun e => h (by simp [e]))]
    simp
theorem Lm.sames_append : ∀ {xs ys us vs : List Lm}, xs.length = ys.length → Lm.sames (xs ++ us) (ys ++ vs) = (Lm.sames xs ys && Lm.sames us vs)
  | [], [], us, vs, _ => by simp [Lm.sames]
  | [], _ :: _, _, _, h => by simp at h
  | _ :: _, [], _, _, h => by simp at h
  | x :: xs, y :: ys, us, vs, h => by
    simp only [List.cons_append, Lm.sames, Lm.sames_append (show xs.length = ys.length by simpa using h), Bool.and_assoc]
theorem Lm.sames_take {xs ys : List Lm} {k : Nat} {x y : Lm} (hl : xs.length = ys.length) (hx : xs[k]? = some x) (hy : ys[k]? = some y) (h : Lm.sames (xs.take k) (ys.take k) = true) : Lm.sames (xs.take (k + 1)) (ys.take (k + 1)) = x.same y := by
  rw [take_snoc hx, take_snoc hy, Lm.sames_append (by simp [hl]), h]
  simp [Lm.sames]
theorem Lm.sames_no {xs ys : List Lm} {k : Nat} (hl : xs.length = ys.length) (h : Lm.sames (xs.take k) (ys.take k) = false) : Lm.sames xs ys = false := by
  have := Lm.sames_append (xs := xs.take k) (ys := ys.take k) (us := xs.drop k) (vs := ys.drop k) (by simp [hl])
  rw [List.take_append_drop, List.take_append_drop, h] at this
  simpa using this

theorem lsameR_a (a b : Lm) : ACalls Tryz.prog 58 [aLm a, aLm b] (aBool (a.same b)) := by
  induction h : SizeOf.sizeOf a using Nat.strongRecOn generalizing a b with
  | _ N ih =>
  subst h
  rw [Lm.same_eq]
  refine ac_R_SameLam (Nat.le_of_ble_eq_true rfl) fun C hC => ?_
  unfold ir_R_SameLam
  refine IWP.learn 0 (by omega) fun hkn => ?_
  have hkn := (known_lm hkn).2.2
  by_cases h1 : a.kind = b.kind
  case neg =>
    repeat' (first | (with_reducible first | refine Wa ?_ | refine Wb ?_ | refine Wc ?_ | refine Wd ?_ | refine We ?_ | refine Wf ?_ | refine Wg ?_ | refine Wh ?_ | refine Wi ?_ | refine Wj ?_ | refine Wk (by decide) ?_ | refine Wl ?_ | refine Wm ?_ | refine Wn ?_) | ((with_reducible first | refine Wo (fun K hK => ?_) | refine Wp ?_ | refine Wq ?_ | refine Wr ?_); (try simp only [go_sem, List.forall_mem_nil, ↓guard_ite, ↓pick_ite, seval, encT_eq, inR_i64, h1, decide_eq_true_eq, decide_eq_false_iff_not, Int.ofNat_lt]); (repeat with_reducible refine And.intro (by first | omega | with_reducible exact lens_encT | with_reducible exact lens_encL | (simp; done) | (simp only [List.length_take, List.length_map, List.length_append, maxLen_eq]; omega)) ?_); (try (with_reducible refine hK _ ?_; clear hK K)); (try with_reducible refine ite_conj ?_)))
    simp only [go_sem, List.forall_mem_nil, ↓guard_ite, ↓pick_ite, seval, FinQ, AS.result, resAll, resOne, tupV, h1]
    try simp
  case pos =>
  by_cases h2 : a.idx = b.idx
  case neg =>
    repeat' (first | (with_reducible first | refine Wa ?_ | refine Wb ?_ | refine Wc ?_ | refine Wd ?_ | refine We ?_ | refine Wf ?_ | refine Wg ?_ | refine Wh ?_ | refine Wi ?_ | refine Wj ?_ | refine Wk (by decide) ?_ | refine Wl ?_ | refine Wm ?_ | refine Wn ?_) | ((with_reducible first | refine Wo (fun K hK => ?_) | refine Wp ?_ | refine Wq ?_ | refine Wr ?_); (try simp only [go_sem, List.forall_mem_nil, ↓guard_ite, ↓pick_ite, seval, encT_eq, inR_i64, h1, h2, decide_eq_true_eq, decide_eq_false_iff_not, Int.ofNat_lt]); (repeat with_reducible refine And.intro (by first | omega | with_reducible exact lens_encT | with_reducible exact lens_encL | (simp; done) | (simp only [List.length_take, List.length_map, List.length_append, maxLen_eq]; omega)) ?_); (try (with_reducible refine hK _ ?_; clear hK K)); (try with_reducible refine ite_conj ?_)))
    simp only [go_sem, List.forall_mem_nil, ↓guard_ite, ↓pick_ite, seval, FinQ, AS.result, resAll, resOne, tupV, h1, h2]
    try simp
  case pos =>
  by_cases h3 : a.subs.length = b.subs.length
  case neg =>
    have h3' : ¬ (a.subs.length : Int) = b.subs.length := by omega
    rw [Lm.sames_len h3]
    repeat' (first | (with_reducible first | refine Wa ?_ | refine Wb ?_ | refine Wc ?_ | refine Wd ?_ | refine We ?_ | refine Wf ?_ | refine Wg ?_ | refine Wh ?_ | refine Wi ?_ | refine Wj ?_ | refine Wk (by decide) ?_ | refine Wl ?_ | refine Wm ?_ | refine Wn ?_) | ((with_reducible first | refine Wo (fun K hK => ?_) | refine Wp ?_ | refine Wq ?_ | refine Wr ?_); (try simp only [go_sem, List.forall_mem_nil, ↓guard_ite, ↓pick_ite, seval, encT_eq, inR_i64, h1, h2, h3', decide_eq_true_eq, decide_eq_false_iff_not, Int.ofNat_lt]); (repeat with_reducible refine And.intro (by first | omega | with_reducible exact lens_encT | with_reducible exact lens_encL | (simp; done) | (simp only [List.length_take, List.length_map, List.length_append, maxLen_eq]; omega)) ?_); (try (with_reducible refine hK _ ?_; clear hK K)); (try with_reducible refine ite_conj ?_)))
    simp only [go_sem, List.forall_mem_nil, ↓guard_ite, ↓pick_ite, seval, FinQ, AS.result, resAll, resOne, tupV, h1, h2, h3']
    try simp
  case pos =>
  have h3' : (a.subs.length : Int) = b.subs.length := by omega
  repeat' (first | (with_reducible first | refine Wa ?_ | refine Wb ?_ | refine Wc ?_ | refine Wd ?_ | refine We ?_ | refine Wf ?_ | refine Wg ?_ | refine Wh ?_ | refine Wi ?_ | refine Wj ?_ | refine Wk (by decide) ?_ | refine Wl ?_ | refine Wm ?_ | refine Wn ?_) | ((with_reducible first | refine Wo (fun K hK => ?_) | refine Wp ?_ | refine Wq ?_ | refine Wr ?_); (try simp only [go_sem, List.forall_mem_nil, ↓guard_ite, ↓pick_ite, seval, encT_eq, inR_i64, h1, h2, h3', decide_eq_true_eq, decide_eq_false_iff_not, Int.ofNat_lt]); (repeat with_reducible refine And.intro (by first | omega | with_reducible exact lens_encT | with_reducible exact lens_encL | (simp; done) | (simp only [List.length_take, List.length_map, List.length_append, maxLen_eq]; omega)) ?_); (try (with_reducible refine hK _ ?_; clear hK K)); (try with_reducible refine ite_conj ?_)))
  refine IWP.loop (fun n s => ∃ k, k ≤ a.subs.length ∧ n = a.subs.length - k ∧ Lm.sames (a.subs.take k) (b.subs.take k) = true ∧ s.env 2 = .one (.ptr 2 1 0 0) ∧ s.env 3 = .one (.ptr 3 1 0 0) ∧ s.S 2 = some (.box 25 [.st (.int .i64 b.kind), .st (.int .i64 b.idx), .st (.list (a.subs.map encL))]) ∧ s.S 3 = some (.box 25 [.st (.int .i64 b.kind), .st (.int .i64 b.idx), .st (.list (b.subs.map encL))]) ∧ s.env 5 = aInt k) a.subs.length ⟨0, Nat.zero_le _, rfl, rfl, rfl, rfl, by simp only [h1, h2]; rfl, rfl, rfl⟩ ?_
  rintro n ⟨env, S⟩ ⟨k, hk', rfl, hp, e2, e3, s2, s3, e5⟩
  simp only at e2 e3 s2 s3 e5
  by_cases hlt : (k : Int) < a.subs.length
  · obtain ⟨x, hx⟩ := get_lt (show k < a.subs.length by omega)
    obtain ⟨y, hy⟩ := get_lt (show k < b.subs.length by omega)
    have hlt2 : (k : Int) < b.subs.length := by omega
    repeat' (first | (with_reducible first | refine Wa ?_ | refine Wb ?_ | refine Wc ?_ | refine Wd ?_ | refine We ?_ | refine Wf ?_ | refine Wg ?_ | refine Wh ?_ | refine Wi ?_ | refine Wj ?_ | refine Wk (by decide) ?_ | refine Wl ?_ | refine Wm ?_ | refine Wn ?_) | ((with_reducible first | refine Wo (fun K hK => ?_) | refine Wp ?_ | refine Wq ?_ | refine Wr ?_); (try simp only [go_sem, List.forall_mem_nil, ↓guard_ite, ↓pick_ite, seval, encT_eq, inR_i64, e2, e3, s2, s3, e5, hx, hy, hlt, hlt2, decide_eq_true_eq, decide_eq_false_iff_not, Int.ofNat_lt]); (repeat with_reducible refine And.intro (by first | omega | with_reducible exact lens_encT | with_reducible exact lens_encL | (simp; done) | (simp only [List.length_take, List.length_map, List.length_append, maxLen_eq]; omega)) ?_); (try (with_reducible refine hK _ ?_; clear hK K)); (try with_reducible refine ite_conj ?_)))
    refine ⟨_, ih _ (Lm.lt_of_sub (mem_of_get hx)) x y rfl, ?_⟩
    by_cases hr : x.same y = true
    · repeat' (first | (with_reducible first | refine Wa ?_ | refine Wb ?_ | refine Wc ?_ | refine Wd ?_ | refine We ?_ | refine Wf ?_ | refine Wg ?_ | refine Wh ?_ | refine Wi ?_ | refine Wj ?_ | refine Wk (by decide) ?_ | refine Wl ?_ | refine Wm ?_ | refine Wn ?_) | ((with_reducible first | refine Wo (fun K hK => ?_) | refine Wp ?_ | refine Wq ?_ | refine Wr ?_); (try simp only [go_sem, List.forall_mem_nil, ↓guard_ite, ↓pick_ite, seval, encT_eq, inR_i64, e2, e3, s2, s3, e5, hr, decide_eq_true_eq, decide_eq_false_iff_not, Int.ofNat_lt]); (repeat with_reducible refine And.intro (by first | omega | with_reducible exact lens_encT | with_reducible exact lens_encL | (simp; done) | (simp only [List.length_take, List.length_map, List.length_append, maxLen_eq]; omega)) ?_); (try (with_reducible refine hK _ ?_; clear hK K)); (try with_reducible refine ite_conj ?_)))
      refine then_normal ⟨a.subs.length - (k + 1), by omega, k + 1, by omega, rfl, ?_⟩
      simp only [go_sem, List.forall_mem_nil, ↓guard_ite, ↓pick_ite, seval, encT_eq, inR_i64, e2, e3, s2, s3, e5]
      exact ⟨by rw [Lm.sames_take h3 hx hy hp, hr], by congr 3⟩
    · have hr' : x.same y = false := by simpa using hr
      repeat' (first | (with_reducible first | refine Wa ?_ | refine Wb ?_ | refine Wc ?_ | refine Wd ?_ | refine We ?_ | refine Wf ?_ | refine Wg ?_ | refine Wh ?_ | refine Wi ?_ | refine Wj ?_ | refine Wk (by decide) ?_ | refine Wl ?_ | refine Wm ?_ | refine Wn ?_) | ((with_reducible first | refine Wo (fun K hK => ?_) | refine Wp ?_ | refine Wq ?_ | refine Wr ?_); (try simp only [go_sem, List.forall_mem_nil, ↓guard_ite, ↓pick_ite, seval, encT_eq, inR_i64, e2, e3, s2, s3, e5, hr', decide_eq_true_eq, decide_eq_false_iff_not, Int.ofNat_lt]); (repeat with_reducible refine And.intro (by first | omega | with_reducible exact lens_encT | with_reducible exact lens_encL | (simp; done) | (simp only [List.length_take, List.length_map, List.length_append, maxLen_eq]; omega)) ?_); (try (with_reducible refine hK _ ?_; clear hK K)); (try with_reducible refine ite_conj ?_)))
      simp only [go_sem, List.forall_mem_nil, ↓guard_ite, ↓pick_ite, seval, FinQ, AS.result, resAll, resOne, tupV]
      rw [Lm.sames_no (k := k + 1) h3 (by rw [Lm.sames_take h3 hx hy hp, hr'])]
      simp
  · repeat' (first | (with_reducible first | refine Wa ?_ | refine Wb ?_ | refine Wc ?_ | refine Wd ?_ | refine We ?_ | refine Wf ?_ | refine Wg ?_ | refine Wh ?_ | refine Wi ?_ | refine Wj ?_ | refine Wk (by decide) ?_ | refine Wl ?_ | refine Wm ?_ | refine Wn ?_) | ((with_reducible first | refine Wo (fun K hK => ?_) | refine Wp ?_ | refine Wq ?_ | refine Wr ?_); (try simp only [go_sem, List.forall_mem_nil, ↓guard_ite, ↓pick_ite, seval, encT_eq, inR_i64, e2, e3, s2, s3, e5, hlt, decide_eq_true_eq, decide_eq_false_iff_not, Int.ofNat_lt]); (repeat with_reducible refine And.intro (by first | omega | with_reducible exact lens_encT | with_reducible exact lens_encL | (simp; done) | (simp only [List.length_take, List.length_map, List.length_append, maxLen_eq]; omega)) ?_); (try (with_reducible refine hK _ ?_; clear hK K)); (try with_reducible refine ite_conj ?_)))
    simp only [go_sem, List.forall_mem_nil, ↓guard_ite, ↓pick_ite, seval, FinQ, AS.result, resAll, resOne, tupV]
    rw [List.take_of_length_le (by omega), List.take_of_length_le (by omega)] at hp
    rw [hp]
    simp [h1, h2]

theorem lA_a (f x : Lm) : ACalls Tryz.prog 73 [aLm f, aLm x] (aLm (Lm.a f x)) := by
  refine ac_lambda_A (Nat.le_of_ble_eq_true rfl) fun C hC => ?_
  unfold ir_lambda_A
  repeat' (first | (with_reducible first | refine Wa ?_ | refine Wb ?_ | refine Wc ?_ | refine Wd ?_ | refine We ?_ | refine Wf ?_ | refine Wg ?_ | refine Wh ?_ | refine Wi ?_ | refine Wj ?_ | refine Wk (by decide) ?_ | refine Wl ?_ | refine Wm ?_ | refine Wn ?_) | ((with_reducible first | refine Wo (fun K hK => ?_) | refine Wp ?_ | refine Wq ?_ | refine Wr ?_); (try simp only [go_sem, List.forall_mem_nil, ↓guard_ite, ↓pick_ite, seval, encT_eq, inR_i64, decide_eq_true_eq, decide_eq_false_iff_not, Int.ofNat_lt]); (repeat with_reducible refine And.intro (by first | omega | with_reducible exact lens_encT | with_reducible exact lens_encL | (simp; done) | (simp only [List.length_take, List.length_map, List.length_append, maxLen_eq]; omega)) ?_); (try (with_reducible refine hK _ ?_; clear hK K)); (try with_reducible refine ite_conj ?_)))
  simp only [go_sem, List.forall_mem_nil, ↓guard_ite, ↓pick_ite, seval, FinQ, AS.result, resAll, resOne, tupV]
  simp [Lm.a, Lm.kind_mk, Lm.idx_mk, Lm.subs_mk, encL_eq]
theorem lApp_a (f x : Lm) : ACalls Tryz.prog 36 [aLm f, aLm x] (aLm (Lm.a f x)) := by
  refine ac_R_App (Nat.le_of_ble_eq_true rfl) fun C hC => ?_
  unfold ir_R_App
  repeat' (first | (with_reducible first | refine Wa ?_ | refine Wb ?_ | refine Wc ?_ | refine Wd ?_ | refine We ?_ | refine Wf ?_ | refine Wg ?_ | refine Wh ?_ | refine Wi ?_ | refine Wj ?_ | refine Wk (by decide) ?_ | refine Wl ?_ | refine Wm ?_ | refine Wn ?_) | ((with_reducible first | refine Wo (fun K hK => ?_) | refine Wp ?_ | refine Wq ?_ | refine Wr ?_); (try simp only [go_sem, List.forall_mem_nil, ↓guard_ite, ↓pick_ite, seval, encT_eq, inR_i64, decide_eq_true_eq, decide_eq_false_iff_not, Int.ofNat_lt]); (repeat with_reducible refine And.intro (by first | omega | with_reducible exact lens_encT | with_reducible exact lens_encL | (simp; done) | (simp only [List.length_take, List.length_map, List.length_append, maxLen_eq]; omega)) ?_); (try (with_reducible refine hK _ ?_; clear hK K)); (try with_reducible refine ite_conj ?_)))
  simp only [go_sem, List.forall_mem_nil, ↓guard_ite, ↓pick_ite, seval, FinQ, AS.result, resAll, resOne, tupV]
  simp [Lm.a, Lm.kind_mk, Lm.idx_mk, Lm.subs_mk, encL_eq]
theorem lL_a (t : Lm) : ACalls Tryz.prog 80 [aLm t] (aLm (Lm.l t)) := by
  refine ac_lambda_L (Nat.le_of_ble_eq_true rfl) fun C hC => ?_
  unfold ir_lambda_L
  repeat' (first | (with_reducible first | refine Wa ?_ | refine Wb ?_ | refine Wc ?_ | refine Wd ?_ | refine We ?_ | refine Wf ?_ | refine Wg ?_ | refine Wh ?_ | refine Wi ?_ | refine Wj ?_ | refine Wk (by decide) ?_ | refine Wl ?_ | refine Wm ?_ | refine Wn ?_) | ((with_reducible first | refine Wo (fun K hK => ?_) | refine Wp ?_ | refine Wq ?_ | refine Wr ?_); (try simp only [go_sem, List.forall_mem_nil, ↓guard_ite, ↓pick_ite, seval, encT_eq, inR_i64, decide_eq_true_eq, decide_eq_false_iff_not, Int.ofNat_lt]); (repeat with_reducible refine And.intro (by first | omega | with_reducible exact lens_encT | with_reducible exact lens_encL | (simp; done) | (simp only [List.length_take, List.length_map, List.length_append, maxLen_eq]; omega)) ?_); (try (with_reducible refine hK _ ?_; clear hK K)); (try with_reducible refine ite_conj ?_)))
  simp only [go_sem, List.forall_mem_nil, ↓guard_ite, ↓pick_ite, seval, FinQ, AS.result, resAll, resOne, tupV]
  simp [Lm.l, Lm.kind_mk, Lm.idx_mk, Lm.subs_mk, encL_eq]
theorem lFun_a (t : Lm) : ACalls Tryz.prog 33 [aLm t] (aLm (Lm.l t)) := by
  refine ac_R_Fun (Nat.le_of_ble_eq_true rfl) fun C hC => ?_
  unfold ir_R_Fun
  repeat' (first | (with_reducible first | refine Wa ?_ | refine Wb ?_ | refine Wc ?_ | refine Wd ?_ | refine We ?_ | refine Wf ?_ | refine Wg ?_ | refine Wh ?_ | refine Wi ?_ | refine Wj ?_ | refine Wk (by decide) ?_ | refine Wl ?_ | refine Wm ?_ | refine Wn ?_) | ((with_reducible first | refine Wo (fun K hK => ?_) | refine Wp ?_ | refine Wq ?_ | refine Wr ?_); (try simp only [go_sem, List.forall_mem_nil, ↓guard_ite, ↓pick_ite, seval, encT_eq, inR_i64, decide_eq_true_eq, decide_eq_false_iff_not, Int.ofNat_lt]); (repeat with_reducible refine And.intro (by first | omega | with_reducible exact lens_encT | with_reducible exact lens_encL | (simp; done) | (simp only [List.length_take, List.length_map, List.length_append, maxLen_eq]; omega)) ?_); (try (with_reducible refine hK _ ?_; clear hK K)); (try with_reducible refine ite_conj ?_)))
  simp only [go_sem, List.forall_mem_nil, ↓guard_ite, ↓pick_ite, seval, FinQ, AS.result, resAll, resOne, tupV]
  simp [Lm.l, Lm.kind_mk, Lm.idx_mk, Lm.subs_mk, encL_eq]
/-! ### what can be worked out -/
def Lm.isRed (t : Lm) : Bool := (Lm.top t.kind t.subs).isSome
end Go.Proofs.YtbiadmlfejnbcaaGreatDoor

namespace Go.Proofs.YtbiadmlfejnbcaaGreatDoor
open Go Go.RowKit
set_option linter.unusedVariables false
set_option linter.unusedSimpArgs false
set_option maxHeartbeats 1000000

theorem lC_a (i : Int) : ACalls Tryz.prog 72 [aInt i] (aLm (.mk 4 i [])) := by
  refine ac_lambda_C (Nat.le_of_ble_eq_true rfl) fun C hC => ?_
  unfold ir_lambda_C
  repeat' (first | (with_reducible first | refine Wa ?_ | refine Wb ?_ | refine Wc ?_ | refine Wd ?_ | refine We ?_ | refine Wf ?_ | refine Wg ?_ | refine Wh ?_ | refine Wi ?_ | refine Wj ?_ | refine Wk (by decide) ?_ | refine Wl ?_ | refine Wm ?_ | refine Wn ?_) | ((with_reducible first | refine Wo (fun K hK => ?_) | refine Wp ?_ | refine Wq ?_ | refine Wr ?_); (try simp only [go_sem, List.forall_mem_nil, ↓guard_ite, ↓pick_ite, seval, encT_eq, inR_i64, decide_eq_true_eq, decide_eq_false_iff_not, Int.ofNat_lt]); (repeat with_reducible refine And.intro (by first | omega | with_reducible exact lens_encT | with_reducible exact lens_encL | (simp; done) | (simp only [List.length_take, List.length_map, List.length_append, maxLen_eq]; omega)) ?_); (try (with_reducible refine hK _ ?_; clear hK K)); (try with_reducible refine ite_conj ?_)))
  simp only [go_sem, List.forall_mem_nil, ↓guard_ite, ↓pick_ite, seval, FinQ, AS.result, resAll, resOne, tupV]
  simp [Lm.kind_mk, Lm.idx_mk, Lm.subs_mk, encL_eq]
theorem lCon_a (i : Int) : ACalls Tryz.prog 35 [aInt i] (aLm (.mk 4 i [])) := by
  refine ac_R_Con (Nat.le_of_ble_eq_true rfl) fun C hC => ?_
  unfold ir_R_Con
  repeat' (first | (with_reducible first | refine Wa ?_ | refine Wb ?_ | refine Wc ?_ | refine Wd ?_ | refine We ?_ | refine Wf ?_ | refine Wg ?_ | refine Wh ?_ | refine Wi ?_ | refine Wj ?_ | refine Wk (by decide) ?_ | refine Wl ?_ | refine Wm ?_ | refine Wn ?_) | ((with_reducible first | refine Wo (fun K hK => ?_) | refine Wp ?_ | refine Wq ?_ | refine Wr ?_); (try simp only [go_sem, List.forall_mem_nil, ↓guard_ite, ↓pick_ite, seval, encT_eq, inR_i64, decide_eq_true_eq, decide_eq_false_iff_not, Int.ofNat_lt]); (repeat with_reducible refine And.intro (by first | omega | with_reducible exact lens_encT | with_reducible exact lens_encL | (simp; done) | (simp only [List.length_take, List.length_map, List.length_append, maxLen_eq]; omega)) ?_); (try (with_reducible refine hK _ ?_; clear hK K)); (try with_reducible refine ite_conj ?_)))
  simp only [go_sem, List.forall_mem_nil, ↓guard_ite, ↓pick_ite, seval, FinQ, AS.result, resAll, resOne, tupV]
  simp [Lm.kind_mk, Lm.idx_mk, Lm.subs_mk, encL_eq]
/-! ### the three -/
theorem ne1 : ¬ ((⟨#[107]⟩ : ByteArray) = ⟨#[105]⟩) := by decide
theorem ne2 : ¬ ((⟨#[115]⟩ : ByteArray) = ⟨#[105]⟩) := by decide
theorem ne3 : ¬ ((⟨#[115]⟩ : ByteArray) = ⟨#[107]⟩) := by decide
theorem known_i : ACalls Tryz.prog 70 [aStr ⟨#[105]⟩] (.tup [aLm iL, aBool true]) := by
  refine ac_comb_known (Nat.le_of_ble_eq_true rfl) fun C hC => ?_
  unfold ir_comb_known
  repeat' (first | (with_reducible first | refine Wa ?_ | refine Wb ?_ | refine Wc ?_ | refine Wd ?_ | refine We ?_ | refine Wf ?_ | refine Wg ?_ | refine Wh ?_ | refine Wi ?_ | refine Wj ?_ | refine Wk (by decide) ?_ | refine Wl ?_ | refine Wm ?_ | refine Wn ?_) | (first | refine ⟨by kernel_rfl, _, _, (lV_a 0).toS rfl, ?_⟩ | refine ⟨_, _, (lV_a 0).toS rfl, ?_⟩) | (first | refine ⟨by kernel_rfl, _, _, (lL_a (.v 0)).toS rfl, ?_⟩ | refine ⟨_, _, (lL_a (.v 0)).toS rfl, ?_⟩) | ((with_reducible first | refine Wo (fun K hK => ?_) | refine Wp ?_ | refine Wq ?_ | refine Wr ?_); (try simp only [go_sem, List.forall_mem_nil, ↓guard_ite, ↓pick_ite, seval, encT_eq, inR_i64, decide_eq_true_eq, decide_eq_false_iff_not, Int.ofNat_lt]); (repeat with_reducible refine And.intro (by first | omega | with_reducible exact lens_encT | with_reducible exact lens_encL | (simp; done) | (simp only [List.length_take, List.length_map, List.length_append, maxLen_eq]; omega)) ?_); (try (with_reducible refine hK _ ?_; clear hK K)); (try with_reducible refine ite_conj ?_)))
  simp only [go_sem, List.forall_mem_nil, ↓guard_ite, ↓pick_ite, seval, FinQ, AS.result, resAll, resOne, tupV]
  rfl
theorem known_k : ACalls Tryz.prog 70 [aStr ⟨#[107]⟩] (.tup [aLm kL, aBool true]) := by
  refine ac_comb_known (Nat.le_of_ble_eq_true rfl) fun C hC => ?_
  unfold ir_comb_known
  repeat' (first | (with_reducible first | refine Wa ?_ | refine Wb ?_ | refine Wc ?_ | refine Wd ?_ | refine We ?_ | refine Wf ?_ | refine Wg ?_ | refine Wh ?_ | refine Wi ?_ | refine Wj ?_ | refine Wk (by decide) ?_ | refine Wl ?_ | refine Wm ?_ | refine Wn ?_) | (first | refine ⟨by kernel_rfl, _, _, (lV_a 1).toS rfl, ?_⟩ | refine ⟨_, _, (lV_a 1).toS rfl, ?_⟩) | (first | refine ⟨by kernel_rfl, _, _, (lL_a (.v 1)).toS rfl, ?_⟩ | refine ⟨_, _, (lL_a (.v 1)).toS rfl, ?_⟩) | (first | refine ⟨by kernel_rfl, _, _, (lL_a (.l (.v 1))).toS rfl, ?_⟩ | refine ⟨_, _, (lL_a (.l (.v 1))).toS rfl, ?_⟩) | ((with_reducible first | refine Wo (fun K hK => ?_) | refine Wp ?_ | refine Wq ?_ | refine Wr ?_); (try simp only [go_sem, List.forall_mem_nil, ↓guard_ite, ↓pick_ite, seval, encT_eq, inR_i64, ne1, decide_eq_true_eq, decide_eq_false_iff_not, Int.ofNat_lt]); (repeat with_reducible refine And.intro (by first | omega | with_reducible exact lens_encT | with_reducible exact lens_encL | (simp; done) | (simp only [List.length_take, List.length_map, List.length_append, maxLen_eq]; omega)) ?_); (try (with_reducible refine hK _ ?_; clear hK K)); (try with_reducible refine ite_conj ?_)))
  simp only [go_sem, List.forall_mem_nil, ↓guard_ite, ↓pick_ite, seval, FinQ, AS.result, resAll, resOne, tupV]
  rfl
theorem known_s : ACalls Tryz.prog 70 [aStr ⟨#[115]⟩] (.tup [aLm sL, aBool true]) := by
  refine ac_comb_known (Nat.le_of_ble_eq_true rfl) fun C hC => ?_
  unfold ir_comb_known
  repeat' (first | (with_reducible first | refine Wa ?_ | refine Wb ?_ | refine Wc ?_ | refine Wd ?_ | refine We ?_ | refine Wf ?_ | refine Wg ?_ | refine Wh ?_ | refine Wi ?_ | refine Wj ?_ | refine Wk (by decide) ?_ | refine Wl ?_ | refine Wm ?_ | refine Wn ?_) | (first | refine ⟨by kernel_rfl, _, _, (lV_a 2).toS rfl, ?_⟩ | refine ⟨_, _, (lV_a 2).toS rfl, ?_⟩) | (first | refine ⟨by kernel_rfl, _, _, (lV_a 0).toS rfl, ?_⟩ | refine ⟨_, _, (lV_a 0).toS rfl, ?_⟩) | (first | refine ⟨by kernel_rfl, _, _, (lA_a (.v 2) (.v 0)).toS rfl, ?_⟩ | refine ⟨_, _, (lA_a (.v 2) (.v 0)).toS rfl, ?_⟩) | (first | refine ⟨by kernel_rfl, _, _, (lV_a 1).toS rfl, ?_⟩ | refine ⟨_, _, (lV_a 1).toS rfl, ?_⟩) | (first | refine ⟨by kernel_rfl, _, _, (lA_a (.v 1) (.v 0)).toS rfl, ?_⟩ | refine ⟨_, _, (lA_a (.v 1) (.v 0)).toS rfl, ?_⟩) | (first | refine ⟨by kernel_rfl, _, _, (lA_a (.a (.v 2) (.v 0)) (.a (.v 1) (.v 0))).toS rfl, ?_⟩ | refine ⟨_, _, (lA_a (.a (.v 2) (.v 0)) (.a (.v 1) (.v 0))).toS rfl, ?_⟩) | (first | refine ⟨by kernel_rfl, _, _, (lL_a (.a (.a (.v 2) (.v 0)) (.a (.v 1) (.v 0)))).toS rfl, ?_⟩ | refine ⟨_, _, (lL_a (.a (.a (.v 2) (.v 0)) (.a (.v 1) (.v 0)))).toS rfl, ?_⟩) | (first | refine ⟨by kernel_rfl, _, _, (lL_a (.l (.a (.a (.v 2) (.v 0)) (.a (.v 1) (.v 0))))).toS rfl, ?_⟩ | refine ⟨_, _, (lL_a (.l (.a (.a (.v 2) (.v 0)) (.a (.v 1) (.v 0))))).toS rfl, ?_⟩) | (first | refine ⟨by kernel_rfl, _, _, (lL_a (.l (.l (.a (.a (.v 2) (.v 0)) (.a (.v 1) (.v 0)))))).toS rfl, ?_⟩ | refine ⟨_, _, (lL_a (.l (.l (.a (.a (.v 2) (.v 0)) (.a (.v 1) (.v 0)))))).toS rfl, ?_⟩) | ((with_reducible first | refine Wo (fun K hK => ?_) | refine Wp ?_ | refine Wq ?_ | refine Wr ?_); (try simp only [go_sem, List.forall_mem_nil, ↓guard_ite, ↓pick_ite, seval, encT_eq, inR_i64, ne2, ne3, decide_eq_true_eq, decide_eq_false_iff_not, Int.ofNat_lt]); (repeat with_reducible refine And.intro (by first | omega | with_reducible exact lens_encT | with_reducible exact lens_encL | (simp; done) | (simp only [List.length_take, List.length_map, List.length_append, maxLen_eq]; omega)) ?_); (try (with_reducible refine hK _ ?_; clear hK K)); (try with_reducible refine ite_conj ?_)))
  simp only [go_sem, List.forall_mem_nil, ↓guard_ite, ↓pick_ite, seval, FinQ, AS.result, resAll, resOne, tupV]
  rfl
theorem known_no (n : ByteArray) (h1 : ¬ n = ⟨#[105]⟩) (h2 : ¬ n = ⟨#[107]⟩) (h3 : ¬ n = ⟨#[115]⟩) : ACalls Tryz.prog 70 [aStr n] (.tup [aLm Lm.nil, aBool false]) := by
  refine ac_comb_known (Nat.le_of_ble_eq_true rfl) fun C hC => ?_
  unfold ir_comb_known
  repeat' (first | (with_reducible first | refine Wa ?_ | refine Wb ?_ | refine Wc ?_ | refine Wd ?_ | refine We ?_ | refine Wf ?_ | refine Wg ?_ | refine Wh ?_ | refine Wi ?_ | refine Wj ?_ | refine Wk (by decide) ?_ | refine Wl ?_ | refine Wm ?_ | refine Wn ?_) | ((with_reducible first | refine Wo (fun K hK => ?_) | refine Wp ?_ | refine Wq ?_ | refine Wr ?_); (try simp only [go_sem, List.forall_mem_nil, ↓guard_ite, ↓pick_ite, seval, encT_eq, inR_i64, h1, h2, h3, decide_eq_true_eq, decide_eq_false_iff_not, Int.ofNat_lt]); (repeat with_reducible refine And.intro (by first | omega | with_reducible exact lens_encT | with_reducible exact lens_encL | (simp; done) | (simp only [List.length_take, List.length_map, List.length_append, maxLen_eq]; omega)) ?_); (try (with_reducible refine hK _ ?_; clear hK K)); (try with_reducible refine ite_conj ?_)))
  simp only [go_sem, List.forall_mem_nil, ↓guard_ite, ↓pick_ite, seval, FinQ, AS.result, resAll, resOne, tupV]
  rfl
/-! ### the document's, of the three -/
theorem lamOf_i (t : Tm) (ha : t.args = []) (hn : t.name = ⟨#[105]⟩) : ACalls Tryz.prog 29 [aTm t] (.tup [aLm iL, aInt 0]) := by
  refine ac_R_LamOf (Nat.le_of_ble_eq_true rfl) fun C hC => ?_
  unfold ir_R_LamOf
  repeat' (first | (with_reducible first | refine Wa ?_ | refine Wb ?_ | refine Wc ?_ | refine Wd ?_ | refine We ?_ | refine Wf ?_ | refine Wg ?_ | refine Wh ?_ | refine Wi ?_ | refine Wj ?_ | refine Wk (by decide) ?_ | refine Wl ?_ | refine Wm ?_ | refine Wn ?_) | refine CallG.mk _ (lVar_a 0) ?_ | refine CallG.mk _ (lFun_a (.v 0)) ?_ | ((with_reducible first | refine Wo (fun K hK => ?_) | refine Wp ?_ | refine Wq ?_ | refine Wr ?_); (try simp only [go_sem, List.forall_mem_nil, ↓guard_ite, ↓pick_ite, seval, encT_eq, inR_i64, ha, hn, Int.cast_ofNat_Int, decide_eq_true_eq, decide_eq_false_iff_not, Int.ofNat_lt]); (repeat with_reducible refine And.intro (by first | omega | with_reducible exact lens_encT | with_reducible exact lens_encL | (simp; done) | (simp only [List.length_take, List.length_map, List.length_append, maxLen_eq]; omega)) ?_); (try (with_reducible refine hK _ ?_; clear hK K)); (try with_reducible refine ite_conj ?_)))
  simp only [go_sem, List.forall_mem_nil, ↓guard_ite, ↓pick_ite, seval, FinQ, AS.result, resAll, resOne, tupV]
  rfl
theorem lamOf_k (t : Tm) (ha : t.args = []) (hn : t.name = ⟨#[107]⟩) : ACalls Tryz.prog 29 [aTm t] (.tup [aLm kL, aInt 0]) := by
  refine ac_R_LamOf (Nat.le_of_ble_eq_true rfl) fun C hC => ?_
  unfold ir_R_LamOf
  repeat' (first | (with_reducible first | refine Wa ?_ | refine Wb ?_ | refine Wc ?_ | refine Wd ?_ | refine We ?_ | refine Wf ?_ | refine Wg ?_ | refine Wh ?_ | refine Wi ?_ | refine Wj ?_ | refine Wk (by decide) ?_ | refine Wl ?_ | refine Wm ?_ | refine Wn ?_) | refine CallG.mk _ (lVar_a 1) ?_ | refine CallG.mk _ (lFun_a (.v 1)) ?_ | refine CallG.mk _ (lFun_a (.l (.v 1))) ?_ | ((with_reducible first | refine Wo (fun K hK => ?_) | refine Wp ?_ | refine Wq ?_ | refine Wr ?_); (try simp only [go_sem, List.forall_mem_nil, ↓guard_ite, ↓pick_ite, seval, encT_eq, inR_i64, ha, hn, ne1, Int.cast_ofNat_Int, decide_eq_true_eq, decide_eq_false_iff_not, Int.ofNat_lt]); (repeat with_reducible refine And.intro (by first | omega | with_reducible exact lens_encT | with_reducible exact lens_encL | (simp; done) | (simp only [List.length_take, List.length_map, List.length_append, maxLen_eq]; omega)) ?_); (try (with_reducible refine hK _ ?_; clear hK K)); (try with_reducible refine ite_conj ?_)))
  simp only [go_sem, List.forall_mem_nil, ↓guard_ite, ↓pick_ite, seval, FinQ, AS.result, resAll, resOne, tupV]
  rfl
theorem lamOf_s (t : Tm) (ha : t.args = []) (hn : t.name = ⟨#[115]⟩) : ACalls Tryz.prog 29 [aTm t] (.tup [aLm sL, aInt 0]) := by
  refine ac_R_LamOf (Nat.le_of_ble_eq_true rfl) fun C hC => ?_
  unfold ir_R_LamOf
  repeat' (first | (with_reducible first | refine Wa ?_ | refine Wb ?_ | refine Wc ?_ | refine Wd ?_ | refine We ?_ | refine Wf ?_ | refine Wg ?_ | refine Wh ?_ | refine Wi ?_ | refine Wj ?_ | refine Wk (by decide) ?_ | refine Wl ?_ | refine Wm ?_ | refine Wn ?_) | refine CallG.mk _ (lVar_a 2) ?_ | refine CallG.mk _ (lVar_a 0) ?_ | refine CallG.mk _ (lApp_a (.v 2) (.v 0)) ?_ | refine CallG.mk _ (lVar_a 1) ?_ | refine CallG.mk _ (lApp_a (.v 1) (.v 0)) ?_ | refine CallG.mk _ (lApp_a (.a (.v 2) (.v 0)) (.a (.v 1) (.v 0))) ?_ | refine CallG.mk _ (lFun_a (.a (.a (.v 2) (.v 0)) (.a (.v 1) (.v 0)))) ?_ | refine CallG.mk _ (lFun_a (.l (.a (.a (.v 2) (.v 0)) (.a (.v 1) (.v 0))))) ?_ | refine CallG.mk _ (lFun_a (.l (.l (.a (.a (.v 2) (.v 0)) (.a (.v 1) (.v 0)))))) ?_ | ((with_reducible first | refine Wo (fun K hK => ?_) | refine Wp ?_ | refine Wq ?_ | refine Wr ?_); (try simp only [go_sem, List.forall_mem_nil, ↓guard_ite, ↓pick_ite, seval, encT_eq, inR_i64, ha, hn, ne2, ne3, Int.cast_ofNat_Int, decide_eq_true_eq, decide_eq_false_iff_not, Int.ofNat_lt]); (repeat with_reducible refine And.intro (by first | omega | with_reducible exact lens_encT | with_reducible exact lens_encL | (simp; done) | (simp only [List.length_take, List.length_map, List.length_append, maxLen_eq]; omega)) ?_); (try (with_reducible refine hK _ ?_; clear hK K)); (try with_reducible refine ite_conj ?_)))
  simp only [go_sem, List.forall_mem_nil, ↓guard_ite, ↓pick_ite, seval, FinQ, AS.result, resAll, resOne, tupV]
  rfl
end Go.Proofs.YtbiadmlfejnbcaaGreatDoor

namespace Go.Proofs.YtbiadmlfejnbcaaGreatDoor
open Go Go.RowKit
set_option linter.unusedVariables false
set_option linter.unusedSimpArgs false
set_option maxHeartbeats 1000000

/-! ### the number of a constant's name -/
theorem find_take {p : Nat → Bool} {n k : Nat} (hk : k < n) (h : ∀ j < k, p j = false) (hp : p k = true) : (List.range n).find? p = some k := by
  rw [List.find?_range_eq_some]
  exact ⟨hp, by simpa using hk, fun j hj => by simp [h j hj]⟩
theorem constOf_a (s : ByteArray) : ACalls Tryz.prog 55 [aStr s] (aInt (constOf s)) := by
  refine ac_R_ConstOf (Nat.le_of_ble_eq_true rfl) fun C hC => ?_
  unfold ir_R_ConstOf
  repeat' (first | (with_reducible first | refine Wa ?_ | refine Wb ?_ | refine Wc ?_ | refine Wd ?_ | refine We ?_ | refine Wf ?_ | refine Wg ?_ | refine Wh ?_ | refine Wi ?_ | refine Wj ?_ | refine Wk (by decide) ?_ | refine Wl ?_ | refine Wm ?_ | refine Wn ?_) | ((with_reducible first | refine Wo (fun K hK => ?_) | refine Wp ?_ | refine Wq ?_ | refine Wr ?_); (try simp only [go_sem, List.forall_mem_nil, ↓guard_ite, ↓pick_ite, seval, encT_eq, inR_i64, decide_eq_true_eq, decide_eq_false_iff_not, Int.ofNat_lt]); (repeat with_reducible refine And.intro (by first | omega | with_reducible exact lens_encT | with_reducible exact lens_encL | (simp; done) | (simp only [List.length_take, List.length_map, List.length_append, maxLen_eq]; omega)) ?_); (try (with_reducible refine hK _ ?_; clear hK K)); (try with_reducible refine ite_conj ?_)))
  refine IWP.loop (fun n st => ∃ k, k ≤ 40 ∧ n = 40 - k ∧ st.env 0 = aStr s ∧ st.env 3 = aInt (k : Nat) ∧ ∀ j < k, ¬ s = cNm ++ dec2 j) 40 ⟨0, by decide, rfl, rfl, rfl, fun j hj => by omega⟩ ?_
  rintro n ⟨env, S⟩ ⟨k, hk, rfl, e0, e3, hno⟩
  simp only at e0 e3
  by_cases hlt : (k : Int) < 40
  · have hf := c_fit k
    by_cases he : s = cNm ++ dec2 k
    · have hc : constOf s = k := by
        unfold constOf
        rw [find_take (k := k) (by omega) (fun j hj => by simpa using hno j hj) (by simpa using he)]
      unfold cNm at he
      repeat' (first | (with_reducible first | refine Wa ?_ | refine Wb ?_ | refine Wc ?_ | refine Wd ?_ | refine We ?_ | refine Wf ?_ | refine Wg ?_ | refine Wh ?_ | refine Wi ?_ | refine Wj ?_ | refine Wk (by decide) ?_ | refine Wl ?_ | refine Wm ?_ | refine Wn ?_) | refine CallG.mk _ (dec_a k (by omega)) ?_ | ((with_reducible first | refine Wo (fun K hK => ?_) | refine Wp ?_ | refine Wq ?_ | refine Wr ?_); (try simp only [go_sem, List.forall_mem_nil, ↓guard_ite, ↓pick_ite, seval, encT_eq, inR_i64, e0, e3, hlt, hf, he, decide_eq_true_eq, decide_eq_false_iff_not, Int.ofNat_lt]); (repeat with_reducible refine And.intro (by first | omega | with_reducible exact lens_encT | with_reducible exact lens_encL | (simp; done) | (simp only [List.length_take, List.length_map, List.length_append, maxLen_eq]; omega)) ?_); (try (with_reducible refine hK _ ?_; clear hK K)); (try with_reducible refine ite_conj ?_)))
      simp only [go_sem, List.forall_mem_nil, ↓guard_ite, ↓pick_ite, seval, FinQ, AS.result, resAll, resOne, tupV, e3]
      rw [← hc, he]
    · have he' := he
      unfold cNm at he
      repeat' (first | (with_reducible first | refine Wa ?_ | refine Wb ?_ | refine Wc ?_ | refine Wd ?_ | refine We ?_ | refine Wf ?_ | refine Wg ?_ | refine Wh ?_ | refine Wi ?_ | refine Wj ?_ | refine Wk (by decide) ?_ | refine Wl ?_ | refine Wm ?_ | refine Wn ?_) | refine CallG.mk _ (dec_a k (by omega)) ?_ | ((with_reducible first | refine Wo (fun K hK => ?_) | refine Wp ?_ | refine Wq ?_ | refine Wr ?_); (try simp only [go_sem, List.forall_mem_nil, ↓guard_ite, ↓pick_ite, seval, encT_eq, inR_i64, e0, e3, hlt, hf, he, decide_eq_true_eq, decide_eq_false_iff_not, Int.ofNat_lt]); (repeat with_reducible refine And.intro (by first | omega | with_reducible exact lens_encT | with_reducible exact lens_encL | (simp; done) | (simp only [List.length_take, List.length_map, List.length_append, maxLen_eq]; omega)) ?_); (try (with_reducible refine hK _ ?_; clear hK K)); (try with_reducible refine ite_conj ?_)))
      refine then_normal ⟨40 - (k + 1), by omega, k + 1, by omega, rfl, ?_⟩
      simp only [go_sem, List.forall_mem_nil, ↓guard_ite, ↓pick_ite, seval, encT_eq, inR_i64, e0, e3]
      refine ⟨by congr 3, fun j hj => ?_⟩
      by_cases hj' : j = k
      · rw [hj']
        exact he'
      · exact hno j (by omega)
  · have hc : constOf s = -1 := by
      unfold constOf
      rw [List.find?_eq_none.2 (fun x hx => by
        rw [List.mem_range] at hx
        simpa using hno x (by omega))]
    repeat' (first | (with_reducible first | refine Wa ?_ | refine Wb ?_ | refine Wc ?_ | refine Wd ?_ | refine We ?_ | refine Wf ?_ | refine Wg ?_ | refine Wh ?_ | refine Wi ?_ | refine Wj ?_ | refine Wk (by decide) ?_ | refine Wl ?_ | refine Wm ?_ | refine Wn ?_) | ((with_reducible first | refine Wo (fun K hK => ?_) | refine Wp ?_ | refine Wq ?_ | refine Wr ?_); (try simp only [go_sem, List.forall_mem_nil, ↓guard_ite, ↓pick_ite, seval, encT_eq, inR_i64, e0, e3, hlt, decide_eq_true_eq, decide_eq_false_iff_not, Int.ofNat_lt]); (repeat with_reducible refine And.intro (by first | omega | with_reducible exact lens_encT | with_reducible exact lens_encL | (simp; done) | (simp only [List.length_take, List.length_map, List.length_append, maxLen_eq]; omega)) ?_); (try (with_reducible refine hK _ ?_; clear hK K)); (try with_reducible refine ite_conj ?_)))
    simp only [go_sem, List.forall_mem_nil, ↓guard_ite, ↓pick_ite, seval, FinQ, AS.result, resAll, resOne, tupV]
    rw [hc]

/-! ### the document's -/
theorem lamOf_no (t : Tm) (ha : t.args = []) (h1 : ¬ t.name = ⟨#[105]⟩) (h2 : ¬ t.name = ⟨#[107]⟩) (h3 : ¬ t.name = ⟨#[115]⟩) : ACalls Tryz.prog 29 [aTm t] (.tup [aLm (fixL (leafL t.name)).1, aInt (fixL (leafL t.name)).2]) := by
  have hl : leafL t.name = if isVar t.name = true then (Lm.nil, 15) else if constOf t.name < 0 then (Lm.nil, 1) else (.mk 4 (constOf t.name) [], 0) := by
    unfold leafL iS kS sS
    rw [if_neg h1, if_neg h2, if_neg h3]
  rw [hl]
  by_cases hv : isVar t.name = true
  · rw [if_pos hv]
    refine ac_R_LamOf (Nat.le_of_ble_eq_true rfl) fun C hC => ?_
    unfold ir_R_LamOf
    repeat' (first | (with_reducible first | refine Wa ?_ | refine Wb ?_ | refine Wc ?_ | refine Wd ?_ | refine We ?_ | refine Wf ?_ | refine Wg ?_ | refine Wh ?_ | refine Wi ?_ | refine Wj ?_ | refine Wk (by decide) ?_ | refine Wl ?_ | refine Wm ?_ | refine Wn ?_) | refine CallG.mk _ (isVar_a t.name) ?_ | ((with_reducible first | refine Wo (fun K hK => ?_) | refine Wp ?_ | refine Wq ?_ | refine Wr ?_); (try simp only [go_sem, List.forall_mem_nil, ↓guard_ite, ↓pick_ite, seval, encT_eq, inR_i64, ha, h1, h2, h3, Int.cast_ofNat_Int, hv, decide_eq_true_eq, decide_eq_false_iff_not, Int.ofNat_lt]); (repeat with_reducible refine And.intro (by first | omega | with_reducible exact lens_encT | with_reducible exact lens_encL | (simp; done) | (simp only [List.length_take, List.length_map, List.length_append, maxLen_eq]; omega)) ?_); (try (with_reducible refine hK _ ?_; clear hK K)); (try with_reducible refine ite_conj ?_)))
    simp only [go_sem, List.forall_mem_nil, ↓guard_ite, ↓pick_ite, seval, FinQ, AS.result, resAll, resOne, tupV]
    rfl
  · rw [if_neg hv]
    by_cases hc : constOf t.name < 0
    · rw [if_pos hc]
      refine ac_R_LamOf (Nat.le_of_ble_eq_true rfl) fun C hC => ?_
      unfold ir_R_LamOf
      repeat' (first | (with_reducible first | refine Wa ?_ | refine Wb ?_ | refine Wc ?_ | refine Wd ?_ | refine We ?_ | refine Wf ?_ | refine Wg ?_ | refine Wh ?_ | refine Wi ?_ | refine Wj ?_ | refine Wk (by decide) ?_ | refine Wl ?_ | refine Wm ?_ | refine Wn ?_) | refine CallG.mk _ (isVar_a t.name) ?_ | refine CallG.mk _ (constOf_a t.name) ?_ | ((with_reducible first | refine Wo (fun K hK => ?_) | refine Wp ?_ | refine Wq ?_ | refine Wr ?_); (try simp only [go_sem, List.forall_mem_nil, ↓guard_ite, ↓pick_ite, seval, encT_eq, inR_i64, ha, h1, h2, h3, Int.cast_ofNat_Int, hv, hc, decide_eq_true_eq, decide_eq_false_iff_not, Int.ofNat_lt]); (repeat with_reducible refine And.intro (by first | omega | with_reducible exact lens_encT | with_reducible exact lens_encL | (simp; done) | (simp only [List.length_take, List.length_map, List.length_append, maxLen_eq]; omega)) ?_); (try (with_reducible refine hK _ ?_; clear hK K)); (try with_reducible refine ite_conj ?_)))
      simp only [go_sem, List.forall_mem_nil, ↓guard_ite, ↓pick_ite, seval, FinQ, AS.result, resAll, resOne, tupV]
      rfl
    · rw [if_neg hc]
      refine ac_R_LamOf (Nat.le_of_ble_eq_true rfl) fun C hC => ?_
      unfold ir_R_LamOf
      repeat' (first | (with_reducible first | refine Wa ?_ | refine Wb ?_ | refine Wc ?_ | refine Wd ?_ | refine We ?_ | refine Wf ?_ | refine Wg ?_ | refine Wh ?_ | refine Wi ?_ | refine Wj ?_ | refine Wk (by decide) ?_ | refine Wl ?_ | refine Wm ?_ | refine Wn ?_) | refine CallG.mk _ (isVar_a t.name) ?_ | refine CallG.mk _ (constOf_a t.name) ?_ | refine CallG.mk _ (lCon_a (constOf t.name)) ?_ | ((with_reducible first | refine Wo (fun K hK => ?_) | refine Wp ?_ | refine Wq ?_ | refine Wr ?_); (try simp only [go_sem, List.forall_mem_nil, ↓guard_ite, ↓pick_ite, seval, encT_eq, inR_i64, ha, h1, h2, h3, Int.cast_ofNat_Int, hv, hc, decide_eq_true_eq, decide_eq_false_iff_not, Int.ofNat_lt]); (repeat with_reducible refine And.intro (by first | omega | with_reducible exact lens_encT | with_reducible exact lens_encL | (simp; done) | (simp only [List.length_take, List.length_map, List.length_append, maxLen_eq]; omega)) ?_); (try (with_reducible refine hK _ ?_; clear hK K)); (try with_reducible refine ite_conj ?_)))
      simp only [go_sem, List.forall_mem_nil, ↓guard_ite, ↓pick_ite, seval, FinQ, AS.result, resAll, resOne, tupV]
      rfl
theorem lamOf_leaf (t : Tm) (ha : t.args = []) : ACalls Tryz.prog 29 [aTm t] (.tup [aLm (fixL (leafL t.name)).1, aInt (fixL (leafL t.name)).2]) := by
  by_cases h1 : t.name = ⟨#[105]⟩
  · have e : leafL t.name = (iL, 0) := if_pos h1
    rw [e]
    exact lamOf_i t ha h1
  by_cases h2 : t.name = ⟨#[107]⟩
  · have e : leafL t.name = (kL, 0) := by
      unfold leafL iS kS sS
      rw [if_neg h1, if_pos h2]
    rw [e]
    exact lamOf_k t ha h2
  by_cases h3 : t.name = ⟨#[115]⟩
  · have e : leafL t.name = (sL, 0) := by
      unfold leafL iS kS sS
      rw [if_neg h1, if_neg h2, if_pos h3]
    rw [e]
    exact lamOf_s t ha h3
  exact lamOf_no t ha h1 h2 h3
theorem lamOf_a (t : Tm) (hf : t.fm = true) : ACalls Tryz.prog 29 [aTm t] (.tup [aLm (fixL t.toL).1, aInt (fixL t.toL).2]) := by
  induction h : SizeOf.sizeOf t using Nat.strongRecOn generalizing t with
  | _ N ih =>
  subst h
  rcases Tm.fm_cases hf with ha | ⟨f, x, _, ha, hf1, hx1⟩
  · rw [Tm.toL_leaf ha]
    exact lamOf_leaf t ha
  have ihf := ih _ (Tm.lt_of_arg (by rw [ha]; simp)) f hf1 rfl
  have ihx := ih _ (Tm.lt_of_arg (by rw [ha]; simp)) x hx1 rfl
  rw [Tm.toL_ap ha]
  generalize f.toL = R at *
  generalize x.toL = R2 at *
  obtain ⟨y, e⟩ := R
  obtain ⟨y2, e2⟩ := R2
  unfold fixL at *
  by_cases he : e = 0
  · simp only [he, if_true] at ihf ⊢
    by_cases he2 : e2 = 0
    · simp only [he2, if_true] at ihx ⊢
      refine ac_R_LamOf (Nat.le_of_ble_eq_true rfl) fun C hC => ?_
      unfold ir_R_LamOf
      repeat' (first | (with_reducible first | refine Wa ?_ | refine Wb ?_ | refine Wc ?_ | refine Wd ?_ | refine We ?_ | refine Wf ?_ | refine Wg ?_ | refine Wh ?_ | refine Wi ?_ | refine Wj ?_ | refine Wk (by decide) ?_ | refine Wl ?_ | refine Wm ?_ | refine Wn ?_) | refine CallG.mk _ (ihf) ?_ | refine CallG.mk _ (ihx) ?_ | refine CallG.mk _ (lApp_a y y2) ?_ | ((with_reducible first | refine Wo (fun K hK => ?_) | refine Wp ?_ | refine Wq ?_ | refine Wr ?_); (try simp only [go_sem, List.forall_mem_nil, ↓guard_ite, ↓pick_ite, seval, encT_eq, inR_i64, ha, Int.cast_ofNat_Int, decide_eq_true_eq, decide_eq_false_iff_not, Int.ofNat_lt]); (repeat with_reducible refine And.intro (by first | omega | with_reducible exact lens_encT | with_reducible exact lens_encL | (simp; done) | (simp only [List.length_take, List.length_map, List.length_append, maxLen_eq]; omega)) ?_); (try (with_reducible refine hK _ ?_; clear hK K)); (try with_reducible refine ite_conj ?_)))
      simp only [go_sem, List.forall_mem_nil, ↓guard_ite, ↓pick_ite, seval, FinQ, AS.result, resAll, resOne, tupV]
    · simp only [he2, if_false] at ihx ⊢
      refine ac_R_LamOf (Nat.le_of_ble_eq_true rfl) fun C hC => ?_
      unfold ir_R_LamOf
      repeat' (first | (with_reducible first | refine Wa ?_ | refine Wb ?_ | refine Wc ?_ | refine Wd ?_ | refine We ?_ | refine Wf ?_ | refine Wg ?_ | refine Wh ?_ | refine Wi ?_ | refine Wj ?_ | refine Wk (by decide) ?_ | refine Wl ?_ | refine Wm ?_ | refine Wn ?_) | refine CallG.mk _ (ihf) ?_ | refine CallG.mk _ (ihx) ?_ | ((with_reducible first | refine Wo (fun K hK => ?_) | refine Wp ?_ | refine Wq ?_ | refine Wr ?_); (try simp only [go_sem, List.forall_mem_nil, ↓guard_ite, ↓pick_ite, seval, encT_eq, inR_i64, ha, Int.cast_ofNat_Int, he2, decide_eq_true_eq, decide_eq_false_iff_not, Int.ofNat_lt]); (repeat with_reducible refine And.intro (by first | omega | with_reducible exact lens_encT | with_reducible exact lens_encL | (simp; done) | (simp only [List.length_take, List.length_map, List.length_append, maxLen_eq]; omega)) ?_); (try (with_reducible refine hK _ ?_; clear hK K)); (try with_reducible refine ite_conj ?_)))
      simp only [go_sem, List.forall_mem_nil, ↓guard_ite, ↓pick_ite, seval, FinQ, AS.result, resAll, resOne, tupV]
      rfl
  · simp only [he, if_false] at ihf ⊢
    refine ac_R_LamOf (Nat.le_of_ble_eq_true rfl) fun C hC => ?_
    unfold ir_R_LamOf
    repeat' (first | (with_reducible first | refine Wa ?_ | refine Wb ?_ | refine Wc ?_ | refine Wd ?_ | refine We ?_ | refine Wf ?_ | refine Wg ?_ | refine Wh ?_ | refine Wi ?_ | refine Wj ?_ | refine Wk (by decide) ?_ | refine Wl ?_ | refine Wm ?_ | refine Wn ?_) | refine CallG.mk _ (ihf) ?_ | ((with_reducible first | refine Wo (fun K hK => ?_) | refine Wp ?_ | refine Wq ?_ | refine Wr ?_); (try simp only [go_sem, List.forall_mem_nil, ↓guard_ite, ↓pick_ite, seval, encT_eq, inR_i64, ha, Int.cast_ofNat_Int, he, decide_eq_true_eq, decide_eq_false_iff_not, Int.ofNat_lt]); (repeat with_reducible refine And.intro (by first | omega | with_reducible exact lens_encT | with_reducible exact lens_encL | (simp; done) | (simp only [List.length_take, List.length_map, List.length_append, maxLen_eq]; omega)) ?_); (try (with_reducible refine hK _ ?_; clear hK K)); (try with_reducible refine ite_conj ?_)))
    simp only [go_sem, List.forall_mem_nil, ↓guard_ite, ↓pick_ite, seval, FinQ, AS.result, resAll, resOne, tupV]
    rfl
end Go.Proofs.YtbiadmlfejnbcaaGreatDoor

namespace Go.Proofs.YtbiadmlfejnbcaaGreatDoor
open Go Go.RowKit
set_option linter.unusedVariables false
set_option linter.unusedSimpArgs false
set_option maxHeartbeats 1000000

theorem knownL_yes {n : ByteArray} (h : n = iS ∨ n = kS ∨ n = sS) : ∃ x, leafL n = (x, 0) ∧ ACalls Tryz.prog 70 [aStr n] (.tup [aLm x, aBool true]) := by
  rcases h with rfl | rfl | rfl
  · exact ⟨iL, if_pos rfl, known_i⟩
  · exact ⟨kL, by unfold leafL; rw [if_neg (by decide), if_pos rfl], known_k⟩
  · exact ⟨sL, by unfold leafL; rw [if_neg (by decide), if_neg (by decide), if_pos rfl], known_s⟩
theorem to_known (t : Tm) (ha : t.args = []) (h : t.name = iS ∨ t.name = kS ∨ t.name = sS) : ACalls Tryz.prog 56 [aTm t] (.tup [aLm (leafL t.name).1, aInt (leafL t.name).2]) := by
  obtain ⟨x, e, c⟩ := knownL_yes h
  rw [e]
  refine ac_comb_to (Nat.le_of_ble_eq_true rfl) fun C hC => ?_
  unfold ir_comb_to
  repeat' (first | (with_reducible first | refine Wa ?_ | refine Wb ?_ | refine Wc ?_ | refine Wd ?_ | refine We ?_ | refine Wf ?_ | refine Wg ?_ | refine Wh ?_ | refine Wi ?_ | refine Wj ?_ | refine Wk (by decide) ?_ | refine Wl ?_ | refine Wm ?_ | refine Wn ?_) | refine CallG.mk _ (c) ?_ | ((with_reducible first | refine Wo (fun K hK => ?_) | refine Wp ?_ | refine Wq ?_ | refine Wr ?_); (try simp only [go_sem, List.forall_mem_nil, ↓guard_ite, ↓pick_ite, seval, encT_eq, inR_i64, ha, Int.cast_ofNat_Int, decide_eq_true_eq, decide_eq_false_iff_not, Int.ofNat_lt]); (repeat with_reducible refine And.intro (by first | omega | with_reducible exact lens_encT | with_reducible exact lens_encL | (simp; done) | (simp only [List.length_take, List.length_map, List.length_append, maxLen_eq]; omega)) ?_); (try (with_reducible refine hK _ ?_; clear hK K)); (try with_reducible refine ite_conj ?_)))
  simp only [go_sem, List.forall_mem_nil, ↓guard_ite, ↓pick_ite, seval, FinQ, AS.result, resAll, resOne, tupV]
theorem to_leaf (t : Tm) (ha : t.args = []) (hn : nameOk t.name = true) : ACalls Tryz.prog 56 [aTm t] (.tup [aLm (leafL t.name).1, aInt (leafL t.name).2]) := by
  by_cases hk : t.name = iS ∨ t.name = kS ∨ t.name = sS
  · exact to_known t ha hk
  have h1 : ¬ t.name = ⟨#[105]⟩ := fun h => hk (Or.inl h)
  have h2 : ¬ t.name = ⟨#[107]⟩ := fun h => hk (Or.inr (Or.inl h))
  have h3 : ¬ t.name = ⟨#[115]⟩ := fun h => hk (Or.inr (Or.inr h))
  have hl : leafL t.name = if isVar t.name = true then (Lm.nil, 15) else if constOf t.name < 0 then (Lm.nil, 1) else (.mk 4 (constOf t.name) [], 0) := by
    unfold leafL iS kS sS
    rw [if_neg h1, if_neg h2, if_neg h3]
  have hKn := known_no t.name h1 h2 h3
  obtain ⟨n1, n8, nl⟩ := nameOk_cases hn
  have n0 : 0 < t.name.size := n1
  have n1' : (1 : Int) ≤ t.name.size := by omega
  have hz : (rest1 t.name).size ≤ 18 := by rw [rest1_size]; omega
  rw [hl]
  by_cases hv : isVar t.name = true
  · rw [if_pos hv]
    refine ac_comb_to (Nat.le_of_ble_eq_true rfl) fun C hC => ?_
    unfold ir_comb_to
    repeat' (first | (with_reducible first | refine Wa ?_ | refine Wb ?_ | refine Wc ?_ | refine Wd ?_ | refine We ?_ | refine Wf ?_ | refine Wg ?_ | refine Wh ?_ | refine Wi ?_ | refine Wj ?_ | refine Wk (by decide) ?_ | refine Wl ?_ | refine Wm ?_ | refine Wn ?_) | refine CallG.mk _ (hKn) ?_ | refine CallG.mk _ (variable_a t.name) ?_ | ((with_reducible first | refine Wo (fun K hK => ?_) | refine Wp ?_ | refine Wq ?_ | refine Wr ?_); (try simp only [go_sem, List.forall_mem_nil, ↓guard_ite, ↓pick_ite, seval, encT_eq, inR_i64, ha, Int.cast_ofNat_Int, hv, decide_eq_true_eq, decide_eq_false_iff_not, Int.ofNat_lt]); (repeat with_reducible refine And.intro (by first | omega | with_reducible exact lens_encT | with_reducible exact lens_encL | (simp; done) | (simp only [List.length_take, List.length_map, List.length_append, maxLen_eq]; omega)) ?_); (try (with_reducible refine hK _ ?_; clear hK K)); (try with_reducible refine ite_conj ?_)))
    simp only [go_sem, List.forall_mem_nil, ↓guard_ite, ↓pick_ite, seval, FinQ, AS.result, resAll, resOne, tupV]
    rfl
  rw [if_neg hv]
  have hat0 := @atoi_no (rest1 t.name) hz
  have hat := fun n => @atoi_a (rest1 t.name) n hz
  cases hq : Lib.atoi (rest1 t.name).data.toList with
  | none =>
    have hc : constOf t.name = -1 := constOf_no fun ⟨_, n, h, _⟩ => by rw [hq] at h; cases h
    rw [hc, if_pos (by decide)]
    have hA := hat0 hq
    unfold rest1 at hA
    by_cases h99 : byteAt t.name 0 = 99
    · refine ac_comb_to (Nat.le_of_ble_eq_true rfl) fun C hC => ?_
      unfold ir_comb_to
      repeat' (first | (with_reducible first | refine Wa ?_ | refine Wb ?_ | refine Wc ?_ | refine Wd ?_ | refine We ?_ | refine Wf ?_ | refine Wg ?_ | refine Wh ?_ | refine Wi ?_ | refine Wj ?_ | refine Wk (by decide) ?_ | refine Wl ?_ | refine Wm ?_ | refine Wn ?_) | refine CallG.mk _ (hKn) ?_ | refine CallG.mk _ (variable_a t.name) ?_ | refine CallG.mk _ (hA) ?_ | ((with_reducible first | refine Wo (fun K hK => ?_) | refine Wp ?_ | refine Wq ?_ | refine Wr ?_); (try simp only [go_sem, List.forall_mem_nil, ↓guard_ite, ↓pick_ite, seval, encT_eq, inR_i64, ha, Int.cast_ofNat_Int, hv, n1, n1', n0, byteN_eq, h99, aErr, decide_eq_true_eq, decide_eq_false_iff_not, Int.ofNat_lt]); (repeat with_reducible refine And.intro (by first | omega | with_reducible exact lens_encT | with_reducible exact lens_encL | (simp; done) | (simp only [List.length_take, List.length_map, List.length_append, maxLen_eq]; omega)) ?_); (try (with_reducible refine hK _ ?_; clear hK K)); (try with_reducible refine ite_conj ?_)))
      simp only [go_sem, List.forall_mem_nil, ↓guard_ite, ↓pick_ite, seval, FinQ, AS.result, resAll, resOne, tupV]
      rfl
    · refine ac_comb_to (Nat.le_of_ble_eq_true rfl) fun C hC => ?_
      unfold ir_comb_to
      repeat' (first | (with_reducible first | refine Wa ?_ | refine Wb ?_ | refine Wc ?_ | refine Wd ?_ | refine We ?_ | refine Wf ?_ | refine Wg ?_ | refine Wh ?_ | refine Wi ?_ | refine Wj ?_ | refine Wk (by decide) ?_ | refine Wl ?_ | refine Wm ?_ | refine Wn ?_) | refine CallG.mk _ (hKn) ?_ | refine CallG.mk _ (variable_a t.name) ?_ | refine CallG.mk _ (hA) ?_ | ((with_reducible first | refine Wo (fun K hK => ?_) | refine Wp ?_ | refine Wq ?_ | refine Wr ?_); (try simp only [go_sem, List.forall_mem_nil, ↓guard_ite, ↓pick_ite, seval, encT_eq, inR_i64, ha, Int.cast_ofNat_Int, hv, n1, n1', n0, byteN_eq, h99, decide_eq_true_eq, decide_eq_false_iff_not, Int.ofNat_lt]); (repeat with_reducible refine And.intro (by first | omega | with_reducible exact lens_encT | with_reducible exact lens_encL | (simp; done) | (simp only [List.length_take, List.length_map, List.length_append, maxLen_eq]; omega)) ?_); (try (with_reducible refine hK _ ?_; clear hK K)); (try with_reducible refine ite_conj ?_)))
      simp only [go_sem, List.forall_mem_nil, ↓guard_ite, ↓pick_ite, seval, FinQ, AS.result, resAll, resOne, tupV]
      rfl
  | some n =>
    have hA := hat n hq
    have hI := itoaAll_a n
    unfold rest1 at hA
    by_cases h99 : byteAt t.name 0 = 99
    case neg =>
      have hc : constOf t.name = -1 := constOf_no fun ⟨h, _⟩ => h99 h
      rw [hc, if_pos (by decide)]
      refine ac_comb_to (Nat.le_of_ble_eq_true rfl) fun C hC => ?_
      unfold ir_comb_to
      repeat' (first | (with_reducible first | refine Wa ?_ | refine Wb ?_ | refine Wc ?_ | refine Wd ?_ | refine We ?_ | refine Wf ?_ | refine Wg ?_ | refine Wh ?_ | refine Wi ?_ | refine Wj ?_ | refine Wk (by decide) ?_ | refine Wl ?_ | refine Wm ?_ | refine Wn ?_) | refine CallG.mk _ (hKn) ?_ | refine CallG.mk _ (variable_a t.name) ?_ | refine CallG.mk _ (hA) ?_ | ((with_reducible first | refine Wo (fun K hK => ?_) | refine Wp ?_ | refine Wq ?_ | refine Wr ?_); (try simp only [go_sem, List.forall_mem_nil, ↓guard_ite, ↓pick_ite, seval, encT_eq, inR_i64, ha, Int.cast_ofNat_Int, hv, n1, n1', n0, byteN_eq, h99, decide_eq_true_eq, decide_eq_false_iff_not, Int.ofNat_lt]); (repeat with_reducible refine And.intro (by first | omega | with_reducible exact lens_encT | with_reducible exact lens_encL | (simp; done) | (simp only [List.length_take, List.length_map, List.length_append, maxLen_eq]; omega)) ?_); (try (with_reducible refine hK _ ?_; clear hK K)); (try with_reducible refine ite_conj ?_)))
      simp only [go_sem, List.forall_mem_nil, ↓guard_ite, ↓pick_ite, seval, FinQ, AS.result, resAll, resOne, tupV]
      rfl
    case pos =>
    by_cases hr : (⟨(Lib.itoa n).toArray⟩ : ByteArray) = rest1 t.name
    case neg =>
      have hc : constOf t.name = -1 := constOf_no fun ⟨_, m, h1, h2, _⟩ => by
        rw [hq] at h1
        cases h1
        exact hr h2
      rw [hc, if_pos (by decide)]
      unfold rest1 at hr
      refine ac_comb_to (Nat.le_of_ble_eq_true rfl) fun C hC => ?_
      unfold ir_comb_to
      repeat' (first | (with_reducible first | refine Wa ?_ | refine Wb ?_ | refine Wc ?_ | refine Wd ?_ | refine We ?_ | refine Wf ?_ | refine Wg ?_ | refine Wh ?_ | refine Wi ?_ | refine Wj ?_ | refine Wk (by decide) ?_ | refine Wl ?_ | refine Wm ?_ | refine Wn ?_) | refine CallG.mk _ (hKn) ?_ | refine CallG.mk _ (variable_a t.name) ?_ | refine CallG.mk _ (hA) ?_ | refine CallG.mk _ (hI) ?_ | ((with_reducible first | refine Wo (fun K hK => ?_) | refine Wp ?_ | refine Wq ?_ | refine Wr ?_); (try simp only [go_sem, List.forall_mem_nil, ↓guard_ite, ↓pick_ite, seval, encT_eq, inR_i64, ha, Int.cast_ofNat_Int, hv, n1, n1', n0, byteN_eq, h99, hr, decide_eq_true_eq, decide_eq_false_iff_not, Int.ofNat_lt]); (repeat with_reducible refine And.intro (by first | omega | with_reducible exact lens_encT | with_reducible exact lens_encL | (simp; done) | (simp only [List.length_take, List.length_map, List.length_append, maxLen_eq]; omega)) ?_); (try (with_reducible refine hK _ ?_; clear hK K)); (try with_reducible refine ite_conj ?_)))
      simp only [go_sem, List.forall_mem_nil, ↓guard_ite, ↓pick_ite, seval, FinQ, AS.result, resAll, resOne, tupV]
      rfl
    case pos =>
    by_cases h40 : n < 40
    · obtain ⟨c1, c2⟩ := constOf_yes n1 nl h99 hr h40
      rw [c1, if_neg (by omega)]
      have g40 : ¬ 40 ≤ n := by omega
      unfold rest1 at hr
      refine ac_comb_to (Nat.le_of_ble_eq_true rfl) fun C hC => ?_
      unfold ir_comb_to
      repeat' (first | (with_reducible first | refine Wa ?_ | refine Wb ?_ | refine Wc ?_ | refine Wd ?_ | refine We ?_ | refine Wf ?_ | refine Wg ?_ | refine Wh ?_ | refine Wi ?_ | refine Wj ?_ | refine Wk (by decide) ?_ | refine Wl ?_ | refine Wm ?_ | refine Wn ?_) | refine CallG.mk _ (hKn) ?_ | refine CallG.mk _ (variable_a t.name) ?_ | refine CallG.mk _ (hA) ?_ | refine CallG.mk _ (hI) ?_ | refine CallG.mk _ (lC_a n) ?_ | ((with_reducible first | refine Wo (fun K hK => ?_) | refine Wp ?_ | refine Wq ?_ | refine Wr ?_); (try simp only [go_sem, List.forall_mem_nil, ↓guard_ite, ↓pick_ite, seval, encT_eq, inR_i64, ha, Int.cast_ofNat_Int, hv, n1, n1', n0, byteN_eq, h99, hr, g40, decide_eq_true_eq, decide_eq_false_iff_not, Int.ofNat_lt]); (repeat with_reducible refine And.intro (by first | omega | with_reducible exact lens_encT | with_reducible exact lens_encL | (simp; done) | (simp only [List.length_take, List.length_map, List.length_append, maxLen_eq]; omega)) ?_); (try (with_reducible refine hK _ ?_; clear hK K)); (try with_reducible refine ite_conj ?_)))
      simp only [go_sem, List.forall_mem_nil, ↓guard_ite, ↓pick_ite, seval, FinQ, AS.result, resAll, resOne, tupV]
      simp [Lm.kind_mk, Lm.idx_mk, Lm.subs_mk, encL_eq]
    · have hc : constOf t.name = -1 := constOf_no fun ⟨_, m, h1, _, h3⟩ => by
        rw [hq] at h1
        cases h1
        exact h40 h3
      have g40 : 40 ≤ n := by omega
      rw [hc, if_pos (by decide)]
      unfold rest1 at hr
      refine ac_comb_to (Nat.le_of_ble_eq_true rfl) fun C hC => ?_
      unfold ir_comb_to
      repeat' (first | (with_reducible first | refine Wa ?_ | refine Wb ?_ | refine Wc ?_ | refine Wd ?_ | refine We ?_ | refine Wf ?_ | refine Wg ?_ | refine Wh ?_ | refine Wi ?_ | refine Wj ?_ | refine Wk (by decide) ?_ | refine Wl ?_ | refine Wm ?_ | refine Wn ?_) | refine CallG.mk _ (hKn) ?_ | refine CallG.mk _ (variable_a t.name) ?_ | refine CallG.mk _ (hA) ?_ | refine CallG.mk _ (hI) ?_ | ((with_reducible first | refine Wo (fun K hK => ?_) | refine Wp ?_ | refine Wq ?_ | refine Wr ?_); (try simp only [go_sem, List.forall_mem_nil, ↓guard_ite, ↓pick_ite, seval, encT_eq, inR_i64, ha, Int.cast_ofNat_Int, hv, n1, n1', n0, byteN_eq, h99, hr, g40, decide_eq_true_eq, decide_eq_false_iff_not, Int.ofNat_lt]); (repeat with_reducible refine And.intro (by first | omega | with_reducible exact lens_encT | with_reducible exact lens_encL | (simp; done) | (simp only [List.length_take, List.length_map, List.length_append, maxLen_eq]; omega)) ?_); (try (with_reducible refine hK _ ?_; clear hK K)); (try with_reducible refine ite_conj ?_)))
      simp only [go_sem, List.forall_mem_nil, ↓guard_ite, ↓pick_ite, seval, FinQ, AS.result, resAll, resOne, tupV]
      rfl
theorem to_a (t : Tm) (hf : t.fm = true) (hc : t.chk = 0) : ACalls Tryz.prog 56 [aTm t] (.tup [aLm t.toL.1, aInt t.toL.2]) := by
  induction h : SizeOf.sizeOf t using Nat.strongRecOn generalizing t with
  | _ N ih =>
  subst h
  obtain ⟨hn, hcs⟩ := Tm.chk_name hc
  rcases Tm.fm_cases hf with ha | ⟨f, x, _, ha, hf1, hx1⟩
  · rw [Tm.toL_leaf ha]
    exact to_leaf t ha hn
  have ihf := ih _ (Tm.lt_of_arg (by rw [ha]; simp)) f hf1 (Tm.chkL_mem hcs f (by rw [ha]; simp)) rfl
  have ihx := ih _ (Tm.lt_of_arg (by rw [ha]; simp)) x hx1 (Tm.chkL_mem hcs x (by rw [ha]; simp)) rfl
  rw [Tm.toL_ap ha]
  generalize f.toL = R at *
  generalize x.toL = R2 at *
  obtain ⟨y, e⟩ := R
  obtain ⟨y2, e2⟩ := R2
  by_cases he : e = 0
  · simp only [he, if_true] at ihf ⊢
    refine ac_comb_to (Nat.le_of_ble_eq_true rfl) fun C hC => ?_
    unfold ir_comb_to
    repeat' (first | (with_reducible first | refine Wa ?_ | refine Wb ?_ | refine Wc ?_ | refine Wd ?_ | refine We ?_ | refine Wf ?_ | refine Wg ?_ | refine Wh ?_ | refine Wi ?_ | refine Wj ?_ | refine Wk (by decide) ?_ | refine Wl ?_ | refine Wm ?_ | refine Wn ?_) | refine CallG.mk _ (ihf) ?_ | refine CallG.mk _ (ihx) ?_ | refine CallG.mk _ (lA_a y y2) ?_ | ((with_reducible first | refine Wo (fun K hK => ?_) | refine Wp ?_ | refine Wq ?_ | refine Wr ?_); (try simp only [go_sem, List.forall_mem_nil, ↓guard_ite, ↓pick_ite, seval, encT_eq, inR_i64, ha, Int.cast_ofNat_Int, decide_eq_true_eq, decide_eq_false_iff_not, Int.ofNat_lt]); (repeat with_reducible refine And.intro (by first | omega | with_reducible exact lens_encT | with_reducible exact lens_encL | (simp; done) | (simp only [List.length_take, List.length_map, List.length_append, maxLen_eq]; omega)) ?_); (try (with_reducible refine hK _ ?_; clear hK K)); (try with_reducible refine ite_conj ?_)))
    simp only [go_sem, List.forall_mem_nil, ↓guard_ite, ↓pick_ite, seval, FinQ, AS.result, resAll, resOne, tupV]
  · simp only [he, if_false] at ihf ⊢
    refine ac_comb_to (Nat.le_of_ble_eq_true rfl) fun C hC => ?_
    unfold ir_comb_to
    repeat' (first | (with_reducible first | refine Wa ?_ | refine Wb ?_ | refine Wc ?_ | refine Wd ?_ | refine We ?_ | refine Wf ?_ | refine Wg ?_ | refine Wh ?_ | refine Wi ?_ | refine Wj ?_ | refine Wk (by decide) ?_ | refine Wl ?_ | refine Wm ?_ | refine Wn ?_) | refine CallG.mk _ (ihf) ?_ | ((with_reducible first | refine Wo (fun K hK => ?_) | refine Wp ?_ | refine Wq ?_ | refine Wr ?_); (try simp only [go_sem, List.forall_mem_nil, ↓guard_ite, ↓pick_ite, seval, encT_eq, inR_i64, ha, Int.cast_ofNat_Int, he, decide_eq_true_eq, decide_eq_false_iff_not, Int.ofNat_lt]); (repeat with_reducible refine And.intro (by first | omega | with_reducible exact lens_encT | with_reducible exact lens_encL | (simp; done) | (simp only [List.length_take, List.length_map, List.length_append, maxLen_eq]; omega)) ?_); (try (with_reducible refine hK _ ?_; clear hK K)); (try with_reducible refine ite_conj ?_)))
    simp only [go_sem, List.forall_mem_nil, ↓guard_ite, ↓pick_ite, seval, FinQ, AS.result, resAll, resOne, tupV]
    rfl
theorem combMay_fm {t : Tm} (h : combMay t = 0) : t.fm = true ∧ t.chk = 0 ∧ t.size ≤ 200 := by
  unfold combMay at h
  split at h
  · rename_i h1
    have h2 := may_size h1
    unfold Tm.may at h1
    rw [if_neg (by omega)] at h1
    refine ⟨?_, h1, h2⟩
    unfold formE at h
    split at h
    · assumption
    · cases h
  · contradiction
/-- What a term is as a lambda term, or what is wrong. -/
def toR (t : Tm) : Lm × Int := if combMay t = 0 then fixL t.toL else (Lm.nil, combMay t)
theorem To_a (t : Tm) : ACalls Tryz.prog 30 [aTm t] (.tup [aLm (toR t).1, aInt (toR t).2]) := by
  unfold toR
  by_cases h : combMay t = 0
  · obtain ⟨hf, hc, hz⟩ := combMay_fm h
    rw [if_pos h]
    have hT := to_a t hf hc
    have hS := Tm.toL_size _ t (Nat.lt_succ_self _) hf
    generalize t.toL = R at *
    obtain ⟨y, e⟩ := R
    unfold fixL
    by_cases he : e = 0
    · simp only [he, if_true] at hT hS ⊢
      have hb : ¬ (2000 : Int) < y.size := by omega
      refine ac_comb_To (Nat.le_of_ble_eq_true rfl) fun C hC => ?_
      unfold ir_comb_To
      repeat' (first | (with_reducible first | refine Wa ?_ | refine Wb ?_ | refine Wc ?_ | refine Wd ?_ | refine We ?_ | refine Wf ?_ | refine Wg ?_ | refine Wh ?_ | refine Wi ?_ | refine Wj ?_ | refine Wk (by decide) ?_ | refine Wl ?_ | refine Wm ?_ | refine Wn ?_) | refine CallG.mk _ (combCheck_a t) ?_ | refine CallG.mk _ (hT) ?_ | refine CallG.mk _ (lsize_a y (by omega)) ?_ | ((with_reducible first | refine Wo (fun K hK => ?_) | refine Wp ?_ | refine Wq ?_ | refine Wr ?_); (try simp only [go_sem, List.forall_mem_nil, ↓guard_ite, ↓pick_ite, seval, encT_eq, inR_i64, h, hb, decide_eq_true_eq, decide_eq_false_iff_not, Int.ofNat_lt]); (repeat with_reducible refine And.intro (by first | omega | with_reducible exact lens_encT | with_reducible exact lens_encL | (simp; done) | (simp only [List.length_take, List.length_map, List.length_append, maxLen_eq]; omega)) ?_); (try (with_reducible refine hK _ ?_; clear hK K)); (try with_reducible refine ite_conj ?_)))
      simp only [go_sem, List.forall_mem_nil, ↓guard_ite, ↓pick_ite, seval, FinQ, AS.result, resAll, resOne, tupV]
    · simp only [he, if_false] at hT ⊢
      refine ac_comb_To (Nat.le_of_ble_eq_true rfl) fun C hC => ?_
      unfold ir_comb_To
      repeat' (first | (with_reducible first | refine Wa ?_ | refine Wb ?_ | refine Wc ?_ | refine Wd ?_ | refine We ?_ | refine Wf ?_ | refine Wg ?_ | refine Wh ?_ | refine Wi ?_ | refine Wj ?_ | refine Wk (by decide) ?_ | refine Wl ?_ | refine Wm ?_ | refine Wn ?_) | refine CallG.mk _ (combCheck_a t) ?_ | refine CallG.mk _ (hT) ?_ | ((with_reducible first | refine Wo (fun K hK => ?_) | refine Wp ?_ | refine Wq ?_ | refine Wr ?_); (try simp only [go_sem, List.forall_mem_nil, ↓guard_ite, ↓pick_ite, seval, encT_eq, inR_i64, h, he, decide_eq_true_eq, decide_eq_false_iff_not, Int.ofNat_lt]); (repeat with_reducible refine And.intro (by first | omega | with_reducible exact lens_encT | with_reducible exact lens_encL | (simp; done) | (simp only [List.length_take, List.length_map, List.length_append, maxLen_eq]; omega)) ?_); (try (with_reducible refine hK _ ?_; clear hK K)); (try with_reducible refine ite_conj ?_)))
      simp only [go_sem, List.forall_mem_nil, ↓guard_ite, ↓pick_ite, seval, FinQ, AS.result, resAll, resOne, tupV]
      rfl
  · rw [if_neg h]
    refine ac_comb_To (Nat.le_of_ble_eq_true rfl) fun C hC => ?_
    unfold ir_comb_To
    repeat' (first | (with_reducible first | refine Wa ?_ | refine Wb ?_ | refine Wc ?_ | refine Wd ?_ | refine We ?_ | refine Wf ?_ | refine Wg ?_ | refine Wh ?_ | refine Wi ?_ | refine Wj ?_ | refine Wk (by decide) ?_ | refine Wl ?_ | refine Wm ?_ | refine Wn ?_) | refine CallG.mk _ (combCheck_a t) ?_ | ((with_reducible first | refine Wo (fun K hK => ?_) | refine Wp ?_ | refine Wq ?_ | refine Wr ?_); (try simp only [go_sem, List.forall_mem_nil, ↓guard_ite, ↓pick_ite, seval, encT_eq, inR_i64, h, decide_eq_true_eq, decide_eq_false_iff_not, Int.ofNat_lt]); (repeat with_reducible refine And.intro (by first | omega | with_reducible exact lens_encT | with_reducible exact lens_encL | (simp; done) | (simp only [List.length_take, List.length_map, List.length_append, maxLen_eq]; omega)) ?_); (try (with_reducible refine hK _ ?_; clear hK K)); (try with_reducible refine ite_conj ?_)))
    simp only [go_sem, List.forall_mem_nil, ↓guard_ite, ↓pick_ite, seval, FinQ, AS.result, resAll, resOne, tupV]
    rfl
/-- Without a variable: what is left, or what is wrong. -/
def brErr (v : ByteArray) (t : Tm) : Int := if nameOk v = true ∧ isVar v = true then combMay t else 1
def brR (v : ByteArray) (t : Tm) : Tm × Int := if brErr v t = 0 then (t.br v, 0) else (Tm.nil, brErr v t)
theorem Bracket_a (v : ByteArray) (t : Tm) : ACalls Tryz.prog 27 [aStr v, aTm t] (.tup [aTm (brR v t).1, aInt (brR v t).2]) := by
  unfold brR
  by_cases h1 : nameOk v = true
  case neg =>
    have e : brErr v t = 1 := if_neg (fun h => h1 h.1)
    rw [e, if_neg (by decide)]
    refine ac_comb_Bracket (Nat.le_of_ble_eq_true rfl) fun C hC => ?_
    unfold ir_comb_Bracket
    repeat' (first | (with_reducible first | refine Wa ?_ | refine Wb ?_ | refine Wc ?_ | refine Wd ?_ | refine We ?_ | refine Wf ?_ | refine Wg ?_ | refine Wh ?_ | refine Wi ?_ | refine Wj ?_ | refine Wk (by decide) ?_ | refine Wl ?_ | refine Wm ?_ | refine Wn ?_) | refine CallG.mk _ (name_a v) ?_ | ((with_reducible first | refine Wo (fun K hK => ?_) | refine Wp ?_ | refine Wq ?_ | refine Wr ?_); (try simp only [go_sem, List.forall_mem_nil, ↓guard_ite, ↓pick_ite, seval, encT_eq, inR_i64, h1, decide_eq_true_eq, decide_eq_false_iff_not, Int.ofNat_lt]); (repeat with_reducible refine And.intro (by first | omega | with_reducible exact lens_encT | with_reducible exact lens_encL | (simp; done) | (simp only [List.length_take, List.length_map, List.length_append, maxLen_eq]; omega)) ?_); (try (with_reducible refine hK _ ?_; clear hK K)); (try with_reducible refine ite_conj ?_)))
    simp only [go_sem, List.forall_mem_nil, ↓guard_ite, ↓pick_ite, seval, FinQ, AS.result, resAll, resOne, tupV]
    rfl
  by_cases h2 : isVar v = true
  case neg =>
    have e : brErr v t = 1 := if_neg (fun h => h2 h.2)
    rw [e, if_neg (by decide)]
    refine ac_comb_Bracket (Nat.le_of_ble_eq_true rfl) fun C hC => ?_
    unfold ir_comb_Bracket
    repeat' (first | (with_reducible first | refine Wa ?_ | refine Wb ?_ | refine Wc ?_ | refine Wd ?_ | refine We ?_ | refine Wf ?_ | refine Wg ?_ | refine Wh ?_ | refine Wi ?_ | refine Wj ?_ | refine Wk (by decide) ?_ | refine Wl ?_ | refine Wm ?_ | refine Wn ?_) | refine CallG.mk _ (name_a v) ?_ | refine CallG.mk _ (variable_a v) ?_ | ((with_reducible first | refine Wo (fun K hK => ?_) | refine Wp ?_ | refine Wq ?_ | refine Wr ?_); (try simp only [go_sem, List.forall_mem_nil, ↓guard_ite, ↓pick_ite, seval, encT_eq, inR_i64, h1, h2, decide_eq_true_eq, decide_eq_false_iff_not, Int.ofNat_lt]); (repeat with_reducible refine And.intro (by first | omega | with_reducible exact lens_encT | with_reducible exact lens_encL | (simp; done) | (simp only [List.length_take, List.length_map, List.length_append, maxLen_eq]; omega)) ?_); (try (with_reducible refine hK _ ?_; clear hK K)); (try with_reducible refine ite_conj ?_)))
    simp only [go_sem, List.forall_mem_nil, ↓guard_ite, ↓pick_ite, seval, FinQ, AS.result, resAll, resOne, tupV]
    rfl
  have e : brErr v t = combMay t := if_pos ⟨h1, h2⟩
  rw [e]
  by_cases h : combMay t = 0
  · obtain ⟨hf, hc, hz⟩ := combMay_fm h
    obtain ⟨b1, b2⟩ := Tm.br_all _ v t (Nat.lt_succ_self _) hf
    have hF := fit_a (t.br v) (by omega)
    have e2 : fitR (t.br v) = (t.br v, 0) := if_neg (by omega)
    rw [e2] at hF
    rw [if_pos h]
    refine ac_comb_Bracket (Nat.le_of_ble_eq_true rfl) fun C hC => ?_
    unfold ir_comb_Bracket
    repeat' (first | (with_reducible first | refine Wa ?_ | refine Wb ?_ | refine Wc ?_ | refine Wd ?_ | refine We ?_ | refine Wf ?_ | refine Wg ?_ | refine Wh ?_ | refine Wi ?_ | refine Wj ?_ | refine Wk (by decide) ?_ | refine Wl ?_ | refine Wm ?_ | refine Wn ?_) | refine CallG.mk _ (name_a v) ?_ | refine CallG.mk _ (variable_a v) ?_ | refine CallG.mk _ (combCheck_a t) ?_ | refine CallG.mk _ (without_a v t hf (by omega)) ?_ | refine CallG.mk _ (hF) ?_ | ((with_reducible first | refine Wo (fun K hK => ?_) | refine Wp ?_ | refine Wq ?_ | refine Wr ?_); (try simp only [go_sem, List.forall_mem_nil, ↓guard_ite, ↓pick_ite, seval, encT_eq, inR_i64, h1, h2, h, decide_eq_true_eq, decide_eq_false_iff_not, Int.ofNat_lt]); (repeat with_reducible refine And.intro (by first | omega | with_reducible exact lens_encT | with_reducible exact lens_encL | (simp; done) | (simp only [List.length_take, List.length_map, List.length_append, maxLen_eq]; omega)) ?_); (try (with_reducible refine hK _ ?_; clear hK K)); (try with_reducible refine ite_conj ?_)))
    simp only [go_sem, List.forall_mem_nil, ↓guard_ite, ↓pick_ite, seval, FinQ, AS.result, resAll, resOne, tupV]
  · rw [if_neg h]
    refine ac_comb_Bracket (Nat.le_of_ble_eq_true rfl) fun C hC => ?_
    unfold ir_comb_Bracket
    repeat' (first | (with_reducible first | refine Wa ?_ | refine Wb ?_ | refine Wc ?_ | refine Wd ?_ | refine We ?_ | refine Wf ?_ | refine Wg ?_ | refine Wh ?_ | refine Wi ?_ | refine Wj ?_ | refine Wk (by decide) ?_ | refine Wl ?_ | refine Wm ?_ | refine Wn ?_) | refine CallG.mk _ (name_a v) ?_ | refine CallG.mk _ (variable_a v) ?_ | refine CallG.mk _ (combCheck_a t) ?_ | ((with_reducible first | refine Wo (fun K hK => ?_) | refine Wp ?_ | refine Wq ?_ | refine Wr ?_); (try simp only [go_sem, List.forall_mem_nil, ↓guard_ite, ↓pick_ite, seval, encT_eq, inR_i64, h1, h2, h, decide_eq_true_eq, decide_eq_false_iff_not, Int.ofNat_lt]); (repeat with_reducible refine And.intro (by first | omega | with_reducible exact lens_encT | with_reducible exact lens_encL | (simp; done) | (simp only [List.length_take, List.length_map, List.length_append, maxLen_eq]; omega)) ?_); (try (with_reducible refine hK _ ?_; clear hK K)); (try with_reducible refine ite_conj ?_)))
    simp only [go_sem, List.forall_mem_nil, ↓guard_ite, ↓pick_ite, seval, FinQ, AS.result, resAll, resOne, tupV]
    rfl
end Go.Proofs.YtbiadmlfejnbcaaGreatDoor

namespace Go.Proofs.YtbiadmlfejnbcaaGreatDoor
open Go Go.RowKit
set_option linter.unusedVariables false
set_option linter.unusedSimpArgs false
set_option maxHeartbeats 1000000

theorem combSays_a (v : ByteArray) (t : Tm) : ACalls Tryz.prog 10 [aStr v, aTm t] (aBool true) := by
  by_cases q0 : (100 : Int) < v.size
  · refine ac_L_CombSays (Nat.le_of_ble_eq_true rfl) fun C hC => ?_
    unfold ir_L_CombSays
    repeat' (first | (with_reducible first | refine Wa ?_ | refine Wb ?_ | refine Wc ?_ | refine Wd ?_ | refine We ?_ | refine Wf ?_ | refine Wg ?_ | refine Wh ?_ | refine Wi ?_ | refine Wj ?_ | refine Wk (by decide) ?_ | refine Wl ?_ | refine Wm ?_ | refine Wn ?_) | ((with_reducible first | refine Wo (fun K hK => ?_) | refine Wp ?_ | refine Wq ?_ | refine Wr ?_); (try simp only [go_sem, List.forall_mem_nil, ↓guard_ite, ↓pick_ite, seval, encT_eq, inR_i64, q0, decide_eq_true_eq, decide_eq_false_iff_not, Int.ofNat_lt]); (repeat with_reducible refine And.intro (by first | omega | with_reducible exact lens_encT | with_reducible exact lens_encL | (simp; done) | (simp only [List.length_take, List.length_map, List.length_append, maxLen_eq]; omega)) ?_); (try (with_reducible refine hK _ ?_; clear hK K)); (try with_reducible refine ite_conj ?_)))
    simp only [go_sem, List.forall_mem_nil, ↓guard_ite, ↓pick_ite, seval, FinQ, AS.result, resAll, resOne, tupV]
  by_cases q1 : 3000 < t.size
  · refine ac_L_CombSays (Nat.le_of_ble_eq_true rfl) fun C hC => ?_
    unfold ir_L_CombSays
    repeat' (first | (with_reducible first | refine Wa ?_ | refine Wb ?_ | refine Wc ?_ | refine Wd ?_ | refine We ?_ | refine Wf ?_ | refine Wg ?_ | refine Wh ?_ | refine Wi ?_ | refine Wj ?_ | refine Wk (by decide) ?_ | refine Wl ?_ | refine Wm ?_ | refine Wn ?_) | refine CallG.mk _ (huge_a t) ?_ | ((with_reducible first | refine Wo (fun K hK => ?_) | refine Wp ?_ | refine Wq ?_ | refine Wr ?_); (try simp only [go_sem, List.forall_mem_nil, ↓guard_ite, ↓pick_ite, seval, encT_eq, inR_i64, q0, q1, decide_eq_true_eq, decide_eq_false_iff_not, Int.ofNat_lt]); (repeat with_reducible refine And.intro (by first | omega | with_reducible exact lens_encT | with_reducible exact lens_encL | (simp; done) | (simp only [List.length_take, List.length_map, List.length_append, maxLen_eq]; omega)) ?_); (try (with_reducible refine hK _ ?_; clear hK K)); (try with_reducible refine ite_conj ?_)))
    simp only [go_sem, List.forall_mem_nil, ↓guard_ite, ↓pick_ite, seval, FinQ, AS.result, resAll, resOne, tupV]
  have hT := To_a t
  have hB := Bracket_a v t
  by_cases hm : nameOk v = true ∧ isVar v = true
  case neg =>
    have e1 : brErr v t = 1 := if_neg hm
    have hR : brR v t = (Tm.nil, 1) := by
      unfold brR
      rw [e1, if_neg (by decide)]
    rw [hR] at hB
    have hterm : term2 Tm.nil 1 Tm.nil 1 = true := term2_self _ _ _ (fun _ => rfl) rfl
    by_cases h1 : nameOk v = true
    case neg =>
      by_cases h : combMay t = 0
      case neg =>
        have hR2 : toR t = (Lm.nil, combMay t) := if_neg h
        rw [hR2] at hT
        refine ac_L_CombSays (Nat.le_of_ble_eq_true rfl) fun C hC => ?_
        unfold ir_L_CombSays
        repeat' (first | (with_reducible first | refine Wa ?_ | refine Wb ?_ | refine Wc ?_ | refine Wd ?_ | refine We ?_ | refine Wf ?_ | refine Wg ?_ | refine Wh ?_ | refine Wi ?_ | refine Wj ?_ | refine Wk (by decide) ?_ | refine Wl ?_ | refine Wm ?_ | refine Wn ?_) | refine CallG.mk _ (huge_a t) ?_ | refine CallG.mk _ (combMayR_a t) ?_ | refine CallG.mk _ (isName_a v) ?_ | refine CallG.mk _ (hB) ?_ | refine CallG.mk _ (combCheck_a t) ?_ | refine CallG.mk _ (term2_a Tm.nil Tm.nil 1 1) ?_ | refine CallG.mk _ (hT) ?_ | refine CallG.mk _ (lam2_a Lm.nil Lm.nil (combMay t) (Or.inl ⟨h, rfl⟩)) ?_ | ((with_reducible first | refine Wo (fun K hK => ?_) | refine Wp ?_ | refine Wq ?_ | refine Wr ?_); (try simp only [go_sem, List.forall_mem_nil, ↓guard_ite, ↓pick_ite, seval, encT_eq, inR_i64, q0, q1, h1, hterm, h, decide_eq_true_eq, decide_eq_false_iff_not, Int.ofNat_lt]); (repeat with_reducible refine And.intro (by first | omega | with_reducible exact lens_encT | with_reducible exact lens_encL | (simp; done) | (simp only [List.length_take, List.length_map, List.length_append, maxLen_eq]; omega)) ?_); (try (with_reducible refine hK _ ?_; clear hK K)); (try with_reducible refine ite_conj ?_)))
        simp only [go_sem, List.forall_mem_nil, ↓guard_ite, ↓pick_ite, seval, FinQ, AS.result, resAll, resOne, tupV]
      case pos =>
      have hR2 : toR t = fixL t.toL := if_pos h
      rw [hR2] at hT
      obtain ⟨hf, hc, hz⟩ := combMay_fm h
      have hS := Tm.toL_size _ t (Nat.lt_succ_self _) hf
      obtain ⟨y, e, hye⟩ : ∃ y e, t.toL = (y, e) := ⟨_, _, rfl⟩
      have hcapL : ¬ 2000 < capTo y.size 2000 := by
        rw [hye] at hS
        simp only at hS
        unfold capTo
        split <;> omega
      by_cases he : e = 0
      · have hfix : fixL t.toL = (y, 0) := by
          rw [hye, he]
          rfl
        rw [hfix] at hT
        refine ac_L_CombSays (Nat.le_of_ble_eq_true rfl) fun C hC => ?_
        unfold ir_L_CombSays
        repeat' (first | (with_reducible first | refine Wa ?_ | refine Wb ?_ | refine Wc ?_ | refine Wd ?_ | refine We ?_ | refine Wf ?_ | refine Wg ?_ | refine Wh ?_ | refine Wi ?_ | refine Wj ?_ | refine Wk (by decide) ?_ | refine Wl ?_ | refine Wm ?_ | refine Wn ?_) | refine CallG.mk _ (huge_a t) ?_ | refine CallG.mk _ (combMayR_a t) ?_ | refine CallG.mk _ (isName_a v) ?_ | refine CallG.mk _ (hB) ?_ | refine CallG.mk _ (combCheck_a t) ?_ | refine CallG.mk _ (term2_a Tm.nil Tm.nil 1 1) ?_ | refine CallG.mk _ (lamOf_a t hf) ?_ | refine CallG.mk _ (lsizeR_a y 2000 (by decide) (by decide)) ?_ | refine CallG.mk _ (hT) ?_ | refine CallG.mk _ (lam2_a y y 0 (Or.inr ⟨rfl, rfl⟩)) ?_ | ((with_reducible first | refine Wo (fun K hK => ?_) | refine Wp ?_ | refine Wq ?_ | refine Wr ?_); (try simp only [go_sem, List.forall_mem_nil, ↓guard_ite, ↓pick_ite, seval, encT_eq, inR_i64, q0, q1, h1, hterm, h, hfix, hcapL, decide_eq_true_eq, decide_eq_false_iff_not, Int.ofNat_lt]); (repeat with_reducible refine And.intro (by first | omega | with_reducible exact lens_encT | with_reducible exact lens_encL | (simp; done) | (simp only [List.length_take, List.length_map, List.length_append, maxLen_eq]; omega)) ?_); (try (with_reducible refine hK _ ?_; clear hK K)); (try with_reducible refine ite_conj ?_)))
        simp only [go_sem, List.forall_mem_nil, ↓guard_ite, ↓pick_ite, seval, FinQ, AS.result, resAll, resOne, tupV]
      · have hfix : fixL t.toL = (Lm.nil, e) := by
          rw [hye]
          exact if_neg he
        rw [hfix] at hT
        refine ac_L_CombSays (Nat.le_of_ble_eq_true rfl) fun C hC => ?_
        unfold ir_L_CombSays
        repeat' (first | (with_reducible first | refine Wa ?_ | refine Wb ?_ | refine Wc ?_ | refine Wd ?_ | refine We ?_ | refine Wf ?_ | refine Wg ?_ | refine Wh ?_ | refine Wi ?_ | refine Wj ?_ | refine Wk (by decide) ?_ | refine Wl ?_ | refine Wm ?_ | refine Wn ?_) | refine CallG.mk _ (huge_a t) ?_ | refine CallG.mk _ (combMayR_a t) ?_ | refine CallG.mk _ (isName_a v) ?_ | refine CallG.mk _ (hB) ?_ | refine CallG.mk _ (combCheck_a t) ?_ | refine CallG.mk _ (term2_a Tm.nil Tm.nil 1 1) ?_ | refine CallG.mk _ (lamOf_a t hf) ?_ | refine CallG.mk _ (hT) ?_ | refine CallG.mk _ (lam2_a Lm.nil Lm.nil e (Or.inl ⟨he, rfl⟩)) ?_ | ((with_reducible first | refine Wo (fun K hK => ?_) | refine Wp ?_ | refine Wq ?_ | refine Wr ?_); (try simp only [go_sem, List.forall_mem_nil, ↓guard_ite, ↓pick_ite, seval, encT_eq, inR_i64, q0, q1, h1, hterm, h, hfix, he, decide_eq_true_eq, decide_eq_false_iff_not, Int.ofNat_lt]); (repeat with_reducible refine And.intro (by first | omega | with_reducible exact lens_encT | with_reducible exact lens_encL | (simp; done) | (simp only [List.length_take, List.length_map, List.length_append, maxLen_eq]; omega)) ?_); (try (with_reducible refine hK _ ?_; clear hK K)); (try with_reducible refine ite_conj ?_)))
        simp only [go_sem, List.forall_mem_nil, ↓guard_ite, ↓pick_ite, seval, FinQ, AS.result, resAll, resOne, tupV]
    case pos =>
    have h2 : ¬ isVar v = true := fun h => hm ⟨h1, h⟩
    by_cases h : combMay t = 0
    case neg =>
      have hR2 : toR t = (Lm.nil, combMay t) := if_neg h
      rw [hR2] at hT
      refine ac_L_CombSays (Nat.le_of_ble_eq_true rfl) fun C hC => ?_
      unfold ir_L_CombSays
      repeat' (first | (with_reducible first | refine Wa ?_ | refine Wb ?_ | refine Wc ?_ | refine Wd ?_ | refine We ?_ | refine Wf ?_ | refine Wg ?_ | refine Wh ?_ | refine Wi ?_ | refine Wj ?_ | refine Wk (by decide) ?_ | refine Wl ?_ | refine Wm ?_ | refine Wn ?_) | refine CallG.mk _ (huge_a t) ?_ | refine CallG.mk _ (combMayR_a t) ?_ | refine CallG.mk _ (isName_a v) ?_ | refine CallG.mk _ (isVar_a v) ?_ | refine CallG.mk _ (hB) ?_ | refine CallG.mk _ (combCheck_a t) ?_ | refine CallG.mk _ (term2_a Tm.nil Tm.nil 1 1) ?_ | refine CallG.mk _ (hT) ?_ | refine CallG.mk _ (lam2_a Lm.nil Lm.nil (combMay t) (Or.inl ⟨h, rfl⟩)) ?_ | ((with_reducible first | refine Wo (fun K hK => ?_) | refine Wp ?_ | refine Wq ?_ | refine Wr ?_); (try simp only [go_sem, List.forall_mem_nil, ↓guard_ite, ↓pick_ite, seval, encT_eq, inR_i64, q0, q1, h1, h2, hterm, h, decide_eq_true_eq, decide_eq_false_iff_not, Int.ofNat_lt]); (repeat with_reducible refine And.intro (by first | omega | with_reducible exact lens_encT | with_reducible exact lens_encL | (simp; done) | (simp only [List.length_take, List.length_map, List.length_append, maxLen_eq]; omega)) ?_); (try (with_reducible refine hK _ ?_; clear hK K)); (try with_reducible refine ite_conj ?_)))
      simp only [go_sem, List.forall_mem_nil, ↓guard_ite, ↓pick_ite, seval, FinQ, AS.result, resAll, resOne, tupV]
    case pos =>
    have hR2 : toR t = fixL t.toL := if_pos h
    rw [hR2] at hT
    obtain ⟨hf, hc, hz⟩ := combMay_fm h
    have hS := Tm.toL_size _ t (Nat.lt_succ_self _) hf
    obtain ⟨y, e, hye⟩ : ∃ y e, t.toL = (y, e) := ⟨_, _, rfl⟩
    have hcapL : ¬ 2000 < capTo y.size 2000 := by
      rw [hye] at hS
      simp only at hS
      unfold capTo
      split <;> omega
    by_cases he : e = 0
    · have hfix : fixL t.toL = (y, 0) := by
        rw [hye, he]
        rfl
      rw [hfix] at hT
      refine ac_L_CombSays (Nat.le_of_ble_eq_true rfl) fun C hC => ?_
      unfold ir_L_CombSays
      repeat' (first | (with_reducible first | refine Wa ?_ | refine Wb ?_ | refine Wc ?_ | refine Wd ?_ | refine We ?_ | refine Wf ?_ | refine Wg ?_ | refine Wh ?_ | refine Wi ?_ | refine Wj ?_ | refine Wk (by decide) ?_ | refine Wl ?_ | refine Wm ?_ | refine Wn ?_) | refine CallG.mk _ (huge_a t) ?_ | refine CallG.mk _ (combMayR_a t) ?_ | refine CallG.mk _ (isName_a v) ?_ | refine CallG.mk _ (isVar_a v) ?_ | refine CallG.mk _ (hB) ?_ | refine CallG.mk _ (combCheck_a t) ?_ | refine CallG.mk _ (term2_a Tm.nil Tm.nil 1 1) ?_ | refine CallG.mk _ (lamOf_a t hf) ?_ | refine CallG.mk _ (lsizeR_a y 2000 (by decide) (by decide)) ?_ | refine CallG.mk _ (hT) ?_ | refine CallG.mk _ (lam2_a y y 0 (Or.inr ⟨rfl, rfl⟩)) ?_ | ((with_reducible first | refine Wo (fun K hK => ?_) | refine Wp ?_ | refine Wq ?_ | refine Wr ?_); (try simp only [go_sem, List.forall_mem_nil, ↓guard_ite, ↓pick_ite, seval, encT_eq, inR_i64, q0, q1, h1, h2, hterm, h, hfix, hcapL, decide_eq_true_eq, decide_eq_false_iff_not, Int.ofNat_lt]); (repeat with_reducible refine And.intro (by first | omega | with_reducible exact lens_encT | with_reducible exact lens_encL | (simp; done) | (simp only [List.length_take, List.length_map, List.length_append, maxLen_eq]; omega)) ?_); (try (with_reducible refine hK _ ?_; clear hK K)); (try with_reducible refine ite_conj ?_)))
      simp only [go_sem, List.forall_mem_nil, ↓guard_ite, ↓pick_ite, seval, FinQ, AS.result, resAll, resOne, tupV]
    · have hfix : fixL t.toL = (Lm.nil, e) := by
        rw [hye]
        exact if_neg he
      rw [hfix] at hT
      refine ac_L_CombSays (Nat.le_of_ble_eq_true rfl) fun C hC => ?_
      unfold ir_L_CombSays
      repeat' (first | (with_reducible first | refine Wa ?_ | refine Wb ?_ | refine Wc ?_ | refine Wd ?_ | refine We ?_ | refine Wf ?_ | refine Wg ?_ | refine Wh ?_ | refine Wi ?_ | refine Wj ?_ | refine Wk (by decide) ?_ | refine Wl ?_ | refine Wm ?_ | refine Wn ?_) | refine CallG.mk _ (huge_a t) ?_ | refine CallG.mk _ (combMayR_a t) ?_ | refine CallG.mk _ (isName_a v) ?_ | refine CallG.mk _ (isVar_a v) ?_ | refine CallG.mk _ (hB) ?_ | refine CallG.mk _ (combCheck_a t) ?_ | refine CallG.mk _ (term2_a Tm.nil Tm.nil 1 1) ?_ | refine CallG.mk _ (lamOf_a t hf) ?_ | refine CallG.mk _ (hT) ?_ | refine CallG.mk _ (lam2_a Lm.nil Lm.nil e (Or.inl ⟨he, rfl⟩)) ?_ | ((with_reducible first | refine Wo (fun K hK => ?_) | refine Wp ?_ | refine Wq ?_ | refine Wr ?_); (try simp only [go_sem, List.forall_mem_nil, ↓guard_ite, ↓pick_ite, seval, encT_eq, inR_i64, q0, q1, h1, h2, hterm, h, hfix, he, decide_eq_true_eq, decide_eq_false_iff_not, Int.ofNat_lt]); (repeat with_reducible refine And.intro (by first | omega | with_reducible exact lens_encT | with_reducible exact lens_encL | (simp; done) | (simp only [List.length_take, List.length_map, List.length_append, maxLen_eq]; omega)) ?_); (try (with_reducible refine hK _ ?_; clear hK K)); (try with_reducible refine ite_conj ?_)))
      simp only [go_sem, List.forall_mem_nil, ↓guard_ite, ↓pick_ite, seval, FinQ, AS.result, resAll, resOne, tupV]
  case pos =>
  obtain ⟨h1, h2⟩ := hm
  have e1 : brErr v t = combMay t := if_pos ⟨h1, h2⟩
  by_cases h : combMay t = 0
  case neg =>
    have hR2 : toR t = (Lm.nil, combMay t) := if_neg h
    rw [hR2] at hT
    have hR : brR v t = (Tm.nil, combMay t) := by
      unfold brR
      rw [e1, if_neg h]
    rw [hR] at hB
    have hterm : term2 Tm.nil (combMay t) Tm.nil (combMay t) = true := term2_self _ _ _ (fun _ => rfl) rfl
    refine ac_L_CombSays (Nat.le_of_ble_eq_true rfl) fun C hC => ?_
    unfold ir_L_CombSays
    repeat' (first | (with_reducible first | refine Wa ?_ | refine Wb ?_ | refine Wc ?_ | refine Wd ?_ | refine We ?_ | refine Wf ?_ | refine Wg ?_ | refine Wh ?_ | refine Wi ?_ | refine Wj ?_ | refine Wk (by decide) ?_ | refine Wl ?_ | refine Wm ?_ | refine Wn ?_) | refine CallG.mk _ (huge_a t) ?_ | refine CallG.mk _ (combMayR_a t) ?_ | refine CallG.mk _ (isName_a v) ?_ | refine CallG.mk _ (isVar_a v) ?_ | refine CallG.mk _ (hB) ?_ | refine CallG.mk _ (combCheck_a t) ?_ | refine CallG.mk _ (term2_a Tm.nil Tm.nil (combMay t) (combMay t)) ?_ | refine CallG.mk _ (hT) ?_ | refine CallG.mk _ (lam2_a Lm.nil Lm.nil (combMay t) (Or.inl ⟨h, rfl⟩)) ?_ | ((with_reducible first | refine Wo (fun K hK => ?_) | refine Wp ?_ | refine Wq ?_ | refine Wr ?_); (try simp only [go_sem, List.forall_mem_nil, ↓guard_ite, ↓pick_ite, seval, encT_eq, inR_i64, q0, q1, h1, h2, h, hterm, decide_eq_true_eq, decide_eq_false_iff_not, Int.ofNat_lt]); (repeat with_reducible refine And.intro (by first | omega | with_reducible exact lens_encT | with_reducible exact lens_encL | (simp; done) | (simp only [List.length_take, List.length_map, List.length_append, maxLen_eq]; omega)) ?_); (try (with_reducible refine hK _ ?_; clear hK K)); (try with_reducible refine ite_conj ?_)))
    simp only [go_sem, List.forall_mem_nil, ↓guard_ite, ↓pick_ite, seval, FinQ, AS.result, resAll, resOne, tupV]
  case pos =>
  have hR2 : toR t = fixL t.toL := if_pos h
  rw [hR2] at hT
  obtain ⟨hf, hc, hz⟩ := combMay_fm h
  have hS := Tm.toL_size _ t (Nat.lt_succ_self _) hf
  obtain ⟨b1, b2⟩ := Tm.br_all _ v t (Nat.lt_succ_self _) hf
  have hR : brR v t = (t.br v, 0) := by
    unfold brR
    rw [e1, if_pos h]
  rw [hR] at hB
  have hterm : term2 (t.br v) 0 (t.br v) 0 = true := term2_self _ _ _ (fun h => absurd rfl h) rfl
  have hcap : ¬ 2000 < capTo (t.br v).size 2000 := by
    unfold capTo
    split <;> omega
  obtain ⟨y, e, hye⟩ : ∃ y e, t.toL = (y, e) := ⟨_, _, rfl⟩
  have hcapL : ¬ 2000 < capTo y.size 2000 := by
    rw [hye] at hS
    simp only at hS
    unfold capTo
    split <;> omega
  by_cases he : e = 0
  · have hfix : fixL t.toL = (y, 0) := by
      rw [hye, he]
      rfl
    rw [hfix] at hT
    refine ac_L_CombSays (Nat.le_of_ble_eq_true rfl) fun C hC => ?_
    unfold ir_L_CombSays
    repeat' (first | (with_reducible first | refine Wa ?_ | refine Wb ?_ | refine Wc ?_ | refine Wd ?_ | refine We ?_ | refine Wf ?_ | refine Wg ?_ | refine Wh ?_ | refine Wi ?_ | refine Wj ?_ | refine Wk (by decide) ?_ | refine Wl ?_ | refine Wm ?_ | refine Wn ?_) | refine CallG.mk _ (huge_a t) ?_ | refine CallG.mk _ (combMayR_a t) ?_ | refine CallG.mk _ (isName_a v) ?_ | refine CallG.mk _ (isVar_a v) ?_ | refine CallG.mk _ (bracketR_a v t hf (by omega)) ?_ | refine CallG.mk _ (sizeR_a (t.br v) 2000 (by decide) (by decide)) ?_ | refine CallG.mk _ (hB) ?_ | refine CallG.mk _ (combCheck_a t) ?_ | refine CallG.mk _ (term2_a (t.br v) (t.br v) 0 0) ?_ | refine CallG.mk _ (lamOf_a t hf) ?_ | refine CallG.mk _ (lsizeR_a y 2000 (by decide) (by decide)) ?_ | refine CallG.mk _ (hT) ?_ | refine CallG.mk _ (lam2_a y y 0 (Or.inr ⟨rfl, rfl⟩)) ?_ | ((with_reducible first | refine Wo (fun K hK => ?_) | refine Wp ?_ | refine Wq ?_ | refine Wr ?_); (try simp only [go_sem, List.forall_mem_nil, ↓guard_ite, ↓pick_ite, seval, encT_eq, inR_i64, q0, q1, h1, h2, h, hcap, hterm, hfix, hcapL, decide_eq_true_eq, decide_eq_false_iff_not, Int.ofNat_lt]); (repeat with_reducible refine And.intro (by first | omega | with_reducible exact lens_encT | with_reducible exact lens_encL | (simp; done) | (simp only [List.length_take, List.length_map, List.length_append, maxLen_eq]; omega)) ?_); (try (with_reducible refine hK _ ?_; clear hK K)); (try with_reducible refine ite_conj ?_)))
    simp only [go_sem, List.forall_mem_nil, ↓guard_ite, ↓pick_ite, seval, FinQ, AS.result, resAll, resOne, tupV]
  · have hfix : fixL t.toL = (Lm.nil, e) := by
      rw [hye]
      exact if_neg he
    rw [hfix] at hT
    refine ac_L_CombSays (Nat.le_of_ble_eq_true rfl) fun C hC => ?_
    unfold ir_L_CombSays
    repeat' (first | (with_reducible first | refine Wa ?_ | refine Wb ?_ | refine Wc ?_ | refine Wd ?_ | refine We ?_ | refine Wf ?_ | refine Wg ?_ | refine Wh ?_ | refine Wi ?_ | refine Wj ?_ | refine Wk (by decide) ?_ | refine Wl ?_ | refine Wm ?_ | refine Wn ?_) | refine CallG.mk _ (huge_a t) ?_ | refine CallG.mk _ (combMayR_a t) ?_ | refine CallG.mk _ (isName_a v) ?_ | refine CallG.mk _ (isVar_a v) ?_ | refine CallG.mk _ (bracketR_a v t hf (by omega)) ?_ | refine CallG.mk _ (sizeR_a (t.br v) 2000 (by decide) (by decide)) ?_ | refine CallG.mk _ (hB) ?_ | refine CallG.mk _ (combCheck_a t) ?_ | refine CallG.mk _ (term2_a (t.br v) (t.br v) 0 0) ?_ | refine CallG.mk _ (lamOf_a t hf) ?_ | refine CallG.mk _ (hT) ?_ | refine CallG.mk _ (lam2_a Lm.nil Lm.nil e (Or.inl ⟨he, rfl⟩)) ?_ | ((with_reducible first | refine Wo (fun K hK => ?_) | refine Wp ?_ | refine Wq ?_ | refine Wr ?_); (try simp only [go_sem, List.forall_mem_nil, ↓guard_ite, ↓pick_ite, seval, encT_eq, inR_i64, q0, q1, h1, h2, h, hcap, hterm, hfix, he, decide_eq_true_eq, decide_eq_false_iff_not, Int.ofNat_lt]); (repeat with_reducible refine And.intro (by first | omega | with_reducible exact lens_encT | with_reducible exact lens_encL | (simp; done) | (simp only [List.length_take, List.length_map, List.length_append, maxLen_eq]; omega)) ?_); (try (with_reducible refine hK _ ?_; clear hK K)); (try with_reducible refine ite_conj ?_)))
    simp only [go_sem, List.forall_mem_nil, ↓guard_ite, ↓pick_ite, seval, FinQ, AS.result, resAll, resOne, tupV]
end Go.Proofs.YtbiadmlfejnbcaaGreatDoor

namespace Go.Proofs.YtbiadmlfejnbcaaGreatDoor
open Go Go.RowKit
set_option maxRecDepth 100000

def ir_R_Pick : IR :=
  (.seq
  (.ops
  [.mk (some 4) none (.mov (.c (.one (.st (.int .i64 0)))))
  .no])
  (.seq
  (.seq
  (.ops
  [.mk (some 5) none (.mov (.t 0)) .no, .mk (some 6) none (.bin .lss (.t 5) (.c (.one (.st (.int .i64 0)))))
  .no])
  (.cond (.t 6)
  (.ops
  [.mk (some 7) none (.mov (.t 0)) .no, .mk (some 8) none (.bin .add (.t 7) (.c (.one (.st (.int .i64 1)))))
  .no, .mk (some 9) none (.un .neg (.t 8)) .no, .mk (some 0) none (.mov (.t 9)) .no])
  .skip))
  (.seq
  (.ops
  [.mk (some 10) none (.mov (.t 0)) .no, .mk (some 11) none (.mov (.t 1)) .no, .mk (some 12) none (.bin .rem (.t 10) (.t 11)) .no, .mk (some 4) none (.mov (.t 12)) .no])
  .ret)))
theorem tr_R_Pick : trCode Tryz.prog 13 [] (Tryz.f5.body.getD .skip) = some ir_R_Pick := by kernel_rfl
theorem ac_R_Pick {xs : List AV} {r : AV} (hn : xs.length ≤ 13) (h : ∀ C : Ctx, C.n = 13 → IWP Tryz.prog C [] ir_R_Pick (FinQ [.t 4] r) (AS.start xs)) : ACalls Tryz.prog 5 xs r :=
  acalls_of Tryz.func5 rfl tr_R_Pick rfl hn h
theorem acS_R_Pick {xs : List AV} {S S' : AStore} {r : AV} (hn : xs.length ≤ 13) (h : Clean S → ∀ C : Ctx, C.n = 13 → IWP Tryz.prog C [] ir_R_Pick (FinS C [.t 4] r S') (AS.startS xs S)) : ACallsS Tryz.prog 5 xs S r S' :=
  acallsS_of Tryz.func5 rfl tr_R_Pick rfl hn h

def ir_R_Raw : IR :=
  (.seq
  (.ops
  [.mk (some 4) none (.mov (.c (.one (.st (.int .i64 0)))))
  .no])
  (.seq
  (.seq
  (.ops
  [.mk (some 5) none (.mov (.t 0)) .no, .mk (some 6) none (.len false (.t 5)) .no, .mk (some 7) none (.bin .eql (.t 6) (.c (.one (.st (.int .i64 0)))))
  .no])
  (.cond (.t 7)
  (.seq
  (.ops
  [.mk (some 8) none (.mov (.t 1)) .no, .mk (some 9) none (.bin .mul (.t 8) (.c (.one (.st (.int .i64 31)))))
  .no, .mk (some 4) none (.mov (.t 9)) .no])
  .ret)
  .skip))
  (.seq
  (.ops
  [.mk (some 10) none (.mov (.t 0)) .no, .mk (some 11) none (.mov (.t 1)) .no, .mk (some 12) none (.mov (.t 0)) .no, .mk (some 13) none (.len false (.t 12)) .no, .mk (some 14) none (.bin .rem (.t 11) (.t 13)) .no, .mk (some 15) none (.indexAddr 1 (.t 10) (.t 14))
  .no, .mk (some 16) none (.load false 1 (.t 15))
  .no, .mk (some 17) none (.call 5
  [.t 16, .c (.one (.st (.int .i64 1000003)))])
  .no, .mk (some 18) none (.mov (.t 1)) .no, .mk (some 19) none (.mov (.t 0)) .no, .mk (some 20) none (.len false (.t 19)) .no, .mk (some 21) none (.bin .quo (.t 18) (.t 20)) .no, .mk (some 22) none (.bin .mul (.t 21) (.c (.one (.st (.int .i64 7919)))))
  .no, .mk (some 23) none (.bin .add (.t 17) (.t 22)) .no, .mk (some 4) none (.mov (.t 23)) .no])
  .ret)))
theorem tr_R_Raw : trCode Tryz.prog 24 [] (Tryz.f32.body.getD .skip) = some ir_R_Raw := by kernel_rfl
theorem ac_R_Raw {xs : List AV} {r : AV} (hn : xs.length ≤ 24) (h : ∀ C : Ctx, C.n = 24 → IWP Tryz.prog C [] ir_R_Raw (FinQ [.t 4] r) (AS.start xs)) : ACalls Tryz.prog 32 xs r :=
  acalls_of Tryz.func32 rfl tr_R_Raw rfl hn h
theorem acS_R_Raw {xs : List AV} {S S' : AStore} {r : AV} (hn : xs.length ≤ 24) (h : Clean S → ∀ C : Ctx, C.n = 24 → IWP Tryz.prog C [] ir_R_Raw (FinS C [.t 4] r S') (AS.startS xs S)) : ACallsS Tryz.prog 32 xs S r S' :=
  acallsS_of Tryz.func32 rfl tr_R_Raw rfl hn h

def ir_R_LamFrom : IR :=
  (.seq
  (.ops
  [.mk (some 10) none
  (.alloc 25
  [.st (.int .i64 0), .st (.int .i64 0),
  .full []])
  .no, .mk (some 11) none (.mov (.c (.one (.st (.int .i64 0)))))
  .no])
  (.seq
  (.ops
  [.mk (some 18) none (.mov (.t 0)) .no, .mk (some 19) none (.mov (.t 1)) .no, .mk (some 20) none (.call 32 [.t 18, .t 19])
  .no, .mk (some 12) none (.mov (.t 20)) .no])
  (.seq
  (.ops
  [.mk (some 21) none (.mov (.t 1)) .no, .mk (some 22) none (.bin .add (.t 21) (.c (.one (.st (.int .i64 1)))))
  .no, .mk (some 1) none (.mov (.t 22)) .no])
  (.seq
  (.seq
  (.ops
  [.mk (some 23) none (.mov (.t 2)) .no, .mk (some 24) none (.bin .lss (.t 23) (.c (.one (.st (.int .i64 3)))))
  .no, .mk (some 25) none (.mov (.t 24)) .no, .mk (some 26) (some (25, false)) (.mov (.t 12))
  .no, .mk (some 27) (some (25, false)) (.call 5
  [.t 26, .c (.one (.st (.int .i64 6)))])
  .no, .mk (some 28) (some (25, false)) (.bin .eql (.t 27) (.c (.one (.st (.int .i64 0)))))
  .no, .mk (some 29) none
  (.pick (.t 25) (.c (.one (.st (.bool true)))) (.t 28))
  .no])
  (.cond (.t 29)
  (.seq
  (.seq
  (.ops
  [.mk (some 30) none (.mov (.t 3)) .no, .mk (some 31) none (.bin .eql (.t 30) (.c (.one (.st (.int .i64 0)))))
  .no, .mk (some 32) none (.mov (.t 31)) .no, .mk (some 33) (some (32, true)) (.mov (.t 4))
  .no, .mk (some 34) (some (32, true)) (.bin .eql (.t 33) (.c (.one (.st (.int .i64 0)))))
  .no, .mk (some 35) none
  (.pick (.t 32) (.t 34) (.c (.one (.st (.bool false)))))
  .no])
  (.cond (.t 35)
  (.seq
  (.ops
  [.mk (some 36) none (.call 34
  [.c (.one (.st (.int .i64 0)))])
  .no, .mk (some 37) none (.call 33 [.t 36])
  .no, .mk (some 38) none (.mov (.t 1))
  .no, .mk none none (.store 3 (.t 10) (.t 37)) .no, .mk (some 11) none (.mov (.t 38))
  .no])
  .ret)
  .skip))
  (.seq
  (.seq
  (.ops
  [.mk (some 39) none (.mov (.t 3)) .no, .mk (some 40) none (.bin .eql (.t 39) (.c (.one (.st (.int .i64 0)))))
  .no, .mk (some 41) none (.mov (.t 40))
  .no, .mk (some 42) (some (41, false)) (.mov (.t 4))
  .no, .mk (some 43) (some (41, false)) (.bin .gtr (.t 42) (.c (.one (.st (.int .i64 0)))))
  .no, .mk (some 44) (some (41, false)) (.mov (.t 43))
  .no, .mk (some 45) (some (44, true)) (.mov (.t 12))
  .no, .mk (some 46) (some (44, true)) (.bin .quo (.t 45) (.c (.one (.st (.int .i64 6)))))
  .no, .mk (some 47) (some (44, true)) (.call 5
  [.t 46, .c (.one (.st (.int .i64 4)))])
  .no, .mk (some 48) (some (44, true)) (.bin .eql (.t 47) (.c (.one (.st (.int .i64 0)))))
  .no, .mk (some 49) (some (41, false))
  (.pick (.t 44) (.t 48) (.c (.one (.st (.bool false)))))
  .no, .mk (some 50) none
  (.pick (.t 41) (.c (.one (.st (.bool true)))) (.t 49))
  .no])
  (.cond (.t 50)
  (.seq
  (.ops
  [.mk (some 51) none (.mov (.t 12))
  .no, .mk (some 52) none (.bin .quo (.t 51) (.c (.one (.st (.int .i64 24)))))
  .no, .mk (some 53) none (.mov (.t 4))
  .no, .mk (some 54) none (.call 5 [.t 52, .t 53]) .no, .mk (some 55) none (.call 35 [.t 54])
  .no, .mk (some 56) none (.mov (.t 1))
  .no, .mk none none (.store 3 (.t 10) (.t 55)) .no, .mk (some 11) none (.mov (.t 56))
  .no])
  .ret)
  .skip))
  (.seq
  (.ops
  [.mk (some 57) none (.mov (.t 12)) .no, .mk (some 58) none (.bin .quo (.t 57) (.c (.one (.st (.int .i64 6)))))
  .no, .mk (some 59) none (.mov (.t 3)) .no, .mk (some 60) none (.call 5 [.t 58, .t 59]) .no, .mk (some 61) none (.call 34 [.t 60])
  .no, .mk (some 62) none (.mov (.t 1)) .no, .mk none none (.store 3 (.t 10) (.t 61)) .no, .mk (some 11) none (.mov (.t 62))
  .no])
  .ret)))
  .skip))
  (.seq
  (.seq
  (.ops
  [.mk (some 63) none (.mov (.t 12)) .no, .mk (some 64) none (.call 5
  [.t 63, .c (.one (.st (.int .i64 6)))])
  .no, .mk (some 65) none (.bin .lss (.t 64) (.c (.one (.st (.int .i64 3)))))
  .no])
  (.cond (.t 65)
  (.seq
  (.ops
  [.mk (some 67) none (.mov (.t 0)) .no, .mk (some 68) none (.mov (.t 1)) .no, .mk (some 69) none (.mov (.t 2)) .no, .mk (some 70) none (.bin .sub (.t 69) (.c (.one (.st (.int .i64 1)))))
  .no, .mk (some 71) none (.mov (.t 3)) .no, .mk (some 72) none (.bin .add (.t 71) (.c (.one (.st (.int .i64 1)))))
  .no, .mk (some 73) none (.mov (.t 4)) .no, .mk (some 74) none (.call 13
  [.t 67, .t 68, .t 70, .t 72, .t 73])
  .no, .mk (some 66) none (.mov (.t 74)) .no, .mk (some 75) none (.extract 0 (.t 66))
  .no, .mk (some 76) none (.extract 1 (.t 66))
  .no, .mk (some 13) none
  (.alloc 25
  [.st (.int .i64 0), .st (.int .i64 0), .full []])
  .no, .mk none none (.store 3 (.t 13) (.t 75)) .no, .mk (some 14) none (.mov (.t 76)) .no])
  (.seq
  (.ops
  [.mk (some 77) none (.load true 3 (.t 13))
  .no, .mk (some 78) none (.call 33 [.t 77])
  .no, .mk (some 79) none (.mov (.t 14))
  .no, .mk none none (.store 3 (.t 10) (.t 78)) .no, .mk (some 11) none (.mov (.t 79))
  .no])
  .ret))
  .skip))
  (.seq
  (.ops
  [.mk (some 81) none (.mov (.t 0)) .no, .mk (some 82) none (.mov (.t 1)) .no, .mk (some 83) none (.mov (.t 2)) .no, .mk (some 84) none (.bin .quo (.t 83) (.c (.one (.st (.int .i64 2)))))
  .no, .mk (some 85) none (.mov (.t 3)) .no, .mk (some 86) none (.mov (.t 4)) .no, .mk (some 87) none (.call 13
  [.t 81, .t 82, .t 84, .t 85, .t 86])
  .no, .mk (some 80) none (.mov (.t 87)) .no, .mk (some 88) none (.extract 0 (.t 80))
  .no, .mk (some 89) none (.extract 1 (.t 80))
  .no, .mk (some 15) none
  (.alloc 25
  [.st (.int .i64 0), .st (.int .i64 0), .full []])
  .no, .mk none none (.store 3 (.t 15) (.t 88))
  .no, .mk (some 16) none (.mov (.t 89)) .no])
  (.seq
  (.ops
  [.mk (some 91) none (.mov (.t 0)) .no, .mk (some 92) none (.mov (.t 16)) .no, .mk (some 93) none (.mov (.t 2)) .no, .mk (some 94) none (.bin .quo (.t 93) (.c (.one (.st (.int .i64 2)))))
  .no, .mk (some 95) none (.mov (.t 3)) .no, .mk (some 96) none (.mov (.t 4)) .no, .mk (some 97) none (.call 13
  [.t 91, .t 92, .t 94, .t 95, .t 96])
  .no, .mk (some 90) none (.mov (.t 97)) .no, .mk (some 98) none (.extract 0 (.t 90))
  .no, .mk (some 99) none (.extract 1 (.t 90))
  .no, .mk (some 17) none
  (.alloc 25
  [.st (.int .i64 0), .st (.int .i64 0), .full []])
  .no, .mk none none (.store 3 (.t 17) (.t 98))
  .no, .mk (some 16) none (.mov (.t 99)) .no])
  (.seq
  (.ops
  [.mk (some 100) none (.load true 3 (.t 15))
  .no, .mk (some 101) none (.load true 3 (.t 17))
  .no, .mk (some 102) none (.call 36 [.t 100, .t 101]) .no, .mk (some 103) none (.mov (.t 16)) .no, .mk none none (.store 3 (.t 10) (.t 102)) .no, .mk (some 11) none (.mov (.t 103))
  .no])
  .ret))))))))
theorem tr_R_LamFrom : trCode Tryz.prog 104 [] (Tryz.f13.body.getD .skip) = some ir_R_LamFrom := by kernel_rfl
theorem ac_R_LamFrom {xs : List AV} {r : AV} (hn : xs.length ≤ 104) (h : ∀ C : Ctx, C.n = 104 → IWP Tryz.prog C [] ir_R_LamFrom (FinQ [.cell 10 true 3, .t 11] r) (AS.start xs)) : ACalls Tryz.prog 13 xs r :=
  acalls_of Tryz.func13 rfl tr_R_LamFrom rfl hn h
theorem acS_R_LamFrom {xs : List AV} {S S' : AStore} {r : AV} (hn : xs.length ≤ 104) (h : Clean S → ∀ C : Ctx, C.n = 104 → IWP Tryz.prog C [] ir_R_LamFrom (FinS C [.cell 10 true 3, .t 11] r S') (AS.startS xs S)) : ACallsS Tryz.prog 13 xs S r S' :=
  acallsS_of Tryz.func13 rfl tr_R_LamFrom rfl hn h

def ir_R_LamOfRaw : IR :=
  (.seq
  (.ops
  [.mk (some 10) none
  (.alloc 25
  [.st (.int .i64 0), .st (.int .i64 0),
  .full []])
  .no])
  (.seq
  (.ops
  [.mk (some 14) none (.mov (.t 0)) .no, .mk (some 15) none (.mov (.t 1)) .no, .mk (some 16) none (.mov (.t 2)) .no, .mk (some 17) none (.mov (.t 3)) .no, .mk (some 18) none (.mov (.t 4)) .no, .mk (some 19) none (.call 13
  [.t 14, .t 15, .t 16, .t 17, .t 18])
  .no, .mk (some 13) none (.mov (.t 19)) .no, .mk (some 20) none (.extract 0 (.t 13)) .no, .mk (some 21) none (.extract 1 (.t 13)) .no, .mk (some 11) none
  (.alloc 25
  [.st (.int .i64 0), .st (.int .i64 0),
  .full []])
  .no, .mk none none (.store 3 (.t 11) (.t 20))
  .no, .mk (some 12) none (.mov (.t 21)) .no])
  (.seq
  (.ops
  [.mk (some 22) none (.load true 3 (.t 11))
  .no, .mk none none (.store 3 (.t 10) (.t 22))
  .no])
  .ret)))
theorem tr_R_LamOfRaw : trCode Tryz.prog 23 [] (Tryz.f4.body.getD .skip) = some ir_R_LamOfRaw := by kernel_rfl
theorem ac_R_LamOfRaw {xs : List AV} {r : AV} (hn : xs.length ≤ 23) (h : ∀ C : Ctx, C.n = 23 → IWP Tryz.prog C [] ir_R_LamOfRaw (FinQ [.cell 10 true 3] r) (AS.start xs)) : ACalls Tryz.prog 4 xs r :=
  acalls_of Tryz.func4 rfl tr_R_LamOfRaw rfl hn h
theorem acS_R_LamOfRaw {xs : List AV} {S S' : AStore} {r : AV} (hn : xs.length ≤ 23) (h : Clean S → ∀ C : Ctx, C.n = 23 → IWP Tryz.prog C [] ir_R_LamOfRaw (FinS C [.cell 10 true 3] r S') (AS.startS xs S)) : ACallsS Tryz.prog 4 xs S r S' :=
  acallsS_of Tryz.func4 rfl tr_R_LamOfRaw rfl hn h

end Go.Proofs.YtbiadmlfejnbcaaGreatDoor

namespace Go.Proofs.YtbiadmlfejnbcaaGreatDoor
open Go Go.RowKit
set_option linter.unusedVariables false
set_option linter.unusedSimpArgs false
set_option maxHeartbeats 1000000

def pickI (c n : Int) : Int := (if c < 0 then -(c + 1) else c) % n
theorem pickI_range (c n : Int) (hn : 1 ≤ n) : 0 ≤ pickI c n ∧ pickI c n < n := ⟨Int.emod_nonneg _ (by omega), Int.emod_lt_of_pos _ (by omega)⟩
theorem tmod_range {x n : Int} (hx : 0 ≤ x) (hn : 1 ≤ n) : x.tmod n = x % n ∧ 0 ≤ x % n ∧ x % n < n ∧ x % n ≤ x := by
  rw [Int.tmod_eq_emod_of_nonneg hx]
  refine ⟨rfl, Int.emod_nonneg _ (by omega), Int.emod_lt_of_pos _ (by omega), ?_⟩
  by_cases h : x < n
  · rw [Int.emod_eq_of_lt hx h]; exact Int.le_refl _
  · have := Int.emod_lt_of_pos x (show 0 < n by omega); omega
theorem tdiv_range {x n : Int} (hx : 0 ≤ x) (hn : 1 ≤ n) : x.tdiv n = x / n ∧ 0 ≤ x / n ∧ x / n ≤ x := by
  rw [Int.tdiv_eq_ediv_of_nonneg hx]
  exact ⟨rfl, Int.ediv_nonneg hx (by omega), Int.ediv_le_self _ hx⟩
theorem pick_a (c n : Int) (hc : inR .i64 c) (hn : 1 ≤ n) : ACalls Tryz.prog 5 [aInt c, aInt n] (aInt (pickI c n)) := by
  rw [inR_i64] at hc
  refine ac_R_Pick (Nat.le_of_ble_eq_true rfl) fun C hC => ?_
  unfold ir_R_Pick
  repeat' (first | (with_reducible first | refine Wa ?_ | refine Wb ?_ | refine Wc ?_ | refine Wd ?_ | refine We ?_ | refine Wf ?_ | refine Wg ?_ | refine Wh ?_ | refine Wi ?_ | refine Wj ?_ | refine Wk (by decide) ?_ | refine Wl ?_ | refine Wm ?_ | refine Wn ?_) | ((with_reducible first | refine Wo (fun K hK => ?_) | refine Wq ?_ | refine Wr ?_); (try simp only [go_sem, List.forall_mem_nil, ↓guard_ite, ↓pick_ite, seval, encT_eq, inR_i64]); (repeat with_reducible refine And.intro (by first | omega | with_reducible exact lens_encT | with_reducible exact lens_encL | (simp; done) | (simp only [List.length_take, List.length_map, List.length_append, maxLen_eq]; omega)) ?_); (try (with_reducible refine hK _ ?_; clear hK K))))
  with_reducible refine Wp ?_
  simp only [go_sem, List.forall_mem_nil, ↓guard_ite, ↓pick_ite, seval, true_implies, false_implies, implies_true, decide_eq_true_eq, decide_eq_false_iff_not, Int.ofNat_lt]
  (try with_reducible refine ite_conj ?_)
  refine ⟨fun h0 => ?_, fun h0 => ?_⟩
  · have h1 := tmod_range (x := 0 - (c + 1)) (n := n) (by omega) hn
    repeat' (first | (with_reducible first | refine Wa ?_ | refine Wb ?_ | refine Wc ?_ | refine Wd ?_ | refine We ?_ | refine Wf ?_ | refine Wg ?_ | refine Wh ?_ | refine Wi ?_ | refine Wj ?_ | refine Wk (by decide) ?_ | refine Wl ?_ | refine Wm ?_ | refine Wn ?_) | ((with_reducible first | refine Wo (fun K hK => ?_) | refine Wq ?_ | refine Wr ?_); (try simp only [go_sem, List.forall_mem_nil, ↓guard_ite, ↓pick_ite, seval, encT_eq, inR_i64, h1.1]); (repeat with_reducible refine And.intro (by first | omega | with_reducible exact lens_encT | with_reducible exact lens_encL | (simp; done) | (simp only [List.length_take, List.length_map, List.length_append, maxLen_eq]; omega)) ?_); (try (with_reducible refine hK _ ?_; clear hK K))))
    simp only [go_sem, List.forall_mem_nil, ↓guard_ite, ↓pick_ite, seval, FinQ, AS.result, resAll, resOne, tupV]
    unfold pickI
    rw [if_pos h0]
    congr 5
    omega
  · have h1 := tmod_range (x := c) (n := n) (by omega) hn
    repeat' (first | (with_reducible first | refine Wa ?_ | refine Wb ?_ | refine Wc ?_ | refine Wd ?_ | refine We ?_ | refine Wf ?_ | refine Wg ?_ | refine Wh ?_ | refine Wi ?_ | refine Wj ?_ | refine Wk (by decide) ?_ | refine Wl ?_ | refine Wm ?_ | refine Wn ?_) | ((with_reducible first | refine Wo (fun K hK => ?_) | refine Wq ?_ | refine Wr ?_); (try simp only [go_sem, List.forall_mem_nil, ↓guard_ite, ↓pick_ite, seval, encT_eq, inR_i64, h1.1]); (repeat with_reducible refine And.intro (by first | omega | with_reducible exact lens_encT | with_reducible exact lens_encL | (simp; done) | (simp only [List.length_take, List.length_map, List.length_append, maxLen_eq]; omega)) ?_); (try (with_reducible refine hK _ ?_; clear hK K))))
    simp only [go_sem, List.forall_mem_nil, ↓guard_ite, ↓pick_ite, seval, FinQ, AS.result, resAll, resOne, tupV]
    unfold pickI
    rw [if_neg h0]

def rawI (l : List Int) (i : Nat) : Int := if l.length = 0 then i * 31 else pickI (l.getD (i % l.length) 0) 1000003 + ((i / l.length : Nat) : Int) * 7919
theorem rawI_range (l : List Int) (i : Nat) : 0 ≤ rawI l i ∧ rawI l i ≤ 1000003 + i * 7919 := by
  unfold rawI
  split
  · omega
  · have := pickI_range (l.getD (i % l.length) 0) 1000003 (by omega)
    have h2 : i / l.length ≤ i := Nat.div_le_self _ _
    generalize i / l.length = q at *
    omega
theorem raw_a (l : List Int) (i : Nat) (hi : i ≤ 1000000) (hl : ∀ n ∈ l, inR .i64 n) (hm : l.length ≤ maxLen) : ACalls Tryz.prog 32 [aInts l, aInt i] (aInt (rawI l i)) := by
  rw [maxLen_eq] at hm
  refine ac_R_Raw (Nat.le_of_ble_eq_true rfl) fun C hC => ?_
  unfold ir_R_Raw
  repeat' (first | (with_reducible first | refine Wa ?_ | refine Wb ?_ | refine Wc ?_ | refine Wd ?_ | refine We ?_ | refine Wf ?_ | refine Wg ?_ | refine Wh ?_ | refine Wi ?_ | refine Wj ?_ | refine Wk (by decide) ?_ | refine Wl ?_ | refine Wm ?_ | refine Wn ?_) | ((with_reducible first | refine Wo (fun K hK => ?_) | refine Wq ?_ | refine Wr ?_); (try simp only [go_sem, List.forall_mem_nil, ↓guard_ite, ↓pick_ite, seval, encT_eq, inR_i64]); (repeat with_reducible refine And.intro (by first | omega | with_reducible exact lens_encT | with_reducible exact lens_encL | (simp; done) | (simp only [List.length_take, List.length_map, List.length_append, maxLen_eq]; omega)) ?_); (try (with_reducible refine hK _ ?_; clear hK K))))
  with_reducible refine Wp ?_
  simp only [go_sem, List.forall_mem_nil, ↓guard_ite, ↓pick_ite, seval, true_implies, false_implies, implies_true, decide_eq_true_eq, decide_eq_false_iff_not, Int.ofNat_lt]
  (try with_reducible refine ite_conj ?_)
  refine ⟨fun h0 => ?_, fun h0 => ?_⟩
  · repeat' (first | (with_reducible first | refine Wa ?_ | refine Wb ?_ | refine Wc ?_ | refine Wd ?_ | refine We ?_ | refine Wf ?_ | refine Wg ?_ | refine Wh ?_ | refine Wi ?_ | refine Wj ?_ | refine Wk (by decide) ?_ | refine Wl ?_ | refine Wm ?_ | refine Wn ?_) | ((with_reducible first | refine Wo (fun K hK => ?_) | refine Wq ?_ | refine Wr ?_); (try simp only [go_sem, List.forall_mem_nil, ↓guard_ite, ↓pick_ite, seval, encT_eq, inR_i64]); (repeat with_reducible refine And.intro (by first | omega | with_reducible exact lens_encT | with_reducible exact lens_encL | (simp; done) | (simp only [List.length_take, List.length_map, List.length_append, maxLen_eq]; omega)) ?_); (try (with_reducible refine hK _ ?_; clear hK K))))
    simp only [go_sem, List.forall_mem_nil, ↓guard_ite, ↓pick_ite, seval, FinQ, AS.result, resAll, resOne, tupV]
    unfold rawI
    rw [if_pos (by omega)]
  · have h1 := tmod_range (x := (i : Int)) (n := (l.length : Int)) (by omega) (by omega)
    have h2 := tdiv_range (x := (i : Int)) (n := (l.length : Int)) (by omega) (by omega)
    have hlt : i % l.length < l.length := Nat.mod_lt _ (by omega)
    obtain ⟨a, ha⟩ := get_lt hlt
    have e1 : ((i : Int) % (l.length : Int)) = ((i % l.length : Nat) : Int) := by omega
    have e2 : ((i : Int) / (l.length : Int)) = ((i / l.length : Nat) : Int) := by omega
    have h3 : i / l.length ≤ i := Nat.div_le_self _ _
    repeat' (first | (with_reducible first | refine Wa ?_ | refine Wb ?_ | refine Wc ?_ | refine Wd ?_ | refine We ?_ | refine Wf ?_ | refine Wg ?_ | refine Wh ?_ | refine Wi ?_ | refine Wj ?_ | refine Wk (by decide) ?_ | refine Wl ?_ | refine Wm ?_ | refine Wn ?_) | ((with_reducible first | refine Wo (fun K hK => ?_) | refine Wq ?_ | refine Wr ?_); (try simp only [go_sem, List.forall_mem_nil, ↓guard_ite, ↓pick_ite, seval, encT_eq, inR_i64, h1.1, h2.1, e1, e2, ha]); (repeat with_reducible refine And.intro (by first | omega | with_reducible exact lens_encT | with_reducible exact lens_encL | (simp; done) | (simp only [List.length_take, List.length_map, List.length_append, maxLen_eq]; omega)) ?_); (try (with_reducible refine hK _ ?_; clear hK K))))
    refine ⟨_, pick_a a 1000003 (hl a (mem_of_get ha)) (by omega), ?_⟩
    have hp := pickI_range a 1000003 (by omega)
    repeat' (first | (with_reducible first | refine Wa ?_ | refine Wb ?_ | refine Wc ?_ | refine Wd ?_ | refine We ?_ | refine Wf ?_ | refine Wg ?_ | refine Wh ?_ | refine Wi ?_ | refine Wj ?_ | refine Wk (by decide) ?_ | refine Wl ?_ | refine Wm ?_ | refine Wn ?_) | ((with_reducible first | refine Wo (fun K hK => ?_) | refine Wq ?_ | refine Wr ?_); (try simp only [go_sem, List.forall_mem_nil, ↓guard_ite, ↓pick_ite, seval, encT_eq, inR_i64, h1.1, h2.1, e1, e2]); (repeat with_reducible refine And.intro (by first | omega | with_reducible exact lens_encT | with_reducible exact lens_encL | (simp; done) | (simp only [List.length_take, List.length_map, List.length_append, maxLen_eq]; omega)) ?_); (try (with_reducible refine hK _ ?_; clear hK K))))
    simp only [go_sem, List.forall_mem_nil, ↓guard_ite, ↓pick_ite, seval, FinQ, AS.result, resAll, resOne, tupV]
    unfold rawI
    rw [if_neg (by omega), List.getD_eq_getElem?_getD, ha]
    rfl


/-- A lambda term made of raw numbers from a place on: the term, and the place behind. -/
def LamAt (l : List Int) (at_ : Nat) (most under consts : Int) (t : Lm) (n : Nat) : Prop :=
  ACalls Tryz.prog 13 [aInts l, aInt at_, aInt most, aInt under, aInt consts] (.tup [aLm t, aInt n])
theorem chk_leaf {k i m u : Int} (h : (k = 1 ∧ 0 ≤ i ∧ i < u) ∨ (k = 4 ∧ 0 ≤ i ∧ i < 40)) : (Lm.mk k i []).chk m u = 0 := by
  rw [Lm.chk_eq]
  rcases h with ⟨rfl, h1, h2⟩ | ⟨rfl, h1, h2⟩ <;> simp [Lm.kind_mk, Lm.idx_mk, Lm.subs_mk, nSubs, mostIdx, h1, h2, Lm.chks]
theorem chk_fun {t : Lm} {m u : Int} (h : t.chk m (u + 1) = 0) : (Lm.l t).chk m u = 0 := by
  rw [Lm.chk_eq]
  simp [Lm.l, Lm.kind_mk, Lm.idx_mk, Lm.subs_mk, nSubs, mostIdx, under, Lm.chks, h]
theorem chk_app {f x : Lm} {m u : Int} (h1 : f.chk m u = 0) (h2 : x.chk m u = 0) : (Lm.a f x).chk m u = 0 := by
  rw [Lm.chk_eq]
  simp [Lm.a, Lm.kind_mk, Lm.idx_mk, Lm.subs_mk, nSubs, mostIdx, under, Lm.chks, h1, h2]
theorem lamFrom_a (l : List Int) (hl : ∀ n ∈ l, inR .i64 n) (hm : l.length ≤ maxLen) (consts : Int) (hc : 0 ≤ consts ∧ consts ≤ 40) : ∀ (most : Nat) (at_ under : Nat), 1 ≤ most → most ≤ 1000 → at_ + 3 * most ≤ 900000 → under + most ≤ 2000 →
    ∃ (t : Lm) (n : Nat), LamAt l at_ most under consts t n ∧ t.size + 1 ≤ 3 * most ∧ n ≤ at_ + t.size ∧ t.chk 0 under = 0 := by
  intro most
  induction most using Nat.strongRecOn with
  | _ most ih =>
  intro at_ under h1 h1000 hat hund
  have hraw := raw_a l at_ (by omega) hl hm
  have hr := rawI_range l at_
  generalize rawI l at_ = c at hraw hr
  have d6 := tdiv_range (x := c) (n := 6) (by omega) (by omega)
  have d24 := tdiv_range (x := c) (n := 24) (by omega) (by omega)
  have p6 := pick_a c 6 (by rw [inR_i64]; omega) (by omega)
  have q6 := pickI_range c 6 (by omega)
  have p64 := pick_a (c / 6) 4 (by rw [inR_i64]; omega) (by omega)
  have q64 := pickI_range (c / 6) 4 (by omega)
  have p24 : 1 ≤ consts → _ := fun h => pick_a (c / 24) consts (by rw [inR_i64]; omega) h
  have q24 : 1 ≤ consts → _ := fun h => pickI_range (c / 24) consts h
  have p6u : 1 ≤ (under : Int) → _ := fun h => pick_a (c / 6) under (by rw [inR_i64]; omega) h
  have q6u : 1 ≤ (under : Int) → _ := fun h => pickI_range (c / 6) under h
  generalize pickI c 6 = x6 at *
  generalize pickI (c / 6) 4 = x64 at *
  generalize pickI (c / 24) consts = x24 at *
  generalize pickI (c / 6) under = x6u at *
  by_cases hleaf : (most : Int) < 3 ∨ x6 = 0
  · by_cases hu0 : (under : Int) = 0
    · by_cases hc0 : consts = 0
      · refine ⟨.l (.v 0), at_ + 1, ?_, by simp only [Lm.l, Lm.v, Lm.size, Lm.sizes]; omega, by simp only [Lm.l, Lm.v, Lm.size, Lm.sizes]; omega, chk_fun (chk_leaf (Or.inl ⟨rfl, by omega, by omega⟩))⟩
        by_cases hm3 : (most : Int) < 3
        · unfold LamAt
          refine ac_R_LamFrom (Nat.le_of_ble_eq_true rfl) fun C hC => ?_
          unfold ir_R_LamFrom
          repeat' (first | (with_reducible first | refine Wa ?_ | refine Wb ?_ | refine Wc ?_ | refine Wd ?_ | refine We ?_ | refine Wf ?_ | refine Wg ?_ | refine Wh ?_ | refine Wi ?_ | refine Wj ?_ | refine Wk (by decide) ?_ | refine Wl ?_ | refine Wm ?_ | refine Wn ?_) | refine CallG.mk _ (hraw) ?_ | refine CallG.mk _ (lVar_a 0) ?_ | refine CallG.mk _ (lFun_a (.v 0)) ?_ | ((with_reducible first | refine Wo (fun K hK => ?_) | refine Wp ?_ | refine Wq ?_ | refine Wr ?_); (try simp only [go_sem, List.forall_mem_nil, ↓guard_ite, ↓pick_ite, seval, encT_eq, inR_i64, hm3, hu0, hc0, decide_eq_true_eq, decide_eq_false_iff_not, Int.ofNat_lt]); (repeat with_reducible refine And.intro (by first | omega | with_reducible exact lens_encT | with_reducible exact lens_encL | (simp; done) | (simp only [List.length_take, List.length_map, List.length_append, maxLen_eq]; omega)) ?_); (try (with_reducible refine hK _ ?_; clear hK K)); (try with_reducible refine ite_conj ?_)))
          simp only [go_sem, List.forall_mem_nil, ↓guard_ite, ↓pick_ite, seval, FinQ, AS.result, resAll, resOne, tupV]
          all_goals first | done | rfl | skip
        · have hx6 : x6 = 0 := by omega
          unfold LamAt
          refine ac_R_LamFrom (Nat.le_of_ble_eq_true rfl) fun C hC => ?_
          unfold ir_R_LamFrom
          repeat' (first | (with_reducible first | refine Wa ?_ | refine Wb ?_ | refine Wc ?_ | refine Wd ?_ | refine We ?_ | refine Wf ?_ | refine Wg ?_ | refine Wh ?_ | refine Wi ?_ | refine Wj ?_ | refine Wk (by decide) ?_ | refine Wl ?_ | refine Wm ?_ | refine Wn ?_) | refine CallG.mk _ (hraw) ?_ | refine CallG.mk _ (p6) ?_ | refine CallG.mk _ (lVar_a 0) ?_ | refine CallG.mk _ (lFun_a (.v 0)) ?_ | ((with_reducible first | refine Wo (fun K hK => ?_) | refine Wp ?_ | refine Wq ?_ | refine Wr ?_); (try simp only [go_sem, List.forall_mem_nil, ↓guard_ite, ↓pick_ite, seval, encT_eq, inR_i64, hm3, hx6, hu0, hc0, decide_eq_true_eq, decide_eq_false_iff_not, Int.ofNat_lt]); (repeat with_reducible refine And.intro (by first | omega | with_reducible exact lens_encT | with_reducible exact lens_encL | (simp; done) | (simp only [List.length_take, List.length_map, List.length_append, maxLen_eq]; omega)) ?_); (try (with_reducible refine hK _ ?_; clear hK K)); (try with_reducible refine ite_conj ?_)))
          simp only [go_sem, List.forall_mem_nil, ↓guard_ite, ↓pick_ite, seval, FinQ, AS.result, resAll, resOne, tupV]
          all_goals first | done | rfl | skip
      · have hc1 : 1 ≤ consts := by omega
        have q := q24 hc1
        refine ⟨.mk 4 x24 [], at_ + 1, ?_, by simp only [Lm.size, Lm.sizes]; omega, by simp only [Lm.size, Lm.sizes]; omega, chk_leaf (Or.inr ⟨rfl, by omega, by omega⟩)⟩
        by_cases hm3 : (most : Int) < 3
        · unfold LamAt
          refine ac_R_LamFrom (Nat.le_of_ble_eq_true rfl) fun C hC => ?_
          unfold ir_R_LamFrom
          repeat' (first | (with_reducible first | refine Wa ?_ | refine Wb ?_ | refine Wc ?_ | refine Wd ?_ | refine We ?_ | refine Wf ?_ | refine Wg ?_ | refine Wh ?_ | refine Wi ?_ | refine Wj ?_ | refine Wk (by decide) ?_ | refine Wl ?_ | refine Wm ?_ | refine Wn ?_) | refine CallG.mk _ (hraw) ?_ | refine CallG.mk _ (p24 hc1) ?_ | refine CallG.mk _ (lCon_a x24) ?_ | ((with_reducible first | refine Wo (fun K hK => ?_) | refine Wp ?_ | refine Wq ?_ | refine Wr ?_); (try simp only [go_sem, List.forall_mem_nil, ↓guard_ite, ↓pick_ite, seval, encT_eq, inR_i64, hm3, hu0, hc0, d24.1, decide_eq_true_eq, decide_eq_false_iff_not, Int.ofNat_lt]); (repeat with_reducible refine And.intro (by first | omega | with_reducible exact lens_encT | with_reducible exact lens_encL | (simp; done) | (simp only [List.length_take, List.length_map, List.length_append, maxLen_eq]; omega)) ?_); (try (with_reducible refine hK _ ?_; clear hK K)); (try with_reducible refine ite_conj ?_)))
          simp only [go_sem, List.forall_mem_nil, ↓guard_ite, ↓pick_ite, seval, FinQ, AS.result, resAll, resOne, tupV]
          all_goals first | done | rfl | skip
        · have hx6 : x6 = 0 := by omega
          unfold LamAt
          refine ac_R_LamFrom (Nat.le_of_ble_eq_true rfl) fun C hC => ?_
          unfold ir_R_LamFrom
          repeat' (first | (with_reducible first | refine Wa ?_ | refine Wb ?_ | refine Wc ?_ | refine Wd ?_ | refine We ?_ | refine Wf ?_ | refine Wg ?_ | refine Wh ?_ | refine Wi ?_ | refine Wj ?_ | refine Wk (by decide) ?_ | refine Wl ?_ | refine Wm ?_ | refine Wn ?_) | refine CallG.mk _ (hraw) ?_ | refine CallG.mk _ (p6) ?_ | refine CallG.mk _ (p24 hc1) ?_ | refine CallG.mk _ (lCon_a x24) ?_ | ((with_reducible first | refine Wo (fun K hK => ?_) | refine Wp ?_ | refine Wq ?_ | refine Wr ?_); (try simp only [go_sem, List.forall_mem_nil, ↓guard_ite, ↓pick_ite, seval, encT_eq, inR_i64, hm3, hx6, hu0, hc0, d24.1, decide_eq_true_eq, decide_eq_false_iff_not, Int.ofNat_lt]); (repeat with_reducible refine And.intro (by first | omega | with_reducible exact lens_encT | with_reducible exact lens_encL | (simp; done) | (simp only [List.length_take, List.length_map, List.length_append, maxLen_eq]; omega)) ?_); (try (with_reducible refine hK _ ?_; clear hK K)); (try with_reducible refine ite_conj ?_)))
          simp only [go_sem, List.forall_mem_nil, ↓guard_ite, ↓pick_ite, seval, FinQ, AS.result, resAll, resOne, tupV]
          all_goals first | done | rfl | skip
    · have hu1 : 1 ≤ (under : Int) := by omega
      have qu := q6u hu1
      by_cases hc0 : consts = 0
      · refine ⟨.mk 1 x6u [], at_ + 1, ?_, by simp only [Lm.size, Lm.sizes]; omega, by simp only [Lm.size, Lm.sizes]; omega, chk_leaf (Or.inl ⟨rfl, by omega, by omega⟩)⟩
        by_cases hm3 : (most : Int) < 3
        · unfold LamAt
          refine ac_R_LamFrom (Nat.le_of_ble_eq_true rfl) fun C hC => ?_
          unfold ir_R_LamFrom
          repeat' (first | (with_reducible first | refine Wa ?_ | refine Wb ?_ | refine Wc ?_ | refine Wd ?_ | refine We ?_ | refine Wf ?_ | refine Wg ?_ | refine Wh ?_ | refine Wi ?_ | refine Wj ?_ | refine Wk (by decide) ?_ | refine Wl ?_ | refine Wm ?_ | refine Wn ?_) | refine CallG.mk _ (hraw) ?_ | refine CallG.mk _ (p6u hu1) ?_ | refine CallG.mk _ (lVar_a x6u) ?_ | ((with_reducible first | refine Wo (fun K hK => ?_) | refine Wp ?_ | refine Wq ?_ | refine Wr ?_); (try simp only [go_sem, List.forall_mem_nil, ↓guard_ite, ↓pick_ite, seval, encT_eq, inR_i64, hm3, hu0, hc0, d6.1, decide_eq_true_eq, decide_eq_false_iff_not, Int.ofNat_lt]); (repeat with_reducible refine And.intro (by first | omega | with_reducible exact lens_encT | with_reducible exact lens_encL | (simp; done) | (simp only [List.length_take, List.length_map, List.length_append, maxLen_eq]; omega)) ?_); (try (with_reducible refine hK _ ?_; clear hK K)); (try with_reducible refine ite_conj ?_)))
          simp only [go_sem, List.forall_mem_nil, ↓guard_ite, ↓pick_ite, seval, FinQ, AS.result, resAll, resOne, tupV]
          all_goals first | done | rfl | skip
        · have hx6 : x6 = 0 := by omega
          unfold LamAt
          refine ac_R_LamFrom (Nat.le_of_ble_eq_true rfl) fun C hC => ?_
          unfold ir_R_LamFrom
          repeat' (first | (with_reducible first | refine Wa ?_ | refine Wb ?_ | refine Wc ?_ | refine Wd ?_ | refine We ?_ | refine Wf ?_ | refine Wg ?_ | refine Wh ?_ | refine Wi ?_ | refine Wj ?_ | refine Wk (by decide) ?_ | refine Wl ?_ | refine Wm ?_ | refine Wn ?_) | refine CallG.mk _ (hraw) ?_ | refine CallG.mk _ (p6) ?_ | refine CallG.mk _ (p6u hu1) ?_ | refine CallG.mk _ (lVar_a x6u) ?_ | ((with_reducible first | refine Wo (fun K hK => ?_) | refine Wp ?_ | refine Wq ?_ | refine Wr ?_); (try simp only [go_sem, List.forall_mem_nil, ↓guard_ite, ↓pick_ite, seval, encT_eq, inR_i64, hm3, hx6, hu0, hc0, d6.1, decide_eq_true_eq, decide_eq_false_iff_not, Int.ofNat_lt]); (repeat with_reducible refine And.intro (by first | omega | with_reducible exact lens_encT | with_reducible exact lens_encL | (simp; done) | (simp only [List.length_take, List.length_map, List.length_append, maxLen_eq]; omega)) ?_); (try (with_reducible refine hK _ ?_; clear hK K)); (try with_reducible refine ite_conj ?_)))
          simp only [go_sem, List.forall_mem_nil, ↓guard_ite, ↓pick_ite, seval, FinQ, AS.result, resAll, resOne, tupV]
          all_goals first | done | rfl | skip
      · have hc0' : 0 < consts := by omega
        have hc1 : 1 ≤ consts := by omega
        have q := q24 hc1
        by_cases hx4 : x64 = 0
        · refine ⟨.mk 4 x24 [], at_ + 1, ?_, by simp only [Lm.size, Lm.sizes]; omega, by simp only [Lm.size, Lm.sizes]; omega, chk_leaf (Or.inr ⟨rfl, by omega, by omega⟩)⟩
          by_cases hm3 : (most : Int) < 3
          · unfold LamAt
            refine ac_R_LamFrom (Nat.le_of_ble_eq_true rfl) fun C hC => ?_
            unfold ir_R_LamFrom
            repeat' (first | (with_reducible first | refine Wa ?_ | refine Wb ?_ | refine Wc ?_ | refine Wd ?_ | refine We ?_ | refine Wf ?_ | refine Wg ?_ | refine Wh ?_ | refine Wi ?_ | refine Wj ?_ | refine Wk (by decide) ?_ | refine Wl ?_ | refine Wm ?_ | refine Wn ?_) | refine CallG.mk _ (hraw) ?_ | refine CallG.mk _ (p64) ?_ | refine CallG.mk _ (p24 hc1) ?_ | refine CallG.mk _ (lCon_a x24) ?_ | ((with_reducible first | refine Wo (fun K hK => ?_) | refine Wp ?_ | refine Wq ?_ | refine Wr ?_); (try simp only [go_sem, List.forall_mem_nil, ↓guard_ite, ↓pick_ite, seval, encT_eq, inR_i64, hm3, hu0, hc0', d6.1, hx4, d24.1, decide_eq_true_eq, decide_eq_false_iff_not, Int.ofNat_lt]); (repeat with_reducible refine And.intro (by first | omega | with_reducible exact lens_encT | with_reducible exact lens_encL | (simp; done) | (simp only [List.length_take, List.length_map, List.length_append, maxLen_eq]; omega)) ?_); (try (with_reducible refine hK _ ?_; clear hK K)); (try with_reducible refine ite_conj ?_)))
            simp only [go_sem, List.forall_mem_nil, ↓guard_ite, ↓pick_ite, seval, FinQ, AS.result, resAll, resOne, tupV]
            all_goals first | done | rfl | skip
          · have hx6 : x6 = 0 := by omega
            unfold LamAt
            refine ac_R_LamFrom (Nat.le_of_ble_eq_true rfl) fun C hC => ?_
            unfold ir_R_LamFrom
            repeat' (first | (with_reducible first | refine Wa ?_ | refine Wb ?_ | refine Wc ?_ | refine Wd ?_ | refine We ?_ | refine Wf ?_ | refine Wg ?_ | refine Wh ?_ | refine Wi ?_ | refine Wj ?_ | refine Wk (by decide) ?_ | refine Wl ?_ | refine Wm ?_ | refine Wn ?_) | refine CallG.mk _ (hraw) ?_ | refine CallG.mk _ (p6) ?_ | refine CallG.mk _ (p64) ?_ | refine CallG.mk _ (p24 hc1) ?_ | refine CallG.mk _ (lCon_a x24) ?_ | ((with_reducible first | refine Wo (fun K hK => ?_) | refine Wp ?_ | refine Wq ?_ | refine Wr ?_); (try simp only [go_sem, List.forall_mem_nil, ↓guard_ite, ↓pick_ite, seval, encT_eq, inR_i64, hm3, hx6, hu0, hc0', d6.1, hx4, d24.1, decide_eq_true_eq, decide_eq_false_iff_not, Int.ofNat_lt]); (repeat with_reducible refine And.intro (by first | omega | with_reducible exact lens_encT | with_reducible exact lens_encL | (simp; done) | (simp only [List.length_take, List.length_map, List.length_append, maxLen_eq]; omega)) ?_); (try (with_reducible refine hK _ ?_; clear hK K)); (try with_reducible refine ite_conj ?_)))
            simp only [go_sem, List.forall_mem_nil, ↓guard_ite, ↓pick_ite, seval, FinQ, AS.result, resAll, resOne, tupV]
            all_goals first | done | rfl | skip
        · refine ⟨.mk 1 x6u [], at_ + 1, ?_, by simp only [Lm.size, Lm.sizes]; omega, by simp only [Lm.size, Lm.sizes]; omega, chk_leaf (Or.inl ⟨rfl, by omega, by omega⟩)⟩
          by_cases hm3 : (most : Int) < 3
          · unfold LamAt
            refine ac_R_LamFrom (Nat.le_of_ble_eq_true rfl) fun C hC => ?_
            unfold ir_R_LamFrom
            repeat' (first | (with_reducible first | refine Wa ?_ | refine Wb ?_ | refine Wc ?_ | refine Wd ?_ | refine We ?_ | refine Wf ?_ | refine Wg ?_ | refine Wh ?_ | refine Wi ?_ | refine Wj ?_ | refine Wk (by decide) ?_ | refine Wl ?_ | refine Wm ?_ | refine Wn ?_) | refine CallG.mk _ (hraw) ?_ | refine CallG.mk _ (p64) ?_ | refine CallG.mk _ (p6u hu1) ?_ | refine CallG.mk _ (lVar_a x6u) ?_ | ((with_reducible first | refine Wo (fun K hK => ?_) | refine Wp ?_ | refine Wq ?_ | refine Wr ?_); (try simp only [go_sem, List.forall_mem_nil, ↓guard_ite, ↓pick_ite, seval, encT_eq, inR_i64, hm3, hu0, hc0', d6.1, hx4, decide_eq_true_eq, decide_eq_false_iff_not, Int.ofNat_lt]); (repeat with_reducible refine And.intro (by first | omega | with_reducible exact lens_encT | with_reducible exact lens_encL | (simp; done) | (simp only [List.length_take, List.length_map, List.length_append, maxLen_eq]; omega)) ?_); (try (with_reducible refine hK _ ?_; clear hK K)); (try with_reducible refine ite_conj ?_)))
            simp only [go_sem, List.forall_mem_nil, ↓guard_ite, ↓pick_ite, seval, FinQ, AS.result, resAll, resOne, tupV]
            all_goals first | done | rfl | skip
          · have hx6 : x6 = 0 := by omega
            unfold LamAt
            refine ac_R_LamFrom (Nat.le_of_ble_eq_true rfl) fun C hC => ?_
            unfold ir_R_LamFrom
            repeat' (first | (with_reducible first | refine Wa ?_ | refine Wb ?_ | refine Wc ?_ | refine Wd ?_ | refine We ?_ | refine Wf ?_ | refine Wg ?_ | refine Wh ?_ | refine Wi ?_ | refine Wj ?_ | refine Wk (by decide) ?_ | refine Wl ?_ | refine Wm ?_ | refine Wn ?_) | refine CallG.mk _ (hraw) ?_ | refine CallG.mk _ (p6) ?_ | refine CallG.mk _ (p64) ?_ | refine CallG.mk _ (p6u hu1) ?_ | refine CallG.mk _ (lVar_a x6u) ?_ | ((with_reducible first | refine Wo (fun K hK => ?_) | refine Wp ?_ | refine Wq ?_ | refine Wr ?_); (try simp only [go_sem, List.forall_mem_nil, ↓guard_ite, ↓pick_ite, seval, encT_eq, inR_i64, hm3, hx6, hu0, hc0', d6.1, hx4, decide_eq_true_eq, decide_eq_false_iff_not, Int.ofNat_lt]); (repeat with_reducible refine And.intro (by first | omega | with_reducible exact lens_encT | with_reducible exact lens_encL | (simp; done) | (simp only [List.length_take, List.length_map, List.length_append, maxLen_eq]; omega)) ?_); (try (with_reducible refine hK _ ?_; clear hK K)); (try with_reducible refine ite_conj ?_)))
            simp only [go_sem, List.forall_mem_nil, ↓guard_ite, ↓pick_ite, seval, FinQ, AS.result, resAll, resOne, tupV]
            all_goals first | done | rfl | skip
  · have hm3 : ¬ (most : Int) < 3 := by omega
    have hx6 : ¬ x6 = 0 := by omega
    by_cases h3 : x6 < 3
    · obtain ⟨t, n, ht, hs, hn, hk⟩ := ih (most - 1) (by omega) (at_ + 1) (under + 1) (by omega) (by omega) (by omega) (by omega)
      unfold LamAt at ht
      rw [show (((at_ + 1 : Nat) : Int)) = (at_ : Int) + 1 by omega, show (((most - 1 : Nat) : Int)) = (most : Int) - 1 by omega, show (((under + 1 : Nat) : Int)) = (under : Int) + 1 by omega] at ht
      rw [show (((under + 1 : Nat) : Int)) = (under : Int) + 1 by omega] at hk
      refine ⟨.l t, n, ?_, by simp only [Lm.l, Lm.size, Lm.sizes]; omega, by simp only [Lm.l, Lm.size, Lm.sizes]; omega, chk_fun hk⟩
      unfold LamAt
      refine ac_R_LamFrom (Nat.le_of_ble_eq_true rfl) fun C hC => ?_
      unfold ir_R_LamFrom
      repeat' (first | (with_reducible first | refine Wa ?_ | refine Wb ?_ | refine Wc ?_ | refine Wd ?_ | refine We ?_ | refine Wf ?_ | refine Wg ?_ | refine Wh ?_ | refine Wi ?_ | refine Wj ?_ | refine Wk (by decide) ?_ | refine Wl ?_ | refine Wm ?_ | refine Wn ?_) | refine CallG.mk _ (hraw) ?_ | refine CallG.mk _ (p6) ?_ | refine CallG.mk _ (ht) ?_ | refine CallG.mk _ (lFun_a t) ?_ | ((with_reducible first | refine Wo (fun K hK => ?_) | refine Wp ?_ | refine Wq ?_ | refine Wr ?_); (try simp only [go_sem, List.forall_mem_nil, ↓guard_ite, ↓pick_ite, seval, encT_eq, inR_i64, hm3, hx6, h3, decide_eq_true_eq, decide_eq_false_iff_not, Int.ofNat_lt]); (repeat with_reducible refine And.intro (by first | omega | with_reducible exact lens_encT | with_reducible exact lens_encL | (simp; done) | (simp only [List.length_take, List.length_map, List.length_append, maxLen_eq]; omega)) ?_); (try (with_reducible refine hK _ ?_; clear hK K)); (try with_reducible refine ite_conj ?_)))
      simp only [go_sem, List.forall_mem_nil, ↓guard_ite, ↓pick_ite, seval, FinQ, AS.result, resAll, resOne, tupV]
    · have d2 := tdiv_range (x := (most : Int)) (n := 2) (by omega) (by omega)
      have e2 : (most : Int) / 2 = ((most / 2 : Nat) : Int) := by omega
      obtain ⟨t, n, ht, hs, hn, hk⟩ := ih (most / 2) (by omega) (at_ + 1) under (by omega) (by omega) (by omega) (by omega)
      obtain ⟨u, n2, hu, hs2, hn2, hk2⟩ := ih (most / 2) (by omega) n under (by omega) (by omega) (by omega) (by omega)
      unfold LamAt at ht hu
      rw [show (((at_ + 1 : Nat) : Int)) = (at_ : Int) + 1 by omega] at ht
      refine ⟨.a t u, n2, ?_, by simp only [Lm.a, Lm.size, Lm.sizes]; omega, by simp only [Lm.a, Lm.size, Lm.sizes]; omega, chk_app hk hk2⟩
      unfold LamAt
      refine ac_R_LamFrom (Nat.le_of_ble_eq_true rfl) fun C hC => ?_
      unfold ir_R_LamFrom
      repeat' (first | (with_reducible first | refine Wa ?_ | refine Wb ?_ | refine Wc ?_ | refine Wd ?_ | refine We ?_ | refine Wf ?_ | refine Wg ?_ | refine Wh ?_ | refine Wi ?_ | refine Wj ?_ | refine Wk (by decide) ?_ | refine Wl ?_ | refine Wm ?_ | refine Wn ?_) | refine CallG.mk _ (hraw) ?_ | refine CallG.mk _ (p6) ?_ | refine CallG.mk _ (ht) ?_ | refine CallG.mk _ (hu) ?_ | refine CallG.mk _ (lApp_a t u) ?_ | ((with_reducible first | refine Wo (fun K hK => ?_) | refine Wp ?_ | refine Wq ?_ | refine Wr ?_); (try simp only [go_sem, List.forall_mem_nil, ↓guard_ite, ↓pick_ite, seval, encT_eq, inR_i64, hm3, hx6, h3, d2.1, e2, decide_eq_true_eq, decide_eq_false_iff_not, Int.ofNat_lt]); (repeat with_reducible refine And.intro (by first | omega | with_reducible exact lens_encT | with_reducible exact lens_encL | (simp; done) | (simp only [List.length_take, List.length_map, List.length_append, maxLen_eq]; omega)) ?_); (try (with_reducible refine hK _ ?_; clear hK K)); (try with_reducible refine ite_conj ?_)))
      simp only [go_sem, List.forall_mem_nil, ↓guard_ite, ↓pick_ite, seval, FinQ, AS.result, resAll, resOne, tupV]
theorem lamOfRaw_a (l : List Int) (hl : ∀ n ∈ l, inR .i64 n) (hm : l.length ≤ maxLen) (consts : Int) (hc : 0 ≤ consts ∧ consts ≤ 40) (most under : Nat) (h1 : 1 ≤ most) (h2 : most ≤ 1000) (h3 : under ≤ 1000) :
    ∃ t : Lm, ACalls Tryz.prog 4 [aInts l, aInt 0, aInt most, aInt under, aInt consts] (aLm t) ∧ t.size + 1 ≤ 3 * most ∧ t.chk 0 under = 0 := by
  obtain ⟨t, n, ht, hs, _, hk⟩ := lamFrom_a l hl hm consts hc most 0 under h1 h2 (by omega) (by omega)
  refine ⟨t, ?_, hs, hk⟩
  unfold LamAt at ht
  rw [show ((0 : Nat) : Int) = 0 from rfl] at ht
  refine ac_R_LamOfRaw (Nat.le_of_ble_eq_true rfl) fun C hC => ?_
  unfold ir_R_LamOfRaw
  repeat' (first | (with_reducible first | refine Wa ?_ | refine Wb ?_ | refine Wc ?_ | refine Wd ?_ | refine We ?_ | refine Wf ?_ | refine Wg ?_ | refine Wh ?_ | refine Wi ?_ | refine Wj ?_ | refine Wk (by decide) ?_ | refine Wl ?_ | refine Wm ?_ | refine Wn ?_) | refine CallG.mk _ (ht) ?_ | ((with_reducible first | refine Wo (fun K hK => ?_) | refine Wp ?_ | refine Wq ?_ | refine Wr ?_); (try simp only [go_sem, List.forall_mem_nil, ↓guard_ite, ↓pick_ite, seval, encT_eq, inR_i64, decide_eq_true_eq, decide_eq_false_iff_not, Int.ofNat_lt]); (repeat with_reducible refine And.intro (by first | omega | with_reducible exact lens_encT | with_reducible exact lens_encL | (simp; done) | (simp only [List.length_take, List.length_map, List.length_append, maxLen_eq]; omega)) ?_); (try (with_reducible refine hK _ ?_; clear hK K)); (try with_reducible refine ite_conj ?_)))
  simp only [go_sem, List.forall_mem_nil, ↓guard_ite, ↓pick_ite, seval, FinQ, AS.result, resAll, resOne, tupV]
end Go.Proofs.YtbiadmlfejnbcaaGreatDoor

namespace Go.Proofs.YtbiadmlfejnbcaaGreatDoor
open Go Go.RowKit
set_option maxRecDepth 100000

def ir_L_CombMade : IR :=
  (.seq
  (.ops
  [.mk (some 6) none (.mov (.c (.one (.st (.bool false)))))
  .no])
  (.seq
  (.seq
  (.ops
  [.mk (some 10) none (.mov (.t 0)) .no, .mk (some 11) none (.len false (.t 10)) .no, .mk (some 12) none (.bin .gtr (.t 11) (.c (.one (.st (.int .i64 256)))))
  .no])
  (.cond (.t 12)
  (.seq
  (.ops
  [.mk (some 6) none (.mov (.c (.one (.st (.bool true)))))
  .no])
  .ret)
  .skip))
  (.seq
  (.ops
  [.mk (some 13) none (.mov (.t 0)) .no, .mk (some 14) none (.mov (.t 1)) .no, .mk (some 15) none (.call 5
  [.t 14, .c (.one (.st (.int .i64 20)))])
  .no, .mk (some 16) none (.bin .add (.c (.one (.st (.int .i64 2)))) (.t 15))
  .no, .mk (some 17) none (.call 4
  [.t 13, .c (.one (.st (.int .i64 0))), .t 16, .c (.one (.st (.int .i64 0))), .c (.one (.st (.int .i64 2)))])
  .no, .mk (some 7) none
  (.alloc 25
  [.st (.int .i64 0), .st (.int .i64 0),
  .full []])
  .no, .mk none none (.store 3 (.t 7) (.t 17))
  .no])
  (.seq
  (.ops
  [.mk (some 19) none (.load true 3 (.t 7))
  .no, .mk (some 20) none (.call 6
  [.t 19, .c (.one (.st (.int .i64 0)))])
  .no, .mk (some 18) none (.mov (.t 20)) .no, .mk (some 21) none (.extract 0 (.t 18)) .no, .mk (some 22) none (.extract 1 (.t 18)) .no, .mk (some 8) none
  (.alloc 30
  [.st (.str (ByteArray.mk (#[]))), .full []])
  .no, .mk none none (.store 2 (.t 8) (.t 21))
  .no, .mk (some 9) none (.mov (.t 22)) .no])
  (.seq
  (.seq
  (.ops
  [.mk (some 23) none (.load true 3 (.t 7))
  .no, .mk (some 24) none (.call 7 [.t 23]) .no, .mk (some 25) none (.un .not (.t 24))
  .no, .mk (some 26) none (.mov (.t 25)) .no, .mk (some 27) (some (26, false)) (.mov (.t 9))
  .no, .mk (some 28) (some (26, false)) (.bin .neq (.t 27) (.c (.one (.st (.int .i64 0)))))
  .no, .mk (some 29) none
  (.pick (.t 26) (.c (.one (.st (.bool true)))) (.t 28))
  .no, .mk (some 30) none (.mov (.t 29)) .no, .mk (some 31) (some (30, false)) (.load true 2 (.t 8))
  .no, .mk (some 32) (some (30, false)) (.call 8
  [.t 31, .c (.one (.st (.int .i64 60)))])
  .no, .mk (some 33) (some (30, false)) (.bin .gtr (.t 32) (.c (.one (.st (.int .i64 60)))))
  .no, .mk (some 34) none
  (.pick (.t 30) (.c (.one (.st (.bool true)))) (.t 33))
  .no])
  (.cond (.t 34)
  (.seq
  (.ops
  [.mk (some 35) none (.load true 3 (.t 7))
  .no, .mk (some 36) none (.call 7 [.t 35])
  .no, .mk (some 6) none (.mov (.t 36)) .no])
  .ret)
  .skip))
  (.seq
  (.ops
  [.mk (some 37) none (.load true 2 (.t 8))
  .no, .mk (some 38) none (.mov (.t 2)) .no, .mk (some 39) none (.call 5
  [.t 38, .c (.one (.st (.int .i64 30)))])
  .no, .mk (some 40) none (.call 9 [.t 37, .t 39])
  .no, .mk (some 41) none (.mov (.t 40)) .no, .mk (some 42) (some (41, true)) (.load true 2 (.t 8))
  .no, .mk (some 43) (some (41, true)) (.call 12
  [.c (.one (.st (.str (ByteArray.mk (#[88])))))])
  .no, .mk (some 44) (some (41, true)) (.call 12
  [.c (.one (.st (.str (ByteArray.mk (#[99, 49])))))])
  .no, .mk (some 45) (some (41, true)) (.call 11 [.t 43, .t 44]) .no, .mk (some 46) (some (41, true)) (.call 11 [.t 42, .t 45]) .no, .mk (some 47) (some (41, true)) (.call 10
  [.c (.one (.st (.str (ByteArray.mk (#[88]))))), .t 46])
  .no, .mk (some 48) none
  (.pick (.t 41) (.t 47) (.c (.one (.st (.bool false)))))
  .no, .mk (some 6) none (.mov (.t 48)) .no])
  .ret))))))
theorem tr_L_CombMade : trCode Tryz.prog 49 [] (Tryz.f3.body.getD .skip) = some ir_L_CombMade := by kernel_rfl
theorem ac_L_CombMade {xs : List AV} {r : AV} (hn : xs.length ≤ 49) (h : ∀ C : Ctx, C.n = 49 → IWP Tryz.prog C [] ir_L_CombMade (FinQ [.t 6] r) (AS.start xs)) : ACalls Tryz.prog 3 xs r :=
  acalls_of Tryz.func3 rfl tr_L_CombMade rfl hn h
theorem acS_L_CombMade {xs : List AV} {S S' : AStore} {r : AV} (hn : xs.length ≤ 49) (h : Clean S → ∀ C : Ctx, C.n = 49 → IWP Tryz.prog C [] ir_L_CombMade (FinS C [.t 6] r S') (AS.startS xs S)) : ACallsS Tryz.prog 3 xs S r S' :=
  acallsS_of Tryz.func3 rfl tr_L_CombMade rfl hn h

end Go.Proofs.YtbiadmlfejnbcaaGreatDoor

namespace Go.Proofs.YtbiadmlfejnbcaaGreatDoor
open Go Go.RowKit
set_option linter.unusedVariables false
set_option linter.unusedSimpArgs false
set_option maxHeartbeats 1000000

def Tm.stepR (t : Tm) : AV := .tup [aTm (t.step.getD t), aBool t.step.isSome]
theorem drop_take_snoc {l : List Tm} {u k : Nat} {a : Tm} (hu : u ≤ k) (ha : l[k]? = some a) : (l.take (k + 1)).drop u = (l.take k).drop u ++ [a] := by
  have hk : k < l.length := (List.getElem?_eq_some_iff.1 ha).1
  rw [take_snoc ha, List.drop_append_of_le_length (by rw [List.length_take]; omega)]
theorem set_get {l : List Tm} {i k : Nat} {x a : Tm} (hi : i < l.length) (ha : l[k]? = some a) : (l.set i x)[k]? = some (if k = i then x else a) := by
  by_cases h : k = i
  · subst h
    rw [List.getElem?_set_self hi, if_pos rfl]
  · rw [List.getElem?_set_ne (fun e => h e.symm), if_neg h, ha]
theorem ik : ¬ (⟨#[105]⟩ : ByteArray) = ⟨#[107]⟩ := by decide
theorem is_ : ¬ (⟨#[105]⟩ : ByteArray) = ⟨#[115]⟩ := by decide
theorem ki : ¬ (⟨#[107]⟩ : ByteArray) = ⟨#[105]⟩ := by decide
theorem ks : ¬ (⟨#[107]⟩ : ByteArray) = ⟨#[115]⟩ := by decide
theorem si : ¬ (⟨#[115]⟩ : ByteArray) = ⟨#[105]⟩ := by decide
theorem sk : ¬ (⟨#[115]⟩ : ByteArray) = ⟨#[107]⟩ := by decide
/-- How a row's front may stand. -/
theorem red_cases (n : ByteArray) (l : List Tm) :
    (n = ⟨#[105]⟩ ∧ 1 ≤ (l.length : Int) ∧ ∃ x r, l = x :: r ∧ redOf n l = some (x, 1)) ∨
    (n = ⟨#[107]⟩ ∧ 2 ≤ (l.length : Int) ∧ ∃ x a r, l = x :: a :: r ∧ redOf n l = some (x, 2)) ∨
    (n = ⟨#[115]⟩ ∧ 3 ≤ (l.length : Int) ∧ ∃ a b c r, l = a :: b :: c :: r ∧ redOf n l = some (ap2 (ap2 a c) (ap2 b c), 3)) ∨
    (redOf n l = none ∧ ((n = ⟨#[105]⟩ ∧ ¬ 1 ≤ (l.length : Int)) ∨ (n = ⟨#[107]⟩ ∧ ¬ 2 ≤ (l.length : Int)) ∨ (n = ⟨#[115]⟩ ∧ ¬ 3 ≤ (l.length : Int)) ∨ (¬ n = ⟨#[105]⟩ ∧ ¬ n = ⟨#[107]⟩ ∧ ¬ n = ⟨#[115]⟩))) := by
  by_cases h1 : n = ⟨#[105]⟩
  · subst h1
    match l with
    | [] => exact Or.inr (Or.inr (Or.inr ⟨rfl, Or.inl ⟨rfl, by simp⟩⟩))
    | x :: r => exact Or.inl ⟨rfl, by simp only [List.length_cons]; omega, x, r, rfl, rfl⟩
  · by_cases h2 : n = ⟨#[107]⟩
    · subst h2
      match l with
      | [] => exact Or.inr (Or.inr (Or.inr ⟨rfl, Or.inr (Or.inl ⟨rfl, by simp⟩)⟩))
      | [x] => exact Or.inr (Or.inr (Or.inr ⟨rfl, Or.inr (Or.inl ⟨rfl, by simp⟩)⟩))
      | x :: a :: r => exact Or.inr (Or.inl ⟨rfl, by simp only [List.length_cons]; omega, x, a, r, rfl, rfl⟩)
    · by_cases h3 : n = ⟨#[115]⟩
      · subst h3
        match l with
        | [] => exact Or.inr (Or.inr (Or.inr ⟨rfl, Or.inr (Or.inr (Or.inl ⟨rfl, by simp⟩))⟩))
        | [x] => exact Or.inr (Or.inr (Or.inr ⟨rfl, Or.inr (Or.inr (Or.inl ⟨rfl, by simp⟩))⟩))
        | [x, y] => exact Or.inr (Or.inr (Or.inr ⟨rfl, Or.inr (Or.inr (Or.inl ⟨rfl, by simp⟩))⟩))
        | a :: b :: c :: r => exact Or.inr (Or.inr (Or.inl ⟨rfl, by simp only [List.length_cons]; omega, a, b, c, r, rfl, rfl⟩))
      · refine Or.inr (Or.inr (Or.inr ⟨?_, Or.inr (Or.inr (Or.inr ⟨h1, h2, h3⟩))⟩))
        unfold redOf
        rw [if_neg (show ¬ n = iS from h1), if_neg (show ¬ n = kS from h2), if_neg (show ¬ n = sS from h3)]
theorem combStep_a (t : Tm) (hf : t.fm = true) (hz : t.size ≤ 1000000) : ACalls Tryz.prog 44 [aTm t] t.stepR := by
  induction h : t.size using Nat.strongRecOn generalizing t with
  | _ N ih =>
  subst h
  have hR := row_a t hf hz
  have hsz := Tm.rw_size hf
  have hlen := Tm.length_le t.rw_
  unfold Tm.stepR
  have tail : ∀ (y : Tm) (u : Nat), redOf t.hd.name t.rw_ = some (y, u) → t.step = some (aps y (t.rw_.drop u)) := fun y u h => Tm.step_red h
  rcases red_cases t.hd.name t.rw_ with ⟨q1, q2, x, r, q3, q4⟩ | ⟨q1, q2, x, b, r, q3, q4⟩ | ⟨q1, q2, a, b, c, r, q3, q4⟩ | ⟨q4, q5⟩
  · rw [tail _ _ q4]
    generalize t.hd = hd at *
    generalize t.rw_ = l at *
    have g0 : l[0]? = some x := by rw [q3]; rfl
    refine ac_R_CombStep (Nat.le_of_ble_eq_true rfl) fun C hC => ?_
    unfold ir_R_CombStep
    repeat' (first | (with_reducible first | refine Wa ?_ | refine Wb ?_ | refine Wc ?_ | refine Wd ?_ | refine We ?_ | refine Wf ?_ | refine Wg ?_ | refine Wh ?_ | refine Wi ?_ | refine Wj ?_ | refine Wk (by decide) ?_ | refine Wl ?_ | refine Wm ?_ | refine Wn ?_) | ((with_reducible first | refine Wo (fun K hK => ?_) | refine Wp ?_ | refine Wq ?_ | refine Wr ?_); (try simp only [go_sem, List.forall_mem_nil, ↓guard_ite, ↓pick_ite, seval, encT_eq, inR_i64, decide_eq_true_eq, decide_eq_false_iff_not, Int.ofNat_lt]); (repeat with_reducible refine And.intro (by first | omega | with_reducible exact lens_encT | with_reducible exact lens_encL | (simp; done) | (simp only [List.length_take, List.length_map, List.length_append, maxLen_eq]; omega)) ?_); (try (with_reducible refine hK _ ?_; clear hK K)); (try with_reducible refine ite_conj ?_)))
    refine ⟨_, hR, ?_⟩
    repeat' (first | (with_reducible first | refine Wa ?_ | refine Wb ?_ | refine Wc ?_ | refine Wd ?_ | refine We ?_ | refine Wf ?_ | refine Wg ?_ | refine Wh ?_ | refine Wi ?_ | refine Wj ?_ | refine Wk (by decide) ?_ | refine Wl ?_ | refine Wm ?_ | refine Wn ?_) | ((with_reducible first | refine Wo (fun K hK => ?_) | refine Wp ?_ | refine Wq ?_ | refine Wr ?_); (try simp only [go_sem, List.forall_mem_nil, ↓guard_ite, ↓pick_ite, seval, encT_eq, inR_i64, q1, q2, g0, ik, is_, decide_eq_true_eq, decide_eq_false_iff_not, Int.ofNat_lt]); (repeat with_reducible refine And.intro (by first | omega | with_reducible exact lens_encT | with_reducible exact lens_encL | (simp; done) | (simp only [List.length_take, List.length_map, List.length_append, maxLen_eq]; omega)) ?_); (try (with_reducible refine hK _ ?_; clear hK K)); (try with_reducible refine ite_conj ?_)))
    refine IWP.loop (fun n s => ∃ k, 1 ≤ k ∧ k ≤ l.length ∧ n = l.length - k ∧ s.env 2 = .one (.ptr 2 1 0 0) ∧ s.env 5 = aTms l ∧ s.env 7 = .one (.ptr 7 1 0 0) ∧ s.S 2 = some (.box 30 [.st (.str ⟨#[]⟩), .full []]) ∧ s.S 7 = some (.box 30 [.st (.str (aps (x) ((l.take k).drop 1)).name), .st (.list ((aps (x) ((l.take k).drop 1)).args.map encT))]) ∧ s.env 8 = aInt k) (l.length - 1)
      ⟨1, Nat.le_refl _, by omega, rfl, rfl, rfl, rfl, rfl, by rw [show (l.take 1).drop 1 = [] from by simp]; rfl, rfl⟩ ?_
    rintro n ⟨env, S⟩ ⟨k, hk0, hk, rfl, e2, e5, e7, s2, s7, e8⟩
    simp only at e2 e5 e7 s2 s7 e8
    by_cases hlt : (k : Int) < l.length
    · obtain ⟨z, hz'⟩ := get_lt (show k < l.length by omega)
      repeat' (first | (with_reducible first | refine Wa ?_ | refine Wb ?_ | refine Wc ?_ | refine Wd ?_ | refine We ?_ | refine Wf ?_ | refine Wg ?_ | refine Wh ?_ | refine Wi ?_ | refine Wj ?_ | refine Wk (by decide) ?_ | refine Wl ?_ | refine Wm ?_ | refine Wn ?_) | ((with_reducible first | refine Wo (fun K hK => ?_) | refine Wp ?_ | refine Wq ?_ | refine Wr ?_); (try simp only [go_sem, List.forall_mem_nil, ↓guard_ite, ↓pick_ite, seval, encT_eq, inR_i64, e2, e5, e7, s2, s7, e8, hz', hlt, decide_eq_true_eq, decide_eq_false_iff_not, Int.ofNat_lt]); (repeat with_reducible refine And.intro (by first | omega | with_reducible exact lens_encT | with_reducible exact lens_encL | (simp; done) | (simp only [List.length_take, List.length_map, List.length_append, maxLen_eq]; omega)) ?_); (try (with_reducible refine hK _ ?_; clear hK K)); (try with_reducible refine ite_conj ?_)))
      refine ⟨_, put2_a (aps (x) ((l.take k).drop 1)) z, ?_⟩
      repeat' (first | (with_reducible first | refine Wa ?_ | refine Wb ?_ | refine Wc ?_ | refine Wd ?_ | refine We ?_ | refine Wf ?_ | refine Wg ?_ | refine Wh ?_ | refine Wi ?_ | refine Wj ?_ | refine Wk (by decide) ?_ | refine Wl ?_ | refine Wm ?_ | refine Wn ?_) | ((with_reducible first | refine Wo (fun K hK => ?_) | refine Wp ?_ | refine Wq ?_ | refine Wr ?_); (try simp only [go_sem, List.forall_mem_nil, ↓guard_ite, ↓pick_ite, seval, encT_eq, inR_i64, e2, e5, e7, s2, s7, e8, decide_eq_true_eq, decide_eq_false_iff_not, Int.ofNat_lt]); (repeat with_reducible refine And.intro (by first | omega | with_reducible exact lens_encT | with_reducible exact lens_encL | (simp; done) | (simp only [List.length_take, List.length_map, List.length_append, maxLen_eq]; omega)) ?_); (try (with_reducible refine hK _ ?_; clear hK K)); (try with_reducible refine ite_conj ?_)))
      refine then_normal ⟨l.length - (k + 1), by omega, k + 1, by omega, by omega, rfl, ?_⟩
      simp only [go_sem, List.forall_mem_nil, ↓guard_ite, ↓pick_ite, seval, encT_eq, inR_i64, e2, e5, e7, s2, s7, e8]
      exact ⟨by rw [drop_take_snoc hk0 hz', aps_snoc], by congr 3⟩
    · rw [List.take_of_length_le (by omega)] at s7
      repeat' (first | (with_reducible first | refine Wa ?_ | refine Wb ?_ | refine Wc ?_ | refine Wd ?_ | refine We ?_ | refine Wf ?_ | refine Wg ?_ | refine Wh ?_ | refine Wi ?_ | refine Wj ?_ | refine Wk (by decide) ?_ | refine Wl ?_ | refine Wm ?_ | refine Wn ?_) | ((with_reducible first | refine Wo (fun K hK => ?_) | refine Wp ?_ | refine Wq ?_ | refine Wr ?_); (try simp only [go_sem, List.forall_mem_nil, ↓guard_ite, ↓pick_ite, seval, encT_eq, inR_i64, e2, e5, e7, s2, s7, e8, hlt, decide_eq_true_eq, decide_eq_false_iff_not, Int.ofNat_lt]); (repeat with_reducible refine And.intro (by first | omega | with_reducible exact lens_encT | with_reducible exact lens_encL | (simp; done) | (simp only [List.length_take, List.length_map, List.length_append, maxLen_eq]; omega)) ?_); (try (with_reducible refine hK _ ?_; clear hK K)); (try with_reducible refine ite_conj ?_)))
      simp only [go_sem, List.forall_mem_nil, ↓guard_ite, ↓pick_ite, seval, FinQ, AS.result, resAll, resOne, tupV, e2]
  · rw [tail _ _ q4]
    generalize t.hd = hd at *
    generalize t.rw_ = l at *
    have g0 : l[0]? = some x := by rw [q3]; rfl
    refine ac_R_CombStep (Nat.le_of_ble_eq_true rfl) fun C hC => ?_
    unfold ir_R_CombStep
    repeat' (first | (with_reducible first | refine Wa ?_ | refine Wb ?_ | refine Wc ?_ | refine Wd ?_ | refine We ?_ | refine Wf ?_ | refine Wg ?_ | refine Wh ?_ | refine Wi ?_ | refine Wj ?_ | refine Wk (by decide) ?_ | refine Wl ?_ | refine Wm ?_ | refine Wn ?_) | ((with_reducible first | refine Wo (fun K hK => ?_) | refine Wp ?_ | refine Wq ?_ | refine Wr ?_); (try simp only [go_sem, List.forall_mem_nil, ↓guard_ite, ↓pick_ite, seval, encT_eq, inR_i64, decide_eq_true_eq, decide_eq_false_iff_not, Int.ofNat_lt]); (repeat with_reducible refine And.intro (by first | omega | with_reducible exact lens_encT | with_reducible exact lens_encL | (simp; done) | (simp only [List.length_take, List.length_map, List.length_append, maxLen_eq]; omega)) ?_); (try (with_reducible refine hK _ ?_; clear hK K)); (try with_reducible refine ite_conj ?_)))
    refine ⟨_, hR, ?_⟩
    repeat' (first | (with_reducible first | refine Wa ?_ | refine Wb ?_ | refine Wc ?_ | refine Wd ?_ | refine We ?_ | refine Wf ?_ | refine Wg ?_ | refine Wh ?_ | refine Wi ?_ | refine Wj ?_ | refine Wk (by decide) ?_ | refine Wl ?_ | refine Wm ?_ | refine Wn ?_) | ((with_reducible first | refine Wo (fun K hK => ?_) | refine Wp ?_ | refine Wq ?_ | refine Wr ?_); (try simp only [go_sem, List.forall_mem_nil, ↓guard_ite, ↓pick_ite, seval, encT_eq, inR_i64, q1, q2, g0, ki, ks, decide_eq_true_eq, decide_eq_false_iff_not, Int.ofNat_lt]); (repeat with_reducible refine And.intro (by first | omega | with_reducible exact lens_encT | with_reducible exact lens_encL | (simp; done) | (simp only [List.length_take, List.length_map, List.length_append, maxLen_eq]; omega)) ?_); (try (with_reducible refine hK _ ?_; clear hK K)); (try with_reducible refine ite_conj ?_)))
    refine IWP.loop (fun n s => ∃ k, 2 ≤ k ∧ k ≤ l.length ∧ n = l.length - k ∧ s.env 2 = .one (.ptr 2 1 0 0) ∧ s.env 5 = aTms l ∧ s.env 7 = .one (.ptr 7 1 0 0) ∧ s.S 2 = some (.box 30 [.st (.str ⟨#[]⟩), .full []]) ∧ s.S 7 = some (.box 30 [.st (.str (aps (x) ((l.take k).drop 2)).name), .st (.list ((aps (x) ((l.take k).drop 2)).args.map encT))]) ∧ s.env 8 = aInt k) (l.length - 2)
      ⟨2, Nat.le_refl _, by omega, rfl, rfl, rfl, rfl, rfl, by rw [show (l.take 2).drop 2 = [] from by simp]; rfl, rfl⟩ ?_
    rintro n ⟨env, S⟩ ⟨k, hk0, hk, rfl, e2, e5, e7, s2, s7, e8⟩
    simp only at e2 e5 e7 s2 s7 e8
    by_cases hlt : (k : Int) < l.length
    · obtain ⟨z, hz'⟩ := get_lt (show k < l.length by omega)
      repeat' (first | (with_reducible first | refine Wa ?_ | refine Wb ?_ | refine Wc ?_ | refine Wd ?_ | refine We ?_ | refine Wf ?_ | refine Wg ?_ | refine Wh ?_ | refine Wi ?_ | refine Wj ?_ | refine Wk (by decide) ?_ | refine Wl ?_ | refine Wm ?_ | refine Wn ?_) | ((with_reducible first | refine Wo (fun K hK => ?_) | refine Wp ?_ | refine Wq ?_ | refine Wr ?_); (try simp only [go_sem, List.forall_mem_nil, ↓guard_ite, ↓pick_ite, seval, encT_eq, inR_i64, e2, e5, e7, s2, s7, e8, hz', hlt, decide_eq_true_eq, decide_eq_false_iff_not, Int.ofNat_lt]); (repeat with_reducible refine And.intro (by first | omega | with_reducible exact lens_encT | with_reducible exact lens_encL | (simp; done) | (simp only [List.length_take, List.length_map, List.length_append, maxLen_eq]; omega)) ?_); (try (with_reducible refine hK _ ?_; clear hK K)); (try with_reducible refine ite_conj ?_)))
      refine ⟨_, put2_a (aps (x) ((l.take k).drop 2)) z, ?_⟩
      repeat' (first | (with_reducible first | refine Wa ?_ | refine Wb ?_ | refine Wc ?_ | refine Wd ?_ | refine We ?_ | refine Wf ?_ | refine Wg ?_ | refine Wh ?_ | refine Wi ?_ | refine Wj ?_ | refine Wk (by decide) ?_ | refine Wl ?_ | refine Wm ?_ | refine Wn ?_) | ((with_reducible first | refine Wo (fun K hK => ?_) | refine Wp ?_ | refine Wq ?_ | refine Wr ?_); (try simp only [go_sem, List.forall_mem_nil, ↓guard_ite, ↓pick_ite, seval, encT_eq, inR_i64, e2, e5, e7, s2, s7, e8, decide_eq_true_eq, decide_eq_false_iff_not, Int.ofNat_lt]); (repeat with_reducible refine And.intro (by first | omega | with_reducible exact lens_encT | with_reducible exact lens_encL | (simp; done) | (simp only [List.length_take, List.length_map, List.length_append, maxLen_eq]; omega)) ?_); (try (with_reducible refine hK _ ?_; clear hK K)); (try with_reducible refine ite_conj ?_)))
      refine then_normal ⟨l.length - (k + 1), by omega, k + 1, by omega, by omega, rfl, ?_⟩
      simp only [go_sem, List.forall_mem_nil, ↓guard_ite, ↓pick_ite, seval, encT_eq, inR_i64, e2, e5, e7, s2, s7, e8]
      exact ⟨by rw [drop_take_snoc hk0 hz', aps_snoc], by congr 3⟩
    · rw [List.take_of_length_le (by omega)] at s7
      repeat' (first | (with_reducible first | refine Wa ?_ | refine Wb ?_ | refine Wc ?_ | refine Wd ?_ | refine We ?_ | refine Wf ?_ | refine Wg ?_ | refine Wh ?_ | refine Wi ?_ | refine Wj ?_ | refine Wk (by decide) ?_ | refine Wl ?_ | refine Wm ?_ | refine Wn ?_) | ((with_reducible first | refine Wo (fun K hK => ?_) | refine Wp ?_ | refine Wq ?_ | refine Wr ?_); (try simp only [go_sem, List.forall_mem_nil, ↓guard_ite, ↓pick_ite, seval, encT_eq, inR_i64, e2, e5, e7, s2, s7, e8, hlt, decide_eq_true_eq, decide_eq_false_iff_not, Int.ofNat_lt]); (repeat with_reducible refine And.intro (by first | omega | with_reducible exact lens_encT | with_reducible exact lens_encL | (simp; done) | (simp only [List.length_take, List.length_map, List.length_append, maxLen_eq]; omega)) ?_); (try (with_reducible refine hK _ ?_; clear hK K)); (try with_reducible refine ite_conj ?_)))
      simp only [go_sem, List.forall_mem_nil, ↓guard_ite, ↓pick_ite, seval, FinQ, AS.result, resAll, resOne, tupV, e2]
  · rw [tail _ _ q4]
    generalize t.hd = hd at *
    generalize t.rw_ = l at *
    have g0 : l[0]? = some a := by rw [q3]; rfl
    have g1 : l[1]? = some b := by rw [q3]; rfl
    have g2 : l[2]? = some c := by rw [q3]; rfl
    refine ac_R_CombStep (Nat.le_of_ble_eq_true rfl) fun C hC => ?_
    unfold ir_R_CombStep
    repeat' (first | (with_reducible first | refine Wa ?_ | refine Wb ?_ | refine Wc ?_ | refine Wd ?_ | refine We ?_ | refine Wf ?_ | refine Wg ?_ | refine Wh ?_ | refine Wi ?_ | refine Wj ?_ | refine Wk (by decide) ?_ | refine Wl ?_ | refine Wm ?_ | refine Wn ?_) | ((with_reducible first | refine Wo (fun K hK => ?_) | refine Wp ?_ | refine Wq ?_ | refine Wr ?_); (try simp only [go_sem, List.forall_mem_nil, ↓guard_ite, ↓pick_ite, seval, encT_eq, inR_i64, decide_eq_true_eq, decide_eq_false_iff_not, Int.ofNat_lt]); (repeat with_reducible refine And.intro (by first | omega | with_reducible exact lens_encT | with_reducible exact lens_encL | (simp; done) | (simp only [List.length_take, List.length_map, List.length_append, maxLen_eq]; omega)) ?_); (try (with_reducible refine hK _ ?_; clear hK K)); (try with_reducible refine ite_conj ?_)))
    refine ⟨_, hR, ?_⟩
    repeat' (first | (with_reducible first | refine Wa ?_ | refine Wb ?_ | refine Wc ?_ | refine Wd ?_ | refine We ?_ | refine Wf ?_ | refine Wg ?_ | refine Wh ?_ | refine Wi ?_ | refine Wj ?_ | refine Wk (by decide) ?_ | refine Wl ?_ | refine Wm ?_ | refine Wn ?_) | ((with_reducible first | refine Wo (fun K hK => ?_) | refine Wp ?_ | refine Wq ?_ | refine Wr ?_); (try simp only [go_sem, List.forall_mem_nil, ↓guard_ite, ↓pick_ite, seval, encT_eq, inR_i64, q1, q2, g0, g1, g2, si, sk, decide_eq_true_eq, decide_eq_false_iff_not, Int.ofNat_lt]); (repeat with_reducible refine And.intro (by first | omega | with_reducible exact lens_encT | with_reducible exact lens_encL | (simp; done) | (simp only [List.length_take, List.length_map, List.length_append, maxLen_eq]; omega)) ?_); (try (with_reducible refine hK _ ?_; clear hK K)); (try with_reducible refine ite_conj ?_)))
    refine ⟨_, put2_a a c, ?_⟩
    repeat' (first | (with_reducible first | refine Wa ?_ | refine Wb ?_ | refine Wc ?_ | refine Wd ?_ | refine We ?_ | refine Wf ?_ | refine Wg ?_ | refine Wh ?_ | refine Wi ?_ | refine Wj ?_ | refine Wk (by decide) ?_ | refine Wl ?_ | refine Wm ?_ | refine Wn ?_) | ((with_reducible first | refine Wo (fun K hK => ?_) | refine Wp ?_ | refine Wq ?_ | refine Wr ?_); (try simp only [go_sem, List.forall_mem_nil, ↓guard_ite, ↓pick_ite, seval, encT_eq, inR_i64, g0, g1, g2, decide_eq_true_eq, decide_eq_false_iff_not, Int.ofNat_lt]); (repeat with_reducible refine And.intro (by first | omega | with_reducible exact lens_encT | with_reducible exact lens_encL | (simp; done) | (simp only [List.length_take, List.length_map, List.length_append, maxLen_eq]; omega)) ?_); (try (with_reducible refine hK _ ?_; clear hK K)); (try with_reducible refine ite_conj ?_)))
    refine ⟨_, put2_a b c, ?_⟩
    repeat' (first | (with_reducible first | refine Wa ?_ | refine Wb ?_ | refine Wc ?_ | refine Wd ?_ | refine We ?_ | refine Wf ?_ | refine Wg ?_ | refine Wh ?_ | refine Wi ?_ | refine Wj ?_ | refine Wk (by decide) ?_ | refine Wl ?_ | refine Wm ?_ | refine Wn ?_) | ((with_reducible first | refine Wo (fun K hK => ?_) | refine Wp ?_ | refine Wq ?_ | refine Wr ?_); (try simp only [go_sem, List.forall_mem_nil, ↓guard_ite, ↓pick_ite, seval, encT_eq, inR_i64, g0, g1, g2, decide_eq_true_eq, decide_eq_false_iff_not, Int.ofNat_lt]); (repeat with_reducible refine And.intro (by first | omega | with_reducible exact lens_encT | with_reducible exact lens_encL | (simp; done) | (simp only [List.length_take, List.length_map, List.length_append, maxLen_eq]; omega)) ?_); (try (with_reducible refine hK _ ?_; clear hK K)); (try with_reducible refine ite_conj ?_)))
    refine ⟨_, put2_a (ap2 a c) (ap2 b c), ?_⟩
    repeat' (first | (with_reducible first | refine Wa ?_ | refine Wb ?_ | refine Wc ?_ | refine Wd ?_ | refine We ?_ | refine Wf ?_ | refine Wg ?_ | refine Wh ?_ | refine Wi ?_ | refine Wj ?_ | refine Wk (by decide) ?_ | refine Wl ?_ | refine Wm ?_ | refine Wn ?_) | ((with_reducible first | refine Wo (fun K hK => ?_) | refine Wp ?_ | refine Wq ?_ | refine Wr ?_); (try simp only [go_sem, List.forall_mem_nil, ↓guard_ite, ↓pick_ite, seval, encT_eq, inR_i64, decide_eq_true_eq, decide_eq_false_iff_not, Int.ofNat_lt]); (repeat with_reducible refine And.intro (by first | omega | with_reducible exact lens_encT | with_reducible exact lens_encL | (simp; done) | (simp only [List.length_take, List.length_map, List.length_append, maxLen_eq]; omega)) ?_); (try (with_reducible refine hK _ ?_; clear hK K)); (try with_reducible refine ite_conj ?_)))
    refine IWP.loop (fun n s => ∃ k, 3 ≤ k ∧ k ≤ l.length ∧ n = l.length - k ∧ s.env 2 = .one (.ptr 2 1 0 0) ∧ s.env 5 = aTms l ∧ s.env 7 = .one (.ptr 7 1 0 0) ∧ s.S 2 = some (.box 30 [.st (.str ⟨#[]⟩), .full []]) ∧ s.S 7 = some (.box 30 [.st (.str (aps (ap2 (ap2 a c) (ap2 b c)) ((l.take k).drop 3)).name), .st (.list ((aps (ap2 (ap2 a c) (ap2 b c)) ((l.take k).drop 3)).args.map encT))]) ∧ s.env 8 = aInt k) (l.length - 3)
      ⟨3, Nat.le_refl _, by omega, rfl, rfl, rfl, rfl, rfl, by rw [show (l.take 3).drop 3 = [] from by simp]; rfl, rfl⟩ ?_
    rintro n ⟨env, S⟩ ⟨k, hk0, hk, rfl, e2, e5, e7, s2, s7, e8⟩
    simp only at e2 e5 e7 s2 s7 e8
    by_cases hlt : (k : Int) < l.length
    · obtain ⟨z, hz'⟩ := get_lt (show k < l.length by omega)
      repeat' (first | (with_reducible first | refine Wa ?_ | refine Wb ?_ | refine Wc ?_ | refine Wd ?_ | refine We ?_ | refine Wf ?_ | refine Wg ?_ | refine Wh ?_ | refine Wi ?_ | refine Wj ?_ | refine Wk (by decide) ?_ | refine Wl ?_ | refine Wm ?_ | refine Wn ?_) | ((with_reducible first | refine Wo (fun K hK => ?_) | refine Wp ?_ | refine Wq ?_ | refine Wr ?_); (try simp only [go_sem, List.forall_mem_nil, ↓guard_ite, ↓pick_ite, seval, encT_eq, inR_i64, e2, e5, e7, s2, s7, e8, hz', hlt, decide_eq_true_eq, decide_eq_false_iff_not, Int.ofNat_lt]); (repeat with_reducible refine And.intro (by first | omega | with_reducible exact lens_encT | with_reducible exact lens_encL | (simp; done) | (simp only [List.length_take, List.length_map, List.length_append, maxLen_eq]; omega)) ?_); (try (with_reducible refine hK _ ?_; clear hK K)); (try with_reducible refine ite_conj ?_)))
      refine ⟨_, put2_a (aps (ap2 (ap2 a c) (ap2 b c)) ((l.take k).drop 3)) z, ?_⟩
      repeat' (first | (with_reducible first | refine Wa ?_ | refine Wb ?_ | refine Wc ?_ | refine Wd ?_ | refine We ?_ | refine Wf ?_ | refine Wg ?_ | refine Wh ?_ | refine Wi ?_ | refine Wj ?_ | refine Wk (by decide) ?_ | refine Wl ?_ | refine Wm ?_ | refine Wn ?_) | ((with_reducible first | refine Wo (fun K hK => ?_) | refine Wp ?_ | refine Wq ?_ | refine Wr ?_); (try simp only [go_sem, List.forall_mem_nil, ↓guard_ite, ↓pick_ite, seval, encT_eq, inR_i64, e2, e5, e7, s2, s7, e8, decide_eq_true_eq, decide_eq_false_iff_not, Int.ofNat_lt]); (repeat with_reducible refine And.intro (by first | omega | with_reducible exact lens_encT | with_reducible exact lens_encL | (simp; done) | (simp only [List.length_take, List.length_map, List.length_append, maxLen_eq]; omega)) ?_); (try (with_reducible refine hK _ ?_; clear hK K)); (try with_reducible refine ite_conj ?_)))
      refine then_normal ⟨l.length - (k + 1), by omega, k + 1, by omega, by omega, rfl, ?_⟩
      simp only [go_sem, List.forall_mem_nil, ↓guard_ite, ↓pick_ite, seval, encT_eq, inR_i64, e2, e5, e7, s2, s7, e8]
      exact ⟨by rw [drop_take_snoc hk0 hz', aps_snoc], by congr 3⟩
    · rw [List.take_of_length_le (by omega)] at s7
      repeat' (first | (with_reducible first | refine Wa ?_ | refine Wb ?_ | refine Wc ?_ | refine Wd ?_ | refine We ?_ | refine Wf ?_ | refine Wg ?_ | refine Wh ?_ | refine Wi ?_ | refine Wj ?_ | refine Wk (by decide) ?_ | refine Wl ?_ | refine Wm ?_ | refine Wn ?_) | ((with_reducible first | refine Wo (fun K hK => ?_) | refine Wp ?_ | refine Wq ?_ | refine Wr ?_); (try simp only [go_sem, List.forall_mem_nil, ↓guard_ite, ↓pick_ite, seval, encT_eq, inR_i64, e2, e5, e7, s2, s7, e8, hlt, decide_eq_true_eq, decide_eq_false_iff_not, Int.ofNat_lt]); (repeat with_reducible refine And.intro (by first | omega | with_reducible exact lens_encT | with_reducible exact lens_encL | (simp; done) | (simp only [List.length_take, List.length_map, List.length_append, maxLen_eq]; omega)) ?_); (try (with_reducible refine hK _ ?_; clear hK K)); (try with_reducible refine ite_conj ?_)))
      simp only [go_sem, List.forall_mem_nil, ↓guard_ite, ↓pick_ite, seval, FinQ, AS.result, resAll, resOne, tupV, e2]
  · have hfm := Tm.rw_fm hf
    have hstep := Tm.step_in hf q4
    have hhd := Tm.size_pos t.hd
    generalize t.hd = hd at *
    generalize t.rw_ = l at *
    have hq : (hd.name = ⟨#[105]⟩ ∧ ¬ 1 ≤ (l.length : Int) ∧ True) ∨ (hd.name = ⟨#[107]⟩ ∧ ¬ 2 ≤ (l.length : Int) ∧ True) ∨ (hd.name = ⟨#[115]⟩ ∧ ¬ 3 ≤ (l.length : Int) ∧ True) ∨ (¬ hd.name = ⟨#[105]⟩ ∧ ¬ hd.name = ⟨#[107]⟩ ∧ ¬ hd.name = ⟨#[115]⟩) := by
      rcases q5 with ⟨a, b⟩ | ⟨a, b⟩ | ⟨a, b⟩ | h
      · exact Or.inl ⟨a, b, trivial⟩
      · exact Or.inr (Or.inl ⟨a, b, trivial⟩)
      · exact Or.inr (Or.inr (Or.inl ⟨a, b, trivial⟩))
      · exact Or.inr (Or.inr (Or.inr h))
    rcases hq with ⟨q1, q6, q7⟩ | ⟨q1, q6, q7⟩ | ⟨q1, q6, q7⟩ | ⟨q1, q6, q7⟩
    all_goals
      refine ac_R_CombStep (Nat.le_of_ble_eq_true rfl) fun C hC => ?_
      unfold ir_R_CombStep
      repeat' (first | (with_reducible first | refine Wa ?_ | refine Wb ?_ | refine Wc ?_ | refine Wd ?_ | refine We ?_ | refine Wf ?_ | refine Wg ?_ | refine Wh ?_ | refine Wi ?_ | refine Wj ?_ | refine Wk (by decide) ?_ | refine Wl ?_ | refine Wm ?_ | refine Wn ?_) | ((with_reducible first | refine Wo (fun K hK => ?_) | refine Wp ?_ | refine Wq ?_ | refine Wr ?_); (try simp only [go_sem, List.forall_mem_nil, ↓guard_ite, ↓pick_ite, seval, encT_eq, inR_i64, decide_eq_true_eq, decide_eq_false_iff_not, Int.ofNat_lt]); (repeat with_reducible refine And.intro (by first | omega | with_reducible exact lens_encT | with_reducible exact lens_encL | (simp; done) | (simp only [List.length_take, List.length_map, List.length_append, maxLen_eq]; omega)) ?_); (try (with_reducible refine hK _ ?_; clear hK K)); (try with_reducible refine ite_conj ?_)))
      refine ⟨_, hR, ?_⟩
      repeat' (first | (with_reducible first | refine Wa ?_ | refine Wb ?_ | refine Wc ?_ | refine Wd ?_ | refine We ?_ | refine Wf ?_ | refine Wg ?_ | refine Wh ?_ | refine Wi ?_ | refine Wj ?_ | refine Wk (by decide) ?_ | refine Wl ?_ | refine Wm ?_ | refine Wn ?_) | ((with_reducible first | refine Wo (fun K hK => ?_) | refine Wp ?_ | refine Wq ?_ | refine Wr ?_); (try simp only [go_sem, List.forall_mem_nil, ↓guard_ite, ↓pick_ite, seval, encT_eq, inR_i64, q1, q6, q7, ik, is_, ki, ks, si, sk, decide_eq_true_eq, decide_eq_false_iff_not, Int.ofNat_lt]); (repeat with_reducible refine And.intro (by first | omega | with_reducible exact lens_encT | with_reducible exact lens_encL | (simp; done) | (simp only [List.length_take, List.length_map, List.length_append, maxLen_eq]; omega)) ?_); (try (with_reducible refine hK _ ?_; clear hK K)); (try with_reducible refine ite_conj ?_)))
      refine IWP.loopD [10] (fun n s => ∃ i, i ≤ l.length ∧ n = l.length - i ∧ firstBy Tm.step (l.take i) = none ∧ s.env 1 = .one (.ptr 1 1 0 0) ∧ s.env 2 = .one (.ptr 2 1 0 0) ∧ s.env 4 = .one (.ptr 4 1 0 0) ∧ s.env 5 = aTms l ∧ s.env 7 = .one (.ptr 7 1 0 0) ∧ s.S 1 = some (.box 30 [.st (.str t.name), .st (.list (t.args.map encT))]) ∧ s.S 2 = some (.box 30 [.st (.str ⟨#[]⟩), .full []]) ∧ s.S 4 = some (.box 30 [.st (.str hd.name), .st (.list (hd.args.map encT))]) ∧ s.S 7 = some (.box 30 [.st (.str ⟨#[]⟩), .full []]) ∧ s.env 9 = aInt i ∧ s.S 10 = none) l.length
        ⟨0, Nat.zero_le _, rfl, rfl, rfl, rfl, rfl, rfl, rfl, rfl, rfl, by first | rfl | (rw [q1]; rfl), rfl, rfl, rfl⟩ ?_
      rintro n ⟨env, S⟩ ⟨i, hi, rfl, hp, e1, e2, e4, e5, e7, s1, s2, s4, s7, e9, s10⟩
      simp only at e1 e2 e4 e5 e7 s1 s2 s4 s7 e9 s10
      by_cases hlt : (i : Int) < l.length
      · obtain ⟨z, hz'⟩ := get_lt (show i < l.length by omega)
        have hzm := mem_of_get hz'
        have zs := Tm.size_mem hzm
        have ihz := ih z.size (by omega) z (hfm z hzm) (by omega) rfl
        unfold Tm.stepR at ihz
        cases ho : z.step with
        | none =>
          rw [ho] at ihz
          repeat' (first | (with_reducible first | refine Wa ?_ | refine Wb ?_ | refine Wc ?_ | refine Wd ?_ | refine We ?_ | refine Wf ?_ | refine Wg ?_ | refine Wh ?_ | refine Wi ?_ | refine Wj ?_ | refine Wk (by decide) ?_ | refine Wl ?_ | refine Wm ?_ | refine Wn ?_) | ((with_reducible first | refine Wo (fun K hK => ?_) | refine Wp ?_ | refine Wq ?_ | refine Wr ?_); (try simp only [go_sem, List.forall_mem_nil, ↓guard_ite, ↓pick_ite, seval, encT_eq, inR_i64, e1, e2, e4, e5, e7, s1, s2, s4, s7, e9, s10, hz', hlt, decide_eq_true_eq, decide_eq_false_iff_not, Int.ofNat_lt]); (repeat with_reducible refine And.intro (by first | omega | with_reducible exact lens_encT | with_reducible exact lens_encL | (simp; done) | (simp only [List.length_take, List.length_map, List.length_append, maxLen_eq]; omega)) ?_); (try (with_reducible refine hK _ ?_; clear hK K)); (try with_reducible refine ite_conj ?_)))
          refine ⟨_, ihz, ?_⟩
          repeat' (first | (with_reducible first | refine Wa ?_ | refine Wb ?_ | refine Wc ?_ | refine Wd ?_ | refine We ?_ | refine Wf ?_ | refine Wg ?_ | refine Wh ?_ | refine Wi ?_ | refine Wj ?_ | refine Wk (by decide) ?_ | refine Wl ?_ | refine Wm ?_ | refine Wn ?_) | ((with_reducible first | refine Wo (fun K hK => ?_) | refine Wp ?_ | refine Wq ?_ | refine Wr ?_); (try simp only [go_sem, List.forall_mem_nil, ↓guard_ite, ↓pick_ite, seval, encT_eq, inR_i64, e1, e2, e4, e5, e7, s1, s2, s4, s7, e9, s10, decide_eq_true_eq, decide_eq_false_iff_not, Int.ofNat_lt]); (repeat with_reducible refine And.intro (by first | omega | with_reducible exact lens_encT | with_reducible exact lens_encL | (simp; done) | (simp only [List.length_take, List.length_map, List.length_append, maxLen_eq]; omega)) ?_); (try (with_reducible refine hK _ ?_; clear hK K)); (try with_reducible refine ite_conj ?_)))
          refine then_normal ⟨l.length - (i + 1), by omega, i + 1, by omega, rfl, ?_⟩
          simp only [go_sem, List.forall_mem_nil, ↓guard_ite, ↓pick_ite, seval, AS.drop, dropS, AC.clears, AC.clear, AC.highs, AC.high, Bool.not_false, Bool.true_and, Bool.and_self, AV.purge, AV.purges, AC.purge, ABlk.purge, List.contains_cons, List.contains_nil, Nat.reduceBEq, Bool.or_self, Bool.or_false, Bool.false_or, Bool.or_true, encT_eq, inR_i64, e1, e2, e4, e5, e7, s1, s2, s4, s7, e9, s10]
          exact ⟨firstBy_none hz' hp ho, by congr 3⟩
        | some y =>
          rw [ho] at ihz
          rw [hstep, firstBy_some hz' hp ho]
          have hil : i < l.length := by omega
          repeat' (first | (with_reducible first | refine Wa ?_ | refine Wb ?_ | refine Wc ?_ | refine Wd ?_ | refine We ?_ | refine Wf ?_ | refine Wg ?_ | refine Wh ?_ | refine Wi ?_ | refine Wj ?_ | refine Wk (by decide) ?_ | refine Wl ?_ | refine Wm ?_ | refine Wn ?_) | ((with_reducible first | refine Wo (fun K hK => ?_) | refine Wp ?_ | refine Wq ?_ | refine Wr ?_); (try simp only [go_sem, List.forall_mem_nil, ↓guard_ite, ↓pick_ite, seval, encT_eq, inR_i64, e1, e2, e4, e5, e7, s1, s2, s4, s7, e9, s10, hz', hlt, decide_eq_true_eq, decide_eq_false_iff_not, Int.ofNat_lt]); (repeat with_reducible refine And.intro (by first | omega | with_reducible exact lens_encT | with_reducible exact lens_encL | (simp; done) | (simp only [List.length_take, List.length_map, List.length_append, maxLen_eq]; omega)) ?_); (try (with_reducible refine hK _ ?_; clear hK K)); (try with_reducible refine ite_conj ?_)))
          refine ⟨_, ihz, ?_⟩
          repeat' (first | (with_reducible first | refine Wa ?_ | refine Wb ?_ | refine Wc ?_ | refine Wd ?_ | refine We ?_ | refine Wf ?_ | refine Wg ?_ | refine Wh ?_ | refine Wi ?_ | refine Wj ?_ | refine Wk (by decide) ?_ | refine Wl ?_ | refine Wm ?_ | refine Wn ?_) | ((with_reducible first | refine Wo (fun K hK => ?_) | refine Wp ?_ | refine Wq ?_ | refine Wr ?_); (try simp only [go_sem, List.forall_mem_nil, ↓guard_ite, ↓pick_ite, seval, encT_eq, inR_i64, e1, e2, e4, e5, e7, s1, s2, s4, s7, e9, s10, decide_eq_true_eq, decide_eq_false_iff_not, Int.ofNat_lt]); (repeat with_reducible refine And.intro (by first | omega | with_reducible exact lens_encT | with_reducible exact lens_encL | (simp; done) | (simp only [List.length_take, List.length_map, List.length_append, maxLen_eq]; omega)) ?_); (try (with_reducible refine hK _ ?_; clear hK K)); (try with_reducible refine ite_conj ?_)))
          refine IWP.loop (fun n s => ∃ k, k ≤ l.length ∧ n = l.length - k ∧ s.env 2 = .one (.ptr 2 1 0 0) ∧ s.env 5 = aTms l ∧ s.env 7 = .one (.ptr 7 1 0 0) ∧ s.env 9 = aInt i ∧ s.env 10 = .one (.ptr 10 1 0 0) ∧ s.S 2 = some (.box 30 [.st (.str ⟨#[]⟩), .full []]) ∧ s.S 7 = some (.box 30 [.st (.str (aps hd ((l.set i y).take k)).name), .st (.list ((aps hd ((l.set i y).take k)).args.map encT))]) ∧ s.S 10 = some (.box 30 [.st (.str y.name), .st (.list (y.args.map encT))]) ∧ s.env 12 = aInt k) l.length
            ⟨0, Nat.zero_le _, rfl, by simp only [go_sem, List.forall_mem_nil, ↓guard_ite, ↓pick_ite, seval, encT_eq, inR_i64, e2], by simp only [go_sem, List.forall_mem_nil, ↓guard_ite, ↓pick_ite, seval, encT_eq, inR_i64, e5], by simp only [go_sem, List.forall_mem_nil, ↓guard_ite, ↓pick_ite, seval, encT_eq, inR_i64, e7], by simp only [go_sem, List.forall_mem_nil, ↓guard_ite, ↓pick_ite, seval, encT_eq, inR_i64, e9], rfl, by simp only [go_sem, List.forall_mem_nil, ↓guard_ite, ↓pick_ite, seval, encT_eq, inR_i64, s2], by simp only [go_sem, List.forall_mem_nil, ↓guard_ite, ↓pick_ite, seval, encT_eq, inR_i64, s4]; rfl, by simp only [go_sem, List.forall_mem_nil, ↓guard_ite, ↓pick_ite, seval, encT_eq, inR_i64], rfl⟩ ?_
          rintro n ⟨env', S'⟩ ⟨k, hk, rfl, f2, f5, f7, f9, f10, t2, t7, t10, f12⟩
          simp only at f2 f5 f7 f9 f10 t2 t7 t10 f12
          by_cases hlt' : (k : Int) < l.length
          · obtain ⟨a, ha⟩ := get_lt (show k < l.length by omega)
            have hset := set_get (x := y) hil ha
            by_cases hki : (k : Int) = i
            · have hki' : k = i := by omega
              rw [if_pos hki'] at hset
              repeat' (first | (with_reducible first | refine Wa ?_ | refine Wb ?_ | refine Wc ?_ | refine Wd ?_ | refine We ?_ | refine Wf ?_ | refine Wg ?_ | refine Wh ?_ | refine Wi ?_ | refine Wj ?_ | refine Wk (by decide) ?_ | refine Wl ?_ | refine Wm ?_ | refine Wn ?_) | ((with_reducible first | refine Wo (fun K hK => ?_) | refine Wp ?_ | refine Wq ?_ | refine Wr ?_); (try simp only [go_sem, List.forall_mem_nil, ↓guard_ite, ↓pick_ite, seval, encT_eq, inR_i64, f2, f5, f7, f9, f10, t2, t7, t10, f12, ha, hlt', hki, hil, decide_eq_true_eq, decide_eq_false_iff_not, Int.ofNat_lt]); (repeat with_reducible refine And.intro (by first | omega | with_reducible exact lens_encT | with_reducible exact lens_encL | (simp; done) | (simp only [List.length_take, List.length_map, List.length_append, maxLen_eq]; omega)) ?_); (try (with_reducible refine hK _ ?_; clear hK K)); (try with_reducible refine ite_conj ?_)))
              refine ⟨_, put2_a (aps hd ((l.set i y).take k)) y, ?_⟩
              repeat' (first | (with_reducible first | refine Wa ?_ | refine Wb ?_ | refine Wc ?_ | refine Wd ?_ | refine We ?_ | refine Wf ?_ | refine Wg ?_ | refine Wh ?_ | refine Wi ?_ | refine Wj ?_ | refine Wk (by decide) ?_ | refine Wl ?_ | refine Wm ?_ | refine Wn ?_) | ((with_reducible first | refine Wo (fun K hK => ?_) | refine Wp ?_ | refine Wq ?_ | refine Wr ?_); (try simp only [go_sem, List.forall_mem_nil, ↓guard_ite, ↓pick_ite, seval, encT_eq, inR_i64, f2, f5, f7, f9, f10, t2, t7, t10, f12, decide_eq_true_eq, decide_eq_false_iff_not, Int.ofNat_lt]); (repeat with_reducible refine And.intro (by first | omega | with_reducible exact lens_encT | with_reducible exact lens_encL | (simp; done) | (simp only [List.length_take, List.length_map, List.length_append, maxLen_eq]; omega)) ?_); (try (with_reducible refine hK _ ?_; clear hK K)); (try with_reducible refine ite_conj ?_)))
              refine then_normal ⟨l.length - (k + 1), by omega, k + 1, by omega, rfl, ?_⟩
              simp only [go_sem, List.forall_mem_nil, ↓guard_ite, ↓pick_ite, seval, encT_eq, inR_i64, f2, f5, f7, f9, f10, t2, t7, t10, f12]
              exact ⟨by rw [take_snoc hset, aps_snoc], by congr 3⟩
            · have hki' : ¬ k = i := by omega
              rw [if_neg hki'] at hset
              repeat' (first | (with_reducible first | refine Wa ?_ | refine Wb ?_ | refine Wc ?_ | refine Wd ?_ | refine We ?_ | refine Wf ?_ | refine Wg ?_ | refine Wh ?_ | refine Wi ?_ | refine Wj ?_ | refine Wk (by decide) ?_ | refine Wl ?_ | refine Wm ?_ | refine Wn ?_) | ((with_reducible first | refine Wo (fun K hK => ?_) | refine Wp ?_ | refine Wq ?_ | refine Wr ?_); (try simp only [go_sem, List.forall_mem_nil, ↓guard_ite, ↓pick_ite, seval, encT_eq, inR_i64, f2, f5, f7, f9, f10, t2, t7, t10, f12, ha, hlt', hki, decide_eq_true_eq, decide_eq_false_iff_not, Int.ofNat_lt]); (repeat with_reducible refine And.intro (by first | omega | with_reducible exact lens_encT | with_reducible exact lens_encL | (simp; done) | (simp only [List.length_take, List.length_map, List.length_append, maxLen_eq]; omega)) ?_); (try (with_reducible refine hK _ ?_; clear hK K)); (try with_reducible refine ite_conj ?_)))
              refine ⟨_, put2_a (aps hd ((l.set i y).take k)) a, ?_⟩
              repeat' (first | (with_reducible first | refine Wa ?_ | refine Wb ?_ | refine Wc ?_ | refine Wd ?_ | refine We ?_ | refine Wf ?_ | refine Wg ?_ | refine Wh ?_ | refine Wi ?_ | refine Wj ?_ | refine Wk (by decide) ?_ | refine Wl ?_ | refine Wm ?_ | refine Wn ?_) | ((with_reducible first | refine Wo (fun K hK => ?_) | refine Wp ?_ | refine Wq ?_ | refine Wr ?_); (try simp only [go_sem, List.forall_mem_nil, ↓guard_ite, ↓pick_ite, seval, encT_eq, inR_i64, f2, f5, f7, f9, f10, t2, t7, t10, f12, decide_eq_true_eq, decide_eq_false_iff_not, Int.ofNat_lt]); (repeat with_reducible refine And.intro (by first | omega | with_reducible exact lens_encT | with_reducible exact lens_encL | (simp; done) | (simp only [List.length_take, List.length_map, List.length_append, maxLen_eq]; omega)) ?_); (try (with_reducible refine hK _ ?_; clear hK K)); (try with_reducible refine ite_conj ?_)))
              refine then_normal ⟨l.length - (k + 1), by omega, k + 1, by omega, rfl, ?_⟩
              simp only [go_sem, List.forall_mem_nil, ↓guard_ite, ↓pick_ite, seval, encT_eq, inR_i64, f2, f5, f7, f9, f10, t2, t7, t10, f12]
              exact ⟨by rw [take_snoc hset, aps_snoc], by congr 3⟩
          · rw [List.take_of_length_le (by rw [List.length_set]; omega)] at t7
            repeat' (first | (with_reducible first | refine Wa ?_ | refine Wb ?_ | refine Wc ?_ | refine Wd ?_ | refine We ?_ | refine Wf ?_ | refine Wg ?_ | refine Wh ?_ | refine Wi ?_ | refine Wj ?_ | refine Wk (by decide) ?_ | refine Wl ?_ | refine Wm ?_ | refine Wn ?_) | ((with_reducible first | refine Wo (fun K hK => ?_) | refine Wp ?_ | refine Wq ?_ | refine Wr ?_); (try simp only [go_sem, List.forall_mem_nil, ↓guard_ite, ↓pick_ite, seval, encT_eq, inR_i64, f2, f5, f7, f9, f10, t2, t7, t10, f12, hlt', decide_eq_true_eq, decide_eq_false_iff_not, Int.ofNat_lt]); (repeat with_reducible refine And.intro (by first | omega | with_reducible exact lens_encT | with_reducible exact lens_encL | (simp; done) | (simp only [List.length_take, List.length_map, List.length_append, maxLen_eq]; omega)) ?_); (try (with_reducible refine hK _ ?_; clear hK K)); (try with_reducible refine ite_conj ?_)))
            simp only [go_sem, List.forall_mem_nil, ↓guard_ite, ↓pick_ite, seval, FinQ, AS.result, resAll, resOne, tupV, f2]
      · rw [List.take_of_length_le (by omega)] at hp
        rw [hstep, hp]
        repeat' (first | (with_reducible first | refine Wa ?_ | refine Wb ?_ | refine Wc ?_ | refine Wd ?_ | refine We ?_ | refine Wf ?_ | refine Wg ?_ | refine Wh ?_ | refine Wi ?_ | refine Wj ?_ | refine Wk (by decide) ?_ | refine Wl ?_ | refine Wm ?_ | refine Wn ?_) | ((with_reducible first | refine Wo (fun K hK => ?_) | refine Wp ?_ | refine Wq ?_ | refine Wr ?_); (try simp only [go_sem, List.forall_mem_nil, ↓guard_ite, ↓pick_ite, seval, encT_eq, inR_i64, e1, e2, e4, e5, e7, s1, s2, s4, s7, e9, s10, hlt, decide_eq_true_eq, decide_eq_false_iff_not, Int.ofNat_lt]); (repeat with_reducible refine And.intro (by first | omega | with_reducible exact lens_encT | with_reducible exact lens_encL | (simp; done) | (simp only [List.length_take, List.length_map, List.length_append, maxLen_eq]; omega)) ?_); (try (with_reducible refine hK _ ?_; clear hK K)); (try with_reducible refine ite_conj ?_)))
        simp only [go_sem, List.forall_mem_nil, ↓guard_ite, ↓pick_ite, seval, FinQ, AS.result, resAll, resOne, tupV, e2]
end Go.Proofs.YtbiadmlfejnbcaaGreatDoor

namespace Go.Proofs.YtbiadmlfejnbcaaGreatDoor
open Go Go.RowKit
set_option linter.unusedVariables false
set_option linter.unusedSimpArgs false
set_option maxHeartbeats 2000000

/-- The i-th from a row's end, where the row is read alone. -/
theorem at_S2 (ws : List Tm) (i : Nat) (x : Tm) (hi : i < ws.length) (hx : ws[ws.length - 1 - i]? = some x) (hl : ws.length ≤ 1000000) (b r c : Nat) (hb : 1000 ≤ b) (hr : 1000 ≤ r) (hc : 1000 ≤ c) (S : AStore)
    (sb : S b = some (.box 28 [.row r ws.length])) (sr : S r = some (.arow 30 2 (ws.map encT))) (sc : S c = some (.box 3 [.st (.int .i64 ws.length)])) :
    ACallsS Tryz.prog 64 [aInt i, .one (.ptr b 1 0 0), .one (.ptr c 1 0 0)] S (aTm x) S := by
  refine acS_comb_step_1 (Nat.le_of_ble_eq_true rfl) fun hS C hC => ?_
  unfold ir_comb_step_1
  have s4 : S 4 = none := clean_none hS (by omega)
  have b4 : ¬ b = 4 := by omega
  have r4 : ¬ r = 4 := by omega
  have c4 : ¬ c = 4 := by omega
  have hto : ((ws.length : Int) - 1 - i).toNat = ws.length - 1 - i := by omega
  have h0 : 0 ≤ (ws.length : Int) - 1 - i := by omega
  have hlt : ws.length - 1 - i < ws.length := by omega
  repeat' (first | (with_reducible first | refine Wa ?_ | refine Wb ?_ | refine Wc ?_ | refine Wd ?_ | refine We ?_ | refine Wf ?_ | refine Wg ?_ | refine Wh ?_ | refine Wi ?_ | refine Wj ?_ | refine Wk (by decide) ?_ | refine Wl ?_ | refine Wm ?_ | refine Wn ?_) | ((with_reducible first | refine Wo (fun K hK => ?_) | refine Wp ?_ | refine Wq ?_ | refine Wr ?_); (try simp only [go_sem, List.forall_mem_nil, ↓guard_ite, ↓pick_ite, seval, encT_eq, inR_i64, s4, sb, sr, sc, b4, r4, c4, hto, h0, hlt, hx, decide_eq_true_eq, decide_eq_false_iff_not, Int.ofNat_lt]); (repeat with_reducible refine And.intro (by first | omega | with_reducible exact lens_encT | with_reducible exact lens_encL | (simp; done) | (simp only [List.length_take, List.length_map, List.length_append, maxLen_eq]; omega)) ?_); (try (with_reducible refine hK _ ?_; clear hK K)); (try with_reducible refine ite_conj ?_)))
  refine finS_same (aTm x) hS trivial ?_ ?_ fun j hj => ?_
  · rfl
  · rfl
  · have j4 : ¬ j = 4 := by omega
    simp only [updE, j4, if_false]
theorem rev_at {ws : List Tm} {i : Nat} {x : Tm} (h : ws.reverse[i]? = some x) : i < ws.length ∧ ws[ws.length - 1 - i]? = some x := by
  have hi : i < ws.length := by
    have := (List.getElem?_eq_some_iff.1 h).1
    simpa using this
  rw [List.getElem?_reverse hi] at h
  exact ⟨hi, h⟩
/-- The closure's call, where the row is written to. -/
theorem at_up {ws : List Tm} {i r : Nat} {j : Int} {x : Tm} {S : AStore} (hj : j = i) (h : ws.reverse[i]? = some x) (hl : ws.length ≤ 1000000)
    (s4 : S 4 = some (.box 28 [.row r ws.length])) (sr : S r = some (.mrow 30 2 (ws.map encT))) (s6 : S 6 = some (.box 3 [.st (.int .i64 ws.length)])) :
    ACallsS Tryz.prog 64 [aInt j, .one (.ptr (up1 4) 1 0 0), .one (.ptr (up1 6) 1 0 0)] (upS S) (aTm x) (upS S) := by
  subst hj
  obtain ⟨h1, h2⟩ := rev_at h
  exact at_S ws i x h1 h2 hl (up1 4) (up1 r) (up1 6) (up1_le 4) (up1_le r) (up1_le 6) (upS S) (by rw [upS_up, s4]; rfl) (by rw [upS_up, sr]; rfl) (by rw [upS_up, s6]; rfl)
/-- The same, where the row is read alone. -/
theorem at_up2 {ws : List Tm} {i r : Nat} {j : Int} {x : Tm} {S : AStore} (hj : j = i) (h : ws.reverse[i]? = some x) (hl : ws.length ≤ 1000000)
    (s4 : S 4 = some (.box 28 [.row r ws.length])) (sr : S r = some (.arow 30 2 (ws.map encT))) (s6 : S 6 = some (.box 3 [.st (.int .i64 ws.length)])) :
    ACallsS Tryz.prog 64 [aInt j, .one (.ptr (up1 4) 1 0 0), .one (.ptr (up1 6) 1 0 0)] (upS S) (aTm x) (upS S) := by
  subst hj
  obtain ⟨h1, h2⟩ := rev_at h
  exact at_S2 ws i x h1 h2 hl (up1 4) (up1 r) (up1 6) (up1_le 4) (up1_le r) (up1_le 6) (upS S) (by rw [upS_up, s4]; rfl) (by rw [upS_up, sr]; rfl) (by rw [upS_up, s6]; rfl)
theorem clone_up {ws : List Tm} {S : AStore} (h0 : 0 < ws.length) (hl : ws.length ≤ 1000000) (sr : S 27 = some (.arow 30 2 (ws.map encT))) (s21 : S 21 = none) :
    ACallsS Tryz.prog 65 [.one (.row (up1 27) ws.length)] (upS S) (.one (.row (up1 21) ws.length)) (updE (upS S) (up1 21) (some (.mrow 30 2 (ws.map encT)))) :=
  clone_S ws h0 hl (up1 27) (up1 21) (up1_le 27) (up1_le 21) (upS S) (by rw [upS_up, sr]; rfl) (by rw [upS_up, s21]; rfl)
theorem last_get (ws : List Tm) (z : List SV) : (ws.map encT ++ [z])[ws.length]? = some z := by
  rw [List.getElem?_append_right (by simp)]
  simp
theorem last_set (ws : List Tm) (z y : List SV) : (ws.map encT ++ [z]).set ws.length y = ws.map encT ++ [y] := by
  rw [List.set_append_right _ _ (by simp)]
  simp
theorem set_rev {ws : List Tm} {i : Nat} {y : Tm} (hi : i < ws.length) : (ws.set (ws.length - 1 - i) y).reverse = ws.reverse.set i y := by
  apply List.ext_getElem?
  intro j
  by_cases hj : j < ws.length
  · rw [List.getElem?_reverse (by simpa using hj), List.length_set]
    by_cases hji : j = i
    · subst hji
      rw [List.getElem?_set_self (by omega), List.getElem?_set_self (by simpa using hi)]
    · rw [List.getElem?_set_ne (by omega), List.getElem?_set_ne (by omega), List.getElem?_reverse hj]
  · rw [List.getElem?_eq_none (by simp; omega), List.getElem?_eq_none (by simp; omega)]
theorem step_len {t h : Tm} {ws : List Tm} (hf : t.fm = true) (hr : t.rw_ = h.rw_ ++ ws.reverse) : ws.length ≤ t.size := by
  have h1 := Tm.rw_size hf
  have h2 := congrArg List.length hr
  simp only [List.length_append, List.length_reverse] at h2
  omega
theorem stepC_a (t : Tm) (hf : t.fm = true) (hz : t.size ≤ 1000000) : ACalls Tryz.prog 45 [aTm t] t.stepR := by
  induction h : t.size using Nat.strongRecOn generalizing t with
  | _ N ih =>
  subst h
  unfold Tm.stepR
  refine ac_comb_step (Nat.le_of_ble_eq_true rfl) fun C hC => ?_
  unfold ir_comb_step
  repeat' (first | (with_reducible first | refine Wa ?_ | refine Wb ?_ | refine Wc ?_ | refine Wd ?_ | refine We ?_ | refine Wf ?_ | refine Wg ?_ | refine Wh ?_ | refine Wi ?_ | refine Wj ?_ | refine Wk (by decide) ?_ | refine Wl ?_ | refine Wm ?_ | refine Wn ?_) | ((with_reducible first | refine Wo (fun K hK => ?_) | refine Wp ?_ | refine Wq ?_ | refine Wr ?_); (try simp only [go_sem, List.forall_mem_nil, ↓guard_ite, ↓pick_ite, seval, encT_eq, inR_i64, decide_eq_true_eq, decide_eq_false_iff_not, Int.ofNat_lt]); (repeat with_reducible refine And.intro (by first | omega | with_reducible exact lens_encT | with_reducible exact lens_encL | (simp; done) | (simp only [List.length_take, List.length_map, List.length_append, maxLen_eq]; omega)) ?_); (try (with_reducible refine hK _ ?_; clear hK K)); (try with_reducible refine ite_conj ?_)))
  refine IWP.loop (fun n s => ∃ (h' : Tm) (ws : List Tm), n = h'.size ∧ h'.fm = true ∧ t.rw_ = h'.rw_ ++ ws.reverse ∧ t.hd = h'.hd ∧ s.env 1 = .one (.ptr 1 1 0 0) ∧ s.env 2 = .one (.ptr 2 1 0 0) ∧ s.env 4 = .one (.ptr 4 1 0 0) ∧ s.env 5 = .one (.ptr 5 1 0 0)
      ∧ s.S 1 = some (.box 30 [.st (.str t.name), .st (.list (t.args.map encT))]) ∧ s.S 2 = some (.box 30 [.st (.str ⟨#[]⟩), .full []]) ∧ s.S 5 = some (.box 30 [.st (.str h'.name), .st (.list (h'.args.map encT))])
      ∧ ((ws = [] ∧ s.S 4 = some (.box 28 [.full []]) ∧ s.S 27 = none) ∨ (0 < ws.length ∧ s.S 4 = some (.box 28 [.row 27 ws.length]) ∧ s.S 27 = some (.mrow 30 2 (ws.map encT)))) ∧ s.S 6 = none ∧ s.S 8 = none ∧ s.S 11 = none ∧ s.S 21 = none) t.size
    ⟨t, [], rfl, hf, by simp, rfl, rfl, rfl, rfl, rfl, rfl, rfl, rfl, Or.inl ⟨rfl, rfl, rfl⟩, rfl, rfl, rfl, rfl⟩ ?_
  rintro n ⟨env, S⟩ ⟨h', ws, rfl, hf', hr, hd', e1, e2, e4, e5, s1, s2, s5, hw, s6, s8, s11, s21⟩
  simp only at e1 e2 e4 e5 s1 s2 s5 hw s6 s8 s11 s21
  have hlen := step_len hf hr
  rcases Tm.fm_cases hf' with h0 | ⟨f, x, hn, hfx, ff, fx⟩
  case inr =>
    have hfm : f ∈ h'.args := by rw [hfx]; simp
    have sf := Tm.size_mem hfm
    have ss := Tm.size_eq h'
    rw [Tm.rw_ap hfx] at hr
    rw [Tm.hd_ap hfx] at hd'
    rcases hw with ⟨rfl, s4, s27⟩ | ⟨hw0, s4, s27⟩
    · repeat' (first | (with_reducible first | refine Wa ?_ | refine Wb ?_ | refine Wc ?_ | refine Wd ?_ | refine We ?_ | refine Wf ?_ | refine Wg ?_ | refine Wh ?_ | refine Wi ?_ | refine Wj ?_ | refine Wk (by decide) ?_ | refine Wl ?_ | refine Wm ?_ | refine Wn ?_) | ((with_reducible first | refine Wo (fun K hK => ?_) | refine Wp ?_ | refine Wq ?_ | refine Wr ?_); (try simp only [go_sem, List.forall_mem_nil, ↓guard_ite, ↓pick_ite, seval, encT_eq, inR_i64, e1, e2, e4, e5, s1, s2, s5, s4, s27, s6, s8, s11, s21, hfx, Int.cast_ofNat_Int, decide_eq_true_eq, decide_eq_false_iff_not, Int.ofNat_lt]); (repeat with_reducible refine And.intro (by first | omega | with_reducible exact lens_encT | with_reducible exact lens_encL | (simp; done) | (simp only [List.length_take, List.length_map, List.length_append, maxLen_eq]; omega)) ?_); (try (with_reducible refine hK _ ?_; clear hK K)); (try with_reducible refine ite_conj ?_)))
      refine then_normal ⟨f.size, by omega, f, [x], rfl, ff, by simpa using hr, hd', ?_⟩
      simp only [go_sem, List.forall_mem_nil, ↓guard_ite, ↓pick_ite, seval, encT_eq, inR_i64, e1, e2, e4, e5, s1, s2, s5, s4, s27, s6, s8, s11, s21]
      simp [encT_eq]
    · have g1 := last_get ws [.str ⟨#[]⟩, .list []]
      have g2 := last_set ws [.str ⟨#[]⟩, .list []] [.str x.name, .list (x.args.map encT)]
      repeat' (first | (with_reducible first | refine Wa ?_ | refine Wb ?_ | refine Wc ?_ | refine Wd ?_ | refine We ?_ | refine Wf ?_ | refine Wg ?_ | refine Wh ?_ | refine Wi ?_ | refine Wj ?_ | refine Wk (by decide) ?_ | refine Wl ?_ | refine Wm ?_ | refine Wn ?_) | ((with_reducible first | refine Wo (fun K hK => ?_) | refine Wp ?_ | refine Wq ?_ | refine Wr ?_); (try simp only [go_sem, List.forall_mem_nil, ↓guard_ite, ↓pick_ite, seval, encT_eq, inR_i64, e1, e2, e4, e5, s1, s2, s5, s4, s27, s6, s8, s11, s21, hfx, Int.cast_ofNat_Int, g1, g2, decide_eq_true_eq, decide_eq_false_iff_not, Int.ofNat_lt]); (repeat with_reducible refine And.intro (by first | omega | with_reducible exact lens_encT | with_reducible exact lens_encL | (simp; done) | (simp only [List.length_take, List.length_map, List.length_append, maxLen_eq]; omega)) ?_); (try (with_reducible refine hK _ ?_; clear hK K)); (try with_reducible refine ite_conj ?_)))
      refine then_normal ⟨f.size, by omega, f, ws ++ [x], rfl, ff, by simpa using hr, hd', ?_⟩
      simp only [go_sem, List.forall_mem_nil, ↓guard_ite, ↓pick_ite, seval, encT_eq, inR_i64, e1, e2, e4, e5, s1, s2, s5, s4, s27, s6, s8, s11, s21]
      exact Or.inr ⟨by omega, by simp [encT_eq]⟩
  case inl =>
  rw [Tm.rw_leaf h0, List.nil_append] at hr
  rw [Tm.hd_leaf h0] at hd'
  rcases red_cases h'.name ws.reverse with ⟨q1, q2, x, r, q3, q4⟩ | ⟨q1, q2, x, b, r, q3, q4⟩ | ⟨q1, q2, a, b, c, r, q3, q4⟩ | ⟨q4, q5⟩
  · rw [List.length_reverse] at q2
    have p0 : 0 < (ws.length : Int) := by omega
    have p1 : 1 < (ws.length : Int) ∨ True := Or.inr trivial
    rcases hw with ⟨rfl, s4, s27⟩ | ⟨hw0, s4, s27⟩
    · simp at p0
    · skip
      have hst := Tm.step_red (t := t) (by rw [hd', hr]; exact q4)
      rw [hst, hr]
      have g0 : ws.reverse[0]? = some x := by rw [q3]; rfl
      repeat' (first | (with_reducible first | refine Wa ?_ | refine Wb ?_ | refine Wc ?_ | refine Wd ?_ | refine We ?_ | refine Wf ?_ | refine Wg ?_ | refine Wh ?_ | refine Wi ?_ | refine Wj ?_ | refine Wk (by decide) ?_ | refine Wl ?_ | refine Wm ?_ | refine Wn ?_) | (first | refine ⟨by kernel_rfl, _, _, at_up (ws := ws) (i := 0) (r := 27) rfl g0 (by omega) (by simp [updE, s4]) (by simp [updE, s27]) (by simp [updE]), ?_⟩ | refine ⟨_, _, at_up (ws := ws) (i := 0) (r := 27) rfl g0 (by omega) (by simp [updE, s4]) (by simp [updE, s27]) (by simp [updE]), ?_⟩) | ((with_reducible first | refine Wo (fun K hK => ?_) | refine Wp ?_ | refine Wq ?_ | refine Wr ?_); (try simp only [go_sem, List.forall_mem_nil, ↓guard_ite, ↓pick_ite, seval, encT_eq, inR_i64, e1, e2, e4, e5, s1, s2, s5, s4, s27, s6, s8, s11, s21, Int.cast_ofNat_Int, h0, AS.caps, q1, p0, ik, is_, decide_eq_true_eq, decide_eq_false_iff_not, Int.ofNat_lt]); (repeat with_reducible refine And.intro (by first | omega | with_reducible exact lens_encT | with_reducible exact lens_encL | (simp; done) | (simp only [List.length_take, List.length_map, List.length_append, maxLen_eq]; omega)) ?_); (try (with_reducible refine hK _ ?_; clear hK K)); (try with_reducible refine ite_conj ?_)))
      refine IWP.loop (fun n s => ∃ k, 1 ≤ k ∧ k ≤ ws.length ∧ n = ws.length - k ∧ s.env 2 = .one (.ptr 2 1 0 0) ∧ s.env 4 = .one (.ptr 4 1 0 0) ∧ s.env 6 = .one (.ptr 6 1 0 0) ∧ s.env 7 = .one (.fn 64 [.ptr 4 1 0 0, .ptr 6 1 0 0]) ∧ s.env 8 = .one (.ptr 8 1 0 0) ∧ s.S 2 = some (.box 30 [.st (.str ⟨#[]⟩), .full []]) ∧ s.S 4 = some (.box 28 [.row 27 ws.length]) ∧ s.S 27 = some (.mrow 30 2 (ws.map encT)) ∧ s.S 6 = some (.box 3 [.st (.int .i64 ws.length)])
          ∧ s.S 8 = some (.box 30 [.st (.str (aps (x) ((ws.reverse.take k).drop 1)).name), .st (.list ((aps (x) ((ws.reverse.take k).drop 1)).args.map encT))]) ∧ s.env 14 = aInt k) (ws.length - 1)
        ⟨1, Nat.le_refl _, by omega, rfl, by simp only [go_sem, List.forall_mem_nil, ↓guard_ite, ↓pick_ite, seval, encT_eq, inR_i64, e2], by simp only [go_sem, List.forall_mem_nil, ↓guard_ite, ↓pick_ite, seval, encT_eq, inR_i64, e4], rfl, rfl, rfl, by simp only [go_sem, List.forall_mem_nil, ↓guard_ite, ↓pick_ite, seval, encT_eq, inR_i64, s2], by simp only [go_sem, List.forall_mem_nil, ↓guard_ite, ↓pick_ite, seval, encT_eq, inR_i64, s4], by simp only [go_sem, List.forall_mem_nil, ↓guard_ite, ↓pick_ite, seval, encT_eq, inR_i64, s27], rfl, by rw [show (ws.reverse.take 1).drop 1 = [] from by simp]; rfl, rfl⟩ ?_
      rintro n ⟨env', S'⟩ ⟨k, hk0, hk, rfl, f2, f4, f6, f7, f8, t2, t4, t27, t6, t8, f14⟩
      simp only at f2 f4 f6 f7 f8 t2 t4 t27 t6 t8 f14
      by_cases hlt : (k : Int) < ws.length
      · obtain ⟨z, hz'⟩ := get_lt (show k < ws.reverse.length by rw [List.length_reverse]; omega)
        repeat' (first | (with_reducible first | refine Wa ?_ | refine Wb ?_ | refine Wc ?_ | refine Wd ?_ | refine We ?_ | refine Wf ?_ | refine Wg ?_ | refine Wh ?_ | refine Wi ?_ | refine Wj ?_ | refine Wk (by decide) ?_ | refine Wl ?_ | refine Wm ?_ | refine Wn ?_) | (first | refine ⟨by kernel_rfl, _, _, at_up (ws := ws) (i := k) (r := 27) rfl hz' (by omega) (by simp [updE, t4]) (by simp [updE, t27]) (by simp [updE, t6]), ?_⟩ | refine ⟨_, _, at_up (ws := ws) (i := k) (r := 27) rfl hz' (by omega) (by simp [updE, t4]) (by simp [updE, t27]) (by simp [updE, t6]), ?_⟩) | refine CallG.mk _ (apC_a (aps (x) ((ws.reverse.take k).drop 1)) z) ?_ | ((with_reducible first | refine Wo (fun K hK => ?_) | refine Wp ?_ | refine Wq ?_ | refine Wr ?_); (try simp only [go_sem, List.forall_mem_nil, ↓guard_ite, ↓pick_ite, seval, encT_eq, inR_i64, f2, f4, f6, f7, f8, t2, t4, t27, t6, t8, f14, hlt, decide_eq_true_eq, decide_eq_false_iff_not, Int.ofNat_lt]); (repeat with_reducible refine And.intro (by first | omega | with_reducible exact lens_encT | with_reducible exact lens_encL | (simp; done) | (simp only [List.length_take, List.length_map, List.length_append, maxLen_eq]; omega)) ?_); (try (with_reducible refine hK _ ?_; clear hK K)); (try with_reducible refine ite_conj ?_)))
        refine then_normal ⟨ws.length - (k + 1), by omega, k + 1, by omega, by omega, rfl, ?_⟩
        simp only [go_sem, List.forall_mem_nil, ↓guard_ite, ↓pick_ite, seval, encT_eq, inR_i64, f2, f4, f6, f7, f8, t2, t4, t27, t6, t8, f14]
        exact ⟨by rw [drop_take_snoc hk0 hz', aps_snoc], by congr 3⟩
      · rw [List.take_of_length_le (by rw [List.length_reverse]; omega)] at t8
        repeat' (first | (with_reducible first | refine Wa ?_ | refine Wb ?_ | refine Wc ?_ | refine Wd ?_ | refine We ?_ | refine Wf ?_ | refine Wg ?_ | refine Wh ?_ | refine Wi ?_ | refine Wj ?_ | refine Wk (by decide) ?_ | refine Wl ?_ | refine Wm ?_ | refine Wn ?_) | ((with_reducible first | refine Wo (fun K hK => ?_) | refine Wp ?_ | refine Wq ?_ | refine Wr ?_); (try simp only [go_sem, List.forall_mem_nil, ↓guard_ite, ↓pick_ite, seval, encT_eq, inR_i64, f2, f4, f6, f7, f8, t2, t4, t27, t6, t8, f14, hlt, decide_eq_true_eq, decide_eq_false_iff_not, Int.ofNat_lt]); (repeat with_reducible refine And.intro (by first | omega | with_reducible exact lens_encT | with_reducible exact lens_encL | (simp; done) | (simp only [List.length_take, List.length_map, List.length_append, maxLen_eq]; omega)) ?_); (try (with_reducible refine hK _ ?_; clear hK K)); (try with_reducible refine ite_conj ?_)))
        simp only [go_sem, List.forall_mem_nil, ↓guard_ite, ↓pick_ite, seval, FinQ, AS.result, resAll, resOne, tupV, f2]
  · rw [List.length_reverse] at q2
    have p0 : 0 < (ws.length : Int) := by omega
    have p1 : 1 < (ws.length : Int) ∨ True := Or.inr trivial
    rcases hw with ⟨rfl, s4, s27⟩ | ⟨hw0, s4, s27⟩
    · simp at p0
    · skip
      have p1 : 1 < (ws.length : Int) := by omega
      have hst := Tm.step_red (t := t) (by rw [hd', hr]; exact q4)
      rw [hst, hr]
      have g0 : ws.reverse[0]? = some x := by rw [q3]; rfl
      repeat' (first | (with_reducible first | refine Wa ?_ | refine Wb ?_ | refine Wc ?_ | refine Wd ?_ | refine We ?_ | refine Wf ?_ | refine Wg ?_ | refine Wh ?_ | refine Wi ?_ | refine Wj ?_ | refine Wk (by decide) ?_ | refine Wl ?_ | refine Wm ?_ | refine Wn ?_) | (first | refine ⟨by kernel_rfl, _, _, at_up (ws := ws) (i := 0) (r := 27) rfl g0 (by omega) (by simp [updE, s4]) (by simp [updE, s27]) (by simp [updE]), ?_⟩ | refine ⟨_, _, at_up (ws := ws) (i := 0) (r := 27) rfl g0 (by omega) (by simp [updE, s4]) (by simp [updE, s27]) (by simp [updE]), ?_⟩) | ((with_reducible first | refine Wo (fun K hK => ?_) | refine Wp ?_ | refine Wq ?_ | refine Wr ?_); (try simp only [go_sem, List.forall_mem_nil, ↓guard_ite, ↓pick_ite, seval, encT_eq, inR_i64, e1, e2, e4, e5, s1, s2, s5, s4, s27, s6, s8, s11, s21, Int.cast_ofNat_Int, h0, AS.caps, q1, p0, p1, ki, ks, decide_eq_true_eq, decide_eq_false_iff_not, Int.ofNat_lt]); (repeat with_reducible refine And.intro (by first | omega | with_reducible exact lens_encT | with_reducible exact lens_encL | (simp; done) | (simp only [List.length_take, List.length_map, List.length_append, maxLen_eq]; omega)) ?_); (try (with_reducible refine hK _ ?_; clear hK K)); (try with_reducible refine ite_conj ?_)))
      refine IWP.loop (fun n s => ∃ k, 2 ≤ k ∧ k ≤ ws.length ∧ n = ws.length - k ∧ s.env 2 = .one (.ptr 2 1 0 0) ∧ s.env 4 = .one (.ptr 4 1 0 0) ∧ s.env 6 = .one (.ptr 6 1 0 0) ∧ s.env 7 = .one (.fn 64 [.ptr 4 1 0 0, .ptr 6 1 0 0]) ∧ s.env 8 = .one (.ptr 8 1 0 0) ∧ s.S 2 = some (.box 30 [.st (.str ⟨#[]⟩), .full []]) ∧ s.S 4 = some (.box 28 [.row 27 ws.length]) ∧ s.S 27 = some (.mrow 30 2 (ws.map encT)) ∧ s.S 6 = some (.box 3 [.st (.int .i64 ws.length)])
          ∧ s.S 8 = some (.box 30 [.st (.str (aps (x) ((ws.reverse.take k).drop 2)).name), .st (.list ((aps (x) ((ws.reverse.take k).drop 2)).args.map encT))]) ∧ s.env 14 = aInt k) (ws.length - 2)
        ⟨2, Nat.le_refl _, by omega, rfl, by simp only [go_sem, List.forall_mem_nil, ↓guard_ite, ↓pick_ite, seval, encT_eq, inR_i64, e2], by simp only [go_sem, List.forall_mem_nil, ↓guard_ite, ↓pick_ite, seval, encT_eq, inR_i64, e4], rfl, rfl, rfl, by simp only [go_sem, List.forall_mem_nil, ↓guard_ite, ↓pick_ite, seval, encT_eq, inR_i64, s2], by simp only [go_sem, List.forall_mem_nil, ↓guard_ite, ↓pick_ite, seval, encT_eq, inR_i64, s4], by simp only [go_sem, List.forall_mem_nil, ↓guard_ite, ↓pick_ite, seval, encT_eq, inR_i64, s27], rfl, by rw [show (ws.reverse.take 2).drop 2 = [] from by simp]; rfl, rfl⟩ ?_
      rintro n ⟨env', S'⟩ ⟨k, hk0, hk, rfl, f2, f4, f6, f7, f8, t2, t4, t27, t6, t8, f14⟩
      simp only at f2 f4 f6 f7 f8 t2 t4 t27 t6 t8 f14
      by_cases hlt : (k : Int) < ws.length
      · obtain ⟨z, hz'⟩ := get_lt (show k < ws.reverse.length by rw [List.length_reverse]; omega)
        repeat' (first | (with_reducible first | refine Wa ?_ | refine Wb ?_ | refine Wc ?_ | refine Wd ?_ | refine We ?_ | refine Wf ?_ | refine Wg ?_ | refine Wh ?_ | refine Wi ?_ | refine Wj ?_ | refine Wk (by decide) ?_ | refine Wl ?_ | refine Wm ?_ | refine Wn ?_) | (first | refine ⟨by kernel_rfl, _, _, at_up (ws := ws) (i := k) (r := 27) rfl hz' (by omega) (by simp [updE, t4]) (by simp [updE, t27]) (by simp [updE, t6]), ?_⟩ | refine ⟨_, _, at_up (ws := ws) (i := k) (r := 27) rfl hz' (by omega) (by simp [updE, t4]) (by simp [updE, t27]) (by simp [updE, t6]), ?_⟩) | refine CallG.mk _ (apC_a (aps (x) ((ws.reverse.take k).drop 2)) z) ?_ | ((with_reducible first | refine Wo (fun K hK => ?_) | refine Wp ?_ | refine Wq ?_ | refine Wr ?_); (try simp only [go_sem, List.forall_mem_nil, ↓guard_ite, ↓pick_ite, seval, encT_eq, inR_i64, f2, f4, f6, f7, f8, t2, t4, t27, t6, t8, f14, hlt, decide_eq_true_eq, decide_eq_false_iff_not, Int.ofNat_lt]); (repeat with_reducible refine And.intro (by first | omega | with_reducible exact lens_encT | with_reducible exact lens_encL | (simp; done) | (simp only [List.length_take, List.length_map, List.length_append, maxLen_eq]; omega)) ?_); (try (with_reducible refine hK _ ?_; clear hK K)); (try with_reducible refine ite_conj ?_)))
        refine then_normal ⟨ws.length - (k + 1), by omega, k + 1, by omega, by omega, rfl, ?_⟩
        simp only [go_sem, List.forall_mem_nil, ↓guard_ite, ↓pick_ite, seval, encT_eq, inR_i64, f2, f4, f6, f7, f8, t2, t4, t27, t6, t8, f14]
        exact ⟨by rw [drop_take_snoc hk0 hz', aps_snoc], by congr 3⟩
      · rw [List.take_of_length_le (by rw [List.length_reverse]; omega)] at t8
        repeat' (first | (with_reducible first | refine Wa ?_ | refine Wb ?_ | refine Wc ?_ | refine Wd ?_ | refine We ?_ | refine Wf ?_ | refine Wg ?_ | refine Wh ?_ | refine Wi ?_ | refine Wj ?_ | refine Wk (by decide) ?_ | refine Wl ?_ | refine Wm ?_ | refine Wn ?_) | ((with_reducible first | refine Wo (fun K hK => ?_) | refine Wp ?_ | refine Wq ?_ | refine Wr ?_); (try simp only [go_sem, List.forall_mem_nil, ↓guard_ite, ↓pick_ite, seval, encT_eq, inR_i64, f2, f4, f6, f7, f8, t2, t4, t27, t6, t8, f14, hlt, decide_eq_true_eq, decide_eq_false_iff_not, Int.ofNat_lt]); (repeat with_reducible refine And.intro (by first | omega | with_reducible exact lens_encT | with_reducible exact lens_encL | (simp; done) | (simp only [List.length_take, List.length_map, List.length_append, maxLen_eq]; omega)) ?_); (try (with_reducible refine hK _ ?_; clear hK K)); (try with_reducible refine ite_conj ?_)))
        simp only [go_sem, List.forall_mem_nil, ↓guard_ite, ↓pick_ite, seval, FinQ, AS.result, resAll, resOne, tupV, f2]
  · rw [List.length_reverse] at q2
    have p0 : 0 < (ws.length : Int) := by omega
    have p1 : 1 < (ws.length : Int) ∨ True := Or.inr trivial
    rcases hw with ⟨rfl, s4, s27⟩ | ⟨hw0, s4, s27⟩
    · simp at p0
    · skip
      have p1 : 1 < (ws.length : Int) := by omega
      have p2 : 2 < (ws.length : Int) := by omega
      have hst := Tm.step_red (t := t) (by rw [hd', hr]; exact q4)
      rw [hst, hr]
      have g0 : ws.reverse[0]? = some a := by rw [q3]; rfl
      have g1 : ws.reverse[1]? = some b := by rw [q3]; rfl
      have g2 : ws.reverse[2]? = some c := by rw [q3]; rfl
      repeat' (first | (with_reducible first | refine Wa ?_ | refine Wb ?_ | refine Wc ?_ | refine Wd ?_ | refine We ?_ | refine Wf ?_ | refine Wg ?_ | refine Wh ?_ | refine Wi ?_ | refine Wj ?_ | refine Wk (by decide) ?_ | refine Wl ?_ | refine Wm ?_ | refine Wn ?_) | (first | refine ⟨by kernel_rfl, _, _, at_up (ws := ws) (i := 0) (r := 27) rfl g0 (by omega) (by simp [updE, s4]) (by simp [updE, s27]) (by simp [updE]), ?_⟩ | refine ⟨_, _, at_up (ws := ws) (i := 0) (r := 27) rfl g0 (by omega) (by simp [updE, s4]) (by simp [updE, s27]) (by simp [updE]), ?_⟩) | (first | refine ⟨by kernel_rfl, _, _, at_up (ws := ws) (i := 2) (r := 27) rfl g2 (by omega) (by simp [updE, s4]) (by simp [updE, s27]) (by simp [updE]), ?_⟩ | refine ⟨_, _, at_up (ws := ws) (i := 2) (r := 27) rfl g2 (by omega) (by simp [updE, s4]) (by simp [updE, s27]) (by simp [updE]), ?_⟩) | refine CallG.mk _ (apC_a a c) ?_ | (first | refine ⟨by kernel_rfl, _, _, at_up (ws := ws) (i := 1) (r := 27) rfl g1 (by omega) (by simp [updE, s4]) (by simp [updE, s27]) (by simp [updE]), ?_⟩ | refine ⟨_, _, at_up (ws := ws) (i := 1) (r := 27) rfl g1 (by omega) (by simp [updE, s4]) (by simp [updE, s27]) (by simp [updE]), ?_⟩) | refine CallG.mk _ (apC_a b c) ?_ | refine CallG.mk _ (apC_a (ap2 a c) (ap2 b c)) ?_ | ((with_reducible first | refine Wo (fun K hK => ?_) | refine Wp ?_ | refine Wq ?_ | refine Wr ?_); (try simp only [go_sem, List.forall_mem_nil, ↓guard_ite, ↓pick_ite, seval, encT_eq, inR_i64, e1, e2, e4, e5, s1, s2, s5, s4, s27, s6, s8, s11, s21, Int.cast_ofNat_Int, h0, AS.caps, q1, p0, p1, p2, si, sk, decide_eq_true_eq, decide_eq_false_iff_not, Int.ofNat_lt]); (repeat with_reducible refine And.intro (by first | omega | with_reducible exact lens_encT | with_reducible exact lens_encL | (simp; done) | (simp only [List.length_take, List.length_map, List.length_append, maxLen_eq]; omega)) ?_); (try (with_reducible refine hK _ ?_; clear hK K)); (try with_reducible refine ite_conj ?_)))
      refine IWP.loop (fun n s => ∃ k, 3 ≤ k ∧ k ≤ ws.length ∧ n = ws.length - k ∧ s.env 2 = .one (.ptr 2 1 0 0) ∧ s.env 4 = .one (.ptr 4 1 0 0) ∧ s.env 6 = .one (.ptr 6 1 0 0) ∧ s.env 7 = .one (.fn 64 [.ptr 4 1 0 0, .ptr 6 1 0 0]) ∧ s.env 8 = .one (.ptr 8 1 0 0) ∧ s.S 2 = some (.box 30 [.st (.str ⟨#[]⟩), .full []]) ∧ s.S 4 = some (.box 28 [.row 27 ws.length]) ∧ s.S 27 = some (.mrow 30 2 (ws.map encT)) ∧ s.S 6 = some (.box 3 [.st (.int .i64 ws.length)])
          ∧ s.S 8 = some (.box 30 [.st (.str (aps (ap2 (ap2 a c) (ap2 b c)) ((ws.reverse.take k).drop 3)).name), .st (.list ((aps (ap2 (ap2 a c) (ap2 b c)) ((ws.reverse.take k).drop 3)).args.map encT))]) ∧ s.env 14 = aInt k) (ws.length - 3)
        ⟨3, Nat.le_refl _, by omega, rfl, by simp only [go_sem, List.forall_mem_nil, ↓guard_ite, ↓pick_ite, seval, encT_eq, inR_i64, e2], by simp only [go_sem, List.forall_mem_nil, ↓guard_ite, ↓pick_ite, seval, encT_eq, inR_i64, e4], rfl, rfl, rfl, by simp only [go_sem, List.forall_mem_nil, ↓guard_ite, ↓pick_ite, seval, encT_eq, inR_i64, s2], by simp only [go_sem, List.forall_mem_nil, ↓guard_ite, ↓pick_ite, seval, encT_eq, inR_i64, s4], by simp only [go_sem, List.forall_mem_nil, ↓guard_ite, ↓pick_ite, seval, encT_eq, inR_i64, s27], rfl, by rw [show (ws.reverse.take 3).drop 3 = [] from by simp]; rfl, rfl⟩ ?_
      rintro n ⟨env', S'⟩ ⟨k, hk0, hk, rfl, f2, f4, f6, f7, f8, t2, t4, t27, t6, t8, f14⟩
      simp only at f2 f4 f6 f7 f8 t2 t4 t27 t6 t8 f14
      by_cases hlt : (k : Int) < ws.length
      · obtain ⟨z, hz'⟩ := get_lt (show k < ws.reverse.length by rw [List.length_reverse]; omega)
        repeat' (first | (with_reducible first | refine Wa ?_ | refine Wb ?_ | refine Wc ?_ | refine Wd ?_ | refine We ?_ | refine Wf ?_ | refine Wg ?_ | refine Wh ?_ | refine Wi ?_ | refine Wj ?_ | refine Wk (by decide) ?_ | refine Wl ?_ | refine Wm ?_ | refine Wn ?_) | (first | refine ⟨by kernel_rfl, _, _, at_up (ws := ws) (i := k) (r := 27) rfl hz' (by omega) (by simp [updE, t4]) (by simp [updE, t27]) (by simp [updE, t6]), ?_⟩ | refine ⟨_, _, at_up (ws := ws) (i := k) (r := 27) rfl hz' (by omega) (by simp [updE, t4]) (by simp [updE, t27]) (by simp [updE, t6]), ?_⟩) | refine CallG.mk _ (apC_a (aps (ap2 (ap2 a c) (ap2 b c)) ((ws.reverse.take k).drop 3)) z) ?_ | ((with_reducible first | refine Wo (fun K hK => ?_) | refine Wp ?_ | refine Wq ?_ | refine Wr ?_); (try simp only [go_sem, List.forall_mem_nil, ↓guard_ite, ↓pick_ite, seval, encT_eq, inR_i64, f2, f4, f6, f7, f8, t2, t4, t27, t6, t8, f14, hlt, decide_eq_true_eq, decide_eq_false_iff_not, Int.ofNat_lt]); (repeat with_reducible refine And.intro (by first | omega | with_reducible exact lens_encT | with_reducible exact lens_encL | (simp; done) | (simp only [List.length_take, List.length_map, List.length_append, maxLen_eq]; omega)) ?_); (try (with_reducible refine hK _ ?_; clear hK K)); (try with_reducible refine ite_conj ?_)))
        refine then_normal ⟨ws.length - (k + 1), by omega, k + 1, by omega, by omega, rfl, ?_⟩
        simp only [go_sem, List.forall_mem_nil, ↓guard_ite, ↓pick_ite, seval, encT_eq, inR_i64, f2, f4, f6, f7, f8, t2, t4, t27, t6, t8, f14]
        exact ⟨by rw [drop_take_snoc hk0 hz', aps_snoc], by congr 3⟩
      · rw [List.take_of_length_le (by rw [List.length_reverse]; omega)] at t8
        repeat' (first | (with_reducible first | refine Wa ?_ | refine Wb ?_ | refine Wc ?_ | refine Wd ?_ | refine We ?_ | refine Wf ?_ | refine Wg ?_ | refine Wh ?_ | refine Wi ?_ | refine Wj ?_ | refine Wk (by decide) ?_ | refine Wl ?_ | refine Wm ?_ | refine Wn ?_) | ((with_reducible first | refine Wo (fun K hK => ?_) | refine Wp ?_ | refine Wq ?_ | refine Wr ?_); (try simp only [go_sem, List.forall_mem_nil, ↓guard_ite, ↓pick_ite, seval, encT_eq, inR_i64, f2, f4, f6, f7, f8, t2, t4, t27, t6, t8, f14, hlt, decide_eq_true_eq, decide_eq_false_iff_not, Int.ofNat_lt]); (repeat with_reducible refine And.intro (by first | omega | with_reducible exact lens_encT | with_reducible exact lens_encL | (simp; done) | (simp only [List.length_take, List.length_map, List.length_append, maxLen_eq]; omega)) ?_); (try (with_reducible refine hK _ ?_; clear hK K)); (try with_reducible refine ite_conj ?_)))
        simp only [go_sem, List.forall_mem_nil, ↓guard_ite, ↓pick_ite, seval, FinQ, AS.result, resAll, resOne, tupV, f2]
  · skip
    have hq : (h'.name = ⟨#[105]⟩ ∧ ¬ 0 < (ws.length : Int) ∧ True) ∨ (h'.name = ⟨#[107]⟩ ∧ ¬ 1 < (ws.length : Int) ∧ True) ∨ (h'.name = ⟨#[115]⟩ ∧ ¬ 2 < (ws.length : Int) ∧ True) ∨ (¬ h'.name = ⟨#[105]⟩ ∧ ¬ h'.name = ⟨#[107]⟩ ∧ ¬ h'.name = ⟨#[115]⟩) := by
      rw [List.length_reverse] at q5
      rcases q5 with ⟨a, b⟩ | ⟨a, b⟩ | ⟨a, b⟩ | h
      · exact Or.inl ⟨a, by omega, trivial⟩
      · exact Or.inr (Or.inl ⟨a, by omega, trivial⟩)
      · exact Or.inr (Or.inr (Or.inl ⟨a, by omega, trivial⟩))
      · exact Or.inr (Or.inr (Or.inr h))
    rcases hw with ⟨rfl, s4, s27⟩ | ⟨hw0, s4, s27⟩
    · skip
      have hst := Tm.step_in hf (by rw [hd', hr]; exact q4)
      rw [hr] at hst
      rw [hst]
      rcases hq with ⟨q1, q6, q7⟩ | ⟨q1, q6, q7⟩ | ⟨q1, q6, q7⟩ | ⟨q1, q6, q7⟩
      all_goals
        repeat' (first | (with_reducible first | refine Wa ?_ | refine Wb ?_ | refine Wc ?_ | refine Wd ?_ | refine We ?_ | refine Wf ?_ | refine Wg ?_ | refine Wh ?_ | refine Wi ?_ | refine Wj ?_ | refine Wk (by decide) ?_ | refine Wl ?_ | refine Wm ?_ | refine Wn ?_) | ((with_reducible first | refine Wo (fun K hK => ?_) | refine Wp ?_ | refine Wq ?_ | refine Wr ?_); (try simp only [go_sem, List.forall_mem_nil, ↓guard_ite, ↓pick_ite, seval, encT_eq, inR_i64, e1, e2, e4, e5, s1, s2, s5, s4, s27, s6, s8, s11, s21, Int.cast_ofNat_Int, h0, AS.caps, q1, q6, q7, ik, is_, ki, ks, si, sk, decide_eq_true_eq, decide_eq_false_iff_not, Int.ofNat_lt]); (repeat with_reducible refine And.intro (by first | omega | with_reducible exact lens_encT | with_reducible exact lens_encL | (simp; done) | (simp only [List.length_take, List.length_map, List.length_append, maxLen_eq]; omega)) ?_); (try (with_reducible refine hK _ ?_; clear hK K)); (try with_reducible refine ite_conj ?_)))
        refine IWP.loop (fun n s => s.env 1 = .one (.ptr 1 1 0 0) ∧ s.env 2 = .one (.ptr 2 1 0 0) ∧ s.S 1 = some (.box 30 [.st (.str t.name), .st (.list (t.args.map encT))]) ∧ s.S 2 = some (.box 30 [.st (.str ⟨#[]⟩), .full []]) ∧ s.env 36 = aInt 0 ∧ s.env 37 = aInt 0) 0
          ⟨by simp only [go_sem, List.forall_mem_nil, ↓guard_ite, ↓pick_ite, seval, encT_eq, inR_i64, e1], by simp only [go_sem, List.forall_mem_nil, ↓guard_ite, ↓pick_ite, seval, encT_eq, inR_i64, e2], by simp only [go_sem, List.forall_mem_nil, ↓guard_ite, ↓pick_ite, seval, encT_eq, inR_i64, s1], by simp only [go_sem, List.forall_mem_nil, ↓guard_ite, ↓pick_ite, seval, encT_eq, inR_i64, s2], rfl, rfl⟩ ?_
        rintro n ⟨env', S'⟩ ⟨f1, f2, t1, t2, f36, f37⟩
        simp only at f1 f2 t1 t2 f36 f37
        repeat' (first | (with_reducible first | refine Wa ?_ | refine Wb ?_ | refine Wc ?_ | refine Wd ?_ | refine We ?_ | refine Wf ?_ | refine Wg ?_ | refine Wh ?_ | refine Wi ?_ | refine Wj ?_ | refine Wk (by decide) ?_ | refine Wl ?_ | refine Wm ?_ | refine Wn ?_) | ((with_reducible first | refine Wo (fun K hK => ?_) | refine Wp ?_ | refine Wq ?_ | refine Wr ?_); (try simp only [go_sem, List.forall_mem_nil, ↓guard_ite, ↓pick_ite, seval, encT_eq, inR_i64, f1, f2, t1, t2, f36, f37, decide_eq_true_eq, decide_eq_false_iff_not, Int.ofNat_lt]); (repeat with_reducible refine And.intro (by first | omega | with_reducible exact lens_encT | with_reducible exact lens_encL | (simp; done) | (simp only [List.length_take, List.length_map, List.length_append, maxLen_eq]; omega)) ?_); (try (with_reducible refine hK _ ?_; clear hK K)); (try with_reducible refine ite_conj ?_)))
        simp only [go_sem, List.forall_mem_nil, ↓guard_ite, ↓pick_ite, seval, FinQ, AS.result, resAll, resOne, tupV, f2]
        rfl
    · skip
      have hst := Tm.step_in hf (by rw [hd', hr]; exact q4)
      rw [hr, hd'] at hst
      have hfm : ∀ x ∈ ws.reverse, x.fm = true := fun x hx => Tm.rw_fm hf x (by rw [hr]; exact hx)
      have hsz : ∀ x ∈ ws.reverse, x.size < t.size := fun x hx => Tm.rw_lt hf (by rw [hr]; exact hx)
      rcases hq with ⟨q1, q6, q7⟩ | ⟨q1, q6, q7⟩ | ⟨q1, q6, q7⟩ | ⟨q1, q6, q7⟩
      all_goals
        repeat' (first | (with_reducible first | refine Wa ?_ | refine Wb ?_ | refine Wc ?_ | refine Wd ?_ | refine We ?_ | refine Wf ?_ | refine Wg ?_ | refine Wh ?_ | refine Wi ?_ | refine Wj ?_ | refine Wk (by decide) ?_ | refine Wl ?_ | refine Wm ?_ | refine Wn ?_) | ((with_reducible first | refine Wo (fun K hK => ?_) | refine Wp ?_ | refine Wq ?_ | refine Wr ?_); (try simp only [go_sem, List.forall_mem_nil, ↓guard_ite, ↓pick_ite, seval, encT_eq, inR_i64, e1, e2, e4, e5, s1, s2, s5, s4, s27, s6, s8, s11, s21, Int.cast_ofNat_Int, h0, AS.caps, q1, q6, q7, ik, is_, ki, ks, si, sk, decide_eq_true_eq, decide_eq_false_iff_not, Int.ofNat_lt]); (repeat with_reducible refine And.intro (by first | omega | with_reducible exact lens_encT | with_reducible exact lens_encL | (simp; done) | (simp only [List.length_take, List.length_map, List.length_append, maxLen_eq]; omega)) ?_); (try (with_reducible refine hK _ ?_; clear hK K)); (try with_reducible refine ite_conj ?_)))
        refine IWP.loopD [11] (fun n s => ∃ i, i ≤ ws.length ∧ n = ws.length - i ∧ firstBy Tm.step (ws.reverse.take i) = none ∧ s.env 1 = .one (.ptr 1 1 0 0) ∧ s.env 2 = .one (.ptr 2 1 0 0) ∧ s.env 4 = .one (.ptr 4 1 0 0) ∧ s.env 5 = .one (.ptr 5 1 0 0) ∧ s.env 6 = .one (.ptr 6 1 0 0) ∧ s.env 7 = .one (.fn 64 [.ptr 4 1 0 0, .ptr 6 1 0 0]) ∧ s.env 8 = .one (.ptr 8 1 0 0)
            ∧ s.S 1 = some (.box 30 [.st (.str t.name), .st (.list (t.args.map encT))]) ∧ s.S 2 = some (.box 30 [.st (.str ⟨#[]⟩), .full []]) ∧ s.S 5 = some (.box 30 [.st (.str h'.name), .st (.list (h'.args.map encT))]) ∧ s.S 4 = some (.box 28 [.row 27 ws.length]) ∧ s.S 27 = some (.mrow 30 2 (ws.map encT)) ∧ s.S 6 = some (.box 3 [.st (.int .i64 ws.length)]) ∧ s.S 8 = some (.box 30 [.st (.str ⟨#[]⟩), .full []]) ∧ s.S 11 = none ∧ s.S 21 = none ∧ s.env 36 = aInt ws.length ∧ s.env 37 = aInt i) ws.length
          ⟨0, Nat.zero_le _, rfl, rfl, by simp only [go_sem, List.forall_mem_nil, ↓guard_ite, ↓pick_ite, seval, encT_eq, inR_i64, e1], by simp only [go_sem, List.forall_mem_nil, ↓guard_ite, ↓pick_ite, seval, encT_eq, inR_i64, e2], by simp only [go_sem, List.forall_mem_nil, ↓guard_ite, ↓pick_ite, seval, encT_eq, inR_i64, e4], by simp only [go_sem, List.forall_mem_nil, ↓guard_ite, ↓pick_ite, seval, encT_eq, inR_i64, e5], rfl, rfl, rfl, by simp only [go_sem, List.forall_mem_nil, ↓guard_ite, ↓pick_ite, seval, encT_eq, inR_i64, s1], by simp only [go_sem, List.forall_mem_nil, ↓guard_ite, ↓pick_ite, seval, encT_eq, inR_i64, s2], by first | (simp only [go_sem, List.forall_mem_nil, ↓guard_ite, ↓pick_ite, seval, encT_eq, inR_i64, s5]; done) | (simp only [go_sem, List.forall_mem_nil, ↓guard_ite, ↓pick_ite, seval, encT_eq, inR_i64, s5, q1, h0]), by simp only [go_sem, List.forall_mem_nil, ↓guard_ite, ↓pick_ite, seval, encT_eq, inR_i64, s4], by simp only [go_sem, List.forall_mem_nil, ↓guard_ite, ↓pick_ite, seval, encT_eq, inR_i64, s27], rfl, rfl, by simp only [go_sem, List.forall_mem_nil, ↓guard_ite, ↓pick_ite, seval, encT_eq, inR_i64, s11], by simp only [go_sem, List.forall_mem_nil, ↓guard_ite, ↓pick_ite, seval, encT_eq, inR_i64, s21], rfl, rfl⟩ ?_
        rintro n ⟨env', S'⟩ ⟨i, hi, rfl, hp, f1, f2, f4, f5, f6, f7, f8, t1, t2, t5, t4, t27, t6, t8, t11, t21, f36, f37⟩
        simp only at f1 f2 f4 f5 f6 f7 f8 t1 t2 t5 t4 t27 t6 t8 t11 t21 f36 f37
        by_cases hlt : (i : Int) < ws.length
        · obtain ⟨z, hz'⟩ := get_lt (show i < ws.reverse.length by rw [List.length_reverse]; omega)
          have hzm := mem_of_get hz'
          have zs := hsz z hzm
          have ihz := ih z.size zs z (hfm z hzm) (by omega) rfl
          unfold Tm.stepR at ihz
          cases ho : z.step with
          | none =>
            rw [ho] at ihz
            repeat' (first | (with_reducible first | refine Wa ?_ | refine Wb ?_ | refine Wc ?_ | refine Wd ?_ | refine We ?_ | refine Wf ?_ | refine Wg ?_ | refine Wh ?_ | refine Wi ?_ | refine Wj ?_ | refine Wk (by decide) ?_ | refine Wl ?_ | refine Wm ?_ | refine Wn ?_) | (first | refine ⟨by kernel_rfl, _, _, at_up (ws := ws) (i := i) (r := 27) rfl hz' (by omega) (by simp [updE, t4]) (by simp [updE, t27]) (by simp [updE, t6]), ?_⟩ | refine ⟨_, _, at_up (ws := ws) (i := i) (r := 27) rfl hz' (by omega) (by simp [updE, t4]) (by simp [updE, t27]) (by simp [updE, t6]), ?_⟩) | refine CallG.mk _ (ihz) ?_ | ((with_reducible first | refine Wo (fun K hK => ?_) | refine Wp ?_ | refine Wq ?_ | refine Wr ?_); (try simp only [go_sem, List.forall_mem_nil, ↓guard_ite, ↓pick_ite, seval, encT_eq, inR_i64, f1, f2, f4, f5, f6, f7, f8, t1, t2, t5, t4, t27, t6, t8, t11, t21, f36, f37, hlt, decide_eq_true_eq, decide_eq_false_iff_not, Int.ofNat_lt]); (repeat with_reducible refine And.intro (by first | omega | with_reducible exact lens_encT | with_reducible exact lens_encL | (simp; done) | (simp only [List.length_take, List.length_map, List.length_append, maxLen_eq]; omega)) ?_); (try (with_reducible refine hK _ ?_; clear hK K)); (try with_reducible refine ite_conj ?_)))
            refine then_normal ⟨ws.length - (i + 1), by omega, i + 1, by omega, rfl, ?_⟩
            simp only [go_sem, List.forall_mem_nil, ↓guard_ite, ↓pick_ite, seval, AS.drop, dropS, AC.clears, AC.clear, AC.highs, AC.high, Bool.not_false, Bool.true_and, Bool.and_self, AV.purge, AV.purges, AC.purge, ABlk.purge, List.contains_cons, List.contains_nil, Nat.reduceBEq, Bool.or_self, Bool.or_false, Bool.false_or, Bool.or_true, encT_eq, inR_i64, f1, f2, f4, f5, f6, f7, f8, t1, t2, t5, t4, t27, t6, t8, t11, t21, f36, f37]
            exact ⟨firstBy_none hz' hp ho, by congr 3⟩
          | some y =>
            rw [ho] at ihz
            rw [hst, firstBy_some hz' hp ho]
            obtain ⟨hil, hx⟩ := rev_at hz'
            have hto : ((ws.length : Int) - 1 - i).toNat = ws.length - 1 - i := by omega
            have hge : 0 ≤ (ws.length : Int) - 1 - i := by omega
            have hlt2 : ws.length - 1 - i < ws.length := by omega
            refine IWP.ghost (Ghost.share (id := 27) t27) ?_
            repeat' (first | (with_reducible first | refine Wa ?_ | refine Wb ?_ | refine Wc ?_ | refine Wd ?_ | refine We ?_ | refine Wf ?_ | refine Wg ?_ | refine Wh ?_ | refine Wi ?_ | refine Wj ?_ | refine Wk (by decide) ?_ | refine Wl ?_ | refine Wm ?_ | refine Wn ?_) | (first | refine ⟨by kernel_rfl, _, _, at_up2 (ws := ws) (i := i) (r := 27) rfl hz' (by omega) (by simp [updE, t4]) (by simp [updE]) (by simp [updE, t6]), ?_⟩ | refine ⟨_, _, at_up2 (ws := ws) (i := i) (r := 27) rfl hz' (by omega) (by simp [updE, t4]) (by simp [updE]) (by simp [updE, t6]), ?_⟩) | refine CallG.mk _ (ihz) ?_ | ((with_reducible first | refine Wo (fun K hK => ?_) | refine Wp ?_ | refine Wq ?_ | refine Wr ?_); (try simp only [go_sem, List.forall_mem_nil, ↓guard_ite, ↓pick_ite, seval, encT_eq, inR_i64, f1, f2, f4, f5, f6, f7, f8, t1, t2, t5, t4, t6, t8, t11, t21, f36, f37, hlt, decide_eq_true_eq, decide_eq_false_iff_not, Int.ofNat_lt]); (repeat with_reducible refine And.intro (by first | omega | with_reducible exact lens_encT | with_reducible exact lens_encL | (simp; done) | (simp only [List.length_take, List.length_map, List.length_append, maxLen_eq]; omega)) ?_); (try (with_reducible refine hK _ ?_; clear hK K)); (try with_reducible refine ite_conj ?_)))
            refine ⟨_, _, clone_up (ws := ws) hw0 (by omega) (by simp [updE]) (by simp [updE, t21]), ?_⟩
            repeat' (first | (with_reducible first | refine Wa ?_ | refine Wb ?_ | refine Wc ?_ | refine Wd ?_ | refine We ?_ | refine Wf ?_ | refine Wg ?_ | refine Wh ?_ | refine Wi ?_ | refine Wj ?_ | refine Wk (by decide) ?_ | refine Wl ?_ | refine Wm ?_ | refine Wn ?_) | ((with_reducible first | refine Wo (fun K hK => ?_) | refine Wp ?_ | refine Wq ?_ | refine Wr ?_); (try simp only [go_sem, List.forall_mem_nil, ↓guard_ite, ↓pick_ite, seval, encT_eq, inR_i64, f1, f2, f4, f5, f6, f7, f8, t1, t2, t5, t4, t6, t8, t11, t21, f36, f37, hto, hge, hlt2, hx, decide_eq_true_eq, decide_eq_false_iff_not, Int.ofNat_lt]); (repeat with_reducible refine And.intro (by first | omega | with_reducible exact lens_encT | with_reducible exact lens_encL | (simp; done) | (simp only [List.length_take, List.length_map, List.length_append, maxLen_eq]; omega)) ?_); (try (with_reducible refine hK _ ?_; clear hK K)); (try with_reducible refine ite_conj ?_)))
            refine IWP.loop (fun n s => ∃ k, k ≤ ws.length ∧ n = ws.length - k ∧ s.env 2 = .one (.ptr 2 1 0 0) ∧ s.env 4 = .one (.ptr 4 1 0 0) ∧ s.env 6 = .one (.ptr 6 1 0 0) ∧ s.env 7 = .one (.fn 64 [.ptr 4 1 0 0, .ptr 6 1 0 0]) ∧ s.env 8 = .one (.ptr 8 1 0 0) ∧ s.S 2 = some (.box 30 [.st (.str ⟨#[]⟩), .full []]) ∧ s.S 4 = some (.box 28 [.row 21 ws.length]) ∧ s.S 21 = some (.mrow 30 2 ((ws.set (ws.length - 1 - i) y).map encT)) ∧ s.S 6 = some (.box 3 [.st (.int .i64 ws.length)])
                ∧ s.S 8 = some (.box 30 [.st (.str (aps h' ((ws.reverse.set i y).take k)).name), .st (.list ((aps h' ((ws.reverse.set i y).take k)).args.map encT))]) ∧ s.env 58 = aInt ws.length ∧ s.env 59 = aInt k) ws.length
              ⟨0, Nat.zero_le _, rfl, by simp only [go_sem, List.forall_mem_nil, ↓guard_ite, ↓pick_ite, seval, encT_eq, inR_i64, f2], by simp only [go_sem, List.forall_mem_nil, ↓guard_ite, ↓pick_ite, seval, encT_eq, inR_i64, f4], by simp only [go_sem, List.forall_mem_nil, ↓guard_ite, ↓pick_ite, seval, encT_eq, inR_i64, f6], by simp only [go_sem, List.forall_mem_nil, ↓guard_ite, ↓pick_ite, seval, encT_eq, inR_i64, f7], by simp only [go_sem, List.forall_mem_nil, ↓guard_ite, ↓pick_ite, seval, encT_eq, inR_i64, f8], by simp only [go_sem, List.forall_mem_nil, ↓guard_ite, ↓pick_ite, seval, encT_eq, inR_i64, t2], by simp only [go_sem, List.forall_mem_nil, ↓guard_ite, ↓pick_ite, seval, encT_eq, inR_i64], by simp only [go_sem, List.forall_mem_nil, ↓guard_ite, ↓pick_ite, seval, encT_eq, inR_i64]; simp [List.map_set, encT_eq], by simp only [go_sem, List.forall_mem_nil, ↓guard_ite, ↓pick_ite, seval, encT_eq, inR_i64, t6], by simp only [go_sem, List.forall_mem_nil, ↓guard_ite, ↓pick_ite, seval, encT_eq, inR_i64, t5]; rfl, by simp only [go_sem, List.forall_mem_nil, ↓guard_ite, ↓pick_ite, seval, encT_eq, inR_i64, t6], rfl⟩ ?_
            rintro n ⟨env2, S2⟩ ⟨k, hk, rfl, r2, r4, r6, r7, r8, u2, u4, u21, u6, u8, r58, r59⟩
            simp only at r2 r4 r6 r7 r8 u2 u4 u21 u6 u8 r58 r59
            by_cases hlt' : (k : Int) < ws.length
            · obtain ⟨z2, hz2⟩ := get_lt (show k < (ws.reverse.set i y).length by rw [List.length_set, List.length_reverse]; omega)
              have hz3 := hz2
              rw [← set_rev hil] at hz3
              repeat' (first | (with_reducible first | refine Wa ?_ | refine Wb ?_ | refine Wc ?_ | refine Wd ?_ | refine We ?_ | refine Wf ?_ | refine Wg ?_ | refine Wh ?_ | refine Wi ?_ | refine Wj ?_ | refine Wk (by decide) ?_ | refine Wl ?_ | refine Wm ?_ | refine Wn ?_) | (first | refine ⟨by kernel_rfl, _, _, at_up (ws := ws.set (ws.length - 1 - i) y) (i := k) (r := 21) rfl hz3 (by rw [List.length_set]; omega) (by simp [updE, u4]) (by simp [updE, u21]) (by simp [updE, u6]), ?_⟩ | refine ⟨_, _, at_up (ws := ws.set (ws.length - 1 - i) y) (i := k) (r := 21) rfl hz3 (by rw [List.length_set]; omega) (by simp [updE, u4]) (by simp [updE, u21]) (by simp [updE, u6]), ?_⟩) | refine CallG.mk _ (apC_a (aps h' ((ws.reverse.set i y).take k)) z2) ?_ | ((with_reducible first | refine Wo (fun K hK => ?_) | refine Wp ?_ | refine Wq ?_ | refine Wr ?_); (try simp only [go_sem, List.forall_mem_nil, ↓guard_ite, ↓pick_ite, seval, encT_eq, inR_i64, r2, r4, r6, r7, r8, u2, u4, u21, u6, u8, r58, r59, hlt', decide_eq_true_eq, decide_eq_false_iff_not, Int.ofNat_lt]); (repeat with_reducible refine And.intro (by first | omega | with_reducible exact lens_encT | with_reducible exact lens_encL | (simp; done) | (simp only [List.length_take, List.length_map, List.length_append, maxLen_eq]; omega)) ?_); (try (with_reducible refine hK _ ?_; clear hK K)); (try with_reducible refine ite_conj ?_)))
              refine then_normal ⟨ws.length - (k + 1), by omega, k + 1, by omega, rfl, ?_⟩
              simp only [go_sem, List.forall_mem_nil, ↓guard_ite, ↓pick_ite, seval, encT_eq, inR_i64, r2, r4, r6, r7, r8, u2, u4, u21, u6, u8, r58, r59]
              exact ⟨by rw [take_snoc hz2, aps_snoc], by congr 3⟩
            · rw [List.take_of_length_le (by rw [List.length_set, List.length_reverse]; omega)] at u8
              repeat' (first | (with_reducible first | refine Wa ?_ | refine Wb ?_ | refine Wc ?_ | refine Wd ?_ | refine We ?_ | refine Wf ?_ | refine Wg ?_ | refine Wh ?_ | refine Wi ?_ | refine Wj ?_ | refine Wk (by decide) ?_ | refine Wl ?_ | refine Wm ?_ | refine Wn ?_) | ((with_reducible first | refine Wo (fun K hK => ?_) | refine Wp ?_ | refine Wq ?_ | refine Wr ?_); (try simp only [go_sem, List.forall_mem_nil, ↓guard_ite, ↓pick_ite, seval, encT_eq, inR_i64, r2, r4, r6, r7, r8, u2, u4, u21, u6, u8, r58, r59, hlt', decide_eq_true_eq, decide_eq_false_iff_not, Int.ofNat_lt]); (repeat with_reducible refine And.intro (by first | omega | with_reducible exact lens_encT | with_reducible exact lens_encL | (simp; done) | (simp only [List.length_take, List.length_map, List.length_append, maxLen_eq]; omega)) ?_); (try (with_reducible refine hK _ ?_; clear hK K)); (try with_reducible refine ite_conj ?_)))
              simp only [go_sem, List.forall_mem_nil, ↓guard_ite, ↓pick_ite, seval, FinQ, AS.result, resAll, resOne, tupV, r2]
        · rw [List.take_of_length_le (by rw [List.length_reverse]; omega)] at hp
          rw [hst, hp]
          repeat' (first | (with_reducible first | refine Wa ?_ | refine Wb ?_ | refine Wc ?_ | refine Wd ?_ | refine We ?_ | refine Wf ?_ | refine Wg ?_ | refine Wh ?_ | refine Wi ?_ | refine Wj ?_ | refine Wk (by decide) ?_ | refine Wl ?_ | refine Wm ?_ | refine Wn ?_) | ((with_reducible first | refine Wo (fun K hK => ?_) | refine Wp ?_ | refine Wq ?_ | refine Wr ?_); (try simp only [go_sem, List.forall_mem_nil, ↓guard_ite, ↓pick_ite, seval, encT_eq, inR_i64, f1, f2, f4, f5, f6, f7, f8, t1, t2, t5, t4, t27, t6, t8, t11, t21, f36, f37, hlt, decide_eq_true_eq, decide_eq_false_iff_not, Int.ofNat_lt]); (repeat with_reducible refine And.intro (by first | omega | with_reducible exact lens_encT | with_reducible exact lens_encL | (simp; done) | (simp only [List.length_take, List.length_map, List.length_append, maxLen_eq]; omega)) ?_); (try (with_reducible refine hK _ ?_; clear hK K)); (try with_reducible refine ite_conj ?_)))
          simp only [go_sem, List.forall_mem_nil, ↓guard_ite, ↓pick_ite, seval, FinQ, AS.result, resAll, resOne, tupV, f2]
end Go.Proofs.YtbiadmlfejnbcaaGreatDoor
