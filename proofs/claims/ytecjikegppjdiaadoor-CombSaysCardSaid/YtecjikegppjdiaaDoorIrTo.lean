/-
  The program's functions in abstract operations: written by a program of mine out of the translation; each is shown to be the translation's.
  Conditions: none.
-/
import Derived.Test.YtecjikegppjdiaaDoorBAtoi
namespace Go.Proofs.YtecjikegppjdiaaDoor
open Go Go.RowKit
set_option maxRecDepth 100000

def ir_comb_Bracket : IR :=
  (.seq
  (.ops
  [.mk (some 3) none (.box 24 (.t 1)) .no, .mk (some 4) none
  (.alloc 24 [.st (.str (ByteArray.mk (#[]))), .full []])
  .no, .mk (some 5) none (.mov (.c (.one (.st (.int .i64 0)))))
  .no])
  (.seq
  (.seq
  (.ops
  [.mk (some 7) none (.mov (.t 0)) .no, .mk (some 8) none (.call 23 [.t 7]) .no, .mk (some 9) none (.un .not (.t 8)) .no, .mk (some 10) none (.mov (.t 9)) .no, .mk (some 11) (some (10, false)) (.mov (.t 0)) .no, .mk (some 12) (some (10, false)) (.call 24 [.t 11]) .no, .mk (some 13) (some (10, false)) (.un .not (.t 12)) .no, .mk (some 14) none
  (.pick (.t 10) (.c (.one (.st (.bool true)))) (.t 13))
  .no])
  (.cond (.t 14)
  (.seq
  (.ops
  [.mk (some 15) none
  (.build [.st (.str (ByteArray.mk (#[]))), .full []] [])
  .no, .mk none none (.store 2 (.t 4) (.t 15))
  .no, .mk (some 5) none (.mov (.c (.one (.st (.int .i64 1)))))
  .no])
  .ret)
  .skip))
  (.seq
  (.seq
  (.ops
  [.mk (some 16) none (.load true 2 (.t 3)) .no, .mk (some 17) none (.call 11 [.t 16]) .no, .mk (some 6) none (.mov (.t 17)) .no])
  (.seq
  (.ops
  [.mk (some 18) none (.mov (.t 6)) .no, .mk (some 19) none (.bin .neq (.t 18) (.c (.one (.st (.int .i64 0)))))
  .no])
  (.cond (.t 19)
  (.seq
  (.ops
  [.mk (some 20) none
  (.build [.st (.str (ByteArray.mk (#[]))), .full []] [])
  .no, .mk (some 21) none (.mov (.t 6)) .no, .mk none none (.store 2 (.t 4) (.t 20))
  .no, .mk (some 5) none (.mov (.t 21)) .no])
  .ret)
  .skip)))
  (.seq
  (.ops
  [.mk (some 22) none (.mov (.t 0)) .no, .mk (some 23) none (.load true 2 (.t 3)) .no, .mk (some 24) none (.call 26 [.t 22, .t 23])
  .no, .mk (some 25) none (.call 25 [.t 24]) .no, .mk (some 26) none (.extract 0 (.t 25)) .no, .mk (some 27) none (.extract 1 (.t 25)) .no, .mk none none (.store 2 (.t 4) (.t 26))
  .no, .mk (some 5) none (.mov (.t 27)) .no])
  .ret))))
theorem tr_comb_Bracket : trCode Tryd.prog 28 [] (Tryd.f10.body.getD .skip) = some ir_comb_Bracket := by kernel_rfl
theorem ac_comb_Bracket {xs : List AV} {r : AV} (hn : xs.length ≤ 28) (h : ∀ C : Ctx, C.n = 28 → IWP Tryd.prog C [] ir_comb_Bracket (FinQ [.cell 4 true 2, .t 5] r) (AS.start xs)) : ACalls Tryd.prog 10 xs r :=
  acalls_of Tryd.func10 rfl tr_comb_Bracket rfl hn h
theorem acS_comb_Bracket {xs : List AV} {S S' : AStore} {r : AV} (hn : xs.length ≤ 28) (h : Clean S → ∀ C : Ctx, C.n = 28 → IWP Tryd.prog C [] ir_comb_Bracket (FinS C [.cell 4 true 2, .t 5] r S') (AS.startS xs S)) : ACallsS Tryd.prog 10 xs S r S' :=
  acallsS_of Tryd.func10 rfl tr_comb_Bracket rfl hn h

def ir_lambda_C : IR :=
  (.seq
  (.ops
  [.mk (some 2) none
  (.alloc 36
  [.st (.int .i64 0), .st (.int .i64 0),
  .full []])
  .no])
  (.seq
  (.ops
  [.mk (some 3) none (.mov (.t 0)) .no, .mk (some 4) none
  (.build
  [.st (.int .i64 0), .st (.int .i64 0),
  .full []]
  [(0, 1, .c (.one (.st (.int .i64 4)))),
  (1, 1, .t 3)])
  .no, .mk none none (.store 3 (.t 2) (.t 4))
  .no])
  .ret))
theorem tr_lambda_C : trCode Tryd.prog 5 [] (Tryd.f50.body.getD .skip) = some ir_lambda_C := by kernel_rfl
theorem ac_lambda_C {xs : List AV} {r : AV} (hn : xs.length ≤ 5) (h : ∀ C : Ctx, C.n = 5 → IWP Tryd.prog C [] ir_lambda_C (FinQ [.cell 2 true 3] r) (AS.start xs)) : ACalls Tryd.prog 50 xs r :=
  acalls_of Tryd.func50 rfl tr_lambda_C rfl hn h
theorem acS_lambda_C {xs : List AV} {S S' : AStore} {r : AV} (hn : xs.length ≤ 5) (h : Clean S → ∀ C : Ctx, C.n = 5 → IWP Tryd.prog C [] ir_lambda_C (FinS C [.cell 2 true 3] r S') (AS.startS xs S)) : ACallsS Tryd.prog 50 xs S r S' :=
  acallsS_of Tryd.func50 rfl tr_lambda_C rfl hn h

def ir_R_Con : IR :=
  (.seq
  (.ops
  [.mk (some 2) none
  (.alloc 36
  [.st (.int .i64 0), .st (.int .i64 0),
  .full []])
  .no])
  (.seq
  (.ops
  [.mk (some 3) none (.mov (.t 0)) .no, .mk (some 4) none
  (.build
  [.st (.int .i64 0), .st (.int .i64 0),
  .full []]
  [(0, 1, .c (.one (.st (.int .i64 4)))),
  (1, 1, .t 3)])
  .no, .mk none none (.store 3 (.t 2) (.t 4))
  .no])
  .ret))
theorem tr_R_Con : trCode Tryd.prog 5 [] (Tryd.f34.body.getD .skip) = some ir_R_Con := by kernel_rfl
theorem ac_R_Con {xs : List AV} {r : AV} (hn : xs.length ≤ 5) (h : ∀ C : Ctx, C.n = 5 → IWP Tryd.prog C [] ir_R_Con (FinQ [.cell 2 true 3] r) (AS.start xs)) : ACalls Tryd.prog 34 xs r :=
  acalls_of Tryd.func34 rfl tr_R_Con rfl hn h
theorem acS_R_Con {xs : List AV} {S S' : AStore} {r : AV} (hn : xs.length ≤ 5) (h : Clean S → ∀ C : Ctx, C.n = 5 → IWP Tryd.prog C [] ir_R_Con (FinS C [.cell 2 true 3] r S') (AS.startS xs S)) : ACallsS Tryd.prog 34 xs S r S' :=
  acallsS_of Tryd.func34 rfl tr_R_Con rfl hn h

def ir_comb_known : IR :=
  (.seq
  (.ops
  [.mk (some 2) none
  (.alloc 36
  [.st (.int .i64 0), .st (.int .i64 0),
  .full []])
  .no, .mk (some 3) none (.mov (.c (.one (.st (.bool false)))))
  .no])
  (.seq
  (.ops
  [.mk (some 4) none (.mov (.c (.one (.fn 54 [])))) .no, .mk (some 5) none (.mov (.c (.one (.fn 55 [])))) .no, .mk (some 6) none (.mov (.c (.one (.fn 51 [])))) .no])
  (.seq
  (.seq
  (.ops
  [.mk (some 7) none (.mov (.t 0)) .no])
  (.block 0
  (.seq
  (.ops
  [.mk (some 9) none (.bin .eql (.t 7) (.c (.one (.st (.str (ByteArray.mk (#[105])))))))
  .no, .mk (some 8) none (.mov (.t 9)) .no])
  (.cond (.t 8)
  (.seq
  (.ops
  [.mk (some 10) none (.mov (.t 5)) .no, .mk (some 11) none (.mov (.t 4)) .no, .mk (some 12) none
  (.callV (.t 11)
  [.c (.one (.st (.int .i64 0)))])
  .no, .mk (some 13) none (.callV (.t 10) [.t 12])
  .no, .mk none none (.store 3 (.t 2) (.t 13))
  .no, .mk (some 3) none (.mov (.c (.one (.st (.bool true)))))
  .no])
  .ret)
  (.seq
  (.ops
  [.mk (some 15) none (.bin .eql (.t 7) (.c (.one (.st (.str (ByteArray.mk (#[107])))))))
  .no, .mk (some 14) none (.mov (.t 15)) .no])
  (.cond (.t 14)
  (.seq
  (.ops
  [.mk (some 16) none (.mov (.t 5)) .no, .mk (some 17) none (.mov (.t 5)) .no, .mk (some 18) none (.mov (.t 4)) .no, .mk (some 19) none
  (.callV (.t 18)
  [.c (.one (.st (.int .i64 1)))])
  .no, .mk (some 20) none (.callV (.t 17) [.t 19])
  .no, .mk (some 21) none (.callV (.t 16) [.t 20])
  .no, .mk none none (.store 3 (.t 2) (.t 21))
  .no, .mk (some 3) none (.mov (.c (.one (.st (.bool true)))))
  .no])
  .ret)
  (.seq
  (.ops
  [.mk (some 23) none (.bin .eql (.t 7) (.c (.one (.st (.str (ByteArray.mk (#[115])))))))
  .no, .mk (some 22) none (.mov (.t 23)) .no])
  (.cond (.t 22)
  (.seq
  (.ops
  [.mk (some 24) none (.mov (.t 5)) .no, .mk (some 25) none (.mov (.t 5)) .no, .mk (some 26) none (.mov (.t 5)) .no, .mk (some 27) none (.mov (.t 6)) .no, .mk (some 28) none (.mov (.t 6)) .no, .mk (some 29) none (.mov (.t 4)) .no, .mk (some 30) none
  (.callV (.t 29)
  [.c (.one (.st (.int .i64 2)))])
  .no, .mk (some 31) none (.mov (.t 4)) .no, .mk (some 32) none
  (.callV (.t 31)
  [.c (.one (.st (.int .i64 0)))])
  .no, .mk (some 33) none
  (.callV (.t 28) [.t 30, .t 32])
  .no, .mk (some 34) none (.mov (.t 6)) .no, .mk (some 35) none (.mov (.t 4)) .no, .mk (some 36) none
  (.callV (.t 35)
  [.c (.one (.st (.int .i64 1)))])
  .no, .mk (some 37) none (.mov (.t 4)) .no, .mk (some 38) none
  (.callV (.t 37)
  [.c (.one (.st (.int .i64 0)))])
  .no, .mk (some 39) none
  (.callV (.t 34) [.t 36, .t 38])
  .no, .mk (some 40) none
  (.callV (.t 27) [.t 33, .t 39])
  .no, .mk (some 41) none (.callV (.t 26) [.t 40])
  .no, .mk (some 42) none (.callV (.t 25) [.t 41])
  .no, .mk (some 43) none (.callV (.t 24) [.t 42])
  .no, .mk none none (.store 3 (.t 2) (.t 43))
  .no, .mk (some 3) none (.mov (.c (.one (.st (.bool true)))))
  .no])
  .ret)
  .skip))))))))
  (.seq
  (.ops
  [.mk (some 44) none
  (.build
  [.st (.int .i64 0), .st (.int .i64 0),
  .full []]
  [])
  .no, .mk none none (.store 3 (.t 2) (.t 44))
  .no, .mk (some 3) none (.mov (.c (.one (.st (.bool false)))))
  .no])
  .ret))))
theorem tr_comb_known : trCode Tryd.prog 45 [] (Tryd.f47.body.getD .skip) = some ir_comb_known := by kernel_rfl
theorem ac_comb_known {xs : List AV} {r : AV} (hn : xs.length ≤ 45) (h : ∀ C : Ctx, C.n = 45 → IWP Tryd.prog C [] ir_comb_known (FinQ [.cell 2 true 3, .t 3] r) (AS.start xs)) : ACalls Tryd.prog 47 xs r :=
  acalls_of Tryd.func47 rfl tr_comb_known rfl hn h
theorem acS_comb_known {xs : List AV} {S S' : AStore} {r : AV} (hn : xs.length ≤ 45) (h : Clean S → ∀ C : Ctx, C.n = 45 → IWP Tryd.prog C [] ir_comb_known (FinS C [.cell 2 true 3, .t 3] r S') (AS.startS xs S)) : ACallsS Tryd.prog 47 xs S r S' :=
  acallsS_of Tryd.func47 rfl tr_comb_known rfl hn h

def ir_comb_to : IR :=
  (.seq
  (.ops
  [.mk (some 1) none (.box 24 (.t 0)) .no, .mk (some 2) none
  (.alloc 36
  [.st (.int .i64 0), .st (.int .i64 0),
  .full []])
  .no, .mk (some 3) none (.mov (.c (.one (.st (.int .i64 0)))))
  .no])
  (.seq
  (.seq
  (.ops
  [.mk (some 11) none (.fieldAddr 1 (.t 1)) .no, .mk (some 12) none (.load false 1 (.t 11)) .no, .mk (some 13) none (.len false (.t 12)) .no, .mk (some 14) none (.bin .eql (.t 13) (.c (.one (.st (.int .i64 0)))))
  .no])
  (.cond (.t 14)
  (.seq
  (.seq
  (.ops
  [.mk (some 16) none (.fieldAddr 0 (.t 1)) .no, .mk (some 17) none (.load false 1 (.t 16)) .no, .mk (some 18) none (.call 47 [.t 17]) .no, .mk (some 15) none (.mov (.t 18)) .no, .mk (some 19) none (.extract 0 (.t 15)) .no, .mk (some 20) none (.extract 1 (.t 15)) .no, .mk (some 4) none
  (.alloc 36
  [.st (.int .i64 0), .st (.int .i64 0),
  .full []])
  .no, .mk none none (.store 3 (.t 4) (.t 19))
  .no, .mk (some 5) none (.mov (.t 20)) .no])
  (.seq
  (.ops
  [.mk (some 21) none (.mov (.t 5)) .no])
  (.cond (.t 21)
  (.seq
  (.ops
  [.mk (some 22) none (.load true 3 (.t 4)) .no, .mk none none (.store 3 (.t 2) (.t 22))
  .no, .mk (some 3) none (.mov (.c (.one (.st (.int .i64 0)))))
  .no])
  .ret)
  .skip)))
  (.seq
  (.seq
  (.ops
  [.mk (some 23) none (.fieldAddr 0 (.t 1)) .no, .mk (some 24) none (.load false 1 (.t 23)) .no, .mk (some 25) none (.call 24 [.t 24]) .no])
  (.cond (.t 25)
  (.seq
  (.ops
  [.mk (some 26) none
  (.build
  [.st (.int .i64 0), .st (.int .i64 0),
  .full []]
  [])
  .no, .mk none none (.store 3 (.t 2) (.t 26))
  .no, .mk (some 3) none (.mov (.c (.one (.st (.int .i64 15)))))
  .no])
  .ret)
  .skip))
  (.seq
  (.ops
  [.mk (some 28) none (.fieldAddr 0 (.t 1)) .no, .mk (some 29) none (.load false 1 (.t 28)) .no, .mk (some 30) none
  (.sliceS (.t 29)
  (some (.c (.one (.st (.int .i64 1))))) none)
  .no, .mk (some 31) none (.call 48 [.t 30]) .no, .mk (some 27) none (.mov (.t 31)) .no, .mk (some 32) none (.extract 0 (.t 27)) .no, .mk (some 33) none (.extract 1 (.t 27)) .no, .mk (some 6) none (.mov (.t 32)) .no, .mk (some 7) none (.mov (.t 33)) .no])
  (.seq
  (.seq
  (.ops
  [.mk (some 34) none (.fieldAddr 0 (.t 1)) .no, .mk (some 35) none (.load false 1 (.t 34)) .no, .mk (some 36) none
  (.indexStr (.t 35) (.c (.one (.st (.int .i64 0)))))
  .no, .mk (some 37) none (.bin .neq (.t 36) (.c (.one (.st (.int .u8 99)))))
  .no, .mk (some 38) none (.mov (.t 37)) .no, .mk (some 39) (some (38, false)) (.mov (.t 7)) .no, .mk (some 40) (some (38, false)) (.eqE true (.t 39))
  .no, .mk (some 41) none
  (.pick (.t 38) (.c (.one (.st (.bool true)))) (.t 40))
  .no, .mk (some 42) none (.mov (.t 41)) .no, .mk (some 43) (some (42, false)) (.mov (.t 6)) .no, .mk (some 44) (some (42, false)) (.call 49 [.t 43])
  .no, .mk (some 45) (some (42, false)) (.fieldAddr 0 (.t 1))
  .no, .mk (some 46) (some (42, false)) (.load false 1 (.t 45))
  .no, .mk (some 47) (some (42, false))
  (.sliceS (.t 46)
  (some (.c (.one (.st (.int .i64 1))))) none)
  .no, .mk (some 48) (some (42, false)) (.bin .neq (.t 44) (.t 47)) .no, .mk (some 49) none
  (.pick (.t 42) (.c (.one (.st (.bool true)))) (.t 48))
  .no, .mk (some 50) none (.mov (.t 49)) .no, .mk (some 51) (some (50, false)) (.mov (.t 6)) .no, .mk (some 52) (some (50, false)) (.bin .geq (.t 51) (.c (.one (.st (.int .i64 40)))))
  .no, .mk (some 53) none
  (.pick (.t 50) (.c (.one (.st (.bool true)))) (.t 52))
  .no])
  (.cond (.t 53)
  (.seq
  (.ops
  [.mk (some 54) none
  (.build
  [.st (.int .i64 0), .st (.int .i64 0),
  .full []]
  [])
  .no, .mk none none (.store 3 (.t 2) (.t 54))
  .no, .mk (some 3) none (.mov (.c (.one (.st (.int .i64 1)))))
  .no])
  .ret)
  .skip))
  (.seq
  (.ops
  [.mk (some 55) none (.mov (.t 6)) .no, .mk (some 56) none (.call 50 [.t 55]) .no, .mk none none (.store 3 (.t 2) (.t 56))
  .no, .mk (some 3) none (.mov (.c (.one (.st (.int .i64 0)))))
  .no])
  .ret)))))
  .skip))
  (.seq
  (.ops
  [.mk (some 58) none (.fieldAddr 1 (.t 1)) .no, .mk (some 59) none (.load false 1 (.t 58)) .no, .mk (some 60) none
  (.indexAddr 2 (.t 59) (.c (.one (.st (.int .i64 0)))))
  .no, .mk (some 61) none (.load true 2 (.t 60)) .no, .mk (some 62) none (.call 35 [.t 61]) .no, .mk (some 57) none (.mov (.t 62)) .no, .mk (some 63) none (.extract 0 (.t 57)) .no, .mk (some 64) none (.extract 1 (.t 57)) .no, .mk (some 8) none
  (.alloc 36
  [.st (.int .i64 0), .st (.int .i64 0),
  .full []])
  .no, .mk none none (.store 3 (.t 8) (.t 63))
  .no, .mk (some 9) none (.mov (.t 64)) .no])
  (.seq
  (.seq
  (.ops
  [.mk (some 65) none (.mov (.t 9)) .no, .mk (some 66) none (.bin .neq (.t 65) (.c (.one (.st (.int .i64 0)))))
  .no])
  (.cond (.t 66)
  (.seq
  (.ops
  [.mk (some 67) none
  (.build
  [.st (.int .i64 0), .st (.int .i64 0),
  .full []]
  [])
  .no, .mk (some 68) none (.mov (.t 9)) .no, .mk none none (.store 3 (.t 2) (.t 67))
  .no, .mk (some 3) none (.mov (.t 68)) .no])
  .ret)
  .skip))
  (.seq
  (.ops
  [.mk (some 70) none (.fieldAddr 1 (.t 1)) .no, .mk (some 71) none (.load false 1 (.t 70)) .no, .mk (some 72) none
  (.indexAddr 2 (.t 71) (.c (.one (.st (.int .i64 1)))))
  .no, .mk (some 73) none (.load true 2 (.t 72)) .no, .mk (some 74) none (.call 35 [.t 73]) .no, .mk (some 69) none (.mov (.t 74)) .no, .mk (some 75) none (.extract 0 (.t 69)) .no, .mk (some 76) none (.extract 1 (.t 69)) .no, .mk (some 10) none
  (.alloc 36
  [.st (.int .i64 0), .st (.int .i64 0),
  .full []])
  .no, .mk none none (.store 3 (.t 10) (.t 75))
  .no, .mk (some 9) none (.mov (.t 76)) .no])
  (.seq
  (.ops
  [.mk (some 77) none (.load true 3 (.t 8)) .no, .mk (some 78) none (.load true 3 (.t 10)) .no, .mk (some 79) none (.call 51 [.t 77, .t 78])
  .no, .mk (some 80) none (.mov (.t 9)) .no, .mk none none (.store 3 (.t 2) (.t 79))
  .no, .mk (some 3) none (.mov (.t 80)) .no])
  .ret))))))
theorem tr_comb_to : trCode Tryd.prog 81 [] (Tryd.f35.body.getD .skip) = some ir_comb_to := by kernel_rfl
theorem ac_comb_to {xs : List AV} {r : AV} (hn : xs.length ≤ 81) (h : ∀ C : Ctx, C.n = 81 → IWP Tryd.prog C [] ir_comb_to (FinQ [.cell 2 true 3, .t 3] r) (AS.start xs)) : ACalls Tryd.prog 35 xs r :=
  acalls_of Tryd.func35 rfl tr_comb_to rfl hn h
theorem acS_comb_to {xs : List AV} {S S' : AStore} {r : AV} (hn : xs.length ≤ 81) (h : Clean S → ∀ C : Ctx, C.n = 81 → IWP Tryd.prog C [] ir_comb_to (FinS C [.cell 2 true 3, .t 3] r S') (AS.startS xs S)) : ACallsS Tryd.prog 35 xs S r S' :=
  acallsS_of Tryd.func35 rfl tr_comb_to rfl hn h

def ir_comb_To : IR :=
  (.seq
  (.ops
  [.mk (some 1) none (.box 24 (.t 0)) .no, .mk (some 2) none
  (.alloc 36
  [.st (.int .i64 0), .st (.int .i64 0),
  .full []])
  .no, .mk (some 3) none (.mov (.c (.one (.st (.int .i64 0)))))
  .no])
  (.seq
  (.seq
  (.ops
  [.mk (some 7) none (.load true 2 (.t 1)) .no, .mk (some 8) none (.call 11 [.t 7]) .no, .mk (some 4) none (.mov (.t 8)) .no])
  (.seq
  (.ops
  [.mk (some 9) none (.mov (.t 4)) .no, .mk (some 10) none (.bin .neq (.t 9) (.c (.one (.st (.int .i64 0)))))
  .no])
  (.cond (.t 10)
  (.seq
  (.ops
  [.mk (some 11) none
  (.build
  [.st (.int .i64 0), .st (.int .i64 0),
  .full []]
  [])
  .no, .mk (some 12) none (.mov (.t 4)) .no, .mk none none (.store 3 (.t 2) (.t 11))
  .no, .mk (some 3) none (.mov (.t 12)) .no])
  .ret)
  .skip)))
  (.seq
  (.ops
  [.mk (some 14) none (.load true 2 (.t 1)) .no, .mk (some 15) none (.call 35 [.t 14]) .no, .mk (some 13) none (.mov (.t 15)) .no, .mk (some 16) none (.extract 0 (.t 13)) .no, .mk (some 17) none (.extract 1 (.t 13)) .no, .mk (some 5) none
  (.alloc 36
  [.st (.int .i64 0), .st (.int .i64 0),
  .full []])
  .no, .mk none none (.store 3 (.t 5) (.t 16))
  .no, .mk (some 6) none (.mov (.t 17)) .no])
  (.seq
  (.seq
  (.ops
  [.mk (some 18) none (.mov (.t 6)) .no, .mk (some 19) none (.bin .eql (.t 18) (.c (.one (.st (.int .i64 0)))))
  .no, .mk (some 20) none (.mov (.t 19)) .no, .mk (some 21) (some (20, true)) (.load true 3 (.t 5))
  .no, .mk (some 22) (some (20, true)) (.call 36 [.t 21]) .no, .mk (some 23) (some (20, true)) (.bin .gtr (.t 22) (.c (.one (.st (.int .i64 2000)))))
  .no, .mk (some 24) none
  (.pick (.t 20) (.t 23) (.c (.one (.st (.bool false)))))
  .no])
  (.cond (.t 24)
  (.ops
  [.mk (some 6) none (.mov (.c (.one (.st (.int .i64 8)))))
  .no])
  .skip))
  (.seq
  (.seq
  (.ops
  [.mk (some 25) none (.mov (.t 6)) .no, .mk (some 26) none (.bin .neq (.t 25) (.c (.one (.st (.int .i64 0)))))
  .no])
  (.cond (.t 26)
  (.seq
  (.ops
  [.mk (some 27) none
  (.build
  [.st (.int .i64 0), .st (.int .i64 0),
  .full []]
  [])
  .no, .mk (some 28) none (.mov (.t 6)) .no, .mk none none (.store 3 (.t 2) (.t 27))
  .no, .mk (some 3) none (.mov (.t 28)) .no])
  .ret)
  .skip))
  (.seq
  (.ops
  [.mk (some 29) none (.load true 3 (.t 5)) .no, .mk none none (.store 3 (.t 2) (.t 29))
  .no, .mk (some 3) none (.mov (.c (.one (.st (.int .i64 0)))))
  .no])
  .ret))))))
theorem tr_comb_To : trCode Tryd.prog 30 [] (Tryd.f15.body.getD .skip) = some ir_comb_To := by kernel_rfl
theorem ac_comb_To {xs : List AV} {r : AV} (hn : xs.length ≤ 30) (h : ∀ C : Ctx, C.n = 30 → IWP Tryd.prog C [] ir_comb_To (FinQ [.cell 2 true 3, .t 3] r) (AS.start xs)) : ACalls Tryd.prog 15 xs r :=
  acalls_of Tryd.func15 rfl tr_comb_To rfl hn h
theorem acS_comb_To {xs : List AV} {S S' : AStore} {r : AV} (hn : xs.length ≤ 30) (h : Clean S → ∀ C : Ctx, C.n = 30 → IWP Tryd.prog C [] ir_comb_To (FinS C [.cell 2 true 3, .t 3] r S') (AS.startS xs S)) : ACallsS Tryd.prog 15 xs S r S' :=
  acallsS_of Tryd.func15 rfl tr_comb_To rfl hn h

def ir_R_ConstOf : IR :=
  (.seq
  (.ops
  [.mk (some 2) none (.mov (.c (.one (.st (.int .i64 0)))))
  .no])
  (.seq
  (.seq
  (.ops
  [.mk (some 3) none (.mov (.c (.one (.st (.int .i64 0)))))
  .no])
  (.block 0
  (.loop
  (.seq
  (.seq
  (.ops
  [.mk (some 4) none (.mov (.t 3)) .no, .mk (some 5) none (.bin .lss (.t 4) (.c (.one (.st (.int .i64 40)))))
  .no])
  (.cond (.t 5) .skip (.exit 0)))
  (.seq
  (.block 1
  (.seq
  (.ops
  [.mk (some 8) none (.mov (.t 0)) .no, .mk (some 9) none (.mov (.t 3)) .no, .mk (some 10) none (.call 46 [.t 9]) .no, .mk (some 11) none (.bin .add (.c (.one (.st (.str (ByteArray.mk (#[99])))))) (.t 10))
  .no, .mk (some 12) none (.bin .eql (.t 8) (.t 11))
  .no])
  (.cond (.t 12)
  (.seq
  (.ops
  [.mk (some 13) none (.mov (.t 3)) .no, .mk (some 2) none (.mov (.t 13)) .no])
  .ret)
  .skip)))
  (.ops
  [.mk (some 6) none (.mov (.t 3)) .no, .mk (some 7) none (.bin .add (.t 6) (.c (.one (.st (.int .i64 1)))))
  .no, .mk (some 3) none (.mov (.t 7)) .no]))))))
  (.seq
  (.ops
  [.mk (some 2) none (.mov (.c (.one (.st (.int .i64 (-1))))))
  .no])
  .ret)))
theorem tr_R_ConstOf : trCode Tryd.prog 14 [] (Tryd.f33.body.getD .skip) = some ir_R_ConstOf := by kernel_rfl
theorem ac_R_ConstOf {xs : List AV} {r : AV} (hn : xs.length ≤ 14) (h : ∀ C : Ctx, C.n = 14 → IWP Tryd.prog C [] ir_R_ConstOf (FinQ [.t 2] r) (AS.start xs)) : ACalls Tryd.prog 33 xs r :=
  acalls_of Tryd.func33 rfl tr_R_ConstOf rfl hn h
theorem acS_R_ConstOf {xs : List AV} {S S' : AStore} {r : AV} (hn : xs.length ≤ 14) (h : Clean S → ∀ C : Ctx, C.n = 14 → IWP Tryd.prog C [] ir_R_ConstOf (FinS C [.t 2] r S') (AS.startS xs S)) : ACallsS Tryd.prog 33 xs S r S' :=
  acallsS_of Tryd.func33 rfl tr_R_ConstOf rfl hn h

def ir_R_LamOf : IR :=
  (.seq
  (.ops
  [.mk (some 1) none (.box 24 (.t 0)) .no, .mk (some 2) none
  (.alloc 36
  [.st (.int .i64 0), .st (.int .i64 0),
  .full []])
  .no, .mk (some 3) none (.mov (.c (.one (.st (.int .i64 0)))))
  .no])
  (.seq
  (.seq
  (.ops
  [.mk (some 8) none (.fieldAddr 1 (.t 1)) .no, .mk (some 9) none (.load false 1 (.t 8)) .no, .mk (some 10) none (.len false (.t 9)) .no, .mk (some 11) none (.bin .eql (.t 10) (.c (.one (.st (.int .i64 2)))))
  .no])
  (.cond (.t 11)
  (.seq
  (.ops
  [.mk (some 13) none (.fieldAddr 1 (.t 1)) .no, .mk (some 14) none (.load false 1 (.t 13)) .no, .mk (some 15) none
  (.indexAddr 2 (.t 14) (.c (.one (.st (.int .i64 0)))))
  .no, .mk (some 16) none (.load true 2 (.t 15)) .no, .mk (some 17) none (.call 13 [.t 16]) .no, .mk (some 12) none (.mov (.t 17)) .no, .mk (some 18) none (.extract 0 (.t 12)) .no, .mk (some 19) none (.extract 1 (.t 12)) .no, .mk (some 4) none
  (.alloc 36
  [.st (.int .i64 0), .st (.int .i64 0),
  .full []])
  .no, .mk none none (.store 3 (.t 4) (.t 18))
  .no, .mk (some 5) none (.mov (.t 19)) .no])
  (.seq
  (.seq
  (.ops
  [.mk (some 20) none (.mov (.t 5)) .no, .mk (some 21) none (.bin .neq (.t 20) (.c (.one (.st (.int .i64 0)))))
  .no])
  (.cond (.t 21)
  (.seq
  (.ops
  [.mk (some 22) none
  (.build
  [.st (.int .i64 0), .st (.int .i64 0),
  .full []]
  [])
  .no, .mk (some 23) none (.mov (.t 5)) .no, .mk none none (.store 3 (.t 2) (.t 22))
  .no, .mk (some 3) none (.mov (.t 23)) .no])
  .ret)
  .skip))
  (.seq
  (.ops
  [.mk (some 25) none (.fieldAddr 1 (.t 1)) .no, .mk (some 26) none (.load false 1 (.t 25)) .no, .mk (some 27) none
  (.indexAddr 2 (.t 26) (.c (.one (.st (.int .i64 1)))))
  .no, .mk (some 28) none (.load true 2 (.t 27)) .no, .mk (some 29) none (.call 13 [.t 28]) .no, .mk (some 24) none (.mov (.t 29)) .no, .mk (some 30) none (.extract 0 (.t 24)) .no, .mk (some 31) none (.extract 1 (.t 24)) .no, .mk (some 6) none
  (.alloc 36
  [.st (.int .i64 0), .st (.int .i64 0),
  .full []])
  .no, .mk none none (.store 3 (.t 6) (.t 30))
  .no, .mk (some 5) none (.mov (.t 31)) .no])
  (.seq
  (.seq
  (.ops
  [.mk (some 32) none (.mov (.t 5)) .no, .mk (some 33) none (.bin .neq (.t 32) (.c (.one (.st (.int .i64 0)))))
  .no])
  (.cond (.t 33)
  (.seq
  (.ops
  [.mk (some 34) none
  (.build
  [.st (.int .i64 0), .st (.int .i64 0),
  .full []]
  [])
  .no, .mk (some 35) none (.mov (.t 5)) .no, .mk none none (.store 3 (.t 2) (.t 34))
  .no, .mk (some 3) none (.mov (.t 35)) .no])
  .ret)
  .skip))
  (.seq
  (.ops
  [.mk (some 36) none (.load true 3 (.t 4)) .no, .mk (some 37) none (.load true 3 (.t 6)) .no, .mk (some 38) none (.call 30 [.t 36, .t 37])
  .no, .mk none none (.store 3 (.t 2) (.t 38))
  .no, .mk (some 3) none (.mov (.c (.one (.st (.int .i64 0)))))
  .no])
  .ret)))))
  .skip))
  (.seq
  (.seq
  (.ops
  [.mk (some 39) none (.fieldAddr 0 (.t 1)) .no, .mk (some 40) none (.load false 1 (.t 39)) .no])
  (.block 0
  (.seq
  (.ops
  [.mk (some 42) none (.bin .eql (.t 40) (.c (.one (.st (.str (ByteArray.mk (#[105])))))))
  .no, .mk (some 41) none (.mov (.t 42)) .no])
  (.cond (.t 41)
  (.seq
  (.ops
  [.mk (some 43) none (.call 32
  [.c (.one (.st (.int .i64 0)))])
  .no, .mk (some 44) none (.call 31 [.t 43]) .no, .mk none none (.store 3 (.t 2) (.t 44))
  .no, .mk (some 3) none (.mov (.c (.one (.st (.int .i64 0)))))
  .no])
  .ret)
  (.seq
  (.ops
  [.mk (some 46) none (.bin .eql (.t 40) (.c (.one (.st (.str (ByteArray.mk (#[107])))))))
  .no, .mk (some 45) none (.mov (.t 46)) .no])
  (.cond (.t 45)
  (.seq
  (.ops
  [.mk (some 47) none (.call 32
  [.c (.one (.st (.int .i64 1)))])
  .no, .mk (some 48) none (.call 31 [.t 47]) .no, .mk (some 49) none (.call 31 [.t 48]) .no, .mk none none (.store 3 (.t 2) (.t 49))
  .no, .mk (some 3) none (.mov (.c (.one (.st (.int .i64 0)))))
  .no])
  .ret)
  (.seq
  (.ops
  [.mk (some 51) none (.bin .eql (.t 40) (.c (.one (.st (.str (ByteArray.mk (#[115])))))))
  .no, .mk (some 50) none (.mov (.t 51)) .no])
  (.cond (.t 50)
  (.seq
  (.ops
  [.mk (some 52) none (.call 32
  [.c (.one (.st (.int .i64 2)))])
  .no, .mk (some 53) none (.call 32
  [.c (.one (.st (.int .i64 0)))])
  .no, .mk (some 54) none (.call 30 [.t 52, .t 53])
  .no, .mk (some 55) none (.call 32
  [.c (.one (.st (.int .i64 1)))])
  .no, .mk (some 56) none (.call 32
  [.c (.one (.st (.int .i64 0)))])
  .no, .mk (some 57) none (.call 30 [.t 55, .t 56])
  .no, .mk (some 58) none (.call 30 [.t 54, .t 57])
  .no, .mk (some 59) none (.call 31 [.t 58]) .no, .mk (some 60) none (.call 31 [.t 59]) .no, .mk (some 61) none (.call 31 [.t 60]) .no, .mk none none (.store 3 (.t 2) (.t 61))
  .no, .mk (some 3) none (.mov (.c (.one (.st (.int .i64 0)))))
  .no])
  .ret)
  .skip))))))))
  (.seq
  (.seq
  (.ops
  [.mk (some 62) none (.fieldAddr 0 (.t 1)) .no, .mk (some 63) none (.load false 1 (.t 62)) .no, .mk (some 64) none (.call 7 [.t 63]) .no])
  (.cond (.t 64)
  (.seq
  (.ops
  [.mk (some 65) none
  (.build
  [.st (.int .i64 0), .st (.int .i64 0),
  .full []]
  [])
  .no, .mk none none (.store 3 (.t 2) (.t 65))
  .no, .mk (some 3) none (.mov (.c (.one (.st (.int .i64 15)))))
  .no])
  .ret)
  .skip))
  (.seq
  (.ops
  [.mk (some 66) none (.fieldAddr 0 (.t 1)) .no, .mk (some 67) none (.load false 1 (.t 66)) .no, .mk (some 68) none (.call 33 [.t 67]) .no, .mk (some 7) none (.mov (.t 68)) .no])
  (.seq
  (.seq
  (.ops
  [.mk (some 69) none (.mov (.t 7)) .no, .mk (some 70) none (.bin .lss (.t 69) (.c (.one (.st (.int .i64 0)))))
  .no])
  (.cond (.t 70)
  (.seq
  (.ops
  [.mk (some 71) none
  (.build
  [.st (.int .i64 0), .st (.int .i64 0),
  .full []]
  [])
  .no, .mk none none (.store 3 (.t 2) (.t 71))
  .no, .mk (some 3) none (.mov (.c (.one (.st (.int .i64 1)))))
  .no])
  .ret)
  .skip))
  (.seq
  (.ops
  [.mk (some 72) none (.mov (.t 7)) .no, .mk (some 73) none (.call 34 [.t 72]) .no, .mk none none (.store 3 (.t 2) (.t 73))
  .no, .mk (some 3) none (.mov (.c (.one (.st (.int .i64 0)))))
  .no])
  .ret)))))))
theorem tr_R_LamOf : trCode Tryd.prog 74 [] (Tryd.f13.body.getD .skip) = some ir_R_LamOf := by kernel_rfl
theorem ac_R_LamOf {xs : List AV} {r : AV} (hn : xs.length ≤ 74) (h : ∀ C : Ctx, C.n = 74 → IWP Tryd.prog C [] ir_R_LamOf (FinQ [.cell 2 true 3, .t 3] r) (AS.start xs)) : ACalls Tryd.prog 13 xs r :=
  acalls_of Tryd.func13 rfl tr_R_LamOf rfl hn h
theorem acS_R_LamOf {xs : List AV} {S S' : AStore} {r : AV} (hn : xs.length ≤ 74) (h : Clean S → ∀ C : Ctx, C.n = 74 → IWP Tryd.prog C [] ir_R_LamOf (FinS C [.cell 2 true 3, .t 3] r S') (AS.startS xs S)) : ACallsS Tryd.prog 13 xs S r S' :=
  acallsS_of Tryd.func13 rfl tr_R_LamOf rfl hn h

def ir_L_CombSays : IR :=
  (.seq
  (.ops
  [.mk (some 3) none (.box 24 (.t 1)) .no, .mk (some 4) none (.mov (.c (.one (.st (.bool false)))))
  .no])
  (.seq
  (.seq
  (.ops
  [.mk (some 12) none (.mov (.t 0)) .no, .mk (some 13) none (.len true (.t 12)) .no, .mk (some 14) none (.bin .gtr (.t 13) (.c (.one (.st (.int .i64 100)))))
  .no, .mk (some 15) none (.mov (.t 14)) .no, .mk (some 16) (some (15, false)) (.load true 2 (.t 3)) .no, .mk (some 17) (some (15, false)) (.call 4 [.t 16]) .no, .mk (some 18) none
  (.pick (.t 15) (.c (.one (.st (.bool true)))) (.t 17))
  .no])
  (.cond (.t 18)
  (.seq
  (.ops
  [.mk (some 4) none (.mov (.c (.one (.st (.bool true)))))
  .no])
  .ret)
  .skip))
  (.seq
  (.ops
  [.mk (some 19) none (.load true 2 (.t 3)) .no, .mk (some 20) none (.call 5 [.t 19]) .no, .mk (some 5) none (.mov (.t 20)) .no])
  (.seq
  (.ops
  [.mk (some 21) none (.mov (.t 5)) .no, .mk (some 6) none (.mov (.t 21)) .no])
  (.seq
  (.seq
  (.ops
  [.mk (some 22) none (.mov (.t 0)) .no, .mk (some 23) none (.call 6 [.t 22]) .no, .mk (some 24) none (.un .not (.t 23)) .no, .mk (some 25) none (.mov (.t 24)) .no, .mk (some 26) (some (25, false)) (.mov (.t 0)) .no, .mk (some 27) (some (25, false)) (.call 7 [.t 26]) .no, .mk (some 28) (some (25, false)) (.un .not (.t 27))
  .no, .mk (some 29) none
  (.pick (.t 25) (.c (.one (.st (.bool true)))) (.t 28))
  .no])
  (.cond (.t 29)
  (.ops
  [.mk (some 6) none (.mov (.c (.one (.st (.int .i64 1)))))
  .no])
  .skip))
  (.seq
  (.ops
  [.mk (some 30) none
  (.build [.st (.str (ByteArray.mk (#[]))), .full []] [])
  .no, .mk (some 7) none
  (.alloc 24 [.st (.str (ByteArray.mk (#[]))), .full []])
  .no, .mk none none (.store 2 (.t 7) (.t 30))
  .no])
  (.seq
  (.seq
  (.ops
  [.mk (some 31) none (.mov (.t 6)) .no, .mk (some 32) none (.bin .eql (.t 31) (.c (.one (.st (.int .i64 0)))))
  .no])
  (.cond (.t 32)
  (.seq
  (.ops
  [.mk (some 33) none (.mov (.t 0)) .no, .mk (some 34) none (.load true 2 (.t 3)) .no, .mk (some 35) none (.call 8 [.t 33, .t 34])
  .no, .mk none none (.store 2 (.t 7) (.t 35))
  .no])
  (.seq
  (.ops
  [.mk (some 36) none (.load true 2 (.t 7)) .no, .mk (some 37) none (.call 9
  [.t 36, .c (.one (.st (.int .i64 2000)))])
  .no, .mk (some 38) none (.bin .gtr (.t 37) (.c (.one (.st (.int .i64 2000)))))
  .no])
  (.cond (.t 38)
  (.ops
  [.mk (some 6) none (.mov (.c (.one (.st (.int .i64 8)))))
  .no])
  .skip)))
  .skip))
  (.seq
  (.ops
  [.mk (some 40) none (.mov (.t 0)) .no, .mk (some 41) none (.load true 2 (.t 3)) .no, .mk (some 42) none (.call 10 [.t 40, .t 41])
  .no, .mk (some 39) none (.mov (.t 42)) .no, .mk (some 43) none (.extract 0 (.t 39)) .no, .mk (some 44) none (.extract 1 (.t 39)) .no, .mk (some 8) none
  (.alloc 24 [.st (.str (ByteArray.mk (#[]))), .full []])
  .no, .mk none none (.store 2 (.t 8) (.t 43))
  .no, .mk (some 9) none (.mov (.t 44)) .no])
  (.seq
  (.seq
  (.ops
  [.mk (some 45) none (.load true 2 (.t 3)) .no, .mk (some 46) none (.call 11 [.t 45]) .no, .mk (some 47) none (.mov (.t 5)) .no, .mk (some 48) none (.bin .neq (.t 46) (.t 47))
  .no, .mk (some 49) none (.mov (.t 48)) .no, .mk (some 50) (some (49, false)) (.load true 2 (.t 8))
  .no, .mk (some 51) (some (49, false)) (.mov (.t 9))
  .no, .mk (some 52) (some (49, false)) (.load true 2 (.t 7))
  .no, .mk (some 53) (some (49, false)) (.mov (.t 6))
  .no, .mk (some 54) (some (49, false)) (.call 12
  [.t 50, .t 51, .t 52, .t 53])
  .no, .mk (some 55) (some (49, false)) (.un .not (.t 54))
  .no, .mk (some 56) none
  (.pick (.t 49) (.c (.one (.st (.bool true)))) (.t 55))
  .no])
  (.cond (.t 56)
  (.seq
  (.ops
  [.mk (some 4) none (.mov (.c (.one (.st (.bool false)))))
  .no])
  .ret)
  .skip))
  (.seq
  (.ops
  [.mk (some 57) none (.mov (.t 5)) .no, .mk (some 6) none (.mov (.t 57)) .no])
  (.seq
  (.ops
  [.mk (some 58) none
  (.build
  [.st (.int .i64 0), .st (.int .i64 0),
  .full []]
  [])
  .no, .mk (some 10) none
  (.alloc 36
  [.st (.int .i64 0), .st (.int .i64 0),
  .full []])
  .no, .mk none none (.store 3 (.t 10) (.t 58))
  .no])
  (.seq
  (.seq
  (.ops
  [.mk (some 59) none (.mov (.t 6)) .no, .mk (some 60) none (.bin .eql (.t 59) (.c (.one (.st (.int .i64 0)))))
  .no])
  (.cond (.t 60)
  (.ops
  [.mk (some 62) none (.load true 2 (.t 3))
  .no, .mk (some 63) none (.call 13 [.t 62]) .no, .mk (some 61) none (.mov (.t 63)) .no, .mk (some 64) none (.extract 0 (.t 61)) .no, .mk (some 65) none (.extract 1 (.t 61)) .no, .mk none none (.store 3 (.t 10) (.t 64))
  .no, .mk (some 6) none (.mov (.t 65)) .no])
  .skip))
  (.seq
  (.seq
  (.ops
  [.mk (some 66) none (.mov (.t 6)) .no, .mk (some 67) none (.bin .eql (.t 66) (.c (.one (.st (.int .i64 0)))))
  .no, .mk (some 68) none (.mov (.t 67)) .no, .mk (some 69) (some (68, true)) (.load true 3 (.t 10))
  .no, .mk (some 70) (some (68, true)) (.call 14
  [.t 69, .c (.one (.st (.int .i64 2000)))])
  .no, .mk (some 71) (some (68, true)) (.bin .gtr (.t 70) (.c (.one (.st (.int .i64 2000)))))
  .no, .mk (some 72) none
  (.pick (.t 68) (.t 71) (.c (.one (.st (.bool false)))))
  .no])
  (.cond (.t 72)
  (.ops
  [.mk (some 6) none (.mov (.c (.one (.st (.int .i64 8)))))
  .no])
  .skip))
  (.seq
  (.ops
  [.mk (some 74) none (.load true 2 (.t 3))
  .no, .mk (some 75) none (.call 15 [.t 74]) .no, .mk (some 73) none (.mov (.t 75)) .no, .mk (some 76) none (.extract 0 (.t 73)) .no, .mk (some 77) none (.extract 1 (.t 73)) .no, .mk (some 11) none
  (.alloc 36
  [.st (.int .i64 0), .st (.int .i64 0),
  .full []])
  .no, .mk none none (.store 3 (.t 11) (.t 76))
  .no, .mk (some 9) none (.mov (.t 77)) .no])
  (.seq
  (.ops
  [.mk (some 78) none (.load true 3 (.t 11))
  .no, .mk (some 79) none (.mov (.t 9)) .no, .mk (some 80) none (.load true 3 (.t 10))
  .no, .mk (some 81) none (.mov (.t 6)) .no, .mk (some 82) none (.call 16
  [.t 78, .t 79, .t 80, .t 81])
  .no, .mk (some 4) none (.mov (.t 82)) .no])
  .ret)))))))))))))))
theorem tr_L_CombSays : trCode Tryd.prog 83 [] (Tryd.f3.body.getD .skip) = some ir_L_CombSays := by kernel_rfl
theorem ac_L_CombSays {xs : List AV} {r : AV} (hn : xs.length ≤ 83) (h : ∀ C : Ctx, C.n = 83 → IWP Tryd.prog C [] ir_L_CombSays (FinQ [.t 4] r) (AS.start xs)) : ACalls Tryd.prog 3 xs r :=
  acalls_of Tryd.func3 rfl tr_L_CombSays rfl hn h
theorem acS_L_CombSays {xs : List AV} {S S' : AStore} {r : AV} (hn : xs.length ≤ 83) (h : Clean S → ∀ C : Ctx, C.n = 83 → IWP Tryd.prog C [] ir_L_CombSays (FinS C [.t 4] r S') (AS.startS xs S)) : ACallsS Tryd.prog 3 xs S r S' :=
  acallsS_of Tryd.func3 rfl tr_L_CombSays rfl hn h

end Go.Proofs.YtecjikegppjdiaaDoor
