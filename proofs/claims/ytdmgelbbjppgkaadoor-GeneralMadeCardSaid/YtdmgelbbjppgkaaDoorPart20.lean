/-
  Part 20 of the texts: IrCanon; BCanon. Conditions: none.
-/
import Derived.Test.YtdmgelbbjppgkaaDoorPart19
namespace Go.Proofs.YtdmgelbbjppgkaaDoor
open Go Go.RowKit
set_option maxRecDepth 100000

def ir_general_Named_1 : IR :=
  (.seq
  (.ops
  [.mk (some 3) none (.box 24 (.t 0)) .no, .mk (some 4) none
  (.alloc 24 [.st (.str (ByteArray.mk (#[]))), .full []])
  .no])
  (.seq
  (.seq
  (.ops
  [.mk (some 8) none (.fieldAddr 0 (.t 3)) .no, .mk (some 9) none (.load false 1 (.t 8)) .no, .mk (some 10) none (.call 47 [.t 9]) .no])
  (.cond (.t 10)
  (.seq
  (.seq
  (.ops
  [.mk (some 11) none (.load false 1 (.t 1)) .no, .mk (some 12) none (.fieldAddr 0 (.t 3)) .no, .mk (some 13) none (.load false 1 (.t 12)) .no, .mk (some 14) none
  (.lookup none false (.one (.st (.str (ByteArray.mk (#[]))))) (.t 11) (.t 13))
  .no, .mk (some 15) none (.bin .eql (.t 14) (.c (.one (.st (.str (ByteArray.mk (#[])))))))
  .no])
  (.cond (.t 15)
  (.ops
  [.mk (some 16) none (.load false 1 (.t 1)) .no, .mk (some 17) none (.fieldAddr 0 (.t 3)) .no, .mk (some 18) none (.load false 1 (.t 17)) .no, .mk (some 19) none (.load false 1 (.t 1)) .no, .mk (some 20) none (.lenM (.t 19)) .no, .mk (some 21) none (.call 29 [.t 20]) .no, .mk none none
  (.mapSet none (.t 16) (.t 18) (.t 21))
  .no])
  .skip))
  (.seq
  (.ops
  [.mk (some 22) none (.load false 1 (.t 1)) .no, .mk (some 23) none (.fieldAddr 0 (.t 3)) .no, .mk (some 24) none (.load false 1 (.t 23)) .no, .mk (some 25) none
  (.lookup none false (.one (.st (.str (ByteArray.mk (#[]))))) (.t 22) (.t 24))
  .no, .mk (some 26) none
  (.build [.st (.str (ByteArray.mk (#[]))), .full []]
  [(0, 1, .t 25)])
  .no, .mk none none (.store 2 (.t 4) (.t 26))
  .no])
  .ret))
  .skip))
  (.seq
  (.ops
  [.mk (some 27) none (.fieldAddr 0 (.t 3)) .no, .mk (some 28) none (.load false 1 (.t 27)) .no, .mk (some 29) none
  (.build [.st (.str (ByteArray.mk (#[]))), .full []]
  [(0, 1, .t 28)])
  .no, .mk (some 5) none
  (.alloc 24 [.st (.str (ByteArray.mk (#[]))), .full []])
  .no, .mk none none (.store 2 (.t 5) (.t 29))
  .no])
  (.seq
  (.seq
  (.ops
  [.mk (some 30) none (.fieldAddr 1 (.t 3)) .no, .mk (some 31) none (.load false 1 (.t 30)) .no, .mk (some 32) none (.len false (.t 31)) .no, .mk (some 33) none (.mov (.c (.one (.st (.int .i64 0)))))
  .no])
  (.block 0
  (.loop
  (.seq
  (.ops
  [.mk (some 34) none (.bin .lss (.t 33) (.t 32))
  .no])
  (.seq (.cond (.t 34) .skip (.exit 0))
  (.seq
  (.block 1
  (.seq
  (.ops
  [.mk (some 35) none (.indexAddr 2 (.t 31) (.t 33))
  .no, .mk (some 36) none (.load true 2 (.t 35)) .no, .mk (some 7) none
  (.alloc 24 [.st (.str (ByteArray.mk (#[]))), .full []])
  .no, .mk none none (.store 2 (.t 7) (.t 36))
  .no])
  (.ops
  [.mk (some 37) none (.fieldAddr 1 (.t 5)) (.onb 5), .mk (some 38) none (.load false 1 (.t 37))
  (.onb 5), .mk (some 39) none (.load false 1 (.t 2)) .no, .mk (some 40) none (.load true 2 (.t 7)) .no, .mk (some 41) none (.callV (.t 39) [.t 40])
  (.keeps [5, 5]), .mk (some 42) none (.buildSlice false 24 2 [.t 41])
  .no, .mk (some 43) none
  (.append false 24 2 40 (.t 38) (.t 42)) .no, .mk (some 44) none (.fieldAddr 1 (.t 5)) .no, .mk none none (.store 1 (.t 44) (.t 43))
  .no])))
  (.ops
  [.mk (some 45) none (.bin .add (.t 33) (.c (.one (.st (.int .i64 1)))))
  .no, .mk (some 33) none (.mov (.t 45)) .no])))))))
  (.seq
  (.ops
  [.mk (some 46) none (.load true 2 (.t 5)) .no, .mk none none (.store 2 (.t 4) (.t 46))
  .no])
  .ret)))))
theorem tr_general_Named_1 : trCode Tryd.prog 47 [41] (Tryd.f57.body.getD .skip) = some ir_general_Named_1 := by kernel_rfl
theorem ac_general_Named_1 {xs : List AV} {r : AV} (hn : xs.length ≤ 47) (h : ∀ C : Ctx, C.n = 47 → IWP Tryd.prog C [41] ir_general_Named_1 (FinQ [.cell 4 true 2] r) (AS.start xs)) : ACalls Tryd.prog 57 xs r :=
  acalls_of Tryd.func57 rfl tr_general_Named_1 rfl hn h
theorem acS_general_Named_1 {xs : List AV} {S S' : AStore} {r : AV} (hn : xs.length ≤ 47) (h : Clean S → ∀ C : Ctx, C.n = 47 → IWP Tryd.prog C [41] ir_general_Named_1 (FinS C [.cell 4 true 2] r S') (AS.startS xs S)) : ACallsS Tryd.prog 57 xs S r S' :=
  acallsS_of Tryd.func57 rfl tr_general_Named_1 rfl hn h

def ir_general_Named : IR :=
  (.seq
  (.ops
  [.mk (some 2) none (.mov (.c (.one (.full [])))) .no])
  (.seq
  (.ops
  [.mk (some 8) none (.makeMap none) .no, .mk (some 3) none (.alloc 86 [.st (.lit (.map none))])
  .no, .mk none none (.store 1 (.t 3) (.t 8))
  .no])
  (.seq
  (.ops
  [.mk (some 4) none (.alloc 66 [.st (.lit .nilFunc)])
  .no])
  (.seq
  (.ops
  [.mk (some 9) none (.makeFunc 57 [.t 3, .t 4])
  .no, .mk none none (.store 1 (.t 4) (.t 9))
  .no])
  (.seq
  (.ops
  [.mk (some 5) none (.mov (.c (.one (.full [])))) .no])
  (.seq
  (.seq
  (.ops
  [.mk (some 10) none (.mov (.t 0)) .no, .mk (some 11) none (.len false (.t 10)) .no, .mk (some 12) none (.mov (.c (.one (.st (.int .i64 0)))))
  .no])
  (.block 0
  (.loop
  (.seq
  (.ops
  [.mk (some 13) none (.bin .lss (.t 12) (.t 11))
  .no])
  (.seq (.cond (.t 13) .skip (.exit 0))
  (.seq
  (.block 1
  (.seq
  (.ops
  [.mk (some 14) none
  (.indexAddr 2 (.t 10) (.t 12)) .no, .mk (some 15) none (.load true 2 (.t 14))
  .no, .mk (some 7) none
  (.alloc 24
  [.st (.str (ByteArray.mk (#[]))), .full []])
  .no, .mk none none (.store 2 (.t 7) (.t 15))
  .no])
  (.ops
  [.mk (some 16) none (.mov (.t 5)) .no, .mk (some 17) none (.load false 1 (.t 4))
  .no, .mk (some 18) none (.load true 2 (.t 7))
  .no, .mk (some 19) none (.callV (.t 17) [.t 18])
  .no, .mk (some 20) none (.buildSlice false 24 2 [.t 19])
  .no, .mk (some 21) none
  (.append false 24 2 40 (.t 16) (.t 20)) .no, .mk (some 5) none (.mov (.t 21)) .no])))
  (.ops
  [.mk (some 22) none (.bin .add (.t 12) (.c (.one (.st (.int .i64 1)))))
  .no, .mk (some 12) none (.mov (.t 22)) .no])))))))
  (.seq
  (.ops
  [.mk (some 23) none (.mov (.t 5)) .no, .mk (some 2) none (.mov (.t 23)) .no])
  .ret)))))))
theorem tr_general_Named : trCode Tryd.prog 24 [19] (Tryd.f40.body.getD .skip) = some ir_general_Named := by kernel_rfl
theorem ac_general_Named {xs : List AV} {r : AV} (hn : xs.length ≤ 24) (h : ∀ C : Ctx, C.n = 24 → IWP Tryd.prog C [19] ir_general_Named (FinQ [.t 2] r) (AS.start xs)) : ACalls Tryd.prog 40 xs r :=
  acalls_of Tryd.func40 rfl tr_general_Named rfl hn h
theorem acS_general_Named {xs : List AV} {S S' : AStore} {r : AV} (hn : xs.length ≤ 24) (h : Clean S → ∀ C : Ctx, C.n = 24 → IWP Tryd.prog C [19] ir_general_Named (FinS C [.t 2] r S') (AS.startS xs S)) : ACallsS Tryd.prog 40 xs S r S' :=
  acallsS_of Tryd.func40 rfl tr_general_Named rfl hn h

def ir_general_Canon : IR :=
  (.seq
  (.ops
  [.mk (some 1) none (.box 24 (.t 0)) .no, .mk (some 2) none
  (.alloc 24 [.st (.str (ByteArray.mk (#[]))), .full []])
  .no, .mk (some 3) none (.mov (.c (.one (.st (.int .i64 0)))))
  .no])
  (.seq
  (.seq
  (.ops
  [.mk (some 5) none (.load true 2 (.t 1)) .no, .mk (some 6) none (.call 39 [.t 5]) .no, .mk (some 4) none (.mov (.t 6)) .no])
  (.seq
  (.ops
  [.mk (some 7) none (.mov (.t 4)) .no, .mk (some 8) none (.bin .neq (.t 7) (.c (.one (.st (.int .i64 0)))))
  .no])
  (.cond (.t 8)
  (.seq
  (.ops
  [.mk (some 9) none
  (.build [.st (.str (ByteArray.mk (#[]))), .full []] [])
  .no, .mk (some 10) none (.mov (.t 4)) .no, .mk none none (.store 2 (.t 2) (.t 9))
  .no, .mk (some 3) none (.mov (.t 10)) .no])
  .ret)
  .skip)))
  (.seq
  (.ops
  [.mk (some 11) none (.load true 2 (.t 1)) .no, .mk (some 12) none (.buildSlice false 24 2 [.t 11]) .no, .mk (some 13) none (.call 40 [.t 12]) .no, .mk (some 14) none
  (.indexAddr 2 (.t 13) (.c (.one (.st (.int .i64 0)))))
  .no, .mk (some 15) none (.load true 2 (.t 14)) .no, .mk none none (.store 2 (.t 2) (.t 15))
  .no, .mk (some 3) none (.mov (.c (.one (.st (.int .i64 0)))))
  .no])
  .ret)))
theorem tr_general_Canon : trCode Tryd.prog 16 [] (Tryd.f16.body.getD .skip) = some ir_general_Canon := by kernel_rfl
theorem ac_general_Canon {xs : List AV} {r : AV} (hn : xs.length ≤ 16) (h : ∀ C : Ctx, C.n = 16 → IWP Tryd.prog C [] ir_general_Canon (FinQ [.cell 2 true 2, .t 3] r) (AS.start xs)) : ACalls Tryd.prog 16 xs r :=
  acalls_of Tryd.func16 rfl tr_general_Canon rfl hn h
theorem acS_general_Canon {xs : List AV} {S S' : AStore} {r : AV} (hn : xs.length ≤ 16) (h : Clean S → ∀ C : Ctx, C.n = 16 → IWP Tryd.prog C [] ir_general_Canon (FinS C [.cell 2 true 2, .t 3] r S') (AS.startS xs S)) : ACallsS Tryd.prog 16 xs S r S' :=
  acallsS_of Tryd.func16 rfl tr_general_Canon rfl hn h

def ir_R_Canon : IR :=
  (.seq
  (.ops
  [.mk (some 2) none (.mov (.c (.one (.full [])))) .no])
  (.seq
  (.ops
  [.mk (some 3) none (.mov (.c (.one (.full [])))) .no])
  (.seq
  (.seq
  (.ops
  [.mk (some 4) none (.mov (.c (.one (.st (.int .i64 0)))))
  .no])
  (.block 0
  (.loop
  (.seq
  (.seq
  (.ops
  [.mk (some 11) none (.mov (.t 4)) .no, .mk (some 12) none (.mov (.t 0)) .no, .mk (some 13) none (.len false (.t 12)) .no, .mk (some 14) none (.bin .lss (.t 11) (.t 13))
  .no])
  (.cond (.t 14) .skip (.exit 0)))
  (.seq
  (.block 1
  (.seq
  (.ops
  [.mk (some 17) none (.mov (.t 0)) .no, .mk (some 18) none (.mov (.t 4)) .no, .mk (some 19) none (.indexAddr 2 (.t 17) (.t 18))
  .no, .mk (some 20) none (.load true 2 (.t 19)) .no, .mk (some 21) none (.call 36 [.t 20]) .no, .mk (some 5) none (.mov (.t 21)) .no])
  (.seq
  (.ops
  [.mk (some 6) none (.mov (.c (.one (.st (.int .i64 0)))))
  .no])
  (.block 2
  (.loop
  (.seq
  (.seq
  (.ops
  [.mk (some 22) none (.mov (.t 6)) .no, .mk (some 23) none (.mov (.t 5)) .no, .mk (some 24) none (.len false (.t 23))
  .no, .mk (some 25) none (.bin .lss (.t 22) (.t 24)) .no])
  (.cond (.t 25) .skip (.exit 2)))
  (.seq
  (.block 3
  (.seq
  (.ops
  [.mk (some 28) none (.mov (.t 5)) .no, .mk (some 29) none (.mov (.t 6)) .no, .mk (some 30) none
  (.indexAddr 1 (.t 28) (.t 29)) .no, .mk (some 31) none (.load false 1 (.t 30))
  .no, .mk (some 32) none (.mov (.t 3)) .no, .mk (some 33) none (.call 37 [.t 31, .t 32]) .no, .mk (some 34) none (.un .not (.t 33))
  .no])
  (.cond (.t 34)
  (.ops
  [.mk (some 35) none (.mov (.t 3)) .no, .mk (some 36) none (.mov (.t 5)) .no, .mk (some 37) none (.mov (.t 6)) .no, .mk (some 38) none
  (.indexAddr 1 (.t 36) (.t 37)) .no, .mk (some 39) none (.load false 1 (.t 38))
  .no, .mk (some 40) none (.buildFlat [.t 39])
  .no, .mk (some 41) none
  (.append false 9 1 16 (.t 35) (.t 40)) .no, .mk (some 3) none (.mov (.t 41)) .no])
  .skip)))
  (.ops
  [.mk (some 26) none (.mov (.t 6)) .no, .mk (some 27) none (.bin .add (.t 26) (.c (.one (.st (.int .i64 1)))))
  .no, .mk (some 6) none (.mov (.t 27)) .no]))))))))
  (.ops
  [.mk (some 15) none (.mov (.t 4)) .no, .mk (some 16) none (.bin .add (.t 15) (.c (.one (.st (.int .i64 1)))))
  .no, .mk (some 4) none (.mov (.t 16)) .no]))))))
  (.seq
  (.ops
  [.mk (some 7) none (.mov (.c (.one (.full [])))) .no])
  (.seq
  (.seq
  (.ops
  [.mk (some 8) none (.mov (.c (.one (.st (.int .i64 0)))))
  .no])
  (.block 4
  (.loop
  (.seq
  (.seq
  (.ops
  [.mk (some 42) none (.mov (.t 8)) .no, .mk (some 43) none (.mov (.t 3)) .no, .mk (some 44) none (.len false (.t 43)) .no, .mk (some 45) none (.bin .lss (.t 42) (.t 44))
  .no])
  (.cond (.t 45) .skip (.exit 4)))
  (.seq
  (.block 5
  (.ops
  [.mk (some 48) none (.mov (.t 7)) .no, .mk (some 49) none (.mov (.t 3)) .no, .mk (some 50) none (.mov (.t 8)) .no, .mk (some 51) none (.indexAddr 1 (.t 49) (.t 50))
  .no, .mk (some 52) none (.load false 1 (.t 51)) .no, .mk (some 53) none (.mov (.t 8)) .no, .mk (some 54) none (.bin .add (.t 53) (.c (.one (.st (.int .i64 1)))))
  .no, .mk (some 55) none (.call 9 [.t 54]) .no, .mk (some 56) none (.bin .add (.c (.one (.st (.str (ByteArray.mk (#[90])))))) (.t 55))
  .no, .mk (some 57) none
  (.build [.st (.str (ByteArray.mk (#[]))), .full []]
  [(0, 1, .t 56)])
  .no, .mk (some 58) none
  (.build
  [.st (.str (ByteArray.mk (#[]))), .st (.str (ByteArray.mk (#[]))), .full []]
  [(0, 1, .t 52), (1, 2, .t 57)])
  .no, .mk (some 59) none (.buildSlice false 36 3 [.t 58])
  .no, .mk (some 60) none
  (.append false 36 3 56 (.t 48) (.t 59)) .no, .mk (some 7) none (.mov (.t 60)) .no]))
  (.ops
  [.mk (some 46) none (.mov (.t 8)) .no, .mk (some 47) none (.bin .add (.t 46) (.c (.one (.st (.int .i64 1)))))
  .no, .mk (some 8) none (.mov (.t 47)) .no]))))))
  (.seq
  (.ops
  [.mk (some 9) none (.mov (.c (.one (.full [])))) .no])
  (.seq
  (.seq
  (.ops
  [.mk (some 10) none (.mov (.c (.one (.st (.int .i64 0)))))
  .no])
  (.block 6
  (.loop
  (.seq
  (.seq
  (.ops
  [.mk (some 61) none (.mov (.t 10)) .no, .mk (some 62) none (.mov (.t 0)) .no, .mk (some 63) none (.len false (.t 62)) .no, .mk (some 64) none (.bin .lss (.t 61) (.t 63)) .no])
  (.cond (.t 64) .skip (.exit 6)))
  (.seq
  (.block 7
  (.ops
  [.mk (some 67) none (.mov (.t 9)) .no, .mk (some 68) none (.mov (.t 7)) .no, .mk (some 69) none (.mov (.t 0)) .no, .mk (some 70) none (.mov (.t 10)) .no, .mk (some 71) none (.indexAddr 2 (.t 69) (.t 70))
  .no, .mk (some 72) none (.load true 2 (.t 71))
  .no, .mk (some 73) none (.call 38 [.t 68, .t 72])
  .no, .mk (some 74) none (.buildSlice false 24 2 [.t 73])
  .no, .mk (some 75) none
  (.append false 24 2 40 (.t 67) (.t 74)) .no, .mk (some 9) none (.mov (.t 75)) .no]))
  (.ops
  [.mk (some 65) none (.mov (.t 10)) .no, .mk (some 66) none (.bin .add (.t 65) (.c (.one (.st (.int .i64 1)))))
  .no, .mk (some 10) none (.mov (.t 66)) .no]))))))
  (.seq
  (.ops
  [.mk (some 76) none (.mov (.t 9)) .no, .mk (some 2) none (.mov (.t 76)) .no])
  .ret))))))))
theorem tr_R_Canon : trCode Tryd.prog 77 [] (Tryd.f15.body.getD .skip) = some ir_R_Canon := by kernel_rfl
theorem ac_R_Canon {xs : List AV} {r : AV} (hn : xs.length ≤ 77) (h : ∀ C : Ctx, C.n = 77 → IWP Tryd.prog C [] ir_R_Canon (FinQ [.t 2] r) (AS.start xs)) : ACalls Tryd.prog 15 xs r :=
  acalls_of Tryd.func15 rfl tr_R_Canon rfl hn h
theorem acS_R_Canon {xs : List AV} {S S' : AStore} {r : AV} (hn : xs.length ≤ 77) (h : Clean S → ∀ C : Ctx, C.n = 77 → IWP Tryd.prog C [] ir_R_Canon (FinS C [.t 2] r S') (AS.startS xs S)) : ACallsS Tryd.prog 15 xs S r S' :=
  acallsS_of Tryd.func15 rfl tr_R_Canon rfl hn h

def ir_L_GeneralSays : IR :=
  (.seq
  (.ops
  [.mk (some 2) none (.box 24 (.t 0)) .no, .mk (some 3) none (.box 24 (.t 1)) .no, .mk (some 4) none (.mov (.c (.one (.st (.bool false)))))
  .no])
  (.seq
  (.seq
  (.ops
  [.mk (some 17) none (.load true 2 (.t 2)) .no, .mk (some 18) none (.call 6 [.t 17]) .no, .mk (some 19) none (.mov (.t 18)) .no, .mk (some 20) (some (19, false)) (.load true 2 (.t 3)) .no, .mk (some 21) (some (19, false)) (.call 6 [.t 20]) .no, .mk (some 22) none
  (.pick (.t 19) (.c (.one (.st (.bool true)))) (.t 21))
  .no])
  (.cond (.t 22)
  (.seq
  (.ops
  [.mk (some 4) none (.mov (.c (.one (.st (.bool true)))))
  .no])
  .ret)
  .skip))
  (.seq
  (.ops
  [.mk (some 23) none (.load true 2 (.t 2)) .no, .mk (some 24) none (.load true 2 (.t 3)) .no, .mk (some 25) none (.call 7 [.t 23, .t 24])
  .no, .mk (some 5) none (.mov (.t 25)) .no])
  (.seq
  (.ops
  [.mk (some 26) none
  (.build [.st (.str (ByteArray.mk (#[]))), .full []] [])
  .no, .mk (some 6) none
  (.alloc 24 [.st (.str (ByteArray.mk (#[]))), .full []])
  .no, .mk none none (.store 2 (.t 6) (.t 26))
  .no])
  (.seq
  (.ops
  [.mk (some 7) none (.mov (.c (.one (.full [])))) .no])
  (.seq
  (.ops
  [.mk (some 8) none (.mov (.c (.one (.full [])))) .no])
  (.seq
  (.seq
  (.ops
  [.mk (some 27) none (.mov (.t 5)) .no, .mk (some 28) none (.bin .eql (.t 27) (.c (.one (.st (.int .i64 0)))))
  .no])
  (.cond (.t 28)
  (.seq
  (.ops
  [.mk (some 30) none (.load true 2 (.t 2)) .no, .mk (some 31) none (.load true 2 (.t 3)) .no, .mk (some 32) none (.call 8 [.t 30, .t 31])
  .no, .mk (some 29) none (.mov (.t 32)) .no, .mk (some 33) none (.extract 0 (.t 29)) .no, .mk (some 34) none (.extract 1 (.t 29)) .no, .mk (some 9) none
  (.alloc 24 [.st (.str (ByteArray.mk (#[]))), .full []])
  .no, .mk none none (.store 2 (.t 9) (.t 33))
  .no, .mk (some 10) none (.mov (.t 34)) .no])
  (.seq
  (.ops
  [.mk (some 35) none (.load true 2 (.t 9)) .no, .mk none none (.store 2 (.t 6) (.t 35))
  .no])
  (.seq
  (.ops
  [.mk (some 11) none (.mov (.c (.one (.st (.int .i64 0)))))
  .no])
  (.block 0
  (.loop
  (.seq
  (.seq
  (.ops
  [.mk (some 36) none (.mov (.t 11)) .no, .mk (some 37) none (.mov (.t 10)) .no, .mk (some 38) none (.len false (.t 37))
  .no, .mk (some 39) none (.bin .lss (.t 36) (.t 38)) .no])
  (.cond (.t 39) .skip (.exit 0)))
  (.seq
  (.block 1
  (.seq
  (.ops
  [.mk (some 42) none (.mov (.t 11)) .no, .mk (some 43) none (.bin .add (.t 42) (.c (.one (.st (.int .i64 1)))))
  .no, .mk (some 44) none (.call 9 [.t 43])
  .no, .mk (some 45) none (.bin .add (.c (.one (.st (.str (ByteArray.mk (#[90])))))) (.t 44))
  .no, .mk (some 12) none (.mov (.t 45)) .no])
  (.seq
  (.ops
  [.mk (some 46) none (.mov (.t 7)) .no, .mk (some 47) none (.mov (.t 12))
  .no, .mk (some 48) none (.mov (.t 10))
  .no, .mk (some 49) none (.mov (.t 11))
  .no, .mk (some 50) none
  (.indexAddr 4 (.t 48) (.t 49)) .no, .mk (some 51) none (.fieldAddr 0 (.t 50))
  .no, .mk (some 52) none (.load true 2 (.t 51))
  .no, .mk (some 53) none
  (.build
  [.st (.str (ByteArray.mk (#[]))), .st (.str (ByteArray.mk (#[]))), .full []]
  [(0, 1, .t 47), (1, 2, .t 52)])
  .no, .mk (some 54) none (.buildSlice false 36 3 [.t 53])
  .no, .mk (some 55) none
  (.append false 36 3 56 (.t 46) (.t 54)) .no, .mk (some 7) none (.mov (.t 55))
  .no])
  (.ops
  [.mk (some 56) none (.mov (.t 8)) .no, .mk (some 57) none (.mov (.t 12))
  .no, .mk (some 58) none (.mov (.t 10))
  .no, .mk (some 59) none (.mov (.t 11))
  .no, .mk (some 60) none
  (.indexAddr 4 (.t 58) (.t 59)) .no, .mk (some 61) none (.fieldAddr 2 (.t 60))
  .no, .mk (some 62) none (.load true 2 (.t 61))
  .no, .mk (some 63) none
  (.build
  [.st (.str (ByteArray.mk (#[]))), .st (.str (ByteArray.mk (#[]))), .full []]
  [(0, 1, .t 57), (1, 2, .t 62)])
  .no, .mk (some 64) none (.buildSlice false 36 3 [.t 63])
  .no, .mk (some 65) none
  (.append false 36 3 56 (.t 56) (.t 64)) .no, .mk (some 8) none (.mov (.t 65))
  .no]))))
  (.ops
  [.mk (some 40) none (.mov (.t 11)) .no, .mk (some 41) none (.bin .add (.t 40) (.c (.one (.st (.int .i64 1)))))
  .no, .mk (some 11) none (.mov (.t 41))
  .no]))))))))
  .skip))
  (.seq
  (.ops
  [.mk (some 67) none (.load true 2 (.t 2)) .no, .mk (some 68) none (.load true 2 (.t 3)) .no, .mk (some 69) none (.call 10 [.t 67, .t 68])
  .no, .mk (some 66) none (.mov (.t 69)) .no, .mk (some 70) none (.extract 0 (.t 66)) .no, .mk (some 71) none (.extract 1 (.t 66)) .no, .mk (some 72) none (.extract 2 (.t 66)) .no, .mk (some 73) none (.extract 3 (.t 66)) .no, .mk (some 13) none
  (.alloc 24 [.st (.str (ByteArray.mk (#[]))), .full []])
  .no, .mk none none (.store 2 (.t 13) (.t 70))
  .no, .mk (some 14) none (.mov (.t 71)) .no, .mk (some 15) none (.mov (.t 72)) .no, .mk (some 16) none (.mov (.t 73)) .no])
  (.seq
  (.seq
  (.ops
  [.mk (some 74) none (.load true 2 (.t 13)) .no, .mk (some 75) none (.mov (.t 16)) .no, .mk (some 76) none (.load true 2 (.t 6)) .no, .mk (some 77) none (.mov (.t 5)) .no, .mk (some 78) none (.call 11
  [.t 74, .t 75, .t 76, .t 77])
  .no, .mk (some 79) none (.un .not (.t 78)) .no, .mk (some 80) none (.mov (.t 79)) .no, .mk (some 81) (some (80, false)) (.mov (.t 14))
  .no, .mk (some 82) (some (80, false)) (.mov (.t 16))
  .no, .mk (some 83) (some (80, false)) (.mov (.t 7))
  .no, .mk (some 84) (some (80, false)) (.call 13 [.t 83])
  .no, .mk (some 85) (some (80, false)) (.mov (.t 5))
  .no, .mk (some 86) (some (80, false)) (.call 12
  [.t 81, .t 82, .t 84, .t 85])
  .no, .mk (some 87) (some (80, false)) (.un .not (.t 86))
  .no, .mk (some 88) none
  (.pick (.t 80) (.c (.one (.st (.bool true)))) (.t 87))
  .no, .mk (some 89) none (.mov (.t 88)) .no, .mk (some 90) (some (89, false)) (.mov (.t 15))
  .no, .mk (some 91) (some (89, false)) (.mov (.t 16))
  .no, .mk (some 92) (some (89, false)) (.mov (.t 8))
  .no, .mk (some 93) (some (89, false)) (.call 13 [.t 92])
  .no, .mk (some 94) (some (89, false)) (.mov (.t 5))
  .no, .mk (some 95) (some (89, false)) (.call 12
  [.t 90, .t 91, .t 93, .t 94])
  .no, .mk (some 96) (some (89, false)) (.un .not (.t 95))
  .no, .mk (some 97) none
  (.pick (.t 89) (.c (.one (.st (.bool true)))) (.t 96))
  .no])
  (.cond (.t 97)
  (.seq
  (.ops
  [.mk (some 4) none (.mov (.c (.one (.st (.bool false)))))
  .no])
  .ret)
  .skip))
  (.seq
  (.ops
  [.mk (some 98) none (.load true 2 (.t 2)) .no, .mk (some 99) none (.call 14 [.t 98]) .no, .mk (some 5) none (.mov (.t 99)) .no])
  (.seq
  (.seq
  (.ops
  [.mk (some 100) none (.mov (.t 5)) .no, .mk (some 101) none (.bin .eql (.t 100) (.c (.one (.st (.int .i64 0)))))
  .no])
  (.cond (.t 101)
  (.ops
  [.mk (some 102) none (.load true 2 (.t 2))
  .no, .mk (some 103) none (.buildSlice false 24 2 [.t 102])
  .no, .mk (some 104) none (.call 15 [.t 103]) .no, .mk (some 105) none
  (.indexAddr 2 (.t 104) (.c (.one (.st (.int .i64 0)))))
  .no, .mk (some 106) none (.load true 2 (.t 105))
  .no, .mk none none (.store 2 (.t 6) (.t 106))
  .no])
  .skip))
  (.seq
  (.ops
  [.mk (some 108) none (.load true 2 (.t 2)) .no, .mk (some 109) none (.call 16 [.t 108]) .no, .mk (some 107) none (.mov (.t 109)) .no, .mk (some 110) none (.extract 0 (.t 107)) .no, .mk (some 111) none (.extract 1 (.t 107)) .no, .mk none none (.store 2 (.t 13) (.t 110))
  .no, .mk (some 16) none (.mov (.t 111)) .no])
  (.seq
  (.ops
  [.mk (some 112) none (.load true 2 (.t 13))
  .no, .mk (some 113) none (.mov (.t 16)) .no, .mk (some 114) none (.load true 2 (.t 6))
  .no, .mk (some 115) none (.mov (.t 5)) .no, .mk (some 116) none (.call 11
  [.t 112, .t 113, .t 114, .t 115])
  .no, .mk (some 4) none (.mov (.t 116)) .no])
  .ret)))))))))))))
theorem tr_L_GeneralSays : trCode Tryd.prog 117 [] (Tryd.f3.body.getD .skip) = some ir_L_GeneralSays := by kernel_rfl
theorem ac_L_GeneralSays {xs : List AV} {r : AV} (hn : xs.length ≤ 117) (h : ∀ C : Ctx, C.n = 117 → IWP Tryd.prog C [] ir_L_GeneralSays (FinQ [.t 4] r) (AS.start xs)) : ACalls Tryd.prog 3 xs r :=
  acalls_of Tryd.func3 rfl tr_L_GeneralSays rfl hn h
theorem acS_L_GeneralSays {xs : List AV} {S S' : AStore} {r : AV} (hn : xs.length ≤ 117) (h : Clean S → ∀ C : Ctx, C.n = 117 → IWP Tryd.prog C [] ir_L_GeneralSays (FinS C [.t 4] r S') (AS.startS xs S)) : ACallsS Tryd.prog 3 xs S r S' :=
  acallsS_of Tryd.func3 rfl tr_L_GeneralSays rfl hn h

end Go.Proofs.YtdmgelbbjppgkaaDoor

namespace Go.Proofs.YtdmgelbbjppgkaaDoor
open Go Go.RowKit
set_option linter.unusedVariables false
set_option linter.unusedSimpArgs false
set_option maxHeartbeats 1000000

def entZ (k : Nat) : List ByteArray → List (KV × AV)
  | [] => []
  | n :: l => (.s n, aStr (zName k)) :: entZ (k + 1) l
abbrev mapZ (l : List ByteArray) : ABlk := .map none (entZ 0 l)
theorem entZ_len : ∀ (l : List ByteArray) (k : Nat), (entZ k l).length = l.length
  | [], _ => rfl
  | n :: l, k => by rw [entZ, List.length_cons, List.length_cons, entZ_len l]
theorem mGet_entZ : ∀ (l : List ByteArray) (k : Nat) (n : ByteArray), mGet (entZ k l) (.s n) = if posN l n < l.length then some (aStr (zName (k + posN l n))) else none
  | [], k, n => by simp [entZ, mGet, posN]
  | x :: l, k, n => by
    rw [entZ, mGet, posN]
    by_cases e : x = n
    · rw [if_pos (congrArg KV.s e), if_pos e]
      simp
    · rw [if_neg (fun h => e (KV.s.inj h)), if_neg e, mGet_entZ l (k + 1) n, List.length_cons]
      by_cases h : posN l n < l.length
      · rw [if_pos h, if_pos (by omega), show k + 1 + posN l n = k + (posN l n + 1) by omega]
      · rw [if_neg h, if_neg (by omega)]
theorem mPut_entZ : ∀ {l : List ByteArray} {k : Nat} {n : ByteArray}, ¬ posN l n < l.length → ∀ v, mPut (entZ k l) (.s n) v = entZ k l ++ [(.s n, v)]
  | [], k, n, h, v => rfl
  | x :: l, k, n, h, v => by
    rw [posN] at h
    by_cases e : x = n
    · rw [if_pos e] at h; simp at h
    · rw [if_neg e] at h
      rw [entZ, mPut, if_neg (fun h => e (KV.s.inj h)), mPut_entZ (by simpa using h), List.cons_append]
theorem entZ_snoc : ∀ (l : List ByteArray) (k : Nat) (n : ByteArray), entZ k (l ++ [n]) = entZ k l ++ [(.s n, aStr (zName (k + l.length)))]
  | [], k, n => by simp [entZ]
  | x :: l, k, n => by
    rw [List.cons_append, entZ, entZ_snoc l (k + 1) n, entZ, List.cons_append, List.length_cons, show k + 1 + l.length = k + (l.length + 1) by omega]
theorem zName_ne (k : Nat) : ¬ zName k = ⟨#[]⟩ := fun h => by
  have h1 := zName_size k
  rw [h] at h1
  have : (⟨#[]⟩ : ByteArray).size = 0 := rfl
  omega
/-- What a text reads as in such a map. -/
theorem look_in {l : List ByteArray} {n : ByteArray} (h : posN l n < l.length) : lookA false (aStr ⟨#[]⟩) (mGet (entZ 0 l) (.s n)) = aStr (zName (posN l n)) := by
  rw [mGet_entZ, if_pos h, Nat.zero_add]
  rfl
theorem look_out {l : List ByteArray} {n : ByteArray} (h : ¬ posN l n < l.length) : lookA false (aStr ⟨#[]⟩) (mGet (entZ 0 l) (.s n)) = aStr ⟨#[]⟩ := by
  rw [mGet_entZ, if_neg h]
  rfl
theorem put_out {l : List ByteArray} {n : ByteArray} (h : ¬ posN l n < l.length) : mPut (entZ 0 l) (.s n) (aStr (zName l.length)) = entZ 0 (addN l n) := by
  rw [mPut_entZ h, show addN l n = l ++ [n] by unfold addN; rw [if_neg h], entZ_snoc, Nat.zero_add]

abbrev turnFn (n0 f0 : Nat) : AC := .fn 57 [.ptr n0 1 0 0, .ptr f0 1 0 0]
theorem turn_M (t : Tm) (hz : t.size ≤ 1000000) : ∀ (n0 f0 m0 : Nat) (e1 e2 : TypeId) (l : List ByteArray) (S : AStore), 1000 ≤ n0 → 1000 ≤ f0 → 1000 ≤ m0 → ¬ n0 = m0 → ¬ f0 = m0 → l.length + t.size ≤ 900000 →
    S n0 = some (.box e1 [.mptr m0]) → S f0 = some (.box e2 [turnFn n0 f0]) → S m0 = some (mapZ l) →
    ACallsS Tryd.prog 57 [aTm t, .one (.ptr n0 1 0 0), .one (.ptr f0 1 0 0)] S (aTm (t.cn l).1) (updE S m0 (some (mapZ (t.cn l).2))) := by
  induction h : SizeOf.sizeOf t using Nat.strongRecOn generalizing t with
  | _ N ih =>
  subst h
  intro n0 f0 m0 e1 e2 l S hn0 hf0 hm0 hnm hfm hl hSn hSf hSm
  have hs := Tm.size_eq t
  have hln := Tm.length_le t.args
  refine acS_general_Named_1 (Nat.le_of_ble_eq_true rfl) fun hS C hC => ?_
  have k3 : S 3 = none := clean_none hS (by omega)
  have k4 : S 4 = none := clean_none hS (by omega)
  have k5 : S 5 = none := clean_none hS (by omega)
  have k7 : S 7 = none := clean_none hS (by omega)
  have k900 : S 900 = none := clean_none hS (by omega)
  have a3 : ¬ n0 = 3 := by omega
  have a4 : ¬ n0 = 4 := by omega
  have a5 : ¬ n0 = 5 := by omega
  have a7 : ¬ n0 = 7 := by omega
  have a900 : ¬ n0 = 900 := by omega
  have b3 : ¬ f0 = 3 := by omega
  have b4 : ¬ f0 = 4 := by omega
  have b5 : ¬ f0 = 5 := by omega
  have b7 : ¬ f0 = 7 := by omega
  have b900 : ¬ f0 = 900 := by omega
  have c3 : ¬ m0 = 3 := by omega
  have c4 : ¬ m0 = 4 := by omega
  have c5 : ¬ m0 = 5 := by omega
  have c7 : ¬ m0 = 7 := by omega
  have c900 : ¬ m0 = 900 := by omega
  have d3 : ¬ 3 = m0 := by omega
  have d4 : ¬ 4 = m0 := by omega
  have d5 : ¬ 5 = m0 := by omega
  have d7 : ¬ 7 = m0 := by omega
  have d900 : ¬ 900 = m0 := by omega
  have hplain : plainF Tryd.prog 57 = true := by kernel_rfl
  unfold ir_general_Named_1
  repeat' (first | (with_reducible first | refine Wa ?_ | refine Wb ?_ | refine Wc ?_ | refine Wd ?_ | refine We ?_ | refine Wf ?_ | refine Wg ?_ | refine Wh ?_ | refine Wi ?_ | refine Wj ?_ | refine Wk (by decide) ?_ | refine Wl ?_ | refine Wm ?_ | refine Wn ?_) | ((with_reducible first | refine Wo (fun K hK => ?_) | refine Wp ?_ | refine Wq ?_ | refine Wr ?_); (try simp only [go_sem, List.forall_mem_nil, ↓guard_ite, ↓pick_ite, seval, encT_eq, inR_i64, k3, k4, decide_eq_true_eq, decide_eq_false_iff_not, Int.ofNat_lt]); (repeat with_reducible refine And.intro (by first | omega | (with_reducible first | exact lens_encT | exact lens_encL | exact lens_encB | exact lens_encP) | (simp; done) | (simp only [List.length_take, List.length_map, List.length_append, maxLen_eq]; omega)) ?_); (try (with_reducible refine hK _ ?_; clear hK K)); (try with_reducible refine ite_conj ?_)))
  refine ⟨_, variable_a _, ?_⟩
  cases hv : isVar t.name with
  | true =>
    have hcn := cn_var (l := l) hv
    by_cases hp : posN l t.name < l.length
    · have hadd : addN l t.name = l := by unfold addN; rw [if_pos hp]
      have hne := zName_ne (posN l t.name)
      repeat' (first | (with_reducible first | refine Wa ?_ | refine Wb ?_ | refine Wc ?_ | refine Wd ?_ | refine We ?_ | refine Wf ?_ | refine Wg ?_ | refine Wh ?_ | refine Wi ?_ | refine Wj ?_ | refine Wk (by decide) ?_ | refine Wl ?_ | refine Wm ?_ | refine Wn ?_) | ((with_reducible first | refine Wo (fun K hK => ?_) | refine Wp ?_ | refine Wq ?_ | refine Wr ?_); (try simp only [go_sem, List.forall_mem_nil, ↓guard_ite, ↓pick_ite, seval, encT_eq, inR_i64, hv, hSn, hSf, hSm, k3, k4, a3, a4, c3, c4, d3, d4, mapOf, keyOf, KV.of, look_in, hp, hne, decide_eq_true_eq, decide_eq_false_iff_not, Int.ofNat_lt]); (repeat with_reducible refine And.intro (by first | omega | (with_reducible first | exact lens_encT | exact lens_encL | exact lens_encB | exact lens_encP) | (simp; done) | (simp only [List.length_take, List.length_map, List.length_append, maxLen_eq]; omega)) ?_); (try (with_reducible refine hK _ ?_; clear hK K)); (try with_reducible refine ite_conj ?_)))
      rw [hcn, hadd]
      refine finS_one (.agg [.st (.str (zName (posN l t.name))), .full []]) hS hm0 rfl trivial ?_ ?_ ?_ fun i hi hne => ?_
      · simp only [go_sem, List.forall_mem_nil, ↓guard_ite, ↓pick_ite, seval, encT_eq, inR_i64, resAll, resOne, tupV]
      · simp only [go_sem, List.forall_mem_nil, ↓guard_ite, ↓pick_ite, seval, encT_eq, inR_i64]
        rfl
      · simp only [go_sem, List.forall_mem_nil, ↓guard_ite, ↓pick_ite, seval, encT_eq, inR_i64, c3, c4, hSm]
      · have i3 : ¬ i = 3 := by omega
        have i4 : ¬ i = 4 := by omega
        simp only [go_sem, List.forall_mem_nil, ↓guard_ite, ↓pick_ite, seval, encT_eq, inR_i64, i3, i4]
    · have hpn : posN l t.name = l.length := by have := posN_le l t.name; omega
      have hel := entZ_len l 0
      have hp2 : posN (addN l t.name) t.name < (addN l t.name).length := by
        unfold addN
        rw [if_neg hp, posN_snoc hp, List.length_append, List.length_singleton]
        omega
      have hp3 : posN (addN l t.name) t.name = l.length := by
        unfold addN
        rw [if_neg hp, posN_snoc hp]
      have hlk2 : lookA false (aStr ⟨#[]⟩) (mGet (entZ 0 (addN l t.name)) (.s t.name)) = aStr (zName l.length) := by rw [look_in hp2, hp3]
      repeat' (first | (with_reducible first | refine Wa ?_ | refine Wb ?_ | refine Wc ?_ | refine Wd ?_ | refine We ?_ | refine Wf ?_ | refine Wg ?_ | refine Wh ?_ | refine Wi ?_ | refine Wj ?_ | refine Wk (by decide) ?_ | refine Wl ?_ | refine Wm ?_ | refine Wn ?_) | refine CallG.mk _ (genName_a l.length (by omega)) ?_ | ((with_reducible first | refine Wo (fun K hK => ?_) | refine Wp ?_ | refine Wq ?_ | refine Wr ?_); (try simp only [go_sem, List.forall_mem_nil, ↓guard_ite, ↓pick_ite, seval, encT_eq, inR_i64, hv, hSn, hSf, hSm, k3, k4, a3, a4, c3, c4, d3, d4, hnm, mapOf, keyOf, KV.of, look_out, hp, hel, put_out, hlk2, decide_eq_true_eq, decide_eq_false_iff_not, Int.ofNat_lt]); (repeat with_reducible refine And.intro (by first | omega | (with_reducible first | exact lens_encT | exact lens_encL | exact lens_encB | exact lens_encP) | (simp; done) | (simp only [List.length_take, List.length_map, List.length_append, maxLen_eq]; omega)) ?_); (try (with_reducible refine hK _ ?_; clear hK K)); (try with_reducible refine ite_conj ?_)))
      rw [hcn, hpn]
      refine finS_one (.agg [.st (.str (zName l.length)), .full []]) hS hm0 rfl trivial ?_ ?_ ?_ fun i hi hne => ?_
      · simp only [go_sem, List.forall_mem_nil, ↓guard_ite, ↓pick_ite, seval, encT_eq, inR_i64, resAll, resOne, tupV, d4]
      · simp only [go_sem, List.forall_mem_nil, ↓guard_ite, ↓pick_ite, seval, encT_eq, inR_i64]
        rfl
      · simp only [go_sem, List.forall_mem_nil, ↓guard_ite, ↓pick_ite, seval, encT_eq, inR_i64, c3, c4, hSm]
      · have i3 : ¬ i = 3 := by omega
        have i4 : ¬ i = 4 := by omega
        simp only [go_sem, List.forall_mem_nil, ↓guard_ite, ↓pick_ite, seval, encT_eq, inR_i64, i3, i4, hne]
  | false =>
    have hcn := cn_knot (l := l) hv
    repeat' (first | (with_reducible first | refine Wa ?_ | refine Wb ?_ | refine Wc ?_ | refine Wd ?_ | refine We ?_ | refine Wf ?_ | refine Wg ?_ | refine Wh ?_ | refine Wi ?_ | refine Wj ?_ | refine Wk (by decide) ?_ | refine Wl ?_ | refine Wm ?_ | refine Wn ?_) | ((with_reducible first | refine Wo (fun K hK => ?_) | refine Wp ?_ | refine Wq ?_ | refine Wr ?_); (try simp only [go_sem, List.forall_mem_nil, ↓guard_ite, ↓pick_ite, seval, encT_eq, inR_i64, hv, k3, k4, k5, decide_eq_true_eq, decide_eq_false_iff_not, Int.ofNat_lt]); (repeat with_reducible refine And.intro (by first | omega | (with_reducible first | exact lens_encT | exact lens_encL | exact lens_encB | exact lens_encP) | (simp; done) | (simp only [List.length_take, List.length_map, List.length_append, maxLen_eq]; omega)) ?_); (try (with_reducible refine hK _ ?_; clear hK K)); (try with_reducible refine ite_conj ?_)))
    refine IWP.ghost (Ghost.ownC 5 1 900 24 2 (xs := ([] : List Tm).map encT) (by rfl) (by rfl) (by simp only [go_sem, List.forall_mem_nil, ↓guard_ite, ↓pick_ite, seval, encT_eq, inR_i64, k900]) lens_encT) ?_
    refine IWP.loopD [7] (fun m x => ∃ k, k ≤ t.args.length ∧ m = t.args.length - k ∧ x.env 1 = .one (.ptr n0 1 0 0) ∧ x.env 2 = .one (.ptr f0 1 0 0) ∧ x.env 4 = .one (.ptr 4 1 0 0) ∧ x.env 5 = .one (.ptr 5 1 0 0) ∧ x.env 31 = aTms t.args ∧ x.env 32 = aInt t.args.length ∧ x.env 33 = aInt k ∧
        x.S 4 = some (.box 24 [.st (.str ⟨#[]⟩), .full []]) ∧ x.S 5 = some (.box 24 [.st (.str t.name), .row 900 k]) ∧ x.S 900 = some (.arow 24 2 ((Tm.cnL (t.args.take k) l).1.map encT)) ∧ x.S 7 = none ∧ x.S n0 = some (.box e1 [.mptr m0]) ∧ x.S f0 = some (.box e2 [turnFn n0 f0]) ∧ x.S m0 = some (mapZ (Tm.cnL (t.args.take k) l).2) ∧ ∀ i, 1000 ≤ i → i ≠ m0 → x.S i = S i)
      t.args.length ⟨0, Nat.zero_le _, rfl, rfl, rfl, rfl, rfl, rfl, rfl, rfl, by simp only [go_sem, List.forall_mem_nil, ↓guard_ite, ↓pick_ite, seval, encT_eq, inR_i64], by (simp only [go_sem, List.forall_mem_nil, ↓guard_ite, ↓pick_ite, seval, encT_eq, inR_i64]; rfl), rfl, by simp only [go_sem, List.forall_mem_nil, ↓guard_ite, ↓pick_ite, seval, encT_eq, inR_i64, k7], by simp only [go_sem, List.forall_mem_nil, ↓guard_ite, ↓pick_ite, seval, encT_eq, inR_i64, a3, a4, a5, a900, hSn], by simp only [go_sem, List.forall_mem_nil, ↓guard_ite, ↓pick_ite, seval, encT_eq, inR_i64, b3, b4, b5, b900, hSf], by (simp only [go_sem, List.forall_mem_nil, ↓guard_ite, ↓pick_ite, seval, encT_eq, inR_i64, c3, c4, c5, c900, hSm]; rfl), fun i hi hne => ?_⟩ ?_
    · have i3 : ¬ i = 3 := by omega
      have i4 : ¬ i = 4 := by omega
      have i5 : ¬ i = 5 := by omega
      have i900 : ¬ i = 900 := by omega
      simp only [go_sem, List.forall_mem_nil, ↓guard_ite, ↓pick_ite, seval, encT_eq, inR_i64, i3, i4, i5, i900]
    rintro m ⟨env, S1⟩ ⟨k, hk, rfl, v1, v2, v4, v5, v31, v32, v33, s4, s5, s900, s7, sn, sf, sm, hrest⟩
    simp only at v1 v2 v4 v5 v31 v32 v33 s4 s5 s900 s7 sn sf sm hrest
    have hlk : (Tm.cnL (t.args.take k) l).1.length = k := by rw [cnL_len, List.length_take]; omega
    have hnl := cnL_names_len (t.args.take k) l
    by_cases hlt : (k : Int) < t.args.length
    · obtain ⟨x, hx⟩ := get_lt (show k < t.args.length by omega)
      have z1 := Tm.sizes_take hx
      have z2 := Tm.sizes_take_le t.args (k + 1)
      have hstep := cnL_take (l := l) hx
      repeat' (first | (with_reducible first | refine Wa ?_ | refine Wb ?_ | refine Wc ?_ | refine Wd ?_ | refine We ?_ | refine Wf ?_ | refine Wg ?_ | refine Wh ?_ | refine Wi ?_ | refine Wj ?_ | refine Wk (by decide) ?_ | refine Wl ?_ | refine Wm ?_ | refine Wn ?_) | ((with_reducible first | refine Wo (fun K hK => ?_) | refine Wp ?_ | refine Wq ?_ | refine Wr ?_); (try simp only [go_sem, List.forall_mem_nil, ↓guard_ite, ↓pick_ite, seval, encT_eq, inR_i64, v1, v2, v4, v5, v31, v32, v33, s4, s5, s900, s7, sn, sf, sm, hlt, hx, hplain, a7, b7, c7, d7, d5, decide_eq_true_eq, decide_eq_false_iff_not, Int.ofNat_lt]); (repeat with_reducible refine And.intro (by first | omega | (with_reducible first | exact lens_encT | exact lens_encL | exact lens_encB | exact lens_encP) | (simp; done) | (simp only [List.length_take, List.length_map, List.length_append, maxLen_eq]; omega)) ?_); (try (with_reducible refine hK _ ?_; clear hK K)); (try with_reducible refine ite_conj ?_)))
      refine ⟨_, _, ih _ (Tm.lt_of_arg (mem_of_get hx)) x (by omega) rfl (up1 n0) (up1 f0) (up1 m0) e1 e2 (Tm.cnL (t.args.take k) l).2 _ (up1_le n0) (up1_le f0) (up1_le m0) (fun e => hnm (Nat.add_right_cancel e)) (fun e => hfm (Nat.add_right_cancel e)) (by omega) (by rw [upS_up]; (simp only [go_sem, List.forall_mem_nil, ↓guard_ite, ↓pick_ite, seval, encT_eq, inR_i64, a7, sn])) (by rw [upS_up]; (simp only [go_sem, List.forall_mem_nil, ↓guard_ite, ↓pick_ite, seval, encT_eq, inR_i64, b7, sf])) (by rw [upS_up]; (simp only [go_sem, List.forall_mem_nil, ↓guard_ite, ↓pick_ite, seval, encT_eq, inR_i64, c7, sm])), ?_⟩
      repeat' (first | (with_reducible first | refine Wa ?_ | refine Wb ?_ | refine Wc ?_ | refine Wd ?_ | refine We ?_ | refine Wf ?_ | refine Wg ?_ | refine Wh ?_ | refine Wi ?_ | refine Wj ?_ | refine Wk (by decide) ?_ | refine Wl ?_ | refine Wm ?_ | refine Wn ?_) | ((with_reducible first | refine Wo (fun K hK => ?_) | refine Wp ?_ | refine Wq ?_ | refine Wr ?_); (try simp only [go_sem, List.forall_mem_nil, ↓guard_ite, ↓pick_ite, seval, encT_eq, inR_i64, v1, v2, v4, v5, v31, v32, v33, s4, s5, s900, s7, sn, sf, sm, a7, b7, c7, d7, d5, d900, c5, c900, a5, a900, b5, b900, hlk, hnm, hfm, decide_eq_true_eq, decide_eq_false_iff_not, Int.ofNat_lt]); (repeat with_reducible refine And.intro (by first | omega | (with_reducible first | exact lens_encT | exact lens_encL | exact lens_encB | exact lens_encP) | (simp; done) | (simp only [List.length_take, List.length_map, List.length_append, maxLen_eq]; omega)) ?_); (try (with_reducible refine hK _ ?_; clear hK K)); (try with_reducible refine ite_conj ?_)))
      refine then_normal ⟨t.args.length - (k + 1), by omega, k + 1, by omega, rfl, ?_⟩
      rw [hstep]
      have hnb : (n0 == 7) = false := by simp; omega
      have hfb : (f0 == 7) = false := by simp; omega
      have hmb : (m0 == 7) = false := by simp; omega
      simp only [go_sem, List.forall_mem_nil, ↓guard_ite, ↓pick_ite, seval, AS.drop, dropS, AC.clears, AC.clear, AC.highs, AC.high, Bool.not_false, Bool.true_and, Bool.and_self, AV.purge, AV.purges, AC.purge, ABlk.purge, List.contains_cons, List.contains_nil, Nat.reduceBEq, Bool.or_self, Bool.or_false, Bool.false_or, Bool.or_true, encT_eq, inR_i64, v1, v2, v4, v5, v31, v32, v33, s4, s5, s900, s7, sn, sf, sm, a7, b7, c7, d7, d5, d900, c5, c900, a5, a900, b5, b900, hnb, hfb, hmb, hnm, hfm, d4]
      refine ⟨by congr 3, ?_, fun i hi hne => ?_⟩
      · rw [List.map_append, List.map_cons, List.map_nil, encT_eq]
      · have i5 : ¬ i = 5 := by omega
        have i7 : ¬ i = 7 := by omega
        have i7b : (i == 7) = false := by simp; omega
        have i900 : ¬ i = 900 := by omega
        simp only [go_sem, List.forall_mem_nil, ↓guard_ite, ↓pick_ite, seval, AS.drop, dropS, AC.clears, AC.clear, AC.highs, AC.high, Bool.not_false, Bool.true_and, Bool.and_self, AV.purge, AV.purges, AC.purge, ABlk.purge, List.contains_cons, List.contains_nil, Nat.reduceBEq, Bool.or_self, Bool.or_false, Bool.false_or, Bool.or_true, encT_eq, inR_i64, i5, i7, i7b, i900, hne]
        rw [hrest i hi hne]
        exact purgeS (by decide) fun b hb => (hS i b hb).2
    · rw [List.take_of_length_le (by omega)] at sm s900 hlk
      repeat' (first | (with_reducible first | refine Wa ?_ | refine Wb ?_ | refine Wc ?_ | refine Wd ?_ | refine We ?_ | refine Wf ?_ | refine Wg ?_ | refine Wh ?_ | refine Wi ?_ | refine Wj ?_ | refine Wk (by decide) ?_ | refine Wl ?_ | refine Wm ?_ | refine Wn ?_) | ((with_reducible first | refine Wo (fun K hK => ?_) | refine Wp ?_ | refine Wq ?_ | refine Wr ?_); (try simp only [go_sem, List.forall_mem_nil, ↓guard_ite, ↓pick_ite, seval, encT_eq, inR_i64, v4, v5, v31, v32, v33, s4, s5, hlt, decide_eq_true_eq, decide_eq_false_iff_not, Int.ofNat_lt]); (repeat with_reducible refine And.intro (by first | omega | (with_reducible first | exact lens_encT | exact lens_encL | exact lens_encB | exact lens_encP) | (simp; done) | (simp only [List.length_take, List.length_map, List.length_append, maxLen_eq]; omega)) ?_); (try (with_reducible refine hK _ ?_; clear hK K)); (try with_reducible refine ite_conj ?_)))
      rw [hcn]
      refine finS_one (.agg [.st (.str t.name), .row 900 k]) hS hm0 rfl trivial ?_ ?_ ?_ fun i hi hne => ?_
      · simp only [go_sem, List.forall_mem_nil, ↓guard_ite, ↓pick_ite, seval, encT_eq, inR_i64, resAll, resOne, tupV, v4]
      · simp only [go_sem, List.forall_mem_nil, ↓guard_ite, ↓pick_ite, seval, encT_eq, inR_i64, s900, hlk]
        rfl
      · simp only [go_sem, List.forall_mem_nil, ↓guard_ite, ↓pick_ite, seval, encT_eq, inR_i64, c4, sm]
      · have i4 : ¬ i = 4 := by omega
        simp only [go_sem, List.forall_mem_nil, ↓guard_ite, ↓pick_ite, seval, encT_eq, inR_i64, i4]
        exact hrest i hi hne
theorem named_a (t : Tm) (hz : t.size ≤ 800000) : ACalls Tryd.prog 40 [aTms [t]] (aTms [(t.cn []).1]) := by
  have hplain : plainF Tryd.prog 57 = true := by kernel_rfl
  refine ac_general_Named (Nat.le_of_ble_eq_true rfl) fun C hC => ?_
  unfold ir_general_Named
  repeat' (first | (with_reducible first | refine Wa ?_ | refine Wb ?_ | refine Wc ?_ | refine Wd ?_ | refine We ?_ | refine Wf ?_ | refine Wg ?_ | refine Wh ?_ | refine Wi ?_ | refine Wj ?_ | refine Wk (by decide) ?_ | refine Wl ?_ | refine Wm ?_ | refine Wn ?_) | ((with_reducible first | refine Wo (fun K hK => ?_) | refine Wp ?_ | refine Wq ?_ | refine Wr ?_); (try simp only [go_sem, List.forall_mem_nil, ↓guard_ite, ↓pick_ite, seval, encT_eq, inR_i64, AS.caps, decide_eq_true_eq, decide_eq_false_iff_not, Int.ofNat_lt]); (repeat with_reducible refine And.intro (by first | omega | (with_reducible first | exact lens_encT | exact lens_encL | exact lens_encB | exact lens_encP) | (simp; done) | (simp only [List.length_take, List.length_map, List.length_append, maxLen_eq]; omega)) ?_); (try (with_reducible refine hK _ ?_; clear hK K)); (try with_reducible refine ite_conj ?_)))
  refine IWP.ghost (Ghost.own 5 900 24 2 (xs := ([] : List Tm).map encT) (by rfl) (by rfl) lens_encT (by rw [hC]; decide)) ?_
  refine IWP.loopD [7] (fun m x => ∃ k, k ≤ 1 ∧ m = 1 - k ∧ x.env 4 = .one (.ptr 4 1 0 0) ∧ x.env 5 = .one (.row 900 k) ∧ x.env 10 = aTms [t] ∧ x.env 11 = aInt 1 ∧ x.env 12 = aInt k ∧ x.S 900 = some (.arow 24 2 (([(t.cn []).1].take k).map encT)) ∧ x.S 7 = none ∧ (k = 0 → (∃ e1, x.S 3 = some (.box e1 [.mptr 8])) ∧ (∃ e2, x.S 4 = some (.box e2 [turnFn 3 4])) ∧ x.S 8 = some (mapZ []))) 1 ⟨0, Nat.zero_le _, rfl, rfl, rfl, rfl, rfl, rfl, rfl, rfl, fun _ => ⟨⟨_, rfl⟩, ⟨_, rfl⟩, rfl⟩⟩ ?_
  rintro m ⟨env, S⟩ ⟨k, hk, rfl, v4, v5, v10, v11, v12, s900, s7, hrest⟩
  simp only at v4 v5 v10 v11 v12 s900 s7 hrest
  by_cases hlt : (k : Int) < 1
  · obtain rfl : k = 0 := by omega
    obtain ⟨⟨e1, s3⟩, ⟨e2, s4⟩, s8⟩ := hrest rfl
    repeat' (first | (with_reducible first | refine Wa ?_ | refine Wb ?_ | refine Wc ?_ | refine Wd ?_ | refine We ?_ | refine Wf ?_ | refine Wg ?_ | refine Wh ?_ | refine Wi ?_ | refine Wj ?_ | refine Wk (by decide) ?_ | refine Wl ?_ | refine Wm ?_ | refine Wn ?_) | ((with_reducible first | refine Wo (fun K hK => ?_) | refine Wp ?_ | refine Wq ?_ | refine Wr ?_); (try simp only [go_sem, List.forall_mem_nil, ↓guard_ite, ↓pick_ite, seval, encT_eq, inR_i64, v4, v5, v10, v11, v12, s900, s7, s3, s4, s8, hplain, decide_eq_true_eq, decide_eq_false_iff_not, Int.ofNat_lt]); (repeat with_reducible refine And.intro (by first | omega | (with_reducible first | exact lens_encT | exact lens_encL | exact lens_encB | exact lens_encP) | (simp; done) | (simp only [List.length_take, List.length_map, List.length_append, maxLen_eq]; omega)) ?_); (try (with_reducible refine hK _ ?_; clear hK K)); (try with_reducible refine ite_conj ?_)))
    refine ⟨_, _, turn_M t (by omega) (up1 3) (up1 4) (up1 8) e1 e2 [] _ (up1_le 3) (up1_le 4) (up1_le 8) (by decide) (by decide) (by simp; omega) (by rw [upS_up]; (simp only [go_sem, List.forall_mem_nil, ↓guard_ite, ↓pick_ite, seval, encT_eq, inR_i64, s3])) (by rw [upS_up]; (simp only [go_sem, List.forall_mem_nil, ↓guard_ite, ↓pick_ite, seval, encT_eq, inR_i64, s4])) (by rw [upS_up]; (simp only [go_sem, List.forall_mem_nil, ↓guard_ite, ↓pick_ite, seval, encT_eq, inR_i64, s8])), ?_⟩
    repeat' (first | (with_reducible first | refine Wa ?_ | refine Wb ?_ | refine Wc ?_ | refine Wd ?_ | refine We ?_ | refine Wf ?_ | refine Wg ?_ | refine Wh ?_ | refine Wi ?_ | refine Wj ?_ | refine Wk (by decide) ?_ | refine Wl ?_ | refine Wm ?_ | refine Wn ?_) | ((with_reducible first | refine Wo (fun K hK => ?_) | refine Wp ?_ | refine Wq ?_ | refine Wr ?_); (try simp only [go_sem, List.forall_mem_nil, ↓guard_ite, ↓pick_ite, seval, encT_eq, inR_i64, v4, v5, v10, v11, v12, s900, s7, s3, s4, s8, decide_eq_true_eq, decide_eq_false_iff_not, Int.ofNat_lt]); (repeat with_reducible refine And.intro (by first | omega | (with_reducible first | exact lens_encT | exact lens_encL | exact lens_encB | exact lens_encP) | (simp; done) | (simp only [List.length_take, List.length_map, List.length_append, maxLen_eq]; omega)) ?_); (try (with_reducible refine hK _ ?_; clear hK K)); (try with_reducible refine ite_conj ?_)))
    refine then_normal ⟨0, by omega, 1, by omega, rfl, ?_⟩
    simp only [go_sem, List.forall_mem_nil, ↓guard_ite, ↓pick_ite, seval, AS.drop, dropS, AC.clears, AC.clear, AC.highs, AC.high, Bool.not_false, Bool.true_and, Bool.and_self, AV.purge, AV.purges, AC.purge, ABlk.purge, List.contains_cons, List.contains_nil, Nat.reduceBEq, Bool.or_self, Bool.or_false, Bool.false_or, Bool.or_true, encT_eq, inR_i64, v4, v5, v10, v11, v12, s900, s7, s3, s4, s8]
    first | rfl | simp [encT_eq]
  · obtain rfl : k = 1 := by omega
    repeat' (first | (with_reducible first | refine Wa ?_ | refine Wb ?_ | refine Wc ?_ | refine Wd ?_ | refine We ?_ | refine Wf ?_ | refine Wg ?_ | refine Wh ?_ | refine Wi ?_ | refine Wj ?_ | refine Wk (by decide) ?_ | refine Wl ?_ | refine Wm ?_ | refine Wn ?_) | ((with_reducible first | refine Wo (fun K hK => ?_) | refine Wp ?_ | refine Wq ?_ | refine Wr ?_); (try simp only [go_sem, List.forall_mem_nil, ↓guard_ite, ↓pick_ite, seval, encT_eq, inR_i64, v5, v10, v11, v12, s900, decide_eq_true_eq, decide_eq_false_iff_not, Int.ofNat_lt]); (repeat with_reducible refine And.intro (by first | omega | (with_reducible first | exact lens_encT | exact lens_encL | exact lens_encB | exact lens_encP) | (simp; done) | (simp only [List.length_take, List.length_map, List.length_append, maxLen_eq]; omega)) ?_); (try (with_reducible refine hK _ ?_; clear hK K)); (try with_reducible refine ite_conj ?_)))
    simp only [go_sem, List.forall_mem_nil, ↓guard_ite, ↓pick_ite, seval, FinQ, AS.result, resAll, resOne, tupV, s900]
    try rfl
theorem canonP_a (t : Tm) : ACalls Tryd.prog 16 [aTm t] (.tup [aTm (if t.may = 0 then canonT t else Tm.nil), aInt t.may]) := by
  refine ac_general_Canon (Nat.le_of_ble_eq_true rfl) fun C hC => ?_
  unfold ir_general_Canon
  by_cases h : t.may = 0
  · have hz := (Tm.may_chk h).2
    have hn := named_a t (by omega)
    rw [cn_canon (Tm.may_chk h).1] at hn
    unfold aTms at hn
    simp only [List.map_cons, List.map_nil, encT_eq] at hn
    repeat' (first | (with_reducible first | refine Wa ?_ | refine Wb ?_ | refine Wc ?_ | refine Wd ?_ | refine We ?_ | refine Wf ?_ | refine Wg ?_ | refine Wh ?_ | refine Wi ?_ | refine Wj ?_ | refine Wk (by decide) ?_ | refine Wl ?_ | refine Wm ?_ | refine Wn ?_) | refine CallG.mk _ (checkT_a t) ?_ | refine CallG.mk _ (hn) ?_ | ((with_reducible first | refine Wo (fun K hK => ?_) | refine Wp ?_ | refine Wq ?_ | refine Wr ?_); (try simp only [go_sem, List.forall_mem_nil, ↓guard_ite, ↓pick_ite, seval, encT_eq, inR_i64, h, decide_eq_true_eq, decide_eq_false_iff_not, Int.ofNat_lt]); (repeat with_reducible refine And.intro (by first | omega | (with_reducible first | exact lens_encT | exact lens_encL | exact lens_encB | exact lens_encP) | (simp; done) | (simp only [List.length_take, List.length_map, List.length_append, maxLen_eq]; omega)) ?_); (try (with_reducible refine hK _ ?_; clear hK K)); (try with_reducible refine ite_conj ?_)))
    simp only [go_sem, List.forall_mem_nil, ↓guard_ite, ↓pick_ite, seval, FinQ, AS.result, resAll, resOne, tupV, h]
    try rfl
  · repeat' (first | (with_reducible first | refine Wa ?_ | refine Wb ?_ | refine Wc ?_ | refine Wd ?_ | refine We ?_ | refine Wf ?_ | refine Wg ?_ | refine Wh ?_ | refine Wi ?_ | refine Wj ?_ | refine Wk (by decide) ?_ | refine Wl ?_ | refine Wm ?_ | refine Wn ?_) | refine CallG.mk _ (checkT_a t) ?_ | ((with_reducible first | refine Wo (fun K hK => ?_) | refine Wp ?_ | refine Wq ?_ | refine Wr ?_); (try simp only [go_sem, List.forall_mem_nil, ↓guard_ite, ↓pick_ite, seval, encT_eq, inR_i64, h, decide_eq_true_eq, decide_eq_false_iff_not, Int.ofNat_lt]); (repeat with_reducible refine And.intro (by first | omega | (with_reducible first | exact lens_encT | exact lens_encL | exact lens_encB | exact lens_encP) | (simp; done) | (simp only [List.length_take, List.length_map, List.length_append, maxLen_eq]; omega)) ?_); (try (with_reducible refine hK _ ?_; clear hK K)); (try with_reducible refine ite_conj ?_)))
    simp only [go_sem, List.forall_mem_nil, ↓guard_ite, ↓pick_ite, seval, FinQ, AS.result, resAll, resOne, tupV, h]
    try rfl
end Go.Proofs.YtdmgelbbjppgkaaDoor
