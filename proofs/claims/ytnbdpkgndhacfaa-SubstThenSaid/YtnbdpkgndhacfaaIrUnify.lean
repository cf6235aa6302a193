/-
  The program's functions in abstract operations: written by a program of mine out of the translation; each is shown to be the translation's.
  Conditions: none.
-/
import Derived.Test.YtnbdpkgndhacfaaBSort
namespace Go.Proofs.Ytnbdpkgndhacfaa
open Go Go.RowKit
set_option maxRecDepth 100000

def ir_unify_Check : IR :=
  (.seq
  (.ops
  [.mk (some 2) none (.mov (.c (.one (.st (.int .i64 0)))))
  .no])
  (.seq
  (.seq
  (.ops
  [.mk (some 8) none (.mov (.t 0)) .no, .mk (some 9) none (.len false (.t 8)) .no, .mk (some 10) none (.bin .gtr (.t 9) (.c (.one (.st (.int .i64 40)))))
  .no])
  (.cond (.t 10)
  (.seq
  (.ops
  [.mk (some 2) none (.mov (.c (.one (.st (.int .i64 3)))))
  .no])
  .ret)
  .skip))
  (.seq
  (.seq
  (.ops
  [.mk (some 11) none (.mov (.t 0)) .no, .mk (some 12) none (.len false (.t 11)) .no, .mk (some 13) none (.mov (.c (.one (.st (.int .i64 0)))))
  .no])
  (.block 0
  (.loop
  (.seq
  (.ops
  [.mk (some 14) none (.bin .lss (.t 13) (.t 12))
  .no])
  (.seq (.cond (.t 14) .skip (.exit 0))
  (.seq
  (.block 1
  (.seq
  (.ops
  [.mk (some 15) none (.indexAddr 4 (.t 11) (.t 13))
  .no, .mk (some 16) none (.load true 4 (.t 15)) .no, .mk (some 4) none
  (.alloc 57
  [.st (.str (ByteArray.mk (#[]))), .full [], .st (.str (ByteArray.mk (#[]))), .full []])
  .no, .mk none none (.store 4 (.t 4) (.t 16))
  .no])
  (.seq
  (.ops
  [.mk (some 17) none (.fieldAddr 0 (.t 4)) .no, .mk (some 18) none (.load true 2 (.t 17)) .no, .mk (some 19) none (.fieldAddr 2 (.t 4)) .no, .mk (some 20) none (.load true 2 (.t 19)) .no, .mk (some 21) none (.buildSlice false 42 2 [.t 18, .t 20])
  .no, .mk (some 22) none (.len false (.t 21)) .no, .mk (some 23) none (.mov (.c (.one (.st (.int .i64 0)))))
  .no])
  (.block 2
  (.loop
  (.seq
  (.ops
  [.mk (some 24) none (.bin .lss (.t 23) (.t 22))
  .no])
  (.seq (.cond (.t 24) .skip (.exit 2))
  (.seq
  (.block 3
  (.seq
  (.ops
  [.mk (some 25) none (.indexAddr 2 (.t 21) (.t 23))
  .no, .mk (some 26) none (.load true 2 (.t 25)) .no, .mk (some 6) none
  (.alloc 42 [.st (.str (ByteArray.mk (#[]))), .full []])
  .no, .mk none none (.store 2 (.t 6) (.t 26))
  .no])
  (.seq
  (.ops
  [.mk (some 27) none (.load true 2 (.t 6)) .no, .mk (some 28) none (.call 41 [.t 27]) .no, .mk (some 7) none (.mov (.t 28)) .no])
  (.seq
  (.ops
  [.mk (some 29) none (.mov (.t 7)) .no, .mk (some 30) none (.bin .neq (.t 29) (.c (.one (.st (.int .i64 0)))))
  .no])
  (.cond (.t 30)
  (.seq
  (.ops
  [.mk (some 31) none (.mov (.t 7)) .no, .mk (some 2) none (.mov (.t 31)) .no])
  .ret)
  .skip)))))
  (.ops
  [.mk (some 32) none (.bin .add (.t 23) (.c (.one (.st (.int .i64 1)))))
  .no, .mk (some 23) none (.mov (.t 32)) .no])))))))))
  (.ops
  [.mk (some 33) none (.bin .add (.t 13) (.c (.one (.st (.int .i64 1)))))
  .no, .mk (some 13) none (.mov (.t 33)) .no])))))))
  (.seq
  (.ops
  [.mk (some 2) none (.mov (.c (.one (.st (.int .i64 0)))))
  .no])
  .ret))))
theorem tr_unify_Check : trCode Try.prog 34 [] (Try.f16.body.getD .skip) = some ir_unify_Check := by kernel_rfl
theorem ac_unify_Check {xs : List AV} {r : AV} (hn : xs.length ≤ 34) (h : ∀ C : Ctx, C.n = 34 → IWP Try.prog C [] ir_unify_Check (FinQ [.t 2] r) (AS.start xs)) : ACalls Try.prog 16 xs r :=
  acalls_of Try.func16 rfl tr_unify_Check rfl hn h
theorem acS_unify_Check {xs : List AV} {S S' : AStore} {r : AV} (hn : xs.length ≤ 34) (h : Clean S → ∀ C : Ctx, C.n = 34 → IWP Try.prog C [] ir_unify_Check (FinS C [.t 2] r S') (AS.startS xs S)) : ACallsS Try.prog 16 xs S r S' :=
  acallsS_of Try.func16 rfl tr_unify_Check rfl hn h

def ir_unify_occurs : IR :=
  (.seq
  (.ops
  [.mk (some 3) none (.box 42 (.t 1)) .no, .mk (some 4) none (.mov (.c (.one (.st (.bool false)))))
  .no])
  (.seq
  (.seq
  (.ops
  [.mk (some 7) none (.fieldAddr 0 (.t 3)) .no, .mk (some 8) none (.load false 1 (.t 7)) .no, .mk (some 9) none (.mov (.t 0)) .no, .mk (some 10) none (.bin .eql (.t 8) (.t 9))
  .no])
  (.cond (.t 10)
  (.seq
  (.ops
  [.mk (some 4) none (.mov (.c (.one (.st (.bool true)))))
  .no])
  .ret)
  .skip))
  (.seq
  (.seq
  (.ops
  [.mk (some 11) none (.fieldAddr 1 (.t 3)) .no, .mk (some 12) none (.load false 1 (.t 11)) .no, .mk (some 13) none (.len false (.t 12)) .no, .mk (some 14) none (.mov (.c (.one (.st (.int .i64 0)))))
  .no])
  (.block 0
  (.loop
  (.seq
  (.ops
  [.mk (some 15) none (.bin .lss (.t 14) (.t 13))
  .no])
  (.seq (.cond (.t 15) .skip (.exit 0))
  (.seq
  (.block 1
  (.seq
  (.ops
  [.mk (some 16) none (.indexAddr 2 (.t 12) (.t 14))
  .no, .mk (some 17) none (.load true 2 (.t 16)) .no, .mk (some 6) none
  (.alloc 42 [.st (.str (ByteArray.mk (#[]))), .full []])
  .no, .mk none none (.store 2 (.t 6) (.t 17))
  .no])
  (.seq
  (.ops
  [.mk (some 18) none (.mov (.t 0)) .no, .mk (some 19) none (.load true 2 (.t 6)) .no, .mk (some 20) none (.call 63 [.t 18, .t 19])
  .no])
  (.cond (.t 20)
  (.seq
  (.ops
  [.mk (some 4) none (.mov (.c (.one (.st (.bool true)))))
  .no])
  .ret)
  .skip))))
  (.ops
  [.mk (some 21) none (.bin .add (.t 14) (.c (.one (.st (.int .i64 1)))))
  .no, .mk (some 14) none (.mov (.t 21)) .no])))))))
  (.seq
  (.ops
  [.mk (some 4) none (.mov (.c (.one (.st (.bool false)))))
  .no])
  .ret))))
theorem tr_unify_occurs : trCode Try.prog 22 [] (Try.f63.body.getD .skip) = some ir_unify_occurs := by kernel_rfl
theorem ac_unify_occurs {xs : List AV} {r : AV} (hn : xs.length ≤ 22) (h : ∀ C : Ctx, C.n = 22 → IWP Try.prog C [] ir_unify_occurs (FinQ [.t 4] r) (AS.start xs)) : ACalls Try.prog 63 xs r :=
  acalls_of Try.func63 rfl tr_unify_occurs rfl hn h
theorem acS_unify_occurs {xs : List AV} {S S' : AStore} {r : AV} (hn : xs.length ≤ 22) (h : Clean S → ∀ C : Ctx, C.n = 22 → IWP Try.prog C [] ir_unify_occurs (FinS C [.t 4] r S') (AS.startS xs S)) : ACallsS Try.prog 63 xs S r S' :=
  acallsS_of Try.func63 rfl tr_unify_occurs rfl hn h

def ir_unify_Solve : IR :=
  (.seq
  (.ops
  [.mk (some 2) none (.mov (.c (.one (.full []))))
  .no, .mk (some 3) none (.mov (.c (.one (.st (.int .i64 0)))))
  .no])
  (.seq
  (.ops
  [.mk (some 4) none (.mov (.c (.one (.full []))))
  .no])
  (.seq
  (.ops
  [.mk (some 5) none (.mov (.c (.one (.full []))))
  .no])
  (.seq
  (.seq
  (.ops
  [.mk (some 15) none (.mov (.t 0)) .no, .mk (some 16) none (.len false (.t 15)) .no, .mk (some 17) none (.bin .sub (.t 16) (.c (.one (.st (.int .i64 1)))))
  .no, .mk (some 6) none (.mov (.t 17)) .no])
  (.block 0
  (.loop
  (.seq
  (.seq
  (.ops
  [.mk (some 18) none (.mov (.t 6)) .no, .mk (some 19) none (.bin .geq (.t 18) (.c (.one (.st (.int .i64 0)))))
  .no])
  (.cond (.t 19) .skip (.exit 0)))
  (.seq
  (.block 1
  (.ops
  [.mk (some 22) none (.mov (.t 5)) .no, .mk (some 23) none (.mov (.t 0)) .no, .mk (some 24) none (.mov (.t 6)) .no, .mk (some 25) none (.indexAddr 4 (.t 23) (.t 24))
  .no, .mk (some 26) none (.load true 4 (.t 25)) .no, .mk (some 27) none (.buildSlice false 57 4 [.t 26]) .no, .mk (some 28) none (.appP 57 4 80 (.t 22) (.t 27))
  .no, .mk (some 5) none (.mov (.t 28)) .no]))
  (.ops
  [.mk (some 20) none (.mov (.t 6)) .no, .mk (some 21) none (.bin .sub (.t 20) (.c (.one (.st (.int .i64 1)))))
  .no, .mk (some 6) none (.mov (.t 21)) .no]))))))
  (.seq
  (.block 2
  (.loop
  (.seq
  (.seq
  (.ops
  [.mk (some 29) none (.mov (.t 5)) .no, .mk (some 30) none (.len false (.t 29)) .no, .mk (some 31) none (.bin .gtr (.t 30) (.c (.one (.st (.int .i64 0)))))
  .no])
  (.cond (.t 31) .skip (.exit 2)))
  (.block 3
  (.seq
  (.ops
  [.mk (some 32) none (.mov (.t 5)) .no, .mk (some 33) none (.mov (.t 5)) .no, .mk (some 34) none (.len false (.t 33)) .no, .mk (some 35) none (.bin .sub (.t 34) (.c (.one (.st (.int .i64 1)))))
  .no, .mk (some 36) none (.indexP 4 (.t 32) (.t 35))
  .no, .mk (some 37) none (.load true 4 (.t 36)) .no, .mk (some 7) none
  (.alloc 57
  [.st (.str (ByteArray.mk (#[]))), .full [], .st (.str (ByteArray.mk (#[]))), .full []])
  .no, .mk none none (.store 4 (.t 7) (.t 37))
  .no])
  (.seq
  (.ops
  [.mk (some 38) none (.mov (.t 5)) .no, .mk (some 39) none (.mov (.t 5)) .no, .mk (some 40) none (.len false (.t 39)) .no, .mk (some 41) none (.bin .sub (.t 40) (.c (.one (.st (.int .i64 1)))))
  .no, .mk (some 42) none (.cutP 4 (.t 38) (.t 41))
  .no, .mk (some 5) none (.mov (.t 42)) .no])
  (.seq
  (.ops
  [.mk (some 44) none (.mov (.t 4)) .no, .mk (some 45) none (.fieldAddr 0 (.t 7)) .no, .mk (some 46) none (.load true 2 (.t 45)) .no, .mk (some 47) none (.callR 30 [.t 44, .t 46])
  .no, .mk (some 43) none (.mov (.t 47)) .no, .mk (some 48) none (.extract 0 (.t 43)) .no, .mk (some 49) none (.extract 1 (.t 43)) .no, .mk (some 8) none
  (.alloc 42 [.st (.str (ByteArray.mk (#[]))), .full []])
  .no, .mk none none (.store 2 (.t 8) (.t 48))
  .no, .mk (some 9) none (.mov (.t 49)) .no])
  (.seq
  (.ops
  [.mk (some 51) none (.mov (.t 4)) .no, .mk (some 52) none (.fieldAddr 2 (.t 7)) .no, .mk (some 53) none (.load true 2 (.t 52)) .no, .mk (some 54) none (.callR 30 [.t 51, .t 53])
  .no, .mk (some 50) none (.mov (.t 54)) .no, .mk (some 55) none (.extract 0 (.t 50)) .no, .mk (some 56) none (.extract 1 (.t 50)) .no, .mk (some 10) none
  (.alloc 42 [.st (.str (ByteArray.mk (#[]))), .full []])
  .no, .mk none none (.store 2 (.t 10) (.t 55))
  .no, .mk (some 11) none (.mov (.t 56)) .no])
  (.seq
  (.seq
  (.ops
  [.mk (some 57) none (.mov (.t 9)) .no, .mk (some 58) none (.un .not (.t 57)) .no, .mk (some 59) none (.mov (.t 58)) .no, .mk (some 60) (some (59, false)) (.mov (.t 11)) .no, .mk (some 61) (some (59, false)) (.un .not (.t 60))
  .no, .mk (some 62) none
  (.pick (.t 59) (.c (.one (.st (.bool true)))) (.t 61))
  .no])
  (.cond (.t 62)
  (.seq
  (.ops
  [.mk (some 2) none (.mov (.c (.one (.full [])))) .no, .mk (some 3) none (.mov (.c (.one (.st (.int .i64 8)))))
  .no])
  .ret)
  .skip))
  (.block 4
  (.seq
  (.ops
  [.mk (some 86) none (.fieldAddr 0 (.t 8)) .no, .mk (some 87) none (.load false 1 (.t 86)) .no, .mk (some 88) none (.call 54 [.t 87]) .no, .mk (some 89) none (.mov (.t 88)) .no, .mk (some 90) (some (89, true)) (.fieldAddr 0 (.t 8))
  .no, .mk (some 91) (some (89, true)) (.load false 1 (.t 90))
  .no, .mk (some 92) (some (89, true)) (.fieldAddr 0 (.t 10))
  .no, .mk (some 93) (some (89, true)) (.load false 1 (.t 92))
  .no, .mk (some 94) (some (89, true)) (.bin .eql (.t 91) (.t 93)) .no, .mk (some 95) none
  (.pick (.t 89) (.t 94) (.c (.one (.st (.bool false)))))
  .no, .mk (some 85) none (.mov (.t 95)) .no])
  (.cond (.t 85) .skip
  (.seq
  (.ops
  [.mk (some 97) none (.fieldAddr 0 (.t 8)) .no, .mk (some 98) none (.load false 1 (.t 97)) .no, .mk (some 99) none (.call 54 [.t 98]) .no, .mk (some 100) none (.mov (.t 99)) .no, .mk (some 101) (some (100, false)) (.fieldAddr 0 (.t 10))
  .no, .mk (some 102) (some (100, false)) (.load false 1 (.t 101))
  .no, .mk (some 103) (some (100, false)) (.call 54 [.t 102])
  .no, .mk (some 104) none
  (.pick (.t 100) (.c (.one (.st (.bool true)))) (.t 103))
  .no, .mk (some 96) none (.mov (.t 104)) .no])
  (.cond (.t 96)
  (.seq
  (.seq
  (.ops
  [.mk (some 105) none (.fieldAddr 0 (.t 8)) .no, .mk (some 106) none (.load false 1 (.t 105))
  .no, .mk (some 107) none (.call 54 [.t 106]) .no, .mk (some 108) none (.un .not (.t 107))
  .no])
  (.cond (.t 108)
  (.ops
  [.mk (some 109) none (.load true 2 (.t 10))
  .no, .mk (some 110) none (.load true 2 (.t 8))
  .no, .mk none none (.store 2 (.t 8) (.t 109))
  .no, .mk none none (.store 2 (.t 10) (.t 110))
  .no])
  .skip))
  (.seq
  (.seq
  (.ops
  [.mk (some 111) none (.fieldAddr 0 (.t 8)) .no, .mk (some 112) none (.load false 1 (.t 111))
  .no, .mk (some 113) none (.load true 2 (.t 10))
  .no, .mk (some 114) none (.call 63 [.t 112, .t 113])
  .no])
  (.cond (.t 114)
  (.seq
  (.ops
  [.mk (some 2) none (.mov (.c (.one (.full []))))
  .no, .mk (some 3) none (.mov (.c (.one (.st (.int .i64 6)))))
  .no])
  .ret)
  .skip))
  (.seq
  (.ops
  [.mk (some 115) none (.fieldAddr 0 (.t 8)) .no, .mk (some 116) none (.load false 1 (.t 115))
  .no, .mk (some 117) none (.load true 2 (.t 10))
  .no, .mk (some 118) none
  (.build
  [.st (.str (ByteArray.mk (#[]))), .st (.str (ByteArray.mk (#[]))), .full []]
  [(0, 1, .t 116), (1, 2, .t 117)])
  .no, .mk (some 119) none (.buildSlice false 46 3 [.t 118])
  .no, .mk (some 12) none (.mov (.t 119)) .no])
  (.seq
  (.seq
  (.ops
  [.mk (some 120) none (.mov (.t 4)) .no, .mk (some 121) none (.len false (.t 120))
  .no, .mk (some 122) none (.mov (.c (.one (.st (.int .i64 0)))))
  .no])
  (.block 7
  (.loop
  (.seq
  (.ops
  [.mk (some 123) none (.bin .lss (.t 122) (.t 121)) .no])
  (.seq
  (.cond (.t 123) .skip (.exit 7))
  (.seq
  (.block 8
  (.seq
  (.ops
  [.mk (some 124) none (.mov (.t 122))
  .no, .mk (some 13) none (.mov (.t 124))
  .no])
  (.seq
  (.ops
  [.mk (some 126) none (.mov (.t 4))
  .no, .mk (some 127) none (.mov (.t 13))
  .no, .mk (some 128) none (.mov (.t 12))
  .no, .mk (some 129) none (.mov (.t 4))
  .no, .mk (some 130) none (.mov (.t 13))
  .no, .mk (some 131) none
  (.indexAddr 3 (.t 129) (.t 130)) .no, .mk (some 132) none (.fieldAddr 1 (.t 131))
  .no, .mk (some 133) none (.load true 2 (.t 132))
  .no, .mk (some 134) none (.call 30 [.t 128, .t 133]) .no, .mk (some 125) none (.mov (.t 134))
  .no, .mk (some 135) none (.extract 0 (.t 125))
  .no, .mk (some 136) none (.extract 1 (.t 125))
  .no, .mk (some 137) none
  (.indexAddr 3 (.t 126) (.t 127)) .no, .mk (some 138) none (.fieldAddr 1 (.t 137))
  .no, .mk none none (.store 2 (.t 138) (.t 135)) .no, .mk (some 9) none (.mov (.t 136))
  .no])
  (.seq
  (.ops
  [.mk (some 139) none (.mov (.t 9))
  .no, .mk (some 140) none (.un .not (.t 139))
  .no])
  (.cond (.t 140)
  (.seq
  (.ops
  [.mk (some 2) none (.mov (.c (.one (.full []))))
  .no, .mk (some 3) none (.mov (.c (.one (.st (.int .i64 8)))))
  .no])
  .ret)
  .skip)))))
  (.ops
  [.mk (some 141) none (.bin .add (.t 122) (.c (.one (.st (.int .i64 1)))))
  .no, .mk (some 122) none (.mov (.t 141))
  .no])))))))
  (.ops
  [.mk (some 142) none (.mov (.t 4)) .no, .mk (some 143) none (.mov (.t 12)) .no, .mk (some 144) none
  (.indexAddr 3 (.t 143) (.c (.one (.st (.int .i64 0)))))
  .no, .mk (some 145) none (.load true 3 (.t 144))
  .no, .mk (some 146) none (.buildSlice false 46 3 [.t 145])
  .no, .mk (some 147) none
  (.append false 46 3 56 (.t 142) (.t 146)) .no, .mk (some 148) none (.callS 35 [.t 147]) .no, .mk (some 4) none (.mov (.t 148)) .no])))))
  (.seq
  (.ops
  [.mk (some 150) none (.fieldAddr 0 (.t 8)) .no, .mk (some 151) none (.load false 1 (.t 150))
  .no, .mk (some 152) none (.fieldAddr 0 (.t 10)) .no, .mk (some 153) none (.load false 1 (.t 152))
  .no, .mk (some 154) none (.bin .neq (.t 151) (.t 153)) .no, .mk (some 155) none (.mov (.t 154)) .no, .mk (some 156) (some (155, false)) (.fieldAddr 1 (.t 8))
  .no, .mk (some 157) (some (155, false)) (.load false 1 (.t 156))
  .no, .mk (some 158) (some (155, false)) (.len false (.t 157))
  .no, .mk (some 159) (some (155, false)) (.fieldAddr 1 (.t 10))
  .no, .mk (some 160) (some (155, false)) (.load false 1 (.t 159))
  .no, .mk (some 161) (some (155, false)) (.len false (.t 160))
  .no, .mk (some 162) (some (155, false)) (.bin .neq (.t 158) (.t 161)) .no, .mk (some 163) none
  (.pick (.t 155) (.c (.one (.st (.bool true)))) (.t 162))
  .no, .mk (some 149) none (.mov (.t 163)) .no])
  (.cond (.t 149)
  (.seq
  (.ops
  [.mk (some 2) none (.mov (.c (.one (.full []))))
  .no, .mk (some 3) none (.mov (.c (.one (.st (.int .i64 5)))))
  .no])
  .ret)
  (.seq
  (.ops
  [.mk (some 63) none (.fieldAddr 1 (.t 8)) .no, .mk (some 64) none (.load false 1 (.t 63))
  .no, .mk (some 65) none (.len false (.t 64))
  .no, .mk (some 66) none (.bin .sub (.t 65) (.c (.one (.st (.int .i64 1)))))
  .no, .mk (some 14) none (.mov (.t 66)) .no])
  (.block 5
  (.loop
  (.seq
  (.seq
  (.ops
  [.mk (some 67) none (.mov (.t 14)) .no, .mk (some 68) none (.bin .geq (.t 67) (.c (.one (.st (.int .i64 0)))))
  .no])
  (.cond (.t 68) .skip (.exit 5)))
  (.seq
  (.block 6
  (.ops
  [.mk (some 71) none (.mov (.t 5)) .no, .mk (some 72) none (.fieldAddr 1 (.t 8))
  .no, .mk (some 73) none (.load false 1 (.t 72))
  .no, .mk (some 74) none (.mov (.t 14))
  .no, .mk (some 75) none
  (.indexAddr 2 (.t 73) (.t 74)) .no, .mk (some 76) none (.load true 2 (.t 75))
  .no, .mk (some 77) none (.fieldAddr 1 (.t 10))
  .no, .mk (some 78) none (.load false 1 (.t 77))
  .no, .mk (some 79) none (.mov (.t 14))
  .no, .mk (some 80) none
  (.indexAddr 2 (.t 78) (.t 79)) .no, .mk (some 81) none (.load true 2 (.t 80))
  .no, .mk (some 82) none
  (.build
  [.st (.str (ByteArray.mk (#[]))), .full [], .st (.str (ByteArray.mk (#[]))), .full []]
  [(0, 2, .t 76), (2, 2, .t 81)])
  .no, .mk (some 83) none (.buildSlice false 57 4 [.t 82])
  .no, .mk (some 84) none
  (.appP 57 4 80 (.t 71) (.t 83)) .no, .mk (some 5) none (.mov (.t 84))
  .no]))
  (.ops
  [.mk (some 69) none (.mov (.t 14)) .no, .mk (some 70) none (.bin .sub (.t 69) (.c (.one (.st (.int .i64 1)))))
  .no, .mk (some 14) none (.mov (.t 70))
  .no]))))))))))))))))))))))
  (.seq
  (.ops
  [.mk (some 164) none (.mov (.t 4)) .no, .mk (some 2) none (.mov (.t 164)) .no, .mk (some 3) none (.mov (.c (.one (.st (.int .i64 0)))))
  .no])
  .ret))))))
theorem tr_unify_Solve : trCode Try.prog 165 [30000028, 30000036, 30000042, 30000084, 40000047, 40000054, 148] (Try.f40.body.getD .skip) = some ir_unify_Solve := by kernel_rfl
theorem ac_unify_Solve {xs : List AV} {r : AV} (hn : xs.length ≤ 165) (h : ∀ C : Ctx, C.n = 165 → IWP Try.prog C [30000028, 30000036, 30000042, 30000084, 40000047, 40000054, 148] ir_unify_Solve (FinQ [.t 2, .t 3] r) (AS.start xs)) : ACalls Try.prog 40 xs r :=
  acalls_of Try.func40 rfl tr_unify_Solve rfl hn h
theorem acS_unify_Solve {xs : List AV} {S S' : AStore} {r : AV} (hn : xs.length ≤ 165) (h : Clean S → ∀ C : Ctx, C.n = 165 → IWP Try.prog C [30000028, 30000036, 30000042, 30000084, 40000047, 40000054, 148] ir_unify_Solve (FinS C [.t 2, .t 3] r S') (AS.startS xs S)) : ACallsS Try.prog 40 xs S r S' :=
  acallsS_of Try.func40 rfl tr_unify_Solve rfl hn h

def ir_unify_Unify : IR :=
  (.seq
  (.ops
  [.mk (some 2) none (.mov (.c (.one (.full []))))
  .no, .mk (some 3) none (.mov (.c (.one (.st (.int .i64 0)))))
  .no])
  (.seq
  (.seq
  (.ops
  [.mk (some 5) none (.mov (.t 0)) .no, .mk (some 6) none (.call 16 [.t 5]) .no, .mk (some 4) none (.mov (.t 6)) .no])
  (.seq
  (.ops
  [.mk (some 7) none (.mov (.t 4)) .no, .mk (some 8) none (.bin .neq (.t 7) (.c (.one (.st (.int .i64 0)))))
  .no])
  (.cond (.t 8)
  (.seq
  (.ops
  [.mk (some 9) none (.mov (.t 4)) .no, .mk (some 2) none (.mov (.c (.one (.full []))))
  .no, .mk (some 3) none (.mov (.t 9)) .no])
  .ret)
  .skip)))
  (.seq
  (.ops
  [.mk (some 10) none (.mov (.t 0)) .no, .mk (some 11) none (.call 40 [.t 10]) .no, .mk (some 12) none (.extract 0 (.t 11)) .no, .mk (some 13) none (.extract 1 (.t 11)) .no, .mk (some 2) none (.mov (.t 12)) .no, .mk (some 3) none (.mov (.t 13)) .no])
  .ret)))
theorem tr_unify_Unify : trCode Try.prog 14 [] (Try.f15.body.getD .skip) = some ir_unify_Unify := by kernel_rfl
theorem ac_unify_Unify {xs : List AV} {r : AV} (hn : xs.length ≤ 14) (h : ∀ C : Ctx, C.n = 14 → IWP Try.prog C [] ir_unify_Unify (FinQ [.t 2, .t 3] r) (AS.start xs)) : ACalls Try.prog 15 xs r :=
  acalls_of Try.func15 rfl tr_unify_Unify rfl hn h
theorem acS_unify_Unify {xs : List AV} {S S' : AStore} {r : AV} (hn : xs.length ≤ 14) (h : Clean S → ∀ C : Ctx, C.n = 14 → IWP Try.prog C [] ir_unify_Unify (FinS C [.t 2, .t 3] r S') (AS.startS xs S)) : ACallsS Try.prog 15 xs S r S' :=
  acallsS_of Try.func15 rfl tr_unify_Unify rfl hn h

def ir_R_PairsMay : IR :=
  (.seq
  (.ops
  [.mk (some 2) none (.mov (.c (.one (.st (.int .i64 0)))))
  .no])
  (.seq
  (.seq
  (.ops
  [.mk (some 5) none (.mov (.t 0)) .no, .mk (some 6) none (.len false (.t 5)) .no, .mk (some 7) none (.bin .gtr (.t 6) (.c (.one (.st (.int .i64 40)))))
  .no])
  (.cond (.t 7)
  (.seq
  (.ops
  [.mk (some 2) none (.mov (.c (.one (.st (.int .i64 3)))))
  .no])
  .ret)
  .skip))
  (.seq
  (.seq
  (.ops
  [.mk (some 3) none (.mov (.c (.one (.st (.int .i64 0)))))
  .no])
  (.block 0
  (.loop
  (.seq
  (.seq
  (.ops
  [.mk (some 8) none (.mov (.t 3)) .no, .mk (some 9) none (.mov (.t 0)) .no, .mk (some 10) none (.len false (.t 9)) .no, .mk (some 11) none (.bin .lss (.t 8) (.t 10))
  .no])
  (.cond (.t 11) .skip (.exit 0)))
  (.seq
  (.block 1
  (.seq
  (.ops
  [.mk (some 14) none (.mov (.t 0)) .no, .mk (some 15) none (.mov (.t 3)) .no, .mk (some 16) none (.indexAddr 4 (.t 14) (.t 15))
  .no, .mk (some 17) none (.fieldAddr 0 (.t 16)) .no, .mk (some 18) none (.load true 2 (.t 17)) .no, .mk (some 19) none (.mov (.t 0)) .no, .mk (some 20) none (.mov (.t 3)) .no, .mk (some 21) none (.indexAddr 4 (.t 19) (.t 20))
  .no, .mk (some 22) none (.fieldAddr 2 (.t 21)) .no, .mk (some 23) none (.load true 2 (.t 22)) .no, .mk (some 24) none (.call 37 [.t 18, .t 23])
  .no, .mk (some 4) none (.mov (.t 24)) .no])
  (.seq
  (.ops
  [.mk (some 25) none (.mov (.t 4)) .no, .mk (some 26) none (.bin .neq (.t 25) (.c (.one (.st (.int .i64 0)))))
  .no])
  (.cond (.t 26)
  (.seq
  (.ops
  [.mk (some 27) none (.mov (.t 4)) .no, .mk (some 2) none (.mov (.t 27)) .no])
  .ret)
  .skip))))
  (.ops
  [.mk (some 12) none (.mov (.t 3)) .no, .mk (some 13) none (.bin .add (.t 12) (.c (.one (.st (.int .i64 1)))))
  .no, .mk (some 3) none (.mov (.t 13)) .no]))))))
  (.seq
  (.ops
  [.mk (some 2) none (.mov (.c (.one (.st (.int .i64 0)))))
  .no])
  .ret))))
theorem tr_R_PairsMay : trCode Try.prog 28 [] (Try.f13.body.getD .skip) = some ir_R_PairsMay := by kernel_rfl
theorem ac_R_PairsMay {xs : List AV} {r : AV} (hn : xs.length ≤ 28) (h : ∀ C : Ctx, C.n = 28 → IWP Try.prog C [] ir_R_PairsMay (FinQ [.t 2] r) (AS.start xs)) : ACalls Try.prog 13 xs r :=
  acalls_of Try.func13 rfl tr_R_PairsMay rfl hn h
theorem acS_R_PairsMay {xs : List AV} {S S' : AStore} {r : AV} (hn : xs.length ≤ 28) (h : Clean S → ∀ C : Ctx, C.n = 28 → IWP Try.prog C [] ir_R_PairsMay (FinS C [.t 2] r S') (AS.startS xs S)) : ACallsS Try.prog 13 xs S r S' :=
  acallsS_of Try.func13 rfl tr_R_PairsMay rfl hn h

def ir_R_UnifyOf : IR :=
  (.seq
  (.ops
  [.mk (some 2) none (.mov (.c (.one (.full []))))
  .no, .mk (some 3) none (.mov (.c (.one (.st (.int .i64 0)))))
  .no])
  (.seq
  (.ops
  [.mk (some 4) none (.mov (.c (.one (.full []))))
  .no])
  (.seq
  (.block 0
  (.loop
  (.seq
  (.seq
  (.ops
  [.mk (some 15) none (.mov (.t 0)) .no, .mk (some 16) none (.len false (.t 15)) .no, .mk (some 17) none (.bin .gtr (.t 16) (.c (.one (.st (.int .i64 0)))))
  .no])
  (.cond (.t 17) .skip (.exit 0)))
  (.block 1
  (.seq
  (.ops
  [.mk (some 19) none (.mov (.t 4)) .no, .mk (some 20) none (.mov (.t 0)) .no, .mk (some 21) none
  (.indexAddr 4 (.t 20) (.c (.one (.st (.int .i64 0)))))
  .no, .mk (some 22) none (.fieldAddr 0 (.t 21)) .no, .mk (some 23) none (.load true 2 (.t 22)) .no, .mk (some 24) none (.call 26 [.t 19, .t 23])
  .no, .mk (some 18) none (.mov (.t 24)) .no, .mk (some 25) none (.extract 0 (.t 18)) .no, .mk (some 26) none (.extract 1 (.t 18)) .no, .mk (some 5) none
  (.alloc 42 [.st (.str (ByteArray.mk (#[]))), .full []])
  .no, .mk none none (.store 2 (.t 5) (.t 25)) .no, .mk (some 6) none (.mov (.t 26)) .no])
  (.seq
  (.seq
  (.ops
  [.mk (some 27) none (.mov (.t 6)) .no, .mk (some 28) none (.un .not (.t 27)) .no])
  (.cond (.t 28)
  (.seq
  (.ops
  [.mk (some 2) none (.mov (.c (.one (.full [])))) .no, .mk (some 3) none (.mov (.c (.one (.st (.int .i64 8)))))
  .no])
  .ret)
  .skip))
  (.seq
  (.ops
  [.mk (some 30) none (.mov (.t 4)) .no, .mk (some 31) none (.mov (.t 0)) .no, .mk (some 32) none
  (.indexAddr 4 (.t 31) (.c (.one (.st (.int .i64 0)))))
  .no, .mk (some 33) none (.fieldAddr 2 (.t 32)) .no, .mk (some 34) none (.load true 2 (.t 33)) .no, .mk (some 35) none (.call 26 [.t 30, .t 34])
  .no, .mk (some 29) none (.mov (.t 35)) .no, .mk (some 36) none (.extract 0 (.t 29)) .no, .mk (some 37) none (.extract 1 (.t 29)) .no, .mk (some 7) none
  (.alloc 42 [.st (.str (ByteArray.mk (#[]))), .full []])
  .no, .mk none none (.store 2 (.t 7) (.t 36))
  .no, .mk (some 6) none (.mov (.t 37)) .no])
  (.seq
  (.seq
  (.ops
  [.mk (some 38) none (.mov (.t 6)) .no, .mk (some 39) none (.un .not (.t 38)) .no])
  (.cond (.t 39)
  (.seq
  (.ops
  [.mk (some 2) none (.mov (.c (.one (.full [])))) .no, .mk (some 3) none (.mov (.c (.one (.st (.int .i64 8)))))
  .no])
  .ret)
  .skip))
  (.seq
  (.ops
  [.mk (some 40) none (.mov (.t 0)) .no, .mk (some 41) none
  (.sliceL 4 (.t 40)
  (some (.c (.one (.st (.int .i64 1))))) none)
  .no, .mk (some 0) none (.mov (.t 41)) .no])
  (.seq
  (.seq
  (.ops
  [.mk (some 42) none (.fieldAddr 0 (.t 5)) .no, .mk (some 43) none (.load false 1 (.t 42)) .no, .mk (some 44) none (.call 24 [.t 43]) .no, .mk (some 45) none (.mov (.t 44)) .no, .mk (some 46) (some (45, true)) (.fieldAddr 0 (.t 5)) .no, .mk (some 47) (some (45, true)) (.load false 1 (.t 46))
  .no, .mk (some 48) (some (45, true)) (.fieldAddr 0 (.t 7)) .no, .mk (some 49) (some (45, true)) (.load false 1 (.t 48))
  .no, .mk (some 50) (some (45, true)) (.bin .eql (.t 47) (.t 49)) .no, .mk (some 51) none
  (.pick (.t 45) (.t 50) (.c (.one (.st (.bool false)))))
  .no])
  (.cond (.t 51) (.exit 1) .skip))
  (.seq
  (.seq
  (.ops
  [.mk (some 52) none (.fieldAddr 0 (.t 5)) .no, .mk (some 53) none (.load false 1 (.t 52)) .no, .mk (some 54) none (.call 24 [.t 53]) .no, .mk (some 55) none (.un .not (.t 54)) .no, .mk (some 56) none (.mov (.t 55)) .no, .mk (some 57) (some (56, true)) (.fieldAddr 0 (.t 7))
  .no, .mk (some 58) (some (56, true)) (.load false 1 (.t 57))
  .no, .mk (some 59) (some (56, true)) (.call 24 [.t 58]) .no, .mk (some 60) none
  (.pick (.t 56) (.t 59) (.c (.one (.st (.bool false)))))
  .no])
  (.cond (.t 60)
  (.ops
  [.mk (some 61) none (.load true 2 (.t 7)) .no, .mk (some 62) none (.load true 2 (.t 5)) .no, .mk none none (.store 2 (.t 5) (.t 61))
  .no, .mk none none (.store 2 (.t 7) (.t 62))
  .no])
  .skip))
  (.seq
  (.seq
  (.ops
  [.mk (some 63) none (.fieldAddr 0 (.t 5)) .no, .mk (some 64) none (.load false 1 (.t 63)) .no, .mk (some 65) none (.call 24 [.t 64]) .no])
  (.cond (.t 65)
  (.seq
  (.seq
  (.ops
  [.mk (some 66) none (.fieldAddr 0 (.t 5)) .no, .mk (some 67) none (.load false 1 (.t 66)) .no, .mk (some 68) none (.load true 2 (.t 7)) .no, .mk (some 69) none (.call 39 [.t 68]) .no, .mk (some 70) none (.call 38 [.t 67, .t 69])
  .no])
  (.cond (.t 70)
  (.seq
  (.ops
  [.mk (some 2) none (.mov (.c (.one (.full []))))
  .no, .mk (some 3) none (.mov (.c (.one (.st (.int .i64 6)))))
  .no])
  .ret)
  .skip))
  (.seq
  (.ops
  [.mk (some 71) none (.fieldAddr 0 (.t 5)) .no, .mk (some 72) none (.load false 1 (.t 71)) .no, .mk (some 73) none (.load true 2 (.t 7)) .no, .mk (some 74) none
  (.build
  [.st (.str (ByteArray.mk (#[]))), .st (.str (ByteArray.mk (#[]))), .full []]
  [(0, 1, .t 72), (1, 2, .t 73)])
  .no, .mk (some 75) none (.buildSlice false 46 3 [.t 74])
  .no, .mk (some 8) none (.mov (.t 75)) .no])
  (.seq
  (.ops
  [.mk (some 9) none (.mov (.c (.one (.full [])))) .no])
  (.seq
  (.seq
  (.ops
  [.mk (some 10) none (.mov (.c (.one (.st (.int .i64 0)))))
  .no])
  (.block 2
  (.loop
  (.seq
  (.seq
  (.ops
  [.mk (some 76) none (.mov (.t 10)) .no, .mk (some 77) none (.mov (.t 4)) .no, .mk (some 78) none (.len false (.t 77))
  .no, .mk (some 79) none (.bin .lss (.t 76) (.t 78)) .no])
  (.cond (.t 79) .skip (.exit 2)))
  (.seq
  (.block 3
  (.seq
  (.ops
  [.mk (some 83) none (.mov (.t 8))
  .no, .mk (some 84) none (.mov (.t 4))
  .no, .mk (some 85) none (.mov (.t 10))
  .no, .mk (some 86) none
  (.indexAddr 3 (.t 84) (.t 85)) .no, .mk (some 87) none (.fieldAddr 1 (.t 86))
  .no, .mk (some 88) none (.load true 2 (.t 87))
  .no, .mk (some 89) none (.call 26 [.t 83, .t 88]) .no, .mk (some 82) none (.mov (.t 89))
  .no, .mk (some 90) none (.extract 0 (.t 82))
  .no, .mk (some 91) none (.extract 1 (.t 82))
  .no, .mk (some 11) none
  (.alloc 42
  [.st (.str (ByteArray.mk (#[]))), .full []])
  .no, .mk none none (.store 2 (.t 11) (.t 90)) .no, .mk (some 12) none (.mov (.t 91))
  .no])
  (.seq
  (.seq
  (.ops
  [.mk (some 92) none (.mov (.t 12))
  .no, .mk (some 93) none (.un .not (.t 92))
  .no])
  (.cond (.t 93)
  (.seq
  (.ops
  [.mk (some 2) none (.mov (.c (.one (.full []))))
  .no, .mk (some 3) none (.mov (.c (.one (.st (.int .i64 8)))))
  .no])
  .ret)
  .skip))
  (.ops
  [.mk (some 94) none (.mov (.t 9))
  .no, .mk (some 95) none (.mov (.t 4))
  .no, .mk (some 96) none (.mov (.t 10))
  .no, .mk (some 97) none
  (.indexAddr 3 (.t 95) (.t 96)) .no, .mk (some 98) none (.fieldAddr 0 (.t 97))
  .no, .mk (some 99) none (.load false 1 (.t 98))
  .no, .mk (some 100) none (.load true 2 (.t 11))
  .no, .mk (some 101) none
  (.build
  [.st (.str (ByteArray.mk (#[]))), .st (.str (ByteArray.mk (#[]))), .full []]
  [(0, 1, .t 99), (1, 2, .t 100)])
  .no, .mk (some 102) none (.buildSlice false 46 3 [.t 101])
  .no, .mk (some 103) none
  (.append false 46 3 56 (.t 94) (.t 102))
  .no, .mk (some 9) none (.mov (.t 103))
  .no]))))
  (.ops
  [.mk (some 80) none (.mov (.t 10)) .no, .mk (some 81) none (.bin .add (.t 80) (.c (.one (.st (.int .i64 1)))))
  .no, .mk (some 10) none (.mov (.t 81))
  .no]))))))
  (.seq
  (.ops
  [.mk (some 104) none (.mov (.t 9)) .no, .mk (some 105) none (.mov (.t 8)) .no, .mk (some 106) none
  (.indexAddr 3 (.t 105) (.c (.one (.st (.int .i64 0)))))
  .no, .mk (some 107) none (.load true 3 (.t 106))
  .no, .mk (some 108) none (.buildSlice false 46 3 [.t 107])
  .no, .mk (some 109) none
  (.append false 46 3 56 (.t 104) (.t 108)) .no, .mk (some 110) none (.call 28 [.t 109]) .no, .mk (some 4) none (.mov (.t 110)) .no])
  (.exit 1))))))
  .skip))
  (.seq
  (.seq
  (.ops
  [.mk (some 111) none (.fieldAddr 0 (.t 5)) .no, .mk (some 112) none (.load false 1 (.t 111)) .no, .mk (some 113) none (.fieldAddr 0 (.t 7)) .no, .mk (some 114) none (.load false 1 (.t 113)) .no, .mk (some 115) none (.bin .neq (.t 112) (.t 114))
  .no, .mk (some 116) none (.mov (.t 115)) .no, .mk (some 117) (some (116, false)) (.fieldAddr 1 (.t 5))
  .no, .mk (some 118) (some (116, false)) (.load false 1 (.t 117))
  .no, .mk (some 119) (some (116, false)) (.len false (.t 118))
  .no, .mk (some 120) (some (116, false)) (.fieldAddr 1 (.t 7))
  .no, .mk (some 121) (some (116, false)) (.load false 1 (.t 120))
  .no, .mk (some 122) (some (116, false)) (.len false (.t 121))
  .no, .mk (some 123) (some (116, false)) (.bin .neq (.t 119) (.t 122)) .no, .mk (some 124) none
  (.pick (.t 116) (.c (.one (.st (.bool true)))) (.t 123))
  .no])
  (.cond (.t 124)
  (.seq
  (.ops
  [.mk (some 2) none (.mov (.c (.one (.full [])))) .no, .mk (some 3) none (.mov (.c (.one (.st (.int .i64 5)))))
  .no])
  .ret)
  .skip))
  (.seq
  (.ops
  [.mk (some 13) none (.mov (.c (.one (.full [])))) .no])
  (.seq
  (.seq
  (.ops
  [.mk (some 14) none (.mov (.c (.one (.st (.int .i64 0)))))
  .no])
  (.block 4
  (.loop
  (.seq
  (.seq
  (.ops
  [.mk (some 125) none (.mov (.t 14)) .no, .mk (some 126) none (.fieldAddr 1 (.t 5))
  .no, .mk (some 127) none (.load false 1 (.t 126))
  .no, .mk (some 128) none (.len false (.t 127))
  .no, .mk (some 129) none (.bin .lss (.t 125) (.t 128)) .no])
  (.cond (.t 129) .skip (.exit 4)))
  (.seq
  (.block 5
  (.ops
  [.mk (some 132) none (.mov (.t 13)) .no, .mk (some 133) none (.fieldAddr 1 (.t 5))
  .no, .mk (some 134) none (.load false 1 (.t 133))
  .no, .mk (some 135) none (.mov (.t 14)) .no, .mk (some 136) none
  (.indexAddr 2 (.t 134) (.t 135)) .no, .mk (some 137) none (.load true 2 (.t 136))
  .no, .mk (some 138) none (.fieldAddr 1 (.t 7))
  .no, .mk (some 139) none (.load false 1 (.t 138))
  .no, .mk (some 140) none (.mov (.t 14)) .no, .mk (some 141) none
  (.indexAddr 2 (.t 139) (.t 140)) .no, .mk (some 142) none (.load true 2 (.t 141))
  .no, .mk (some 143) none
  (.build
  [.st (.str (ByteArray.mk (#[]))), .full [], .st (.str (ByteArray.mk (#[]))), .full []]
  [(0, 2, .t 137), (2, 2, .t 142)])
  .no, .mk (some 144) none (.buildSlice false 57 4 [.t 143])
  .no, .mk (some 145) none
  (.append false 57 4 80 (.t 132) (.t 144)) .no, .mk (some 13) none (.mov (.t 145)) .no]))
  (.ops
  [.mk (some 130) none (.mov (.t 14)) .no, .mk (some 131) none (.bin .add (.t 130) (.c (.one (.st (.int .i64 1)))))
  .no, .mk (some 14) none (.mov (.t 131)) .no]))))))
  (.ops
  [.mk (some 146) none (.mov (.t 13)) .no, .mk (some 147) none (.mov (.t 0)) .no, .mk (some 148) none
  (.append false 57 4 80 (.t 146) (.t 147)) .no, .mk (some 0) none (.mov (.t 148)) .no]))))))))))))))))
  (.seq
  (.ops
  [.mk (some 149) none (.mov (.t 4)) .no, .mk (some 2) none (.mov (.t 149)) .no, .mk (some 3) none (.mov (.c (.one (.st (.int .i64 0)))))
  .no])
  .ret))))
theorem tr_R_UnifyOf : trCode Try.prog 150 [] (Try.f14.body.getD .skip) = some ir_R_UnifyOf := by kernel_rfl
theorem ac_R_UnifyOf {xs : List AV} {r : AV} (hn : xs.length ≤ 150) (h : ∀ C : Ctx, C.n = 150 → IWP Try.prog C [] ir_R_UnifyOf (FinQ [.t 2, .t 3] r) (AS.start xs)) : ACalls Try.prog 14 xs r :=
  acalls_of Try.func14 rfl tr_R_UnifyOf rfl hn h
theorem acS_R_UnifyOf {xs : List AV} {S S' : AStore} {r : AV} (hn : xs.length ≤ 150) (h : Clean S → ∀ C : Ctx, C.n = 150 → IWP Try.prog C [] ir_R_UnifyOf (FinS C [.t 2, .t 3] r S') (AS.startS xs S)) : ACallsS Try.prog 14 xs S r S' :=
  acallsS_of Try.func14 rfl tr_R_UnifyOf rfl hn h

def ir_R_Sorted : IR :=
  (.seq
  (.ops
  [.mk (some 2) none (.mov (.c (.one (.full []))))
  .no])
  (.seq
  (.ops
  [.mk (some 3) none (.mov (.c (.one (.full []))))
  .no])
  (.seq
  (.seq
  (.ops
  [.mk (some 4) none (.mov (.c (.one (.st (.int .i64 0)))))
  .no])
  (.block 0
  (.loop
  (.seq
  (.seq
  (.ops
  [.mk (some 7) none (.mov (.t 4)) .no, .mk (some 8) none (.mov (.t 0)) .no, .mk (some 9) none (.len false (.t 8)) .no, .mk (some 10) none (.bin .lss (.t 7) (.t 9))
  .no])
  (.cond (.t 10) .skip (.exit 0)))
  (.seq
  (.block 1
  (.seq
  (.ops
  [.mk (some 13) none (.mov (.t 3)) .no, .mk (some 14) none (.mov (.t 0)) .no, .mk (some 15) none (.mov (.t 4)) .no, .mk (some 16) none (.indexAddr 3 (.t 14) (.t 15))
  .no, .mk (some 17) none (.load true 3 (.t 16)) .no, .mk (some 18) none (.buildSlice false 46 3 [.t 17]) .no, .mk (some 19) none (.append true 46 3 56 (.t 13) (.t 18))
  .no, .mk (some 3) none (.mov (.t 19)) .no])
  (.seq
  (.ops
  [.mk (some 20) none (.mov (.t 3)) .no, .mk (some 21) none (.len false (.t 20)) .no, .mk (some 22) none (.bin .sub (.t 21) (.c (.one (.st (.int .i64 1)))))
  .no, .mk (some 5) none (.mov (.t 22)) .no])
  (.block 2
  (.loop
  (.seq
  (.seq
  (.ops
  [.mk (some 23) none (.mov (.t 5)) .no, .mk (some 24) none (.bin .gtr (.t 23) (.c (.one (.st (.int .i64 0)))))
  .no, .mk (some 25) none (.mov (.t 24)) .no, .mk (some 26) (some (25, true)) (.mov (.t 3)) .no, .mk (some 27) (some (25, true)) (.mov (.t 5)) .no, .mk (some 28) (some (25, true))
  (.indexAddr 3 (.t 26) (.t 27)) .no, .mk (some 29) (some (25, true)) (.fieldAddr 0 (.t 28))
  .no, .mk (some 30) (some (25, true)) (.load false 1 (.t 29))
  .no, .mk (some 31) (some (25, true)) (.mov (.t 3)) .no, .mk (some 32) (some (25, true)) (.mov (.t 5)) .no, .mk (some 33) (some (25, true)) (.bin .sub (.t 32) (.c (.one (.st (.int .i64 1)))))
  .no, .mk (some 34) (some (25, true))
  (.indexAddr 3 (.t 31) (.t 33)) .no, .mk (some 35) (some (25, true)) (.fieldAddr 0 (.t 34))
  .no, .mk (some 36) (some (25, true)) (.load false 1 (.t 35))
  .no, .mk (some 37) (some (25, true)) (.bin .lss (.t 30) (.t 36)) .no, .mk (some 38) none
  (.pick (.t 25) (.t 37) (.c (.one (.st (.bool false)))))
  .no])
  (.cond (.t 38) .skip (.exit 2)))
  (.seq
  (.block 3
  (.seq
  (.ops
  [.mk (some 41) none (.mov (.t 3)) .no, .mk (some 42) none (.mov (.t 5)) .no, .mk (some 43) none (.indexAddr 3 (.t 41) (.t 42))
  .no, .mk (some 44) none (.load true 3 (.t 43)) .no, .mk (some 6) none
  (.alloc 46
  [.st (.str (ByteArray.mk (#[]))), .st (.str (ByteArray.mk (#[]))), .full []])
  .no, .mk none none (.store 3 (.t 6) (.t 44))
  .no])
  (.seq
  (.ops
  [.mk (some 45) none (.mov (.t 3)) .no, .mk (some 46) none (.mov (.t 5)) .no, .mk (some 47) none (.mov (.t 3)) .no, .mk (some 48) none (.mov (.t 5)) .no, .mk (some 49) none (.bin .sub (.t 48) (.c (.one (.st (.int .i64 1)))))
  .no, .mk (some 50) none (.indexAddr 3 (.t 47) (.t 49))
  .no, .mk (some 51) none (.load true 3 (.t 50)) .no, .mk (some 52) none (.indexAddr 3 (.t 45) (.t 46))
  .no, .mk none none (.store 3 (.t 52) (.t 51))
  .no])
  (.ops
  [.mk (some 53) none (.mov (.t 3)) .no, .mk (some 54) none (.mov (.t 5)) .no, .mk (some 55) none (.bin .sub (.t 54) (.c (.one (.st (.int .i64 1)))))
  .no, .mk (some 56) none (.load true 3 (.t 6)) .no, .mk (some 57) none (.indexAddr 3 (.t 53) (.t 55))
  .no, .mk none none (.store 3 (.t 57) (.t 56))
  .no]))))
  (.ops
  [.mk (some 39) none (.mov (.t 5)) .no, .mk (some 40) none (.bin .sub (.t 39) (.c (.one (.st (.int .i64 1)))))
  .no, .mk (some 5) none (.mov (.t 40)) .no]))))))))
  (.ops
  [.mk (some 11) none (.mov (.t 4)) .no, .mk (some 12) none (.bin .add (.t 11) (.c (.one (.st (.int .i64 1)))))
  .no, .mk (some 4) none (.mov (.t 12)) .no]))))))
  (.seq
  (.ops
  [.mk (some 58) none (.mov (.t 3)) .no, .mk (some 2) none (.mov (.t 58)) .no])
  .ret))))
theorem tr_R_Sorted : trCode Try.prog 59 [28, 34, 43, 50, 52, 57, 19] (Try.f28.body.getD .skip) = some ir_R_Sorted := by kernel_rfl
theorem ac_R_Sorted {xs : List AV} {r : AV} (hn : xs.length ≤ 59) (h : ∀ C : Ctx, C.n = 59 → IWP Try.prog C [28, 34, 43, 50, 52, 57, 19] ir_R_Sorted (FinQ [.t 2] r) (AS.start xs)) : ACalls Try.prog 28 xs r :=
  acalls_of Try.func28 rfl tr_R_Sorted rfl hn h
theorem acS_R_Sorted {xs : List AV} {S S' : AStore} {r : AV} (hn : xs.length ≤ 59) (h : Clean S → ∀ C : Ctx, C.n = 59 → IWP Try.prog C [28, 34, 43, 50, 52, 57, 19] ir_R_Sorted (FinS C [.t 2] r S') (AS.startS xs S)) : ACallsS Try.prog 28 xs S r S' :=
  acallsS_of Try.func28 rfl tr_R_Sorted rfl hn h

def ir_R_SameBinds : IR :=
  (.seq
  (.ops
  [.mk (some 4) none (.mov (.c (.one (.st (.bool false)))))
  .no])
  (.seq
  (.seq
  (.ops
  [.mk (some 6) none (.mov (.t 0)) .no, .mk (some 7) none (.len false (.t 6)) .no, .mk (some 8) none (.mov (.t 1)) .no, .mk (some 9) none (.len false (.t 8)) .no, .mk (some 10) none (.bin .neq (.t 7) (.t 9))
  .no])
  (.cond (.t 10)
  (.seq
  (.ops
  [.mk (some 4) none (.mov (.c (.one (.st (.bool false)))))
  .no])
  .ret)
  .skip))
  (.seq
  (.seq
  (.ops
  [.mk (some 5) none (.mov (.c (.one (.st (.int .i64 0)))))
  .no])
  (.block 0
  (.loop
  (.seq
  (.seq
  (.ops
  [.mk (some 11) none (.mov (.t 5)) .no, .mk (some 12) none (.mov (.t 0)) .no, .mk (some 13) none (.len false (.t 12)) .no, .mk (some 14) none (.bin .lss (.t 11) (.t 13))
  .no])
  (.cond (.t 14) .skip (.exit 0)))
  (.seq
  (.block 1
  (.seq
  (.ops
  [.mk (some 17) none (.mov (.t 0)) .no, .mk (some 18) none (.mov (.t 5)) .no, .mk (some 19) none (.indexAddr 3 (.t 17) (.t 18))
  .no, .mk (some 20) none (.fieldAddr 0 (.t 19)) .no, .mk (some 21) none (.load false 1 (.t 20)) .no, .mk (some 22) none (.mov (.t 1)) .no, .mk (some 23) none (.mov (.t 5)) .no, .mk (some 24) none (.indexAddr 3 (.t 22) (.t 23))
  .no, .mk (some 25) none (.fieldAddr 0 (.t 24)) .no, .mk (some 26) none (.load false 1 (.t 25)) .no, .mk (some 27) none (.bin .neq (.t 21) (.t 26))
  .no, .mk (some 28) none (.mov (.t 27)) .no, .mk (some 29) (some (28, false)) (.mov (.t 0)) .no, .mk (some 30) (some (28, false)) (.mov (.t 5)) .no, .mk (some 31) (some (28, false)) (.indexAddr 3 (.t 29) (.t 30))
  .no, .mk (some 32) (some (28, false)) (.fieldAddr 1 (.t 31)) .no, .mk (some 33) (some (28, false)) (.load true 2 (.t 32)) .no, .mk (some 34) (some (28, false)) (.mov (.t 1)) .no, .mk (some 35) (some (28, false)) (.mov (.t 5)) .no, .mk (some 36) (some (28, false)) (.indexAddr 3 (.t 34) (.t 35))
  .no, .mk (some 37) (some (28, false)) (.fieldAddr 1 (.t 36)) .no, .mk (some 38) (some (28, false)) (.load true 2 (.t 37)) .no, .mk (some 39) (some (28, false)) (.call 62 [.t 33, .t 38])
  .no, .mk (some 40) (some (28, false)) (.un .not (.t 39)) .no, .mk (some 41) none
  (.pick (.t 28) (.c (.one (.st (.bool true)))) (.t 40))
  .no])
  (.cond (.t 41)
  (.seq
  (.ops
  [.mk (some 4) none (.mov (.c (.one (.st (.bool false)))))
  .no])
  .ret)
  .skip)))
  (.ops
  [.mk (some 15) none (.mov (.t 5)) .no, .mk (some 16) none (.bin .add (.t 15) (.c (.one (.st (.int .i64 1)))))
  .no, .mk (some 5) none (.mov (.t 16)) .no]))))))
  (.seq
  (.ops
  [.mk (some 4) none (.mov (.c (.one (.st (.bool true)))))
  .no])
  .ret))))
theorem tr_R_SameBinds : trCode Try.prog 42 [] (Try.f36.body.getD .skip) = some ir_R_SameBinds := by kernel_rfl
theorem ac_R_SameBinds {xs : List AV} {r : AV} (hn : xs.length ≤ 42) (h : ∀ C : Ctx, C.n = 42 → IWP Try.prog C [] ir_R_SameBinds (FinQ [.t 4] r) (AS.start xs)) : ACalls Try.prog 36 xs r :=
  acalls_of Try.func36 rfl tr_R_SameBinds rfl hn h
theorem acS_R_SameBinds {xs : List AV} {S S' : AStore} {r : AV} (hn : xs.length ≤ 42) (h : Clean S → ∀ C : Ctx, C.n = 42 → IWP Try.prog C [] ir_R_SameBinds (FinS C [.t 4] r S') (AS.startS xs S)) : ACallsS Try.prog 36 xs S r S' :=
  acallsS_of Try.func36 rfl tr_R_SameBinds rfl hn h

def ir_L_binds2 : IR :=
  (.seq
  (.ops
  [.mk (some 8) none (.mov (.c (.one (.st (.bool false)))))
  .no])
  (.seq
  (.seq
  (.ops
  [.mk (some 9) none (.mov (.t 3)) .no, .mk (some 10) none (.bin .neq (.t 9) (.c (.one (.st (.int .i64 0)))))
  .no])
  (.cond (.t 10)
  (.seq
  (.ops
  [.mk (some 11) none (.mov (.t 1)) .no, .mk (some 12) none (.mov (.t 3)) .no, .mk (some 13) none (.bin .eql (.t 11) (.t 12))
  .no, .mk (some 14) none (.mov (.t 13)) .no, .mk (some 15) (some (14, true)) (.mov (.t 0)) .no, .mk (some 16) (some (14, true)) (.len false (.t 15)) .no, .mk (some 17) (some (14, true)) (.bin .eql (.t 16) (.c (.one (.st (.int .i64 0)))))
  .no, .mk (some 18) none
  (.pick (.t 14) (.t 17) (.c (.one (.st (.bool false)))))
  .no, .mk (some 8) none (.mov (.t 18)) .no])
  .ret)
  .skip))
  (.seq
  (.ops
  [.mk (some 19) none (.mov (.t 1)) .no, .mk (some 20) none (.bin .eql (.t 19) (.c (.one (.st (.int .i64 0)))))
  .no, .mk (some 21) none (.mov (.t 20)) .no, .mk (some 22) (some (21, true)) (.mov (.t 0)) .no, .mk (some 23) (some (21, true)) (.mov (.t 2)) .no, .mk (some 24) (some (21, true)) (.call 36 [.t 22, .t 23])
  .no, .mk (some 25) none
  (.pick (.t 21) (.t 24) (.c (.one (.st (.bool false)))))
  .no, .mk (some 8) none (.mov (.t 25)) .no])
  .ret)))
theorem tr_L_binds2 : trCode Try.prog 26 [] (Try.f11.body.getD .skip) = some ir_L_binds2 := by kernel_rfl
theorem ac_L_binds2 {xs : List AV} {r : AV} (hn : xs.length ≤ 26) (h : ∀ C : Ctx, C.n = 26 → IWP Try.prog C [] ir_L_binds2 (FinQ [.t 8] r) (AS.start xs)) : ACalls Try.prog 11 xs r :=
  acalls_of Try.func11 rfl tr_L_binds2 rfl hn h
theorem acS_L_binds2 {xs : List AV} {S S' : AStore} {r : AV} (hn : xs.length ≤ 26) (h : Clean S → ∀ C : Ctx, C.n = 26 → IWP Try.prog C [] ir_L_binds2 (FinS C [.t 8] r S') (AS.startS xs S)) : ACallsS Try.prog 11 xs S r S' :=
  acallsS_of Try.func11 rfl tr_L_binds2 rfl hn h

def ir_L_hugePairs : IR :=
  (.seq
  (.ops
  [.mk (some 2) none (.mov (.c (.one (.st (.bool false)))))
  .no])
  (.seq
  (.seq
  (.ops
  [.mk (some 3) none (.mov (.c (.one (.st (.int .i64 0)))))
  .no])
  (.block 0
  (.loop
  (.seq
  (.seq
  (.ops
  [.mk (some 4) none (.mov (.t 3)) .no, .mk (some 5) none (.mov (.t 0)) .no, .mk (some 6) none (.len false (.t 5)) .no, .mk (some 7) none (.bin .lss (.t 4) (.t 6))
  .no])
  (.cond (.t 7) .skip (.exit 0)))
  (.seq
  (.block 1
  (.seq
  (.ops
  [.mk (some 10) none (.mov (.t 0)) .no, .mk (some 11) none (.mov (.t 3)) .no, .mk (some 12) none (.indexAddr 4 (.t 10) (.t 11))
  .no, .mk (some 13) none (.fieldAddr 0 (.t 12)) .no, .mk (some 14) none (.load true 2 (.t 13)) .no, .mk (some 15) none (.call 22 [.t 14]) .no, .mk (some 16) none (.mov (.t 15)) .no, .mk (some 17) (some (16, false)) (.mov (.t 0)) .no, .mk (some 18) (some (16, false)) (.mov (.t 3)) .no, .mk (some 19) (some (16, false)) (.indexAddr 4 (.t 17) (.t 18))
  .no, .mk (some 20) (some (16, false)) (.fieldAddr 2 (.t 19)) .no, .mk (some 21) (some (16, false)) (.load true 2 (.t 20)) .no, .mk (some 22) (some (16, false)) (.call 22 [.t 21]) .no, .mk (some 23) none
  (.pick (.t 16) (.c (.one (.st (.bool true)))) (.t 22))
  .no])
  (.cond (.t 23)
  (.seq
  (.ops
  [.mk (some 2) none (.mov (.c (.one (.st (.bool true)))))
  .no])
  .ret)
  .skip)))
  (.ops
  [.mk (some 8) none (.mov (.t 3)) .no, .mk (some 9) none (.bin .add (.t 8) (.c (.one (.st (.int .i64 1)))))
  .no, .mk (some 3) none (.mov (.t 9)) .no]))))))
  (.seq
  (.ops
  [.mk (some 24) none (.mov (.t 0)) .no, .mk (some 25) none (.len false (.t 24)) .no, .mk (some 26) none (.bin .gtr (.t 25) (.c (.one (.st (.int .i64 100)))))
  .no, .mk (some 2) none (.mov (.t 26)) .no])
  .ret)))
theorem tr_L_hugePairs : trCode Try.prog 27 [] (Try.f12.body.getD .skip) = some ir_L_hugePairs := by kernel_rfl
theorem ac_L_hugePairs {xs : List AV} {r : AV} (hn : xs.length ≤ 27) (h : ∀ C : Ctx, C.n = 27 → IWP Try.prog C [] ir_L_hugePairs (FinQ [.t 2] r) (AS.start xs)) : ACalls Try.prog 12 xs r :=
  acalls_of Try.func12 rfl tr_L_hugePairs rfl hn h
theorem acS_L_hugePairs {xs : List AV} {S S' : AStore} {r : AV} (hn : xs.length ≤ 27) (h : Clean S → ∀ C : Ctx, C.n = 27 → IWP Try.prog C [] ir_L_hugePairs (FinS C [.t 2] r S') (AS.startS xs S)) : ACallsS Try.prog 12 xs S r S' :=
  acallsS_of Try.func12 rfl tr_L_hugePairs rfl hn h

def ir_L_UnifySays : IR :=
  (.seq
  (.ops
  [.mk (some 2) none (.mov (.c (.one (.st (.bool false)))))
  .no])
  (.seq
  (.seq
  (.ops
  [.mk (some 8) none (.mov (.t 0)) .no, .mk (some 9) none (.call 12 [.t 8]) .no])
  (.cond (.t 9)
  (.seq
  (.ops
  [.mk (some 2) none (.mov (.c (.one (.st (.bool true)))))
  .no])
  .ret)
  .skip))
  (.seq
  (.ops
  [.mk (some 10) none (.mov (.t 0)) .no, .mk (some 11) none (.call 13 [.t 10]) .no, .mk (some 3) none (.mov (.t 11)) .no])
  (.seq
  (.ops
  [.mk (some 4) none (.mov (.c (.one (.full []))))
  .no])
  (.seq
  (.ops
  [.mk (some 12) none (.mov (.t 3)) .no, .mk (some 5) none (.mov (.t 12)) .no])
  (.seq
  (.seq
  (.ops
  [.mk (some 13) none (.mov (.t 3)) .no, .mk (some 14) none (.bin .eql (.t 13) (.c (.one (.st (.int .i64 0)))))
  .no])
  (.cond (.t 14)
  (.ops
  [.mk (some 16) none (.mov (.t 0)) .no, .mk (some 17) none (.call 14 [.t 16]) .no, .mk (some 15) none (.mov (.t 17)) .no, .mk (some 18) none (.extract 0 (.t 15)) .no, .mk (some 19) none (.extract 1 (.t 15)) .no, .mk (some 4) none (.mov (.t 18)) .no, .mk (some 5) none (.mov (.t 19)) .no])
  .skip))
  (.seq
  (.ops
  [.mk (some 21) none (.mov (.t 0)) .no, .mk (some 22) none (.call 15 [.t 21]) .no, .mk (some 20) none (.mov (.t 22)) .no, .mk (some 23) none (.extract 0 (.t 20)) .no, .mk (some 24) none (.extract 1 (.t 20)) .no, .mk (some 6) none (.mov (.t 23)) .no, .mk (some 7) none (.mov (.t 24)) .no])
  (.seq
  (.ops
  [.mk (some 25) none (.mov (.t 0)) .no, .mk (some 26) none (.call 16 [.t 25]) .no, .mk (some 27) none (.mov (.t 3)) .no, .mk (some 28) none (.bin .eql (.t 26) (.t 27))
  .no, .mk (some 29) none (.mov (.t 28)) .no, .mk (some 30) (some (29, true)) (.mov (.t 6)) .no, .mk (some 31) (some (29, true)) (.mov (.t 7)) .no, .mk (some 32) (some (29, true)) (.mov (.t 4)) .no, .mk (some 33) (some (29, true)) (.mov (.t 5)) .no, .mk (some 34) (some (29, true)) (.call 11 [.t 30, .t 31, .t 32, .t 33])
  .no, .mk (some 35) none
  (.pick (.t 29) (.t 34) (.c (.one (.st (.bool false)))))
  .no, .mk (some 2) none (.mov (.t 35)) .no])
  .ret))))))))
theorem tr_L_UnifySays : trCode Try.prog 36 [] (Try.f4.body.getD .skip) = some ir_L_UnifySays := by kernel_rfl
theorem ac_L_UnifySays {xs : List AV} {r : AV} (hn : xs.length ≤ 36) (h : ∀ C : Ctx, C.n = 36 → IWP Try.prog C [] ir_L_UnifySays (FinQ [.t 2] r) (AS.start xs)) : ACalls Try.prog 4 xs r :=
  acalls_of Try.func4 rfl tr_L_UnifySays rfl hn h
theorem acS_L_UnifySays {xs : List AV} {S S' : AStore} {r : AV} (hn : xs.length ≤ 36) (h : Clean S → ∀ C : Ctx, C.n = 36 → IWP Try.prog C [] ir_L_UnifySays (FinS C [.t 2] r S') (AS.startS xs S)) : ACallsS Try.prog 4 xs S r S' :=
  acallsS_of Try.func4 rfl tr_L_UnifySays rfl hn h

end Go.Proofs.Ytnbdpkgndhacfaa
