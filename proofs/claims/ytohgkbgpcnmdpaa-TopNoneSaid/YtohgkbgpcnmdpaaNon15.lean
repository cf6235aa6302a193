/-
  Part 15 of the texts: IrUnify; IrHugeP; BHugeP; BUnify; BUnify2. Conditions: none.
-/
import Derived.Test.YtohgkbgpcnmdpaaNon14
namespace Go.Proofs.Ytohgkbgpcnmdpaa
open Go Go.RowKit
set_option maxRecDepth 100000
def ir_unify_Check : IR :=
  (.seq
  (.ops
  [.mk (some 2) none (.mov (.c (.one (.st (.int .i64 0)))))
  .no])
  (.seq
  (.seq
  (.ops
  [.mk (some 8) none (.mov (.t 0)) .no, .mk (some 9) none (.len false (.t 8)) .no, .mk (some 10) none (.bin .gtr (.t 9) (.c (.one (.st (.int .i64 40)))))
  .no])
  (.cond (.t 10)
  (.seq
  (.ops
  [.mk (some 2) none (.mov (.c (.one (.st (.int .i64 3)))))
  .no])
  .ret)
  .skip))
  (.seq
  (.seq
  (.ops
  [.mk (some 11) none (.mov (.t 0)) .no, .mk (some 12) none (.len false (.t 11)) .no, .mk (some 13) none (.mov (.c (.one (.st (.int .i64 0)))))
  .no])
  (.block 0
  (.loop
  (.seq
  (.ops
  [.mk (some 14) none (.bin .lss (.t 13) (.t 12))
  .no])
  (.seq (.cond (.t 14) .skip (.exit 0))
  (.seq
  (.block 1
  (.seq
  (.ops
  [.mk (some 15) none (.indexAddr 4 (.t 11) (.t 13))
  .no, .mk (some 16) none (.load true 4 (.t 15)) .no, .mk (some 4) none
  (.alloc 51
  [.st (.str (ByteArray.mk (#[]))), .full [], .st (.str (ByteArray.mk (#[]))), .full []])
  .no, .mk none none (.store 4 (.t 4) (.t 16))
  .no])
  (.seq
  (.ops
  [.mk (some 17) none (.fieldAddr 0 (.t 4)) .no, .mk (some 18) none (.load true 2 (.t 17)) .no, .mk (some 19) none (.fieldAddr 2 (.t 4)) .no, .mk (some 20) none (.load true 2 (.t 19)) .no, .mk (some 21) none (.buildSlice false 24 2 [.t 18, .t 20])
  .no, .mk (some 22) none (.len false (.t 21)) .no, .mk (some 23) none (.mov (.c (.one (.st (.int .i64 0)))))
  .no])
  (.block 2
  (.loop
  (.seq
  (.ops
  [.mk (some 24) none (.bin .lss (.t 23) (.t 22))
  .no])
  (.seq (.cond (.t 24) .skip (.exit 2))
  (.seq
  (.block 3
  (.seq
  (.ops
  [.mk (some 25) none (.indexAddr 2 (.t 21) (.t 23))
  .no, .mk (some 26) none (.load true 2 (.t 25)) .no, .mk (some 6) none
  (.alloc 24 [.st (.str (ByteArray.mk (#[]))), .full []])
  .no, .mk none none (.store 2 (.t 6) (.t 26))
  .no])
  (.seq
  (.ops
  [.mk (some 27) none (.load true 2 (.t 6)) .no, .mk (some 28) none (.call 30 [.t 27]) .no, .mk (some 7) none (.mov (.t 28)) .no])
  (.seq
  (.ops
  [.mk (some 29) none (.mov (.t 7)) .no, .mk (some 30) none (.bin .neq (.t 29) (.c (.one (.st (.int .i64 0)))))
  .no])
  (.cond (.t 30)
  (.seq
  (.ops
  [.mk (some 31) none (.mov (.t 7)) .no, .mk (some 2) none (.mov (.t 31)) .no])
  .ret)
  .skip)))))
  (.ops
  [.mk (some 32) none (.bin .add (.t 23) (.c (.one (.st (.int .i64 1)))))
  .no, .mk (some 23) none (.mov (.t 32)) .no])))))))))
  (.ops
  [.mk (some 33) none (.bin .add (.t 13) (.c (.one (.st (.int .i64 1)))))
  .no, .mk (some 13) none (.mov (.t 33)) .no])))))))
  (.seq
  (.ops
  [.mk (some 2) none (.mov (.c (.one (.st (.int .i64 0)))))
  .no])
  .ret))))
theorem tr_unify_Check : trCode Try.prog 34 [] (Try.f36.body.getD .skip) = some ir_unify_Check := by kernel_rfl
theorem ac_unify_Check {xs : List AV} {r : AV} (hn : xs.length ≤ 34) (h : ∀ C : Ctx, C.n = 34 → IWP Try.prog C [] ir_unify_Check (FinQ [.t 2] r) (AS.start xs)) : ACalls Try.prog 36 xs r :=
  acalls_of Try.func36 rfl tr_unify_Check rfl hn h
def ir_unify_occurs : IR :=
  (.seq
  (.ops
  [.mk (some 3) none (.box 24 (.t 1)) .no, .mk (some 4) none (.mov (.c (.one (.st (.bool false)))))
  .no])
  (.seq
  (.seq
  (.ops
  [.mk (some 7) none (.fieldAddr 0 (.t 3)) .no, .mk (some 8) none (.load false 1 (.t 7)) .no, .mk (some 9) none (.mov (.t 0)) .no, .mk (some 10) none (.bin .eql (.t 8) (.t 9))
  .no])
  (.cond (.t 10)
  (.seq
  (.ops
  [.mk (some 4) none (.mov (.c (.one (.st (.bool true)))))
  .no])
  .ret)
  .skip))
  (.seq
  (.seq
  (.ops
  [.mk (some 11) none (.fieldAddr 1 (.t 3)) .no, .mk (some 12) none (.load false 1 (.t 11)) .no, .mk (some 13) none (.len false (.t 12)) .no, .mk (some 14) none (.mov (.c (.one (.st (.int .i64 0)))))
  .no])
  (.block 0
  (.loop
  (.seq
  (.ops
  [.mk (some 15) none (.bin .lss (.t 14) (.t 13))
  .no])
  (.seq (.cond (.t 15) .skip (.exit 0))
  (.seq
  (.block 1
  (.seq
  (.ops
  [.mk (some 16) none (.indexAddr 2 (.t 12) (.t 14))
  .no, .mk (some 17) none (.load true 2 (.t 16)) .no, .mk (some 6) none
  (.alloc 24 [.st (.str (ByteArray.mk (#[]))), .full []])
  .no, .mk none none (.store 2 (.t 6) (.t 17))
  .no])
  (.seq
  (.ops
  [.mk (some 18) none (.mov (.t 0)) .no, .mk (some 19) none (.load true 2 (.t 6)) .no, .mk (some 20) none (.call 57 [.t 18, .t 19])
  .no])
  (.cond (.t 20)
  (.seq
  (.ops
  [.mk (some 4) none (.mov (.c (.one (.st (.bool true)))))
  .no])
  .ret)
  .skip))))
  (.ops
  [.mk (some 21) none (.bin .add (.t 14) (.c (.one (.st (.int .i64 1)))))
  .no, .mk (some 14) none (.mov (.t 21)) .no])))))))
  (.seq
  (.ops
  [.mk (some 4) none (.mov (.c (.one (.st (.bool false)))))
  .no])
  .ret))))
theorem tr_unify_occurs : trCode Try.prog 22 [] (Try.f57.body.getD .skip) = some ir_unify_occurs := by kernel_rfl
theorem ac_unify_occurs {xs : List AV} {r : AV} (hn : xs.length ≤ 22) (h : ∀ C : Ctx, C.n = 22 → IWP Try.prog C [] ir_unify_occurs (FinQ [.t 4] r) (AS.start xs)) : ACalls Try.prog 57 xs r :=
  acalls_of Try.func57 rfl tr_unify_occurs rfl hn h
def ir_unify_Solve : IR :=
  (.seq
  (.ops
  [.mk (some 2) none (.mov (.c (.one (.full []))))
  .no, .mk (some 3) none (.mov (.c (.one (.st (.int .i64 0)))))
  .no])
  (.seq
  (.ops
  [.mk (some 4) none (.mov (.c (.one (.full []))))
  .no])
  (.seq
  (.ops
  [.mk (some 5) none (.mov (.c (.one (.full []))))
  .no])
  (.seq
  (.seq
  (.ops
  [.mk (some 15) none (.mov (.t 0)) .no, .mk (some 16) none (.len false (.t 15)) .no, .mk (some 17) none (.bin .sub (.t 16) (.c (.one (.st (.int .i64 1)))))
  .no, .mk (some 6) none (.mov (.t 17)) .no])
  (.block 0
  (.loop
  (.seq
  (.seq
  (.ops
  [.mk (some 18) none (.mov (.t 6)) .no, .mk (some 19) none (.bin .geq (.t 18) (.c (.one (.st (.int .i64 0)))))
  .no])
  (.cond (.t 19) .skip (.exit 0)))
  (.seq
  (.block 1
  (.ops
  [.mk (some 22) none (.mov (.t 5)) .no, .mk (some 23) none (.mov (.t 0)) .no, .mk (some 24) none (.mov (.t 6)) .no, .mk (some 25) none (.indexAddr 4 (.t 23) (.t 24))
  .no, .mk (some 26) none (.load true 4 (.t 25)) .no, .mk (some 27) none (.buildSlice false 51 4 [.t 26]) .no, .mk (some 28) none (.appP 51 4 80 (.t 22) (.t 27))
  .no, .mk (some 5) none (.mov (.t 28)) .no]))
  (.ops
  [.mk (some 20) none (.mov (.t 6)) .no, .mk (some 21) none (.bin .sub (.t 20) (.c (.one (.st (.int .i64 1)))))
  .no, .mk (some 6) none (.mov (.t 21)) .no]))))))
  (.seq
  (.block 2
  (.loop
  (.seq
  (.seq
  (.ops
  [.mk (some 29) none (.mov (.t 5)) .no, .mk (some 30) none (.len false (.t 29)) .no, .mk (some 31) none (.bin .gtr (.t 30) (.c (.one (.st (.int .i64 0)))))
  .no])
  (.cond (.t 31) .skip (.exit 2)))
  (.block 3
  (.seq
  (.ops
  [.mk (some 32) none (.mov (.t 5)) .no, .mk (some 33) none (.mov (.t 5)) .no, .mk (some 34) none (.len false (.t 33)) .no, .mk (some 35) none (.bin .sub (.t 34) (.c (.one (.st (.int .i64 1)))))
  .no, .mk (some 36) none (.indexP 4 (.t 32) (.t 35))
  .no, .mk (some 37) none (.load true 4 (.t 36)) .no, .mk (some 7) none
  (.alloc 51
  [.st (.str (ByteArray.mk (#[]))), .full [], .st (.str (ByteArray.mk (#[]))), .full []])
  .no, .mk none none (.store 4 (.t 7) (.t 37))
  .no])
  (.seq
  (.ops
  [.mk (some 38) none (.mov (.t 5)) .no, .mk (some 39) none (.mov (.t 5)) .no, .mk (some 40) none (.len false (.t 39)) .no, .mk (some 41) none (.bin .sub (.t 40) (.c (.one (.st (.int .i64 1)))))
  .no, .mk (some 42) none (.cutP 4 (.t 38) (.t 41))
  .no, .mk (some 5) none (.mov (.t 42)) .no])
  (.seq
  (.ops
  [.mk (some 44) none (.mov (.t 4)) .no, .mk (some 45) none (.fieldAddr 0 (.t 7)) .no, .mk (some 46) none (.load true 2 (.t 45)) .no, .mk (some 47) none (.callR 46 [.t 44, .t 46])
  .no, .mk (some 43) none (.mov (.t 47)) .no, .mk (some 48) none (.extract 0 (.t 43)) .no, .mk (some 49) none (.extract 1 (.t 43)) .no, .mk (some 8) none
  (.alloc 24 [.st (.str (ByteArray.mk (#[]))), .full []])
  .no, .mk none none (.store 2 (.t 8) (.t 48))
  .no, .mk (some 9) none (.mov (.t 49)) .no])
  (.seq
  (.ops
  [.mk (some 51) none (.mov (.t 4)) .no, .mk (some 52) none (.fieldAddr 2 (.t 7)) .no, .mk (some 53) none (.load true 2 (.t 52)) .no, .mk (some 54) none (.callR 46 [.t 51, .t 53])
  .no, .mk (some 50) none (.mov (.t 54)) .no, .mk (some 55) none (.extract 0 (.t 50)) .no, .mk (some 56) none (.extract 1 (.t 50)) .no, .mk (some 10) none
  (.alloc 24 [.st (.str (ByteArray.mk (#[]))), .full []])
  .no, .mk none none (.store 2 (.t 10) (.t 55))
  .no, .mk (some 11) none (.mov (.t 56)) .no])
  (.seq
  (.seq
  (.ops
  [.mk (some 57) none (.mov (.t 9)) .no, .mk (some 58) none (.un .not (.t 57)) .no, .mk (some 59) none (.mov (.t 58)) .no, .mk (some 60) (some (59, false)) (.mov (.t 11)) .no, .mk (some 61) (some (59, false)) (.un .not (.t 60))
  .no, .mk (some 62) none
  (.pick (.t 59) (.c (.one (.st (.bool true)))) (.t 61))
  .no])
  (.cond (.t 62)
  (.seq
  (.ops
  [.mk (some 2) none (.mov (.c (.one (.full [])))) .no, .mk (some 3) none (.mov (.c (.one (.st (.int .i64 8)))))
  .no])
  .ret)
  .skip))
  (.block 4
  (.seq
  (.ops
  [.mk (some 86) none (.fieldAddr 0 (.t 8)) .no, .mk (some 87) none (.load false 1 (.t 86)) .no, .mk (some 88) none (.call 44 [.t 87]) .no, .mk (some 89) none (.mov (.t 88)) .no, .mk (some 90) (some (89, true)) (.fieldAddr 0 (.t 8))
  .no, .mk (some 91) (some (89, true)) (.load false 1 (.t 90))
  .no, .mk (some 92) (some (89, true)) (.fieldAddr 0 (.t 10))
  .no, .mk (some 93) (some (89, true)) (.load false 1 (.t 92))
  .no, .mk (some 94) (some (89, true)) (.bin .eql (.t 91) (.t 93)) .no, .mk (some 95) none
  (.pick (.t 89) (.t 94) (.c (.one (.st (.bool false)))))
  .no, .mk (some 85) none (.mov (.t 95)) .no])
  (.cond (.t 85) .skip
  (.seq
  (.ops
  [.mk (some 97) none (.fieldAddr 0 (.t 8)) .no, .mk (some 98) none (.load false 1 (.t 97)) .no, .mk (some 99) none (.call 44 [.t 98]) .no, .mk (some 100) none (.mov (.t 99)) .no, .mk (some 101) (some (100, false)) (.fieldAddr 0 (.t 10))
  .no, .mk (some 102) (some (100, false)) (.load false 1 (.t 101))
  .no, .mk (some 103) (some (100, false)) (.call 44 [.t 102])
  .no, .mk (some 104) none
  (.pick (.t 100) (.c (.one (.st (.bool true)))) (.t 103))
  .no, .mk (some 96) none (.mov (.t 104)) .no])
  (.cond (.t 96)
  (.seq
  (.seq
  (.ops
  [.mk (some 105) none (.fieldAddr 0 (.t 8)) .no, .mk (some 106) none (.load false 1 (.t 105))
  .no, .mk (some 107) none (.call 44 [.t 106]) .no, .mk (some 108) none (.un .not (.t 107))
  .no])
  (.cond (.t 108)
  (.ops
  [.mk (some 109) none (.load true 2 (.t 10))
  .no, .mk (some 110) none (.load true 2 (.t 8))
  .no, .mk none none (.store 2 (.t 8) (.t 109))
  .no, .mk none none (.store 2 (.t 10) (.t 110))
  .no])
  .skip))
  (.seq
  (.seq
  (.ops
  [.mk (some 111) none (.fieldAddr 0 (.t 8)) .no, .mk (some 112) none (.load false 1 (.t 111))
  .no, .mk (some 113) none (.load true 2 (.t 10))
  .no, .mk (some 114) none (.call 57 [.t 112, .t 113])
  .no])
  (.cond (.t 114)
  (.seq
  (.ops
  [.mk (some 2) none (.mov (.c (.one (.full []))))
  .no, .mk (some 3) none (.mov (.c (.one (.st (.int .i64 6)))))
  .no])
  .ret)
  .skip))
  (.seq
  (.ops
  [.mk (some 115) none (.fieldAddr 0 (.t 8)) .no, .mk (some 116) none (.load false 1 (.t 115))
  .no, .mk (some 117) none (.load true 2 (.t 10))
  .no, .mk (some 118) none
  (.build
  [.st (.str (ByteArray.mk (#[]))), .st (.str (ByteArray.mk (#[]))), .full []]
  [(0, 1, .t 116), (1, 2, .t 117)])
  .no, .mk (some 119) none (.buildSlice false 56 3 [.t 118])
  .no, .mk (some 12) none (.mov (.t 119)) .no])
  (.seq
  (.seq
  (.ops
  [.mk (some 120) none (.mov (.t 4)) .no, .mk (some 121) none (.len false (.t 120))
  .no, .mk (some 122) none (.mov (.c (.one (.st (.int .i64 0)))))
  .no])
  (.block 7
  (.loop
  (.seq
  (.ops
  [.mk (some 123) none (.bin .lss (.t 122) (.t 121)) .no])
  (.seq
  (.cond (.t 123) .skip (.exit 7))
  (.seq
  (.block 8
  (.seq
  (.ops
  [.mk (some 124) none (.mov (.t 122))
  .no, .mk (some 13) none (.mov (.t 124))
  .no])
  (.seq
  (.ops
  [.mk (some 126) none (.mov (.t 4))
  .no, .mk (some 127) none (.mov (.t 13))
  .no, .mk (some 128) none (.mov (.t 12))
  .no, .mk (some 129) none (.mov (.t 4))
  .no, .mk (some 130) none (.mov (.t 13))
  .no, .mk (some 131) none
  (.indexAddr 3 (.t 129) (.t 130)) .no, .mk (some 132) none (.fieldAddr 1 (.t 131))
  .no, .mk (some 133) none (.load true 2 (.t 132))
  .no, .mk (some 134) none (.call 46 [.t 128, .t 133]) .no, .mk (some 125) none (.mov (.t 134))
  .no, .mk (some 135) none (.extract 0 (.t 125))
  .no, .mk (some 136) none (.extract 1 (.t 125))
  .no, .mk (some 137) none
  (.indexAddr 3 (.t 126) (.t 127)) .no, .mk (some 138) none (.fieldAddr 1 (.t 137))
  .no, .mk none none (.store 2 (.t 138) (.t 135)) .no, .mk (some 9) none (.mov (.t 136))
  .no])
  (.seq
  (.ops
  [.mk (some 139) none (.mov (.t 9))
  .no, .mk (some 140) none (.un .not (.t 139))
  .no])
  (.cond (.t 140)
  (.seq
  (.ops
  [.mk (some 2) none (.mov (.c (.one (.full []))))
  .no, .mk (some 3) none (.mov (.c (.one (.st (.int .i64 8)))))
  .no])
  .ret)
  .skip)))))
  (.ops
  [.mk (some 141) none (.bin .add (.t 122) (.c (.one (.st (.int .i64 1)))))
  .no, .mk (some 122) none (.mov (.t 141))
  .no])))))))
  (.ops
  [.mk (some 142) none (.mov (.t 4)) .no, .mk (some 143) none (.mov (.t 12)) .no, .mk (some 144) none
  (.indexAddr 3 (.t 143) (.c (.one (.st (.int .i64 0)))))
  .no, .mk (some 145) none (.load true 3 (.t 144))
  .no, .mk (some 146) none (.buildSlice false 56 3 [.t 145])
  .no, .mk (some 147) none
  (.append false 56 3 56 (.t 142) (.t 146)) .no, .mk (some 148) none (.callS 58 [.t 147]) .no, .mk (some 4) none (.mov (.t 148)) .no])))))
  (.seq
  (.ops
  [.mk (some 150) none (.fieldAddr 0 (.t 8)) .no, .mk (some 151) none (.load false 1 (.t 150))
  .no, .mk (some 152) none (.fieldAddr 0 (.t 10)) .no, .mk (some 153) none (.load false 1 (.t 152))
  .no, .mk (some 154) none (.bin .neq (.t 151) (.t 153)) .no, .mk (some 155) none (.mov (.t 154)) .no, .mk (some 156) (some (155, false)) (.fieldAddr 1 (.t 8))
  .no, .mk (some 157) (some (155, false)) (.load false 1 (.t 156))
  .no, .mk (some 158) (some (155, false)) (.len false (.t 157))
  .no, .mk (some 159) (some (155, false)) (.fieldAddr 1 (.t 10))
  .no, .mk (some 160) (some (155, false)) (.load false 1 (.t 159))
  .no, .mk (some 161) (some (155, false)) (.len false (.t 160))
  .no, .mk (some 162) (some (155, false)) (.bin .neq (.t 158) (.t 161)) .no, .mk (some 163) none
  (.pick (.t 155) (.c (.one (.st (.bool true)))) (.t 162))
  .no, .mk (some 149) none (.mov (.t 163)) .no])
  (.cond (.t 149)
  (.seq
  (.ops
  [.mk (some 2) none (.mov (.c (.one (.full []))))
  .no, .mk (some 3) none (.mov (.c (.one (.st (.int .i64 5)))))
  .no])
  .ret)
  (.seq
  (.ops
  [.mk (some 63) none (.fieldAddr 1 (.t 8)) .no, .mk (some 64) none (.load false 1 (.t 63))
  .no, .mk (some 65) none (.len false (.t 64))
  .no, .mk (some 66) none (.bin .sub (.t 65) (.c (.one (.st (.int .i64 1)))))
  .no, .mk (some 14) none (.mov (.t 66)) .no])
  (.block 5
  (.loop
  (.seq
  (.seq
  (.ops
  [.mk (some 67) none (.mov (.t 14)) .no, .mk (some 68) none (.bin .geq (.t 67) (.c (.one (.st (.int .i64 0)))))
  .no])
  (.cond (.t 68) .skip (.exit 5)))
  (.seq
  (.block 6
  (.ops
  [.mk (some 71) none (.mov (.t 5)) .no, .mk (some 72) none (.fieldAddr 1 (.t 8))
  .no, .mk (some 73) none (.load false 1 (.t 72))
  .no, .mk (some 74) none (.mov (.t 14))
  .no, .mk (some 75) none
  (.indexAddr 2 (.t 73) (.t 74)) .no, .mk (some 76) none (.load true 2 (.t 75))
  .no, .mk (some 77) none (.fieldAddr 1 (.t 10))
  .no, .mk (some 78) none (.load false 1 (.t 77))
  .no, .mk (some 79) none (.mov (.t 14))
  .no, .mk (some 80) none
  (.indexAddr 2 (.t 78) (.t 79)) .no, .mk (some 81) none (.load true 2 (.t 80))
  .no, .mk (some 82) none
  (.build
  [.st (.str (ByteArray.mk (#[]))), .full [], .st (.str (ByteArray.mk (#[]))), .full []]
  [(0, 2, .t 76), (2, 2, .t 81)])
  .no, .mk (some 83) none (.buildSlice false 51 4 [.t 82])
  .no, .mk (some 84) none
  (.appP 51 4 80 (.t 71) (.t 83)) .no, .mk (some 5) none (.mov (.t 84))
  .no]))
  (.ops
  [.mk (some 69) none (.mov (.t 14)) .no, .mk (some 70) none (.bin .sub (.t 69) (.c (.one (.st (.int .i64 1)))))
  .no, .mk (some 14) none (.mov (.t 70))
  .no]))))))))))))))))))))))
  (.seq
  (.ops
  [.mk (some 164) none (.mov (.t 4)) .no, .mk (some 2) none (.mov (.t 164)) .no, .mk (some 3) none (.mov (.c (.one (.st (.int .i64 0)))))
  .no])
  .ret))))))
theorem tr_unify_Solve : trCode Try.prog 165 [30000028, 30000036, 30000042, 30000084, 40000047, 40000054, 148] (Try.f37.body.getD .skip) = some ir_unify_Solve := by kernel_rfl
theorem ac_unify_Solve {xs : List AV} {r : AV} (hn : xs.length ≤ 165) (h : ∀ C : Ctx, C.n = 165 → IWP Try.prog C [30000028, 30000036, 30000042, 30000084, 40000047, 40000054, 148] ir_unify_Solve (FinQ [.t 2, .t 3] r) (AS.start xs)) : ACalls Try.prog 37 xs r :=
  acalls_of Try.func37 rfl tr_unify_Solve rfl hn h
def ir_unify_Unify : IR :=
  (.seq
  (.ops
  [.mk (some 2) none (.mov (.c (.one (.full []))))
  .no, .mk (some 3) none (.mov (.c (.one (.st (.int .i64 0)))))
  .no])
  (.seq
  (.seq
  (.ops
  [.mk (some 5) none (.mov (.t 0)) .no, .mk (some 6) none (.call 36 [.t 5]) .no, .mk (some 4) none (.mov (.t 6)) .no])
  (.seq
  (.ops
  [.mk (some 7) none (.mov (.t 4)) .no, .mk (some 8) none (.bin .neq (.t 7) (.c (.one (.st (.int .i64 0)))))
  .no])
  (.cond (.t 8)
  (.seq
  (.ops
  [.mk (some 9) none (.mov (.t 4)) .no, .mk (some 2) none (.mov (.c (.one (.full []))))
  .no, .mk (some 3) none (.mov (.t 9)) .no])
  .ret)
  .skip)))
  (.seq
  (.ops
  [.mk (some 10) none (.mov (.t 0)) .no, .mk (some 11) none (.call 37 [.t 10]) .no, .mk (some 12) none (.extract 0 (.t 11)) .no, .mk (some 13) none (.extract 1 (.t 11)) .no, .mk (some 2) none (.mov (.t 12)) .no, .mk (some 3) none (.mov (.t 13)) .no])
  .ret)))
theorem tr_unify_Unify : trCode Try.prog 14 [] (Try.f18.body.getD .skip) = some ir_unify_Unify := by kernel_rfl
theorem ac_unify_Unify {xs : List AV} {r : AV} (hn : xs.length ≤ 14) (h : ∀ C : Ctx, C.n = 14 → IWP Try.prog C [] ir_unify_Unify (FinQ [.t 2, .t 3] r) (AS.start xs)) : ACalls Try.prog 18 xs r :=
  acalls_of Try.func18 rfl tr_unify_Unify rfl hn h
end Go.Proofs.Ytohgkbgpcnmdpaa

namespace Go.Proofs.Ytohgkbgpcnmdpaa
open Go Go.RowKit
set_option maxRecDepth 100000
end Go.Proofs.Ytohgkbgpcnmdpaa

namespace Go.Proofs.Ytohgkbgpcnmdpaa
open Go Go.RowKit
set_option linter.unusedVariables false
set_option linter.unusedSimpArgs false
set_option maxHeartbeats 800000
end Go.Proofs.Ytohgkbgpcnmdpaa

namespace Go.Proofs.Ytohgkbgpcnmdpaa
open Go Go.RowKit
set_option linter.unusedVariables false
set_option linter.unusedSimpArgs false
set_option maxHeartbeats 800000
theorem occurs_a (x : ByteArray) (t : Tm) : ACalls Try.prog 57 [aStr x, aTm t] (aBool (occ x t)) := by
  induction h : SizeOf.sizeOf t using Nat.strongRecOn generalizing t with
  | _ N ih =>
  subst h
  rw [occ_eq]
  refine ac_unify_occurs (Nat.le_of_ble_eq_true rfl) fun C hC => ?_
  unfold ir_unify_occurs
  refine IWP.learn 1 (by omega) fun hkn => ?_
  have hkn := known_tm hkn
  by_cases hn : t.name = x
  · repeat' (first | (with_reducible first | refine Wa ?_ | refine Wb ?_ | refine Wc ?_ | refine Wd ?_ | refine We ?_ | refine Wf ?_ | refine Wg ?_ | refine Wh ?_ | refine Wi ?_ | refine Wj ?_ | refine Wk (by decide) ?_ | refine Wl ?_ | refine Wm ?_ | refine Wn ?_) | ((with_reducible first | refine Wo (fun K hK => ?_) | refine Wp ?_ | refine Wq ?_ | refine Wr ?_); (try simp only [go_sem, List.forall_mem_nil, ↓guard_ite, ↓pick_ite, seval, encT_eq, inR_i64, hn, decide_eq_true_eq, decide_eq_false_iff_not, Int.ofNat_lt]); (repeat with_reducible refine And.intro (by first | omega | (with_reducible first | exact lens_encT | exact lens_encL | exact lens_encB | exact lens_encP) | (simp; done) | (simp only [List.length_take, List.length_map, List.length_append, maxLen_eq]; omega)) ?_); (try (with_reducible refine hK _ ?_; clear hK K)); (try with_reducible refine ite_conj ?_)))
    simp only [go_sem, List.forall_mem_nil, ↓guard_ite, ↓pick_ite, seval, FinQ, AS.result, resAll, resOne, tupV]
    rw [Bool.true_or]
  rw [decide_eq_false hn, Bool.false_or]
  repeat' (first | (with_reducible first | refine Wa ?_ | refine Wb ?_ | refine Wc ?_ | refine Wd ?_ | refine We ?_ | refine Wf ?_ | refine Wg ?_ | refine Wh ?_ | refine Wi ?_ | refine Wj ?_ | refine Wk (by decide) ?_ | refine Wl ?_ | refine Wm ?_ | refine Wn ?_) | ((with_reducible first | refine Wo (fun K hK => ?_) | refine Wp ?_ | refine Wq ?_ | refine Wr ?_); (try simp only [go_sem, List.forall_mem_nil, ↓guard_ite, ↓pick_ite, seval, encT_eq, inR_i64, hn, decide_eq_true_eq, decide_eq_false_iff_not, Int.ofNat_lt]); (repeat with_reducible refine And.intro (by first | omega | (with_reducible first | exact lens_encT | exact lens_encL | exact lens_encB | exact lens_encP) | (simp; done) | (simp only [List.length_take, List.length_map, List.length_append, maxLen_eq]; omega)) ?_); (try (with_reducible refine hK _ ?_; clear hK K)); (try with_reducible refine ite_conj ?_)))
  refine IWP.loopD [6] (fun m s => ∃ k, k ≤ t.args.length ∧ m = t.args.length - k ∧ (t.args.take k).any (occ x) = false ∧ s.env 0 = aStr x ∧ s.env 12 = .one (.st (.list (t.args.map encT))) ∧ s.env 13 = aInt t.args.length ∧ s.env 14 = aInt k ∧ s.S 6 = none) t.args.length ⟨0, Nat.zero_le _, rfl, rfl, rfl, rfl, rfl, rfl, rfl⟩ ?_
  rintro m ⟨env, S⟩ ⟨k, hk, rfl, h0, e0, e12, e13, e14, s6⟩
  simp only at e0 e12 e13 e14 s6
  by_cases hlt : (k : Int) < t.args.length
  · obtain ⟨a, ha⟩ := get_lt (show k < t.args.length by omega)
    repeat' (first | (with_reducible first | refine Wa ?_ | refine Wb ?_ | refine Wc ?_ | refine Wd ?_ | refine We ?_ | refine Wf ?_ | refine Wg ?_ | refine Wh ?_ | refine Wi ?_ | refine Wj ?_ | refine Wk (by decide) ?_ | refine Wl ?_ | refine Wm ?_ | refine Wn ?_) | ((with_reducible first | refine Wo (fun K hK => ?_) | refine Wp ?_ | refine Wq ?_ | refine Wr ?_); (try simp only [go_sem, List.forall_mem_nil, ↓guard_ite, ↓pick_ite, seval, encT_eq, inR_i64, e0, e12, e13, e14, s6, hlt, ha, decide_eq_true_eq, decide_eq_false_iff_not, Int.ofNat_lt]); (repeat with_reducible refine And.intro (by first | omega | (with_reducible first | exact lens_encT | exact lens_encL | exact lens_encB | exact lens_encP) | (simp; done) | (simp only [List.length_take, List.length_map, List.length_append, maxLen_eq]; omega)) ?_); (try (with_reducible refine hK _ ?_; clear hK K)); (try with_reducible refine ite_conj ?_)))
    refine ⟨_, ih _ (Tm.lt_of_arg (mem_of_get ha)) a rfl, ?_⟩
    cases hc : occ x a with
    | true =>
      repeat' (first | (with_reducible first | refine Wa ?_ | refine Wb ?_ | refine Wc ?_ | refine Wd ?_ | refine We ?_ | refine Wf ?_ | refine Wg ?_ | refine Wh ?_ | refine Wi ?_ | refine Wj ?_ | refine Wk (by decide) ?_ | refine Wl ?_ | refine Wm ?_ | refine Wn ?_) | ((with_reducible first | refine Wo (fun K hK => ?_) | refine Wp ?_ | refine Wq ?_ | refine Wr ?_); (try simp only [go_sem, List.forall_mem_nil, ↓guard_ite, ↓pick_ite, seval, encT_eq, inR_i64, hc, decide_eq_true_eq, decide_eq_false_iff_not, Int.ofNat_lt]); (repeat with_reducible refine And.intro (by first | omega | (with_reducible first | exact lens_encT | exact lens_encL | exact lens_encB | exact lens_encP) | (simp; done) | (simp only [List.length_take, List.length_map, List.length_append, maxLen_eq]; omega)) ?_); (try (with_reducible refine hK _ ?_; clear hK K)); (try with_reducible refine ite_conj ?_)))
      simp only [go_sem, List.forall_mem_nil, ↓guard_ite, ↓pick_ite, seval, FinQ, AS.result, resAll, resOne, tupV]
      have : t.args.any (occ x) = true := List.any_eq_true.2 ⟨a, mem_of_get ha, hc⟩
      rw [this]
    | false =>
      repeat' (first | (with_reducible first | refine Wa ?_ | refine Wb ?_ | refine Wc ?_ | refine Wd ?_ | refine We ?_ | refine Wf ?_ | refine Wg ?_ | refine Wh ?_ | refine Wi ?_ | refine Wj ?_ | refine Wk (by decide) ?_ | refine Wl ?_ | refine Wm ?_ | refine Wn ?_) | ((with_reducible first | refine Wo (fun K hK => ?_) | refine Wp ?_ | refine Wq ?_ | refine Wr ?_); (try simp only [go_sem, List.forall_mem_nil, ↓guard_ite, ↓pick_ite, seval, encT_eq, inR_i64, hc, e0, e12, e13, e14, s6, decide_eq_true_eq, decide_eq_false_iff_not, Int.ofNat_lt]); (repeat with_reducible refine And.intro (by first | omega | (with_reducible first | exact lens_encT | exact lens_encL | exact lens_encB | exact lens_encP) | (simp; done) | (simp only [List.length_take, List.length_map, List.length_append, maxLen_eq]; omega)) ?_); (try (with_reducible refine hK _ ?_; clear hK K)); (try with_reducible refine ite_conj ?_)))
      refine then_normal ⟨t.args.length - (k + 1), by omega, k + 1, by omega, rfl, by rw [take_snoc ha, List.any_append, h0]; simp [hc], ?_⟩
      simp only [go_sem, List.forall_mem_nil, ↓guard_ite, ↓pick_ite, seval, AS.drop, dropS, AC.clears, AC.clear, AC.highs, AC.high, Bool.not_false, Bool.true_and, Bool.and_self, AV.purge, AV.purges, AC.purge, ABlk.purge, List.contains_cons, List.contains_nil, Nat.reduceBEq, Bool.or_self, Bool.or_false, Bool.false_or, Bool.or_true, encT_eq, inR_i64, e0, e12, e13, e14, s6]
      congr 3
  · repeat' (first | (with_reducible first | refine Wa ?_ | refine Wb ?_ | refine Wc ?_ | refine Wd ?_ | refine We ?_ | refine Wf ?_ | refine Wg ?_ | refine Wh ?_ | refine Wi ?_ | refine Wj ?_ | refine Wk (by decide) ?_ | refine Wl ?_ | refine Wm ?_ | refine Wn ?_) | ((with_reducible first | refine Wo (fun K hK => ?_) | refine Wp ?_ | refine Wq ?_ | refine Wr ?_); (try simp only [go_sem, List.forall_mem_nil, ↓guard_ite, ↓pick_ite, seval, encT_eq, inR_i64, e0, e12, e13, e14, s6, hlt, decide_eq_true_eq, decide_eq_false_iff_not, Int.ofNat_lt]); (repeat with_reducible refine And.intro (by first | omega | (with_reducible first | exact lens_encT | exact lens_encL | exact lens_encB | exact lens_encP) | (simp; done) | (simp only [List.length_take, List.length_map, List.length_append, maxLen_eq]; omega)) ?_); (try (with_reducible refine hK _ ?_; clear hK K)); (try with_reducible refine ite_conj ?_)))
    simp only [go_sem, List.forall_mem_nil, ↓guard_ite, ↓pick_ite, seval, FinQ, AS.result, resAll, resOne, tupV]
    rw [List.take_of_length_le (by omega)] at h0
    rw [h0]
def pairsErr : List Pr → Int
  | [] => 0
  | p :: l => if twoMay p.1 p.2 = 0 then pairsErr l else twoMay p.1 p.2
def pairsMay (l : List Pr) : Int := if 40 < l.length then 3 else pairsErr l
theorem pairsErr_append : ∀ (xs ys : List Pr), pairsErr (xs ++ ys) = if pairsErr xs = 0 then pairsErr ys else pairsErr xs
  | [], ys => by simp [pairsErr]
  | p :: xs, ys => by
    simp only [List.cons_append, pairsErr]
    by_cases h : twoMay p.1 p.2 = 0
    · simp only [h, if_true, pairsErr_append]
    · simp only [h, if_false]
theorem pairsErr_get {xs : List Pr} {k : Nat} {p : Pr} (h : xs[k]? = some p) (h0 : pairsErr (xs.take k) = 0) : (twoMay p.1 p.2 = 0 → pairsErr (xs.take (k + 1)) = 0) ∧ (twoMay p.1 p.2 ≠ 0 → pairsErr xs = twoMay p.1 p.2) := by
  constructor
  · intro hb
    rw [take_snoc h, pairsErr_append, if_pos h0]
    simp [pairsErr, hb]
  · intro hb
    have e : pairsErr xs = pairsErr (xs.take k ++ xs.drop k) := by rw [List.take_append_drop]
    rw [e, pairsErr_append, if_pos h0, drop_get h]
    simp [pairsErr, hb]
theorem pairsMay_zero {l : List Pr} (h : pairsMay l = 0) : l.length ≤ 40 ∧ ∀ p ∈ l, p.1.may = 0 ∧ p.2.may = 0 := by
  unfold pairsMay at h
  split at h
  · cases h
  · refine ⟨by omega, ?_⟩
    have key : ∀ {l : List Pr}, pairsErr l = 0 → ∀ p ∈ l, p.1.may = 0 ∧ p.2.may = 0 := by
      intro l
      induction l with
      | nil => simp
      | cons p l ih =>
        intro h q hq
        simp only [pairsErr] at h
        split at h
        · rename_i h2
          rcases List.mem_cons.1 hq with rfl | hq
          · unfold twoMay at h2
            split at h2
            · exact ⟨by assumption, h2⟩
            · rename_i h3; exact absurd h2 h3
          · exact ih h q hq
        · rename_i h2; exact absurd h h2
    exact key h
theorem pairsCheck_a (l : List Pr) : ACalls Try.prog 36 [aPrs l] (aInt (pairsMay l)) := by
  have hm : pairsMay l = if 40 < l.length then 3 else pairsErr l := rfl
  refine ac_unify_Check (Nat.le_of_ble_eq_true rfl) fun C hC => ?_
  unfold ir_unify_Check
  by_cases h40 : (40 : Int) < l.length
  · repeat' (first | (with_reducible first | refine Wa ?_ | refine Wb ?_ | refine Wc ?_ | refine Wd ?_ | refine We ?_ | refine Wf ?_ | refine Wg ?_ | refine Wh ?_ | refine Wi ?_ | refine Wj ?_ | refine Wk (by decide) ?_ | refine Wl ?_ | refine Wm ?_ | refine Wn ?_) | ((with_reducible first | refine Wo (fun K hK => ?_) | refine Wp ?_ | refine Wq ?_ | refine Wr ?_); (try simp only [go_sem, List.forall_mem_nil, ↓guard_ite, ↓pick_ite, seval, encT_eq, inR_i64, h40, decide_eq_true_eq, decide_eq_false_iff_not, Int.ofNat_lt]); (repeat with_reducible refine And.intro (by first | omega | (with_reducible first | exact lens_encT | exact lens_encL | exact lens_encB | exact lens_encP) | (simp; done) | (simp only [List.length_take, List.length_map, List.length_append, maxLen_eq]; omega)) ?_); (try (with_reducible refine hK _ ?_; clear hK K)); (try with_reducible refine ite_conj ?_)))
    simp only [go_sem, List.forall_mem_nil, ↓guard_ite, ↓pick_ite, seval, FinQ, AS.result, resAll, resOne, tupV]
    rw [hm, if_pos (by omega)]
  rw [if_neg (by omega)] at hm
  repeat' (first | (with_reducible first | refine Wa ?_ | refine Wb ?_ | refine Wc ?_ | refine Wd ?_ | refine We ?_ | refine Wf ?_ | refine Wg ?_ | refine Wh ?_ | refine Wi ?_ | refine Wj ?_ | refine Wk (by decide) ?_ | refine Wl ?_ | refine Wm ?_ | refine Wn ?_) | ((with_reducible first | refine Wo (fun K hK => ?_) | refine Wp ?_ | refine Wq ?_ | refine Wr ?_); (try simp only [go_sem, List.forall_mem_nil, ↓guard_ite, ↓pick_ite, seval, encT_eq, inR_i64, h40, decide_eq_true_eq, decide_eq_false_iff_not, Int.ofNat_lt]); (repeat with_reducible refine And.intro (by first | omega | (with_reducible first | exact lens_encT | exact lens_encL | exact lens_encB | exact lens_encP) | (simp; done) | (simp only [List.length_take, List.length_map, List.length_append, maxLen_eq]; omega)) ?_); (try (with_reducible refine hK _ ?_; clear hK K)); (try with_reducible refine ite_conj ?_)))
  refine IWP.loopD [4, 6] (fun m s => ∃ k, k ≤ l.length ∧ m = l.length - k ∧ pairsErr (l.take k) = 0 ∧ s.env 11 = aPrs l ∧ s.env 12 = aInt l.length ∧ s.env 13 = aInt k ∧ s.S 4 = none ∧ s.S 6 = none) l.length ⟨0, Nat.zero_le _, rfl, rfl, rfl, rfl, rfl, rfl, rfl⟩ ?_
  rintro m ⟨env, S⟩ ⟨k, hk, rfl, h0, e11, e12, e13, s4, s6⟩
  simp only at e11 e12 e13 s4 s6
  by_cases hlt : (k : Int) < l.length
  · obtain ⟨p, hp⟩ := get_lt (show k < l.length by omega)
    obtain ⟨g1, g2⟩ := pairsErr_get hp h0
    repeat' (first | (with_reducible first | refine Wa ?_ | refine Wb ?_ | refine Wc ?_ | refine Wd ?_ | refine We ?_ | refine Wf ?_ | refine Wg ?_ | refine Wh ?_ | refine Wi ?_ | refine Wj ?_ | refine Wk (by decide) ?_ | refine Wl ?_ | refine Wm ?_ | refine Wn ?_) | ((with_reducible first | refine Wo (fun K hK => ?_) | refine Wp ?_ | refine Wq ?_ | refine Wr ?_); (try simp only [go_sem, List.forall_mem_nil, ↓guard_ite, ↓pick_ite, seval, encT_eq, inR_i64, e11, e12, e13, s4, s6, hlt, hp, encP, decide_eq_true_eq, decide_eq_false_iff_not, Int.ofNat_lt]); (repeat with_reducible refine And.intro (by first | omega | (with_reducible first | exact lens_encT | exact lens_encL | exact lens_encB | exact lens_encP) | (simp; done) | (simp only [List.length_take, List.length_map, List.length_append, maxLen_eq]; omega)) ?_); (try (with_reducible refine hK _ ?_; clear hK K)); (try with_reducible refine ite_conj ?_)))
    refine IWP.loopD [6] (fun m s => ∃ i, i ≤ 2 ∧ m = 2 - i ∧ (0 < i → p.1.may = 0) ∧ (1 < i → p.2.may = 0) ∧ s.env 11 = aPrs l ∧ s.env 12 = aInt l.length ∧ s.env 13 = aInt k ∧ s.env 21 = .one (.full [encT p.1, encT p.2]) ∧ s.env 22 = aInt 2 ∧ s.env 23 = aInt i ∧ s.S 6 = none) 2 ⟨0, by omega, rfl, by simp, by simp, ?_⟩ ?_
    · simp only [go_sem, List.forall_mem_nil, ↓guard_ite, ↓pick_ite, seval, encT_eq, inR_i64, e11, e12, e13, s4, s6]
    rintro m ⟨env2, S2⟩ ⟨i, hi, rfl, q1, q2, e11, e12, e13, e21, e22, e23, s6⟩
    simp only at e11 e12 e13 e21 e22 e23 s6
    match i, hi, q1, q2, e23 with
    | 0, _, _, _, e23 =>
      repeat' (first | (with_reducible first | refine Wa ?_ | refine Wb ?_ | refine Wc ?_ | refine Wd ?_ | refine We ?_ | refine Wf ?_ | refine Wg ?_ | refine Wh ?_ | refine Wi ?_ | refine Wj ?_ | refine Wk (by decide) ?_ | refine Wl ?_ | refine Wm ?_ | refine Wn ?_) | ((with_reducible first | refine Wo (fun K hK => ?_) | refine Wp ?_ | refine Wq ?_ | refine Wr ?_); (try simp only [go_sem, List.forall_mem_nil, ↓guard_ite, ↓pick_ite, seval, encT_eq, inR_i64, e21, e22, e23, s6, decide_eq_true_eq, decide_eq_false_iff_not, Int.ofNat_lt]); (repeat with_reducible refine And.intro (by first | omega | (with_reducible first | exact lens_encT | exact lens_encL | exact lens_encB | exact lens_encP) | (simp; done) | (simp only [List.length_take, List.length_map, List.length_append, maxLen_eq]; omega)) ?_); (try (with_reducible refine hK _ ?_; clear hK K)); (try with_reducible refine ite_conj ?_)))
      refine ⟨_, checkT_a p.1, ?_⟩
      by_cases hz : p.1.may = 0
      · repeat' (first | (with_reducible first | refine Wa ?_ | refine Wb ?_ | refine Wc ?_ | refine Wd ?_ | refine We ?_ | refine Wf ?_ | refine Wg ?_ | refine Wh ?_ | refine Wi ?_ | refine Wj ?_ | refine Wk (by decide) ?_ | refine Wl ?_ | refine Wm ?_ | refine Wn ?_) | ((with_reducible first | refine Wo (fun K hK => ?_) | refine Wp ?_ | refine Wq ?_ | refine Wr ?_); (try simp only [go_sem, List.forall_mem_nil, ↓guard_ite, ↓pick_ite, seval, encT_eq, inR_i64, hz, e11, e12, e13, e21, e22, e23, s6, decide_eq_true_eq, decide_eq_false_iff_not, Int.ofNat_lt]); (repeat with_reducible refine And.intro (by first | omega | (with_reducible first | exact lens_encT | exact lens_encL | exact lens_encB | exact lens_encP) | (simp; done) | (simp only [List.length_take, List.length_map, List.length_append, maxLen_eq]; omega)) ?_); (try (with_reducible refine hK _ ?_; clear hK K)); (try with_reducible refine ite_conj ?_)))
        refine then_normal ⟨1, by omega, 1, by omega, rfl, ?_⟩
        simp only [go_sem, List.forall_mem_nil, ↓guard_ite, ↓pick_ite, seval, AS.drop, dropS, AC.clears, AC.clear, AC.highs, AC.high, Bool.not_false, Bool.true_and, Bool.and_self, AV.purge, AV.purges, AC.purge, ABlk.purge, List.contains_cons, List.contains_nil, Nat.reduceBEq, Bool.or_self, Bool.or_false, Bool.false_or, Bool.or_true, encT_eq, inR_i64, e11, e12, e13, e21, e22, e23, s6]
      · repeat' (first | (with_reducible first | refine Wa ?_ | refine Wb ?_ | refine Wc ?_ | refine Wd ?_ | refine We ?_ | refine Wf ?_ | refine Wg ?_ | refine Wh ?_ | refine Wi ?_ | refine Wj ?_ | refine Wk (by decide) ?_ | refine Wl ?_ | refine Wm ?_ | refine Wn ?_) | ((with_reducible first | refine Wo (fun K hK => ?_) | refine Wp ?_ | refine Wq ?_ | refine Wr ?_); (try simp only [go_sem, List.forall_mem_nil, ↓guard_ite, ↓pick_ite, seval, encT_eq, inR_i64, hz, decide_eq_true_eq, decide_eq_false_iff_not, Int.ofNat_lt]); (repeat with_reducible refine And.intro (by first | omega | (with_reducible first | exact lens_encT | exact lens_encL | exact lens_encB | exact lens_encP) | (simp; done) | (simp only [List.length_take, List.length_map, List.length_append, maxLen_eq]; omega)) ?_); (try (with_reducible refine hK _ ?_; clear hK K)); (try with_reducible refine ite_conj ?_)))
        simp only [go_sem, List.forall_mem_nil, ↓guard_ite, ↓pick_ite, seval, FinQ, AS.result, resAll, resOne, tupV]
        have ht : twoMay p.1 p.2 = p.1.may := if_neg hz
        rw [hm, g2 (by rw [ht]; exact hz), ht]
    | 1, _, q1, _, e23 =>
      have q1 := q1 (by omega)
      have ht : twoMay p.1 p.2 = p.2.may := if_pos q1
      repeat' (first | (with_reducible first | refine Wa ?_ | refine Wb ?_ | refine Wc ?_ | refine Wd ?_ | refine We ?_ | refine Wf ?_ | refine Wg ?_ | refine Wh ?_ | refine Wi ?_ | refine Wj ?_ | refine Wk (by decide) ?_ | refine Wl ?_ | refine Wm ?_ | refine Wn ?_) | ((with_reducible first | refine Wo (fun K hK => ?_) | refine Wp ?_ | refine Wq ?_ | refine Wr ?_); (try simp only [go_sem, List.forall_mem_nil, ↓guard_ite, ↓pick_ite, seval, encT_eq, inR_i64, e21, e22, e23, s6, decide_eq_true_eq, decide_eq_false_iff_not, Int.ofNat_lt]); (repeat with_reducible refine And.intro (by first | omega | (with_reducible first | exact lens_encT | exact lens_encL | exact lens_encB | exact lens_encP) | (simp; done) | (simp only [List.length_take, List.length_map, List.length_append, maxLen_eq]; omega)) ?_); (try (with_reducible refine hK _ ?_; clear hK K)); (try with_reducible refine ite_conj ?_)))
      refine ⟨_, checkT_a p.2, ?_⟩
      by_cases hz : p.2.may = 0
      · repeat' (first | (with_reducible first | refine Wa ?_ | refine Wb ?_ | refine Wc ?_ | refine Wd ?_ | refine We ?_ | refine Wf ?_ | refine Wg ?_ | refine Wh ?_ | refine Wi ?_ | refine Wj ?_ | refine Wk (by decide) ?_ | refine Wl ?_ | refine Wm ?_ | refine Wn ?_) | ((with_reducible first | refine Wo (fun K hK => ?_) | refine Wp ?_ | refine Wq ?_ | refine Wr ?_); (try simp only [go_sem, List.forall_mem_nil, ↓guard_ite, ↓pick_ite, seval, encT_eq, inR_i64, hz, e11, e12, e13, e21, e22, e23, s6, decide_eq_true_eq, decide_eq_false_iff_not, Int.ofNat_lt]); (repeat with_reducible refine And.intro (by first | omega | (with_reducible first | exact lens_encT | exact lens_encL | exact lens_encB | exact lens_encP) | (simp; done) | (simp only [List.length_take, List.length_map, List.length_append, maxLen_eq]; omega)) ?_); (try (with_reducible refine hK _ ?_; clear hK K)); (try with_reducible refine ite_conj ?_)))
        refine then_normal ⟨0, by omega, 2, by omega, rfl, ?_⟩
        simp only [go_sem, List.forall_mem_nil, ↓guard_ite, ↓pick_ite, seval, AS.drop, dropS, AC.clears, AC.clear, AC.highs, AC.high, Bool.not_false, Bool.true_and, Bool.and_self, AV.purge, AV.purges, AC.purge, ABlk.purge, List.contains_cons, List.contains_nil, Nat.reduceBEq, Bool.or_self, Bool.or_false, Bool.false_or, Bool.or_true, encT_eq, inR_i64, e11, e12, e13, e21, e22, e23, s6]
        exact q1
      · repeat' (first | (with_reducible first | refine Wa ?_ | refine Wb ?_ | refine Wc ?_ | refine Wd ?_ | refine We ?_ | refine Wf ?_ | refine Wg ?_ | refine Wh ?_ | refine Wi ?_ | refine Wj ?_ | refine Wk (by decide) ?_ | refine Wl ?_ | refine Wm ?_ | refine Wn ?_) | ((with_reducible first | refine Wo (fun K hK => ?_) | refine Wp ?_ | refine Wq ?_ | refine Wr ?_); (try simp only [go_sem, List.forall_mem_nil, ↓guard_ite, ↓pick_ite, seval, encT_eq, inR_i64, hz, decide_eq_true_eq, decide_eq_false_iff_not, Int.ofNat_lt]); (repeat with_reducible refine And.intro (by first | omega | (with_reducible first | exact lens_encT | exact lens_encL | exact lens_encB | exact lens_encP) | (simp; done) | (simp only [List.length_take, List.length_map, List.length_append, maxLen_eq]; omega)) ?_); (try (with_reducible refine hK _ ?_; clear hK K)); (try with_reducible refine ite_conj ?_)))
        simp only [go_sem, List.forall_mem_nil, ↓guard_ite, ↓pick_ite, seval, FinQ, AS.result, resAll, resOne, tupV]
        rw [hm, g2 (by rw [ht]; exact hz), ht]
    | 2, _, q1, q2, e23 =>
      have hz : twoMay p.1 p.2 = 0 := by unfold twoMay; rw [if_pos (q1 (by omega))]; exact q2 (by omega)
      repeat' (first | (with_reducible first | refine Wa ?_ | refine Wb ?_ | refine Wc ?_ | refine Wd ?_ | refine We ?_ | refine Wf ?_ | refine Wg ?_ | refine Wh ?_ | refine Wi ?_ | refine Wj ?_ | refine Wk (by decide) ?_ | refine Wl ?_ | refine Wm ?_ | refine Wn ?_) | ((with_reducible first | refine Wo (fun K hK => ?_) | refine Wp ?_ | refine Wq ?_ | refine Wr ?_); (try simp only [go_sem, List.forall_mem_nil, ↓guard_ite, ↓pick_ite, seval, encT_eq, inR_i64, e11, e12, e13, e21, e22, e23, s6, decide_eq_true_eq, decide_eq_false_iff_not, Int.ofNat_lt]); (repeat with_reducible refine And.intro (by first | omega | (with_reducible first | exact lens_encT | exact lens_encL | exact lens_encB | exact lens_encP) | (simp; done) | (simp only [List.length_take, List.length_map, List.length_append, maxLen_eq]; omega)) ?_); (try (with_reducible refine hK _ ?_; clear hK K)); (try with_reducible refine ite_conj ?_)))
      refine then_normal ⟨l.length - (k + 1), by omega, k + 1, by omega, rfl, g1 hz, ?_⟩
      simp only [go_sem, List.forall_mem_nil, ↓guard_ite, ↓pick_ite, seval, AS.drop, dropS, AC.clears, AC.clear, AC.highs, AC.high, Bool.not_false, Bool.true_and, Bool.and_self, AV.purge, AV.purges, AC.purge, ABlk.purge, List.contains_cons, List.contains_nil, Nat.reduceBEq, Bool.or_self, Bool.or_false, Bool.false_or, Bool.or_true, encT_eq, inR_i64, e11, e12, e13, s6]
      congr 3
    | i + 3, hi, _, _, _ => omega
  · repeat' (first | (with_reducible first | refine Wa ?_ | refine Wb ?_ | refine Wc ?_ | refine Wd ?_ | refine We ?_ | refine Wf ?_ | refine Wg ?_ | refine Wh ?_ | refine Wi ?_ | refine Wj ?_ | refine Wk (by decide) ?_ | refine Wl ?_ | refine Wm ?_ | refine Wn ?_) | ((with_reducible first | refine Wo (fun K hK => ?_) | refine Wp ?_ | refine Wq ?_ | refine Wr ?_); (try simp only [go_sem, List.forall_mem_nil, ↓guard_ite, ↓pick_ite, seval, encT_eq, inR_i64, e11, e12, e13, hlt, decide_eq_true_eq, decide_eq_false_iff_not, Int.ofNat_lt]); (repeat with_reducible refine And.intro (by first | omega | (with_reducible first | exact lens_encT | exact lens_encL | exact lens_encB | exact lens_encP) | (simp; done) | (simp only [List.length_take, List.length_map, List.length_append, maxLen_eq]; omega)) ?_); (try (with_reducible refine hK _ ?_; clear hK K)); (try with_reducible refine ite_conj ?_)))
    simp only [go_sem, List.forall_mem_nil, ↓guard_ite, ↓pick_ite, seval, FinQ, AS.result, resAll, resOne, tupV]
    rw [List.take_of_length_le (by omega)] at h0
    rw [hm, h0]
end Go.Proofs.Ytohgkbgpcnmdpaa

namespace Go.Proofs.Ytohgkbgpcnmdpaa
open Go Go.RowKit
set_option linter.unusedVariables false
set_option linter.unusedSimpArgs false
set_option maxHeartbeats 1000000
theorem uends_inv {m : Nat} {s : List Bd} {p : Pr} {l : List Pr} {r : List Bd × Int} (h : UEnds m s (p :: l) r) : (∃ e, stepU s p = .err e ∧ r = ([], e)) ∨ ∃ s' ps n, stepU s p = .go s' ps ∧ n < m ∧ UEnds n s' (ps ++ l) r := by
  cases h with
  | err h => exact .inl ⟨_, h, rfl⟩
  | go h1 h2 => exact .inr ⟨_, _, _, h1, by omega, h2⟩
structure TmOk (U : List ByteArray) (s : List Bd) (t : Tm) : Prop where
  chk : t.chk = 0
  siz : t.size ≤ 2000
  free : NoDom s t
  inU : ∀ y, occ y t = true → y ∈ U
abbrev boxT (t : Tm) : ABlk := .box 24 [.st (.str t.name), .st (.list (t.args.map encT))]
def Turned (U : List ByteArray) (s : List Bd) (p : Pr) (u t : Tm) : Prop := TmOk U s u ∧ TmOk U s t ∧
  ((isVar u.name = true ∧ stepU s p = bindV s u.name t) ∨ (isVar u.name = false ∧ stepU s p = if u.name = t.name ∧ u.args.length = t.args.length then .go s (u.args.zip t.args) else .err 5))
theorem turned_a {U : List ByteArray} {s : List Bd} {p : Pr} (ha : TmOk U s (p.1.on s)) (hb : TmOk U s (p.2.on s)) (hne : ¬ (isVar (p.1.on s).name = true ∧ (p.1.on s).name = (p.2.on s).name)) (hv : isVar (p.1.on s).name = true ∨ isVar (p.2.on s).name = false) : Turned U s p (p.1.on s) (p.2.on s) := by
  have h0 : ¬ (2000 < (p.1.on s).size ∨ 2000 < (p.2.on s).size) := by have := ha.siz; have := hb.siz; omega
  refine ⟨ha, hb, ?_⟩
  cases h1 : isVar (p.1.on s).name with
  | true =>
    refine .inl ⟨rfl, ?_⟩
    unfold stepU
    rw [if_neg h0, if_neg hne, if_pos h1]
  | false =>
    have h2 : isVar (p.2.on s).name = false := hv.resolve_left (by rw [h1]; simp)
    refine .inr ⟨rfl, ?_⟩
    unfold stepU
    rw [if_neg h0, if_neg hne, if_neg (by rw [h1]; simp), if_neg (by rw [h2]; simp)]
theorem turned_b {U : List ByteArray} {s : List Bd} {p : Pr} (ha : TmOk U s (p.1.on s)) (hb : TmOk U s (p.2.on s)) (h1 : isVar (p.1.on s).name = false) (h2 : isVar (p.2.on s).name = true) : Turned U s p (p.2.on s) (p.1.on s) := by
  have h0 : ¬ (2000 < (p.1.on s).size ∨ 2000 < (p.2.on s).size) := by have := ha.siz; have := hb.siz; omega
  refine ⟨hb, ha, .inl ⟨h2, ?_⟩⟩
  unfold stepU
  rw [if_neg h0, if_neg (by rw [h1]; simp), if_neg (by rw [h1]; simp), if_pos h2]
end Go.Proofs.Ytohgkbgpcnmdpaa
