/-
  The program's functions in abstract operations: written by a program of mine out of the translation; each is shown to be the translation's.
  Conditions: none.
-/
import Derived.Test.YtkjocebkajckpaaBRawT
namespace Go.Proofs.Ytkjocebkajckpaa
open Go Go.RowKit
set_option maxRecDepth 100000

def ir_R_BindsFrom : IR :=
  (.seq
  (.ops
  [.mk (some 8) none (.mov (.c (.one (.full []))))
  .no])
  (.seq
  (.ops
  [.mk (some 9) none (.mov (.c (.one (.full []))))
  .no])
  (.seq
  (.ops
  [.mk (some 12) none
  (.buildFlat
  [.c (.one (.st (.str (ByteArray.mk (#[85]))))), .c (.one (.st (.str (ByteArray.mk (#[88]))))), .c (.one (.st (.str (ByteArray.mk (#[89]))))), .c (.one (.st (.str (ByteArray.mk (#[90])))))])
  .no, .mk (some 10) none (.mov (.t 12)) .no])
  (.seq
  (.seq
  (.ops
  [.mk (some 11) none (.mov (.c (.one (.st (.int .i64 0)))))
  .no])
  (.block 0
  (.loop
  (.seq
  (.seq
  (.ops
  [.mk (some 13) none (.mov (.t 11)) .no, .mk (some 14) none (.bin .lss (.t 13) (.c (.one (.st (.int .i64 4)))))
  .no])
  (.cond (.t 14) .skip (.exit 0)))
  (.seq
  (.block 1
  (.seq
  (.ops
  [.mk (some 17) none (.mov (.t 0)) .no, .mk (some 18) none (.mov (.t 1)) .no, .mk (some 19) none (.mov (.t 11)) .no, .mk (some 20) none (.bin .add (.t 18) (.t 19))
  .no, .mk (some 21) none (.call 13 [.t 17, .t 20])
  .no, .mk (some 22) none (.call 4
  [.t 21, .c (.one (.st (.int .i64 4)))])
  .no, .mk (some 23) none (.bin .gtr (.t 22) (.c (.one (.st (.int .i64 0)))))
  .no])
  (.cond (.t 23)
  (.ops
  [.mk (some 24) none (.mov (.t 9)) .no, .mk (some 25) none (.mov (.t 10)) .no, .mk (some 26) none (.mov (.t 11)) .no, .mk (some 27) none (.indexAddr 1 (.t 25) (.t 26))
  .no, .mk (some 28) none (.load false 1 (.t 27)) .no, .mk (some 29) none (.mov (.t 0)) .no, .mk (some 30) none (.mov (.t 1)) .no, .mk (some 31) none (.bin .add (.t 30) (.c (.one (.st (.int .i64 4)))))
  .no, .mk (some 32) none (.mov (.t 11)) .no, .mk (some 33) none (.bin .mul (.c (.one (.st (.int .i64 7)))) (.t 32))
  .no, .mk (some 34) none (.bin .add (.t 31) (.t 33))
  .no, .mk (some 35) none (.mov (.t 2)) .no, .mk (some 36) none (.mov (.t 3)) .no, .mk (some 37) none (.call 6 [.t 29, .t 34, .t 35, .t 36])
  .no, .mk (some 38) none
  (.build
  [.st (.str (ByteArray.mk (#[]))), .st (.str (ByteArray.mk (#[]))), .full []]
  [(0, 1, .t 28), (1, 2, .t 37)])
  .no, .mk (some 39) none (.buildSlice false 43 3 [.t 38]) .no, .mk (some 40) none (.append false 43 3 56 (.t 24) (.t 39))
  .no, .mk (some 9) none (.mov (.t 40)) .no])
  .skip)))
  (.ops
  [.mk (some 15) none (.mov (.t 11)) .no, .mk (some 16) none (.bin .add (.t 15) (.c (.one (.st (.int .i64 1)))))
  .no, .mk (some 11) none (.mov (.t 16)) .no]))))))
  (.seq
  (.ops
  [.mk (some 41) none (.mov (.t 9)) .no, .mk (some 8) none (.mov (.t 41)) .no])
  .ret)))))
theorem tr_R_BindsFrom : trCode Try.prog 42 [] (Try.f5.body.getD .skip) = some ir_R_BindsFrom := by kernel_rfl
theorem ac_R_BindsFrom {xs : List AV} {r : AV} (hn : xs.length ≤ 42) (h : ∀ C : Ctx, C.n = 42 → IWP Try.prog C [] ir_R_BindsFrom (FinQ [.t 8] r) (AS.start xs)) : ACalls Try.prog 5 xs r :=
  acalls_of Try.func5 rfl tr_R_BindsFrom rfl hn h
theorem acS_R_BindsFrom {xs : List AV} {S S' : AStore} {r : AV} (hn : xs.length ≤ 42) (h : Clean S → ∀ C : Ctx, C.n = 42 → IWP Try.prog C [] ir_R_BindsFrom (FinS C [.t 8] r S') (AS.startS xs S)) : ACallsS Try.prog 5 xs S r S' :=
  acallsS_of Try.func5 rfl tr_R_BindsFrom rfl hn h

def ir_metaprunetop_puts : IR :=
  (.seq
  (.ops
  [.mk (some 0) none (.mov (.c (.one (.st (.bool false)))))
  .no])
  (.seq
  (.ops
  [.mk (some 4) none (.call 23 [.c (.one (.st (.str (ByteArray.mk (#[97])))))])
  .no, .mk (some 5) none
  (.build
  [.st (.str (ByteArray.mk (#[]))), .st (.str (ByteArray.mk (#[]))),
  .full []]
  [(0, 1, .c (.one (.st (.str (ByteArray.mk (#[88])))))),
  (1, 2, .t 4)])
  .no, .mk (some 6) none (.buildSlice false 43 3 [.t 5]) .no, .mk (some 7) none (.call 23 [.c (.one (.st (.str (ByteArray.mk (#[88])))))])
  .no, .mk (some 8) none (.call 8 [.t 6, .t 7]) .no, .mk (some 3) none (.mov (.t 8)) .no, .mk (some 9) none (.extract 0 (.t 3)) .no, .mk (some 10) none (.extract 1 (.t 3)) .no, .mk (some 1) none
  (.alloc 28 [.st (.str (ByteArray.mk (#[]))), .full []]) .no, .mk none none (.store 2 (.t 1) (.t 9)) .no, .mk (some 2) none (.mov (.t 10)) .no])
  (.seq
  (.ops
  [.mk (some 11) none (.mov (.t 2)) .no, .mk (some 12) none (.bin .eql (.t 11) (.c (.one (.st (.int .i64 0)))))
  .no, .mk (some 13) none (.mov (.t 12)) .no, .mk (some 14) (some (13, true)) (.fieldAddr 0 (.t 1)) .no, .mk (some 15) (some (13, true)) (.load false 1 (.t 14)) .no, .mk (some 16) (some (13, true)) (.bin .eql (.t 15) (.c (.one (.st (.str (ByteArray.mk (#[97])))))))
  .no, .mk (some 17) none
  (.pick (.t 13) (.t 16) (.c (.one (.st (.bool false)))))
  .no, .mk (some 0) none (.mov (.t 17)) .no])
  .ret)))
theorem tr_metaprunetop_puts : trCode Try.prog 18 [] (Try.f12.body.getD .skip) = some ir_metaprunetop_puts := by kernel_rfl
theorem ac_metaprunetop_puts {xs : List AV} {r : AV} (hn : xs.length ≤ 18) (h : ∀ C : Ctx, C.n = 18 → IWP Try.prog C [] ir_metaprunetop_puts (FinQ [.t 0] r) (AS.start xs)) : ACalls Try.prog 12 xs r :=
  acalls_of Try.func12 rfl tr_metaprunetop_puts rfl hn h
theorem acS_metaprunetop_puts {xs : List AV} {S S' : AStore} {r : AV} (hn : xs.length ≤ 18) (h : Clean S → ∀ C : Ctx, C.n = 18 → IWP Try.prog C [] ir_metaprunetop_puts (FinS C [.t 0] r S') (AS.startS xs S)) : ACallsS Try.prog 12 xs S r S' :=
  acallsS_of Try.func12 rfl tr_metaprunetop_puts rfl hn h

def ir_metaprunetop_TopCompose : IR :=
  (.seq
  (.ops
  [.mk (some 4) none (.mov (.c (.one (.st (.bool false)))))
  .no])
  (.seq
  (.seq
  (.ops
  [.mk (some 20) none (.mov (.t 0)) .no, .mk (some 21) none (.len false (.t 20)) .no, .mk (some 22) none (.bin .gtr (.t 21) (.c (.one (.st (.int .i64 256)))))
  .no])
  (.cond (.t 22)
  (.seq
  (.ops
  [.mk (some 4) none (.mov (.c (.one (.st (.bool true)))))
  .no])
  .ret)
  .skip))
  (.seq
  (.ops
  [.mk (some 23) none (.mov (.t 1)) .no, .mk (some 24) none (.call 4
  [.t 23, .c (.one (.st (.int .i64 7)))])
  .no, .mk (some 5) none (.mov (.t 24)) .no])
  (.seq
  (.ops
  [.mk (some 25) none (.mov (.t 0)) .no, .mk (some 26) none (.mov (.t 5)) .no, .mk (some 27) none (.call 5
  [.t 25, .c (.one (.st (.int .i64 0))), .t 26, .c (.one (.st (.int .i64 4)))])
  .no, .mk (some 6) none (.mov (.t 27)) .no])
  (.seq
  (.ops
  [.mk (some 28) none (.mov (.t 0)) .no, .mk (some 29) none (.mov (.t 5)) .no, .mk (some 30) none (.call 5
  [.t 28, .c (.one (.st (.int .i64 40))), .t 29, .c (.one (.st (.int .i64 4)))])
  .no, .mk (some 7) none (.mov (.t 30)) .no])
  (.seq
  (.ops
  [.mk (some 31) none (.mov (.t 0)) .no, .mk (some 32) none (.mov (.t 5)) .no, .mk (some 33) none (.call 5
  [.t 31, .c (.one (.st (.int .i64 80))), .t 32, .c (.one (.st (.int .i64 4)))])
  .no, .mk (some 8) none (.mov (.t 33)) .no])
  (.seq
  (.ops
  [.mk (some 34) none (.mov (.t 0)) .no, .mk (some 35) none (.call 6
  [.t 34, .c (.one (.st (.int .i64 120))), .c (.one (.st (.int .i64 7))), .c (.one (.st (.int .i64 4)))])
  .no, .mk (some 9) none
  (.alloc 28 [.st (.str (ByteArray.mk (#[]))), .full []])
  .no, .mk none none (.store 2 (.t 9) (.t 35)) .no])
  (.seq
  (.ops
  [.mk (some 37) none (.mov (.t 6)) .no, .mk (some 38) none (.mov (.t 7)) .no, .mk (some 39) none (.call 7 [.t 37, .t 38])
  .no, .mk (some 36) none (.mov (.t 39)) .no, .mk (some 40) none (.extract 0 (.t 36)) .no, .mk (some 41) none (.extract 1 (.t 36)) .no, .mk (some 10) none (.mov (.t 40)) .no, .mk (some 11) none (.mov (.t 41)) .no])
  (.seq
  (.ops
  [.mk (some 43) none (.mov (.t 7)) .no, .mk (some 44) none (.mov (.t 8)) .no, .mk (some 45) none (.call 7 [.t 43, .t 44])
  .no, .mk (some 42) none (.mov (.t 45)) .no, .mk (some 46) none (.extract 0 (.t 42)) .no, .mk (some 47) none (.extract 1 (.t 42)) .no, .mk (some 12) none (.mov (.t 46)) .no, .mk (some 13) none (.mov (.t 47)) .no])
  (.seq
  (.seq
  (.ops
  [.mk (some 48) none (.mov (.t 11)) .no, .mk (some 49) none (.bin .neq (.t 48) (.c (.one (.st (.int .i64 0)))))
  .no, .mk (some 50) none (.mov (.t 49)) .no, .mk (some 51) (some (50, false)) (.mov (.t 13)) .no, .mk (some 52) (some (50, false)) (.bin .neq (.t 51) (.c (.one (.st (.int .i64 0)))))
  .no, .mk (some 53) none
  (.pick (.t 50) (.c (.one (.st (.bool true)))) (.t 52))
  .no])
  (.cond (.t 53)
  (.seq
  (.ops
  [.mk (some 4) none (.mov (.c (.one (.st (.bool false)))))
  .no])
  .ret)
  .skip))
  (.seq
  (.ops
  [.mk (some 55) none (.mov (.t 6)) .no, .mk (some 56) none (.load true 2 (.t 9)) .no, .mk (some 57) none (.call 8 [.t 55, .t 56])
  .no, .mk (some 54) none (.mov (.t 57)) .no, .mk (some 58) none (.extract 0 (.t 54)) .no, .mk (some 59) none (.extract 1 (.t 54)) .no, .mk (some 14) none
  (.alloc 28 [.st (.str (ByteArray.mk (#[]))), .full []])
  .no, .mk none none (.store 2 (.t 14) (.t 58))
  .no, .mk (some 11) none (.mov (.t 59)) .no])
  (.seq
  (.ops
  [.mk (some 61) none (.mov (.t 10)) .no, .mk (some 62) none (.load true 2 (.t 9)) .no, .mk (some 63) none (.call 8 [.t 61, .t 62])
  .no, .mk (some 60) none (.mov (.t 63)) .no, .mk (some 64) none (.extract 0 (.t 60)) .no, .mk (some 65) none (.extract 1 (.t 60)) .no, .mk (some 15) none
  (.alloc 28 [.st (.str (ByteArray.mk (#[]))), .full []])
  .no, .mk none none (.store 2 (.t 15) (.t 64))
  .no, .mk (some 13) none (.mov (.t 65)) .no])
  (.seq
  (.seq
  (.ops
  [.mk (some 66) none (.mov (.t 11)) .no, .mk (some 67) none (.bin .neq (.t 66) (.c (.one (.st (.int .i64 0)))))
  .no, .mk (some 68) none (.mov (.t 67)) .no, .mk (some 69) (some (68, false)) (.mov (.t 13)) .no, .mk (some 70) (some (68, false)) (.bin .neq (.t 69) (.c (.one (.st (.int .i64 0)))))
  .no, .mk (some 71) none
  (.pick (.t 68) (.c (.one (.st (.bool true)))) (.t 70))
  .no])
  (.cond (.t 71)
  (.seq
  (.ops
  [.mk (some 4) none (.mov (.c (.one (.st (.bool false)))))
  .no])
  .ret)
  .skip))
  (.seq
  (.ops
  [.mk (some 73) none (.mov (.t 7)) .no, .mk (some 74) none (.load true 2 (.t 14)) .no, .mk (some 75) none (.call 8 [.t 73, .t 74])
  .no, .mk (some 72) none (.mov (.t 75)) .no, .mk (some 76) none (.extract 0 (.t 72)) .no, .mk (some 77) none (.extract 1 (.t 72)) .no, .mk (some 16) none
  (.alloc 28 [.st (.str (ByteArray.mk (#[]))), .full []])
  .no, .mk none none (.store 2 (.t 16) (.t 76))
  .no, .mk (some 17) none (.mov (.t 77)) .no])
  (.seq
  (.seq
  (.ops
  [.mk (some 78) none (.mov (.t 17)) .no, .mk (some 79) none (.bin .neq (.t 78) (.c (.one (.st (.int .i64 0)))))
  .no, .mk (some 80) none (.mov (.t 79)) .no, .mk (some 81) (some (80, false)) (.load true 2 (.t 15))
  .no, .mk (some 82) (some (80, false)) (.load true 2 (.t 16))
  .no, .mk (some 83) (some (80, false)) (.call 9 [.t 81, .t 82]) .no, .mk (some 84) (some (80, false)) (.un .not (.t 83))
  .no, .mk (some 85) none
  (.pick (.t 80) (.c (.one (.st (.bool true)))) (.t 84))
  .no])
  (.cond (.t 85)
  (.seq
  (.ops
  [.mk (some 86) none (.load true 2 (.t 14)) .no, .mk (some 87) none (.call 10
  [.t 86, .c (.one (.st (.int .i64 200)))])
  .no, .mk (some 88) none (.bin .gtr (.t 87) (.c (.one (.st (.int .i64 200)))))
  .no, .mk (some 4) none (.mov (.t 88)) .no])
  .ret)
  .skip))
  (.seq
  (.ops
  [.mk (some 90) none (.mov (.t 10)) .no, .mk (some 91) none (.mov (.t 8)) .no, .mk (some 92) none (.call 7 [.t 90, .t 91])
  .no, .mk (some 89) none (.mov (.t 92)) .no, .mk (some 93) none (.extract 0 (.t 89)) .no, .mk (some 94) none (.extract 1 (.t 89)) .no, .mk (some 18) none (.mov (.t 93)) .no, .mk (some 11) none (.mov (.t 94)) .no])
  (.seq
  (.ops
  [.mk (some 96) none (.mov (.t 6)) .no, .mk (some 97) none (.mov (.t 12)) .no, .mk (some 98) none (.call 7 [.t 96, .t 97])
  .no, .mk (some 95) none (.mov (.t 98)) .no, .mk (some 99) none (.extract 0 (.t 95)) .no, .mk (some 100) none (.extract 1 (.t 95)) .no, .mk (some 19) none (.mov (.t 99)) .no, .mk (some 13) none (.mov (.t 100)) .no])
  (.seq
  (.seq
  (.ops
  [.mk (some 101) none (.mov (.t 11)) .no, .mk (some 102) none (.bin .neq (.t 101) (.c (.one (.st (.int .i64 0)))))
  .no, .mk (some 103) none (.mov (.t 102)) .no, .mk (some 104) (some (103, false)) (.mov (.t 13))
  .no, .mk (some 105) (some (103, false)) (.bin .neq (.t 104) (.c (.one (.st (.int .i64 0)))))
  .no, .mk (some 106) none
  (.pick (.t 103) (.c (.one (.st (.bool true)))) (.t 105))
  .no])
  (.cond (.t 106)
  (.seq
  (.ops
  [.mk (some 107) none (.mov (.t 11)) .no, .mk (some 108) none (.bin .eql (.t 107) (.c (.one (.st (.int .i64 3)))))
  .no, .mk (some 109) none (.mov (.t 108)) .no, .mk (some 110) (some (109, false)) (.mov (.t 13))
  .no, .mk (some 111) (some (109, false)) (.bin .eql (.t 110) (.c (.one (.st (.int .i64 3)))))
  .no, .mk (some 112) none
  (.pick (.t 109) (.c (.one (.st (.bool true)))) (.t 111))
  .no, .mk (some 113) none (.mov (.t 112)) .no, .mk (some 114) (some (113, false)) (.mov (.t 11))
  .no, .mk (some 115) (some (113, false)) (.bin .eql (.t 114) (.c (.one (.st (.int .i64 8)))))
  .no, .mk (some 116) none
  (.pick (.t 113) (.c (.one (.st (.bool true)))) (.t 115))
  .no, .mk (some 117) none (.mov (.t 116)) .no, .mk (some 118) (some (117, false)) (.mov (.t 13))
  .no, .mk (some 119) (some (117, false)) (.bin .eql (.t 118) (.c (.one (.st (.int .i64 8)))))
  .no, .mk (some 120) none
  (.pick (.t 117) (.c (.one (.st (.bool true)))) (.t 119))
  .no, .mk (some 4) none (.mov (.t 120)) .no])
  .ret)
  .skip))
  (.seq
  (.ops
  [.mk (some 121) none (.mov (.t 18)) .no, .mk (some 122) none (.mov (.t 19)) .no, .mk (some 123) none (.call 11 [.t 121, .t 122])
  .no, .mk (some 124) none (.mov (.t 123)) .no, .mk (some 125) (some (124, true)) (.call 12 []) .no, .mk (some 126) none
  (.pick (.t 124) (.t 125) (.c (.one (.st (.bool false)))))
  .no, .mk (some 4) none (.mov (.t 126)) .no])
  .ret)))))))))))))))))))
theorem tr_metaprunetop_TopCompose : trCode Try.prog 127 [] (Try.f3.body.getD .skip) = some ir_metaprunetop_TopCompose := by kernel_rfl
theorem ac_metaprunetop_TopCompose {xs : List AV} {r : AV} (hn : xs.length ≤ 127) (h : ∀ C : Ctx, C.n = 127 → IWP Try.prog C [] ir_metaprunetop_TopCompose (FinQ [.t 4] r) (AS.start xs)) : ACalls Try.prog 3 xs r :=
  acalls_of Try.func3 rfl tr_metaprunetop_TopCompose rfl hn h
theorem acS_metaprunetop_TopCompose {xs : List AV} {S S' : AStore} {r : AV} (hn : xs.length ≤ 127) (h : Clean S → ∀ C : Ctx, C.n = 127 → IWP Try.prog C [] ir_metaprunetop_TopCompose (FinS C [.t 4] r S') (AS.startS xs S)) : ACallsS Try.prog 3 xs S r S' :=
  acallsS_of Try.func3 rfl tr_metaprunetop_TopCompose rfl hn h

end Go.Proofs.Ytkjocebkajckpaa
