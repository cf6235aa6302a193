/-
  The program's functions in abstract operations: written by a program of mine out of the translation; each is shown to be the translation's.
  Conditions: none.
-/
import Derived.Test.YtbgnkcmaohkimaaDoorPTopNum
namespace Go.Proofs.YtbgnkcmaohkimaaDoor
open Go Go.RowKit
set_option maxRecDepth 100000

def ir_R_Pick : IR :=
  (.seq
  (.ops
  [.mk (some 4) none (.mov (.c (.one (.st (.int .i64 0)))))
  .no])
  (.seq
  (.seq
  (.ops
  [.mk (some 5) none (.mov (.t 0)) .no, .mk (some 6) none (.bin .lss (.t 5) (.c (.one (.st (.int .i64 0)))))
  .no])
  (.cond (.t 6)
  (.ops
  [.mk (some 7) none (.mov (.t 0)) .no, .mk (some 8) none (.bin .add (.t 7) (.c (.one (.st (.int .i64 1)))))
  .no, .mk (some 9) none (.un .neg (.t 8)) .no, .mk (some 0) none (.mov (.t 9)) .no])
  .skip))
  (.seq
  (.ops
  [.mk (some 10) none (.mov (.t 0)) .no, .mk (some 11) none (.mov (.t 1)) .no, .mk (some 12) none (.bin .rem (.t 10) (.t 11))
  .no, .mk (some 4) none (.mov (.t 12)) .no])
  .ret)))
theorem tr_R_Pick : trCode Tryd.prog 13 [] (Tryd.f4.body.getD .skip) = some ir_R_Pick := by kernel_rfl
theorem ac_R_Pick {xs : List AV} {r : AV} (hn : xs.length ≤ 13) (h : ∀ C : Ctx, C.n = 13 → IWP Tryd.prog C [] ir_R_Pick (FinQ [.t 4] r) (AS.start xs)) : ACalls Tryd.prog 4 xs r :=
  acalls_of Tryd.func4 rfl tr_R_Pick rfl hn h
theorem acS_R_Pick {xs : List AV} {S S' : AStore} {r : AV} (hn : xs.length ≤ 13) (h : Clean S → ∀ C : Ctx, C.n = 13 → IWP Tryd.prog C [] ir_R_Pick (FinS C [.t 4] r S') (AS.startS xs S)) : ACallsS Tryd.prog 4 xs S r S' :=
  acallsS_of Tryd.func4 rfl tr_R_Pick rfl hn h

def ir_metaprunetop_TopNumbers : IR :=
  (.seq
  (.ops
  [.mk (some 4) none (.mov (.c (.one (.st (.bool false)))))
  .no])
  (.seq
  (.ops
  [.mk (some 18) none (.mov (.t 0)) .no, .mk (some 19) none (.call 4
  [.t 18, .c (.one (.st (.int .i64 5)))])
  .no, .mk (some 0) none (.mov (.t 19)) .no])
  (.seq
  (.ops
  [.mk (some 20) none (.mov (.t 1)) .no, .mk (some 21) none (.call 4
  [.t 20, .c (.one (.st (.int .i64 4)))])
  .no, .mk (some 1) none (.mov (.t 21)) .no])
  (.seq
  (.ops
  [.mk (some 23) none (.mov (.t 0)) .no, .mk (some 24) none (.call 5 [.t 23]) .no, .mk (some 22) none (.mov (.t 24)) .no, .mk (some 25) none (.extract 0 (.t 22)) .no, .mk (some 26) none (.extract 1 (.t 22)) .no, .mk (some 5) none
  (.alloc 25
  [.st (.int .i64 0), .st (.int .i64 0),
  .full []])
  .no, .mk none none (.store 3 (.t 5) (.t 25))
  .no, .mk (some 6) none (.mov (.t 26)) .no])
  (.seq
  (.ops
  [.mk (some 28) none (.mov (.t 1)) .no, .mk (some 29) none (.call 5 [.t 28]) .no, .mk (some 27) none (.mov (.t 29)) .no, .mk (some 30) none (.extract 0 (.t 27)) .no, .mk (some 31) none (.extract 1 (.t 27)) .no, .mk (some 7) none
  (.alloc 25
  [.st (.int .i64 0), .st (.int .i64 0),
  .full []])
  .no, .mk none none (.store 3 (.t 7) (.t 30))
  .no, .mk (some 8) none (.mov (.t 31)) .no])
  (.seq
  (.seq
  (.ops
  [.mk (some 32) none (.mov (.t 6)) .no, .mk (some 33) none (.bin .neq (.t 32) (.c (.one (.st (.int .i64 0)))))
  .no, .mk (some 34) none (.mov (.t 33)) .no, .mk (some 35) (some (34, false)) (.mov (.t 8)) .no, .mk (some 36) (some (34, false)) (.bin .neq (.t 35) (.c (.one (.st (.int .i64 0)))))
  .no, .mk (some 37) none
  (.pick (.t 34) (.c (.one (.st (.bool true)))) (.t 36))
  .no])
  (.cond (.t 37)
  (.seq
  (.ops
  [.mk (some 4) none (.mov (.c (.one (.st (.bool false)))))
  .no])
  .ret)
  .skip))
  (.seq
  (.ops
  [.mk (some 38) none (.load true 3 (.t 5)) .no, .mk (some 39) none (.call 8
  [.t 38, .c (.one (.st (.int .i64 2))), .c (.one (.st (.int .i64 0)))])
  .no, .mk (some 40) none (.call 9
  [.c (.one (.st (.int .i64 1)))])
  .no, .mk (some 41) none (.call 7 [.t 39, .t 40])
  .no, .mk (some 42) none (.load true 3 (.t 7)) .no, .mk (some 43) none (.call 8
  [.t 42, .c (.one (.st (.int .i64 2))), .c (.one (.st (.int .i64 0)))])
  .no, .mk (some 44) none (.call 9
  [.c (.one (.st (.int .i64 1)))])
  .no, .mk (some 45) none (.call 7 [.t 43, .t 44])
  .no, .mk (some 46) none (.call 9
  [.c (.one (.st (.int .i64 0)))])
  .no, .mk (some 47) none (.call 7 [.t 45, .t 46])
  .no, .mk (some 48) none (.call 7 [.t 41, .t 47])
  .no, .mk (some 49) none (.call 6 [.t 48]) .no, .mk (some 50) none (.call 6 [.t 49]) .no, .mk (some 9) none
  (.alloc 25
  [.st (.int .i64 0), .st (.int .i64 0),
  .full []])
  .no, .mk none none (.store 3 (.t 9) (.t 50))
  .no])
  (.seq
  (.ops
  [.mk (some 51) none (.load true 3 (.t 5)) .no, .mk (some 52) none (.call 8
  [.t 51, .c (.one (.st (.int .i64 1))), .c (.one (.st (.int .i64 0)))])
  .no, .mk (some 53) none (.load true 3 (.t 7)) .no, .mk (some 54) none (.call 8
  [.t 53, .c (.one (.st (.int .i64 1))), .c (.one (.st (.int .i64 0)))])
  .no, .mk (some 55) none (.call 9
  [.c (.one (.st (.int .i64 0)))])
  .no, .mk (some 56) none (.call 7 [.t 54, .t 55])
  .no, .mk (some 57) none (.call 7 [.t 52, .t 56])
  .no, .mk (some 58) none (.call 6 [.t 57]) .no, .mk (some 10) none
  (.alloc 25
  [.st (.int .i64 0), .st (.int .i64 0),
  .full []])
  .no, .mk none none (.store 3 (.t 10) (.t 58))
  .no])
  (.seq
  (.ops
  [.mk (some 59) none (.load true 3 (.t 7)) .no, .mk (some 60) none (.load true 3 (.t 5)) .no, .mk (some 61) none (.call 7 [.t 59, .t 60])
  .no, .mk (some 11) none
  (.alloc 25
  [.st (.int .i64 0), .st (.int .i64 0),
  .full []])
  .no, .mk none none (.store 3 (.t 11) (.t 61))
  .no])
  (.seq
  (.ops
  [.mk (some 63) none (.load true 3 (.t 9)) .no, .mk (some 64) none (.call 10
  [.t 63, .c (.one (.st (.int .i64 400)))])
  .no, .mk (some 62) none (.mov (.t 64)) .no, .mk (some 65) none (.extract 0 (.t 62)) .no, .mk (some 66) none (.extract 1 (.t 62)) .no, .mk (some 12) none (.mov (.t 65)) .no, .mk (some 6) none (.mov (.t 66)) .no])
  (.seq
  (.ops
  [.mk (some 68) none (.load true 3 (.t 10)) .no, .mk (some 69) none (.call 10
  [.t 68, .c (.one (.st (.int .i64 400)))])
  .no, .mk (some 67) none (.mov (.t 69)) .no, .mk (some 70) none (.extract 0 (.t 67)) .no, .mk (some 71) none (.extract 1 (.t 67)) .no, .mk (some 13) none (.mov (.t 70)) .no, .mk (some 8) none (.mov (.t 71)) .no])
  (.seq
  (.ops
  [.mk (some 73) none (.load true 3 (.t 11)) .no, .mk (some 74) none (.call 10
  [.t 73, .c (.one (.st (.int .i64 400)))])
  .no, .mk (some 72) none (.mov (.t 74)) .no, .mk (some 75) none (.extract 0 (.t 72)) .no, .mk (some 76) none (.extract 1 (.t 72)) .no, .mk (some 14) none (.mov (.t 75)) .no, .mk (some 15) none (.mov (.t 76)) .no])
  (.seq
  (.ops
  [.mk (some 16) none (.mov (.c (.one (.st (.int .i64 1)))))
  .no])
  (.seq
  (.seq
  (.ops
  [.mk (some 17) none (.mov (.c (.one (.st (.int .i64 0)))))
  .no])
  (.block 0
  (.loop
  (.seq
  (.seq
  (.ops
  [.mk (some 77) none (.mov (.t 17)) .no, .mk (some 78) none (.mov (.t 1)) .no, .mk (some 79) none (.bin .lss (.t 77) (.t 78)) .no])
  (.cond (.t 79) .skip (.exit 0)))
  (.seq
  (.block 1
  (.ops
  [.mk (some 82) none (.mov (.t 16))
  .no, .mk (some 83) none (.mov (.t 0))
  .no, .mk (some 84) none (.bin .mul (.t 82) (.t 83)) .no, .mk (some 16) none (.mov (.t 84))
  .no]))
  (.ops
  [.mk (some 80) none (.mov (.t 17)) .no, .mk (some 81) none (.bin .add (.t 80) (.c (.one (.st (.int .i64 1)))))
  .no, .mk (some 17) none (.mov (.t 81))
  .no]))))))
  (.seq
  (.ops
  [.mk (some 85) none (.mov (.t 6)) .no, .mk (some 86) none (.bin .eql (.t 85) (.c (.one (.st (.int .i64 0)))))
  .no, .mk (some 87) none (.mov (.t 86)) .no, .mk (some 88) (some (87, true)) (.mov (.t 8))
  .no, .mk (some 89) (some (87, true)) (.bin .eql (.t 88) (.c (.one (.st (.int .i64 0)))))
  .no, .mk (some 90) none
  (.pick (.t 87) (.t 89) (.c (.one (.st (.bool false)))))
  .no, .mk (some 91) none (.mov (.t 90)) .no, .mk (some 92) (some (91, true)) (.mov (.t 12))
  .no, .mk (some 93) (some (91, true)) (.mov (.t 0))
  .no, .mk (some 94) (some (91, true)) (.mov (.t 1))
  .no, .mk (some 95) (some (91, true)) (.bin .add (.t 93) (.t 94)) .no, .mk (some 96) (some (91, true)) (.bin .eql (.t 92) (.t 95)) .no, .mk (some 97) none
  (.pick (.t 91) (.t 96) (.c (.one (.st (.bool false)))))
  .no, .mk (some 98) none (.mov (.t 97)) .no, .mk (some 99) (some (98, true)) (.mov (.t 13))
  .no, .mk (some 100) (some (98, true)) (.mov (.t 0))
  .no, .mk (some 101) (some (98, true)) (.mov (.t 1))
  .no, .mk (some 102) (some (98, true)) (.bin .mul (.t 100) (.t 101)) .no, .mk (some 103) (some (98, true)) (.bin .eql (.t 99) (.t 102)) .no, .mk (some 104) none
  (.pick (.t 98) (.t 103) (.c (.one (.st (.bool false)))))
  .no, .mk (some 105) none (.mov (.t 104)) .no, .mk (some 106) (some (105, true)) (.mov (.t 15))
  .no, .mk (some 107) (some (105, true)) (.bin .eql (.t 106) (.c (.one (.st (.int .i64 9)))))
  .no, .mk (some 108) (some (105, true)) (.mov (.t 107))
  .no, .mk (some 109) (some (108, false)) (.mov (.t 15))
  .no, .mk (some 110) (some (108, false)) (.bin .eql (.t 109) (.c (.one (.st (.int .i64 0)))))
  .no, .mk (some 111) (some (108, false)) (.mov (.t 110))
  .no, .mk (some 112) (some (111, true)) (.mov (.t 14))
  .no, .mk (some 113) (some (111, true)) (.mov (.t 16))
  .no, .mk (some 114) (some (111, true)) (.bin .eql (.t 112) (.t 113)) .no, .mk (some 115) (some (108, false))
  (.pick (.t 111) (.t 114) (.c (.one (.st (.bool false)))))
  .no, .mk (some 116) (some (105, true))
  (.pick (.t 108) (.c (.one (.st (.bool true)))) (.t 115))
  .no, .mk (some 117) none
  (.pick (.t 105) (.t 116) (.c (.one (.st (.bool false)))))
  .no, .mk (some 4) none (.mov (.t 117)) .no])
  .ret)))))))))))))))
theorem tr_metaprunetop_TopNumbers : trCode Tryd.prog 118 [] (Tryd.f3.body.getD .skip) = some ir_metaprunetop_TopNumbers := by kernel_rfl
theorem ac_metaprunetop_TopNumbers {xs : List AV} {r : AV} (hn : xs.length ≤ 118) (h : ∀ C : Ctx, C.n = 118 → IWP Tryd.prog C [] ir_metaprunetop_TopNumbers (FinQ [.t 4] r) (AS.start xs)) : ACalls Tryd.prog 3 xs r :=
  acalls_of Tryd.func3 rfl tr_metaprunetop_TopNumbers rfl hn h
theorem acS_metaprunetop_TopNumbers {xs : List AV} {S S' : AStore} {r : AV} (hn : xs.length ≤ 118) (h : Clean S → ∀ C : Ctx, C.n = 118 → IWP Tryd.prog C [] ir_metaprunetop_TopNumbers (FinS C [.t 4] r S') (AS.startS xs S)) : ACallsS Tryd.prog 3 xs S r S' :=
  acallsS_of Tryd.func3 rfl tr_metaprunetop_TopNumbers rfl hn h

end Go.Proofs.YtbgnkcmaohkimaaDoor
