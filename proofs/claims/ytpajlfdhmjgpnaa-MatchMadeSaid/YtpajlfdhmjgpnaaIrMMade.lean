/-
  The program's functions in abstract operations: written by a program of mine out of the translation; each is shown to be the translation's.
  Conditions: none.
-/
import Derived.Test.YtpajlfdhmjgpnaaBMadeB
namespace Go.Proofs.Ytpajlfdhmjgpnaa
open Go Go.RowKit
set_option maxRecDepth 100000

def ir_L_MatchMade : IR :=
  (.seq
  (.ops
  [.mk (some 6) none (.mov (.c (.one (.st (.bool false)))))
  .no])
  (.seq
  (.seq
  (.ops
  [.mk (some 10) none (.mov (.t 0)) .no, .mk (some 11) none (.len false (.t 10)) .no, .mk (some 12) none (.bin .gtr (.t 11) (.c (.one (.st (.int .i64 256)))))
  .no])
  (.cond (.t 12)
  (.seq
  (.ops
  [.mk (some 6) none (.mov (.c (.one (.st (.bool true)))))
  .no])
  .ret)
  .skip))
  (.seq
  (.ops
  [.mk (some 13) none (.mov (.t 0)) .no, .mk (some 14) none (.mov (.t 1)) .no, .mk (some 15) none (.call 20
  [.t 14, .c (.one (.st (.int .i64 14)))])
  .no, .mk (some 16) none (.call 19
  [.t 13, .c (.one (.st (.int .i64 0))), .t 15, .c (.one (.st (.int .i64 3)))])
  .no, .mk (some 7) none
  (.alloc 24 [.st (.str (ByteArray.mk (#[]))), .full []]) .no, .mk none none (.store 2 (.t 7) (.t 16)) .no])
  (.seq
  (.ops
  [.mk (some 18) none (.mov (.t 0)) .no, .mk (some 19) none (.mov (.t 2)) .no, .mk (some 20) none (.call 20
  [.t 19, .c (.one (.st (.int .i64 6)))])
  .no, .mk (some 21) none (.call 22
  [.t 18, .c (.one (.st (.int .i64 30))), .t 20, .c (.one (.st (.int .i64 3)))])
  .no, .mk (some 22) none (.load true 2 (.t 7)) .no, .mk (some 23) none (.call 21 [.t 21, .t 22]) .no, .mk (some 17) none (.mov (.t 23)) .no, .mk (some 24) none (.extract 0 (.t 17)) .no, .mk (some 25) none (.extract 1 (.t 17)) .no, .mk (some 8) none
  (.alloc 24 [.st (.str (ByteArray.mk (#[]))), .full []]) .no, .mk none none (.store 2 (.t 8) (.t 24)) .no, .mk (some 9) none (.mov (.t 25)) .no])
  (.seq
  (.ops
  [.mk (some 26) none (.mov (.t 9)) .no, .mk (some 27) none (.un .not (.t 26)) .no, .mk (some 28) none (.mov (.t 27)) .no, .mk (some 29) (some (28, false)) (.load true 2 (.t 7)) .no, .mk (some 30) (some (28, false)) (.load true 2 (.t 8)) .no, .mk (some 31) (some (28, false)) (.call 3 [.t 29, .t 30])
  .no, .mk (some 32) (some (28, false)) (.mov (.t 31)) .no, .mk (some 33) (some (32, true)) (.load true 2 (.t 8)) .no, .mk (some 34) (some (32, true)) (.load true 2 (.t 7)) .no, .mk (some 35) (some (32, true)) (.call 3 [.t 33, .t 34])
  .no, .mk (some 36) (some (28, false))
  (.pick (.t 32) (.t 35) (.c (.one (.st (.bool false)))))
  .no, .mk (some 37) (some (28, false)) (.mov (.t 36)) .no, .mk (some 38) (some (37, true)) (.load true 2 (.t 7)) .no, .mk (some 39) (some (37, true)) (.mov (.t 0)) .no, .mk (some 40) (some (37, true)) (.call 19
  [.t 39, .c (.one (.st (.int .i64 70))), .c (.one (.st (.int .i64 7))), .c (.one (.st (.int .i64 2)))])
  .no, .mk (some 41) (some (37, true)) (.call 3 [.t 38, .t 40])
  .no, .mk (some 42) (some (28, false))
  (.pick (.t 37) (.t 41) (.c (.one (.st (.bool false)))))
  .no, .mk (some 43) none
  (.pick (.t 28) (.c (.one (.st (.bool true)))) (.t 42))
  .no, .mk (some 6) none (.mov (.t 43)) .no])
  .ret)))))
theorem tr_L_MatchMade : trCode Try.prog 44 [] (Try.f4.body.getD .skip) = some ir_L_MatchMade := by kernel_rfl
theorem ac_L_MatchMade {xs : List AV} {r : AV} (hn : xs.length ≤ 44) (h : ∀ C : Ctx, C.n = 44 → IWP Try.prog C [] ir_L_MatchMade (FinQ [.t 6] r) (AS.start xs)) : ACalls Try.prog 4 xs r :=
  acalls_of Try.func4 rfl tr_L_MatchMade rfl hn h
theorem acS_L_MatchMade {xs : List AV} {S S' : AStore} {r : AV} (hn : xs.length ≤ 44) (h : Clean S → ∀ C : Ctx, C.n = 44 → IWP Try.prog C [] ir_L_MatchMade (FinS C [.t 6] r S') (AS.startS xs S)) : ACallsS Try.prog 4 xs S r S' :=
  acallsS_of Try.func4 rfl tr_L_MatchMade rfl hn h

def ir_metaprunetop_TopMatch : IR :=
  (.seq
  (.ops
  [.mk (some 4) none (.mov (.c (.one (.st (.bool false)))))
  .no])
  (.seq
  (.seq
  (.ops
  [.mk (some 15) none (.mov (.t 0)) .no, .mk (some 16) none (.len false (.t 15)) .no, .mk (some 17) none (.bin .gtr (.t 16) (.c (.one (.st (.int .i64 256)))))
  .no])
  (.cond (.t 17)
  (.seq
  (.ops
  [.mk (some 4) none (.mov (.c (.one (.st (.bool true)))))
  .no])
  .ret)
  .skip))
  (.seq
  (.ops
  [.mk (some 18) none (.mov (.t 0)) .no, .mk (some 19) none (.mov (.t 1)) .no, .mk (some 20) none (.call 20
  [.t 19, .c (.one (.st (.int .i64 14)))])
  .no, .mk (some 21) none (.call 19
  [.t 18, .c (.one (.st (.int .i64 0))), .t 20, .c (.one (.st (.int .i64 3)))])
  .no, .mk (some 5) none
  (.alloc 24 [.st (.str (ByteArray.mk (#[]))), .full []]) .no, .mk none none (.store 2 (.t 5) (.t 21)) .no])
  (.seq
  (.ops
  [.mk (some 23) none (.mov (.t 0)) .no, .mk (some 24) none (.call 22
  [.t 23, .c (.one (.st (.int .i64 40))), .c (.one (.st (.int .i64 6))), .c (.one (.st (.int .i64 4)))])
  .no, .mk (some 25) none (.load true 2 (.t 5)) .no, .mk (some 26) none (.call 21 [.t 24, .t 25]) .no, .mk (some 22) none (.mov (.t 26)) .no, .mk (some 27) none (.extract 0 (.t 22)) .no, .mk (some 28) none (.extract 1 (.t 22)) .no, .mk (some 6) none
  (.alloc 24 [.st (.str (ByteArray.mk (#[]))), .full []]) .no, .mk none none (.store 2 (.t 6) (.t 27)) .no, .mk (some 7) none (.mov (.t 28)) .no])
  (.seq
  (.seq
  (.ops
  [.mk (some 29) none (.mov (.t 7)) .no, .mk (some 30) none (.un .not (.t 29)) .no, .mk (some 31) none (.mov (.t 30)) .no, .mk (some 32) (some (31, false)) (.load true 2 (.t 6)) .no, .mk (some 33) (some (31, false)) (.call 23
  [.t 32, .c (.one (.st (.int .i64 200)))])
  .no, .mk (some 34) (some (31, false)) (.bin .gtr (.t 33) (.c (.one (.st (.int .i64 200)))))
  .no, .mk (some 35) none
  (.pick (.t 31) (.c (.one (.st (.bool true)))) (.t 34))
  .no])
  (.cond (.t 35)
  (.seq
  (.ops
  [.mk (some 4) none (.mov (.c (.one (.st (.bool true)))))
  .no])
  .ret)
  .skip))
  (.seq
  (.ops
  [.mk (some 37) none (.load true 2 (.t 5)) .no, .mk (some 38) none (.load true 2 (.t 6)) .no, .mk (some 39) none (.call 15 [.t 37, .t 38]) .no, .mk (some 36) none (.mov (.t 39)) .no, .mk (some 40) none (.extract 0 (.t 36)) .no, .mk (some 41) none (.extract 1 (.t 36)) .no, .mk (some 42) none (.extract 2 (.t 36)) .no, .mk (some 8) none (.mov (.t 40)) .no, .mk (some 9) none (.mov (.t 41)) .no, .mk (some 10) none (.mov (.t 42)) .no])
  (.seq
  (.ops
  [.mk (some 44) none (.mov (.t 8)) .no, .mk (some 45) none (.load true 2 (.t 5)) .no, .mk (some 46) none (.call 24 [.t 44, .t 45])
  .no, .mk (some 43) none (.mov (.t 46)) .no, .mk (some 47) none (.extract 0 (.t 43)) .no, .mk (some 48) none (.extract 1 (.t 43)) .no, .mk (some 11) none
  (.alloc 24 [.st (.str (ByteArray.mk (#[]))), .full []])
  .no, .mk none none (.store 2 (.t 11) (.t 47)) .no, .mk (some 12) none (.mov (.t 48)) .no])
  (.seq
  (.ops
  [.mk (some 50) none (.call 25
  [.c (.one (.st (.str (ByteArray.mk (#[97])))))])
  .no, .mk (some 51) none (.load true 2 (.t 6)) .no, .mk (some 52) none (.buildSlice false 24 2 [.t 50, .t 51])
  .no, .mk (some 53) none
  (.build [.st (.str (ByteArray.mk (#[]))), .full []]
  [(0, 1, .c (.one (.st (.str (ByteArray.mk (#[103])))))),
  (1, 1, .t 52)])
  .no, .mk (some 54) none (.load true 2 (.t 5)) .no, .mk (some 55) none (.call 17 [.t 53, .t 54])
  .no, .mk (some 49) none (.mov (.t 55)) .no, .mk (some 56) none (.extract 0 (.t 49)) .no, .mk (some 57) none (.extract 1 (.t 49)) .no, .mk (some 13) none (.mov (.t 56)) .no, .mk (some 14) none (.mov (.t 57)) .no])
  (.seq
  (.ops
  [.mk (some 58) none (.mov (.t 10)) .no, .mk (some 59) none (.bin .eql (.t 58) (.c (.one (.st (.int .i64 0)))))
  .no, .mk (some 60) none (.mov (.t 59)) .no, .mk (some 61) (some (60, true)) (.mov (.t 12)) .no, .mk (some 62) (some (60, true)) (.bin .eql (.t 61) (.c (.one (.st (.int .i64 0)))))
  .no, .mk (some 63) none
  (.pick (.t 60) (.t 62) (.c (.one (.st (.bool false)))))
  .no, .mk (some 64) none (.mov (.t 63)) .no, .mk (some 65) (some (64, true)) (.mov (.t 9)) .no, .mk (some 66) none
  (.pick (.t 64) (.t 65) (.c (.one (.st (.bool false)))))
  .no, .mk (some 67) none (.mov (.t 66)) .no, .mk (some 68) (some (67, true)) (.load true 2 (.t 6)) .no, .mk (some 69) (some (67, true)) (.load true 2 (.t 11)) .no, .mk (some 70) (some (67, true)) (.call 26 [.t 68, .t 69])
  .no, .mk (some 71) none
  (.pick (.t 67) (.t 70) (.c (.one (.st (.bool false)))))
  .no, .mk (some 72) none (.mov (.t 71)) .no, .mk (some 73) (some (72, true)) (.mov (.t 8)) .no, .mk (some 74) (some (72, true)) (.len false (.t 73)) .no, .mk (some 75) (some (72, true)) (.load true 2 (.t 5)) .no, .mk (some 76) (some (72, true)) (.call 27 [.t 75]) .no, .mk (some 77) (some (72, true)) (.len false (.t 76)) .no, .mk (some 78) (some (72, true)) (.bin .eql (.t 74) (.t 77))
  .no, .mk (some 79) none
  (.pick (.t 72) (.t 78) (.c (.one (.st (.bool false)))))
  .no, .mk (some 80) none (.mov (.t 79)) .no, .mk (some 81) (some (80, true)) (.load true 2 (.t 6)) .no, .mk (some 82) (some (80, true)) (.call 23
  [.t 81, .c (.one (.st (.int .i64 190)))])
  .no, .mk (some 83) (some (80, true)) (.bin .gtr (.t 82) (.c (.one (.st (.int .i64 190)))))
  .no, .mk (some 84) (some (80, true)) (.mov (.t 83)) .no, .mk (some 85) (some (84, false)) (.mov (.t 14)) .no, .mk (some 86) (some (84, false)) (.bin .eql (.t 85) (.c (.one (.st (.int .i64 0)))))
  .no, .mk (some 87) (some (84, false)) (.mov (.t 86)) .no, .mk (some 88) (some (87, true)) (.mov (.t 13)) .no, .mk (some 89) (some (84, false))
  (.pick (.t 87) (.t 88) (.c (.one (.st (.bool false)))))
  .no, .mk (some 90) (some (80, true))
  (.pick (.t 84) (.c (.one (.st (.bool true)))) (.t 89))
  .no, .mk (some 91) none
  (.pick (.t 80) (.t 90) (.c (.one (.st (.bool false)))))
  .no, .mk (some 4) none (.mov (.t 91)) .no])
  .ret)))))))))
theorem tr_metaprunetop_TopMatch : trCode Try.prog 92 [] (Try.f5.body.getD .skip) = some ir_metaprunetop_TopMatch := by kernel_rfl
theorem ac_metaprunetop_TopMatch {xs : List AV} {r : AV} (hn : xs.length ≤ 92) (h : ∀ C : Ctx, C.n = 92 → IWP Try.prog C [] ir_metaprunetop_TopMatch (FinQ [.t 4] r) (AS.start xs)) : ACalls Try.prog 5 xs r :=
  acalls_of Try.func5 rfl tr_metaprunetop_TopMatch rfl hn h
theorem acS_metaprunetop_TopMatch {xs : List AV} {S S' : AStore} {r : AV} (hn : xs.length ≤ 92) (h : Clean S → ∀ C : Ctx, C.n = 92 → IWP Try.prog C [] ir_metaprunetop_TopMatch (FinS C [.t 4] r S') (AS.startS xs S)) : ACallsS Try.prog 5 xs S r S' :=
  acallsS_of Try.func5 rfl tr_metaprunetop_TopMatch rfl hn h

end Go.Proofs.Ytpajlfdhmjgpnaa
