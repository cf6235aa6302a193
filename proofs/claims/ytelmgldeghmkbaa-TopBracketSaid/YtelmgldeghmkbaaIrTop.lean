/-
  The program's functions in abstract operations: written by a program of mine out of the translation; each is shown to be the translation's.
  Conditions: none.
-/
import Derived.Test.YtelmgldeghmkbaaBFrom2
namespace Go.Proofs.Ytelmgldeghmkbaa
open Go Go.RowKit
set_option maxRecDepth 100000

def ir_R_Pick : IR :=
  (.seq
  (.ops
  [.mk (some 4) none (.mov (.c (.one (.st (.int .i64 0)))))
  .no])
  (.seq
  (.seq
  (.ops
  [.mk (some 5) none (.mov (.t 0)) .no, .mk (some 6) none (.bin .lss (.t 5) (.c (.one (.st (.int .i64 0)))))
  .no])
  (.cond (.t 6)
  (.ops
  [.mk (some 7) none (.mov (.t 0)) .no, .mk (some 8) none (.bin .add (.t 7) (.c (.one (.st (.int .i64 1)))))
  .no, .mk (some 9) none (.un .neg (.t 8)) .no, .mk (some 0) none (.mov (.t 9)) .no])
  .skip))
  (.seq
  (.ops
  [.mk (some 10) none (.mov (.t 0)) .no, .mk (some 11) none (.mov (.t 1)) .no, .mk (some 12) none (.bin .rem (.t 10) (.t 11))
  .no, .mk (some 4) none (.mov (.t 12)) .no])
  .ret)))
theorem tr_R_Pick : trCode Try.prog 13 [] (Try.f5.body.getD .skip) = some ir_R_Pick := by kernel_rfl
theorem ac_R_Pick {xs : List AV} {r : AV} (hn : xs.length ≤ 13) (h : ∀ C : Ctx, C.n = 13 → IWP Try.prog C [] ir_R_Pick (FinQ [.t 4] r) (AS.start xs)) : ACalls Try.prog 5 xs r :=
  acalls_of Try.func5 rfl tr_R_Pick rfl hn h
theorem acS_R_Pick {xs : List AV} {S S' : AStore} {r : AV} (hn : xs.length ≤ 13) (h : Clean S → ∀ C : Ctx, C.n = 13 → IWP Try.prog C [] ir_R_Pick (FinS C [.t 4] r S') (AS.startS xs S)) : ACallsS Try.prog 5 xs S r S' :=
  acallsS_of Try.func5 rfl tr_R_Pick rfl hn h

def ir_R_Raw : IR :=
  (.seq
  (.ops
  [.mk (some 4) none (.mov (.c (.one (.st (.int .i64 0)))))
  .no])
  (.seq
  (.seq
  (.ops
  [.mk (some 5) none (.mov (.t 0)) .no, .mk (some 6) none (.len false (.t 5)) .no, .mk (some 7) none (.bin .eql (.t 6) (.c (.one (.st (.int .i64 0)))))
  .no])
  (.cond (.t 7)
  (.seq
  (.ops
  [.mk (some 8) none (.mov (.t 1)) .no, .mk (some 9) none (.bin .mul (.t 8) (.c (.one (.st (.int .i64 31)))))
  .no, .mk (some 4) none (.mov (.t 9)) .no])
  .ret)
  .skip))
  (.seq
  (.ops
  [.mk (some 10) none (.mov (.t 0)) .no, .mk (some 11) none (.mov (.t 1)) .no, .mk (some 12) none (.mov (.t 0)) .no, .mk (some 13) none (.len false (.t 12)) .no, .mk (some 14) none (.bin .rem (.t 11) (.t 13))
  .no, .mk (some 15) none (.indexAddr 1 (.t 10) (.t 14)) .no, .mk (some 16) none (.load false 1 (.t 15)) .no, .mk (some 17) none (.call 5
  [.t 16, .c (.one (.st (.int .i64 1000003)))])
  .no, .mk (some 18) none (.mov (.t 1)) .no, .mk (some 19) none (.mov (.t 0)) .no, .mk (some 20) none (.len false (.t 19)) .no, .mk (some 21) none (.bin .quo (.t 18) (.t 20))
  .no, .mk (some 22) none (.bin .mul (.t 21) (.c (.one (.st (.int .i64 7919)))))
  .no, .mk (some 23) none (.bin .add (.t 17) (.t 22))
  .no, .mk (some 4) none (.mov (.t 23)) .no])
  .ret)))
theorem tr_R_Raw : trCode Try.prog 24 [] (Try.f25.body.getD .skip) = some ir_R_Raw := by kernel_rfl
theorem ac_R_Raw {xs : List AV} {r : AV} (hn : xs.length ≤ 24) (h : ∀ C : Ctx, C.n = 24 → IWP Try.prog C [] ir_R_Raw (FinQ [.t 4] r) (AS.start xs)) : ACalls Try.prog 25 xs r :=
  acalls_of Try.func25 rfl tr_R_Raw rfl hn h
theorem acS_R_Raw {xs : List AV} {S S' : AStore} {r : AV} (hn : xs.length ≤ 24) (h : Clean S → ∀ C : Ctx, C.n = 24 → IWP Try.prog C [] ir_R_Raw (FinS C [.t 4] r S') (AS.startS xs S)) : ACallsS Try.prog 25 xs S r S' :=
  acallsS_of Try.func25 rfl tr_R_Raw rfl hn h

def ir_metaprunetop_combGrow : IR :=
  (.seq
  (.ops
  [.mk (some 6) none
  (.alloc 25 [.st (.str (ByteArray.mk (#[]))), .full []]) .no, .mk (some 7) none (.mov (.c (.one (.st (.int .i64 0)))))
  .no])
  (.seq
  (.ops
  [.mk (some 12) none (.mov (.t 0)) .no, .mk (some 13) none (.mov (.t 1)) .no, .mk (some 14) none (.call 25 [.t 12, .t 13]) .no, .mk (some 8) none (.mov (.t 14)) .no])
  (.seq
  (.ops
  [.mk (some 15) none (.mov (.t 1)) .no, .mk (some 16) none (.bin .add (.t 15) (.c (.one (.st (.int .i64 1)))))
  .no, .mk (some 1) none (.mov (.t 16)) .no])
  (.seq
  (.seq
  (.ops
  [.mk (some 17) none (.mov (.t 2)) .no, .mk (some 18) none (.bin .lss (.t 17) (.c (.one (.st (.int .i64 3)))))
  .no, .mk (some 19) none (.mov (.t 18)) .no, .mk (some 20) (some (19, false)) (.mov (.t 8)) .no, .mk (some 21) (some (19, false)) (.call 5
  [.t 20, .c (.one (.st (.int .i64 5)))])
  .no, .mk (some 22) (some (19, false)) (.bin .eql (.t 21) (.c (.one (.st (.int .i64 0)))))
  .no, .mk (some 23) none
  (.pick (.t 19) (.c (.one (.st (.bool true)))) (.t 22))
  .no])
  (.cond (.t 23)
  (.seq
  (.ops
  [.mk (some 24) none
  (.buildFlat
  [.c (.one (.st (.str (ByteArray.mk (#[115]))))), .c (.one (.st (.str (ByteArray.mk (#[107]))))), .c (.one (.st (.str (ByteArray.mk (#[105]))))), .c (.one (.st (.str (ByteArray.mk (#[88]))))), .c (.one (.st (.str (ByteArray.mk (#[88]))))), .c (.one (.st (.str (ByteArray.mk (#[99, 49]))))), .c (.one (.st (.str (ByteArray.mk (#[88])))))])
  .no, .mk (some 25) none (.mov (.t 8)) .no, .mk (some 26) none (.bin .quo (.t 25) (.c (.one (.st (.int .i64 5)))))
  .no, .mk (some 27) none (.call 5
  [.t 26, .c (.one (.st (.int .i64 7)))])
  .no, .mk (some 28) none (.indexAddr 1 (.t 24) (.t 27))
  .no, .mk (some 29) none (.load false 1 (.t 28)) .no, .mk (some 30) none (.call 26 [.t 29]) .no, .mk (some 31) none (.mov (.t 1)) .no, .mk none none (.store 2 (.t 6) (.t 30)) .no, .mk (some 7) none (.mov (.t 31)) .no])
  .ret)
  .skip))
  (.seq
  (.ops
  [.mk (some 33) none (.mov (.t 0)) .no, .mk (some 34) none (.mov (.t 1)) .no, .mk (some 35) none (.mov (.t 2)) .no, .mk (some 36) none (.bin .quo (.t 35) (.c (.one (.st (.int .i64 2)))))
  .no, .mk (some 37) none (.call 13 [.t 33, .t 34, .t 36])
  .no, .mk (some 32) none (.mov (.t 37)) .no, .mk (some 38) none (.extract 0 (.t 32)) .no, .mk (some 39) none (.extract 1 (.t 32)) .no, .mk (some 9) none
  (.alloc 25 [.st (.str (ByteArray.mk (#[]))), .full []])
  .no, .mk none none (.store 2 (.t 9) (.t 38)) .no, .mk (some 10) none (.mov (.t 39)) .no])
  (.seq
  (.ops
  [.mk (some 41) none (.mov (.t 0)) .no, .mk (some 42) none (.mov (.t 10)) .no, .mk (some 43) none (.mov (.t 2)) .no, .mk (some 44) none (.bin .quo (.t 43) (.c (.one (.st (.int .i64 2)))))
  .no, .mk (some 45) none (.call 13 [.t 41, .t 42, .t 44]) .no, .mk (some 40) none (.mov (.t 45)) .no, .mk (some 46) none (.extract 0 (.t 40)) .no, .mk (some 47) none (.extract 1 (.t 40)) .no, .mk (some 11) none
  (.alloc 25 [.st (.str (ByteArray.mk (#[]))), .full []])
  .no, .mk none none (.store 2 (.t 11) (.t 46)) .no, .mk (some 10) none (.mov (.t 47)) .no])
  (.seq
  (.ops
  [.mk (some 48) none (.load true 2 (.t 9)) .no, .mk (some 49) none (.load true 2 (.t 11)) .no, .mk (some 50) none (.call 11 [.t 48, .t 49])
  .no, .mk (some 51) none (.mov (.t 10)) .no, .mk none none (.store 2 (.t 6) (.t 50)) .no, .mk (some 7) none (.mov (.t 51)) .no])
  .ret)))))))
theorem tr_metaprunetop_combGrow : trCode Try.prog 52 [] (Try.f13.body.getD .skip) = some ir_metaprunetop_combGrow := by kernel_rfl
theorem ac_metaprunetop_combGrow {xs : List AV} {r : AV} (hn : xs.length ≤ 52) (h : ∀ C : Ctx, C.n = 52 → IWP Try.prog C [] ir_metaprunetop_combGrow (FinQ [.cell 6 true 2, .t 7] r) (AS.start xs)) : ACalls Try.prog 13 xs r :=
  acalls_of Try.func13 rfl tr_metaprunetop_combGrow rfl hn h
theorem acS_metaprunetop_combGrow {xs : List AV} {S S' : AStore} {r : AV} (hn : xs.length ≤ 52) (h : Clean S → ∀ C : Ctx, C.n = 52 → IWP Try.prog C [] ir_metaprunetop_combGrow (FinS C [.cell 6 true 2, .t 7] r S') (AS.startS xs S)) : ACallsS Try.prog 13 xs S r S' :=
  acallsS_of Try.func13 rfl tr_metaprunetop_combGrow rfl hn h

def ir_metaprunetop_combFrom : IR :=
  (.seq
  (.ops
  [.mk (some 6) none
  (.alloc 25 [.st (.str (ByteArray.mk (#[]))), .full []]) .no])
  (.seq
  (.ops
  [.mk (some 10) none (.mov (.t 0)) .no, .mk (some 11) none (.mov (.t 1)) .no, .mk (some 12) none (.mov (.t 2)) .no, .mk (some 13) none (.call 13 [.t 10, .t 11, .t 12])
  .no, .mk (some 9) none (.mov (.t 13)) .no, .mk (some 14) none (.extract 0 (.t 9)) .no, .mk (some 15) none (.extract 1 (.t 9)) .no, .mk (some 7) none
  (.alloc 25 [.st (.str (ByteArray.mk (#[]))), .full []]) .no, .mk none none (.store 2 (.t 7) (.t 14)) .no, .mk (some 8) none (.mov (.t 15)) .no])
  (.seq
  (.ops
  [.mk (some 16) none (.load true 2 (.t 7)) .no, .mk none none (.store 2 (.t 6) (.t 16)) .no])
  .ret)))
theorem tr_metaprunetop_combFrom : trCode Try.prog 17 [] (Try.f4.body.getD .skip) = some ir_metaprunetop_combFrom := by kernel_rfl
theorem ac_metaprunetop_combFrom {xs : List AV} {r : AV} (hn : xs.length ≤ 17) (h : ∀ C : Ctx, C.n = 17 → IWP Try.prog C [] ir_metaprunetop_combFrom (FinQ [.cell 6 true 2] r) (AS.start xs)) : ACalls Try.prog 4 xs r :=
  acalls_of Try.func4 rfl tr_metaprunetop_combFrom rfl hn h
theorem acS_metaprunetop_combFrom {xs : List AV} {S S' : AStore} {r : AV} (hn : xs.length ≤ 17) (h : Clean S → ∀ C : Ctx, C.n = 17 → IWP Try.prog C [] ir_metaprunetop_combFrom (FinS C [.cell 6 true 2] r S') (AS.startS xs S)) : ACallsS Try.prog 4 xs S r S' :=
  acallsS_of Try.func4 rfl tr_metaprunetop_combFrom rfl hn h

def ir_comb_Bracket : IR :=
  (.seq
  (.ops
  [.mk (some 3) none (.box 25 (.t 1)) .no, .mk (some 4) none
  (.alloc 25 [.st (.str (ByteArray.mk (#[]))), .full []]) .no, .mk (some 5) none (.mov (.c (.one (.st (.int .i64 0)))))
  .no])
  (.seq
  (.seq
  (.ops
  [.mk (some 7) none (.mov (.t 0)) .no, .mk (some 8) none (.call 14 [.t 7]) .no, .mk (some 9) none (.un .not (.t 8)) .no, .mk (some 10) none (.mov (.t 9)) .no, .mk (some 11) (some (10, false)) (.mov (.t 0)) .no, .mk (some 12) (some (10, false)) (.call 15 [.t 11]) .no, .mk (some 13) (some (10, false)) (.un .not (.t 12)) .no, .mk (some 14) none
  (.pick (.t 10) (.c (.one (.st (.bool true)))) (.t 13))
  .no])
  (.cond (.t 14)
  (.seq
  (.ops
  [.mk (some 15) none
  (.build [.st (.str (ByteArray.mk (#[]))), .full []] [])
  .no, .mk none none (.store 2 (.t 4) (.t 15)) .no, .mk (some 5) none (.mov (.c (.one (.st (.int .i64 1)))))
  .no])
  .ret)
  .skip))
  (.seq
  (.seq
  (.ops
  [.mk (some 16) none (.load true 2 (.t 3)) .no, .mk (some 17) none (.call 16 [.t 16]) .no, .mk (some 6) none (.mov (.t 17)) .no])
  (.seq
  (.ops
  [.mk (some 18) none (.mov (.t 6)) .no, .mk (some 19) none (.bin .neq (.t 18) (.c (.one (.st (.int .i64 0)))))
  .no])
  (.cond (.t 19)
  (.seq
  (.ops
  [.mk (some 20) none
  (.build [.st (.str (ByteArray.mk (#[]))), .full []] [])
  .no, .mk (some 21) none (.mov (.t 6)) .no, .mk none none (.store 2 (.t 4) (.t 20)) .no, .mk (some 5) none (.mov (.t 21)) .no])
  .ret)
  .skip)))
  (.seq
  (.ops
  [.mk (some 22) none (.mov (.t 0)) .no, .mk (some 23) none (.load true 2 (.t 3)) .no, .mk (some 24) none (.call 18 [.t 22, .t 23]) .no, .mk (some 25) none (.call 17 [.t 24]) .no, .mk (some 26) none (.extract 0 (.t 25)) .no, .mk (some 27) none (.extract 1 (.t 25)) .no, .mk none none (.store 2 (.t 4) (.t 26)) .no, .mk (some 5) none (.mov (.t 27)) .no])
  .ret))))
theorem tr_comb_Bracket : trCode Try.prog 28 [] (Try.f6.body.getD .skip) = some ir_comb_Bracket := by kernel_rfl
theorem ac_comb_Bracket {xs : List AV} {r : AV} (hn : xs.length ≤ 28) (h : ∀ C : Ctx, C.n = 28 → IWP Try.prog C [] ir_comb_Bracket (FinQ [.cell 4 true 2, .t 5] r) (AS.start xs)) : ACalls Try.prog 6 xs r :=
  acalls_of Try.func6 rfl tr_comb_Bracket rfl hn h
theorem acS_comb_Bracket {xs : List AV} {S S' : AStore} {r : AV} (hn : xs.length ≤ 28) (h : Clean S → ∀ C : Ctx, C.n = 28 → IWP Try.prog C [] ir_comb_Bracket (FinS C [.cell 4 true 2, .t 5] r S') (AS.startS xs S)) : ACallsS Try.prog 6 xs S r S' :=
  acallsS_of Try.func6 rfl tr_comb_Bracket rfl hn h

def ir_metaprunetop_TopBracket : IR :=
  (.seq
  (.ops
  [.mk (some 6) none (.mov (.c (.one (.st (.bool false)))))
  .no])
  (.seq
  (.seq
  (.ops
  [.mk (some 18) none (.mov (.t 0)) .no, .mk (some 19) none (.len false (.t 18)) .no, .mk (some 20) none (.bin .gtr (.t 19) (.c (.one (.st (.int .i64 256)))))
  .no])
  (.cond (.t 20)
  (.seq
  (.ops
  [.mk (some 6) none (.mov (.c (.one (.st (.bool true)))))
  .no])
  .ret)
  .skip))
  (.seq
  (.ops
  [.mk (some 21) none (.mov (.t 0)) .no, .mk (some 22) none (.mov (.t 1)) .no, .mk (some 23) none (.call 5
  [.t 22, .c (.one (.st (.int .i64 12)))])
  .no, .mk (some 24) none (.bin .add (.c (.one (.st (.int .i64 1)))) (.t 23))
  .no, .mk (some 25) none (.call 4
  [.t 21, .c (.one (.st (.int .i64 0))), .t 24])
  .no, .mk (some 7) none
  (.alloc 25 [.st (.str (ByteArray.mk (#[]))), .full []]) .no, .mk none none (.store 2 (.t 7) (.t 25)) .no])
  (.seq
  (.ops
  [.mk (some 26) none (.mov (.t 0)) .no, .mk (some 27) none (.call 4
  [.t 26, .c (.one (.st (.int .i64 60))), .c (.one (.st (.int .i64 5)))])
  .no, .mk (some 8) none
  (.alloc 25 [.st (.str (ByteArray.mk (#[]))), .full []]) .no, .mk none none (.store 2 (.t 8) (.t 27)) .no])
  (.seq
  (.ops
  [.mk (some 29) none (.load true 2 (.t 7)) .no, .mk (some 30) none (.call 6
  [.c (.one (.st (.str (ByteArray.mk (#[88]))))), .t 29])
  .no, .mk (some 28) none (.mov (.t 30)) .no, .mk (some 31) none (.extract 0 (.t 28)) .no, .mk (some 32) none (.extract 1 (.t 28)) .no, .mk (some 9) none
  (.alloc 25 [.st (.str (ByteArray.mk (#[]))), .full []])
  .no, .mk none none (.store 2 (.t 9) (.t 31)) .no, .mk (some 10) none (.mov (.t 32)) .no])
  (.seq
  (.seq
  (.ops
  [.mk (some 33) none (.mov (.t 10)) .no, .mk (some 34) none (.bin .neq (.t 33) (.c (.one (.st (.int .i64 0)))))
  .no, .mk (some 35) none (.mov (.t 34)) .no, .mk (some 36) (some (35, false)) (.fieldAddr 0 (.t 9)) .no, .mk (some 37) (some (35, false)) (.load false 1 (.t 36)) .no, .mk (some 38) (some (35, false)) (.bin .eql (.t 37) (.c (.one (.st (.str (ByteArray.mk (#[])))))))
  .no, .mk (some 39) none
  (.pick (.t 35) (.c (.one (.st (.bool true)))) (.t 38))
  .no, .mk (some 40) none (.mov (.t 39)) .no, .mk (some 41) (some (40, false)) (.load true 2 (.t 9)) .no, .mk (some 42) (some (40, false)) (.call 7
  [.t 41, .c (.one (.st (.str (ByteArray.mk (#[88])))))])
  .no, .mk (some 43) (some (40, false)) (.bin .gtr (.t 42) (.c (.one (.st (.int .i64 0)))))
  .no, .mk (some 44) none
  (.pick (.t 40) (.c (.one (.st (.bool true)))) (.t 43))
  .no])
  (.cond (.t 44)
  (.seq
  (.ops
  [.mk (some 6) none (.mov (.c (.one (.st (.bool false)))))
  .no])
  .ret)
  .skip))
  (.seq
  (.ops
  [.mk (some 46) none (.load true 2 (.t 8)) .no, .mk (some 47) none
  (.build
  [.st (.str (ByteArray.mk (#[]))), .st (.str (ByteArray.mk (#[]))),
  .full []]
  [(0, 1, .c (.one (.st (.str (ByteArray.mk (#[88])))))),
  (1, 2, .t 46)])
  .no, .mk (some 48) none (.buildSlice false 35 3 [.t 47]) .no, .mk (some 49) none (.load true 2 (.t 7)) .no, .mk (some 50) none (.call 8 [.t 48, .t 49])
  .no, .mk (some 45) none (.mov (.t 50)) .no, .mk (some 51) none (.extract 0 (.t 45)) .no, .mk (some 52) none (.extract 1 (.t 45)) .no, .mk (some 11) none
  (.alloc 25 [.st (.str (ByteArray.mk (#[]))), .full []])
  .no, .mk none none (.store 2 (.t 11) (.t 51)) .no, .mk (some 12) none (.mov (.t 52)) .no])
  (.seq
  (.seq
  (.ops
  [.mk (some 53) none (.mov (.t 12)) .no, .mk (some 54) none (.un .not (.t 53)) .no, .mk (some 55) none (.mov (.t 54)) .no, .mk (some 56) (some (55, false)) (.load true 2 (.t 11)) .no, .mk (some 57) (some (55, false)) (.call 9
  [.t 56, .c (.one (.st (.int .i64 200)))])
  .no, .mk (some 58) (some (55, false)) (.bin .gtr (.t 57) (.c (.one (.st (.int .i64 200)))))
  .no, .mk (some 59) none
  (.pick (.t 55) (.c (.one (.st (.bool true)))) (.t 58))
  .no, .mk (some 60) none (.mov (.t 59)) .no, .mk (some 61) (some (60, false)) (.load true 2 (.t 9)) .no, .mk (some 62) (some (60, false)) (.call 9
  [.t 61, .c (.one (.st (.int .i64 150)))])
  .no, .mk (some 63) (some (60, false)) (.bin .gtr (.t 62) (.c (.one (.st (.int .i64 150)))))
  .no, .mk (some 64) none
  (.pick (.t 60) (.c (.one (.st (.bool true)))) (.t 63))
  .no])
  (.cond (.t 64)
  (.seq
  (.ops
  [.mk (some 6) none (.mov (.c (.one (.st (.bool true)))))
  .no])
  .ret)
  .skip))
  (.seq
  (.ops
  [.mk (some 66) none (.load true 2 (.t 9)) .no, .mk (some 67) none (.load true 2 (.t 8)) .no, .mk (some 68) none (.call 11 [.t 66, .t 67])
  .no, .mk (some 69) none (.call 10
  [.t 68, .c (.one (.st (.int .i64 60)))])
  .no, .mk (some 65) none (.mov (.t 69)) .no, .mk (some 70) none (.extract 0 (.t 65)) .no, .mk (some 71) none (.extract 1 (.t 65)) .no, .mk (some 72) none (.extract 2 (.t 65)) .no, .mk (some 13) none
  (.alloc 25 [.st (.str (ByteArray.mk (#[]))), .full []])
  .no, .mk none none (.store 2 (.t 13) (.t 70))
  .no, .mk (some 14) none (.mov (.t 71)) .no, .mk (some 10) none (.mov (.t 72)) .no])
  (.seq
  (.ops
  [.mk (some 74) none (.load true 2 (.t 11)) .no, .mk (some 75) none (.call 10
  [.t 74, .c (.one (.st (.int .i64 60)))])
  .no, .mk (some 73) none (.mov (.t 75)) .no, .mk (some 76) none (.extract 0 (.t 73)) .no, .mk (some 77) none (.extract 1 (.t 73)) .no, .mk (some 78) none (.extract 2 (.t 73)) .no, .mk (some 15) none
  (.alloc 25 [.st (.str (ByteArray.mk (#[]))), .full []])
  .no, .mk none none (.store 2 (.t 15) (.t 76))
  .no, .mk (some 16) none (.mov (.t 77)) .no, .mk (some 17) none (.mov (.t 78)) .no])
  (.seq
  (.seq
  (.ops
  [.mk (some 79) none (.mov (.t 10)) .no, .mk (some 80) none (.bin .neq (.t 79) (.c (.one (.st (.int .i64 0)))))
  .no, .mk (some 81) none (.mov (.t 80)) .no, .mk (some 82) (some (81, false)) (.mov (.t 17)) .no, .mk (some 83) (some (81, false)) (.bin .neq (.t 82) (.c (.one (.st (.int .i64 0)))))
  .no, .mk (some 84) none
  (.pick (.t 81) (.c (.one (.st (.bool true)))) (.t 83))
  .no])
  (.cond (.t 84)
  (.seq
  (.ops
  [.mk (some 85) none (.mov (.t 10)) .no, .mk (some 86) none (.bin .neq (.t 85) (.c (.one (.st (.int .i64 2)))))
  .no, .mk (some 87) none (.mov (.t 86)) .no, .mk (some 88) (some (87, true)) (.mov (.t 17)) .no, .mk (some 89) (some (87, true)) (.bin .neq (.t 88) (.c (.one (.st (.int .i64 2)))))
  .no, .mk (some 90) none
  (.pick (.t 87) (.t 89) (.c (.one (.st (.bool false)))))
  .no, .mk (some 6) none (.mov (.t 90)) .no])
  .ret)
  .skip))
  (.seq
  (.ops
  [.mk (some 91) none (.load true 2 (.t 13)) .no, .mk (some 92) none (.load true 2 (.t 15)) .no, .mk (some 93) none (.call 12 [.t 91, .t 92])
  .no, .mk (some 6) none (.mov (.t 93)) .no])
  .ret))))))))))))
theorem tr_metaprunetop_TopBracket : trCode Try.prog 94 [] (Try.f3.body.getD .skip) = some ir_metaprunetop_TopBracket := by kernel_rfl
theorem ac_metaprunetop_TopBracket {xs : List AV} {r : AV} (hn : xs.length ≤ 94) (h : ∀ C : Ctx, C.n = 94 → IWP Try.prog C [] ir_metaprunetop_TopBracket (FinQ [.t 6] r) (AS.start xs)) : ACalls Try.prog 3 xs r :=
  acalls_of Try.func3 rfl tr_metaprunetop_TopBracket rfl hn h
theorem acS_metaprunetop_TopBracket {xs : List AV} {S S' : AStore} {r : AV} (hn : xs.length ≤ 94) (h : Clean S → ∀ C : Ctx, C.n = 94 → IWP Try.prog C [] ir_metaprunetop_TopBracket (FinS C [.t 6] r S') (AS.startS xs S)) : ACallsS Try.prog 3 xs S r S' :=
  acallsS_of Try.func3 rfl tr_metaprunetop_TopBracket rfl hn h

end Go.Proofs.Ytelmgldeghmkbaa
