/-
  The program's functions in abstract operations: written by a program of mine out of the translation; each is shown to be the translation's.
  Conditions: none.
-/
import Derived.Test.YtpajlfdhmjgpnaaPMatch
namespace Go.Proofs.Ytpajlfdhmjgpnaa
open Go Go.RowKit
set_option maxRecDepth 100000

def ir_match_Both : IR :=
  (.seq
  (.ops
  [.mk (some 2) none (.box 24 (.t 0)) .no, .mk (some 3) none (.box 24 (.t 1)) .no, .mk (some 4) none (.mov (.c (.one (.st (.int .i64 0)))))
  .no])
  (.seq
  (.seq
  (.ops
  [.mk (some 6) none (.load true 2 (.t 2)) .no, .mk (some 7) none (.call 48 [.t 6]) .no, .mk (some 5) none (.mov (.t 7)) .no])
  (.seq
  (.ops
  [.mk (some 8) none (.mov (.t 5)) .no, .mk (some 9) none (.bin .neq (.t 8) (.c (.one (.st (.int .i64 0)))))
  .no])
  (.cond (.t 9)
  (.seq
  (.ops
  [.mk (some 10) none (.mov (.t 5)) .no, .mk (some 4) none (.mov (.t 10)) .no])
  .ret)
  .skip)))
  (.seq
  (.ops
  [.mk (some 11) none (.load true 2 (.t 3)) .no, .mk (some 12) none (.call 48 [.t 11]) .no, .mk (some 4) none (.mov (.t 12)) .no])
  .ret)))
theorem tr_match_Both : trCode Try.prog 13 [] (Try.f40.body.getD .skip) = some ir_match_Both := by kernel_rfl
theorem ac_match_Both {xs : List AV} {r : AV} (hn : xs.length ≤ 13) (h : ∀ C : Ctx, C.n = 13 → IWP Try.prog C [] ir_match_Both (FinQ [.t 4] r) (AS.start xs)) : ACalls Try.prog 40 xs r :=
  acalls_of Try.func40 rfl tr_match_Both rfl hn h
theorem acS_match_Both {xs : List AV} {S S' : AStore} {r : AV} (hn : xs.length ≤ 13) (h : Clean S → ∀ C : Ctx, C.n = 13 → IWP Try.prog C [] ir_match_Both (FinS C [.t 4] r S') (AS.startS xs S)) : ACallsS Try.prog 40 xs S r S' :=
  acallsS_of Try.func40 rfl tr_match_Both rfl hn h

def ir_match_into : IR :=
  (.seq
  (.ops
  [.mk (some 3) none (.box 24 (.t 0)) .no, .mk (some 4) none (.box 24 (.t 1)) .no, .mk (some 6) none (.mov (.c (.one (.st (.bool false)))))
  .no])
  (.seq
  (.seq
  (.ops
  [.mk (some 10) none (.fieldAddr 0 (.t 3)) .no, .mk (some 11) none (.load false 1 (.t 10)) .no, .mk (some 12) none (.call 61 [.t 11]) .no])
  (.cond (.t 12)
  (.seq
  (.seq
  (.ops
  [.mk (some 14) none (.mov (.t 2)) .no, .mk (some 15) none (.fieldAddr 0 (.t 3)) .no, .mk (some 16) none (.load false 1 (.t 15)) .no, .mk (some 17) none
  (.lookup none true
  (.agg [.st (.str (ByteArray.mk (#[]))), .full []]) (.t 14) (.t 16))
  .no, .mk (some 13) none (.mov (.t 17)) .no, .mk (some 18) none (.extract 0 (.t 13)) .no, .mk (some 19) none (.extract 1 (.t 13)) .no, .mk (some 7) none
  (.alloc 24 [.st (.str (ByteArray.mk (#[]))), .full []])
  .no, .mk none none (.store 2 (.t 7) (.t 18)) .no, .mk (some 8) none (.mov (.t 19)) .no])
  (.seq
  (.ops [.mk (some 20) none (.mov (.t 8)) .no])
  (.cond (.t 20)
  (.seq
  (.ops
  [.mk (some 21) none (.load true 2 (.t 7)) .no, .mk (some 22) none (.load true 2 (.t 4)) .no, .mk (some 23) none (.call 76 [.t 21, .t 22])
  .no, .mk (some 6) none (.mov (.t 23)) .no])
  .ret)
  .skip)))
  (.seq
  (.ops
  [.mk (some 24) none (.mov (.t 2)) .no, .mk (some 25) none (.fieldAddr 0 (.t 3)) .no, .mk (some 26) none (.load false 1 (.t 25)) .no, .mk (some 27) none (.load true 2 (.t 4)) .no, .mk none none
  (.mapSet none (.t 24) (.t 26) (.t 27)) .no])
  (.seq
  (.ops
  [.mk (some 6) none (.mov (.c (.one (.st (.bool true)))))
  .no])
  .ret)))
  .skip))
  (.seq
  (.seq
  (.ops
  [.mk (some 28) none (.fieldAddr 0 (.t 3)) .no, .mk (some 29) none (.load false 1 (.t 28)) .no, .mk (some 30) none (.fieldAddr 0 (.t 4)) .no, .mk (some 31) none (.load false 1 (.t 30)) .no, .mk (some 32) none (.bin .neq (.t 29) (.t 31))
  .no, .mk (some 33) none (.mov (.t 32)) .no, .mk (some 34) (some (33, false)) (.fieldAddr 1 (.t 3)) .no, .mk (some 35) (some (33, false)) (.load false 1 (.t 34)) .no, .mk (some 36) (some (33, false)) (.len false (.t 35)) .no, .mk (some 37) (some (33, false)) (.fieldAddr 1 (.t 4)) .no, .mk (some 38) (some (33, false)) (.load false 1 (.t 37)) .no, .mk (some 39) (some (33, false)) (.len false (.t 38)) .no, .mk (some 40) (some (33, false)) (.bin .neq (.t 36) (.t 39))
  .no, .mk (some 41) none
  (.pick (.t 33) (.c (.one (.st (.bool true)))) (.t 40))
  .no])
  (.cond (.t 41)
  (.seq
  (.ops
  [.mk (some 6) none (.mov (.c (.one (.st (.bool false)))))
  .no])
  .ret)
  .skip))
  (.seq
  (.seq
  (.ops
  [.mk (some 42) none (.fieldAddr 1 (.t 3)) .no, .mk (some 43) none (.load false 1 (.t 42)) .no, .mk (some 44) none (.len false (.t 43)) .no, .mk (some 45) none (.mov (.c (.one (.st (.int .i64 0)))))
  .no])
  (.block 0
  (.loop
  (.seq
  (.ops
  [.mk (some 46) none (.bin .lss (.t 45) (.t 44))
  .no])
  (.seq (.cond (.t 46) .skip (.exit 0))
  (.seq
  (.block 1
  (.seq
  (.ops
  [.mk (some 47) none (.mov (.t 45)) .no, .mk (some 9) none (.mov (.t 47)) .no])
  (.seq
  (.ops
  [.mk (some 48) none (.fieldAddr 1 (.t 3)) .no, .mk (some 49) none (.load false 1 (.t 48)) .no, .mk (some 50) none (.mov (.t 9)) .no, .mk (some 51) none (.indexAddr 2 (.t 49) (.t 50))
  .no, .mk (some 52) none (.load true 2 (.t 51)) .no, .mk (some 53) none (.fieldAddr 1 (.t 4)) .no, .mk (some 54) none (.load false 1 (.t 53)) .no, .mk (some 55) none (.mov (.t 9)) .no, .mk (some 56) none (.indexAddr 2 (.t 54) (.t 55))
  .no, .mk (some 57) none (.load true 2 (.t 56)) .no, .mk (some 58) none (.mov (.t 2)) .no, .mk (some 59) none
  (.callS 64 [.t 52, .t 57, .t 58]) .no, .mk (some 60) none (.un .not (.t 59)) .no])
  (.cond (.t 60)
  (.seq
  (.ops
  [.mk (some 6) none (.mov (.c (.one (.st (.bool false)))))
  .no])
  .ret)
  .skip))))
  (.ops
  [.mk (some 61) none (.bin .add (.t 45) (.c (.one (.st (.int .i64 1)))))
  .no, .mk (some 45) none (.mov (.t 61)) .no])))))))
  (.seq
  (.ops
  [.mk (some 6) none (.mov (.c (.one (.st (.bool true)))))
  .no])
  .ret)))))
theorem tr_match_into : trCode Try.prog 62 [59] (Try.f64.body.getD .skip) = some ir_match_into := by kernel_rfl
theorem ac_match_into {xs : List AV} {r : AV} (hn : xs.length ≤ 62) (h : ∀ C : Ctx, C.n = 62 → IWP Try.prog C [59] ir_match_into (FinQ [.t 6] r) (AS.start xs)) : ACalls Try.prog 64 xs r :=
  acalls_of Try.func64 rfl tr_match_into rfl hn h
theorem acS_match_into {xs : List AV} {S S' : AStore} {r : AV} (hn : xs.length ≤ 62) (h : Clean S → ∀ C : Ctx, C.n = 62 → IWP Try.prog C [59] ir_match_into (FinS C [.t 6] r S') (AS.startS xs S)) : ACallsS Try.prog 64 xs S r S' :=
  acallsS_of Try.func64 rfl tr_match_into rfl hn h

def ir_match_Case : IR :=
  (.seq
  (.ops
  [.mk (some 2) none (.box 24 (.t 0)) .no, .mk (some 3) none (.box 24 (.t 1)) .no, .mk (some 4) none (.mov (.c (.one (.full []))))
  .no, .mk (some 5) none (.mov (.c (.one (.st (.bool false)))))
  .no])
  (.seq
  (.ops
  [.mk (some 10) none (.makeMap none) .no, .mk (some 6) none (.mov (.t 10)) .no])
  (.seq
  (.seq
  (.ops
  [.mk (some 11) none (.load true 2 (.t 2)) .no, .mk (some 12) none (.load true 2 (.t 3)) .no, .mk (some 13) none (.mov (.t 6)) .no, .mk (some 14) none (.callS 64 [.t 11, .t 12, .t 13])
  .no, .mk (some 15) none (.un .not (.t 14)) .no])
  (.cond (.t 15)
  (.seq
  (.ops
  [.mk (some 4) none (.mov (.c (.one (.full []))))
  .no, .mk (some 5) none (.mov (.c (.one (.st (.bool false)))))
  .no])
  .ret)
  .skip))
  (.seq
  (.ops
  [.mk (some 7) none (.mov (.c (.one (.full []))))
  .no])
  (.seq
  (.seq
  (.ops
  [.mk (some 16) none (.mov (.t 6)) .no, .mk (some 17) none (.rangeM (.t 16)) .no])
  (.block 0
  (.loop
  (.seq
  (.ops
  [.mk (some 18) none (.next (.t 17)) .no, .mk (some 19) none (.extract 0 (.t 18)) .no])
  (.seq (.cond (.t 19) .skip (.exit 0))
  (.block 1
  (.seq
  (.ops
  [.mk (some 20) none (.entry (.t 17)) .no, .mk (some 21) none (.extract 0 (.t 20)) .no, .mk (some 22) none (.extract 1 (.t 20)) .no, .mk (some 9) none
  (.alloc 24 [.st (.str (ByteArray.mk (#[]))), .full []])
  .no, .mk (some 8) none (.mov (.t 21)) .no, .mk none none (.store 2 (.t 9) (.t 22))
  .no])
  (.ops
  [.mk (some 23) none (.mov (.t 7)) .no, .mk (some 24) none (.mov (.t 8)) .no, .mk (some 25) none (.load true 2 (.t 9)) .no, .mk (some 26) none (.call 65 [.t 25]) .no, .mk (some 27) none
  (.build
  [.st (.str (ByteArray.mk (#[]))), .st (.str (ByteArray.mk (#[]))), .full []]
  [(0, 1, .t 24), (1, 2, .t 26)])
  .no, .mk (some 28) none (.buildSlice false 63 3 [.t 27]) .no, .mk (some 29) none (.append true 63 3 56 (.t 23) (.t 28))
  .no, .mk (some 7) none (.mov (.t 29)) .no]))))))))
  (.seq
  (.ops
  [.mk (some 30) none (.mov (.t 7)) .no, .mk (some 31) none (.callS 66 [.t 30]) .no, .mk (some 4) none (.mov (.t 31)) .no, .mk (some 5) none (.mov (.c (.one (.st (.bool true)))))
  .no])
  .ret))))))
theorem tr_match_Case : trCode Try.prog 32 [14, 29, 31] (Try.f41.body.getD .skip) = some ir_match_Case := by kernel_rfl
theorem ac_match_Case {xs : List AV} {r : AV} (hn : xs.length ≤ 32) (h : ∀ C : Ctx, C.n = 32 → IWP Try.prog C [14, 29, 31] ir_match_Case (FinQ [.t 4, .t 5] r) (AS.start xs)) : ACalls Try.prog 41 xs r :=
  acalls_of Try.func41 rfl tr_match_Case rfl hn h
theorem acS_match_Case {xs : List AV} {S S' : AStore} {r : AV} (hn : xs.length ≤ 32) (h : Clean S → ∀ C : Ctx, C.n = 32 → IWP Try.prog C [14, 29, 31] ir_match_Case (FinS C [.t 4, .t 5] r S') (AS.startS xs S)) : ACallsS Try.prog 41 xs S r S' :=
  acallsS_of Try.func41 rfl tr_match_Case rfl hn h

def ir_match_Match : IR :=
  (.seq
  (.ops
  [.mk (some 2) none (.box 24 (.t 0)) .no, .mk (some 3) none (.box 24 (.t 1)) .no, .mk (some 4) none (.mov (.c (.one (.full []))))
  .no, .mk (some 5) none (.mov (.c (.one (.st (.bool false)))))
  .no, .mk (some 6) none (.mov (.c (.one (.st (.int .i64 0)))))
  .no])
  (.seq
  (.seq
  (.ops
  [.mk (some 10) none (.load true 2 (.t 2)) .no, .mk (some 11) none (.load true 2 (.t 3)) .no, .mk (some 12) none (.call 40 [.t 10, .t 11]) .no, .mk (some 7) none (.mov (.t 12)) .no])
  (.seq
  (.ops
  [.mk (some 13) none (.mov (.t 7)) .no, .mk (some 14) none (.bin .neq (.t 13) (.c (.one (.st (.int .i64 0)))))
  .no])
  (.cond (.t 14)
  (.seq
  (.ops
  [.mk (some 15) none (.mov (.t 7)) .no, .mk (some 4) none (.mov (.c (.one (.full []))))
  .no, .mk (some 5) none (.mov (.c (.one (.st (.bool false)))))
  .no, .mk (some 6) none (.mov (.t 15)) .no])
  .ret)
  .skip)))
  (.seq
  (.ops
  [.mk (some 17) none (.load true 2 (.t 2)) .no, .mk (some 18) none (.load true 2 (.t 3)) .no, .mk (some 19) none (.call 41 [.t 17, .t 18]) .no, .mk (some 16) none (.mov (.t 19)) .no, .mk (some 20) none (.extract 0 (.t 16)) .no, .mk (some 21) none (.extract 1 (.t 16)) .no, .mk (some 8) none (.mov (.t 20)) .no, .mk (some 9) none (.mov (.t 21)) .no])
  (.seq
  (.ops
  [.mk (some 22) none (.mov (.t 8)) .no, .mk (some 23) none (.mov (.t 9)) .no, .mk (some 4) none (.mov (.t 22)) .no, .mk (some 5) none (.mov (.t 23)) .no, .mk (some 6) none (.mov (.c (.one (.st (.int .i64 0)))))
  .no])
  .ret))))
theorem tr_match_Match : trCode Try.prog 24 [] (Try.f15.body.getD .skip) = some ir_match_Match := by kernel_rfl
theorem ac_match_Match {xs : List AV} {r : AV} (hn : xs.length ≤ 24) (h : ∀ C : Ctx, C.n = 24 → IWP Try.prog C [] ir_match_Match (FinQ [.t 4, .t 5, .t 6] r) (AS.start xs)) : ACalls Try.prog 15 xs r :=
  acalls_of Try.func15 rfl tr_match_Match rfl hn h
theorem acS_match_Match {xs : List AV} {S S' : AStore} {r : AV} (hn : xs.length ≤ 24) (h : Clean S → ∀ C : Ctx, C.n = 24 → IWP Try.prog C [] ir_match_Match (FinS C [.t 4, .t 5, .t 6] r S') (AS.startS xs S)) : ACallsS Try.prog 15 xs S r S' :=
  acallsS_of Try.func15 rfl tr_match_Match rfl hn h

def ir_match_Variant : IR :=
  (.seq
  (.ops
  [.mk (some 2) none (.box 24 (.t 0)) .no, .mk (some 3) none (.box 24 (.t 1)) .no, .mk (some 4) none (.mov (.c (.one (.st (.bool false)))))
  .no, .mk (some 5) none (.mov (.c (.one (.st (.int .i64 0)))))
  .no])
  (.seq
  (.seq
  (.ops
  [.mk (some 11) none (.load true 2 (.t 2)) .no, .mk (some 12) none (.load true 2 (.t 3)) .no, .mk (some 13) none (.call 40 [.t 11, .t 12]) .no, .mk (some 6) none (.mov (.t 13)) .no])
  (.seq
  (.ops
  [.mk (some 14) none (.mov (.t 6)) .no, .mk (some 15) none (.bin .neq (.t 14) (.c (.one (.st (.int .i64 0)))))
  .no])
  (.cond (.t 15)
  (.seq
  (.ops
  [.mk (some 16) none (.mov (.t 6)) .no, .mk (some 4) none (.mov (.c (.one (.st (.bool false)))))
  .no, .mk (some 5) none (.mov (.t 16)) .no])
  .ret)
  .skip)))
  (.seq
  (.ops
  [.mk (some 18) none (.load true 2 (.t 2)) .no, .mk (some 19) none (.load true 2 (.t 3)) .no, .mk (some 20) none (.call 41 [.t 18, .t 19]) .no, .mk (some 17) none (.mov (.t 20)) .no, .mk (some 21) none (.extract 0 (.t 17)) .no, .mk (some 22) none (.extract 1 (.t 17)) .no, .mk (some 7) none (.mov (.t 21)) .no, .mk (some 8) none (.mov (.t 22)) .no])
  (.seq
  (.ops
  [.mk (some 24) none (.load true 2 (.t 3)) .no, .mk (some 25) none (.load true 2 (.t 2)) .no, .mk (some 26) none (.call 41 [.t 24, .t 25]) .no, .mk (some 23) none (.mov (.t 26)) .no, .mk (some 27) none (.extract 0 (.t 23)) .no, .mk (some 28) none (.extract 1 (.t 23)) .no, .mk (some 9) none (.mov (.t 27)) .no, .mk (some 10) none (.mov (.t 28)) .no])
  (.seq
  (.ops
  [.mk (some 29) none (.mov (.t 8)) .no, .mk (some 30) none (.mov (.t 29)) .no, .mk (some 31) (some (30, true)) (.mov (.t 10)) .no, .mk (some 32) none
  (.pick (.t 30) (.t 31) (.c (.one (.st (.bool false)))))
  .no, .mk (some 4) none (.mov (.t 32)) .no, .mk (some 5) none (.mov (.c (.one (.st (.int .i64 0)))))
  .no])
  .ret)))))
theorem tr_match_Variant : trCode Try.prog 33 [] (Try.f16.body.getD .skip) = some ir_match_Variant := by kernel_rfl
theorem ac_match_Variant {xs : List AV} {r : AV} (hn : xs.length ≤ 33) (h : ∀ C : Ctx, C.n = 33 → IWP Try.prog C [] ir_match_Variant (FinQ [.t 4, .t 5] r) (AS.start xs)) : ACalls Try.prog 16 xs r :=
  acalls_of Try.func16 rfl tr_match_Variant rfl hn h
theorem acS_match_Variant {xs : List AV} {S S' : AStore} {r : AV} (hn : xs.length ≤ 33) (h : Clean S → ∀ C : Ctx, C.n = 33 → IWP Try.prog C [] ir_match_Variant (FinS C [.t 4, .t 5] r S') (AS.startS xs S)) : ACallsS Try.prog 16 xs S r S' :=
  acallsS_of Try.func16 rfl tr_match_Variant rfl hn h

def ir_match_has : IR :=
  (.seq
  (.ops
  [.mk (some 2) none (.box 24 (.t 0)) .no, .mk (some 3) none (.box 24 (.t 1)) .no, .mk (some 4) none (.mov (.c (.one (.st (.bool false)))))
  .no])
  (.seq
  (.seq
  (.ops
  [.mk (some 10) none (.load true 2 (.t 3)) .no, .mk (some 11) none (.load true 2 (.t 2)) .no, .mk (some 12) none (.call 41 [.t 10, .t 11]) .no, .mk (some 9) none (.mov (.t 12)) .no, .mk (some 13) none (.extract 0 (.t 9)) .no, .mk (some 14) none (.extract 1 (.t 9)) .no, .mk (some 5) none (.mov (.t 13)) .no, .mk (some 6) none (.mov (.t 14)) .no])
  (.seq
  (.ops [.mk (some 15) none (.mov (.t 6)) .no])
  (.cond (.t 15)
  (.seq
  (.ops
  [.mk (some 4) none (.mov (.c (.one (.st (.bool true)))))
  .no])
  .ret)
  .skip)))
  (.seq
  (.seq
  (.ops
  [.mk (some 16) none (.fieldAddr 1 (.t 2)) .no, .mk (some 17) none (.load false 1 (.t 16)) .no, .mk (some 18) none (.len false (.t 17)) .no, .mk (some 19) none (.mov (.c (.one (.st (.int .i64 0)))))
  .no])
  (.block 0
  (.loop
  (.seq
  (.ops
  [.mk (some 20) none (.bin .lss (.t 19) (.t 18))
  .no])
  (.seq (.cond (.t 20) .skip (.exit 0))
  (.seq
  (.block 1
  (.seq
  (.ops
  [.mk (some 21) none (.indexAddr 2 (.t 17) (.t 19))
  .no, .mk (some 22) none (.load true 2 (.t 21)) .no, .mk (some 8) none
  (.alloc 24 [.st (.str (ByteArray.mk (#[]))), .full []])
  .no, .mk none none (.store 2 (.t 8) (.t 22))
  .no])
  (.seq
  (.ops
  [.mk (some 23) none (.load true 2 (.t 8)) .no, .mk (some 24) none (.load true 2 (.t 3)) .no, .mk (some 25) none (.call 42 [.t 23, .t 24])
  .no])
  (.cond (.t 25)
  (.seq
  (.ops
  [.mk (some 4) none (.mov (.c (.one (.st (.bool true)))))
  .no])
  .ret)
  .skip))))
  (.ops
  [.mk (some 26) none (.bin .add (.t 19) (.c (.one (.st (.int .i64 1)))))
  .no, .mk (some 19) none (.mov (.t 26)) .no])))))))
  (.seq
  (.ops
  [.mk (some 4) none (.mov (.c (.one (.st (.bool false)))))
  .no])
  .ret))))
theorem tr_match_has : trCode Try.prog 27 [] (Try.f42.body.getD .skip) = some ir_match_has := by kernel_rfl
theorem ac_match_has {xs : List AV} {r : AV} (hn : xs.length ≤ 27) (h : ∀ C : Ctx, C.n = 27 → IWP Try.prog C [] ir_match_has (FinQ [.t 4] r) (AS.start xs)) : ACalls Try.prog 42 xs r :=
  acalls_of Try.func42 rfl tr_match_has rfl hn h
theorem acS_match_has {xs : List AV} {S S' : AStore} {r : AV} (hn : xs.length ≤ 27) (h : Clean S → ∀ C : Ctx, C.n = 27 → IWP Try.prog C [] ir_match_has (FinS C [.t 4] r S') (AS.startS xs S)) : ACallsS Try.prog 42 xs S r S' :=
  acallsS_of Try.func42 rfl tr_match_has rfl hn h

def ir_match_Encompasses : IR :=
  (.seq
  (.ops
  [.mk (some 2) none (.box 24 (.t 0)) .no, .mk (some 3) none (.box 24 (.t 1)) .no, .mk (some 4) none (.mov (.c (.one (.st (.bool false)))))
  .no, .mk (some 5) none (.mov (.c (.one (.st (.int .i64 0)))))
  .no])
  (.seq
  (.seq
  (.ops
  [.mk (some 7) none (.load true 2 (.t 2)) .no, .mk (some 8) none (.load true 2 (.t 3)) .no, .mk (some 9) none (.call 40 [.t 7, .t 8]) .no, .mk (some 6) none (.mov (.t 9)) .no])
  (.seq
  (.ops
  [.mk (some 10) none (.mov (.t 6)) .no, .mk (some 11) none (.bin .neq (.t 10) (.c (.one (.st (.int .i64 0)))))
  .no])
  (.cond (.t 11)
  (.seq
  (.ops
  [.mk (some 12) none (.mov (.t 6)) .no, .mk (some 4) none (.mov (.c (.one (.st (.bool false)))))
  .no, .mk (some 5) none (.mov (.t 12)) .no])
  .ret)
  .skip)))
  (.seq
  (.ops
  [.mk (some 13) none (.load true 2 (.t 2)) .no, .mk (some 14) none (.load true 2 (.t 3)) .no, .mk (some 15) none (.call 42 [.t 13, .t 14]) .no, .mk (some 4) none (.mov (.t 15)) .no, .mk (some 5) none (.mov (.c (.one (.st (.int .i64 0)))))
  .no])
  .ret)))
theorem tr_match_Encompasses : trCode Try.prog 16 [] (Try.f17.body.getD .skip) = some ir_match_Encompasses := by kernel_rfl
theorem ac_match_Encompasses {xs : List AV} {r : AV} (hn : xs.length ≤ 16) (h : ∀ C : Ctx, C.n = 16 → IWP Try.prog C [] ir_match_Encompasses (FinQ [.t 4, .t 5] r) (AS.start xs)) : ACalls Try.prog 17 xs r :=
  acalls_of Try.func17 rfl tr_match_Encompasses rfl hn h
theorem acS_match_Encompasses {xs : List AV} {S S' : AStore} {r : AV} (hn : xs.length ≤ 16) (h : Clean S → ∀ C : Ctx, C.n = 16 → IWP Try.prog C [] ir_match_Encompasses (FinS C [.t 4, .t 5] r S') (AS.startS xs S)) : ACallsS Try.prog 17 xs S r S' :=
  acallsS_of Try.func17 rfl tr_match_Encompasses rfl hn h

def ir_R_matched : IR :=
  (.seq
  (.ops
  [.mk (some 3) none (.box 24 (.t 0)) .no, .mk (some 4) none (.box 24 (.t 1)) .no, .mk (some 6) none (.mov (.c (.one (.full []))))
  .no, .mk (some 7) none (.mov (.c (.one (.st (.bool false)))))
  .no])
  (.seq
  (.seq
  (.ops
  [.mk (some 13) none (.fieldAddr 0 (.t 3)) .no, .mk (some 14) none (.load false 1 (.t 13)) .no, .mk (some 15) none (.call 50 [.t 14]) .no])
  (.cond (.t 15)
  (.seq
  (.ops
  [.mk (some 17) none (.mov (.t 2)) .no, .mk (some 18) none (.fieldAddr 0 (.t 3)) .no, .mk (some 19) none (.load false 1 (.t 18)) .no, .mk (some 20) none (.call 63 [.t 17, .t 19]) .no, .mk (some 16) none (.mov (.t 20)) .no, .mk (some 21) none (.extract 0 (.t 16)) .no, .mk (some 22) none (.extract 1 (.t 16)) .no, .mk (some 8) none
  (.alloc 24 [.st (.str (ByteArray.mk (#[]))), .full []])
  .no, .mk none none (.store 2 (.t 8) (.t 21)) .no, .mk (some 9) none (.mov (.t 22)) .no])
  (.seq
  (.seq
  (.ops [.mk (some 23) none (.mov (.t 9)) .no])
  (.cond (.t 23)
  (.seq
  (.ops
  [.mk (some 24) none (.mov (.t 2)) .no, .mk (some 25) none (.load true 2 (.t 8)) .no, .mk (some 26) none (.load true 2 (.t 4)) .no, .mk (some 27) none (.call 26 [.t 25, .t 26])
  .no, .mk (some 6) none (.mov (.t 24)) .no, .mk (some 7) none (.mov (.t 27)) .no])
  .ret)
  .skip))
  (.seq
  (.ops
  [.mk (some 28) none (.mov (.t 2)) .no, .mk (some 29) none (.fieldAddr 0 (.t 3)) .no, .mk (some 30) none (.load false 1 (.t 29)) .no, .mk (some 31) none (.load true 2 (.t 4)) .no, .mk (some 32) none
  (.build
  [.st (.str (ByteArray.mk (#[]))), .st (.str (ByteArray.mk (#[]))),
  .full []]
  [(0, 1, .t 30), (1, 2, .t 31)])
  .no, .mk (some 33) none (.buildSlice false 63 3 [.t 32]) .no, .mk (some 34) none (.append false 63 3 56 (.t 28) (.t 33))
  .no, .mk (some 6) none (.mov (.t 34)) .no, .mk (some 7) none (.mov (.c (.one (.st (.bool true)))))
  .no])
  .ret)))
  .skip))
  (.seq
  (.seq
  (.ops
  [.mk (some 35) none (.fieldAddr 0 (.t 3)) .no, .mk (some 36) none (.load false 1 (.t 35)) .no, .mk (some 37) none (.fieldAddr 0 (.t 4)) .no, .mk (some 38) none (.load false 1 (.t 37)) .no, .mk (some 39) none (.bin .neq (.t 36) (.t 38))
  .no, .mk (some 40) none (.mov (.t 39)) .no, .mk (some 41) (some (40, false)) (.fieldAddr 1 (.t 3)) .no, .mk (some 42) (some (40, false)) (.load false 1 (.t 41)) .no, .mk (some 43) (some (40, false)) (.len false (.t 42)) .no, .mk (some 44) (some (40, false)) (.fieldAddr 1 (.t 4)) .no, .mk (some 45) (some (40, false)) (.load false 1 (.t 44)) .no, .mk (some 46) (some (40, false)) (.len false (.t 45)) .no, .mk (some 47) (some (40, false)) (.bin .neq (.t 43) (.t 46))
  .no, .mk (some 48) none
  (.pick (.t 40) (.c (.one (.st (.bool true)))) (.t 47))
  .no])
  (.cond (.t 48)
  (.seq
  (.ops
  [.mk (some 6) none (.mov (.c (.one (.full []))))
  .no, .mk (some 7) none (.mov (.c (.one (.st (.bool false)))))
  .no])
  .ret)
  .skip))
  (.seq
  (.seq
  (.ops
  [.mk (some 10) none (.mov (.c (.one (.st (.int .i64 0)))))
  .no])
  (.block 0
  (.loop
  (.seq
  (.seq
  (.ops
  [.mk (some 49) none (.mov (.t 10)) .no, .mk (some 50) none (.fieldAddr 1 (.t 3)) .no, .mk (some 51) none (.load false 1 (.t 50)) .no, .mk (some 52) none (.len false (.t 51)) .no, .mk (some 53) none (.bin .lss (.t 49) (.t 52))
  .no])
  (.cond (.t 53) .skip (.exit 0)))
  (.seq
  (.block 1
  (.seq
  (.ops
  [.mk (some 57) none (.fieldAddr 1 (.t 3)) .no, .mk (some 58) none (.load false 1 (.t 57)) .no, .mk (some 59) none (.mov (.t 10)) .no, .mk (some 60) none (.indexAddr 2 (.t 58) (.t 59))
  .no, .mk (some 61) none (.load true 2 (.t 60)) .no, .mk (some 62) none (.fieldAddr 1 (.t 4)) .no, .mk (some 63) none (.load false 1 (.t 62)) .no, .mk (some 64) none (.mov (.t 10)) .no, .mk (some 65) none (.indexAddr 2 (.t 63) (.t 64))
  .no, .mk (some 66) none (.load true 2 (.t 65)) .no, .mk (some 67) none (.mov (.t 2)) .no, .mk (some 68) none
  (.callS 37 [.t 61, .t 66, .t 67]) .no, .mk (some 56) none (.mov (.t 68)) .no, .mk (some 69) none (.extract 0 (.t 56)) .no, .mk (some 70) none (.extract 1 (.t 56)) .no, .mk (some 11) none (.mov (.t 69)) .no, .mk (some 12) none (.mov (.t 70)) .no])
  (.seq
  (.seq
  (.ops
  [.mk (some 71) none (.mov (.t 12)) .no, .mk (some 72) none (.un .not (.t 71)) .no])
  (.cond (.t 72)
  (.seq
  (.ops
  [.mk (some 6) none (.mov (.c (.one (.full [])))) .no, .mk (some 7) none (.mov (.c (.one (.st (.bool false)))))
  .no])
  .ret)
  .skip))
  (.ops
  [.mk (some 73) none (.mov (.t 11)) .no, .mk (some 2) none (.mov (.t 73)) .no]))))
  (.ops
  [.mk (some 54) none (.mov (.t 10)) .no, .mk (some 55) none (.bin .add (.t 54) (.c (.one (.st (.int .i64 1)))))
  .no, .mk (some 10) none (.mov (.t 55)) .no]))))))
  (.seq
  (.ops
  [.mk (some 74) none (.mov (.t 2)) .no, .mk (some 6) none (.mov (.t 74)) .no, .mk (some 7) none (.mov (.c (.one (.st (.bool true)))))
  .no])
  .ret)))))
theorem tr_R_matched : trCode Try.prog 75 [68] (Try.f37.body.getD .skip) = some ir_R_matched := by kernel_rfl
theorem ac_R_matched {xs : List AV} {r : AV} (hn : xs.length ≤ 75) (h : ∀ C : Ctx, C.n = 75 → IWP Try.prog C [68] ir_R_matched (FinQ [.t 6, .t 7] r) (AS.start xs)) : ACalls Try.prog 37 xs r :=
  acalls_of Try.func37 rfl tr_R_matched rfl hn h
theorem acS_R_matched {xs : List AV} {S S' : AStore} {r : AV} (hn : xs.length ≤ 75) (h : Clean S → ∀ C : Ctx, C.n = 75 → IWP Try.prog C [68] ir_R_matched (FinS C [.t 6, .t 7] r S') (AS.startS xs S)) : ACallsS Try.prog 37 xs S r S' :=
  acallsS_of Try.func37 rfl tr_R_matched rfl hn h

def ir_R_MatchOf : IR :=
  (.seq
  (.ops
  [.mk (some 2) none (.box 24 (.t 0)) .no, .mk (some 3) none (.box 24 (.t 1)) .no, .mk (some 4) none (.mov (.c (.one (.full []))))
  .no, .mk (some 5) none (.mov (.c (.one (.st (.bool false)))))
  .no])
  (.seq
  (.ops
  [.mk (some 9) none (.load true 2 (.t 2)) .no, .mk (some 10) none (.load true 2 (.t 3)) .no, .mk (some 11) none
  (.callS 37
  [.t 9, .t 10, .c (.one (.full []))])
  .no, .mk (some 8) none (.mov (.t 11)) .no, .mk (some 12) none (.extract 0 (.t 8)) .no, .mk (some 13) none (.extract 1 (.t 8)) .no, .mk (some 6) none (.mov (.t 12)) .no, .mk (some 7) none (.mov (.t 13)) .no])
  (.seq
  (.seq
  (.ops
  [.mk (some 14) none (.mov (.t 7)) .no, .mk (some 15) none (.un .not (.t 14)) .no])
  (.cond (.t 15)
  (.seq
  (.ops
  [.mk (some 4) none (.mov (.c (.one (.full []))))
  .no, .mk (some 5) none (.mov (.c (.one (.st (.bool false)))))
  .no])
  .ret)
  .skip))
  (.seq
  (.ops
  [.mk (some 16) none (.mov (.t 6)) .no, .mk (some 17) none (.call 38 [.t 16]) .no, .mk (some 4) none (.mov (.t 17)) .no, .mk (some 5) none (.mov (.c (.one (.st (.bool true)))))
  .no])
  .ret))))
theorem tr_R_MatchOf : trCode Try.prog 18 [11] (Try.f12.body.getD .skip) = some ir_R_MatchOf := by kernel_rfl
theorem ac_R_MatchOf {xs : List AV} {r : AV} (hn : xs.length ≤ 18) (h : ∀ C : Ctx, C.n = 18 → IWP Try.prog C [11] ir_R_MatchOf (FinQ [.t 4, .t 5] r) (AS.start xs)) : ACalls Try.prog 12 xs r :=
  acalls_of Try.func12 rfl tr_R_MatchOf rfl hn h
theorem acS_R_MatchOf {xs : List AV} {S S' : AStore} {r : AV} (hn : xs.length ≤ 18) (h : Clean S → ∀ C : Ctx, C.n = 18 → IWP Try.prog C [11] ir_R_MatchOf (FinS C [.t 4, .t 5] r S') (AS.startS xs S)) : ACallsS Try.prog 12 xs S r S' :=
  acallsS_of Try.func12 rfl tr_R_MatchOf rfl hn h

def ir_R_VariantOf : IR :=
  (.seq
  (.ops
  [.mk (some 2) none (.box 24 (.t 0)) .no, .mk (some 3) none (.box 24 (.t 1)) .no, .mk (some 4) none (.mov (.c (.one (.st (.bool false)))))
  .no])
  (.seq
  (.ops
  [.mk (some 10) none (.load true 2 (.t 2)) .no, .mk (some 11) none (.load true 2 (.t 3)) .no, .mk (some 12) none (.call 12 [.t 10, .t 11]) .no, .mk (some 9) none (.mov (.t 12)) .no, .mk (some 13) none (.extract 0 (.t 9)) .no, .mk (some 14) none (.extract 1 (.t 9)) .no, .mk (some 5) none (.mov (.t 13)) .no, .mk (some 6) none (.mov (.t 14)) .no])
  (.seq
  (.ops
  [.mk (some 16) none (.load true 2 (.t 3)) .no, .mk (some 17) none (.load true 2 (.t 2)) .no, .mk (some 18) none (.call 12 [.t 16, .t 17]) .no, .mk (some 15) none (.mov (.t 18)) .no, .mk (some 19) none (.extract 0 (.t 15)) .no, .mk (some 20) none (.extract 1 (.t 15)) .no, .mk (some 7) none (.mov (.t 19)) .no, .mk (some 8) none (.mov (.t 20)) .no])
  (.seq
  (.ops
  [.mk (some 21) none (.mov (.t 6)) .no, .mk (some 22) none (.mov (.t 21)) .no, .mk (some 23) (some (22, true)) (.mov (.t 8)) .no, .mk (some 24) none
  (.pick (.t 22) (.t 23) (.c (.one (.st (.bool false)))))
  .no, .mk (some 4) none (.mov (.t 24)) .no])
  .ret))))
theorem tr_R_VariantOf : trCode Try.prog 25 [] (Try.f13.body.getD .skip) = some ir_R_VariantOf := by kernel_rfl
theorem ac_R_VariantOf {xs : List AV} {r : AV} (hn : xs.length ≤ 25) (h : ∀ C : Ctx, C.n = 25 → IWP Try.prog C [] ir_R_VariantOf (FinQ [.t 4] r) (AS.start xs)) : ACalls Try.prog 13 xs r :=
  acalls_of Try.func13 rfl tr_R_VariantOf rfl hn h
theorem acS_R_VariantOf {xs : List AV} {S S' : AStore} {r : AV} (hn : xs.length ≤ 25) (h : Clean S → ∀ C : Ctx, C.n = 25 → IWP Try.prog C [] ir_R_VariantOf (FinS C [.t 4] r S') (AS.startS xs S)) : ACallsS Try.prog 13 xs S r S' :=
  acallsS_of Try.func13 rfl tr_R_VariantOf rfl hn h

def ir_R_HasCase : IR :=
  (.seq
  (.ops
  [.mk (some 2) none (.box 24 (.t 0)) .no, .mk (some 3) none (.box 24 (.t 1)) .no, .mk (some 4) none (.mov (.c (.one (.st (.bool false)))))
  .no])
  (.seq
  (.ops
  [.mk (some 9) none (.load true 2 (.t 2)) .no, .mk (some 10) none (.call 39 [.t 9]) .no, .mk (some 5) none (.mov (.t 10)) .no])
  (.seq
  (.seq
  (.ops
  [.mk (some 6) none (.mov (.c (.one (.st (.int .i64 0)))))
  .no])
  (.block 0
  (.loop
  (.seq
  (.seq
  (.ops
  [.mk (some 11) none (.mov (.t 6)) .no, .mk (some 12) none (.mov (.t 5)) .no, .mk (some 13) none (.len false (.t 12)) .no, .mk (some 14) none (.bin .lss (.t 11) (.t 13))
  .no])
  (.cond (.t 14) .skip (.exit 0)))
  (.seq
  (.block 1
  (.seq
  (.ops
  [.mk (some 18) none (.load true 2 (.t 3)) .no, .mk (some 19) none (.mov (.t 5)) .no, .mk (some 20) none (.mov (.t 6)) .no, .mk (some 21) none (.indexAddr 2 (.t 19) (.t 20))
  .no, .mk (some 22) none (.load true 2 (.t 21)) .no, .mk (some 23) none (.call 12 [.t 18, .t 22])
  .no, .mk (some 17) none (.mov (.t 23)) .no, .mk (some 24) none (.extract 0 (.t 17)) .no, .mk (some 25) none (.extract 1 (.t 17)) .no, .mk (some 7) none (.mov (.t 24)) .no, .mk (some 8) none (.mov (.t 25)) .no])
  (.seq
  (.ops
  [.mk (some 26) none (.mov (.t 8)) .no])
  (.cond (.t 26)
  (.seq
  (.ops
  [.mk (some 4) none (.mov (.c (.one (.st (.bool true)))))
  .no])
  .ret)
  .skip))))
  (.ops
  [.mk (some 15) none (.mov (.t 6)) .no, .mk (some 16) none (.bin .add (.t 15) (.c (.one (.st (.int .i64 1)))))
  .no, .mk (some 6) none (.mov (.t 16)) .no]))))))
  (.seq
  (.ops
  [.mk (some 4) none (.mov (.c (.one (.st (.bool false)))))
  .no])
  .ret))))
theorem tr_R_HasCase : trCode Try.prog 27 [] (Try.f14.body.getD .skip) = some ir_R_HasCase := by kernel_rfl
theorem ac_R_HasCase {xs : List AV} {r : AV} (hn : xs.length ≤ 27) (h : ∀ C : Ctx, C.n = 27 → IWP Try.prog C [] ir_R_HasCase (FinQ [.t 4] r) (AS.start xs)) : ACalls Try.prog 14 xs r :=
  acalls_of Try.func14 rfl tr_R_HasCase rfl hn h
theorem acS_R_HasCase {xs : List AV} {S S' : AStore} {r : AV} (hn : xs.length ≤ 27) (h : Clean S → ∀ C : Ctx, C.n = 27 → IWP Try.prog C [] ir_R_HasCase (FinS C [.t 4] r S') (AS.startS xs S)) : ACallsS Try.prog 14 xs S r S' :=
  acallsS_of Try.func14 rfl tr_R_HasCase rfl hn h

def ir_L_MatchSays : IR :=
  (.seq
  (.ops
  [.mk (some 2) none (.box 24 (.t 0)) .no, .mk (some 3) none (.box 24 (.t 1)) .no, .mk (some 4) none (.mov (.c (.one (.st (.bool false)))))
  .no])
  (.seq
  (.seq
  (.ops
  [.mk (some 17) none (.load true 2 (.t 2)) .no, .mk (some 18) none (.call 10 [.t 17]) .no, .mk (some 19) none (.mov (.t 18)) .no, .mk (some 20) (some (19, false)) (.load true 2 (.t 3)) .no, .mk (some 21) (some (19, false)) (.call 10 [.t 20]) .no, .mk (some 22) none
  (.pick (.t 19) (.c (.one (.st (.bool true)))) (.t 21))
  .no])
  (.cond (.t 22)
  (.seq
  (.ops
  [.mk (some 4) none (.mov (.c (.one (.st (.bool true)))))
  .no])
  .ret)
  .skip))
  (.seq
  (.ops
  [.mk (some 23) none (.load true 2 (.t 2)) .no, .mk (some 24) none (.load true 2 (.t 3)) .no, .mk (some 25) none (.call 11 [.t 23, .t 24]) .no, .mk (some 5) none (.mov (.t 25)) .no])
  (.seq
  (.ops
  [.mk (some 6) none (.mov (.c (.one (.full []))))
  .no])
  (.seq
  (.ops
  [.mk (some 7) none (.mov (.c (.one (.st (.bool false)))))
  .no])
  (.seq
  (.ops
  [.mk (some 8) none (.mov (.c (.one (.st (.bool false)))))
  .no])
  (.seq
  (.ops
  [.mk (some 9) none (.mov (.c (.one (.st (.bool false)))))
  .no])
  (.seq
  (.seq
  (.ops
  [.mk (some 26) none (.mov (.t 5)) .no, .mk (some 27) none (.bin .eql (.t 26) (.c (.one (.st (.int .i64 0)))))
  .no])
  (.cond (.t 27)
  (.seq
  (.ops
  [.mk (some 29) none (.load true 2 (.t 2)) .no, .mk (some 30) none (.load true 2 (.t 3)) .no, .mk (some 31) none (.call 12 [.t 29, .t 30])
  .no, .mk (some 28) none (.mov (.t 31)) .no, .mk (some 32) none (.extract 0 (.t 28)) .no, .mk (some 33) none (.extract 1 (.t 28)) .no, .mk (some 6) none (.mov (.t 32)) .no, .mk (some 7) none (.mov (.t 33)) .no])
  (.seq
  (.ops
  [.mk (some 34) none (.load true 2 (.t 2)) .no, .mk (some 35) none (.load true 2 (.t 3)) .no, .mk (some 36) none (.call 13 [.t 34, .t 35])
  .no, .mk (some 8) none (.mov (.t 36)) .no])
  (.ops
  [.mk (some 37) none (.load true 2 (.t 2)) .no, .mk (some 38) none (.load true 2 (.t 3)) .no, .mk (some 39) none (.call 14 [.t 37, .t 38])
  .no, .mk (some 9) none (.mov (.t 39)) .no])))
  .skip))
  (.seq
  (.ops
  [.mk (some 41) none (.load true 2 (.t 2)) .no, .mk (some 42) none (.load true 2 (.t 3)) .no, .mk (some 43) none (.call 15 [.t 41, .t 42])
  .no, .mk (some 40) none (.mov (.t 43)) .no, .mk (some 44) none (.extract 0 (.t 40)) .no, .mk (some 45) none (.extract 1 (.t 40)) .no, .mk (some 46) none (.extract 2 (.t 40)) .no, .mk (some 10) none (.mov (.t 44)) .no, .mk (some 11) none (.mov (.t 45)) .no, .mk (some 12) none (.mov (.t 46)) .no])
  (.seq
  (.ops
  [.mk (some 48) none (.load true 2 (.t 2)) .no, .mk (some 49) none (.load true 2 (.t 3)) .no, .mk (some 50) none (.call 16 [.t 48, .t 49])
  .no, .mk (some 47) none (.mov (.t 50)) .no, .mk (some 51) none (.extract 0 (.t 47)) .no, .mk (some 52) none (.extract 1 (.t 47)) .no, .mk (some 13) none (.mov (.t 51)) .no, .mk (some 14) none (.mov (.t 52)) .no])
  (.seq
  (.ops
  [.mk (some 54) none (.load true 2 (.t 2)) .no, .mk (some 55) none (.load true 2 (.t 3)) .no, .mk (some 56) none (.call 17 [.t 54, .t 55])
  .no, .mk (some 53) none (.mov (.t 56)) .no, .mk (some 57) none (.extract 0 (.t 53)) .no, .mk (some 58) none (.extract 1 (.t 53)) .no, .mk (some 15) none (.mov (.t 57)) .no, .mk (some 16) none (.mov (.t 58)) .no])
  (.seq
  (.ops
  [.mk (some 59) none (.mov (.t 10)) .no, .mk (some 60) none (.mov (.t 6)) .no, .mk (some 61) none (.call 18 [.t 59, .t 60])
  .no, .mk (some 62) none (.mov (.t 61)) .no, .mk (some 63) (some (62, true)) (.mov (.t 11)) .no, .mk (some 64) (some (62, true)) (.mov (.t 7)) .no, .mk (some 65) (some (62, true))
  (.eqB false (.t 63) (.t 64)) .no, .mk (some 66) none
  (.pick (.t 62) (.t 65) (.c (.one (.st (.bool false)))))
  .no, .mk (some 67) none (.mov (.t 66)) .no, .mk (some 68) (some (67, true)) (.mov (.t 12)) .no, .mk (some 69) (some (67, true)) (.mov (.t 5)) .no, .mk (some 70) (some (67, true)) (.bin .eql (.t 68) (.t 69)) .no, .mk (some 71) none
  (.pick (.t 67) (.t 70) (.c (.one (.st (.bool false)))))
  .no, .mk (some 72) none (.mov (.t 71)) .no, .mk (some 73) (some (72, true)) (.mov (.t 13)) .no, .mk (some 74) (some (72, true)) (.mov (.t 8)) .no, .mk (some 75) (some (72, true))
  (.eqB false (.t 73) (.t 74)) .no, .mk (some 76) none
  (.pick (.t 72) (.t 75) (.c (.one (.st (.bool false)))))
  .no, .mk (some 77) none (.mov (.t 76)) .no, .mk (some 78) (some (77, true)) (.mov (.t 14)) .no, .mk (some 79) (some (77, true)) (.mov (.t 5)) .no, .mk (some 80) (some (77, true)) (.bin .eql (.t 78) (.t 79)) .no, .mk (some 81) none
  (.pick (.t 77) (.t 80) (.c (.one (.st (.bool false)))))
  .no, .mk (some 82) none (.mov (.t 81)) .no, .mk (some 83) (some (82, true)) (.mov (.t 15)) .no, .mk (some 84) (some (82, true)) (.mov (.t 9)) .no, .mk (some 85) (some (82, true))
  (.eqB false (.t 83) (.t 84)) .no, .mk (some 86) none
  (.pick (.t 82) (.t 85) (.c (.one (.st (.bool false)))))
  .no, .mk (some 87) none (.mov (.t 86)) .no, .mk (some 88) (some (87, true)) (.mov (.t 16)) .no, .mk (some 89) (some (87, true)) (.mov (.t 5)) .no, .mk (some 90) (some (87, true)) (.bin .eql (.t 88) (.t 89)) .no, .mk (some 91) none
  (.pick (.t 87) (.t 90) (.c (.one (.st (.bool false)))))
  .no, .mk (some 4) none (.mov (.t 91)) .no])
  .ret))))))))))))
theorem tr_L_MatchSays : trCode Try.prog 92 [] (Try.f3.body.getD .skip) = some ir_L_MatchSays := by kernel_rfl
theorem ac_L_MatchSays {xs : List AV} {r : AV} (hn : xs.length ≤ 92) (h : ∀ C : Ctx, C.n = 92 → IWP Try.prog C [] ir_L_MatchSays (FinQ [.t 4] r) (AS.start xs)) : ACalls Try.prog 3 xs r :=
  acalls_of Try.func3 rfl tr_L_MatchSays rfl hn h
theorem acS_L_MatchSays {xs : List AV} {S S' : AStore} {r : AV} (hn : xs.length ≤ 92) (h : Clean S → ∀ C : Ctx, C.n = 92 → IWP Try.prog C [] ir_L_MatchSays (FinS C [.t 4] r S') (AS.startS xs S)) : ACallsS Try.prog 3 xs S r S' :=
  acallsS_of Try.func3 rfl tr_L_MatchSays rfl hn h

end Go.Proofs.Ytpajlfdhmjgpnaa
