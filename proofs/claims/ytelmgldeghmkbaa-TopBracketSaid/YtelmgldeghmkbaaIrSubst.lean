/-
  The program's functions in abstract operations: written by a program of mine out of the translation; each is shown to be the translation's.
  Conditions: none.
-/
import Derived.Test.YtelmgldeghmkbaaBVars
namespace Go.Proofs.Ytelmgldeghmkbaa
open Go Go.RowKit
set_option maxRecDepth 100000

def ir_R_For : IR :=
  (.seq
  (.ops
  [.mk (some 4) none
  (.alloc 25 [.st (.str (ByteArray.mk (#[]))), .full []]) .no, .mk (some 5) none (.mov (.c (.one (.st (.bool false)))))
  .no])
  (.seq
  (.seq
  (.ops
  [.mk (some 6) none (.mov (.c (.one (.st (.int .i64 0)))))
  .no])
  (.block 0
  (.loop
  (.seq
  (.seq
  (.ops
  [.mk (some 7) none (.mov (.t 6)) .no, .mk (some 8) none (.mov (.t 0)) .no, .mk (some 9) none (.len false (.t 8)) .no, .mk (some 10) none (.bin .lss (.t 7) (.t 9))
  .no])
  (.cond (.t 10) .skip (.exit 0)))
  (.seq
  (.block 1
  (.seq
  (.ops
  [.mk (some 13) none (.mov (.t 0)) .no, .mk (some 14) none (.mov (.t 6)) .no, .mk (some 15) none (.indexAddr 3 (.t 13) (.t 14))
  .no, .mk (some 16) none (.fieldAddr 0 (.t 15)) .no, .mk (some 17) none (.load false 1 (.t 16)) .no, .mk (some 18) none (.mov (.t 1)) .no, .mk (some 19) none (.bin .eql (.t 17) (.t 18))
  .no])
  (.cond (.t 19)
  (.seq
  (.ops
  [.mk (some 20) none (.mov (.t 0)) .no, .mk (some 21) none (.mov (.t 6)) .no, .mk (some 22) none (.indexAddr 3 (.t 20) (.t 21))
  .no, .mk (some 23) none (.fieldAddr 1 (.t 22)) .no, .mk (some 24) none (.load true 2 (.t 23)) .no, .mk none none (.store 2 (.t 4) (.t 24))
  .no, .mk (some 5) none (.mov (.c (.one (.st (.bool true)))))
  .no])
  .ret)
  .skip)))
  (.ops
  [.mk (some 11) none (.mov (.t 6)) .no, .mk (some 12) none (.bin .add (.t 11) (.c (.one (.st (.int .i64 1)))))
  .no, .mk (some 6) none (.mov (.t 12)) .no]))))))
  (.seq
  (.ops
  [.mk (some 25) none
  (.build [.st (.str (ByteArray.mk (#[]))), .full []] []) .no, .mk none none (.store 2 (.t 4) (.t 25)) .no, .mk (some 5) none (.mov (.c (.one (.st (.bool false)))))
  .no])
  .ret)))
theorem tr_R_For : trCode Try.prog 26 [] (Try.f33.body.getD .skip) = some ir_R_For := by kernel_rfl
theorem ac_R_For {xs : List AV} {r : AV} (hn : xs.length ≤ 26) (h : ∀ C : Ctx, C.n = 26 → IWP Try.prog C [] ir_R_For (FinQ [.cell 4 true 2, .t 5] r) (AS.start xs)) : ACalls Try.prog 33 xs r :=
  acalls_of Try.func33 rfl tr_R_For rfl hn h
theorem acS_R_For {xs : List AV} {S S' : AStore} {r : AV} (hn : xs.length ≤ 26) (h : Clean S → ∀ C : Ctx, C.n = 26 → IWP Try.prog C [] ir_R_For (FinS C [.cell 4 true 2, .t 5] r S') (AS.startS xs S)) : ACallsS Try.prog 33 xs S r S' :=
  acallsS_of Try.func33 rfl tr_R_For rfl hn h

def ir_R_grown : IR :=
  (.seq
  (.ops
  [.mk (some 4) none (.box 25 (.t 1)) .no, .mk (some 6) none (.mov (.c (.one (.st (.int .i64 0)))))
  .no])
  (.seq
  (.ops
  [.mk (some 12) none (.mov (.t 0)) .no, .mk (some 13) none (.fieldAddr 0 (.t 4)) .no, .mk (some 14) none (.load false 1 (.t 13)) .no, .mk (some 15) none (.call 33 [.t 12, .t 14]) .no, .mk (some 11) none (.mov (.t 15)) .no, .mk (some 16) none (.extract 0 (.t 11)) .no, .mk (some 17) none (.extract 1 (.t 11)) .no, .mk (some 7) none
  (.alloc 25 [.st (.str (ByteArray.mk (#[]))), .full []]) .no, .mk none none (.store 2 (.t 7) (.t 16)) .no, .mk (some 8) none (.mov (.t 17)) .no])
  (.seq
  (.seq
  (.ops
  [.mk (some 18) none (.mov (.t 8)) .no, .mk (some 19) none (.mov (.t 18)) .no, .mk (some 20) (some (19, true)) (.fieldAddr 1 (.t 4)) .no, .mk (some 21) (some (19, true)) (.load false 1 (.t 20)) .no, .mk (some 22) (some (19, true)) (.len false (.t 21)) .no, .mk (some 23) (some (19, true)) (.bin .eql (.t 22) (.c (.one (.st (.int .i64 0)))))
  .no, .mk (some 24) none
  (.pick (.t 19) (.t 23) (.c (.one (.st (.bool false)))))
  .no])
  (.cond (.t 24)
  (.seq
  (.ops
  [.mk (some 25) none (.load true 2 (.t 7)) .no, .mk (some 26) none (.mov (.t 2)) .no, .mk (some 27) none (.call 9 [.t 25, .t 26]) .no, .mk (some 6) none (.mov (.t 27)) .no])
  .ret)
  .skip))
  (.seq
  (.ops
  [.mk (some 9) none (.mov (.c (.one (.st (.int .i64 1)))))
  .no])
  (.seq
  (.seq
  (.ops
  [.mk (some 10) none (.mov (.c (.one (.st (.int .i64 0)))))
  .no])
  (.block 0
  (.loop
  (.seq
  (.seq
  (.ops
  [.mk (some 28) none (.mov (.t 10)) .no, .mk (some 29) none (.fieldAddr 1 (.t 4)) .no, .mk (some 30) none (.load false 1 (.t 29)) .no, .mk (some 31) none (.len false (.t 30)) .no, .mk (some 32) none (.bin .lss (.t 28) (.t 31))
  .no, .mk (some 33) none (.mov (.t 32)) .no, .mk (some 34) (some (33, true)) (.mov (.t 9)) .no, .mk (some 35) (some (33, true)) (.mov (.t 2)) .no, .mk (some 36) (some (33, true)) (.bin .leq (.t 34) (.t 35)) .no, .mk (some 37) none
  (.pick (.t 33) (.t 36) (.c (.one (.st (.bool false)))))
  .no])
  (.cond (.t 37) .skip (.exit 0)))
  (.seq
  (.block 1
  (.ops
  [.mk (some 40) none (.mov (.t 9)) .no, .mk (some 41) none (.mov (.t 0)) .no, .mk (some 42) none (.fieldAddr 1 (.t 4)) .no, .mk (some 43) none (.load false 1 (.t 42)) .no, .mk (some 44) none (.mov (.t 10)) .no, .mk (some 45) none (.indexAddr 2 (.t 43) (.t 44))
  .no, .mk (some 46) none (.load true 2 (.t 45)) .no, .mk (some 47) none (.mov (.t 2)) .no, .mk (some 48) none (.mov (.t 9)) .no, .mk (some 49) none (.bin .sub (.t 47) (.t 48))
  .no, .mk (some 50) none (.call 20 [.t 41, .t 46, .t 49]) .no, .mk (some 51) none (.bin .add (.t 40) (.t 50))
  .no, .mk (some 9) none (.mov (.t 51)) .no]))
  (.ops
  [.mk (some 38) none (.mov (.t 10)) .no, .mk (some 39) none (.bin .add (.t 38) (.c (.one (.st (.int .i64 1)))))
  .no, .mk (some 10) none (.mov (.t 39)) .no]))))))
  (.seq
  (.seq
  (.ops
  [.mk (some 52) none (.mov (.t 9)) .no, .mk (some 53) none (.mov (.t 2)) .no, .mk (some 54) none (.bin .gtr (.t 52) (.t 53))
  .no])
  (.cond (.t 54)
  (.seq
  (.ops
  [.mk (some 55) none (.mov (.t 2)) .no, .mk (some 56) none (.bin .add (.t 55) (.c (.one (.st (.int .i64 1)))))
  .no, .mk (some 6) none (.mov (.t 56)) .no])
  .ret)
  .skip))
  (.seq
  (.ops
  [.mk (some 57) none (.mov (.t 9)) .no, .mk (some 6) none (.mov (.t 57)) .no])
  .ret)))))))
theorem tr_R_grown : trCode Try.prog 58 [] (Try.f20.body.getD .skip) = some ir_R_grown := by kernel_rfl
theorem ac_R_grown {xs : List AV} {r : AV} (hn : xs.length ≤ 58) (h : ∀ C : Ctx, C.n = 58 → IWP Try.prog C [] ir_R_grown (FinQ [.t 6] r) (AS.start xs)) : ACalls Try.prog 20 xs r :=
  acalls_of Try.func20 rfl tr_R_grown rfl hn h
theorem acS_R_grown {xs : List AV} {S S' : AStore} {r : AV} (hn : xs.length ≤ 58) (h : Clean S → ∀ C : Ctx, C.n = 58 → IWP Try.prog C [] ir_R_grown (FinS C [.t 6] r S') (AS.startS xs S)) : ACallsS Try.prog 20 xs S r S' :=
  acallsS_of Try.func20 rfl tr_R_grown rfl hn h

def ir_R_on : IR :=
  (.seq
  (.ops
  [.mk (some 3) none (.box 25 (.t 1)) .no, .mk (some 4) none
  (.alloc 25 [.st (.str (ByteArray.mk (#[]))), .full []]) .no])
  (.seq
  (.ops
  [.mk (some 10) none (.mov (.t 0)) .no, .mk (some 11) none (.fieldAddr 0 (.t 3)) .no, .mk (some 12) none (.load false 1 (.t 11)) .no, .mk (some 13) none (.call 33 [.t 10, .t 12]) .no, .mk (some 9) none (.mov (.t 13)) .no, .mk (some 14) none (.extract 0 (.t 9)) .no, .mk (some 15) none (.extract 1 (.t 9)) .no, .mk (some 5) none
  (.alloc 25 [.st (.str (ByteArray.mk (#[]))), .full []]) .no, .mk none none (.store 2 (.t 5) (.t 14)) .no, .mk (some 6) none (.mov (.t 15)) .no])
  (.seq
  (.seq
  (.ops
  [.mk (some 16) none (.mov (.t 6)) .no, .mk (some 17) none (.mov (.t 16)) .no, .mk (some 18) (some (17, true)) (.fieldAddr 1 (.t 3)) .no, .mk (some 19) (some (17, true)) (.load false 1 (.t 18)) .no, .mk (some 20) (some (17, true)) (.len false (.t 19)) .no, .mk (some 21) (some (17, true)) (.bin .eql (.t 20) (.c (.one (.st (.int .i64 0)))))
  .no, .mk (some 22) none
  (.pick (.t 17) (.t 21) (.c (.one (.st (.bool false)))))
  .no])
  (.cond (.t 22)
  (.seq
  (.ops
  [.mk (some 23) none (.load true 2 (.t 5)) .no, .mk none none (.store 2 (.t 4) (.t 23)) .no])
  .ret)
  .skip))
  (.seq
  (.ops
  [.mk (some 24) none (.fieldAddr 0 (.t 3)) .no, .mk (some 25) none (.load false 1 (.t 24)) .no, .mk (some 26) none
  (.build [.st (.str (ByteArray.mk (#[]))), .full []]
  [(0, 1, .t 25)])
  .no, .mk (some 7) none
  (.alloc 25 [.st (.str (ByteArray.mk (#[]))), .full []]) .no, .mk none none (.store 2 (.t 7) (.t 26)) .no])
  (.seq
  (.seq
  (.ops
  [.mk (some 8) none (.mov (.c (.one (.st (.int .i64 0)))))
  .no])
  (.block 0
  (.loop
  (.seq
  (.seq
  (.ops
  [.mk (some 27) none (.mov (.t 8)) .no, .mk (some 28) none (.fieldAddr 1 (.t 3)) .no, .mk (some 29) none (.load false 1 (.t 28)) .no, .mk (some 30) none (.len false (.t 29)) .no, .mk (some 31) none (.bin .lss (.t 27) (.t 30))
  .no])
  (.cond (.t 31) .skip (.exit 0)))
  (.seq
  (.block 1
  (.ops
  [.mk (some 34) none (.fieldAddr 1 (.t 7)) .no, .mk (some 35) none (.load false 1 (.t 34)) .no, .mk (some 36) none (.mov (.t 0)) .no, .mk (some 37) none (.fieldAddr 1 (.t 3)) .no, .mk (some 38) none (.load false 1 (.t 37)) .no, .mk (some 39) none (.mov (.t 8)) .no, .mk (some 40) none (.indexAddr 2 (.t 38) (.t 39))
  .no, .mk (some 41) none (.load true 2 (.t 40)) .no, .mk (some 42) none (.call 21 [.t 36, .t 41])
  .no, .mk (some 43) none (.buildSlice false 25 2 [.t 42]) .no, .mk (some 44) none (.append false 25 2 40 (.t 35) (.t 43))
  .no, .mk (some 45) none (.fieldAddr 1 (.t 7)) .no, .mk none none (.store 1 (.t 45) (.t 44))
  .no]))
  (.ops
  [.mk (some 32) none (.mov (.t 8)) .no, .mk (some 33) none (.bin .add (.t 32) (.c (.one (.st (.int .i64 1)))))
  .no, .mk (some 8) none (.mov (.t 33)) .no]))))))
  (.seq
  (.ops
  [.mk (some 46) none (.load true 2 (.t 7)) .no, .mk none none (.store 2 (.t 4) (.t 46)) .no])
  .ret))))))
theorem tr_R_on : trCode Try.prog 47 [] (Try.f21.body.getD .skip) = some ir_R_on := by kernel_rfl
theorem ac_R_on {xs : List AV} {r : AV} (hn : xs.length ≤ 47) (h : ∀ C : Ctx, C.n = 47 → IWP Try.prog C [] ir_R_on (FinQ [.cell 4 true 2] r) (AS.start xs)) : ACalls Try.prog 21 xs r :=
  acalls_of Try.func21 rfl tr_R_on rfl hn h
theorem acS_R_on {xs : List AV} {S S' : AStore} {r : AV} (hn : xs.length ≤ 47) (h : Clean S → ∀ C : Ctx, C.n = 47 → IWP Try.prog C [] ir_R_on (FinS C [.cell 4 true 2] r S') (AS.startS xs S)) : ACallsS Try.prog 21 xs S r S' :=
  acallsS_of Try.func21 rfl tr_R_on rfl hn h

def ir_R_On : IR :=
  (.seq
  (.ops
  [.mk (some 3) none (.box 25 (.t 1)) .no, .mk (some 4) none
  (.alloc 25 [.st (.str (ByteArray.mk (#[]))), .full []]) .no, .mk (some 5) none (.mov (.c (.one (.st (.bool false)))))
  .no])
  (.seq
  (.seq
  (.ops
  [.mk (some 6) none (.mov (.t 0)) .no, .mk (some 7) none (.load true 2 (.t 3)) .no, .mk (some 8) none (.call 20
  [.t 6, .t 7, .c (.one (.st (.int .i64 2000)))])
  .no, .mk (some 9) none (.bin .gtr (.t 8) (.c (.one (.st (.int .i64 2000)))))
  .no])
  (.cond (.t 9)
  (.seq
  (.ops
  [.mk (some 10) none
  (.build [.st (.str (ByteArray.mk (#[]))), .full []] [])
  .no, .mk none none (.store 2 (.t 4) (.t 10)) .no, .mk (some 5) none (.mov (.c (.one (.st (.bool false)))))
  .no])
  .ret)
  .skip))
  (.seq
  (.ops
  [.mk (some 11) none (.mov (.t 0)) .no, .mk (some 12) none (.load true 2 (.t 3)) .no, .mk (some 13) none (.call 21 [.t 11, .t 12]) .no, .mk none none (.store 2 (.t 4) (.t 13)) .no, .mk (some 5) none (.mov (.c (.one (.st (.bool true)))))
  .no])
  .ret)))
theorem tr_R_On : trCode Try.prog 14 [] (Try.f8.body.getD .skip) = some ir_R_On := by kernel_rfl
theorem ac_R_On {xs : List AV} {r : AV} (hn : xs.length ≤ 14) (h : ∀ C : Ctx, C.n = 14 → IWP Try.prog C [] ir_R_On (FinQ [.cell 4 true 2, .t 5] r) (AS.start xs)) : ACalls Try.prog 8 xs r :=
  acalls_of Try.func8 rfl tr_R_On rfl hn h
theorem acS_R_On {xs : List AV} {S S' : AStore} {r : AV} (hn : xs.length ≤ 14) (h : Clean S → ∀ C : Ctx, C.n = 14 → IWP Try.prog C [] ir_R_On (FinS C [.cell 4 true 2, .t 5] r S') (AS.startS xs S)) : ACallsS Try.prog 8 xs S r S' :=
  acallsS_of Try.func8 rfl tr_R_On rfl hn h

end Go.Proofs.Ytelmgldeghmkbaa
