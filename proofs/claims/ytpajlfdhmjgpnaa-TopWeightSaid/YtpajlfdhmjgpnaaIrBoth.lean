/-
  The program's functions in abstract operations: written by a program of mine out of the translation; each is shown to be the translation's.
  Conditions: none.
-/
import Derived.Test.YtpajlfdhmjgpnaaBVars
namespace Go.Proofs.Ytpajlfdhmjgpnaa
open Go Go.RowKit
set_option maxRecDepth 100000

def ir_match_Both : IR :=
  (.seq
  (.ops
  [.mk (some 2) none (.box 24 (.t 0)) .no, .mk (some 3) none (.box 24 (.t 1)) .no, .mk (some 4) none (.mov (.c (.one (.st (.int .i64 0)))))
  .no])
  (.seq
  (.seq
  (.ops
  [.mk (some 6) none (.load true 2 (.t 2)) .no, .mk (some 7) none (.call 48 [.t 6]) .no, .mk (some 5) none (.mov (.t 7)) .no])
  (.seq
  (.ops
  [.mk (some 8) none (.mov (.t 5)) .no, .mk (some 9) none (.bin .neq (.t 8) (.c (.one (.st (.int .i64 0)))))
  .no])
  (.cond (.t 9)
  (.seq
  (.ops
  [.mk (some 10) none (.mov (.t 5)) .no, .mk (some 4) none (.mov (.t 10)) .no])
  .ret)
  .skip)))
  (.seq
  (.ops
  [.mk (some 11) none (.load true 2 (.t 3)) .no, .mk (some 12) none (.call 48 [.t 11]) .no, .mk (some 4) none (.mov (.t 12)) .no])
  .ret)))
theorem tr_match_Both : trCode Try.prog 13 [] (Try.f40.body.getD .skip) = some ir_match_Both := by kernel_rfl
theorem ac_match_Both {xs : List AV} {r : AV} (hn : xs.length ≤ 13) (h : ∀ C : Ctx, C.n = 13 → IWP Try.prog C [] ir_match_Both (FinQ [.t 4] r) (AS.start xs)) : ACalls Try.prog 40 xs r :=
  acalls_of Try.func40 rfl tr_match_Both rfl hn h
theorem acS_match_Both {xs : List AV} {S S' : AStore} {r : AV} (hn : xs.length ≤ 13) (h : Clean S → ∀ C : Ctx, C.n = 13 → IWP Try.prog C [] ir_match_Both (FinS C [.t 4] r S') (AS.startS xs S)) : ACallsS Try.prog 40 xs S r S' :=
  acallsS_of Try.func40 rfl tr_match_Both rfl hn h

end Go.Proofs.Ytpajlfdhmjgpnaa
