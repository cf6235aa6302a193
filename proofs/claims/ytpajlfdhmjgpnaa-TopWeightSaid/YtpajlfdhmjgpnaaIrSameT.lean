/-
  The program's functions in abstract operations: written by a program of mine out of the translation; each is shown to be the translation's.
  Conditions: none.
-/
import Derived.Test.YtpajlfdhmjgpnaaBVars
namespace Go.Proofs.Ytpajlfdhmjgpnaa
open Go Go.RowKit
set_option maxRecDepth 100000

def ir_slices_EqualFunc_metaprune_api_Term_metaprune_api_Term_metaprune_api_Term_metaprune_api_Term : IR :=
  (.seq
  (.ops
  [.mk (some 6) none (.mov (.c (.one (.st (.bool false)))))
  .no])
  (.seq
  (.seq
  (.ops
  [.mk (some 10) none (.mov (.t 0)) .no, .mk (some 11) none (.len false (.t 10)) .no, .mk (some 12) none (.mov (.t 1)) .no, .mk (some 13) none (.len false (.t 12)) .no, .mk (some 14) none (.bin .neq (.t 11) (.t 13))
  .no])
  (.cond (.t 14)
  (.seq
  (.ops
  [.mk (some 6) none (.mov (.c (.one (.st (.bool false)))))
  .no])
  .ret)
  .skip))
  (.seq
  (.seq
  (.ops
  [.mk (some 15) none (.mov (.t 0)) .no, .mk (some 16) none (.len false (.t 15)) .no, .mk (some 17) none (.mov (.c (.one (.st (.int .i64 0)))))
  .no])
  (.block 0
  (.loop
  (.seq
  (.ops
  [.mk (some 18) none (.bin .lss (.t 17) (.t 16))
  .no])
  (.seq (.cond (.t 18) .skip (.exit 0))
  (.seq
  (.block 1
  (.seq
  (.ops
  [.mk (some 19) none (.mov (.t 17)) .no, .mk (some 20) none (.indexAddr 2 (.t 15) (.t 17))
  .no, .mk (some 21) none (.load true 2 (.t 20)) .no, .mk (some 8) none
  (.alloc 24 [.st (.str (ByteArray.mk (#[]))), .full []])
  .no, .mk (some 7) none (.mov (.t 19)) .no, .mk none none (.store 2 (.t 8) (.t 21))
  .no])
  (.seq
  (.ops
  [.mk (some 22) none (.mov (.t 1)) .no, .mk (some 23) none (.mov (.t 7)) .no, .mk (some 24) none (.indexAddr 2 (.t 22) (.t 23))
  .no, .mk (some 25) none (.load true 2 (.t 24)) .no, .mk (some 9) none
  (.alloc 24 [.st (.str (ByteArray.mk (#[]))), .full []])
  .no, .mk none none (.store 2 (.t 9) (.t 25))
  .no])
  (.seq
  (.ops
  [.mk (some 26) none (.mov (.t 2)) .no, .mk (some 27) none (.load true 2 (.t 8)) .no, .mk (some 28) none (.load true 2 (.t 9)) .no, .mk (some 29) none
  (.callV (.t 26) [.t 27, .t 28]) .no, .mk (some 30) none (.un .not (.t 29)) .no])
  (.cond (.t 30)
  (.seq
  (.ops
  [.mk (some 6) none (.mov (.c (.one (.st (.bool false)))))
  .no])
  .ret)
  .skip)))))
  (.ops
  [.mk (some 31) none (.bin .add (.t 17) (.c (.one (.st (.int .i64 1)))))
  .no, .mk (some 17) none (.mov (.t 31)) .no])))))))
  (.seq
  (.ops
  [.mk (some 6) none (.mov (.c (.one (.st (.bool true)))))
  .no])
  .ret))))
theorem tr_slices_EqualFunc_metaprune_api_Term_metaprune_api_Term_metaprune_api_Term_metaprune_api_Term : trCode Try.prog 32 [] (Try.f86.body.getD .skip) = some ir_slices_EqualFunc_metaprune_api_Term_metaprune_api_Term_metaprune_api_Term_metaprune_api_Term := by kernel_rfl
theorem ac_slices_EqualFunc_metaprune_api_Term_metaprune_api_Term_metaprune_api_Term_metaprune_api_Term {xs : List AV} {r : AV} (hn : xs.length ≤ 32) (h : ∀ C : Ctx, C.n = 32 → IWP Try.prog C [] ir_slices_EqualFunc_metaprune_api_Term_metaprune_api_Term_metaprune_api_Term_metaprune_api_Term (FinQ [.t 6] r) (AS.start xs)) : ACalls Try.prog 86 xs r :=
  acalls_of Try.func86 rfl tr_slices_EqualFunc_metaprune_api_Term_metaprune_api_Term_metaprune_api_Term_metaprune_api_Term rfl hn h
theorem acS_slices_EqualFunc_metaprune_api_Term_metaprune_api_Term_metaprune_api_Term_metaprune_api_Term {xs : List AV} {S S' : AStore} {r : AV} (hn : xs.length ≤ 32) (h : Clean S → ∀ C : Ctx, C.n = 32 → IWP Try.prog C [] ir_slices_EqualFunc_metaprune_api_Term_metaprune_api_Term_metaprune_api_Term_metaprune_api_Term (FinS C [.t 6] r S') (AS.startS xs S)) : ACallsS Try.prog 86 xs S r S' :=
  acallsS_of Try.func86 rfl tr_slices_EqualFunc_metaprune_api_Term_metaprune_api_Term_metaprune_api_Term_metaprune_api_Term rfl hn h

def ir_term_Same : IR :=
  (.seq
  (.ops
  [.mk (some 2) none (.box 24 (.t 0)) .no, .mk (some 3) none (.box 24 (.t 1)) .no, .mk (some 4) none (.mov (.c (.one (.st (.bool false)))))
  .no])
  (.seq
  (.ops
  [.mk (some 5) none (.fieldAddr 0 (.t 2)) .no, .mk (some 6) none (.load false 1 (.t 5)) .no, .mk (some 7) none (.fieldAddr 0 (.t 3)) .no, .mk (some 8) none (.load false 1 (.t 7)) .no, .mk (some 9) none (.bin .eql (.t 6) (.t 8)) .no, .mk (some 10) none (.mov (.t 9)) .no, .mk (some 11) (some (10, true)) (.fieldAddr 1 (.t 2)) .no, .mk (some 12) (some (10, true)) (.load false 1 (.t 11)) .no, .mk (some 13) (some (10, true)) (.fieldAddr 1 (.t 3)) .no, .mk (some 14) (some (10, true)) (.load false 1 (.t 13)) .no, .mk (some 15) (some (10, true)) (.call 86
  [.t 12, .t 14, .c (.one (.fn 76 []))])
  .no, .mk (some 16) none
  (.pick (.t 10) (.t 15) (.c (.one (.st (.bool false)))))
  .no, .mk (some 4) none (.mov (.t 16)) .no])
  .ret))
theorem tr_term_Same : trCode Try.prog 17 [] (Try.f76.body.getD .skip) = some ir_term_Same := by kernel_rfl
theorem ac_term_Same {xs : List AV} {r : AV} (hn : xs.length ≤ 17) (h : ∀ C : Ctx, C.n = 17 → IWP Try.prog C [] ir_term_Same (FinQ [.t 4] r) (AS.start xs)) : ACalls Try.prog 76 xs r :=
  acalls_of Try.func76 rfl tr_term_Same rfl hn h
theorem acS_term_Same {xs : List AV} {S S' : AStore} {r : AV} (hn : xs.length ≤ 17) (h : Clean S → ∀ C : Ctx, C.n = 17 → IWP Try.prog C [] ir_term_Same (FinS C [.t 4] r S') (AS.startS xs S)) : ACallsS Try.prog 76 xs S r S' :=
  acallsS_of Try.func76 rfl tr_term_Same rfl hn h

end Go.Proofs.Ytpajlfdhmjgpnaa
