/-
  Lambda terms: the walks of moving what is bound, and of putting in.
  Conditions: none.
-/
import Derived.Test.YtecjikegppjdiaaDoorBLam
namespace Go.Proofs.YtecjikegppjdiaaDoor
open Go Go.RowKit
set_option linter.unusedVariables false
set_option linter.unusedSimpArgs false
set_option maxHeartbeats 400000

theorem lV_a (i : Int) : ACalls Tryd.prog 54 [aInt i] (aLm (.mk 1 i [])) := by
  refine ac_lambda_V (Nat.le_of_ble_eq_true rfl) fun C hC => ?_
  unfold ir_lambda_V
  repeat' (first | (with_reducible first | refine IWP.seq ?_ | refine seqQ_normal ?_ | refine IWP.block ?_ | refine IWP.skip ?_ | refine IWP.exit ?_ | refine IWP.ret ?_ | refine seqQ_exit ?_ | refine seqQ_ret ?_ | refine inBlock_normal ?_ | refine inBlock_here ?_ | refine inBlock_away (by decide) ?_ | refine inBlock_ret ?_ | refine then_exit ?_ | refine then_ret ?_) | ((with_reducible first | refine IWP.ops2 (fun K hK => ?_) | refine IWP.cond ?_ | refine run2_run ?_ | refine keep_run2 ?_); (try simp only [go_sem, List.forall_mem_nil, ↓guard_ite, ↓pick_ite, Nat.reduceEqDiff, Nat.reduceAdd, Nat.reduceSub, Nat.reduceLeDiff, Nat.reduceLT, ↓reduceIte, reduceCtorEq, Int.reduceEq, Int.reduceLT, Int.reduceLE, Int.reduceAdd, Int.reduceSub, Int.reduceToNat, encT_eq, inR_i64, decide_eq_true_eq, decide_eq_false_iff_not, Int.ofNat_lt]); (repeat with_reducible refine And.intro (by first | omega | with_reducible exact lens_encT | with_reducible exact lens_encL | (simp; done) | (simp only [List.length_take, List.length_map, List.length_append, maxLen_eq]; omega)) ?_); (try (with_reducible refine hK _ ?_; clear hK K)); (try with_reducible refine ite_conj ?_)))
  simp only [go_sem, List.forall_mem_nil, ↓guard_ite, ↓pick_ite, Nat.reduceEqDiff, Nat.reduceAdd, Nat.reduceSub, Nat.reduceLeDiff, Nat.reduceLT, ↓reduceIte, reduceCtorEq, Int.reduceEq, Int.reduceLT, Int.reduceLE, Int.reduceAdd, Int.reduceSub, Int.reduceToNat, FinQ, AS.result, resAll, resOne, tupV]
  rfl
theorem lVar_a (i : Int) : ACalls Tryd.prog 32 [aInt i] (aLm (.mk 1 i [])) := by
  refine ac_R_Var (Nat.le_of_ble_eq_true rfl) fun C hC => ?_
  unfold ir_R_Var
  repeat' (first | (with_reducible first | refine IWP.seq ?_ | refine seqQ_normal ?_ | refine IWP.block ?_ | refine IWP.skip ?_ | refine IWP.exit ?_ | refine IWP.ret ?_ | refine seqQ_exit ?_ | refine seqQ_ret ?_ | refine inBlock_normal ?_ | refine inBlock_here ?_ | refine inBlock_away (by decide) ?_ | refine inBlock_ret ?_ | refine then_exit ?_ | refine then_ret ?_) | ((with_reducible first | refine IWP.ops2 (fun K hK => ?_) | refine IWP.cond ?_ | refine run2_run ?_ | refine keep_run2 ?_); (try simp only [go_sem, List.forall_mem_nil, ↓guard_ite, ↓pick_ite, Nat.reduceEqDiff, Nat.reduceAdd, Nat.reduceSub, Nat.reduceLeDiff, Nat.reduceLT, ↓reduceIte, reduceCtorEq, Int.reduceEq, Int.reduceLT, Int.reduceLE, Int.reduceAdd, Int.reduceSub, Int.reduceToNat, encT_eq, inR_i64, decide_eq_true_eq, decide_eq_false_iff_not, Int.ofNat_lt]); (repeat with_reducible refine And.intro (by first | omega | with_reducible exact lens_encT | with_reducible exact lens_encL | (simp; done) | (simp only [List.length_take, List.length_map, List.length_append, maxLen_eq]; omega)) ?_); (try (with_reducible refine hK _ ?_; clear hK K)); (try with_reducible refine ite_conj ?_)))
  simp only [go_sem, List.forall_mem_nil, ↓guard_ite, ↓pick_ite, Nat.reduceEqDiff, Nat.reduceAdd, Nat.reduceSub, Nat.reduceLeDiff, Nat.reduceLT, ↓reduceIte, reduceCtorEq, Int.reduceEq, Int.reduceLT, Int.reduceLE, Int.reduceAdd, Int.reduceSub, Int.reduceToNat, FinQ, AS.result, resAll, resOne, tupV]
  rfl

/-- One term in a row. -/
abbrev aLm1 (x : Lm) : AV := .one (.st (.list [[.int .i64 x.kind, .int .i64 x.idx, .list (x.subs.map encL)]]))
end Go.Proofs.YtecjikegppjdiaaDoor
