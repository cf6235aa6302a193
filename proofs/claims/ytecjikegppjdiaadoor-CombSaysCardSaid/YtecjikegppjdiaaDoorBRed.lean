/-
  Lambda terms: the walks of sameness and of the parts.
  Conditions: none.
-/
import Derived.Test.YtecjikegppjdiaaDoorIrRed
import Derived.Test.YtecjikegppjdiaaDoorPRed2
namespace Go.Proofs.YtecjikegppjdiaaDoor
open Go Go.RowKit
set_option linter.unusedVariables false
set_option linter.unusedSimpArgs false
set_option maxHeartbeats 400000

/-! ### sameness, in plain Lean -/
theorem Lm.same_eq (a b : Lm) : a.same b = (decide (a.kind = b.kind) && decide (a.idx = b.idx) && Lm.sames a.subs b.subs) := by cases a; cases b; rfl
theorem Lm.sames_len : ∀ {xs ys : List Lm}, ¬ xs.length = ys.length → Lm.sames xs ys = false
  | [], [], h => absurd rfl h
  | [], _ :: _, _ => rfl
  | _ :: _, [], _ => rfl
  | x :: xs, y :: ys, h => by
    rw [Lm.sames, Lm.sames_len (fun e => h (by simp [e]))]
    simp
theorem Lm.sames_append : ∀ {xs ys us vs : List Lm}, xs.length = ys.length → Lm.sames (xs ++ us) (ys ++ vs) = (Lm.sames xs ys && Lm.sames us vs)
  | [], [], us, vs, _ => by simp [Lm.sames]
  | [], _ :: _, _, _, h => by simp at h
  | _ :: _, [], _, _, h => by simp at h
  | x :: xs, y :: ys, us, vs, h => by
    simp only [List.cons_append, Lm.sames, Lm.sames_append (show xs.length = ys.length by simpa using h), Bool.and_assoc]
theorem Lm.sames_take {xs ys : List Lm} {k : Nat} {x y : Lm} (hl : xs.length = ys.length) (hx : xs[k]? = some x) (hy : ys[k]? = some y) (h : Lm.sames (xs.take k) (ys.take k) = true) : Lm.sames (xs.take (k + 1)) (ys.take (k + 1)) = x.same y := by
  rw [take_snoc hx, take_snoc hy, Lm.sames_append (by simp [hl]), h]
  simp [Lm.sames]
theorem Lm.sames_no {xs ys : List Lm} {k : Nat} (hl : xs.length = ys.length) (h : Lm.sames (xs.take k) (ys.take k) = false) : Lm.sames xs ys = false := by
  have := Lm.sames_append (xs := xs.take k) (ys := ys.take k) (us := xs.drop k) (vs := ys.drop k) (by simp [hl])
  rw [List.take_append_drop, List.take_append_drop, h] at this
  simpa using this

theorem lsameR_a (a b : Lm) : ACalls Tryd.prog 37 [aLm a, aLm b] (aBool (a.same b)) := by
  induction h : SizeOf.sizeOf a using Nat.strongRecOn generalizing a b with
  | _ N ih =>
  subst h
  rw [Lm.same_eq]
  refine ac_R_SameLam (Nat.le_of_ble_eq_true rfl) fun C hC => ?_
  unfold ir_R_SameLam
  refine IWP.learn 0 (by omega) fun hkn => ?_
  have hkn := (known_lm hkn).2.2
  by_cases h1 : a.kind = b.kind
  case neg =>
    repeat' (first | (with_reducible first | refine IWP.seq ?_ | refine seqQ_normal ?_ | refine IWP.block ?_ | refine IWP.skip ?_ | refine IWP.exit ?_ | refine IWP.ret ?_ | refine seqQ_exit ?_ | refine seqQ_ret ?_ | refine inBlock_normal ?_ | refine inBlock_here ?_ | refine inBlock_away (by decide) ?_ | refine inBlock_ret ?_ | refine then_exit ?_ | refine then_ret ?_) | ((with_reducible first | refine IWP.ops2 (fun K hK => ?_) | refine IWP.cond ?_ | refine run2_run ?_ | refine keep_run2 ?_); (try simp only [go_sem, List.forall_mem_nil, ↓guard_ite, ↓pick_ite, Nat.reduceEqDiff, Nat.reduceAdd, Nat.reduceSub, Nat.reduceLeDiff, Nat.reduceLT, ↓reduceIte, reduceCtorEq, Int.reduceEq, Int.reduceLT, Int.reduceLE, Int.reduceAdd, Int.reduceSub, Int.reduceToNat, encT_eq, inR_i64, h1, decide_eq_true_eq, decide_eq_false_iff_not, Int.ofNat_lt]); (repeat with_reducible refine And.intro (by first | omega | with_reducible exact lens_encT | with_reducible exact lens_encL | (simp; done) | (simp only [List.length_take, List.length_map, List.length_append, maxLen_eq]; omega)) ?_); (try (with_reducible refine hK _ ?_; clear hK K)); (try with_reducible refine ite_conj ?_)))
    simp only [go_sem, List.forall_mem_nil, ↓guard_ite, ↓pick_ite, Nat.reduceEqDiff, Nat.reduceAdd, Nat.reduceSub, Nat.reduceLeDiff, Nat.reduceLT, ↓reduceIte, reduceCtorEq, Int.reduceEq, Int.reduceLT, Int.reduceLE, Int.reduceAdd, Int.reduceSub, Int.reduceToNat, FinQ, AS.result, resAll, resOne, tupV, h1]
    try simp
  case pos =>
  by_cases h2 : a.idx = b.idx
  case neg =>
    repeat' (first | (with_reducible first | refine IWP.seq ?_ | refine seqQ_normal ?_ | refine IWP.block ?_ | refine IWP.skip ?_ | refine IWP.exit ?_ | refine IWP.ret ?_ | refine seqQ_exit ?_ | refine seqQ_ret ?_ | refine inBlock_normal ?_ | refine inBlock_here ?_ | refine inBlock_away (by decide) ?_ | refine inBlock_ret ?_ | refine then_exit ?_ | refine then_ret ?_) | ((with_reducible first | refine IWP.ops2 (fun K hK => ?_) | refine IWP.cond ?_ | refine run2_run ?_ | refine keep_run2 ?_); (try simp only [go_sem, List.forall_mem_nil, ↓guard_ite, ↓pick_ite, Nat.reduceEqDiff, Nat.reduceAdd, Nat.reduceSub, Nat.reduceLeDiff, Nat.reduceLT, ↓reduceIte, reduceCtorEq, Int.reduceEq, Int.reduceLT, Int.reduceLE, Int.reduceAdd, Int.reduceSub, Int.reduceToNat, encT_eq, inR_i64, h1, h2, decide_eq_true_eq, decide_eq_false_iff_not, Int.ofNat_lt]); (repeat with_reducible refine And.intro (by first | omega | with_reducible exact lens_encT | with_reducible exact lens_encL | (simp; done) | (simp only [List.length_take, List.length_map, List.length_append, maxLen_eq]; omega)) ?_); (try (with_reducible refine hK _ ?_; clear hK K)); (try with_reducible refine ite_conj ?_)))
    simp only [go_sem, List.forall_mem_nil, ↓guard_ite, ↓pick_ite, Nat.reduceEqDiff, Nat.reduceAdd, Nat.reduceSub, Nat.reduceLeDiff, Nat.reduceLT, ↓reduceIte, reduceCtorEq, Int.reduceEq, Int.reduceLT, Int.reduceLE, Int.reduceAdd, Int.reduceSub, Int.reduceToNat, FinQ, AS.result, resAll, resOne, tupV, h1, h2]
    try simp
  case pos =>
  by_cases h3 : a.subs.length = b.subs.length
  case neg =>
    have h3' : ¬ (a.subs.length : Int) = b.subs.length := by omega
    rw [Lm.sames_len h3]
    repeat' (first | (with_reducible first | refine IWP.seq ?_ | refine seqQ_normal ?_ | refine IWP.block ?_ | refine IWP.skip ?_ | refine IWP.exit ?_ | refine IWP.ret ?_ | refine seqQ_exit ?_ | refine seqQ_ret ?_ | refine inBlock_normal ?_ | refine inBlock_here ?_ | refine inBlock_away (by decide) ?_ | refine inBlock_ret ?_ | refine then_exit ?_ | refine then_ret ?_) | ((with_reducible first | refine IWP.ops2 (fun K hK => ?_) | refine IWP.cond ?_ | refine run2_run ?_ | refine keep_run2 ?_); (try simp only [go_sem, List.forall_mem_nil, ↓guard_ite, ↓pick_ite, Nat.reduceEqDiff, Nat.reduceAdd, Nat.reduceSub, Nat.reduceLeDiff, Nat.reduceLT, ↓reduceIte, reduceCtorEq, Int.reduceEq, Int.reduceLT, Int.reduceLE, Int.reduceAdd, Int.reduceSub, Int.reduceToNat, encT_eq, inR_i64, h1, h2, h3', decide_eq_true_eq, decide_eq_false_iff_not, Int.ofNat_lt]); (repeat with_reducible refine And.intro (by first | omega | with_reducible exact lens_encT | with_reducible exact lens_encL | (simp; done) | (simp only [List.length_take, List.length_map, List.length_append, maxLen_eq]; omega)) ?_); (try (with_reducible refine hK _ ?_; clear hK K)); (try with_reducible refine ite_conj ?_)))
    simp only [go_sem, List.forall_mem_nil, ↓guard_ite, ↓pick_ite, Nat.reduceEqDiff, Nat.reduceAdd, Nat.reduceSub, Nat.reduceLeDiff, Nat.reduceLT, ↓reduceIte, reduceCtorEq, Int.reduceEq, Int.reduceLT, Int.reduceLE, Int.reduceAdd, Int.reduceSub, Int.reduceToNat, FinQ, AS.result, resAll, resOne, tupV, h1, h2, h3']
    try simp
  case pos =>
  have h3' : (a.subs.length : Int) = b.subs.length := by omega
  repeat' (first | (with_reducible first | refine IWP.seq ?_ | refine seqQ_normal ?_ | refine IWP.block ?_ | refine IWP.skip ?_ | refine IWP.exit ?_ | refine IWP.ret ?_ | refine seqQ_exit ?_ | refine seqQ_ret ?_ | refine inBlock_normal ?_ | refine inBlock_here ?_ | refine inBlock_away (by decide) ?_ | refine inBlock_ret ?_ | refine then_exit ?_ | refine then_ret ?_) | ((with_reducible first | refine IWP.ops2 (fun K hK => ?_) | refine IWP.cond ?_ | refine run2_run ?_ | refine keep_run2 ?_); (try simp only [go_sem, List.forall_mem_nil, ↓guard_ite, ↓pick_ite, Nat.reduceEqDiff, Nat.reduceAdd, Nat.reduceSub, Nat.reduceLeDiff, Nat.reduceLT, ↓reduceIte, reduceCtorEq, Int.reduceEq, Int.reduceLT, Int.reduceLE, Int.reduceAdd, Int.reduceSub, Int.reduceToNat, encT_eq, inR_i64, h1, h2, h3', decide_eq_true_eq, decide_eq_false_iff_not, Int.ofNat_lt]); (repeat with_reducible refine And.intro (by first | omega | with_reducible exact lens_encT | with_reducible exact lens_encL | (simp; done) | (simp only [List.length_take, List.length_map, List.length_append, maxLen_eq]; omega)) ?_); (try (with_reducible refine hK _ ?_; clear hK K)); (try with_reducible refine ite_conj ?_)))
  refine IWP.loop (fun n s => ∃ k, k ≤ a.subs.length ∧ n = a.subs.length - k ∧ Lm.sames (a.subs.take k) (b.subs.take k) = true ∧ s.env 2 = .one (.ptr 2 1 0 0) ∧ s.env 3 = .one (.ptr 3 1 0 0) ∧ s.S 2 = some (.box 36 [.st (.int .i64 b.kind), .st (.int .i64 b.idx), .st (.list (a.subs.map encL))]) ∧ s.S 3 = some (.box 36 [.st (.int .i64 b.kind), .st (.int .i64 b.idx), .st (.list (b.subs.map encL))]) ∧ s.env 5 = aInt k) a.subs.length ⟨0, Nat.zero_le _, rfl, rfl, rfl, rfl, by simp only [h1, h2]; rfl, rfl, rfl⟩ ?_
  rintro n ⟨env, S⟩ ⟨k, hk', rfl, hp, e2, e3, s2, s3, e5⟩
  simp only at e2 e3 s2 s3 e5
  by_cases hlt : (k : Int) < a.subs.length
  · obtain ⟨x, hx⟩ := get_lt (show k < a.subs.length by omega)
    obtain ⟨y, hy⟩ := get_lt (show k < b.subs.length by omega)
    have hlt2 : (k : Int) < b.subs.length := by omega
    repeat' (first | (with_reducible first | refine IWP.seq ?_ | refine seqQ_normal ?_ | refine IWP.block ?_ | refine IWP.skip ?_ | refine IWP.exit ?_ | refine IWP.ret ?_ | refine seqQ_exit ?_ | refine seqQ_ret ?_ | refine inBlock_normal ?_ | refine inBlock_here ?_ | refine inBlock_away (by decide) ?_ | refine inBlock_ret ?_ | refine then_exit ?_ | refine then_ret ?_) | ((with_reducible first | refine IWP.ops2 (fun K hK => ?_) | refine IWP.cond ?_ | refine run2_run ?_ | refine keep_run2 ?_); (try simp only [go_sem, List.forall_mem_nil, ↓guard_ite, ↓pick_ite, Nat.reduceEqDiff, Nat.reduceAdd, Nat.reduceSub, Nat.reduceLeDiff, Nat.reduceLT, ↓reduceIte, reduceCtorEq, Int.reduceEq, Int.reduceLT, Int.reduceLE, Int.reduceAdd, Int.reduceSub, Int.reduceToNat, encT_eq, inR_i64, e2, e3, s2, s3, e5, hx, hy, hlt, hlt2, decide_eq_true_eq, decide_eq_false_iff_not, Int.ofNat_lt]); (repeat with_reducible refine And.intro (by first | omega | with_reducible exact lens_encT | with_reducible exact lens_encL | (simp; done) | (simp only [List.length_take, List.length_map, List.length_append, maxLen_eq]; omega)) ?_); (try (with_reducible refine hK _ ?_; clear hK K)); (try with_reducible refine ite_conj ?_)))
    refine ⟨_, ih _ (Lm.lt_of_sub (mem_of_get hx)) x y rfl, ?_⟩
    by_cases hr : x.same y = true
    · repeat' (first | (with_reducible first | refine IWP.seq ?_ | refine seqQ_normal ?_ | refine IWP.block ?_ | refine IWP.skip ?_ | refine IWP.exit ?_ | refine IWP.ret ?_ | refine seqQ_exit ?_ | refine seqQ_ret ?_ | refine inBlock_normal ?_ | refine inBlock_here ?_ | refine inBlock_away (by decide) ?_ | refine inBlock_ret ?_ | refine then_exit ?_ | refine then_ret ?_) | ((with_reducible first | refine IWP.ops2 (fun K hK => ?_) | refine IWP.cond ?_ | refine run2_run ?_ | refine keep_run2 ?_); (try simp only [go_sem, List.forall_mem_nil, ↓guard_ite, ↓pick_ite, Nat.reduceEqDiff, Nat.reduceAdd, Nat.reduceSub, Nat.reduceLeDiff, Nat.reduceLT, ↓reduceIte, reduceCtorEq, Int.reduceEq, Int.reduceLT, Int.reduceLE, Int.reduceAdd, Int.reduceSub, Int.reduceToNat, encT_eq, inR_i64, e2, e3, s2, s3, e5, hr, decide_eq_true_eq, decide_eq_false_iff_not, Int.ofNat_lt]); (repeat with_reducible refine And.intro (by first | omega | with_reducible exact lens_encT | with_reducible exact lens_encL | (simp; done) | (simp only [List.length_take, List.length_map, List.length_append, maxLen_eq]; omega)) ?_); (try (with_reducible refine hK _ ?_; clear hK K)); (try with_reducible refine ite_conj ?_)))
      refine then_normal ⟨a.subs.length - (k + 1), by omega, k + 1, by omega, rfl, ?_⟩
      simp only [go_sem, List.forall_mem_nil, ↓guard_ite, ↓pick_ite, Nat.reduceEqDiff, Nat.reduceAdd, Nat.reduceSub, Nat.reduceLeDiff, Nat.reduceLT, ↓reduceIte, reduceCtorEq, Int.reduceEq, Int.reduceLT, Int.reduceLE, Int.reduceAdd, Int.reduceSub, Int.reduceToNat, encT_eq, inR_i64, e2, e3, s2, s3, e5]
      exact ⟨by rw [Lm.sames_take h3 hx hy hp, hr], by congr 3⟩
    · have hr' : x.same y = false := by simpa using hr
      repeat' (first | (with_reducible first | refine IWP.seq ?_ | refine seqQ_normal ?_ | refine IWP.block ?_ | refine IWP.skip ?_ | refine IWP.exit ?_ | refine IWP.ret ?_ | refine seqQ_exit ?_ | refine seqQ_ret ?_ | refine inBlock_normal ?_ | refine inBlock_here ?_ | refine inBlock_away (by decide) ?_ | refine inBlock_ret ?_ | refine then_exit ?_ | refine then_ret ?_) | ((with_reducible first | refine IWP.ops2 (fun K hK => ?_) | refine IWP.cond ?_ | refine run2_run ?_ | refine keep_run2 ?_); (try simp only [go_sem, List.forall_mem_nil, ↓guard_ite, ↓pick_ite, Nat.reduceEqDiff, Nat.reduceAdd, Nat.reduceSub, Nat.reduceLeDiff, Nat.reduceLT, ↓reduceIte, reduceCtorEq, Int.reduceEq, Int.reduceLT, Int.reduceLE, Int.reduceAdd, Int.reduceSub, Int.reduceToNat, encT_eq, inR_i64, e2, e3, s2, s3, e5, hr', decide_eq_true_eq, decide_eq_false_iff_not, Int.ofNat_lt]); (repeat with_reducible refine And.intro (by first | omega | with_reducible exact lens_encT | with_reducible exact lens_encL | (simp; done) | (simp only [List.length_take, List.length_map, List.length_append, maxLen_eq]; omega)) ?_); (try (with_reducible refine hK _ ?_; clear hK K)); (try with_reducible refine ite_conj ?_)))
      simp only [go_sem, List.forall_mem_nil, ↓guard_ite, ↓pick_ite, Nat.reduceEqDiff, Nat.reduceAdd, Nat.reduceSub, Nat.reduceLeDiff, Nat.reduceLT, ↓reduceIte, reduceCtorEq, Int.reduceEq, Int.reduceLT, Int.reduceLE, Int.reduceAdd, Int.reduceSub, Int.reduceToNat, FinQ, AS.result, resAll, resOne, tupV]
      rw [Lm.sames_no (k := k + 1) h3 (by rw [Lm.sames_take h3 hx hy hp, hr'])]
      simp
  · repeat' (first | (with_reducible first | refine IWP.seq ?_ | refine seqQ_normal ?_ | refine IWP.block ?_ | refine IWP.skip ?_ | refine IWP.exit ?_ | refine IWP.ret ?_ | refine seqQ_exit ?_ | refine seqQ_ret ?_ | refine inBlock_normal ?_ | refine inBlock_here ?_ | refine inBlock_away (by decide) ?_ | refine inBlock_ret ?_ | refine then_exit ?_ | refine then_ret ?_) | ((with_reducible first | refine IWP.ops2 (fun K hK => ?_) | refine IWP.cond ?_ | refine run2_run ?_ | refine keep_run2 ?_); (try simp only [go_sem, List.forall_mem_nil, ↓guard_ite, ↓pick_ite, Nat.reduceEqDiff, Nat.reduceAdd, Nat.reduceSub, Nat.reduceLeDiff, Nat.reduceLT, ↓reduceIte, reduceCtorEq, Int.reduceEq, Int.reduceLT, Int.reduceLE, Int.reduceAdd, Int.reduceSub, Int.reduceToNat, encT_eq, inR_i64, e2, e3, s2, s3, e5, hlt, decide_eq_true_eq, decide_eq_false_iff_not, Int.ofNat_lt]); (repeat with_reducible refine And.intro (by first | omega | with_reducible exact lens_encT | with_reducible exact lens_encL | (simp; done) | (simp only [List.length_take, List.length_map, List.length_append, maxLen_eq]; omega)) ?_); (try (with_reducible refine hK _ ?_; clear hK K)); (try with_reducible refine ite_conj ?_)))
    simp only [go_sem, List.forall_mem_nil, ↓guard_ite, ↓pick_ite, Nat.reduceEqDiff, Nat.reduceAdd, Nat.reduceSub, Nat.reduceLeDiff, Nat.reduceLT, ↓reduceIte, reduceCtorEq, Int.reduceEq, Int.reduceLT, Int.reduceLE, Int.reduceAdd, Int.reduceSub, Int.reduceToNat, FinQ, AS.result, resAll, resOne, tupV]
    rw [List.take_of_length_le (by omega), List.take_of_length_le (by omega)] at hp
    rw [hp]
    simp [h1, h2]

theorem lA_a (f x : Lm) : ACalls Tryd.prog 51 [aLm f, aLm x] (aLm (Lm.a f x)) := by
  refine ac_lambda_A (Nat.le_of_ble_eq_true rfl) fun C hC => ?_
  unfold ir_lambda_A
  repeat' (first | (with_reducible first | refine IWP.seq ?_ | refine seqQ_normal ?_ | refine IWP.block ?_ | refine IWP.skip ?_ | refine IWP.exit ?_ | refine IWP.ret ?_ | refine seqQ_exit ?_ | refine seqQ_ret ?_ | refine inBlock_normal ?_ | refine inBlock_here ?_ | refine inBlock_away (by decide) ?_ | refine inBlock_ret ?_ | refine then_exit ?_ | refine then_ret ?_) | ((with_reducible first | refine IWP.ops2 (fun K hK => ?_) | refine IWP.cond ?_ | refine run2_run ?_ | refine keep_run2 ?_); (try simp only [go_sem, List.forall_mem_nil, ↓guard_ite, ↓pick_ite, Nat.reduceEqDiff, Nat.reduceAdd, Nat.reduceSub, Nat.reduceLeDiff, Nat.reduceLT, ↓reduceIte, reduceCtorEq, Int.reduceEq, Int.reduceLT, Int.reduceLE, Int.reduceAdd, Int.reduceSub, Int.reduceToNat, encT_eq, inR_i64, decide_eq_true_eq, decide_eq_false_iff_not, Int.ofNat_lt]); (repeat with_reducible refine And.intro (by first | omega | with_reducible exact lens_encT | with_reducible exact lens_encL | (simp; done) | (simp only [List.length_take, List.length_map, List.length_append, maxLen_eq]; omega)) ?_); (try (with_reducible refine hK _ ?_; clear hK K)); (try with_reducible refine ite_conj ?_)))
  simp only [go_sem, List.forall_mem_nil, ↓guard_ite, ↓pick_ite, Nat.reduceEqDiff, Nat.reduceAdd, Nat.reduceSub, Nat.reduceLeDiff, Nat.reduceLT, ↓reduceIte, reduceCtorEq, Int.reduceEq, Int.reduceLT, Int.reduceLE, Int.reduceAdd, Int.reduceSub, Int.reduceToNat, FinQ, AS.result, resAll, resOne, tupV]
  simp [Lm.a, Lm.kind_mk, Lm.idx_mk, Lm.subs_mk, encL_eq]
theorem lApp_a (f x : Lm) : ACalls Tryd.prog 30 [aLm f, aLm x] (aLm (Lm.a f x)) := by
  refine ac_R_App (Nat.le_of_ble_eq_true rfl) fun C hC => ?_
  unfold ir_R_App
  repeat' (first | (with_reducible first | refine IWP.seq ?_ | refine seqQ_normal ?_ | refine IWP.block ?_ | refine IWP.skip ?_ | refine IWP.exit ?_ | refine IWP.ret ?_ | refine seqQ_exit ?_ | refine seqQ_ret ?_ | refine inBlock_normal ?_ | refine inBlock_here ?_ | refine inBlock_away (by decide) ?_ | refine inBlock_ret ?_ | refine then_exit ?_ | refine then_ret ?_) | ((with_reducible first | refine IWP.ops2 (fun K hK => ?_) | refine IWP.cond ?_ | refine run2_run ?_ | refine keep_run2 ?_); (try simp only [go_sem, List.forall_mem_nil, ↓guard_ite, ↓pick_ite, Nat.reduceEqDiff, Nat.reduceAdd, Nat.reduceSub, Nat.reduceLeDiff, Nat.reduceLT, ↓reduceIte, reduceCtorEq, Int.reduceEq, Int.reduceLT, Int.reduceLE, Int.reduceAdd, Int.reduceSub, Int.reduceToNat, encT_eq, inR_i64, decide_eq_true_eq, decide_eq_false_iff_not, Int.ofNat_lt]); (repeat with_reducible refine And.intro (by first | omega | with_reducible exact lens_encT | with_reducible exact lens_encL | (simp; done) | (simp only [List.length_take, List.length_map, List.length_append, maxLen_eq]; omega)) ?_); (try (with_reducible refine hK _ ?_; clear hK K)); (try with_reducible refine ite_conj ?_)))
  simp only [go_sem, List.forall_mem_nil, ↓guard_ite, ↓pick_ite, Nat.reduceEqDiff, Nat.reduceAdd, Nat.reduceSub, Nat.reduceLeDiff, Nat.reduceLT, ↓reduceIte, reduceCtorEq, Int.reduceEq, Int.reduceLT, Int.reduceLE, Int.reduceAdd, Int.reduceSub, Int.reduceToNat, FinQ, AS.result, resAll, resOne, tupV]
  simp [Lm.a, Lm.kind_mk, Lm.idx_mk, Lm.subs_mk, encL_eq]
theorem lL_a (t : Lm) : ACalls Tryd.prog 55 [aLm t] (aLm (Lm.l t)) := by
  refine ac_lambda_L (Nat.le_of_ble_eq_true rfl) fun C hC => ?_
  unfold ir_lambda_L
  repeat' (first | (with_reducible first | refine IWP.seq ?_ | refine seqQ_normal ?_ | refine IWP.block ?_ | refine IWP.skip ?_ | refine IWP.exit ?_ | refine IWP.ret ?_ | refine seqQ_exit ?_ | refine seqQ_ret ?_ | refine inBlock_normal ?_ | refine inBlock_here ?_ | refine inBlock_away (by decide) ?_ | refine inBlock_ret ?_ | refine then_exit ?_ | refine then_ret ?_) | ((with_reducible first | refine IWP.ops2 (fun K hK => ?_) | refine IWP.cond ?_ | refine run2_run ?_ | refine keep_run2 ?_); (try simp only [go_sem, List.forall_mem_nil, ↓guard_ite, ↓pick_ite, Nat.reduceEqDiff, Nat.reduceAdd, Nat.reduceSub, Nat.reduceLeDiff, Nat.reduceLT, ↓reduceIte, reduceCtorEq, Int.reduceEq, Int.reduceLT, Int.reduceLE, Int.reduceAdd, Int.reduceSub, Int.reduceToNat, encT_eq, inR_i64, decide_eq_true_eq, decide_eq_false_iff_not, Int.ofNat_lt]); (repeat with_reducible refine And.intro (by first | omega | with_reducible exact lens_encT | with_reducible exact lens_encL | (simp; done) | (simp only [List.length_take, List.length_map, List.length_append, maxLen_eq]; omega)) ?_); (try (with_reducible refine hK _ ?_; clear hK K)); (try with_reducible refine ite_conj ?_)))
  simp only [go_sem, List.forall_mem_nil, ↓guard_ite, ↓pick_ite, Nat.reduceEqDiff, Nat.reduceAdd, Nat.reduceSub, Nat.reduceLeDiff, Nat.reduceLT, ↓reduceIte, reduceCtorEq, Int.reduceEq, Int.reduceLT, Int.reduceLE, Int.reduceAdd, Int.reduceSub, Int.reduceToNat, FinQ, AS.result, resAll, resOne, tupV]
  simp [Lm.l, Lm.kind_mk, Lm.idx_mk, Lm.subs_mk, encL_eq]
theorem lFun_a (t : Lm) : ACalls Tryd.prog 31 [aLm t] (aLm (Lm.l t)) := by
  refine ac_R_Fun (Nat.le_of_ble_eq_true rfl) fun C hC => ?_
  unfold ir_R_Fun
  repeat' (first | (with_reducible first | refine IWP.seq ?_ | refine seqQ_normal ?_ | refine IWP.block ?_ | refine IWP.skip ?_ | refine IWP.exit ?_ | refine IWP.ret ?_ | refine seqQ_exit ?_ | refine seqQ_ret ?_ | refine inBlock_normal ?_ | refine inBlock_here ?_ | refine inBlock_away (by decide) ?_ | refine inBlock_ret ?_ | refine then_exit ?_ | refine then_ret ?_) | ((with_reducible first | refine IWP.ops2 (fun K hK => ?_) | refine IWP.cond ?_ | refine run2_run ?_ | refine keep_run2 ?_); (try simp only [go_sem, List.forall_mem_nil, ↓guard_ite, ↓pick_ite, Nat.reduceEqDiff, Nat.reduceAdd, Nat.reduceSub, Nat.reduceLeDiff, Nat.reduceLT, ↓reduceIte, reduceCtorEq, Int.reduceEq, Int.reduceLT, Int.reduceLE, Int.reduceAdd, Int.reduceSub, Int.reduceToNat, encT_eq, inR_i64, decide_eq_true_eq, decide_eq_false_iff_not, Int.ofNat_lt]); (repeat with_reducible refine And.intro (by first | omega | with_reducible exact lens_encT | with_reducible exact lens_encL | (simp; done) | (simp only [List.length_take, List.length_map, List.length_append, maxLen_eq]; omega)) ?_); (try (with_reducible refine hK _ ?_; clear hK K)); (try with_reducible refine ite_conj ?_)))
  simp only [go_sem, List.forall_mem_nil, ↓guard_ite, ↓pick_ite, Nat.reduceEqDiff, Nat.reduceAdd, Nat.reduceSub, Nat.reduceLeDiff, Nat.reduceLT, ↓reduceIte, reduceCtorEq, Int.reduceEq, Int.reduceLT, Int.reduceLE, Int.reduceAdd, Int.reduceSub, Int.reduceToNat, FinQ, AS.result, resAll, resOne, tupV]
  simp [Lm.l, Lm.kind_mk, Lm.idx_mk, Lm.subs_mk, encL_eq]
/-! ### what can be worked out -/
def Lm.isRed (t : Lm) : Bool := (Lm.top t.kind t.subs).isSome
end Go.Proofs.YtecjikegppjdiaaDoor
