/-
  Terms without what is bound: the walks of their form, of rows, of a row's parts.
  Conditions: none.
-/
import Derived.Test.YtkjbaabkaboaoaaIrComb
import Derived.Test.YtkjbaabkaboaoaaPComb
namespace Go.Proofs.Ytkjbaabkaboaoaa
open Go Go.RowKit
set_option linter.unusedVariables false
set_option linter.unusedSimpArgs false
set_option maxHeartbeats 400000

theorem tsize_a (t : Tm) (hz : t.size ≤ 1000000) : ACalls Try.prog 72 [aTm t] (aInt t.size) := by
  induction h : SizeOf.sizeOf t using Nat.strongRecOn generalizing t with
  | _ N ih =>
  subst h
  have hs := Tm.size_eq t
  have hkn := Tm.length_le t.args
  refine ac_term_Size (Nat.le_of_ble_eq_true rfl) fun C hC => ?_
  unfold ir_term_Size
  repeat' (first | (with_reducible first | refine IWP.seq ?_ | refine seqQ_normal ?_ | refine IWP.block ?_ | refine IWP.skip ?_ | refine IWP.exit ?_ | refine IWP.ret ?_ | refine seqQ_exit ?_ | refine seqQ_ret ?_ | refine inBlock_normal ?_ | refine inBlock_here ?_ | refine inBlock_away (by decide) ?_ | refine inBlock_ret ?_ | refine then_exit ?_ | refine then_ret ?_) | ((with_reducible first | refine IWP.ops2 (fun K hK => ?_) | refine IWP.cond ?_ | refine run2_run ?_ | refine keep_run2 ?_); (try simp only [go_sem, List.forall_mem_nil, ↓guard_ite, ↓pick_ite, Nat.reduceEqDiff, Nat.reduceAdd, Nat.reduceSub, Nat.reduceLeDiff, Nat.reduceLT, ↓reduceIte, reduceCtorEq, Int.reduceEq, Int.reduceLT, Int.reduceLE, Int.reduceAdd, Int.reduceSub, Int.reduceToNat, encT_eq, inR_i64, decide_eq_true_eq, decide_eq_false_iff_not, Int.ofNat_lt]); (repeat with_reducible refine And.intro (by first | omega | with_reducible exact lens_encT | with_reducible exact lens_encL | (simp; done) | (simp only [List.length_take, List.length_map, List.length_append, maxLen_eq]; omega)) ?_); (try (with_reducible refine hK _ ?_; clear hK K)); (try with_reducible refine ite_conj ?_)))
  refine IWP.loopD [5] (fun n s => ∃ k, k ≤ t.args.length ∧ n = t.args.length - k ∧ s.env 3 = aInt ((1 + Tm.sizes (t.args.take k) : Nat)) ∧ s.env 7 = .one (.st (.list (t.args.map encT))) ∧ s.env 8 = aInt t.args.length ∧ s.env 9 = aInt k ∧ s.S 5 = none) t.args.length ⟨0, Nat.zero_le _, rfl, rfl, rfl, rfl, rfl, rfl⟩ ?_
  rintro n ⟨env, S⟩ ⟨k, hk, rfl, e3, e7, e8, e9, s5⟩
  simp only at e3 e7 e8 e9 s5
  by_cases hlt : (k : Int) < t.args.length
  · obtain ⟨a, ha⟩ := get_lt (show k < t.args.length by omega)
    have z1 := Tm.sizes_take ha
    have z2 := Tm.sizes_take_le t.args (k + 1)
    have z3 := Tm.size_mem (mem_of_get ha)
    repeat' (first | (with_reducible first | refine IWP.seq ?_ | refine seqQ_normal ?_ | refine IWP.block ?_ | refine IWP.skip ?_ | refine IWP.exit ?_ | refine IWP.ret ?_ | refine seqQ_exit ?_ | refine seqQ_ret ?_ | refine inBlock_normal ?_ | refine inBlock_here ?_ | refine inBlock_away (by decide) ?_ | refine inBlock_ret ?_ | refine then_exit ?_ | refine then_ret ?_) | ((with_reducible first | refine IWP.ops2 (fun K hK => ?_) | refine IWP.cond ?_ | refine run2_run ?_ | refine keep_run2 ?_); (try simp only [go_sem, List.forall_mem_nil, ↓guard_ite, ↓pick_ite, Nat.reduceEqDiff, Nat.reduceAdd, Nat.reduceSub, Nat.reduceLeDiff, Nat.reduceLT, ↓reduceIte, reduceCtorEq, Int.reduceEq, Int.reduceLT, Int.reduceLE, Int.reduceAdd, Int.reduceSub, Int.reduceToNat, encT_eq, inR_i64, e3, e7, e8, e9, s5, ha, hlt, decide_eq_true_eq, decide_eq_false_iff_not, Int.ofNat_lt]); (repeat with_reducible refine And.intro (by first | omega | with_reducible exact lens_encT | with_reducible exact lens_encL | (simp; done) | (simp only [List.length_take, List.length_map, List.length_append, maxLen_eq]; omega)) ?_); (try (with_reducible refine hK _ ?_; clear hK K)); (try with_reducible refine ite_conj ?_)))
    refine ⟨_, ih _ (Tm.lt_of_arg (mem_of_get ha)) a (by omega) rfl, ?_⟩
    repeat' (first | (with_reducible first | refine IWP.seq ?_ | refine seqQ_normal ?_ | refine IWP.block ?_ | refine IWP.skip ?_ | refine IWP.exit ?_ | refine IWP.ret ?_ | refine seqQ_exit ?_ | refine seqQ_ret ?_ | refine inBlock_normal ?_ | refine inBlock_here ?_ | refine inBlock_away (by decide) ?_ | refine inBlock_ret ?_ | refine then_exit ?_ | refine then_ret ?_) | ((with_reducible first | refine IWP.ops2 (fun K hK => ?_) | refine IWP.cond ?_ | refine run2_run ?_ | refine keep_run2 ?_); (try simp only [go_sem, List.forall_mem_nil, ↓guard_ite, ↓pick_ite, Nat.reduceEqDiff, Nat.reduceAdd, Nat.reduceSub, Nat.reduceLeDiff, Nat.reduceLT, ↓reduceIte, reduceCtorEq, Int.reduceEq, Int.reduceLT, Int.reduceLE, Int.reduceAdd, Int.reduceSub, Int.reduceToNat, encT_eq, inR_i64, e3, e7, e8, e9, s5, decide_eq_true_eq, decide_eq_false_iff_not, Int.ofNat_lt]); (repeat with_reducible refine And.intro (by first | omega | with_reducible exact lens_encT | with_reducible exact lens_encL | (simp; done) | (simp only [List.length_take, List.length_map, List.length_append, maxLen_eq]; omega)) ?_); (try (with_reducible refine hK _ ?_; clear hK K)); (try with_reducible refine ite_conj ?_)))
    refine then_normal ⟨t.args.length - (k + 1), by omega, k + 1, by omega, rfl, ?_⟩
    simp only [go_sem, List.forall_mem_nil, ↓guard_ite, ↓pick_ite, Nat.reduceEqDiff, Nat.reduceAdd, Nat.reduceSub, Nat.reduceLeDiff, Nat.reduceLT, ↓reduceIte, reduceCtorEq, Int.reduceEq, Int.reduceLT, Int.reduceLE, Int.reduceAdd, Int.reduceSub, Int.reduceToNat, AS.drop, dropS, AC.clears, AC.clear, AC.highs, AC.high, Bool.not_false, Bool.true_and, Bool.and_self, AV.purge, AV.purges, AC.purge, ABlk.purge, List.contains_cons, List.contains_nil, Nat.reduceBEq, Bool.or_self, Bool.or_false, Bool.false_or, Bool.or_true, encT_eq, inR_i64, e3, e7, e8, e9, s5]
    exact ⟨by rw [z1]; congr 3; omega, by congr 3⟩
  · rw [List.take_of_length_le (by omega), ← hs] at e3
    repeat' (first | (with_reducible first | refine IWP.seq ?_ | refine seqQ_normal ?_ | refine IWP.block ?_ | refine IWP.skip ?_ | refine IWP.exit ?_ | refine IWP.ret ?_ | refine seqQ_exit ?_ | refine seqQ_ret ?_ | refine inBlock_normal ?_ | refine inBlock_here ?_ | refine inBlock_away (by decide) ?_ | refine inBlock_ret ?_ | refine then_exit ?_ | refine then_ret ?_) | ((with_reducible first | refine IWP.ops2 (fun K hK => ?_) | refine IWP.cond ?_ | refine run2_run ?_ | refine keep_run2 ?_); (try simp only [go_sem, List.forall_mem_nil, ↓guard_ite, ↓pick_ite, Nat.reduceEqDiff, Nat.reduceAdd, Nat.reduceSub, Nat.reduceLeDiff, Nat.reduceLT, ↓reduceIte, reduceCtorEq, Int.reduceEq, Int.reduceLT, Int.reduceLE, Int.reduceAdd, Int.reduceSub, Int.reduceToNat, encT_eq, inR_i64, e3, e7, e8, e9, s5, hlt, decide_eq_true_eq, decide_eq_false_iff_not, Int.ofNat_lt]); (repeat with_reducible refine And.intro (by first | omega | with_reducible exact lens_encT | with_reducible exact lens_encL | (simp; done) | (simp only [List.length_take, List.length_map, List.length_append, maxLen_eq]; omega)) ?_); (try (with_reducible refine hK _ ?_; clear hK K)); (try with_reducible refine ite_conj ?_)))
    simp only [go_sem, List.forall_mem_nil, ↓guard_ite, ↓pick_ite, Nat.reduceEqDiff, Nat.reduceAdd, Nat.reduceSub, Nat.reduceLeDiff, Nat.reduceLT, ↓reduceIte, reduceCtorEq, Int.reduceEq, Int.reduceLT, Int.reduceLE, Int.reduceAdd, Int.reduceSub, Int.reduceToNat, FinQ, AS.result, resAll, resOne, tupV, e3]

theorem apC_a (f x : Tm) : ACalls Try.prog 105 [aTm f, aTm x] (aTm (ap2 f x)) := by
  refine ac_comb_ap (Nat.le_of_ble_eq_true rfl) fun C hC => ?_
  unfold ir_comb_ap
  repeat' (first | (with_reducible first | refine IWP.seq ?_ | refine seqQ_normal ?_ | refine IWP.block ?_ | refine IWP.skip ?_ | refine IWP.exit ?_ | refine IWP.ret ?_ | refine seqQ_exit ?_ | refine seqQ_ret ?_ | refine inBlock_normal ?_ | refine inBlock_here ?_ | refine inBlock_away (by decide) ?_ | refine inBlock_ret ?_ | refine then_exit ?_ | refine then_ret ?_) | ((with_reducible first | refine IWP.ops2 (fun K hK => ?_) | refine IWP.cond ?_ | refine run2_run ?_ | refine keep_run2 ?_); (try simp only [go_sem, List.forall_mem_nil, ↓guard_ite, ↓pick_ite, Nat.reduceEqDiff, Nat.reduceAdd, Nat.reduceSub, Nat.reduceLeDiff, Nat.reduceLT, ↓reduceIte, reduceCtorEq, Int.reduceEq, Int.reduceLT, Int.reduceLE, Int.reduceAdd, Int.reduceSub, Int.reduceToNat, encT_eq, inR_i64, decide_eq_true_eq, decide_eq_false_iff_not, Int.ofNat_lt]); (repeat with_reducible refine And.intro (by first | omega | with_reducible exact lens_encT | with_reducible exact lens_encL | (simp; done) | (simp only [List.length_take, List.length_map, List.length_append, maxLen_eq]; omega)) ?_); (try (with_reducible refine hK _ ?_; clear hK K)); (try with_reducible refine ite_conj ?_)))
  simp only [go_sem, List.forall_mem_nil, ↓guard_ite, ↓pick_ite, Nat.reduceEqDiff, Nat.reduceAdd, Nat.reduceSub, Nat.reduceLeDiff, Nat.reduceLT, ↓reduceIte, reduceCtorEq, Int.reduceEq, Int.reduceLT, Int.reduceLE, Int.reduceAdd, Int.reduceSub, Int.reduceToNat, FinQ, AS.result, resAll, resOne, tupV]
  simp [ap2, apS, Tm.name_mk, Tm.args_mk, encT_eq]
theorem put2_a (f x : Tm) : ACalls Try.prog 102 [aTm f, aTm x] (aTm (ap2 f x)) := by
  refine ac_R_Put2 (Nat.le_of_ble_eq_true rfl) fun C hC => ?_
  unfold ir_R_Put2
  repeat' (first | (with_reducible first | refine IWP.seq ?_ | refine seqQ_normal ?_ | refine IWP.block ?_ | refine IWP.skip ?_ | refine IWP.exit ?_ | refine IWP.ret ?_ | refine seqQ_exit ?_ | refine seqQ_ret ?_ | refine inBlock_normal ?_ | refine inBlock_here ?_ | refine inBlock_away (by decide) ?_ | refine inBlock_ret ?_ | refine then_exit ?_ | refine then_ret ?_) | ((with_reducible first | refine IWP.ops2 (fun K hK => ?_) | refine IWP.cond ?_ | refine run2_run ?_ | refine keep_run2 ?_); (try simp only [go_sem, List.forall_mem_nil, ↓guard_ite, ↓pick_ite, Nat.reduceEqDiff, Nat.reduceAdd, Nat.reduceSub, Nat.reduceLeDiff, Nat.reduceLT, ↓reduceIte, reduceCtorEq, Int.reduceEq, Int.reduceLT, Int.reduceLE, Int.reduceAdd, Int.reduceSub, Int.reduceToNat, encT_eq, inR_i64, decide_eq_true_eq, decide_eq_false_iff_not, Int.ofNat_lt]); (repeat with_reducible refine And.intro (by first | omega | with_reducible exact lens_encT | with_reducible exact lens_encL | (simp; done) | (simp only [List.length_take, List.length_map, List.length_append, maxLen_eq]; omega)) ?_); (try (with_reducible refine hK _ ?_; clear hK K)); (try with_reducible refine ite_conj ?_)))
  simp only [go_sem, List.forall_mem_nil, ↓guard_ite, ↓pick_ite, Nat.reduceEqDiff, Nat.reduceAdd, Nat.reduceSub, Nat.reduceLeDiff, Nat.reduceLT, ↓reduceIte, reduceCtorEq, Int.reduceEq, Int.reduceLT, Int.reduceLE, Int.reduceAdd, Int.reduceSub, Int.reduceToNat, FinQ, AS.result, resAll, resOne, tupV]
  simp [ap2, apS, Tm.name_mk, Tm.args_mk, encT_eq]
def formE (b : Bool) : Int := if b then 0 else 2
theorem form_a (t : Tm) (hz : t.size ≤ 1000000) : ACalls Try.prog 103 [aTm t] (aInt (formE t.fm)) := by
  induction h : SizeOf.sizeOf t using Nat.strongRecOn generalizing t with
  | _ N ih =>
  subst h
  have hs := Tm.size_eq t
  have hlen := Tm.length_le t.args
  rw [Tm.fm_eq]
  by_cases h0 : t.args = []
  · refine ac_comb_form (Nat.le_of_ble_eq_true rfl) fun C hC => ?_
    unfold ir_comb_form
    repeat' (first | (with_reducible first | refine IWP.seq ?_ | refine seqQ_normal ?_ | refine IWP.block ?_ | refine IWP.skip ?_ | refine IWP.exit ?_ | refine IWP.ret ?_ | refine seqQ_exit ?_ | refine seqQ_ret ?_ | refine inBlock_normal ?_ | refine inBlock_here ?_ | refine inBlock_away (by decide) ?_ | refine inBlock_ret ?_ | refine then_exit ?_ | refine then_ret ?_) | ((with_reducible first | refine IWP.ops2 (fun K hK => ?_) | refine IWP.cond ?_ | refine run2_run ?_ | refine keep_run2 ?_); (try simp only [go_sem, List.forall_mem_nil, ↓guard_ite, ↓pick_ite, Nat.reduceEqDiff, Nat.reduceAdd, Nat.reduceSub, Nat.reduceLeDiff, Nat.reduceLT, ↓reduceIte, reduceCtorEq, Int.reduceEq, Int.reduceLT, Int.reduceLE, Int.reduceAdd, Int.reduceSub, Int.reduceToNat, encT_eq, inR_i64, h0, Int.cast_ofNat_Int, decide_eq_true_eq, decide_eq_false_iff_not, Int.ofNat_lt]); (repeat with_reducible refine And.intro (by first | omega | with_reducible exact lens_encT | with_reducible exact lens_encL | (simp; done) | (simp only [List.length_take, List.length_map, List.length_append, maxLen_eq]; omega)) ?_); (try (with_reducible refine hK _ ?_; clear hK K)); (try with_reducible refine ite_conj ?_)))
    simp only [go_sem, List.forall_mem_nil, ↓guard_ite, ↓pick_ite, Nat.reduceEqDiff, Nat.reduceAdd, Nat.reduceSub, Nat.reduceLeDiff, Nat.reduceLT, ↓reduceIte, reduceCtorEq, Int.reduceEq, Int.reduceLT, Int.reduceLE, Int.reduceAdd, Int.reduceSub, Int.reduceToNat, FinQ, AS.result, resAll, resOne, tupV]
    simp [formE, fmOne, h0, Tm.fms]
  have h0' : ¬ (t.args.length : Int) = 0 := fun e => h0 (List.eq_nil_of_length_eq_zero (by omega))
  by_cases h1 : t.name = apS
  case neg =>
    have h1' : ¬ t.name = ⟨#[97, 112]⟩ := h1
    refine ac_comb_form (Nat.le_of_ble_eq_true rfl) fun C hC => ?_
    unfold ir_comb_form
    repeat' (first | (with_reducible first | refine IWP.seq ?_ | refine seqQ_normal ?_ | refine IWP.block ?_ | refine IWP.skip ?_ | refine IWP.exit ?_ | refine IWP.ret ?_ | refine seqQ_exit ?_ | refine seqQ_ret ?_ | refine inBlock_normal ?_ | refine inBlock_here ?_ | refine inBlock_away (by decide) ?_ | refine inBlock_ret ?_ | refine then_exit ?_ | refine then_ret ?_) | ((with_reducible first | refine IWP.ops2 (fun K hK => ?_) | refine IWP.cond ?_ | refine run2_run ?_ | refine keep_run2 ?_); (try simp only [go_sem, List.forall_mem_nil, ↓guard_ite, ↓pick_ite, Nat.reduceEqDiff, Nat.reduceAdd, Nat.reduceSub, Nat.reduceLeDiff, Nat.reduceLT, ↓reduceIte, reduceCtorEq, Int.reduceEq, Int.reduceLT, Int.reduceLE, Int.reduceAdd, Int.reduceSub, Int.reduceToNat, encT_eq, inR_i64, h0', h1', decide_eq_true_eq, decide_eq_false_iff_not, Int.ofNat_lt]); (repeat with_reducible refine And.intro (by first | omega | with_reducible exact lens_encT | with_reducible exact lens_encL | (simp; done) | (simp only [List.length_take, List.length_map, List.length_append, maxLen_eq]; omega)) ?_); (try (with_reducible refine hK _ ?_; clear hK K)); (try with_reducible refine ite_conj ?_)))
    simp only [go_sem, List.forall_mem_nil, ↓guard_ite, ↓pick_ite, Nat.reduceEqDiff, Nat.reduceAdd, Nat.reduceSub, Nat.reduceLeDiff, Nat.reduceLT, ↓reduceIte, reduceCtorEq, Int.reduceEq, Int.reduceLT, Int.reduceLE, Int.reduceAdd, Int.reduceSub, Int.reduceToNat, FinQ, AS.result, resAll, resOne, tupV]
    simp [formE, fmOne, h0, h1]
  case pos =>
  have h1' : t.name = ⟨#[97, 112]⟩ := h1
  by_cases h2 : (t.args.length : Int) = 2
  case neg =>
    have h2' : ¬ t.args.length = 2 := by omega
    refine ac_comb_form (Nat.le_of_ble_eq_true rfl) fun C hC => ?_
    unfold ir_comb_form
    repeat' (first | (with_reducible first | refine IWP.seq ?_ | refine seqQ_normal ?_ | refine IWP.block ?_ | refine IWP.skip ?_ | refine IWP.exit ?_ | refine IWP.ret ?_ | refine seqQ_exit ?_ | refine seqQ_ret ?_ | refine inBlock_normal ?_ | refine inBlock_here ?_ | refine inBlock_away (by decide) ?_ | refine inBlock_ret ?_ | refine then_exit ?_ | refine then_ret ?_) | ((with_reducible first | refine IWP.ops2 (fun K hK => ?_) | refine IWP.cond ?_ | refine run2_run ?_ | refine keep_run2 ?_); (try simp only [go_sem, List.forall_mem_nil, ↓guard_ite, ↓pick_ite, Nat.reduceEqDiff, Nat.reduceAdd, Nat.reduceSub, Nat.reduceLeDiff, Nat.reduceLT, ↓reduceIte, reduceCtorEq, Int.reduceEq, Int.reduceLT, Int.reduceLE, Int.reduceAdd, Int.reduceSub, Int.reduceToNat, encT_eq, inR_i64, h0', h1', h2, decide_eq_true_eq, decide_eq_false_iff_not, Int.ofNat_lt]); (repeat with_reducible refine And.intro (by first | omega | with_reducible exact lens_encT | with_reducible exact lens_encL | (simp; done) | (simp only [List.length_take, List.length_map, List.length_append, maxLen_eq]; omega)) ?_); (try (with_reducible refine hK _ ?_; clear hK K)); (try with_reducible refine ite_conj ?_)))
    simp only [go_sem, List.forall_mem_nil, ↓guard_ite, ↓pick_ite, Nat.reduceEqDiff, Nat.reduceAdd, Nat.reduceSub, Nat.reduceLeDiff, Nat.reduceLT, ↓reduceIte, reduceCtorEq, Int.reduceEq, Int.reduceLT, Int.reduceLE, Int.reduceAdd, Int.reduceSub, Int.reduceToNat, FinQ, AS.result, resAll, resOne, tupV]
    simp [formE, fmOne, h0, h2']
  case pos =>
  have h2' : t.args.length = 2 := by omega
  obtain ⟨f, x, hfx⟩ : ∃ f x, t.args = [f, x] := by
    match hx : t.args, h2' with
    | [f, x], _ => exact ⟨f, x, rfl⟩
  have hf : f ∈ t.args := by rw [hfx]; simp
  have hx : x ∈ t.args := by rw [hfx]; simp
  have sf := Tm.size_mem hf
  have sx := Tm.size_mem hx
  have hone : fmOne t = true := by simp [fmOne, h1, h2']
  rw [hone, hfx]
  refine ac_comb_form (Nat.le_of_ble_eq_true rfl) fun C hC => ?_
  unfold ir_comb_form
  repeat' (first | (with_reducible first | refine IWP.seq ?_ | refine seqQ_normal ?_ | refine IWP.block ?_ | refine IWP.skip ?_ | refine IWP.exit ?_ | refine IWP.ret ?_ | refine seqQ_exit ?_ | refine seqQ_ret ?_ | refine inBlock_normal ?_ | refine inBlock_here ?_ | refine inBlock_away (by decide) ?_ | refine inBlock_ret ?_ | refine then_exit ?_ | refine then_ret ?_) | ((with_reducible first | refine IWP.ops2 (fun K hK => ?_) | refine IWP.cond ?_ | refine run2_run ?_ | refine keep_run2 ?_); (try simp only [go_sem, List.forall_mem_nil, ↓guard_ite, ↓pick_ite, Nat.reduceEqDiff, Nat.reduceAdd, Nat.reduceSub, Nat.reduceLeDiff, Nat.reduceLT, ↓reduceIte, reduceCtorEq, Int.reduceEq, Int.reduceLT, Int.reduceLE, Int.reduceAdd, Int.reduceSub, Int.reduceToNat, encT_eq, inR_i64, hfx, h1', Int.cast_ofNat_Int, decide_eq_true_eq, decide_eq_false_iff_not, Int.ofNat_lt]); (repeat with_reducible refine And.intro (by first | omega | with_reducible exact lens_encT | with_reducible exact lens_encL | (simp; done) | (simp only [List.length_take, List.length_map, List.length_append, maxLen_eq]; omega)) ?_); (try (with_reducible refine hK _ ?_; clear hK K)); (try with_reducible refine ite_conj ?_)))
  refine ⟨_, ih _ (Tm.lt_of_arg hf) f (by omega) rfl, ?_⟩
  repeat' (first | (with_reducible first | refine IWP.seq ?_ | refine seqQ_normal ?_ | refine IWP.block ?_ | refine IWP.skip ?_ | refine IWP.exit ?_ | refine IWP.ret ?_ | refine seqQ_exit ?_ | refine seqQ_ret ?_ | refine inBlock_normal ?_ | refine inBlock_here ?_ | refine inBlock_away (by decide) ?_ | refine inBlock_ret ?_ | refine then_exit ?_ | refine then_ret ?_) | ((with_reducible first | refine IWP.ops2 (fun K hK => ?_) | refine IWP.cond ?_ | refine run2_run ?_ | refine keep_run2 ?_); (try simp only [go_sem, List.forall_mem_nil, ↓guard_ite, ↓pick_ite, Nat.reduceEqDiff, Nat.reduceAdd, Nat.reduceSub, Nat.reduceLeDiff, Nat.reduceLT, ↓reduceIte, reduceCtorEq, Int.reduceEq, Int.reduceLT, Int.reduceLE, Int.reduceAdd, Int.reduceSub, Int.reduceToNat, encT_eq, inR_i64, hfx, decide_eq_true_eq, decide_eq_false_iff_not, Int.ofNat_lt]); (repeat with_reducible refine And.intro (by first | omega | with_reducible exact lens_encT | with_reducible exact lens_encL | (simp; done) | (simp only [List.length_take, List.length_map, List.length_append, maxLen_eq]; omega)) ?_); (try (with_reducible refine hK _ ?_; clear hK K)); (try with_reducible refine ite_conj ?_)))
  refine ⟨_, ih _ (Tm.lt_of_arg hx) x (by omega) rfl, ?_⟩
  cases q1 : f.fm <;> cases q2 : x.fm
  all_goals
    repeat' (first | (with_reducible first | refine IWP.seq ?_ | refine seqQ_normal ?_ | refine IWP.block ?_ | refine IWP.skip ?_ | refine IWP.exit ?_ | refine IWP.ret ?_ | refine seqQ_exit ?_ | refine seqQ_ret ?_ | refine inBlock_normal ?_ | refine inBlock_here ?_ | refine inBlock_away (by decide) ?_ | refine inBlock_ret ?_ | refine then_exit ?_ | refine then_ret ?_) | ((with_reducible first | refine IWP.ops2 (fun K hK => ?_) | refine IWP.cond ?_ | refine run2_run ?_ | refine keep_run2 ?_); (try simp only [go_sem, List.forall_mem_nil, ↓guard_ite, ↓pick_ite, Nat.reduceEqDiff, Nat.reduceAdd, Nat.reduceSub, Nat.reduceLeDiff, Nat.reduceLT, ↓reduceIte, reduceCtorEq, Int.reduceEq, Int.reduceLT, Int.reduceLE, Int.reduceAdd, Int.reduceSub, Int.reduceToNat, encT_eq, inR_i64, formE, decide_eq_true_eq, decide_eq_false_iff_not, Int.ofNat_lt]); (repeat with_reducible refine And.intro (by first | omega | with_reducible exact lens_encT | with_reducible exact lens_encL | (simp; done) | (simp only [List.length_take, List.length_map, List.length_append, maxLen_eq]; omega)) ?_); (try (with_reducible refine hK _ ?_; clear hK K)); (try with_reducible refine ite_conj ?_)))
    simp only [go_sem, List.forall_mem_nil, ↓guard_ite, ↓pick_ite, Nat.reduceEqDiff, Nat.reduceAdd, Nat.reduceSub, Nat.reduceLeDiff, Nat.reduceLT, ↓reduceIte, reduceCtorEq, Int.reduceEq, Int.reduceLT, Int.reduceLE, Int.reduceAdd, Int.reduceSub, Int.reduceToNat, FinQ, AS.result, resAll, resOne, tupV]
    simp [formE, Tm.fms, q1, q2]
def combMay (t : Tm) : Int := if t.may = 0 then formE t.fm else t.may
theorem combCheck_a (t : Tm) : ACalls Try.prog 69 [aTm t] (aInt (combMay t)) := by
  refine ac_comb_Check (Nat.le_of_ble_eq_true rfl) fun C hC => ?_
  unfold ir_comb_Check
  unfold combMay
  by_cases h : t.may = 0
  · have hz : t.size ≤ 200 := by
      unfold Tm.may at h
      split at h <;> omega
    rw [if_pos h]
    repeat' (first | (with_reducible first | refine IWP.seq ?_ | refine seqQ_normal ?_ | refine IWP.block ?_ | refine IWP.skip ?_ | refine IWP.exit ?_ | refine IWP.ret ?_ | refine seqQ_exit ?_ | refine seqQ_ret ?_ | refine inBlock_normal ?_ | refine inBlock_here ?_ | refine inBlock_away (by decide) ?_ | refine inBlock_ret ?_ | refine then_exit ?_ | refine then_ret ?_) | ((with_reducible first | refine IWP.ops2 (fun K hK => ?_) | refine IWP.cond ?_ | refine run2_run ?_ | refine keep_run2 ?_); (try simp only [go_sem, List.forall_mem_nil, ↓guard_ite, ↓pick_ite, Nat.reduceEqDiff, Nat.reduceAdd, Nat.reduceSub, Nat.reduceLeDiff, Nat.reduceLT, ↓reduceIte, reduceCtorEq, Int.reduceEq, Int.reduceLT, Int.reduceLE, Int.reduceAdd, Int.reduceSub, Int.reduceToNat, encT_eq, inR_i64, decide_eq_true_eq, decide_eq_false_iff_not, Int.ofNat_lt]); (repeat with_reducible refine And.intro (by first | omega | with_reducible exact lens_encT | with_reducible exact lens_encL | (simp; done) | (simp only [List.length_take, List.length_map, List.length_append, maxLen_eq]; omega)) ?_); (try (with_reducible refine hK _ ?_; clear hK K)); (try with_reducible refine ite_conj ?_)))
    refine ⟨_, checkT_a t, ?_⟩
    repeat' (first | (with_reducible first | refine IWP.seq ?_ | refine seqQ_normal ?_ | refine IWP.block ?_ | refine IWP.skip ?_ | refine IWP.exit ?_ | refine IWP.ret ?_ | refine seqQ_exit ?_ | refine seqQ_ret ?_ | refine inBlock_normal ?_ | refine inBlock_here ?_ | refine inBlock_away (by decide) ?_ | refine inBlock_ret ?_ | refine then_exit ?_ | refine then_ret ?_) | ((with_reducible first | refine IWP.ops2 (fun K hK => ?_) | refine IWP.cond ?_ | refine run2_run ?_ | refine keep_run2 ?_); (try simp only [go_sem, List.forall_mem_nil, ↓guard_ite, ↓pick_ite, Nat.reduceEqDiff, Nat.reduceAdd, Nat.reduceSub, Nat.reduceLeDiff, Nat.reduceLT, ↓reduceIte, reduceCtorEq, Int.reduceEq, Int.reduceLT, Int.reduceLE, Int.reduceAdd, Int.reduceSub, Int.reduceToNat, encT_eq, inR_i64, h, decide_eq_true_eq, decide_eq_false_iff_not, Int.ofNat_lt]); (repeat with_reducible refine And.intro (by first | omega | with_reducible exact lens_encT | with_reducible exact lens_encL | (simp; done) | (simp only [List.length_take, List.length_map, List.length_append, maxLen_eq]; omega)) ?_); (try (with_reducible refine hK _ ?_; clear hK K)); (try with_reducible refine ite_conj ?_)))
    refine ⟨_, form_a t (by omega), ?_⟩
    repeat' (first | (with_reducible first | refine IWP.seq ?_ | refine seqQ_normal ?_ | refine IWP.block ?_ | refine IWP.skip ?_ | refine IWP.exit ?_ | refine IWP.ret ?_ | refine seqQ_exit ?_ | refine seqQ_ret ?_ | refine inBlock_normal ?_ | refine inBlock_here ?_ | refine inBlock_away (by decide) ?_ | refine inBlock_ret ?_ | refine then_exit ?_ | refine then_ret ?_) | ((with_reducible first | refine IWP.ops2 (fun K hK => ?_) | refine IWP.cond ?_ | refine run2_run ?_ | refine keep_run2 ?_); (try simp only [go_sem, List.forall_mem_nil, ↓guard_ite, ↓pick_ite, Nat.reduceEqDiff, Nat.reduceAdd, Nat.reduceSub, Nat.reduceLeDiff, Nat.reduceLT, ↓reduceIte, reduceCtorEq, Int.reduceEq, Int.reduceLT, Int.reduceLE, Int.reduceAdd, Int.reduceSub, Int.reduceToNat, encT_eq, inR_i64, decide_eq_true_eq, decide_eq_false_iff_not, Int.ofNat_lt]); (repeat with_reducible refine And.intro (by first | omega | with_reducible exact lens_encT | with_reducible exact lens_encL | (simp; done) | (simp only [List.length_take, List.length_map, List.length_append, maxLen_eq]; omega)) ?_); (try (with_reducible refine hK _ ?_; clear hK K)); (try with_reducible refine ite_conj ?_)))
    simp only [go_sem, List.forall_mem_nil, ↓guard_ite, ↓pick_ite, Nat.reduceEqDiff, Nat.reduceAdd, Nat.reduceSub, Nat.reduceLeDiff, Nat.reduceLT, ↓reduceIte, reduceCtorEq, Int.reduceEq, Int.reduceLT, Int.reduceLE, Int.reduceAdd, Int.reduceSub, Int.reduceToNat, FinQ, AS.result, resAll, resOne, tupV]
  · rw [if_neg h]
    repeat' (first | (with_reducible first | refine IWP.seq ?_ | refine seqQ_normal ?_ | refine IWP.block ?_ | refine IWP.skip ?_ | refine IWP.exit ?_ | refine IWP.ret ?_ | refine seqQ_exit ?_ | refine seqQ_ret ?_ | refine inBlock_normal ?_ | refine inBlock_here ?_ | refine inBlock_away (by decide) ?_ | refine inBlock_ret ?_ | refine then_exit ?_ | refine then_ret ?_) | ((with_reducible first | refine IWP.ops2 (fun K hK => ?_) | refine IWP.cond ?_ | refine run2_run ?_ | refine keep_run2 ?_); (try simp only [go_sem, List.forall_mem_nil, ↓guard_ite, ↓pick_ite, Nat.reduceEqDiff, Nat.reduceAdd, Nat.reduceSub, Nat.reduceLeDiff, Nat.reduceLT, ↓reduceIte, reduceCtorEq, Int.reduceEq, Int.reduceLT, Int.reduceLE, Int.reduceAdd, Int.reduceSub, Int.reduceToNat, encT_eq, inR_i64, decide_eq_true_eq, decide_eq_false_iff_not, Int.ofNat_lt]); (repeat with_reducible refine And.intro (by first | omega | with_reducible exact lens_encT | with_reducible exact lens_encL | (simp; done) | (simp only [List.length_take, List.length_map, List.length_append, maxLen_eq]; omega)) ?_); (try (with_reducible refine hK _ ?_; clear hK K)); (try with_reducible refine ite_conj ?_)))
    refine ⟨_, checkT_a t, ?_⟩
    repeat' (first | (with_reducible first | refine IWP.seq ?_ | refine seqQ_normal ?_ | refine IWP.block ?_ | refine IWP.skip ?_ | refine IWP.exit ?_ | refine IWP.ret ?_ | refine seqQ_exit ?_ | refine seqQ_ret ?_ | refine inBlock_normal ?_ | refine inBlock_here ?_ | refine inBlock_away (by decide) ?_ | refine inBlock_ret ?_ | refine then_exit ?_ | refine then_ret ?_) | ((with_reducible first | refine IWP.ops2 (fun K hK => ?_) | refine IWP.cond ?_ | refine run2_run ?_ | refine keep_run2 ?_); (try simp only [go_sem, List.forall_mem_nil, ↓guard_ite, ↓pick_ite, Nat.reduceEqDiff, Nat.reduceAdd, Nat.reduceSub, Nat.reduceLeDiff, Nat.reduceLT, ↓reduceIte, reduceCtorEq, Int.reduceEq, Int.reduceLT, Int.reduceLE, Int.reduceAdd, Int.reduceSub, Int.reduceToNat, encT_eq, inR_i64, h, decide_eq_true_eq, decide_eq_false_iff_not, Int.ofNat_lt]); (repeat with_reducible refine And.intro (by first | omega | with_reducible exact lens_encT | with_reducible exact lens_encL | (simp; done) | (simp only [List.length_take, List.length_map, List.length_append, maxLen_eq]; omega)) ?_); (try (with_reducible refine hK _ ?_; clear hK K)); (try with_reducible refine ite_conj ?_)))
    simp only [go_sem, List.forall_mem_nil, ↓guard_ite, ↓pick_ite, Nat.reduceEqDiff, Nat.reduceAdd, Nat.reduceSub, Nat.reduceLeDiff, Nat.reduceLT, ↓reduceIte, reduceCtorEq, Int.reduceEq, Int.reduceLT, Int.reduceLE, Int.reduceAdd, Int.reduceSub, Int.reduceToNat, FinQ, AS.result, resAll, resOne, tupV]

theorem may_size {t : Tm} (h : t.may = 0) : t.size ≤ 200 := by
  unfold Tm.may at h
  split at h <;> omega
/-- All the first ones are of the form. -/
theorem all_take {l : List Tm} {k : Nat} {a : Tm} (ha : l[k]? = some a) (h : (l.take k).all fmOne = true) : (l.take (k + 1)).all fmOne = fmOne a := by
  rw [take_snoc ha, List.all_append, h]
  simp
theorem all_no {l : List Tm} {k : Nat} (h : (l.take k).all fmOne = false) : l.all fmOne = false := by
  have := List.all_append (xs := l.take k) (ys := l.drop k) (f := fmOne)
  rw [List.take_append_drop, h] at this
  simpa using this
theorem combMayR_a (t : Tm) : ACalls Try.prog 26 [aTm t] (aInt (combMay t)) := by
  refine ac_R_CombMay (Nat.le_of_ble_eq_true rfl) fun C hC => ?_
  unfold ir_R_CombMay
  unfold combMay
  by_cases h : t.may = 0
  case neg =>
    rw [if_neg h]
    repeat' (first | (with_reducible first | refine IWP.seq ?_ | refine seqQ_normal ?_ | refine IWP.block ?_ | refine IWP.skip ?_ | refine IWP.exit ?_ | refine IWP.ret ?_ | refine seqQ_exit ?_ | refine seqQ_ret ?_ | refine inBlock_normal ?_ | refine inBlock_here ?_ | refine inBlock_away (by decide) ?_ | refine inBlock_ret ?_ | refine then_exit ?_ | refine then_ret ?_) | ((with_reducible first | refine IWP.ops2 (fun K hK => ?_) | refine IWP.cond ?_ | refine run2_run ?_ | refine keep_run2 ?_); (try simp only [go_sem, List.forall_mem_nil, ↓guard_ite, ↓pick_ite, Nat.reduceEqDiff, Nat.reduceAdd, Nat.reduceSub, Nat.reduceLeDiff, Nat.reduceLT, ↓reduceIte, reduceCtorEq, Int.reduceEq, Int.reduceLT, Int.reduceLE, Int.reduceAdd, Int.reduceSub, Int.reduceToNat, encT_eq, inR_i64, decide_eq_true_eq, decide_eq_false_iff_not, Int.ofNat_lt]); (repeat with_reducible refine And.intro (by first | omega | with_reducible exact lens_encT | with_reducible exact lens_encL | (simp; done) | (simp only [List.length_take, List.length_map, List.length_append, maxLen_eq]; omega)) ?_); (try (with_reducible refine hK _ ?_; clear hK K)); (try with_reducible refine ite_conj ?_)))
    refine ⟨_, termMay_a t, ?_⟩
    repeat' (first | (with_reducible first | refine IWP.seq ?_ | refine seqQ_normal ?_ | refine IWP.block ?_ | refine IWP.skip ?_ | refine IWP.exit ?_ | refine IWP.ret ?_ | refine seqQ_exit ?_ | refine seqQ_ret ?_ | refine inBlock_normal ?_ | refine inBlock_here ?_ | refine inBlock_away (by decide) ?_ | refine inBlock_ret ?_ | refine then_exit ?_ | refine then_ret ?_) | ((with_reducible first | refine IWP.ops2 (fun K hK => ?_) | refine IWP.cond ?_ | refine run2_run ?_ | refine keep_run2 ?_); (try simp only [go_sem, List.forall_mem_nil, ↓guard_ite, ↓pick_ite, Nat.reduceEqDiff, Nat.reduceAdd, Nat.reduceSub, Nat.reduceLeDiff, Nat.reduceLT, ↓reduceIte, reduceCtorEq, Int.reduceEq, Int.reduceLT, Int.reduceLE, Int.reduceAdd, Int.reduceSub, Int.reduceToNat, encT_eq, inR_i64, h, decide_eq_true_eq, decide_eq_false_iff_not, Int.ofNat_lt]); (repeat with_reducible refine And.intro (by first | omega | with_reducible exact lens_encT | with_reducible exact lens_encL | (simp; done) | (simp only [List.length_take, List.length_map, List.length_append, maxLen_eq]; omega)) ?_); (try (with_reducible refine hK _ ?_; clear hK K)); (try with_reducible refine ite_conj ?_)))
    simp only [go_sem, List.forall_mem_nil, ↓guard_ite, ↓pick_ite, Nat.reduceEqDiff, Nat.reduceAdd, Nat.reduceSub, Nat.reduceLeDiff, Nat.reduceLT, ↓reduceIte, reduceCtorEq, Int.reduceEq, Int.reduceLT, Int.reduceLE, Int.reduceAdd, Int.reduceSub, Int.reduceToNat, FinQ, AS.result, resAll, resOne, tupV]
  case pos =>
  have hz := may_size h
  rw [if_pos h, Tm.fm_knots]
  have hkl := Tm.knots_length t
  have hKn := knots_a t (by omega)
  generalize t.knots = l at *
  repeat' (first | (with_reducible first | refine IWP.seq ?_ | refine seqQ_normal ?_ | refine IWP.block ?_ | refine IWP.skip ?_ | refine IWP.exit ?_ | refine IWP.ret ?_ | refine seqQ_exit ?_ | refine seqQ_ret ?_ | refine inBlock_normal ?_ | refine inBlock_here ?_ | refine inBlock_away (by decide) ?_ | refine inBlock_ret ?_ | refine then_exit ?_ | refine then_ret ?_) | ((with_reducible first | refine IWP.ops2 (fun K hK => ?_) | refine IWP.cond ?_ | refine run2_run ?_ | refine keep_run2 ?_); (try simp only [go_sem, List.forall_mem_nil, ↓guard_ite, ↓pick_ite, Nat.reduceEqDiff, Nat.reduceAdd, Nat.reduceSub, Nat.reduceLeDiff, Nat.reduceLT, ↓reduceIte, reduceCtorEq, Int.reduceEq, Int.reduceLT, Int.reduceLE, Int.reduceAdd, Int.reduceSub, Int.reduceToNat, encT_eq, inR_i64, decide_eq_true_eq, decide_eq_false_iff_not, Int.ofNat_lt]); (repeat with_reducible refine And.intro (by first | omega | with_reducible exact lens_encT | with_reducible exact lens_encL | (simp; done) | (simp only [List.length_take, List.length_map, List.length_append, maxLen_eq]; omega)) ?_); (try (with_reducible refine hK _ ?_; clear hK K)); (try with_reducible refine ite_conj ?_)))
  refine ⟨_, termMay_a t, ?_⟩
  repeat' (first | (with_reducible first | refine IWP.seq ?_ | refine seqQ_normal ?_ | refine IWP.block ?_ | refine IWP.skip ?_ | refine IWP.exit ?_ | refine IWP.ret ?_ | refine seqQ_exit ?_ | refine seqQ_ret ?_ | refine inBlock_normal ?_ | refine inBlock_here ?_ | refine inBlock_away (by decide) ?_ | refine inBlock_ret ?_ | refine then_exit ?_ | refine then_ret ?_) | ((with_reducible first | refine IWP.ops2 (fun K hK => ?_) | refine IWP.cond ?_ | refine run2_run ?_ | refine keep_run2 ?_); (try simp only [go_sem, List.forall_mem_nil, ↓guard_ite, ↓pick_ite, Nat.reduceEqDiff, Nat.reduceAdd, Nat.reduceSub, Nat.reduceLeDiff, Nat.reduceLT, ↓reduceIte, reduceCtorEq, Int.reduceEq, Int.reduceLT, Int.reduceLE, Int.reduceAdd, Int.reduceSub, Int.reduceToNat, encT_eq, inR_i64, h, decide_eq_true_eq, decide_eq_false_iff_not, Int.ofNat_lt]); (repeat with_reducible refine And.intro (by first | omega | with_reducible exact lens_encT | with_reducible exact lens_encL | (simp; done) | (simp only [List.length_take, List.length_map, List.length_append, maxLen_eq]; omega)) ?_); (try (with_reducible refine hK _ ?_; clear hK K)); (try with_reducible refine ite_conj ?_)))
  refine ⟨_, hKn, ?_⟩
  repeat' (first | (with_reducible first | refine IWP.seq ?_ | refine seqQ_normal ?_ | refine IWP.block ?_ | refine IWP.skip ?_ | refine IWP.exit ?_ | refine IWP.ret ?_ | refine seqQ_exit ?_ | refine seqQ_ret ?_ | refine inBlock_normal ?_ | refine inBlock_here ?_ | refine inBlock_away (by decide) ?_ | refine inBlock_ret ?_ | refine then_exit ?_ | refine then_ret ?_) | ((with_reducible first | refine IWP.ops2 (fun K hK => ?_) | refine IWP.cond ?_ | refine run2_run ?_ | refine keep_run2 ?_); (try simp only [go_sem, List.forall_mem_nil, ↓guard_ite, ↓pick_ite, Nat.reduceEqDiff, Nat.reduceAdd, Nat.reduceSub, Nat.reduceLeDiff, Nat.reduceLT, ↓reduceIte, reduceCtorEq, Int.reduceEq, Int.reduceLT, Int.reduceLE, Int.reduceAdd, Int.reduceSub, Int.reduceToNat, encT_eq, inR_i64, decide_eq_true_eq, decide_eq_false_iff_not, Int.ofNat_lt]); (repeat with_reducible refine And.intro (by first | omega | with_reducible exact lens_encT | with_reducible exact lens_encL | (simp; done) | (simp only [List.length_take, List.length_map, List.length_append, maxLen_eq]; omega)) ?_); (try (with_reducible refine hK _ ?_; clear hK K)); (try with_reducible refine ite_conj ?_)))
  refine IWP.loop (fun n s => ∃ k, k ≤ l.length ∧ n = l.length - k ∧ (l.take k).all fmOne = true ∧ s.env 4 = aTms l ∧ s.env 5 = aInt k) l.length ⟨0, Nat.zero_le _, rfl, rfl, rfl, rfl⟩ ?_
  rintro n ⟨env, S⟩ ⟨k, hk, rfl, hp, e4, e5⟩
  simp only at e4 e5
  by_cases hlt : (k : Int) < l.length
  · obtain ⟨a, ha⟩ := get_lt (show k < l.length by omega)
    have hcase : (¬ 0 < (a.args.length : Int) ∧ fmOne a = true) ∨ (0 < (a.args.length : Int) ∧ ¬ a.name = apS ∧ fmOne a = false) ∨ (0 < (a.args.length : Int) ∧ a.name = apS ∧ (a.args.length : Int) = 2 ∧ fmOne a = true) ∨ (0 < (a.args.length : Int) ∧ a.name = apS ∧ ¬ (a.args.length : Int) = 2 ∧ fmOne a = false) := by
      by_cases g0 : 0 < (a.args.length : Int)
      · have g0' : ¬ a.args = [] := fun e => by rw [e] at g0; simp at g0
        by_cases g1 : a.name = apS
        · by_cases g2 : (a.args.length : Int) = 2
          · exact Or.inr (Or.inr (Or.inl ⟨g0, g1, g2, by simp [fmOne, g1, show a.args.length = 2 by omega]⟩))
          · exact Or.inr (Or.inr (Or.inr ⟨g0, g1, g2, by simp [fmOne, g0', show ¬ a.args.length = 2 by omega]⟩))
        · exact Or.inr (Or.inl ⟨g0, g1, by simp [fmOne, g0', g1]⟩)
      · exact Or.inl ⟨g0, by simp [fmOne, List.eq_nil_of_length_eq_zero (show a.args.length = 0 by omega)]⟩
    rcases hcase with ⟨g0, g3⟩ | ⟨g0, g1, g3⟩ | ⟨g0, g1, g2, g3⟩ | ⟨g0, g1, g2, g3⟩
    · repeat' (first | (with_reducible first | refine IWP.seq ?_ | refine seqQ_normal ?_ | refine IWP.block ?_ | refine IWP.skip ?_ | refine IWP.exit ?_ | refine IWP.ret ?_ | refine seqQ_exit ?_ | refine seqQ_ret ?_ | refine inBlock_normal ?_ | refine inBlock_here ?_ | refine inBlock_away (by decide) ?_ | refine inBlock_ret ?_ | refine then_exit ?_ | refine then_ret ?_) | ((with_reducible first | refine IWP.ops2 (fun K hK => ?_) | refine IWP.cond ?_ | refine run2_run ?_ | refine keep_run2 ?_); (try simp only [go_sem, List.forall_mem_nil, ↓guard_ite, ↓pick_ite, Nat.reduceEqDiff, Nat.reduceAdd, Nat.reduceSub, Nat.reduceLeDiff, Nat.reduceLT, ↓reduceIte, reduceCtorEq, Int.reduceEq, Int.reduceLT, Int.reduceLE, Int.reduceAdd, Int.reduceSub, Int.reduceToNat, encT_eq, inR_i64, e4, e5, ha, hlt, g0, decide_eq_true_eq, decide_eq_false_iff_not, Int.ofNat_lt]); (repeat with_reducible refine And.intro (by first | omega | with_reducible exact lens_encT | with_reducible exact lens_encL | (simp; done) | (simp only [List.length_take, List.length_map, List.length_append, maxLen_eq]; omega)) ?_); (try (with_reducible refine hK _ ?_; clear hK K)); (try with_reducible refine ite_conj ?_)))
      refine then_normal ⟨l.length - (k + 1), by omega, k + 1, by omega, rfl, ?_⟩
      simp only [go_sem, List.forall_mem_nil, ↓guard_ite, ↓pick_ite, Nat.reduceEqDiff, Nat.reduceAdd, Nat.reduceSub, Nat.reduceLeDiff, Nat.reduceLT, ↓reduceIte, reduceCtorEq, Int.reduceEq, Int.reduceLT, Int.reduceLE, Int.reduceAdd, Int.reduceSub, Int.reduceToNat, encT_eq, inR_i64, e4, e5]
      exact ⟨by rw [all_take ha hp, g3], by congr 3⟩
    · have g1' : ¬ a.name = ⟨#[97, 112]⟩ := g1
      repeat' (first | (with_reducible first | refine IWP.seq ?_ | refine seqQ_normal ?_ | refine IWP.block ?_ | refine IWP.skip ?_ | refine IWP.exit ?_ | refine IWP.ret ?_ | refine seqQ_exit ?_ | refine seqQ_ret ?_ | refine inBlock_normal ?_ | refine inBlock_here ?_ | refine inBlock_away (by decide) ?_ | refine inBlock_ret ?_ | refine then_exit ?_ | refine then_ret ?_) | ((with_reducible first | refine IWP.ops2 (fun K hK => ?_) | refine IWP.cond ?_ | refine run2_run ?_ | refine keep_run2 ?_); (try simp only [go_sem, List.forall_mem_nil, ↓guard_ite, ↓pick_ite, Nat.reduceEqDiff, Nat.reduceAdd, Nat.reduceSub, Nat.reduceLeDiff, Nat.reduceLT, ↓reduceIte, reduceCtorEq, Int.reduceEq, Int.reduceLT, Int.reduceLE, Int.reduceAdd, Int.reduceSub, Int.reduceToNat, encT_eq, inR_i64, e4, e5, ha, hlt, g0, g1', decide_eq_true_eq, decide_eq_false_iff_not, Int.ofNat_lt]); (repeat with_reducible refine And.intro (by first | omega | with_reducible exact lens_encT | with_reducible exact lens_encL | (simp; done) | (simp only [List.length_take, List.length_map, List.length_append, maxLen_eq]; omega)) ?_); (try (with_reducible refine hK _ ?_; clear hK K)); (try with_reducible refine ite_conj ?_)))
      simp only [go_sem, List.forall_mem_nil, ↓guard_ite, ↓pick_ite, Nat.reduceEqDiff, Nat.reduceAdd, Nat.reduceSub, Nat.reduceLeDiff, Nat.reduceLT, ↓reduceIte, reduceCtorEq, Int.reduceEq, Int.reduceLT, Int.reduceLE, Int.reduceAdd, Int.reduceSub, Int.reduceToNat, FinQ, AS.result, resAll, resOne, tupV]
      rw [all_no (k := k + 1) (by rw [all_take ha hp, g3])]
      rfl
    · have g1' : a.name = ⟨#[97, 112]⟩ := g1
      repeat' (first | (with_reducible first | refine IWP.seq ?_ | refine seqQ_normal ?_ | refine IWP.block ?_ | refine IWP.skip ?_ | refine IWP.exit ?_ | refine IWP.ret ?_ | refine seqQ_exit ?_ | refine seqQ_ret ?_ | refine inBlock_normal ?_ | refine inBlock_here ?_ | refine inBlock_away (by decide) ?_ | refine inBlock_ret ?_ | refine then_exit ?_ | refine then_ret ?_) | ((with_reducible first | refine IWP.ops2 (fun K hK => ?_) | refine IWP.cond ?_ | refine run2_run ?_ | refine keep_run2 ?_); (try simp only [go_sem, List.forall_mem_nil, ↓guard_ite, ↓pick_ite, Nat.reduceEqDiff, Nat.reduceAdd, Nat.reduceSub, Nat.reduceLeDiff, Nat.reduceLT, ↓reduceIte, reduceCtorEq, Int.reduceEq, Int.reduceLT, Int.reduceLE, Int.reduceAdd, Int.reduceSub, Int.reduceToNat, encT_eq, inR_i64, e4, e5, ha, hlt, g0, g1', g2, decide_eq_true_eq, decide_eq_false_iff_not, Int.ofNat_lt]); (repeat with_reducible refine And.intro (by first | omega | with_reducible exact lens_encT | with_reducible exact lens_encL | (simp; done) | (simp only [List.length_take, List.length_map, List.length_append, maxLen_eq]; omega)) ?_); (try (with_reducible refine hK _ ?_; clear hK K)); (try with_reducible refine ite_conj ?_)))
      refine then_normal ⟨l.length - (k + 1), by omega, k + 1, by omega, rfl, ?_⟩
      simp only [go_sem, List.forall_mem_nil, ↓guard_ite, ↓pick_ite, Nat.reduceEqDiff, Nat.reduceAdd, Nat.reduceSub, Nat.reduceLeDiff, Nat.reduceLT, ↓reduceIte, reduceCtorEq, Int.reduceEq, Int.reduceLT, Int.reduceLE, Int.reduceAdd, Int.reduceSub, Int.reduceToNat, encT_eq, inR_i64, e4, e5]
      exact ⟨by rw [all_take ha hp, g3], by congr 3⟩
    · have g1' : a.name = ⟨#[97, 112]⟩ := g1
      repeat' (first | (with_reducible first | refine IWP.seq ?_ | refine seqQ_normal ?_ | refine IWP.block ?_ | refine IWP.skip ?_ | refine IWP.exit ?_ | refine IWP.ret ?_ | refine seqQ_exit ?_ | refine seqQ_ret ?_ | refine inBlock_normal ?_ | refine inBlock_here ?_ | refine inBlock_away (by decide) ?_ | refine inBlock_ret ?_ | refine then_exit ?_ | refine then_ret ?_) | ((with_reducible first | refine IWP.ops2 (fun K hK => ?_) | refine IWP.cond ?_ | refine run2_run ?_ | refine keep_run2 ?_); (try simp only [go_sem, List.forall_mem_nil, ↓guard_ite, ↓pick_ite, Nat.reduceEqDiff, Nat.reduceAdd, Nat.reduceSub, Nat.reduceLeDiff, Nat.reduceLT, ↓reduceIte, reduceCtorEq, Int.reduceEq, Int.reduceLT, Int.reduceLE, Int.reduceAdd, Int.reduceSub, Int.reduceToNat, encT_eq, inR_i64, e4, e5, ha, hlt, g0, g1', g2, decide_eq_true_eq, decide_eq_false_iff_not, Int.ofNat_lt]); (repeat with_reducible refine And.intro (by first | omega | with_reducible exact lens_encT | with_reducible exact lens_encL | (simp; done) | (simp only [List.length_take, List.length_map, List.length_append, maxLen_eq]; omega)) ?_); (try (with_reducible refine hK _ ?_; clear hK K)); (try with_reducible refine ite_conj ?_)))
      simp only [go_sem, List.forall_mem_nil, ↓guard_ite, ↓pick_ite, Nat.reduceEqDiff, Nat.reduceAdd, Nat.reduceSub, Nat.reduceLeDiff, Nat.reduceLT, ↓reduceIte, reduceCtorEq, Int.reduceEq, Int.reduceLT, Int.reduceLE, Int.reduceAdd, Int.reduceSub, Int.reduceToNat, FinQ, AS.result, resAll, resOne, tupV]
      rw [all_no (k := k + 1) (by rw [all_take ha hp, g3])]
      rfl
  · rw [List.take_of_length_le (by omega)] at hp
    rw [hp]
    repeat' (first | (with_reducible first | refine IWP.seq ?_ | refine seqQ_normal ?_ | refine IWP.block ?_ | refine IWP.skip ?_ | refine IWP.exit ?_ | refine IWP.ret ?_ | refine seqQ_exit ?_ | refine seqQ_ret ?_ | refine inBlock_normal ?_ | refine inBlock_here ?_ | refine inBlock_away (by decide) ?_ | refine inBlock_ret ?_ | refine then_exit ?_ | refine then_ret ?_) | ((with_reducible first | refine IWP.ops2 (fun K hK => ?_) | refine IWP.cond ?_ | refine run2_run ?_ | refine keep_run2 ?_); (try simp only [go_sem, List.forall_mem_nil, ↓guard_ite, ↓pick_ite, Nat.reduceEqDiff, Nat.reduceAdd, Nat.reduceSub, Nat.reduceLeDiff, Nat.reduceLT, ↓reduceIte, reduceCtorEq, Int.reduceEq, Int.reduceLT, Int.reduceLE, Int.reduceAdd, Int.reduceSub, Int.reduceToNat, encT_eq, inR_i64, e4, e5, hlt, decide_eq_true_eq, decide_eq_false_iff_not, Int.ofNat_lt]); (repeat with_reducible refine And.intro (by first | omega | with_reducible exact lens_encT | with_reducible exact lens_encL | (simp; done) | (simp only [List.length_take, List.length_map, List.length_append, maxLen_eq]; omega)) ?_); (try (with_reducible refine hK _ ?_; clear hK K)); (try with_reducible refine ite_conj ?_)))
    simp only [go_sem, List.forall_mem_nil, ↓guard_ite, ↓pick_ite, Nat.reduceEqDiff, Nat.reduceAdd, Nat.reduceSub, Nat.reduceLeDiff, Nat.reduceLT, ↓reduceIte, reduceCtorEq, Int.reduceEq, Int.reduceLT, Int.reduceLE, Int.reduceAdd, Int.reduceSub, Int.reduceToNat, FinQ, AS.result, resAll, resOne, tupV]
    rfl
theorem finS_same {C : Ctx} {rs : List RV} {r : AV} {e : AX} {s : AS} {S : AStore} (r0 : AV) (hS : Clean S) (he : match e with | .normal => True | .ret => True | _ => False)
    (h1 : (resAll s rs).map tupV = some r0) (h2 : outV s.S r0 = some r) (h4 : ∀ i, 1000 ≤ i → s.S i = S i) : FinS C rs r S e s :=
  finS_low he r0 h1 h2 (fun i b hi hb => (hS i b (by rw [← h4 i hi]; exact hb)).2) (by
    funext i
    unfold lowS
    split
    · exact (clean_none hS (by omega)).symm
    · exact h4 i (by omega)) hS
/-- The i-th from a row's end, as the closure tells it. -/
theorem at_S (ws : List Tm) (i : Nat) (x : Tm) (hi : i < ws.length) (hx : ws[ws.length - 1 - i]? = some x) (hl : ws.length ≤ 1000000) (b r c : Nat) (hb : 1000 ≤ b) (hr : 1000 ≤ r) (hc : 1000 ≤ c) (S : AStore)
    (sb : S b = some (.box 23 [.row r ws.length])) (sr : S r = some (.mrow 25 2 (ws.map encT))) (sc : S c = some (.box 3 [.st (.int .i64 ws.length)])) :
    ACallsS Try.prog 104 [aInt i, .one (.ptr b 1 0 0), .one (.ptr c 1 0 0)] S (aTm x) S := by
  refine acS_comb_step_1 (Nat.le_of_ble_eq_true rfl) fun hS C hC => ?_
  unfold ir_comb_step_1
  have s4 : S 4 = none := clean_none hS (by omega)
  have b4 : ¬ b = 4 := by omega
  have r4 : ¬ r = 4 := by omega
  have c4 : ¬ c = 4 := by omega
  have hto : ((ws.length : Int) - 1 - i).toNat = ws.length - 1 - i := by omega
  have h0 : 0 ≤ (ws.length : Int) - 1 - i := by omega
  have hlt : ws.length - 1 - i < ws.length := by omega
  repeat' (first | (with_reducible first | refine IWP.seq ?_ | refine seqQ_normal ?_ | refine IWP.block ?_ | refine IWP.skip ?_ | refine IWP.exit ?_ | refine IWP.ret ?_ | refine seqQ_exit ?_ | refine seqQ_ret ?_ | refine inBlock_normal ?_ | refine inBlock_here ?_ | refine inBlock_away (by decide) ?_ | refine inBlock_ret ?_ | refine then_exit ?_ | refine then_ret ?_) | ((with_reducible first | refine IWP.ops2 (fun K hK => ?_) | refine IWP.cond ?_ | refine run2_run ?_ | refine keep_run2 ?_); (try simp only [go_sem, List.forall_mem_nil, ↓guard_ite, ↓pick_ite, Nat.reduceEqDiff, Nat.reduceAdd, Nat.reduceSub, Nat.reduceLeDiff, Nat.reduceLT, ↓reduceIte, reduceCtorEq, Int.reduceEq, Int.reduceLT, Int.reduceLE, Int.reduceAdd, Int.reduceSub, Int.reduceToNat, encT_eq, inR_i64, s4, sb, sr, sc, b4, r4, c4, hto, h0, hlt, hx, decide_eq_true_eq, decide_eq_false_iff_not, Int.ofNat_lt]); (repeat with_reducible refine And.intro (by first | omega | with_reducible exact lens_encT | with_reducible exact lens_encL | (simp; done) | (simp only [List.length_take, List.length_map, List.length_append, maxLen_eq]; omega)) ?_); (try (with_reducible refine hK _ ?_; clear hK K)); (try with_reducible refine ite_conj ?_)))
  refine finS_same (aTm x) hS trivial ?_ ?_ fun j hj => ?_
  · rfl
  · rfl
  · have j4 : ¬ j = 4 := by omega
    simp only [updE, j4, if_false]

/-- A row made anew, given to the caller under the name a0. -/
theorem clone_S (ws : List Tm) (h0 : 0 < ws.length) (hl : ws.length ≤ 1000000) (r a0 : Nat) (hr : 1000 ≤ r) (ha : 1000 ≤ a0) (S : AStore) (sr : S r = some (.arow 25 2 (ws.map encT))) (hSa : S a0 = none) :
    ACallsS Try.prog 106 [.one (.row r ws.length)] S (.one (.row a0 ws.length)) (updE S a0 (some (.mrow 25 2 (ws.map encT)))) := by
  refine acS_slices_Clone_metaprune_api_Term_metaprune_api_Term (Nat.le_of_ble_eq_true rfl) fun hS C hC => ?_
  unfold ir_slices_Clone_metaprune_api_Term_metaprune_api_Term
  have s7 : S 7 = none := clean_none hS (by omega)
  have hne : ¬ ws = [] := fun e => by rw [e] at h0; simp at h0
  refine IWP.ghost (Ghost.settle 0 (v := aTms ws) ?_) ?_
  · simp [AS.startS, outV, outC, stC, sr]
  repeat' (first | (with_reducible first | refine IWP.seq ?_ | refine seqQ_normal ?_ | refine IWP.block ?_ | refine IWP.skip ?_ | refine IWP.exit ?_ | refine IWP.ret ?_ | refine seqQ_exit ?_ | refine seqQ_ret ?_ | refine inBlock_normal ?_ | refine inBlock_here ?_ | refine inBlock_away (by decide) ?_ | refine inBlock_ret ?_ | refine then_exit ?_ | refine then_ret ?_) | ((with_reducible first | refine IWP.ops2 (fun K hK => ?_) | refine IWP.cond ?_ | refine run2_run ?_ | refine keep_run2 ?_); (try simp only [go_sem, List.forall_mem_nil, ↓guard_ite, ↓pick_ite, Nat.reduceEqDiff, Nat.reduceAdd, Nat.reduceSub, Nat.reduceLeDiff, Nat.reduceLT, ↓reduceIte, reduceCtorEq, Int.reduceEq, Int.reduceLT, Int.reduceLE, Int.reduceAdd, Int.reduceSub, Int.reduceToNat, encT_eq, inR_i64, s7, h0, hne, decide_eq_true_eq, decide_eq_false_iff_not, Int.ofNat_lt]); (repeat with_reducible refine And.intro (by first | omega | with_reducible exact lens_encT | with_reducible exact lens_encL | (simp; done) | (simp only [List.length_take, List.length_map, List.length_append, maxLen_eq]; omega)) ?_); (try (with_reducible refine hK _ ?_; clear hK K)); (try with_reducible refine ite_conj ?_)))
  have hb : ∀ i b, 1000 ≤ i → updE S 7 (some (.mrow 25 2 (ws.map encT))) i = some b → b.high = true := high_updL (by omega) fun k c _ hk => (hS k c hk).2
  refine finS_at trivial ⟨_, Ghost.hand 7 a0 (b0 := .mrow 25 2 (ws.map encT)) (by omega) ha (by show updE _ _ _ _ = _; rw [updE_ne _ (by omega), hSa]) (by simp only [updE_same]) rfl hb, ?_, ?_, clean_upd hS ha rfl⟩
  · simp only [resAll, resOne, tupV, updE, AV.hand, AV.ren, AC.ren, oneTo, if_true, AV.high, AC.high, ha, decide_true, Option.map_some]
  · show updE (lowS _) _ _ = _
    rw [lowS_low _ (by omega), lowS_clean hS]

/-- A row by the document: what stands at the front, and to what it is applied; the row is the caller's under the name a0. -/
theorem row_S (t : Tm) (hf : t.fm = true) (hz : t.size ≤ 1000000) (a0 : Nat) (ha : 1000 ≤ a0) (S : AStore) (hSa : S a0 = none) :
    (t.args = [] ∧ ACallsS Try.prog 101 [aTm t] S (.tup [aTm t, .one (.full [])]) S) ∨
    (¬ t.args = [] ∧ ACallsS Try.prog 101 [aTm t] S (.tup [aTm t.hd, .one (.row a0 t.rw_.length)]) (updE S a0 (some (.arow 25 2 (t.rw_.map encT))))) := by
  induction h : SizeOf.sizeOf t using Nat.strongRecOn generalizing t a0 S with
  | _ N ih =>
  subst h
  rcases Tm.fm_cases hf with h0 | ⟨f, x, hn, hfx, ff, fx⟩
  · refine Or.inl ⟨h0, ?_⟩
    refine acS_R_Row (Nat.le_of_ble_eq_true rfl) fun hS C hC => ?_
    unfold ir_R_Row
    have s1 : S 1 = none := clean_none hS (by omega)
    have s2 : S 2 = none := clean_none hS (by omega)
    repeat' (first | (with_reducible first | refine IWP.seq ?_ | refine seqQ_normal ?_ | refine IWP.block ?_ | refine IWP.skip ?_ | refine IWP.exit ?_ | refine IWP.ret ?_ | refine seqQ_exit ?_ | refine seqQ_ret ?_ | refine inBlock_normal ?_ | refine inBlock_here ?_ | refine inBlock_away (by decide) ?_ | refine inBlock_ret ?_ | refine then_exit ?_ | refine then_ret ?_) | ((with_reducible first | refine IWP.ops2 (fun K hK => ?_) | refine IWP.cond ?_ | refine run2_run ?_ | refine keep_run2 ?_); (try simp only [go_sem, List.forall_mem_nil, ↓guard_ite, ↓pick_ite, Nat.reduceEqDiff, Nat.reduceAdd, Nat.reduceSub, Nat.reduceLeDiff, Nat.reduceLT, ↓reduceIte, reduceCtorEq, Int.reduceEq, Int.reduceLT, Int.reduceLE, Int.reduceAdd, Int.reduceSub, Int.reduceToNat, encT_eq, inR_i64, s1, s2, h0, Int.cast_ofNat_Int, decide_eq_true_eq, decide_eq_false_iff_not, Int.ofNat_lt]); (repeat with_reducible refine And.intro (by first | omega | with_reducible exact lens_encT | with_reducible exact lens_encL | (simp; done) | (simp only [List.length_take, List.length_map, List.length_append, maxLen_eq]; omega)) ?_); (try (with_reducible refine hK _ ?_; clear hK K)); (try with_reducible refine ite_conj ?_)))
    refine finS_high trivial ?_ rfl ?_ ?_ hS
    · simp [resAll, resOne, tupV, updE, blkCells, h0, pack]
    · exact high_updL (by omega) (high_updL (by omega) (high_updL (by omega) fun k c _ hk => (hS k c hk).2))
    · rw [lowS_low _ (by omega), lowS_low _ (by omega), lowS_low _ (by omega), lowS_clean hS]
  · have hne : ¬ t.args = [] := by rw [hfx]; simp
    have hfm : f ∈ t.args := by rw [hfx]; simp
    have sf := Tm.size_mem hfm
    have ss := Tm.size_eq t
    refine Or.inr ⟨hne, ?_⟩
    rw [Tm.hd_ap hfx, Tm.rw_ap hfx]
    refine acS_R_Row (Nat.le_of_ble_eq_true rfl) fun hS C hC => ?_
    unfold ir_R_Row
    have s1 : S 1 = none := clean_none hS (by omega)
    have s2 : S 2 = none := clean_none hS (by omega)
    have s4 : S 4 = none := clean_none hS (by omega)
    have s21 : S 21 = none := clean_none hS (by omega)
    have s26 : S 26 = none := clean_none hS (by omega)
    have hlen := Tm.length_le f.rw_
    have hsz := Tm.rw_size ff
    repeat' (first | (with_reducible first | refine IWP.seq ?_ | refine seqQ_normal ?_ | refine IWP.block ?_ | refine IWP.skip ?_ | refine IWP.exit ?_ | refine IWP.ret ?_ | refine seqQ_exit ?_ | refine seqQ_ret ?_ | refine inBlock_normal ?_ | refine inBlock_here ?_ | refine inBlock_away (by decide) ?_ | refine inBlock_ret ?_ | refine then_exit ?_ | refine then_ret ?_) | ((with_reducible first | refine IWP.ops2 (fun K hK => ?_) | refine IWP.cond ?_ | refine run2_run ?_ | refine keep_run2 ?_); (try simp only [go_sem, List.forall_mem_nil, ↓guard_ite, ↓pick_ite, Nat.reduceEqDiff, Nat.reduceAdd, Nat.reduceSub, Nat.reduceLeDiff, Nat.reduceLT, ↓reduceIte, reduceCtorEq, Int.reduceEq, Int.reduceLT, Int.reduceLE, Int.reduceAdd, Int.reduceSub, Int.reduceToNat, encT_eq, inR_i64, s1, s2, s4, hfx, Int.cast_ofNat_Int, decide_eq_true_eq, decide_eq_false_iff_not, Int.ofNat_lt]); (repeat with_reducible refine And.intro (by first | omega | with_reducible exact lens_encT | with_reducible exact lens_encL | (simp; done) | (simp only [List.length_take, List.length_map, List.length_append, maxLen_eq]; omega)) ?_); (try (with_reducible refine hK _ ?_; clear hK K)); (try with_reducible refine ite_conj ?_)))
    rcases ih _ (Tm.lt_of_arg hfm) f ff (by omega) (up1 21) (up1_le 21) (upS (updE (updE S 1 (some (.box 25 [.st (.str t.name), .st (.list [[.str f.name, .list (f.args.map encT)], [.str x.name, .list (x.args.map encT)]])]))) 2 (some (.box 25 [.st (.str ⟨#[]⟩), .full []])))) (by rw [upS_up]; simp [updE, s21]) rfl with ⟨g0, g1⟩ | ⟨g0, g1⟩
    · refine ⟨_, _, g1, ?_⟩
      repeat' (first | (with_reducible first | refine IWP.seq ?_ | refine seqQ_normal ?_ | refine IWP.block ?_ | refine IWP.skip ?_ | refine IWP.exit ?_ | refine IWP.ret ?_ | refine seqQ_exit ?_ | refine seqQ_ret ?_ | refine inBlock_normal ?_ | refine inBlock_here ?_ | refine inBlock_away (by decide) ?_ | refine inBlock_ret ?_ | refine then_exit ?_ | refine then_ret ?_) | ((with_reducible first | refine IWP.ops2 (fun K hK => ?_) | refine IWP.cond ?_ | refine run2_run ?_ | refine keep_run2 ?_); (try simp only [go_sem, List.forall_mem_nil, ↓guard_ite, ↓pick_ite, Nat.reduceEqDiff, Nat.reduceAdd, Nat.reduceSub, Nat.reduceLeDiff, Nat.reduceLT, ↓reduceIte, reduceCtorEq, Int.reduceEq, Int.reduceLT, Int.reduceLE, Int.reduceAdd, Int.reduceSub, Int.reduceToNat, encT_eq, inR_i64, s1, s2, s4, s26, hfx, decide_eq_true_eq, decide_eq_false_iff_not, Int.ofNat_lt]); (repeat with_reducible refine And.intro (by first | omega | with_reducible exact lens_encT | with_reducible exact lens_encL | (simp; done) | (simp only [List.length_take, List.length_map, List.length_append, maxLen_eq]; omega)) ?_); (try (with_reducible refine hK _ ?_; clear hK K)); (try with_reducible refine ite_conj ?_)))
      rw [Tm.hd_leaf g0, Tm.rw_leaf g0]
      simp only [List.length_nil, List.nil_append, Nat.zero_add]
      have n1 : ¬ a0 = 1 := by omega
      have n2 : ¬ a0 = 2 := by omega
      have n4 : ¬ a0 = 4 := by omega
      have n21 : ¬ a0 = 26 := by omega
      rw [show (.tup [aTm f, .one (.row a0 1)] : AV) = AV.ren (oneTo 26 a0) (.tup [aTm f, .one (.row 26 1)]) by simp [AV.ren, AV.rens, AC.ren, AC.rens, oneTo]]
      refine finS_hand trivial 26 a0 _ (b0 := .arow 25 2 ([x].map encT)) (by omega) ha ?_ ?_ rfl ?_ ?_ ?_ ?_ (clean_upd hS ha rfl)
      · simp [updE, hSa, n1, n2, n4, n21]
      · simp [updE, encT_eq]
      · repeat (refine high_updL (by omega) ?_)
        exact fun k c _ hk => (hS k c hk).2
      · simp [resAll, resOne, tupV, updE, blkCells, pack]
      · simp [AV.ren, AV.rens, AC.ren, AC.rens, AV.high, AV.highs, AC.high, AC.highs, oneTo, ha]
      · repeat rw [lowS_low _ (by omega)]
        rw [lowS_clean hS]
    · refine ⟨_, _, g1, ?_⟩
      repeat' (first | (with_reducible first | refine IWP.seq ?_ | refine seqQ_normal ?_ | refine IWP.block ?_ | refine IWP.skip ?_ | refine IWP.exit ?_ | refine IWP.ret ?_ | refine seqQ_exit ?_ | refine seqQ_ret ?_ | refine inBlock_normal ?_ | refine inBlock_here ?_ | refine inBlock_away (by decide) ?_ | refine inBlock_ret ?_ | refine then_exit ?_ | refine then_ret ?_) | ((with_reducible first | refine IWP.ops2 (fun K hK => ?_) | refine IWP.cond ?_ | refine run2_run ?_ | refine keep_run2 ?_); (try simp only [go_sem, List.forall_mem_nil, ↓guard_ite, ↓pick_ite, Nat.reduceEqDiff, Nat.reduceAdd, Nat.reduceSub, Nat.reduceLeDiff, Nat.reduceLT, ↓reduceIte, reduceCtorEq, Int.reduceEq, Int.reduceLT, Int.reduceLE, Int.reduceAdd, Int.reduceSub, Int.reduceToNat, encT_eq, inR_i64, s1, s2, s4, s21, hfx, decide_eq_true_eq, decide_eq_false_iff_not, Int.ofNat_lt]); (repeat with_reducible refine And.intro (by first | omega | with_reducible exact lens_encT | with_reducible exact lens_encL | (simp; done) | (simp only [List.length_take, List.length_map, List.length_append, maxLen_eq]; omega)) ?_); (try (with_reducible refine hK _ ?_; clear hK K)); (try with_reducible refine ite_conj ?_)))
      have n1 : ¬ a0 = 1 := by omega
      have n2 : ¬ a0 = 2 := by omega
      have n4 : ¬ a0 = 4 := by omega
      have n21 : ¬ a0 = 21 := by omega
      rw [show (.tup [aTm f.hd, .one (.row a0 (f.rw_.length + 1))] : AV) = AV.ren (oneTo 21 a0) (.tup [aTm f.hd, .one (.row 21 (f.rw_.length + 1))]) by simp [AV.ren, AV.rens, AC.ren, AC.rens, oneTo]]
      refine finS_hand trivial 21 a0 _ (b0 := .arow 25 2 ((f.rw_ ++ [x]).map encT)) (by omega) ha ?_ ?_ rfl ?_ ?_ ?_ ?_ (clean_upd hS ha rfl)
      · simp [updE, hSa, n1, n2, n4, n21]
      · simp [updE, encT_eq]
      · repeat (refine high_updL (by omega) ?_)
        exact fun k c _ hk => (hS k c hk).2
      · simp [resAll, resOne, tupV, updE, blkCells, pack]
      · simp [AV.ren, AV.rens, AC.ren, AC.rens, AV.high, AV.highs, AC.high, AC.highs, oneTo, ha]
      · repeat rw [lowS_low _ (by omega)]
        rw [lowS_clean hS]

theorem row_a (t : Tm) (hf : t.fm = true) (hz : t.size ≤ 1000000) : ACalls Try.prog 101 [aTm t] (.tup [aTm t.hd, aTms t.rw_]) := by
  rcases Tm.fm_cases hf with h0 | ⟨f, x, hn, hfx, ff, fx⟩
  · rw [Tm.hd_leaf h0, Tm.rw_leaf h0]
    refine ac_R_Row (Nat.le_of_ble_eq_true rfl) fun C hC => ?_
    unfold ir_R_Row
    repeat' (first | (with_reducible first | refine IWP.seq ?_ | refine seqQ_normal ?_ | refine IWP.block ?_ | refine IWP.skip ?_ | refine IWP.exit ?_ | refine IWP.ret ?_ | refine seqQ_exit ?_ | refine seqQ_ret ?_ | refine inBlock_normal ?_ | refine inBlock_here ?_ | refine inBlock_away (by decide) ?_ | refine inBlock_ret ?_ | refine then_exit ?_ | refine then_ret ?_) | ((with_reducible first | refine IWP.ops2 (fun K hK => ?_) | refine IWP.cond ?_ | refine run2_run ?_ | refine keep_run2 ?_); (try simp only [go_sem, List.forall_mem_nil, ↓guard_ite, ↓pick_ite, Nat.reduceEqDiff, Nat.reduceAdd, Nat.reduceSub, Nat.reduceLeDiff, Nat.reduceLT, ↓reduceIte, reduceCtorEq, Int.reduceEq, Int.reduceLT, Int.reduceLE, Int.reduceAdd, Int.reduceSub, Int.reduceToNat, encT_eq, inR_i64, h0, Int.cast_ofNat_Int, decide_eq_true_eq, decide_eq_false_iff_not, Int.ofNat_lt]); (repeat with_reducible refine And.intro (by first | omega | with_reducible exact lens_encT | with_reducible exact lens_encL | (simp; done) | (simp only [List.length_take, List.length_map, List.length_append, maxLen_eq]; omega)) ?_); (try (with_reducible refine hK _ ?_; clear hK K)); (try with_reducible refine ite_conj ?_)))
    simp only [go_sem, List.forall_mem_nil, ↓guard_ite, ↓pick_ite, Nat.reduceEqDiff, Nat.reduceAdd, Nat.reduceSub, Nat.reduceLeDiff, Nat.reduceLT, ↓reduceIte, reduceCtorEq, Int.reduceEq, Int.reduceLT, Int.reduceLE, Int.reduceAdd, Int.reduceSub, Int.reduceToNat, FinQ, AS.result, resAll, resOne, tupV, h0]
    try simp [h0]
  · have hfm : f ∈ t.args := by rw [hfx]; simp
    have sf := Tm.size_mem hfm
    have ss := Tm.size_eq t
    have hlen := Tm.length_le f.rw_
    have hsz := Tm.rw_size ff
    rw [Tm.hd_ap hfx, Tm.rw_ap hfx]
    refine ac_R_Row (Nat.le_of_ble_eq_true rfl) fun C hC => ?_
    unfold ir_R_Row
    repeat' (first | (with_reducible first | refine IWP.seq ?_ | refine seqQ_normal ?_ | refine IWP.block ?_ | refine IWP.skip ?_ | refine IWP.exit ?_ | refine IWP.ret ?_ | refine seqQ_exit ?_ | refine seqQ_ret ?_ | refine inBlock_normal ?_ | refine inBlock_here ?_ | refine inBlock_away (by decide) ?_ | refine inBlock_ret ?_ | refine then_exit ?_ | refine then_ret ?_) | ((with_reducible first | refine IWP.ops2 (fun K hK => ?_) | refine IWP.cond ?_ | refine run2_run ?_ | refine keep_run2 ?_); (try simp only [go_sem, List.forall_mem_nil, ↓guard_ite, ↓pick_ite, Nat.reduceEqDiff, Nat.reduceAdd, Nat.reduceSub, Nat.reduceLeDiff, Nat.reduceLT, ↓reduceIte, reduceCtorEq, Int.reduceEq, Int.reduceLT, Int.reduceLE, Int.reduceAdd, Int.reduceSub, Int.reduceToNat, encT_eq, inR_i64, hfx, Int.cast_ofNat_Int, decide_eq_true_eq, decide_eq_false_iff_not, Int.ofNat_lt]); (repeat with_reducible refine And.intro (by first | omega | with_reducible exact lens_encT | with_reducible exact lens_encL | (simp; done) | (simp only [List.length_take, List.length_map, List.length_append, maxLen_eq]; omega)) ?_); (try (with_reducible refine hK _ ?_; clear hK K)); (try with_reducible refine ite_conj ?_)))
    rcases row_S f ff (by omega) (up1 21) (up1_le 21) (upS (updE (updE noS 1 (some (.box 25 [.st (.str t.name), .st (.list [[.str f.name, .list (f.args.map encT)], [.str x.name, .list (x.args.map encT)]])]))) 2 (some (.box 25 [.st (.str ⟨#[]⟩), .full []])))) (by rw [upS_up]; rfl) with ⟨g0, g1⟩ | ⟨g0, g1⟩
    · refine ⟨_, _, g1, ?_⟩
      repeat' (first | (with_reducible first | refine IWP.seq ?_ | refine seqQ_normal ?_ | refine IWP.block ?_ | refine IWP.skip ?_ | refine IWP.exit ?_ | refine IWP.ret ?_ | refine seqQ_exit ?_ | refine seqQ_ret ?_ | refine inBlock_normal ?_ | refine inBlock_here ?_ | refine inBlock_away (by decide) ?_ | refine inBlock_ret ?_ | refine then_exit ?_ | refine then_ret ?_) | ((with_reducible first | refine IWP.ops2 (fun K hK => ?_) | refine IWP.cond ?_ | refine run2_run ?_ | refine keep_run2 ?_); (try simp only [go_sem, List.forall_mem_nil, ↓guard_ite, ↓pick_ite, Nat.reduceEqDiff, Nat.reduceAdd, Nat.reduceSub, Nat.reduceLeDiff, Nat.reduceLT, ↓reduceIte, reduceCtorEq, Int.reduceEq, Int.reduceLT, Int.reduceLE, Int.reduceAdd, Int.reduceSub, Int.reduceToNat, encT_eq, inR_i64, hfx, decide_eq_true_eq, decide_eq_false_iff_not, Int.ofNat_lt]); (repeat with_reducible refine And.intro (by first | omega | with_reducible exact lens_encT | with_reducible exact lens_encL | (simp; done) | (simp only [List.length_take, List.length_map, List.length_append, maxLen_eq]; omega)) ?_); (try (with_reducible refine hK _ ?_; clear hK K)); (try with_reducible refine ite_conj ?_)))
      rw [Tm.hd_leaf g0, Tm.rw_leaf g0]
      simp only [go_sem, List.forall_mem_nil, ↓guard_ite, ↓pick_ite, Nat.reduceEqDiff, Nat.reduceAdd, Nat.reduceSub, Nat.reduceLeDiff, Nat.reduceLT, ↓reduceIte, reduceCtorEq, Int.reduceEq, Int.reduceLT, Int.reduceLE, Int.reduceAdd, Int.reduceSub, Int.reduceToNat, FinQ, AS.result, resAll, resOne, tupV]
      try simp [encT_eq]
    · refine ⟨_, _, g1, ?_⟩
      repeat' (first | (with_reducible first | refine IWP.seq ?_ | refine seqQ_normal ?_ | refine IWP.block ?_ | refine IWP.skip ?_ | refine IWP.exit ?_ | refine IWP.ret ?_ | refine seqQ_exit ?_ | refine seqQ_ret ?_ | refine inBlock_normal ?_ | refine inBlock_here ?_ | refine inBlock_away (by decide) ?_ | refine inBlock_ret ?_ | refine then_exit ?_ | refine then_ret ?_) | ((with_reducible first | refine IWP.ops2 (fun K hK => ?_) | refine IWP.cond ?_ | refine run2_run ?_ | refine keep_run2 ?_); (try simp only [go_sem, List.forall_mem_nil, ↓guard_ite, ↓pick_ite, Nat.reduceEqDiff, Nat.reduceAdd, Nat.reduceSub, Nat.reduceLeDiff, Nat.reduceLT, ↓reduceIte, reduceCtorEq, Int.reduceEq, Int.reduceLT, Int.reduceLE, Int.reduceAdd, Int.reduceSub, Int.reduceToNat, encT_eq, inR_i64, hfx, decide_eq_true_eq, decide_eq_false_iff_not, Int.ofNat_lt]); (repeat with_reducible refine And.intro (by first | omega | with_reducible exact lens_encT | with_reducible exact lens_encL | (simp; done) | (simp only [List.length_take, List.length_map, List.length_append, maxLen_eq]; omega)) ?_); (try (with_reducible refine hK _ ?_; clear hK K)); (try with_reducible refine ite_conj ?_)))
      simp only [go_sem, List.forall_mem_nil, ↓guard_ite, ↓pick_ite, Nat.reduceEqDiff, Nat.reduceAdd, Nat.reduceSub, Nat.reduceLeDiff, Nat.reduceLT, ↓reduceIte, reduceCtorEq, Int.reduceEq, Int.reduceLT, Int.reduceLE, Int.reduceAdd, Int.reduceSub, Int.reduceToNat, FinQ, AS.result, resAll, resOne, tupV]
      try simp [encT_eq]
end Go.Proofs.Ytkjbaabkaboaoaa
