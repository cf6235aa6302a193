/-
  Unification: the law.
  Conditions: none.
-/
import Derived.Test.YtnbdpkgndhacfaaBUnify3
namespace Go.Proofs.Ytnbdpkgndhacfaa
open Go Go.RowKit
set_option linter.unusedVariables false
set_option linter.unusedSimpArgs false
set_option maxHeartbeats 800000

theorem uends_err {n : Nat} {s : List Bd} {l : List Pr} {r : List Bd × Int} (h : UEnds n s l r) : r.2 ≠ 0 → r.1 = [] := by
  induction h with
  | nil => intro h; exact absurd rfl h
  | err _ => intro _; rfl
  | go _ _ ih => exact ih
def namesOf (l : List Pr) : List ByteArray := l.flatMap fun p => (p.1.knots ++ p.2.knots).map (·.name)
theorem namesOf_len {l : List Pr} (h : ∀ p ∈ l, p.1.size ≤ 200 ∧ p.2.size ≤ 200) : (namesOf l).length ≤ 400 * l.length := by
  unfold namesOf
  induction l with
  | nil => simp
  | cons p l ih =>
    have := ih fun q hq => h q (by simp [hq])
    have h1 := h p (by simp)
    rw [List.flatMap_cons, List.length_append, List.length_map, List.length_append, Tm.knots_length, Tm.knots_length, List.length_cons]
    omega
theorem fits_start (v : Nat) (hv : v ≤ 16000) (s : List Bd) : ∀ (l : List Pr), l.length ≤ 40 → Fits 100000000000 v s l
  | [], _ => trivial
  | p :: l, h => by
    rw [List.length_cons] at h
    have := Nat.min_le_right (p.1.on s).size 2000
    exact ⟨by omega, fits_start v hv s l (by omega)⟩
theorem good_start {l : List Pr} (h : pairsMay l = 0) : (namesOf l).length ≤ 20000 ∧ UGood (namesOf l) 100000000000 [] l := by
  obtain ⟨h1, h2⟩ := pairsMay_zero h
  have hc : ∀ p ∈ l, (p.1.chk = 0 ∧ p.1.size ≤ 200) ∧ (p.2.chk = 0 ∧ p.2.size ≤ 200) := fun p hp => ⟨Tm.may_chk (h2 p hp).1, Tm.may_chk (h2 p hp).2⟩
  have hlen := namesOf_len fun p hp => ⟨(hc p hp).1.2, (hc p hp).2.2⟩
  refine ⟨by omega, ⟨List.Pairwise.nil, by simp, by simp, by simp, by simp, by simp, by simp, fun p hp => ⟨(hc p hp).1.1, (hc p hp).2.1⟩, fun p hp y => ⟨fun hy => ?_, fun hy => ?_⟩, fun p hp => ?_, fits_start _ (by simp; omega) [] l h1⟩⟩
  · unfold occ at hy
    obtain ⟨k, hk, e⟩ := List.any_eq_true.1 hy
    exact List.mem_flatMap.2 ⟨p, hp, List.mem_map.2 ⟨k, by simp [hk], by simpa using e⟩⟩
  · unfold occ at hy
    obtain ⟨k, hk, e⟩ := List.any_eq_true.1 hy
    exact List.mem_flatMap.2 ⟨p, hp, List.mem_map.2 ⟨k, by simp [hk], by simpa using e⟩⟩
  · have := hc p hp
    omega
theorem uends_start {l : List Pr} (h : pairsMay l = 0) : ∃ n r, UEnds n [] l r := uends_all _ _ [] l (good_start h).2 rfl rfl
theorem unify_yes {l : List Pr} (h : pairsMay l = 0) {n : Nat} {r : List Bd × Int} (hr : UEnds n [] l r) : ACalls Try.prog 15 [aPrs l] (.tup [aBds r.1, aInt r.2]) := by
  refine ac_unify_Unify (Nat.le_of_ble_eq_true rfl) fun C hC => ?_
  unfold ir_unify_Unify
  repeat' (first | (with_reducible first | refine Wa ?_ | refine Wb ?_ | refine Wc ?_ | refine Wd ?_ | refine We ?_ | refine Wf ?_ | refine Wg ?_ | refine Wh ?_ | refine Wi ?_ | refine Wj ?_ | refine Wk (by decide) ?_ | refine Wl ?_ | refine Wm ?_ | refine Wn ?_) | refine CallG.mk _ (pairsCheck_a l) ?_ | refine CallG.mk _ (solve_a _ (good_start h).1 _ (Nat.le_refl _) n l r hr (good_start h).2) ?_ | ((with_reducible first | refine Wo (fun K hK => ?_) | refine Wp ?_ | refine Wq ?_ | refine Wr ?_); (try simp only [go_sem, List.forall_mem_nil, ↓guard_ite, ↓pick_ite, seval, encT_eq, inR_i64, h, decide_eq_true_eq, decide_eq_false_iff_not, Int.ofNat_lt]); (repeat with_reducible refine And.intro (by first | omega | with_reducible exact lens_encT | with_reducible exact lens_encL | with_reducible exact lens_encB | with_reducible exact lens_encP | (simp; done) | (simp only [List.length_take, List.length_map, List.length_append, maxLen_eq]; omega)) ?_); (try (with_reducible refine hK _ ?_; clear hK K)); (try with_reducible refine ite_conj ?_)))
  simp only [go_sem, List.forall_mem_nil, ↓guard_ite, ↓pick_ite, seval, FinQ, AS.result, resAll, resOne, tupV]
theorem unify_no {l : List Pr} (h : pairsMay l ≠ 0) : ACalls Try.prog 15 [aPrs l] (.tup [aBds [], aInt (pairsMay l)]) := by
  refine ac_unify_Unify (Nat.le_of_ble_eq_true rfl) fun C hC => ?_
  unfold ir_unify_Unify
  repeat' (first | (with_reducible first | refine Wa ?_ | refine Wb ?_ | refine Wc ?_ | refine Wd ?_ | refine We ?_ | refine Wf ?_ | refine Wg ?_ | refine Wh ?_ | refine Wi ?_ | refine Wj ?_ | refine Wk (by decide) ?_ | refine Wl ?_ | refine Wm ?_ | refine Wn ?_) | refine CallG.mk _ (pairsCheck_a l) ?_ | ((with_reducible first | refine Wo (fun K hK => ?_) | refine Wp ?_ | refine Wq ?_ | refine Wr ?_); (try simp only [go_sem, List.forall_mem_nil, ↓guard_ite, ↓pick_ite, seval, encT_eq, inR_i64, h, decide_eq_true_eq, decide_eq_false_iff_not, Int.ofNat_lt]); (repeat with_reducible refine And.intro (by first | omega | with_reducible exact lens_encT | with_reducible exact lens_encL | with_reducible exact lens_encB | with_reducible exact lens_encP | (simp; done) | (simp only [List.length_take, List.length_map, List.length_append, maxLen_eq]; omega)) ?_); (try (with_reducible refine hK _ ?_; clear hK K)); (try with_reducible refine ite_conj ?_)))
  simp only [go_sem, List.forall_mem_nil, ↓guard_ite, ↓pick_ite, seval, FinQ, AS.result, resAll, resOne, tupV]
  rfl
theorem unifySays_a (l : List Pr) : ACalls Try.prog 4 [aPrs l] (aBool true) := by
  refine ac_L_UnifySays (Nat.le_of_ble_eq_true rfl) fun C hC => ?_
  unfold ir_L_UnifySays
  repeat' (first | (with_reducible first | refine Wa ?_ | refine Wb ?_ | refine Wc ?_ | refine Wd ?_ | refine We ?_ | refine Wf ?_ | refine Wg ?_ | refine Wh ?_ | refine Wi ?_ | refine Wj ?_ | refine Wk (by decide) ?_ | refine Wl ?_ | refine Wm ?_ | refine Wn ?_) | ((with_reducible first | refine Wo (fun K hK => ?_) | refine Wp ?_ | refine Wq ?_ | refine Wr ?_); (try simp only [go_sem, List.forall_mem_nil, ↓guard_ite, ↓pick_ite, seval, encT_eq, inR_i64, decide_eq_true_eq, decide_eq_false_iff_not, Int.ofNat_lt]); (repeat with_reducible refine And.intro (by first | omega | with_reducible exact lens_encT | with_reducible exact lens_encL | with_reducible exact lens_encB | with_reducible exact lens_encP | (simp; done) | (simp only [List.length_take, List.length_map, List.length_append, maxLen_eq]; omega)) ?_); (try (with_reducible refine hK _ ?_; clear hK K)); (try with_reducible refine ite_conj ?_)))
  refine ⟨_, hugePairs_a l, ?_⟩
  cases hh : hugePs l with
  | true =>
    repeat' (first | (with_reducible first | refine Wa ?_ | refine Wb ?_ | refine Wc ?_ | refine Wd ?_ | refine We ?_ | refine Wf ?_ | refine Wg ?_ | refine Wh ?_ | refine Wi ?_ | refine Wj ?_ | refine Wk (by decide) ?_ | refine Wl ?_ | refine Wm ?_ | refine Wn ?_) | ((with_reducible first | refine Wo (fun K hK => ?_) | refine Wp ?_ | refine Wq ?_ | refine Wr ?_); (try simp only [go_sem, List.forall_mem_nil, ↓guard_ite, ↓pick_ite, seval, encT_eq, inR_i64, hh, decide_eq_true_eq, decide_eq_false_iff_not, Int.ofNat_lt]); (repeat with_reducible refine And.intro (by first | omega | with_reducible exact lens_encT | with_reducible exact lens_encL | with_reducible exact lens_encB | with_reducible exact lens_encP | (simp; done) | (simp only [List.length_take, List.length_map, List.length_append, maxLen_eq]; omega)) ?_); (try (with_reducible refine hK _ ?_; clear hK K)); (try with_reducible refine ite_conj ?_)))
    simp only [go_sem, List.forall_mem_nil, ↓guard_ite, ↓pick_ite, seval, FinQ, AS.result, resAll, resOne, tupV]
  | false =>
    repeat' (first | (with_reducible first | refine Wa ?_ | refine Wb ?_ | refine Wc ?_ | refine Wd ?_ | refine We ?_ | refine Wf ?_ | refine Wg ?_ | refine Wh ?_ | refine Wi ?_ | refine Wj ?_ | refine Wk (by decide) ?_ | refine Wl ?_ | refine Wm ?_ | refine Wn ?_) | ((with_reducible first | refine Wo (fun K hK => ?_) | refine Wp ?_ | refine Wq ?_ | refine Wr ?_); (try simp only [go_sem, List.forall_mem_nil, ↓guard_ite, ↓pick_ite, seval, encT_eq, inR_i64, hh, decide_eq_true_eq, decide_eq_false_iff_not, Int.ofNat_lt]); (repeat with_reducible refine And.intro (by first | omega | with_reducible exact lens_encT | with_reducible exact lens_encL | with_reducible exact lens_encB | with_reducible exact lens_encP | (simp; done) | (simp only [List.length_take, List.length_map, List.length_append, maxLen_eq]; omega)) ?_); (try (with_reducible refine hK _ ?_; clear hK K)); (try with_reducible refine ite_conj ?_)))
    refine ⟨_, pairsMayR_a l, ?_⟩
    by_cases h : pairsMay l = 0
    · obtain ⟨n, r, hr⟩ := uends_start h
      repeat' (first | (with_reducible first | refine Wa ?_ | refine Wb ?_ | refine Wc ?_ | refine Wd ?_ | refine We ?_ | refine Wf ?_ | refine Wg ?_ | refine Wh ?_ | refine Wi ?_ | refine Wj ?_ | refine Wk (by decide) ?_ | refine Wl ?_ | refine Wm ?_ | refine Wn ?_) | refine CallG.mk _ (unifyOf_a _ (good_start h).1 _ (Nat.le_refl _) n l r hr (good_start h).2) ?_ | refine CallG.mk _ (unify_yes h hr) ?_ | refine CallG.mk _ (pairsCheck_a l) ?_ | refine CallG.mk _ (binds2_a r.1 r.2 (uends_err hr)) ?_ | ((with_reducible first | refine Wo (fun K hK => ?_) | refine Wp ?_ | refine Wq ?_ | refine Wr ?_); (try simp only [go_sem, List.forall_mem_nil, ↓guard_ite, ↓pick_ite, seval, encT_eq, inR_i64, h, decide_eq_true_eq, decide_eq_false_iff_not, Int.ofNat_lt]); (repeat with_reducible refine And.intro (by first | omega | with_reducible exact lens_encT | with_reducible exact lens_encL | with_reducible exact lens_encB | with_reducible exact lens_encP | (simp; done) | (simp only [List.length_take, List.length_map, List.length_append, maxLen_eq]; omega)) ?_); (try (with_reducible refine hK _ ?_; clear hK K)); (try with_reducible refine ite_conj ?_)))
      simp only [go_sem, List.forall_mem_nil, ↓guard_ite, ↓pick_ite, seval, FinQ, AS.result, resAll, resOne, tupV]
    · repeat' (first | (with_reducible first | refine Wa ?_ | refine Wb ?_ | refine Wc ?_ | refine Wd ?_ | refine We ?_ | refine Wf ?_ | refine Wg ?_ | refine Wh ?_ | refine Wi ?_ | refine Wj ?_ | refine Wk (by decide) ?_ | refine Wl ?_ | refine Wm ?_ | refine Wn ?_) | refine CallG.mk _ (unify_no h) ?_ | refine CallG.mk _ (pairsCheck_a l) ?_ | refine CallG.mk _ (binds2_a [] (pairsMay l) (fun _ => rfl)) ?_ | ((with_reducible first | refine Wo (fun K hK => ?_) | refine Wp ?_ | refine Wq ?_ | refine Wr ?_); (try simp only [go_sem, List.forall_mem_nil, ↓guard_ite, ↓pick_ite, seval, encT_eq, inR_i64, h, decide_eq_true_eq, decide_eq_false_iff_not, Int.ofNat_lt]); (repeat with_reducible refine And.intro (by first | omega | with_reducible exact lens_encT | with_reducible exact lens_encL | with_reducible exact lens_encB | with_reducible exact lens_encP | (simp; done) | (simp only [List.length_take, List.length_map, List.length_append, maxLen_eq]; omega)) ?_); (try (with_reducible refine hK _ ?_; clear hK K)); (try with_reducible refine ite_conj ?_)))
      simp only [go_sem, List.forall_mem_nil, ↓guard_ite, ↓pick_ite, seval, FinQ, AS.result, resAll, resOne, tupV]
end Go.Proofs.Ytnbdpkgndhacfaa
