/-
  Sorting by the document; comparing two rows of bindings.
  Conditions: none.
-/
import Derived.Test.YtkjocebkajckpaaIrSorted
import Derived.Test.YtkjocebkajckpaaPSort
namespace Go.Proofs.Ytkjocebkajckpaa
open Go Go.RowKit
set_option linter.unusedVariables false
set_option linter.unusedSimpArgs false
set_option maxHeartbeats 800000

/-! ### two rows of bindings -/
theorem sameBinds_a (l : List Bd) : ACalls Try.prog 11 [aBds l, aBds l] (aBool true) := by
  refine ac_R_SameBinds (Nat.le_of_ble_eq_true rfl) fun C hC => ?_
  unfold ir_R_SameBinds
  refine IWP.learn 0 (by omega) fun hkn => ?_
  have hkn := known_len hkn
  rw [List.length_map] at hkn
  repeat' (first | (with_reducible first | refine Wa ?_ | refine Wb ?_ | refine Wc ?_ | refine Wd ?_ | refine We ?_ | refine Wf ?_ | refine Wg ?_ | refine Wh ?_ | refine Wi ?_ | refine Wj ?_ | refine Wk (by decide) ?_ | refine Wl ?_ | refine Wm ?_ | refine Wn ?_) | ((with_reducible first | refine Wo (fun K hK => ?_) | refine Wp ?_ | refine Wq ?_ | refine Wr ?_); (try simp only [go_sem, List.forall_mem_nil, ↓guard_ite, ↓pick_ite, seval, encT_eq, inR_i64, decide_eq_true_eq, decide_eq_false_iff_not, Int.ofNat_lt]); (repeat with_reducible refine And.intro (by first | omega | (with_reducible first | exact lens_encT | exact lens_encL | exact lens_encB | exact lens_encP) | (simp; done) | (simp only [List.length_take, List.length_map, List.length_append, maxLen_eq]; omega)) ?_); (try (with_reducible refine hK _ ?_; clear hK K)); (try with_reducible refine ite_conj ?_)))
  refine IWP.loop (fun m s => ∃ k, k ≤ l.length ∧ m = l.length - k ∧ s.env 0 = aBds l ∧ s.env 1 = aBds l ∧ s.env 5 = aInt k) l.length ⟨0, Nat.zero_le _, rfl, rfl, rfl, rfl⟩ ?_
  rintro m ⟨env, S⟩ ⟨k, hk, rfl, e0, e1, e5⟩
  simp only at e0 e1 e5
  by_cases hlt : (k : Int) < l.length
  · obtain ⟨b, hb⟩ := get_lt (show k < l.length by omega)
    repeat' (first | (with_reducible first | refine Wa ?_ | refine Wb ?_ | refine Wc ?_ | refine Wd ?_ | refine We ?_ | refine Wf ?_ | refine Wg ?_ | refine Wh ?_ | refine Wi ?_ | refine Wj ?_ | refine Wk (by decide) ?_ | refine Wl ?_ | refine Wm ?_ | refine Wn ?_) | refine CallG.mk _ (sameR_a b.2 b.2) ?_ | ((with_reducible first | refine Wo (fun K hK => ?_) | refine Wp ?_ | refine Wq ?_ | refine Wr ?_); (try simp only [go_sem, List.forall_mem_nil, ↓guard_ite, ↓pick_ite, seval, encT_eq, inR_i64, e0, e1, e5, hlt, hb, encB, Tm.beq_refl, decide_eq_true_eq, decide_eq_false_iff_not, Int.ofNat_lt]); (repeat with_reducible refine And.intro (by first | omega | (with_reducible first | exact lens_encT | exact lens_encL | exact lens_encB | exact lens_encP) | (simp; done) | (simp only [List.length_take, List.length_map, List.length_append, maxLen_eq]; omega)) ?_); (try (with_reducible refine hK _ ?_; clear hK K)); (try with_reducible refine ite_conj ?_)))
    refine then_normal ⟨l.length - (k + 1), by omega, k + 1, by omega, rfl, ?_⟩
    simp only [go_sem, List.forall_mem_nil, ↓guard_ite, ↓pick_ite, seval, encT_eq, inR_i64, e0, e1, e5]
    congr 3
  · repeat' (first | (with_reducible first | refine Wa ?_ | refine Wb ?_ | refine Wc ?_ | refine Wd ?_ | refine We ?_ | refine Wf ?_ | refine Wg ?_ | refine Wh ?_ | refine Wi ?_ | refine Wj ?_ | refine Wk (by decide) ?_ | refine Wl ?_ | refine Wm ?_ | refine Wn ?_) | ((with_reducible first | refine Wo (fun K hK => ?_) | refine Wp ?_ | refine Wq ?_ | refine Wr ?_); (try simp only [go_sem, List.forall_mem_nil, ↓guard_ite, ↓pick_ite, seval, encT_eq, inR_i64, e0, e1, e5, hlt, decide_eq_true_eq, decide_eq_false_iff_not, Int.ofNat_lt]); (repeat with_reducible refine And.intro (by first | omega | (with_reducible first | exact lens_encT | exact lens_encL | exact lens_encB | exact lens_encP) | (simp; done) | (simp only [List.length_take, List.length_map, List.length_append, maxLen_eq]; omega)) ?_); (try (with_reducible refine hK _ ?_; clear hK K)); (try with_reducible refine ite_conj ?_)))
    simp only [go_sem, List.forall_mem_nil, ↓guard_ite, ↓pick_ite, seval, FinQ, AS.result, resAll, resOne, tupV]
/-! ### sorting by the document -/
theorem insB_last {l : List Bd} {b : Bd} (h : ∀ c ∈ l, sLt b.1 c.1 = false) : insB b l = l ++ [b] := by
  induction l with
  | nil => rfl
  | cons c l ih =>
    unfold insB
    rw [if_neg (by rw [h c (by simp)]; simp), ih fun c hc => h c (by simp [hc])]
    rfl
theorem insB_split {l : List Bd} {b : Bd} {k : Nat} (hk : k ≤ l.length) (h1 : ∀ c ∈ l.take k, sLt b.1 c.1 = false) (h2 : ∀ c, l[k]? = some c → sLt b.1 c.1 = true) : insB b l = l.take k ++ b :: l.drop k := by
  induction l generalizing k with
  | nil => simp [insB]
  | cons c l ih =>
    cases k with
    | zero =>
      unfold insB
      rw [if_pos (h2 c rfl)]
      rfl
    | succ k =>
      unfold insB
      rw [if_neg (by rw [h1 c (by simp)]; simp), ih (by simpa using hk) (fun c hc => h1 c (by simp [hc])) (fun c hc => h2 c (by simpa using hc))]
      rfl
/-- A row of bindings, b at k within acc. -/
def laidAt (acc : List Bd) (b : Bd) (k : Nat) : List Bd := acc.take k ++ b :: acc.drop k
theorem laidAt_len (acc : List Bd) (b : Bd) (k : Nat) : (laidAt acc b k).length = acc.length + 1 := by
  have := congrArg List.length (List.take_append_drop k acc)
  unfold laidAt
  rw [List.length_append] at this ⊢
  rw [List.length_cons]
  omega
theorem laidAt_get {acc : List Bd} {b : Bd} {k : Nat} (h : k ≤ acc.length) : (laidAt acc b k)[k]? = some b := by
  unfold laidAt
  rw [List.getElem?_append_right (by rw [List.length_take]; omega), List.length_take, Nat.min_eq_left h, Nat.sub_self]
  rfl
theorem laidAt_prev {acc : List Bd} {b c : Bd} {k : Nat} (h : acc[k]? = some c) : (laidAt acc b (k + 1))[k]? = some c := by
  have := lt_of_get h
  unfold laidAt
  rw [List.getElem?_append_left (by rw [List.length_take]; omega), List.getElem?_take, if_pos (by omega), h]
theorem laidAt_swap {acc : List Bd} {b c : Bd} {k : Nat} (h : acc[k]? = some c) : ((laidAt acc b (k + 1)).set (k + 1) c).set k b = laidAt acc b k := by
  have hk := lt_of_get h
  apply List.ext_getElem?
  intro i
  have hl : ((laidAt acc b (k + 1)).set (k + 1) c).length = acc.length + 1 := by rw [List.length_set, laidAt_len]
  rw [List.getElem?_set, List.getElem?_set]
  unfold laidAt at hl ⊢
  by_cases h1 : k = i
  · subst h1
    rw [if_pos rfl, if_pos (by rw [hl]; omega), List.getElem?_append_right (by rw [List.length_take]; omega), List.length_take, Nat.min_eq_left (by omega), Nat.sub_self]
    rfl
  · rw [if_neg h1]
    by_cases h2 : k + 1 = i
    · subst h2
      have e := laidAt_len acc b (k + 1)
      unfold laidAt at e
      rw [if_pos rfl, if_pos (by rw [e]; omega), List.getElem?_append_right (by rw [List.length_take]; omega), List.length_take, Nat.min_eq_left (by omega), show k + 1 - k = 1 by omega, List.getElem?_cons_succ, List.getElem?_drop, Nat.add_zero, h]
    · rw [if_neg h2]
      rcases Nat.lt_or_ge i k with h3 | h3
      · rw [List.getElem?_append_left (by rw [List.length_take]; omega), List.getElem?_append_left (by rw [List.length_take]; omega), List.getElem?_take, List.getElem?_take, if_pos (by omega), if_pos h3]
      · rw [List.getElem?_append_right (by rw [List.length_take]; omega), List.getElem?_append_right (by rw [List.length_take]; omega), List.length_take, List.length_take, Nat.min_eq_left (by omega), Nat.min_eq_left (by omega)]
        obtain ⟨j, rfl⟩ : ∃ j, i = k + 2 + j := ⟨i - (k + 2), by omega⟩
        rw [show k + 2 + j - (k + 1) = j + 1 by omega, show k + 2 + j - k = j + 1 + 1 by omega, List.getElem?_cons_succ, List.getElem?_cons_succ, List.getElem?_drop, List.getElem?_drop]
        congr 1
        omega
theorem laidAt_last (acc : List Bd) (b : Bd) : laidAt acc b acc.length = acc ++ [b] := by
  unfold laidAt
  rw [List.take_length, List.drop_length]
end Go.Proofs.Ytkjocebkajckpaa
