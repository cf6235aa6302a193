/-
  Sorting by the document; comparing two rows of bindings.
  Conditions: none.
-/
import Derived.Test.YtpajlfdhmjgpnaaIrSorted
import Derived.Test.YtpajlfdhmjgpnaaPSort
namespace Go.Proofs.Ytpajlfdhmjgpnaa
open Go Go.RowKit
set_option linter.unusedVariables false
set_option linter.unusedSimpArgs false
set_option maxHeartbeats 800000

/-! ### two rows of bindings -/
theorem sameBinds_a (l : List Bd) : ACalls Try.prog 18 [aBds l, aBds l] (aBool true) := by
  refine ac_R_SameBinds (Nat.le_of_ble_eq_true rfl) fun C hC => ?_
  unfold ir_R_SameBinds
  refine IWP.learn 0 (by omega) fun hkn => ?_
  have hkn := known_len hkn
  rw [List.length_map] at hkn
  repeat' (first | (with_reducible first | refine Wa ?_ | refine Wb ?_ | refine Wc ?_ | refine Wd ?_ | refine We ?_ | refine Wf ?_ | refine Wg ?_ | refine Wh ?_ | refine Wi ?_ | refine Wj ?_ | refine Wk (by decide) ?_ | refine Wl ?_ | refine Wm ?_ | refine Wn ?_) | ((with_reducible first | refine Wo (fun K hK => ?_) | refine Wp ?_ | refine Wq ?_ | refine Wr ?_); (try simp only [go_sem, List.forall_mem_nil, ↓guard_ite, ↓pick_ite, seval, encT_eq, inR_i64, decide_eq_true_eq, decide_eq_false_iff_not, Int.ofNat_lt]); (repeat with_reducible refine And.intro (by first | omega | (with_reducible first | exact lens_encT | exact lens_encL | exact lens_encB | exact lens_encP) | (simp; done) | (simp only [List.length_take, List.length_map, List.length_append, maxLen_eq]; omega)) ?_); (try (with_reducible refine hK _ ?_; clear hK K)); (try with_reducible refine ite_conj ?_)))
  refine IWP.loop (fun m s => ∃ k, k ≤ l.length ∧ m = l.length - k ∧ s.env 0 = aBds l ∧ s.env 1 = aBds l ∧ s.env 5 = aInt k) l.length ⟨0, Nat.zero_le _, rfl, rfl, rfl, rfl⟩ ?_
  rintro m ⟨env, S⟩ ⟨k, hk, rfl, e0, e1, e5⟩
  simp only at e0 e1 e5
  by_cases hlt : (k : Int) < l.length
  · obtain ⟨b, hb⟩ := get_lt (show k < l.length by omega)
    repeat' (first | (with_reducible first | refine Wa ?_ | refine Wb ?_ | refine Wc ?_ | refine Wd ?_ | refine We ?_ | refine Wf ?_ | refine Wg ?_ | refine Wh ?_ | refine Wi ?_ | refine Wj ?_ | refine Wk (by decide) ?_ | refine Wl ?_ | refine Wm ?_ | refine Wn ?_) | refine CallG.mk _ (sameR_a b.2 b.2) ?_ | ((with_reducible first | refine Wo (fun K hK => ?_) | refine Wp ?_ | refine Wq ?_ | refine Wr ?_); (try simp only [go_sem, List.forall_mem_nil, ↓guard_ite, ↓pick_ite, seval, encT_eq, inR_i64, e0, e1, e5, hlt, hb, encB, Tm.beq_refl, decide_eq_true_eq, decide_eq_false_iff_not, Int.ofNat_lt]); (repeat with_reducible refine And.intro (by first | omega | (with_reducible first | exact lens_encT | exact lens_encL | exact lens_encB | exact lens_encP) | (simp; done) | (simp only [List.length_take, List.length_map, List.length_append, maxLen_eq]; omega)) ?_); (try (with_reducible refine hK _ ?_; clear hK K)); (try with_reducible refine ite_conj ?_)))
    refine then_normal ⟨l.length - (k + 1), by omega, k + 1, by omega, rfl, ?_⟩
    simp only [go_sem, List.forall_mem_nil, ↓guard_ite, ↓pick_ite, seval, encT_eq, inR_i64, e0, e1, e5]
    congr 3
  · repeat' (first | (with_reducible first | refine Wa ?_ | refine Wb ?_ | refine Wc ?_ | refine Wd ?_ | refine We ?_ | refine Wf ?_ | refine Wg ?_ | refine Wh ?_ | refine Wi ?_ | refine Wj ?_ | refine Wk (by decide) ?_ | refine Wl ?_ | refine Wm ?_ | refine Wn ?_) | ((with_reducible first | refine Wo (fun K hK => ?_) | refine Wp ?_ | refine Wq ?_ | refine Wr ?_); (try simp only [go_sem, List.forall_mem_nil, ↓guard_ite, ↓pick_ite, seval, encT_eq, inR_i64, e0, e1, e5, hlt, decide_eq_true_eq, decide_eq_false_iff_not, Int.ofNat_lt]); (repeat with_reducible refine And.intro (by first | omega | (with_reducible first | exact lens_encT | exact lens_encL | exact lens_encB | exact lens_encP) | (simp; done) | (simp only [List.length_take, List.length_map, List.length_append, maxLen_eq]; omega)) ?_); (try (with_reducible refine hK _ ?_; clear hK K)); (try with_reducible refine ite_conj ?_)))
    simp only [go_sem, List.forall_mem_nil, ↓guard_ite, ↓pick_ite, seval, FinQ, AS.result, resAll, resOne, tupV]
/-! ### sorting by the document -/
theorem insB_last {l : List Bd} {b : Bd} (h : ∀ c ∈ l, sLt b.1 c.1 = false) : insB b l = l ++ [b] := by
  induction l with
  | nil => rfl
  | cons c l ih =>
    unfold insB
    rw [if_neg (by rw [h c (by simp)]; simp), ih fun c hc => h c (by simp [hc])]
    rfl
theorem insB_split {l : List Bd} {b : Bd} {k : Nat} (hk : k ≤ l.length) (h1 : ∀ c ∈ l.take k, sLt b.1 c.1 = false) (h2 : ∀ c, l[k]? = some c → sLt b.1 c.1 = true) : insB b l = l.take k ++ b :: l.drop k := by
  induction l generalizing k with
  | nil => simp [insB]
  | cons c l ih =>
    cases k with
    | zero =>
      unfold insB
      rw [if_pos (h2 c rfl)]
      rfl
    | succ k =>
      unfold insB
      rw [if_neg (by rw [h1 c (by simp)]; simp), ih (by simpa using hk) (fun c hc => h1 c (by simp [hc])) (fun c hc => h2 c (by simpa using hc))]
      rfl
/-- A row of bindings, b at k within acc. -/
def laidAt (acc : List Bd) (b : Bd) (k : Nat) : List Bd := acc.take k ++ b :: acc.drop k
theorem laidAt_len (acc : List Bd) (b : Bd) (k : Nat) : (laidAt acc b k).length = acc.length + 1 := by
  have := congrArg List.length (List.take_append_drop k acc)
  unfold laidAt
  rw [List.length_append] at this ⊢
  rw [List.length_cons]
  omega
theorem laidAt_get {acc : List Bd} {b : Bd} {k : Nat} (h : k ≤ acc.length) : (laidAt acc b k)[k]? = some b := by
  unfold laidAt
  rw [List.getElem?_append_right (by rw [List.length_take]; omega), List.length_take, Nat.min_eq_left h, Nat.sub_self]
  rfl
theorem laidAt_prev {acc : List Bd} {b c : Bd} {k : Nat} (h : acc[k]? = some c) : (laidAt acc b (k + 1))[k]? = some c := by
  have := lt_of_get h
  unfold laidAt
  rw [List.getElem?_append_left (by rw [List.length_take]; omega), List.getElem?_take, if_pos (by omega), h]
theorem laidAt_swap {acc : List Bd} {b c : Bd} {k : Nat} (h : acc[k]? = some c) : ((laidAt acc b (k + 1)).set (k + 1) c).set k b = laidAt acc b k := by
  have hk := lt_of_get h
  apply List.ext_getElem?
  intro i
  have hl : ((laidAt acc b (k + 1)).set (k + 1) c).length = acc.length + 1 := by rw [List.length_set, laidAt_len]
  rw [List.getElem?_set, List.getElem?_set]
  unfold laidAt at hl ⊢
  by_cases h1 : k = i
  · subst h1
    rw [if_pos rfl, if_pos (by rw [hl]; omega), List.getElem?_append_right (by rw [List.length_take]; omega), List.length_take, Nat.min_eq_left (by omega), Nat.sub_self]
    rfl
  · rw [if_neg h1]
    by_cases h2 : k + 1 = i
    · subst h2
      have e := laidAt_len acc b (k + 1)
      unfold laidAt at e
      rw [if_pos rfl, if_pos (by rw [e]; omega), List.getElem?_append_right (by rw [List.length_take]; omega), List.length_take, Nat.min_eq_left (by omega), show k + 1 - k = 1 by omega, List.getElem?_cons_succ, List.getElem?_drop, Nat.add_zero, h]
    · rw [if_neg h2]
      rcases Nat.lt_or_ge i k with h3 | h3
      · rw [List.getElem?_append_left (by rw [List.length_take]; omega), List.getElem?_append_left (by rw [List.length_take]; omega), List.getElem?_take, List.getElem?_take, if_pos (by omega), if_pos h3]
      · rw [List.getElem?_append_right (by rw [List.length_take]; omega), List.getElem?_append_right (by rw [List.length_take]; omega), List.length_take, List.length_take, Nat.min_eq_left (by omega), Nat.min_eq_left (by omega)]
        obtain ⟨j, rfl⟩ : ∃ j, i = k + 2 + j := ⟨i - (k + 2), by omega⟩
        rw [show k + 2 + j - (k + 1) = j + 1 by omega, show k + 2 + j - k = j + 1 + 1 by omega, List.getElem?_cons_succ, List.getElem?_cons_succ, List.getElem?_drop, List.getElem?_drop]
        congr 1
        omega
theorem laidAt_last (acc : List Bd) (b : Bd) : laidAt acc b acc.length = acc ++ [b] := by
  unfold laidAt
  rw [List.take_length, List.drop_length]
theorem sortedR_a (l : List Bd) (hn : Named l) (hl : l.length ≤ 100000) : ACalls Try.prog 38 [aBds l] (aBds (sortB l)) := by
  refine ac_R_Sorted (Nat.le_of_ble_eq_true rfl) fun C hC => ?_
  unfold ir_R_Sorted
  repeat' (first | (with_reducible first | refine Wa ?_ | refine Wb ?_ | refine Wc ?_ | refine Wd ?_ | refine We ?_ | refine Wf ?_ | refine Wg ?_ | refine Wh ?_ | refine Wi ?_ | refine Wj ?_ | refine Wk (by decide) ?_ | refine Wl ?_ | refine Wm ?_ | refine Wn ?_) | ((with_reducible first | refine Wo (fun K hK => ?_) | refine Wp ?_ | refine Wq ?_ | refine Wr ?_); (try simp only [go_sem, List.forall_mem_nil, ↓guard_ite, ↓pick_ite, seval, encT_eq, inR_i64, decide_eq_true_eq, decide_eq_false_iff_not, Int.ofNat_lt]); (repeat with_reducible refine And.intro (by first | omega | (with_reducible first | exact lens_encT | exact lens_encL | exact lens_encB | exact lens_encP) | (simp; done) | (simp only [List.length_take, List.length_map, List.length_append, maxLen_eq]; omega)) ?_); (try (with_reducible refine hK _ ?_; clear hK K)); (try with_reducible refine ite_conj ?_)))
  refine IWP.ghost (Ghost.ownM 3 900 63 3 rfl rfl (by rw [hC]; decide)) ?_
  refine IWP.loopD [6] (fun m s => ∃ i, i ≤ l.length ∧ m = l.length - i ∧ s.env 0 = aBds l ∧ s.env 3 = .one (.row 900 i) ∧ s.env 4 = aInt i ∧ s.S 900 = some (rowBd (sortB (l.take i))) ∧ s.S 6 = none) l.length ⟨0, Nat.zero_le _, rfl, rfl, rfl, rfl, rfl, rfl⟩ ?_
  rintro m ⟨env, S⟩ ⟨i, hi, rfl, e0, e3, e4, s900, s6⟩
  simp only at e0 e3 e4 s900 s6
  have hlen : (sortB (l.take i)).length = i := by rw [sortB_length, List.length_take]; omega
  have hnt : ∀ j, Named (l.take j) := fun j => by
    unfold Named
    rw [List.map_take]
    exact hn.sublist (List.take_sublist _ _)
  by_cases hlt : (i : Int) < l.length
  · obtain ⟨b, hb⟩ := get_lt (show i < l.length by omega)
    have ho := sortB_ordered (hnt i)
    have hmap : (sortB (l.take i)).map encB ++ [encB b] = (laidAt (sortB (l.take i)) b i).map encB := by
      have := laidAt_last (sortB (l.take i)) b
      rw [hlen] at this
      rw [this, List.map_append]
      rfl
    have hsnoc : sortB (l.take (i + 1)) = insB b (sortB (l.take i)) := by rw [take_snoc hb, sortB_snoc]
    generalize hacc : sortB (l.take i) = acc at *
    repeat' (first | (with_reducible first | refine Wa ?_ | refine Wb ?_ | refine Wc ?_ | refine Wd ?_ | refine We ?_ | refine Wf ?_ | refine Wg ?_ | refine Wh ?_ | refine Wi ?_ | refine Wj ?_ | refine Wk (by decide) ?_ | refine Wl ?_ | refine Wm ?_ | refine Wn ?_) | ((with_reducible first | refine Wo (fun K hK => ?_) | refine Wp ?_ | refine Wq ?_ | refine Wr ?_); (try simp only [go_sem, List.forall_mem_nil, ↓guard_ite, ↓pick_ite, seval, encT_eq, inR_i64, e0, e3, e4, s900, s6, hlt, hb, hlen, encB, decide_eq_true_eq, decide_eq_false_iff_not, Int.ofNat_lt]); (repeat with_reducible refine And.intro (by first | omega | (with_reducible first | exact lens_encT | exact lens_encL | exact lens_encB | exact lens_encP) | (simp; done) | (simp only [List.length_take, List.length_map, List.length_append, maxLen_eq]; omega)) ?_); (try (with_reducible refine hK _ ?_; clear hK K)); (try with_reducible refine ite_conj ?_)))
    refine IWP.loopD [6] (fun m s => ∃ k, k ≤ i ∧ m = k ∧ (∀ c ∈ acc.drop k, sLt b.1 c.1 = true) ∧ s.env 0 = aBds l ∧ s.env 3 = .one (.row 900 (i + 1)) ∧ s.env 4 = aInt i ∧ s.env 5 = aInt k ∧ s.S 900 = some (rowBd (laidAt acc b k)) ∧ s.S 6 = none) i ⟨i, Nat.le_refl _, rfl, ?_, ?_⟩ ?_
    · rw [← hlen, List.drop_length]; simp
    · simp only [go_sem, List.forall_mem_nil, ↓guard_ite, ↓pick_ite, seval, encT_eq, inR_i64, e0, e3, e4, s6, hlen]
      refine ⟨by congr 3; omega, ?_⟩
      show ABlk.mrow _ _ (acc.map encB ++ [encB b]) = _
      rw [hmap]
    rintro k ⟨env2, S2⟩ ⟨_, hk, rfl, hd, e0, e3, e4, e5, s900, s6⟩
    simp only at e0 e3 e4 e5 s900 s6
    have hcl := laidAt_len acc b k
    rw [hlen] at hcl
    have hck := laidAt_get (b := b) (show k ≤ acc.length by omega)
    -- where the new one has come to its place
    have hend : (∀ c, acc[k - 1]? = some c → 0 < k → sLt b.1 c.1 = false) → insB b acc = laidAt acc b k := fun h => by
      refine insB_split (by omega) (fun c hc => ?_) fun c hc => hd c (by rw [drop_get hc]; simp)
      cases k with
      | zero => simp at hc
      | succ k =>
        obtain ⟨p, hp⟩ := get_lt (show k < acc.length by omega)
        have h1 := h p hp (by omega)
        obtain ⟨j, hj, rfl⟩ := List.getElem_of_mem hc
        rw [List.length_take] at hj
        rw [List.getElem_take]
        have hcj : acc[j]? = some acc[j] := List.getElem?_eq_getElem (by omega)
        cases hx : sLt b.1 acc[j].1 with
        | false => rfl
        | true =>
          rcases Nat.lt_or_ge j k with h3 | h3
          · have := sLt_trans hx (ordered_get ho hcj hp h3)
            rw [this] at h1; cases h1
          · have e : j = k := by omega
            subst e
            rw [hp] at hcj
            cases hcj
            rw [hx] at h1; cases h1
    by_cases hk0 : 0 < (k : Int)
    · obtain ⟨k, rfl⟩ : ∃ q, k = q + 1 := ⟨k - 1, by omega⟩
      obtain ⟨c, hc⟩ := get_lt (show k < acc.length by omega)
      have hcp := laidAt_prev (b := b) hc
      have hz : (((k + 1 : Nat) : Int) - 1).toNat = k := by omega
      have hz0 : (0 : Int) ≤ ((k + 1 : Nat) : Int) - 1 := by omega
      have hl1 : k + 1 < i + 1 := by omega
      have hl2 : k < i + 1 := by omega
      cases hx : sLt b.1 c.1 with
      | true =>
        have hkk : ¬ k + 1 = k := by omega
        repeat' (first | (with_reducible first | refine Wa ?_ | refine Wb ?_ | refine Wc ?_ | refine Wd ?_ | refine We ?_ | refine Wf ?_ | refine Wg ?_ | refine Wh ?_ | refine Wi ?_ | refine Wj ?_ | refine Wk (by decide) ?_ | refine Wl ?_ | refine Wm ?_ | refine Wn ?_) | ((with_reducible first | refine Wo (fun K hK => ?_) | refine Wp ?_ | refine Wq ?_ | refine Wr ?_); (try simp only [go_sem, List.forall_mem_nil, ↓guard_ite, ↓pick_ite, seval, encT_eq, inR_i64, e0, e3, e4, e5, s900, s6, hk0, hck, hcp, hz, hz0, hcl, hl1, hl2, hx, encB, List.length_set, List.getElem?_set, hkk, decide_eq_true_eq, decide_eq_false_iff_not, Int.ofNat_lt]); (repeat with_reducible refine And.intro (by first | omega | (with_reducible first | exact lens_encT | exact lens_encL | exact lens_encB | exact lens_encP) | (simp; done) | (simp only [List.length_take, List.length_map, List.length_append, maxLen_eq]; omega)) ?_); (try (with_reducible refine hK _ ?_; clear hK K)); (try with_reducible refine ite_conj ?_)))
        refine then_normal ⟨k, by omega, k, by omega, rfl, fun d hd' => ?_, ?_⟩
        · rw [drop_get hc] at hd'
          rcases List.mem_cons.1 hd' with rfl | hd'
          · exact hx
          · exact hd d hd'
        · simp only [go_sem, List.forall_mem_nil, ↓guard_ite, ↓pick_ite, seval, AS.drop, dropS, AC.clears, AC.clear, AC.highs, AC.high, Bool.not_false, Bool.true_and, Bool.and_self, AV.purge, AV.purges, AC.purge, ABlk.purge, List.contains_cons, List.contains_nil, Nat.reduceBEq, Bool.or_self, Bool.or_false, Bool.false_or, Bool.or_true, encT_eq, inR_i64, e0, e3, e4, e5, s6]
          refine ⟨by congr 3; omega, ?_⟩
          show ABlk.mrow _ _ ((((laidAt acc b (k + 1)).map encB).set (k + 1) (encB c)).set k (encB b)) = _
          rw [← List.map_set, ← List.map_set, laidAt_swap hc]
      | false =>
        repeat' (first | (with_reducible first | refine Wa ?_ | refine Wb ?_ | refine Wc ?_ | refine Wd ?_ | refine We ?_ | refine Wf ?_ | refine Wg ?_ | refine Wh ?_ | refine Wi ?_ | refine Wj ?_ | refine Wk (by decide) ?_ | refine Wl ?_ | refine Wm ?_ | refine Wn ?_) | ((with_reducible first | refine Wo (fun K hK => ?_) | refine Wp ?_ | refine Wq ?_ | refine Wr ?_); (try simp only [go_sem, List.forall_mem_nil, ↓guard_ite, ↓pick_ite, seval, encT_eq, inR_i64, e0, e3, e4, e5, s900, s6, hk0, hck, hcp, hz, hz0, hcl, hl1, hl2, hx, encB, decide_eq_true_eq, decide_eq_false_iff_not, Int.ofNat_lt]); (repeat with_reducible refine And.intro (by first | omega | (with_reducible first | exact lens_encT | exact lens_encL | exact lens_encB | exact lens_encP) | (simp; done) | (simp only [List.length_take, List.length_map, List.length_append, maxLen_eq]; omega)) ?_); (try (with_reducible refine hK _ ?_; clear hK K)); (try with_reducible refine ite_conj ?_)))
        refine then_normal ⟨l.length - (i + 1), by omega, i + 1, by omega, rfl, ?_⟩
        rw [hsnoc, hend fun d hd' _ => by
          rw [show k + 1 - 1 = k by omega, hc] at hd'
          cases hd'
          exact hx]
        simp only [go_sem, List.forall_mem_nil, ↓guard_ite, ↓pick_ite, seval, AS.drop, dropS, AC.clears, AC.clear, AC.highs, AC.high, Bool.not_false, Bool.true_and, Bool.and_self, AV.purge, AV.purges, AC.purge, ABlk.purge, List.contains_cons, List.contains_nil, Nat.reduceBEq, Bool.or_self, Bool.or_false, Bool.false_or, Bool.or_true, encT_eq, inR_i64, e0, e3, e4, s900, s6]
        congr 3
    · repeat' (first | (with_reducible first | refine Wa ?_ | refine Wb ?_ | refine Wc ?_ | refine Wd ?_ | refine We ?_ | refine Wf ?_ | refine Wg ?_ | refine Wh ?_ | refine Wi ?_ | refine Wj ?_ | refine Wk (by decide) ?_ | refine Wl ?_ | refine Wm ?_ | refine Wn ?_) | ((with_reducible first | refine Wo (fun K hK => ?_) | refine Wp ?_ | refine Wq ?_ | refine Wr ?_); (try simp only [go_sem, List.forall_mem_nil, ↓guard_ite, ↓pick_ite, seval, encT_eq, inR_i64, e0, e3, e4, e5, s900, s6, hk0, decide_eq_true_eq, decide_eq_false_iff_not, Int.ofNat_lt]); (repeat with_reducible refine And.intro (by first | omega | (with_reducible first | exact lens_encT | exact lens_encL | exact lens_encB | exact lens_encP) | (simp; done) | (simp only [List.length_take, List.length_map, List.length_append, maxLen_eq]; omega)) ?_); (try (with_reducible refine hK _ ?_; clear hK K)); (try with_reducible refine ite_conj ?_)))
      refine then_normal ⟨l.length - (i + 1), by omega, i + 1, by omega, rfl, ?_⟩
      rw [hsnoc, hend fun d hd' h => by omega]
      simp only [go_sem, List.forall_mem_nil, ↓guard_ite, ↓pick_ite, seval, AS.drop, dropS, AC.clears, AC.clear, AC.highs, AC.high, Bool.not_false, Bool.true_and, Bool.and_self, AV.purge, AV.purges, AC.purge, ABlk.purge, List.contains_cons, List.contains_nil, Nat.reduceBEq, Bool.or_self, Bool.or_false, Bool.false_or, Bool.or_true, encT_eq, inR_i64, e0, e3, e4, s900, s6]
      congr 3
  · refine IWP.ghost (Ghost.share (id := 900) s900) ?_
    repeat' (first | (with_reducible first | refine Wa ?_ | refine Wb ?_ | refine Wc ?_ | refine Wd ?_ | refine We ?_ | refine Wf ?_ | refine Wg ?_ | refine Wh ?_ | refine Wi ?_ | refine Wj ?_ | refine Wk (by decide) ?_ | refine Wl ?_ | refine Wm ?_ | refine Wn ?_) | ((with_reducible first | refine Wo (fun K hK => ?_) | refine Wp ?_ | refine Wq ?_ | refine Wr ?_); (try simp only [go_sem, List.forall_mem_nil, ↓guard_ite, ↓pick_ite, seval, encT_eq, inR_i64, e0, e3, e4, hlt, decide_eq_true_eq, decide_eq_false_iff_not, Int.ofNat_lt]); (repeat with_reducible refine And.intro (by first | omega | (with_reducible first | exact lens_encT | exact lens_encL | exact lens_encB | exact lens_encP) | (simp; done) | (simp only [List.length_take, List.length_map, List.length_append, maxLen_eq]; omega)) ?_); (try (with_reducible refine hK _ ?_; clear hK K)); (try with_reducible refine ite_conj ?_)))
    simp only [go_sem, List.forall_mem_nil, ↓guard_ite, ↓pick_ite, seval, FinQ, AS.result, resAll, resOne, tupV, hlen]
    rw [List.take_of_length_le (by omega)]
end Go.Proofs.Ytpajlfdhmjgpnaa
