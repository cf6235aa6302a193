/-
  One list of bindings behind another: the document's, the program's; the law.
  Conditions: none.
-/
import Derived.Test.YtkjocebkajckpaaBThen
import Derived.Test.YtkjocebkajckpaaBSorted
namespace Go.Proofs.Ytkjocebkajckpaa
open Go Go.RowKit
set_option linter.unusedVariables false
set_option linter.unusedSimpArgs false
set_option maxHeartbeats 1000000

/-! ### the program's -/
def thenP (s r : List Bd) : List Bd × Int := if bindsMay s = 0 then if bindsMay r = 0 then thenOf s r else ([], bindsMay r) else ([], bindsMay s)
theorem then_no1 (s r : List Bd) (h : bindsMay s ≠ 0) : ACalls Try.prog 7 [aBds s, aBds r] (.tup [aBds [], aInt (bindsMay s)]) := by
  refine ac_subst_Then (Nat.le_of_ble_eq_true rfl) fun C hC => ?_
  unfold ir_subst_Then
  repeat' (first | (with_reducible first | refine Wa ?_ | refine Wb ?_ | refine Wc ?_ | refine Wd ?_ | refine We ?_ | refine Wf ?_ | refine Wg ?_ | refine Wh ?_ | refine Wi ?_ | refine Wj ?_ | refine Wk (by decide) ?_ | refine Wl ?_ | refine Wm ?_ | refine Wn ?_) | refine CallG.mk _ (bindsCheck_a s) ?_ | ((with_reducible first | refine Wo (fun K hK => ?_) | refine Wp ?_ | refine Wq ?_ | refine Wr ?_); (try simp only [go_sem, List.forall_mem_nil, ↓guard_ite, ↓pick_ite, seval, encT_eq, inR_i64, h, decide_eq_true_eq, decide_eq_false_iff_not, Int.ofNat_lt]); (repeat with_reducible refine And.intro (by first | omega | (with_reducible first | exact lens_encT | exact lens_encL | exact lens_encB | exact lens_encP) | (simp; done) | (simp only [List.length_take, List.length_map, List.length_append, maxLen_eq]; omega)) ?_); (try (with_reducible refine hK _ ?_; clear hK K)); (try with_reducible refine ite_conj ?_)))
  simp only [go_sem, List.forall_mem_nil, ↓guard_ite, ↓pick_ite, seval, FinQ, AS.result, resAll, resOne, tupV]
  rfl
theorem then_no2 (s r : List Bd) (h0 : bindsMay s = 0) (h : bindsMay r ≠ 0) : ACalls Try.prog 7 [aBds s, aBds r] (.tup [aBds [], aInt (bindsMay r)]) := by
  refine ac_subst_Then (Nat.le_of_ble_eq_true rfl) fun C hC => ?_
  unfold ir_subst_Then
  repeat' (first | (with_reducible first | refine Wa ?_ | refine Wb ?_ | refine Wc ?_ | refine Wd ?_ | refine We ?_ | refine Wf ?_ | refine Wg ?_ | refine Wh ?_ | refine Wi ?_ | refine Wj ?_ | refine Wk (by decide) ?_ | refine Wl ?_ | refine Wm ?_ | refine Wn ?_) | refine CallG.mk _ (bindsCheck_a s) ?_ | refine CallG.mk _ (bindsCheck_a r) ?_ | ((with_reducible first | refine Wo (fun K hK => ?_) | refine Wp ?_ | refine Wq ?_ | refine Wr ?_); (try simp only [go_sem, List.forall_mem_nil, ↓guard_ite, ↓pick_ite, seval, encT_eq, inR_i64, h0, h, decide_eq_true_eq, decide_eq_false_iff_not, Int.ofNat_lt]); (repeat with_reducible refine And.intro (by first | omega | (with_reducible first | exact lens_encT | exact lens_encL | exact lens_encB | exact lens_encP) | (simp; done) | (simp only [List.length_take, List.length_map, List.length_append, maxLen_eq]; omega)) ?_); (try (with_reducible refine hK _ ?_; clear hK K)); (try with_reducible refine ite_conj ?_)))
  simp only [go_sem, List.forall_mem_nil, ↓guard_ite, ↓pick_ite, seval, FinQ, AS.result, resAll, resOne, tupV]
  rfl
theorem then_yes (s r : List Bd) (hs0 : bindsMay s = 0) (hr0 : bindsMay r = 0) : ACalls Try.prog 7 [aBds s, aBds r] (.tup [aBds (thenOf s r).1, aInt (thenOf s r).2]) := by
  obtain ⟨hs, hsl⟩ := bindsMay_good hs0
  obtain ⟨hr, hrl⟩ := bindsMay_good hr0
  have hrv : ∀ b ∈ r, isVar b.1 = true := fun b hb => (hr.ok b hb).2.1
  have hsz : ∀ b ∈ s, b.2.size ≤ 200 ∧ b.2.chk = 0 := fun b hb => (Tm.may_chk (hs.ok b hb).2.2).symm
  have hrz : ∀ b ∈ r, b.2.size ≤ 200 := fun b hb => (Tm.may_chk (hr.ok b hb).2.2).2
  refine ac_subst_Then (Nat.le_of_ble_eq_true rfl) fun C hC => ?_
  unfold ir_subst_Then
  repeat' (first | (with_reducible first | refine Wa ?_ | refine Wb ?_ | refine Wc ?_ | refine Wd ?_ | refine We ?_ | refine Wf ?_ | refine Wg ?_ | refine Wh ?_ | refine Wi ?_ | refine Wj ?_ | refine Wk (by decide) ?_ | refine Wl ?_ | refine Wm ?_ | refine Wn ?_) | refine CallG.mk _ (bindsCheck_a s) ?_ | refine CallG.mk _ (bindsCheck_a r) ?_ | ((with_reducible first | refine Wo (fun K hK => ?_) | refine Wp ?_ | refine Wq ?_ | refine Wr ?_); (try simp only [go_sem, List.forall_mem_nil, ↓guard_ite, ↓pick_ite, seval, encT_eq, inR_i64, hs0, hr0, decide_eq_true_eq, decide_eq_false_iff_not, Int.ofNat_lt]); (repeat with_reducible refine And.intro (by first | omega | (with_reducible first | exact lens_encT | exact lens_encL | exact lens_encB | exact lens_encP) | (simp; done) | (simp only [List.length_take, List.length_map, List.length_append, maxLen_eq]; omega)) ?_); (try (with_reducible refine hK _ ?_; clear hK K)); (try with_reducible refine ite_conj ?_)))
  refine IWP.ghost (Ghost.ownM 7 500 43 3 rfl rfl (by rw [hC]; decide)) ?_
  refine IWP.loopD [9, 10] (fun m x => ∃ i, i ≤ s.length ∧ m = s.length - i ∧ (∀ c ∈ s.take i, (c.2.on r).size ≤ 2000) ∧ x.env 0 = aBds s ∧ x.env 1 = aBds r ∧ x.env 7 = .one (.row 500 i) ∧ x.env 25 = aBds s ∧ x.env 26 = aInt s.length ∧ x.env 27 = aInt i ∧ x.S 500 = some (rowBd (putIn r (s.take i))) ∧ x.S 9 = none ∧ x.S 10 = none ∧ x.S 13 = none ∧ x.S 14 = none) s.length ⟨0, Nat.zero_le _, rfl, by simp, rfl, rfl, rfl, rfl, rfl, rfl, rfl, rfl, rfl, rfl, rfl⟩ ?_
  rintro m ⟨env, S⟩ ⟨i, hi, rfl, h20, e0, e1, e7, e25, e26, e27, s500, s9, s10, s13, s14⟩
  simp only at e0 e1 e7 e25 e26 e27 s500 s9 s10 s13 s14
  have hpl : (putIn r (s.take i)).length = i := by unfold putIn; rw [List.length_map, List.length_take]; omega
  by_cases hlt : (i : Int) < s.length
  · obtain ⟨b, hb⟩ := get_lt (show i < s.length by omega)
    have hpn : putIn r (s.take (i + 1)) = putIn r (s.take i) ++ [(b.1, b.2.on r)] := by unfold putIn; rw [take_snoc hb, List.map_append]; rfl
    repeat' (first | (with_reducible first | refine Wa ?_ | refine Wb ?_ | refine Wc ?_ | refine Wd ?_ | refine We ?_ | refine Wf ?_ | refine Wg ?_ | refine Wh ?_ | refine Wi ?_ | refine Wj ?_ | refine Wk (by decide) ?_ | refine Wl ?_ | refine Wm ?_ | refine Wn ?_) | ((with_reducible first | refine Wo (fun K hK => ?_) | refine Wp ?_ | refine Wq ?_ | refine Wr ?_); (try simp only [go_sem, List.forall_mem_nil, ↓guard_ite, ↓pick_ite, seval, encT_eq, inR_i64, e0, e1, e7, e25, e26, e27, s500, s9, s10, hlt, hb, encB, decide_eq_true_eq, decide_eq_false_iff_not, Int.ofNat_lt]); (repeat with_reducible refine And.intro (by first | omega | (with_reducible first | exact lens_encT | exact lens_encL | exact lens_encB | exact lens_encP) | (simp; done) | (simp only [List.length_take, List.length_map, List.length_append, maxLen_eq]; omega)) ?_); (try (with_reducible refine hK _ ?_; clear hK K)); (try with_reducible refine ite_conj ?_)))
    refine ⟨_, onP_a r (by omega) hr.ord b.2 hrv (hsz b (mem_of_get hb)).2, ?_⟩
    by_cases hz : (b.2.on r).size ≤ 2000
    · have hon : onTo r b.2 = (b.2.on r, true) := by unfold onTo; rw [if_pos hz]
      repeat' (first | (with_reducible first | refine Wa ?_ | refine Wb ?_ | refine Wc ?_ | refine Wd ?_ | refine We ?_ | refine Wf ?_ | refine Wg ?_ | refine Wh ?_ | refine Wi ?_ | refine Wj ?_ | refine Wk (by decide) ?_ | refine Wl ?_ | refine Wm ?_ | refine Wn ?_) | ((with_reducible first | refine Wo (fun K hK => ?_) | refine Wp ?_ | refine Wq ?_ | refine Wr ?_); (try simp only [go_sem, List.forall_mem_nil, ↓guard_ite, ↓pick_ite, seval, encT_eq, inR_i64, hon, e0, e1, e7, e25, e26, e27, s500, s9, s10, hpl, encB, decide_eq_true_eq, decide_eq_false_iff_not, Int.ofNat_lt]); (repeat with_reducible refine And.intro (by first | omega | (with_reducible first | exact lens_encT | exact lens_encL | exact lens_encB | exact lens_encP) | (simp; done) | (simp only [List.length_take, List.length_map, List.length_append, maxLen_eq]; omega)) ?_); (try (with_reducible refine hK _ ?_; clear hK K)); (try with_reducible refine ite_conj ?_)))
      refine then_normal ⟨s.length - (i + 1), by omega, i + 1, by omega, rfl, fun c hc => ?_, ?_⟩
      · rw [take_snoc hb] at hc
        rcases List.mem_append.1 hc with hc | hc
        · exact h20 c hc
        · rw [List.mem_singleton.1 hc]; exact hz
      · rw [hpn]
        simp only [go_sem, List.forall_mem_nil, ↓guard_ite, ↓pick_ite, seval, AS.drop, dropS, AC.clears, AC.clear, AC.highs, AC.high, Bool.not_false, Bool.true_and, Bool.and_self, AV.purge, AV.purges, AC.purge, ABlk.purge, List.contains_cons, List.contains_nil, Nat.reduceBEq, Bool.or_self, Bool.or_false, Bool.false_or, Bool.or_true, encT_eq, inR_i64, e0, e1, e7, e25, e26, e27, s500, s13, s14]
        refine ⟨by congr 3, ?_⟩
        show ABlk.mrow _ _ ((putIn r (s.take i)).map encB ++ [encB (b.1, b.2.on r)]) = rowBd _
        rw [rowBd, List.map_append]
        rfl
    · have hon : onTo r b.2 = (Tm.nil, false) := by unfold onTo; rw [if_neg hz]
      have he : thenOf s r = ([], 8) := by
        unfold thenOf
        rw [if_neg]
        intro hall
        have := List.all_eq_true.1 hall b (mem_of_get hb)
        exact hz (by simpa using this)
      repeat' (first | (with_reducible first | refine Wa ?_ | refine Wb ?_ | refine Wc ?_ | refine Wd ?_ | refine We ?_ | refine Wf ?_ | refine Wg ?_ | refine Wh ?_ | refine Wi ?_ | refine Wj ?_ | refine Wk (by decide) ?_ | refine Wl ?_ | refine Wm ?_ | refine Wn ?_) | ((with_reducible first | refine Wo (fun K hK => ?_) | refine Wp ?_ | refine Wq ?_ | refine Wr ?_); (try simp only [go_sem, List.forall_mem_nil, ↓guard_ite, ↓pick_ite, seval, encT_eq, inR_i64, hon, decide_eq_true_eq, decide_eq_false_iff_not, Int.ofNat_lt]); (repeat with_reducible refine And.intro (by first | omega | (with_reducible first | exact lens_encT | exact lens_encL | exact lens_encB | exact lens_encP) | (simp; done) | (simp only [List.length_take, List.length_map, List.length_append, maxLen_eq]; omega)) ?_); (try (with_reducible refine hK _ ?_; clear hK K)); (try with_reducible refine ite_conj ?_)))
      simp only [go_sem, List.forall_mem_nil, ↓guard_ite, ↓pick_ite, seval, FinQ, AS.result, resAll, resOne, tupV]
      rw [he]
      rfl
  · rw [List.take_of_length_le (by omega)] at h20 s500 hpl
    have he : thenOf s r = (sortB (keepB (joined s r)), 0) := by
      unfold thenOf
      rw [if_pos (List.all_eq_true.2 fun b hb => by simpa using h20 b hb)]
    rw [he]
    repeat' (first | (with_reducible first | refine Wa ?_ | refine Wb ?_ | refine Wc ?_ | refine Wd ?_ | refine We ?_ | refine Wf ?_ | refine Wg ?_ | refine Wh ?_ | refine Wi ?_ | refine Wj ?_ | refine Wk (by decide) ?_ | refine Wl ?_ | refine Wm ?_ | refine Wn ?_) | ((with_reducible first | refine Wo (fun K hK => ?_) | refine Wp ?_ | refine Wq ?_ | refine Wr ?_); (try simp only [go_sem, List.forall_mem_nil, ↓guard_ite, ↓pick_ite, seval, encT_eq, inR_i64, e0, e1, e7, e25, e26, e27, hlt, decide_eq_true_eq, decide_eq_false_iff_not, Int.ofNat_lt]); (repeat with_reducible refine And.intro (by first | omega | (with_reducible first | exact lens_encT | exact lens_encL | exact lens_encB | exact lens_encP) | (simp; done) | (simp only [List.length_take, List.length_map, List.length_append, maxLen_eq]; omega)) ?_); (try (with_reducible refine hK _ ?_; clear hK K)); (try with_reducible refine ite_conj ?_)))
    refine IWP.loopD [13, 14] (fun m x => ∃ i, i ≤ r.length ∧ m = r.length - i ∧ x.env 0 = aBds s ∧ x.env 7 = .one (.row 500 (putIn r s ++ newIn s (r.take i)).length) ∧ x.env 48 = aBds r ∧ x.env 49 = aInt r.length ∧ x.env 50 = aInt i ∧ x.S 500 = some (rowBd (putIn r s ++ newIn s (r.take i))) ∧ x.S 13 = none ∧ x.S 14 = none) r.length ⟨0, Nat.zero_le _, rfl, ?_⟩ ?_
    · have e0' : newIn s [] = [] := rfl
      rw [List.take_zero, e0', List.append_nil]
      simp only [go_sem, List.forall_mem_nil, ↓guard_ite, ↓pick_ite, seval, encT_eq, inR_i64, e0, e1, e7, s500, s13, s14, hpl]
    rintro m ⟨env, S⟩ ⟨i, hi, rfl, e0, e7, e48, e49, e50, s500, s13, s14⟩
    simp only at e0 e7 e48 e49 e50 s500 s13 s14
    have hnl : (newIn s (r.take i)).length ≤ i := Nat.le_trans (List.length_filter_le _ _) (by rw [List.length_take]; omega)
    by_cases hlt : (i : Int) < r.length
    · obtain ⟨b, hb⟩ := get_lt (show i < r.length by omega)
      have hbz := hrz b (mem_of_get hb)
      repeat' (first | (with_reducible first | refine Wa ?_ | refine Wb ?_ | refine Wc ?_ | refine Wd ?_ | refine We ?_ | refine Wf ?_ | refine Wg ?_ | refine Wh ?_ | refine Wi ?_ | refine Wj ?_ | refine Wk (by decide) ?_ | refine Wl ?_ | refine Wm ?_ | refine Wn ?_) | ((with_reducible first | refine Wo (fun K hK => ?_) | refine Wp ?_ | refine Wq ?_ | refine Wr ?_); (try simp only [go_sem, List.forall_mem_nil, ↓guard_ite, ↓pick_ite, seval, encT_eq, inR_i64, e0, e7, e48, e49, e50, s500, s13, s14, hlt, hb, encB, decide_eq_true_eq, decide_eq_false_iff_not, Int.ofNat_lt]); (repeat with_reducible refine And.intro (by first | omega | (with_reducible first | exact lens_encT | exact lens_encL | exact lens_encB | exact lens_encP) | (simp; done) | (simp only [List.length_take, List.length_map, List.length_append, maxLen_eq]; omega)) ?_); (try (with_reducible refine hK _ ?_; clear hK K)); (try with_reducible refine ite_conj ?_)))
      refine ⟨_, find_a s (by omega) hs.ord b.1, ?_⟩
      cases hq : (lookup s b.1).isSome with
      | true =>
        have hks : putIn r s ++ newIn s (r.take (i + 1)) = putIn r s ++ newIn s (r.take i) := by rw [take_snoc hb, newIn_append, newIn_no hq, List.append_nil]
        repeat' (first | (with_reducible first | refine Wa ?_ | refine Wb ?_ | refine Wc ?_ | refine Wd ?_ | refine We ?_ | refine Wf ?_ | refine Wg ?_ | refine Wh ?_ | refine Wi ?_ | refine Wj ?_ | refine Wk (by decide) ?_ | refine Wl ?_ | refine Wm ?_ | refine Wn ?_) | ((with_reducible first | refine Wo (fun K hK => ?_) | refine Wp ?_ | refine Wq ?_ | refine Wr ?_); (try simp only [go_sem, List.forall_mem_nil, ↓guard_ite, ↓pick_ite, seval, encT_eq, inR_i64, hq, e0, e7, e48, e49, e50, s500, s13, s14, decide_eq_true_eq, decide_eq_false_iff_not, Int.ofNat_lt]); (repeat with_reducible refine And.intro (by first | omega | (with_reducible first | exact lens_encT | exact lens_encL | exact lens_encB | exact lens_encP) | (simp; done) | (simp only [List.length_take, List.length_map, List.length_append, maxLen_eq]; omega)) ?_); (try (with_reducible refine hK _ ?_; clear hK K)); (try with_reducible refine ite_conj ?_)))
        refine then_normal ⟨r.length - (i + 1), by omega, i + 1, by omega, rfl, ?_⟩
        have hln := congrArg List.length hks
        rw [List.length_append, List.length_append] at hln
        rw [hks]
        simp only [go_sem, List.forall_mem_nil, ↓guard_ite, ↓pick_ite, seval, AS.drop, dropS, AC.clears, AC.clear, AC.highs, AC.high, Bool.not_false, Bool.true_and, Bool.and_self, AV.purge, AV.purges, AC.purge, ABlk.purge, List.contains_cons, List.contains_nil, Nat.reduceBEq, Bool.or_self, Bool.or_false, Bool.false_or, Bool.or_true, encT_eq, inR_i64, e0, e7, e48, e49, e50, s500, hln]
        congr 3
      | false =>
        have hks : putIn r s ++ newIn s (r.take (i + 1)) = putIn r s ++ newIn s (r.take i) ++ [b] := by rw [take_snoc hb, newIn_append, newIn_yes hq, List.append_assoc]
        repeat' (first | (with_reducible first | refine Wa ?_ | refine Wb ?_ | refine Wc ?_ | refine Wd ?_ | refine We ?_ | refine Wf ?_ | refine Wg ?_ | refine Wh ?_ | refine Wi ?_ | refine Wj ?_ | refine Wk (by decide) ?_ | refine Wl ?_ | refine Wm ?_ | refine Wn ?_) | refine CallG.mk _ (copy_a b.2 (by omega)) ?_ | ((with_reducible first | refine Wo (fun K hK => ?_) | refine Wp ?_ | refine Wq ?_ | refine Wr ?_); (try simp only [go_sem, List.forall_mem_nil, ↓guard_ite, ↓pick_ite, seval, encT_eq, inR_i64, hq, e0, e7, e48, e49, e50, s500, s13, s14, encB, decide_eq_true_eq, decide_eq_false_iff_not, Int.ofNat_lt]); (repeat with_reducible refine And.intro (by first | omega | (with_reducible first | exact lens_encT | exact lens_encL | exact lens_encB | exact lens_encP) | (simp; done) | (simp only [List.length_take, List.length_map, List.length_append, maxLen_eq]; omega)) ?_); (try (with_reducible refine hK _ ?_; clear hK K)); (try with_reducible refine ite_conj ?_)))
        refine then_normal ⟨r.length - (i + 1), by omega, i + 1, by omega, rfl, ?_⟩
        have hln := congrArg List.length hks
        rw [List.length_append, List.length_append, List.length_append, List.length_singleton] at hln
        rw [hks]
        simp only [go_sem, List.forall_mem_nil, ↓guard_ite, ↓pick_ite, seval, AS.drop, dropS, AC.clears, AC.clear, AC.highs, AC.high, Bool.not_false, Bool.true_and, Bool.and_self, AV.purge, AV.purges, AC.purge, ABlk.purge, List.contains_cons, List.contains_nil, Nat.reduceBEq, Bool.or_self, Bool.or_false, Bool.false_or, Bool.or_true, encT_eq, inR_i64, e0, e7, e48, e49, e50, s500, hln]
        refine ⟨by congr 3, ?_⟩
        show ABlk.mrow _ _ ((putIn r s ++ newIn s (r.take i)).map encB ++ [encB b]) = rowBd _
        rw [rowBd, List.map_append (l₁ := putIn r s ++ newIn s (r.take i))]
        rfl
    · rw [List.take_of_length_le (by omega)] at e7 s500
      repeat' (first | (with_reducible first | refine Wa ?_ | refine Wb ?_ | refine Wc ?_ | refine Wd ?_ | refine We ?_ | refine Wf ?_ | refine Wg ?_ | refine Wh ?_ | refine Wi ?_ | refine Wj ?_ | refine Wk (by decide) ?_ | refine Wl ?_ | refine Wm ?_ | refine Wn ?_) | ((with_reducible first | refine Wo (fun K hK => ?_) | refine Wq ?_ | refine Wr ?_); (try simp only [go_sem, List.forall_mem_nil, ↓guard_ite, ↓pick_ite, seval, encT_eq, inR_i64, e48, e49, e50, hlt]); (repeat with_reducible refine And.intro (by first | omega | (with_reducible first | exact lens_encT | exact lens_encL | exact lens_encB | exact lens_encP) | (simp; done) | (simp only [List.length_take, List.length_map, List.length_append, maxLen_eq]; omega)) ?_); (try (with_reducible refine hK _ ?_; clear hK K))))
      with_reducible refine Wp ?_
      simp only [go_sem, List.forall_mem_nil, ↓guard_ite, ↓pick_ite, seval, true_implies, false_implies, implies_true, decide_eq_true_eq, decide_eq_false_iff_not, Int.ofNat_lt, hlt]
      (try with_reducible refine ite_conj ?_)
      repeat' (with_reducible first | refine Wb ?_ | refine Wc ?_ | refine Wd ?_ | refine We ?_ | refine Wg ?_ | refine Wh ?_ | refine Wi ?_ | refine Wj ?_ | refine Wk (by decide) ?_ | refine Wl ?_ | refine Wm ?_ | refine Wn ?_)
      have hJn := joined_named hs.ord hr.ord
      have hnr : (newIn s r).length ≤ r.length := List.length_filter_le _ _
      have hJl : (putIn r s ++ newIn s r).length ≤ 80 := by rw [List.length_append]; omega
      have hJ : joined s r = putIn r s ++ newIn s r := rfl
      rw [hJ] at hJn ⊢
      generalize putIn r s ++ newIn s r = J at *
      by_cases h0 : ∀ c ∈ J, selfB c = false
      · rw [keepB_all h0]
        refine IWP.mid (fun x => x.env 7 = .one (.row 500 J.length) ∧ x.S 500 = some (rowBd J)) ?_ ?_
        · repeat' (first | (with_reducible first | refine Wa ?_ | refine Wb ?_ | refine Wc ?_ | refine Wd ?_ | refine We ?_ | refine Wf ?_ | refine Wg ?_ | refine Wh ?_ | refine Wi ?_ | refine Wj ?_ | refine Wk (by decide) ?_ | refine Wl ?_ | refine Wm ?_ | refine Wn ?_) | ((with_reducible first | refine Wo (fun K hK => ?_) | refine Wq ?_ | refine Wr ?_); (try simp only [go_sem, List.forall_mem_nil, ↓guard_ite, ↓pick_ite, seval, encT_eq, inR_i64, e7, s500]); (repeat with_reducible refine And.intro (by first | omega | (with_reducible first | exact lens_encT | exact lens_encL | exact lens_encB | exact lens_encP) | (simp; done) | (simp only [List.length_take, List.length_map, List.length_append, maxLen_eq]; omega)) ?_); (try (with_reducible refine hK _ ?_; clear hK K))))
          refine ⟨_, _, deleteFunc_no J (by omega) h0 (up1 500) (up1_le 500) (upS S) (by rw [upS_up, s500]; rfl), ?_⟩
          repeat' (first | (with_reducible first | refine Wa ?_ | refine Wb ?_ | refine Wc ?_ | refine Wd ?_ | refine We ?_ | refine Wf ?_ | refine Wg ?_ | refine Wh ?_ | refine Wi ?_ | refine Wj ?_ | refine Wk (by decide) ?_ | refine Wl ?_ | refine Wm ?_ | refine Wn ?_) | ((with_reducible first | refine Wo (fun K hK => ?_) | refine Wq ?_ | refine Wr ?_); (try simp only [go_sem, List.forall_mem_nil, ↓guard_ite, ↓pick_ite, seval, encT_eq, inR_i64, e7, s500]); (repeat with_reducible refine And.intro (by first | omega | (with_reducible first | exact lens_encT | exact lens_encL | exact lens_encB | exact lens_encP) | (simp; done) | (simp only [List.length_take, List.length_map, List.length_append, maxLen_eq]; omega)) ?_); (try (with_reducible refine hK _ ?_; clear hK K))))
          refine ⟨rfl, ?_⟩
          simp only [go_sem, List.forall_mem_nil, ↓guard_ite, ↓pick_ite, seval, encT_eq, inR_i64, e7, s500]
        rintro ⟨env, S⟩ ⟨e7, s500⟩
        simp only at e7 s500
        refine IWP.mid (fun x => x.env 4 = .one (.row 500 J.length) ∧ x.env 5 = aInt 0 ∧ x.S 500 = some (rowBd (sortB J))) ?_ ?_
        · repeat' (first | (with_reducible first | refine Wa ?_ | refine Wb ?_ | refine Wc ?_ | refine Wd ?_ | refine We ?_ | refine Wf ?_ | refine Wg ?_ | refine Wh ?_ | refine Wi ?_ | refine Wj ?_ | refine Wk (by decide) ?_ | refine Wl ?_ | refine Wm ?_ | refine Wn ?_) | ((with_reducible first | refine Wo (fun K hK => ?_) | refine Wq ?_ | refine Wr ?_); (try simp only [go_sem, List.forall_mem_nil, ↓guard_ite, ↓pick_ite, seval, encT_eq, inR_i64, e7, s500]); (repeat with_reducible refine And.intro (by first | omega | (with_reducible first | exact lens_encT | exact lens_encL | exact lens_encB | exact lens_encP) | (simp; done) | (simp only [List.length_take, List.length_map, List.length_append, maxLen_eq]; omega)) ?_); (try (with_reducible refine hK _ ?_; clear hK K))))
          refine ⟨_, _, sort_M J hJn (by omega) (up1 500) (up1_le 500) (upS S) (by rw [upS_up, s500]; rfl), ?_⟩
          repeat' (first | (with_reducible first | refine Wa ?_ | refine Wb ?_ | refine Wc ?_ | refine Wd ?_ | refine We ?_ | refine Wf ?_ | refine Wg ?_ | refine Wh ?_ | refine Wi ?_ | refine Wj ?_ | refine Wk (by decide) ?_ | refine Wl ?_ | refine Wm ?_ | refine Wn ?_) | ((with_reducible first | refine Wo (fun K hK => ?_) | refine Wq ?_ | refine Wr ?_); (try simp only [go_sem, List.forall_mem_nil, ↓guard_ite, ↓pick_ite, seval, encT_eq, inR_i64, e7, s500]); (repeat with_reducible refine And.intro (by first | omega | (with_reducible first | exact lens_encT | exact lens_encL | exact lens_encB | exact lens_encP) | (simp; done) | (simp only [List.length_take, List.length_map, List.length_append, maxLen_eq]; omega)) ?_); (try (with_reducible refine hK _ ?_; clear hK K))))
          refine ⟨rfl, ?_⟩
          simp only [go_sem, List.forall_mem_nil, ↓guard_ite, ↓pick_ite, seval, encT_eq, inR_i64, e7]
        rintro ⟨env, S⟩ ⟨e4, e5, s500⟩
        simp only at e4 e5 s500
        refine IWP.ghost (Ghost.share (id := 500) s500) ?_
        repeat' (first | (with_reducible first | refine Wa ?_ | refine Wb ?_ | refine Wc ?_ | refine Wd ?_ | refine We ?_ | refine Wf ?_ | refine Wg ?_ | refine Wh ?_ | refine Wi ?_ | refine Wj ?_ | refine Wk (by decide) ?_ | refine Wl ?_ | refine Wm ?_ | refine Wn ?_) | ((with_reducible first | refine Wo (fun K hK => ?_) | refine Wq ?_ | refine Wr ?_); (try simp only [go_sem, List.forall_mem_nil, ↓guard_ite, ↓pick_ite, seval, encT_eq, inR_i64]); (repeat with_reducible refine And.intro (by first | omega | (with_reducible first | exact lens_encT | exact lens_encL | exact lens_encB | exact lens_encP) | (simp; done) | (simp only [List.length_take, List.length_map, List.length_append, maxLen_eq]; omega)) ?_); (try (with_reducible refine hK _ ?_; clear hK K))))
        simp only [go_sem, List.forall_mem_nil, ↓guard_ite, ↓pick_ite, seval, FinQ, AS.result, resAll, resOne, tupV, e4, e5, sortB_length]
      · have hkl := keepB_len J
        have hys : ∀ y ∈ List.replicate (J.length - (keepB J).length) zeroB, y.length = 3 := fun y hy => by rw [(List.mem_replicate.1 hy).2]; rfl
        have hnn : J.length = (keepB J).length + (List.replicate (J.length - (keepB J).length) zeroB).length := by rw [List.length_replicate]; omega
        refine IWP.mid (fun x => x.env 7 = .one (.part 500 (keepB J).length J.length) ∧ x.S 500 = some (rowBy (keepB J) (List.replicate (J.length - (keepB J).length) zeroB))) ?_ ?_
        · repeat' (first | (with_reducible first | refine Wa ?_ | refine Wb ?_ | refine Wc ?_ | refine Wd ?_ | refine We ?_ | refine Wf ?_ | refine Wg ?_ | refine Wh ?_ | refine Wi ?_ | refine Wj ?_ | refine Wk (by decide) ?_ | refine Wl ?_ | refine Wm ?_ | refine Wn ?_) | ((with_reducible first | refine Wo (fun K hK => ?_) | refine Wq ?_ | refine Wr ?_); (try simp only [go_sem, List.forall_mem_nil, ↓guard_ite, ↓pick_ite, seval, encT_eq, inR_i64, e7, s500]); (repeat with_reducible refine And.intro (by first | omega | (with_reducible first | exact lens_encT | exact lens_encL | exact lens_encB | exact lens_encP) | (simp; done) | (simp only [List.length_take, List.length_map, List.length_append, maxLen_eq]; omega)) ?_); (try (with_reducible refine hK _ ?_; clear hK K))))
          refine ⟨_, _, deleteFunc_yes J (by omega) h0 (up1 500) (up1_le 500) (upS S) (by rw [upS_up, s500]; rfl), ?_⟩
          repeat' (first | (with_reducible first | refine Wa ?_ | refine Wb ?_ | refine Wc ?_ | refine Wd ?_ | refine We ?_ | refine Wf ?_ | refine Wg ?_ | refine Wh ?_ | refine Wi ?_ | refine Wj ?_ | refine Wk (by decide) ?_ | refine Wl ?_ | refine Wm ?_ | refine Wn ?_) | ((with_reducible first | refine Wo (fun K hK => ?_) | refine Wq ?_ | refine Wr ?_); (try simp only [go_sem, List.forall_mem_nil, ↓guard_ite, ↓pick_ite, seval, encT_eq, inR_i64, e7, s500]); (repeat with_reducible refine And.intro (by first | omega | (with_reducible first | exact lens_encT | exact lens_encL | exact lens_encB | exact lens_encP) | (simp; done) | (simp only [List.length_take, List.length_map, List.length_append, maxLen_eq]; omega)) ?_); (try (with_reducible refine hK _ ?_; clear hK K))))
          refine ⟨rfl, ?_⟩
          simp only [go_sem, List.forall_mem_nil, ↓guard_ite, ↓pick_ite, seval, encT_eq, inR_i64, e7, s500]
        generalize List.replicate (J.length - (keepB J).length) zeroB = ys at hys hnn ⊢
        rintro ⟨env, S⟩ ⟨e7, s500⟩
        simp only at e7 s500
        refine IWP.mid (fun x => x.env 4 = .one (.part 500 (keepB J).length J.length) ∧ x.env 5 = aInt 0 ∧ x.S 500 = some (rowBy (sortB (keepB J)) ys)) ?_ ?_
        · repeat' (first | (with_reducible first | refine Wa ?_ | refine Wb ?_ | refine Wc ?_ | refine Wd ?_ | refine We ?_ | refine Wf ?_ | refine Wg ?_ | refine Wh ?_ | refine Wi ?_ | refine Wj ?_ | refine Wk (by decide) ?_ | refine Wl ?_ | refine Wm ?_ | refine Wn ?_) | ((with_reducible first | refine Wo (fun K hK => ?_) | refine Wq ?_ | refine Wr ?_); (try simp only [go_sem, List.forall_mem_nil, ↓guard_ite, ↓pick_ite, seval, encT_eq, inR_i64, e7, s500]); (repeat with_reducible refine And.intro (by first | omega | (with_reducible first | exact lens_encT | exact lens_encL | exact lens_encB | exact lens_encP) | (simp; done) | (simp only [List.length_take, List.length_map, List.length_append, maxLen_eq]; omega)) ?_); (try (with_reducible refine hK _ ?_; clear hK K))))
          refine ⟨_, _, sort_P (keepB J) ys hys (keep_named hJn) (by omega) (up1 500) J.length (up1_le 500) (upS S) (by rw [upS_up, s500]; rfl) hnn, ?_⟩
          repeat' (first | (with_reducible first | refine Wa ?_ | refine Wb ?_ | refine Wc ?_ | refine Wd ?_ | refine We ?_ | refine Wf ?_ | refine Wg ?_ | refine Wh ?_ | refine Wi ?_ | refine Wj ?_ | refine Wk (by decide) ?_ | refine Wl ?_ | refine Wm ?_ | refine Wn ?_) | ((with_reducible first | refine Wo (fun K hK => ?_) | refine Wq ?_ | refine Wr ?_); (try simp only [go_sem, List.forall_mem_nil, ↓guard_ite, ↓pick_ite, seval, encT_eq, inR_i64, e7, s500]); (repeat with_reducible refine And.intro (by first | omega | (with_reducible first | exact lens_encT | exact lens_encL | exact lens_encB | exact lens_encP) | (simp; done) | (simp only [List.length_take, List.length_map, List.length_append, maxLen_eq]; omega)) ?_); (try (with_reducible refine hK _ ?_; clear hK K))))
          refine ⟨rfl, ?_⟩
          simp only [go_sem, List.forall_mem_nil, ↓guard_ite, ↓pick_ite, seval, encT_eq, inR_i64, e7]
        rintro ⟨env, S⟩ ⟨e4, e5, s500⟩
        simp only at e4 e5 s500
        refine IWP.ghost (Ghost.share (id := 500) s500) ?_
        refine IWP.ghost (Ghost.keep 4 500 (keepB J).length J.length (e := 43) (wd := 3) (xs := (sortB (keepB J)).map encB ++ ys) e4 (show updE S 500 _ 500 = _ from updE_same _ _ _) (by rw [List.length_append, List.length_map, sortB_length]; exact hnn) (by rw [hC]; decide)) ?_
        have htk : ((sortB (keepB J)).map encB ++ ys).take (keepB J).length = (sortB (keepB J)).map encB := by rw [List.take_append_of_le_length (by rw [List.length_map, sortB_length]; exact Nat.le_refl _), List.take_of_length_le (by rw [List.length_map, sortB_length]; exact Nat.le_refl _)]
        rw [htk]
        repeat' (first | (with_reducible first | refine Wa ?_ | refine Wb ?_ | refine Wc ?_ | refine Wd ?_ | refine We ?_ | refine Wf ?_ | refine Wg ?_ | refine Wh ?_ | refine Wi ?_ | refine Wj ?_ | refine Wk (by decide) ?_ | refine Wl ?_ | refine Wm ?_ | refine Wn ?_) | ((with_reducible first | refine Wo (fun K hK => ?_) | refine Wq ?_ | refine Wr ?_); (try simp only [go_sem, List.forall_mem_nil, ↓guard_ite, ↓pick_ite, seval, encT_eq, inR_i64]); (repeat with_reducible refine And.intro (by first | omega | (with_reducible first | exact lens_encT | exact lens_encL | exact lens_encB | exact lens_encP) | (simp; done) | (simp only [List.length_take, List.length_map, List.length_append, maxLen_eq]; omega)) ?_); (try (with_reducible refine hK _ ?_; clear hK K))))
        simp only [go_sem, List.forall_mem_nil, ↓guard_ite, ↓pick_ite, seval, FinQ, AS.result, resAll, resOne, tupV, e5]

/-! ### the law -/
theorem thenOf_err (s r : List Bd) : (thenOf s r).2 ≠ 0 → (thenOf s r).1 = [] := by
  unfold thenOf
  split
  · intro h; exact absurd rfl h
  · intro _; rfl
end Go.Proofs.Ytkjocebkajckpaa
