/-
  Proved: for all rules and terms, innermost and outermost rewriting end, or fail, as G3 says: the law RewriteEnds returns true. Conditions: none.
-/
import Derived.Test.YtkekmeiiikkabaaRewE19
import Derived.Test.YtkekmeiiikkabaaRows
import Derived.ProofKit
import Derived.OpenShut
import Derived.JoinedCond
import Derived.Deep.Slices
namespace Go.Proofs.Ytkekmeiiikkabaa
open Go Go.RowKit
set_option linter.unusedVariables false
set_option linter.unusedSimpArgs false
set_option maxHeartbeats 1600000

theorem term2_same (r : Tm × Int × Int) (h : r.2.2 ≠ 0 → r.1 = Tm.nil) : ACalls Try.prog 20 [aTm r.1, aInt r.2.2, aTm r.1, aInt r.2.2] (aBool true) := by
  have h1 := term2_a r.1 r.1 r.2.2 r.2.2
  rw [term2_self r.1 r.2.2 r.2.2 h rfl] at h1
  exact h1
theorem innerOf_nil {R : List Pr} {t : Tm} {m : Int} (h : (innerOf R t m).2.2 ≠ 0) : (innerOf R t m).1 = Tm.nil := by
  unfold innerOf at *
  split
  · split
    · rename_i h1 h2
      rw [if_pos h1, if_pos h2] at h
      rw [endR_err _ _ _ h]
    · rfl
  · rfl
theorem outerOf_nil {R : List Pr} {t : Tm} {m : Int} (h : (outerOf R t m).2.2 ≠ 0) : (outerOf R t m).1 = Tm.nil := by
  unfold outerOf at *
  split
  · split
    · rename_i h1 h2
      rw [if_pos h1, if_pos h2] at h
      rw [endR_err _ _ _ h]
    · rfl
  · rfl
set_option maxRecDepth 100000 in
theorem rewriteEnds_a (R : List Pr) (a b : Tm) (m : Int) : ACalls Try.prog 4 [aPrs R, aTm a, aTm b, aInt m] (aBool true) := by
  have c1 := inner_a R a m
  have c2 := outer_a R a m
  have c3 := meet_a R a b m
  have t1 := term2_same _ (innerOf_nil (R := R) (t := a) (m := m))
  have t2 := term2_same _ (outerOf_nil (R := R) (t := a) (m := m))
  unfold endV at c1 c2
  have fm : fuelMay m = if m < 0 ∨ 400 < m then 10 else 0 := rfl
  by_cases g1 : hugePs R = true
  · refine ac_L_RewriteEnds (Nat.le_of_ble_eq_true rfl) fun C hC => ?_
    unfold ir_L_RewriteEnds
    repeat' (first | (with_reducible first | refine Wa ?_ | refine Wb ?_ | refine Wc ?_ | refine Wd ?_ | refine We ?_ | refine Wf ?_ | refine Wg ?_ | refine Wh ?_ | refine Wi ?_ | refine Wj ?_ | refine Wk (by decide) ?_ | refine Wl ?_ | refine Wm ?_ | refine Wn ?_) | refine CallG.mk _ (hugePairs_a R) ?_ | ((with_reducible first | refine Wo (fun K hK => ?_) | refine Wp ?_ | refine Wq ?_ | refine Wr ?_); (try simp only [go_sem, List.forall_mem_nil, ↓guard_ite, ↓pick_ite, seval, encT_eq, inR_i64, g1, decide_eq_true_eq, decide_eq_false_iff_not, Int.ofNat_lt]); (repeat with_reducible refine And.intro (by first | omega | (with_reducible first | exact lens_encT | exact lens_encL | exact lens_encB | exact lens_encP) | (simp; done) | (simp only [List.length_take, List.length_map, List.length_append, maxLen_eq]; omega)) ?_); (try (with_reducible refine hK _ ?_; clear hK K)); (try with_reducible refine ite_conj ?_)))
    simp only [go_sem, List.forall_mem_nil, ↓guard_ite, ↓pick_ite, seval, FinQ, AS.result, resAll, resOne, tupV]
  by_cases g2 : 3000 < a.size
  · refine ac_L_RewriteEnds (Nat.le_of_ble_eq_true rfl) fun C hC => ?_
    unfold ir_L_RewriteEnds
    repeat' (first | (with_reducible first | refine Wa ?_ | refine Wb ?_ | refine Wc ?_ | refine Wd ?_ | refine We ?_ | refine Wf ?_ | refine Wg ?_ | refine Wh ?_ | refine Wi ?_ | refine Wj ?_ | refine Wk (by decide) ?_ | refine Wl ?_ | refine Wm ?_ | refine Wn ?_) | refine CallG.mk _ (hugePairs_a R) ?_ | refine CallG.mk _ (huge_a a) ?_ | ((with_reducible first | refine Wo (fun K hK => ?_) | refine Wp ?_ | refine Wq ?_ | refine Wr ?_); (try simp only [go_sem, List.forall_mem_nil, ↓guard_ite, ↓pick_ite, seval, encT_eq, inR_i64, g1, g2, decide_eq_true_eq, decide_eq_false_iff_not, Int.ofNat_lt]); (repeat with_reducible refine And.intro (by first | omega | (with_reducible first | exact lens_encT | exact lens_encL | exact lens_encB | exact lens_encP) | (simp; done) | (simp only [List.length_take, List.length_map, List.length_append, maxLen_eq]; omega)) ?_); (try (with_reducible refine hK _ ?_; clear hK K)); (try with_reducible refine ite_conj ?_)))
    simp only [go_sem, List.forall_mem_nil, ↓guard_ite, ↓pick_ite, seval, FinQ, AS.result, resAll, resOne, tupV]
  by_cases g3 : 3000 < b.size
  · refine ac_L_RewriteEnds (Nat.le_of_ble_eq_true rfl) fun C hC => ?_
    unfold ir_L_RewriteEnds
    repeat' (first | (with_reducible first | refine Wa ?_ | refine Wb ?_ | refine Wc ?_ | refine Wd ?_ | refine We ?_ | refine Wf ?_ | refine Wg ?_ | refine Wh ?_ | refine Wi ?_ | refine Wj ?_ | refine Wk (by decide) ?_ | refine Wl ?_ | refine Wm ?_ | refine Wn ?_) | refine CallG.mk _ (hugePairs_a R) ?_ | refine CallG.mk _ (huge_a a) ?_ | refine CallG.mk _ (huge_a b) ?_ | ((with_reducible first | refine Wo (fun K hK => ?_) | refine Wp ?_ | refine Wq ?_ | refine Wr ?_); (try simp only [go_sem, List.forall_mem_nil, ↓guard_ite, ↓pick_ite, seval, encT_eq, inR_i64, g1, g2, g3, decide_eq_true_eq, decide_eq_false_iff_not, Int.ofNat_lt]); (repeat with_reducible refine And.intro (by first | omega | (with_reducible first | exact lens_encT | exact lens_encL | exact lens_encB | exact lens_encP) | (simp; done) | (simp only [List.length_take, List.length_map, List.length_append, maxLen_eq]; omega)) ?_); (try (with_reducible refine hK _ ?_; clear hK K)); (try with_reducible refine ite_conj ?_)))
    simp only [go_sem, List.forall_mem_nil, ↓guard_ite, ↓pick_ite, seval, FinQ, AS.result, resAll, resOne, tupV]
  by_cases g4 : 30 < m ∧ m ≤ 400
  · obtain ⟨g4, g5⟩ := g4
    refine ac_L_RewriteEnds (Nat.le_of_ble_eq_true rfl) fun C hC => ?_
    unfold ir_L_RewriteEnds
    repeat' (first | (with_reducible first | refine Wa ?_ | refine Wb ?_ | refine Wc ?_ | refine Wd ?_ | refine We ?_ | refine Wf ?_ | refine Wg ?_ | refine Wh ?_ | refine Wi ?_ | refine Wj ?_ | refine Wk (by decide) ?_ | refine Wl ?_ | refine Wm ?_ | refine Wn ?_) | refine CallG.mk _ (hugePairs_a R) ?_ | refine CallG.mk _ (huge_a a) ?_ | refine CallG.mk _ (huge_a b) ?_ | ((with_reducible first | refine Wo (fun K hK => ?_) | refine Wp ?_ | refine Wq ?_ | refine Wr ?_); (try simp only [go_sem, List.forall_mem_nil, ↓guard_ite, ↓pick_ite, seval, encT_eq, inR_i64, g1, g2, g3, g4, g5, decide_eq_true_eq, decide_eq_false_iff_not, Int.ofNat_lt]); (repeat with_reducible refine And.intro (by first | omega | (with_reducible first | exact lens_encT | exact lens_encL | exact lens_encB | exact lens_encP) | (simp; done) | (simp only [List.length_take, List.length_map, List.length_append, maxLen_eq]; omega)) ?_); (try (with_reducible refine hK _ ?_; clear hK K)); (try with_reducible refine ite_conj ?_)))
    simp only [go_sem, List.forall_mem_nil, ↓guard_ite, ↓pick_ite, seval, FinQ, AS.result, resAll, resOne, tupV]
  have hab : twoMay a b = if a.may = 0 then b.may else a.may := rfl
  by_cases h0 : rulesMay R = 0
  case neg =>
    have ha : argsR R a = rulesMay R := if_neg h0
    have hP : innerOf R a m = (Tm.nil, 0, rulesMay R) := by unfold innerOf; rw [ha, if_neg h0]
    have hQ : outerOf R a m = (Tm.nil, 0, rulesMay R) := by unfold outerOf; rw [ha, if_neg h0]
    have hM : meetOf R a b m = (false, rulesMay R) := by unfold meetOf; rw [ha, if_neg h0]
    rw [hP] at c1 t1
    rw [hQ] at c2 t2
    rw [hM] at c3
    dsimp only at c1 c2 c3 t1 t2
    by_cases m1 : m < 0
    · have m2 : ¬ 30 < m := by omega
      refine ac_L_RewriteEnds (Nat.le_of_ble_eq_true rfl) fun C hC => ?_
      unfold ir_L_RewriteEnds
      repeat' (first | (with_reducible first | refine Wa ?_ | refine Wb ?_ | refine Wc ?_ | refine Wd ?_ | refine We ?_ | refine Wf ?_ | refine Wg ?_ | refine Wh ?_ | refine Wi ?_ | refine Wj ?_ | refine Wk (by decide) ?_ | refine Wl ?_ | refine Wm ?_ | refine Wn ?_) | refine CallG.mk _ (hugePairs_a R) ?_ | refine CallG.mk _ (huge_a a) ?_ | refine CallG.mk _ (huge_a b) ?_ | refine CallG.mk _ (rulesMayR_a R) ?_ | refine CallG.mk _ (c1) ?_ | refine CallG.mk _ (c2) ?_ | refine CallG.mk _ (c3) ?_ | refine CallG.mk _ (t1) ?_ | refine CallG.mk _ (t2) ?_ | ((with_reducible first | refine Wo (fun K hK => ?_) | refine Wp ?_ | refine Wq ?_ | refine Wr ?_); (try simp only [go_sem, List.forall_mem_nil, ↓guard_ite, ↓pick_ite, seval, encT_eq, inR_i64, g1, g2, g3, m1, m2, h0, decide_eq_true_eq, decide_eq_false_iff_not, Int.ofNat_lt]); (repeat with_reducible refine And.intro (by first | omega | (with_reducible first | exact lens_encT | exact lens_encL | exact lens_encB | exact lens_encP) | (simp; done) | (simp only [List.length_take, List.length_map, List.length_append, maxLen_eq]; omega)) ?_); (try (with_reducible refine hK _ ?_; clear hK K)); (try with_reducible refine ite_conj ?_)))
      simp only [go_sem, List.forall_mem_nil, ↓guard_ite, ↓pick_ite, seval, FinQ, AS.result, resAll, resOne, tupV]
    · by_cases m3 : 400 < m
      · have m2 : 30 < m := by omega
        have m4 : ¬ m ≤ 400 := by omega
        refine ac_L_RewriteEnds (Nat.le_of_ble_eq_true rfl) fun C hC => ?_
        unfold ir_L_RewriteEnds
        repeat' (first | (with_reducible first | refine Wa ?_ | refine Wb ?_ | refine Wc ?_ | refine Wd ?_ | refine We ?_ | refine Wf ?_ | refine Wg ?_ | refine Wh ?_ | refine Wi ?_ | refine Wj ?_ | refine Wk (by decide) ?_ | refine Wl ?_ | refine Wm ?_ | refine Wn ?_) | refine CallG.mk _ (hugePairs_a R) ?_ | refine CallG.mk _ (huge_a a) ?_ | refine CallG.mk _ (huge_a b) ?_ | refine CallG.mk _ (rulesMayR_a R) ?_ | refine CallG.mk _ (c1) ?_ | refine CallG.mk _ (c2) ?_ | refine CallG.mk _ (c3) ?_ | refine CallG.mk _ (t1) ?_ | refine CallG.mk _ (t2) ?_ | ((with_reducible first | refine Wo (fun K hK => ?_) | refine Wp ?_ | refine Wq ?_ | refine Wr ?_); (try simp only [go_sem, List.forall_mem_nil, ↓guard_ite, ↓pick_ite, seval, encT_eq, inR_i64, g1, g2, g3, m1, m2, m3, m4, h0, decide_eq_true_eq, decide_eq_false_iff_not, Int.ofNat_lt]); (repeat with_reducible refine And.intro (by first | omega | (with_reducible first | exact lens_encT | exact lens_encL | exact lens_encB | exact lens_encP) | (simp; done) | (simp only [List.length_take, List.length_map, List.length_append, maxLen_eq]; omega)) ?_); (try (with_reducible refine hK _ ?_; clear hK K)); (try with_reducible refine ite_conj ?_)))
        simp only [go_sem, List.forall_mem_nil, ↓guard_ite, ↓pick_ite, seval, FinQ, AS.result, resAll, resOne, tupV]
      · have m2 : ¬ 30 < m := by omega
        refine ac_L_RewriteEnds (Nat.le_of_ble_eq_true rfl) fun C hC => ?_
        unfold ir_L_RewriteEnds
        repeat' (first | (with_reducible first | refine Wa ?_ | refine Wb ?_ | refine Wc ?_ | refine Wd ?_ | refine We ?_ | refine Wf ?_ | refine Wg ?_ | refine Wh ?_ | refine Wi ?_ | refine Wj ?_ | refine Wk (by decide) ?_ | refine Wl ?_ | refine Wm ?_ | refine Wn ?_) | refine CallG.mk _ (hugePairs_a R) ?_ | refine CallG.mk _ (huge_a a) ?_ | refine CallG.mk _ (huge_a b) ?_ | refine CallG.mk _ (rulesMayR_a R) ?_ | refine CallG.mk _ (c1) ?_ | refine CallG.mk _ (c2) ?_ | refine CallG.mk _ (c3) ?_ | refine CallG.mk _ (t1) ?_ | refine CallG.mk _ (t2) ?_ | ((with_reducible first | refine Wo (fun K hK => ?_) | refine Wp ?_ | refine Wq ?_ | refine Wr ?_); (try simp only [go_sem, List.forall_mem_nil, ↓guard_ite, ↓pick_ite, seval, encT_eq, inR_i64, g1, g2, g3, m1, m2, m3, h0, decide_eq_true_eq, decide_eq_false_iff_not, Int.ofNat_lt]); (repeat with_reducible refine And.intro (by first | omega | (with_reducible first | exact lens_encT | exact lens_encL | exact lens_encB | exact lens_encP) | (simp; done) | (simp only [List.length_take, List.length_map, List.length_append, maxLen_eq]; omega)) ?_); (try (with_reducible refine hK _ ?_; clear hK K)); (try with_reducible refine ite_conj ?_)))
        simp only [go_sem, List.forall_mem_nil, ↓guard_ite, ↓pick_ite, seval, FinQ, AS.result, resAll, resOne, tupV]
  case pos =>
  have ha : argsR R a = a.may := if_pos h0
  by_cases h1 : a.may = 0
  case neg =>
    have hab' : twoMay a b = a.may := if_neg h1
    have hP : innerOf R a m = (Tm.nil, 0, a.may) := by unfold innerOf; rw [ha, if_neg h1]
    have hQ : outerOf R a m = (Tm.nil, 0, a.may) := by unfold outerOf; rw [ha, if_neg h1]
    have hM : meetOf R a b m = (false, a.may) := by unfold meetOf; rw [ha, if_neg h1]
    rw [hP] at c1 t1
    rw [hQ] at c2 t2
    rw [hM] at c3
    dsimp only at c1 c2 c3 t1 t2
    by_cases m1 : m < 0
    · have m2 : ¬ 30 < m := by omega
      refine ac_L_RewriteEnds (Nat.le_of_ble_eq_true rfl) fun C hC => ?_
      unfold ir_L_RewriteEnds
      repeat' (first | (with_reducible first | refine Wa ?_ | refine Wb ?_ | refine Wc ?_ | refine Wd ?_ | refine We ?_ | refine Wf ?_ | refine Wg ?_ | refine Wh ?_ | refine Wi ?_ | refine Wj ?_ | refine Wk (by decide) ?_ | refine Wl ?_ | refine Wm ?_ | refine Wn ?_) | refine CallG.mk _ (hugePairs_a R) ?_ | refine CallG.mk _ (huge_a a) ?_ | refine CallG.mk _ (huge_a b) ?_ | refine CallG.mk _ (rulesMayR_a R) ?_ | refine CallG.mk _ (termMay_a a) ?_ | refine CallG.mk _ (twoMay_a a b) ?_ | refine CallG.mk _ (c1) ?_ | refine CallG.mk _ (c2) ?_ | refine CallG.mk _ (c3) ?_ | refine CallG.mk _ (t1) ?_ | refine CallG.mk _ (t2) ?_ | ((with_reducible first | refine Wo (fun K hK => ?_) | refine Wp ?_ | refine Wq ?_ | refine Wr ?_); (try simp only [go_sem, List.forall_mem_nil, ↓guard_ite, ↓pick_ite, seval, encT_eq, inR_i64, g1, g2, g3, m1, m2, h0, h1, hab', decide_eq_true_eq, decide_eq_false_iff_not, Int.ofNat_lt]); (repeat with_reducible refine And.intro (by first | omega | (with_reducible first | exact lens_encT | exact lens_encL | exact lens_encB | exact lens_encP) | (simp; done) | (simp only [List.length_take, List.length_map, List.length_append, maxLen_eq]; omega)) ?_); (try (with_reducible refine hK _ ?_; clear hK K)); (try with_reducible refine ite_conj ?_)))
      simp only [go_sem, List.forall_mem_nil, ↓guard_ite, ↓pick_ite, seval, FinQ, AS.result, resAll, resOne, tupV]
    by_cases m3 : 400 < m
    · have m2 : 30 < m := by omega
      have m4 : ¬ m ≤ 400 := by omega
      refine ac_L_RewriteEnds (Nat.le_of_ble_eq_true rfl) fun C hC => ?_
      unfold ir_L_RewriteEnds
      repeat' (first | (with_reducible first | refine Wa ?_ | refine Wb ?_ | refine Wc ?_ | refine Wd ?_ | refine We ?_ | refine Wf ?_ | refine Wg ?_ | refine Wh ?_ | refine Wi ?_ | refine Wj ?_ | refine Wk (by decide) ?_ | refine Wl ?_ | refine Wm ?_ | refine Wn ?_) | refine CallG.mk _ (hugePairs_a R) ?_ | refine CallG.mk _ (huge_a a) ?_ | refine CallG.mk _ (huge_a b) ?_ | refine CallG.mk _ (rulesMayR_a R) ?_ | refine CallG.mk _ (termMay_a a) ?_ | refine CallG.mk _ (twoMay_a a b) ?_ | refine CallG.mk _ (c1) ?_ | refine CallG.mk _ (c2) ?_ | refine CallG.mk _ (c3) ?_ | refine CallG.mk _ (t1) ?_ | refine CallG.mk _ (t2) ?_ | ((with_reducible first | refine Wo (fun K hK => ?_) | refine Wp ?_ | refine Wq ?_ | refine Wr ?_); (try simp only [go_sem, List.forall_mem_nil, ↓guard_ite, ↓pick_ite, seval, encT_eq, inR_i64, g1, g2, g3, m1, m2, m3, m4, h0, h1, hab', decide_eq_true_eq, decide_eq_false_iff_not, Int.ofNat_lt]); (repeat with_reducible refine And.intro (by first | omega | (with_reducible first | exact lens_encT | exact lens_encL | exact lens_encB | exact lens_encP) | (simp; done) | (simp only [List.length_take, List.length_map, List.length_append, maxLen_eq]; omega)) ?_); (try (with_reducible refine hK _ ?_; clear hK K)); (try with_reducible refine ite_conj ?_)))
      simp only [go_sem, List.forall_mem_nil, ↓guard_ite, ↓pick_ite, seval, FinQ, AS.result, resAll, resOne, tupV]
    have m2 : ¬ 30 < m := by omega
    refine ac_L_RewriteEnds (Nat.le_of_ble_eq_true rfl) fun C hC => ?_
    unfold ir_L_RewriteEnds
    repeat' (first | (with_reducible first | refine Wa ?_ | refine Wb ?_ | refine Wc ?_ | refine Wd ?_ | refine We ?_ | refine Wf ?_ | refine Wg ?_ | refine Wh ?_ | refine Wi ?_ | refine Wj ?_ | refine Wk (by decide) ?_ | refine Wl ?_ | refine Wm ?_ | refine Wn ?_) | refine CallG.mk _ (hugePairs_a R) ?_ | refine CallG.mk _ (huge_a a) ?_ | refine CallG.mk _ (huge_a b) ?_ | refine CallG.mk _ (rulesMayR_a R) ?_ | refine CallG.mk _ (termMay_a a) ?_ | refine CallG.mk _ (twoMay_a a b) ?_ | refine CallG.mk _ (c1) ?_ | refine CallG.mk _ (c2) ?_ | refine CallG.mk _ (c3) ?_ | refine CallG.mk _ (t1) ?_ | refine CallG.mk _ (t2) ?_ | ((with_reducible first | refine Wo (fun K hK => ?_) | refine Wp ?_ | refine Wq ?_ | refine Wr ?_); (try simp only [go_sem, List.forall_mem_nil, ↓guard_ite, ↓pick_ite, seval, encT_eq, inR_i64, g1, g2, g3, m1, m2, m3, h0, h1, hab', decide_eq_true_eq, decide_eq_false_iff_not, Int.ofNat_lt]); (repeat with_reducible refine And.intro (by first | omega | (with_reducible first | exact lens_encT | exact lens_encL | exact lens_encB | exact lens_encP) | (simp; done) | (simp only [List.length_take, List.length_map, List.length_append, maxLen_eq]; omega)) ?_); (try (with_reducible refine hK _ ?_; clear hK K)); (try with_reducible refine ite_conj ?_)))
    simp only [go_sem, List.forall_mem_nil, ↓guard_ite, ↓pick_ite, seval, FinQ, AS.result, resAll, resOne, tupV]
  case pos =>
  obtain ⟨hca, hza⟩ := Tm.may_chk h1
  have hR := goodRules h0
  have hab' : twoMay a b = b.may := if_pos h1
  by_cases h2 : b.may = 0
  case neg =>
    have hM : meetOf R a b m = (false, b.may) := by unfold meetOf; rw [ha, if_pos h1, if_neg h2]
    rw [hM] at c3
    dsimp only at c3
    have bad10 : fuelMay m = 10 → innerOf R a m = (Tm.nil, 0, 10) ∧ outerOf R a m = (Tm.nil, 0, 10) := fun hf => by
      unfold innerOf outerOf
      rw [ha, if_pos h1, if_pos h1, hf]
      exact ⟨rfl, rfl⟩
    by_cases m1 : m < 0
    · have m2 : ¬ 30 < m := by omega
      obtain ⟨hP, hQ⟩ := bad10 (by rw [fm, if_pos (by omega)])
      rw [hP] at c1 t1
      rw [hQ] at c2 t2
      dsimp only at c1 c2 t1 t2
      refine ac_L_RewriteEnds (Nat.le_of_ble_eq_true rfl) fun C hC => ?_
      unfold ir_L_RewriteEnds
      repeat' (first | (with_reducible first | refine Wa ?_ | refine Wb ?_ | refine Wc ?_ | refine Wd ?_ | refine We ?_ | refine Wf ?_ | refine Wg ?_ | refine Wh ?_ | refine Wi ?_ | refine Wj ?_ | refine Wk (by decide) ?_ | refine Wl ?_ | refine Wm ?_ | refine Wn ?_) | refine CallG.mk _ (hugePairs_a R) ?_ | refine CallG.mk _ (huge_a a) ?_ | refine CallG.mk _ (huge_a b) ?_ | refine CallG.mk _ (rulesMayR_a R) ?_ | refine CallG.mk _ (termMay_a a) ?_ | refine CallG.mk _ (twoMay_a a b) ?_ | refine CallG.mk _ (c1) ?_ | refine CallG.mk _ (c2) ?_ | refine CallG.mk _ (c3) ?_ | refine CallG.mk _ (t1) ?_ | refine CallG.mk _ (t2) ?_ | ((with_reducible first | refine Wo (fun K hK => ?_) | refine Wp ?_ | refine Wq ?_ | refine Wr ?_); (try simp only [go_sem, List.forall_mem_nil, ↓guard_ite, ↓pick_ite, seval, encT_eq, inR_i64, g1, g2, g3, m1, m2, h0, h1, h2, hab', decide_eq_true_eq, decide_eq_false_iff_not, Int.ofNat_lt]); (repeat with_reducible refine And.intro (by first | omega | (with_reducible first | exact lens_encT | exact lens_encL | exact lens_encB | exact lens_encP) | (simp; done) | (simp only [List.length_take, List.length_map, List.length_append, maxLen_eq]; omega)) ?_); (try (with_reducible refine hK _ ?_; clear hK K)); (try with_reducible refine ite_conj ?_)))
      simp only [go_sem, List.forall_mem_nil, ↓guard_ite, ↓pick_ite, seval, FinQ, AS.result, resAll, resOne, tupV]
    by_cases m3 : 400 < m
    · have m2 : 30 < m := by omega
      have m4 : ¬ m ≤ 400 := by omega
      obtain ⟨hP, hQ⟩ := bad10 (by rw [fm, if_pos (by omega)])
      rw [hP] at c1 t1
      rw [hQ] at c2 t2
      dsimp only at c1 c2 t1 t2
      refine ac_L_RewriteEnds (Nat.le_of_ble_eq_true rfl) fun C hC => ?_
      unfold ir_L_RewriteEnds
      repeat' (first | (with_reducible first | refine Wa ?_ | refine Wb ?_ | refine Wc ?_ | refine Wd ?_ | refine We ?_ | refine Wf ?_ | refine Wg ?_ | refine Wh ?_ | refine Wi ?_ | refine Wj ?_ | refine Wk (by decide) ?_ | refine Wl ?_ | refine Wm ?_ | refine Wn ?_) | refine CallG.mk _ (hugePairs_a R) ?_ | refine CallG.mk _ (huge_a a) ?_ | refine CallG.mk _ (huge_a b) ?_ | refine CallG.mk _ (rulesMayR_a R) ?_ | refine CallG.mk _ (termMay_a a) ?_ | refine CallG.mk _ (twoMay_a a b) ?_ | refine CallG.mk _ (c1) ?_ | refine CallG.mk _ (c2) ?_ | refine CallG.mk _ (c3) ?_ | refine CallG.mk _ (t1) ?_ | refine CallG.mk _ (t2) ?_ | ((with_reducible first | refine Wo (fun K hK => ?_) | refine Wp ?_ | refine Wq ?_ | refine Wr ?_); (try simp only [go_sem, List.forall_mem_nil, ↓guard_ite, ↓pick_ite, seval, encT_eq, inR_i64, g1, g2, g3, m1, m2, m3, m4, h0, h1, h2, hab', decide_eq_true_eq, decide_eq_false_iff_not, Int.ofNat_lt]); (repeat with_reducible refine And.intro (by first | omega | (with_reducible first | exact lens_encT | exact lens_encL | exact lens_encB | exact lens_encP) | (simp; done) | (simp only [List.length_take, List.length_map, List.length_append, maxLen_eq]; omega)) ?_); (try (with_reducible refine hK _ ?_; clear hK K)); (try with_reducible refine ite_conj ?_)))
      simp only [go_sem, List.forall_mem_nil, ↓guard_ite, ↓pick_ite, seval, FinQ, AS.result, resAll, resOne, tupV]
    have m2 : ¬ 30 < m := by omega
    obtain ⟨n, rfl⟩ : ∃ n : Nat, m = n := ⟨m.toNat, by omega⟩
    have hf : fuelMay n = 0 := by rw [fm, if_neg (by omega)]
    have hP : innerOf R a n = endR (Tm.inn R) n 0 a := by unfold innerOf; rw [ha, if_pos h1, if_pos hf, Int.toNat_natCast]
    have hQ : outerOf R a n = endR (Tm.out R) n 0 a := by unfold outerOf; rw [ha, if_pos h1, if_pos hf, Int.toNat_natCast]
    have l1 := endOf_a hR true a hca (by omega) n (by omega)
    have l2 := endOf_a hR false a hca (by omega) n (by omega)
    rw [show stepB true R = Tm.inn R from rfl] at l1
    rw [show stepB false R = Tm.out R from rfl] at l2
    unfold endV at l1 l2
    rw [hP] at c1 t1
    rw [hQ] at c2 t2
    generalize endR (Tm.inn R) n 0 a = P at *
    generalize endR (Tm.out R) n 0 a = Q at *
    refine ac_L_RewriteEnds (Nat.le_of_ble_eq_true rfl) fun C hC => ?_
    unfold ir_L_RewriteEnds
    repeat' (first | (with_reducible first | refine Wa ?_ | refine Wb ?_ | refine Wc ?_ | refine Wd ?_ | refine We ?_ | refine Wf ?_ | refine Wg ?_ | refine Wh ?_ | refine Wi ?_ | refine Wj ?_ | refine Wk (by decide) ?_ | refine Wl ?_ | refine Wm ?_ | refine Wn ?_) | refine CallG.mk _ (hugePairs_a R) ?_ | refine CallG.mk _ (huge_a a) ?_ | refine CallG.mk _ (huge_a b) ?_ | refine CallG.mk _ (rulesMayR_a R) ?_ | refine CallG.mk _ (termMay_a a) ?_ | refine CallG.mk _ (twoMay_a a b) ?_ | refine CallG.mk _ (l1) ?_ | refine CallG.mk _ (l2) ?_ | refine CallG.mk _ (c1) ?_ | refine CallG.mk _ (c2) ?_ | refine CallG.mk _ (c3) ?_ | refine CallG.mk _ (t1) ?_ | refine CallG.mk _ (t2) ?_ | ((with_reducible first | refine Wo (fun K hK => ?_) | refine Wp ?_ | refine Wq ?_ | refine Wr ?_); (try simp only [go_sem, List.forall_mem_nil, ↓guard_ite, ↓pick_ite, seval, encT_eq, inR_i64, g1, g2, g3, m1, m2, m3, h0, h1, h2, hab', decide_eq_true_eq, decide_eq_false_iff_not, Int.ofNat_lt]); (repeat with_reducible refine And.intro (by first | omega | (with_reducible first | exact lens_encT | exact lens_encL | exact lens_encB | exact lens_encP) | (simp; done) | (simp only [List.length_take, List.length_map, List.length_append, maxLen_eq]; omega)) ?_); (try (with_reducible refine hK _ ?_; clear hK K)); (try with_reducible refine ite_conj ?_)))
    simp only [go_sem, List.forall_mem_nil, ↓guard_ite, ↓pick_ite, seval, FinQ, AS.result, resAll, resOne, tupV]
  case pos =>
  obtain ⟨hcb, hzb⟩ := Tm.may_chk h2
  have za := sizeR_a a 40 (by omega) (by omega)
  have zb := sizeR_a b 40 (by omega) (by omega)
  have hg4 : m ≤ 30 ∨ 400 < m := by omega
  have gm : (decide (30 < m) && decide (m ≤ 400)) = false := by
    rcases hg4 with h | h
    · simp [show ¬ 30 < m by omega]
    · simp [show ¬ m ≤ 400 by omega]
  have early : ∀ (hbig : (40 : Int) < capTo a.size 40 ∨ (¬ (40 : Int) < capTo a.size 40 ∧ (40 : Int) < capTo b.size 40) ∨ (¬ (40 : Int) < capTo a.size 40 ∧ ¬ (40 : Int) < capTo b.size 40 ∧ (12 : Int) < R.length)), ACalls Try.prog 4 [aPrs R, aTm a, aTm b, aInt m] (aBool true) := by
    intro hbig
    rcases hg4 with h30 | h400
    · have m2 : ¬ 30 < m := by omega
      rcases hbig with q1 | ⟨q1, q2⟩ | ⟨q1, q2, q3⟩
      · refine ac_L_RewriteEnds (Nat.le_of_ble_eq_true rfl) fun C hC => ?_
        unfold ir_L_RewriteEnds
        repeat' (first | (with_reducible first | refine Wa ?_ | refine Wb ?_ | refine Wc ?_ | refine Wd ?_ | refine We ?_ | refine Wf ?_ | refine Wg ?_ | refine Wh ?_ | refine Wi ?_ | refine Wj ?_ | refine Wk (by decide) ?_ | refine Wl ?_ | refine Wm ?_ | refine Wn ?_) | refine CallG.mk _ (hugePairs_a R) ?_ | refine CallG.mk _ (huge_a a) ?_ | refine CallG.mk _ (huge_a b) ?_ | refine CallG.mk _ (rulesMayR_a R) ?_ | refine CallG.mk _ (termMay_a a) ?_ | refine CallG.mk _ (twoMay_a a b) ?_ | refine CallG.mk _ (za) ?_ | refine CallG.mk _ (zb) ?_ | ((with_reducible first | refine Wo (fun K hK => ?_) | refine Wp ?_ | refine Wq ?_ | refine Wr ?_); (try simp only [go_sem, List.forall_mem_nil, ↓guard_ite, ↓pick_ite, seval, encT_eq, inR_i64, g1, g2, g3, m2, h0, h1, h2, hab', q1, decide_eq_true_eq, decide_eq_false_iff_not, Int.ofNat_lt]); (repeat with_reducible refine And.intro (by first | omega | (with_reducible first | exact lens_encT | exact lens_encL | exact lens_encB | exact lens_encP) | (simp; done) | (simp only [List.length_take, List.length_map, List.length_append, maxLen_eq]; omega)) ?_); (try (with_reducible refine hK _ ?_; clear hK K)); (try with_reducible refine ite_conj ?_)))
        simp only [go_sem, List.forall_mem_nil, ↓guard_ite, ↓pick_ite, seval, FinQ, AS.result, resAll, resOne, tupV]
      · refine ac_L_RewriteEnds (Nat.le_of_ble_eq_true rfl) fun C hC => ?_
        unfold ir_L_RewriteEnds
        repeat' (first | (with_reducible first | refine Wa ?_ | refine Wb ?_ | refine Wc ?_ | refine Wd ?_ | refine We ?_ | refine Wf ?_ | refine Wg ?_ | refine Wh ?_ | refine Wi ?_ | refine Wj ?_ | refine Wk (by decide) ?_ | refine Wl ?_ | refine Wm ?_ | refine Wn ?_) | refine CallG.mk _ (hugePairs_a R) ?_ | refine CallG.mk _ (huge_a a) ?_ | refine CallG.mk _ (huge_a b) ?_ | refine CallG.mk _ (rulesMayR_a R) ?_ | refine CallG.mk _ (termMay_a a) ?_ | refine CallG.mk _ (twoMay_a a b) ?_ | refine CallG.mk _ (za) ?_ | refine CallG.mk _ (zb) ?_ | ((with_reducible first | refine Wo (fun K hK => ?_) | refine Wp ?_ | refine Wq ?_ | refine Wr ?_); (try simp only [go_sem, List.forall_mem_nil, ↓guard_ite, ↓pick_ite, seval, encT_eq, inR_i64, g1, g2, g3, m2, h0, h1, h2, hab', q1, q2, decide_eq_true_eq, decide_eq_false_iff_not, Int.ofNat_lt]); (repeat with_reducible refine And.intro (by first | omega | (with_reducible first | exact lens_encT | exact lens_encL | exact lens_encB | exact lens_encP) | (simp; done) | (simp only [List.length_take, List.length_map, List.length_append, maxLen_eq]; omega)) ?_); (try (with_reducible refine hK _ ?_; clear hK K)); (try with_reducible refine ite_conj ?_)))
        simp only [go_sem, List.forall_mem_nil, ↓guard_ite, ↓pick_ite, seval, FinQ, AS.result, resAll, resOne, tupV]
      · refine ac_L_RewriteEnds (Nat.le_of_ble_eq_true rfl) fun C hC => ?_
        unfold ir_L_RewriteEnds
        repeat' (first | (with_reducible first | refine Wa ?_ | refine Wb ?_ | refine Wc ?_ | refine Wd ?_ | refine We ?_ | refine Wf ?_ | refine Wg ?_ | refine Wh ?_ | refine Wi ?_ | refine Wj ?_ | refine Wk (by decide) ?_ | refine Wl ?_ | refine Wm ?_ | refine Wn ?_) | refine CallG.mk _ (hugePairs_a R) ?_ | refine CallG.mk _ (huge_a a) ?_ | refine CallG.mk _ (huge_a b) ?_ | refine CallG.mk _ (rulesMayR_a R) ?_ | refine CallG.mk _ (termMay_a a) ?_ | refine CallG.mk _ (twoMay_a a b) ?_ | refine CallG.mk _ (za) ?_ | refine CallG.mk _ (zb) ?_ | ((with_reducible first | refine Wo (fun K hK => ?_) | refine Wp ?_ | refine Wq ?_ | refine Wr ?_); (try simp only [go_sem, List.forall_mem_nil, ↓guard_ite, ↓pick_ite, seval, encT_eq, inR_i64, g1, g2, g3, m2, h0, h1, h2, hab', q1, q2, q3, decide_eq_true_eq, decide_eq_false_iff_not, Int.ofNat_lt]); (repeat with_reducible refine And.intro (by first | omega | (with_reducible first | exact lens_encT | exact lens_encL | exact lens_encB | exact lens_encP) | (simp; done) | (simp only [List.length_take, List.length_map, List.length_append, maxLen_eq]; omega)) ?_); (try (with_reducible refine hK _ ?_; clear hK K)); (try with_reducible refine ite_conj ?_)))
        simp only [go_sem, List.forall_mem_nil, ↓guard_ite, ↓pick_ite, seval, FinQ, AS.result, resAll, resOne, tupV]
    · have m2 : 30 < m := by omega
      have m4 : ¬ m ≤ 400 := by omega
      rcases hbig with q1 | ⟨q1, q2⟩ | ⟨q1, q2, q3⟩
      · refine ac_L_RewriteEnds (Nat.le_of_ble_eq_true rfl) fun C hC => ?_
        unfold ir_L_RewriteEnds
        repeat' (first | (with_reducible first | refine Wa ?_ | refine Wb ?_ | refine Wc ?_ | refine Wd ?_ | refine We ?_ | refine Wf ?_ | refine Wg ?_ | refine Wh ?_ | refine Wi ?_ | refine Wj ?_ | refine Wk (by decide) ?_ | refine Wl ?_ | refine Wm ?_ | refine Wn ?_) | refine CallG.mk _ (hugePairs_a R) ?_ | refine CallG.mk _ (huge_a a) ?_ | refine CallG.mk _ (huge_a b) ?_ | refine CallG.mk _ (rulesMayR_a R) ?_ | refine CallG.mk _ (termMay_a a) ?_ | refine CallG.mk _ (twoMay_a a b) ?_ | refine CallG.mk _ (za) ?_ | refine CallG.mk _ (zb) ?_ | ((with_reducible first | refine Wo (fun K hK => ?_) | refine Wp ?_ | refine Wq ?_ | refine Wr ?_); (try simp only [go_sem, List.forall_mem_nil, ↓guard_ite, ↓pick_ite, seval, encT_eq, inR_i64, g1, g2, g3, m2, m4, h0, h1, h2, hab', q1, decide_eq_true_eq, decide_eq_false_iff_not, Int.ofNat_lt]); (repeat with_reducible refine And.intro (by first | omega | (with_reducible first | exact lens_encT | exact lens_encL | exact lens_encB | exact lens_encP) | (simp; done) | (simp only [List.length_take, List.length_map, List.length_append, maxLen_eq]; omega)) ?_); (try (with_reducible refine hK _ ?_; clear hK K)); (try with_reducible refine ite_conj ?_)))
        simp only [go_sem, List.forall_mem_nil, ↓guard_ite, ↓pick_ite, seval, FinQ, AS.result, resAll, resOne, tupV]
      · refine ac_L_RewriteEnds (Nat.le_of_ble_eq_true rfl) fun C hC => ?_
        unfold ir_L_RewriteEnds
        repeat' (first | (with_reducible first | refine Wa ?_ | refine Wb ?_ | refine Wc ?_ | refine Wd ?_ | refine We ?_ | refine Wf ?_ | refine Wg ?_ | refine Wh ?_ | refine Wi ?_ | refine Wj ?_ | refine Wk (by decide) ?_ | refine Wl ?_ | refine Wm ?_ | refine Wn ?_) | refine CallG.mk _ (hugePairs_a R) ?_ | refine CallG.mk _ (huge_a a) ?_ | refine CallG.mk _ (huge_a b) ?_ | refine CallG.mk _ (rulesMayR_a R) ?_ | refine CallG.mk _ (termMay_a a) ?_ | refine CallG.mk _ (twoMay_a a b) ?_ | refine CallG.mk _ (za) ?_ | refine CallG.mk _ (zb) ?_ | ((with_reducible first | refine Wo (fun K hK => ?_) | refine Wp ?_ | refine Wq ?_ | refine Wr ?_); (try simp only [go_sem, List.forall_mem_nil, ↓guard_ite, ↓pick_ite, seval, encT_eq, inR_i64, g1, g2, g3, m2, m4, h0, h1, h2, hab', q1, q2, decide_eq_true_eq, decide_eq_false_iff_not, Int.ofNat_lt]); (repeat with_reducible refine And.intro (by first | omega | (with_reducible first | exact lens_encT | exact lens_encL | exact lens_encB | exact lens_encP) | (simp; done) | (simp only [List.length_take, List.length_map, List.length_append, maxLen_eq]; omega)) ?_); (try (with_reducible refine hK _ ?_; clear hK K)); (try with_reducible refine ite_conj ?_)))
        simp only [go_sem, List.forall_mem_nil, ↓guard_ite, ↓pick_ite, seval, FinQ, AS.result, resAll, resOne, tupV]
      · refine ac_L_RewriteEnds (Nat.le_of_ble_eq_true rfl) fun C hC => ?_
        unfold ir_L_RewriteEnds
        repeat' (first | (with_reducible first | refine Wa ?_ | refine Wb ?_ | refine Wc ?_ | refine Wd ?_ | refine We ?_ | refine Wf ?_ | refine Wg ?_ | refine Wh ?_ | refine Wi ?_ | refine Wj ?_ | refine Wk (by decide) ?_ | refine Wl ?_ | refine Wm ?_ | refine Wn ?_) | refine CallG.mk _ (hugePairs_a R) ?_ | refine CallG.mk _ (huge_a a) ?_ | refine CallG.mk _ (huge_a b) ?_ | refine CallG.mk _ (rulesMayR_a R) ?_ | refine CallG.mk _ (termMay_a a) ?_ | refine CallG.mk _ (twoMay_a a b) ?_ | refine CallG.mk _ (za) ?_ | refine CallG.mk _ (zb) ?_ | ((with_reducible first | refine Wo (fun K hK => ?_) | refine Wp ?_ | refine Wq ?_ | refine Wr ?_); (try simp only [go_sem, List.forall_mem_nil, ↓guard_ite, ↓pick_ite, seval, encT_eq, inR_i64, g1, g2, g3, m2, m4, h0, h1, h2, hab', q1, q2, q3, decide_eq_true_eq, decide_eq_false_iff_not, Int.ofNat_lt]); (repeat with_reducible refine And.intro (by first | omega | (with_reducible first | exact lens_encT | exact lens_encL | exact lens_encB | exact lens_encP) | (simp; done) | (simp only [List.length_take, List.length_map, List.length_append, maxLen_eq]; omega)) ?_); (try (with_reducible refine hK _ ?_; clear hK K)); (try with_reducible refine ite_conj ?_)))
        simp only [go_sem, List.forall_mem_nil, ↓guard_ite, ↓pick_ite, seval, FinQ, AS.result, resAll, resOne, tupV]
  by_cases q1 : (40 : Int) < capTo a.size 40
  · exact early (.inl q1)
  by_cases q2 : (40 : Int) < capTo b.size 40
  · exact early (.inr (.inl ⟨q1, q2⟩))
  by_cases q3 : (12 : Int) < R.length
  · exact early (.inr (.inr ⟨q1, q2, q3⟩))
  clear early
  have bad10 : fuelMay m = 10 → innerOf R a m = (Tm.nil, 0, 10) ∧ outerOf R a m = (Tm.nil, 0, 10) ∧ meetOf R a b m = (false, 10) := fun hf => by
    unfold innerOf outerOf meetOf
    rw [ha, if_pos h1, if_pos h1, if_pos h1, if_pos h2, hf]
    exact ⟨rfl, rfl, rfl⟩
  by_cases m1 : m < 0
  · have m2 : ¬ 30 < m := by omega
    obtain ⟨hP, hQ, hM⟩ := bad10 (by rw [fm, if_pos (by omega)])
    rw [hP] at c1 t1
    rw [hQ] at c2 t2
    rw [hM] at c3
    dsimp only at c1 c2 c3 t1 t2
    refine ac_L_RewriteEnds (Nat.le_of_ble_eq_true rfl) fun C hC => ?_
    unfold ir_L_RewriteEnds
    repeat' (first | (with_reducible first | refine Wa ?_ | refine Wb ?_ | refine Wc ?_ | refine Wd ?_ | refine We ?_ | refine Wf ?_ | refine Wg ?_ | refine Wh ?_ | refine Wi ?_ | refine Wj ?_ | refine Wk (by decide) ?_ | refine Wl ?_ | refine Wm ?_ | refine Wn ?_) | refine CallG.mk _ (hugePairs_a R) ?_ | refine CallG.mk _ (huge_a a) ?_ | refine CallG.mk _ (huge_a b) ?_ | refine CallG.mk _ (rulesMayR_a R) ?_ | refine CallG.mk _ (termMay_a a) ?_ | refine CallG.mk _ (twoMay_a a b) ?_ | refine CallG.mk _ (za) ?_ | refine CallG.mk _ (zb) ?_ | refine CallG.mk _ (c1) ?_ | refine CallG.mk _ (c2) ?_ | refine CallG.mk _ (c3) ?_ | refine CallG.mk _ (t1) ?_ | refine CallG.mk _ (t2) ?_ | ((with_reducible first | refine Wo (fun K hK => ?_) | refine Wp ?_ | refine Wq ?_ | refine Wr ?_); (try simp only [go_sem, List.forall_mem_nil, ↓guard_ite, ↓pick_ite, seval, encT_eq, inR_i64, g1, g2, g3, m1, m2, h0, h1, h2, hab', q1, q2, q3, decide_eq_true_eq, decide_eq_false_iff_not, Int.ofNat_lt]); (repeat with_reducible refine And.intro (by first | omega | (with_reducible first | exact lens_encT | exact lens_encL | exact lens_encB | exact lens_encP) | (simp; done) | (simp only [List.length_take, List.length_map, List.length_append, maxLen_eq]; omega)) ?_); (try (with_reducible refine hK _ ?_; clear hK K)); (try with_reducible refine ite_conj ?_)))
    simp only [go_sem, List.forall_mem_nil, ↓guard_ite, ↓pick_ite, seval, FinQ, AS.result, resAll, resOne, tupV]
  by_cases m3 : 400 < m
  · have m2 : 30 < m := by omega
    have m4 : ¬ m ≤ 400 := by omega
    obtain ⟨hP, hQ, hM⟩ := bad10 (by rw [fm, if_pos (by omega)])
    rw [hP] at c1 t1
    rw [hQ] at c2 t2
    rw [hM] at c3
    dsimp only at c1 c2 c3 t1 t2
    refine ac_L_RewriteEnds (Nat.le_of_ble_eq_true rfl) fun C hC => ?_
    unfold ir_L_RewriteEnds
    repeat' (first | (with_reducible first | refine Wa ?_ | refine Wb ?_ | refine Wc ?_ | refine Wd ?_ | refine We ?_ | refine Wf ?_ | refine Wg ?_ | refine Wh ?_ | refine Wi ?_ | refine Wj ?_ | refine Wk (by decide) ?_ | refine Wl ?_ | refine Wm ?_ | refine Wn ?_) | refine CallG.mk _ (hugePairs_a R) ?_ | refine CallG.mk _ (huge_a a) ?_ | refine CallG.mk _ (huge_a b) ?_ | refine CallG.mk _ (rulesMayR_a R) ?_ | refine CallG.mk _ (termMay_a a) ?_ | refine CallG.mk _ (twoMay_a a b) ?_ | refine CallG.mk _ (za) ?_ | refine CallG.mk _ (zb) ?_ | refine CallG.mk _ (c1) ?_ | refine CallG.mk _ (c2) ?_ | refine CallG.mk _ (c3) ?_ | refine CallG.mk _ (t1) ?_ | refine CallG.mk _ (t2) ?_ | ((with_reducible first | refine Wo (fun K hK => ?_) | refine Wp ?_ | refine Wq ?_ | refine Wr ?_); (try simp only [go_sem, List.forall_mem_nil, ↓guard_ite, ↓pick_ite, seval, encT_eq, inR_i64, g1, g2, g3, m1, m2, m3, m4, h0, h1, h2, hab', q1, q2, q3, decide_eq_true_eq, decide_eq_false_iff_not, Int.ofNat_lt]); (repeat with_reducible refine And.intro (by first | omega | (with_reducible first | exact lens_encT | exact lens_encL | exact lens_encB | exact lens_encP) | (simp; done) | (simp only [List.length_take, List.length_map, List.length_append, maxLen_eq]; omega)) ?_); (try (with_reducible refine hK _ ?_; clear hK K)); (try with_reducible refine ite_conj ?_)))
    simp only [go_sem, List.forall_mem_nil, ↓guard_ite, ↓pick_ite, seval, FinQ, AS.result, resAll, resOne, tupV]
  have m2 : ¬ 30 < m := by omega
  obtain ⟨n, rfl⟩ : ∃ n : Nat, m = n := ⟨m.toNat, by omega⟩
  have hf : fuelMay n = 0 := by rw [fm, if_neg (by omega)]
  have hP : innerOf R a n = endR (Tm.inn R) n 0 a := by unfold innerOf; rw [ha, if_pos h1, if_pos hf, Int.toNat_natCast]
  have hQ : outerOf R a n = endR (Tm.out R) n 0 a := by unfold outerOf; rw [ha, if_pos h1, if_pos hf, Int.toNat_natCast]
  have l1 := endOf_a hR true a hca (by omega) n (by omega)
  have l2 := endOf_a hR false a hca (by omega) n (by omega)
  rw [show stepB true R = Tm.inn R from rfl] at l1
  rw [show stepB false R = Tm.out R from rfl] at l2
  unfold endV at l1 l2
  rw [hP] at c1 t1
  rw [hQ] at c2 t2
  have hM : meetOf R a b n = metOf R n a b := by unfold meetOf; rw [ha, if_pos h1, if_pos h2, if_pos hf, Int.toNat_natCast]
  rw [hM] at c3
  have l3 := meetR_a hR a b hca hcb (by omega) (by omega) n (by omega)
  generalize metOf R n a b = M at *
  generalize endR (Tm.inn R) n 0 a = P at *
  generalize endR (Tm.out R) n 0 a = Q at *
  refine ac_L_RewriteEnds (Nat.le_of_ble_eq_true rfl) fun C hC => ?_
  unfold ir_L_RewriteEnds
  repeat' (first | (with_reducible first | refine Wa ?_ | refine Wb ?_ | refine Wc ?_ | refine Wd ?_ | refine We ?_ | refine Wf ?_ | refine Wg ?_ | refine Wh ?_ | refine Wi ?_ | refine Wj ?_ | refine Wk (by decide) ?_ | refine Wl ?_ | refine Wm ?_ | refine Wn ?_) | refine CallG.mk _ (hugePairs_a R) ?_ | refine CallG.mk _ (huge_a a) ?_ | refine CallG.mk _ (huge_a b) ?_ | refine CallG.mk _ (rulesMayR_a R) ?_ | refine CallG.mk _ (termMay_a a) ?_ | refine CallG.mk _ (twoMay_a a b) ?_ | refine CallG.mk _ (za) ?_ | refine CallG.mk _ (zb) ?_ | refine CallG.mk _ (l1) ?_ | refine CallG.mk _ (l2) ?_ | refine CallG.mk _ (l3) ?_ | refine CallG.mk _ (c1) ?_ | refine CallG.mk _ (c2) ?_ | refine CallG.mk _ (c3) ?_ | refine CallG.mk _ (t1) ?_ | refine CallG.mk _ (t2) ?_ | ((with_reducible first | refine Wo (fun K hK => ?_) | refine Wp ?_ | refine Wq ?_ | refine Wr ?_); (try simp only [go_sem, List.forall_mem_nil, ↓guard_ite, ↓pick_ite, seval, encT_eq, inR_i64, g1, g2, g3, m1, m2, m3, h0, h1, h2, hab', q1, q2, q3, decide_eq_true_eq, decide_eq_false_iff_not, Int.ofNat_lt]); (repeat with_reducible refine And.intro (by first | omega | (with_reducible first | exact lens_encT | exact lens_encL | exact lens_encB | exact lens_encP) | (simp; done) | (simp only [List.length_take, List.length_map, List.length_append, maxLen_eq]; omega)) ?_); (try (with_reducible refine hK _ ?_; clear hK K)); (try with_reducible refine ite_conj ?_)))
  simp only [go_sem, List.forall_mem_nil, ↓guard_ite, ↓pick_ite, seval, FinQ, AS.result, resAll, resOne, tupV]
end Go.Proofs.Ytkekmeiiikkabaa

namespace Go.Proofs.Ytkekmeiiikkabaa
open Go Go.RowKit Go.ChangeShapes Go.WideShapes Go.ChangeAt
set_option maxHeartbeats 400000
set_option linter.unusedVariables false

/-! ### the row's post -/
section
variable {H : Type} {enc : TypeId × Value → H} {P : Program}
theorem trodAll_stays (hl : laidOutB P = true) : ∀ {ts : List TypeId} {vs : List Value} {ds : List (DataW H)} {ps : List MemPlace} {W W' : World} {sp : Nat → Bool},
    (∀ t ∈ ts, P.readableRec t = true ∧ t < P.types.size) → DataW.TrodAll enc P W 0 (fun _ => true) true ts vs ds ps → (∀ p ∈ ps, W.sameAt W' p) → (∀ p ∈ ps, sp p.block = true) → DataW.TrodAll enc P W' 0 sp true ts vs ds ps
  | [], [], [], _, _, _, _, _, h, _, _ => h
  | _ :: _, _ :: _, _ :: _, _, _, _, _, hT, ⟨p, q, h1, h2, e⟩, hsame, hs => ⟨p, q, WideElems.Trod_stays hl (hT _ (List.mem_cons.2 (Or.inl rfl))).1 (hT _ (List.mem_cons.2 (Or.inl rfl))).2 h1 (fun x hx => hsame x (by rw [e]; exact List.mem_append_left _ hx)) (fun x hx => hs x (by rw [e]; exact List.mem_append_left _ hx)),
      trodAll_stays hl (fun t ht => hT t (List.mem_cons.2 (Or.inr ht))) h2 (fun x hx => hsame x (by rw [e]; exact List.mem_append_right _ hx)) (fun x hx => hs x (by rw [e]; exact List.mem_append_right _ hx)), e⟩
  | [], _ :: _, _, _, _, _, _, _, h, _, _ => h.elim
  | [], [], _ :: _, _, _, _, _, _, h, _, _ => h.elim
  | _ :: _, [], _, _, _, _, _, _, h, _, _ => h.elim
  | _ :: _, _ :: _, [], _, _, _, _, _, h, _, _ => h.elim

/-- A law that answers true, and below whose start nothing has turned. -/
theorem law_post {f : Func} {s : ChangeSpec} {apart fresh handsOn : Bool} {W W' : World} {args : Array Value} {ds : List (DataW H)} {before : List MemPlace} {tb : TypeId}
    (hW : DataW.Whole enc P f.params.toList s.vars apart W args.toList ds [] before) (hv : s.vars = []) (hr : f.resultTypes = #[tb]) (htb : P.underlying tb = some .bool)
    (hres : (s.fn H (ds ++ [])).results = [.lit (.bool true)]) (hargs : (s.fn H (ds ++ [])).args = ds) (hvs : (s.fn H (ds ++ [])).vars = [])
    (hl : laidOutB P = true) (hT : (f.params.toList.all fun t => P.readableRec t && decide (t < P.types.size)) = true) (hb : Below W.heap.size W W') :
    s.post enc P f apart fresh handsOn false W args (.bool true) W' := by
  have hlt : ∀ p ∈ before, p.block < W.heap.size := fun p hp => hW.lt p hp
  have hT' : ∀ t ∈ f.params.toList, P.readableRec t = true ∧ t < P.types.size := fun t ht => by
    have := List.all_eq_true.1 hT t ht
    simpa using this
  obtain ⟨p, q, hA, hV, rfl, hz, hn⟩ := hW
  rw [hv] at hV
  obtain ⟨_, rfl⟩ := trodVars_none hV
  have hargs' : ∀ sp : Nat → Bool, (∀ x ∈ p, sp x.block = true) → DataW.TrodAll enc P W' 0 sp true f.params.toList args.toList ds p := fun sp hsp =>
    trodAll_stays hl hT' hA (fun x hx => hb.same (hlt x (by simpa using hx))) hsp
  have hres' : ∀ (b : Nat) (sp : Nat → Bool) (hd : Bool), DataW.TrodAll enc P W' b sp hd f.resultTypes.toList ((Value.bool true).resultList f.resultTypes.size) (s.fn H (ds ++ [])).results [] := fun b sp hd => by
    rw [hres, hr]
    exact trodAll_cons_mk (shut_bool htb true) trodAll_mk0
  refine ⟨ds, [], p ++ [], [], p, [], ⟨p, [], hA, by rw [hv]; exact rfl, rfl, hz, hn⟩, hres' _ _ _, by rw [hargs]; exact hargs' _ (fun x hx => by simpa using hlt x (by simpa using hx)), by rw [hv, hvs]; exact rfl,
    World.keptBut_mono (fun x hx => ⟨hx, Or.inr (by simpa using hx)⟩) (hb.frame (· ∈ p ++ [])), fun h => by cases h⟩

/-! ### opening what comes in: the store is all of memory -/
variable {W : World} {sp : Nat → Bool} {hd : Bool} {base : Nat}
def sto (W : World) : Sto := look W
theorem fit_sto (W : World) : Fit (sto W) W := fun _ _ h => h

theorem spot_none {W : World} {a : Addr} {v : Value} (h : W.cell? a = some v) : a.spot = none := by
  cases hs : a.spot with
  | none => rfl
  | some n =>
    unfold World.cell? at h
    split at h
    · simp [hs] at h
    · cases h
theorem choose_list {α : Type} {p : Nat → α → Prop} {n : Nat} (h : ∀ i, i < n → ∃ b, p i b) : ∃ xs : List α, xs.length = n ∧ ∀ i (h : i < xs.length), p i xs[i] := by
  induction n with
  | zero => exact ⟨[], rfl, fun i h => absurd h (by simp)⟩
  | succ m ih =>
    obtain ⟨xs, h1, h2⟩ := ih (fun i hi => h i (by omega))
    obtain ⟨b, h3⟩ := h m (by omega)
    refine ⟨xs ++ [b], by simp [h1], fun i hi => ?_⟩
    by_cases him : i < xs.length
    · rw [List.getElem_append_left him]
      exact h2 i him
    · have : i = xs.length := by simp at hi; omega
      subst this
      rw [show (xs ++ [b])[xs.length]'hi = b by simp, h1]
      exact h3
/-- A struct of two fields. -/
theorem trod_two {t : TypeId} {f0 f1 : Field} {k0 k1 : Nat} {fuel : Nat} {cs : List Value} {x : DataW H × List MemPlace} (hs : P.underlying t = some (.struct #[f0, f1])) (o0 : f0.offset = 0) (o1 : f1.offset = k0)
    (h0 : P.cellsOf f0.type = k0) (h1 : P.cellsOf f1.type = k1) (hC : P.cellsOf t = k0 + k1) (h : DataW.trod enc P W base sp hd fuel t cs = some x) :
    ∃ (a b : List Value) (y0 y1 : DataW H × List MemPlace) (n : Nat), fuel = n + 1 ∧ cs = a ++ b ∧ DataW.trod enc P W base sp hd n f0.type a = some y0 ∧ DataW.trod enc P W base sp hd n f1.type b = some y1 := by
  obtain ⟨ys, n, hn, _, hlen, hyl, hf⟩ := DataW.trod_struct hs h
  match ys, hyl with
  | [y0, y1], _ =>
  have g0 := hf 0 f0 rfl
  have g1 := hf 1 f1 rfl
  rw [o0, h0, List.drop_zero] at g0
  rw [o1, h1, List.take_of_length_le (by rw [List.length_drop]; omega)] at g1
  exact ⟨_, _, y0, y1, n, hn, (List.take_append_drop k0 cs).symm, g0, g1⟩
/-- A slice, its elements opened by f. -/
theorem list_of_trod {α : Type} {e0 : α → List SV} {t e : TypeId} {k : Nat} {fuel : Nat} {cs : List Value} {x : DataW H × List MemPlace} (ht : P.underlying t = some (.slice e)) (hc : P.cellsOf e = k) (hlen : ∀ a, (e0 a).length = k) (hk : 0 < k)
    (f : ∀ (n : Nat) (cs : List Value) (y : DataW H × List MemPlace), n < fuel → DataW.trod enc P W base sp hd n e cs = some y → ∃ a : α, All2 (SRep (sto W)) cs (e0 a))
    (h : DataW.trod enc P W base sp hd fuel t cs = some x) (hs : hardRows = true → k < 2 := by decide) : ∃ xs : List α, All2 (SRep (sto W)) cs [.list (xs.map e0)] := by
  rcases DataW.trod_slice ht h with ⟨rfl, _⟩ | ⟨a, len, cap, elems, rest, n, hfu, rfl, _, hb, hl, hm, hlen', hel, _, _⟩
  · exact ⟨[], .cons srep_nil .nil⟩
  · have key : ∀ i, i < len → ∃ (b : α), ∃ (cs' : List Value), cs'.length = k ∧ (∀ j u, cs'[j]? = some u → W.cell? ((a.add (i * k)).add j) = some u) ∧ All2 (SRep (sto W)) cs' (e0 b) := fun i hi => by
      have h1 := hel i hi
      rw [List.getElem?_eq_getElem (by omega)] at h1
      obtain ⟨cs', h2, h3⟩ := Option.bind_eq_some_iff.1 h1
      obtain ⟨_, h4, h5⟩ := World.cells?_some h2
      obtain ⟨b, hb⟩ := f n cs' _ (by omega) h3
      rw [hc] at h4 h5
      refine ⟨b, cs', h4, fun j u hj => ?_, hb⟩
      rw [h5 j (by have := (List.getElem?_eq_some_iff.1 hj).1; omega)]
      exact hj
    obtain ⟨xs, hxl, hxs⟩ : ∃ xs : List α, xs.length = len ∧ ∀ i (h : i < xs.length), ∃ cs' : List Value, cs'.length = k ∧ (∀ j u, cs'[j]? = some u → W.cell? ((a.add (i * k)).add j) = some u) ∧ All2 (SRep (sto W)) cs' (e0 xs[i]) := choose_list key
    have cell : ∀ m y j z, (xs.map e0)[m]? = some y → y[j]? = some z → ∃ v, W.cell? ⟨a.block, a.off + m * k + j, none⟩ = some v ∧ SRep (sto W) v z := fun m y j z hy hz => by
      rw [List.getElem?_map, Option.map_eq_some_iff] at hy
      obtain ⟨b, hb', rfl⟩ := hy
      obtain ⟨hm', hbe⟩ := List.getElem?_eq_some_iff.1 hb'
      obtain ⟨cs', c1, c2, c3⟩ := hxs m hm'
      rw [hbe] at c3
      obtain ⟨v, v1, v2⟩ := c3.get hz
      refine ⟨v, ?_, v2⟩
      have := c2 j v v1
      have hsp := spot_none this
      rw [← this]
      congr 1
      have h7 : ((a.add (m * k)).add j).block = a.block ∧ ((a.add (m * k)).add j).off = a.off + m * k + j := by
        unfold Addr.add
        split <;> split <;> simp_all
      generalize (a.add (m * k)).add j = q at *
      cases q
      simp_all
    refine ⟨xs, .cons (.list (b := a.block) (o := a.off) (w := k) (fun m j => (W.cell? ⟨a.block, a.off + m * k + j, none⟩).getD undef) (by simp [hxl]) hl hm (by simp) (fun h0 => ?_) (fun y hy => ?_) (fun q1 q2 _ => absurd (hs q1) (by omega)) (fun m y j z hy hz => ?_) (fun m y j z hy hz => ?_)) .nil⟩
    · obtain ⟨cs', h1, h2, h3⟩ := hxs 0 (by omega)
      have h4 : W.cell? a = some (cs'[0]'(by omega)) := by
        have := h2 0 _ (List.getElem?_eq_getElem (by omega))
        simpa [Addr.add] using this
      have := spot_none h4
      cases a
      simp_all
    · obtain ⟨b, _, rfl⟩ := List.mem_map.1 hy
      exact hlen b
    · obtain ⟨v, v1, v2⟩ := cell m y j z hy hz
      show W.cell? _ = _
      rw [v1]; rfl
    · obtain ⟨v, v1, v2⟩ := cell m y j z hy hz
      rw [v1]; exact v2
theorem int_trod {t : TypeId} (ht : P.underlying t = some (.int .i64)) (fuel : Nat) (cs : List Value) (x : DataW H × List MemPlace) (h : DataW.trod enc P W base sp hd fuel t cs = some x) : ∃ n : Int, All2 (SRep (sto W)) cs (encI n) := by
  obtain ⟨n, rfl, _, hn⟩ := DataW.trod_int ht h
  exact ⟨n, .cons (.int (by rw [inR_i64]; simpa [Lit.wf, IntKind.min, IntKind.max, IntKind.signed, IntKind.bits] using hn)) .nil⟩
theorem str_trod {t : TypeId} (ht : P.underlying t = some .string) (fuel : Nat) (cs : List Value) (x : DataW H × List MemPlace) (h : DataW.trod enc P W base sp hd fuel t cs = some x) : ∃ s : ByteArray, All2 (SRep (sto W)) cs (encS s) := by
  obtain ⟨s, rfl, _, hs⟩ := DataW.trod_string ht h
  exact ⟨s, .cons (.str hs) .nil⟩

/-! ### arguments -/
theorem arg_int {t : TypeId} (ht : P.underlying t = some (.int .i64)) {r : Reach} {b0 : Nat} {v : Value} {d : DataW H} {p : List MemPlace} (hv : Value.okWide P W r b0 t v) (h : DataW.Trod enc P W base sp hd t v d p) : ∃ n : Int, VRep (sto W) noS noH v (aInt n) := by
  obtain ⟨n, rfl⟩ := okWide_int ht hv
  obtain ⟨fuel, hf⟩ := h
  obtain ⟨m, hm⟩ := int_trod ht fuel _ _ hf
  have : All2 (SRep (sto W)) [.int .i64 n] (encI m) := hm
  cases this with
  | cons h1 h2 => exact ⟨m, .one (.st h1)⟩
/-- An argument that is a slice. -/
theorem arg_list {α : Type} {e0 : α → List SV} {t e : TypeId} {k : Nat} (ht : P.underlying t = some (.slice e)) (hc : P.cellsOf e = k) (hlen : ∀ a, (e0 a).length = k) (hk : 0 < k) {r : Reach} {b0 : Nat} {v : Value} {d : DataW H} {p : List MemPlace} (hv : Value.okWide P W r b0 t v)
    (f : ∀ (n : Nat) (cs : List Value) (y : DataW H × List MemPlace), DataW.trod enc P W base sp hd n e cs = some y → ∃ a : α, All2 (SRep (sto W)) cs (e0 a)) (h : DataW.Trod enc P W base sp hd t v d p) (hs : hardRows = true → k < 2 := by decide) : ∃ xs : List α, VRep (sto W) noS noH v (.one (.st (.list (xs.map e0)))) := by
  obtain ⟨a, len, cap, rfl⟩ := okWide_slice ht hv
  obtain ⟨fuel, hf⟩ := h
  obtain ⟨xs, hxs⟩ := list_of_trod ht hc hlen hk (fun n cs y _ hy => f n cs y hy) hf hs
  have : All2 (SRep (sto W)) [.slice a len cap] [.list (xs.map e0)] := hxs
  cases this with
  | cons h1 h2 => exact ⟨xs, .one (.st h1)⟩
/-- An argument that is a struct. -/
theorem arg_struct {α : Type} {e0 : α → List SV} {t : TypeId} {fs : Array Field} (ht : P.underlying t = some (.struct fs)) {r : Reach} {b0 : Nat} {v : Value} {d : DataW H} {p : List MemPlace} (hv : Value.okWide P W r b0 t v)
    (f : ∀ (n : Nat) (cs : List Value) (y : DataW H × List MemPlace), DataW.trod enc P W base sp hd n t cs = some y → ∃ a : α, All2 (SRep (sto W)) cs (e0 a)) (h : DataW.Trod enc P W base sp hd t v d p) : ∃ a : α, VRep (sto W) noS noH v (.agg ((e0 a).map .st)) := by
  obtain ⟨cs, rfl, hsz⟩ := okWide_struct ht hv
  obtain ⟨fuel, hf⟩ := h
  obtain ⟨a, ha⟩ := f fuel _ _ hf
  exact ⟨a, .agg ((All2.mono (fun _ _ h => .st h) ha).map_right)⟩
end
theorem globIn_nil {σ : Sto} (h : globs = [] := by rfl) : GlobIn σ := fun x hx => by simp [h] at hx
theorem acalls_true {P : Program} {f : FuncId} {xs : List AV} {b : Bool} (h : ACalls P f xs (aBool b)) {σ : Sto} {w : World} {vs : List Value} (hg : GlobIn σ) (hf : Fit σ w) (hv : All2 (VRep σ noS noH) vs xs) :
    Calls P f vs.toArray w fun e w' => e = .returned (.bool b) ∧ Below w.heap.size w w' := (h σ w vs hg hf hv).mono fun e w' ⟨v, σ', he, hv, _, _, hb⟩ => by
  rw [vrep_bool hv] at he
  exact ⟨he, hb⟩
end Go.Proofs.Ytkekmeiiikkabaa

namespace Go.Proofs.Ytkekmeiiikkabaa
open Go Go.RowKit Go.ChangeShapes Go.WideShapes Go.ChangeAt
set_option maxHeartbeats 400000
set_option linter.unusedVariables false

section
variable {H : Type} {enc : TypeId × Value → H} {W : World} {sp : Nat → Bool} {hd : Bool} {base : Nat}
set_option maxRecDepth 100000 in
theorem tm_trod : ∀ (fuel : Nat) (cs : List Value) (x : DataW H × List MemPlace), DataW.trod enc Try.prog W base sp hd fuel 25 cs = some x → ∃ t : Tm, All2 (SRep (sto W)) cs (encT t) := by
  intro fuel
  induction fuel using Nat.strongRecOn with
  | _ fuel ih =>
  intro cs x h
  obtain ⟨a, b, y0, y1, n, hn, rfl, h0, h1⟩ := trod_two Try.underlying25 rfl rfl (show Try.prog.cellsOf 9 = 1 by kernel_rfl) (show Try.prog.cellsOf 23 = 1 by kernel_rfl) (show Try.prog.cellsOf 25 = 2 by kernel_rfl) h
  obtain ⟨s, hs⟩ := str_trod Try.underlying9 _ _ _ h0
  obtain ⟨xs, hxs⟩ := list_of_trod (e0 := encT) Try.underlying23 (show Try.prog.cellsOf 25 = 2 by kernel_rfl) (fun a => by rw [encT_eq]; rfl) (by decide) (fun m cs y hm hy => ih m (by omega) cs y hy) h1
  exact ⟨.mk s xs, by rw [encT_eq]; exact hs.append hxs⟩
set_option maxRecDepth 100000 in
/-- An argument that is a term. -/
theorem arg_tm {r : Reach} {b0 : Nat} {v : Value} {d : DataW H} {p : List MemPlace} (hv : Value.okWide Try.prog W r b0 25 v) (h : DataW.Trod enc Try.prog W base sp hd 25 v d p) : ∃ t : Tm, VRep (sto W) noS noH v (aTm t) := by
  obtain ⟨t, ht⟩ := arg_struct Try.underlying25 hv tm_trod h
  exact ⟨t, by rw [encT_eq] at ht; exact ht⟩
end
end Go.Proofs.Ytkekmeiiikkabaa

namespace Go.Proofs.Ytkekmeiiikkabaa
open Go Go.RowKit Go.ChangeShapes Go.WideShapes Go.ChangeAt
set_option linter.unusedVariables false

section
variable {H : Type} {enc : TypeId × Value → H} {W : World} {sp : Nat → Bool} {hd : Bool} {base : Nat}
set_option maxRecDepth 100000 in
theorem pr_trod (fuel : Nat) (cs : List Value) (x : DataW H × List MemPlace) (h : DataW.trod enc Try.prog W base sp hd fuel 45 cs = some x) : ∃ p : Pr, All2 (SRep (sto W)) cs (encP p) := by
  obtain ⟨a, b, y0, y1, n, hn, rfl, h0, h1⟩ := trod_two Try.underlying45 rfl rfl (show Try.prog.cellsOf 25 = 2 by kernel_rfl) (show Try.prog.cellsOf 25 = 2 by kernel_rfl) (show Try.prog.cellsOf 45 = 4 by kernel_rfl) h
  obtain ⟨s, hs⟩ := tm_trod _ _ _ h0
  obtain ⟨t, ht⟩ := tm_trod _ _ _ h1
  rw [encT_eq] at hs ht
  exact ⟨(s, t), hs.append ht⟩
set_option maxRecDepth 100000 in
theorem arg_prs {r : Reach} {b0 : Nat} {v : Value} {d : DataW H} {p : List MemPlace} (hv : Value.okWide Try.prog W r b0 22 v) (h : DataW.Trod enc Try.prog W base sp hd 22 v d p) : ∃ l : List Pr, VRep (sto W) noS noH v (aPrs l) :=
  arg_list (k := 4) Try.underlying22 (by kernel_rfl) (fun _ => rfl) (by decide) hv pr_trod h
end

end Go.Proofs.Ytkekmeiiikkabaa

namespace Go.Proofs.Ytkekmeiiikkabaa.rewriteEnds
open Go Go.RowKit Go.ChangeShapes Go.WideShapes Go.ChangeAt
set_option linter.unusedVariables false

theorem own : ownKnob Try.prog.godebug = none := by kernel_rfl
theorem laid : laidOutB Try.prog = true := by kernel_rfl

set_option maxRecDepth 100000 in
/-- What the walk gives. -/
theorem contract (H : Type) (enc : TypeId × Value → H) (W : World) (base : Nat) (args : Array Value) (ds gs : List (DataW H)) (before : List MemPlace)
    (hval : ∀ (j : Nat) t v, Try.f4.params[j]? = some t → args[j]? = some v → Value.okWide Try.prog W .any base t v)
    (hW : DataW.Whole enc Try.prog Try.f4.params.toList Rows.rewriteEndsSpec.vars false W args.toList ds gs before) :
    Calls Try.prog 4 args W fun e W' => ∃ v, e = .returned v ∧ Rows.rewriteEndsSpec.post enc Try.prog Try.f4 false true false false W args v W' := by
  obtain ⟨p, q, hA0, hV, rfl, hfz, hnd⟩ := id hW
  obtain ⟨rfl, rfl⟩ := trodVars_none hV
  have hA : DataW.TrodAll enc Try.prog W 0 (fun _ => true) true Try.f4.params.toList args.toList ds p := hA0
  rw [Try.params4] at hA hval
  obtain ⟨v0, v1, v2, v3, d0, d1, d2, d3, p0, p1, p2, p3, hargs, rfl, rfl, h0, h1, h2, h3⟩ := trodAll_four hA
  obtain rfl : args = #[v0, v1, v2, v3] := by cases args; simp_all
  obtain ⟨R, r0⟩ := arg_prs (hval 0 22 v0 rfl rfl) h0
  obtain ⟨a, r1⟩ := arg_tm (hval 1 25 v1 rfl rfl) h1
  obtain ⟨b, r2⟩ := arg_tm (hval 2 25 v2 rfl rfl) h2
  obtain ⟨m, r3⟩ := arg_int Try.underlying3 (hval 3 3 v3 rfl rfl) h3
  refine (acalls_true (rewriteEnds_a R a b m) globIn_nil (fit_sto W) (vs := [v0, v1, v2, v3]) (.cons r0 (.cons r1 (.cons r2 (.cons r3 .nil))))).mono fun e W' ⟨he, hb⟩ => ⟨_, he, ?_⟩
  exact law_post hW rfl rfl Try.underlying4 rfl rfl rfl laid (by kernel_rfl) hb

set_option maxRecDepth 100000 in
theorem lifted (os : Os) (started : os.Started) (H : Type) (enc : TypeId × Value → H) :
    ReturnsInHanded {} Try.checked os 4 .any (Rows.rewriteEndsSpec.pre6 enc Try.prog Try.f4 Rows.rewriteEndsRow.domain false) (Rows.rewriteEndsSpec.post enc Try.prog Try.f4 false true false false) := by
  refine returnsInHanded_of_change (C := Try.checked) own started (by kernel_rfl) Try.func4
    (ChangeSpec.witness6 (enc := enc) (C := Try.checked) false ⟨#[], #[.slice none 0 0, .agg #[.string ⟨#[]⟩, .slice none 0 0], .agg #[.string ⟨#[]⟩, .slice none 0 0], .int .i64 0], []⟩ 8 (by kernel_rfl) (by kernel_rfl) (by kernel_rfl) (by kernel_rfl)) ?_
  intro W base args ds gs before hval hW _ _
  exact contract H enc W base args ds gs before hval hW

theorem proved : Rows.RewriteEndsSaid :=
  OpenClaim.holds_of_wide 4 Try.f4 rfl rfl rfl rfl rfl rfl rfl ⟨rfl, rfl, rfl, rfl, rfl⟩ rfl rfl rfl rfl rfl (by kernel_rfl) Try.func4 (by kernel_rfl)
    (of_decide_eq_true (by kernel_rfl)) (by unfold Func.isWrapper; first | (rw [if_pos (by decide +kernel)]; kernel_rfl) | (rw [if_neg (by decide +kernel)]; exact ⟨rfl, rfl⟩))
    (fun os started H enc _ => lifted os started H enc)
end Go.Proofs.Ytkekmeiiikkabaa.rewriteEnds
