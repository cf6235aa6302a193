/-
  Part 10 of the texts: BInf1; BInf2; BInf3; BInf4. Conditions: none.
-/
import Derived.Test.YtehnjhkndbcmgaaDoorTSelf9
namespace Go.Proofs.YtehnjhkndbcmgaaDoor
open Go Go.RowKit
set_option linter.unusedVariables false
set_option linter.unusedSimpArgs false
set_option maxHeartbeats 1000000
theorem ywithin_a (t : Ty) (m : Int) (h0 : 0 ≤ m) (h1 : m ≤ 9223372036854775807) : ACalls Tryd.prog 32 [aTy t, aInt m] (aInt (lessBy t.size m)) := by
  induction h : SizeOf.sizeOf t using Nat.strongRecOn generalizing t m with
  | _ N ih =>
  subst h
  have hs := Ty.size_eq t
  refine ac_infer_within (Nat.le_of_ble_eq_true rfl) fun C hC => ?_
  unfold ir_infer_within
  refine IWP.learn 0 (by omega) fun hkn => ?_
  have hkn := (known_ty hkn).2
  repeat' (first | (with_reducible first | refine W ?_ | refine Wk (by decide) ?_) | ((with_reducible first | refine Wo (fun K hK => ?_) | refine Wq ?_ | refine Wr ?_); (try simp only [go_sem, fN, ↓gI, ↓pI, seval, eT, iR]); (repeat with_reducible refine And.intro (by first | omega | (with_reducible exact lens) | (simp [maxLen_eq] <;> omega)) ?_); (try (with_reducible refine hK _ ?_; clear hK K))))
  refine IWP.loopD [6] (fun n s => ∃ k, k ≤ t.subs.length ∧ n = t.subs.length - k ∧ s.env 1 = aInt (lessBy (1 + Ty.sizes (t.subs.take k)) m) ∧ s.env 10 = .one (.st (.list (t.subs.map encY))) ∧ s.env 11 = aInt t.subs.length ∧ s.env 12 = aInt k ∧ s.S 6 = none) t.subs.length ⟨0, Nat.zero_le _, rfl, by
    simp only [go_sem, fN, ↓gI, ↓pI, seval, eT, iR]
    rw [lessBy]
    have z0 : Ty.sizes [] = 0 := rfl
    congr 3
    split <;> omega, rfl, rfl, rfl, rfl⟩ ?_
  rintro n ⟨env, S⟩ ⟨k, hk, rfl, e1, e10, e11, e12, s6⟩
  simp only at e1 e10 e11 e12 s6
  repeat' (first | (with_reducible first | refine W ?_ | refine Wk (by decide) ?_) | ((with_reducible first | refine Wo (fun K hK => ?_) | refine Wq ?_ | refine Wr ?_); (try simp only [go_sem, fN, ↓gI, ↓pI, seval, eT, iR, e1, e10, e11, e12, s6]); (repeat with_reducible refine And.intro (by first | omega | (with_reducible exact lens) | (simp [maxLen_eq] <;> omega)) ?_); (try (with_reducible refine hK _ ?_; clear hK K))))
  with_reducible refine Wp ?_
  simp only [go_sem, fN, ↓gI, ↓pI, seval, true_implies, false_implies, implies_true, dT, dF, nL, e1, e10, e11, e12, s6]
  (try with_reducible refine iC ?_)
  refine ⟨fun hlt => ?_, fun hge => ?_⟩
  · obtain ⟨a, ha⟩ := get_lt (show k < t.subs.length by omega)
    have z1 := Ty.sizes_take ha
    have z2 := Ty.sizes_take_le t.subs (k + 1)
    have z3 := Ty.length_le t.subs
    have z4 := lessBy_le (1 + Ty.sizes (t.subs.take k)) m h0
    repeat' (first | (with_reducible first | refine W ?_ | refine Wk (by decide) ?_) | ((with_reducible first | refine Wo (fun K hK => ?_) | refine Wq ?_ | refine Wr ?_); (try simp only [go_sem, fN, ↓gI, ↓pI, seval, eT, iR, e1, e10, e11, e12, s6, ha]); (repeat with_reducible refine And.intro (by first | omega | (with_reducible exact lens) | (simp [maxLen_eq] <;> omega)) ?_); (try (with_reducible refine hK _ ?_; clear hK K))))
    with_reducible refine Wp ?_
    simp only [go_sem, fN, ↓gI, ↓pI, seval, true_implies, false_implies, implies_true, dT, dF, nL, e1]
    (try with_reducible refine iC ?_)
    refine ⟨fun hb => ?_, fun hb => ?_⟩
    · repeat' (first | (with_reducible first | refine W ?_ | refine Wk (by decide) ?_) | ((with_reducible first | refine Wo (fun K hK => ?_) | refine Wq ?_ | refine Wr ?_); (try simp only [go_sem, fN, ↓gI, ↓pI, seval, eT, iR, e1]); (repeat with_reducible refine And.intro (by first | omega | (with_reducible exact lens) | (simp [maxLen_eq] <;> omega)) ?_); (try (with_reducible refine hK _ ?_; clear hK K))))
      simp only [go_sem, fN, ↓gI, ↓pI, seval, FinQ, AS.result, resAll, resOne, tupV, e1]
      rw [lessBy_neg hb (show _ ≤ t.size by rw [hs]; omega)]
    · repeat' (first | (with_reducible first | refine W ?_ | refine Wk (by decide) ?_) | refine Cg _ (ih _ (Ty.lt_of_sub (mem_of_get ha)) a _ (by omega) (by omega) rfl) ?_ | ((with_reducible first | refine Wo (fun K hK => ?_) | refine Wq ?_ | refine Wr ?_); (try simp only [go_sem, fN, ↓gI, ↓pI, seval, eT, iR, e1, e10, e11, e12, s6, ha]); (repeat with_reducible refine And.intro (by first | omega | (with_reducible exact lens) | (simp [maxLen_eq] <;> omega)) ?_); (try (with_reducible refine hK _ ?_; clear hK K))))
      refine then_normal ⟨t.subs.length - (k + 1), by omega, k + 1, by omega, rfl, ?_⟩
      simp only [go_sem, fN, ↓gI, ↓pI, seval, AS.drop, dropS, AC.clears, AC.clear, AC.highs, AC.high, Bool.not_false, Bool.true_and, Bool.and_self, AV.purge, AV.purges, AC.purge, ABlk.purge, List.contains_cons, List.contains_nil, Nat.reduceBEq, Bool.or_self, Bool.or_false, Bool.false_or, Bool.or_true, eT, iR, e1, e10, e11, e12, s6]
      exact ⟨by rw [lessBy_step (by omega), z1]; congr 4; omega, by congr 3⟩
  · repeat' (first | (with_reducible first | refine W ?_ | refine Wk (by decide) ?_) | ((with_reducible first | refine Wo (fun K hK => ?_) | refine Wq ?_ | refine Wr ?_); (try simp only [go_sem, fN, ↓gI, ↓pI, seval, eT, iR, e1]); (repeat with_reducible refine And.intro (by first | omega | (with_reducible exact lens) | (simp [maxLen_eq] <;> omega)) ?_); (try (with_reducible refine hK _ ?_; clear hK K))))
    simp only [go_sem, fN, ↓gI, ↓pI, seval, FinQ, AS.result, resAll, resOne, tupV, e1]
    rw [List.take_of_length_le (by omega), hs]
theorem form_cases (t : Ty) : (¬ (t.subs.length = 0 ∨ (t.subs.length = 2 ∧ t.base = 0)) ∧ ((¬ (t.subs.length : Int) = 0 ∧ ¬ (t.subs.length : Int) = 2) ∨ ((t.subs.length : Int) = 2 ∧ ¬ t.base = 0))) ∨ ((t.subs.length = 0 ∨ (t.subs.length = 2 ∧ t.base = 0)) ∧ ((t.subs.length : Int) = 0 ∨ ((t.subs.length : Int) = 2 ∧ t.base = 0))) := by
  by_cases h0 : t.subs.length = 0 <;> by_cases h2 : t.subs.length = 2 <;> by_cases hb : t.base = 0 <;> omega
set_option maxHeartbeats 2000000 in
theorem ycheck_a (t : Ty) (hz : t.size ≤ 1000000000) : ACalls Tryd.prog 33 [aTy t] (aInt t.chk) := by
  induction h : SizeOf.sizeOf t using Nat.strongRecOn generalizing t with
  | _ N ih =>
  subst h
  have hs := Ty.size_eq t
  have hlen := Ty.length_le t.subs
  refine ac_infer_check (Nat.le_of_ble_eq_true rfl) fun C hC => ?_
  unfold ir_infer_check
  rw [Ty.chk_eq]
  rcases form_cases t with ⟨hf, h1⟩ | ⟨hf, h1⟩
  · rw [if_neg hf]
    rcases h1 with ⟨h0, h2⟩ | ⟨h2, hb⟩
    · repeat' (first | (with_reducible first | refine W ?_ | refine Wk (by decide) ?_) | ((with_reducible first | refine Wo (fun K hK => ?_) | refine Wp ?_ | refine Wq ?_ | refine Wr ?_); (try simp only [go_sem, fN, ↓gI, ↓pI, seval, eT, iR, h0, h2, dT, dF, nL]); (repeat with_reducible refine And.intro (by first | omega | (with_reducible exact lens) | (simp [maxLen_eq] <;> omega)) ?_); (try (with_reducible refine hK _ ?_; clear hK K)); (try with_reducible refine iC ?_)))
      simp only [go_sem, fN, ↓gI, ↓pI, seval, FinQ, AS.result, resAll, resOne, tupV]
    · repeat' (first | (with_reducible first | refine W ?_ | refine Wk (by decide) ?_) | ((with_reducible first | refine Wo (fun K hK => ?_) | refine Wp ?_ | refine Wq ?_ | refine Wr ?_); (try simp only [go_sem, fN, ↓gI, ↓pI, seval, eT, iR, h2, hb, dT, dF, nL]); (repeat with_reducible refine And.intro (by first | omega | (with_reducible exact lens) | (simp [maxLen_eq] <;> omega)) ?_); (try (with_reducible refine hK _ ?_; clear hK K)); (try with_reducible refine iC ?_)))
      simp only [go_sem, fN, ↓gI, ↓pI, seval, FinQ, AS.result, resAll, resOne, tupV]
  rw [if_pos hf]
  by_cases hr : 0 ≤ t.base ∧ t.base ≤ 999
  case neg =>
    rw [if_neg hr]
    by_cases hn : t.base < 0
    · rcases h1 with h0 | ⟨h2, hb⟩
      · repeat' (first | (with_reducible first | refine W ?_ | refine Wk (by decide) ?_) | ((with_reducible first | refine Wo (fun K hK => ?_) | refine Wp ?_ | refine Wq ?_ | refine Wr ?_); (try simp only [go_sem, fN, ↓gI, ↓pI, seval, eT, iR, h0, hn, dT, dF, nL]); (repeat with_reducible refine And.intro (by first | omega | (with_reducible exact lens) | (simp [maxLen_eq] <;> omega)) ?_); (try (with_reducible refine hK _ ?_; clear hK K)); (try with_reducible refine iC ?_)))
        simp only [go_sem, fN, ↓gI, ↓pI, seval, FinQ, AS.result, resAll, resOne, tupV]
      · omega
    · have h9 : 999 < t.base := by omega
      rcases h1 with h0 | ⟨h2, hb⟩
      · repeat' (first | (with_reducible first | refine W ?_ | refine Wk (by decide) ?_) | ((with_reducible first | refine Wo (fun K hK => ?_) | refine Wp ?_ | refine Wq ?_ | refine Wr ?_); (try simp only [go_sem, fN, ↓gI, ↓pI, seval, eT, iR, h0, hn, h9, dT, dF, nL]); (repeat with_reducible refine And.intro (by first | omega | (with_reducible exact lens) | (simp [maxLen_eq] <;> omega)) ?_); (try (with_reducible refine hK _ ?_; clear hK K)); (try with_reducible refine iC ?_)))
        simp only [go_sem, fN, ↓gI, ↓pI, seval, FinQ, AS.result, resAll, resOne, tupV]
      · omega
  rw [if_pos hr]
  have hn : ¬ t.base < 0 := by omega
  have h9 : ¬ 999 < t.base := by omega
  rcases h1 with h0 | ⟨h2, hb⟩
  · repeat' (first | (with_reducible first | refine W ?_ | refine Wk (by decide) ?_) | ((with_reducible first | refine Wo (fun K hK => ?_) | refine Wp ?_ | refine Wq ?_ | refine Wr ?_); (try simp only [go_sem, fN, ↓gI, ↓pI, seval, eT, iR, h0, hn, h9, dT, dF, nL]); (repeat with_reducible refine And.intro (by first | omega | (with_reducible exact lens) | (simp [maxLen_eq] <;> omega)) ?_); (try (with_reducible refine hK _ ?_; clear hK K)); (try with_reducible refine iC ?_)))
    refine IWP.loopD [4] (fun n s => ∃ k, k ≤ t.subs.length ∧ n = t.subs.length - k ∧ Ty.chks (t.subs.take k) = 0 ∧ s.env 38 = .one (.st (.list (t.subs.map encY))) ∧ s.env 39 = aInt t.subs.length ∧ s.env 40 = aInt k ∧ s.S 4 = none) t.subs.length ⟨0, Nat.zero_le _, rfl, rfl, rfl, by first | (simp only [go_sem, fN, ↓gI, ↓pI, seval, eT, iR, h0]; done) | rfl, rfl, rfl⟩ ?_
    rintro n ⟨env, S⟩ ⟨k, hk', rfl, hc, e38, e39, e40, s4⟩
    simp only at e38 e39 e40 s4
    by_cases hlt : (k : Int) < t.subs.length
    · obtain ⟨a, ha⟩ := get_lt (show k < t.subs.length by omega)
      have z3 := Ty.size_mem (mem_of_get ha)
      repeat' (first | (with_reducible first | refine W ?_ | refine Wk (by decide) ?_) | ((with_reducible first | refine Wo (fun K hK => ?_) | refine Wp ?_ | refine Wq ?_ | refine Wr ?_); (try simp only [go_sem, fN, ↓gI, ↓pI, seval, eT, iR, e38, e39, e40, s4, ha, hlt, dT, dF, nL]); (repeat with_reducible refine And.intro (by first | omega | (with_reducible exact lens) | (simp [maxLen_eq] <;> omega)) ?_); (try (with_reducible refine hK _ ?_; clear hK K)); (try with_reducible refine iC ?_)))
      refine ⟨_, ih _ (Ty.lt_of_sub (mem_of_get ha)) a (by omega) rfl, ?_⟩
      by_cases hr : a.chk = 0
      · repeat' (first | (with_reducible first | refine W ?_ | refine Wk (by decide) ?_) | ((with_reducible first | refine Wo (fun K hK => ?_) | refine Wp ?_ | refine Wq ?_ | refine Wr ?_); (try simp only [go_sem, fN, ↓gI, ↓pI, seval, eT, iR, e38, e39, e40, s4, hr, dT, dF, nL]); (repeat with_reducible refine And.intro (by first | omega | (with_reducible exact lens) | (simp [maxLen_eq] <;> omega)) ?_); (try (with_reducible refine hK _ ?_; clear hK K)); (try with_reducible refine iC ?_)))
        refine then_normal ⟨t.subs.length - (k + 1), by omega, k + 1, by omega, rfl, ?_⟩
        simp only [go_sem, fN, ↓gI, ↓pI, seval, AS.drop, dropS, AC.clears, AC.clear, AC.highs, AC.high, Bool.not_false, Bool.true_and, Bool.and_self, AV.purge, AV.purges, AC.purge, ABlk.purge, List.contains_cons, List.contains_nil, Nat.reduceBEq, Bool.or_self, Bool.or_false, Bool.false_or, Bool.or_true, eT, iR, e38, e39, e40, s4, hr]
        exact ⟨by rw [Ty.chks_take ha hc, hr], by congr 3⟩
      · repeat' (first | (with_reducible first | refine W ?_ | refine Wk (by decide) ?_) | ((with_reducible first | refine Wo (fun K hK => ?_) | refine Wp ?_ | refine Wq ?_ | refine Wr ?_); (try simp only [go_sem, fN, ↓gI, ↓pI, seval, eT, iR, e38, e39, e40, s4, hr, dT, dF, nL]); (repeat with_reducible refine And.intro (by first | omega | (with_reducible exact lens) | (simp [maxLen_eq] <;> omega)) ?_); (try (with_reducible refine hK _ ?_; clear hK K)); (try with_reducible refine iC ?_)))
        simp only [go_sem, fN, ↓gI, ↓pI, seval, FinQ, AS.result, resAll, resOne, tupV]
        rw [Ty.chks_bad (k := k + 1) (by rw [Ty.chks_take ha hc]; exact hr), Ty.chks_take ha hc]
    · repeat' (first | (with_reducible first | refine W ?_ | refine Wk (by decide) ?_) | ((with_reducible first | refine Wo (fun K hK => ?_) | refine Wp ?_ | refine Wq ?_ | refine Wr ?_); (try simp only [go_sem, fN, ↓gI, ↓pI, seval, eT, iR, e38, e39, e40, s4, hlt, dT, dF, nL]); (repeat with_reducible refine And.intro (by first | omega | (with_reducible exact lens) | (simp [maxLen_eq] <;> omega)) ?_); (try (with_reducible refine hK _ ?_; clear hK K)); (try with_reducible refine iC ?_)))
      simp only [go_sem, fN, ↓gI, ↓pI, seval, FinQ, AS.result, resAll, resOne, tupV]
      rw [List.take_of_length_le (by omega)] at hc
      rw [hc]
  · repeat' (first | (with_reducible first | refine W ?_ | refine Wk (by decide) ?_) | ((with_reducible first | refine Wo (fun K hK => ?_) | refine Wp ?_ | refine Wq ?_ | refine Wr ?_); (try simp only [go_sem, fN, ↓gI, ↓pI, seval, eT, iR, h2, hb, dT, dF, nL]); (repeat with_reducible refine And.intro (by first | omega | (with_reducible exact lens) | (simp [maxLen_eq] <;> omega)) ?_); (try (with_reducible refine hK _ ?_; clear hK K)); (try with_reducible refine iC ?_)))
    refine IWP.loopD [4] (fun n s => ∃ k, k ≤ t.subs.length ∧ n = t.subs.length - k ∧ Ty.chks (t.subs.take k) = 0 ∧ s.env 38 = .one (.st (.list (t.subs.map encY))) ∧ s.env 39 = aInt t.subs.length ∧ s.env 40 = aInt k ∧ s.S 4 = none) t.subs.length ⟨0, Nat.zero_le _, rfl, rfl, rfl, by first | (simp only [go_sem, fN, ↓gI, ↓pI, seval, eT, iR, h2, hb]; done) | rfl, rfl, rfl⟩ ?_
    rintro n ⟨env, S⟩ ⟨k, hk', rfl, hc, e38, e39, e40, s4⟩
    simp only at e38 e39 e40 s4
    by_cases hlt : (k : Int) < t.subs.length
    · obtain ⟨a, ha⟩ := get_lt (show k < t.subs.length by omega)
      have z3 := Ty.size_mem (mem_of_get ha)
      repeat' (first | (with_reducible first | refine W ?_ | refine Wk (by decide) ?_) | ((with_reducible first | refine Wo (fun K hK => ?_) | refine Wp ?_ | refine Wq ?_ | refine Wr ?_); (try simp only [go_sem, fN, ↓gI, ↓pI, seval, eT, iR, e38, e39, e40, s4, ha, hlt, dT, dF, nL]); (repeat with_reducible refine And.intro (by first | omega | (with_reducible exact lens) | (simp [maxLen_eq] <;> omega)) ?_); (try (with_reducible refine hK _ ?_; clear hK K)); (try with_reducible refine iC ?_)))
      refine ⟨_, ih _ (Ty.lt_of_sub (mem_of_get ha)) a (by omega) rfl, ?_⟩
      by_cases hr : a.chk = 0
      · repeat' (first | (with_reducible first | refine W ?_ | refine Wk (by decide) ?_) | ((with_reducible first | refine Wo (fun K hK => ?_) | refine Wp ?_ | refine Wq ?_ | refine Wr ?_); (try simp only [go_sem, fN, ↓gI, ↓pI, seval, eT, iR, e38, e39, e40, s4, hr, dT, dF, nL]); (repeat with_reducible refine And.intro (by first | omega | (with_reducible exact lens) | (simp [maxLen_eq] <;> omega)) ?_); (try (with_reducible refine hK _ ?_; clear hK K)); (try with_reducible refine iC ?_)))
        refine then_normal ⟨t.subs.length - (k + 1), by omega, k + 1, by omega, rfl, ?_⟩
        simp only [go_sem, fN, ↓gI, ↓pI, seval, AS.drop, dropS, AC.clears, AC.clear, AC.highs, AC.high, Bool.not_false, Bool.true_and, Bool.and_self, AV.purge, AV.purges, AC.purge, ABlk.purge, List.contains_cons, List.contains_nil, Nat.reduceBEq, Bool.or_self, Bool.or_false, Bool.false_or, Bool.or_true, eT, iR, e38, e39, e40, s4, hr]
        exact ⟨by rw [Ty.chks_take ha hc, hr], by congr 3⟩
      · repeat' (first | (with_reducible first | refine W ?_ | refine Wk (by decide) ?_) | ((with_reducible first | refine Wo (fun K hK => ?_) | refine Wp ?_ | refine Wq ?_ | refine Wr ?_); (try simp only [go_sem, fN, ↓gI, ↓pI, seval, eT, iR, e38, e39, e40, s4, hr, dT, dF, nL]); (repeat with_reducible refine And.intro (by first | omega | (with_reducible exact lens) | (simp [maxLen_eq] <;> omega)) ?_); (try (with_reducible refine hK _ ?_; clear hK K)); (try with_reducible refine iC ?_)))
        simp only [go_sem, fN, ↓gI, ↓pI, seval, FinQ, AS.result, resAll, resOne, tupV]
        rw [Ty.chks_bad (k := k + 1) (by rw [Ty.chks_take ha hc]; exact hr), Ty.chks_take ha hc]
    · repeat' (first | (with_reducible first | refine W ?_ | refine Wk (by decide) ?_) | ((with_reducible first | refine Wo (fun K hK => ?_) | refine Wp ?_ | refine Wq ?_ | refine Wr ?_); (try simp only [go_sem, fN, ↓gI, ↓pI, seval, eT, iR, e38, e39, e40, s4, hlt, dT, dF, nL]); (repeat with_reducible refine And.intro (by first | omega | (with_reducible exact lens) | (simp [maxLen_eq] <;> omega)) ?_); (try (with_reducible refine hK _ ?_; clear hK K)); (try with_reducible refine iC ?_)))
      simp only [go_sem, fN, ↓gI, ↓pI, seval, FinQ, AS.result, resAll, resOne, tupV]
      rw [List.take_of_length_le (by omega)] at hc
      rw [hc]
theorem yCheck_a (t : Ty) : ACalls Tryd.prog 18 [aTy t] (aInt t.may) := by
  refine ac_infer_Check (Nat.le_of_ble_eq_true rfl) fun C hC => ?_
  unfold ir_infer_Check
  unfold Ty.may
  have hw := @lessBy_neg_iff t.size 200 (by decide)
  by_cases hz : 200 < t.size
  · have hz' := hw.2 (by omega)
    rw [if_pos hz]
    repeat' (first | (with_reducible first | refine W ?_ | refine Wk (by decide) ?_) | refine Cg _ (ywithin_a t 200 (by decide) (by decide)) ?_ | ((with_reducible first | refine Wo (fun K hK => ?_) | refine Wp ?_ | refine Wq ?_ | refine Wr ?_); (try simp only [go_sem, fN, ↓gI, ↓pI, seval, eT, iR, hz', dT, dF, nL]); (repeat with_reducible refine And.intro (by first | omega | (with_reducible exact lens) | (simp [maxLen_eq] <;> omega)) ?_); (try (with_reducible refine hK _ ?_; clear hK K)); (try with_reducible refine iC ?_)))
    simp only [go_sem, fN, ↓gI, ↓pI, seval, FinQ, AS.result, resAll, resOne, tupV]
  · have hz' : ¬ lessBy t.size 200 < 0 := fun h => hz (by have := hw.1 h; omega)
    rw [if_neg hz]
    repeat' (first | (with_reducible first | refine W ?_ | refine Wk (by decide) ?_) | refine Cg _ (ywithin_a t 200 (by decide) (by decide)) ?_ | refine Cg _ (ycheck_a t (by omega)) ?_ | ((with_reducible first | refine Wo (fun K hK => ?_) | refine Wp ?_ | refine Wq ?_ | refine Wr ?_); (try simp only [go_sem, fN, ↓gI, ↓pI, seval, eT, iR, hz', dT, dF, nL]); (repeat with_reducible refine And.intro (by first | omega | (with_reducible exact lens) | (simp [maxLen_eq] <;> omega)) ?_); (try (with_reducible refine hK _ ?_; clear hK K)); (try with_reducible refine iC ?_)))
    simp only [go_sem, fN, ↓gI, ↓pI, seval, FinQ, AS.result, resAll, resOne, tupV]
end Go.Proofs.YtehnjhkndbcmgaaDoor

namespace Go.Proofs.YtehnjhkndbcmgaaDoor
open Go Go.RowKit
set_option linter.unusedVariables false
set_option linter.unusedSimpArgs false
set_option maxHeartbeats 1000000
theorem bld_mk {S : AStore} {a0 r : Nat} {bs : ByteArray} (ha : 1000 ≤ a0) (hr : 1000 ≤ r) (hne : a0 ≠ r) (h1 : S a0 = some (.box bT [.ptr a0 1 0 0, .row r bs.size])) (h2 : S r = some (.mrow u8T 1 (byteRow bs))) : Bld (upS S) (up1 a0) (up1 r) bs :=
  bld_up ⟨ha, hr, hne, ⟨_, .inr rfl, h1⟩, h2⟩
theorem bld_mv {S S' : AStore} {a0 r : Nat} {bs : ByteArray} (h : Bld S a0 r bs) (h1 : S' a0 = S a0) (h2 : S' r = S r) : Bld (upS S') (up1 a0) (up1 r) bs := by
  obtain ⟨p, hp, hb⟩ := h.box
  exact bld_up ⟨h.ha, h.hr, h.ne, ⟨p, hp, h1.trans hb⟩, h2.trans h.row⟩
theorem bld_end {C : Ctx} {rs : List RV} {r : AV} {e : AX} {s : AS} {S : AStore} {a0 r0 : Nat} {bs : ByteArray} (h : Bld S a0 r0 bs) {cs : ByteArray} (rv : AV) (hS : Clean S) (he : match e with | .normal => True | .ret => True | _ => False)
    (h1 : (resAll s rs).map tupV = some rv) (h2 : outV s.S rv = some r) (h3 : s.S a0 = some (.box bT [.ptr a0 1 0 0, .row r0 cs.size])) (h3' : s.S r0 = some (.mrow u8T 1 (byteRow cs))) (h4 : ∀ i, 1000 ≤ i → i ≠ a0 → i ≠ r0 → s.S i = S i) : FinS C rs r (bldS S a0 r0 cs) e s :=
  finS_two rv hS h.ha h.hr (fun e => h.ne e.symm) (bld_high h.ha h.hr) rfl he h1 h2 h3 h3' h4
set_option maxHeartbeats 4000000 in
theorem yshow_S (x : BT) (hl : x.low 1000000) : ∀ {a0 r : Nat} {bs : ByteArray} {S : AStore}, Bld S a0 r bs → bs.size + 8 * x.sz ≤ 1000000000 →
    ACallsS Tryd.prog 34 [.one (.ptr a0 1 0 0), aTy x.ty] S (.tup []) (bldS S a0 r (bs ++ x.txt)) := by
  induction x with
  | b n =>
    intro a0 r bs S h hz
    have ha := h.ha
    have hr := h.hr
    have hne := h.ne
    have hne2 : ¬ r = a0 := fun e => hne e.symm
    have a3 : ¬ a0 = 3 := by omega
    have r3 : ¬ r = 3 := by omega
    have q3 : ¬ 3 = a0 := by omega
    have s3 : ¬ 3 = r := by omega
    have z1 := decS_size_le (n := n) hl
    have z2 : (⟨#[97]⟩ : ByteArray).size = 1 := rfl
    simp only [BT.sz] at hz
    refine acS_infer_show (Nat.le_of_ble_eq_true rfl) fun hS C hC => ?_
    have k3 : S 3 = none := clean_none hS (by omega)
    unfold ir_infer_show
    repeat' (first | (with_reducible first | refine W ?_ | refine Wk (by decide) ?_) | refine Cg _ (itoa_a n hl) ?_ | ((with_reducible first | refine Wo (fun K hK => ?_) | refine Wp ?_ | refine Wq ?_ | refine Wr ?_); (try simp only [go_sem, fN, ↓gI, ↓pI, seval, eT, iR, k3, z2, dT, dF, nL]); (repeat with_reducible refine And.intro (by first | omega | (with_reducible exact lens) | (simp [maxLen_eq] <;> omega)) ?_); (try (with_reducible refine hK _ ?_; clear hK K)); (try with_reducible refine iC ?_)))
    refine ⟨_, _, writeString_S (bld_mv h (by simp only [go_sem, fN, ↓gI, ↓pI, seval, eT, iR, a3]) (by simp only [go_sem, fN, ↓gI, ↓pI, seval, eT, iR, r3])) _ (by rw [ByteArray.size_append]; omega), ?_⟩
    repeat' (first | (with_reducible first | refine W ?_ | refine Wk (by decide) ?_) | ((with_reducible first | refine Wo (fun K hK => ?_) | refine Wp ?_ | refine Wq ?_ | refine Wr ?_); (try simp only [go_sem, fN, ↓gI, ↓pI, seval, eT, iR, bldS, q3, s3, hne, hne2, dT, dF, nL]); (repeat with_reducible refine And.intro (by first | omega | (with_reducible exact lens) | (simp [maxLen_eq] <;> omega)) ?_); (try (with_reducible refine hK _ ?_; clear hK K)); (try with_reducible refine iC ?_)))
    refine bld_end h (.tup []) hS trivial ?_ ?_ ?_ ?_ fun i hi i1 i2 => ?_
    · rfl
    · rfl
    · simp only [go_sem, fN, ↓gI, ↓pI, seval, eT, iR, hne, hne2, BT.txt]
      try rfl
    · simp only [go_sem, fN, ↓gI, ↓pI, seval, eT, iR, hne, hne2, BT.txt]
      try rfl
    · have i3 : ¬ i = 3 := by omega
      simp only [go_sem, fN, ↓gI, ↓pI, seval, eT, iR, i1, i2, i3]
  | a u v iu iv =>
    intro a0 r bs S h hz
    have ha := h.ha
    have hr := h.hr
    have hne := h.ne
    have hne2 : ¬ r = a0 := fun e => hne e.symm
    have a3 : ¬ a0 = 3 := by omega
    have r3 : ¬ r = 3 := by omega
    have q3 : ¬ 3 = a0 := by omega
    have s3 : ¬ 3 = r := by omega
    have a4 : ¬ a0 = 4 := by omega
    have r4 : ¬ r = 4 := by omega
    have q4 : ¬ 4 = a0 := by omega
    have s4 : ¬ 4 = r := by omega
    simp only [BT.sz] at hz
    have zu := BT.txt_size hl.1
    have zv := BT.txt_size hl.2
    have e1 : (⟨#[62]⟩ : ByteArray).size = 1 := rfl
    have e2 : (⟨#[40]⟩ : ByteArray).size = 1 := rfl
    have e3 : (⟨#[41]⟩ : ByteArray).size = 1 := rfl
    refine acS_infer_show (Nat.le_of_ble_eq_true rfl) fun hS C hC => ?_
    have k3 : S 3 = none := clean_none hS (by omega)
    have k4 : S 4 = none := clean_none hS (by omega)
    unfold ir_infer_show
    have iu := @iu hl.1
    have iv := @iv hl.2
    cases u with
    | b n =>
      repeat' (first | (with_reducible first | refine W ?_ | refine Wk (by decide) ?_) | ((with_reducible first | refine Wo (fun K hK => ?_) | refine Wp ?_ | refine Wq ?_ | refine Wr ?_); (try simp only [go_sem, fN, ↓gI, ↓pI, seval, eT, iR, k3, k4, dT, dF, nL]); (repeat with_reducible refine And.intro (by first | omega | (with_reducible exact lens) | (simp [maxLen_eq] <;> omega)) ?_); (try (with_reducible refine hK _ ?_; clear hK K)); (try with_reducible refine iC ?_)))
      refine ⟨_, _, iu (bld_mv h (by simp only [go_sem, fN, ↓gI, ↓pI, seval, eT, iR, a3, a4]) (by simp only [go_sem, fN, ↓gI, ↓pI, seval, eT, iR, r3, r4])) (by omega), ?_⟩
      repeat' (first | (with_reducible first | refine W ?_ | refine Wk (by decide) ?_) | ((with_reducible first | refine Wo (fun K hK => ?_) | refine Wp ?_ | refine Wq ?_ | refine Wr ?_); (try simp only [go_sem, fN, ↓gI, ↓pI, seval, eT, iR, bldS, q3, s3, q4, s4, hne, hne2, dT, dF, nL]); (repeat with_reducible refine And.intro (by first | omega | (with_reducible exact lens) | (simp [maxLen_eq] <;> omega)) ?_); (try (with_reducible refine hK _ ?_; clear hK K)); (try with_reducible refine iC ?_)))
      refine ⟨_, _, (writeByte_S (bld_mk (bs := bs ++ (BT.b n).txt) ha hr hne (by simp only [go_sem, fN, ↓gI, ↓pI, seval, eT, iR, hne, hne2]) (by simp only [go_sem, fN, ↓gI, ↓pI, seval, eT, iR, hne, hne2])) 62 (by rw [ByteArray.size_append]; omega) : ACallsS _ _ [_, .one (.st (.int .u8 62))] _ _ _), ?_⟩
      repeat' (first | (with_reducible first | refine W ?_ | refine Wk (by decide) ?_) | ((with_reducible first | refine Wo (fun K hK => ?_) | refine Wp ?_ | refine Wq ?_ | refine Wr ?_); (try simp only [go_sem, fN, ↓gI, ↓pI, seval, eT, iR, bldS, q3, s3, q4, s4, hne, hne2, dT, dF, nL]); (repeat with_reducible refine And.intro (by first | omega | (with_reducible exact lens) | (simp [maxLen_eq] <;> omega)) ?_); (try (with_reducible refine hK _ ?_; clear hK K)); (try with_reducible refine iC ?_)))
      refine ⟨_, _, iv (bld_mk (bs := bs ++ (BT.b n).txt ++ ⟨#[62]⟩) ha hr hne (by simp only [go_sem, fN, ↓gI, ↓pI, seval, eT, iR, hne, hne2]) (by simp only [go_sem, fN, ↓gI, ↓pI, seval, eT, iR, hne, hne2])) (by rw [ByteArray.size_append, ByteArray.size_append]; omega), ?_⟩
      repeat' (first | (with_reducible first | refine W ?_ | refine Wk (by decide) ?_) | ((with_reducible first | refine Wo (fun K hK => ?_) | refine Wp ?_ | refine Wq ?_ | refine Wr ?_); (try simp only [go_sem, fN, ↓gI, ↓pI, seval, eT, iR, bldS, q3, s3, q4, s4, hne, hne2, dT, dF, nL]); (repeat with_reducible refine And.intro (by first | omega | (with_reducible exact lens) | (simp [maxLen_eq] <;> omega)) ?_); (try (with_reducible refine hK _ ?_; clear hK K)); (try with_reducible refine iC ?_)))
      rw [BT.txt_ab, ← ByteArray.append_assoc, ← ByteArray.append_assoc]
      refine bld_end h (.tup []) hS trivial ?_ ?_ ?_ ?_ fun i hi i1 i2 => ?_
      · rfl
      · rfl
      · simp only [go_sem, fN, ↓gI, ↓pI, seval, eT, iR, hne, hne2]
        try rfl
      · simp only [go_sem, fN, ↓gI, ↓pI, seval, eT, iR, hne, hne2]
        try rfl
      · have i3 : ¬ i = 3 := by omega
        have i4 : ¬ i = 4 := by omega
        simp only [go_sem, fN, ↓gI, ↓pI, seval, eT, iR, i1, i2, i3, i4]
    | a p q =>
      have iu : ∀ {a0 r : Nat} {bs : ByteArray} {S : AStore}, Bld S a0 r bs → bs.size + 8 * (BT.a p q).sz ≤ 1000000000 → ACallsS Tryd.prog 34 [.one (.ptr a0 1 0 0), .agg [.st (.int .i64 0), .st (.list [encY p.ty, encY q.ty])]] S (.tup []) (bldS S a0 r (bs ++ (BT.a p q).txt)) := iu
      rw [encY_eq, encY_eq] at iu
      repeat' (first | (with_reducible first | refine W ?_ | refine Wk (by decide) ?_) | ((with_reducible first | refine Wo (fun K hK => ?_) | refine Wp ?_ | refine Wq ?_ | refine Wr ?_); (try simp only [go_sem, fN, ↓gI, ↓pI, seval, eT, iR, k3, k4, dT, dF, nL]); (repeat with_reducible refine And.intro (by first | omega | (with_reducible exact lens) | (simp [maxLen_eq] <;> omega)) ?_); (try (with_reducible refine hK _ ?_; clear hK K)); (try with_reducible refine iC ?_)))
      refine ⟨_, _, (writeByte_S (bld_mv h (by simp only [go_sem, fN, ↓gI, ↓pI, seval, eT, iR, a3, a4]) (by simp only [go_sem, fN, ↓gI, ↓pI, seval, eT, iR, r3, r4])) 40 (by omega) : ACallsS _ _ [_, .one (.st (.int .u8 40))] _ _ _), ?_⟩
      repeat' (first | (with_reducible first | refine W ?_ | refine Wk (by decide) ?_) | ((with_reducible first | refine Wo (fun K hK => ?_) | refine Wp ?_ | refine Wq ?_ | refine Wr ?_); (try simp only [go_sem, fN, ↓gI, ↓pI, seval, eT, iR, bldS, q3, s3, q4, s4, hne, hne2, dT, dF, nL]); (repeat with_reducible refine And.intro (by first | omega | (with_reducible exact lens) | (simp [maxLen_eq] <;> omega)) ?_); (try (with_reducible refine hK _ ?_; clear hK K)); (try with_reducible refine iC ?_)))
      refine ⟨_, _, iu (bld_mk (bs := bs ++ ⟨#[40]⟩) ha hr hne (by simp only [go_sem, fN, ↓gI, ↓pI, seval, eT, iR, hne, hne2]) (by simp only [go_sem, fN, ↓gI, ↓pI, seval, eT, iR, hne, hne2])) (by rw [ByteArray.size_append]; omega), ?_⟩
      repeat' (first | (with_reducible first | refine W ?_ | refine Wk (by decide) ?_) | ((with_reducible first | refine Wo (fun K hK => ?_) | refine Wp ?_ | refine Wq ?_ | refine Wr ?_); (try simp only [go_sem, fN, ↓gI, ↓pI, seval, eT, iR, bldS, q3, s3, q4, s4, hne, hne2, dT, dF, nL]); (repeat with_reducible refine And.intro (by first | omega | (with_reducible exact lens) | (simp [maxLen_eq] <;> omega)) ?_); (try (with_reducible refine hK _ ?_; clear hK K)); (try with_reducible refine iC ?_)))
      refine ⟨_, _, (writeByte_S (bld_mk (bs := bs ++ ⟨#[40]⟩ ++ (BT.a p q).txt) ha hr hne (by simp only [go_sem, fN, ↓gI, ↓pI, seval, eT, iR, hne, hne2]) (by simp only [go_sem, fN, ↓gI, ↓pI, seval, eT, iR, hne, hne2])) 41 (by rw [ByteArray.size_append, ByteArray.size_append]; omega) : ACallsS _ _ [_, .one (.st (.int .u8 41))] _ _ _), ?_⟩
      repeat' (first | (with_reducible first | refine W ?_ | refine Wk (by decide) ?_) | ((with_reducible first | refine Wo (fun K hK => ?_) | refine Wp ?_ | refine Wq ?_ | refine Wr ?_); (try simp only [go_sem, fN, ↓gI, ↓pI, seval, eT, iR, bldS, q3, s3, q4, s4, hne, hne2, dT, dF, nL]); (repeat with_reducible refine And.intro (by first | omega | (with_reducible exact lens) | (simp [maxLen_eq] <;> omega)) ?_); (try (with_reducible refine hK _ ?_; clear hK K)); (try with_reducible refine iC ?_)))
      refine ⟨_, _, (writeByte_S (bld_mk (bs := bs ++ ⟨#[40]⟩ ++ (BT.a p q).txt ++ ⟨#[41]⟩) ha hr hne (by simp only [go_sem, fN, ↓gI, ↓pI, seval, eT, iR, hne, hne2]) (by simp only [go_sem, fN, ↓gI, ↓pI, seval, eT, iR, hne, hne2])) 62 (by rw [ByteArray.size_append, ByteArray.size_append, ByteArray.size_append]; omega) : ACallsS _ _ [_, .one (.st (.int .u8 62))] _ _ _), ?_⟩
      repeat' (first | (with_reducible first | refine W ?_ | refine Wk (by decide) ?_) | ((with_reducible first | refine Wo (fun K hK => ?_) | refine Wp ?_ | refine Wq ?_ | refine Wr ?_); (try simp only [go_sem, fN, ↓gI, ↓pI, seval, eT, iR, bldS, q3, s3, q4, s4, hne, hne2, dT, dF, nL]); (repeat with_reducible refine And.intro (by first | omega | (with_reducible exact lens) | (simp [maxLen_eq] <;> omega)) ?_); (try (with_reducible refine hK _ ?_; clear hK K)); (try with_reducible refine iC ?_)))
      refine ⟨_, _, iv (bld_mk (bs := bs ++ ⟨#[40]⟩ ++ (BT.a p q).txt ++ ⟨#[41]⟩ ++ ⟨#[62]⟩) ha hr hne (by simp only [go_sem, fN, ↓gI, ↓pI, seval, eT, iR, hne, hne2]) (by simp only [go_sem, fN, ↓gI, ↓pI, seval, eT, iR, hne, hne2])) (by simp only [ByteArray.size_append]; omega), ?_⟩
      repeat' (first | (with_reducible first | refine W ?_ | refine Wk (by decide) ?_) | ((with_reducible first | refine Wo (fun K hK => ?_) | refine Wp ?_ | refine Wq ?_ | refine Wr ?_); (try simp only [go_sem, fN, ↓gI, ↓pI, seval, eT, iR, bldS, q3, s3, q4, s4, hne, hne2, dT, dF, nL]); (repeat with_reducible refine And.intro (by first | omega | (with_reducible exact lens) | (simp [maxLen_eq] <;> omega)) ?_); (try (with_reducible refine hK _ ?_; clear hK K)); (try with_reducible refine iC ?_)))
      rw [BT.txt_aa]
      simp only [← ByteArray.append_assoc]
      refine bld_end h (.tup []) hS trivial ?_ ?_ ?_ ?_ fun i hi i1 i2 => ?_
      · rfl
      · rfl
      · simp only [go_sem, fN, ↓gI, ↓pI, seval, eT, iR, hne, hne2]
        try rfl
      · simp only [go_sem, fN, ↓gI, ↓pI, seval, eT, iR, hne, hne2]
        try rfl
      · have i3 : ¬ i = 3 := by omega
        have i4 : ¬ i = 4 := by omega
        simp only [go_sem, fN, ↓gI, ↓pI, seval, eT, iR, i1, i2, i3, i4]
theorem BT.txt_pos (x : BT) : 0 < x.txt.size := by
  cases x with
  | b n =>
    have : (⟨#[97]⟩ : ByteArray).size = 1 := rfl
    rw [BT.txt, ByteArray.size_append]
    omega
  | a u v =>
    have : (⟨#[62]⟩ : ByteArray).size = 1 := rfl
    cases u with
    | b n => rw [BT.txt_ab, ByteArray.size_append, ByteArray.size_append]; omega
    | a p q => rw [BT.txt_aa, ByteArray.size_append, ByteArray.size_append]; omega
theorem nil_app (x : ByteArray) : (⟨#[]⟩ : ByteArray) ++ x = x := by
  apply ByteArray.ext
  simp
theorem yShow_a (x : BT) (hl : x.low 1000000) (hz : x.sz ≤ 1000000) : ACalls Tryd.prog 19 [aTy x.ty] (aStr x.txt) := by
  have z0 : (⟨#[]⟩ : ByteArray).size = 0 := rfl
  have zx := BT.txt_size hl
  refine ac_infer_Show (Nat.le_of_ble_eq_true rfl) fun C hC => ?_
  unfold ir_infer_Show
  refine W ?_
  refine Wo (fun K hK => ?_)
  (try simp only [go_sem, fN, ↓gI, ↓pI, seval, eT, iR])
  (repeat with_reducible refine And.intro (by first | omega | (with_reducible exact lens) | (simp [maxLen_eq] <;> omega)) ?_)
  refine hK _ ?_
  clear hK K
  refine W ?_
  refine W ?_
  refine Wo (fun K hK => ?_)
  (try simp only [go_sem, fN, ↓gI, ↓pI, seval, eT, iR])
  (repeat with_reducible refine And.intro (by first | omega | (with_reducible exact lens) | (simp [maxLen_eq] <;> omega)) ?_)
  refine hK _ ?_
  clear hK K
  refine W ?_
  refine IWP.ghost (Ghost.ownCell (id := 3) (r := 900) (e' := u8T) 1 1 (by rfl) (by rfl) (by rfl) (by decide)) ?_
  repeat' (first | (with_reducible first | refine W ?_ | refine Wk (by decide) ?_) | ((with_reducible first | refine Wo (fun K hK => ?_) | refine Wp ?_ | refine Wq ?_ | refine Wr ?_); (try simp only [go_sem, fN, ↓gI, ↓pI, seval, eT, iR, dT, dF, nL]); (repeat with_reducible refine And.intro (by first | omega | (with_reducible exact lens) | (simp [maxLen_eq] <;> omega)) ?_); (try (with_reducible refine hK _ ?_; clear hK K)); (try with_reducible refine iC ?_)))
  refine ⟨_, _, yshow_S x hl (a0 := up1 3) (r := up1 900) (bs := ⟨#[]⟩) ⟨by decide, by decide, by decide, ⟨_, .inl rfl, by rw [upS_up]; rfl⟩, by rw [upS_up]; rfl⟩ (by omega), ?_⟩
  repeat' (first | (with_reducible first | refine W ?_ | refine Wk (by decide) ?_) | ((with_reducible first | refine Wo (fun K hK => ?_) | refine Wp ?_ | refine Wq ?_ | refine Wr ?_); (try simp only [go_sem, fN, ↓gI, ↓pI, seval, eT, iR, bldS, dT, dF, nL]); (repeat with_reducible refine And.intro (by first | omega | (with_reducible exact lens) | (simp [maxLen_eq] <;> omega)) ?_); (try (with_reducible refine hK _ ?_; clear hK K)); (try with_reducible refine iC ?_)))
  refine ⟨_, _, builderString_S (a0 := up1 3) (r := up1 900) (bs := ⟨#[]⟩ ++ x.txt) ⟨by decide, by decide, by decide, ⟨_, .inr rfl, by rw [upS_up]; (simp only [go_sem, fN, ↓gI, ↓pI, seval, eT, iR]; try rfl)⟩, by rw [upS_up]; (simp only [go_sem, fN, ↓gI, ↓pI, seval, eT, iR]; try rfl)⟩ (by rw [ByteArray.size_append]; have := x.txt_pos; omega) (by rw [ByteArray.size_append]; omega), ?_⟩
  repeat' (first | (with_reducible first | refine W ?_ | refine Wk (by decide) ?_) | ((with_reducible first | refine Wo (fun K hK => ?_) | refine Wp ?_ | refine Wq ?_ | refine Wr ?_); (try simp only [go_sem, fN, ↓gI, ↓pI, seval, eT, iR, dT, dF, nL]); (repeat with_reducible refine And.intro (by first | omega | (with_reducible exact lens) | (simp [maxLen_eq] <;> omega)) ?_); (try (with_reducible refine hK _ ?_; clear hK K)); (try with_reducible refine iC ?_)))
  simp only [go_sem, fN, ↓gI, ↓pI, seval, FinQ, AS.result, resAll, resOne, tupV]
  rw [nil_app]
theorem yText_a (t : Ty) (x : BT) (hx : t.may = 0 → t = x.ty ∧ x.low 1000000 ∧ x.sz ≤ 1000000) : ACalls Tryd.prog 10 [aTy t] (.tup [aStr (if t.may = 0 then x.txt else ⟨#[]⟩), aInt t.may]) := by
  refine ac_infer_Text (Nat.le_of_ble_eq_true rfl) fun C hC => ?_
  unfold ir_infer_Text
  by_cases h : t.may = 0
  · obtain ⟨rfl, hl, hz⟩ := hx h
    repeat' (first | (with_reducible first | refine W ?_ | refine Wk (by decide) ?_) | refine Cg _ (yCheck_a x.ty) ?_ | refine Cg _ (yShow_a x hl hz) ?_ | ((with_reducible first | refine Wo (fun K hK => ?_) | refine Wp ?_ | refine Wq ?_ | refine Wr ?_); (try simp only [go_sem, fN, ↓gI, ↓pI, seval, eT, iR, h, dT, dF, nL]); (repeat with_reducible refine And.intro (by first | omega | (with_reducible exact lens) | (simp [maxLen_eq] <;> omega)) ?_); (try (with_reducible refine hK _ ?_; clear hK K)); (try with_reducible refine iC ?_)))
    simp only [go_sem, fN, ↓gI, ↓pI, seval, FinQ, AS.result, resAll, resOne, tupV, h]
  · repeat' (first | (with_reducible first | refine W ?_ | refine Wk (by decide) ?_) | refine Cg _ (yCheck_a t) ?_ | ((with_reducible first | refine Wo (fun K hK => ?_) | refine Wp ?_ | refine Wq ?_ | refine Wr ?_); (try simp only [go_sem, fN, ↓gI, ↓pI, seval, eT, iR, h, dT, dF, nL]); (repeat with_reducible refine And.intro (by first | omega | (with_reducible exact lens) | (simp [maxLen_eq] <;> omega)) ?_); (try (with_reducible refine hK _ ?_; clear hK K)); (try with_reducible refine iC ?_)))
    simp only [go_sem, fN, ↓gI, ↓pI, seval, FinQ, AS.result, resAll, resOne, tupV, h]
    try rfl
theorem arrow_a (a b : Tm) : ACalls Tryd.prog 26 [aTm a, aTm b] (aTm (arrT a b)) := by
  refine ac_infer_arrow (Nat.le_of_ble_eq_true rfl) fun C hC => ?_
  unfold ir_infer_arrow
  repeat' (first | (with_reducible first | refine W ?_ | refine Wk (by decide) ?_) | ((with_reducible first | refine Wo (fun K hK => ?_) | refine Wp ?_ | refine Wq ?_ | refine Wr ?_); (try simp only [go_sem, fN, ↓gI, ↓pI, seval, eT, iR, dT, dF, nL]); (repeat with_reducible refine And.intro (by first | omega | (with_reducible exact lens) | (simp [maxLen_eq] <;> omega)) ?_); (try (with_reducible refine hK _ ?_; clear hK K)); (try with_reducible refine iC ?_)))
  simp only [go_sem, fN, ↓gI, ↓pI, seval, FinQ, AS.result, resAll, resOne, tupV]
  show _ = AV.agg [.st (.str fS), .st (.list [encT a, encT b])]
  rw [encT_eq, encT_eq]
  rfl
theorem fresh_S {a0 : Nat} {c : AC} {n : Nat} {S : AStore} (ha : 1000 ≤ a0) (hc : c.high = true) (hn : n < 900000) (hSa : S a0 = some (.box 47 [c, .st (.int .i64 n)])) :
    ACallsS Tryd.prog 25 [.one (.ptr a0 1 0 0)] S (aTm (tvar (n + 1))) (updE S a0 (some (.box 47 [c, .st (.int .i64 ((n + 1 : Nat) : Int))]))) := by
  have z1 := decS_size_le (n := n + 1) (by omega)
  have z2 : (⟨#[84]⟩ : ByteArray).size = 1 := rfl
  have a2 : ¬ a0 = 2 := by omega
  have d2 : ¬ 2 = a0 := by omega
  have hi := itoa_a (n + 1) (by omega)
  rw [show (((n + 1 : Nat) : Int)) = (n : Int) + 1 by omega] at hi ⊢
  refine acS_metaprune_infer_maker_fresh (Nat.le_of_ble_eq_true rfl) fun hS C hC => ?_
  have k2 : S 2 = none := clean_none hS (by omega)
  unfold ir_metaprune_infer_maker_fresh
  repeat' (first | (with_reducible first | refine W ?_ | refine Wk (by decide) ?_) | refine Cg _ (hi) ?_ | ((with_reducible first | refine Wo (fun K hK => ?_) | refine Wp ?_ | refine Wq ?_ | refine Wr ?_); (try simp only [go_sem, fN, ↓gI, ↓pI, seval, eT, iR, hSa, a2, d2, k2, z2, dT, dF, nL]); (repeat with_reducible refine And.intro (by first | omega | (with_reducible exact lens) | (simp [maxLen_eq] <;> omega)) ?_); (try (with_reducible refine hK _ ?_; clear hK K)); (try with_reducible refine iC ?_)))
  refine finS_one (.agg [.st (.str (lName 84 (n + 1))), .full []]) hS ha (by simp only [ABlk.high, AC.highs, hc, AC.high, Bool.and_self]) trivial ?_ ?_ ?_ fun i hi hne => ?_
  · simp only [go_sem, fN, ↓gI, ↓pI, seval, eT, iR, resAll, resOne, tupV, a2, d2]
    rfl
  · simp only [go_sem, fN, ↓gI, ↓pI, seval, eT, iR]
    try rfl
  · simp only [go_sem, fN, ↓gI, ↓pI, seval, eT, iR, a2, hSa]
  · have i2 : ¬ i = 2 := by omega
    simp only [go_sem, fN, ↓gI, ↓pI, seval, eT, iR, hne, i2]
theorem pures_first : ∀ {xs : List Lm}, Lm.pures xs = false → ∃ (k : Nat) (x : Lm), xs[k]? = some x ∧ x.pure = false ∧ ∀ (j : Nat) (y : Lm), j < k → xs[j]? = some y → y.pure = true
  | [], h => by simp [Lm.pures] at h
  | x :: xs, h => by
    rw [Lm.pures, Bool.and_eq_false_iff] at h
    cases hx : x.pure with
    | false => exact ⟨0, x, rfl, hx, fun j y hj => by omega⟩
    | true =>
      obtain ⟨k, y, h1, h2, h3⟩ := pures_first (h.resolve_left (by rw [hx]; simp))
      refine ⟨k + 1, y, h1, h2, fun j z hj hz => ?_⟩
      cases j with
      | zero => simp at hz; subst hz; exact hx
      | succ j => exact h3 j z (by omega) (by simpa using hz)
theorem pures_mem {xs : List Lm} (h : Lm.pures xs = true) {x : Lm} (hx : x ∈ xs) : x.pure = true := by
  induction xs with
  | nil => simp at hx
  | cons y ys ih =>
    rw [Lm.pures, Bool.and_eq_true] at h
    rcases List.mem_cons.1 hx with rfl | hx
    · exact h.1
    · exact ih h.2 hx
theorem pure1_a (t : Lm) (ht : ACalls Tryd.prog 13 [aLm t] (aBool t.pure)) : ACalls Tryd.prog 24 [aLm t] (aBool (!t.pure)) := by
  refine ac_infer_pure_1 (Nat.le_of_ble_eq_true rfl) fun C hC => ?_
  unfold ir_infer_pure_1
  repeat' (first | (with_reducible first | refine W ?_ | refine Wk (by decide) ?_) | refine Cg _ (ht) ?_ | ((with_reducible first | refine Wo (fun K hK => ?_) | refine Wp ?_ | refine Wq ?_ | refine Wr ?_); (try simp only [go_sem, fN, ↓gI, ↓pI, seval, eT, iR, dT, dF, nL]); (repeat with_reducible refine And.intro (by first | omega | (with_reducible exact lens) | (simp [maxLen_eq] <;> omega)) ?_); (try (with_reducible refine hK _ ?_; clear hK K)); (try with_reducible refine iC ?_)))
  simp only [go_sem, fN, ↓gI, ↓pI, seval, FinQ, AS.result, resAll, resOne, tupV]
theorem indexPure_a (xs : List Lm) (hh : ∀ a ∈ xs, ACalls Tryd.prog 13 [aLm a] (aBool a.pure)) (hl : xs.length ≤ 1000000) : ∃ i : Int, (0 ≤ i ↔ Lm.pures xs = false) ∧ ACalls Tryd.prog 38 [aLms xs, .one (.fn 24 [])] (aInt i) := by
  have hplain : plainF Tryd.prog 24 = true := by kernel_rfl
  obtain ⟨i, hi, hk⟩ : ∃ i : Int, (0 ≤ i ↔ Lm.pures xs = false) ∧ ((i = -1 ∧ ∀ (j : Nat) (y : Lm), xs[j]? = some y → y.pure = true) ∨ ∃ (k : Nat) (x : Lm), i = k ∧ xs[k]? = some x ∧ x.pure = false ∧ ∀ (j : Nat) (y : Lm), j < k → xs[j]? = some y → y.pure = true) := by
    cases hp : Lm.pures xs with
    | true => exact ⟨-1, by simp, .inl ⟨rfl, fun j y hj => pures_mem hp (List.mem_of_getElem? hj)⟩⟩
    | false =>
      obtain ⟨k, x, h1, h2, h3⟩ := pures_first hp
      exact ⟨k, by simp, .inr ⟨k, x, rfl, h1, h2, h3⟩⟩
  refine ⟨i, hi, ?_⟩
  refine ac_slices_IndexFunc_metaprune_api_Lam_metaprune_api_Lam (Nat.le_of_ble_eq_true rfl) fun C hC => ?_
  unfold ir_slices_IndexFunc_metaprune_api_Lam_metaprune_api_Lam
  repeat' (first | (with_reducible first | refine W ?_ | refine Wk (by decide) ?_) | ((with_reducible first | refine Wo (fun K hK => ?_) | refine Wp ?_ | refine Wq ?_ | refine Wr ?_); (try simp only [go_sem, fN, ↓gI, ↓pI, seval, eT, iR, dT, dF, nL]); (repeat with_reducible refine And.intro (by first | omega | (with_reducible exact lens) | (simp [maxLen_eq] <;> omega)) ?_); (try (with_reducible refine hK _ ?_; clear hK K)); (try with_reducible refine iC ?_)))
  refine IWP.loopD [] (fun n s => ∃ k : Nat, k ≤ xs.length ∧ n = xs.length - k ∧ (i = -1 ∨ (k : Int) ≤ i) ∧ s.env 0 = aLms xs ∧ s.env 1 = .one (.fn 24 []) ∧ s.env 7 = aInt xs.length ∧ s.env 8 = aInt k) xs.length ⟨0, Nat.zero_le _, rfl, (by rcases hk with ⟨h, _⟩ | ⟨k, x, h, _⟩ <;> omega), rfl, rfl, rfl, rfl⟩ ?_
  rintro n ⟨env, S⟩ ⟨k, hk', rfl, hp, e0, e1, e7, e8⟩
  simp only at e0 e1 e7 e8
  by_cases hlt : (k : Int) < xs.length
  · obtain ⟨a, ha⟩ := get_lt (show k < xs.length by omega)
    have h1 := pure1_a a (hh a (mem_of_get ha))
    repeat' (first | (with_reducible first | refine W ?_ | refine Wk (by decide) ?_) | ((with_reducible first | refine Wo (fun K hK => ?_) | refine Wp ?_ | refine Wq ?_ | refine Wr ?_); (try simp only [go_sem, fN, ↓gI, ↓pI, seval, eT, iR, e0, e1, e7, e8, hlt, ha, hplain, dT, dF, nL]); (repeat with_reducible refine And.intro (by first | omega | (with_reducible exact lens) | (simp [maxLen_eq] <;> omega)) ?_); (try (with_reducible refine hK _ ?_; clear hK K)); (try with_reducible refine iC ?_)))
    refine ⟨_, _, h1.toS rfl, ?_⟩
    cases hpa : a.pure with
    | true =>
      repeat' (first | (with_reducible first | refine W ?_ | refine Wk (by decide) ?_) | ((with_reducible first | refine Wo (fun K hK => ?_) | refine Wp ?_ | refine Wq ?_ | refine Wr ?_); (try simp only [go_sem, fN, ↓gI, ↓pI, seval, eT, iR, hpa, e0, e1, e7, e8, dT, dF, nL]); (repeat with_reducible refine And.intro (by first | omega | (with_reducible exact lens) | (simp [maxLen_eq] <;> omega)) ?_); (try (with_reducible refine hK _ ?_; clear hK K)); (try with_reducible refine iC ?_)))
      refine then_normal ⟨xs.length - (k + 1), by omega, k + 1, by omega, rfl, ?_, ?_⟩
      · rcases hk with ⟨h, _⟩ | ⟨q, x, h, hx, hxp, _⟩
        · exact .inl h
        · have : ¬ k = q := fun e => by
            subst e
            rw [ha] at hx
            cases hx
            rw [hpa] at hxp
            cases hxp
          right
          omega
      · simp only [go_sem, fN, ↓gI, ↓pI, seval, AS.drop, dropS, AC.clears, AC.clear, AC.highs, AC.high, Bool.not_false, Bool.true_and, Bool.and_self, AV.purge, AV.purges, AC.purge, ABlk.purge, List.contains_cons, List.contains_nil, Nat.reduceBEq, Bool.or_self, Bool.or_false, Bool.false_or, Bool.or_true, eT, iR, e0, e1, e7, e8]
        congr 3
    | false =>
      have hik : i = k := by
        rcases hk with ⟨_, h⟩ | ⟨q, x, h, hx, hxp, hall⟩
        · rw [h k a ha] at hpa; cases hpa
        · rcases Nat.lt_trichotomy k q with hkq | hkq | hkq
          · rw [hall k a hkq ha] at hpa; cases hpa
          · omega
          · omega
      repeat' (first | (with_reducible first | refine W ?_ | refine Wk (by decide) ?_) | ((with_reducible first | refine Wo (fun K hK => ?_) | refine Wp ?_ | refine Wq ?_ | refine Wr ?_); (try simp only [go_sem, fN, ↓gI, ↓pI, seval, eT, iR, hpa, e0, e1, e7, e8, dT, dF, nL]); (repeat with_reducible refine And.intro (by first | omega | (with_reducible exact lens) | (simp [maxLen_eq] <;> omega)) ?_); (try (with_reducible refine hK _ ?_; clear hK K)); (try with_reducible refine iC ?_)))
      simp only [go_sem, fN, ↓gI, ↓pI, seval, FinQ, AS.result, resAll, resOne, tupV, hik]
  · have hi1 : i = -1 := by
      rcases hk with ⟨h, _⟩ | ⟨q, x, h, hx, _⟩
      · exact h
      · have := (List.getElem?_eq_some_iff.1 hx).1
        omega
    repeat' (first | (with_reducible first | refine W ?_ | refine Wk (by decide) ?_) | ((with_reducible first | refine Wo (fun K hK => ?_) | refine Wp ?_ | refine Wq ?_ | refine Wr ?_); (try simp only [go_sem, fN, ↓gI, ↓pI, seval, eT, iR, e0, e1, e7, e8, hlt, dT, dF, nL]); (repeat with_reducible refine And.intro (by first | omega | (with_reducible exact lens) | (simp [maxLen_eq] <;> omega)) ?_); (try (with_reducible refine hK _ ?_; clear hK K)); (try with_reducible refine iC ?_)))
    simp only [go_sem, fN, ↓gI, ↓pI, seval, FinQ, AS.result, resAll, resOne, tupV, hi1]
theorem pure_a (t : Lm) (hz : t.size ≤ 1000000) : ACalls Tryd.prog 13 [aLm t] (aBool t.pure) := by
  induction h : SizeOf.sizeOf t using Nat.strongRecOn generalizing t with
  | _ N ih =>
  subst h
  have hs := Lm.size_eq t
  have hlen := Lm.length_le t.subs
  obtain ⟨i, hi, hI⟩ := indexPure_a t.subs (fun a ha => ih _ (Lm.lt_of_sub ha) a (by have := Lm.size_mem ha; omega) rfl) (by omega)
  have hCF : ACalls Tryd.prog 23 [aLms t.subs, .one (.fn 24 [])] (aBool (!Lm.pures t.subs)) := by
    refine ac_slices_ContainsFunc_metaprune_api_Lam_metaprune_api_Lam (Nat.le_of_ble_eq_true rfl) fun C hC => ?_
    unfold ir_slices_ContainsFunc_metaprune_api_Lam_metaprune_api_Lam
    repeat' (first | (with_reducible first | refine W ?_ | refine Wk (by decide) ?_) | refine Cg _ (hI) ?_ | ((with_reducible first | refine Wo (fun K hK => ?_) | refine Wp ?_ | refine Wq ?_ | refine Wr ?_); (try simp only [go_sem, fN, ↓gI, ↓pI, seval, eT, iR, dT, dF, nL]); (repeat with_reducible refine And.intro (by first | omega | (with_reducible exact lens) | (simp [maxLen_eq] <;> omega)) ?_); (try (with_reducible refine hK _ ?_; clear hK K)); (try with_reducible refine iC ?_)))
    simp only [go_sem, fN, ↓gI, ↓pI, seval, FinQ, AS.result, resAll, resOne, tupV]
    cases hp : Lm.pures t.subs with
    | true =>
      have h0 : ¬ 0 ≤ i := fun h => absurd (hi.1 h) (by rw [hp]; simp)
      simp [h0]
    | false =>
      have h0 : 0 ≤ i := hi.2 hp
      simp [h0]
  rw [Lm.pure_eq]
  refine ac_infer_pure (Nat.le_of_ble_eq_true rfl) fun C hC => ?_
  unfold ir_infer_pure
  by_cases hk : t.kind = 4
  · rw [decide_eq_true hk]
    repeat' (first | (with_reducible first | refine W ?_ | refine Wk (by decide) ?_) | refine Cg _ (hCF) ?_ | ((with_reducible first | refine Wo (fun K hK => ?_) | refine Wp ?_ | refine Wq ?_ | refine Wr ?_); (try simp only [go_sem, fN, ↓gI, ↓pI, seval, eT, iR, hk, dT, dF, nL]); (repeat with_reducible refine And.intro (by first | omega | (with_reducible exact lens) | (simp [maxLen_eq] <;> omega)) ?_); (try (with_reducible refine hK _ ?_; clear hK K)); (try with_reducible refine iC ?_)))
    exact ⟨trivial, rfl⟩
  · rw [decide_eq_false hk]
    repeat' (first | (with_reducible first | refine W ?_ | refine Wk (by decide) ?_) | refine Cg _ (hCF) ?_ | ((with_reducible first | refine Wo (fun K hK => ?_) | refine Wp ?_ | refine Wq ?_ | refine Wr ?_); (try simp only [go_sem, fN, ↓gI, ↓pI, seval, eT, iR, hk, dT, dF, nL]); (repeat with_reducible refine And.intro (by first | omega | (with_reducible exact lens) | (simp [maxLen_eq] <;> omega)) ?_); (try (with_reducible refine hK _ ?_; clear hK K)); (try with_reducible refine iC ?_)))
    first | exact ⟨trivial, rfl⟩ | (refine ⟨trivial, ?_⟩; cases hp : Lm.pures t.subs <;> rfl)
end Go.Proofs.YtehnjhkndbcmgaaDoor

namespace Go.Proofs.YtehnjhkndbcmgaaDoor
open Go Go.RowKit
set_option linter.unusedVariables false
set_option linter.unusedSimpArgs false
set_option maxHeartbeats 2000000
theorem UL.v_kind (i : Nat) : (UL.v i).lm.kind = 1 := rfl
theorem UL.v_idx (i : Nat) : (UL.v i).lm.idx = i := rfl
theorem UL.v_subs (i : Nat) : (UL.v i).lm.subs = [] := rfl
theorem UL.l_kind (b : UL) : (UL.l b).lm.kind = 2 := rfl
theorem UL.l_idx (b : UL) : (UL.l b).lm.idx = 0 := rfl
theorem UL.l_subs (b : UL) : (UL.l b).lm.subs = [b.lm] := rfl
theorem UL.a_kind (f x : UL) : (UL.a f x).lm.kind = 3 := rfl
theorem UL.a_idx (f x : UL) : (UL.a f x).lm.idx = 0 := rfl
theorem UL.a_subs (f x : UL) : (UL.a f x).lm.subs = [f.lm, x.lm] := rfl
attribute [go_sem] UL.v_kind UL.v_idx UL.v_subs UL.l_kind UL.l_idx UL.l_subs UL.a_kind UL.a_idx UL.a_subs
theorem acallsS_told {P : Program} {f : FuncId} {x y : AV} {r0 n : Nat} {S : AStore} {r : AV} {S' : AStore} {e : TypeId} {wd : Nat} {xs : List (List SV)} (hS : S r0 = some (.arow e wd xs)) (hn : n = xs.length) (h : ACallsS P f [x, y, .one (.st (.list xs))] S r S') : ACallsS P f [x, y, .one (.row r0 n)] S r S' := by
  intro hc σ w vs ι hg hf ho hv
  refine h hc σ w vs ι hg hf ho ?_
  cases hv with
  | cons h1 hv =>
  cases hv with
  | cons h2 hv =>
  cases hv with
  | cons h3 hv =>
  cases hv
  refine .cons h1 (.cons h2 (.cons ?_ .nil))
  have h3 := vrep_one h3
  cases h3 with
  | row q1 q2 q3 q4 =>
    rw [hS] at q1
    cases q1
    rw [q4 hn, hn]
    exact .one (.st (ho.1 _ _ hS).srep)
theorem cloneA_N (l : List Tm) (hl : l.length ≤ 1000000) : ACallsN Tryd.prog 27 [aTms l] 50 2 (l.map encT) := by
  unfold ACallsN
  rw [List.length_map]
  refine acS_slices_Clone_metaprune_api_Term_metaprune_api_Term (Nat.le_of_ble_eq_true rfl) fun hS C hC => ?_
  unfold ir_slices_Clone_metaprune_api_Term_metaprune_api_Term
  by_cases h0 : l.length = 0
  · have hl : l = [] := List.eq_nil_of_length_eq_zero h0
    subst hl
    repeat' (first | (with_reducible first | refine W ?_ | refine Wk (by decide) ?_) | ((with_reducible first | refine Wo (fun K hK => ?_) | refine Wp ?_ | refine Wq ?_ | refine Wr ?_); (try simp only [go_sem, fN, ↓gI, ↓pI, seval, eT, iR, dT, dF, nL]); (repeat with_reducible refine And.intro (by first | omega | (with_reducible exact lens) | (simp [maxLen_eq] <;> omega)) ?_); (try (with_reducible refine hK _ ?_; clear hK K)); (try with_reducible refine iC ?_)))
    refine ⟨?_, ?_⟩
    · repeat' (first | (with_reducible first | refine W ?_ | refine Wk (by decide) ?_) | ((with_reducible first | refine Wo (fun K hK => ?_) | refine Wp ?_ | refine Wq ?_ | refine Wr ?_); (try simp only [go_sem, fN, ↓gI, ↓pI, seval, eT, iR, dT, dF, nL]); (repeat with_reducible refine And.intro (by first | omega | (with_reducible exact lens) | (simp [maxLen_eq] <;> omega)) ?_); (try (with_reducible refine hK _ ?_; clear hK K)); (try with_reducible refine iC ?_)))
      refine finS_ghost (Ghost.own (C := C) 2 30 50 2 (xs := []) rfl rfl (by simp) (by omega)) ?_
      exact finN (mu := false) trivial 30 (by decide) rfl (fun i hi => by show updE _ _ _ _ = _; rw [updE_ne _ (by omega)]; rfl) rfl
    · repeat' (first | (with_reducible first | refine W ?_ | refine Wk (by decide) ?_) | ((with_reducible first | refine Wo (fun K hK => ?_) | refine Wp ?_ | refine Wq ?_ | refine Wr ?_); (try simp only [go_sem, fN, ↓gI, ↓pI, seval, eT, iR, dT, dF, nL]); (repeat with_reducible refine And.intro (by first | omega | (with_reducible exact lens) | (simp [maxLen_eq] <;> omega)) ?_); (try (with_reducible refine hK _ ?_; clear hK K)); (try with_reducible refine iC ?_)))
      exact finN (mu := false) trivial 7 (by decide) rfl (fun i hi => by show updE _ _ _ _ = _; rw [updE_ne _ (by omega)]; rfl) rfl
  · have hb : l.length * 40 ≤ 140737488355328 := by omega
    repeat' (first | (with_reducible first | refine W ?_ | refine Wk (by decide) ?_) | ((with_reducible first | refine Wo (fun K hK => ?_) | refine Wp ?_ | refine Wq ?_ | refine Wr ?_); (try simp only [go_sem, fN, ↓gI, ↓pI, seval, eT, iR, h0, hb, dT, dF, nL]); (repeat with_reducible refine And.intro (by first | omega | (with_reducible exact lens) | (simp [maxLen_eq] <;> omega)) ?_); (try (with_reducible refine hK _ ?_; clear hK K)); (try with_reducible refine iC ?_)))
    exact finN (mu := false) trivial 7 (by decide) rfl (fun i hi => by show updE _ _ _ _ = _; rw [updE_ne _ (by omega)]; rfl) rfl
structure Eqs (T : TypeId) (S : AStore) (a0 r : Nat) (m : List Pr × Nat) : Prop where
  ha : 1000 ≤ a0
  hr : 1000 ≤ r
  ne : a0 ≠ r
  box : S a0 = some (.box T [.row r m.1.length, .st (.int .i64 (m.2 : Int))])
  row : S r = some (.arow 68 4 (m.1.map encP))
def eqS (T : TypeId) (S : AStore) (a0 r : Nat) (m : List Pr × Nat) : AStore := updE (updE S a0 (some (.box T [.row r m.1.length, .st (.int .i64 (m.2 : Int))]))) r (some (.arow 68 4 (m.1.map encP)))
theorem eqs_up {T : TypeId} {S : AStore} {a0 r : Nat} {m : List Pr × Nat} (ha : 1000 ≤ a0) (hr : 1000 ≤ r) (hne : a0 ≠ r) (h1 : S a0 = some (.box T [.row r m.1.length, .st (.int .i64 (m.2 : Int))])) (h2 : S r = some (.arow 68 4 (m.1.map encP))) : Eqs T (upS S) (up1 a0) (up1 r) m :=
  ⟨up1_le _, up1_le _, fun e => hne (Nat.add_right_cancel e), by rw [upS_some h1]; rfl, by rw [upS_some h2]; rfl⟩
theorem eqs_end {C : Ctx} {rs : List RV} {r : AV} {e : AX} {s : AS} {T : TypeId} {S : AStore} {a0 r0 : Nat} {m m' : List Pr × Nat} (h : Eqs T S a0 r0 m) (rv : AV) (hS : Clean S) (he : match e with | .normal => True | .ret => True | _ => False)
    (h1 : (resAll s rs).map tupV = some rv) (h2 : outV s.S rv = some r) (h3 : s.S a0 = some (.box T [.row r0 m'.1.length, .st (.int .i64 (m'.2 : Int))])) (h3' : s.S r0 = some (.arow 68 4 (m'.1.map encP))) (h4 : ∀ i, 1000 ≤ i → i ≠ a0 → i ≠ r0 → s.S i = S i) : FinS C rs r (eqS T S a0 r0 m') e s :=
  finS_two rv hS h.ha h.hr (fun e => h.ne e.symm) (by simp only [ABlk.high, AC.highs, AC.high, decide_eq_true h.hr, Bool.and_self]) rfl he h1 h2 h3 h3' h4
theorem ty_v (i : Nat) (und : List Tm) (m : List Pr × Nat) {t : Tm} (h : und[und.length - 1 - i]? = some t) : (UL.v i).ty und m = (t, m) := by
  rw [UL.ty, List.getD_eq_getElem?_getD, h]
  rfl
set_option maxHeartbeats 8000000 in
theorem of_S (K : Nat) (hK : K ≤ 5000) (x : UL) : ∀ {und : List Tm} {m : List Pr × Nat} {a0 r : Nat} {S : AStore}, Eqs 47 S a0 r m → x.closed und.length → (∀ t ∈ und, inT m.2 t ∧ t.size = 1) → 2 * x.sz + 2 ≤ K → m.2 + x.sz < 800000 → m.1.length + x.sz ≤ 100000 → und.length + x.sz ≤ 100000 → TyOk K m →
    ACallsS Tryd.prog 14 [.one (.ptr a0 1 0 0), aLm x.lm, aTms und] S (aTm (x.ty und m).1) (eqS 47 S a0 r (x.ty und m).2) := by
  induction x with
  | v i =>
    intro und m a0 r S h hc hu hK hn hl1 hl2 hm
    have hc : i < und.length := hc
    obtain ⟨t, ht⟩ := get_lt (show und.length - 1 - i < und.length by omega)
    rw [ty_v i und m ht]
    have hbox := h.box
    have hrow := h.row
    have ha := h.ha
    have hr := h.hr
    have e1 : ((und.length : Int) - 1 - (i : Int)) = ((und.length - 1 - i : Nat) : Int) := by omega
    refine acS_metaprune_infer_maker_of (Nat.le_of_ble_eq_true rfl) fun hS C hC => ?_
    have k4 : S 4 = none := clean_none hS (by omega)
    have k6 : S 6 = none := clean_none hS (by omega)
    unfold ir_metaprune_infer_maker_of
    repeat' (first | (with_reducible first | refine W ?_ | refine Wk (by decide) ?_) | ((with_reducible first | refine Wo (fun K hK => ?_) | refine Wp ?_ | refine Wq ?_ | refine Wr ?_); (try simp only [go_sem, fN, ↓gI, ↓pI, seval, eT, iR, k4, k6, e1, ht, dT, dF, nL]); (repeat with_reducible refine And.intro (by first | omega | (with_reducible exact lens) | (simp [maxLen_eq] <;> omega)) ?_); (try (with_reducible refine hK _ ?_; clear hK K)); (try with_reducible refine iC ?_)))
    have a4 : ¬ a0 = 4 := by omega
    have a6 : ¬ a0 = 6 := by omega
    have r4 : ¬ r = 4 := by omega
    have r6 : ¬ r = 6 := by omega
    refine eqs_end h (aTm t) hS trivial ?_ ?_ ?_ ?_ fun i hi i1 i2 => ?_
    · simp only [go_sem, fN, ↓gI, ↓pI, seval, eT, iR, resAll, resOne, tupV]
    · simp only [go_sem, fN, ↓gI, ↓pI, seval, eT, iR]
      try rfl
    · simp only [go_sem, fN, ↓gI, ↓pI, seval, eT, iR, a4, a6, hbox]
    · simp only [go_sem, fN, ↓gI, ↓pI, seval, eT, iR, r4, r6, hrow]
    · have i4 : ¬ i = 4 := by omega
      have i6 : ¬ i = 6 := by omega
      simp only [go_sem, fN, ↓gI, ↓pI, seval, eT, iR, i4, i6]
  | l b ib =>
    intro und m a0 r S h hc hu hK hn hl1 hl2 hm
    have hbox := h.box
    have hrow := h.row
    have ha := h.ha
    have hr := h.hr
    have hne := h.ne
    have hne2 : ¬ r = a0 := fun e => hne e.symm
    simp only [UL.sz] at hK hn hl1 hl2
    have hv : inT (m.2 + 1) (tvar (m.2 + 1)) := inT_var (by omega) (by omega) (by omega)
    have hcN := cloneA_N und (by omega)
    refine acS_metaprune_infer_maker_of (Nat.le_of_ble_eq_true rfl) fun hS C hC => ?_
    have k4 : S 4 = none := clean_none hS (by omega)
    have k6 : S 6 = none := clean_none hS (by omega)
    have k7 : S 7 = none := clean_none hS (by omega)
    have k35 : S 35 = none := clean_none hS (by omega)
    unfold ir_metaprune_infer_maker_of
    have a4 : ¬ a0 = 4 := by omega
    have a6 : ¬ a0 = 6 := by omega
    have a7 : ¬ a0 = 7 := by omega
    have a35 : ¬ a0 = 35 := by omega
    have r4 : ¬ r = 4 := by omega
    have r6 : ¬ r = 6 := by omega
    have r7 : ¬ r = 7 := by omega
    have r35 : ¬ r = 35 := by omega
    have b4 : ¬ 4 = a0 := by omega
    have b6 : ¬ 6 = a0 := by omega
    have b7 : ¬ 7 = a0 := by omega
    have b35 : ¬ 35 = a0 := by omega
    have c4 : ¬ 4 = r := by omega
    have c6 : ¬ 6 = r := by omega
    have c7 : ¬ 7 = r := by omega
    have c35 : ¬ 35 = r := by omega
    repeat' (first | (with_reducible first | refine W ?_ | refine Wk (by decide) ?_) | ((with_reducible first | refine Wo (fun K hK => ?_) | refine Wp ?_ | refine Wq ?_ | refine Wr ?_); (try simp only [go_sem, fN, ↓gI, ↓pI, seval, eT, iR, k4, k6, k7, dT, dF, nL]); (repeat with_reducible refine And.intro (by first | omega | (with_reducible exact lens) | (simp [maxLen_eq] <;> omega)) ?_); (try (with_reducible refine hK _ ?_; clear hK K)); (try with_reducible refine iC ?_)))
    refine ⟨_, _, fresh_S (n := m.2) (c := .row (up1 r) m.1.length) (up1_le a0) (high_row (up1_le r)) (by omega) (by rw [upS_up]; (simp only [go_sem, fN, ↓gI, ↓pI, seval, eT, iR, a4, a6, hbox])), ?_⟩
    repeat' (first | (with_reducible first | refine W ?_ | refine Wk (by decide) ?_) | ((with_reducible first | refine Wo (fun K hK => ?_) | refine Wp ?_ | refine Wq ?_ | refine Wr ?_); (try simp only [go_sem, fN, ↓gI, ↓pI, seval, eT, iR, k4, k6, k7, b4, b6, b7, b35, a4, a6, a7, k35, dT, dF, nL]); (repeat with_reducible refine And.intro (by first | omega | (with_reducible exact lens) | (simp [maxLen_eq] <;> omega)) ?_); (try (with_reducible refine hK _ ?_; clear hK K)); (try with_reducible refine iC ?_)))
    refine ⟨_, _, _, _, hcN, by simp only [go_sem, fN, ↓gI, ↓pI, seval, eT, iR, b35, k35], ?_⟩
    have hl1000 : und.length + 1 ≤ maxLen := by rw [maxLen_eq]; omega
    repeat' (first | (with_reducible first | refine W ?_ | refine Wk (by decide) ?_) | ((with_reducible first | refine Wo (fun K hK => ?_) | refine Wp ?_ | refine Wq ?_ | refine Wr ?_); (try simp only [go_sem, fN, ↓gI, ↓pI, seval, eT, iR, k4, k6, k7, b4, b6, b7, b35, a4, a6, a7, a35, k35, hl1000, dT, dF, nL]); (repeat with_reducible refine And.intro (by first | omega | (with_reducible exact lens) | (simp [maxLen_eq] <;> omega)) ?_); (try (with_reducible refine hK _ ?_; clear hK K)); (try with_reducible refine iC ?_)))
    refine ⟨_, _, acallsS_told (e := 50) (wd := 2) (xs := (und ++ [tvar (m.2 + 1)]).map encT) (by rw [upS_up]; (simp only [go_sem, fN, ↓gI, ↓pI, seval, eT, iR, b35, k35, List.map_append, List.map_cons, List.map_nil]; try rfl)) (by simp) (ib (und := und ++ [tvar (m.2 + 1)]) (m := (m.1, m.2 + 1)) (a0 := up1 a0) (r := up1 r) (eqs_up ha hr hne (by simp only [go_sem, fN, ↓gI, ↓pI, seval, eT, iR, a4, a6, a7, a35, hbox]) (by simp only [go_sem, fN, ↓gI, ↓pI, seval, eT, iR, r4, r6, r7, r35, hne2, hrow])) (by rw [List.length_append]; exact hc) (fun t ht => by
      rcases List.mem_append.1 ht with ht | ht
      · exact ⟨(hu t ht).1.more (by simp), (hu t ht).2⟩
      · rw [List.mem_singleton] at ht
        subst ht
        exact ⟨hv, rfl⟩) (by omega) (by show m.2 + 1 + b.sz < _; omega) (by show m.1.length + b.sz ≤ _; omega) (by rw [List.length_append, List.length_singleton]; omega) (TyOk.more (m := m.2) hm (by omega))), ?_⟩
    repeat' (first | (with_reducible first | refine W ?_ | refine Wk (by decide) ?_) | refine Cg _ (arrow_a _ _) ?_ | ((with_reducible first | refine Wo (fun K hK => ?_) | refine Wp ?_ | refine Wq ?_ | refine Wr ?_); (try simp only [go_sem, fN, ↓gI, ↓pI, seval, eT, iR, eqS, k4, k6, k7, b4, b6, b7, b35, a4, a6, a7, k35, c4, c6, c7, dT, dF, nL]); (repeat with_reducible refine And.intro (by first | omega | (with_reducible exact lens) | (simp [maxLen_eq] <;> omega)) ?_); (try (with_reducible refine hK _ ?_; clear hK K)); (try with_reducible refine iC ?_)))
    show FinS _ _ (aTm (arrT (tvar (m.2 + 1)) (b.ty (und ++ [tvar (m.2 + 1)]) (m.1, m.2 + 1)).1)) (eqS 47 S a0 r (b.ty (und ++ [tvar (m.2 + 1)]) (m.1, m.2 + 1)).2) _ _
    refine eqs_end h (aTm (arrT (tvar (m.2 + 1)) (b.ty (und ++ [tvar (m.2 + 1)]) (m.1, m.2 + 1)).1)) hS trivial ?_ ?_ ?_ ?_ fun i hi i1 i2 => ?_
    · simp only [go_sem, fN, ↓gI, ↓pI, seval, eT, iR, resAll, resOne, tupV, b6, c6]
    · simp only [go_sem, fN, ↓gI, ↓pI, seval, eT, iR]
      try rfl
    · simp only [go_sem, fN, ↓gI, ↓pI, seval, eT, iR, a4, a6, a7, a35, hne]
    · simp only [go_sem, fN, ↓gI, ↓pI, seval, eT, iR, r4, r6, r7, r35]
    · have i4 : ¬ i = 4 := by omega
      have i6 : ¬ i = 6 := by omega
      have i7 : ¬ i = 7 := by omega
      have i35 : ¬ i = 35 := by omega
      simp only [go_sem, fN, ↓gI, ↓pI, seval, eT, iR, i1, i2, i4, i6, i7, i35]
  | a f x jf jx =>
    intro und m a0 r S h hc hu hK hn hl1 hl2 hm
    have hbox := h.box
    have hrow := h.row
    have ha := h.ha
    have hr := h.hr
    have hne := h.ne
    have hne2 : ¬ r = a0 := fun e => hne e.symm
    simp only [UL.sz] at hK hn hl1 hl2
    obtain ⟨h1, h2, h3, h4, h5, h6⟩ := ty_ok K f und m hc.1 hu (by omega) (by omega) hm
    obtain ⟨j1, j2, j3, j4, j5, j6⟩ := ty_ok K x und (f.ty und m).2 hc.2 (fun t ht => ⟨(hu t ht).1.more h2, (hu t ht).2⟩) (by omega) (by omega) h1
    refine acS_metaprune_infer_maker_of (Nat.le_of_ble_eq_true rfl) fun hS C hC => ?_
    have k4 : S 4 = none := clean_none hS (by omega)
    have k6 : S 6 = none := clean_none hS (by omega)
    have k8 : S 8 = none := clean_none hS (by omega)
    have k9 : S 9 = none := clean_none hS (by omega)
    have k10 : S 10 = none := clean_none hS (by omega)
    unfold ir_metaprune_infer_maker_of
    have a4 : ¬ a0 = 4 := by omega
    have a6 : ¬ a0 = 6 := by omega
    have a8 : ¬ a0 = 8 := by omega
    have a9 : ¬ a0 = 9 := by omega
    have a10 : ¬ a0 = 10 := by omega
    have r4 : ¬ r = 4 := by omega
    have r6 : ¬ r = 6 := by omega
    have r8 : ¬ r = 8 := by omega
    have r9 : ¬ r = 9 := by omega
    have r10 : ¬ r = 10 := by omega
    have b4 : ¬ 4 = a0 := by omega
    have b6 : ¬ 6 = a0 := by omega
    have b8 : ¬ 8 = a0 := by omega
    have b9 : ¬ 9 = a0 := by omega
    have b10 : ¬ 10 = a0 := by omega
    have c4 : ¬ 4 = r := by omega
    have c6 : ¬ 6 = r := by omega
    have c8 : ¬ 8 = r := by omega
    have c9 : ¬ 9 = r := by omega
    have c10 : ¬ 10 = r := by omega
    repeat' (first | (with_reducible first | refine W ?_ | refine Wk (by decide) ?_) | ((with_reducible first | refine Wo (fun K hK => ?_) | refine Wp ?_ | refine Wq ?_ | refine Wr ?_); (try simp only [go_sem, fN, ↓gI, ↓pI, seval, eT, iR, k4, k6, dT, dF, nL]); (repeat with_reducible refine And.intro (by first | omega | (with_reducible exact lens) | (simp [maxLen_eq] <;> omega)) ?_); (try (with_reducible refine hK _ ?_; clear hK K)); (try with_reducible refine iC ?_)))
    refine ⟨_, _, jf (und := und) (m := m) (a0 := up1 a0) (r := up1 r) (eqs_up ha hr hne (by simp only [go_sem, fN, ↓gI, ↓pI, seval, eT, iR, a4, a6, hbox]) (by simp only [go_sem, fN, ↓gI, ↓pI, seval, eT, iR, r4, r6, hrow])) hc.1 hu (by omega) (by omega) (by omega) (by omega) hm, ?_⟩
    generalize hm1 : (f.ty und m) = m1 at *
    repeat' (first | (with_reducible first | refine W ?_ | refine Wk (by decide) ?_) | ((with_reducible first | refine Wo (fun K hK => ?_) | refine Wp ?_ | refine Wq ?_ | refine Wr ?_); (try simp only [go_sem, fN, ↓gI, ↓pI, seval, eT, iR, eqS, k4, k6, k8, b4, b6, b8, a4, a6, c4, c6, c8, dT, dF, nL]); (repeat with_reducible refine And.intro (by first | omega | (with_reducible exact lens) | (simp [maxLen_eq] <;> omega)) ?_); (try (with_reducible refine hK _ ?_; clear hK K)); (try with_reducible refine iC ?_)))
    refine ⟨_, _, jx (und := und) (m := m1.2) (a0 := up1 a0) (r := up1 r) (eqs_up ha hr hne (by simp only [go_sem, fN, ↓gI, ↓pI, seval, eT, iR, a4, a6, a8, hne]) (by simp only [go_sem, fN, ↓gI, ↓pI, seval, eT, iR, r4, r6, r8])) hc.2 (fun t ht => ⟨(hu t ht).1.more h2, (hu t ht).2⟩) (by omega) (by omega) (by omega) (by omega) h1, ?_⟩
    generalize hm2 : (x.ty und m1.2) = m2 at *
    repeat' (first | (with_reducible first | refine W ?_ | refine Wk (by decide) ?_) | ((with_reducible first | refine Wo (fun K hK => ?_) | refine Wp ?_ | refine Wq ?_ | refine Wr ?_); (try simp only [go_sem, fN, ↓gI, ↓pI, seval, eT, iR, eqS, k4, k6, k8, k9, b4, b6, b8, b9, a4, a6, a8, c4, c6, c8, c9, dT, dF, nL]); (repeat with_reducible refine And.intro (by first | omega | (with_reducible exact lens) | (simp [maxLen_eq] <;> omega)) ?_); (try (with_reducible refine hK _ ?_; clear hK K)); (try with_reducible refine iC ?_)))
    refine ⟨_, _, fresh_S (n := m2.2.2) (c := .row (up1 r) m2.2.1.length) (up1_le a0) (high_row (up1_le r)) (by omega) (by rw [upS_up]; (simp only [go_sem, fN, ↓gI, ↓pI, seval, eT, iR, a4, a6, a8, a9, hne])), ?_⟩
    have hx1 : m2.2.1.length + 1 ≤ maxLen := by rw [maxLen_eq]; omega
    repeat' (first | (with_reducible first | refine W ?_ | refine Wk (by decide) ?_) | refine Cg _ (arrow_a _ _) ?_ | ((with_reducible first | refine Wo (fun K hK => ?_) | refine Wp ?_ | refine Wq ?_ | refine Wr ?_); (try simp only [go_sem, fN, ↓gI, ↓pI, seval, eT, iR, k4, k6, k8, k9, k10, b4, b6, b8, b9, b10, a4, a6, a8, a9, hne, hne2, c4, c6, c8, c9, c10, a10, r4, r6, r8, r9, r10, hx1, dT, dF, nL]); (repeat with_reducible refine And.intro (by first | omega | (with_reducible exact lens) | (simp [maxLen_eq] <;> omega)) ?_); (try (with_reducible refine hK _ ?_; clear hK K)); (try with_reducible refine iC ?_)))
    have hty : (UL.a f x).ty und m = (tvar (m2.2.2 + 1), (m2.2.1 ++ [(m1.1, arrT m2.1 (tvar (m2.2.2 + 1)))], m2.2.2 + 1)) := by rw [UL.ty, hm1, hm2]
    rw [hty]
    refine eqs_end h (aTm (tvar (m2.2.2 + 1))) hS trivial ?_ ?_ ?_ ?_ fun i hi i1 i2 => ?_
    · simp only [go_sem, fN, ↓gI, ↓pI, seval, eT, iR, resAll, resOne, tupV, b6, c6]
    · simp only [go_sem, fN, ↓gI, ↓pI, seval, eT, iR]
      try rfl
    · simp only [go_sem, fN, ↓gI, ↓pI, seval, eT, iR, a4, a6, a8, a9, a10, hne]
      try simp
    · simp only [go_sem, fN, ↓gI, ↓pI, seval, eT, iR, r4, r6, r8, r9, r10, hne2]
      try simp [encP]
    · have i4 : ¬ i = 4 := by omega
      have i6 : ¬ i = 6 := by omega
      have i8 : ¬ i = 8 := by omega
      have i9 : ¬ i = 9 := by omega
      have i10 : ¬ i = 10 := by omega
      simp only [go_sem, fN, ↓gI, ↓pI, seval, eT, iR, i1, i2, i4, i6, i8, i9, i10]
end Go.Proofs.YtehnjhkndbcmgaaDoor

namespace Go.Proofs.YtehnjhkndbcmgaaDoor
open Go Go.RowKit
set_option linter.unusedVariables false
set_option linter.unusedSimpArgs false
set_option maxHeartbeats 2000000
def entI (k : Nat) : List ByteArray → List (KV × AV)
  | [] => []
  | n :: l => (.s n, aInt k) :: entI (k + 1) l
abbrev mapI (l : List ByteArray) : ABlk := .map none (entI 0 l)
theorem entI_len : ∀ (l : List ByteArray) (k : Nat), (entI k l).length = l.length
  | [], _ => rfl
  | n :: l, k => by rw [entI, List.length_cons, List.length_cons, entI_len l]
theorem mGet_entI : ∀ (l : List ByteArray) (k : Nat) (n : ByteArray), mGet (entI k l) (.s n) = if posN l n < l.length then some (aInt ((k + posN l n : Nat) : Int)) else none
  | [], k, n => by simp [entI, mGet, posN]
  | x :: l, k, n => by
    rw [entI, mGet, posN]
    by_cases e : x = n
    · rw [if_pos (congrArg KV.s e), if_pos e]
      simp
    · rw [if_neg (fun h => e (KV.s.inj h)), if_neg e, mGet_entI l (k + 1) n, List.length_cons]
      by_cases h : posN l n < l.length
      · rw [if_pos h, if_pos (by omega), show k + 1 + posN l n = k + (posN l n + 1) by omega]
      · rw [if_neg h, if_neg (by omega)]
theorem mPut_entI : ∀ {l : List ByteArray} {k : Nat} {n : ByteArray}, ¬ posN l n < l.length → ∀ v, mPut (entI k l) (.s n) v = entI k l ++ [(.s n, v)]
  | [], k, n, h, v => rfl
  | x :: l, k, n, h, v => by
    rw [posN] at h
    by_cases e : x = n
    · rw [if_pos e] at h; simp at h
    · rw [if_neg e] at h
      rw [entI, mPut, if_neg (fun h => e (KV.s.inj h)), mPut_entI (by simpa using h), List.cons_append]
theorem entI_snoc : ∀ (l : List ByteArray) (k : Nat) (n : ByteArray), entI k (l ++ [n]) = entI k l ++ [(.s n, aInt ((k + l.length : Nat) : Int))]
  | [], k, n => by simp [entI]
  | x :: l, k, n => by
    rw [List.cons_append, entI, entI_snoc l (k + 1) n, entI, List.cons_append, List.length_cons, show k + 1 + l.length = k + (l.length + 1) by omega]
theorem lookI_in {l : List ByteArray} {n : ByteArray} (ok : Bool) (h : posN l n < l.length) : lookA ok (aInt 0) (mGet (entI 0 l) (.s n)) = if ok then .tup [aInt (posN l n), aBool true] else aInt (posN l n) := by
  rw [mGet_entI, if_pos h, Nat.zero_add]
  rfl
theorem lookI_out {l : List ByteArray} {n : ByteArray} (ok : Bool) (h : ¬ posN l n < l.length) : lookA ok (aInt 0) (mGet (entI 0 l) (.s n)) = if ok then .tup [aInt 0, aBool false] else aInt 0 := by
  rw [mGet_entI, if_neg h]
  rfl
theorem putI_out {l : List ByteArray} {n : ByteArray} (h : ¬ posN l n < l.length) : mPut (entI 0 l) (.s n) (aInt l.length) = entI 0 (addN l n) := by
  rw [mPut_entI h, show addN l n = l ++ [n] by unfold addN; rw [if_neg h], entI_snoc, Nat.zero_add]
theorem back_S {t : Tm} (ht : TT t) : ∀ {l : List ByteArray} {a0 : Nat} {S : AStore}, 1000 ≤ a0 → l.length + t.size ≤ 1000000 → S a0 = some (mapI l) →
    ACallsS Tryd.prog 17 [aTm t, .one (.mptr a0)] S (aTy (t.bk l).1.ty) (updE S a0 (some (mapI (t.bk l).2))) := by
  induction ht with
  | @v n h1 h2 =>
    intro l a0 S ha hl hSa
    rw [bk_leaf]
    have hel := entI_len l 0
    have hlm : l.length ≤ maxLen := by rw [maxLen_eq]; simp only [Tm.size] at hl; omega
    have a2 : ¬ a0 = 2 := by omega
    have a4 : ¬ a0 = 4 := by omega
    have b2 : ¬ 2 = a0 := by omega
    have b4 : ¬ 4 = a0 := by omega
    refine acS_infer_back (Nat.le_of_ble_eq_true rfl) fun hS C hC => ?_
    have k2 : S 2 = none := clean_none hS (by omega)
    have k4 : S 4 = none := clean_none hS (by omega)
    unfold ir_infer_back
    by_cases hp : posN l n < l.length
    · have hadd : addN l n = l := by unfold addN; rw [if_pos hp]
      rw [hadd]
      have q1 := lookI_in true hp
      have q2 := lookI_in false hp
      repeat' (first | (with_reducible first | refine W ?_ | refine Wk (by decide) ?_) | ((with_reducible first | refine Wo (fun K hK => ?_) | refine Wp ?_ | refine Wq ?_ | refine Wr ?_); (try simp only [go_sem, fN, ↓gI, ↓pI, seval, eT, iR, k2, k4, a2, a4, b2, b4, hSa, mapOf, keyOf, KV.of, q1, q2, dT, dF, nL]); (repeat with_reducible refine And.intro (by first | omega | (with_reducible exact lens) | (simp [maxLen_eq] <;> omega)) ?_); (try (with_reducible refine hK _ ?_; clear hK K)); (try with_reducible refine iC ?_)))
      refine finS_one (.agg [.st (.int .i64 (posN l n : Int)), .full []]) hS ha rfl trivial ?_ ?_ ?_ fun i hi hne => ?_
      · simp only [go_sem, fN, ↓gI, ↓pI, seval, eT, iR, resAll, resOne, tupV]
      · simp only [go_sem, fN, ↓gI, ↓pI, seval, eT, iR]
        rfl
      · simp only [go_sem, fN, ↓gI, ↓pI, seval, eT, iR, a2, a4, hSa]
      · have i2 : ¬ i = 2 := by omega
        have i4 : ¬ i = 4 := by omega
        simp only [go_sem, fN, ↓gI, ↓pI, seval, eT, iR, i2, i4]
    · have hpn : posN l n = l.length := by have := posN_le l n; omega
      have hp2 : posN (addN l n) n < (addN l n).length := by
        unfold addN
        rw [if_neg hp, posN_snoc hp, List.length_append, List.length_singleton]
        omega
      have hp3 : posN (addN l n) n = l.length := by
        unfold addN
        rw [if_neg hp, posN_snoc hp]
      have q1 := lookI_out true hp
      have q2 := lookI_in false hp2
      rw [hp3] at q2
      have q3 := putI_out hp
      repeat' (first | (with_reducible first | refine W ?_ | refine Wk (by decide) ?_) | ((with_reducible first | refine Wo (fun K hK => ?_) | refine Wp ?_ | refine Wq ?_ | refine Wr ?_); (try simp only [go_sem, fN, ↓gI, ↓pI, seval, eT, iR, k2, k4, a2, a4, b2, b4, hSa, mapOf, keyOf, KV.of, q1, q2, q3, hel, hlm, dT, dF, nL]); (repeat with_reducible refine And.intro (by first | omega | (with_reducible exact lens) | (simp [maxLen_eq] <;> omega)) ?_); (try (with_reducible refine hK _ ?_; clear hK K)); (try with_reducible refine iC ?_)))
      rw [hpn]
      refine finS_one (.agg [.st (.int .i64 (l.length : Int)), .full []]) hS ha rfl trivial ?_ ?_ ?_ fun i hi hne => ?_
      · simp only [go_sem, fN, ↓gI, ↓pI, seval, eT, iR, resAll, resOne, tupV, a2, a4, b2, b4]
      · simp only [go_sem, fN, ↓gI, ↓pI, seval, eT, iR]
        rfl
      · simp only [go_sem, fN, ↓gI, ↓pI, seval, eT, iR, a2, a4, hSa]
      · have i2 : ¬ i = 2 := by omega
        have i4 : ¬ i = 4 := by omega
        simp only [go_sem, fN, ↓gI, ↓pI, seval, eT, iR, i2, i4, hne]
  | @f x y tx ty ix iy =>
    intro l a0 S ha hl hSa
    rw [bk_arr]
    rw [arrT_size] at hl
    have hg := bk_vars tx l
    have hlen : (x.bk l).2.length ≤ l.length + x.size := by rw [hg]; have := addVars_length x.knots l; rw [Tm.knots_length] at this; exact this
    have a2 : ¬ a0 = 2 := by omega
    have a4 : ¬ a0 = 4 := by omega
    have a7 : ¬ a0 = 7 := by omega
    have b2 : ¬ 2 = a0 := by omega
    have b4 : ¬ 4 = a0 := by omega
    have b7 : ¬ 7 = a0 := by omega
    refine acS_infer_back (Nat.le_of_ble_eq_true rfl) fun hS C hC => ?_
    have k2 : S 2 = none := clean_none hS (by omega)
    have k4 : S 4 = none := clean_none hS (by omega)
    have k7 : S 7 = none := clean_none hS (by omega)
    unfold ir_infer_back
    have n1 : (arrT x y).name = fS := rfl
    have n2 : (arrT x y).args = [x, y] := rfl
    repeat' (first | (with_reducible first | refine W ?_ | refine Wk (by decide) ?_) | ((with_reducible first | refine Wo (fun K hK => ?_) | refine Wp ?_ | refine Wq ?_ | refine Wr ?_); (try simp only [go_sem, fN, ↓gI, ↓pI, seval, eT, iR, k2, k4, k7, a2, a4, a7, b2, b4, b7, hSa, n1, n2, dT, dF, nL]); (repeat with_reducible refine And.intro (by first | omega | (with_reducible exact lens) | (simp [maxLen_eq] <;> omega)) ?_); (try (with_reducible refine hK _ ?_; clear hK K)); (try with_reducible refine iC ?_)))
    refine ⟨_, _, ix (l := l) (a0 := up1 a0) (up1_le _) (by omega) (by rw [upS_up]; (simp only [go_sem, fN, ↓gI, ↓pI, seval, eT, iR, a2, a4, hSa])), ?_⟩
    repeat' (first | (with_reducible first | refine W ?_ | refine Wk (by decide) ?_) | ((with_reducible first | refine Wo (fun K hK => ?_) | refine Wp ?_ | refine Wq ?_ | refine Wr ?_); (try simp only [go_sem, fN, ↓gI, ↓pI, seval, eT, iR, k2, k4, k7, a2, a4, a7, b2, b4, b7, hSa, dT, dF, nL]); (repeat with_reducible refine And.intro (by first | omega | (with_reducible exact lens) | (simp [maxLen_eq] <;> omega)) ?_); (try (with_reducible refine hK _ ?_; clear hK K)); (try with_reducible refine iC ?_)))
    refine ⟨_, _, iy (l := (x.bk l).2) (a0 := up1 a0) (up1_le _) (by omega) (by rw [upS_up]; (simp only [go_sem, fN, ↓gI, ↓pI, seval, eT, iR, a2, a4, a7])), ?_⟩
    repeat' (first | (with_reducible first | refine W ?_ | refine Wk (by decide) ?_) | ((with_reducible first | refine Wo (fun K hK => ?_) | refine Wp ?_ | refine Wq ?_ | refine Wr ?_); (try simp only [go_sem, fN, ↓gI, ↓pI, seval, eT, iR, k2, k4, k7, a2, a4, a7, b2, b4, b7, dT, dF, nL]); (repeat with_reducible refine And.intro (by first | omega | (with_reducible exact lens) | (simp [maxLen_eq] <;> omega)) ?_); (try (with_reducible refine hK _ ?_; clear hK K)); (try with_reducible refine iC ?_)))
    refine finS_one (.agg [.st (.int .i64 0), .full [encY (x.bk l).1.ty, encY (y.bk (x.bk l).2).1.ty]]) hS ha rfl trivial ?_ ?_ ?_ fun i hi hne => ?_
    · simp only [go_sem, fN, ↓gI, ↓pI, seval, eT, iR, resAll, resOne, tupV, b2, b4]
    · simp only [go_sem, fN, ↓gI, ↓pI, seval, eT, iR]
      show _ = AV.agg [.st (.int .i64 0), .st (.list [encY (x.bk l).1.ty, encY (y.bk (x.bk l).2).1.ty])]
      rw [encY_eq, encY_eq]
    · simp only [go_sem, fN, ↓gI, ↓pI, seval, eT, iR, a2, a4, a7]
    · have i2 : ¬ i = 2 := by omega
      have i4 : ¬ i = 4 := by omega
      have i7 : ¬ i = 7 := by omega
      simp only [go_sem, fN, ↓gI, ↓pI, seval, eT, iR, i2, i4, i7, hne]
end Go.Proofs.YtehnjhkndbcmgaaDoor
