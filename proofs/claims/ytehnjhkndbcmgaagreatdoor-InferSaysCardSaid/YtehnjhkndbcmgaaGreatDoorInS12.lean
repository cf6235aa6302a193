/-
  Part 12 of the texts: BInf1. Conditions: none.
-/
import Derived.Test.YtehnjhkndbcmgaaGreatDoorInS11
namespace Go.Proofs.YtehnjhkndbcmgaaGreatDoor
open Go Go.RowKit
set_option linter.unusedVariables false
set_option linter.unusedSimpArgs false
set_option maxHeartbeats 1000000
theorem ywithin_a (t : Ty) (m : Int) (h0 : 0 ≤ m) (h1 : m ≤ 9223372036854775807) : ACalls Tryz.prog 34 [aTy t, aInt m] (aInt (lessBy t.size m)) := by
  induction h : SizeOf.sizeOf t using Nat.strongRecOn generalizing t m with
  | _ N ih =>
  subst h
  have hs := Ty.size_eq t
  refine ac_infer_within (Nat.le_of_ble_eq_true rfl) fun C hC => ?_
  unfold ir_infer_within
  refine IWP.learn 0 (by omega) fun hkn => ?_
  have hkn := (known_ty hkn).2
  repeat' (first | (with_reducible first | refine W ?_ | refine Wk (by decide) ?_) | ((with_reducible first | refine Wo (fun K hK => ?_) | refine Wq ?_ | refine Wr ?_); (try simp only [go_sem, fN, ↓gI, ↓pI, seval, eT, iR]); (repeat with_reducible refine And.intro (by first | omega | (with_reducible exact lens) | (simp [maxLen_eq] <;> omega)) ?_); (try (with_reducible refine hK _ ?_; clear hK K))))
  refine IWP.loopD [6] (fun n s => ∃ k, k ≤ t.subs.length ∧ n = t.subs.length - k ∧ s.env 1 = aInt (lessBy (1 + Ty.sizes (t.subs.take k)) m) ∧ s.env 10 = .one (.st (.list (t.subs.map encY))) ∧ s.env 11 = aInt t.subs.length ∧ s.env 12 = aInt k ∧ s.S 6 = none) t.subs.length ⟨0, Nat.zero_le _, rfl, by
    simp only [go_sem, fN, ↓gI, ↓pI, seval, eT, iR]
    rw [lessBy]
    have z0 : Ty.sizes [] = 0 := rfl
    congr 3
    split <;> omega, rfl, rfl, rfl, rfl⟩ ?_
  rintro n ⟨env, S⟩ ⟨k, hk, rfl, e1, e10, e11, e12, s6⟩
  simp only at e1 e10 e11 e12 s6
  repeat' (first | (with_reducible first | refine W ?_ | refine Wk (by decide) ?_) | ((with_reducible first | refine Wo (fun K hK => ?_) | refine Wq ?_ | refine Wr ?_); (try simp only [go_sem, fN, ↓gI, ↓pI, seval, eT, iR, e1, e10, e11, e12, s6]); (repeat with_reducible refine And.intro (by first | omega | (with_reducible exact lens) | (simp [maxLen_eq] <;> omega)) ?_); (try (with_reducible refine hK _ ?_; clear hK K))))
  with_reducible refine Wp ?_
  simp only [go_sem, fN, ↓gI, ↓pI, seval, true_implies, false_implies, implies_true, dT, dF, iL, e1, e10, e11, e12, s6]
  (try with_reducible refine iC ?_)
  refine ⟨fun hlt => ?_, fun hge => ?_⟩
  · obtain ⟨a, ha⟩ := get_lt (show k < t.subs.length by omega)
    have z1 := Ty.sizes_take ha
    have z2 := Ty.sizes_take_le t.subs (k + 1)
    have z3 := Ty.length_le t.subs
    have z4 := lessBy_le (1 + Ty.sizes (t.subs.take k)) m h0
    repeat' (first | (with_reducible first | refine W ?_ | refine Wk (by decide) ?_) | ((with_reducible first | refine Wo (fun K hK => ?_) | refine Wq ?_ | refine Wr ?_); (try simp only [go_sem, fN, ↓gI, ↓pI, seval, eT, iR, e1, e10, e11, e12, s6, ha]); (repeat with_reducible refine And.intro (by first | omega | (with_reducible exact lens) | (simp [maxLen_eq] <;> omega)) ?_); (try (with_reducible refine hK _ ?_; clear hK K))))
    with_reducible refine Wp ?_
    simp only [go_sem, fN, ↓gI, ↓pI, seval, true_implies, false_implies, implies_true, dT, dF, iL, e1]
    (try with_reducible refine iC ?_)
    refine ⟨fun hb => ?_, fun hb => ?_⟩
    · repeat' (first | (with_reducible first | refine W ?_ | refine Wk (by decide) ?_) | ((with_reducible first | refine Wo (fun K hK => ?_) | refine Wq ?_ | refine Wr ?_); (try simp only [go_sem, fN, ↓gI, ↓pI, seval, eT, iR, e1]); (repeat with_reducible refine And.intro (by first | omega | (with_reducible exact lens) | (simp [maxLen_eq] <;> omega)) ?_); (try (with_reducible refine hK _ ?_; clear hK K))))
      simp only [go_sem, fN, ↓gI, ↓pI, seval, FinQ, AS.result, resAll, resOne, tupV, e1]
      rw [lessBy_neg hb (show _ ≤ t.size by rw [hs]; omega)]
    · repeat' (first | (with_reducible first | refine W ?_ | refine Wk (by decide) ?_) | refine Cg _ (ih _ (Ty.lt_of_sub (mem_of_get ha)) a _ (by omega) (by omega) rfl) ?_ | ((with_reducible first | refine Wo (fun K hK => ?_) | refine Wq ?_ | refine Wr ?_); (try simp only [go_sem, fN, ↓gI, ↓pI, seval, eT, iR, e1, e10, e11, e12, s6, ha]); (repeat with_reducible refine And.intro (by first | omega | (with_reducible exact lens) | (simp [maxLen_eq] <;> omega)) ?_); (try (with_reducible refine hK _ ?_; clear hK K))))
      refine then_normal ⟨t.subs.length - (k + 1), by omega, k + 1, by omega, rfl, ?_⟩
      simp only [go_sem, fN, ↓gI, ↓pI, seval, AS.drop, dropS, AC.clears, AC.clear, AC.highs, AC.high, Bool.not_false, Bool.true_and, Bool.and_self, AV.purge, AV.purges, AC.purge, ABlk.purge, List.contains_cons, List.contains_nil, Nat.reduceBEq, Bool.or_self, Bool.or_false, Bool.false_or, Bool.or_true, eT, iR, e1, e10, e11, e12, s6]
      exact ⟨by rw [lessBy_step (by omega), z1]; congr 4; omega, by congr 3⟩
  · repeat' (first | (with_reducible first | refine W ?_ | refine Wk (by decide) ?_) | ((with_reducible first | refine Wo (fun K hK => ?_) | refine Wq ?_ | refine Wr ?_); (try simp only [go_sem, fN, ↓gI, ↓pI, seval, eT, iR, e1]); (repeat with_reducible refine And.intro (by first | omega | (with_reducible exact lens) | (simp [maxLen_eq] <;> omega)) ?_); (try (with_reducible refine hK _ ?_; clear hK K))))
    simp only [go_sem, fN, ↓gI, ↓pI, seval, FinQ, AS.result, resAll, resOne, tupV, e1]
    rw [List.take_of_length_le (by omega), hs]
theorem ysizeR_a (t : Ty) (m : Int) (h0 : 0 ≤ m) (h1 : m ≤ 9223372036854775806) : ACalls Tryz.prog 24 [aTy t, aInt m] (aInt (capTo t.size m)) := by
  induction h : SizeOf.sizeOf t using Nat.strongRecOn generalizing t m with
  | _ N ih =>
  subst h
  have hs := Ty.size_eq t
  refine ac_R_TypeSize (Nat.le_of_ble_eq_true rfl) fun C hC => ?_
  unfold ir_R_TypeSize
  refine IWP.learn 0 (by omega) fun hkn => ?_
  have hkn := (known_ty hkn).2
  repeat' (first | (with_reducible first | refine W ?_ | refine Wk (by decide) ?_) | ((with_reducible first | refine Wo (fun K hK => ?_) | refine Wq ?_ | refine Wr ?_); (try simp only [go_sem, fN, ↓gI, ↓pI, seval, eT, iR]); (repeat with_reducible refine And.intro (by first | omega | (with_reducible exact lens) | (simp [maxLen_eq] <;> omega)) ?_); (try (with_reducible refine hK _ ?_; clear hK K))))
  refine IWP.loop (fun n s => ∃ k, k ≤ t.subs.length ∧ n = t.subs.length - k ∧ s.env 5 = aInt (capTo (1 + Ty.sizes (t.subs.take k)) m) ∧ s.env 1 = aInt m ∧ s.env 2 = .one (.ptr 2 1 0 0) ∧ s.env 6 = aInt k ∧ s.S 2 = some (.box 27 [.st (.int .i64 t.base), .st (.list (t.subs.map encY))])) t.subs.length ⟨0, Nat.zero_le _, rfl, by
    simp only [go_sem, fN, ↓gI, ↓pI, seval, eT, iR]
    rw [capTo]
    have z0 : Ty.sizes [] = 0 := rfl
    congr 3
    split <;> omega, rfl, rfl, rfl, rfl⟩ ?_
  rintro n ⟨env, S⟩ ⟨k, hk, rfl, e5, e1, e2, e6, s2⟩
  simp only at e5 e1 e2 e6 s2
  have z4 := capTo_le (1 + Ty.sizes (t.subs.take k)) m h0
  by_cases hlt : (k : Int) < t.subs.length
  · obtain ⟨a, ha⟩ := get_lt (show k < t.subs.length by omega)
    have z1 := Ty.sizes_take ha
    have z2 := Ty.sizes_take_le t.subs (k + 1)
    by_cases hb : m < capTo (1 + Ty.sizes (t.subs.take k)) m
    · have hb' : ¬ capTo (1 + Ty.sizes (t.subs.take k)) m ≤ m := by omega
      repeat' (first | (with_reducible first | refine W ?_ | refine Wk (by decide) ?_) | ((with_reducible first | refine Wo (fun K hK => ?_) | refine Wq ?_ | refine Wr ?_); (try simp only [go_sem, fN, ↓gI, ↓pI, seval, eT, iR, e5, e1, e2, e6, s2, hlt, hb']); (repeat with_reducible refine And.intro (by first | omega | (with_reducible exact lens) | (simp [maxLen_eq] <;> omega)) ?_); (try (with_reducible refine hK _ ?_; clear hK K))))
      with_reducible refine Wp ?_
      simp only [go_sem, fN, ↓gI, ↓pI, seval, true_implies, false_implies, implies_true, dT, dF, iL, hb']
      (try with_reducible refine iC ?_)
      repeat' (first | (with_reducible first | refine W ?_ | refine Wk (by decide) ?_) | ((with_reducible first | refine Wo (fun K hK => ?_) | refine Wq ?_ | refine Wr ?_); (try simp only [go_sem, fN, ↓gI, ↓pI, seval, eT, iR, e5, e1, e2, e6, s2]); (repeat with_reducible refine And.intro (by first | omega | (with_reducible exact lens) | (simp [maxLen_eq] <;> omega)) ?_); (try (with_reducible refine hK _ ?_; clear hK K))))
      with_reducible refine Wp ?_
      simp only [go_sem, fN, ↓gI, ↓pI, seval, true_implies, false_implies, implies_true, dT, dF, iL, hb]
      (try with_reducible refine iC ?_)
      repeat' (first | (with_reducible first | refine W ?_ | refine Wk (by decide) ?_) | ((with_reducible first | refine Wo (fun K hK => ?_) | refine Wq ?_ | refine Wr ?_); (try simp only [go_sem, fN, ↓gI, ↓pI, seval, eT, iR, e1]); (repeat with_reducible refine And.intro (by first | omega | (with_reducible exact lens) | (simp [maxLen_eq] <;> omega)) ?_); (try (with_reducible refine hK _ ?_; clear hK K))))
      simp only [go_sem, fN, ↓gI, ↓pI, seval, FinQ, AS.result, resAll, resOne, tupV]
      rw [capTo_over hb (show _ ≤ t.size by rw [hs]; omega)]
    · have hb' : capTo (1 + Ty.sizes (t.subs.take k)) m ≤ m := by omega
      obtain ⟨b1, b2⟩ := capTo_in hb
      repeat' (first | (with_reducible first | refine W ?_ | refine Wk (by decide) ?_) | ((with_reducible first | refine Wo (fun K hK => ?_) | refine Wq ?_ | refine Wr ?_); (try simp only [go_sem, fN, ↓gI, ↓pI, seval, eT, iR, e5, e1, e2, e6, s2, hlt, hb']); (repeat with_reducible refine And.intro (by first | omega | (with_reducible exact lens) | (simp [maxLen_eq] <;> omega)) ?_); (try (with_reducible refine hK _ ?_; clear hK K))))
      with_reducible refine Wp ?_
      simp only [go_sem, fN, ↓gI, ↓pI, seval, true_implies, false_implies, implies_true, dT, dF, iL, hb']
      (try with_reducible refine iC ?_)
      repeat' (first | (with_reducible first | refine W ?_ | refine Wk (by decide) ?_) | ((with_reducible first | refine Wo (fun K hK => ?_) | refine Wq ?_ | refine Wr ?_); (try simp only [go_sem, fN, ↓gI, ↓pI, seval, eT, iR, e5, e1, e2, e6, s2, ha]); (repeat with_reducible refine And.intro (by first | omega | (with_reducible exact lens) | (simp [maxLen_eq] <;> omega)) ?_); (try (with_reducible refine hK _ ?_; clear hK K))))
      refine ⟨_, ih _ (Ty.lt_of_sub (mem_of_get ha)) a (m - capTo (1 + Ty.sizes (t.subs.take k)) m) (by omega) (by omega) rfl, ?_⟩
      have z5 := capTo_le a.size (m - capTo (1 + Ty.sizes (t.subs.take k)) m) (by omega)
      repeat' (first | (with_reducible first | refine W ?_ | refine Wk (by decide) ?_) | ((with_reducible first | refine Wo (fun K hK => ?_) | refine Wq ?_ | refine Wr ?_); (try simp only [go_sem, fN, ↓gI, ↓pI, seval, eT, iR, e5, e1, e2, e6, s2]); (repeat with_reducible refine And.intro (by first | omega | (with_reducible exact lens) | (simp [maxLen_eq] <;> omega)) ?_); (try (with_reducible refine hK _ ?_; clear hK K))))
      refine then_normal ⟨t.subs.length - (k + 1), by omega, k + 1, by omega, rfl, ?_⟩
      simp only [go_sem, fN, ↓gI, ↓pI, seval, eT, iR, e5, e1, e2, e6, s2]
      exact ⟨by rw [b1, capTo_step b2, z1]; congr 4; omega, by congr 3⟩
  · repeat' (first | (with_reducible first | refine W ?_ | refine Wk (by decide) ?_) | ((with_reducible first | refine Wo (fun K hK => ?_) | refine Wq ?_ | refine Wr ?_); (try simp only [go_sem, fN, ↓gI, ↓pI, seval, eT, iR, e5, e1, e2, e6, s2, hlt]); (repeat with_reducible refine And.intro (by first | omega | (with_reducible exact lens) | (simp [maxLen_eq] <;> omega)) ?_); (try (with_reducible refine hK _ ?_; clear hK K))))
    with_reducible refine Wp ?_
    simp only [go_sem, fN, ↓gI, ↓pI, seval, true_implies, false_implies, implies_true, dT, dF, iL]
    (try with_reducible refine iC ?_)
    have hfull : 1 + Ty.sizes (t.subs.take k) = t.size := by rw [List.take_of_length_le (by omega), hs]
    rw [hfull] at e5 z4
    repeat' (first | (with_reducible first | refine W ?_ | refine Wk (by decide) ?_) | ((with_reducible first | refine Wo (fun K hK => ?_) | refine Wq ?_ | refine Wr ?_); (try simp only [go_sem, fN, ↓gI, ↓pI, seval, eT, iR, e5, e1]); (repeat with_reducible refine And.intro (by first | omega | (with_reducible exact lens) | (simp [maxLen_eq] <;> omega)) ?_); (try (with_reducible refine hK _ ?_; clear hK K))))
    by_cases hb : m < capTo t.size m
    · with_reducible refine Wp ?_
      simp only [go_sem, fN, ↓gI, ↓pI, seval, true_implies, false_implies, implies_true, dT, dF, iL, hb]
      (try with_reducible refine iC ?_)
      repeat' (first | (with_reducible first | refine W ?_ | refine Wk (by decide) ?_) | ((with_reducible first | refine Wo (fun K hK => ?_) | refine Wq ?_ | refine Wr ?_); (try simp only [go_sem, fN, ↓gI, ↓pI, seval, eT, iR, e1]); (repeat with_reducible refine And.intro (by first | omega | (with_reducible exact lens) | (simp [maxLen_eq] <;> omega)) ?_); (try (with_reducible refine hK _ ?_; clear hK K))))
      simp only [go_sem, fN, ↓gI, ↓pI, seval, FinQ, AS.result, resAll, resOne, tupV]
      rw [capTo_over hb (Nat.le_refl _)]
    · with_reducible refine Wp ?_
      simp only [go_sem, fN, ↓gI, ↓pI, seval, true_implies, false_implies, implies_true, dT, dF, iL, hb]
      (try with_reducible refine iC ?_)
      repeat' (first | (with_reducible first | refine W ?_ | refine Wk (by decide) ?_) | ((with_reducible first | refine Wo (fun K hK => ?_) | refine Wq ?_ | refine Wr ?_); (try simp only [go_sem, fN, ↓gI, ↓pI, seval, eT, iR, e5]); (repeat with_reducible refine And.intro (by first | omega | (with_reducible exact lens) | (simp [maxLen_eq] <;> omega)) ?_); (try (with_reducible refine hK _ ?_; clear hK K))))
      simp only [go_sem, fN, ↓gI, ↓pI, seval, FinQ, AS.result, resAll, resOne, tupV, e5]
theorem hugeType_a (t : Ty) : ACalls Tryz.prog 8 [aTy t] (aBool (decide (3000 < t.size))) := by
  refine ac_L_hugeType (Nat.le_of_ble_eq_true rfl) fun C hC => ?_
  unfold ir_L_hugeType
  repeat' (first | (with_reducible first | refine W ?_ | refine Wk (by decide) ?_) | ((with_reducible first | refine Wo (fun K hK => ?_) | refine Wp ?_ | refine Wq ?_ | refine Wr ?_); (try simp only [go_sem, fN, ↓gI, ↓pI, seval, eT, iR, dT, dF, iL]); (repeat with_reducible refine And.intro (by first | omega | (with_reducible exact lens) | (simp [maxLen_eq] <;> omega)) ?_); (try (with_reducible refine hK _ ?_; clear hK K)); (try with_reducible refine iC ?_)))
  refine ⟨_, ysizeR_a t 3000 (by decide) (by decide), ?_⟩
  have hz : (3000 < capTo t.size 3000) ↔ 3000 < t.size := by unfold capTo; split <;> omega
  repeat' (first | (with_reducible first | refine W ?_ | refine Wk (by decide) ?_) | ((with_reducible first | refine Wo (fun K hK => ?_) | refine Wp ?_ | refine Wq ?_ | refine Wr ?_); (try simp only [go_sem, fN, ↓gI, ↓pI, seval, eT, iR, hz, dT, dF, iL]); (repeat with_reducible refine And.intro (by first | omega | (with_reducible exact lens) | (simp [maxLen_eq] <;> omega)) ?_); (try (with_reducible refine hK _ ?_; clear hK K)); (try with_reducible refine iC ?_)))
  simp only [go_sem, fN, ↓gI, ↓pI, seval, FinQ, AS.result, resAll, resOne, tupV]
theorem form_cases (t : Ty) : (¬ (t.subs.length = 0 ∨ (t.subs.length = 2 ∧ t.base = 0)) ∧ ((¬ (t.subs.length : Int) = 0 ∧ ¬ (t.subs.length : Int) = 2) ∨ ((t.subs.length : Int) = 2 ∧ ¬ t.base = 0))) ∨ ((t.subs.length = 0 ∨ (t.subs.length = 2 ∧ t.base = 0)) ∧ ((t.subs.length : Int) = 0 ∨ ((t.subs.length : Int) = 2 ∧ t.base = 0))) := by
  by_cases h0 : t.subs.length = 0 <;> by_cases h2 : t.subs.length = 2 <;> by_cases hb : t.base = 0 <;> omega
set_option maxHeartbeats 2000000 in
theorem ycheck_a (t : Ty) (hz : t.size ≤ 1000000000) : ACalls Tryz.prog 35 [aTy t] (aInt t.chk) := by
  induction h : SizeOf.sizeOf t using Nat.strongRecOn generalizing t with
  | _ N ih =>
  subst h
  have hs := Ty.size_eq t
  have hlen := Ty.length_le t.subs
  refine ac_infer_check (Nat.le_of_ble_eq_true rfl) fun C hC => ?_
  unfold ir_infer_check
  rw [Ty.chk_eq]
  rcases form_cases t with ⟨hf, h1⟩ | ⟨hf, h1⟩
  · rw [if_neg hf]
    rcases h1 with ⟨h0, h2⟩ | ⟨h2, hb⟩
    · repeat' (first | (with_reducible first | refine W ?_ | refine Wk (by decide) ?_) | ((with_reducible first | refine Wo (fun K hK => ?_) | refine Wp ?_ | refine Wq ?_ | refine Wr ?_); (try simp only [go_sem, fN, ↓gI, ↓pI, seval, eT, iR, h0, h2, dT, dF, iL]); (repeat with_reducible refine And.intro (by first | omega | (with_reducible exact lens) | (simp [maxLen_eq] <;> omega)) ?_); (try (with_reducible refine hK _ ?_; clear hK K)); (try with_reducible refine iC ?_)))
      simp only [go_sem, fN, ↓gI, ↓pI, seval, FinQ, AS.result, resAll, resOne, tupV]
    · repeat' (first | (with_reducible first | refine W ?_ | refine Wk (by decide) ?_) | ((with_reducible first | refine Wo (fun K hK => ?_) | refine Wp ?_ | refine Wq ?_ | refine Wr ?_); (try simp only [go_sem, fN, ↓gI, ↓pI, seval, eT, iR, h2, hb, dT, dF, iL]); (repeat with_reducible refine And.intro (by first | omega | (with_reducible exact lens) | (simp [maxLen_eq] <;> omega)) ?_); (try (with_reducible refine hK _ ?_; clear hK K)); (try with_reducible refine iC ?_)))
      simp only [go_sem, fN, ↓gI, ↓pI, seval, FinQ, AS.result, resAll, resOne, tupV]
  rw [if_pos hf]
  by_cases hr : 0 ≤ t.base ∧ t.base ≤ 999
  case neg =>
    rw [if_neg hr]
    by_cases hn : t.base < 0
    · rcases h1 with h0 | ⟨h2, hb⟩
      · repeat' (first | (with_reducible first | refine W ?_ | refine Wk (by decide) ?_) | ((with_reducible first | refine Wo (fun K hK => ?_) | refine Wp ?_ | refine Wq ?_ | refine Wr ?_); (try simp only [go_sem, fN, ↓gI, ↓pI, seval, eT, iR, h0, hn, dT, dF, iL]); (repeat with_reducible refine And.intro (by first | omega | (with_reducible exact lens) | (simp [maxLen_eq] <;> omega)) ?_); (try (with_reducible refine hK _ ?_; clear hK K)); (try with_reducible refine iC ?_)))
        simp only [go_sem, fN, ↓gI, ↓pI, seval, FinQ, AS.result, resAll, resOne, tupV]
      · omega
    · have h9 : 999 < t.base := by omega
      rcases h1 with h0 | ⟨h2, hb⟩
      · repeat' (first | (with_reducible first | refine W ?_ | refine Wk (by decide) ?_) | ((with_reducible first | refine Wo (fun K hK => ?_) | refine Wp ?_ | refine Wq ?_ | refine Wr ?_); (try simp only [go_sem, fN, ↓gI, ↓pI, seval, eT, iR, h0, hn, h9, dT, dF, iL]); (repeat with_reducible refine And.intro (by first | omega | (with_reducible exact lens) | (simp [maxLen_eq] <;> omega)) ?_); (try (with_reducible refine hK _ ?_; clear hK K)); (try with_reducible refine iC ?_)))
        simp only [go_sem, fN, ↓gI, ↓pI, seval, FinQ, AS.result, resAll, resOne, tupV]
      · omega
  rw [if_pos hr]
  have hn : ¬ t.base < 0 := by omega
  have h9 : ¬ 999 < t.base := by omega
  rcases h1 with h0 | ⟨h2, hb⟩
  · repeat' (first | (with_reducible first | refine W ?_ | refine Wk (by decide) ?_) | ((with_reducible first | refine Wo (fun K hK => ?_) | refine Wp ?_ | refine Wq ?_ | refine Wr ?_); (try simp only [go_sem, fN, ↓gI, ↓pI, seval, eT, iR, h0, hn, h9, dT, dF, iL]); (repeat with_reducible refine And.intro (by first | omega | (with_reducible exact lens) | (simp [maxLen_eq] <;> omega)) ?_); (try (with_reducible refine hK _ ?_; clear hK K)); (try with_reducible refine iC ?_)))
    refine IWP.loopD [4] (fun n s => ∃ k, k ≤ t.subs.length ∧ n = t.subs.length - k ∧ Ty.chks (t.subs.take k) = 0 ∧ s.env 38 = .one (.st (.list (t.subs.map encY))) ∧ s.env 39 = aInt t.subs.length ∧ s.env 40 = aInt k ∧ s.S 4 = none) t.subs.length ⟨0, Nat.zero_le _, rfl, rfl, rfl, by first | (simp only [go_sem, fN, ↓gI, ↓pI, seval, eT, iR, h0]; done) | rfl, rfl, rfl⟩ ?_
    rintro n ⟨env, S⟩ ⟨k, hk', rfl, hc, e38, e39, e40, s4⟩
    simp only at e38 e39 e40 s4
    by_cases hlt : (k : Int) < t.subs.length
    · obtain ⟨a, ha⟩ := get_lt (show k < t.subs.length by omega)
      have z3 := Ty.size_mem (mem_of_get ha)
      repeat' (first | (with_reducible first | refine W ?_ | refine Wk (by decide) ?_) | ((with_reducible first | refine Wo (fun K hK => ?_) | refine Wp ?_ | refine Wq ?_ | refine Wr ?_); (try simp only [go_sem, fN, ↓gI, ↓pI, seval, eT, iR, e38, e39, e40, s4, ha, hlt, dT, dF, iL]); (repeat with_reducible refine And.intro (by first | omega | (with_reducible exact lens) | (simp [maxLen_eq] <;> omega)) ?_); (try (with_reducible refine hK _ ?_; clear hK K)); (try with_reducible refine iC ?_)))
      refine ⟨_, ih _ (Ty.lt_of_sub (mem_of_get ha)) a (by omega) rfl, ?_⟩
      by_cases hr : a.chk = 0
      · repeat' (first | (with_reducible first | refine W ?_ | refine Wk (by decide) ?_) | ((with_reducible first | refine Wo (fun K hK => ?_) | refine Wp ?_ | refine Wq ?_ | refine Wr ?_); (try simp only [go_sem, fN, ↓gI, ↓pI, seval, eT, iR, e38, e39, e40, s4, hr, dT, dF, iL]); (repeat with_reducible refine And.intro (by first | omega | (with_reducible exact lens) | (simp [maxLen_eq] <;> omega)) ?_); (try (with_reducible refine hK _ ?_; clear hK K)); (try with_reducible refine iC ?_)))
        refine then_normal ⟨t.subs.length - (k + 1), by omega, k + 1, by omega, rfl, ?_⟩
        simp only [go_sem, fN, ↓gI, ↓pI, seval, AS.drop, dropS, AC.clears, AC.clear, AC.highs, AC.high, Bool.not_false, Bool.true_and, Bool.and_self, AV.purge, AV.purges, AC.purge, ABlk.purge, List.contains_cons, List.contains_nil, Nat.reduceBEq, Bool.or_self, Bool.or_false, Bool.false_or, Bool.or_true, eT, iR, e38, e39, e40, s4, hr]
        exact ⟨by rw [Ty.chks_take ha hc, hr], by congr 3⟩
      · repeat' (first | (with_reducible first | refine W ?_ | refine Wk (by decide) ?_) | ((with_reducible first | refine Wo (fun K hK => ?_) | refine Wp ?_ | refine Wq ?_ | refine Wr ?_); (try simp only [go_sem, fN, ↓gI, ↓pI, seval, eT, iR, e38, e39, e40, s4, hr, dT, dF, iL]); (repeat with_reducible refine And.intro (by first | omega | (with_reducible exact lens) | (simp [maxLen_eq] <;> omega)) ?_); (try (with_reducible refine hK _ ?_; clear hK K)); (try with_reducible refine iC ?_)))
        simp only [go_sem, fN, ↓gI, ↓pI, seval, FinQ, AS.result, resAll, resOne, tupV]
        rw [Ty.chks_bad (k := k + 1) (by rw [Ty.chks_take ha hc]; exact hr), Ty.chks_take ha hc]
    · repeat' (first | (with_reducible first | refine W ?_ | refine Wk (by decide) ?_) | ((with_reducible first | refine Wo (fun K hK => ?_) | refine Wp ?_ | refine Wq ?_ | refine Wr ?_); (try simp only [go_sem, fN, ↓gI, ↓pI, seval, eT, iR, e38, e39, e40, s4, hlt, dT, dF, iL]); (repeat with_reducible refine And.intro (by first | omega | (with_reducible exact lens) | (simp [maxLen_eq] <;> omega)) ?_); (try (with_reducible refine hK _ ?_; clear hK K)); (try with_reducible refine iC ?_)))
      simp only [go_sem, fN, ↓gI, ↓pI, seval, FinQ, AS.result, resAll, resOne, tupV]
      rw [List.take_of_length_le (by omega)] at hc
      rw [hc]
  · repeat' (first | (with_reducible first | refine W ?_ | refine Wk (by decide) ?_) | ((with_reducible first | refine Wo (fun K hK => ?_) | refine Wp ?_ | refine Wq ?_ | refine Wr ?_); (try simp only [go_sem, fN, ↓gI, ↓pI, seval, eT, iR, h2, hb, dT, dF, iL]); (repeat with_reducible refine And.intro (by first | omega | (with_reducible exact lens) | (simp [maxLen_eq] <;> omega)) ?_); (try (with_reducible refine hK _ ?_; clear hK K)); (try with_reducible refine iC ?_)))
    refine IWP.loopD [4] (fun n s => ∃ k, k ≤ t.subs.length ∧ n = t.subs.length - k ∧ Ty.chks (t.subs.take k) = 0 ∧ s.env 38 = .one (.st (.list (t.subs.map encY))) ∧ s.env 39 = aInt t.subs.length ∧ s.env 40 = aInt k ∧ s.S 4 = none) t.subs.length ⟨0, Nat.zero_le _, rfl, rfl, rfl, by first | (simp only [go_sem, fN, ↓gI, ↓pI, seval, eT, iR, h2, hb]; done) | rfl, rfl, rfl⟩ ?_
    rintro n ⟨env, S⟩ ⟨k, hk', rfl, hc, e38, e39, e40, s4⟩
    simp only at e38 e39 e40 s4
    by_cases hlt : (k : Int) < t.subs.length
    · obtain ⟨a, ha⟩ := get_lt (show k < t.subs.length by omega)
      have z3 := Ty.size_mem (mem_of_get ha)
      repeat' (first | (with_reducible first | refine W ?_ | refine Wk (by decide) ?_) | ((with_reducible first | refine Wo (fun K hK => ?_) | refine Wp ?_ | refine Wq ?_ | refine Wr ?_); (try simp only [go_sem, fN, ↓gI, ↓pI, seval, eT, iR, e38, e39, e40, s4, ha, hlt, dT, dF, iL]); (repeat with_reducible refine And.intro (by first | omega | (with_reducible exact lens) | (simp [maxLen_eq] <;> omega)) ?_); (try (with_reducible refine hK _ ?_; clear hK K)); (try with_reducible refine iC ?_)))
      refine ⟨_, ih _ (Ty.lt_of_sub (mem_of_get ha)) a (by omega) rfl, ?_⟩
      by_cases hr : a.chk = 0
      · repeat' (first | (with_reducible first | refine W ?_ | refine Wk (by decide) ?_) | ((with_reducible first | refine Wo (fun K hK => ?_) | refine Wp ?_ | refine Wq ?_ | refine Wr ?_); (try simp only [go_sem, fN, ↓gI, ↓pI, seval, eT, iR, e38, e39, e40, s4, hr, dT, dF, iL]); (repeat with_reducible refine And.intro (by first | omega | (with_reducible exact lens) | (simp [maxLen_eq] <;> omega)) ?_); (try (with_reducible refine hK _ ?_; clear hK K)); (try with_reducible refine iC ?_)))
        refine then_normal ⟨t.subs.length - (k + 1), by omega, k + 1, by omega, rfl, ?_⟩
        simp only [go_sem, fN, ↓gI, ↓pI, seval, AS.drop, dropS, AC.clears, AC.clear, AC.highs, AC.high, Bool.not_false, Bool.true_and, Bool.and_self, AV.purge, AV.purges, AC.purge, ABlk.purge, List.contains_cons, List.contains_nil, Nat.reduceBEq, Bool.or_self, Bool.or_false, Bool.false_or, Bool.or_true, eT, iR, e38, e39, e40, s4, hr]
        exact ⟨by rw [Ty.chks_take ha hc, hr], by congr 3⟩
      · repeat' (first | (with_reducible first | refine W ?_ | refine Wk (by decide) ?_) | ((with_reducible first | refine Wo (fun K hK => ?_) | refine Wp ?_ | refine Wq ?_ | refine Wr ?_); (try simp only [go_sem, fN, ↓gI, ↓pI, seval, eT, iR, e38, e39, e40, s4, hr, dT, dF, iL]); (repeat with_reducible refine And.intro (by first | omega | (with_reducible exact lens) | (simp [maxLen_eq] <;> omega)) ?_); (try (with_reducible refine hK _ ?_; clear hK K)); (try with_reducible refine iC ?_)))
        simp only [go_sem, fN, ↓gI, ↓pI, seval, FinQ, AS.result, resAll, resOne, tupV]
        rw [Ty.chks_bad (k := k + 1) (by rw [Ty.chks_take ha hc]; exact hr), Ty.chks_take ha hc]
    · repeat' (first | (with_reducible first | refine W ?_ | refine Wk (by decide) ?_) | ((with_reducible first | refine Wo (fun K hK => ?_) | refine Wp ?_ | refine Wq ?_ | refine Wr ?_); (try simp only [go_sem, fN, ↓gI, ↓pI, seval, eT, iR, e38, e39, e40, s4, hlt, dT, dF, iL]); (repeat with_reducible refine And.intro (by first | omega | (with_reducible exact lens) | (simp [maxLen_eq] <;> omega)) ?_); (try (with_reducible refine hK _ ?_; clear hK K)); (try with_reducible refine iC ?_)))
      simp only [go_sem, fN, ↓gI, ↓pI, seval, FinQ, AS.result, resAll, resOne, tupV]
      rw [List.take_of_length_le (by omega)] at hc
      rw [hc]
theorem yCheck_a (t : Ty) : ACalls Tryz.prog 12 [aTy t] (aInt t.may) := by
  refine ac_infer_Check (Nat.le_of_ble_eq_true rfl) fun C hC => ?_
  unfold ir_infer_Check
  unfold Ty.may
  have hw := @lessBy_neg_iff t.size 200 (by decide)
  by_cases hz : 200 < t.size
  · have hz' := hw.2 (by omega)
    rw [if_pos hz]
    repeat' (first | (with_reducible first | refine W ?_ | refine Wk (by decide) ?_) | refine Cg _ (ywithin_a t 200 (by decide) (by decide)) ?_ | ((with_reducible first | refine Wo (fun K hK => ?_) | refine Wp ?_ | refine Wq ?_ | refine Wr ?_); (try simp only [go_sem, fN, ↓gI, ↓pI, seval, eT, iR, hz', dT, dF, iL]); (repeat with_reducible refine And.intro (by first | omega | (with_reducible exact lens) | (simp [maxLen_eq] <;> omega)) ?_); (try (with_reducible refine hK _ ?_; clear hK K)); (try with_reducible refine iC ?_)))
    simp only [go_sem, fN, ↓gI, ↓pI, seval, FinQ, AS.result, resAll, resOne, tupV]
  · have hz' : ¬ lessBy t.size 200 < 0 := fun h => hz (by have := hw.1 h; omega)
    rw [if_neg hz]
    repeat' (first | (with_reducible first | refine W ?_ | refine Wk (by decide) ?_) | refine Cg _ (ywithin_a t 200 (by decide) (by decide)) ?_ | refine Cg _ (ycheck_a t (by omega)) ?_ | ((with_reducible first | refine Wo (fun K hK => ?_) | refine Wp ?_ | refine Wq ?_ | refine Wr ?_); (try simp only [go_sem, fN, ↓gI, ↓pI, seval, eT, iR, hz', dT, dF, iL]); (repeat with_reducible refine And.intro (by first | omega | (with_reducible exact lens) | (simp [maxLen_eq] <;> omega)) ?_); (try (with_reducible refine hK _ ?_; clear hK K)); (try with_reducible refine iC ?_)))
    simp only [go_sem, fN, ↓gI, ↓pI, seval, FinQ, AS.result, resAll, resOne, tupV]
set_option maxHeartbeats 2000000 in
theorem ymayR_a (t : Ty) (hz : t.size ≤ 1000000000) : ACalls Tryz.prog 31 [aTy t] (aInt t.chk) := by
  induction h : SizeOf.sizeOf t using Nat.strongRecOn generalizing t with
  | _ N ih =>
  subst h
  have hs := Ty.size_eq t
  have hlen := Ty.length_le t.subs
  refine ac_R_typeMay (Nat.le_of_ble_eq_true rfl) fun C hC => ?_
  unfold ir_R_typeMay
  rw [Ty.chk_eq]
  rcases form_cases t with ⟨hf, h1⟩ | ⟨hf, h1⟩
  · rw [if_neg hf]
    rcases h1 with ⟨h0, h2⟩ | ⟨h2, hb⟩
    · repeat' (first | (with_reducible first | refine W ?_ | refine Wk (by decide) ?_) | ((with_reducible first | refine Wo (fun K hK => ?_) | refine Wp ?_ | refine Wq ?_ | refine Wr ?_); (try simp only [go_sem, fN, ↓gI, ↓pI, seval, eT, iR, h0, h2, dT, dF, iL]); (repeat with_reducible refine And.intro (by first | omega | (with_reducible exact lens) | (simp [maxLen_eq] <;> omega)) ?_); (try (with_reducible refine hK _ ?_; clear hK K)); (try with_reducible refine iC ?_)))
      simp only [go_sem, fN, ↓gI, ↓pI, seval, FinQ, AS.result, resAll, resOne, tupV]
    · repeat' (first | (with_reducible first | refine W ?_ | refine Wk (by decide) ?_) | ((with_reducible first | refine Wo (fun K hK => ?_) | refine Wp ?_ | refine Wq ?_ | refine Wr ?_); (try simp only [go_sem, fN, ↓gI, ↓pI, seval, eT, iR, h2, hb, dT, dF, iL]); (repeat with_reducible refine And.intro (by first | omega | (with_reducible exact lens) | (simp [maxLen_eq] <;> omega)) ?_); (try (with_reducible refine hK _ ?_; clear hK K)); (try with_reducible refine iC ?_)))
      simp only [go_sem, fN, ↓gI, ↓pI, seval, FinQ, AS.result, resAll, resOne, tupV]
  rw [if_pos hf]
  by_cases hr : 0 ≤ t.base ∧ t.base ≤ 999
  case neg =>
    rw [if_neg hr]
    by_cases hn : t.base < 0
    · rcases h1 with h0 | ⟨h2, hb⟩
      · repeat' (first | (with_reducible first | refine W ?_ | refine Wk (by decide) ?_) | ((with_reducible first | refine Wo (fun K hK => ?_) | refine Wp ?_ | refine Wq ?_ | refine Wr ?_); (try simp only [go_sem, fN, ↓gI, ↓pI, seval, eT, iR, h0, hn, dT, dF, iL]); (repeat with_reducible refine And.intro (by first | omega | (with_reducible exact lens) | (simp [maxLen_eq] <;> omega)) ?_); (try (with_reducible refine hK _ ?_; clear hK K)); (try with_reducible refine iC ?_)))
        simp only [go_sem, fN, ↓gI, ↓pI, seval, FinQ, AS.result, resAll, resOne, tupV]
      · omega
    · have h9 : 999 < t.base := by omega
      rcases h1 with h0 | ⟨h2, hb⟩
      · repeat' (first | (with_reducible first | refine W ?_ | refine Wk (by decide) ?_) | ((with_reducible first | refine Wo (fun K hK => ?_) | refine Wp ?_ | refine Wq ?_ | refine Wr ?_); (try simp only [go_sem, fN, ↓gI, ↓pI, seval, eT, iR, h0, hn, h9, dT, dF, iL]); (repeat with_reducible refine And.intro (by first | omega | (with_reducible exact lens) | (simp [maxLen_eq] <;> omega)) ?_); (try (with_reducible refine hK _ ?_; clear hK K)); (try with_reducible refine iC ?_)))
        simp only [go_sem, fN, ↓gI, ↓pI, seval, FinQ, AS.result, resAll, resOne, tupV]
      · omega
  rw [if_pos hr]
  have hn : ¬ t.base < 0 := by omega
  have h9 : ¬ 999 < t.base := by omega
  rcases h1 with h0 | ⟨h2, hb⟩
  · repeat' (first | (with_reducible first | refine W ?_ | refine Wk (by decide) ?_) | ((with_reducible first | refine Wo (fun K hK => ?_) | refine Wp ?_ | refine Wq ?_ | refine Wr ?_); (try simp only [go_sem, fN, ↓gI, ↓pI, seval, eT, iR, h0, hn, h9, dT, dF, iL]); (repeat with_reducible refine And.intro (by first | omega | (with_reducible exact lens) | (simp [maxLen_eq] <;> omega)) ?_); (try (with_reducible refine hK _ ?_; clear hK K)); (try with_reducible refine iC ?_)))
    refine IWP.loopD [] (fun n s => ∃ k, k ≤ t.subs.length ∧ n = t.subs.length - k ∧ Ty.chks (t.subs.take k) = 0 ∧ s.env 1 = .one (.ptr 1 1 0 0) ∧ s.env 3 = aInt k ∧ s.S 1 = some (.box 27 [.st (.int .i64 t.base), .st (.list (t.subs.map encY))])) t.subs.length ⟨0, Nat.zero_le _, rfl, rfl, rfl, rfl, rfl⟩ ?_
    rintro n ⟨env, S⟩ ⟨k, hk', rfl, hc, e1, e3, s1⟩
    simp only at e1 e3 s1
    by_cases hlt : (k : Int) < t.subs.length
    · obtain ⟨a, ha⟩ := get_lt (show k < t.subs.length by omega)
      have z3 := Ty.size_mem (mem_of_get ha)
      repeat' (first | (with_reducible first | refine W ?_ | refine Wk (by decide) ?_) | ((with_reducible first | refine Wo (fun K hK => ?_) | refine Wp ?_ | refine Wq ?_ | refine Wr ?_); (try simp only [go_sem, fN, ↓gI, ↓pI, seval, eT, iR, e1, e3, s1, ha, hlt, dT, dF, iL]); (repeat with_reducible refine And.intro (by first | omega | (with_reducible exact lens) | (simp [maxLen_eq] <;> omega)) ?_); (try (with_reducible refine hK _ ?_; clear hK K)); (try with_reducible refine iC ?_)))
      refine ⟨_, ih _ (Ty.lt_of_sub (mem_of_get ha)) a (by omega) rfl, ?_⟩
      by_cases hr : a.chk = 0
      · repeat' (first | (with_reducible first | refine W ?_ | refine Wk (by decide) ?_) | ((with_reducible first | refine Wo (fun K hK => ?_) | refine Wp ?_ | refine Wq ?_ | refine Wr ?_); (try simp only [go_sem, fN, ↓gI, ↓pI, seval, eT, iR, e1, e3, s1, hr, dT, dF, iL]); (repeat with_reducible refine And.intro (by first | omega | (with_reducible exact lens) | (simp [maxLen_eq] <;> omega)) ?_); (try (with_reducible refine hK _ ?_; clear hK K)); (try with_reducible refine iC ?_)))
        refine then_normal ⟨t.subs.length - (k + 1), by omega, k + 1, by omega, rfl, ?_⟩
        simp only [go_sem, fN, ↓gI, ↓pI, seval, AS.drop, dropS, AC.clears, AC.clear, AC.highs, AC.high, Bool.not_false, Bool.true_and, Bool.and_self, AV.purge, AV.purges, AC.purge, ABlk.purge, List.contains_cons, List.contains_nil, Nat.reduceBEq, Bool.or_self, Bool.or_false, Bool.false_or, Bool.or_true, eT, iR, e1, e3, s1, hr]
        exact ⟨by rw [Ty.chks_take ha hc, hr], by congr 3⟩
      · repeat' (first | (with_reducible first | refine W ?_ | refine Wk (by decide) ?_) | ((with_reducible first | refine Wo (fun K hK => ?_) | refine Wp ?_ | refine Wq ?_ | refine Wr ?_); (try simp only [go_sem, fN, ↓gI, ↓pI, seval, eT, iR, e1, e3, s1, hr, dT, dF, iL]); (repeat with_reducible refine And.intro (by first | omega | (with_reducible exact lens) | (simp [maxLen_eq] <;> omega)) ?_); (try (with_reducible refine hK _ ?_; clear hK K)); (try with_reducible refine iC ?_)))
        simp only [go_sem, fN, ↓gI, ↓pI, seval, FinQ, AS.result, resAll, resOne, tupV]
        rw [Ty.chks_bad (k := k + 1) (by rw [Ty.chks_take ha hc]; exact hr), Ty.chks_take ha hc]
    · repeat' (first | (with_reducible first | refine W ?_ | refine Wk (by decide) ?_) | ((with_reducible first | refine Wo (fun K hK => ?_) | refine Wp ?_ | refine Wq ?_ | refine Wr ?_); (try simp only [go_sem, fN, ↓gI, ↓pI, seval, eT, iR, e1, e3, s1, hlt, dT, dF, iL]); (repeat with_reducible refine And.intro (by first | omega | (with_reducible exact lens) | (simp [maxLen_eq] <;> omega)) ?_); (try (with_reducible refine hK _ ?_; clear hK K)); (try with_reducible refine iC ?_)))
      simp only [go_sem, fN, ↓gI, ↓pI, seval, FinQ, AS.result, resAll, resOne, tupV]
      rw [List.take_of_length_le (by omega)] at hc
      rw [hc]
  · repeat' (first | (with_reducible first | refine W ?_ | refine Wk (by decide) ?_) | ((with_reducible first | refine Wo (fun K hK => ?_) | refine Wp ?_ | refine Wq ?_ | refine Wr ?_); (try simp only [go_sem, fN, ↓gI, ↓pI, seval, eT, iR, h2, hb, dT, dF, iL]); (repeat with_reducible refine And.intro (by first | omega | (with_reducible exact lens) | (simp [maxLen_eq] <;> omega)) ?_); (try (with_reducible refine hK _ ?_; clear hK K)); (try with_reducible refine iC ?_)))
    refine IWP.loopD [] (fun n s => ∃ k, k ≤ t.subs.length ∧ n = t.subs.length - k ∧ Ty.chks (t.subs.take k) = 0 ∧ s.env 1 = .one (.ptr 1 1 0 0) ∧ s.env 3 = aInt k ∧ s.S 1 = some (.box 27 [.st (.int .i64 t.base), .st (.list (t.subs.map encY))])) t.subs.length ⟨0, Nat.zero_le _, rfl, rfl, rfl, rfl, by simp only [go_sem, fN, ↓gI, ↓pI, seval, eT, iR, hb]⟩ ?_
    rintro n ⟨env, S⟩ ⟨k, hk', rfl, hc, e1, e3, s1⟩
    simp only at e1 e3 s1
    by_cases hlt : (k : Int) < t.subs.length
    · obtain ⟨a, ha⟩ := get_lt (show k < t.subs.length by omega)
      have z3 := Ty.size_mem (mem_of_get ha)
      repeat' (first | (with_reducible first | refine W ?_ | refine Wk (by decide) ?_) | ((with_reducible first | refine Wo (fun K hK => ?_) | refine Wp ?_ | refine Wq ?_ | refine Wr ?_); (try simp only [go_sem, fN, ↓gI, ↓pI, seval, eT, iR, e1, e3, s1, ha, hlt, dT, dF, iL]); (repeat with_reducible refine And.intro (by first | omega | (with_reducible exact lens) | (simp [maxLen_eq] <;> omega)) ?_); (try (with_reducible refine hK _ ?_; clear hK K)); (try with_reducible refine iC ?_)))
      refine ⟨_, ih _ (Ty.lt_of_sub (mem_of_get ha)) a (by omega) rfl, ?_⟩
      by_cases hr : a.chk = 0
      · repeat' (first | (with_reducible first | refine W ?_ | refine Wk (by decide) ?_) | ((with_reducible first | refine Wo (fun K hK => ?_) | refine Wp ?_ | refine Wq ?_ | refine Wr ?_); (try simp only [go_sem, fN, ↓gI, ↓pI, seval, eT, iR, e1, e3, s1, hr, dT, dF, iL]); (repeat with_reducible refine And.intro (by first | omega | (with_reducible exact lens) | (simp [maxLen_eq] <;> omega)) ?_); (try (with_reducible refine hK _ ?_; clear hK K)); (try with_reducible refine iC ?_)))
        refine then_normal ⟨t.subs.length - (k + 1), by omega, k + 1, by omega, rfl, ?_⟩
        simp only [go_sem, fN, ↓gI, ↓pI, seval, AS.drop, dropS, AC.clears, AC.clear, AC.highs, AC.high, Bool.not_false, Bool.true_and, Bool.and_self, AV.purge, AV.purges, AC.purge, ABlk.purge, List.contains_cons, List.contains_nil, Nat.reduceBEq, Bool.or_self, Bool.or_false, Bool.false_or, Bool.or_true, eT, iR, e1, e3, s1, hr]
        exact ⟨by rw [Ty.chks_take ha hc, hr], by congr 3⟩
      · repeat' (first | (with_reducible first | refine W ?_ | refine Wk (by decide) ?_) | ((with_reducible first | refine Wo (fun K hK => ?_) | refine Wp ?_ | refine Wq ?_ | refine Wr ?_); (try simp only [go_sem, fN, ↓gI, ↓pI, seval, eT, iR, e1, e3, s1, hr, dT, dF, iL]); (repeat with_reducible refine And.intro (by first | omega | (with_reducible exact lens) | (simp [maxLen_eq] <;> omega)) ?_); (try (with_reducible refine hK _ ?_; clear hK K)); (try with_reducible refine iC ?_)))
        simp only [go_sem, fN, ↓gI, ↓pI, seval, FinQ, AS.result, resAll, resOne, tupV]
        rw [Ty.chks_bad (k := k + 1) (by rw [Ty.chks_take ha hc]; exact hr), Ty.chks_take ha hc]
    · repeat' (first | (with_reducible first | refine W ?_ | refine Wk (by decide) ?_) | ((with_reducible first | refine Wo (fun K hK => ?_) | refine Wp ?_ | refine Wq ?_ | refine Wr ?_); (try simp only [go_sem, fN, ↓gI, ↓pI, seval, eT, iR, e1, e3, s1, hlt, dT, dF, iL]); (repeat with_reducible refine And.intro (by first | omega | (with_reducible exact lens) | (simp [maxLen_eq] <;> omega)) ?_); (try (with_reducible refine hK _ ?_; clear hK K)); (try with_reducible refine iC ?_)))
      simp only [go_sem, fN, ↓gI, ↓pI, seval, FinQ, AS.result, resAll, resOne, tupV]
      rw [List.take_of_length_le (by omega)] at hc
      rw [hc]
theorem yMayR_a (t : Ty) : ACalls Tryz.prog 9 [aTy t] (aInt t.may) := by
  refine ac_R_TypeMay (Nat.le_of_ble_eq_true rfl) fun C hC => ?_
  unfold ir_R_TypeMay
  unfold Ty.may
  have hc : (200 < capTo t.size 200) ↔ 200 < t.size := by unfold capTo; split <;> omega
  by_cases hz : 200 < t.size
  · rw [if_pos hz]
    have hz' := hc.2 (by omega)
    repeat' (first | (with_reducible first | refine W ?_ | refine Wk (by decide) ?_) | refine Cg _ (ysizeR_a t 200 (by decide) (by decide)) ?_ | ((with_reducible first | refine Wo (fun K hK => ?_) | refine Wp ?_ | refine Wq ?_ | refine Wr ?_); (try simp only [go_sem, fN, ↓gI, ↓pI, seval, eT, iR, hz', dT, dF, iL]); (repeat with_reducible refine And.intro (by first | omega | (with_reducible exact lens) | (simp [maxLen_eq] <;> omega)) ?_); (try (with_reducible refine hK _ ?_; clear hK K)); (try with_reducible refine iC ?_)))
    simp only [go_sem, fN, ↓gI, ↓pI, seval, FinQ, AS.result, resAll, resOne, tupV]
  · rw [if_neg hz]
    have hz' : ¬ 200 < capTo t.size 200 := fun h => hz (hc.1 h)
    repeat' (first | (with_reducible first | refine W ?_ | refine Wk (by decide) ?_) | refine Cg _ (ysizeR_a t 200 (by decide) (by decide)) ?_ | refine Cg _ (ymayR_a t (by omega)) ?_ | ((with_reducible first | refine Wo (fun K hK => ?_) | refine Wp ?_ | refine Wq ?_ | refine Wr ?_); (try simp only [go_sem, fN, ↓gI, ↓pI, seval, eT, iR, hz', dT, dF, iL]); (repeat with_reducible refine And.intro (by first | omega | (with_reducible exact lens) | (simp [maxLen_eq] <;> omega)) ?_); (try (with_reducible refine hK _ ?_; clear hK K)); (try with_reducible refine iC ?_)))
    simp only [go_sem, fN, ↓gI, ↓pI, seval, FinQ, AS.result, resAll, resOne, tupV]
theorem sameTy_a (x y : BT) : ACalls Tryz.prog 18 [aTy x.ty, aTy y.ty] (aBool (decide (x = y))) := by
  induction h : SizeOf.sizeOf x using Nat.strongRecOn generalizing x y with
  | _ N ih =>
  subst h
  refine ac_R_SameType (Nat.le_of_ble_eq_true rfl) fun C hC => ?_
  unfold ir_R_SameType
  by_cases hb : x.ty.base = y.ty.base
  case neg =>
    have hne : ¬ x = y := fun e => hb (by rw [e])
    repeat' (first | (with_reducible first | refine W ?_ | refine Wk (by decide) ?_) | ((with_reducible first | refine Wo (fun K hK => ?_) | refine Wp ?_ | refine Wq ?_ | refine Wr ?_); (try simp only [go_sem, fN, ↓gI, ↓pI, seval, eT, iR, hb, dT, dF, iL]); (repeat with_reducible refine And.intro (by first | omega | (with_reducible exact lens) | (simp [maxLen_eq] <;> omega)) ?_); (try (with_reducible refine hK _ ?_; clear hK K)); (try with_reducible refine iC ?_)))
    simp only [go_sem, fN, ↓gI, ↓pI, seval, FinQ, AS.result, resAll, resOne, tupV, hne]
  by_cases hl : x.ty.subs.length = y.ty.subs.length
  case neg =>
    have hne : ¬ x = y := fun e => hl (by rw [e])
    have hl' : ¬ (x.ty.subs.length : Int) = y.ty.subs.length := by omega
    repeat' (first | (with_reducible first | refine W ?_ | refine Wk (by decide) ?_) | ((with_reducible first | refine Wo (fun K hK => ?_) | refine Wp ?_ | refine Wq ?_ | refine Wr ?_); (try simp only [go_sem, fN, ↓gI, ↓pI, seval, eT, iR, hb, hl', dT, dF, iL]); (repeat with_reducible refine And.intro (by first | omega | (with_reducible exact lens) | (simp [maxLen_eq] <;> omega)) ?_); (try (with_reducible refine hK _ ?_; clear hK K)); (try with_reducible refine iC ?_)))
    simp only [go_sem, fN, ↓gI, ↓pI, seval, FinQ, AS.result, resAll, resOne, tupV, hne]
  have hl' : (x.ty.subs.length : Int) = y.ty.subs.length := by omega
  have lx : x.ty.subs.length = x.sub.length := by rw [BT.ty_subs, List.length_map]
  have ly : y.ty.subs.length = y.sub.length := by rw [BT.ty_subs, List.length_map]
  have h2 : x.sub.length ≤ 2 := by cases x <;> simp [BT.sub]
  repeat' (first | (with_reducible first | refine W ?_ | refine Wk (by decide) ?_) | ((with_reducible first | refine Wo (fun K hK => ?_) | refine Wp ?_ | refine Wq ?_ | refine Wr ?_); (try simp only [go_sem, fN, ↓gI, ↓pI, seval, eT, iR, hb, hl', dT, dF, iL]); (repeat with_reducible refine And.intro (by first | omega | (with_reducible exact lens) | (simp [maxLen_eq] <;> omega)) ?_); (try (with_reducible refine hK _ ?_; clear hK K)); (try with_reducible refine iC ?_)))
  refine IWP.loopD [] (fun n s => ∃ k, k ≤ x.sub.length ∧ n = x.sub.length - k ∧ x.sub.take k = y.sub.take k ∧ s.env 2 = .one (.ptr 2 1 0 0) ∧ s.env 3 = .one (.ptr 3 1 0 0) ∧ s.env 5 = aInt k ∧ s.S 2 = some (.box 27 [.st (.int .i64 x.ty.base), .st (.list (x.ty.subs.map encY))]) ∧ s.S 3 = some (.box 27 [.st (.int .i64 y.ty.base), .st (.list (y.ty.subs.map encY))])) x.sub.length ⟨0, Nat.zero_le _, rfl, rfl, rfl, rfl, rfl, by simp only [go_sem, fN, ↓gI, ↓pI, seval, eT, iR, hb], by simp only [go_sem, fN, ↓gI, ↓pI, seval, eT, iR, hb]⟩ ?_
  rintro n ⟨env, S⟩ ⟨k, hk', rfl, hc, e2, e3, e5, s2, s3⟩
  simp only at e2 e3 e5 s2 s3
  by_cases hlt : (k : Int) < x.ty.subs.length
  · obtain ⟨a, ha⟩ := get_lt (show k < x.sub.length by omega)
    obtain ⟨b, hb'⟩ := get_lt (show k < y.sub.length by omega)
    have ha' : x.ty.subs[k]? = some a.ty := by rw [BT.ty_subs, List.getElem?_map, ha]; rfl
    have hb'' : y.ty.subs[k]? = some b.ty := by rw [BT.ty_subs, List.getElem?_map, hb']; rfl
    repeat' (first | (with_reducible first | refine W ?_ | refine Wk (by decide) ?_) | ((with_reducible first | refine Wo (fun K hK => ?_) | refine Wp ?_ | refine Wq ?_ | refine Wr ?_); (try simp only [go_sem, fN, ↓gI, ↓pI, seval, eT, iR, e2, e3, e5, s2, s3, ha', hb'', hlt, dT, dF, iL]); (repeat with_reducible refine And.intro (by first | omega | (with_reducible exact lens) | (simp [maxLen_eq] <;> omega)) ?_); (try (with_reducible refine hK _ ?_; clear hK K)); (try with_reducible refine iC ?_)))
    refine ⟨_, ih _ (BT.lt_sub (mem_of_get ha)) a b rfl, ?_⟩
    by_cases hab : a = b
    · subst hab
      repeat' (first | (with_reducible first | refine W ?_ | refine Wk (by decide) ?_) | ((with_reducible first | refine Wo (fun K hK => ?_) | refine Wp ?_ | refine Wq ?_ | refine Wr ?_); (try simp only [go_sem, fN, ↓gI, ↓pI, seval, eT, iR, e2, e3, e5, s2, s3, dT, dF, iL]); (repeat with_reducible refine And.intro (by first | omega | (with_reducible exact lens) | (simp [maxLen_eq] <;> omega)) ?_); (try (with_reducible refine hK _ ?_; clear hK K)); (try with_reducible refine iC ?_)))
      refine then_normal ⟨x.sub.length - (k + 1), by omega, k + 1, by omega, rfl, ?_⟩
      simp only [go_sem, fN, ↓gI, ↓pI, seval, AS.drop, dropS, AC.clears, AC.clear, AC.highs, AC.high, Bool.not_false, Bool.true_and, Bool.and_self, AV.purge, AV.purges, AC.purge, ABlk.purge, List.contains_cons, List.contains_nil, Nat.reduceBEq, Bool.or_self, Bool.or_false, Bool.false_or, Bool.or_true, eT, iR, e2, e3, e5, s2, s3]
      exact ⟨by rw [take_snoc ha, take_snoc hb', hc], by congr 3⟩
    · have hne : ¬ x = y := fun e => hab (by
        subst e
        rw [ha] at hb'
        exact Option.some.inj hb')
      repeat' (first | (with_reducible first | refine W ?_ | refine Wk (by decide) ?_) | ((with_reducible first | refine Wo (fun K hK => ?_) | refine Wp ?_ | refine Wq ?_ | refine Wr ?_); (try simp only [go_sem, fN, ↓gI, ↓pI, seval, eT, iR, hab, dT, dF, iL]); (repeat with_reducible refine And.intro (by first | omega | (with_reducible exact lens) | (simp [maxLen_eq] <;> omega)) ?_); (try (with_reducible refine hK _ ?_; clear hK K)); (try with_reducible refine iC ?_)))
      simp only [go_sem, fN, ↓gI, ↓pI, seval, FinQ, AS.result, resAll, resOne, tupV, hne]
  · have he : x = y := BT.eq_of hb (by rw [List.take_of_length_le (by omega), List.take_of_length_le (by omega)] at hc; exact hc)
    repeat' (first | (with_reducible first | refine W ?_ | refine Wk (by decide) ?_) | ((with_reducible first | refine Wo (fun K hK => ?_) | refine Wp ?_ | refine Wq ?_ | refine Wr ?_); (try simp only [go_sem, fN, ↓gI, ↓pI, seval, eT, iR, e2, e3, e5, s2, s3, hlt, dT, dF, iL]); (repeat with_reducible refine And.intro (by first | omega | (with_reducible exact lens) | (simp [maxLen_eq] <;> omega)) ?_); (try (with_reducible refine hK _ ?_; clear hK K)); (try with_reducible refine iC ?_)))
    simp only [go_sem, fN, ↓gI, ↓pI, seval, FinQ, AS.result, resAll, resOne, tupV, he]
theorem typeText_a (x : BT) (hl : x.low 1000000) (hz : x.sz ≤ 1000000) : ACalls Tryz.prog 10 [aTy x.ty] (aStr x.txt) := by
  induction x with
  | b n =>
    have z1 := decS_size_le (n := n) hl
    have z2 : (⟨#[97]⟩ : ByteArray).size = 1 := rfl
    refine ac_R_TypeText (Nat.le_of_ble_eq_true rfl) fun C hC => ?_
    unfold ir_R_TypeText
    repeat' (first | (with_reducible first | refine W ?_ | refine Wk (by decide) ?_) | refine Cg _ (decR_a n hl) ?_ | ((with_reducible first | refine Wo (fun K hK => ?_) | refine Wp ?_ | refine Wq ?_ | refine Wr ?_); (try simp only [go_sem, fN, ↓gI, ↓pI, seval, eT, iR, z2, dT, dF, iL]); (repeat with_reducible refine And.intro (by first | omega | (with_reducible exact lens) | (simp [maxLen_eq] <;> omega)) ?_); (try (with_reducible refine hK _ ?_; clear hK K)); (try with_reducible refine iC ?_)))
    simp only [go_sem, fN, ↓gI, ↓pI, seval, FinQ, AS.result, resAll, resOne, tupV, BT.txt]
  | a u v iu iv =>
    simp only [BT.sz] at hz
    have hu := iu hl.1 (by omega)
    have hv := iv hl.2 (by omega)
    have zu := BT.txt_size hl.1
    have zv := BT.txt_size hl.2
    have e1 : (⟨#[62]⟩ : ByteArray).size = 1 := rfl
    have e2 : (⟨#[40]⟩ : ByteArray).size = 1 := rfl
    have e3 : (⟨#[41]⟩ : ByteArray).size = 1 := rfl
    refine ac_R_TypeText (Nat.le_of_ble_eq_true rfl) fun C hC => ?_
    unfold ir_R_TypeText
    cases u with
    | b n =>
      repeat' (first | (with_reducible first | refine W ?_ | refine Wk (by decide) ?_) | refine Cg _ (hu) ?_ | refine Cg _ (hv) ?_ | ((with_reducible first | refine Wo (fun K hK => ?_) | refine Wp ?_ | refine Wq ?_ | refine Wr ?_); (try simp only [go_sem, fN, ↓gI, ↓pI, seval, eT, iR, e1, e2, e3, ByteArray.size_append, dT, dF, iL]); (repeat with_reducible refine And.intro (by first | omega | (with_reducible exact lens) | (simp [maxLen_eq] <;> omega)) ?_); (try (with_reducible refine hK _ ?_; clear hK K)); (try with_reducible refine iC ?_)))
      rw [BT.txt_ab]
      exact ⟨trivial, rfl⟩
    | a p q =>
      have hu : ACalls Tryz.prog 10 [.agg [.st (.int .i64 0), .st (.list [encY p.ty, encY q.ty])]] (aStr (BT.a p q).txt) := hu
      rw [encY_eq, encY_eq] at hu
      repeat' (first | (with_reducible first | refine W ?_ | refine Wk (by decide) ?_) | refine Cg _ (hu) ?_ | refine Cg _ (hv) ?_ | ((with_reducible first | refine Wo (fun K hK => ?_) | refine Wp ?_ | refine Wq ?_ | refine Wr ?_); (try simp only [go_sem, fN, ↓gI, ↓pI, seval, eT, iR, e1, e2, e3, ByteArray.size_append, dT, dF, iL]); (repeat with_reducible refine And.intro (by first | omega | (with_reducible exact lens) | (simp [maxLen_eq] <;> omega)) ?_); (try (with_reducible refine hK _ ?_; clear hK K)); (try with_reducible refine iC ?_)))
      rw [BT.txt_aa]
      exact ⟨trivial, rfl⟩
end Go.Proofs.YtehnjhkndbcmgaaGreatDoor
