/-
  Part 12 of the texts: BInf1; BInf2. Conditions: none.
-/
import Derived.Test.YtehnjhkndbcmgaaGreatDoorInM11
namespace Go.Proofs.YtehnjhkndbcmgaaGreatDoor
open Go Go.RowKit
set_option linter.unusedVariables false
set_option linter.unusedSimpArgs false
set_option maxHeartbeats 1000000
theorem ywithin_a (t : Ty) (m : Int) (h0 : 0 ≤ m) (h1 : m ≤ 9223372036854775807) : ACalls Tryz.prog 34 [aTy t, aInt m] (aInt (lessBy t.size m)) := by
  induction h : SizeOf.sizeOf t using Nat.strongRecOn generalizing t m with
  | _ N ih =>
  subst h
  have hs := Ty.size_eq t
  refine ac_infer_within (Nat.le_of_ble_eq_true rfl) fun C hC => ?_
  unfold ir_infer_within
  refine IWP.learn 0 (by omega) fun hkn => ?_
  have hkn := (known_ty hkn).2
  repeat' (first | (with_reducible first | refine W ?_ | refine Wk (by decide) ?_) | ((with_reducible first | refine Wo (fun K hK => ?_) | refine Wq ?_ | refine Wr ?_); (try simp only [go_sem, fN, ↓gI, ↓pI, seval, eT, iR]); (repeat with_reducible refine And.intro (by first | omega | exact lens | (simp [maxLen_eq] <;> omega)) ?_); (try (refine hK _ ?_; clear hK K))))
  refine IWP.loopD [6] (fun n s => ∃ k, k ≤ t.subs.length ∧ n = t.subs.length - k ∧ s.env 1 = aInt (lessBy (1 + Ty.sizes (t.subs.take k)) m) ∧ s.env 10 = .one (.st (.list (t.subs.map encY))) ∧ s.env 11 = aInt t.subs.length ∧ s.env 12 = aInt k ∧ s.S 6 = none) t.subs.length ⟨0, Nat.zero_le _, rfl, by
    simp only [go_sem, fN, ↓gI, ↓pI, seval, eT, iR]
    rw [lessBy]
    have z0 : Ty.sizes [] = 0 := rfl
    congr 3
    split <;> omega, rfl, rfl, rfl, rfl⟩ ?_
  rintro n ⟨env, S⟩ ⟨k, hk, rfl, e1, e10, e11, e12, s6⟩
  simp only at e1 e10 e11 e12 s6
  repeat' (first | (with_reducible first | refine W ?_ | refine Wk (by decide) ?_) | ((with_reducible first | refine Wo (fun K hK => ?_) | refine Wq ?_ | refine Wr ?_); (try simp only [go_sem, fN, ↓gI, ↓pI, seval, eT, iR, e1, e10, e11, e12, s6]); (repeat with_reducible refine And.intro (by first | omega | exact lens | (simp [maxLen_eq] <;> omega)) ?_); (try (refine hK _ ?_; clear hK K))))
  with_reducible refine Wp ?_
  simp only [go_sem, fN, ↓gI, ↓pI, seval, true_implies, false_implies, implies_true, dT, dF, nL, e1, e10, e11, e12, s6]
  (try with_reducible refine iC ?_)
  refine ⟨fun hlt => ?_, fun hge => ?_⟩
  · obtain ⟨a, ha⟩ := get_lt (show k < t.subs.length by omega)
    have z1 := Ty.sizes_take ha
    have z2 := Ty.sizes_take_le t.subs (k + 1)
    have z3 := Ty.length_le t.subs
    have z4 := lessBy_le (1 + Ty.sizes (t.subs.take k)) m h0
    repeat' (first | (with_reducible first | refine W ?_ | refine Wk (by decide) ?_) | ((with_reducible first | refine Wo (fun K hK => ?_) | refine Wq ?_ | refine Wr ?_); (try simp only [go_sem, fN, ↓gI, ↓pI, seval, eT, iR, e1, e10, e11, e12, s6, ha]); (repeat with_reducible refine And.intro (by first | omega | exact lens | (simp [maxLen_eq] <;> omega)) ?_); (try (refine hK _ ?_; clear hK K))))
    with_reducible refine Wp ?_
    simp only [go_sem, fN, ↓gI, ↓pI, seval, true_implies, false_implies, implies_true, dT, dF, nL, e1]
    (try with_reducible refine iC ?_)
    refine ⟨fun hb => ?_, fun hb => ?_⟩
    · repeat' (first | (with_reducible first | refine W ?_ | refine Wk (by decide) ?_) | ((with_reducible first | refine Wo (fun K hK => ?_) | refine Wq ?_ | refine Wr ?_); (try simp only [go_sem, fN, ↓gI, ↓pI, seval, eT, iR, e1]); (repeat with_reducible refine And.intro (by first | omega | exact lens | (simp [maxLen_eq] <;> omega)) ?_); (try (refine hK _ ?_; clear hK K))))
      simp only [go_sem, fN, ↓gI, ↓pI, seval, FinQ, AS.result, resAll, resOne, tupV, e1]
      rw [lessBy_neg hb (show _ ≤ t.size by rw [hs]; omega)]
    · repeat' (first | (with_reducible first | refine W ?_ | refine Wk (by decide) ?_) | refine Cg _ (ih _ (Ty.lt_of_sub (mem_of_get ha)) a _ (by omega) (by omega) rfl) ?_ | ((with_reducible first | refine Wo (fun K hK => ?_) | refine Wq ?_ | refine Wr ?_); (try simp only [go_sem, fN, ↓gI, ↓pI, seval, eT, iR, e1, e10, e11, e12, s6, ha]); (repeat with_reducible refine And.intro (by first | omega | exact lens | (simp [maxLen_eq] <;> omega)) ?_); (try (refine hK _ ?_; clear hK K))))
      refine then_normal ⟨t.subs.length - (k + 1), by omega, k + 1, by omega, rfl, ?_⟩
      simp only [go_sem, fN, ↓gI, ↓pI, seval, AS.drop, dropS, AC.clears, AC.clear, AC.highs, AC.high, Bool.not_false, Bool.true_and, Bool.and_self, AV.purge, AV.purges, AC.purge, ABlk.purge, List.contains_cons, List.contains_nil, Nat.reduceBEq, Bool.or_self, Bool.or_false, Bool.false_or, Bool.or_true, eT, iR, e1, e10, e11, e12, s6]
      exact ⟨by rw [lessBy_step (by omega), z1]; congr 4; omega, by congr 3⟩
  · repeat' (first | (with_reducible first | refine W ?_ | refine Wk (by decide) ?_) | ((with_reducible first | refine Wo (fun K hK => ?_) | refine Wq ?_ | refine Wr ?_); (try simp only [go_sem, fN, ↓gI, ↓pI, seval, eT, iR, e1]); (repeat with_reducible refine And.intro (by first | omega | exact lens | (simp [maxLen_eq] <;> omega)) ?_); (try (refine hK _ ?_; clear hK K))))
    simp only [go_sem, fN, ↓gI, ↓pI, seval, FinQ, AS.result, resAll, resOne, tupV, e1]
    rw [List.take_of_length_le (by omega), hs]
theorem ysizeR_a (t : Ty) (m : Int) (h0 : 0 ≤ m) (h1 : m ≤ 9223372036854775806) : ACalls Tryz.prog 24 [aTy t, aInt m] (aInt (capTo t.size m)) := by
  induction h : SizeOf.sizeOf t using Nat.strongRecOn generalizing t m with
  | _ N ih =>
  subst h
  have hs := Ty.size_eq t
  refine ac_R_TypeSize (Nat.le_of_ble_eq_true rfl) fun C hC => ?_
  unfold ir_R_TypeSize
  refine IWP.learn 0 (by omega) fun hkn => ?_
  have hkn := (known_ty hkn).2
  repeat' (first | (with_reducible first | refine W ?_ | refine Wk (by decide) ?_) | ((with_reducible first | refine Wo (fun K hK => ?_) | refine Wq ?_ | refine Wr ?_); (try simp only [go_sem, fN, ↓gI, ↓pI, seval, eT, iR]); (repeat with_reducible refine And.intro (by first | omega | exact lens | (simp [maxLen_eq] <;> omega)) ?_); (try (refine hK _ ?_; clear hK K))))
  refine IWP.loop (fun n s => ∃ k, k ≤ t.subs.length ∧ n = t.subs.length - k ∧ s.env 5 = aInt (capTo (1 + Ty.sizes (t.subs.take k)) m) ∧ s.env 1 = aInt m ∧ s.env 2 = .one (.ptr 2 1 0 0) ∧ s.env 6 = aInt k ∧ s.S 2 = some (.box 27 [.st (.int .i64 t.base), .st (.list (t.subs.map encY))])) t.subs.length ⟨0, Nat.zero_le _, rfl, by
    simp only [go_sem, fN, ↓gI, ↓pI, seval, eT, iR]
    rw [capTo]
    have z0 : Ty.sizes [] = 0 := rfl
    congr 3
    split <;> omega, rfl, rfl, rfl, rfl⟩ ?_
  rintro n ⟨env, S⟩ ⟨k, hk, rfl, e5, e1, e2, e6, s2⟩
  simp only at e5 e1 e2 e6 s2
  have z4 := capTo_le (1 + Ty.sizes (t.subs.take k)) m h0
  by_cases hlt : (k : Int) < t.subs.length
  · obtain ⟨a, ha⟩ := get_lt (show k < t.subs.length by omega)
    have z1 := Ty.sizes_take ha
    have z2 := Ty.sizes_take_le t.subs (k + 1)
    by_cases hb : m < capTo (1 + Ty.sizes (t.subs.take k)) m
    · have hb' : ¬ capTo (1 + Ty.sizes (t.subs.take k)) m ≤ m := by omega
      repeat' (first | (with_reducible first | refine W ?_ | refine Wk (by decide) ?_) | ((with_reducible first | refine Wo (fun K hK => ?_) | refine Wq ?_ | refine Wr ?_); (try simp only [go_sem, fN, ↓gI, ↓pI, seval, eT, iR, e5, e1, e2, e6, s2, hlt, hb']); (repeat with_reducible refine And.intro (by first | omega | exact lens | (simp [maxLen_eq] <;> omega)) ?_); (try (refine hK _ ?_; clear hK K))))
      with_reducible refine Wp ?_
      simp only [go_sem, fN, ↓gI, ↓pI, seval, true_implies, false_implies, implies_true, dT, dF, nL, hb']
      (try with_reducible refine iC ?_)
      repeat' (first | (with_reducible first | refine W ?_ | refine Wk (by decide) ?_) | ((with_reducible first | refine Wo (fun K hK => ?_) | refine Wq ?_ | refine Wr ?_); (try simp only [go_sem, fN, ↓gI, ↓pI, seval, eT, iR, e5, e1, e2, e6, s2]); (repeat with_reducible refine And.intro (by first | omega | exact lens | (simp [maxLen_eq] <;> omega)) ?_); (try (refine hK _ ?_; clear hK K))))
      with_reducible refine Wp ?_
      simp only [go_sem, fN, ↓gI, ↓pI, seval, true_implies, false_implies, implies_true, dT, dF, nL, hb]
      (try with_reducible refine iC ?_)
      repeat' (first | (with_reducible first | refine W ?_ | refine Wk (by decide) ?_) | ((with_reducible first | refine Wo (fun K hK => ?_) | refine Wq ?_ | refine Wr ?_); (try simp only [go_sem, fN, ↓gI, ↓pI, seval, eT, iR, e1]); (repeat with_reducible refine And.intro (by first | omega | exact lens | (simp [maxLen_eq] <;> omega)) ?_); (try (refine hK _ ?_; clear hK K))))
      simp only [go_sem, fN, ↓gI, ↓pI, seval, FinQ, AS.result, resAll, resOne, tupV]
      rw [capTo_over hb (show _ ≤ t.size by rw [hs]; omega)]
    · have hb' : capTo (1 + Ty.sizes (t.subs.take k)) m ≤ m := by omega
      obtain ⟨b1, b2⟩ := capTo_in hb
      repeat' (first | (with_reducible first | refine W ?_ | refine Wk (by decide) ?_) | ((with_reducible first | refine Wo (fun K hK => ?_) | refine Wq ?_ | refine Wr ?_); (try simp only [go_sem, fN, ↓gI, ↓pI, seval, eT, iR, e5, e1, e2, e6, s2, hlt, hb']); (repeat with_reducible refine And.intro (by first | omega | exact lens | (simp [maxLen_eq] <;> omega)) ?_); (try (refine hK _ ?_; clear hK K))))
      with_reducible refine Wp ?_
      simp only [go_sem, fN, ↓gI, ↓pI, seval, true_implies, false_implies, implies_true, dT, dF, nL, hb']
      (try with_reducible refine iC ?_)
      repeat' (first | (with_reducible first | refine W ?_ | refine Wk (by decide) ?_) | ((with_reducible first | refine Wo (fun K hK => ?_) | refine Wq ?_ | refine Wr ?_); (try simp only [go_sem, fN, ↓gI, ↓pI, seval, eT, iR, e5, e1, e2, e6, s2, ha]); (repeat with_reducible refine And.intro (by first | omega | exact lens | (simp [maxLen_eq] <;> omega)) ?_); (try (refine hK _ ?_; clear hK K))))
      refine ⟨_, ih _ (Ty.lt_of_sub (mem_of_get ha)) a (m - capTo (1 + Ty.sizes (t.subs.take k)) m) (by omega) (by omega) rfl, ?_⟩
      have z5 := capTo_le a.size (m - capTo (1 + Ty.sizes (t.subs.take k)) m) (by omega)
      repeat' (first | (with_reducible first | refine W ?_ | refine Wk (by decide) ?_) | ((with_reducible first | refine Wo (fun K hK => ?_) | refine Wq ?_ | refine Wr ?_); (try simp only [go_sem, fN, ↓gI, ↓pI, seval, eT, iR, e5, e1, e2, e6, s2]); (repeat with_reducible refine And.intro (by first | omega | exact lens | (simp [maxLen_eq] <;> omega)) ?_); (try (refine hK _ ?_; clear hK K))))
      refine then_normal ⟨t.subs.length - (k + 1), by omega, k + 1, by omega, rfl, ?_⟩
      simp only [go_sem, fN, ↓gI, ↓pI, seval, eT, iR, e5, e1, e2, e6, s2]
      exact ⟨by rw [b1, capTo_step b2, z1]; congr 4; omega, by congr 3⟩
  · repeat' (first | (with_reducible first | refine W ?_ | refine Wk (by decide) ?_) | ((with_reducible first | refine Wo (fun K hK => ?_) | refine Wq ?_ | refine Wr ?_); (try simp only [go_sem, fN, ↓gI, ↓pI, seval, eT, iR, e5, e1, e2, e6, s2, hlt]); (repeat with_reducible refine And.intro (by first | omega | exact lens | (simp [maxLen_eq] <;> omega)) ?_); (try (refine hK _ ?_; clear hK K))))
    with_reducible refine Wp ?_
    simp only [go_sem, fN, ↓gI, ↓pI, seval, true_implies, false_implies, implies_true, dT, dF, nL]
    (try with_reducible refine iC ?_)
    have hfull : 1 + Ty.sizes (t.subs.take k) = t.size := by rw [List.take_of_length_le (by omega), hs]
    rw [hfull] at e5 z4
    repeat' (first | (with_reducible first | refine W ?_ | refine Wk (by decide) ?_) | ((with_reducible first | refine Wo (fun K hK => ?_) | refine Wq ?_ | refine Wr ?_); (try simp only [go_sem, fN, ↓gI, ↓pI, seval, eT, iR, e5, e1]); (repeat with_reducible refine And.intro (by first | omega | exact lens | (simp [maxLen_eq] <;> omega)) ?_); (try (refine hK _ ?_; clear hK K))))
    by_cases hb : m < capTo t.size m
    · with_reducible refine Wp ?_
      simp only [go_sem, fN, ↓gI, ↓pI, seval, true_implies, false_implies, implies_true, dT, dF, nL, hb]
      (try with_reducible refine iC ?_)
      repeat' (first | (with_reducible first | refine W ?_ | refine Wk (by decide) ?_) | ((with_reducible first | refine Wo (fun K hK => ?_) | refine Wq ?_ | refine Wr ?_); (try simp only [go_sem, fN, ↓gI, ↓pI, seval, eT, iR, e1]); (repeat with_reducible refine And.intro (by first | omega | exact lens | (simp [maxLen_eq] <;> omega)) ?_); (try (refine hK _ ?_; clear hK K))))
      simp only [go_sem, fN, ↓gI, ↓pI, seval, FinQ, AS.result, resAll, resOne, tupV]
      rw [capTo_over hb (Nat.le_refl _)]
    · with_reducible refine Wp ?_
      simp only [go_sem, fN, ↓gI, ↓pI, seval, true_implies, false_implies, implies_true, dT, dF, nL, hb]
      (try with_reducible refine iC ?_)
      repeat' (first | (with_reducible first | refine W ?_ | refine Wk (by decide) ?_) | ((with_reducible first | refine Wo (fun K hK => ?_) | refine Wq ?_ | refine Wr ?_); (try simp only [go_sem, fN, ↓gI, ↓pI, seval, eT, iR, e5]); (repeat with_reducible refine And.intro (by first | omega | exact lens | (simp [maxLen_eq] <;> omega)) ?_); (try (refine hK _ ?_; clear hK K))))
      simp only [go_sem, fN, ↓gI, ↓pI, seval, FinQ, AS.result, resAll, resOne, tupV, e5]
theorem hugeType_a (t : Ty) : ACalls Tryz.prog 8 [aTy t] (aBool (decide (3000 < t.size))) := by
  refine ac_L_hugeType (Nat.le_of_ble_eq_true rfl) fun C hC => ?_
  unfold ir_L_hugeType
  repeat' (first | (with_reducible first | refine W ?_ | refine Wk (by decide) ?_) | ((with_reducible first | refine Wo (fun K hK => ?_) | refine Wp ?_ | refine Wq ?_ | refine Wr ?_); (try simp only [go_sem, fN, ↓gI, ↓pI, seval, eT, iR, dT, dF, nL]); (repeat with_reducible refine And.intro (by first | omega | exact lens | (simp [maxLen_eq] <;> omega)) ?_); (try (refine hK _ ?_; clear hK K)); (try with_reducible refine iC ?_)))
  refine ⟨_, ysizeR_a t 3000 (by decide) (by decide), ?_⟩
  have hz : (3000 < capTo t.size 3000) ↔ 3000 < t.size := by unfold capTo; split <;> omega
  repeat' (first | (with_reducible first | refine W ?_ | refine Wk (by decide) ?_) | ((with_reducible first | refine Wo (fun K hK => ?_) | refine Wp ?_ | refine Wq ?_ | refine Wr ?_); (try simp only [go_sem, fN, ↓gI, ↓pI, seval, eT, iR, hz, dT, dF, nL]); (repeat with_reducible refine And.intro (by first | omega | exact lens | (simp [maxLen_eq] <;> omega)) ?_); (try (refine hK _ ?_; clear hK K)); (try with_reducible refine iC ?_)))
  simp only [go_sem, fN, ↓gI, ↓pI, seval, FinQ, AS.result, resAll, resOne, tupV]
theorem form_cases (t : Ty) : (¬ (t.subs.length = 0 ∨ (t.subs.length = 2 ∧ t.base = 0)) ∧ ((¬ (t.subs.length : Int) = 0 ∧ ¬ (t.subs.length : Int) = 2) ∨ ((t.subs.length : Int) = 2 ∧ ¬ t.base = 0))) ∨ ((t.subs.length = 0 ∨ (t.subs.length = 2 ∧ t.base = 0)) ∧ ((t.subs.length : Int) = 0 ∨ ((t.subs.length : Int) = 2 ∧ t.base = 0))) := by
  by_cases h0 : t.subs.length = 0 <;> by_cases h2 : t.subs.length = 2 <;> by_cases hb : t.base = 0 <;> omega
set_option maxHeartbeats 2000000 in
theorem ycheck_a (t : Ty) (hz : t.size ≤ 1000000000) : ACalls Tryz.prog 35 [aTy t] (aInt t.chk) := by
  induction h : SizeOf.sizeOf t using Nat.strongRecOn generalizing t with
  | _ N ih =>
  subst h
  have hs := Ty.size_eq t
  have hlen := Ty.length_le t.subs
  refine ac_infer_check (Nat.le_of_ble_eq_true rfl) fun C hC => ?_
  unfold ir_infer_check
  rw [Ty.chk_eq]
  rcases form_cases t with ⟨hf, h1⟩ | ⟨hf, h1⟩
  · rw [if_neg hf]
    rcases h1 with ⟨h0, h2⟩ | ⟨h2, hb⟩
    · repeat' (first | (with_reducible first | refine W ?_ | refine Wk (by decide) ?_) | ((with_reducible first | refine Wo (fun K hK => ?_) | refine Wp ?_ | refine Wq ?_ | refine Wr ?_); (try simp only [go_sem, fN, ↓gI, ↓pI, seval, eT, iR, h0, h2, dT, dF, nL]); (repeat with_reducible refine And.intro (by first | omega | exact lens | (simp [maxLen_eq] <;> omega)) ?_); (try (refine hK _ ?_; clear hK K)); (try with_reducible refine iC ?_)))
      simp only [go_sem, fN, ↓gI, ↓pI, seval, FinQ, AS.result, resAll, resOne, tupV]
    · repeat' (first | (with_reducible first | refine W ?_ | refine Wk (by decide) ?_) | ((with_reducible first | refine Wo (fun K hK => ?_) | refine Wp ?_ | refine Wq ?_ | refine Wr ?_); (try simp only [go_sem, fN, ↓gI, ↓pI, seval, eT, iR, h2, hb, dT, dF, nL]); (repeat with_reducible refine And.intro (by first | omega | exact lens | (simp [maxLen_eq] <;> omega)) ?_); (try (refine hK _ ?_; clear hK K)); (try with_reducible refine iC ?_)))
      simp only [go_sem, fN, ↓gI, ↓pI, seval, FinQ, AS.result, resAll, resOne, tupV]
  rw [if_pos hf]
  by_cases hr : 0 ≤ t.base ∧ t.base ≤ 999
  case neg =>
    rw [if_neg hr]
    by_cases hn : t.base < 0
    · rcases h1 with h0 | ⟨h2, hb⟩
      · repeat' (first | (with_reducible first | refine W ?_ | refine Wk (by decide) ?_) | ((with_reducible first | refine Wo (fun K hK => ?_) | refine Wp ?_ | refine Wq ?_ | refine Wr ?_); (try simp only [go_sem, fN, ↓gI, ↓pI, seval, eT, iR, h0, hn, dT, dF, nL]); (repeat with_reducible refine And.intro (by first | omega | exact lens | (simp [maxLen_eq] <;> omega)) ?_); (try (refine hK _ ?_; clear hK K)); (try with_reducible refine iC ?_)))
        simp only [go_sem, fN, ↓gI, ↓pI, seval, FinQ, AS.result, resAll, resOne, tupV]
      · omega
    · have h9 : 999 < t.base := by omega
      rcases h1 with h0 | ⟨h2, hb⟩
      · repeat' (first | (with_reducible first | refine W ?_ | refine Wk (by decide) ?_) | ((with_reducible first | refine Wo (fun K hK => ?_) | refine Wp ?_ | refine Wq ?_ | refine Wr ?_); (try simp only [go_sem, fN, ↓gI, ↓pI, seval, eT, iR, h0, hn, h9, dT, dF, nL]); (repeat with_reducible refine And.intro (by first | omega | exact lens | (simp [maxLen_eq] <;> omega)) ?_); (try (refine hK _ ?_; clear hK K)); (try with_reducible refine iC ?_)))
        simp only [go_sem, fN, ↓gI, ↓pI, seval, FinQ, AS.result, resAll, resOne, tupV]
      · omega
  rw [if_pos hr]
  have hn : ¬ t.base < 0 := by omega
  have h9 : ¬ 999 < t.base := by omega
  rcases h1 with h0 | ⟨h2, hb⟩
  · repeat' (first | (with_reducible first | refine W ?_ | refine Wk (by decide) ?_) | ((with_reducible first | refine Wo (fun K hK => ?_) | refine Wp ?_ | refine Wq ?_ | refine Wr ?_); (try simp only [go_sem, fN, ↓gI, ↓pI, seval, eT, iR, h0, hn, h9, dT, dF, nL]); (repeat with_reducible refine And.intro (by first | omega | exact lens | (simp [maxLen_eq] <;> omega)) ?_); (try (refine hK _ ?_; clear hK K)); (try with_reducible refine iC ?_)))
    refine IWP.loopD [4] (fun n s => ∃ k, k ≤ t.subs.length ∧ n = t.subs.length - k ∧ Ty.chks (t.subs.take k) = 0 ∧ s.env 38 = .one (.st (.list (t.subs.map encY))) ∧ s.env 39 = aInt t.subs.length ∧ s.env 40 = aInt k ∧ s.S 4 = none) t.subs.length ⟨0, Nat.zero_le _, rfl, rfl, rfl, by first | (simp only [go_sem, fN, ↓gI, ↓pI, seval, eT, iR, h0]; done) | rfl, rfl, rfl⟩ ?_
    rintro n ⟨env, S⟩ ⟨k, hk', rfl, hc, e38, e39, e40, s4⟩
    simp only at e38 e39 e40 s4
    by_cases hlt : (k : Int) < t.subs.length
    · obtain ⟨a, ha⟩ := get_lt (show k < t.subs.length by omega)
      have z3 := Ty.size_mem (mem_of_get ha)
      repeat' (first | (with_reducible first | refine W ?_ | refine Wk (by decide) ?_) | ((with_reducible first | refine Wo (fun K hK => ?_) | refine Wp ?_ | refine Wq ?_ | refine Wr ?_); (try simp only [go_sem, fN, ↓gI, ↓pI, seval, eT, iR, e38, e39, e40, s4, ha, hlt, dT, dF, nL]); (repeat with_reducible refine And.intro (by first | omega | exact lens | (simp [maxLen_eq] <;> omega)) ?_); (try (refine hK _ ?_; clear hK K)); (try with_reducible refine iC ?_)))
      refine ⟨_, ih _ (Ty.lt_of_sub (mem_of_get ha)) a (by omega) rfl, ?_⟩
      by_cases hr : a.chk = 0
      · repeat' (first | (with_reducible first | refine W ?_ | refine Wk (by decide) ?_) | ((with_reducible first | refine Wo (fun K hK => ?_) | refine Wp ?_ | refine Wq ?_ | refine Wr ?_); (try simp only [go_sem, fN, ↓gI, ↓pI, seval, eT, iR, e38, e39, e40, s4, hr, dT, dF, nL]); (repeat with_reducible refine And.intro (by first | omega | exact lens | (simp [maxLen_eq] <;> omega)) ?_); (try (refine hK _ ?_; clear hK K)); (try with_reducible refine iC ?_)))
        refine then_normal ⟨t.subs.length - (k + 1), by omega, k + 1, by omega, rfl, ?_⟩
        simp only [go_sem, fN, ↓gI, ↓pI, seval, AS.drop, dropS, AC.clears, AC.clear, AC.highs, AC.high, Bool.not_false, Bool.true_and, Bool.and_self, AV.purge, AV.purges, AC.purge, ABlk.purge, List.contains_cons, List.contains_nil, Nat.reduceBEq, Bool.or_self, Bool.or_false, Bool.false_or, Bool.or_true, eT, iR, e38, e39, e40, s4, hr]
        exact ⟨by rw [Ty.chks_take ha hc, hr], by congr 3⟩
      · repeat' (first | (with_reducible first | refine W ?_ | refine Wk (by decide) ?_) | ((with_reducible first | refine Wo (fun K hK => ?_) | refine Wp ?_ | refine Wq ?_ | refine Wr ?_); (try simp only [go_sem, fN, ↓gI, ↓pI, seval, eT, iR, e38, e39, e40, s4, hr, dT, dF, nL]); (repeat with_reducible refine And.intro (by first | omega | exact lens | (simp [maxLen_eq] <;> omega)) ?_); (try (refine hK _ ?_; clear hK K)); (try with_reducible refine iC ?_)))
        simp only [go_sem, fN, ↓gI, ↓pI, seval, FinQ, AS.result, resAll, resOne, tupV]
        rw [Ty.chks_bad (k := k + 1) (by rw [Ty.chks_take ha hc]; exact hr), Ty.chks_take ha hc]
    · repeat' (first | (with_reducible first | refine W ?_ | refine Wk (by decide) ?_) | ((with_reducible first | refine Wo (fun K hK => ?_) | refine Wp ?_ | refine Wq ?_ | refine Wr ?_); (try simp only [go_sem, fN, ↓gI, ↓pI, seval, eT, iR, e38, e39, e40, s4, hlt, dT, dF, nL]); (repeat with_reducible refine And.intro (by first | omega | exact lens | (simp [maxLen_eq] <;> omega)) ?_); (try (refine hK _ ?_; clear hK K)); (try with_reducible refine iC ?_)))
      simp only [go_sem, fN, ↓gI, ↓pI, seval, FinQ, AS.result, resAll, resOne, tupV]
      rw [List.take_of_length_le (by omega)] at hc
      rw [hc]
  · repeat' (first | (with_reducible first | refine W ?_ | refine Wk (by decide) ?_) | ((with_reducible first | refine Wo (fun K hK => ?_) | refine Wp ?_ | refine Wq ?_ | refine Wr ?_); (try simp only [go_sem, fN, ↓gI, ↓pI, seval, eT, iR, h2, hb, dT, dF, nL]); (repeat with_reducible refine And.intro (by first | omega | exact lens | (simp [maxLen_eq] <;> omega)) ?_); (try (refine hK _ ?_; clear hK K)); (try with_reducible refine iC ?_)))
    refine IWP.loopD [4] (fun n s => ∃ k, k ≤ t.subs.length ∧ n = t.subs.length - k ∧ Ty.chks (t.subs.take k) = 0 ∧ s.env 38 = .one (.st (.list (t.subs.map encY))) ∧ s.env 39 = aInt t.subs.length ∧ s.env 40 = aInt k ∧ s.S 4 = none) t.subs.length ⟨0, Nat.zero_le _, rfl, rfl, rfl, by first | (simp only [go_sem, fN, ↓gI, ↓pI, seval, eT, iR, h2, hb]; done) | rfl, rfl, rfl⟩ ?_
    rintro n ⟨env, S⟩ ⟨k, hk', rfl, hc, e38, e39, e40, s4⟩
    simp only at e38 e39 e40 s4
    by_cases hlt : (k : Int) < t.subs.length
    · obtain ⟨a, ha⟩ := get_lt (show k < t.subs.length by omega)
      have z3 := Ty.size_mem (mem_of_get ha)
      repeat' (first | (with_reducible first | refine W ?_ | refine Wk (by decide) ?_) | ((with_reducible first | refine Wo (fun K hK => ?_) | refine Wp ?_ | refine Wq ?_ | refine Wr ?_); (try simp only [go_sem, fN, ↓gI, ↓pI, seval, eT, iR, e38, e39, e40, s4, ha, hlt, dT, dF, nL]); (repeat with_reducible refine And.intro (by first | omega | exact lens | (simp [maxLen_eq] <;> omega)) ?_); (try (refine hK _ ?_; clear hK K)); (try with_reducible refine iC ?_)))
      refine ⟨_, ih _ (Ty.lt_of_sub (mem_of_get ha)) a (by omega) rfl, ?_⟩
      by_cases hr : a.chk = 0
      · repeat' (first | (with_reducible first | refine W ?_ | refine Wk (by decide) ?_) | ((with_reducible first | refine Wo (fun K hK => ?_) | refine Wp ?_ | refine Wq ?_ | refine Wr ?_); (try simp only [go_sem, fN, ↓gI, ↓pI, seval, eT, iR, e38, e39, e40, s4, hr, dT, dF, nL]); (repeat with_reducible refine And.intro (by first | omega | exact lens | (simp [maxLen_eq] <;> omega)) ?_); (try (refine hK _ ?_; clear hK K)); (try with_reducible refine iC ?_)))
        refine then_normal ⟨t.subs.length - (k + 1), by omega, k + 1, by omega, rfl, ?_⟩
        simp only [go_sem, fN, ↓gI, ↓pI, seval, AS.drop, dropS, AC.clears, AC.clear, AC.highs, AC.high, Bool.not_false, Bool.true_and, Bool.and_self, AV.purge, AV.purges, AC.purge, ABlk.purge, List.contains_cons, List.contains_nil, Nat.reduceBEq, Bool.or_self, Bool.or_false, Bool.false_or, Bool.or_true, eT, iR, e38, e39, e40, s4, hr]
        exact ⟨by rw [Ty.chks_take ha hc, hr], by congr 3⟩
      · repeat' (first | (with_reducible first | refine W ?_ | refine Wk (by decide) ?_) | ((with_reducible first | refine Wo (fun K hK => ?_) | refine Wp ?_ | refine Wq ?_ | refine Wr ?_); (try simp only [go_sem, fN, ↓gI, ↓pI, seval, eT, iR, e38, e39, e40, s4, hr, dT, dF, nL]); (repeat with_reducible refine And.intro (by first | omega | exact lens | (simp [maxLen_eq] <;> omega)) ?_); (try (refine hK _ ?_; clear hK K)); (try with_reducible refine iC ?_)))
        simp only [go_sem, fN, ↓gI, ↓pI, seval, FinQ, AS.result, resAll, resOne, tupV]
        rw [Ty.chks_bad (k := k + 1) (by rw [Ty.chks_take ha hc]; exact hr), Ty.chks_take ha hc]
    · repeat' (first | (with_reducible first | refine W ?_ | refine Wk (by decide) ?_) | ((with_reducible first | refine Wo (fun K hK => ?_) | refine Wp ?_ | refine Wq ?_ | refine Wr ?_); (try simp only [go_sem, fN, ↓gI, ↓pI, seval, eT, iR, e38, e39, e40, s4, hlt, dT, dF, nL]); (repeat with_reducible refine And.intro (by first | omega | exact lens | (simp [maxLen_eq] <;> omega)) ?_); (try (refine hK _ ?_; clear hK K)); (try with_reducible refine iC ?_)))
      simp only [go_sem, fN, ↓gI, ↓pI, seval, FinQ, AS.result, resAll, resOne, tupV]
      rw [List.take_of_length_le (by omega)] at hc
      rw [hc]
theorem yCheck_a (t : Ty) : ACalls Tryz.prog 12 [aTy t] (aInt t.may) := by
  refine ac_infer_Check (Nat.le_of_ble_eq_true rfl) fun C hC => ?_
  unfold ir_infer_Check
  unfold Ty.may
  have hw := @lessBy_neg_iff t.size 200 (by decide)
  by_cases hz : 200 < t.size
  · have hz' := hw.2 (by omega)
    rw [if_pos hz]
    repeat' (first | (with_reducible first | refine W ?_ | refine Wk (by decide) ?_) | refine Cg _ (ywithin_a t 200 (by decide) (by decide)) ?_ | ((with_reducible first | refine Wo (fun K hK => ?_) | refine Wp ?_ | refine Wq ?_ | refine Wr ?_); (try simp only [go_sem, fN, ↓gI, ↓pI, seval, eT, iR, hz', dT, dF, nL]); (repeat with_reducible refine And.intro (by first | omega | exact lens | (simp [maxLen_eq] <;> omega)) ?_); (try (refine hK _ ?_; clear hK K)); (try with_reducible refine iC ?_)))
    simp only [go_sem, fN, ↓gI, ↓pI, seval, FinQ, AS.result, resAll, resOne, tupV]
  · have hz' : ¬ lessBy t.size 200 < 0 := fun h => hz (by have := hw.1 h; omega)
    rw [if_neg hz]
    repeat' (first | (with_reducible first | refine W ?_ | refine Wk (by decide) ?_) | refine Cg _ (ywithin_a t 200 (by decide) (by decide)) ?_ | refine Cg _ (ycheck_a t (by omega)) ?_ | ((with_reducible first | refine Wo (fun K hK => ?_) | refine Wp ?_ | refine Wq ?_ | refine Wr ?_); (try simp only [go_sem, fN, ↓gI, ↓pI, seval, eT, iR, hz', dT, dF, nL]); (repeat with_reducible refine And.intro (by first | omega | exact lens | (simp [maxLen_eq] <;> omega)) ?_); (try (refine hK _ ?_; clear hK K)); (try with_reducible refine iC ?_)))
    simp only [go_sem, fN, ↓gI, ↓pI, seval, FinQ, AS.result, resAll, resOne, tupV]
set_option maxHeartbeats 2000000 in
theorem ymayR_a (t : Ty) (hz : t.size ≤ 1000000000) : ACalls Tryz.prog 31 [aTy t] (aInt t.chk) := by
  induction h : SizeOf.sizeOf t using Nat.strongRecOn generalizing t with
  | _ N ih =>
  subst h
  have hs := Ty.size_eq t
  have hlen := Ty.length_le t.subs
  refine ac_R_typeMay (Nat.le_of_ble_eq_true rfl) fun C hC => ?_
  unfold ir_R_typeMay
  rw [Ty.chk_eq]
  rcases form_cases t with ⟨hf, h1⟩ | ⟨hf, h1⟩
  · rw [if_neg hf]
    rcases h1 with ⟨h0, h2⟩ | ⟨h2, hb⟩
    · repeat' (first | (with_reducible first | refine W ?_ | refine Wk (by decide) ?_) | ((with_reducible first | refine Wo (fun K hK => ?_) | refine Wp ?_ | refine Wq ?_ | refine Wr ?_); (try simp only [go_sem, fN, ↓gI, ↓pI, seval, eT, iR, h0, h2, dT, dF, nL]); (repeat with_reducible refine And.intro (by first | omega | exact lens | (simp [maxLen_eq] <;> omega)) ?_); (try (refine hK _ ?_; clear hK K)); (try with_reducible refine iC ?_)))
      simp only [go_sem, fN, ↓gI, ↓pI, seval, FinQ, AS.result, resAll, resOne, tupV]
    · repeat' (first | (with_reducible first | refine W ?_ | refine Wk (by decide) ?_) | ((with_reducible first | refine Wo (fun K hK => ?_) | refine Wp ?_ | refine Wq ?_ | refine Wr ?_); (try simp only [go_sem, fN, ↓gI, ↓pI, seval, eT, iR, h2, hb, dT, dF, nL]); (repeat with_reducible refine And.intro (by first | omega | exact lens | (simp [maxLen_eq] <;> omega)) ?_); (try (refine hK _ ?_; clear hK K)); (try with_reducible refine iC ?_)))
      simp only [go_sem, fN, ↓gI, ↓pI, seval, FinQ, AS.result, resAll, resOne, tupV]
  rw [if_pos hf]
  by_cases hr : 0 ≤ t.base ∧ t.base ≤ 999
  case neg =>
    rw [if_neg hr]
    by_cases hn : t.base < 0
    · rcases h1 with h0 | ⟨h2, hb⟩
      · repeat' (first | (with_reducible first | refine W ?_ | refine Wk (by decide) ?_) | ((with_reducible first | refine Wo (fun K hK => ?_) | refine Wp ?_ | refine Wq ?_ | refine Wr ?_); (try simp only [go_sem, fN, ↓gI, ↓pI, seval, eT, iR, h0, hn, dT, dF, nL]); (repeat with_reducible refine And.intro (by first | omega | exact lens | (simp [maxLen_eq] <;> omega)) ?_); (try (refine hK _ ?_; clear hK K)); (try with_reducible refine iC ?_)))
        simp only [go_sem, fN, ↓gI, ↓pI, seval, FinQ, AS.result, resAll, resOne, tupV]
      · omega
    · have h9 : 999 < t.base := by omega
      rcases h1 with h0 | ⟨h2, hb⟩
      · repeat' (first | (with_reducible first | refine W ?_ | refine Wk (by decide) ?_) | ((with_reducible first | refine Wo (fun K hK => ?_) | refine Wp ?_ | refine Wq ?_ | refine Wr ?_); (try simp only [go_sem, fN, ↓gI, ↓pI, seval, eT, iR, h0, hn, h9, dT, dF, nL]); (repeat with_reducible refine And.intro (by first | omega | exact lens | (simp [maxLen_eq] <;> omega)) ?_); (try (refine hK _ ?_; clear hK K)); (try with_reducible refine iC ?_)))
        simp only [go_sem, fN, ↓gI, ↓pI, seval, FinQ, AS.result, resAll, resOne, tupV]
      · omega
  rw [if_pos hr]
  have hn : ¬ t.base < 0 := by omega
  have h9 : ¬ 999 < t.base := by omega
  rcases h1 with h0 | ⟨h2, hb⟩
  · repeat' (first | (with_reducible first | refine W ?_ | refine Wk (by decide) ?_) | ((with_reducible first | refine Wo (fun K hK => ?_) | refine Wp ?_ | refine Wq ?_ | refine Wr ?_); (try simp only [go_sem, fN, ↓gI, ↓pI, seval, eT, iR, h0, hn, h9, dT, dF, nL]); (repeat with_reducible refine And.intro (by first | omega | exact lens | (simp [maxLen_eq] <;> omega)) ?_); (try (refine hK _ ?_; clear hK K)); (try with_reducible refine iC ?_)))
    refine IWP.loopD [] (fun n s => ∃ k, k ≤ t.subs.length ∧ n = t.subs.length - k ∧ Ty.chks (t.subs.take k) = 0 ∧ s.env 1 = .one (.ptr 1 1 0 0) ∧ s.env 3 = aInt k ∧ s.S 1 = some (.box 27 [.st (.int .i64 t.base), .st (.list (t.subs.map encY))])) t.subs.length ⟨0, Nat.zero_le _, rfl, rfl, rfl, rfl, rfl⟩ ?_
    rintro n ⟨env, S⟩ ⟨k, hk', rfl, hc, e1, e3, s1⟩
    simp only at e1 e3 s1
    by_cases hlt : (k : Int) < t.subs.length
    · obtain ⟨a, ha⟩ := get_lt (show k < t.subs.length by omega)
      have z3 := Ty.size_mem (mem_of_get ha)
      repeat' (first | (with_reducible first | refine W ?_ | refine Wk (by decide) ?_) | ((with_reducible first | refine Wo (fun K hK => ?_) | refine Wp ?_ | refine Wq ?_ | refine Wr ?_); (try simp only [go_sem, fN, ↓gI, ↓pI, seval, eT, iR, e1, e3, s1, ha, hlt, dT, dF, nL]); (repeat with_reducible refine And.intro (by first | omega | exact lens | (simp [maxLen_eq] <;> omega)) ?_); (try (refine hK _ ?_; clear hK K)); (try with_reducible refine iC ?_)))
      refine ⟨_, ih _ (Ty.lt_of_sub (mem_of_get ha)) a (by omega) rfl, ?_⟩
      by_cases hr : a.chk = 0
      · repeat' (first | (with_reducible first | refine W ?_ | refine Wk (by decide) ?_) | ((with_reducible first | refine Wo (fun K hK => ?_) | refine Wp ?_ | refine Wq ?_ | refine Wr ?_); (try simp only [go_sem, fN, ↓gI, ↓pI, seval, eT, iR, e1, e3, s1, hr, dT, dF, nL]); (repeat with_reducible refine And.intro (by first | omega | exact lens | (simp [maxLen_eq] <;> omega)) ?_); (try (refine hK _ ?_; clear hK K)); (try with_reducible refine iC ?_)))
        refine then_normal ⟨t.subs.length - (k + 1), by omega, k + 1, by omega, rfl, ?_⟩
        simp only [go_sem, fN, ↓gI, ↓pI, seval, AS.drop, dropS, AC.clears, AC.clear, AC.highs, AC.high, Bool.not_false, Bool.true_and, Bool.and_self, AV.purge, AV.purges, AC.purge, ABlk.purge, List.contains_cons, List.contains_nil, Nat.reduceBEq, Bool.or_self, Bool.or_false, Bool.false_or, Bool.or_true, eT, iR, e1, e3, s1, hr]
        exact ⟨by rw [Ty.chks_take ha hc, hr], by congr 3⟩
      · repeat' (first | (with_reducible first | refine W ?_ | refine Wk (by decide) ?_) | ((with_reducible first | refine Wo (fun K hK => ?_) | refine Wp ?_ | refine Wq ?_ | refine Wr ?_); (try simp only [go_sem, fN, ↓gI, ↓pI, seval, eT, iR, e1, e3, s1, hr, dT, dF, nL]); (repeat with_reducible refine And.intro (by first | omega | exact lens | (simp [maxLen_eq] <;> omega)) ?_); (try (refine hK _ ?_; clear hK K)); (try with_reducible refine iC ?_)))
        simp only [go_sem, fN, ↓gI, ↓pI, seval, FinQ, AS.result, resAll, resOne, tupV]
        rw [Ty.chks_bad (k := k + 1) (by rw [Ty.chks_take ha hc]; exact hr), Ty.chks_take ha hc]
    · repeat' (first | (with_reducible first | refine W ?_ | refine Wk (by decide) ?_) | ((with_reducible first | refine Wo (fun K hK => ?_) | refine Wp ?_ | refine Wq ?_ | refine Wr ?_); (try simp only [go_sem, fN, ↓gI, ↓pI, seval, eT, iR, e1, e3, s1, hlt, dT, dF, nL]); (repeat with_reducible refine And.intro (by first | omega | exact lens | (simp [maxLen_eq] <;> omega)) ?_); (try (refine hK _ ?_; clear hK K)); (try with_reducible refine iC ?_)))
      simp only [go_sem, fN, ↓gI, ↓pI, seval, FinQ, AS.result, resAll, resOne, tupV]
      rw [List.take_of_length_le (by omega)] at hc
      rw [hc]
  · repeat' (first | (with_reducible first | refine W ?_ | refine Wk (by decide) ?_) | ((with_reducible first | refine Wo (fun K hK => ?_) | refine Wp ?_ | refine Wq ?_ | refine Wr ?_); (try simp only [go_sem, fN, ↓gI, ↓pI, seval, eT, iR, h2, hb, dT, dF, nL]); (repeat with_reducible refine And.intro (by first | omega | exact lens | (simp [maxLen_eq] <;> omega)) ?_); (try (refine hK _ ?_; clear hK K)); (try with_reducible refine iC ?_)))
    refine IWP.loopD [] (fun n s => ∃ k, k ≤ t.subs.length ∧ n = t.subs.length - k ∧ Ty.chks (t.subs.take k) = 0 ∧ s.env 1 = .one (.ptr 1 1 0 0) ∧ s.env 3 = aInt k ∧ s.S 1 = some (.box 27 [.st (.int .i64 t.base), .st (.list (t.subs.map encY))])) t.subs.length ⟨0, Nat.zero_le _, rfl, rfl, rfl, rfl, by simp only [go_sem, fN, ↓gI, ↓pI, seval, eT, iR, hb]⟩ ?_
    rintro n ⟨env, S⟩ ⟨k, hk', rfl, hc, e1, e3, s1⟩
    simp only at e1 e3 s1
    by_cases hlt : (k : Int) < t.subs.length
    · obtain ⟨a, ha⟩ := get_lt (show k < t.subs.length by omega)
      have z3 := Ty.size_mem (mem_of_get ha)
      repeat' (first | (with_reducible first | refine W ?_ | refine Wk (by decide) ?_) | ((with_reducible first | refine Wo (fun K hK => ?_) | refine Wp ?_ | refine Wq ?_ | refine Wr ?_); (try simp only [go_sem, fN, ↓gI, ↓pI, seval, eT, iR, e1, e3, s1, ha, hlt, dT, dF, nL]); (repeat with_reducible refine And.intro (by first | omega | exact lens | (simp [maxLen_eq] <;> omega)) ?_); (try (refine hK _ ?_; clear hK K)); (try with_reducible refine iC ?_)))
      refine ⟨_, ih _ (Ty.lt_of_sub (mem_of_get ha)) a (by omega) rfl, ?_⟩
      by_cases hr : a.chk = 0
      · repeat' (first | (with_reducible first | refine W ?_ | refine Wk (by decide) ?_) | ((with_reducible first | refine Wo (fun K hK => ?_) | refine Wp ?_ | refine Wq ?_ | refine Wr ?_); (try simp only [go_sem, fN, ↓gI, ↓pI, seval, eT, iR, e1, e3, s1, hr, dT, dF, nL]); (repeat with_reducible refine And.intro (by first | omega | exact lens | (simp [maxLen_eq] <;> omega)) ?_); (try (refine hK _ ?_; clear hK K)); (try with_reducible refine iC ?_)))
        refine then_normal ⟨t.subs.length - (k + 1), by omega, k + 1, by omega, rfl, ?_⟩
        simp only [go_sem, fN, ↓gI, ↓pI, seval, AS.drop, dropS, AC.clears, AC.clear, AC.highs, AC.high, Bool.not_false, Bool.true_and, Bool.and_self, AV.purge, AV.purges, AC.purge, ABlk.purge, List.contains_cons, List.contains_nil, Nat.reduceBEq, Bool.or_self, Bool.or_false, Bool.false_or, Bool.or_true, eT, iR, e1, e3, s1, hr]
        exact ⟨by rw [Ty.chks_take ha hc, hr], by congr 3⟩
      · repeat' (first | (with_reducible first | refine W ?_ | refine Wk (by decide) ?_) | ((with_reducible first | refine Wo (fun K hK => ?_) | refine Wp ?_ | refine Wq ?_ | refine Wr ?_); (try simp only [go_sem, fN, ↓gI, ↓pI, seval, eT, iR, e1, e3, s1, hr, dT, dF, nL]); (repeat with_reducible refine And.intro (by first | omega | exact lens | (simp [maxLen_eq] <;> omega)) ?_); (try (refine hK _ ?_; clear hK K)); (try with_reducible refine iC ?_)))
        simp only [go_sem, fN, ↓gI, ↓pI, seval, FinQ, AS.result, resAll, resOne, tupV]
        rw [Ty.chks_bad (k := k + 1) (by rw [Ty.chks_take ha hc]; exact hr), Ty.chks_take ha hc]
    · repeat' (first | (with_reducible first | refine W ?_ | refine Wk (by decide) ?_) | ((with_reducible first | refine Wo (fun K hK => ?_) | refine Wp ?_ | refine Wq ?_ | refine Wr ?_); (try simp only [go_sem, fN, ↓gI, ↓pI, seval, eT, iR, e1, e3, s1, hlt, dT, dF, nL]); (repeat with_reducible refine And.intro (by first | omega | exact lens | (simp [maxLen_eq] <;> omega)) ?_); (try (refine hK _ ?_; clear hK K)); (try with_reducible refine iC ?_)))
      simp only [go_sem, fN, ↓gI, ↓pI, seval, FinQ, AS.result, resAll, resOne, tupV]
      rw [List.take_of_length_le (by omega)] at hc
      rw [hc]
theorem yMayR_a (t : Ty) : ACalls Tryz.prog 9 [aTy t] (aInt t.may) := by
  refine ac_R_TypeMay (Nat.le_of_ble_eq_true rfl) fun C hC => ?_
  unfold ir_R_TypeMay
  unfold Ty.may
  have hc : (200 < capTo t.size 200) ↔ 200 < t.size := by unfold capTo; split <;> omega
  by_cases hz : 200 < t.size
  · rw [if_pos hz]
    have hz' := hc.2 (by omega)
    repeat' (first | (with_reducible first | refine W ?_ | refine Wk (by decide) ?_) | refine Cg _ (ysizeR_a t 200 (by decide) (by decide)) ?_ | ((with_reducible first | refine Wo (fun K hK => ?_) | refine Wp ?_ | refine Wq ?_ | refine Wr ?_); (try simp only [go_sem, fN, ↓gI, ↓pI, seval, eT, iR, hz', dT, dF, nL]); (repeat with_reducible refine And.intro (by first | omega | exact lens | (simp [maxLen_eq] <;> omega)) ?_); (try (refine hK _ ?_; clear hK K)); (try with_reducible refine iC ?_)))
    simp only [go_sem, fN, ↓gI, ↓pI, seval, FinQ, AS.result, resAll, resOne, tupV]
  · rw [if_neg hz]
    have hz' : ¬ 200 < capTo t.size 200 := fun h => hz (hc.1 h)
    repeat' (first | (with_reducible first | refine W ?_ | refine Wk (by decide) ?_) | refine Cg _ (ysizeR_a t 200 (by decide) (by decide)) ?_ | refine Cg _ (ymayR_a t (by omega)) ?_ | ((with_reducible first | refine Wo (fun K hK => ?_) | refine Wp ?_ | refine Wq ?_ | refine Wr ?_); (try simp only [go_sem, fN, ↓gI, ↓pI, seval, eT, iR, hz', dT, dF, nL]); (repeat with_reducible refine And.intro (by first | omega | exact lens | (simp [maxLen_eq] <;> omega)) ?_); (try (refine hK _ ?_; clear hK K)); (try with_reducible refine iC ?_)))
    simp only [go_sem, fN, ↓gI, ↓pI, seval, FinQ, AS.result, resAll, resOne, tupV]
theorem sameTy_a (x y : BT) : ACalls Tryz.prog 18 [aTy x.ty, aTy y.ty] (aBool (decide (x = y))) := by
  induction h : SizeOf.sizeOf x using Nat.strongRecOn generalizing x y with
  | _ N ih =>
  subst h
  refine ac_R_SameType (Nat.le_of_ble_eq_true rfl) fun C hC => ?_
  unfold ir_R_SameType
  by_cases hb : x.ty.base = y.ty.base
  case neg =>
    have hne : ¬ x = y := fun e => hb (by rw [e])
    repeat' (first | (with_reducible first | refine W ?_ | refine Wk (by decide) ?_) | ((with_reducible first | refine Wo (fun K hK => ?_) | refine Wp ?_ | refine Wq ?_ | refine Wr ?_); (try simp only [go_sem, fN, ↓gI, ↓pI, seval, eT, iR, hb, dT, dF, nL]); (repeat with_reducible refine And.intro (by first | omega | exact lens | (simp [maxLen_eq] <;> omega)) ?_); (try (refine hK _ ?_; clear hK K)); (try with_reducible refine iC ?_)))
    simp only [go_sem, fN, ↓gI, ↓pI, seval, FinQ, AS.result, resAll, resOne, tupV, hne]
  by_cases hl : x.ty.subs.length = y.ty.subs.length
  case neg =>
    have hne : ¬ x = y := fun e => hl (by rw [e])
    have hl' : ¬ (x.ty.subs.length : Int) = y.ty.subs.length := by omega
    repeat' (first | (with_reducible first | refine W ?_ | refine Wk (by decide) ?_) | ((with_reducible first | refine Wo (fun K hK => ?_) | refine Wp ?_ | refine Wq ?_ | refine Wr ?_); (try simp only [go_sem, fN, ↓gI, ↓pI, seval, eT, iR, hb, hl', dT, dF, nL]); (repeat with_reducible refine And.intro (by first | omega | exact lens | (simp [maxLen_eq] <;> omega)) ?_); (try (refine hK _ ?_; clear hK K)); (try with_reducible refine iC ?_)))
    simp only [go_sem, fN, ↓gI, ↓pI, seval, FinQ, AS.result, resAll, resOne, tupV, hne]
  have hl' : (x.ty.subs.length : Int) = y.ty.subs.length := by omega
  have lx : x.ty.subs.length = x.sub.length := by rw [BT.ty_subs, List.length_map]
  have ly : y.ty.subs.length = y.sub.length := by rw [BT.ty_subs, List.length_map]
  have h2 : x.sub.length ≤ 2 := by cases x <;> simp [BT.sub]
  repeat' (first | (with_reducible first | refine W ?_ | refine Wk (by decide) ?_) | ((with_reducible first | refine Wo (fun K hK => ?_) | refine Wp ?_ | refine Wq ?_ | refine Wr ?_); (try simp only [go_sem, fN, ↓gI, ↓pI, seval, eT, iR, hb, hl', dT, dF, nL]); (repeat with_reducible refine And.intro (by first | omega | exact lens | (simp [maxLen_eq] <;> omega)) ?_); (try (refine hK _ ?_; clear hK K)); (try with_reducible refine iC ?_)))
  refine IWP.loopD [] (fun n s => ∃ k, k ≤ x.sub.length ∧ n = x.sub.length - k ∧ x.sub.take k = y.sub.take k ∧ s.env 2 = .one (.ptr 2 1 0 0) ∧ s.env 3 = .one (.ptr 3 1 0 0) ∧ s.env 5 = aInt k ∧ s.S 2 = some (.box 27 [.st (.int .i64 x.ty.base), .st (.list (x.ty.subs.map encY))]) ∧ s.S 3 = some (.box 27 [.st (.int .i64 y.ty.base), .st (.list (y.ty.subs.map encY))])) x.sub.length ⟨0, Nat.zero_le _, rfl, rfl, rfl, rfl, rfl, by simp only [go_sem, fN, ↓gI, ↓pI, seval, eT, iR, hb], by simp only [go_sem, fN, ↓gI, ↓pI, seval, eT, iR, hb]⟩ ?_
  rintro n ⟨env, S⟩ ⟨k, hk', rfl, hc, e2, e3, e5, s2, s3⟩
  simp only at e2 e3 e5 s2 s3
  by_cases hlt : (k : Int) < x.ty.subs.length
  · obtain ⟨a, ha⟩ := get_lt (show k < x.sub.length by omega)
    obtain ⟨b, hb'⟩ := get_lt (show k < y.sub.length by omega)
    have ha' : x.ty.subs[k]? = some a.ty := by rw [BT.ty_subs, List.getElem?_map, ha]; rfl
    have hb'' : y.ty.subs[k]? = some b.ty := by rw [BT.ty_subs, List.getElem?_map, hb']; rfl
    repeat' (first | (with_reducible first | refine W ?_ | refine Wk (by decide) ?_) | ((with_reducible first | refine Wo (fun K hK => ?_) | refine Wp ?_ | refine Wq ?_ | refine Wr ?_); (try simp only [go_sem, fN, ↓gI, ↓pI, seval, eT, iR, e2, e3, e5, s2, s3, ha', hb'', hlt, dT, dF, nL]); (repeat with_reducible refine And.intro (by first | omega | exact lens | (simp [maxLen_eq] <;> omega)) ?_); (try (refine hK _ ?_; clear hK K)); (try with_reducible refine iC ?_)))
    refine ⟨_, ih _ (BT.lt_sub (mem_of_get ha)) a b rfl, ?_⟩
    by_cases hab : a = b
    · subst hab
      repeat' (first | (with_reducible first | refine W ?_ | refine Wk (by decide) ?_) | ((with_reducible first | refine Wo (fun K hK => ?_) | refine Wp ?_ | refine Wq ?_ | refine Wr ?_); (try simp only [go_sem, fN, ↓gI, ↓pI, seval, eT, iR, e2, e3, e5, s2, s3, dT, dF, nL]); (repeat with_reducible refine And.intro (by first | omega | exact lens | (simp [maxLen_eq] <;> omega)) ?_); (try (refine hK _ ?_; clear hK K)); (try with_reducible refine iC ?_)))
      refine then_normal ⟨x.sub.length - (k + 1), by omega, k + 1, by omega, rfl, ?_⟩
      simp only [go_sem, fN, ↓gI, ↓pI, seval, AS.drop, dropS, AC.clears, AC.clear, AC.highs, AC.high, Bool.not_false, Bool.true_and, Bool.and_self, AV.purge, AV.purges, AC.purge, ABlk.purge, List.contains_cons, List.contains_nil, Nat.reduceBEq, Bool.or_self, Bool.or_false, Bool.false_or, Bool.or_true, eT, iR, e2, e3, e5, s2, s3]
      exact ⟨by rw [take_snoc ha, take_snoc hb', hc], by congr 3⟩
    · have hne : ¬ x = y := fun e => hab (by
        subst e
        rw [ha] at hb'
        exact Option.some.inj hb')
      repeat' (first | (with_reducible first | refine W ?_ | refine Wk (by decide) ?_) | ((with_reducible first | refine Wo (fun K hK => ?_) | refine Wp ?_ | refine Wq ?_ | refine Wr ?_); (try simp only [go_sem, fN, ↓gI, ↓pI, seval, eT, iR, hab, dT, dF, nL]); (repeat with_reducible refine And.intro (by first | omega | exact lens | (simp [maxLen_eq] <;> omega)) ?_); (try (refine hK _ ?_; clear hK K)); (try with_reducible refine iC ?_)))
      simp only [go_sem, fN, ↓gI, ↓pI, seval, FinQ, AS.result, resAll, resOne, tupV, hne]
  · have he : x = y := BT.eq_of hb (by rw [List.take_of_length_le (by omega), List.take_of_length_le (by omega)] at hc; exact hc)
    repeat' (first | (with_reducible first | refine W ?_ | refine Wk (by decide) ?_) | ((with_reducible first | refine Wo (fun K hK => ?_) | refine Wp ?_ | refine Wq ?_ | refine Wr ?_); (try simp only [go_sem, fN, ↓gI, ↓pI, seval, eT, iR, e2, e3, e5, s2, s3, hlt, dT, dF, nL]); (repeat with_reducible refine And.intro (by first | omega | exact lens | (simp [maxLen_eq] <;> omega)) ?_); (try (refine hK _ ?_; clear hK K)); (try with_reducible refine iC ?_)))
    simp only [go_sem, fN, ↓gI, ↓pI, seval, FinQ, AS.result, resAll, resOne, tupV, he]
theorem typeText_a (x : BT) (hl : x.low 1000000) (hz : x.sz ≤ 1000000) : ACalls Tryz.prog 10 [aTy x.ty] (aStr x.txt) := by
  induction x with
  | b n =>
    have z1 := decS_size_le (n := n) hl
    have z2 : (⟨#[97]⟩ : ByteArray).size = 1 := rfl
    refine ac_R_TypeText (Nat.le_of_ble_eq_true rfl) fun C hC => ?_
    unfold ir_R_TypeText
    repeat' (first | (with_reducible first | refine W ?_ | refine Wk (by decide) ?_) | refine Cg _ (decR_a n hl) ?_ | ((with_reducible first | refine Wo (fun K hK => ?_) | refine Wp ?_ | refine Wq ?_ | refine Wr ?_); (try simp only [go_sem, fN, ↓gI, ↓pI, seval, eT, iR, z2, dT, dF, nL]); (repeat with_reducible refine And.intro (by first | omega | exact lens | (simp [maxLen_eq] <;> omega)) ?_); (try (refine hK _ ?_; clear hK K)); (try with_reducible refine iC ?_)))
    simp only [go_sem, fN, ↓gI, ↓pI, seval, FinQ, AS.result, resAll, resOne, tupV, BT.txt]
  | a u v iu iv =>
    simp only [BT.sz] at hz
    have hu := iu hl.1 (by omega)
    have hv := iv hl.2 (by omega)
    have zu := BT.txt_size hl.1
    have zv := BT.txt_size hl.2
    have e1 : (⟨#[62]⟩ : ByteArray).size = 1 := rfl
    have e2 : (⟨#[40]⟩ : ByteArray).size = 1 := rfl
    have e3 : (⟨#[41]⟩ : ByteArray).size = 1 := rfl
    refine ac_R_TypeText (Nat.le_of_ble_eq_true rfl) fun C hC => ?_
    unfold ir_R_TypeText
    cases u with
    | b n =>
      repeat' (first | (with_reducible first | refine W ?_ | refine Wk (by decide) ?_) | refine Cg _ (hu) ?_ | refine Cg _ (hv) ?_ | ((with_reducible first | refine Wo (fun K hK => ?_) | refine Wp ?_ | refine Wq ?_ | refine Wr ?_); (try simp only [go_sem, fN, ↓gI, ↓pI, seval, eT, iR, e1, e2, e3, ByteArray.size_append, dT, dF, nL]); (repeat with_reducible refine And.intro (by first | omega | exact lens | (simp [maxLen_eq] <;> omega)) ?_); (try (refine hK _ ?_; clear hK K)); (try with_reducible refine iC ?_)))
      rw [BT.txt_ab]
      exact ⟨trivial, rfl⟩
    | a p q =>
      have hu : ACalls Tryz.prog 10 [.agg [.st (.int .i64 0), .st (.list [encY p.ty, encY q.ty])]] (aStr (BT.a p q).txt) := hu
      rw [encY_eq, encY_eq] at hu
      repeat' (first | (with_reducible first | refine W ?_ | refine Wk (by decide) ?_) | refine Cg _ (hu) ?_ | refine Cg _ (hv) ?_ | ((with_reducible first | refine Wo (fun K hK => ?_) | refine Wp ?_ | refine Wq ?_ | refine Wr ?_); (try simp only [go_sem, fN, ↓gI, ↓pI, seval, eT, iR, e1, e2, e3, ByteArray.size_append, dT, dF, nL]); (repeat with_reducible refine And.intro (by first | omega | exact lens | (simp [maxLen_eq] <;> omega)) ?_); (try (refine hK _ ?_; clear hK K)); (try with_reducible refine iC ?_)))
      rw [BT.txt_aa]
      exact ⟨trivial, rfl⟩
end Go.Proofs.YtehnjhkndbcmgaaGreatDoor

namespace Go.Proofs.YtehnjhkndbcmgaaGreatDoor
open Go Go.RowKit
set_option linter.unusedVariables false
set_option linter.unusedSimpArgs false
set_option maxHeartbeats 1000000
theorem bld_mk {S : AStore} {a0 r : Nat} {bs : ByteArray} (ha : 1000 ≤ a0) (hr : 1000 ≤ r) (hne : a0 ≠ r) (h1 : S a0 = some (.box bT [.ptr a0 1 0 0, .row r bs.size])) (h2 : S r = some (.mrow u8T 1 (byteRow bs))) : Bld (upS S) (up1 a0) (up1 r) bs :=
  bld_up ⟨ha, hr, hne, ⟨_, .inr rfl, h1⟩, h2⟩
theorem bld_mv {S S' : AStore} {a0 r : Nat} {bs : ByteArray} (h : Bld S a0 r bs) (h1 : S' a0 = S a0) (h2 : S' r = S r) : Bld (upS S') (up1 a0) (up1 r) bs := by
  obtain ⟨p, hp, hb⟩ := h.box
  exact bld_up ⟨h.ha, h.hr, h.ne, ⟨p, hp, h1.trans hb⟩, h2.trans h.row⟩
theorem bld_end {C : Ctx} {rs : List RV} {r : AV} {e : AX} {s : AS} {S : AStore} {a0 r0 : Nat} {bs : ByteArray} (h : Bld S a0 r0 bs) {cs : ByteArray} (rv : AV) (hS : Clean S) (he : match e with | .normal => True | .ret => True | _ => False)
    (h1 : (resAll s rs).map tupV = some rv) (h2 : outV s.S rv = some r) (h3 : s.S a0 = some (.box bT [.ptr a0 1 0 0, .row r0 cs.size])) (h3' : s.S r0 = some (.mrow u8T 1 (byteRow cs))) (h4 : ∀ i, 1000 ≤ i → i ≠ a0 → i ≠ r0 → s.S i = S i) : FinS C rs r (bldS S a0 r0 cs) e s :=
  finS_two rv hS h.ha h.hr (fun e => h.ne e.symm) (bld_high h.ha h.hr) rfl he h1 h2 h3 h3' h4
set_option maxHeartbeats 4000000 in
theorem yshow_S (x : BT) (hl : x.low 1000000) : ∀ {a0 r : Nat} {bs : ByteArray} {S : AStore}, Bld S a0 r bs → bs.size + 8 * x.sz ≤ 1000000000 →
    ACallsS Tryz.prog 65 [.one (.ptr a0 1 0 0), aTy x.ty] S (.tup []) (bldS S a0 r (bs ++ x.txt)) := by
  induction x with
  | b n =>
    intro a0 r bs S h hz
    have ha := h.ha
    have hr := h.hr
    have hne := h.ne
    have hne2 : ¬ r = a0 := fun e => hne e.symm
    have a3 : ¬ a0 = 3 := by omega
    have r3 : ¬ r = 3 := by omega
    have q3 : ¬ 3 = a0 := by omega
    have s3 : ¬ 3 = r := by omega
    have z1 := decS_size_le (n := n) hl
    have z2 : (⟨#[97]⟩ : ByteArray).size = 1 := rfl
    simp only [BT.sz] at hz
    refine acS_infer_show (Nat.le_of_ble_eq_true rfl) fun hS C hC => ?_
    have k3 : S 3 = none := clean_none hS (by omega)
    unfold ir_infer_show
    repeat' (first | (with_reducible first | refine W ?_ | refine Wk (by decide) ?_) | refine Cg _ (itoa_a n hl) ?_ | ((with_reducible first | refine Wo (fun K hK => ?_) | refine Wp ?_ | refine Wq ?_ | refine Wr ?_); (try simp only [go_sem, fN, ↓gI, ↓pI, seval, eT, iR, k3, z2, dT, dF, nL]); (repeat with_reducible refine And.intro (by first | omega | exact lens | (simp [maxLen_eq] <;> omega)) ?_); (try (refine hK _ ?_; clear hK K)); (try with_reducible refine iC ?_)))
    refine ⟨_, _, writeString_S (bld_mv h (by simp only [go_sem, fN, ↓gI, ↓pI, seval, eT, iR, a3]) (by simp only [go_sem, fN, ↓gI, ↓pI, seval, eT, iR, r3])) _ (by rw [ByteArray.size_append]; omega), ?_⟩
    repeat' (first | (with_reducible first | refine W ?_ | refine Wk (by decide) ?_) | ((with_reducible first | refine Wo (fun K hK => ?_) | refine Wp ?_ | refine Wq ?_ | refine Wr ?_); (try simp only [go_sem, fN, ↓gI, ↓pI, seval, eT, iR, bldS, q3, s3, hne, hne2, dT, dF, nL]); (repeat with_reducible refine And.intro (by first | omega | exact lens | (simp [maxLen_eq] <;> omega)) ?_); (try (refine hK _ ?_; clear hK K)); (try with_reducible refine iC ?_)))
    refine bld_end h (.tup []) hS trivial ?_ ?_ ?_ ?_ fun i hi i1 i2 => ?_
    · rfl
    · rfl
    · simp only [go_sem, fN, ↓gI, ↓pI, seval, eT, iR, hne, hne2, BT.txt]
      try rfl
    · simp only [go_sem, fN, ↓gI, ↓pI, seval, eT, iR, hne, hne2, BT.txt]
      try rfl
    · have i3 : ¬ i = 3 := by omega
      simp only [go_sem, fN, ↓gI, ↓pI, seval, eT, iR, i1, i2, i3]
  | a u v iu iv =>
    intro a0 r bs S h hz
    have ha := h.ha
    have hr := h.hr
    have hne := h.ne
    have hne2 : ¬ r = a0 := fun e => hne e.symm
    have a3 : ¬ a0 = 3 := by omega
    have r3 : ¬ r = 3 := by omega
    have q3 : ¬ 3 = a0 := by omega
    have s3 : ¬ 3 = r := by omega
    have a4 : ¬ a0 = 4 := by omega
    have r4 : ¬ r = 4 := by omega
    have q4 : ¬ 4 = a0 := by omega
    have s4 : ¬ 4 = r := by omega
    simp only [BT.sz] at hz
    have zu := BT.txt_size hl.1
    have zv := BT.txt_size hl.2
    have e1 : (⟨#[62]⟩ : ByteArray).size = 1 := rfl
    have e2 : (⟨#[40]⟩ : ByteArray).size = 1 := rfl
    have e3 : (⟨#[41]⟩ : ByteArray).size = 1 := rfl
    refine acS_infer_show (Nat.le_of_ble_eq_true rfl) fun hS C hC => ?_
    have k3 : S 3 = none := clean_none hS (by omega)
    have k4 : S 4 = none := clean_none hS (by omega)
    unfold ir_infer_show
    have iu := @iu hl.1
    have iv := @iv hl.2
    cases u with
    | b n =>
      repeat' (first | (with_reducible first | refine W ?_ | refine Wk (by decide) ?_) | ((with_reducible first | refine Wo (fun K hK => ?_) | refine Wp ?_ | refine Wq ?_ | refine Wr ?_); (try simp only [go_sem, fN, ↓gI, ↓pI, seval, eT, iR, k3, k4, dT, dF, nL]); (repeat with_reducible refine And.intro (by first | omega | exact lens | (simp [maxLen_eq] <;> omega)) ?_); (try (refine hK _ ?_; clear hK K)); (try with_reducible refine iC ?_)))
      refine ⟨_, _, iu (bld_mv h (by simp only [go_sem, fN, ↓gI, ↓pI, seval, eT, iR, a3, a4]) (by simp only [go_sem, fN, ↓gI, ↓pI, seval, eT, iR, r3, r4])) (by omega), ?_⟩
      repeat' (first | (with_reducible first | refine W ?_ | refine Wk (by decide) ?_) | ((with_reducible first | refine Wo (fun K hK => ?_) | refine Wp ?_ | refine Wq ?_ | refine Wr ?_); (try simp only [go_sem, fN, ↓gI, ↓pI, seval, eT, iR, bldS, q3, s3, q4, s4, hne, hne2, dT, dF, nL]); (repeat with_reducible refine And.intro (by first | omega | exact lens | (simp [maxLen_eq] <;> omega)) ?_); (try (refine hK _ ?_; clear hK K)); (try with_reducible refine iC ?_)))
      refine ⟨_, _, (writeByte_S (bld_mk (bs := bs ++ (BT.b n).txt) ha hr hne (by simp only [go_sem, fN, ↓gI, ↓pI, seval, eT, iR, hne, hne2]) (by simp only [go_sem, fN, ↓gI, ↓pI, seval, eT, iR, hne, hne2])) 62 (by rw [ByteArray.size_append]; omega) : ACallsS _ _ [_, .one (.st (.int .u8 62))] _ _ _), ?_⟩
      repeat' (first | (with_reducible first | refine W ?_ | refine Wk (by decide) ?_) | ((with_reducible first | refine Wo (fun K hK => ?_) | refine Wp ?_ | refine Wq ?_ | refine Wr ?_); (try simp only [go_sem, fN, ↓gI, ↓pI, seval, eT, iR, bldS, q3, s3, q4, s4, hne, hne2, dT, dF, nL]); (repeat with_reducible refine And.intro (by first | omega | exact lens | (simp [maxLen_eq] <;> omega)) ?_); (try (refine hK _ ?_; clear hK K)); (try with_reducible refine iC ?_)))
      refine ⟨_, _, iv (bld_mk (bs := bs ++ (BT.b n).txt ++ ⟨#[62]⟩) ha hr hne (by simp only [go_sem, fN, ↓gI, ↓pI, seval, eT, iR, hne, hne2]) (by simp only [go_sem, fN, ↓gI, ↓pI, seval, eT, iR, hne, hne2])) (by rw [ByteArray.size_append, ByteArray.size_append]; omega), ?_⟩
      repeat' (first | (with_reducible first | refine W ?_ | refine Wk (by decide) ?_) | ((with_reducible first | refine Wo (fun K hK => ?_) | refine Wp ?_ | refine Wq ?_ | refine Wr ?_); (try simp only [go_sem, fN, ↓gI, ↓pI, seval, eT, iR, bldS, q3, s3, q4, s4, hne, hne2, dT, dF, nL]); (repeat with_reducible refine And.intro (by first | omega | exact lens | (simp [maxLen_eq] <;> omega)) ?_); (try (refine hK _ ?_; clear hK K)); (try with_reducible refine iC ?_)))
      rw [BT.txt_ab, ← ByteArray.append_assoc, ← ByteArray.append_assoc]
      refine bld_end h (.tup []) hS trivial ?_ ?_ ?_ ?_ fun i hi i1 i2 => ?_
      · rfl
      · rfl
      · simp only [go_sem, fN, ↓gI, ↓pI, seval, eT, iR, hne, hne2]
        try rfl
      · simp only [go_sem, fN, ↓gI, ↓pI, seval, eT, iR, hne, hne2]
        try rfl
      · have i3 : ¬ i = 3 := by omega
        have i4 : ¬ i = 4 := by omega
        simp only [go_sem, fN, ↓gI, ↓pI, seval, eT, iR, i1, i2, i3, i4]
    | a p q =>
      have iu : ∀ {a0 r : Nat} {bs : ByteArray} {S : AStore}, Bld S a0 r bs → bs.size + 8 * (BT.a p q).sz ≤ 1000000000 → ACallsS Tryz.prog 65 [.one (.ptr a0 1 0 0), .agg [.st (.int .i64 0), .st (.list [encY p.ty, encY q.ty])]] S (.tup []) (bldS S a0 r (bs ++ (BT.a p q).txt)) := iu
      rw [encY_eq, encY_eq] at iu
      repeat' (first | (with_reducible first | refine W ?_ | refine Wk (by decide) ?_) | ((with_reducible first | refine Wo (fun K hK => ?_) | refine Wp ?_ | refine Wq ?_ | refine Wr ?_); (try simp only [go_sem, fN, ↓gI, ↓pI, seval, eT, iR, k3, k4, dT, dF, nL]); (repeat with_reducible refine And.intro (by first | omega | exact lens | (simp [maxLen_eq] <;> omega)) ?_); (try (refine hK _ ?_; clear hK K)); (try with_reducible refine iC ?_)))
      refine ⟨_, _, (writeByte_S (bld_mv h (by simp only [go_sem, fN, ↓gI, ↓pI, seval, eT, iR, a3, a4]) (by simp only [go_sem, fN, ↓gI, ↓pI, seval, eT, iR, r3, r4])) 40 (by omega) : ACallsS _ _ [_, .one (.st (.int .u8 40))] _ _ _), ?_⟩
      repeat' (first | (with_reducible first | refine W ?_ | refine Wk (by decide) ?_) | ((with_reducible first | refine Wo (fun K hK => ?_) | refine Wp ?_ | refine Wq ?_ | refine Wr ?_); (try simp only [go_sem, fN, ↓gI, ↓pI, seval, eT, iR, bldS, q3, s3, q4, s4, hne, hne2, dT, dF, nL]); (repeat with_reducible refine And.intro (by first | omega | exact lens | (simp [maxLen_eq] <;> omega)) ?_); (try (refine hK _ ?_; clear hK K)); (try with_reducible refine iC ?_)))
      refine ⟨_, _, iu (bld_mk (bs := bs ++ ⟨#[40]⟩) ha hr hne (by simp only [go_sem, fN, ↓gI, ↓pI, seval, eT, iR, hne, hne2]) (by simp only [go_sem, fN, ↓gI, ↓pI, seval, eT, iR, hne, hne2])) (by rw [ByteArray.size_append]; omega), ?_⟩
      repeat' (first | (with_reducible first | refine W ?_ | refine Wk (by decide) ?_) | ((with_reducible first | refine Wo (fun K hK => ?_) | refine Wp ?_ | refine Wq ?_ | refine Wr ?_); (try simp only [go_sem, fN, ↓gI, ↓pI, seval, eT, iR, bldS, q3, s3, q4, s4, hne, hne2, dT, dF, nL]); (repeat with_reducible refine And.intro (by first | omega | exact lens | (simp [maxLen_eq] <;> omega)) ?_); (try (refine hK _ ?_; clear hK K)); (try with_reducible refine iC ?_)))
      refine ⟨_, _, (writeByte_S (bld_mk (bs := bs ++ ⟨#[40]⟩ ++ (BT.a p q).txt) ha hr hne (by simp only [go_sem, fN, ↓gI, ↓pI, seval, eT, iR, hne, hne2]) (by simp only [go_sem, fN, ↓gI, ↓pI, seval, eT, iR, hne, hne2])) 41 (by rw [ByteArray.size_append, ByteArray.size_append]; omega) : ACallsS _ _ [_, .one (.st (.int .u8 41))] _ _ _), ?_⟩
      repeat' (first | (with_reducible first | refine W ?_ | refine Wk (by decide) ?_) | ((with_reducible first | refine Wo (fun K hK => ?_) | refine Wp ?_ | refine Wq ?_ | refine Wr ?_); (try simp only [go_sem, fN, ↓gI, ↓pI, seval, eT, iR, bldS, q3, s3, q4, s4, hne, hne2, dT, dF, nL]); (repeat with_reducible refine And.intro (by first | omega | exact lens | (simp [maxLen_eq] <;> omega)) ?_); (try (refine hK _ ?_; clear hK K)); (try with_reducible refine iC ?_)))
      refine ⟨_, _, (writeByte_S (bld_mk (bs := bs ++ ⟨#[40]⟩ ++ (BT.a p q).txt ++ ⟨#[41]⟩) ha hr hne (by simp only [go_sem, fN, ↓gI, ↓pI, seval, eT, iR, hne, hne2]) (by simp only [go_sem, fN, ↓gI, ↓pI, seval, eT, iR, hne, hne2])) 62 (by rw [ByteArray.size_append, ByteArray.size_append, ByteArray.size_append]; omega) : ACallsS _ _ [_, .one (.st (.int .u8 62))] _ _ _), ?_⟩
      repeat' (first | (with_reducible first | refine W ?_ | refine Wk (by decide) ?_) | ((with_reducible first | refine Wo (fun K hK => ?_) | refine Wp ?_ | refine Wq ?_ | refine Wr ?_); (try simp only [go_sem, fN, ↓gI, ↓pI, seval, eT, iR, bldS, q3, s3, q4, s4, hne, hne2, dT, dF, nL]); (repeat with_reducible refine And.intro (by first | omega | exact lens | (simp [maxLen_eq] <;> omega)) ?_); (try (refine hK _ ?_; clear hK K)); (try with_reducible refine iC ?_)))
      refine ⟨_, _, iv (bld_mk (bs := bs ++ ⟨#[40]⟩ ++ (BT.a p q).txt ++ ⟨#[41]⟩ ++ ⟨#[62]⟩) ha hr hne (by simp only [go_sem, fN, ↓gI, ↓pI, seval, eT, iR, hne, hne2]) (by simp only [go_sem, fN, ↓gI, ↓pI, seval, eT, iR, hne, hne2])) (by simp only [ByteArray.size_append]; omega), ?_⟩
      repeat' (first | (with_reducible first | refine W ?_ | refine Wk (by decide) ?_) | ((with_reducible first | refine Wo (fun K hK => ?_) | refine Wp ?_ | refine Wq ?_ | refine Wr ?_); (try simp only [go_sem, fN, ↓gI, ↓pI, seval, eT, iR, bldS, q3, s3, q4, s4, hne, hne2, dT, dF, nL]); (repeat with_reducible refine And.intro (by first | omega | exact lens | (simp [maxLen_eq] <;> omega)) ?_); (try (refine hK _ ?_; clear hK K)); (try with_reducible refine iC ?_)))
      rw [BT.txt_aa]
      simp only [← ByteArray.append_assoc]
      refine bld_end h (.tup []) hS trivial ?_ ?_ ?_ ?_ fun i hi i1 i2 => ?_
      · rfl
      · rfl
      · simp only [go_sem, fN, ↓gI, ↓pI, seval, eT, iR, hne, hne2]
        try rfl
      · simp only [go_sem, fN, ↓gI, ↓pI, seval, eT, iR, hne, hne2]
        try rfl
      · have i3 : ¬ i = 3 := by omega
        have i4 : ¬ i = 4 := by omega
        simp only [go_sem, fN, ↓gI, ↓pI, seval, eT, iR, i1, i2, i3, i4]
theorem BT.txt_pos (x : BT) : 0 < x.txt.size := by
  cases x with
  | b n =>
    have : (⟨#[97]⟩ : ByteArray).size = 1 := rfl
    rw [BT.txt, ByteArray.size_append]
    omega
  | a u v =>
    have : (⟨#[62]⟩ : ByteArray).size = 1 := rfl
    cases u with
    | b n => rw [BT.txt_ab, ByteArray.size_append, ByteArray.size_append]; omega
    | a p q => rw [BT.txt_aa, ByteArray.size_append, ByteArray.size_append]; omega
theorem nil_app (x : ByteArray) : (⟨#[]⟩ : ByteArray) ++ x = x := by
  apply ByteArray.ext
  simp
theorem yShow_a (x : BT) (hl : x.low 1000000) (hz : x.sz ≤ 1000000) : ACalls Tryz.prog 33 [aTy x.ty] (aStr x.txt) := by
  have z0 : (⟨#[]⟩ : ByteArray).size = 0 := rfl
  have zx := BT.txt_size hl
  refine ac_infer_Show (Nat.le_of_ble_eq_true rfl) fun C hC => ?_
  unfold ir_infer_Show
  refine W ?_
  refine Wo (fun K hK => ?_)
  (try simp only [go_sem, fN, ↓gI, ↓pI, seval, eT, iR])
  (repeat with_reducible refine And.intro (by first | omega | exact lens | (simp [maxLen_eq] <;> omega)) ?_)
  refine hK _ ?_
  clear hK K
  refine W ?_
  refine W ?_
  refine Wo (fun K hK => ?_)
  (try simp only [go_sem, fN, ↓gI, ↓pI, seval, eT, iR])
  (repeat with_reducible refine And.intro (by first | omega | exact lens | (simp [maxLen_eq] <;> omega)) ?_)
  refine hK _ ?_
  clear hK K
  refine W ?_
  refine IWP.ghost (Ghost.ownCell (id := 3) (r := 900) (e' := u8T) 1 1 (by rfl) (by rfl) (by rfl) (by decide)) ?_
  repeat' (first | (with_reducible first | refine W ?_ | refine Wk (by decide) ?_) | ((with_reducible first | refine Wo (fun K hK => ?_) | refine Wp ?_ | refine Wq ?_ | refine Wr ?_); (try simp only [go_sem, fN, ↓gI, ↓pI, seval, eT, iR, dT, dF, nL]); (repeat with_reducible refine And.intro (by first | omega | exact lens | (simp [maxLen_eq] <;> omega)) ?_); (try (refine hK _ ?_; clear hK K)); (try with_reducible refine iC ?_)))
  refine ⟨_, _, yshow_S x hl (a0 := up1 3) (r := up1 900) (bs := ⟨#[]⟩) ⟨by decide, by decide, by decide, ⟨_, .inl rfl, by rw [upS_up]; rfl⟩, by rw [upS_up]; rfl⟩ (by omega), ?_⟩
  repeat' (first | (with_reducible first | refine W ?_ | refine Wk (by decide) ?_) | ((with_reducible first | refine Wo (fun K hK => ?_) | refine Wp ?_ | refine Wq ?_ | refine Wr ?_); (try simp only [go_sem, fN, ↓gI, ↓pI, seval, eT, iR, bldS, dT, dF, nL]); (repeat with_reducible refine And.intro (by first | omega | exact lens | (simp [maxLen_eq] <;> omega)) ?_); (try (refine hK _ ?_; clear hK K)); (try with_reducible refine iC ?_)))
  refine ⟨_, _, builderString_S (a0 := up1 3) (r := up1 900) (bs := ⟨#[]⟩ ++ x.txt) ⟨by decide, by decide, by decide, ⟨_, .inr rfl, by rw [upS_up]; (simp only [go_sem, fN, ↓gI, ↓pI, seval, eT, iR]; try rfl)⟩, by rw [upS_up]; (simp only [go_sem, fN, ↓gI, ↓pI, seval, eT, iR]; try rfl)⟩ (by rw [ByteArray.size_append]; have := x.txt_pos; omega) (by rw [ByteArray.size_append]; omega), ?_⟩
  repeat' (first | (with_reducible first | refine W ?_ | refine Wk (by decide) ?_) | ((with_reducible first | refine Wo (fun K hK => ?_) | refine Wp ?_ | refine Wq ?_ | refine Wr ?_); (try simp only [go_sem, fN, ↓gI, ↓pI, seval, eT, iR, dT, dF, nL]); (repeat with_reducible refine And.intro (by first | omega | exact lens | (simp [maxLen_eq] <;> omega)) ?_); (try (refine hK _ ?_; clear hK K)); (try with_reducible refine iC ?_)))
  simp only [go_sem, fN, ↓gI, ↓pI, seval, FinQ, AS.result, resAll, resOne, tupV]
  rw [nil_app]
theorem yText_a (t : Ty) (x : BT) (hx : t.may = 0 → t = x.ty ∧ x.low 1000000 ∧ x.sz ≤ 1000000) : ACalls Tryz.prog 11 [aTy t] (.tup [aStr (if t.may = 0 then x.txt else ⟨#[]⟩), aInt t.may]) := by
  refine ac_infer_Text (Nat.le_of_ble_eq_true rfl) fun C hC => ?_
  unfold ir_infer_Text
  by_cases h : t.may = 0
  · obtain ⟨rfl, hl, hz⟩ := hx h
    repeat' (first | (with_reducible first | refine W ?_ | refine Wk (by decide) ?_) | refine Cg _ (yCheck_a x.ty) ?_ | refine Cg _ (yShow_a x hl hz) ?_ | ((with_reducible first | refine Wo (fun K hK => ?_) | refine Wp ?_ | refine Wq ?_ | refine Wr ?_); (try simp only [go_sem, fN, ↓gI, ↓pI, seval, eT, iR, h, dT, dF, nL]); (repeat with_reducible refine And.intro (by first | omega | exact lens | (simp [maxLen_eq] <;> omega)) ?_); (try (refine hK _ ?_; clear hK K)); (try with_reducible refine iC ?_)))
    simp only [go_sem, fN, ↓gI, ↓pI, seval, FinQ, AS.result, resAll, resOne, tupV, h]
  · repeat' (first | (with_reducible first | refine W ?_ | refine Wk (by decide) ?_) | refine Cg _ (yCheck_a t) ?_ | ((with_reducible first | refine Wo (fun K hK => ?_) | refine Wp ?_ | refine Wq ?_ | refine Wr ?_); (try simp only [go_sem, fN, ↓gI, ↓pI, seval, eT, iR, h, dT, dF, nL]); (repeat with_reducible refine And.intro (by first | omega | exact lens | (simp [maxLen_eq] <;> omega)) ?_); (try (refine hK _ ?_; clear hK K)); (try with_reducible refine iC ?_)))
    simp only [go_sem, fN, ↓gI, ↓pI, seval, FinQ, AS.result, resAll, resOne, tupV, h]
    try rfl
theorem arrow_a (a b : Tm) : ACalls Tryz.prog 79 [aTm a, aTm b] (aTm (arrT a b)) := by
  refine ac_infer_arrow (Nat.le_of_ble_eq_true rfl) fun C hC => ?_
  unfold ir_infer_arrow
  repeat' (first | (with_reducible first | refine W ?_ | refine Wk (by decide) ?_) | ((with_reducible first | refine Wo (fun K hK => ?_) | refine Wp ?_ | refine Wq ?_ | refine Wr ?_); (try simp only [go_sem, fN, ↓gI, ↓pI, seval, eT, iR, dT, dF, nL]); (repeat with_reducible refine And.intro (by first | omega | exact lens | (simp [maxLen_eq] <;> omega)) ?_); (try (refine hK _ ?_; clear hK K)); (try with_reducible refine iC ?_)))
  simp only [go_sem, fN, ↓gI, ↓pI, seval, FinQ, AS.result, resAll, resOne, tupV]
  show _ = AV.agg [.st (.str fS), .st (.list [encT a, encT b])]
  rw [encT_eq, encT_eq]
  rfl
theorem arrowR_a (a b : Tm) : ACalls Tryz.prog 68 [aTm a, aTm b] (aTm (arrT a b)) := by
  refine ac_R_Arrow (Nat.le_of_ble_eq_true rfl) fun C hC => ?_
  unfold ir_R_Arrow
  repeat' (first | (with_reducible first | refine W ?_ | refine Wk (by decide) ?_) | ((with_reducible first | refine Wo (fun K hK => ?_) | refine Wp ?_ | refine Wq ?_ | refine Wr ?_); (try simp only [go_sem, fN, ↓gI, ↓pI, seval, eT, iR, dT, dF, nL]); (repeat with_reducible refine And.intro (by first | omega | exact lens | (simp [maxLen_eq] <;> omega)) ?_); (try (refine hK _ ?_; clear hK K)); (try with_reducible refine iC ?_)))
  simp only [go_sem, fN, ↓gI, ↓pI, seval, FinQ, AS.result, resAll, resOne, tupV]
  show _ = AV.agg [.st (.str fS), .st (.list [encT a, encT b])]
  rw [encT_eq, encT_eq]
  rfl
theorem leafI_a (s : ByteArray) : ACalls Tryz.prog 103 [aStr s] (aTm (.mk s [])) := by
  refine ac_R_Leaf (Nat.le_of_ble_eq_true rfl) fun C hC => ?_
  unfold ir_R_Leaf
  repeat' (first | (with_reducible first | refine W ?_ | refine Wk (by decide) ?_) | ((with_reducible first | refine Wo (fun K hK => ?_) | refine Wq ?_ | refine Wr ?_); (try simp only [go_sem, fN, ↓gI, ↓pI, seval, eT, iR]); (repeat with_reducible refine And.intro (by first | omega | exact lens | (simp [maxLen_eq] <;> omega)) ?_); (try (refine hK _ ?_; clear hK K))))
  simp only [go_sem, fN, ↓gI, ↓pI, seval, FinQ, AS.result, resAll, resOne, tupV]
  rfl
theorem as_a (c : UInt8) (x : BT) (hl : x.low 1000000) : ACalls Tryz.prog 50 [aTy x.ty, aStr ⟨#[c]⟩] (aTm (x.tm c)) := by
  induction x with
  | b n =>
    have z1 := decS_size_le (n := n) hl
    have z2 : (⟨#[c]⟩ : ByteArray).size = 1 := rfl
    refine ac_infer_as (Nat.le_of_ble_eq_true rfl) fun C hC => ?_
    unfold ir_infer_as
    repeat' (first | (with_reducible first | refine W ?_ | refine Wk (by decide) ?_) | refine Cg _ (itoa_a n hl) ?_ | ((with_reducible first | refine Wo (fun K hK => ?_) | refine Wp ?_ | refine Wq ?_ | refine Wr ?_); (try simp only [go_sem, fN, ↓gI, ↓pI, seval, eT, iR, z2, dT, dF, nL]); (repeat with_reducible refine And.intro (by first | omega | exact lens | (simp [maxLen_eq] <;> omega)) ?_); (try (refine hK _ ?_; clear hK K)); (try with_reducible refine iC ?_)))
    simp only [go_sem, fN, ↓gI, ↓pI, seval, FinQ, AS.result, resAll, resOne, tupV]
    rfl
  | a u v iu iv =>
    have hu := iu hl.1
    have hv := iv hl.2
    refine ac_infer_as (Nat.le_of_ble_eq_true rfl) fun C hC => ?_
    unfold ir_infer_as
    repeat' (first | (with_reducible first | refine W ?_ | refine Wk (by decide) ?_) | refine Cg _ (hu) ?_ | refine Cg _ (hv) ?_ | refine Cg _ (arrow_a (u.tm c) (v.tm c)) ?_ | ((with_reducible first | refine Wo (fun K hK => ?_) | refine Wp ?_ | refine Wq ?_ | refine Wr ?_); (try simp only [go_sem, fN, ↓gI, ↓pI, seval, eT, iR, dT, dF, nL]); (repeat with_reducible refine And.intro (by first | omega | exact lens | (simp [maxLen_eq] <;> omega)) ?_); (try (refine hK _ ?_; clear hK K)); (try with_reducible refine iC ?_)))
    simp only [go_sem, fN, ↓gI, ↓pI, seval, FinQ, AS.result, resAll, resOne, tupV]
    rfl
theorem fresh_S {a0 : Nat} {c : AC} {n : Nat} {S : AStore} (ha : 1000 ≤ a0) (hc : c.high = true) (hn : n < 900000) (hSa : S a0 = some (.box 82 [c, .st (.int .i64 n)])) :
    ACallsS Tryz.prog 78 [.one (.ptr a0 1 0 0)] S (aTm (tvar (n + 1))) (updE S a0 (some (.box 82 [c, .st (.int .i64 ((n + 1 : Nat) : Int))]))) := by
  have z1 := decS_size_le (n := n + 1) (by omega)
  have z2 : (⟨#[84]⟩ : ByteArray).size = 1 := rfl
  have a2 : ¬ a0 = 2 := by omega
  have d2 : ¬ 2 = a0 := by omega
  have hi := itoa_a (n + 1) (by omega)
  rw [show (((n + 1 : Nat) : Int)) = (n : Int) + 1 by omega] at hi ⊢
  refine acS_metaprune_infer_maker_fresh (Nat.le_of_ble_eq_true rfl) fun hS C hC => ?_
  have k2 : S 2 = none := clean_none hS (by omega)
  unfold ir_metaprune_infer_maker_fresh
  repeat' (first | (with_reducible first | refine W ?_ | refine Wk (by decide) ?_) | refine Cg _ (hi) ?_ | ((with_reducible first | refine Wo (fun K hK => ?_) | refine Wp ?_ | refine Wq ?_ | refine Wr ?_); (try simp only [go_sem, fN, ↓gI, ↓pI, seval, eT, iR, hSa, a2, d2, k2, z2, dT, dF, nL]); (repeat with_reducible refine And.intro (by first | omega | exact lens | (simp [maxLen_eq] <;> omega)) ?_); (try (refine hK _ ?_; clear hK K)); (try with_reducible refine iC ?_)))
  refine finS_one (.agg [.st (.str (lName 84 (n + 1))), .full []]) hS ha (by simp only [ABlk.high, AC.highs, hc, AC.high, Bool.and_self]) trivial ?_ ?_ ?_ fun i hi hne => ?_
  · simp only [go_sem, fN, ↓gI, ↓pI, seval, eT, iR, resAll, resOne, tupV, a2, d2]
    rfl
  · simp only [go_sem, fN, ↓gI, ↓pI, seval, eT, iR]
    try rfl
  · simp only [go_sem, fN, ↓gI, ↓pI, seval, eT, iR, a2, hSa]
  · have i2 : ¬ i = 2 := by omega
    simp only [go_sem, fN, ↓gI, ↓pI, seval, eT, iR, hne, i2]
theorem freshR_S {a0 : Nat} {c : AC} {n : Nat} {S : AStore} (ha : 1000 ≤ a0) (hc : c.high = true) (hn : n < 900000) (hSa : S a0 = some (.box 66 [c, .st (.int .i64 n)])) :
    ACallsS Tryz.prog 67 [.one (.ptr a0 1 0 0)] S (aTm (tvar (n + 1))) (updE S a0 (some (.box 66 [c, .st (.int .i64 ((n + 1 : Nat) : Int))]))) := by
  have z1 := decS_size_le (n := n + 1) (by omega)
  have z2 : (⟨#[84]⟩ : ByteArray).size = 1 := rfl
  have a2 : ¬ a0 = 2 := by omega
  have d2 : ¬ 2 = a0 := by omega
  have hi := decR_a (n + 1) (by omega)
  rw [show (((n + 1 : Nat) : Int)) = (n : Int) + 1 by omega] at hi ⊢
  refine acS_metaprune_R_typing_fresh (Nat.le_of_ble_eq_true rfl) fun hS C hC => ?_
  have k2 : S 2 = none := clean_none hS (by omega)
  unfold ir_metaprune_R_typing_fresh
  repeat' (first | (with_reducible first | refine W ?_ | refine Wk (by decide) ?_) | refine Cg _ (hi) ?_ | refine Cg _ (leafI_a (lName 84 (n + 1))) ?_ | ((with_reducible first | refine Wo (fun K hK => ?_) | refine Wp ?_ | refine Wq ?_ | refine Wr ?_); (try simp only [go_sem, fN, ↓gI, ↓pI, seval, eT, iR, hSa, a2, d2, k2, z2, dT, dF, nL]); (repeat with_reducible refine And.intro (by first | omega | exact lens | (simp [maxLen_eq] <;> omega)) ?_); (try (refine hK _ ?_; clear hK K)); (try with_reducible refine iC ?_)))
  refine finS_one (aTm (tvar (n + 1))) hS ha (by simp only [ABlk.high, AC.highs, hc, AC.high, Bool.and_self]) trivial ?_ ?_ ?_ fun i hi hne => ?_
  · simp only [go_sem, fN, ↓gI, ↓pI, seval, eT, iR, resAll, resOne, tupV, a2, d2]
    rfl
  · simp only [go_sem, fN, ↓gI, ↓pI, seval, eT, iR]
    try rfl
  · simp only [go_sem, fN, ↓gI, ↓pI, seval, eT, iR, a2, hSa]
  · have i2 : ¬ i = 2 := by omega
    simp only [go_sem, fN, ↓gI, ↓pI, seval, eT, iR, hne, i2]
theorem hasConst_a (t : Lm) (hz : t.size ≤ 1000000) : ACalls Tryz.prog 14 [aLm t] (aBool (!t.pure)) := by
  induction h : SizeOf.sizeOf t using Nat.strongRecOn generalizing t with
  | _ N ih =>
  subst h
  have hs := Lm.size_eq t
  have hlen := Lm.length_le t.subs
  rw [Lm.pure_eq]
  refine ac_R_HasConst (Nat.le_of_ble_eq_true rfl) fun C hC => ?_
  unfold ir_R_HasConst
  by_cases hk : t.kind = 4
  · repeat' (first | (with_reducible first | refine W ?_ | refine Wk (by decide) ?_) | ((with_reducible first | refine Wo (fun K hK => ?_) | refine Wp ?_ | refine Wq ?_ | refine Wr ?_); (try simp only [go_sem, fN, ↓gI, ↓pI, seval, eT, iR, hk, dT, dF, nL]); (repeat with_reducible refine And.intro (by first | omega | exact lens | (simp [maxLen_eq] <;> omega)) ?_); (try (refine hK _ ?_; clear hK K)); (try with_reducible refine iC ?_)))
    simp only [go_sem, fN, ↓gI, ↓pI, seval, FinQ, AS.result, resAll, resOne, tupV, hk]
    try simp
  repeat' (first | (with_reducible first | refine W ?_ | refine Wk (by decide) ?_) | ((with_reducible first | refine Wo (fun K hK => ?_) | refine Wp ?_ | refine Wq ?_ | refine Wr ?_); (try simp only [go_sem, fN, ↓gI, ↓pI, seval, eT, iR, hk, dT, dF, nL]); (repeat with_reducible refine And.intro (by first | omega | exact lens | (simp [maxLen_eq] <;> omega)) ?_); (try (refine hK _ ?_; clear hK K)); (try with_reducible refine iC ?_)))
  refine IWP.loopD [] (fun n s => ∃ k, k ≤ t.subs.length ∧ n = t.subs.length - k ∧ Lm.pures (t.subs.take k) = true ∧ s.env 1 = .one (.ptr 1 1 0 0) ∧ s.env 3 = aInt k ∧ s.S 1 = some (.box 24 [.st (.int .i64 t.kind), .st (.int .i64 t.idx), .st (.list (t.subs.map encL))])) t.subs.length ⟨0, Nat.zero_le _, rfl, rfl, rfl, rfl, rfl⟩ ?_
  rintro n ⟨env, S⟩ ⟨k, hk', rfl, hc, e1, e3, s1⟩
  simp only at e1 e3 s1
  by_cases hlt : (k : Int) < t.subs.length
  · obtain ⟨a, ha⟩ := get_lt (show k < t.subs.length by omega)
    have z3 := Lm.size_mem (mem_of_get ha)
    have hs := Lm.pures_take ha hc
    have hr := ih _ (Lm.lt_of_sub (mem_of_get ha)) a (by omega) rfl
    cases hp : a.pure with
    | true =>
      rw [hp] at hr hs
      repeat' (first | (with_reducible first | refine W ?_ | refine Wk (by decide) ?_) | refine Cg _ (hr) ?_ | ((with_reducible first | refine Wo (fun K hK => ?_) | refine Wp ?_ | refine Wq ?_ | refine Wr ?_); (try simp only [go_sem, fN, ↓gI, ↓pI, seval, eT, iR, e1, e3, s1, ha, hlt, dT, dF, nL]); (repeat with_reducible refine And.intro (by first | omega | exact lens | (simp [maxLen_eq] <;> omega)) ?_); (try (refine hK _ ?_; clear hK K)); (try with_reducible refine iC ?_)))
      refine then_normal ⟨t.subs.length - (k + 1), by omega, k + 1, by omega, rfl, ?_⟩
      simp only [go_sem, fN, ↓gI, ↓pI, seval, AS.drop, dropS, AC.clears, AC.clear, AC.highs, AC.high, Bool.not_false, Bool.true_and, Bool.and_self, AV.purge, AV.purges, AC.purge, ABlk.purge, List.contains_cons, List.contains_nil, Nat.reduceBEq, Bool.or_self, Bool.or_false, Bool.false_or, Bool.or_true, eT, iR, e1, e3, s1]
      exact ⟨hs, by congr 3⟩
    | false =>
      rw [hp] at hr hs
      repeat' (first | (with_reducible first | refine W ?_ | refine Wk (by decide) ?_) | refine Cg _ (hr) ?_ | ((with_reducible first | refine Wo (fun K hK => ?_) | refine Wp ?_ | refine Wq ?_ | refine Wr ?_); (try simp only [go_sem, fN, ↓gI, ↓pI, seval, eT, iR, e1, e3, s1, ha, hlt, dT, dF, nL]); (repeat with_reducible refine And.intro (by first | omega | exact lens | (simp [maxLen_eq] <;> omega)) ?_); (try (refine hK _ ?_; clear hK K)); (try with_reducible refine iC ?_)))
      simp only [go_sem, fN, ↓gI, ↓pI, seval, FinQ, AS.result, resAll, resOne, tupV]
      rw [Lm.pures_bad hs]
      simp
  · rw [List.take_of_length_le (by omega)] at hc
    repeat' (first | (with_reducible first | refine W ?_ | refine Wk (by decide) ?_) | ((with_reducible first | refine Wo (fun K hK => ?_) | refine Wp ?_ | refine Wq ?_ | refine Wr ?_); (try simp only [go_sem, fN, ↓gI, ↓pI, seval, eT, iR, e1, e3, s1, hlt, dT, dF, nL]); (repeat with_reducible refine And.intro (by first | omega | exact lens | (simp [maxLen_eq] <;> omega)) ?_); (try (refine hK _ ?_; clear hK K)); (try with_reducible refine iC ?_)))
    simp only [go_sem, fN, ↓gI, ↓pI, seval, FinQ, AS.result, resAll, resOne, tupV]
    simp [hc, hk]
theorem pures_first : ∀ {xs : List Lm}, Lm.pures xs = false → ∃ (k : Nat) (x : Lm), xs[k]? = some x ∧ x.pure = false ∧ ∀ (j : Nat) (y : Lm), j < k → xs[j]? = some y → y.pure = true
  | [], h => by simp [Lm.pures] at h
  | x :: xs, h => by
    rw [Lm.pures, Bool.and_eq_false_iff] at h
    cases hx : x.pure with
    | false => exact ⟨0, x, rfl, hx, fun j y hj => by omega⟩
    | true =>
      obtain ⟨k, y, h1, h2, h3⟩ := pures_first (h.resolve_left (by rw [hx]; simp))
      refine ⟨k + 1, y, h1, h2, fun j z hj hz => ?_⟩
      cases j with
      | zero => simp at hz; subst hz; exact hx
      | succ j => exact h3 j z (by omega) (by simpa using hz)
theorem pures_mem {xs : List Lm} (h : Lm.pures xs = true) {x : Lm} (hx : x ∈ xs) : x.pure = true := by
  induction xs with
  | nil => simp at hx
  | cons y ys ih =>
    rw [Lm.pures, Bool.and_eq_true] at h
    rcases List.mem_cons.1 hx with rfl | hx
    · exact h.1
    · exact ih h.2 hx
theorem pure1_a (t : Lm) (ht : ACalls Tryz.prog 43 [aLm t] (aBool t.pure)) : ACalls Tryz.prog 77 [aLm t] (aBool (!t.pure)) := by
  refine ac_infer_pure_1 (Nat.le_of_ble_eq_true rfl) fun C hC => ?_
  unfold ir_infer_pure_1
  repeat' (first | (with_reducible first | refine W ?_ | refine Wk (by decide) ?_) | refine Cg _ (ht) ?_ | ((with_reducible first | refine Wo (fun K hK => ?_) | refine Wp ?_ | refine Wq ?_ | refine Wr ?_); (try simp only [go_sem, fN, ↓gI, ↓pI, seval, eT, iR, dT, dF, nL]); (repeat with_reducible refine And.intro (by first | omega | exact lens | (simp [maxLen_eq] <;> omega)) ?_); (try (refine hK _ ?_; clear hK K)); (try with_reducible refine iC ?_)))
  simp only [go_sem, fN, ↓gI, ↓pI, seval, FinQ, AS.result, resAll, resOne, tupV]
theorem indexPure_a (xs : List Lm) (hh : ∀ a ∈ xs, ACalls Tryz.prog 43 [aLm a] (aBool a.pure)) (hl : xs.length ≤ 1000000) : ∃ i : Int, (0 ≤ i ↔ Lm.pures xs = false) ∧ ACalls Tryz.prog 108 [aLms xs, .one (.fn 77 [])] (aInt i) := by
  have hplain : plainF Tryz.prog 77 = true := by kernel_rfl
  obtain ⟨i, hi, hk⟩ : ∃ i : Int, (0 ≤ i ↔ Lm.pures xs = false) ∧ ((i = -1 ∧ ∀ (j : Nat) (y : Lm), xs[j]? = some y → y.pure = true) ∨ ∃ (k : Nat) (x : Lm), i = k ∧ xs[k]? = some x ∧ x.pure = false ∧ ∀ (j : Nat) (y : Lm), j < k → xs[j]? = some y → y.pure = true) := by
    cases hp : Lm.pures xs with
    | true => exact ⟨-1, by simp, .inl ⟨rfl, fun j y hj => pures_mem hp (List.mem_of_getElem? hj)⟩⟩
    | false =>
      obtain ⟨k, x, h1, h2, h3⟩ := pures_first hp
      exact ⟨k, by simp, .inr ⟨k, x, rfl, h1, h2, h3⟩⟩
  refine ⟨i, hi, ?_⟩
  refine ac_slices_IndexFunc_metaprune_api_Lam_metaprune_api_Lam (Nat.le_of_ble_eq_true rfl) fun C hC => ?_
  unfold ir_slices_IndexFunc_metaprune_api_Lam_metaprune_api_Lam
  repeat' (first | (with_reducible first | refine W ?_ | refine Wk (by decide) ?_) | ((with_reducible first | refine Wo (fun K hK => ?_) | refine Wp ?_ | refine Wq ?_ | refine Wr ?_); (try simp only [go_sem, fN, ↓gI, ↓pI, seval, eT, iR, dT, dF, nL]); (repeat with_reducible refine And.intro (by first | omega | exact lens | (simp [maxLen_eq] <;> omega)) ?_); (try (refine hK _ ?_; clear hK K)); (try with_reducible refine iC ?_)))
  refine IWP.loopD [] (fun n s => ∃ k : Nat, k ≤ xs.length ∧ n = xs.length - k ∧ (i = -1 ∨ (k : Int) ≤ i) ∧ s.env 0 = aLms xs ∧ s.env 1 = .one (.fn 77 []) ∧ s.env 7 = aInt xs.length ∧ s.env 8 = aInt k) xs.length ⟨0, Nat.zero_le _, rfl, (by rcases hk with ⟨h, _⟩ | ⟨k, x, h, _⟩ <;> omega), rfl, rfl, rfl, rfl⟩ ?_
  rintro n ⟨env, S⟩ ⟨k, hk', rfl, hp, e0, e1, e7, e8⟩
  simp only at e0 e1 e7 e8
  by_cases hlt : (k : Int) < xs.length
  · obtain ⟨a, ha⟩ := get_lt (show k < xs.length by omega)
    have h1 := pure1_a a (hh a (mem_of_get ha))
    repeat' (first | (with_reducible first | refine W ?_ | refine Wk (by decide) ?_) | ((with_reducible first | refine Wo (fun K hK => ?_) | refine Wp ?_ | refine Wq ?_ | refine Wr ?_); (try simp only [go_sem, fN, ↓gI, ↓pI, seval, eT, iR, e0, e1, e7, e8, hlt, ha, hplain, dT, dF, nL]); (repeat with_reducible refine And.intro (by first | omega | exact lens | (simp [maxLen_eq] <;> omega)) ?_); (try (refine hK _ ?_; clear hK K)); (try with_reducible refine iC ?_)))
    refine ⟨_, _, h1.toS rfl, ?_⟩
    cases hpa : a.pure with
    | true =>
      repeat' (first | (with_reducible first | refine W ?_ | refine Wk (by decide) ?_) | ((with_reducible first | refine Wo (fun K hK => ?_) | refine Wp ?_ | refine Wq ?_ | refine Wr ?_); (try simp only [go_sem, fN, ↓gI, ↓pI, seval, eT, iR, hpa, e0, e1, e7, e8, dT, dF, nL]); (repeat with_reducible refine And.intro (by first | omega | exact lens | (simp [maxLen_eq] <;> omega)) ?_); (try (refine hK _ ?_; clear hK K)); (try with_reducible refine iC ?_)))
      refine then_normal ⟨xs.length - (k + 1), by omega, k + 1, by omega, rfl, ?_, ?_⟩
      · rcases hk with ⟨h, _⟩ | ⟨q, x, h, hx, hxp, _⟩
        · exact .inl h
        · have : ¬ k = q := fun e => by
            subst e
            rw [ha] at hx
            cases hx
            rw [hpa] at hxp
            cases hxp
          right
          omega
      · simp only [go_sem, fN, ↓gI, ↓pI, seval, AS.drop, dropS, AC.clears, AC.clear, AC.highs, AC.high, Bool.not_false, Bool.true_and, Bool.and_self, AV.purge, AV.purges, AC.purge, ABlk.purge, List.contains_cons, List.contains_nil, Nat.reduceBEq, Bool.or_self, Bool.or_false, Bool.false_or, Bool.or_true, eT, iR, e0, e1, e7, e8]
        congr 3
    | false =>
      have hik : i = k := by
        rcases hk with ⟨_, h⟩ | ⟨q, x, h, hx, hxp, hall⟩
        · rw [h k a ha] at hpa; cases hpa
        · rcases Nat.lt_trichotomy k q with hkq | hkq | hkq
          · rw [hall k a hkq ha] at hpa; cases hpa
          · omega
          · omega
      repeat' (first | (with_reducible first | refine W ?_ | refine Wk (by decide) ?_) | ((with_reducible first | refine Wo (fun K hK => ?_) | refine Wp ?_ | refine Wq ?_ | refine Wr ?_); (try simp only [go_sem, fN, ↓gI, ↓pI, seval, eT, iR, hpa, e0, e1, e7, e8, dT, dF, nL]); (repeat with_reducible refine And.intro (by first | omega | exact lens | (simp [maxLen_eq] <;> omega)) ?_); (try (refine hK _ ?_; clear hK K)); (try with_reducible refine iC ?_)))
      simp only [go_sem, fN, ↓gI, ↓pI, seval, FinQ, AS.result, resAll, resOne, tupV, hik]
  · have hi1 : i = -1 := by
      rcases hk with ⟨h, _⟩ | ⟨q, x, h, hx, _⟩
      · exact h
      · have := (List.getElem?_eq_some_iff.1 hx).1
        omega
    repeat' (first | (with_reducible first | refine W ?_ | refine Wk (by decide) ?_) | ((with_reducible first | refine Wo (fun K hK => ?_) | refine Wp ?_ | refine Wq ?_ | refine Wr ?_); (try simp only [go_sem, fN, ↓gI, ↓pI, seval, eT, iR, e0, e1, e7, e8, hlt, dT, dF, nL]); (repeat with_reducible refine And.intro (by first | omega | exact lens | (simp [maxLen_eq] <;> omega)) ?_); (try (refine hK _ ?_; clear hK K)); (try with_reducible refine iC ?_)))
    simp only [go_sem, fN, ↓gI, ↓pI, seval, FinQ, AS.result, resAll, resOne, tupV, hi1]
theorem pure_a (t : Lm) (hz : t.size ≤ 1000000) : ACalls Tryz.prog 43 [aLm t] (aBool t.pure) := by
  induction h : SizeOf.sizeOf t using Nat.strongRecOn generalizing t with
  | _ N ih =>
  subst h
  have hs := Lm.size_eq t
  have hlen := Lm.length_le t.subs
  obtain ⟨i, hi, hI⟩ := indexPure_a t.subs (fun a ha => ih _ (Lm.lt_of_sub ha) a (by have := Lm.size_mem ha; omega) rfl) (by omega)
  have hCF : ACalls Tryz.prog 76 [aLms t.subs, .one (.fn 77 [])] (aBool (!Lm.pures t.subs)) := by
    refine ac_slices_ContainsFunc_metaprune_api_Lam_metaprune_api_Lam (Nat.le_of_ble_eq_true rfl) fun C hC => ?_
    unfold ir_slices_ContainsFunc_metaprune_api_Lam_metaprune_api_Lam
    repeat' (first | (with_reducible first | refine W ?_ | refine Wk (by decide) ?_) | refine Cg _ (hI) ?_ | ((with_reducible first | refine Wo (fun K hK => ?_) | refine Wp ?_ | refine Wq ?_ | refine Wr ?_); (try simp only [go_sem, fN, ↓gI, ↓pI, seval, eT, iR, dT, dF, nL]); (repeat with_reducible refine And.intro (by first | omega | exact lens | (simp [maxLen_eq] <;> omega)) ?_); (try (refine hK _ ?_; clear hK K)); (try with_reducible refine iC ?_)))
    simp only [go_sem, fN, ↓gI, ↓pI, seval, FinQ, AS.result, resAll, resOne, tupV]
    cases hp : Lm.pures t.subs with
    | true =>
      have h0 : ¬ 0 ≤ i := fun h => absurd (hi.1 h) (by rw [hp]; simp)
      simp [h0]
    | false =>
      have h0 : 0 ≤ i := hi.2 hp
      simp [h0]
  rw [Lm.pure_eq]
  refine ac_infer_pure (Nat.le_of_ble_eq_true rfl) fun C hC => ?_
  unfold ir_infer_pure
  by_cases hk : t.kind = 4
  · rw [decide_eq_true hk]
    repeat' (first | (with_reducible first | refine W ?_ | refine Wk (by decide) ?_) | refine Cg _ (hCF) ?_ | ((with_reducible first | refine Wo (fun K hK => ?_) | refine Wp ?_ | refine Wq ?_ | refine Wr ?_); (try simp only [go_sem, fN, ↓gI, ↓pI, seval, eT, iR, hk, dT, dF, nL]); (repeat with_reducible refine And.intro (by first | omega | exact lens | (simp [maxLen_eq] <;> omega)) ?_); (try (refine hK _ ?_; clear hK K)); (try with_reducible refine iC ?_)))
    exact ⟨trivial, rfl⟩
  · rw [decide_eq_false hk]
    repeat' (first | (with_reducible first | refine W ?_ | refine Wk (by decide) ?_) | refine Cg _ (hCF) ?_ | ((with_reducible first | refine Wo (fun K hK => ?_) | refine Wp ?_ | refine Wq ?_ | refine Wr ?_); (try simp only [go_sem, fN, ↓gI, ↓pI, seval, eT, iR, hk, dT, dF, nL]); (repeat with_reducible refine And.intro (by first | omega | exact lens | (simp [maxLen_eq] <;> omega)) ?_); (try (refine hK _ ?_; clear hK K)); (try with_reducible refine iC ?_)))
    first | exact ⟨trivial, rfl⟩ | (refine ⟨trivial, ?_⟩; cases hp : Lm.pures t.subs <;> rfl)
end Go.Proofs.YtehnjhkndbcmgaaGreatDoor
