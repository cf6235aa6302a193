/-
  Part 10 of the texts: BTerm; BVars; PPair; PGen; PGen2; PCanon; PUnify; PRobin; PMatch; PLam. Conditions: none.
-/
import Derived.Test.YtehnjhkndbcmgaaGreatDoorInM9
import Derived.Lib.ItoaNum
namespace Go.Proofs.YtehnjhkndbcmgaaGreatDoor
open Go Go.RowKit
set_option linter.unusedVariables false
set_option linter.unusedSimpArgs false
set_option maxHeartbeats 400000
theorem byteN_eq (s : ByteArray) (k : Nat) : byteN s k = byteAt s k := rfl
theorem size_ne {s : ByteArray} (h : ¬ s.size = 0) : ¬ s = ⟨#[]⟩ := fun e => h (by rw [e]; rfl)
theorem size_eq0 {s : ByteArray} (h : s.size = 0) : s = ⟨#[]⟩ := by
  have := ByteArray.size_eq_zero_iff.1 h
  exact this
theorem variable_a (s : ByteArray) : ACalls Tryz.prog 81 [aStr s] (aBool (isVar s)) := by
  by_cases h0 : s.size = 0
  · have := size_eq0 h0
    subst this
    refine ac_term_Variable (Nat.le_of_ble_eq_true rfl) fun C hC => ?_
    unfold ir_term_Variable
    repeat' (first | (with_reducible first | refine W ?_ | refine Wk (by decide) ?_) | ((with_reducible first | refine Wo (fun K hK => ?_) | refine Wq ?_ | refine Wr ?_); (try simp only [go_sem, fN, ↓gI, ↓pI, seval, eT, iR]); (repeat with_reducible refine And.intro (by first | omega | exact lens | (simp [maxLen_eq] <;> omega)) ?_); (try (refine hK _ ?_; clear hK K))))
    simp only [go_sem, fN, ↓gI, ↓pI, seval, FinQ, AS.result, resAll, resOne, tupV]
    rfl
  · have h1 := size_ne h0
    have h2 : 0 < s.size := by omega
    refine ac_term_Variable (Nat.le_of_ble_eq_true rfl) fun C hC => ?_
    unfold ir_term_Variable
    by_cases h3 : 65 ≤ byteAt s 0 <;> by_cases h4 : byteAt s 0 ≤ 90
    all_goals
      repeat' (first | (with_reducible first | refine W ?_ | refine Wk (by decide) ?_) | ((with_reducible first | refine Wo (fun K hK => ?_) | refine Wq ?_ | refine Wr ?_); (try simp only [go_sem, fN, ↓gI, ↓pI, seval, eT, iR, h1, h2, byteN_eq, h3, h4]); (repeat with_reducible refine And.intro (by first | omega | exact lens | (simp [maxLen_eq] <;> omega)) ?_); (try (refine hK _ ?_; clear hK K))))
      simp only [go_sem, fN, ↓gI, ↓pI, seval, FinQ, AS.result, resAll, resOne, tupV, isVar, h3, h4, h2]
      try simp
theorem isVar_a (s : ByteArray) : ACalls Tryz.prog 69 [aStr s] (aBool (isVar s)) := by
  by_cases h0 : s.size = 0
  · have := size_eq0 h0
    subst this
    refine ac_R_IsVar (Nat.le_of_ble_eq_true rfl) fun C hC => ?_
    unfold ir_R_IsVar
    repeat' (first | (with_reducible first | refine W ?_ | refine Wk (by decide) ?_) | ((with_reducible first | refine Wo (fun K hK => ?_) | refine Wq ?_ | refine Wr ?_); (try simp only [go_sem, fN, ↓gI, ↓pI, seval, eT, iR]); (repeat with_reducible refine And.intro (by first | omega | exact lens | (simp [maxLen_eq] <;> omega)) ?_); (try (refine hK _ ?_; clear hK K))))
    simp only [go_sem, fN, ↓gI, ↓pI, seval, FinQ, AS.result, resAll, resOne, tupV]
    rfl
  · have h1 := size_ne h0
    have h2 : 0 < s.size := by omega
    refine ac_R_IsVar (Nat.le_of_ble_eq_true rfl) fun C hC => ?_
    unfold ir_R_IsVar
    by_cases h3 : 65 ≤ byteAt s 0 <;> by_cases h4 : byteAt s 0 ≤ 90
    all_goals
      repeat' (first | (with_reducible first | refine W ?_ | refine Wk (by decide) ?_) | ((with_reducible first | refine Wo (fun K hK => ?_) | refine Wq ?_ | refine Wr ?_); (try simp only [go_sem, fN, ↓gI, ↓pI, seval, eT, iR, h1, h2, byteN_eq, h3, h4]); (repeat with_reducible refine And.intro (by first | omega | exact lens | (simp [maxLen_eq] <;> omega)) ?_); (try (refine hK _ ?_; clear hK K))))
      simp only [go_sem, fN, ↓gI, ↓pI, seval, FinQ, AS.result, resAll, resOne, tupV, isVar, h3, h4, h2]
      try simp
theorem sizeR_a (t : Tm) (m : Int) (h0 : 0 ≤ m) (h1 : m ≤ 9223372036854775806) : ACalls Tryz.prog 105 [aTm t, aInt m] (aInt (capTo t.size m)) := by
  induction h : SizeOf.sizeOf t using Nat.strongRecOn generalizing t m with
  | _ N ih =>
  subst h
  have hs := Tm.size_eq t
  refine ac_R_Size (Nat.le_of_ble_eq_true rfl) fun C hC => ?_
  unfold ir_R_Size
  refine IWP.learn 0 (by omega) fun hkn => ?_
  have hkn := known_tm hkn
  repeat' (first | (with_reducible first | refine W ?_ | refine Wk (by decide) ?_) | ((with_reducible first | refine Wo (fun K hK => ?_) | refine Wq ?_ | refine Wr ?_); (try simp only [go_sem, fN, ↓gI, ↓pI, seval, eT, iR]); (repeat with_reducible refine And.intro (by first | omega | exact lens | (simp [maxLen_eq] <;> omega)) ?_); (try (refine hK _ ?_; clear hK K))))
  refine IWP.loop (fun n s => ∃ k, k ≤ t.args.length ∧ n = t.args.length - k ∧ s.env 5 = aInt (capTo (1 + Tm.sizes (t.args.take k)) m) ∧ s.env 1 = aInt m ∧ s.env 2 = .one (.ptr 2 1 0 0) ∧ s.env 6 = aInt k ∧ s.S 2 = some (.box 69 [.st (.str t.name), .st (.list (t.args.map encT))])) t.args.length ⟨0, Nat.zero_le _, rfl, by
    simp only [go_sem, fN, ↓gI, ↓pI, seval, eT, iR]
    rw [capTo]
    have z0 : Tm.sizes [] = 0 := rfl
    congr 3
    split <;> omega, rfl, rfl, rfl, rfl⟩ ?_
  rintro n ⟨env, S⟩ ⟨k, hk, rfl, e5, e1, e2, e6, s2⟩
  simp only at e5 e1 e2 e6 s2
  have z4 := capTo_le (1 + Tm.sizes (t.args.take k)) m h0
  by_cases hlt : (k : Int) < t.args.length
  · obtain ⟨a, ha⟩ := get_lt (show k < t.args.length by omega)
    have z1 := Tm.sizes_take ha
    have z2 := Tm.sizes_take_le t.args (k + 1)
    by_cases hb : m < capTo (1 + Tm.sizes (t.args.take k)) m
    · have hb' : ¬ capTo (1 + Tm.sizes (t.args.take k)) m ≤ m := by omega
      repeat' (first | (with_reducible first | refine W ?_ | refine Wk (by decide) ?_) | ((with_reducible first | refine Wo (fun K hK => ?_) | refine Wq ?_ | refine Wr ?_); (try simp only [go_sem, fN, ↓gI, ↓pI, seval, eT, iR, e5, e1, e2, e6, s2, hlt, hb']); (repeat with_reducible refine And.intro (by first | omega | exact lens | (simp [maxLen_eq] <;> omega)) ?_); (try (refine hK _ ?_; clear hK K))))
      with_reducible refine Wp ?_
      simp only [go_sem, fN, ↓gI, ↓pI, seval, true_implies, false_implies, implies_true, dT, dF, nL, hb']
      (try with_reducible refine iC ?_)
      repeat' (first | (with_reducible first | refine W ?_ | refine Wk (by decide) ?_) | ((with_reducible first | refine Wo (fun K hK => ?_) | refine Wq ?_ | refine Wr ?_); (try simp only [go_sem, fN, ↓gI, ↓pI, seval, eT, iR, e5, e1, e2, e6, s2]); (repeat with_reducible refine And.intro (by first | omega | exact lens | (simp [maxLen_eq] <;> omega)) ?_); (try (refine hK _ ?_; clear hK K))))
      with_reducible refine Wp ?_
      simp only [go_sem, fN, ↓gI, ↓pI, seval, true_implies, false_implies, implies_true, dT, dF, nL, hb]
      (try with_reducible refine iC ?_)
      repeat' (first | (with_reducible first | refine W ?_ | refine Wk (by decide) ?_) | ((with_reducible first | refine Wo (fun K hK => ?_) | refine Wq ?_ | refine Wr ?_); (try simp only [go_sem, fN, ↓gI, ↓pI, seval, eT, iR, e1]); (repeat with_reducible refine And.intro (by first | omega | exact lens | (simp [maxLen_eq] <;> omega)) ?_); (try (refine hK _ ?_; clear hK K))))
      simp only [go_sem, fN, ↓gI, ↓pI, seval, FinQ, AS.result, resAll, resOne, tupV]
      rw [capTo_over hb (show _ ≤ t.size by rw [hs]; omega)]
    · have hb' : capTo (1 + Tm.sizes (t.args.take k)) m ≤ m := by omega
      obtain ⟨b1, b2⟩ := capTo_in hb
      repeat' (first | (with_reducible first | refine W ?_ | refine Wk (by decide) ?_) | ((with_reducible first | refine Wo (fun K hK => ?_) | refine Wq ?_ | refine Wr ?_); (try simp only [go_sem, fN, ↓gI, ↓pI, seval, eT, iR, e5, e1, e2, e6, s2, hlt, hb']); (repeat with_reducible refine And.intro (by first | omega | exact lens | (simp [maxLen_eq] <;> omega)) ?_); (try (refine hK _ ?_; clear hK K))))
      with_reducible refine Wp ?_
      simp only [go_sem, fN, ↓gI, ↓pI, seval, true_implies, false_implies, implies_true, dT, dF, nL, hb']
      (try with_reducible refine iC ?_)
      repeat' (first | (with_reducible first | refine W ?_ | refine Wk (by decide) ?_) | ((with_reducible first | refine Wo (fun K hK => ?_) | refine Wq ?_ | refine Wr ?_); (try simp only [go_sem, fN, ↓gI, ↓pI, seval, eT, iR, e5, e1, e2, e6, s2, ha]); (repeat with_reducible refine And.intro (by first | omega | exact lens | (simp [maxLen_eq] <;> omega)) ?_); (try (refine hK _ ?_; clear hK K))))
      refine ⟨_, ih _ (Tm.lt_of_arg (mem_of_get ha)) a (m - capTo (1 + Tm.sizes (t.args.take k)) m) (by omega) (by omega) rfl, ?_⟩
      have z5 := capTo_le a.size (m - capTo (1 + Tm.sizes (t.args.take k)) m) (by omega)
      repeat' (first | (with_reducible first | refine W ?_ | refine Wk (by decide) ?_) | ((with_reducible first | refine Wo (fun K hK => ?_) | refine Wq ?_ | refine Wr ?_); (try simp only [go_sem, fN, ↓gI, ↓pI, seval, eT, iR, e5, e1, e2, e6, s2]); (repeat with_reducible refine And.intro (by first | omega | exact lens | (simp [maxLen_eq] <;> omega)) ?_); (try (refine hK _ ?_; clear hK K))))
      refine then_normal ⟨t.args.length - (k + 1), by omega, k + 1, by omega, rfl, ?_⟩
      simp only [go_sem, fN, ↓gI, ↓pI, seval, eT, iR, e5, e1, e2, e6, s2]
      exact ⟨by rw [b1, capTo_step b2, z1]; congr 4; omega, by congr 3⟩
  · repeat' (first | (with_reducible first | refine W ?_ | refine Wk (by decide) ?_) | ((with_reducible first | refine Wo (fun K hK => ?_) | refine Wq ?_ | refine Wr ?_); (try simp only [go_sem, fN, ↓gI, ↓pI, seval, eT, iR, e5, e1, e2, e6, s2, hlt]); (repeat with_reducible refine And.intro (by first | omega | exact lens | (simp [maxLen_eq] <;> omega)) ?_); (try (refine hK _ ?_; clear hK K))))
    with_reducible refine Wp ?_
    simp only [go_sem, fN, ↓gI, ↓pI, seval, true_implies, false_implies, implies_true, dT, dF, nL]
    (try with_reducible refine iC ?_)
    have hfull : 1 + Tm.sizes (t.args.take k) = t.size := by rw [List.take_of_length_le (by omega), hs]
    rw [hfull] at e5 z4
    repeat' (first | (with_reducible first | refine W ?_ | refine Wk (by decide) ?_) | ((with_reducible first | refine Wo (fun K hK => ?_) | refine Wq ?_ | refine Wr ?_); (try simp only [go_sem, fN, ↓gI, ↓pI, seval, eT, iR, e5, e1]); (repeat with_reducible refine And.intro (by first | omega | exact lens | (simp [maxLen_eq] <;> omega)) ?_); (try (refine hK _ ?_; clear hK K))))
    by_cases hb : m < capTo t.size m
    · with_reducible refine Wp ?_
      simp only [go_sem, fN, ↓gI, ↓pI, seval, true_implies, false_implies, implies_true, dT, dF, nL, hb]
      (try with_reducible refine iC ?_)
      repeat' (first | (with_reducible first | refine W ?_ | refine Wk (by decide) ?_) | ((with_reducible first | refine Wo (fun K hK => ?_) | refine Wq ?_ | refine Wr ?_); (try simp only [go_sem, fN, ↓gI, ↓pI, seval, eT, iR, e1]); (repeat with_reducible refine And.intro (by first | omega | exact lens | (simp [maxLen_eq] <;> omega)) ?_); (try (refine hK _ ?_; clear hK K))))
      simp only [go_sem, fN, ↓gI, ↓pI, seval, FinQ, AS.result, resAll, resOne, tupV]
      rw [capTo_over hb (Nat.le_refl _)]
    · with_reducible refine Wp ?_
      simp only [go_sem, fN, ↓gI, ↓pI, seval, true_implies, false_implies, implies_true, dT, dF, nL, hb]
      (try with_reducible refine iC ?_)
      repeat' (first | (with_reducible first | refine W ?_ | refine Wk (by decide) ?_) | ((with_reducible first | refine Wo (fun K hK => ?_) | refine Wq ?_ | refine Wr ?_); (try simp only [go_sem, fN, ↓gI, ↓pI, seval, eT, iR, e5]); (repeat with_reducible refine And.intro (by first | omega | exact lens | (simp [maxLen_eq] <;> omega)) ?_); (try (refine hK _ ?_; clear hK K))))
      simp only [go_sem, fN, ↓gI, ↓pI, seval, FinQ, AS.result, resAll, resOne, tupV, e5]
theorem knots_a (t : Tm) (hz : t.size ≤ 1000000) : ACalls Tryz.prog 74 [aTm t] (aTms t.knots) := by
  induction h : SizeOf.sizeOf t using Nat.strongRecOn generalizing t with
  | _ N ih =>
  subst h
  have hs := Tm.size_eq t
  refine ac_R_Knots (Nat.le_of_ble_eq_true rfl) fun C hC => ?_
  unfold ir_R_Knots
  repeat' (first | (with_reducible first | refine W ?_ | refine Wk (by decide) ?_) | ((with_reducible first | refine Wo (fun K hK => ?_) | refine Wq ?_ | refine Wr ?_); (try simp only [go_sem, fN, ↓gI, ↓pI, seval, eT, iR]); (repeat with_reducible refine And.intro (by first | omega | exact lens | (simp [maxLen_eq] <;> omega)) ?_); (try (refine hK _ ?_; clear hK K))))
  refine IWP.ghost (Ghost.own 3 21 69 2 (xs := ([t].map encT)) (by simp only [go_sem, fN, ↓gI, ↓pI, seval, eT, iR]) rfl lens_encT (by omega)) ?_
  have hlen := Tm.length_le t.args
  refine IWP.loopD [] (fun m s => ∃ k, k ≤ t.args.length ∧ m = t.args.length - k ∧ s.env 1 = .one (.ptr 1 1 0 0) ∧ s.S 1 = some (.box 69 [.st (.str t.name), .st (.list (t.args.map encT))]) ∧ s.env 3 = .one (.row 21 (t :: Tm.knotsL (t.args.take k)).length) ∧ s.S 21 = some (.arow 69 2 ((t :: Tm.knotsL (t.args.take k)).map encT)) ∧ s.env 4 = aInt k)
    t.args.length ⟨0, Nat.zero_le _, rfl, rfl, rfl, rfl, rfl, rfl⟩ ?_
  rintro m ⟨env, S⟩ ⟨k, hk, rfl, e1, s1, e3, s21, e4⟩
  simp only at e1 s1 e3 s21 e4
  repeat' (first | (with_reducible first | refine W ?_ | refine Wk (by decide) ?_) | ((with_reducible first | refine Wo (fun K hK => ?_) | refine Wq ?_ | refine Wr ?_); (try simp only [go_sem, fN, ↓gI, ↓pI, seval, eT, iR, e1, s1, e3, s21, e4]); (repeat with_reducible refine And.intro (by first | omega | exact lens | (simp [maxLen_eq] <;> omega)) ?_); (try (refine hK _ ?_; clear hK K))))
  with_reducible refine Wp ?_
  simp only [go_sem, fN, ↓gI, ↓pI, seval, true_implies, false_implies, implies_true, dT, dF, nL]
  (try with_reducible refine iC ?_)
  refine ⟨fun hlt => ?_, fun hge => ?_⟩
  · obtain ⟨a, ha⟩ := get_lt (show k < t.args.length by omega)
    have z1 := Tm.sizes_take ha
    have z2 := Tm.sizes_take_le t.args (k + 1)
    have z3 := Tm.knots_length a
    have z4 := Tm.knotsL_length (t.args.take k)
    repeat' (first | (with_reducible first | refine W ?_ | refine Wk (by decide) ?_) | refine Cg _ (ih _ (Tm.lt_of_arg (mem_of_get ha)) a (by omega) rfl) ?_ | ((with_reducible first | refine Wo (fun K hK => ?_) | refine Wq ?_ | refine Wr ?_); (try simp only [go_sem, fN, ↓gI, ↓pI, seval, eT, iR, e1, s1, e3, s21, e4, ha]); (repeat with_reducible refine And.intro (by first | omega | exact lens | (simp [maxLen_eq] <;> omega)) ?_); (try (refine hK _ ?_; clear hK K))))
    refine then_normal ⟨t.args.length - (k + 1), by omega, k + 1, by omega, rfl, ?_⟩
    simp only [go_sem, fN, ↓gI, ↓pI, seval, AS.drop, dropS, AC.clears, AC.clear, AC.highs, AC.high, Bool.not_false, Bool.true_and, Bool.and_self, AV.purge, AV.purges, AC.purge, ABlk.purge, List.contains_cons, List.contains_nil, Nat.reduceBEq, Bool.or_self, Bool.or_false, Bool.false_or, Bool.or_true, eT, iR, e1, s1, e3, s21, e4]
    rw [Tm.knotsL_take ha]
    exact ⟨by simp <;> omega, by simp [encT_eq], rfl⟩
  · repeat' (first | (with_reducible first | refine W ?_ | refine Wk (by decide) ?_) | ((with_reducible first | refine Wo (fun K hK => ?_) | refine Wq ?_ | refine Wr ?_); (try simp only [go_sem, fN, ↓gI, ↓pI, seval, eT, iR, e1, s1, e3, s21, e4]); (repeat with_reducible refine And.intro (by first | omega | exact lens | (simp [maxLen_eq] <;> omega)) ?_); (try (refine hK _ ?_; clear hK K))))
    simp only [go_sem, fN, ↓gI, ↓pI, seval, FinQ, AS.result, resAll, resOne, tupV, e3, s21]
    rw [List.take_of_length_le (by omega), Tm.knots_eq]
    rfl
theorem in_a (x : ByteArray) (l : List ByteArray) : ACalls Tryz.prog 70 [aStr x, aStrs l] (aBool (isIn x l)) := by
  refine ac_R_In (Nat.le_of_ble_eq_true rfl) fun C hC => ?_
  unfold ir_R_In
  refine IWP.learn 1 (by omega) fun hkn => ?_
  have hkn := known_len hkn
  rw [List.length_map] at hkn
  repeat' (first | (with_reducible first | refine W ?_ | refine Wk (by decide) ?_) | ((with_reducible first | refine Wo (fun K hK => ?_) | refine Wq ?_ | refine Wr ?_); (try simp only [go_sem, fN, ↓gI, ↓pI, seval, eT, iR]); (repeat with_reducible refine And.intro (by first | omega | exact lens | (simp [maxLen_eq] <;> omega)) ?_); (try (refine hK _ ?_; clear hK K))))
  refine IWP.loop (fun n s => ∃ k, k ≤ l.length ∧ n = l.length - k ∧ isIn x (l.take k) = false ∧ s.env 0 = aStr x ∧ s.env 1 = aStrs l ∧ s.env 5 = aInt k) l.length ⟨0, Nat.zero_le _, rfl, rfl, rfl, rfl, rfl⟩ ?_
  rintro n ⟨env, S⟩ ⟨k, hk, rfl, h0, e0, e1, e5⟩
  simp only at e0 e1 e5
  repeat' (first | (with_reducible first | refine W ?_ | refine Wk (by decide) ?_) | ((with_reducible first | refine Wo (fun K hK => ?_) | refine Wq ?_ | refine Wr ?_); (try simp only [go_sem, fN, ↓gI, ↓pI, seval, eT, iR, e0, e1, e5]); (repeat with_reducible refine And.intro (by first | omega | exact lens | (simp [maxLen_eq] <;> omega)) ?_); (try (refine hK _ ?_; clear hK K))))
  with_reducible refine Wp ?_
  simp only [go_sem, fN, ↓gI, ↓pI, seval, true_implies, false_implies, implies_true, dT, dF, nL]
  (try with_reducible refine iC ?_)
  refine ⟨fun hlt => ?_, fun hge => ?_⟩
  · obtain ⟨a, ha⟩ := get_lt (show k < l.length by omega)
    repeat' (first | (with_reducible first | refine W ?_ | refine Wk (by decide) ?_) | ((with_reducible first | refine Wo (fun K hK => ?_) | refine Wq ?_ | refine Wr ?_); (try simp only [go_sem, fN, ↓gI, ↓pI, seval, eT, iR, e0, e1, e5, ha]); (repeat with_reducible refine And.intro (by first | omega | exact lens | (simp [maxLen_eq] <;> omega)) ?_); (try (refine hK _ ?_; clear hK K))))
    with_reducible refine Wp ?_
    simp only [go_sem, fN, ↓gI, ↓pI, seval, true_implies, false_implies, implies_true, dT, dF, nL]
    (try with_reducible refine iC ?_)
    refine ⟨fun hb => ?_, fun hb => ?_⟩
    · repeat' (first | (with_reducible first | refine W ?_ | refine Wk (by decide) ?_) | ((with_reducible first | refine Wo (fun K hK => ?_) | refine Wq ?_ | refine Wr ?_); (try simp only [go_sem, fN, ↓gI, ↓pI, seval, eT, iR]); (repeat with_reducible refine And.intro (by first | omega | exact lens | (simp [maxLen_eq] <;> omega)) ?_); (try (refine hK _ ?_; clear hK K))))
      simp only [go_sem, fN, ↓gI, ↓pI, seval, FinQ, AS.result, resAll, resOne, tupV]
      rw [isIn_iff.2 (by rw [← hb]; exact mem_of_get ha)]
    · repeat' (first | (with_reducible first | refine W ?_ | refine Wk (by decide) ?_) | ((with_reducible first | refine Wo (fun K hK => ?_) | refine Wq ?_ | refine Wr ?_); (try simp only [go_sem, fN, ↓gI, ↓pI, seval, eT, iR, e0, e1, e5]); (repeat with_reducible refine And.intro (by first | omega | exact lens | (simp [maxLen_eq] <;> omega)) ?_); (try (refine hK _ ?_; clear hK K))))
      refine then_normal ⟨l.length - (k + 1), by omega, k + 1, by omega, rfl, ?_, ?_⟩
      · rw [take_snoc ha, isIn_no]
        rw [isIn_no] at h0
        simp only [List.mem_append, List.mem_singleton, not_or]
        exact ⟨h0, fun e => hb e.symm⟩
      · simp only [go_sem, fN, ↓gI, ↓pI, seval, eT, iR, e0, e1, e5]
        congr 3
  · repeat' (first | (with_reducible first | refine W ?_ | refine Wk (by decide) ?_) | ((with_reducible first | refine Wo (fun K hK => ?_) | refine Wq ?_ | refine Wr ?_); (try simp only [go_sem, fN, ↓gI, ↓pI, seval, eT, iR]); (repeat with_reducible refine And.intro (by first | omega | exact lens | (simp [maxLen_eq] <;> omega)) ?_); (try (refine hK _ ?_; clear hK K))))
    simp only [go_sem, fN, ↓gI, ↓pI, seval, FinQ, AS.result, resAll, resOne, tupV]
    rw [List.take_of_length_le (by omega)] at h0
    rw [h0]
mutual
def Tm.beq : Tm → Tm → Bool
  | .mk n xs, .mk m ys => decide (n = m) && Tm.beqL xs ys
def Tm.beqL : List Tm → List Tm → Bool
  | [], [] => true
  | x :: xs, y :: ys => x.beq y && Tm.beqL xs ys
  | _, _ => false
end
mutual
theorem Tm.beq_iff : ∀ a b : Tm, a.beq b = true ↔ a = b
  | .mk n xs, .mk m ys => by
    rw [Tm.beq, Bool.and_eq_true, Tm.beqL_iff xs ys, decide_eq_true_eq, Tm.mk.injEq]
theorem Tm.beqL_iff : ∀ xs ys : List Tm, Tm.beqL xs ys = true ↔ xs = ys
  | [], [] => by simp [Tm.beqL]
  | x :: xs, y :: ys => by rw [Tm.beqL, Bool.and_eq_true, Tm.beq_iff x y, Tm.beqL_iff xs ys, List.cons.injEq]
  | [], y :: ys => by simp [Tm.beqL]
  | x :: xs, [] => by simp [Tm.beqL]
end
theorem Tm.beq_refl (a : Tm) : a.beq a = true := (Tm.beq_iff a a).2 rfl
theorem Tm.eq_of {a b : Tm} (h1 : a.name = b.name) (h2 : a.args = b.args) : a = b := by
  cases a; cases b
  simp only [Tm.name_mk, Tm.args_mk] at h1 h2
  rw [h1, h2]
def Tm.nil : Tm := .mk ⟨#[]⟩ []
end Go.Proofs.YtehnjhkndbcmgaaGreatDoor

namespace Go.Proofs.YtehnjhkndbcmgaaGreatDoor
open Go Go.RowKit
set_option linter.unusedVariables false
set_option linter.unusedSimpArgs false
set_option maxHeartbeats 400000
theorem lens_encS {ts : List ByteArray} : ∀ x ∈ ts.map encS, x.length = 1 := by
  intro x hx
  obtain ⟨a, _, rfl⟩ := List.mem_map.1 hx
  rfl
theorem varsOf_a (t : Tm) (hz : t.size ≤ 1000000) : ACalls Tryz.prog 41 [aTm t] (aStrs t.varsOf) := by
  have hl := Tm.knots_length t
  refine ac_R_VarsOf (Nat.le_of_ble_eq_true rfl) fun C hC => ?_
  unfold ir_R_VarsOf
  repeat' (first | (with_reducible first | refine W ?_ | refine Wk (by decide) ?_) | refine Cg _ (knots_a t hz) ?_ | ((with_reducible first | refine Wo (fun K hK => ?_) | refine Wq ?_ | refine Wr ?_); (try simp only [go_sem, fN, ↓gI, ↓pI, seval, eT, iR]); (repeat with_reducible refine And.intro (by first | omega | exact lens | (simp [maxLen_eq] <;> omega)) ?_); (try (refine hK _ ?_; clear hK K))))
  refine IWP.ghost (Ghost.own 4 37 9 1 (xs := ([] : List ByteArray).map encS) rfl rfl lens_encS (by omega)) ?_
  refine IWP.loopD [] (fun m s => ∃ k, k ≤ t.knots.length ∧ m = t.knots.length - k ∧ s.env 3 = aTms t.knots ∧ s.env 4 = .one (.row 37 (addVars [] (t.knots.take k)).length) ∧ s.S 37 = some (.arow 9 1 ((addVars [] (t.knots.take k)).map encS)) ∧ s.env 5 = aInt k)
    t.knots.length ⟨0, Nat.zero_le _, rfl, rfl, rfl, rfl, rfl⟩ ?_
  rintro m ⟨env, S⟩ ⟨k, hk, rfl, e3, e4, s37, e5⟩
  simp only at e3 e4 s37 e5
  have hlen := addVars_length (t.knots.take k) []
  rw [List.length_take, List.length_nil] at hlen
  by_cases hlt : (k : Int) < t.knots.length
  · obtain ⟨a, ha⟩ := get_lt (show k < t.knots.length by omega)
    repeat' (first | (with_reducible first | refine W ?_ | refine Wk (by decide) ?_) | ((with_reducible first | refine Wo (fun K hK => ?_) | refine Wq ?_ | refine Wr ?_); (try simp only [go_sem, fN, ↓gI, ↓pI, seval, eT, iR, e3, e4, s37, e5, hlt]); (repeat with_reducible refine And.intro (by first | omega | exact lens | (simp [maxLen_eq] <;> omega)) ?_); (try (refine hK _ ?_; clear hK K))))
    with_reducible refine Wp ?_
    simp only [go_sem, fN, ↓gI, ↓pI, seval, true_implies, false_implies, implies_true, dT, dF, nL, hlt]
    (try with_reducible refine iC ?_)
    repeat' (first | (with_reducible first | refine W ?_ | refine Wk (by decide) ?_) | ((with_reducible first | refine Wo (fun K hK => ?_) | refine Wq ?_ | refine Wr ?_); (try simp only [go_sem, fN, ↓gI, ↓pI, seval, eT, iR, e3, e4, s37, e5, ha]); (repeat with_reducible refine And.intro (by first | omega | exact lens | (simp [maxLen_eq] <;> omega)) ?_); (try (refine hK _ ?_; clear hK K))))
    refine ⟨_, isVar_a _, ?_⟩
    have hstep : addVars [] (t.knots.take (k + 1)) = addVar (addVars [] (t.knots.take k)) a.name := by rw [take_snoc ha, addVars_snoc]
    cases hv : isVar a.name with
    | false =>
      rw [addVar_no hv] at hstep
      repeat' (first | (with_reducible first | refine W ?_ | refine Wk (by decide) ?_) | ((with_reducible first | refine Wo (fun K hK => ?_) | refine Wq ?_ | refine Wr ?_); (try simp only [go_sem, fN, ↓gI, ↓pI, seval, eT, iR, e3, e4, s37, e5, ha]); (repeat with_reducible refine And.intro (by first | omega | exact lens | (simp [maxLen_eq] <;> omega)) ?_); (try (refine hK _ ?_; clear hK K))))
      with_reducible refine Wp ?_
      simp only [go_sem, fN, ↓gI, ↓pI, seval, true_implies, false_implies, implies_true, dT, dF, nL]
      (try with_reducible refine iC ?_)
      repeat' (first | (with_reducible first | refine W ?_ | refine Wk (by decide) ?_) | ((with_reducible first | refine Wo (fun K hK => ?_) | refine Wq ?_ | refine Wr ?_); (try simp only [go_sem, fN, ↓gI, ↓pI, seval, eT, iR, e3, e4, s37, e5]); (repeat with_reducible refine And.intro (by first | omega | exact lens | (simp [maxLen_eq] <;> omega)) ?_); (try (refine hK _ ?_; clear hK K))))
      refine then_normal ⟨t.knots.length - (k + 1), by omega, k + 1, by omega, rfl, ?_⟩
      simp only [go_sem, fN, ↓gI, ↓pI, seval, AS.drop, dropS, AC.clears, AC.clear, AC.highs, AC.high, Bool.not_false, Bool.true_and, Bool.and_self, AV.purge, AV.purges, AC.purge, ABlk.purge, List.contains_cons, List.contains_nil, Nat.reduceBEq, Bool.or_self, Bool.or_false, Bool.false_or, Bool.or_true, eT, iR, e3, e4, s37, e5, hstep]
      congr 3
    | true =>
      repeat' (first | (with_reducible first | refine W ?_ | refine Wk (by decide) ?_) | ((with_reducible first | refine Wo (fun K hK => ?_) | refine Wq ?_ | refine Wr ?_); (try simp only [go_sem, fN, ↓gI, ↓pI, seval, eT, iR, e3, e4, s37, e5, ha]); (repeat with_reducible refine And.intro (by first | omega | exact lens | (simp [maxLen_eq] <;> omega)) ?_); (try (refine hK _ ?_; clear hK K))))
      refine ⟨_, in_a _ _, ?_⟩
      cases hi : isIn a.name (addVars [] (t.knots.take k)) with
      | true =>
        rw [addVar_in hi] at hstep
        repeat' (first | (with_reducible first | refine W ?_ | refine Wk (by decide) ?_) | ((with_reducible first | refine Wo (fun K hK => ?_) | refine Wq ?_ | refine Wr ?_); (try simp only [go_sem, fN, ↓gI, ↓pI, seval, eT, iR, e3, e4, s37, e5]); (repeat with_reducible refine And.intro (by first | omega | exact lens | (simp [maxLen_eq] <;> omega)) ?_); (try (refine hK _ ?_; clear hK K))))
        with_reducible refine Wp ?_
        simp only [go_sem, fN, ↓gI, ↓pI, seval, true_implies, false_implies, implies_true, dT, dF, nL]
        (try with_reducible refine iC ?_)
        repeat' (first | (with_reducible first | refine W ?_ | refine Wk (by decide) ?_) | ((with_reducible first | refine Wo (fun K hK => ?_) | refine Wq ?_ | refine Wr ?_); (try simp only [go_sem, fN, ↓gI, ↓pI, seval, eT, iR, e3, e4, s37, e5]); (repeat with_reducible refine And.intro (by first | omega | exact lens | (simp [maxLen_eq] <;> omega)) ?_); (try (refine hK _ ?_; clear hK K))))
        refine then_normal ⟨t.knots.length - (k + 1), by omega, k + 1, by omega, rfl, ?_⟩
        simp only [go_sem, fN, ↓gI, ↓pI, seval, AS.drop, dropS, AC.clears, AC.clear, AC.highs, AC.high, Bool.not_false, Bool.true_and, Bool.and_self, AV.purge, AV.purges, AC.purge, ABlk.purge, List.contains_cons, List.contains_nil, Nat.reduceBEq, Bool.or_self, Bool.or_false, Bool.false_or, Bool.or_true, eT, iR, e3, e4, s37, e5, hstep]
        congr 3
      | false =>
        rw [addVar_yes hv hi] at hstep
        repeat' (first | (with_reducible first | refine W ?_ | refine Wk (by decide) ?_) | ((with_reducible first | refine Wo (fun K hK => ?_) | refine Wq ?_ | refine Wr ?_); (try simp only [go_sem, fN, ↓gI, ↓pI, seval, eT, iR, e3, e4, s37, e5]); (repeat with_reducible refine And.intro (by first | omega | exact lens | (simp [maxLen_eq] <;> omega)) ?_); (try (refine hK _ ?_; clear hK K))))
        with_reducible refine Wp ?_
        simp only [go_sem, fN, ↓gI, ↓pI, seval, true_implies, false_implies, implies_true, dT, dF, nL]
        (try with_reducible refine iC ?_)
        repeat' (first | (with_reducible first | refine W ?_ | refine Wk (by decide) ?_) | ((with_reducible first | refine Wo (fun K hK => ?_) | refine Wq ?_ | refine Wr ?_); (try simp only [go_sem, fN, ↓gI, ↓pI, seval, eT, iR, e3, e4, s37, e5, ha]); (repeat with_reducible refine And.intro (by first | omega | exact lens | (simp [maxLen_eq] <;> omega)) ?_); (try (refine hK _ ?_; clear hK K))))
        refine then_normal ⟨t.knots.length - (k + 1), by omega, k + 1, by omega, rfl, ?_⟩
        simp only [go_sem, fN, ↓gI, ↓pI, seval, AS.drop, dropS, AC.clears, AC.clear, AC.highs, AC.high, Bool.not_false, Bool.true_and, Bool.and_self, AV.purge, AV.purges, AC.purge, ABlk.purge, List.contains_cons, List.contains_nil, Nat.reduceBEq, Bool.or_self, Bool.or_false, Bool.false_or, Bool.or_true, eT, iR, e3, e4, s37, e5, hstep]
        exact ⟨by rw [List.map_append]; rfl, by congr 3⟩
  · repeat' (first | (with_reducible first | refine W ?_ | refine Wk (by decide) ?_) | ((with_reducible first | refine Wo (fun K hK => ?_) | refine Wq ?_ | refine Wr ?_); (try simp only [go_sem, fN, ↓gI, ↓pI, seval, eT, iR, e3, e4, s37, e5, hlt]); (repeat with_reducible refine And.intro (by first | omega | exact lens | (simp [maxLen_eq] <;> omega)) ?_); (try (refine hK _ ?_; clear hK K))))
    with_reducible refine Wp ?_
    simp only [go_sem, fN, ↓gI, ↓pI, seval, true_implies, false_implies, implies_true, dT, dF, nL, hlt]
    (try with_reducible refine iC ?_)
    repeat' (first | (with_reducible first | refine W ?_ | refine Wk (by decide) ?_) | ((with_reducible first | refine Wo (fun K hK => ?_) | refine Wq ?_ | refine Wr ?_); (try simp only [go_sem, fN, ↓gI, ↓pI, seval, eT, iR, e4, s37]); (repeat with_reducible refine And.intro (by first | omega | exact lens | (simp [maxLen_eq] <;> omega)) ?_); (try (refine hK _ ?_; clear hK K))))
    simp only [go_sem, fN, ↓gI, ↓pI, seval, FinQ, AS.result, resAll, resOne, tupV, e4, s37]
    rw [List.take_of_length_le (by omega)]
    rfl
theorem copy_a (t : Tm) (hz : t.size ≤ 1000000) : ACalls Tryz.prog 86 [aTm t] (aTm t) := by
  induction h : SizeOf.sizeOf t using Nat.strongRecOn generalizing t with
  | _ N ih =>
  subst h
  have hs := Tm.size_eq t
  have hkn := Tm.length_le t.args
  refine ac_term_Copy (Nat.le_of_ble_eq_true rfl) fun C hC => ?_
  unfold ir_term_Copy
  repeat' (first | (with_reducible first | refine W ?_ | refine Wk (by decide) ?_) | ((with_reducible first | refine Wo (fun K hK => ?_) | refine Wq ?_ | refine Wr ?_); (try simp only [go_sem, fN, ↓gI, ↓pI, seval, eT, iR]); (repeat with_reducible refine And.intro (by first | omega | exact lens | (simp [maxLen_eq] <;> omega)) ?_); (try (refine hK _ ?_; clear hK K))))
  refine IWP.ghost (Ghost.ownC 3 1 21 69 2 (xs := ([] : List Tm).map encT) rfl rfl rfl lens_encT) ?_
  refine IWP.loopD [5] (fun m s => ∃ k, k ≤ t.args.length ∧ m = t.args.length - k ∧ s.env 2 = .one (.ptr 2 1 0 0) ∧ s.env 3 = .one (.ptr 3 1 0 0) ∧ s.S 2 = some (.box 69 [.st (.str ⟨#[]⟩), .full []]) ∧ s.S 3 = some (.box 69 [.st (.str t.name), .row 21 k]) ∧ s.S 21 = some (.arow 69 2 ((t.args.take k).map encT)) ∧ s.env 10 = .one (.st (.list (t.args.map encT))) ∧ s.env 11 = aInt t.args.length ∧ s.env 12 = aInt k ∧ s.S 5 = none)
    t.args.length ⟨0, Nat.zero_le _, rfl, rfl, rfl, rfl, rfl, rfl, rfl, rfl, rfl, rfl⟩ ?_
  rintro m ⟨env, S⟩ ⟨k, hk, rfl, e2, e3, s2, s3, s21, e10, e11, e12, s5⟩
  simp only at e2 e3 s2 s3 s21 e10 e11 e12 s5
  have hlk : (t.args.take k).length = k := by rw [List.length_take]; omega
  by_cases hlt : (k : Int) < t.args.length
  · obtain ⟨a, ha⟩ := get_lt (show k < t.args.length by omega)
    repeat' (first | (with_reducible first | refine W ?_ | refine Wk (by decide) ?_) | ((with_reducible first | refine Wo (fun K hK => ?_) | refine Wq ?_ | refine Wr ?_); (try simp only [go_sem, fN, ↓gI, ↓pI, seval, eT, iR, e2, e3, s2, s3, s21, e10, e11, e12, s5, hlt]); (repeat with_reducible refine And.intro (by first | omega | exact lens | (simp [maxLen_eq] <;> omega)) ?_); (try (refine hK _ ?_; clear hK K))))
    with_reducible refine Wp ?_
    simp only [go_sem, fN, ↓gI, ↓pI, seval, true_implies, false_implies, implies_true, dT, dF, nL, e10, e11, e12, hlt]
    (try with_reducible refine iC ?_)
    repeat' (first | (with_reducible first | refine W ?_ | refine Wk (by decide) ?_) | refine Cg _ (ih _ (Tm.lt_of_arg (mem_of_get ha)) a (by have := Tm.size_mem (mem_of_get ha); omega) rfl) ?_ | ((with_reducible first | refine Wo (fun K hK => ?_) | refine Wq ?_ | refine Wr ?_); (try simp only [go_sem, fN, ↓gI, ↓pI, seval, eT, iR, e2, e3, s2, s3, s21, e10, e11, e12, s5, ha, hlk]); (repeat with_reducible refine And.intro (by first | omega | exact lens | (simp [maxLen_eq] <;> omega)) ?_); (try (refine hK _ ?_; clear hK K))))
    refine then_normal ⟨t.args.length - (k + 1), by omega, k + 1, by omega, rfl, ?_⟩
    simp only [go_sem, fN, ↓gI, ↓pI, seval, AS.drop, dropS, AC.clears, AC.clear, AC.highs, AC.high, Bool.not_false, Bool.true_and, Bool.and_self, AV.purge, AV.purges, AC.purge, ABlk.purge, List.contains_cons, List.contains_nil, Nat.reduceBEq, Bool.or_self, Bool.or_false, Bool.false_or, Bool.or_true, eT, iR, e2, e3, s2, s3, s21, e10, e11, e12, s5]
    exact ⟨by rw [take_snoc ha]; simp [encT_eq], by congr 3⟩
  · repeat' (first | (with_reducible first | refine W ?_ | refine Wk (by decide) ?_) | ((with_reducible first | refine Wo (fun K hK => ?_) | refine Wq ?_ | refine Wr ?_); (try simp only [go_sem, fN, ↓gI, ↓pI, seval, eT, iR, e2, e3, s2, s3, s21, e10, e11, e12, s5, hlt]); (repeat with_reducible refine And.intro (by first | omega | exact lens | (simp [maxLen_eq] <;> omega)) ?_); (try (refine hK _ ?_; clear hK K))))
    with_reducible refine Wp ?_
    simp only [go_sem, fN, ↓gI, ↓pI, seval, true_implies, false_implies, implies_true, dT, dF, nL, e10, e11, e12, hlt]
    (try with_reducible refine iC ?_)
    repeat' (first | (with_reducible first | refine W ?_ | refine Wk (by decide) ?_) | ((with_reducible first | refine Wo (fun K hK => ?_) | refine Wq ?_ | refine Wr ?_); (try simp only [go_sem, fN, ↓gI, ↓pI, seval, eT, iR, e2, e3, s2, s3, s21, e10, e11, e12, s5]); (repeat with_reducible refine And.intro (by first | omega | exact lens | (simp [maxLen_eq] <;> omega)) ?_); (try (refine hK _ ?_; clear hK K))))
    have hall : t.args.take k = t.args := List.take_of_length_le (by omega)
    rw [hall] at hlk s21
    simp only [go_sem, fN, ↓gI, ↓pI, seval, FinQ, AS.result, resAll, resOne, tupV, e2, s2, s21, hlk]
end Go.Proofs.YtehnjhkndbcmgaaGreatDoor

namespace Go.Proofs.YtehnjhkndbcmgaaGreatDoor
open Go Go.RowKit
set_option linter.unusedVariables false
abbrev Pr := Tm × Tm
def encP (p : Pr) : List SV := [.str p.1.name, .list (p.1.args.map encT), .str p.2.name, .list (p.2.args.map encT)]
abbrev aPrs (l : List Pr) : AV := .one (.st (.list (l.map encP)))
instance : Lens encP 4 := ⟨fun _ => rfl⟩
end Go.Proofs.YtehnjhkndbcmgaaGreatDoor

namespace Go.Proofs.YtehnjhkndbcmgaaGreatDoor
open Go Go.RowKit
set_option linter.unusedVariables false
def digV (l : List UInt8) : Nat := l.foldl (fun v d => v * 10 + (d.toNat - 48)) 0
theorem digV_snoc (l : List UInt8) (d : UInt8) : digV (l ++ [d]) = digV l * 10 + (d.toNat - 48) := by unfold digV; rw [List.foldl_append]; rfl
theorem dig_one {k : Nat} (h : k < 10) : (UInt8.ofNat (48 + k)).toNat - 48 = k := by
  rw [UInt8.toNat_ofNat_of_lt' (by show _ < 256; omega)]
  omega
theorem digV_dec (u : Nat) : digV (Lib.decDigits u) = u := by
  induction u using Nat.strongRecOn with
  | _ u ih =>
    by_cases h : u < 10
    · rw [Lib.decDigits, dif_pos h]
      show 0 * 10 + _ = u
      rw [dig_one h]
      omega
    · rw [Lib.decDigits, dif_neg h, digV_snoc, ih _ (by omega), dig_one (Nat.mod_lt _ (by omega))]
      omega
def decS (n : Nat) : ByteArray := ⟨(Lib.decDigits n).toArray⟩
theorem decS_small {n : Nat} (h : n < 10) : decS n = ⟨#[UInt8.ofNat (48 + n)]⟩ := by unfold decS; rw [Lib.decDigits, dif_pos h]
theorem decS_big {n : Nat} (h : ¬ n < 10) : decS n = decS (n / 10) ++ decS (n % 10) := by
  rw [decS_small (n := n % 10) (Nat.mod_lt _ (by omega))]
  unfold decS
  conv => lhs; rw [Lib.decDigits, dif_neg h]
  apply ByteArray.ext
  simp
theorem nDig_le {u k : Nat} (h : u < 10 ^ k) (hk : 1 ≤ k) : Lib.nDigits u ≤ k := by
  induction k generalizing u with
  | zero => omega
  | succ k ih =>
    by_cases h1 : u < 10
    · rw [Lib.nDigits_small h1]; omega
    · rw [Lib.nDigits_big h1]
      have : 1 ≤ k := by
        rcases Nat.eq_zero_or_pos k with h0 | h0
        · subst h0; rw [Nat.zero_add, Nat.pow_one] at h; omega
        · exact h0
      have := ih (u := u / 10) (by rw [Nat.pow_succ] at h; omega) this
      omega
theorem decS_size (n : Nat) : (decS n).size = Lib.nDigits n := by
  show (Lib.decDigits n).toArray.size = _
  rw [List.size_toArray, Lib.decDigits_length]
theorem decS_size_le {n : Nat} (h : n < 1000000) : (decS n).size ≤ 6 := by rw [decS_size]; exact nDig_le (k := 6) (by omega) (by omega)
theorem digits_letters (u : Nat) : ∀ d ∈ Lib.decDigits u, 48 ≤ d.toNat ∧ d.toNat ≤ 57 := by
  induction u using Nat.strongRecOn with
  | _ u ih =>
    by_cases h : u < 10
    · rw [Lib.decDigits, dif_pos h]
      intro d hd
      rw [List.mem_singleton] at hd
      subst hd
      rw [UInt8.toNat_ofNat_of_lt' (by show _ < 256; omega)]
      omega
    · rw [Lib.decDigits, dif_neg h]
      intro d hd
      rcases List.mem_append.1 hd with hd | hd
      · exact ih _ (by omega) d hd
      · rw [List.mem_singleton] at hd
        subst hd
        rw [UInt8.toNat_ofNat_of_lt' (by show _ < 256; omega)]
        omega
def headEq (n : ByteArray) (xs : List Tm) (b : Tm) : Prop := isVar n = false ∧ n = b.name ∧ xs.length = b.args.length
instance (n : ByteArray) (xs : List Tm) (b : Tm) : Decidable (headEq n xs b) := by unfold headEq; infer_instance
def Goes (l m : List Pr) : Prop := ∃ r, m = l ++ r
theorem Goes.refl (l : List Pr) : Goes l l := ⟨[], by simp⟩
theorem Goes.trans {a b c : List Pr} (h : Goes a b) (k : Goes b c) : Goes a c := by
  obtain ⟨r, rfl⟩ := h
  obtain ⟨q, rfl⟩ := k
  exact ⟨r ++ q, by simp⟩
end Go.Proofs.YtehnjhkndbcmgaaGreatDoor

namespace Go.Proofs.YtehnjhkndbcmgaaGreatDoor
open Go Go.RowKit
set_option linter.unusedVariables false
end Go.Proofs.YtehnjhkndbcmgaaGreatDoor

namespace Go.Proofs.YtehnjhkndbcmgaaGreatDoor
open Go Go.RowKit
set_option linter.unusedVariables false
def posN : List ByteArray → ByteArray → Nat
  | [], _ => 0
  | x :: l, n => if x = n then 0 else posN l n + 1
def addN (l : List ByteArray) (n : ByteArray) : List ByteArray := if posN l n < l.length then l else l ++ [n]
theorem posN_le (l : List ByteArray) (n : ByteArray) : posN l n ≤ l.length := by
  induction l with
  | nil => exact Nat.le_refl _
  | cons p l ih => rw [posN]; split <;> simp; omega
theorem posN_iff {l : List ByteArray} {n : ByteArray} : posN l n < l.length ↔ n ∈ l := by
  induction l with
  | nil => simp [posN]
  | cons x l ih =>
    rw [posN]
    by_cases e : x = n
    · rw [if_pos e]; simp [e]
    · rw [if_neg e, List.length_cons, List.mem_cons]
      constructor
      · intro h; exact .inr (ih.1 (by omega))
      · rintro (h | h)
        · exact absurd h.symm e
        · have := ih.2 h; omega
theorem posN_append {l m : List ByteArray} {n : ByteArray} (h : posN l n < l.length) : posN (l ++ m) n = posN l n := by
  induction l with
  | nil => simp [posN] at h
  | cons x l ih =>
    rw [posN] at h
    rw [List.cons_append, posN, posN]
    by_cases e : x = n
    · rw [if_pos e, if_pos e]
    · rw [if_neg e] at h
      rw [if_neg e, if_neg e, ih (by simpa using h)]
theorem posN_snoc {l : List ByteArray} {n : ByteArray} (h : ¬ posN l n < l.length) : posN (l ++ [n]) n = l.length := by
  induction l with
  | nil => simp [posN]
  | cons x l ih =>
    rw [posN] at h
    rw [List.cons_append, posN]
    by_cases e : x = n
    · rw [if_pos e] at h; simp at h
    · rw [if_neg e] at h
      rw [if_neg e, ih (by simpa using h), List.length_cons]
theorem addN_var {l : List ByteArray} {n : ByteArray} (hv : isVar n = true) : addN l n = addVar l n := by
  unfold addN
  by_cases h : n ∈ l
  · rw [if_pos (posN_iff.2 h), addVar_in (isIn_iff.2 h)]
  · rw [if_neg (fun k => h (posN_iff.1 k)), addVar_yes hv (isIn_no.2 h)]
def GoesN (l m : List ByteArray) : Prop := ∃ r, m = l ++ r
theorem GoesN.trans {a b c : List ByteArray} (h : GoesN a b) (k : GoesN b c) : GoesN a c := by
  obtain ⟨r, rfl⟩ := h
  obtain ⟨q, rfl⟩ := k
  exact ⟨r ++ q, by simp⟩
theorem goesN_add (l : List ByteArray) (n : ByteArray) : GoesN l (addN l n) := by
  unfold addN
  split
  · exact ⟨[], by simp⟩
  · exact ⟨_, rfl⟩
theorem goesN_pos {l m : List ByteArray} {n : ByteArray} (hg : GoesN (addN l n) m) : posN m n = posN l n ∧ posN m n < m.length := by
  obtain ⟨r, rfl⟩ := hg
  unfold addN
  by_cases h : posN l n < l.length
  · rw [if_pos h, posN_append h, List.length_append]
    exact ⟨rfl, by omega⟩
  · rw [if_neg h, posN_append (by rw [posN_snoc h]; simp), posN_snoc h]
    have := posN_le l n
    refine ⟨by omega, by rw [List.length_append, List.length_append, List.length_singleton]; omega⟩
end Go.Proofs.YtehnjhkndbcmgaaGreatDoor

namespace Go.Proofs.YtehnjhkndbcmgaaGreatDoor
open Go Go.RowKit
set_option linter.unusedVariables false
def occ (x : ByteArray) (t : Tm) : Bool := t.knots.any fun k => decide (k.name = x)
theorem knotsL_any (p : Tm → Bool) : ∀ xs : List Tm, (Tm.knotsL xs).any p = xs.any fun t => t.knots.any p
  | [] => rfl
  | t :: ts => by rw [Tm.knotsL, List.any_append, knotsL_any p ts, List.any_cons]
theorem occ_eq (x : ByteArray) (t : Tm) : occ x t = (decide (t.name = x) || t.args.any (occ x)) := by
  unfold occ
  rw [Tm.knots_eq, List.any_cons, knotsL_any]
theorem occ_iff {x : ByteArray} {t : Tm} : occ x t = true ↔ t.name = x ∨ ∃ a ∈ t.args, occ x a = true := by
  rw [occ_eq, Bool.or_eq_true, decide_eq_true_eq, List.any_eq_true]
theorem occ_arg {x : ByteArray} {t a : Tm} (ha : a ∈ t.args) (h : occ x a = true) : occ x t = true := occ_iff.2 (.inr ⟨a, ha, h⟩)
theorem occ_no {x : ByteArray} {t : Tm} (h : occ x t = false) : t.name ≠ x ∧ ∀ a ∈ t.args, occ x a = false := by
  rw [occ_eq, Bool.or_eq_false_iff, decide_eq_false_iff_not, List.any_eq_false] at h
  exact ⟨h.1, fun a ha => by simpa using h.2 a ha⟩
theorem addVars_mem {x : ByteArray} (hv : isVar x = true) : ∀ (ks : List Tm) (l : List ByteArray), x ∈ addVars l ks ↔ x ∈ l ∨ ∃ k ∈ ks, k.name = x
  | [], l => by simp [addVars]
  | t :: ks, l => by
    have e : addVars l (t :: ks) = addVars (addVar l t.name) ks := rfl
    rw [e, addVars_mem hv ks]
    have h1 : x ∈ addVar l t.name ↔ x ∈ l ∨ t.name = x := by
      unfold addVar
      split
      · rename_i h
        rw [List.mem_append, List.mem_singleton]
        exact ⟨fun h => h.imp id Eq.symm, fun h => h.imp id Eq.symm⟩
      · rename_i h
        refine ⟨.inl, fun h' => ?_⟩
        rcases h' with h' | h'
        · exact h'
        · subst h'
          rw [hv, Bool.true_and, Bool.not_eq_true'] at h
          have h : isIn t.name l = true := by
            cases hc : isIn t.name l with
            | true => rfl
            | false => exact absurd hc h
          exact isIn_iff.1 h
    rw [h1]
    simp only [List.mem_cons, exists_eq_or_imp]
    constructor
    · rintro ((h | h) | h)
      · exact .inl h
      · exact .inr (.inl h)
      · exact .inr (.inr h)
    · rintro (h | h | h)
      · exact .inl (.inl h)
      · exact .inl (.inr h)
      · exact .inr h
theorem isIn_varsOf {x : ByteArray} (hv : isVar x = true) (t : Tm) : isIn x t.varsOf = occ x t := by
  rw [Bool.eq_iff_iff, isIn_iff]
  unfold Tm.varsOf occ
  rw [addVars_mem hv]
  simp [List.any_eq_true]
def NoDom (s : List Bd) (t : Tm) : Prop := ∀ b ∈ s, occ b.1 t = false
theorem on_id {s : List Bd} {t : Tm} (h : NoDom s t) : t.on s = t := by
  induction hN : SizeOf.sizeOf t using Nat.strongRecOn generalizing t with
  | _ N ih =>
  subst hN
  have hl : lookup s t.name = none := lookup_none fun b hb e => (occ_no (h b hb)).1 e.symm
  rw [Tm.on_knot (.inl hl)]
  have hm : t.args.map (Tm.on s) = t.args := by
    conv => rhs; rw [← List.map_id t.args]
    exact List.map_congr_left fun a ha => ih _ (Tm.lt_of_arg ha) (fun b hb => (occ_no (h b hb)).2 a ha) rfl
  rw [hm]
  cases t; rfl
theorem lookup_dom {s : List Bd} {n : ByteArray} (h : lookup s n = none) : ∀ b ∈ s, b.1 ≠ n := by
  unfold lookup at h
  rw [Option.map_eq_none_iff, List.find?_eq_none] at h
  exact fun b hb e => h b hb (by simpa using e)
theorem occ_on {s : List Bd} (hv : ∀ b ∈ s, isVar b.1 = true) {t : Tm} (hc : t.chk = 0) {y : ByteArray} (h : occ y (t.on s) = true) : (occ y t = true ∧ ∀ b ∈ s, b.1 ≠ y) ∨ ∃ b ∈ s, occ y b.2 = true := by
  induction hN : SizeOf.sizeOf t using Nat.strongRecOn generalizing t with
  | _ N ih =>
  subst hN
  obtain ⟨c1, c2⟩ := Tm.chk_args hc
  cases hl : lookup s t.name with
  | some x =>
    obtain ⟨b, hb, hbn, hbx⟩ := lookup_mem hl
    rw [Tm.on_leaf hl (c1 (by rw [← hbn]; exact hv b hb)), ← hbx] at h
    exact .inr ⟨b, hb, h⟩
  | none =>
    rw [Tm.on_knot (.inl hl), occ_iff] at h
    rcases h with h | ⟨a, ha, h⟩
    · simp only [Tm.name_mk] at h
      refine .inl ⟨occ_iff.2 (.inl h), fun b hb => ?_⟩
      rw [← h]
      exact lookup_dom hl b hb
    · simp only [Tm.args_mk, List.mem_map] at ha
      obtain ⟨c, hc', rfl⟩ := ha
      rcases ih _ (Tm.lt_of_arg hc') (c2 c hc') h rfl with h | h
      · exact .inl ⟨occ_arg hc' h.1, h.2⟩
      · exact .inr h
theorem chk_mk {t : Tm} (h : chkOne t = 0) (ha : ∀ a ∈ t.args, a.chk = 0) : t.chk = 0 := by
  rw [Tm.chk_eq, if_pos h]
  have key : ∀ {xs : List Tm}, (∀ a ∈ xs, a.chk = 0) → Tm.chkL xs = 0 := by
    intro xs
    induction xs with
    | nil => intro _; rfl
    | cons x xs ih => intro hx; simp only [Tm.chkL]; rw [if_pos (hx x (by simp))]; exact ih fun a ha => hx a (by simp [ha])
  exact key ha
theorem chk_one {t : Tm} (h : t.chk = 0) : chkOne t = 0 := by
  rw [Tm.chk_eq] at h
  by_cases h1 : chkOne t = 0
  · exact h1
  · rw [if_neg h1] at h; exact h
theorem chk_on {s : List Bd} (hs : ∀ b ∈ s, b.2.chk = 0) {t : Tm} (hc : t.chk = 0) : (t.on s).chk = 0 := by
  induction hN : SizeOf.sizeOf t using Nat.strongRecOn generalizing t with
  | _ N ih =>
  subst hN
  obtain ⟨c1, c2⟩ := Tm.chk_args hc
  by_cases hleaf : (∃ x, lookup s t.name = some x) ∧ t.args = []
  · obtain ⟨⟨x, hx⟩, h0⟩ := hleaf
    rw [Tm.on_leaf hx h0]
    obtain ⟨b, hb, _, rfl⟩ := lookup_mem hx
    exact hs b hb
  · have hon : t.on s = .mk t.name (t.args.map (Tm.on s)) := Tm.on_knot (by
      cases hl : lookup s t.name with
      | none => exact .inl rfl
      | some x => exact .inr fun h0 => hleaf ⟨⟨x, hl⟩, h0⟩)
    rw [hon]
    refine chk_mk ?_ fun a ha => ?_
    · have := chk_one hc
      unfold chkOne at this ⊢
      simpa only [Tm.name_mk, Tm.args_mk, List.length_map] using this
    · simp only [Tm.args_mk, List.mem_map] at ha
      obtain ⟨c, hc', rfl⟩ := ha
      exact ih _ (Tm.lt_of_arg hc') (c2 c hc') rfl
inductive UOut where
  | err (e : Int)
  | go (s : List Bd) (ps : List Pr)
def bindV (s : List Bd) (x : ByteArray) (t : Tm) : UOut :=
  if occ x t = true then .err 6 else if (s.all fun b => decide ((b.2.on [(x, t)]).size ≤ 2000)) = true then .go (sortB (s.map (fun b => (b.1, b.2.on [(x, t)])) ++ [(x, t)])) [] else .err 8
def stepU (s : List Bd) (p : Pr) : UOut :=
  if 2000 < (p.1.on s).size ∨ 2000 < (p.2.on s).size then .err 8
  else if isVar (p.1.on s).name = true ∧ (p.1.on s).name = (p.2.on s).name then .go s []
  else if isVar (p.1.on s).name = true then bindV s (p.1.on s).name (p.2.on s)
  else if isVar (p.2.on s).name = true then bindV s (p.2.on s).name (p.1.on s)
  else if (p.1.on s).name = (p.2.on s).name ∧ (p.1.on s).args.length = (p.2.on s).args.length then .go s ((p.1.on s).args.zip (p.2.on s).args)
  else .err 5
inductive UEnds : Nat → List Bd → List Pr → List Bd × Int → Prop
  | nil {s} : UEnds 0 s [] (s, 0)
  | err {s p l e} : stepU s p = .err e → UEnds 1 s (p :: l) ([], e)
  | go {s p l s' ps n r} : stepU s p = .go s' ps → UEnds n s' (ps ++ l) r → UEnds (n + 1) s (p :: l) r
def Fits (C v : Nat) (s : List Bd) : List Pr → Prop
  | [] => True
  | p :: l => l.length + 2000 * min (p.1.on s).size 2000 + 4000000 * v ≤ C ∧ Fits C v s l
theorem Fits.less {C v v' : Nat} {s s' : List Bd} (hv : v' + 1 ≤ v) : ∀ {l : List Pr}, Fits C v s l → Fits C v' s' l
  | [], _ => trivial
  | p :: l, h => ⟨by have := h.1; have := Nat.min_le_right (p.1.on s').size 2000; omega, Fits.less hv h.2⟩
theorem Fits.more {C v m : Nat} {s : List Bd} {l : List Pr} (hm : m + 1 ≤ 2000) (hC : l.length + 2000 * (m + 1) + 4000000 * v ≤ C) (hl : Fits C v s l) : ∀ {ps : List Pr}, ps.length ≤ 2000 → (∀ c ∈ ps, (c.1.on s).size ≤ m) → Fits C v s (ps ++ l)
  | [], _, _ => hl
  | c :: ps, h1, h2 => by
    refine ⟨?_, Fits.more hm hC hl (by simp at h1; omega) fun c hc => h2 c (by simp [hc])⟩
    have h3 := h2 c (by simp)
    have h4 := Nat.min_le_left (c.1.on s).size 2000
    simp only [List.length_cons] at h1
    have e : (ps ++ l).length = ps.length + l.length := List.length_append
    show (ps ++ l).length + _ + _ ≤ C
    omega
structure UGood (U : List ByteArray) (C : Nat) (s : List Bd) (l : List Pr) : Prop where
  ord : Ordered s
  var : ∀ b ∈ s, isVar b.1 = true
  inU : ∀ b ∈ s, b.1 ∈ U
  chk : ∀ b ∈ s, b.2.chk = 0
  siz : ∀ b ∈ s, b.2.size ≤ 2000
  idem : ∀ b ∈ s, NoDom s b.2
  ranU : ∀ b ∈ s, ∀ y, occ y b.2 = true → y ∈ U
  lchk : ∀ p ∈ l, p.1.chk = 0 ∧ p.2.chk = 0
  lU : ∀ p ∈ l, ∀ y, (occ y p.1 = true → y ∈ U) ∧ (occ y p.2 = true → y ∈ U)
  lsiz : ∀ p ∈ l, p.1.size ≤ 2000 ∧ p.2.size ≤ 2000
  fits : Fits C (U.length - s.length) s l
theorem filter_less {x : ByteArray} : ∀ {m : List ByteArray}, x ∈ m → (m.filter fun y => !decide (y = x)).length + 1 ≤ m.length
  | y :: m, h => by
    have hle := List.length_filter_le (fun y => !decide (y = x)) m
    by_cases e : y = x
    · rw [List.filter_cons_of_neg (by simp [e]), List.length_cons]
      omega
    · rw [List.filter_cons_of_pos (by simp [e]), List.length_cons, List.length_cons]
      have := filter_less (x := x) (m := m) ((List.mem_cons.1 h).resolve_left fun h => e h.symm)
      omega
theorem nodup_sub : ∀ {l m : List ByteArray}, l.Nodup → (∀ x ∈ l, x ∈ m) → l.length ≤ m.length
  | [], m, _, _ => Nat.zero_le _
  | x :: l, m, hn, hs => by
    obtain ⟨n1, n2⟩ := List.nodup_cons.1 hn
    have h1 := nodup_sub (m := m.filter fun y => !decide (y = x)) n2 fun y hy => List.mem_filter.2 ⟨hs y (by simp [hy]), by
      have : y ≠ x := fun e => n1 (by rw [← e]; exact hy)
      simp [this]⟩
    have := filter_less (hs x (by simp))
    rw [List.length_cons]
    omega
theorem UGood.len {U : List ByteArray} {C : Nat} {s : List Bd} {l : List Pr} (h : UGood U C s l) : s.length ≤ U.length := by
  have := nodup_sub (l := s.map (fun b : Bd => b.1)) (m := U) (ordered_named h.ord) fun x hx => by
    obtain ⟨b, hb, rfl⟩ := List.mem_map.1 hx
    exact h.inU b hb
  simpa using this
theorem UGood.stack {U : List ByteArray} {C : Nat} {s : List Bd} {l : List Pr} (h : UGood U C s l) : l.length ≤ C + 1 := by
  cases l with
  | nil => simp
  | cons p l => have := h.fits.1; simp; omega
def sumL (s : List Bd) : List Pr → Nat
  | [] => 0
  | p :: l => (p.1.on s).size + sumL s l
theorem sumL_append (s : List Bd) : ∀ (ps l : List Pr), sumL s (ps ++ l) = sumL s ps + sumL s l
  | [], l => by simp [sumL]
  | p :: ps, l => by rw [List.cons_append, sumL, sumL_append s ps l, sumL]; omega
theorem zip_mem {α β : Type} {xs : List α} {ys : List β} {c : α × β} (h : c ∈ xs.zip ys) : c.1 ∈ xs ∧ c.2 ∈ ys := by
  obtain ⟨a, b⟩ := c
  exact ⟨(List.of_mem_zip h).1, (List.of_mem_zip h).2⟩
theorem UGood.tail {U : List ByteArray} {C : Nat} {s : List Bd} {p : Pr} {l : List Pr} (h : UGood U C s (p :: l)) : UGood U C s l :=
  { h with lchk := fun q hq => h.lchk q (by simp [hq]), lU := fun q hq => h.lU q (by simp [hq]), lsiz := fun q hq => h.lsiz q (by simp [hq]), fits := h.fits.2 }
theorem onU {U : List ByteArray} {C : Nat} {s : List Bd} {l : List Pr} (h : UGood U C s l) {t : Tm} (hc : t.chk = 0) (hU : ∀ y, occ y t = true → y ∈ U) : (t.on s).chk = 0 ∧ NoDom s (t.on s) ∧ ∀ y, occ y (t.on s) = true → y ∈ U := by
  refine ⟨chk_on h.chk hc, fun b hb => ?_, fun y hy => ?_⟩
  · cases ho : occ b.1 (t.on s) with
    | false => rfl
    | true =>
      rcases occ_on h.var hc ho with ⟨_, k⟩ | ⟨c, hc', k⟩
      · exact absurd rfl (k b hb)
      · rw [h.idem c hc' b hb] at k; cases k
  · rcases occ_on h.var hc hy with ⟨k, _⟩ | ⟨c, hc', k⟩
    · exact hU y k
    · exact h.ranU c hc' y k
theorem bindV_good {U : List ByteArray} {C : Nat} {s : List Bd} {l : List Pr} (h : UGood U C s l) {x : ByteArray} {t : Tm} (hx : isVar x = true) (hxU : x ∈ U) (hxs : ∀ b ∈ s, b.1 ≠ x) (htc : t.chk = 0) (hts : t.size ≤ 2000) (htn : NoDom s t) (htU : ∀ y, occ y t = true → y ∈ U) {s' : List Bd} {ps : List Pr} (hb : bindV s x t = .go s' ps) :
    ps = [] ∧ UGood U C s' l ∧ s.length < s'.length := by
  unfold bindV at hb
  split at hb
  · cases hb
  rename_i ho
  have ho : occ x t = false := by simpa using ho
  split at hb
  · rename_i hall
    cases hb
    have hone : ∀ b ∈ [(x, t)], isVar b.1 = true := by simp [hx]
    have honec : ∀ b ∈ ([(x, t)] : List Bd), b.2.chk = 0 := by simp [htc]
    have hmem : ∀ b, b ∈ s.map (fun b => (b.1, b.2.on [(x, t)])) ++ [(x, t)] ↔ (∃ c ∈ s, b = (c.1, c.2.on [(x, t)])) ∨ b = (x, t) := fun b => by
      simp only [List.mem_append, List.mem_map, List.mem_singleton]
      constructor
      · rintro (⟨c, hc, rfl⟩ | h)
        · exact .inl ⟨c, hc, rfl⟩
        · exact .inr h
      · rintro (⟨c, hc, rfl⟩ | h)
        · exact .inl ⟨c, hc, rfl⟩
        · exact .inr h
    have hnamed : Named (s.map (fun b => (b.1, b.2.on [(x, t)])) ++ [(x, t)]) := by
      have := ordered_named h.ord
      unfold Named at this ⊢
      rw [List.map_append, List.map_map, List.nodup_append]
      refine ⟨this, by simp, fun a ha b hb e => ?_⟩
      obtain ⟨c, hc, rfl⟩ := List.mem_map.1 ha
      simp only [List.map_cons, List.map_nil, List.mem_singleton] at hb
      exact hxs c hc (e.trans hb)
    have hoccr : ∀ c ∈ s, ∀ y, occ y (c.2.on [(x, t)]) = true → (occ y c.2 = true ∧ x ≠ y) ∨ occ y t = true := fun c hc y hy => by
      rcases occ_on hone (h.chk c hc) hy with ⟨k1, k2⟩ | ⟨b, hb, k⟩
      · exact .inl ⟨k1, k2 (x, t) (by simp)⟩
      · rw [List.mem_singleton] at hb
        subst hb
        exact .inr k
    have hfree : ∀ b ∈ s.map (fun b => (b.1, b.2.on [(x, t)])) ++ [(x, t)], ∀ c ∈ s.map (fun b => (b.1, b.2.on [(x, t)])) ++ [(x, t)], occ c.1 b.2 = false := fun b hb c hc => by
      cases hoc : occ c.1 b.2 with
      | false => rfl
      | true =>
        exfalso
        rcases (hmem b).1 hb with ⟨b', hb', rfl⟩ | rfl
        · rcases hoccr b' hb' _ hoc with ⟨k1, k2⟩ | k
          · rcases (hmem c).1 hc with ⟨c', hc', rfl⟩ | rfl
            · have := h.idem b' hb' c' hc'
              rw [k1] at this
              cases this
            · exact k2 rfl
          · rcases (hmem c).1 hc with ⟨c', hc', rfl⟩ | rfl
            · have := htn c' hc'
              rw [k] at this
              cases this
            · rw [k] at ho; cases ho
        · rcases (hmem c).1 hc with ⟨c', hc', rfl⟩ | rfl
          · have := htn c' hc'
            rw [hoc] at this
            cases this
          · rw [hoc] at ho; cases ho
    have hlen : (sortB (s.map (fun b => (b.1, b.2.on [(x, t)])) ++ [(x, t)])).length = s.length + 1 := by rw [sortB_length]; simp
    have hinU : ∀ b ∈ sortB (s.map (fun b => (b.1, b.2.on [(x, t)])) ++ [(x, t)]), b.1 ∈ U := fun b hb => by
      rcases (hmem b).1 (sortB_mem.1 hb) with ⟨c, hc, rfl⟩ | rfl
      · exact h.inU c hc
      · exact hxU
    have hle : s.length + 1 ≤ U.length := by
      have := nodup_sub (l := (sortB (s.map (fun b => (b.1, b.2.on [(x, t)])) ++ [(x, t)])).map (fun b : Bd => b.1)) (m := U) (ordered_named (sortB_ordered hnamed)) fun y hy => by
        obtain ⟨b, hb, rfl⟩ := List.mem_map.1 hy
        exact hinU b hb
      rw [List.length_map, hlen] at this
      exact this
    refine ⟨rfl, ⟨sortB_ordered hnamed, fun b hb => ?_, hinU, fun b hb => ?_, fun b hb => ?_, fun b hb c hc => hfree b (sortB_mem.1 hb) c (sortB_mem.1 hc), fun b hb y hy => ?_, h.lchk, h.lU, h.lsiz, Fits.less (by rw [hlen]; omega) h.fits⟩, by rw [hlen]; omega⟩
    · rcases (hmem b).1 (sortB_mem.1 hb) with ⟨c, hc, rfl⟩ | rfl
      · exact h.var c hc
      · exact hx
    · rcases (hmem b).1 (sortB_mem.1 hb) with ⟨c, hc, rfl⟩ | rfl
      · exact chk_on honec (h.chk c hc)
      · exact htc
    · rcases (hmem b).1 (sortB_mem.1 hb) with ⟨c, hc, rfl⟩ | rfl
      · have := List.all_eq_true.1 hall c hc
        simpa using this
      · exact hts
    · rcases (hmem b).1 (sortB_mem.1 hb) with ⟨c, hc, rfl⟩ | rfl
      · rcases hoccr c hc y hy with k | k
        · exact h.ranU c hc y k.1
        · exact htU y k
      · exact htU y hy
  · cases hb
theorem step_good {U : List ByteArray} {C : Nat} {s : List Bd} {p : Pr} {l : List Pr} (h : UGood U C s (p :: l)) {s' : List Bd} {ps : List Pr} (hs : stepU s p = .go s' ps) :
    UGood U C s' (ps ++ l) ∧ (s.length < s'.length ∨ (s' = s ∧ sumL s (ps ++ l) < sumL s (p :: l))) := by
  obtain ⟨hc1, hc2⟩ := h.lchk p (by simp)
  have hU := h.lU p (by simp)
  obtain ⟨a1, a2, a3⟩ := onU h hc1 fun y => (hU y).1
  obtain ⟨b1, b2, b3⟩ := onU h hc2 fun y => (hU y).2
  have hpos := Tm.size_pos (p.1.on s)
  have nameNo : ∀ {t : Tm}, NoDom s t → ∀ b ∈ s, b.1 ≠ t.name := fun {t} hn b hb e => (occ_no (hn b hb)).1 e.symm
  have nameU : ∀ {t : Tm}, (∀ y, occ y t = true → y ∈ U) → t.name ∈ U := fun {t} ht => ht _ (occ_iff.2 (.inl rfl))
  unfold stepU at hs
  split at hs
  · cases hs
  rename_i hz
  rw [not_or] at hz
  split at hs
  · cases hs
    exact ⟨h.tail, .inr ⟨rfl, by simp only [List.nil_append, sumL]; omega⟩⟩
  split at hs
  · rename_i hv
    obtain ⟨rfl, k1, k2⟩ := bindV_good h.tail hv (nameU a3) (nameNo a2) b1 (by omega) b2 b3 hs
    exact ⟨k1, .inl k2⟩
  split at hs
  · rename_i hv
    obtain ⟨rfl, k1, k2⟩ := bindV_good h.tail hv (nameU b3) (nameNo b2) a1 (by omega) a2 a3 hs
    exact ⟨k1, .inl k2⟩
  split at hs
  · rename_i heq
    cases hs
    have hsz := Tm.size_eq (p.1.on s)
    have hlen := Tm.length_le (p.1.on s).args
    have hid : ∀ a ∈ (p.1.on s).args, a.on s = a := fun a ha => on_id fun b hb => (occ_no (a2 b hb)).2 a ha
    have hsum : ∀ (xs ys : List Tm), (∀ a ∈ xs, a.on s = a) → sumL s (xs.zip ys) ≤ Tm.sizes xs := by
      intro xs
      induction xs with
      | nil => intro ys _; simp [sumL]
      | cons x xs ih =>
        intro ys hx
        cases ys with
        | nil => simp [sumL]
        | cons y ys =>
          have := ih ys fun a ha => hx a (by simp [ha])
          simp only [List.zip_cons_cons, sumL, Tm.sizes]
          rw [hx x (by simp)]
          omega
    have hzl : ((p.1.on s).args.zip (p.2.on s).args).length ≤ (p.1.on s).args.length := by rw [List.length_zip]; exact Nat.min_le_left _ _
    have hmin : min (p.1.on s).size 2000 = (p.1.on s).size := Nat.min_eq_left (by omega)
    have hf := h.fits.1
    rw [hmin] at hf
    have hszb := Tm.size_eq (p.2.on s)
    refine ⟨⟨h.ord, h.var, h.inU, h.chk, h.siz, h.idem, h.ranU, fun q hq => ?_, fun q hq => ?_, fun q hq => ?_, Fits.more (m := (p.1.on s).size - 1) (by omega) (by omega) h.fits.2 (by omega) fun c hc => ?_⟩, .inr ⟨rfl, ?_⟩⟩
    · rcases List.mem_append.1 hq with hq | hq
      · exact ⟨(Tm.chk_args a1).2 _ (zip_mem hq).1, (Tm.chk_args b1).2 _ (zip_mem hq).2⟩
      · exact h.tail.lchk q hq
    · rcases List.mem_append.1 hq with hq | hq
      · exact fun y => ⟨fun hy => a3 y (occ_arg (zip_mem hq).1 hy), fun hy => b3 y (occ_arg (zip_mem hq).2 hy)⟩
      · exact h.tail.lU q hq
    · rcases List.mem_append.1 hq with hq | hq
      · have h1 := Tm.size_mem (zip_mem hq).1
        have h2 := Tm.size_mem (zip_mem hq).2
        omega
      · exact h.tail.lsiz q hq
    · rw [hid _ (zip_mem hc).1]
      have h1 := Tm.size_mem (zip_mem hc).1
      omega
    · rw [sumL_append]
      have h1 := hsum _ (p.2.on s).args hid
      simp only [sumL]
      omega
  · cases hs
theorem uends_all {U : List ByteArray} {C : Nat} : ∀ (v m : Nat) (s : List Bd) (l : List Pr), UGood U C s l → U.length - s.length = v → sumL s l = m → ∃ n r, UEnds n s l r := by
  intro v
  induction v using Nat.strongRecOn with
  | _ v ihv =>
  intro m
  induction m using Nat.strongRecOn with
  | _ m ihm =>
  intro s l h hv hm
  cases l with
  | nil => exact ⟨0, _, .nil⟩
  | cons p l =>
    cases hs : stepU s p with
    | err e => exact ⟨1, _, .err hs⟩
    | go s' ps =>
      obtain ⟨h', hd⟩ := step_good h hs
      have hlen := h'.len
      rcases hd with hd | ⟨rfl, hd⟩
      · obtain ⟨n, r, hr⟩ := ihv (U.length - s'.length) (by omega) _ s' _ h' rfl rfl
        exact ⟨n + 1, r, .go hs hr⟩
      · obtain ⟨n, r, hr⟩ := ihm (sumL s' (ps ++ l)) (by omega) s' _ h' hv rfl
        exact ⟨n + 1, r, .go hs hr⟩
end Go.Proofs.YtehnjhkndbcmgaaGreatDoor

namespace Go.Proofs.YtehnjhkndbcmgaaGreatDoor
open Go Go.RowKit
set_option linter.unusedVariables false
abbrev vT (x : ByteArray) : Tm := .mk x []
def Sol (s θ : List Bd) : Prop := ∀ b ∈ s, b.2.on θ = (vT b.1).on θ
theorem on_args {θ : List Bd} {t : Tm} (h : t.args ≠ []) : t.on θ = .mk t.name (t.args.map (Tm.on θ)) := Tm.on_knot (.inr h)
theorem tm_leaf {t : Tm} (h : t.args = []) : t = vT t.name := by
  cases t with
  | mk n xs =>
    change xs = [] at h
    subst h
    rfl
theorem sol_on {s θ : List Bd} (hv : ∀ b ∈ s, isVar b.1 = true) (hs : Sol s θ) {t : Tm} (hc : t.chk = 0) : (t.on s).on θ = t.on θ := by
  induction hN : SizeOf.sizeOf t using Nat.strongRecOn generalizing t with
  | _ N ih =>
  subst hN
  obtain ⟨c1, c2⟩ := Tm.chk_args hc
  cases hl : lookup s t.name with
  | some x =>
    obtain ⟨b, hb, hbn, hbx⟩ := lookup_mem hl
    have h0 := c1 (by rw [← hbn]; exact hv b hb)
    rw [Tm.on_leaf hl h0, ← hbx, hs b hb, hbn, ← tm_leaf h0]
  | none =>
    rw [Tm.on_knot (.inl hl)]
    by_cases h0 : t.args = []
    · have : (Tm.mk t.name (t.args.map (Tm.on s))) = t := by
        cases t with
        | mk n xs =>
          change xs = [] at h0
          subst h0
          rfl
      rw [this]
    · rw [on_args (t := Tm.mk t.name (t.args.map (Tm.on s))) (by rw [Tm.args_mk]; simpa using h0), on_args h0]
      congr 1
      rw [Tm.args_mk, List.map_map]
      exact List.map_congr_left fun a ha => ih _ (Tm.lt_of_arg ha) (c2 a ha) rfl
theorem name_on {θ : List Bd} (hv : ∀ b ∈ θ, isVar b.1 = true) {t : Tm} (hn : ¬ isVar t.name = true) : t.on θ = .mk t.name (t.args.map (Tm.on θ)) := by
  refine Tm.on_knot (.inl (lookup_none fun b hb e => hn ?_))
  rw [← e]
  exact hv b hb
theorem sol_bind {s θ : List Bd} {x : ByteArray} {t : Tm} (hv : ∀ b ∈ s, isVar b.1 = true) (hx : isVar x = true) (hc : ∀ b ∈ s, b.2.chk = 0) (h1 : t.on θ = (vT x).on θ) : Sol s θ ↔ Sol (s.map fun b => (b.1, b.2.on [(x, t)])) θ := by
  have hone : Sol [(x, t)] θ := fun b hb => by
    rw [List.mem_singleton] at hb
    subst hb
    exact h1
  have hvo : ∀ b ∈ ([(x, t)] : List Bd), isVar b.1 = true := by simp [hx]
  constructor
  · intro hs b hb
    obtain ⟨c, hc', rfl⟩ := List.mem_map.1 hb
    show (c.2.on [(x, t)]).on θ = _
    rw [sol_on hvo hone (hc c hc')]
    exact hs c hc'
  · intro hs b hb
    have := hs (b.1, b.2.on [(x, t)]) (List.mem_map.2 ⟨b, hb, rfl⟩)
    change (b.2.on [(x, t)]).on θ = (vT b.1).on θ at this
    rwa [sol_on hvo hone (hc b hb)] at this
theorem sol_sort {s θ : List Bd} {b : Bd} : Sol (sortB (s ++ [b])) θ ↔ Sol s θ ∧ b.2.on θ = (vT b.1).on θ := by
  constructor
  · intro h
    exact ⟨fun c hc => h c (sortB_mem.2 (by simp [hc])), h b (sortB_mem.2 (by simp))⟩
  · rintro ⟨h1, h2⟩ c hc
    rcases List.mem_append.1 (sortB_mem.1 hc) with h | h
    · exact h1 c h
    · rw [List.mem_singleton] at h
      subst h
      exact h2
theorem zip_map {f : Tm → Tm} : ∀ {xs ys : List Tm}, xs.length = ys.length → ((∀ p ∈ xs.zip ys, f p.1 = f p.2) ↔ xs.map f = ys.map f)
  | [], [], _ => by simp
  | x :: xs, y :: ys, h => by
    have := zip_map (f := f) (xs := xs) (ys := ys) (by simpa using h)
    simp only [List.zip_cons_cons, List.mem_cons, forall_eq_or_imp, List.map_cons, List.cons.injEq]
    rw [this]
theorem step_sol {U : List ByteArray} {C : Nat} {s : List Bd} {p : Pr} {l : List Pr} (h : UGood U C s (p :: l)) {θ : List Bd} (hθ : ∀ b ∈ θ, isVar b.1 = true) {s' : List Bd} {ps : List Pr} (hs : stepU s p = .go s' ps) : (Sol s θ ∧ p.1.on θ = p.2.on θ) ↔ (Sol s' θ ∧ ∀ q ∈ ps, q.1.on θ = q.2.on θ) := by
  obtain ⟨hc1, hc2⟩ := h.lchk p (by simp)
  have hU := h.lU p (by simp)
  obtain ⟨a1, a2, a3⟩ := onU h hc1 fun y => (hU y).1
  obtain ⟨b1, b2, b3⟩ := onU h hc2 fun y => (hU y).2
  have e1 := fun hsol => sol_on h.var (θ := θ) hsol hc1
  have e2 := fun hsol => sol_on h.var (θ := θ) hsol hc2
  have bind : ∀ {x t u : Tm}, isVar x.name = true → x.chk = 0 → bindV s x.name t = .go s' ps → (Sol s θ ∧ x.on θ = t.on θ ↔ Sol s' θ ∧ ∀ q ∈ ps, q.1.on θ = q.2.on θ) := by
    intro x t u hx hxc hb
    have hxl := tm_leaf ((Tm.chk_args hxc).1 hx)
    unfold bindV at hb
    split at hb
    · cases hb
    split at hb
    · cases hb
      rw [sol_sort]
      constructor
      · rintro ⟨k1, k2⟩
        have k3 : t.on θ = (vT x.name).on θ := by rw [← hxl]; exact k2.symm
        exact ⟨⟨(sol_bind h.var hx h.chk k3).1 k1, k3⟩, fun q hq => by cases hq⟩
      · rintro ⟨⟨k1, k3⟩, _⟩
        exact ⟨(sol_bind h.var hx h.chk k3).2 k1, by rw [hxl]; exact k3.symm⟩
    · cases hb
  unfold stepU at hs
  split at hs
  · cases hs
  split at hs
  · rename_i hv
    cases hs
    have l1 := tm_leaf ((Tm.chk_args a1).1 hv.1)
    have l2 := tm_leaf ((Tm.chk_args b1).1 (by rw [← hv.2]; exact hv.1))
    constructor
    · rintro ⟨k1, _⟩
      exact ⟨k1, fun q hq => by cases hq⟩
    · rintro ⟨k1, _⟩
      refine ⟨k1, ?_⟩
      rw [← e1 k1, ← e2 k1, l1, l2, hv.2]
  split at hs
  · rename_i hv
    rw [← bind (u := p.2.on s) hv a1 hs]
    constructor
    · rintro ⟨k1, k2⟩
      exact ⟨k1, by rw [e1 k1, e2 k1]; exact k2⟩
    · rintro ⟨k1, k2⟩
      exact ⟨k1, by rw [e1 k1, e2 k1] at k2; exact k2⟩
  split at hs
  · rename_i hv
    rw [← bind (u := p.1.on s) hv b1 hs]
    constructor
    · rintro ⟨k1, k2⟩
      exact ⟨k1, by rw [e1 k1, e2 k1]; exact k2.symm⟩
    · rintro ⟨k1, k2⟩
      exact ⟨k1, by rw [e1 k1, e2 k1] at k2; exact k2.symm⟩
  rename_i hv1 hv2
  split at hs
  · rename_i heq
    cases hs
    rw [zip_map heq.2]
    constructor
    · rintro ⟨k1, k2⟩
      refine ⟨k1, ?_⟩
      rw [← e1 k1, ← e2 k1, name_on hθ hv1, name_on hθ hv2] at k2
      injection k2
    · rintro ⟨k1, k2⟩
      refine ⟨k1, ?_⟩
      rw [← e1 k1, ← e2 k1, name_on hθ hv1, name_on hθ hv2, k2, heq.1]
  · cases hs
theorem step_no {s : List Bd} {p : Pr} {e : Int} (h : stepU s p = .err e) : e ≠ 0 := by
  have hb : ∀ {x : ByteArray} {t : Tm}, bindV s x t = .err e → e ≠ 0 := by
    intro x t hb
    unfold bindV at hb
    split at hb
    · cases hb; decide
    split at hb
    · cases hb
    · cases hb; decide
  unfold stepU at h
  split at h
  · cases h; decide
  split at h
  · cases h
  split at h
  · exact hb h
  split at h
  · exact hb h
  split at h
  · cases h
  · cases h; decide
theorem sol_self {s : List Bd} (hn : Named s) (hi : ∀ b ∈ s, NoDom s b.2) : Sol s s := fun b hb => by
  rw [on_id (hi b hb), Tm.on_leaf (t := vT b.1) ((lookup_iff hn).2 (by exact hb)) rfl]
theorem robin_unifies {U : List ByteArray} {C : Nat} {n : Nat} {s : List Bd} {l : List Pr} {r : List Bd × Int} (hr : UEnds n s l r) : UGood U C s l → r.2 = 0 → UGood U C r.1 [] ∧ Sol s r.1 ∧ ∀ p ∈ l, p.1.on r.1 = p.2.on r.1 := by
  induction hr with
  | nil => exact fun h _ => ⟨h, sol_self (ordered_named h.ord) h.idem, fun p hp => by cases hp⟩
  | err he => exact fun _ h0 => absurd h0 (step_no he)
  | @go s p l s' ps n r hst hr ih =>
    intro h h0
    obtain ⟨h', _⟩ := step_good h hst
    obtain ⟨q0, q1, q2⟩ := ih h' h0
    obtain ⟨k1, k2⟩ := (step_sol h q0.var hst).2 ⟨q1, fun q hq => q2 q (by simp [hq])⟩
    refine ⟨q0, k1, fun q hq => ?_⟩
    rcases List.mem_cons.1 hq with rfl | hq
    · exact k2
    · exact q2 q (by simp [hq])
end Go.Proofs.YtehnjhkndbcmgaaGreatDoor

namespace Go.Proofs.YtehnjhkndbcmgaaGreatDoor
open Go Go.RowKit
set_option linter.unusedVariables false
mutual
def Tm.mt : Tm → Tm → List Bd → List Bd × Bool
  | .mk n xs, t, l => if isVar n = true then (match lookup l n with
      | some x => (l, x.beq t)
      | none => (l ++ [(n, t)], true))
    else if n = t.name ∧ xs.length = t.args.length then Tm.mtL xs t.args l else (l, false)
def Tm.mtL : List Tm → List Tm → List Bd → List Bd × Bool
  | x :: xs, y :: ys, l => if (x.mt y l).2 = true then Tm.mtL xs ys (x.mt y l).1 else ((x.mt y l).1, false)
  | _, _, l => (l, true)
end
section
variable {p t : Tm} {l : List Bd}
theorem Tm.mt_old (hv : isVar p.name = true) {x : Tm} (h : lookup l p.name = some x) : p.mt t l = (l, x.beq t) := by
  cases p with
  | mk n xs =>
    simp only [Tm.name_mk] at hv h
    rw [Tm.mt, if_pos hv, h]
theorem Tm.mt_new (hv : isVar p.name = true) (h : lookup l p.name = none) : p.mt t l = (l ++ [(p.name, t)], true) := by
  cases p with
  | mk n xs =>
    simp only [Tm.name_mk] at hv h
    rw [Tm.mt, if_pos hv, h]
    rfl
theorem Tm.mt_clash (hv : isVar p.name = false) (h : ¬ (p.name = t.name ∧ p.args.length = t.args.length)) : p.mt t l = (l, false) := by
  cases p with
  | mk n xs =>
    simp only [Tm.name_mk, Tm.args_mk] at hv h
    rw [Tm.mt, if_neg (by simp [hv]), if_neg h]
theorem Tm.mt_knot (hv : isVar p.name = false) (h1 : p.name = t.name) (h2 : p.args.length = t.args.length) : p.mt t l = Tm.mtL p.args t.args l := by
  cases p with
  | mk n xs =>
    simp only [Tm.name_mk, Tm.args_mk] at hv h1 h2
    rw [Tm.mt, if_neg (by simp [hv]), if_pos ⟨h1, h2⟩]
    rfl
end
theorem Tm.mtL_nil (ys : List Tm) (l : List Bd) : Tm.mtL [] ys l = (l, true) := by cases ys <;> simp [Tm.mtL]
theorem Tm.mtL_append : ∀ (xs ys xs' ys' : List Tm) (l : List Bd), xs.length = ys.length → Tm.mtL (xs ++ xs') (ys ++ ys') l = if (Tm.mtL xs ys l).2 = true then Tm.mtL xs' ys' (Tm.mtL xs ys l).1 else ((Tm.mtL xs ys l).1, false)
  | [], [], xs', ys', l, _ => by simp [Tm.mtL_nil]
  | x :: xs, y :: ys, xs', ys', l, h => by
    simp only [List.cons_append, Tm.mtL]
    by_cases hx : (x.mt y l).2 = true
    · simp only [hx, if_true]
      exact Tm.mtL_append xs ys xs' ys' _ (by simpa using h)
    · simp only [hx]
      simp
  | [], y :: ys, _, _, _, h => by simp at h
  | x :: xs, [], _, _, _, h => by simp at h
theorem Tm.mtL_take {xs ys : List Tm} {k : Nat} {x y : Tm} {l : List Bd} (hl : xs.length = ys.length) (hx : xs[k]? = some x) (hy : ys[k]? = some y) (h : (Tm.mtL (xs.take k) (ys.take k) l).2 = true) :
    Tm.mtL (xs.take (k + 1)) (ys.take (k + 1)) l = x.mt y (Tm.mtL (xs.take k) (ys.take k) l).1 := by
  rw [take_snoc hx, take_snoc hy, Tm.mtL_append _ _ _ _ _ (by simp [hl]), if_pos h]
  generalize Tm.mtL (xs.take k) (ys.take k) l = q
  simp only [Tm.mtL]
  split
  · rename_i h1
    exact Prod.ext rfl h1.symm
  · rename_i h1
    exact Prod.ext rfl (by simpa using h1)
theorem Tm.mtL_no {xs ys : List Tm} {k : Nat} {l : List Bd} (hl : xs.length = ys.length) (h : (Tm.mtL (xs.take k) (ys.take k) l).2 = false) : Tm.mtL xs ys l = ((Tm.mtL (xs.take k) (ys.take k) l).1, false) := by
  have e : Tm.mtL xs ys l = Tm.mtL (xs.take k ++ xs.drop k) (ys.take k ++ ys.drop k) l := by rw [List.take_append_drop, List.take_append_drop]
  rw [e, Tm.mtL_append _ _ _ _ _ (by simp [hl]), h]
  rfl
structure MtOk (l l' : List Bd) (many most : Nat) : Prop where
  named : Named l → Named l'
  len : l'.length ≤ l.length + many
  size : ∀ b ∈ l', b ∈ l ∨ b.2.size ≤ most
theorem MtOk.refl (l : List Bd) (n m : Nat) : MtOk l l n m := ⟨fun h => h, by omega, fun b hb => .inl hb⟩
theorem MtOk.trans {a b c : List Bd} {n m k n' m' : Nat} (h : MtOk a b n m) (h' : MtOk b c n' m') (hn : n + n' ≤ k) {M : Nat} (h1 : m ≤ M) (h2 : m' ≤ M) : MtOk a c k M := by
  refine ⟨fun q => h'.named (h.named q), by have := h.len; have := h'.len; omega, fun x hx => ?_⟩
  rcases h'.size x hx with h3 | h3
  · rcases h.size x h3 with h4 | h4
    · exact .inl h4
    · exact .inr (by omega)
  · exact .inr (by omega)
theorem lookup_names {l : List Bd} {n : ByteArray} (h : lookup l n = none) : n ∉ l.map (·.1) := by
  intro hm
  obtain ⟨b, hb, rfl⟩ := List.mem_map.1 hm
  unfold lookup at h
  rw [Option.map_eq_none_iff, List.find?_eq_none] at h
  exact h b hb (by simp)
theorem named_snoc {l : List Bd} {b : Bd} (h : lookup l b.1 = none) (hn : Named l) : Named (l ++ [b]) := by
  unfold Named at *
  rw [List.map_append, List.nodup_append]
  refine ⟨hn, by simp, fun x hx y hy e => ?_⟩
  simp only [List.map_cons, List.map_nil, List.mem_singleton] at hy
  subst hy
  subst e
  exact lookup_names h hx
mutual
theorem Tm.mt_ok : ∀ (p t : Tm) (l : List Bd), MtOk l (p.mt t l).1 p.size t.size
  | .mk n xs, t, l => by
    rw [Tm.mt]
    split
    · split
      · exact MtOk.refl _ _ _
      · rename_i h
        refine ⟨fun hn => named_snoc h hn, ?_, fun b hb => ?_⟩
        · have := Tm.size_pos (.mk n xs)
          rw [List.length_append, List.length_singleton]
          omega
        · rcases List.mem_append.1 hb with hb | hb
          · exact .inl hb
          · rw [List.mem_singleton] at hb
            subst hb
            exact .inr (Nat.le_refl _)
    · split
      · have := Tm.mtL_ok xs t.args l
        have h1 := Tm.size_eq t
        exact ⟨this.named, by have := this.len; rw [Tm.size]; omega, fun b hb => (this.size b hb).imp_right (by omega)⟩
      · exact MtOk.refl _ _ _
theorem Tm.mtL_ok : ∀ (xs ys : List Tm) (l : List Bd), MtOk l (Tm.mtL xs ys l).1 (Tm.sizes xs) (Tm.sizes ys)
  | [], ys, l => by rw [Tm.mtL_nil]; exact MtOk.refl _ _ _
  | x :: xs, [], l => by rw [Tm.mtL]; exact MtOk.refl _ _ _; simp
  | x :: xs, y :: ys, l => by
    rw [Tm.mtL]
    have h1 := Tm.mt_ok x y l
    split
    · exact h1.trans (Tm.mtL_ok xs ys _) (by rw [Tm.sizes]; exact Nat.le_refl _) (by rw [Tm.sizes]; omega) (by rw [Tm.sizes]; omega)
    · exact ⟨h1.named, by have := h1.len; rw [Tm.sizes]; show (x.mt y l).1.length ≤ _; omega, fun b hb => (h1.size b hb).imp_right (by rw [Tm.sizes]; omega)⟩
end
def caseOf (p t : Tm) : List Bd := if (p.mt t []).2 = true then sortB (p.mt t []).1 else []
def isCase (p t : Tm) : Bool := (p.mt t []).2
theorem named_nil : Named [] := List.nodup_nil
theorem mt_named (p t : Tm) : Named (p.mt t []).1 := (Tm.mt_ok p t []).named named_nil
theorem mt_len (p t : Tm) : (p.mt t []).1.length ≤ p.size := by have := (Tm.mt_ok p t []).len; simpa using this
theorem mt_size (p t : Tm) : ∀ b ∈ (p.mt t []).1, b.2.size ≤ t.size := fun b hb => ((Tm.mt_ok p t []).size b hb).resolve_left (by simp)
end Go.Proofs.YtehnjhkndbcmgaaGreatDoor

namespace Go.Proofs.YtehnjhkndbcmgaaGreatDoor
open Go Go.RowKit
set_option linter.unusedVariables false
inductive Lm where
  | mk (kind idx : Int) (subs : List Lm)
def Lm.kind : Lm → Int | .mk k _ _ => k
def Lm.idx : Lm → Int | .mk _ i _ => i
def Lm.subs : Lm → List Lm | .mk _ _ xs => xs
theorem Lm.kind_mk (k i : Int) (xs : List Lm) : (Lm.mk k i xs).kind = k := rfl
theorem Lm.idx_mk (k i : Int) (xs : List Lm) : (Lm.mk k i xs).idx = i := rfl
theorem Lm.subs_mk (k i : Int) (xs : List Lm) : (Lm.mk k i xs).subs = xs := rfl
theorem Lm.eta (t : Lm) : Lm.mk t.kind t.idx t.subs = t := by cases t; rfl
mutual
def encL : Lm → List SV
  | .mk k i xs => [.int .i64 k, .int .i64 i, .list (encLs xs)]
def encLs : List Lm → List (List SV)
  | [] => []
  | t :: ts => encL t :: encLs ts
end
theorem encLs_eq : ∀ xs : List Lm, encLs xs = xs.map encL
  | [] => rfl
  | t :: ts => by rw [encLs, encLs_eq ts]; rfl
theorem encL_eq (t : Lm) : encL t = [.int .i64 t.kind, .int .i64 t.idx, .list (t.subs.map encL)] := by
  cases t
  rw [encL, encLs_eq]
  rfl
theorem len_encL (t : Lm) : (encL t).length = 3 := by rw [encL_eq]; rfl
instance : Lens encL 3 := ⟨len_encL⟩
abbrev aLm (t : Lm) : AV := .agg [.st (.int .i64 t.kind), .st (.int .i64 t.idx), .st (.list (t.subs.map encL))]
abbrev aLms (l : List Lm) : AV := .one (.st (.list (l.map encL)))
theorem known_lm {S : AStore} {t : Lm} (h : (aLm t).known S) : (-9223372036854775808 ≤ t.kind ∧ t.kind ≤ 9223372036854775807) ∧ (-9223372036854775808 ≤ t.idx ∧ t.idx ≤ 9223372036854775807) ∧ t.subs.length ≤ 9223372036854775807 := by
  have h1 : inR .i64 t.kind := by
    have := h (.st (.int .i64 t.kind)) (by simp)
    simpa [AC.known, SV.known] using this
  have h2 : inR .i64 t.idx := by
    have := h (.st (.int .i64 t.idx)) (by simp)
    simpa [AC.known, SV.known] using this
  have h3 : t.subs.length ≤ maxLen := by
    have := h (.st (.list (t.subs.map encL))) (by simp)
    simp only [AC.known, SV.known, List.length_map] at this
    exact this.1
  rw [inR_i64] at h1 h2
  rw [maxLen_eq] at h3
  exact ⟨h1, h2, h3⟩
theorem Lm.lt_of_mem {a : Lm} {k i : Int} {xs : List Lm} (h : a ∈ xs) : SizeOf.sizeOf a < SizeOf.sizeOf (Lm.mk k i xs) := by
  have := List.sizeOf_lt_of_mem h
  simp only [Lm.mk.sizeOf_spec]
  omega
theorem Lm.lt_of_sub {a t : Lm} (h : a ∈ t.subs) : SizeOf.sizeOf a < SizeOf.sizeOf t := by
  cases t
  exact Lm.lt_of_mem h
attribute [go_sem] Lm.kind_mk Lm.idx_mk Lm.subs_mk encL_eq
mutual
def Lm.size : Lm → Nat
  | .mk _ _ xs => 1 + Lm.sizes xs
def Lm.sizes : List Lm → Nat
  | [] => 0
  | t :: ts => t.size + Lm.sizes ts
end
theorem Lm.sizes_append (xs ys : List Lm) : Lm.sizes (xs ++ ys) = Lm.sizes xs + Lm.sizes ys := by
  induction xs with
  | nil => simp [Lm.sizes]
  | cons t ts ih => simp only [List.cons_append, Lm.sizes, ih]; omega
theorem Lm.sizes_take {xs : List Lm} {k : Nat} {a : Lm} (h : xs[k]? = some a) : Lm.sizes (xs.take (k+1)) = Lm.sizes (xs.take k) + a.size := by
  rw [take_snoc h, Lm.sizes_append]; simp [Lm.sizes]
theorem Lm.sizes_take_le (xs : List Lm) (k : Nat)  : Lm.sizes (xs.take k) ≤ Lm.sizes xs := by
  have := Lm.sizes_append (xs.take k) (xs.drop k)
  rw [List.take_append_drop] at this
  omega
theorem Lm.size_eq (t : Lm) : t.size = 1 + Lm.sizes t.subs := by cases t; rfl
theorem Lm.size_pos (t : Lm) : 1 ≤ t.size := by rw [Lm.size_eq]; omega
theorem Lm.size_mem {a : Lm} {xs : List Lm} (h : a ∈ xs) : a.size ≤ Lm.sizes xs := by
  induction xs with
  | nil => simp at h
  | cons t ts ih =>
    rcases List.mem_cons.1 h with rfl | h
    · simp only [Lm.sizes]; omega
    · have := ih h; simp only [Lm.sizes]; omega
theorem Lm.length_le (xs : List Lm) : xs.length ≤ Lm.sizes xs := by
  induction xs with
  | nil => simp [Lm.sizes]
  | cons t ts ih => have := Lm.size_pos t; simp only [Lm.sizes, List.length_cons]; omega
def nSubs (k : Int) : Int := if k = 2 then 1 else if k = 3 then 2 else 0
def mostIdx (k u m : Int) : Int := if k = 1 then u else if k = 4 then 40 else if k = 5 then m else 1
def under (k u : Int) : Int := if k = 2 then u + 1 else u
mutual
def Lm.chk (m : Int) : Lm → Int → Int
  | .mk k i xs, u => if 1 ≤ k ∧ k ≤ 5 ∧ (xs.length : Int) = nSubs k then (if 0 ≤ i ∧ i < mostIdx k u m then Lm.chks m xs (under k u) else 15) else 2
def Lm.chks (m : Int) : List Lm → Int → Int
  | [], _ => 0
  | t :: ts, u => if t.chk m u = 0 then Lm.chks m ts u else t.chk m u
end
theorem Lm.chk_eq (m : Int) (t : Lm) (u : Int) : t.chk m u = if 1 ≤ t.kind ∧ t.kind ≤ 5 ∧ (t.subs.length : Int) = nSubs t.kind then (if 0 ≤ t.idx ∧ t.idx < mostIdx t.kind u m then Lm.chks m t.subs (under t.kind u) else 15) else 2 := by cases t; rfl
theorem Lm.chks_append (m u : Int) (xs ys : List Lm) : Lm.chks m (xs ++ ys) u = if Lm.chks m xs u = 0 then Lm.chks m ys u else Lm.chks m xs u := by
  induction xs with
  | nil => simp [Lm.chks]
  | cons t ts ih =>
    simp only [List.cons_append, Lm.chks]
    by_cases h : t.chk m u = 0
    · simp only [h, if_true, ih]
    · simp only [h, if_false]
theorem Lm.chks_take {m u : Int} {xs : List Lm} {k : Nat} {a : Lm} (h : xs[k]? = some a) (h0 : Lm.chks m (xs.take k) u = 0) : Lm.chks m (xs.take (k+1)) u = a.chk m u := by
  rw [take_snoc h, Lm.chks_append, if_pos h0]
  simp only [Lm.chks]
  split <;> simp_all
theorem Lm.chks_bad {m u : Int} {xs : List Lm} {k : Nat} (h0 : Lm.chks m (xs.take k) u ≠ 0) : Lm.chks m xs u = Lm.chks m (xs.take k) u := by
  have := Lm.chks_append m u (xs.take k) (xs.drop k)
  rw [List.take_append_drop, if_neg h0] at this
  exact this
mutual
def Lm.mv (by_ : Int) : Int → Lm → Lm
  | d, .mk k i xs => .mk k (if k = 1 ∧ d ≤ i then i + by_ else i) (Lm.mvs by_ (under k d) xs)
def Lm.mvs (by_ : Int) : Int → List Lm → List Lm
  | _, [] => []
  | d, t :: ts => Lm.mv by_ d t :: Lm.mvs by_ d ts
end
mutual
def Lm.put (x : Lm) : Int → Lm → Lm
  | d, .mk k i xs => if k = 1 then (if i = d then Lm.mv d 0 x else if d < i then .mk 1 (i - 1) [] else .mk 1 i []) else .mk k i (Lm.puts x (under k d) xs)
def Lm.puts (x : Lm) : Int → List Lm → List Lm
  | _, [] => []
  | d, t :: ts => Lm.put x d t :: Lm.puts x d ts
end
mutual
def Lm.same : Lm → Lm → Bool
  | .mk k i xs, .mk l j ys => decide (k = l) && decide (i = j) && Lm.sames xs ys
def Lm.sames : List Lm → List Lm → Bool
  | [], [] => true
  | x :: xs, y :: ys => x.same y && Lm.sames xs ys
  | [], _ :: _ => false
  | _ :: _, [] => false
end
def Lm.may (m u : Int) (t : Lm) : Int := if u < 0 ∨ 40 < u then 10 else if 200 < t.size then 3 else t.chk m u
theorem Lm.may_ok {m u : Int} {t : Lm} (h : Lm.may m u t = 0) : 0 ≤ u ∧ u ≤ 40 ∧ t.size ≤ 200 ∧ t.chk m u = 0 := by
  unfold Lm.may at h
  split at h
  · omega
  · split at h
    · omega
    · omega
def Lm.nil : Lm := .mk 0 0 []
mutual
def Lm.pure : Lm → Bool
  | .mk k _ xs => !decide (k = 4) && Lm.pures xs
def Lm.pures : List Lm → Bool
  | [] => true
  | t :: ts => t.pure && Lm.pures ts
end
theorem Lm.pure_eq (t : Lm) : t.pure = (!decide (t.kind = 4) && Lm.pures t.subs) := by cases t; rfl
theorem Lm.pures_append (xs ys : List Lm) : Lm.pures (xs ++ ys) = (Lm.pures xs && Lm.pures ys) := by
  induction xs with
  | nil => simp [Lm.pures]
  | cons t ts ih => simp [Lm.pures, ih, Bool.and_assoc]
theorem Lm.pures_take {xs : List Lm} {k : Nat} {a : Lm} (h : xs[k]? = some a) (h0 : Lm.pures (xs.take k) = true) : Lm.pures (xs.take (k+1)) = a.pure := by
  rw [take_snoc h, Lm.pures_append, h0]
  simp [Lm.pures]
theorem Lm.pures_bad {xs : List Lm} {k : Nat} (h0 : Lm.pures (xs.take k) = false) : Lm.pures xs = false := by
  have := Lm.pures_append (xs.take k) (xs.drop k)
  rw [List.take_append_drop, h0, Bool.false_and] at this
  exact this
end Go.Proofs.YtehnjhkndbcmgaaGreatDoor
