/-
  Part 7 of the texts: BLamMv; BLamPut; BFrom3; BFrom4; BAtoi; BLWrite; BLWrite2; PLFree; BLShow; LambdaSays; IrRed; BRed; IrCon; BCon; IrRaw; BRawL. Conditions: none.
-/
import Derived.Test.YtfiegbokcabhhaaDoorLaM6
import Derived.Lib.AppendIntMem
import Derived.Lib.ItoaLen
namespace Go.Proofs.YtfiegbokcabhhaaDoor
open Go Go.RowKit
set_option linter.unusedVariables false
set_option linter.unusedSimpArgs false
set_option maxHeartbeats 400000
theorem lV_a (i : Int) : ACalls Tryd.prog 53 [aInt i] (aLm (.mk 1 i [])) := by
  refine ok_lambda_V.ac fun C hC => ?_
  unfold ir_lambda_V
  repeat' (first | (with_reducible first | refine W ?_ | refine Wz0 ?_) | ((with_reducible first | refine Wo (fun K hK => ?_) | refine Wp ?_ | refine Wq ?_ | refine Wr ?_); (try simp only [go_sem, fN, seval, eT, iR, dT, dF, nL]); (repeat with_reducible refine Ai ?_); (try (refine hK _ ?_; clear hK K)); (try with_reducible refine iC ?_)))
  simp only [go_sem, fN, seval, FinQ, AS.result, resAll, resOne, tupV]
  rfl
theorem lVar_a (i : Int) : ACalls Tryd.prog 38 [aInt i] (aLm (.mk 1 i [])) := by
  refine ok_R_Var.ac fun C hC => ?_
  unfold ir_R_Var
  repeat' (first | (with_reducible first | refine W ?_ | refine Wz0 ?_) | ((with_reducible first | refine Wo (fun K hK => ?_) | refine Wp ?_ | refine Wq ?_ | refine Wr ?_); (try simp only [go_sem, fN, seval, eT, iR, dT, dF, nL]); (repeat with_reducible refine Ai ?_); (try (refine hK _ ?_; clear hK K)); (try with_reducible refine iC ?_)))
  simp only [go_sem, fN, seval, FinQ, AS.result, resAll, resOne, tupV]
  rfl
theorem lmove_a (t : Lm) (b d : Int) (hg : t.good 1000000000) (hb : -1 ≤ b ∧ b ≤ 1000000000) (hd : 0 ≤ d) (hz : d + t.size ≤ 1000000000) : ACalls Tryd.prog 52 [aLm t, aInt b, aInt d] (aLm (Lm.mv b d t)) := by
  induction h : SizeOf.sizeOf t using Nat.strongRecOn generalizing t d with
  | _ N ih =>
  subst h
  have hs := Lm.size_eq t
  have hlen := Lm.length_le t.subs
  obtain ⟨g1, g2, g3, g4⟩ := (Lm.good_eq _ _).1 hg
  have hu2 : under t.kind d ≤ d + 1 ∧ 0 ≤ under t.kind d := by unfold under; split <;> omega
  rw [Lm.mv_eq]
  have hcase : (t.kind = 1 ∧ d ≤ t.idx) ∨ (t.kind = 1 ∧ ¬ d ≤ t.idx) ∨ (¬ t.kind = 1 ∧ t.kind = 2) ∨ (¬ t.kind = 1 ∧ ¬ t.kind = 2) := by omega
  rcases hcase with ⟨k1, k2⟩ | ⟨k1, k2⟩ | ⟨k1, k2⟩ | ⟨k1, k2⟩
  all_goals
    refine ok_lambda_Move.ac fun C hC => ?_
    unfold ir_lambda_Move
    repeat' (first | (with_reducible first | refine W ?_ | refine Wz0 ?_) | ((with_reducible first | refine Wo (fun K hK => ?_) | refine Wp ?_ | refine Wq ?_ | refine Wr ?_); (try simp only [go_sem, fN, seval, eT, iR, k1, k2, dT, dF, nL]); (repeat with_reducible refine Ai ?_); (try (refine hK _ ?_; clear hK K)); (try with_reducible refine iC ?_)))
    refine IWP.ghost (Ghost.ownC 7 2 21 24 3 (xs := ([] : List Lm).map encL) rfl rfl rfl lens_encL) ?_
    refine IWP.loopD [9] (fun n s => ∃ k, k ≤ t.subs.length ∧ n = t.subs.length - k ∧ s.env 1 = aInt b ∧ s.env 2 = aInt (under t.kind d) ∧ s.env 6 = .one (.ptr 6 1 0 0) ∧ s.env 7 = .one (.ptr 7 1 0 0) ∧ s.S 6 = some (.box 24 [.st (.int .i64 0), .st (.int .i64 0), .full []])
      ∧ s.S 7 = some (.box 24 [.st (.int .i64 t.kind), .st (.int .i64 (if t.kind = 1 ∧ d ≤ t.idx then t.idx + b else t.idx)), .row 21 k]) ∧ s.S 21 = some (.arow 24 3 (((t.subs.take k).map (Lm.mv b (under t.kind d))).map encL)) ∧ s.env 33 = .one (.st (.list (t.subs.map encL))) ∧ s.env 34 = aInt t.subs.length ∧ s.env 35 = aInt k ∧ s.S 9 = none) t.subs.length
      ⟨0, Nat.zero_le _, rfl, rfl, by simp only [k1, k2, under, Int.reduceEq, ↓reduceIte]; rfl, rfl, rfl, rfl, by simp only [k1, k2, and_self, and_false, and_true, true_and, false_and, if_true, if_false, not_false_eq_true, Int.reduceEq, ↓reduceIte]; rfl, rfl, rfl, rfl, rfl, rfl⟩ ?_
    rintro n ⟨env, S⟩ ⟨k, hk', rfl, e1, e2, e6, e7, s6, s7, s21, e33, e34, e35, s9⟩
    simp only at e1 e2 e6 e7 s6 s7 s21 e33 e34 e35 s9
    have hlk : (t.subs.take k).length = k := by rw [List.length_take]; omega
    by_cases hlt : (k : Int) < t.subs.length
    · obtain ⟨a, ha⟩ := get_lt (show k < t.subs.length by omega)
      have z3 := Lm.size_mem (mem_of_get ha)
      repeat' (first | (with_reducible first | refine W ?_ | refine Wz0 ?_) | refine Cg _ (ih _ (Lm.lt_of_sub (mem_of_get ha)) a (under t.kind d) (Lm.good_sub hg (mem_of_get ha)) hu2.2 (by omega) rfl) ?_ | ((with_reducible first | refine Wo (fun K hK => ?_) | refine Wp ?_ | refine Wq ?_ | refine Wr ?_); (try simp only [go_sem, fN, seval, eT, iR, e1, e2, e6, e7, s6, s7, s21, e33, e34, e35, s9, ha, hlt, hlk, dT, dF, nL]); (repeat with_reducible refine Ai ?_); (try (refine hK _ ?_; clear hK K)); (try with_reducible refine iC ?_)))
      refine then_normal ⟨t.subs.length - (k + 1), by omega, k + 1, by omega, rfl, ?_⟩
      simp only [go_sem, fN, seval, AS.drop, dropS, AC.clears, AC.clear, AC.highs, AC.high, Bool.not_false, Bool.true_and, Bool.and_self, AV.purge, AV.purges, AC.purge, ABlk.purge, List.contains_cons, List.contains_nil, Nat.reduceBEq, Bool.or_self, Bool.or_false, Bool.false_or, Bool.or_true, eT, iR, e1, e2, e6, e7, s6, s7, s21, e33, e34, e35, s9]
      exact ⟨by rw [take_snoc ha]; simp [encL_eq], by congr 3⟩
    · repeat' (first | (with_reducible first | refine W ?_ | refine Wz0 ?_) | ((with_reducible first | refine Wo (fun K hK => ?_) | refine Wp ?_ | refine Wq ?_ | refine Wr ?_); (try simp only [go_sem, fN, seval, eT, iR, e1, e2, e6, e7, s6, s7, s21, e33, e34, e35, s9, hlt, dT, dF, nL]); (repeat with_reducible refine Ai ?_); (try (refine hK _ ?_; clear hK K)); (try with_reducible refine iC ?_)))
      have hall : t.subs.take k = t.subs := List.take_of_length_le (by omega)
      rw [hall] at s21
      have hkl : k = t.subs.length := by omega
      simp only [go_sem, fN, seval, FinQ, AS.result, resAll, resOne, tupV, e6, s6, s7, s21, hkl]
      simp [k1, k2, Lm.kind_mk, Lm.idx_mk, Lm.subs_mk]
theorem lhigher_a (t : Lm) (b d : Int) (hg : t.good 1000000000) (hb : -1 ≤ b ∧ b ≤ 1000000000) (hd : 0 ≤ d) (hz : d + t.size ≤ 1000000000) : ACalls Tryd.prog 48 [aLm t, aInt b, aInt d] (aLm (Lm.mv b d t)) := by
  induction h : SizeOf.sizeOf t using Nat.strongRecOn generalizing t d with
  | _ N ih =>
  subst h
  have hs := Lm.size_eq t
  have hlen := Lm.length_le t.subs
  obtain ⟨g1, g2, g3, g4⟩ := (Lm.good_eq _ _).1 hg
  have hu2 : under t.kind d ≤ d + 1 ∧ 0 ≤ under t.kind d := by unfold under; split <;> omega
  rw [Lm.mv_eq]
  by_cases k1 : t.kind = 1
  · have g1 := g1 k1
    by_cases k2 : t.idx < d
    · have k3 : ¬ d ≤ t.idx := by omega
      refine ok_R_Higher.ac fun C hC => ?_
      unfold ir_R_Higher
      repeat' (first | (with_reducible first | refine W ?_ | refine Wz0 ?_) | ((with_reducible first | refine Wo (fun K hK => ?_) | refine Wp ?_ | refine Wq ?_ | refine Wr ?_); (try simp only [go_sem, fN, seval, eT, iR, k1, k2, dT, dF, nL]); (repeat with_reducible refine Ai ?_); (try (refine hK _ ?_; clear hK K)); (try with_reducible refine iC ?_)))
      simp only [go_sem, fN, seval, FinQ, AS.result, resAll, resOne, tupV]
      simp [k1, k3, g1, Lm.kind_mk, Lm.idx_mk, Lm.subs_mk]
    · have k3 : d ≤ t.idx := by omega
      refine ok_R_Higher.ac fun C hC => ?_
      unfold ir_R_Higher
      repeat' (first | (with_reducible first | refine W ?_ | refine Wz0 ?_) | refine Cg _ (lVar_a (t.idx + b)) ?_ | ((with_reducible first | refine Wo (fun K hK => ?_) | refine Wp ?_ | refine Wq ?_ | refine Wr ?_); (try simp only [go_sem, fN, seval, eT, iR, k1, k2, dT, dF, nL]); (repeat with_reducible refine Ai ?_); (try (refine hK _ ?_; clear hK K)); (try with_reducible refine iC ?_)))
      simp only [go_sem, fN, seval, FinQ, AS.result, resAll, resOne, tupV]
      simp [k1, k3, g1, Lm.kind_mk, Lm.idx_mk, Lm.subs_mk]
  have hcase : t.kind = 2 ∨ ¬ t.kind = 2 := by omega
  rcases hcase with k2 | k2
  all_goals
    refine ok_R_Higher.ac fun C hC => ?_
    unfold ir_R_Higher
    repeat' (first | (with_reducible first | refine W ?_ | refine Wz0 ?_) | ((with_reducible first | refine Wo (fun K hK => ?_) | refine Wp ?_ | refine Wq ?_ | refine Wr ?_); (try simp only [go_sem, fN, seval, eT, iR, k1, k2, dT, dF, nL]); (repeat with_reducible refine Ai ?_); (try (refine hK _ ?_; clear hK K)); (try with_reducible refine iC ?_)))
    refine IWP.ghost (Ghost.ownC 7 2 21 24 3 (xs := ([] : List Lm).map encL) rfl rfl rfl lens_encL) ?_
    refine IWP.loop (fun n s => ∃ k, k ≤ t.subs.length ∧ n = t.subs.length - k ∧ s.env 1 = aInt b ∧ s.env 2 = aInt (under t.kind d) ∧ s.env 3 = .one (.ptr 3 1 0 0) ∧ s.env 6 = .one (.ptr 6 1 0 0) ∧ s.env 7 = .one (.ptr 7 1 0 0) ∧ s.S 3 = some (.box 24 [.st (.int .i64 t.kind), .st (.int .i64 t.idx), .st (.list (t.subs.map encL))]) ∧ s.S 6 = some (.box 24 [.st (.int .i64 0), .st (.int .i64 0), .full []])
      ∧ s.S 7 = some (.box 24 [.st (.int .i64 t.kind), .st (.int .i64 t.idx), .row 21 k]) ∧ s.S 21 = some (.arow 24 3 (((t.subs.take k).map (Lm.mv b (under t.kind d))).map encL)) ∧ s.env 8 = aInt k) t.subs.length
      ⟨0, Nat.zero_le _, rfl, rfl, by simp only [k1, k2, under, Int.reduceEq, ↓reduceIte]; rfl, rfl, rfl, rfl, by first | rfl | (simp only [k1, k2]; rfl), rfl, by first | rfl | (simp only [k1, k2]; rfl), rfl, rfl⟩ ?_
    rintro n ⟨env, S⟩ ⟨k, hk', rfl, e1, e2, e3, e6, e7, s3, s6, s7, s21, e8⟩
    simp only at e1 e2 e3 e6 e7 s3 s6 s7 s21 e8
    have hlk : (t.subs.take k).length = k := by rw [List.length_take]; omega
    by_cases hlt : (k : Int) < t.subs.length
    · obtain ⟨a, ha⟩ := get_lt (show k < t.subs.length by omega)
      have z3 := Lm.size_mem (mem_of_get ha)
      repeat' (first | (with_reducible first | refine W ?_ | refine Wz0 ?_) | refine Cg _ (ih _ (Lm.lt_of_sub (mem_of_get ha)) a (under t.kind d) (Lm.good_sub hg (mem_of_get ha)) hu2.2 (by omega) rfl) ?_ | ((with_reducible first | refine Wo (fun K hK => ?_) | refine Wp ?_ | refine Wq ?_ | refine Wr ?_); (try simp only [go_sem, fN, seval, eT, iR, e1, e2, e3, e6, e7, s3, s6, s7, s21, e8, ha, hlt, hlk, dT, dF, nL]); (repeat with_reducible refine Ai ?_); (try (refine hK _ ?_; clear hK K)); (try with_reducible refine iC ?_)))
      refine then_normal ⟨t.subs.length - (k + 1), by omega, k + 1, by omega, rfl, ?_⟩
      simp only [go_sem, fN, seval, eT, iR, e1, e2, e3, e6, e7, s3, s6, s7, s21, e8]
      exact ⟨by rw [take_snoc ha]; simp [encL_eq], by congr 3⟩
    · repeat' (first | (with_reducible first | refine W ?_ | refine Wz0 ?_) | ((with_reducible first | refine Wo (fun K hK => ?_) | refine Wp ?_ | refine Wq ?_ | refine Wr ?_); (try simp only [go_sem, fN, seval, eT, iR, e1, e2, e3, e6, e7, s3, s6, s7, s21, e8, hlt, dT, dF, nL]); (repeat with_reducible refine Ai ?_); (try (refine hK _ ?_; clear hK K)); (try with_reducible refine iC ?_)))
      have hall : t.subs.take k = t.subs := List.take_of_length_le (by omega)
      rw [hall] at s21
      have hkl : k = t.subs.length := by omega
      simp only [go_sem, fN, seval, FinQ, AS.result, resAll, resOne, tupV, e6, s6, s7, s21, hkl]
      simp [k1, k2, Lm.kind_mk, Lm.idx_mk, Lm.subs_mk]
theorem linto_a (t x : Lm) (d : Int) (hg : t.good 1000000000) (hx : x.good 1000000000) (hxz : x.size ≤ 1000000000) (hd : 0 ≤ d) (hz : d + t.size ≤ 1000000000) : ACalls Tryd.prog 49 [aLm t, aLm x, aInt d] (aLm (Lm.put x d t)) := by
  induction h : SizeOf.sizeOf t using Nat.strongRecOn generalizing t d with
  | _ N ih =>
  subst h
  have hs := Lm.size_eq t
  have hlen := Lm.length_le t.subs
  obtain ⟨g1, g2, g3, g4⟩ := (Lm.good_eq _ _).1 hg
  have hu2 : under t.kind d ≤ d + 1 ∧ 0 ≤ under t.kind d := by unfold under; split <;> omega
  rw [Lm.put_eq]
  by_cases k1 : t.kind = 1
  · have g1 := g1 k1
    by_cases k2 : t.idx = d
    · refine ok_lambda_into.ac fun C hC => ?_
      unfold ir_lambda_into
      repeat' (first | (with_reducible first | refine W ?_ | refine Wz0 ?_) | refine Cg _ (lmove_a x d 0 hx (by omega) (by omega) (by omega)) ?_ | ((with_reducible first | refine Wo (fun K hK => ?_) | refine Wp ?_ | refine Wq ?_ | refine Wr ?_); (try simp only [go_sem, fN, seval, eT, iR, k1, k2, dT, dF, nL]); (repeat with_reducible refine Ai ?_); (try (refine hK _ ?_; clear hK K)); (try with_reducible refine iC ?_)))
      simp only [go_sem, fN, seval, FinQ, AS.result, resAll, resOne, tupV]
      try simp [k1, k2]
    · by_cases k3 : d < t.idx
      · refine ok_lambda_into.ac fun C hC => ?_
        unfold ir_lambda_into
        repeat' (first | (with_reducible first | refine W ?_ | refine Wz0 ?_) | refine Cg _ (lV_a (t.idx - 1)) ?_ | ((with_reducible first | refine Wo (fun K hK => ?_) | refine Wp ?_ | refine Wq ?_ | refine Wr ?_); (try simp only [go_sem, fN, seval, eT, iR, k1, k2, k3, dT, dF, nL]); (repeat with_reducible refine Ai ?_); (try (refine hK _ ?_; clear hK K)); (try with_reducible refine iC ?_)))
        simp only [go_sem, fN, seval, FinQ, AS.result, resAll, resOne, tupV]
        simp [k1, k2, k3, Lm.kind_mk, Lm.idx_mk, Lm.subs_mk]
      · refine ok_lambda_into.ac fun C hC => ?_
        unfold ir_lambda_into
        repeat' (first | (with_reducible first | refine W ?_ | refine Wz0 ?_) | refine Cg _ (lV_a t.idx) ?_ | ((with_reducible first | refine Wo (fun K hK => ?_) | refine Wp ?_ | refine Wq ?_ | refine Wr ?_); (try simp only [go_sem, fN, seval, eT, iR, k1, k2, k3, dT, dF, nL]); (repeat with_reducible refine Ai ?_); (try (refine hK _ ?_; clear hK K)); (try with_reducible refine iC ?_)))
        simp only [go_sem, fN, seval, FinQ, AS.result, resAll, resOne, tupV]
        simp [k1, k2, k3, Lm.kind_mk, Lm.idx_mk, Lm.subs_mk]
  have hcase : t.kind = 2 ∨ ¬ t.kind = 2 := by omega
  rcases hcase with k2 | k2
  all_goals
    refine ok_lambda_into.ac fun C hC => ?_
    unfold ir_lambda_into
    repeat' (first | (with_reducible first | refine W ?_ | refine Wz0 ?_) | ((with_reducible first | refine Wo (fun K hK => ?_) | refine Wp ?_ | refine Wq ?_ | refine Wr ?_); (try simp only [go_sem, fN, seval, eT, iR, k1, k2, dT, dF, nL]); (repeat with_reducible refine Ai ?_); (try (refine hK _ ?_; clear hK K)); (try with_reducible refine iC ?_)))
    refine IWP.ghost (Ghost.ownC 7 2 21 24 3 (xs := ([] : List Lm).map encL) rfl rfl rfl lens_encL) ?_
    refine IWP.loopD [9] (fun n s => ∃ k, k ≤ t.subs.length ∧ n = t.subs.length - k ∧ s.env 2 = aInt (under t.kind d) ∧ s.env 4 = .one (.ptr 4 1 0 0) ∧ s.env 6 = .one (.ptr 6 1 0 0) ∧ s.env 7 = .one (.ptr 7 1 0 0) ∧ s.S 4 = some (.box 24 [.st (.int .i64 x.kind), .st (.int .i64 x.idx), .st (.list (x.subs.map encL))]) ∧ s.S 6 = some (.box 24 [.st (.int .i64 0), .st (.int .i64 0), .full []])
      ∧ s.S 7 = some (.box 24 [.st (.int .i64 t.kind), .st (.int .i64 t.idx), .row 21 k]) ∧ s.S 21 = some (.arow 24 3 (((t.subs.take k).map (Lm.put x (under t.kind d))).map encL)) ∧ s.env 44 = .one (.st (.list (t.subs.map encL))) ∧ s.env 45 = aInt t.subs.length ∧ s.env 46 = aInt k ∧ s.S 9 = none) t.subs.length
      ⟨0, Nat.zero_le _, rfl, by simp only [k1, k2, under, Int.reduceEq, ↓reduceIte]; rfl, rfl, rfl, rfl, rfl, rfl, by first | rfl | (simp only [k1, k2]; rfl), rfl, rfl, rfl, rfl, rfl⟩ ?_
    rintro n ⟨env, S⟩ ⟨k, hk', rfl, e2, e4, e6, e7, s4, s6, s7, s21, e44, e45, e46, s9⟩
    simp only at e2 e4 e6 e7 s4 s6 s7 s21 e44 e45 e46 s9
    have hlk : (t.subs.take k).length = k := by rw [List.length_take]; omega
    by_cases hlt : (k : Int) < t.subs.length
    · obtain ⟨a, ha⟩ := get_lt (show k < t.subs.length by omega)
      have z3 := Lm.size_mem (mem_of_get ha)
      repeat' (first | (with_reducible first | refine W ?_ | refine Wz0 ?_) | refine Cg _ (ih _ (Lm.lt_of_sub (mem_of_get ha)) a (under t.kind d) (Lm.good_sub hg (mem_of_get ha)) hu2.2 (by omega) rfl) ?_ | ((with_reducible first | refine Wo (fun K hK => ?_) | refine Wp ?_ | refine Wq ?_ | refine Wr ?_); (try simp only [go_sem, fN, seval, eT, iR, e2, e4, e6, e7, s4, s6, s7, s21, e44, e45, e46, s9, ha, hlt, hlk, dT, dF, nL]); (repeat with_reducible refine Ai ?_); (try (refine hK _ ?_; clear hK K)); (try with_reducible refine iC ?_)))
      refine then_normal ⟨t.subs.length - (k + 1), by omega, k + 1, by omega, rfl, ?_⟩
      simp only [go_sem, fN, seval, AS.drop, dropS, AC.clears, AC.clear, AC.highs, AC.high, Bool.not_false, Bool.true_and, Bool.and_self, AV.purge, AV.purges, AC.purge, ABlk.purge, List.contains_cons, List.contains_nil, Nat.reduceBEq, Bool.or_self, Bool.or_false, Bool.false_or, Bool.or_true, eT, iR, e2, e4, e6, e7, s4, s6, s7, s21, e44, e45, e46, s9]
      exact ⟨by rw [take_snoc ha]; simp [encL_eq], by congr 3⟩
    · repeat' (first | (with_reducible first | refine W ?_ | refine Wz0 ?_) | ((with_reducible first | refine Wo (fun K hK => ?_) | refine Wp ?_ | refine Wq ?_ | refine Wr ?_); (try simp only [go_sem, fN, seval, eT, iR, e2, e4, e6, e7, s4, s6, s7, s21, e44, e45, e46, s9, hlt, dT, dF, nL]); (repeat with_reducible refine Ai ?_); (try (refine hK _ ?_; clear hK K)); (try with_reducible refine iC ?_)))
      have hall : t.subs.take k = t.subs := List.take_of_length_le (by omega)
      rw [hall] at s21
      have hkl : k = t.subs.length := by omega
      simp only [go_sem, fN, seval, FinQ, AS.result, resAll, resOne, tupV, e6, s6, s7, s21, hkl]
      simp [k1, k2, Lm.kind_mk, Lm.idx_mk, Lm.subs_mk]
theorem lInto_a (t x : Lm) (hg : t.good 1000000000) (hx : x.good 1000000000) (hxz : x.size ≤ 1000000000) (hz : t.size ≤ 1000000000) : ACalls Tryd.prog 42 [aLm t, aLm x] (aLm (Lm.put x 0 t)) := by
  refine ok_lambda_Into.ac fun C hC => ?_
  unfold ir_lambda_Into
  repeat' (first | (with_reducible first | refine W ?_ | refine Wz0 ?_) | refine Cg _ (linto_a t x 0 hg hx hxz (by decide) (by omega)) ?_ | ((with_reducible first | refine Wo (fun K hK => ?_) | refine Wp ?_ | refine Wq ?_ | refine Wr ?_); (try simp only [go_sem, fN, seval, eT, iR, dT, dF, nL]); (repeat with_reducible refine Ai ?_); (try (refine hK _ ?_; clear hK K)); (try with_reducible refine iC ?_)))
  simp only [go_sem, fN, seval, FinQ, AS.result, resAll, resOne, tupV]
abbrev aLm1 (x : Lm) : AV := .one (.st (.list [[.int .i64 x.kind, .int .i64 x.idx, .list (x.subs.map encL)]]))
theorem linstead_a (t x : Lm) (d : Int) (hg : t.good 1000000000) (hx : x.good 1000000000) (hxz : x.size ≤ 1000000000) (hd : 0 ≤ d) (hz : d + t.size ≤ 1000000000) : ACalls Tryd.prog 41 [aLm t, aLm1 x, aInt d] (aLm (Lm.put x d t)) := by
  induction h : SizeOf.sizeOf t using Nat.strongRecOn generalizing t d with
  | _ N ih =>
  subst h
  have hs := Lm.size_eq t
  have hlen := Lm.length_le t.subs
  obtain ⟨g1, g2, g3, g4⟩ := (Lm.good_eq _ _).1 hg
  have hu2 : under t.kind d ≤ d + 1 ∧ 0 ≤ under t.kind d := by unfold under; split <;> omega
  rw [Lm.put_eq]
  by_cases k1 : t.kind = 1
  · have g1 := g1 k1
    by_cases k2 : t.idx = d
    · have k3 : ¬ t.idx < d := by omega
      have k4 : t.idx - d = 0 := by omega
      refine ok_R_Instead.ac fun C hC => ?_
      unfold ir_R_Instead
      repeat' (first | (with_reducible first | refine W ?_ | refine Wz0 ?_) | refine Cg _ (lhigher_a x d 0 hx (by omega) (by omega) (by omega)) ?_ | ((with_reducible first | refine Wo (fun K hK => ?_) | refine Wp ?_ | refine Wq ?_ | refine Wr ?_); (try simp only [go_sem, fN, seval, eT, iR, k1, k3, k4, Int.cast_ofNat_Int, dT, dF, nL]); (repeat with_reducible refine Ai ?_); (try (refine hK _ ?_; clear hK K)); (try with_reducible refine iC ?_)))
      simp only [go_sem, fN, seval, FinQ, AS.result, resAll, resOne, tupV]
      try simp [k1, k2]
    · by_cases k3 : d < t.idx
      · have k4 : ¬ t.idx < d := by omega
        have k5 : ¬ t.idx - d < 1 := by omega
        refine ok_R_Instead.ac fun C hC => ?_
        unfold ir_R_Instead
        repeat' (first | (with_reducible first | refine W ?_ | refine Wz0 ?_) | refine Cg _ (lVar_a (t.idx - 1)) ?_ | ((with_reducible first | refine Wo (fun K hK => ?_) | refine Wp ?_ | refine Wq ?_ | refine Wr ?_); (try simp only [go_sem, fN, seval, eT, iR, k1, k4, k5, Int.cast_ofNat_Int, dT, dF, nL]); (repeat with_reducible refine Ai ?_); (try (refine hK _ ?_; clear hK K)); (try with_reducible refine iC ?_)))
        simp only [go_sem, fN, seval, FinQ, AS.result, resAll, resOne, tupV]
        simp [k1, k2, k3, Lm.kind_mk, Lm.idx_mk, Lm.subs_mk]
      · have k4 : t.idx < d := by omega
        refine ok_R_Instead.ac fun C hC => ?_
        unfold ir_R_Instead
        repeat' (first | (with_reducible first | refine W ?_ | refine Wz0 ?_) | ((with_reducible first | refine Wo (fun K hK => ?_) | refine Wp ?_ | refine Wq ?_ | refine Wr ?_); (try simp only [go_sem, fN, seval, eT, iR, k1, k4, dT, dF, nL]); (repeat with_reducible refine Ai ?_); (try (refine hK _ ?_; clear hK K)); (try with_reducible refine iC ?_)))
        simp only [go_sem, fN, seval, FinQ, AS.result, resAll, resOne, tupV]
        simp [k1, k2, k3, g1, Lm.kind_mk, Lm.idx_mk, Lm.subs_mk]
  have hcase : t.kind = 2 ∨ ¬ t.kind = 2 := by omega
  rcases hcase with k2 | k2
  all_goals
    refine ok_R_Instead.ac fun C hC => ?_
    unfold ir_R_Instead
    repeat' (first | (with_reducible first | refine W ?_ | refine Wz0 ?_) | ((with_reducible first | refine Wo (fun K hK => ?_) | refine Wp ?_ | refine Wq ?_ | refine Wr ?_); (try simp only [go_sem, fN, seval, eT, iR, k1, k2, dT, dF, nL]); (repeat with_reducible refine Ai ?_); (try (refine hK _ ?_; clear hK K)); (try with_reducible refine iC ?_)))
    refine IWP.ghost (Ghost.ownC 8 2 21 24 3 (xs := ([] : List Lm).map encL) rfl rfl rfl lens_encL) ?_
    refine IWP.loop (fun n s => ∃ k, k ≤ t.subs.length ∧ n = t.subs.length - k ∧ s.env 1 = aLm1 x ∧ s.env 2 = aInt (under t.kind d) ∧ s.env 3 = .one (.ptr 3 1 0 0) ∧ s.env 6 = .one (.ptr 6 1 0 0) ∧ s.env 8 = .one (.ptr 8 1 0 0) ∧ s.S 3 = some (.box 24 [.st (.int .i64 t.kind), .st (.int .i64 t.idx), .st (.list (t.subs.map encL))]) ∧ s.S 6 = some (.box 24 [.st (.int .i64 0), .st (.int .i64 0), .full []])
      ∧ s.S 8 = some (.box 24 [.st (.int .i64 t.kind), .st (.int .i64 t.idx), .row 21 k]) ∧ s.S 21 = some (.arow 24 3 (((t.subs.take k).map (Lm.put x (under t.kind d))).map encL)) ∧ s.env 9 = aInt k) t.subs.length
      ⟨0, Nat.zero_le _, rfl, rfl, by simp only [k1, k2, under, Int.reduceEq, ↓reduceIte]; rfl, rfl, rfl, rfl, by first | rfl | (simp only [k1, k2]; rfl), rfl, by first | rfl | (simp only [k1, k2]; rfl), rfl, rfl⟩ ?_
    rintro n ⟨env, S⟩ ⟨k, hk', rfl, e1, e2, e3, e6, e8, s3, s6, s8, s21, e9⟩
    simp only at e1 e2 e3 e6 e8 s3 s6 s8 s21 e9
    have hlk : (t.subs.take k).length = k := by rw [List.length_take]; omega
    by_cases hlt : (k : Int) < t.subs.length
    · obtain ⟨a, ha⟩ := get_lt (show k < t.subs.length by omega)
      have z3 := Lm.size_mem (mem_of_get ha)
      repeat' (first | (with_reducible first | refine W ?_ | refine Wz0 ?_) | refine Cg _ (ih _ (Lm.lt_of_sub (mem_of_get ha)) a (under t.kind d) (Lm.good_sub hg (mem_of_get ha)) hu2.2 (by omega) rfl) ?_ | ((with_reducible first | refine Wo (fun K hK => ?_) | refine Wp ?_ | refine Wq ?_ | refine Wr ?_); (try simp only [go_sem, fN, seval, eT, iR, e1, e2, e3, e6, e8, s3, s6, s8, s21, e9, ha, hlt, hlk, dT, dF, nL]); (repeat with_reducible refine Ai ?_); (try (refine hK _ ?_; clear hK K)); (try with_reducible refine iC ?_)))
      refine then_normal ⟨t.subs.length - (k + 1), by omega, k + 1, by omega, rfl, ?_⟩
      simp only [go_sem, fN, seval, eT, iR, e1, e2, e3, e6, e8, s3, s6, s8, s21, e9]
      exact ⟨by rw [take_snoc ha]; simp [encL_eq], by congr 3⟩
    · repeat' (first | (with_reducible first | refine W ?_ | refine Wz0 ?_) | ((with_reducible first | refine Wo (fun K hK => ?_) | refine Wp ?_ | refine Wq ?_ | refine Wr ?_); (try simp only [go_sem, fN, seval, eT, iR, e1, e2, e3, e6, e8, s3, s6, s8, s21, e9, hlt, dT, dF, nL]); (repeat with_reducible refine Ai ?_); (try (refine hK _ ?_; clear hK K)); (try with_reducible refine iC ?_)))
      have hall : t.subs.take k = t.subs := List.take_of_length_le (by omega)
      rw [hall] at s21
      have hkl : k = t.subs.length := by omega
      simp only [go_sem, fN, seval, FinQ, AS.result, resAll, resOne, tupV, e6, s6, s8, s21, hkl]
      simp [k1, k2, Lm.kind_mk, Lm.idx_mk, Lm.subs_mk]
theorem lBeta_a (t x : Lm) (hg : t.good 1000000000) (hx : x.good 1000000000) (hxz : x.size ≤ 1000000000) (hz : t.size ≤ 1000000000) : ACalls Tryd.prog 25 [aLm t, aLm x] (aLm (Lm.put x 0 t)) := by
  refine ok_R_Beta.ac fun C hC => ?_
  unfold ir_R_Beta
  repeat' (first | (with_reducible first | refine W ?_ | refine Wz0 ?_) | refine Cg _ (linstead_a t x 0 hg hx hxz (by decide) (by omega)) ?_ | ((with_reducible first | refine Wo (fun K hK => ?_) | refine Wp ?_ | refine Wq ?_ | refine Wr ?_); (try simp only [go_sem, fN, seval, eT, iR, dT, dF, nL]); (repeat with_reducible refine Ai ?_); (try (refine hK _ ?_; clear hK K)); (try with_reducible refine iC ?_)))
  simp only [go_sem, fN, seval, FinQ, AS.result, resAll, resOne, tupV]

set_option maxHeartbeats 1000000 in
theorem lchkR_a (t : Lm) (u m : Int) (hu : 0 ≤ u) (hz : u + t.size ≤ 1000000000) : ACalls Tryd.prog 18 [aLm t, aInt u, aInt m] (aInt (t.chk m u)) := by
  induction h : SizeOf.sizeOf t using Nat.strongRecOn generalizing t u with
  | _ N ih =>
  subst h
  have hs := Lm.size_eq t
  have hlen := Lm.length_le t.subs
  refine ok_R_lamMay.ac fun C hC => ?_
  unfold ir_R_lamMay
  by_cases hk : 1 ≤ t.kind ∧ t.kind ≤ 5
  case neg =>
    rw [Lm.chk_eq, if_neg (fun h => hk ⟨h.1, h.2.1⟩)]
    have q1 : ¬ t.kind = 1 := by omega
    have q2 : ¬ t.kind = 2 := by omega
    have q3 : ¬ t.kind = 3 := by omega
    have q4 : ¬ t.kind = 4 := by omega
    have q5 : ¬ t.kind = 5 := by omega
    repeat' (first | (with_reducible first | refine W ?_ | refine Wz0 ?_) | ((with_reducible first | refine Wo (fun K hK => ?_) | refine Wp ?_ | refine Wq ?_ | refine Wr ?_); (try simp only [go_sem, fN, seval, eT, iR, q1, q2, q3, q4, q5, dT, dF, nL]); (repeat with_reducible refine Ai ?_); (try (refine hK _ ?_; clear hK K)); (try with_reducible refine iC ?_)))
    simp only [go_sem, fN, seval, FinQ, AS.result, resAll, resOne, tupV]
  case pos =>
  have hk5 := kinds_of hk
  by_cases hl : (t.subs.length : Int) = nSubs t.kind
  case neg =>
    rw [Lm.chk_eq, if_neg (fun h => hl h.2.2)]
    rcases hk5 with hk5 | hk5 | hk5 | hk5 | hk5
    all_goals
      simp only [hk5, nSubs, Int.reduceEq, ↓reduceIte] at hl
      repeat' (first | (with_reducible first | refine W ?_ | refine Wz0 ?_) | ((with_reducible first | refine Wo (fun K hK => ?_) | refine Wp ?_ | refine Wq ?_ | refine Wr ?_); (try simp only [go_sem, fN, seval, eT, iR, hk5, hl, dT, dF, nL]); (repeat with_reducible refine Ai ?_); (try (refine hK _ ?_; clear hK K)); (try with_reducible refine iC ?_)))
      simp only [go_sem, fN, seval, FinQ, AS.result, resAll, resOne, tupV]
  case pos =>
  by_cases h0 : t.idx < 0
  case pos =>
    rw [Lm.chk_eq, if_pos ⟨hk.1, hk.2, hl⟩, if_neg (fun h => by omega)]
    rcases hk5 with hk5 | hk5 | hk5 | hk5 | hk5
    all_goals
      simp only [hk5, nSubs, Int.reduceEq, ↓reduceIte] at hl
      repeat' (first | (with_reducible first | refine W ?_ | refine Wz0 ?_) | ((with_reducible first | refine Wo (fun K hK => ?_) | refine Wp ?_ | refine Wq ?_ | refine Wr ?_); (try simp only [go_sem, fN, seval, eT, iR, hk5, hl, h0, dT, dF, nL]); (repeat with_reducible refine Ai ?_); (try (refine hK _ ?_; clear hK K)); (try with_reducible refine iC ?_)))
      simp only [go_sem, fN, seval, FinQ, AS.result, resAll, resOne, tupV]
  case neg =>
  by_cases hm : mostIdx t.kind u m ≤ t.idx
  case pos =>
    rw [Lm.chk_eq, if_pos ⟨hk.1, hk.2, hl⟩, if_neg (fun h => by omega)]
    rcases hk5 with hk5 | hk5 | hk5 | hk5 | hk5
    all_goals
      simp only [hk5, nSubs, mostIdx, Int.reduceEq, ↓reduceIte] at hl hm
      repeat' (first | (with_reducible first | refine W ?_ | refine Wz0 ?_) | ((with_reducible first | refine Wo (fun K hK => ?_) | refine Wp ?_ | refine Wq ?_ | refine Wr ?_); (try simp only [go_sem, fN, seval, eT, iR, hk5, hl, h0, hm, dT, dF, nL]); (repeat with_reducible refine Ai ?_); (try (refine hK _ ?_; clear hK K)); (try with_reducible refine iC ?_)))
      simp only [go_sem, fN, seval, FinQ, AS.result, resAll, resOne, tupV]
  case neg =>
  rw [Lm.chk_eq, if_pos ⟨hk.1, hk.2, hl⟩, if_pos (by omega)]
  rcases hk5 with hk5 | hk5 | hk5 | hk5 | hk5
  all_goals
    simp only [hk5, nSubs, mostIdx, Int.reduceEq, ↓reduceIte] at hl hm
    repeat' (first | (with_reducible first | refine W ?_ | refine Wz0 ?_) | ((with_reducible first | refine Wo (fun K hK => ?_) | refine Wp ?_ | refine Wq ?_ | refine Wr ?_); (try simp only [go_sem, fN, seval, eT, iR, hk5, hl, h0, hm, dT, dF, nL]); (repeat with_reducible refine Ai ?_); (try (refine hK _ ?_; clear hK K)); (try with_reducible refine iC ?_)))
    refine IWP.loop (fun n s => ∃ k, k ≤ t.subs.length ∧ n = t.subs.length - k ∧ Lm.chks m (t.subs.take k) (under t.kind u) = 0 ∧ s.env 2 = aInt m ∧ s.env 3 = .one (.ptr 3 1 0 0) ∧ s.S 3 = some (.box 24 [.st (.int .i64 t.kind), .st (.int .i64 t.idx), .st (.list (t.subs.map encL))]) ∧ s.env 8 = aInt t.subs.length ∧ s.env 9 = aInt (under t.kind u) ∧ s.env 10 = aInt k) t.subs.length ⟨0, Nat.zero_le _, rfl, rfl, rfl, rfl, by simp only [hk5]; rfl, by simp only [go_sem, fN, seval, eT, iR, hl], by simp only [hk5, under]; rfl, rfl⟩ ?_
    rintro n ⟨env, S⟩ ⟨k, hk', rfl, hc, e2, e3, s3, e8, e9, e10⟩
    simp only at e2 e3 s3 e8 e9 e10
    by_cases hlt : (k : Int) < t.subs.length
    · obtain ⟨a, ha⟩ := get_lt (show k < t.subs.length by omega)
      have z3 := Lm.size_mem (mem_of_get ha)
      have hu2 : under t.kind u ≤ u + 1 ∧ 0 ≤ under t.kind u := by unfold under; split <;> omega
      repeat' (first | (with_reducible first | refine W ?_ | refine Wz0 ?_) | ((with_reducible first | refine Wo (fun K hK => ?_) | refine Wp ?_ | refine Wq ?_ | refine Wr ?_); (try simp only [go_sem, fN, seval, eT, iR, e2, e3, s3, e8, e9, e10, ha, hlt, dT, dF, nL]); (repeat with_reducible refine Ai ?_); (try (refine hK _ ?_; clear hK K)); (try with_reducible refine iC ?_)))
      refine ⟨_, ih _ (Lm.lt_of_sub (mem_of_get ha)) a (under t.kind u) hu2.2 (by omega) rfl, ?_⟩
      by_cases hr : a.chk m (under t.kind u) = 0
      · repeat' (first | (with_reducible first | refine W ?_ | refine Wz0 ?_) | ((with_reducible first | refine Wo (fun K hK => ?_) | refine Wp ?_ | refine Wq ?_ | refine Wr ?_); (try simp only [go_sem, fN, seval, eT, iR, e2, e3, s3, e8, e9, e10, hr, dT, dF, nL]); (repeat with_reducible refine Ai ?_); (try (refine hK _ ?_; clear hK K)); (try with_reducible refine iC ?_)))
        refine then_normal ⟨t.subs.length - (k + 1), by omega, k + 1, by omega, rfl, ?_⟩
        simp only [go_sem, fN, seval, eT, iR, e2, e3, s3, e8, e9, e10]
        exact ⟨by rw [Lm.chks_take ha hc, hr], by congr 3⟩
      · repeat' (first | (with_reducible first | refine W ?_ | refine Wz0 ?_) | ((with_reducible first | refine Wo (fun K hK => ?_) | refine Wp ?_ | refine Wq ?_ | refine Wr ?_); (try simp only [go_sem, fN, seval, eT, iR, e2, e3, s3, e8, e9, e10, hr, dT, dF, nL]); (repeat with_reducible refine Ai ?_); (try (refine hK _ ?_; clear hK K)); (try with_reducible refine iC ?_)))
        simp only [go_sem, fN, seval, FinQ, AS.result, resAll, resOne, tupV]
        simp only [hk5] at hc hr ⊢
        rw [Lm.chks_bad (k := k + 1) (by rw [Lm.chks_take ha hc]; exact hr), Lm.chks_take ha hc]
    · repeat' (first | (with_reducible first | refine W ?_ | refine Wz0 ?_) | ((with_reducible first | refine Wo (fun K hK => ?_) | refine Wp ?_ | refine Wq ?_ | refine Wr ?_); (try simp only [go_sem, fN, seval, eT, iR, e2, e3, s3, e8, e9, e10, hlt, dT, dF, nL]); (repeat with_reducible refine Ai ?_); (try (refine hK _ ?_; clear hK K)); (try with_reducible refine iC ?_)))
      simp only [go_sem, fN, seval, FinQ, AS.result, resAll, resOne, tupV]
      rw [List.take_of_length_le (by omega)] at hc
      simp only [hk5] at hc ⊢
      rw [hc]
theorem lMay_a (t : Lm) (u m : Int) : ACalls Tryd.prog 7 [aLm t, aInt u, aInt m] (aInt (t.may m u)) := by
  refine ok_R_LamMay.ac fun C hC => ?_
  unfold ir_R_LamMay
  unfold Lm.may
  by_cases h0 : u < 0
  · rw [if_pos (Or.inl h0)]
    repeat' (first | (with_reducible first | refine W ?_ | refine Wz0 ?_) | ((with_reducible first | refine Wo (fun K hK => ?_) | refine Wp ?_ | refine Wq ?_ | refine Wr ?_); (try simp only [go_sem, fN, seval, eT, iR, h0, dT, dF, nL]); (repeat with_reducible refine Ai ?_); (try (refine hK _ ?_; clear hK K)); (try with_reducible refine iC ?_)))
    simp only [go_sem, fN, seval, FinQ, AS.result, resAll, resOne, tupV]
  by_cases h1 : 40 < u
  · rw [if_pos (Or.inr h1)]
    repeat' (first | (with_reducible first | refine W ?_ | refine Wz0 ?_) | ((with_reducible first | refine Wo (fun K hK => ?_) | refine Wp ?_ | refine Wq ?_ | refine Wr ?_); (try simp only [go_sem, fN, seval, eT, iR, h0, h1, dT, dF, nL]); (repeat with_reducible refine Ai ?_); (try (refine hK _ ?_; clear hK K)); (try with_reducible refine iC ?_)))
    simp only [go_sem, fN, seval, FinQ, AS.result, resAll, resOne, tupV]
  rw [if_neg (by omega)]
  by_cases hz : 200 < t.size
  · have hz' : 200 < capTo t.size 200 := by unfold capTo; split <;> omega
    rw [if_pos hz]
    repeat' (first | (with_reducible first | refine W ?_ | refine Wz0 ?_) | refine Cg _ (lsizeR_a t 200 (by decide) (by decide)) ?_ | ((with_reducible first | refine Wo (fun K hK => ?_) | refine Wp ?_ | refine Wq ?_ | refine Wr ?_); (try simp only [go_sem, fN, seval, eT, iR, h0, h1, hz', dT, dF, nL]); (repeat with_reducible refine Ai ?_); (try (refine hK _ ?_; clear hK K)); (try with_reducible refine iC ?_)))
    simp only [go_sem, fN, seval, FinQ, AS.result, resAll, resOne, tupV]
  · have hz' : ¬ 200 < capTo t.size 200 := by unfold capTo; split <;> omega
    rw [if_neg hz]
    repeat' (first | (with_reducible first | refine W ?_ | refine Wz0 ?_) | refine Cg _ (lsizeR_a t 200 (by decide) (by decide)) ?_ | refine Cg _ (lchkR_a t u m (by omega) (by omega)) ?_ | ((with_reducible first | refine Wo (fun K hK => ?_) | refine Wp ?_ | refine Wq ?_ | refine Wr ?_); (try simp only [go_sem, fN, seval, eT, iR, h0, h1, hz', dT, dF, nL]); (repeat with_reducible refine Ai ?_); (try (refine hK _ ?_; clear hK K)); (try with_reducible refine iC ?_)))
    simp only [go_sem, fN, seval, FinQ, AS.result, resAll, resOne, tupV]
theorem hugeLam_a (t : Lm) : ACalls Tryd.prog 5 [aLm t] (aBool (decide (3000 < t.size))) := by
  refine ok_L_hugeLam.ac fun C hC => ?_
  unfold ir_L_hugeLam
  repeat' (first | (with_reducible first | refine W ?_ | refine Wz0 ?_) | ((with_reducible first | refine Wo (fun K hK => ?_) | refine Wp ?_ | refine Wq ?_ | refine Wr ?_); (try simp only [go_sem, fN, seval, eT, iR, dT, dF, nL]); (repeat with_reducible refine Ai ?_); (try (refine hK _ ?_; clear hK K)); (try with_reducible refine iC ?_)))
  refine ⟨_, lsizeR_a t 3000 (by decide) (by decide), ?_⟩
  have hz : (3000 < capTo t.size 3000) ↔ 3000 < t.size := by unfold capTo; split <;> omega
  repeat' (first | (with_reducible first | refine W ?_ | refine Wz0 ?_) | ((with_reducible first | refine Wo (fun K hK => ?_) | refine Wp ?_ | refine Wq ?_ | refine Wr ?_); (try simp only [go_sem, fN, seval, eT, iR, hz, dT, dF, nL]); (repeat with_reducible refine Ai ?_); (try (refine hK _ ?_; clear hK K)); (try with_reducible refine iC ?_)))
  simp only [go_sem, fN, seval, FinQ, AS.result, resAll, resOne, tupV]
theorem sameLam_a (t : Lm) : ACalls Tryd.prog 44 [aLm t, aLm t] (aBool true) := by
  induction h : SizeOf.sizeOf t using Nat.strongRecOn generalizing t with
  | _ N ih =>
  subst h
  refine ok_R_SameLam.ac fun C hC => ?_
  unfold ir_R_SameLam
  refine IWP.learn 0 (by omega) fun hkn => ?_
  have hkn := (known_lm hkn).2.2
  repeat' (first | (with_reducible first | refine W ?_ | refine Wz0 ?_) | ((with_reducible first | refine Wo (fun K hK => ?_) | refine Wp ?_ | refine Wq ?_ | refine Wr ?_); (try simp only [go_sem, fN, seval, eT, iR, dT, dF, nL]); (repeat with_reducible refine Ai ?_); (try (refine hK _ ?_; clear hK K)); (try with_reducible refine iC ?_)))
  refine IWP.loop (fun n s => ∃ k, k ≤ t.subs.length ∧ n = t.subs.length - k ∧ s.env 2 = .one (.ptr 2 1 0 0) ∧ s.env 3 = .one (.ptr 3 1 0 0) ∧ s.S 2 = some (.box 24 [.st (.int .i64 t.kind), .st (.int .i64 t.idx), .st (.list (t.subs.map encL))]) ∧ s.S 3 = some (.box 24 [.st (.int .i64 t.kind), .st (.int .i64 t.idx), .st (.list (t.subs.map encL))]) ∧ s.env 5 = aInt k) t.subs.length ⟨0, Nat.zero_le _, rfl, rfl, rfl, rfl, rfl, rfl⟩ ?_
  rintro n ⟨env, S⟩ ⟨k, hk', rfl, e2, e3, s2, s3, e5⟩
  simp only at e2 e3 s2 s3 e5
  by_cases hlt : (k : Int) < t.subs.length
  · obtain ⟨a, ha⟩ := get_lt (show k < t.subs.length by omega)
    repeat' (first | (with_reducible first | refine W ?_ | refine Wz0 ?_) | refine Cg _ (ih _ (Lm.lt_of_sub (mem_of_get ha)) a rfl) ?_ | ((with_reducible first | refine Wo (fun K hK => ?_) | refine Wp ?_ | refine Wq ?_ | refine Wr ?_); (try simp only [go_sem, fN, seval, eT, iR, e2, e3, s2, s3, e5, ha, hlt, dT, dF, nL]); (repeat with_reducible refine Ai ?_); (try (refine hK _ ?_; clear hK K)); (try with_reducible refine iC ?_)))
    refine then_normal ⟨t.subs.length - (k + 1), by omega, k + 1, by omega, rfl, ?_⟩
    simp only [go_sem, fN, seval, eT, iR, e2, e3, s2, s3, e5]
    congr 3
  · repeat' (first | (with_reducible first | refine W ?_ | refine Wz0 ?_) | ((with_reducible first | refine Wo (fun K hK => ?_) | refine Wp ?_ | refine Wq ?_ | refine Wr ?_); (try simp only [go_sem, fN, seval, eT, iR, e2, e3, s2, s3, e5, hlt, dT, dF, nL]); (repeat with_reducible refine Ai ?_); (try (refine hK _ ?_; clear hK K)); (try with_reducible refine iC ?_)))
    simp only [go_sem, fN, seval, FinQ, AS.result, resAll, resOne, tupV]
theorem lam2_a (r w : Lm) (e : Int) (h : (e ≠ 0 ∧ r = Lm.nil) ∨ (e = 0 ∧ r = w)) : ACalls Tryd.prog 27 [aLm r, aInt e, aLm w, aInt e] (aBool true) := by
  refine ok_L_lam2.ac fun C hC => ?_
  unfold ir_L_lam2
  rcases h with ⟨h, rfl⟩ | ⟨rfl, rfl⟩
  · repeat' (first | (with_reducible first | refine W ?_ | refine Wz0 ?_) | ((with_reducible first | refine Wo (fun K hK => ?_) | refine Wp ?_ | refine Wq ?_ | refine Wr ?_); (try simp only [go_sem, fN, seval, eT, iR, h, Lm.nil, dT, dF, nL]); (repeat with_reducible refine Ai ?_); (try (refine hK _ ?_; clear hK K)); (try with_reducible refine iC ?_)))
    simp only [go_sem, fN, seval, FinQ, AS.result, resAll, resOne, tupV]
    try simp
  · repeat' (first | (with_reducible first | refine W ?_ | refine Wz0 ?_) | refine Cg _ (sameLam_a r) ?_ | ((with_reducible first | refine Wo (fun K hK => ?_) | refine Wp ?_ | refine Wq ?_ | refine Wr ?_); (try simp only [go_sem, fN, seval, eT, iR, dT, dF, nL]); (repeat with_reducible refine Ai ?_); (try (refine hK _ ?_; clear hK K)); (try with_reducible refine iC ?_)))
    simp only [go_sem, fN, seval, FinQ, AS.result, resAll, resOne, tupV]
def putErr (b x : Lm) (u : Int) : Int := if u < 0 ∨ 40 ≤ u then 10 else if b.may 0 (u + 1) ≠ 0 then b.may 0 (u + 1) else if x.may 0 u ≠ 0 then x.may 0 u else if 2000 < (Lm.put x 0 b).size then 8 else 0
theorem lPut_a (b x : Lm) (u : Int) : ACalls Tryd.prog 26 [aLm b, aLm x, aInt u] (.tup [aLm (if putErr b x u = 0 then Lm.put x 0 b else Lm.nil), aInt (putErr b x u)]) := by
  refine ok_lambda_Put.ac fun C hC => ?_
  unfold ir_lambda_Put
  by_cases h0 : u < 0 ∨ 40 ≤ u
  · have e : putErr b x u = 10 := by unfold putErr; rw [if_pos h0]
    rw [e]
    by_cases h1 : u < 0
    · repeat' (first | (with_reducible first | refine W ?_ | refine Wz0 ?_) | ((with_reducible first | refine Wo (fun K hK => ?_) | refine Wp ?_ | refine Wq ?_ | refine Wr ?_); (try simp only [go_sem, fN, seval, eT, iR, h1, dT, dF, nL]); (repeat with_reducible refine Ai ?_); (try (refine hK _ ?_; clear hK K)); (try with_reducible refine iC ?_)))
      simp only [go_sem, fN, seval, FinQ, AS.result, resAll, resOne, tupV]
      rfl
    · have h2 : 40 ≤ u := by omega
      repeat' (first | (with_reducible first | refine W ?_ | refine Wz0 ?_) | ((with_reducible first | refine Wo (fun K hK => ?_) | refine Wp ?_ | refine Wq ?_ | refine Wr ?_); (try simp only [go_sem, fN, seval, eT, iR, h1, h2, dT, dF, nL]); (repeat with_reducible refine Ai ?_); (try (refine hK _ ?_; clear hK K)); (try with_reducible refine iC ?_)))
      simp only [go_sem, fN, seval, FinQ, AS.result, resAll, resOne, tupV]
      rfl
  have h1 : ¬ u < 0 := by omega
  have h2 : ¬ 40 ≤ u := by omega
  by_cases hb : b.may 0 (u + 1) = 0
  case neg =>
    have e : putErr b x u = b.may 0 (u + 1) := by unfold putErr; rw [if_neg h0, if_pos hb]
    rw [e]
    repeat' (first | (with_reducible first | refine W ?_ | refine Wz0 ?_) | refine Cg _ (lCheck_a b (u + 1)) ?_ | ((with_reducible first | refine Wo (fun K hK => ?_) | refine Wp ?_ | refine Wq ?_ | refine Wr ?_); (try simp only [go_sem, fN, seval, eT, iR, h1, h2, hb, dT, dF, nL]); (repeat with_reducible refine Ai ?_); (try (refine hK _ ?_; clear hK K)); (try with_reducible refine iC ?_)))
    simp only [go_sem, fN, seval, FinQ, AS.result, resAll, resOne, tupV]
    simp [hb, Lm.nil, Lm.kind_mk, Lm.idx_mk, Lm.subs_mk]
  case pos =>
  by_cases hx : x.may 0 u = 0
  case neg =>
    have e : putErr b x u = x.may 0 u := by unfold putErr; rw [if_neg h0, if_neg (fun h => h hb), if_pos hx]
    rw [e]
    repeat' (first | (with_reducible first | refine W ?_ | refine Wz0 ?_) | refine Cg _ (lCheck_a b (u + 1)) ?_ | refine Cg _ (lCheck_a x u) ?_ | ((with_reducible first | refine Wo (fun K hK => ?_) | refine Wp ?_ | refine Wq ?_ | refine Wr ?_); (try simp only [go_sem, fN, seval, eT, iR, h1, h2, hb, hx, dT, dF, nL]); (repeat with_reducible refine Ai ?_); (try (refine hK _ ?_; clear hK K)); (try with_reducible refine iC ?_)))
    simp only [go_sem, fN, seval, FinQ, AS.result, resAll, resOne, tupV]
    simp [hx, Lm.nil, Lm.kind_mk, Lm.idx_mk, Lm.subs_mk]
  case pos =>
  obtain ⟨b1, b2, b3, b4⟩ := Lm.may_ok hb
  obtain ⟨x1, x2, x3, x4⟩ := Lm.may_ok hx
  have gb := Lm.good_chk (b := 1000000000) (by decide) b _ b1 (by omega) (by omega) b4
  have gx := Lm.good_chk (b := 1000000000) (by decide) x _ x1 (by omega) (by omega) x4
  have hsz := Lm.size_put x 0 b
  have hsz2 : b.size * x.size ≤ 200 * 200 := Nat.mul_le_mul b3 x3
  by_cases hg : (Lm.put x 0 b).size ≤ 2000
  · have e : putErr b x u = 0 := by unfold putErr; rw [if_neg h0, if_neg (fun h => h hb), if_neg (fun h => h hx), if_neg (by omega)]
    have hg' : ((Lm.put x 0 b).size : Int) ≤ 2000 := by omega
    rw [e]
    repeat' (first | (with_reducible first | refine W ?_ | refine Wz0 ?_) | refine Cg _ (lCheck_a b (u + 1)) ?_ | refine Cg _ (lCheck_a x u) ?_ | refine Cg _ (lInto_a b x gb gx (by omega) (by omega)) ?_ | refine Cg _ (lsize_a _ (by omega)) ?_ | ((with_reducible first | refine Wo (fun K hK => ?_) | refine Wp ?_ | refine Wq ?_ | refine Wr ?_); (try simp only [go_sem, fN, seval, eT, iR, h1, h2, hb, hx, hg', dT, dF, nL]); (repeat with_reducible refine Ai ?_); (try (refine hK _ ?_; clear hK K)); (try with_reducible refine iC ?_)))
    simp only [go_sem, fN, seval, FinQ, AS.result, resAll, resOne, tupV]
  · have e : putErr b x u = 8 := by unfold putErr; rw [if_neg h0, if_neg (fun h => h hb), if_neg (fun h => h hx), if_pos (by omega)]
    have hg' : ¬ ((Lm.put x 0 b).size : Int) ≤ 2000 := by omega
    rw [e]
    repeat' (first | (with_reducible first | refine W ?_ | refine Wz0 ?_) | refine Cg _ (lCheck_a b (u + 1)) ?_ | refine Cg _ (lCheck_a x u) ?_ | refine Cg _ (lInto_a b x gb gx (by omega) (by omega)) ?_ | refine Cg _ (lsize_a _ (by omega)) ?_ | ((with_reducible first | refine Wo (fun K hK => ?_) | refine Wp ?_ | refine Wq ?_ | refine Wr ?_); (try simp only [go_sem, fN, seval, eT, iR, h1, h2, hb, hx, hg', dT, dF, nL]); (repeat with_reducible refine Ai ?_); (try (refine hK _ ?_; clear hK K)); (try with_reducible refine iC ?_)))
    simp only [go_sem, fN, seval, FinQ, AS.result, resAll, resOne, tupV]
    rfl

set_option maxHeartbeats 1000000


theorem one_arg {σ : Sto} {vs : List Value} {x : AV} (h : All2 (VRep σ noS noH) vs [x]) : ∃ v, vs = [v] ∧ VRep σ noS noH v x := by
  cases h with
  | cons h1 h2 =>
    cases h2
    exact ⟨_, rfl, h1⟩
theorem itoaAll_a (n : Int) : ACalls Tryd.prog 47 [aInt n] (aStr ⟨(Lib.itoa n).toArray⟩) := by
  intro σ w vs hG hF hv
  obtain ⟨v, rfl, h1⟩ := one_arg hv
  obtain ⟨rfl, hn⟩ := vrep_int h1
  rw [inR_i64] at hn
  have ht : Lib.TabIs Tryd.prog w "internal/strconv.uint64pow10" .u64 Lib.pow10Tab := hG.ints hF (g := 1) (by kernel_rfl) (by kernel_rfl)
  refine (Any.strconv_Itoa Tryd.laysM171 n hn.1 hn.2 w ht).mono fun e w' ⟨he, k, os, hw⟩ => ?_
  have hb : Below w.heap.size w w' := by
    rw [hw]
    exact Lib.below_grow _ _ (Nat.le_refl _) _ _
  refine ⟨_, σ, he, .one (.st (.str ?_)), hF.below hb, Ext.refl _ _, hb⟩
  have hl := Lib.itoa_length_le n hn.1 hn.2
  have hs : (⟨(Lib.itoa n).toArray⟩ : ByteArray).size = (Lib.itoa n).length := by simp [ByteArray.size]
  rw [hs, maxLen_eq]
  omega

set_option maxHeartbeats 2000000
theorem hiw_ne {b c : Nat} (hb : 1000 ≤ b) (hc : c < 1000) : (b = c) = False := eq_false (by omega)
theorem low_ne {b c : Nat} (hb : 1000 ≤ b) (hc : c < 1000) : (c = b) = False := eq_false (by omega)
theorem itoaS_a (k : Nat) (hk : k < 1000000) : ACalls Tryd.prog 47 [aInt k] (aStr (decS k)) := by
  have h := itoaAll_a (k : Int)
  have hd : (⟨(Lib.itoa (k : Int)).toArray⟩ : ByteArray) = decS k := by rw [Lib.itoa_nonneg]; rfl
  rw [hd] at h
  exact h
abbrev wT : TypeId := 60
abbrev rowW (xs : List ByteArray) : ABlk := .mrow 9 1 (xs.map encS)
abbrev boxW (p : AC) (r n : Nat) (c : AC) (o : Int) : ABlk := .box wT [p, .row r n, c, .st (.int .i64 o)]
theorem liesW : liesAt Tryd.prog (Tryd.prog).depth wT (4 / (Tryd.prog).cellsOf wT) 0 bTW 1 = true := by kernel_rfl
theorem bldW_mkU {S : AStore} {b r : Nat} {bs : ByteArray} {c p : AC} {o : Int} (hbr : b ≠ r) (hp : p = .st (.lit (.pointer none)) ∨ p = .ptr b 1 0 0) (h1 : S b = some (boxW p r bs.size c o)) (h2 : S r = some (.mrow u8W 1 (byteRow bs))) : BldW wT (AC.rens up1 [c, .st (.int .i64 o)]) (upS S) (up1 b) (up1 r) bs := by
  refine ⟨up1_le _, up1_le _, fun e => hbr (Nat.add_right_cancel e), AC.rens_high _, by rw [rens_len]; exact liesW, ?_, by rw [upS_some h2]; rfl⟩
  rcases hp with rfl | rfl
  · exact ⟨_, .inl rfl, by rw [upS_some h1]; rfl⟩
  · exact ⟨_, .inr rfl, by rw [upS_some h1]; rfl⟩
theorem dn_bldWS {ty : TypeId} {ex : List AC} {S : AStore} {b r : Nat} {bs : ByteArray} : dnS (bldWS ty (AC.rens up1 ex) (upS S) (up1 b) (up1 r) bs) = bldWS ty ex S b r bs := by
  unfold bldWS
  rw [dnS_upd, dnS_upd, dn_upS]
  show updE (updE S b (some (ABlk.box ty (AC.ptr (dn1 (up1 b)) 1 0 0 :: AC.row (dn1 (up1 r)) _ :: AC.rens dn1 (AC.rens up1 ex))))) r _ = _
  rw [dn_up, dn_up, rens_dn]
  rfl
def wdone (S : AStore) (b r i ni N : Nat) (ns : List ByteArray) (bs : ByteArray) (o : Int) : AStore := updE (updE (updE (updE S i (some (.dead N 1))) ni (some (rowW ns))) b (some (boxW (.ptr b 1 0 0) r bs.size (.row ni ns.length) o))) r (some (.mrow u8W 1 (byteRow bs)))
theorem dn_wdone {S : AStore} {b r i ni N : Nat} {ns : List ByteArray} {bs : ByteArray} {o : Int} : dnS (wdone (upS S) (up1 b) (up1 r) (up1 i) (up1 ni) N ns bs o) = wdone S b r i ni N ns bs o := by
  unfold wdone
  rw [dnS_upd, dnS_upd, dnS_upd, dnS_upd, dn_upS]
  show updE (updE _ b (some (ABlk.box wT [AC.ptr (dn1 (up1 b)) 1 0 0, AC.row (dn1 (up1 r)) _, AC.row (dn1 (up1 ni)) _, _]))) r _ = _
  rw [dn_up, dn_up, dn_up]
  rfl
theorem boxW_high {p : AC} {r n i m : Nat} {o : Int} (hp : p.high = true) (hr : 1000 ≤ r) (hi : 1000 ≤ i) : (boxW p r n (.row i m) o).high = true := by
  show AC.highs [p, .row r n, .row i m, _] = true
  simp only [AC.highs, AC.high, hp, decide_eq_true hr, decide_eq_true hi, Bool.and_self]
theorem clean_wdone {S : AStore} {b r i ni N : Nat} {ns : List ByteArray} {bs : ByteArray} {o : Int} (hb : 1000 ≤ b) (hr : 1000 ≤ r) (hi : 1000 ≤ i) (hn : 1000 ≤ ni) (hS : Clean S) : Clean (wdone S b r i ni N ns bs o) :=
  clean_upd (clean_upd (clean_upd (clean_upd hS hi rfl) hn rfl) hb (boxW_high (high_ptr hb) hr hn)) hr rfl
theorem up_boxW {S : AStore} {b r n i m : Nat} {o : Int} (h : S b = some (boxW (.ptr b 1 0 0) r n (.row i m) o)) : upS S (up1 b) = some (boxW (.ptr (up1 b) 1 0 0) (up1 r) n (.row (up1 i) m) o) := upS_some h
theorem up_boxW0 {S : AStore} {b r n i m : Nat} {o : Int} (h : S b = some (boxW (.st (.lit (.pointer none))) r n (.row i m) o)) : upS S (up1 b) = some (boxW (.st (.lit (.pointer none))) (up1 r) n (.row (up1 i) m) o) := upS_some h
theorem up_rowW {S : AStore} {i : Nat} {ns : List ByteArray} (h : S i = some (rowW ns)) : upS S (up1 i) = some (rowW ns) := upS_some h
theorem up_mrowW {S : AStore} {r : Nat} {bs : ByteArray} (h : S r = some (.mrow u8W 1 (byteRow bs))) : upS S (up1 r) = some (.mrow u8W 1 (byteRow bs)) := upS_some h
theorem up_noneW {S : AStore} {i : Nat} (h : S i = none) : upS S (up1 i) = none := by rw [upS_up, h]; rfl
theorem wend {C : Ctx} {x : AS} {S : AStore} {b r i j ni N : Nat} {ns xs : List ByteArray} {bs : ByteArray} {o : Int} {c : AC} {e : AX} (hS : Clean S) (he : match e with | .normal => True | .ret => True | _ => False) (hb1 : 1000 ≤ b) (hr1 : 1000 ≤ r) (hi1 : 1000 ≤ i) (hb : x.S b = some (boxW (.ptr b 1 0 0) r bs.size c o)) (hr : x.S r = some (.mrow u8W 1 (byteRow bs))) (hj : x.S j = some (rowW xs)) (hN : xs.length < N) (hc : c = .part j ns.length xs.length ∨ (c = .row j ns.length ∧ ns.length = xs.length)) (hx : xs.take ns.length = ns) (hni : x.S ni = none) (hbn : b ≠ ni) (hrn : r ≠ ni) (hrb : r ≠ b) (hrj : r ≠ j) (h1000 : 1000 ≤ ni)
    (hi : (j = i) ∨ (j < 1000 ∧ x.S i = some (.dead N 1) ∧ i ≠ ni ∧ i ≠ b ∧ i ≠ r)) (h3 : ∀ j, 1000 ≤ j → j ≠ b → j ≠ r → j ≠ i → x.S j = S j) : FinS C [] (.tup []) (wdone S b r i ni N ns bs o) e x := by
  have hjb : b ≠ j := fun e => by subst e; rw [hb] at hj; cases hj
  have hjn : j ≠ ni := fun e => by subst e; rw [hj] at hni; cases hni
  have hg := Ghost.rebase (C := C) (s := x) b j ni 2 ns.length N (xs := xs.map encS) (by simpa using hN) hb hj hni (by
    rw [List.length_map]
    rcases hc with rfl | ⟨rfl, h⟩
    · exact .inl rfl
    · exact .inr ⟨rfl, h⟩)
  refine finS_ghost hg (finS_same (.tup []) (clean_wdone hb1 hr1 hi1 h1000 hS) he rfl rfl fun k hk => ?_)
  show updE (updE (updE x.S j (some (.dead N 1))) ni (some (ABlk.mrow _ 1 ((xs.map encS).take ns.length)))) b (some (ABlk.box _ ([_, _, c, _].set 2 (.row ni ns.length)))) k = _
  rw [← List.map_take, hx]
  unfold wdone
  by_cases e0 : k = r
  · subst e0
    rw [updE_ne _ hrb, updE_ne _ hrn, updE_ne _ hrj, hr, updE_same]
  rw [updE_ne _ e0]
  by_cases e1 : k = b
  · subst e1
    rw [updE_same, updE_same]
    rfl
  rw [updE_ne _ e1, updE_ne _ e1]
  by_cases e2 : k = ni
  · subst e2
    rw [updE_same, updE_same]
  rw [updE_ne _ e2, updE_ne _ e2]
  rcases hi with rfl | ⟨q1, q2, q3, q4, q5⟩
  · by_cases e3 : k = j
    · subst e3
      rw [updE_same, updE_same]
    · rw [updE_ne _ e3, updE_ne _ e3, h3 k hk e1 e0 e3]
  · rw [updE_ne _ (show k ≠ j by omega)]
    by_cases e3 : k = i
    · subst e3
      rw [updE_same, q2]
    · rw [updE_ne _ e3, h3 k hk e1 e0 e3]

def brP (t : Lm) (place : Int) : Bool := decide (t.kind = 2 ∧ 0 < place ∨ t.kind = 3 ∧ 1 < place)
def WrS (o : Nat) (ns : List ByteArray) (t : Lm) (s : ByteArray) : Prop := ∀ (place : Int) (bs : ByteArray) (p : AC) (b r i ni N : Nat) (S : AStore), 0 ≤ place ∧ place ≤ 2 → ns.length + t.size < N → N ≤ 1000000 → bs.size + s.size + 4 * t.size ≤ 1000000000 → 1000 ≤ b → 1000 ≤ r → 1000 ≤ i → 1000 ≤ ni → (p = .st (.lit (.pointer none)) ∨ p = .ptr b 1 0 0) → S b = some (boxW p r bs.size (.row i ns.length) o) → S r = some (.mrow u8W 1 (byteRow bs)) → S i = some (rowW ns) → S ni = none →
  ACallsS Tryd.prog 30 [.one (.ptr b 1 0 0), aLm t, aInt place] S (.tup []) (wdone S b r i ni N ns (bs ++ brk (brP t place) s) o)
theorem up_boxWp {S : AStore} {b r n i m : Nat} {o : Int} {p : AC} (hp : p = .st (.lit (.pointer none)) ∨ p = .ptr b 1 0 0) (h : S b = some (boxW p r n (.row i m) o)) : ∃ p', (p' = .st (.lit (.pointer none)) ∨ p' = .ptr (up1 b) 1 0 0) ∧ upS S (up1 b) = some (boxW p' (up1 r) n (.row (up1 i) m) o) := by
  rcases hp with rfl | rfl
  · exact ⟨_, .inl rfl, upS_some h⟩
  · exact ⟨_, .inr rfl, upS_some h⟩
set_option maxRecDepth 100000 in
theorem write_v {o : Nat} {ns : List ByteArray} {j : Nat} {n : ByteArray} (h : j < ns.length) (hn : ns[ns.length - 1 - j]? = some n) : WrS o ns (.v j) n := by
  intro place bs p b r i ni N S hpl hN hN2 hz hb hr hi hni hp sb sr si sni
  have hbr : ¬ b = r := fun e => by subst e; rw [sb] at sr; cases sr
  have hbi : ¬ b = i := fun e => by subst e; rw [sb] at si; cases si
  have hbn : ¬ b = ni := fun e => by subst e; rw [sb] at sni; cases sni
  have hri : ¬ r = i := fun e => by subst e; rw [sr] at si; injection si with si; injection si with si; exact absurd si (by decide)
  have hrn : ¬ r = ni := fun e => by subst e; rw [sr] at sni; cases sni
  have hin : ¬ i = ni := fun e => by subst e; rw [si] at sni; cases sni
  have hrb : ¬ r = b := fun e => hbr e.symm
  have hib : ¬ i = b := fun e => hbi e.symm
  have hnb : ¬ ni = b := fun e => hbn e.symm
  have hir : ¬ i = r := fun e => hri e.symm
  have hnr : ¬ ni = r := fun e => hrn e.symm
  have hnj : ¬ ni = i := fun e => hin e.symm
  have hbk : brk (brP (.v j) place) n = n := by
    unfold brP brk
    rw [if_neg]
    simp [Lm.v, Lm.kind]
  rw [hbk]
  refine ok_metaprune_lambda_writer_write.acS fun hS C hC => ?_
  unfold ir_metaprune_lambda_writer_write
  have n4 : S 4 = none := clean_none hS (by omega)
  have n901 : S 901 = none := clean_none hS (by omega)
  have n902 : S 902 = none := clean_none hS (by omega)
  have hge : (0 : Int) ≤ (ns.length : Int) - 1 - j := by omega
  have hidx : (ns.length : Int) - 1 - j = ((ns.length - 1 - j : Nat) : Int) := by omega
  have hge2 : (0 : Int) ≤ ((ns.length - 1 - j : Nat) : Int) := by omega
  have hml : (ns.map encS).length = ns.length := by simp
  repeat' (first | (with_reducible first | refine W ?_ | refine Wz0 ?_) | ((with_reducible first | refine Wo (fun K hK => ?_) | refine Wp ?_ | refine Wq ?_ | refine Wr ?_); (try simp only [go_sem, fN, seval, eT, iR, AS.startS, hiw_ne, low_ne, hb, hr, hi, hni, n4, n901, n902, hbr, hrb, hbi, hib, hbn, hnb, hri, hir, hrn, hnr, hin, hnj, dn_bldWS, bldWS, sb, sr, si, Lm.v, Lm.kind_mk, Lm.idx_mk, Lm.subs_mk, hidx, hge2, hn, hml, encS, dT, dF, nL]); (repeat with_reducible refine Ai ?_); (try (refine hK _ ?_; clear hK K)); (try with_reducible refine iC ?_)))
  refine ⟨_, _, writeStringW_S (bldW_mkU (bs := bs) (c := .row i ns.length) (o := o) hbr hp (by simp only [go_sem, fN, seval, eT, iR, hiw_ne, low_ne, hb, hr, hi, hni, n4, n901, n902, hbr, hrb, hbi, hib, hbn, hnb, hri, hir, hrn, hnr, hin, hnj, dn_bldWS, bldWS, sb, sr]) (by simp only [go_sem, fN, seval, eT, iR, hiw_ne, low_ne, hb, hr, hi, hni, n4, n901, n902, hbr, hrb, hbi, hib, hbn, hnb, hri, hir, hrn, hnr, hin, hnj, dn_bldWS, bldWS, sb, sr])) (n) (by first | omega | (simp only [ByteArray.size_append] at *; omega)), ?_⟩
  repeat' (first | (with_reducible first | refine W ?_ | refine Wz0 ?_) | ((with_reducible first | refine Wo (fun K hK => ?_) | refine Wp ?_ | refine Wq ?_ | refine Wr ?_); (try simp only [go_sem, fN, seval, eT, iR, hiw_ne, low_ne, hb, hr, hi, hni, n4, n901, n902, hbr, hrb, hbi, hib, hbn, hnb, hri, hir, hrn, hnr, hin, hnj, dn_bldWS, bldWS, sb, sr, si, dT, dF, nL]); (repeat with_reducible refine Ai ?_); (try (refine hK _ ?_; clear hK K)); (try with_reducible refine iC ?_)))
  refine wend hS trivial hb hr hi (j := i) (xs := ns) (c := .row i ns.length) ?_ ?_ ?_ (by omega) (.inr ⟨rfl, rfl⟩) List.take_length ?_ hbn hrn hrb hri hni (.inl rfl) fun k k1 k2 k3 k4 => ?_
  · simp only [go_sem, fN, seval, eT, iR, hiw_ne, low_ne, hb, hr, hi, hni, n4, n901, n902, hbr, hrb, hbi, hib, hbn, hnb, hri, hir, hrn, hnr, hin, hnj, dn_bldWS, bldWS]
  · simp only [go_sem, fN, seval, eT, iR, hiw_ne, low_ne, hb, hr, hi, hni, n4, n901, n902, hbr, hrb, hbi, hib, hbn, hnb, hri, hir, hrn, hnr, hin, hnj, dn_bldWS, bldWS]
  · simp only [go_sem, fN, seval, eT, iR, hiw_ne, low_ne, hb, hr, hi, hni, n4, n901, n902, hbr, hrb, hbi, hib, hbn, hnb, hri, hir, hrn, hnr, hin, hnj, dn_bldWS, bldWS, si]
  · simp only [go_sem, fN, seval, eT, iR, hiw_ne, low_ne, hb, hr, hi, hni, n4, n901, n902, hbr, hrb, hbi, hib, hbn, hnb, hri, hir, hrn, hnr, hin, hnj, dn_bldWS, bldWS, sni]
  · simp only [go_sem, fN, seval, eT, iR, hiw_ne, low_ne, k1, k2, k3, k4, dn_bldWS, bldWS]
set_option maxRecDepth 100000 in
theorem write_c {o : Nat} {ns : List ByteArray} {j : Nat} (h : j < 40) : WrS o ns (.mk 4 j []) (⟨#[99]⟩ ++ decS j) := by
  intro place bs p b r i ni N S hpl hN hN2 hz hb hr hi hni hp sb sr si sni
  have hbr : ¬ b = r := fun e => by subst e; rw [sb] at sr; cases sr
  have hbi : ¬ b = i := fun e => by subst e; rw [sb] at si; cases si
  have hbn : ¬ b = ni := fun e => by subst e; rw [sb] at sni; cases sni
  have hri : ¬ r = i := fun e => by subst e; rw [sr] at si; injection si with si; injection si with si; exact absurd si (by decide)
  have hrn : ¬ r = ni := fun e => by subst e; rw [sr] at sni; cases sni
  have hin : ¬ i = ni := fun e => by subst e; rw [si] at sni; cases sni
  have hrb : ¬ r = b := fun e => hbr e.symm
  have hib : ¬ i = b := fun e => hbi e.symm
  have hnb : ¬ ni = b := fun e => hbn e.symm
  have hir : ¬ i = r := fun e => hri e.symm
  have hnr : ¬ ni = r := fun e => hrn e.symm
  have hnj : ¬ ni = i := fun e => hin e.symm
  have hbk : brk (brP (.mk 4 j []) place) (⟨#[99]⟩ ++ decS j) = ⟨#[99]⟩ ++ decS j := by
    unfold brP brk
    rw [if_neg]
    simp [Lm.kind]
  rw [hbk]
  refine ok_metaprune_lambda_writer_write.acS fun hS C hC => ?_
  unfold ir_metaprune_lambda_writer_write
  have n4 : S 4 = none := clean_none hS (by omega)
  have n901 : S 901 = none := clean_none hS (by omega)
  have n902 : S 902 = none := clean_none hS (by omega)
  have hds := decS_size_le (n := j) (by omega)
  have h99 : (⟨#[99]⟩ : ByteArray).size = 1 := rfl
  repeat' (first | (with_reducible first | refine W ?_ | refine Wz0 ?_) | refine Cg _ (itoaS_a j (by omega)) ?_ | ((with_reducible first | refine Wo (fun K hK => ?_) | refine Wp ?_ | refine Wq ?_ | refine Wr ?_); (try simp only [go_sem, fN, seval, eT, iR, AS.startS, hiw_ne, low_ne, hb, hr, hi, hni, n4, n901, n902, hbr, hrb, hbi, hib, hbn, hnb, hri, hir, hrn, hnr, hin, hnj, dn_bldWS, bldWS, sb, sr, si, Lm.kind_mk, Lm.idx_mk, Lm.subs_mk, h99, dT, dF, nL]); (repeat with_reducible refine Ai ?_); (try (refine hK _ ?_; clear hK K)); (try with_reducible refine iC ?_)))
  refine ⟨_, _, writeStringW_S (bldW_mkU (bs := bs) (c := .row i ns.length) (o := o) hbr hp (by simp only [go_sem, fN, seval, eT, iR, hiw_ne, low_ne, hb, hr, hi, hni, n4, n901, n902, hbr, hrb, hbi, hib, hbn, hnb, hri, hir, hrn, hnr, hin, hnj, dn_bldWS, bldWS, sb, sr]) (by simp only [go_sem, fN, seval, eT, iR, hiw_ne, low_ne, hb, hr, hi, hni, n4, n901, n902, hbr, hrb, hbi, hib, hbn, hnb, hri, hir, hrn, hnr, hin, hnj, dn_bldWS, bldWS, sb, sr])) (⟨#[99]⟩ ++ decS j) (by first | omega | (simp only [ByteArray.size_append] at *; omega)), ?_⟩
  repeat' (first | (with_reducible first | refine W ?_ | refine Wz0 ?_) | ((with_reducible first | refine Wo (fun K hK => ?_) | refine Wp ?_ | refine Wq ?_ | refine Wr ?_); (try simp only [go_sem, fN, seval, eT, iR, hiw_ne, low_ne, hb, hr, hi, hni, n4, n901, n902, hbr, hrb, hbi, hib, hbn, hnb, hri, hir, hrn, hnr, hin, hnj, dn_bldWS, bldWS, sb, sr, si, dT, dF, nL]); (repeat with_reducible refine Ai ?_); (try (refine hK _ ?_; clear hK K)); (try with_reducible refine iC ?_)))
  refine wend hS trivial hb hr hi (j := i) (xs := ns) (c := .row i ns.length) ?_ ?_ ?_ (by omega) (.inr ⟨rfl, rfl⟩) List.take_length ?_ hbn hrn hrb hri hni (.inl rfl) fun k k1 k2 k3 k4 => ?_
  · simp only [go_sem, fN, seval, eT, iR, hiw_ne, low_ne, hb, hr, hi, hni, n4, n901, n902, hbr, hrb, hbi, hib, hbn, hnb, hri, hir, hrn, hnr, hin, hnj, dn_bldWS, bldWS]
  · simp only [go_sem, fN, seval, eT, iR, hiw_ne, low_ne, hb, hr, hi, hni, n4, n901, n902, hbr, hrb, hbi, hib, hbn, hnb, hri, hir, hrn, hnr, hin, hnj, dn_bldWS, bldWS]
  · simp only [go_sem, fN, seval, eT, iR, hiw_ne, low_ne, hb, hr, hi, hni, n4, n901, n902, hbr, hrb, hbi, hib, hbn, hnb, hri, hir, hrn, hnr, hin, hnj, dn_bldWS, bldWS, si]
  · simp only [go_sem, fN, seval, eT, iR, hiw_ne, low_ne, hb, hr, hi, hni, n4, n901, n902, hbr, hrb, hbi, hib, hbn, hnb, hri, hir, hrn, hnr, hin, hnj, dn_bldWS, bldWS, sni]
  · simp only [go_sem, fN, seval, eT, iR, hiw_ne, low_ne, k1, k2, k3, k4, dn_bldWS, bldWS]
theorem brk0 (t : Lm) (s : ByteArray) : brk (brP t 0) s = s := by
  unfold brP brk
  rw [if_neg]
  simp
set_option maxRecDepth 100000 in
theorem write_l {o : Nat} {ns : List ByteArray} {t : Lm} {s : ByteArray} (ho : o ≤ ns.length) (ih : WrS o (ns ++ [lxName 120 (ns.length - o)]) t s) : WrS o ns (.l t) (⟨#[92]⟩ ++ lxName 120 (ns.length - o) ++ ⟨#[46]⟩ ++ s) := by
  intro place bs p b r i ni N S hpl hN hN2 hz hb hr hi hni hp sb sr si sni
  have hbr : ¬ b = r := fun e => by subst e; rw [sb] at sr; cases sr
  have hbi : ¬ b = i := fun e => by subst e; rw [sb] at si; cases si
  have hbn : ¬ b = ni := fun e => by subst e; rw [sb] at sni; cases sni
  have hri : ¬ r = i := fun e => by subst e; rw [sr] at si; injection si with si; injection si with si; exact absurd si (by decide)
  have hrn : ¬ r = ni := fun e => by subst e; rw [sr] at sni; cases sni
  have hin : ¬ i = ni := fun e => by subst e; rw [si] at sni; cases sni
  have hrb : ¬ r = b := fun e => hbr e.symm
  have hib : ¬ i = b := fun e => hbi e.symm
  have hnb : ¬ ni = b := fun e => hbn e.symm
  have hir : ¬ i = r := fun e => hri e.symm
  have hnr : ¬ ni = r := fun e => hrn e.symm
  have hnj : ¬ ni = i := fun e => hin e.symm
  rw [Lm.size_l] at hN hz
  refine ok_metaprune_lambda_writer_write.acS fun hS C hC => ?_
  unfold ir_metaprune_lambda_writer_write
  have n4 : S 4 = none := clean_none hS (by omega)
  have n901 : S 901 = none := clean_none hS (by omega)
  have n902 : S 902 = none := clean_none hS (by omega)
  have hsub : (ns.length : Int) - o = ((ns.length - o : Nat) : Int) := by omega
  have hds := decS_size_le (n := ns.length - o) (by omega)
  have h120 : (⟨#[120]⟩ : ByteArray).size = 1 := rfl
  have h92 : (⟨#[92]⟩ : ByteArray).size = 1 := rfl
  have h46 : (⟨#[46]⟩ : ByteArray).size = 1 := rfl
  have h40 : (⟨#[40]⟩ : ByteArray).size = 1 := rfl
  have h41 : (⟨#[41]⟩ : ByteArray).size = 1 := rfl
  have hml : (ns.map encS).length = ns.length := by simp
  have hxs : (lxName 120 (ns.length - o)).size ≤ 7 := lxName_size (by omega)
  have hx : ⟨#[120]⟩ ++ decS (ns.length - o) = lxName 120 (ns.length - o) := rfl
  generalize lxName 120 (ns.length - o) = nm at *
  have hlen : (ns ++ [nm]).length = ns.length + 1 := by simp
  have hmap : (ns ++ [nm]).map encS = ns.map encS ++ [[.str nm]] := by simp [encS]
  have hl2 : ((ns ++ [nm]).map encS).length = ns.length + 1 := by simp
  have hl3 : (((ns.length + 1 : Nat) : Int) - 1).toNat = ns.length := by omega
  simp only [ByteArray.size_append] at hz
  by_cases hp0 : 0 < place
  · have hbk : bs ++ brk (brP (.l t) place) (⟨#[92]⟩ ++ nm ++ ⟨#[46]⟩ ++ s) = bs ++ ⟨#[40]⟩ ++ (⟨#[92]⟩ ++ nm ++ ⟨#[46]⟩) ++ s ++ ⟨#[41]⟩ := by
      unfold brP brk
      rw [if_pos]
      · simp only [ByteArray.append_assoc]
      · simp [Lm.l, Lm.kind, hp0]
    rw [hbk]
    obtain ⟨Sd, hW⟩ : ∃ Sd, wdone S b r i ni N ns (bs ++ ⟨#[40]⟩ ++ (⟨#[92]⟩ ++ nm ++ ⟨#[46]⟩) ++ s ++ ⟨#[41]⟩) o = Sd := ⟨_, rfl⟩
    rw [hW]
    repeat' (first | (with_reducible first | refine W ?_ | refine Wz0 ?_) | ((with_reducible first | refine Wo (fun K hK => ?_) | refine Wp ?_ | refine Wq ?_ | refine Wr ?_); (try simp only [go_sem, fN, seval, eT, iR, AS.startS, hiw_ne, low_ne, hb, hr, hi, hni, n4, n901, n902, hbr, hrb, hbi, hib, hbn, hnb, hri, hir, hrn, hnr, hin, hnj, dn_bldWS, bldWS, sb, sr, si, Lm.l, Lm.kind_mk, Lm.idx_mk, Lm.subs_mk, hp0, dT, dF, nL]); (repeat with_reducible refine Ai ?_); (try (refine hK _ ?_; clear hK K)); (try with_reducible refine iC ?_)))
    refine ⟨_, _, writeByteW_S (bldW_mkU (bs := bs) (c := .row i ns.length) (o := o) hbr hp (by simp only [go_sem, fN, seval, eT, iR, hiw_ne, low_ne, hb, hr, hi, hni, n4, n901, n902, hbr, hrb, hbi, hib, hbn, hnb, hri, hir, hrn, hnr, hin, hnj, dn_bldWS, bldWS, sb, sr]) (by simp only [go_sem, fN, seval, eT, iR, hiw_ne, low_ne, hb, hr, hi, hni, n4, n901, n902, hbr, hrb, hbi, hib, hbn, hnb, hri, hir, hrn, hnr, hin, hnj, dn_bldWS, bldWS, sb, sr])) 40 (by first | omega | (simp only [ByteArray.size_append] at *; omega)), ?_⟩
    repeat' (first | (with_reducible first | refine W ?_ | refine Wz0 ?_) | refine Cg _ (itoaS_a (ns.length - o) (by omega)) ?_ | ((with_reducible first | refine Wo (fun K hK => ?_) | refine Wp ?_ | refine Wq ?_ | refine Wr ?_); (try simp only [go_sem, fN, seval, eT, iR, AS.startS, hiw_ne, low_ne, hb, hr, hi, hni, n4, n901, n902, hbr, hrb, hbi, hib, hbn, hnb, hri, hir, hrn, hnr, hin, hnj, dn_bldWS, bldWS, sb, sr, si, Lm.l, Lm.kind_mk, Lm.idx_mk, Lm.subs_mk, hp0, hsub, hx, h120, h92, h46, dT, dF, nL]); (repeat with_reducible refine Ai ?_); (try (refine hK _ ?_; clear hK K)); (try with_reducible refine iC ?_)))
    refine ⟨_, _, writeStringW_S (bldW_mkU (bs := bs ++ ⟨#[40]⟩) (c := .row i ns.length) (o := o) hbr (.inr rfl) (by simp only [go_sem, fN, seval, eT, iR, hiw_ne, low_ne, hb, hr, hi, hni, n4, n901, n902, hbr, hrb, hbi, hib, hbn, hnb, hri, hir, hrn, hnr, hin, hnj, dn_bldWS, bldWS, sb, sr]) (by simp only [go_sem, fN, seval, eT, iR, hiw_ne, low_ne, hb, hr, hi, hni, n4, n901, n902, hbr, hrb, hbi, hib, hbn, hnb, hri, hir, hrn, hnr, hin, hnj, dn_bldWS, bldWS, sb, sr])) (⟨#[92]⟩ ++ nm ++ ⟨#[46]⟩) (by first | omega | (simp only [ByteArray.size_append] at *; omega)), ?_⟩
    repeat' (first | (with_reducible first | refine W ?_ | refine Wz0 ?_) | ((with_reducible first | refine Wo (fun K hK => ?_) | refine Wp ?_ | refine Wq ?_ | refine Wr ?_); (try simp only [go_sem, fN, seval, eT, iR, hiw_ne, low_ne, hb, hr, hi, hni, n4, n901, n902, hbr, hrb, hbi, hib, hbn, hnb, hri, hir, hrn, hnr, hin, hnj, dn_bldWS, bldWS, sb, sr, si, Lm.l, Lm.kind_mk, Lm.idx_mk, Lm.subs_mk, hml, dT, dF, nL]); (repeat with_reducible refine Ai ?_); (try (refine hK _ ?_; clear hK K)); (try with_reducible refine iC ?_)))
    refine ⟨_, _, ih 0 (bs ++ ⟨#[40]⟩ ++ (⟨#[92]⟩ ++ nm ++ ⟨#[46]⟩)) _ (up1 b) (up1 r) (up1 i) (up1 901) N _ (by decide) (by omega) hN2 (by simp only [ByteArray.size_append]; omega) (up1_le _) (up1_le _) (up1_le _) (up1_le _) (.inr rfl) (up_boxW (by simp only [go_sem, fN, seval, eT, iR, hiw_ne, low_ne, hb, hr, hi, hni, n4, n901, n902, hbr, hrb, hbi, hib, hbn, hnb, hri, hir, hrn, hnr, hin, hnj, dn_bldWS, bldWS, hlen])) (up_mrowW (by simp only [go_sem, fN, seval, eT, iR, hiw_ne, low_ne, hb, hr, hi, hni, n4, n901, n902, hbr, hrb, hbi, hib, hbn, hnb, hri, hir, hrn, hnr, hin, hnj, dn_bldWS, bldWS])) (up_rowW (by simp only [go_sem, fN, seval, eT, iR, hiw_ne, low_ne, hb, hr, hi, hni, n4, n901, n902, hbr, hrb, hbi, hib, hbn, hnb, hri, hir, hrn, hnr, hin, hnj, dn_bldWS, bldWS, hmap, rowW])) (up_noneW (by simp only [go_sem, fN, seval, eT, iR, hiw_ne, low_ne, hb, hr, hi, hni, n4, n901, n902, hbr, hrb, hbi, hib, hbn, hnb, hri, hir, hrn, hnr, hin, hnj, dn_bldWS, bldWS])), ?_⟩
    rw [brk0]
    repeat' (first | (with_reducible first | refine W ?_ | refine Wz0 ?_) | ((with_reducible first | refine Wo (fun K hK => ?_) | refine Wp ?_ | refine Wq ?_ | refine Wr ?_); (try simp only [go_sem, fN, seval, eT, iR, dn_wdone, wdone, hiw_ne, low_ne, hb, hr, hi, hni, n4, n901, n902, hbr, hrb, hbi, hib, hbn, hnb, hri, hir, hrn, hnr, hin, hnj, dn_bldWS, bldWS, hlen, hl2, hl3, dT, dF, nL]); (repeat with_reducible refine Ai ?_); (try (refine hK _ ?_; clear hK K)); (try with_reducible refine iC ?_)))
    refine ⟨_, _, writeByteW_S (bldW_mkU (bs := bs ++ ⟨#[40]⟩ ++ (⟨#[92]⟩ ++ nm ++ ⟨#[46]⟩) ++ s) (c := .part 901 ns.length (ns.length + 1)) (o := o) hbr (.inr rfl) (by simp only [go_sem, fN, seval, eT, iR, hiw_ne, low_ne, hb, hr, hi, hni, n4, n901, n902, hbr, hrb, hbi, hib, hbn, hnb, hri, hir, hrn, hnr, hin, hnj, dn_bldWS, bldWS, sb, sr]) (by simp only [go_sem, fN, seval, eT, iR, hiw_ne, low_ne, hb, hr, hi, hni, n4, n901, n902, hbr, hrb, hbi, hib, hbn, hnb, hri, hir, hrn, hnr, hin, hnj, dn_bldWS, bldWS, sb, sr])) 41 (by first | omega | (simp only [ByteArray.size_append] at *; omega)), ?_⟩
    repeat' (first | (with_reducible first | refine W ?_ | refine Wz0 ?_) | ((with_reducible first | refine Wo (fun K hK => ?_) | refine Wp ?_ | refine Wq ?_ | refine Wr ?_); (try simp only [go_sem, fN, seval, eT, iR, hiw_ne, low_ne, hb, hr, hi, hni, n4, n901, n902, hbr, hrb, hbi, hib, hbn, hnb, hri, hir, hrn, hnr, hin, hnj, dn_bldWS, bldWS, hlen, hl2, hl3, dT, dF, nL]); (repeat with_reducible refine Ai ?_); (try (refine hK _ ?_; clear hK K)); (try with_reducible refine iC ?_)))
    rw [← hW]
    refine wend hS trivial hb hr hi (j := 901) (xs := ns ++ [nm]) (c := .part 901 ns.length (ns ++ [nm]).length) ?_ ?_ ?_ (by first | omega | (simp only [List.length_append, List.length_cons, List.length_nil]; omega)) (by first | exact .inl rfl | exact .inr ⟨rfl, rfl⟩) (by simp) ?_ hbn hrn hrb (by omega) hni (.inr ⟨by decide, ?_, hin, hib, hir⟩) fun k k1 k2 k3 k4 => ?_
    · simp only [go_sem, fN, seval, eT, iR, hiw_ne, low_ne, hb, hr, hi, hni, n4, n901, n902, hbr, hrb, hbi, hib, hbn, hnb, hri, hir, hrn, hnr, hin, hnj, dn_bldWS, bldWS, hlen]
    · simp only [go_sem, fN, seval, eT, iR, hiw_ne, low_ne, hb, hr, hi, hni, n4, n901, n902, hbr, hrb, hbi, hib, hbn, hnb, hri, hir, hrn, hnr, hin, hnj, dn_bldWS, bldWS]
    · simp only [go_sem, fN, seval, eT, iR, hiw_ne, low_ne, hb, hr, hi, hni, n4, n901, n902, hbr, hrb, hbi, hib, hbn, hnb, hri, hir, hrn, hnr, hin, hnj, dn_bldWS, bldWS]
    · simp only [go_sem, fN, seval, eT, iR, hiw_ne, low_ne, hb, hr, hi, hni, n4, n901, n902, hbr, hrb, hbi, hib, hbn, hnb, hri, hir, hrn, hnr, hin, hnj, dn_bldWS, bldWS, sni]
    · simp only [go_sem, fN, seval, eT, iR, hiw_ne, low_ne, hb, hr, hi, hni, n4, n901, n902, hbr, hrb, hbi, hib, hbn, hnb, hri, hir, hrn, hnr, hin, hnj, dn_bldWS, bldWS]
    · simp only [go_sem, fN, seval, eT, iR, hiw_ne, low_ne, k1, k2, k3, k4, dn_bldWS, bldWS]
  · have hbk : bs ++ brk (brP (.l t) place) (⟨#[92]⟩ ++ nm ++ ⟨#[46]⟩ ++ s) = bs ++ (⟨#[92]⟩ ++ nm ++ ⟨#[46]⟩) ++ s := by
      unfold brP brk
      rw [if_neg]
      · simp only [ByteArray.append_assoc]
      · simp [Lm.l, Lm.kind, hp0]
    rw [hbk]
    obtain ⟨Sd, hW⟩ : ∃ Sd, wdone S b r i ni N ns (bs ++ (⟨#[92]⟩ ++ nm ++ ⟨#[46]⟩) ++ s) o = Sd := ⟨_, rfl⟩
    rw [hW]
    repeat' (first | (with_reducible first | refine W ?_ | refine Wz0 ?_) | refine Cg _ (itoaS_a (ns.length - o) (by omega)) ?_ | ((with_reducible first | refine Wo (fun K hK => ?_) | refine Wp ?_ | refine Wq ?_ | refine Wr ?_); (try simp only [go_sem, fN, seval, eT, iR, AS.startS, hiw_ne, low_ne, hb, hr, hi, hni, n4, n901, n902, hbr, hrb, hbi, hib, hbn, hnb, hri, hir, hrn, hnr, hin, hnj, dn_bldWS, bldWS, sb, sr, si, Lm.l, Lm.kind_mk, Lm.idx_mk, Lm.subs_mk, hp0, hsub, hx, h120, h92, h46, dT, dF, nL]); (repeat with_reducible refine Ai ?_); (try (refine hK _ ?_; clear hK K)); (try with_reducible refine iC ?_)))
    refine ⟨_, _, writeStringW_S (bldW_mkU (bs := bs) (c := .row i ns.length) (o := o) hbr hp (by simp only [go_sem, fN, seval, eT, iR, hiw_ne, low_ne, hb, hr, hi, hni, n4, n901, n902, hbr, hrb, hbi, hib, hbn, hnb, hri, hir, hrn, hnr, hin, hnj, dn_bldWS, bldWS, sb, sr]) (by simp only [go_sem, fN, seval, eT, iR, hiw_ne, low_ne, hb, hr, hi, hni, n4, n901, n902, hbr, hrb, hbi, hib, hbn, hnb, hri, hir, hrn, hnr, hin, hnj, dn_bldWS, bldWS, sb, sr])) (⟨#[92]⟩ ++ nm ++ ⟨#[46]⟩) (by first | omega | (simp only [ByteArray.size_append] at *; omega)), ?_⟩
    repeat' (first | (with_reducible first | refine W ?_ | refine Wz0 ?_) | ((with_reducible first | refine Wo (fun K hK => ?_) | refine Wp ?_ | refine Wq ?_ | refine Wr ?_); (try simp only [go_sem, fN, seval, eT, iR, hiw_ne, low_ne, hb, hr, hi, hni, n4, n901, n902, hbr, hrb, hbi, hib, hbn, hnb, hri, hir, hrn, hnr, hin, hnj, dn_bldWS, bldWS, sb, sr, si, Lm.l, Lm.kind_mk, Lm.idx_mk, Lm.subs_mk, hml, dT, dF, nL]); (repeat with_reducible refine Ai ?_); (try (refine hK _ ?_; clear hK K)); (try with_reducible refine iC ?_)))
    refine ⟨_, _, ih 0 (bs ++ (⟨#[92]⟩ ++ nm ++ ⟨#[46]⟩)) _ (up1 b) (up1 r) (up1 i) (up1 901) N _ (by decide) (by omega) hN2 (by simp only [ByteArray.size_append]; omega) (up1_le _) (up1_le _) (up1_le _) (up1_le _) (.inr rfl) (up_boxW (by simp only [go_sem, fN, seval, eT, iR, hiw_ne, low_ne, hb, hr, hi, hni, n4, n901, n902, hbr, hrb, hbi, hib, hbn, hnb, hri, hir, hrn, hnr, hin, hnj, dn_bldWS, bldWS, hlen])) (up_mrowW (by simp only [go_sem, fN, seval, eT, iR, hiw_ne, low_ne, hb, hr, hi, hni, n4, n901, n902, hbr, hrb, hbi, hib, hbn, hnb, hri, hir, hrn, hnr, hin, hnj, dn_bldWS, bldWS])) (up_rowW (by simp only [go_sem, fN, seval, eT, iR, hiw_ne, low_ne, hb, hr, hi, hni, n4, n901, n902, hbr, hrb, hbi, hib, hbn, hnb, hri, hir, hrn, hnr, hin, hnj, dn_bldWS, bldWS, hmap, rowW])) (up_noneW (by simp only [go_sem, fN, seval, eT, iR, hiw_ne, low_ne, hb, hr, hi, hni, n4, n901, n902, hbr, hrb, hbi, hib, hbn, hnb, hri, hir, hrn, hnr, hin, hnj, dn_bldWS, bldWS])), ?_⟩
    rw [brk0]
    repeat' (first | (with_reducible first | refine W ?_ | refine Wz0 ?_) | ((with_reducible first | refine Wo (fun K hK => ?_) | refine Wp ?_ | refine Wq ?_ | refine Wr ?_); (try simp only [go_sem, fN, seval, eT, iR, dn_wdone, wdone, hiw_ne, low_ne, hb, hr, hi, hni, n4, n901, n902, hbr, hrb, hbi, hib, hbn, hnb, hri, hir, hrn, hnr, hin, hnj, dn_bldWS, bldWS, hlen, hl2, hl3, dT, dF, nL]); (repeat with_reducible refine Ai ?_); (try (refine hK _ ?_; clear hK K)); (try with_reducible refine iC ?_)))
    rw [← hW]
    refine wend hS trivial hb hr hi (j := 901) (xs := ns ++ [nm]) (c := .part 901 ns.length (ns ++ [nm]).length) ?_ ?_ ?_ (by first | omega | (simp only [List.length_append, List.length_cons, List.length_nil]; omega)) (by first | exact .inl rfl | exact .inr ⟨rfl, rfl⟩) (by simp) ?_ hbn hrn hrb (by omega) hni (.inr ⟨by decide, ?_, hin, hib, hir⟩) fun k k1 k2 k3 k4 => ?_
    · simp only [go_sem, fN, seval, eT, iR, hiw_ne, low_ne, hb, hr, hi, hni, n4, n901, n902, hbr, hrb, hbi, hib, hbn, hnb, hri, hir, hrn, hnr, hin, hnj, dn_bldWS, bldWS, hlen]
    · simp only [go_sem, fN, seval, eT, iR, hiw_ne, low_ne, hb, hr, hi, hni, n4, n901, n902, hbr, hrb, hbi, hib, hbn, hnb, hri, hir, hrn, hnr, hin, hnj, dn_bldWS, bldWS]
    · simp only [go_sem, fN, seval, eT, iR, hiw_ne, low_ne, hb, hr, hi, hni, n4, n901, n902, hbr, hrb, hbi, hib, hbn, hnb, hri, hir, hrn, hnr, hin, hnj, dn_bldWS, bldWS]
    · simp only [go_sem, fN, seval, eT, iR, hiw_ne, low_ne, hb, hr, hi, hni, n4, n901, n902, hbr, hrb, hbi, hib, hbn, hnb, hri, hir, hrn, hnr, hin, hnj, dn_bldWS, bldWS, sni]
    · simp only [go_sem, fN, seval, eT, iR, hiw_ne, low_ne, hb, hr, hi, hni, n4, n901, n902, hbr, hrb, hbi, hib, hbn, hnb, hri, hir, hrn, hnr, hin, hnj, dn_bldWS, bldWS]
    · simp only [go_sem, fN, seval, eT, iR, hiw_ne, low_ne, k1, k2, k3, k4, dn_bldWS, bldWS]
set_option maxRecDepth 100000 in
theorem write_a {o : Nat} {ns : List ByteArray} {f x : Lm} {s t : ByteArray} (ihf : WrS o ns f s) (ihx : WrS o ns x t) : WrS o ns (.a f x) (brk (decide (f.kind = 2)) s ++ ⟨#[32]⟩ ++ brk (decide (x.kind = 2 ∨ x.kind = 3)) t) := by
  intro place bs p b r i ni N S hpl hN hN2 hz hb hr hi hni hp sb sr si sni
  have hbr : ¬ b = r := fun e => by subst e; rw [sb] at sr; cases sr
  have hbi : ¬ b = i := fun e => by subst e; rw [sb] at si; cases si
  have hbn : ¬ b = ni := fun e => by subst e; rw [sb] at sni; cases sni
  have hri : ¬ r = i := fun e => by subst e; rw [sr] at si; injection si with si; injection si with si; exact absurd si (by decide)
  have hrn : ¬ r = ni := fun e => by subst e; rw [sr] at sni; cases sni
  have hin : ¬ i = ni := fun e => by subst e; rw [si] at sni; cases sni
  have hrb : ¬ r = b := fun e => hbr e.symm
  have hib : ¬ i = b := fun e => hbi e.symm
  have hnb : ¬ ni = b := fun e => hbn e.symm
  have hir : ¬ i = r := fun e => hri e.symm
  have hnr : ¬ ni = r := fun e => hrn e.symm
  have hnj : ¬ ni = i := fun e => hin e.symm
  rw [Lm.size_a] at hN hz
  refine ok_metaprune_lambda_writer_write.acS fun hS C hC => ?_
  unfold ir_metaprune_lambda_writer_write
  have n4 : S 4 = none := clean_none hS (by omega)
  have n901 : S 901 = none := clean_none hS (by omega)
  have n902 : S 902 = none := clean_none hS (by omega)
  have h32 : (⟨#[32]⟩ : ByteArray).size = 1 := rfl
  have h40 : (⟨#[40]⟩ : ByteArray).size = 1 := rfl
  have h41 : (⟨#[41]⟩ : ByteArray).size = 1 := rfl
  have hlen : ns.length = ns.length := rfl
  have hbf : brk (decide (f.kind = 2)) s = brk (brP f 1) s := by
    unfold brP
    congr 1
    simp
  have hbx : brk (decide (x.kind = 2 ∨ x.kind = 3)) t = brk (brP x 2) t := by
    unfold brP
    congr 1
    simp
  simp only [ByteArray.size_append] at hz
  rw [hbf, hbx] at hz
  rw [hbf, hbx]
  clear hbf hbx
  have hs1 := brk_size (brP f 1) s
  have ht1 := brk_size (brP x 2) t
  generalize hS1 : brk (brP f 1) s = s1 at *
  generalize hT1 : brk (brP x 2) t = t1 at *
  obtain ⟨p1, hp1, sb1⟩ := up_boxWp (S := S) (b := b) (i := i) (p := p) hp sb
  by_cases hp0 : 1 < place
  · have hbk : bs ++ brk (brP (.a f x) place) (s1 ++ ⟨#[32]⟩ ++ t1) = bs ++ ⟨#[40]⟩ ++ s1 ++ ⟨#[32]⟩ ++ t1 ++ ⟨#[41]⟩ := by
      unfold brP brk
      rw [if_pos]
      · simp only [ByteArray.append_assoc]
      · simp [Lm.a, Lm.kind, hp0]
    rw [hbk]
    obtain ⟨Sd, hW⟩ : ∃ Sd, wdone S b r i ni N ns (bs ++ ⟨#[40]⟩ ++ s1 ++ ⟨#[32]⟩ ++ t1 ++ ⟨#[41]⟩) o = Sd := ⟨_, rfl⟩
    rw [hW]
    repeat' (first | (with_reducible first | refine W ?_ | refine Wz0 ?_) | ((with_reducible first | refine Wo (fun K hK => ?_) | refine Wp ?_ | refine Wq ?_ | refine Wr ?_); (try simp only [go_sem, fN, seval, eT, iR, AS.startS, hiw_ne, low_ne, hb, hr, hi, hni, n4, n901, n902, hbr, hrb, hbi, hib, hbn, hnb, hri, hir, hrn, hnr, hin, hnj, dn_bldWS, bldWS, sb, sr, si, Lm.a, Lm.kind_mk, Lm.idx_mk, Lm.subs_mk, hp0, dT, dF, nL]); (repeat with_reducible refine Ai ?_); (try (refine hK _ ?_; clear hK K)); (try with_reducible refine iC ?_)))
    refine ⟨_, _, writeByteW_S (bldW_mkU (bs := bs) (c := .row i ns.length) (o := o) hbr hp (by simp only [go_sem, fN, seval, eT, iR, hiw_ne, low_ne, hb, hr, hi, hni, n4, n901, n902, hbr, hrb, hbi, hib, hbn, hnb, hri, hir, hrn, hnr, hin, hnj, dn_bldWS, bldWS, sb, sr]) (by simp only [go_sem, fN, seval, eT, iR, hiw_ne, low_ne, hb, hr, hi, hni, n4, n901, n902, hbr, hrb, hbi, hib, hbn, hnb, hri, hir, hrn, hnr, hin, hnj, dn_bldWS, bldWS, sb, sr])) 40 (by first | omega | (simp only [ByteArray.size_append] at *; omega)), ?_⟩
    repeat' (first | (with_reducible first | refine W ?_ | refine Wz0 ?_) | ((with_reducible first | refine Wo (fun K hK => ?_) | refine Wp ?_ | refine Wq ?_ | refine Wr ?_); (try simp only [go_sem, fN, seval, eT, iR, AS.startS, hiw_ne, low_ne, hb, hr, hi, hni, n4, n901, n902, hbr, hrb, hbi, hib, hbn, hnb, hri, hir, hrn, hnr, hin, hnj, dn_bldWS, bldWS, sb, sr, si, Lm.a, Lm.kind_mk, Lm.idx_mk, Lm.subs_mk, hp0, dT, dF, nL]); (repeat with_reducible refine Ai ?_); (try (refine hK _ ?_; clear hK K)); (try with_reducible refine iC ?_)))
    have hc1 := ihf 1 (bs ++ ⟨#[40]⟩) (.ptr (up1 b) 1 0 0) (up1 b) (up1 r) (up1 i) (up1 901) N
    rw [hS1] at hc1
    refine ⟨_, _, hc1 _ (by decide) (by omega) hN2 (by simp only [ByteArray.size_append]; omega) (up1_le _) (up1_le _) (up1_le _) (up1_le _) (.inr rfl) (up_boxW (by simp only [go_sem, fN, seval, eT, iR, hiw_ne, low_ne, hb, hr, hi, hni, n4, n901, n902, hbr, hrb, hbi, hib, hbn, hnb, hri, hir, hrn, hnr, hin, hnj, dn_bldWS, bldWS])) (up_mrowW (by simp only [go_sem, fN, seval, eT, iR, hiw_ne, low_ne, hb, hr, hi, hni, n4, n901, n902, hbr, hrb, hbi, hib, hbn, hnb, hri, hir, hrn, hnr, hin, hnj, dn_bldWS, bldWS])) (up_rowW (by simp only [go_sem, fN, seval, eT, iR, hiw_ne, low_ne, hb, hr, hi, hni, n4, n901, n902, hbr, hrb, hbi, hib, hbn, hnb, hri, hir, hrn, hnr, hin, hnj, dn_bldWS, bldWS, si])) (up_noneW (by simp only [go_sem, fN, seval, eT, iR, hiw_ne, low_ne, hb, hr, hi, hni, n4, n901, n902, hbr, hrb, hbi, hib, hbn, hnb, hri, hir, hrn, hnr, hin, hnj, dn_bldWS, bldWS])), ?_⟩
    repeat' (first | (with_reducible first | refine W ?_ | refine Wz0 ?_) | ((with_reducible first | refine Wo (fun K hK => ?_) | refine Wp ?_ | refine Wq ?_ | refine Wr ?_); (try simp only [go_sem, fN, seval, eT, iR, dn_wdone, wdone, hiw_ne, low_ne, hb, hr, hi, hni, n4, n901, n902, hbr, hrb, hbi, hib, hbn, hnb, hri, hir, hrn, hnr, hin, hnj, dn_bldWS, bldWS, hp0, dT, dF, nL]); (repeat with_reducible refine Ai ?_); (try (refine hK _ ?_; clear hK K)); (try with_reducible refine iC ?_)))
    refine ⟨_, _, writeByteW_S (bldW_mkU (bs := bs ++ ⟨#[40]⟩ ++ s1) (c := .row 901 ns.length) (o := o) hbr (.inr rfl) (by simp only [go_sem, fN, seval, eT, iR, hiw_ne, low_ne, hb, hr, hi, hni, n4, n901, n902, hbr, hrb, hbi, hib, hbn, hnb, hri, hir, hrn, hnr, hin, hnj, dn_bldWS, bldWS, sb, sr]) (by simp only [go_sem, fN, seval, eT, iR, hiw_ne, low_ne, hb, hr, hi, hni, n4, n901, n902, hbr, hrb, hbi, hib, hbn, hnb, hri, hir, hrn, hnr, hin, hnj, dn_bldWS, bldWS, sb, sr])) 32 (by first | omega | (simp only [ByteArray.size_append] at *; omega)), ?_⟩
    repeat' (first | (with_reducible first | refine W ?_ | refine Wz0 ?_) | ((with_reducible first | refine Wo (fun K hK => ?_) | refine Wp ?_ | refine Wq ?_ | refine Wr ?_); (try simp only [go_sem, fN, seval, eT, iR, AS.startS, hiw_ne, low_ne, hb, hr, hi, hni, n4, n901, n902, hbr, hrb, hbi, hib, hbn, hnb, hri, hir, hrn, hnr, hin, hnj, dn_bldWS, bldWS, sb, sr, si, Lm.a, Lm.kind_mk, Lm.idx_mk, Lm.subs_mk, hp0, dT, dF, nL]); (repeat with_reducible refine Ai ?_); (try (refine hK _ ?_; clear hK K)); (try with_reducible refine iC ?_)))
    have hc2 := ihx 2 (bs ++ ⟨#[40]⟩ ++ s1 ++ ⟨#[32]⟩) (.ptr (up1 b) 1 0 0) (up1 b) (up1 r) (up1 901) (up1 902) N
    rw [hT1] at hc2
    refine ⟨_, _, hc2 _ (by decide) (by omega) hN2 (by simp only [ByteArray.size_append]; omega) (up1_le _) (up1_le _) (up1_le _) (up1_le _) (.inr rfl) (up_boxW (by simp only [go_sem, fN, seval, eT, iR, hiw_ne, low_ne, hb, hr, hi, hni, n4, n901, n902, hbr, hrb, hbi, hib, hbn, hnb, hri, hir, hrn, hnr, hin, hnj, dn_bldWS, bldWS])) (up_mrowW (by simp only [go_sem, fN, seval, eT, iR, hiw_ne, low_ne, hb, hr, hi, hni, n4, n901, n902, hbr, hrb, hbi, hib, hbn, hnb, hri, hir, hrn, hnr, hin, hnj, dn_bldWS, bldWS])) (up_rowW (by simp only [go_sem, fN, seval, eT, iR, hiw_ne, low_ne, hb, hr, hi, hni, n4, n901, n902, hbr, hrb, hbi, hib, hbn, hnb, hri, hir, hrn, hnr, hin, hnj, dn_bldWS, bldWS])) (up_noneW (by simp only [go_sem, fN, seval, eT, iR, hiw_ne, low_ne, hb, hr, hi, hni, n4, n901, n902, hbr, hrb, hbi, hib, hbn, hnb, hri, hir, hrn, hnr, hin, hnj, dn_bldWS, bldWS])), ?_⟩
    repeat' (first | (with_reducible first | refine W ?_ | refine Wz0 ?_) | ((with_reducible first | refine Wo (fun K hK => ?_) | refine Wp ?_ | refine Wq ?_ | refine Wr ?_); (try simp only [go_sem, fN, seval, eT, iR, dn_wdone, wdone, hiw_ne, low_ne, hb, hr, hi, hni, n4, n901, n902, hbr, hrb, hbi, hib, hbn, hnb, hri, hir, hrn, hnr, hin, hnj, dn_bldWS, bldWS, hp0, dT, dF, nL]); (repeat with_reducible refine Ai ?_); (try (refine hK _ ?_; clear hK K)); (try with_reducible refine iC ?_)))
    refine ⟨_, _, writeByteW_S (bldW_mkU (bs := bs ++ ⟨#[40]⟩ ++ s1 ++ ⟨#[32]⟩ ++ t1) (c := .row 902 ns.length) (o := o) hbr (.inr rfl) (by simp only [go_sem, fN, seval, eT, iR, hiw_ne, low_ne, hb, hr, hi, hni, n4, n901, n902, hbr, hrb, hbi, hib, hbn, hnb, hri, hir, hrn, hnr, hin, hnj, dn_bldWS, bldWS, sb, sr]) (by simp only [go_sem, fN, seval, eT, iR, hiw_ne, low_ne, hb, hr, hi, hni, n4, n901, n902, hbr, hrb, hbi, hib, hbn, hnb, hri, hir, hrn, hnr, hin, hnj, dn_bldWS, bldWS, sb, sr])) 41 (by first | omega | (simp only [ByteArray.size_append] at *; omega)), ?_⟩
    repeat' (first | (with_reducible first | refine W ?_ | refine Wz0 ?_) | ((with_reducible first | refine Wo (fun K hK => ?_) | refine Wp ?_ | refine Wq ?_ | refine Wr ?_); (try simp only [go_sem, fN, seval, eT, iR, AS.startS, hiw_ne, low_ne, hb, hr, hi, hni, n4, n901, n902, hbr, hrb, hbi, hib, hbn, hnb, hri, hir, hrn, hnr, hin, hnj, dn_bldWS, bldWS, dT, dF, nL]); (repeat with_reducible refine Ai ?_); (try (refine hK _ ?_; clear hK K)); (try with_reducible refine iC ?_)))
    rw [← hW]
    refine wend hS trivial hb hr hi (j := 902) (xs := ns) (c := .row 902 ns.length) ?_ ?_ ?_ (by first | omega | (simp only [List.length_append, List.length_cons, List.length_nil]; omega)) (by first | exact .inl rfl | exact .inr ⟨rfl, rfl⟩) (by simp) ?_ hbn hrn hrb (by omega) hni (.inr ⟨by decide, ?_, hin, hib, hir⟩) fun k k1 k2 k3 k4 => ?_
    · simp only [go_sem, fN, seval, eT, iR, hiw_ne, low_ne, hb, hr, hi, hni, n4, n901, n902, hbr, hrb, hbi, hib, hbn, hnb, hri, hir, hrn, hnr, hin, hnj, dn_bldWS, bldWS, hlen]
    · simp only [go_sem, fN, seval, eT, iR, hiw_ne, low_ne, hb, hr, hi, hni, n4, n901, n902, hbr, hrb, hbi, hib, hbn, hnb, hri, hir, hrn, hnr, hin, hnj, dn_bldWS, bldWS]
    · simp only [go_sem, fN, seval, eT, iR, hiw_ne, low_ne, hb, hr, hi, hni, n4, n901, n902, hbr, hrb, hbi, hib, hbn, hnb, hri, hir, hrn, hnr, hin, hnj, dn_bldWS, bldWS]
    · simp only [go_sem, fN, seval, eT, iR, hiw_ne, low_ne, hb, hr, hi, hni, n4, n901, n902, hbr, hrb, hbi, hib, hbn, hnb, hri, hir, hrn, hnr, hin, hnj, dn_bldWS, bldWS, sni]
    · simp only [go_sem, fN, seval, eT, iR, hiw_ne, low_ne, hb, hr, hi, hni, n4, n901, n902, hbr, hrb, hbi, hib, hbn, hnb, hri, hir, hrn, hnr, hin, hnj, dn_bldWS, bldWS]
    · simp only [go_sem, fN, seval, eT, iR, hiw_ne, low_ne, k1, k2, k3, k4, dn_bldWS, bldWS]
  · have hbk : bs ++ brk (brP (.a f x) place) (s1 ++ ⟨#[32]⟩ ++ t1) = bs ++ s1 ++ ⟨#[32]⟩ ++ t1 := by
      unfold brP brk
      rw [if_neg]
      · simp only [ByteArray.append_assoc]
      · simp [Lm.a, Lm.kind, hp0]
    rw [hbk]
    obtain ⟨Sd, hW⟩ : ∃ Sd, wdone S b r i ni N ns (bs ++ s1 ++ ⟨#[32]⟩ ++ t1) o = Sd := ⟨_, rfl⟩
    rw [hW]
    repeat' (first | (with_reducible first | refine W ?_ | refine Wz0 ?_) | ((with_reducible first | refine Wo (fun K hK => ?_) | refine Wp ?_ | refine Wq ?_ | refine Wr ?_); (try simp only [go_sem, fN, seval, eT, iR, AS.startS, hiw_ne, low_ne, hb, hr, hi, hni, n4, n901, n902, hbr, hrb, hbi, hib, hbn, hnb, hri, hir, hrn, hnr, hin, hnj, dn_bldWS, bldWS, sb, sr, si, Lm.a, Lm.kind_mk, Lm.idx_mk, Lm.subs_mk, hp0, dT, dF, nL]); (repeat with_reducible refine Ai ?_); (try (refine hK _ ?_; clear hK K)); (try with_reducible refine iC ?_)))
    have hc1 := fun S' => ihf 1 bs p1 (up1 b) (up1 r) (up1 i) (up1 901) N S'
    rw [hS1] at hc1
    have sbx : ∀ S' : AStore, S' b = some (boxW p r bs.size (.row i ns.length) o) → upS S' (up1 b) = some (boxW p1 (up1 r) bs.size (.row (up1 i) ns.length) o) := fun S' h => by rw [upS_up, h, ← sb, ← upS_up, sb1]
    refine ⟨_, _, hc1 _ (by decide) (by omega) hN2 (by omega) (up1_le _) (up1_le _) (up1_le _) (up1_le _) hp1 (sbx _ (by simp only [go_sem, fN, seval, eT, iR, hiw_ne, low_ne, hb, hr, hi, hni, n4, n901, n902, hbr, hrb, hbi, hib, hbn, hnb, hri, hir, hrn, hnr, hin, hnj, dn_bldWS, bldWS, sb])) (up_mrowW (by simp only [go_sem, fN, seval, eT, iR, hiw_ne, low_ne, hb, hr, hi, hni, n4, n901, n902, hbr, hrb, hbi, hib, hbn, hnb, hri, hir, hrn, hnr, hin, hnj, dn_bldWS, bldWS, sr])) (up_rowW (by simp only [go_sem, fN, seval, eT, iR, hiw_ne, low_ne, hb, hr, hi, hni, n4, n901, n902, hbr, hrb, hbi, hib, hbn, hnb, hri, hir, hrn, hnr, hin, hnj, dn_bldWS, bldWS, si])) (up_noneW (by simp only [go_sem, fN, seval, eT, iR, hiw_ne, low_ne, hb, hr, hi, hni, n4, n901, n902, hbr, hrb, hbi, hib, hbn, hnb, hri, hir, hrn, hnr, hin, hnj, dn_bldWS, bldWS])), ?_⟩
    repeat' (first | (with_reducible first | refine W ?_ | refine Wz0 ?_) | ((with_reducible first | refine Wo (fun K hK => ?_) | refine Wp ?_ | refine Wq ?_ | refine Wr ?_); (try simp only [go_sem, fN, seval, eT, iR, dn_wdone, wdone, hiw_ne, low_ne, hb, hr, hi, hni, n4, n901, n902, hbr, hrb, hbi, hib, hbn, hnb, hri, hir, hrn, hnr, hin, hnj, dn_bldWS, bldWS, hp0, dT, dF, nL]); (repeat with_reducible refine Ai ?_); (try (refine hK _ ?_; clear hK K)); (try with_reducible refine iC ?_)))
    refine ⟨_, _, writeByteW_S (bldW_mkU (bs := bs ++ s1) (c := .row 901 ns.length) (o := o) hbr (.inr rfl) (by simp only [go_sem, fN, seval, eT, iR, hiw_ne, low_ne, hb, hr, hi, hni, n4, n901, n902, hbr, hrb, hbi, hib, hbn, hnb, hri, hir, hrn, hnr, hin, hnj, dn_bldWS, bldWS, sb, sr]) (by simp only [go_sem, fN, seval, eT, iR, hiw_ne, low_ne, hb, hr, hi, hni, n4, n901, n902, hbr, hrb, hbi, hib, hbn, hnb, hri, hir, hrn, hnr, hin, hnj, dn_bldWS, bldWS, sb, sr])) 32 (by first | omega | (simp only [ByteArray.size_append] at *; omega)), ?_⟩
    repeat' (first | (with_reducible first | refine W ?_ | refine Wz0 ?_) | ((with_reducible first | refine Wo (fun K hK => ?_) | refine Wp ?_ | refine Wq ?_ | refine Wr ?_); (try simp only [go_sem, fN, seval, eT, iR, AS.startS, hiw_ne, low_ne, hb, hr, hi, hni, n4, n901, n902, hbr, hrb, hbi, hib, hbn, hnb, hri, hir, hrn, hnr, hin, hnj, dn_bldWS, bldWS, sb, sr, si, Lm.a, Lm.kind_mk, Lm.idx_mk, Lm.subs_mk, hp0, dT, dF, nL]); (repeat with_reducible refine Ai ?_); (try (refine hK _ ?_; clear hK K)); (try with_reducible refine iC ?_)))
    have hc2 := ihx 2 (bs ++ s1 ++ ⟨#[32]⟩) (.ptr (up1 b) 1 0 0) (up1 b) (up1 r) (up1 901) (up1 902) N
    rw [hT1] at hc2
    refine ⟨_, _, hc2 _ (by decide) (by omega) hN2 (by simp only [ByteArray.size_append]; omega) (up1_le _) (up1_le _) (up1_le _) (up1_le _) (.inr rfl) (up_boxW (by simp only [go_sem, fN, seval, eT, iR, hiw_ne, low_ne, hb, hr, hi, hni, n4, n901, n902, hbr, hrb, hbi, hib, hbn, hnb, hri, hir, hrn, hnr, hin, hnj, dn_bldWS, bldWS])) (up_mrowW (by simp only [go_sem, fN, seval, eT, iR, hiw_ne, low_ne, hb, hr, hi, hni, n4, n901, n902, hbr, hrb, hbi, hib, hbn, hnb, hri, hir, hrn, hnr, hin, hnj, dn_bldWS, bldWS])) (up_rowW (by simp only [go_sem, fN, seval, eT, iR, hiw_ne, low_ne, hb, hr, hi, hni, n4, n901, n902, hbr, hrb, hbi, hib, hbn, hnb, hri, hir, hrn, hnr, hin, hnj, dn_bldWS, bldWS])) (up_noneW (by simp only [go_sem, fN, seval, eT, iR, hiw_ne, low_ne, hb, hr, hi, hni, n4, n901, n902, hbr, hrb, hbi, hib, hbn, hnb, hri, hir, hrn, hnr, hin, hnj, dn_bldWS, bldWS])), ?_⟩
    repeat' (first | (with_reducible first | refine W ?_ | refine Wz0 ?_) | ((with_reducible first | refine Wo (fun K hK => ?_) | refine Wp ?_ | refine Wq ?_ | refine Wr ?_); (try simp only [go_sem, fN, seval, eT, iR, dn_wdone, wdone, hiw_ne, low_ne, hb, hr, hi, hni, n4, n901, n902, hbr, hrb, hbi, hib, hbn, hnb, hri, hir, hrn, hnr, hin, hnj, dn_bldWS, bldWS, hp0, dT, dF, nL]); (repeat with_reducible refine Ai ?_); (try (refine hK _ ?_; clear hK K)); (try with_reducible refine iC ?_)))
    rw [← hW]
    refine wend hS trivial hb hr hi (j := 902) (xs := ns) (c := .row 902 ns.length) ?_ ?_ ?_ (by first | omega | (simp only [List.length_append, List.length_cons, List.length_nil]; omega)) (by first | exact .inl rfl | exact .inr ⟨rfl, rfl⟩) (by simp) ?_ hbn hrn hrb (by omega) hni (.inr ⟨by decide, ?_, hin, hib, hir⟩) fun k k1 k2 k3 k4 => ?_
    · simp only [go_sem, fN, seval, eT, iR, hiw_ne, low_ne, hb, hr, hi, hni, n4, n901, n902, hbr, hrb, hbi, hib, hbn, hnb, hri, hir, hrn, hnr, hin, hnj, dn_bldWS, bldWS, hlen]
    · simp only [go_sem, fN, seval, eT, iR, hiw_ne, low_ne, hb, hr, hi, hni, n4, n901, n902, hbr, hrb, hbi, hib, hbn, hnb, hri, hir, hrn, hnr, hin, hnj, dn_bldWS, bldWS]
    · simp only [go_sem, fN, seval, eT, iR, hiw_ne, low_ne, hb, hr, hi, hni, n4, n901, n902, hbr, hrb, hbi, hib, hbn, hnb, hri, hir, hrn, hnr, hin, hnj, dn_bldWS, bldWS]
    · simp only [go_sem, fN, seval, eT, iR, hiw_ne, low_ne, hb, hr, hi, hni, n4, n901, n902, hbr, hrb, hbi, hib, hbn, hnb, hri, hir, hrn, hnr, hin, hnj, dn_bldWS, bldWS, sni]
    · simp only [go_sem, fN, seval, eT, iR, hiw_ne, low_ne, hb, hr, hi, hni, n4, n901, n902, hbr, hrb, hbi, hib, hbn, hnb, hri, hir, hrn, hnr, hin, hnj, dn_bldWS, bldWS]
    · simp only [go_sem, fN, seval, eT, iR, hiw_ne, low_ne, k1, k2, k3, k4, dn_bldWS, bldWS]
theorem write_S {o : Nat} {ns : List ByteArray} {t : Lm} {s : ByteArray} (h : LTx 120 o ns t s) : WrS o ns t s := by
  induction h with
  | v h hn => exact write_v h hn
  | c h => exact write_c h
  | l ho h ih => exact write_l ho ih
  | a hf hx ihf ihx => exact write_a ihf ihx

theorem freeL_ok : ∀ (p l : List ByteArray), freeL p l = 0 → (∀ n ∈ l, nameOk n = true ∧ byteAt n 0 ≠ 120 ∧ byteAt n 0 ≠ 99 ∧ n ∉ p) ∧ l.Nodup
  | _, [], _ => ⟨fun n h => by simp at h, List.nodup_nil⟩
  | p, n :: r, h => by
    rw [freeL] at h
    by_cases h1 : nameOk n = true ∧ byteAt n 0 ≠ 120 ∧ byteAt n 0 ≠ 99
    · rw [if_pos h1] at h
      by_cases h2 : isIn n p = true
      · rw [if_pos h2] at h
        exact absurd h (by decide)
      · rw [if_neg h2] at h
        obtain ⟨q1, q2⟩ := freeL_ok (p ++ [n]) r h
        have hnp : n ∉ p := fun e => h2 (isIn_iff.2 e)
        refine ⟨fun m hm => ?_, List.nodup_cons.2 ⟨fun hn => ?_, q2⟩⟩
        · rcases List.mem_cons.1 hm with rfl | hm
          · exact ⟨h1.1, h1.2.1, h1.2.2, hnp⟩
          · obtain ⟨a, b, c, d⟩ := q1 m hm
            exact ⟨a, b, c, fun e => d (List.mem_append_left _ e)⟩
        · exact (q1 n hn).2.2.2 (by simp)
    · rw [if_neg h1] at h
      exact absurd h (by decide)
theorem freeMay_ok {l : List ByteArray} (h : freeMay l = 0) : l.length ≤ 40 ∧ (∀ n ∈ l, nameOk n = true ∧ byteAt n 0 ≠ 120 ∧ byteAt n 0 ≠ 99) ∧ l.Nodup := by
  unfold freeMay at h
  by_cases h1 : 40 < l.length
  · rw [if_pos h1] at h
    exact absurd h (by decide)
  · rw [if_neg h1] at h
    obtain ⟨q1, q2⟩ := freeL_ok [] l h
    exact ⟨by omega, fun n hn => ⟨(q1 n hn).1, (q1 n hn).2.1, (q1 n hn).2.2.1⟩, q2⟩
theorem ltx_pos {p : UInt8} {o : Nat} {ns : List ByteArray} {t : Lm} {s : ByteArray} (h : LTx p o ns t s) : (∀ n ∈ ns, 0 < n.size) → 0 < s.size := by
  induction h with
  | @v ns i n h hn => exact fun hns => hns n (List.mem_of_getElem? hn)
  | c h =>
    intro _
    rw [ByteArray.size_append]
    have h1 : (⟨#[99]⟩ : ByteArray).size = 1 := rfl
    omega
  | l ho h ih =>
    intro _
    simp only [ByteArray.size_append]
    have h1 : (⟨#[92]⟩ : ByteArray).size = 1 := rfl
    omega
  | a hf hx ihf ihx =>
    intro _
    simp only [ByteArray.size_append]
    have h1 : (⟨#[32]⟩ : ByteArray).size = 1 := rfl
    omega
theorem text_ex {t : Lm} {free : List ByteArray} (hf : freeMay free = 0) (hm : t.may 0 free.length = 0) : ∃ s, LTx 120 free.length free t s ∧ 0 < s.size ∧ s.size ≤ 20 * 200 := by
  obtain ⟨f1, f2, _⟩ := freeMay_ok hf
  unfold Lm.may at hm
  have h1 : ¬ ((free.length : Int) < 0 ∨ 40 < (free.length : Int)) := by omega
  rw [if_neg h1] at hm
  by_cases h2 : 200 < t.size
  · rw [if_pos h2] at hm
    exact absurd hm (by decide)
  rw [if_neg h2] at hm
  have hz : ∀ n ∈ free, 0 < n.size ∧ n.size ≤ 8 := fun n hn => by
    obtain ⟨a, b, _⟩ := nameOk_cases (f2 n hn).1
    omega
  obtain ⟨s, hs, hl⟩ := ltx_ex 120 free.length 200 t free (by omega) hm (Nat.le_refl _) (by omega) fun n hn => (hz n hn).2
  exact ⟨s, hs, ltx_pos hs fun n hn => (hz n hn).1, by omega⟩

theorem cloneW_N (l : List ByteArray) (hl : l.length ≤ 1000000) : ACallsN Tryd.prog 29 [aStrs l] 9 1 (l.map encS) true := by
  unfold ACallsN
  rw [List.length_map]
  refine ok_slices_Clone_string_string.acS fun hS C hC => ?_
  unfold ir_slices_Clone_string_string
  by_cases h0 : l.length = 0
  · have hl : l = [] := List.eq_nil_of_length_eq_zero h0
    subst hl
    repeat' (first | (with_reducible first | refine W ?_ | refine Wz0 ?_) | ((with_reducible first | refine Wo (fun K hK => ?_) | refine Wp ?_ | refine Wq ?_ | refine Wr ?_); (try simp only [go_sem, fN, seval, eT, iR, dT, dF, nL]); (repeat with_reducible refine Ai ?_); (try (refine hK _ ?_; clear hK K)); (try with_reducible refine iC ?_)))
    refine ⟨?_, ?_⟩
    · repeat' (first | (with_reducible first | refine W ?_ | refine Wz0 ?_) | ((with_reducible first | refine Wo (fun K hK => ?_) | refine Wp ?_ | refine Wq ?_ | refine Wr ?_); (try simp only [go_sem, fN, seval, eT, iR, dT, dF, nL]); (repeat with_reducible refine Ai ?_); (try (refine hK _ ?_; clear hK K)); (try with_reducible refine iC ?_)))
      refine finS_ghost (Ghost.ownM (C := C) 2 30 9 1 rfl rfl (by omega)) ?_
      exact finN (mu := true) trivial 30 (by decide) rfl (fun i hi => by show updE _ _ _ _ = _; rw [updE_ne _ (by omega)]; rfl) rfl
    · repeat' (first | (with_reducible first | refine W ?_ | refine Wz0 ?_) | ((with_reducible first | refine Wo (fun K hK => ?_) | refine Wp ?_ | refine Wq ?_ | refine Wr ?_); (try simp only [go_sem, fN, seval, eT, iR, dT, dF, nL]); (repeat with_reducible refine Ai ?_); (try (refine hK _ ?_; clear hK K)); (try with_reducible refine iC ?_)))
      exact finN (mu := true) trivial 7 (by decide) rfl (fun i hi => by show updE _ _ _ _ = _; rw [updE_ne _ (by omega)]; rfl) rfl
  · have hb : l.length * 16 ≤ 140737488355328 := by omega
    repeat' (first | (with_reducible first | refine W ?_ | refine Wz0 ?_) | ((with_reducible first | refine Wo (fun K hK => ?_) | refine Wp ?_ | refine Wq ?_ | refine Wr ?_); (try simp only [go_sem, fN, seval, eT, iR, h0, hb, dT, dF, nL]); (repeat with_reducible refine Ai ?_); (try (refine hK _ ?_; clear hK K)); (try with_reducible refine iC ?_)))
    exact finN (mu := true) trivial 7 (by decide) rfl (fun i hi => by show updE _ _ _ _ = _; rw [updE_ne _ (by omega)]; rfl) rfl
set_option maxRecDepth 100000 in
theorem lshow_a {free : List ByteArray} {t : Lm} {s : ByteArray} (h : LTx 120 free.length free t s) (h0 : 0 < s.size) (hz : s.size + 4 * t.size ≤ 100000000) (hl : free.length + t.size ≤ 900000) : ACalls Tryd.prog 20 [aLm t, aStrs free] (aStr s) := by
  have hw := write_S h
  refine ok_lambda_Show.ac fun C hC => ?_
  unfold ir_lambda_Show
  repeat' (first | (with_reducible first | refine W ?_ | refine Wz0 ?_) | ((with_reducible first | refine Wo (fun K hK => ?_) | refine Wp ?_ | refine Wq ?_ | refine Wr ?_); (try simp only [go_sem, fN, seval, eT, iR, dT, dF, nL]); (repeat with_reducible refine Ai ?_); (try (refine hK _ ?_; clear hK K)); (try with_reducible refine iC ?_)))
  refine CallNG.mk _ _ _ _ (cloneW_N free (by omega)) ⟨rfl, by simp, ?_⟩
  have hml : (free.map encS).length = free.length := by simp
  repeat' (first | (with_reducible first | refine W ?_ | refine Wz0 ?_) | (first | refine IWP.ghost (Ghost.ownCell (e' := u8W) (id := 11) (r := 900) 1 1 rfl rfl rfl (by decide)) ?_) | ((with_reducible first | refine Wo (fun K hK => ?_) | refine Wp ?_ | refine Wq ?_ | refine Wr ?_); (try simp only [go_sem, fN, seval, eT, iR, hml, rowB, dT, dF, nL]); (repeat with_reducible refine Ai ?_); (try (refine hK _ ?_; clear hK K)); (try with_reducible refine iC ?_)))
  have hc := fun S' => hw 0 ⟨#[]⟩ (.st (.lit (.pointer none))) (up1 11) (up1 900) (up1 9) (up1 901) (free.length + t.size + 1) S' (by decide) (by omega) (by omega) (by show 0 + s.size + _ ≤ _; omega) (up1_le _) (up1_le _) (up1_le _) (up1_le _) (.inl rfl)
  rw [brk0] at hc
  have he : ⟨#[]⟩ ++ s = s := ByteArray.empty_append
  rw [he] at hc
  refine ⟨_, _, hc _ (up_boxW0 (r := 900) (i := 9) (n := 0) (m := free.length) (o := free.length) ?_) (up_mrowW (bs := ⟨#[]⟩) ?_) (up_rowW (ns := free) ?_) (up_noneW ?_), ?_⟩
  · rfl
  · rfl
  · rfl
  · rfl
  repeat' (first | (with_reducible first | refine W ?_ | refine Wz0 ?_) | ((with_reducible first | refine Wo (fun K hK => ?_) | refine Wp ?_ | refine Wq ?_ | refine Wr ?_); (try simp only [go_sem, fN, seval, eT, iR, dn_wdone, wdone, dT, dF, nL]); (repeat with_reducible refine Ai ?_); (try (refine hK _ ?_; clear hK K)); (try with_reducible refine iC ?_)))
  refine ⟨_, _, builderStringW_S (bldW_mkU (b := 11) (r := 900) (bs := s) (c := .row 901 free.length) (o := free.length) (by decide) (.inr rfl) (by simp only [go_sem, fN, seval, eT, iR]) (by simp only [go_sem, fN, seval, eT, iR])) h0 (by omega), ?_⟩
  repeat' (first | (with_reducible first | refine W ?_ | refine Wz0 ?_) | ((with_reducible first | refine Wo (fun K hK => ?_) | refine Wp ?_ | refine Wq ?_ | refine Wr ?_); (try simp only [go_sem, fN, seval, eT, iR, dT, dF, nL]); (repeat with_reducible refine Ai ?_); (try (refine hK _ ?_; clear hK K)); (try with_reducible refine iC ?_)))
  simp only [go_sem, fN, seval, FinQ, AS.result, resAll, resOne, tupV]
theorem decRS_a (n : Nat) (hn : n < 1000000) : ACalls Tryd.prog 19 [aInt n] (aStr (decS n)) := by
  induction n using Nat.strongRecOn with
  | _ n ih =>
  refine ok_R_Dec.ac fun C hC => ?_
  unfold ir_R_Dec
  by_cases h : (n : Int) < 10
  · have hb : bytesOf [[SV.int .u8 (48 + (n : Int))]] = some [48 + (n : Int)] := rfl
    have hr : inR .u8 (48 + (n : Int)) := by simp [inR, IntKind.min, IntKind.max, IntKind.signed, IntKind.bits]; omega
    have hs : strOfNums [48 + (n : Int)] = decS n := by
      rw [decS_small (by omega)]
      unfold strOfNums
      have e : (48 + (n : Int)).toNat = 48 + n := by omega
      simp only [List.map_cons, List.map_nil, e]
    repeat' (first | (with_reducible first | refine W ?_ | refine Wz0 ?_) | ((with_reducible first | refine Wo (fun K hK => ?_) | refine Wp ?_ | refine Wq ?_ | refine Wr ?_); (try simp only [go_sem, fN, seval, eT, iR, h, hb, hr, hs, dT, dF, nL]); (repeat with_reducible refine Ai ?_); (try (refine hK _ ?_; clear hK K)); (try with_reducible refine iC ?_)))
    simp only [go_sem, fN, seval, FinQ, AS.result, resAll, resOne, tupV]
  · have q1 : (n : Int).tdiv 10 = ((n / 10 : Nat) : Int) := by rw [Int.tdiv_eq_ediv_of_nonneg (by omega)]; omega
    have q2 : (n : Int).tmod 10 = ((n % 10 : Nat) : Int) := by rw [Int.tmod_eq_emod_of_nonneg (by omega)]; omega
    have h1 := ih (n / 10) (by omega) (by omega)
    have h2 := ih (n % 10) (by omega) (by omega)
    have z1 := decS_size_le (n := n / 10) (by omega)
    have z2 := decS_size_le (n := n % 10) (by omega)
    repeat' (first | (with_reducible first | refine W ?_ | refine Wz0 ?_) | refine Cg _ (h1) ?_ | refine Cg _ (h2) ?_ | ((with_reducible first | refine Wo (fun K hK => ?_) | refine Wp ?_ | refine Wq ?_ | refine Wr ?_); (try simp only [go_sem, fN, seval, eT, iR, h, q1, q2, dT, dF, nL]); (repeat with_reducible refine Ai ?_); (try (refine hK _ ?_; clear hK K)); (try with_reducible refine iC ?_)))
    simp only [go_sem, fN, seval, FinQ, AS.result, resAll, resOne, tupV]
    rw [decS_big (n := n) (by omega)]
set_option maxRecDepth 100000 in
theorem lamText_a {o : Nat} {ns : List ByteArray} {t : Lm} {s : ByteArray} (h : LTx 120 o ns t s) : ns.length + t.size ≤ 900000 → s.size ≤ 100000000 → ACalls Tryd.prog 8 [aLm t, aStrs ns, aInt o] (aStr s) := by
  induction h with
  | @v ns j n h hn =>
    intro hl hz
    have hge : (0 : Int) ≤ (ns.length : Int) - 1 - j := by omega
    have hidx : (ns.length : Int) - 1 - j = ((ns.length - 1 - j : Nat) : Int) := by omega
    have hge2 : (0 : Int) ≤ ((ns.length - 1 - j : Nat) : Int) := by omega
    refine ok_R_LamText.ac fun C hC => ?_
    unfold ir_R_LamText
    repeat' (first | (with_reducible first | refine W ?_ | refine Wz0 ?_) | ((with_reducible first | refine Wo (fun K hK => ?_) | refine Wp ?_ | refine Wq ?_ | refine Wr ?_); (try simp only [go_sem, fN, seval, eT, iR, Lm.v, Lm.kind_mk, Lm.idx_mk, Lm.subs_mk, hidx, hge2, hn, encS, dT, dF, nL]); (repeat with_reducible refine Ai ?_); (try (refine hK _ ?_; clear hK K)); (try with_reducible refine iC ?_)))
    simp only [go_sem, fN, seval, FinQ, AS.result, resAll, resOne, tupV]
  | @c ns j h =>
    intro hl hz
    have hds := decS_size_le (n := j) (by omega)
    have h99 : (⟨#[99]⟩ : ByteArray).size = 1 := rfl
    refine ok_R_LamText.ac fun C hC => ?_
    unfold ir_R_LamText
    repeat' (first | (with_reducible first | refine W ?_ | refine Wz0 ?_) | refine Cg _ (decRS_a j (by omega)) ?_ | ((with_reducible first | refine Wo (fun K hK => ?_) | refine Wp ?_ | refine Wq ?_ | refine Wr ?_); (try simp only [go_sem, fN, seval, eT, iR, Lm.kind_mk, Lm.idx_mk, Lm.subs_mk, h99, dT, dF, nL]); (repeat with_reducible refine Ai ?_); (try (refine hK _ ?_; clear hK K)); (try with_reducible refine iC ?_)))
    simp only [go_sem, fN, seval, FinQ, AS.result, resAll, resOne, tupV]
  | @l ns t s ho h ih =>
    intro hl hz
    rw [Lm.size_l] at hl
    simp only [ByteArray.size_append] at hz
    have hsub : (ns.length : Int) - o = ((ns.length - o : Nat) : Int) := by omega
    have hds := decS_size_le (n := ns.length - o) (by omega)
    have h120 : (⟨#[120]⟩ : ByteArray).size = 1 := rfl
    have h92 : (⟨#[92]⟩ : ByteArray).size = 1 := rfl
    have h46 : (⟨#[46]⟩ : ByteArray).size = 1 := rfl
    have hml : (ns.map encS).length = ns.length := by simp
    have hxs : (lxName 120 (ns.length - o)).size ≤ 7 := lxName_size (by omega)
    have hx : ⟨#[120]⟩ ++ decS (ns.length - o) = lxName 120 (ns.length - o) := rfl
    generalize lxName 120 (ns.length - o) = nm at *
    have hmap : ns.map encS ++ [[.str nm]] = (ns ++ [nm]).map encS := by simp [encS]
    have hcall : ACalls Tryd.prog 8 [aLm t, .one (.st (.list (ns.map encS ++ [[.str nm]]))), aInt o] (aStr s) := by rw [hmap]; exact ih (by simp; omega) (by omega)
    refine ok_R_LamText.ac fun C hC => ?_
    unfold ir_R_LamText
    repeat' (first | (with_reducible first | refine W ?_ | refine Wz0 ?_) | refine Cg _ (decRS_a (ns.length - o) (by omega)) ?_ | refine Cg _ (hcall) ?_ | ((with_reducible first | refine Wo (fun K hK => ?_) | refine Wp ?_ | refine Wq ?_ | refine Wr ?_); (try simp only [go_sem, fN, seval, eT, iR, Lm.l, Lm.kind_mk, Lm.idx_mk, Lm.subs_mk, hsub, hx, h120, h92, h46, hml, dT, dF, nL]); (repeat with_reducible refine Ai ?_); (try (refine hK _ ?_; clear hK K)); (try with_reducible refine iC ?_)))
    simp only [go_sem, fN, seval, FinQ, AS.result, resAll, resOne, tupV]
  | @a ns f x s t hf hx ihf ihx =>
    intro hl hz
    rw [Lm.size_a] at hl
    simp only [ByteArray.size_append] at hz
    have h32 : (⟨#[32]⟩ : ByteArray).size = 1 := rfl
    have h40 : (⟨#[40]⟩ : ByteArray).size = 1 := rfl
    have h41 : (⟨#[41]⟩ : ByteArray).size = 1 := rfl
    have z1 := brk_size (decide (f.kind = 2)) s
    have z2 := brk_size (decide (x.kind = 2 ∨ x.kind = 3)) t
    have hc1 := ihf (by omega) (by omega)
    have hc2 := ihx (by omega) (by omega)
    have bY : ∀ (b : Bool) (u : ByteArray), b = true → brk b u = ⟨#[40]⟩ ++ u ++ ⟨#[41]⟩ := fun b u h => if_pos h
    have bN : ∀ (b : Bool) (u : ByteArray), ¬ b = true → brk b u = u := fun b u h => if_neg h
    by_cases q1 : f.kind = 2
    · have dq1 : decide (f.kind = 2) = true := decide_eq_true q1
      by_cases q2 : x.kind = 2
      · have q3 : ¬ x.kind = 3 := by omega
        have dq2 : decide (x.kind = 2) = true := decide_eq_true q2
        have dq3 : decide (x.kind = 3) = false := decide_eq_false q3
        rw [bY _ _ (by simp [q1]), bY _ _ (by simp [q2])]
        refine ok_R_LamText.ac fun C hC => ?_
        unfold ir_R_LamText
        repeat' (first | (with_reducible first | refine W ?_ | refine Wz0 ?_) | refine Cg _ (hc1) ?_ | refine Cg _ (hc2) ?_ | ((with_reducible first | refine Wo (fun K hK => ?_) | refine Wp ?_ | refine Wq ?_ | refine Wr ?_); (try simp only [go_sem, fN, seval, eT, iR, Lm.a, Lm.kind_mk, Lm.idx_mk, Lm.subs_mk, dq1, dq2, dq3, h32, h40, h41, dT, dF, nL]); (repeat with_reducible refine Ai ?_); (try (refine hK _ ?_; clear hK K)); (try with_reducible refine iC ?_)))
        simp only [go_sem, fN, seval, FinQ, AS.result, resAll, resOne, tupV]
      · by_cases q3 : x.kind = 3
        · have dq2 : decide (x.kind = 2) = false := decide_eq_false q2
          have dq3 : decide (x.kind = 3) = true := decide_eq_true q3
          rw [bY _ _ (by simp [q1]), bY _ _ (by simp [q2, q3])]
          refine ok_R_LamText.ac fun C hC => ?_
          unfold ir_R_LamText
          repeat' (first | (with_reducible first | refine W ?_ | refine Wz0 ?_) | refine Cg _ (hc1) ?_ | refine Cg _ (hc2) ?_ | ((with_reducible first | refine Wo (fun K hK => ?_) | refine Wp ?_ | refine Wq ?_ | refine Wr ?_); (try simp only [go_sem, fN, seval, eT, iR, Lm.a, Lm.kind_mk, Lm.idx_mk, Lm.subs_mk, dq1, dq2, dq3, h32, h40, h41, dT, dF, nL]); (repeat with_reducible refine Ai ?_); (try (refine hK _ ?_; clear hK K)); (try with_reducible refine iC ?_)))
          simp only [go_sem, fN, seval, FinQ, AS.result, resAll, resOne, tupV]
        · have dq2 : decide (x.kind = 2) = false := decide_eq_false q2
          have dq3 : decide (x.kind = 3) = false := decide_eq_false q3
          rw [bY _ _ (by simp [q1]), bN _ _ (by simp [q2, q3])]
          refine ok_R_LamText.ac fun C hC => ?_
          unfold ir_R_LamText
          repeat' (first | (with_reducible first | refine W ?_ | refine Wz0 ?_) | refine Cg _ (hc1) ?_ | refine Cg _ (hc2) ?_ | ((with_reducible first | refine Wo (fun K hK => ?_) | refine Wp ?_ | refine Wq ?_ | refine Wr ?_); (try simp only [go_sem, fN, seval, eT, iR, Lm.a, Lm.kind_mk, Lm.idx_mk, Lm.subs_mk, dq1, dq2, dq3, h32, h40, h41, dT, dF, nL]); (repeat with_reducible refine Ai ?_); (try (refine hK _ ?_; clear hK K)); (try with_reducible refine iC ?_)))
          simp only [go_sem, fN, seval, FinQ, AS.result, resAll, resOne, tupV]
    · have dq1 : decide (f.kind = 2) = false := decide_eq_false q1
      by_cases q2 : x.kind = 2
      · have q3 : ¬ x.kind = 3 := by omega
        have dq2 : decide (x.kind = 2) = true := decide_eq_true q2
        have dq3 : decide (x.kind = 3) = false := decide_eq_false q3
        rw [bN _ _ (by simp [q1]), bY _ _ (by simp [q2])]
        refine ok_R_LamText.ac fun C hC => ?_
        unfold ir_R_LamText
        repeat' (first | (with_reducible first | refine W ?_ | refine Wz0 ?_) | refine Cg _ (hc1) ?_ | refine Cg _ (hc2) ?_ | ((with_reducible first | refine Wo (fun K hK => ?_) | refine Wp ?_ | refine Wq ?_ | refine Wr ?_); (try simp only [go_sem, fN, seval, eT, iR, Lm.a, Lm.kind_mk, Lm.idx_mk, Lm.subs_mk, dq1, dq2, dq3, h32, h40, h41, dT, dF, nL]); (repeat with_reducible refine Ai ?_); (try (refine hK _ ?_; clear hK K)); (try with_reducible refine iC ?_)))
        simp only [go_sem, fN, seval, FinQ, AS.result, resAll, resOne, tupV]
      · by_cases q3 : x.kind = 3
        · have dq2 : decide (x.kind = 2) = false := decide_eq_false q2
          have dq3 : decide (x.kind = 3) = true := decide_eq_true q3
          rw [bN _ _ (by simp [q1]), bY _ _ (by simp [q2, q3])]
          refine ok_R_LamText.ac fun C hC => ?_
          unfold ir_R_LamText
          repeat' (first | (with_reducible first | refine W ?_ | refine Wz0 ?_) | refine Cg _ (hc1) ?_ | refine Cg _ (hc2) ?_ | ((with_reducible first | refine Wo (fun K hK => ?_) | refine Wp ?_ | refine Wq ?_ | refine Wr ?_); (try simp only [go_sem, fN, seval, eT, iR, Lm.a, Lm.kind_mk, Lm.idx_mk, Lm.subs_mk, dq1, dq2, dq3, h32, h40, h41, dT, dF, nL]); (repeat with_reducible refine Ai ?_); (try (refine hK _ ?_; clear hK K)); (try with_reducible refine iC ?_)))
          simp only [go_sem, fN, seval, FinQ, AS.result, resAll, resOne, tupV]
        · have dq2 : decide (x.kind = 2) = false := decide_eq_false q2
          have dq3 : decide (x.kind = 3) = false := decide_eq_false q3
          rw [bN _ _ (by simp [q1]), bN _ _ (by simp [q2, q3])]
          refine ok_R_LamText.ac fun C hC => ?_
          unfold ir_R_LamText
          repeat' (first | (with_reducible first | refine W ?_ | refine Wz0 ?_) | refine Cg _ (hc1) ?_ | refine Cg _ (hc2) ?_ | ((with_reducible first | refine Wo (fun K hK => ?_) | refine Wp ?_ | refine Wq ?_ | refine Wr ?_); (try simp only [go_sem, fN, seval, eT, iR, Lm.a, Lm.kind_mk, Lm.idx_mk, Lm.subs_mk, dq1, dq2, dq3, h32, h40, h41, dT, dF, nL]); (repeat with_reducible refine Ai ?_); (try (refine hK _ ?_; clear hK K)); (try with_reducible refine iC ?_)))
          simp only [go_sem, fN, seval, FinQ, AS.result, resAll, resOne, tupV]

theorem ltext_ok {t : Lm} {free : List ByteArray} {s : ByteArray} (hf : freeMay free = 0) (hm : t.may 0 free.length = 0) (hs : LTx 120 free.length free t s) (h0 : 0 < s.size) (hz : s.size ≤ 4000) : ACalls Tryd.prog 9 [aLm t, aStrs free] (.tup [aStr s, aInt 0]) := by
  have h200 : t.size ≤ 200 := by
    unfold Lm.may at hm
    split at hm
    · cases hm
    · split at hm
      · cases hm
      · omega
  have h40 := (freeMay_ok hf).1
  have hc := lCheck_a t free.length
  have hn := names_a free
  have hw := lshow_a hs h0 (by omega) (by omega)
  rw [hf] at hn
  rw [hm] at hc
  refine ok_lambda_Text.ac fun C hC => ?_
  unfold ir_lambda_Text
  repeat' (first | (with_reducible first | refine W ?_ | refine Wz0 ?_) | refine Cg _ (hn) ?_ | refine Cg _ (hc) ?_ | refine Cg _ (hw) ?_ | ((with_reducible first | refine Wo (fun K hK => ?_) | refine Wp ?_ | refine Wq ?_ | refine Wr ?_); (try simp only [go_sem, fN, seval, eT, iR, dT, dF, nL]); (repeat with_reducible refine Ai ?_); (try (refine hK _ ?_; clear hK K)); (try with_reducible refine iC ?_)))
  simp only [go_sem, fN, seval, FinQ, AS.result, resAll, resOne, tupV]
theorem ltext_no {t : Lm} {free : List ByteArray} (e : Int) (he : ¬ e = 0) (h : (freeMay free = e) ∨ (freeMay free = 0 ∧ t.may 0 free.length = e)) : ACalls Tryd.prog 9 [aLm t, aStrs free] (.tup [aStr ⟨#[]⟩, aInt e]) := by
  have hc := lCheck_a t free.length
  have hn := names_a free
  rcases h with h | ⟨h, h2⟩
  · rw [h] at hn
    refine ok_lambda_Text.ac fun C hC => ?_
    unfold ir_lambda_Text
    repeat' (first | (with_reducible first | refine W ?_ | refine Wz0 ?_) | refine Cg _ (hn) ?_ | ((with_reducible first | refine Wo (fun K hK => ?_) | refine Wp ?_ | refine Wq ?_ | refine Wr ?_); (try simp only [go_sem, fN, seval, eT, iR, he, dT, dF, nL]); (repeat with_reducible refine Ai ?_); (try (refine hK _ ?_; clear hK K)); (try with_reducible refine iC ?_)))
    simp only [go_sem, fN, seval, FinQ, AS.result, resAll, resOne, tupV]
  · rw [h] at hn
    rw [h2] at hc
    refine ok_lambda_Text.ac fun C hC => ?_
    unfold ir_lambda_Text
    repeat' (first | (with_reducible first | refine W ?_ | refine Wz0 ?_) | refine Cg _ (hn) ?_ | refine Cg _ (hc) ?_ | ((with_reducible first | refine Wo (fun K hK => ?_) | refine Wp ?_ | refine Wq ?_ | refine Wr ?_); (try simp only [go_sem, fN, seval, eT, iR, he, dT, dF, nL]); (repeat with_reducible refine Ai ?_); (try (refine hK _ ?_; clear hK K)); (try with_reducible refine iC ?_)))
    simp only [go_sem, fN, seval, FinQ, AS.result, resAll, resOne, tupV]
theorem lambdaSays_a (t : Lm) (u : Int) (free : List ByteArray) : ACalls Tryd.prog 3 [aLm t, aInt u, aStrs free] (aBool true) := by
  have hA := hugeLam_a t
  have hCk := lCheck_a t u
  have hM := lMay_a t u 0
  have hM2 := lMay_a t free.length 0
  have hN := names_a free
  have hF := freeMay_a free
  refine ok_L_LambdaSays.ac fun C hC => ?_
  unfold ir_L_LambdaSays
  by_cases h1 : 3000 < t.size
  · have d1 : decide (3000 < t.size) = true := decide_eq_true h1
    repeat' (first | (with_reducible first | refine W ?_ | refine Wz0 ?_) | refine Cg _ (hA) ?_ | ((with_reducible first | refine Wo (fun K hK => ?_) | refine Wp ?_ | refine Wq ?_ | refine Wr ?_); (try simp only [go_sem, fN, seval, eT, iR, d1, dT, dF, nL]); (repeat with_reducible refine Ai ?_); (try (refine hK _ ?_; clear hK K)); (try with_reducible refine iC ?_)))
    simp only [go_sem, fN, seval, FinQ, AS.result, resAll, resOne, tupV]
  have d1 : decide (3000 < t.size) = false := decide_eq_false h1
  by_cases h2 : (100 : Int) < free.length
  · repeat' (first | (with_reducible first | refine W ?_ | refine Wz0 ?_) | refine Cg _ (hA) ?_ | ((with_reducible first | refine Wo (fun K hK => ?_) | refine Wp ?_ | refine Wq ?_ | refine Wr ?_); (try simp only [go_sem, fN, seval, eT, iR, d1, h2, dT, dF, nL]); (repeat with_reducible refine Ai ?_); (try (refine hK _ ?_; clear hK K)); (try with_reducible refine iC ?_)))
    simp only [go_sem, fN, seval, FinQ, AS.result, resAll, resOne, tupV]
  have hfr := freeMay_range free
  by_cases h3 : freeMay free = 0
  case neg =>
    have hT := ltext_no (t := t) (free := free) (freeMay free) h3 (.inl rfl)
    repeat' (first | (with_reducible first | refine W ?_ | refine Wz0 ?_) | refine Cg _ (hA) ?_ | refine Cg _ (hCk) ?_ | refine Cg _ (hM) ?_ | refine Cg _ (hN) ?_ | refine Cg _ (hF) ?_ | refine Cg _ (hT) ?_ | ((with_reducible first | refine Wo (fun K hK => ?_) | refine Wp ?_ | refine Wq ?_ | refine Wr ?_); (try simp only [go_sem, fN, seval, eT, iR, d1, h2, h3, eq_self, dT, dF, nL]); (repeat with_reducible refine Ai ?_); (try (refine hK _ ?_; clear hK K)); (try with_reducible refine iC ?_)))
    simp only [go_sem, fN, seval, FinQ, AS.result, resAll, resOne, tupV]
  by_cases h4 : t.may 0 free.length = 0
  case neg =>
    have hT := ltext_no (t := t) (free := free) (t.may 0 free.length) h4 (.inr ⟨h3, rfl⟩)
    repeat' (first | (with_reducible first | refine W ?_ | refine Wz0 ?_) | refine Cg _ (hA) ?_ | refine Cg _ (hCk) ?_ | refine Cg _ (hM) ?_ | refine Cg _ (hM2) ?_ | refine Cg _ (hN) ?_ | refine Cg _ (hF) ?_ | refine Cg _ (hT) ?_ | ((with_reducible first | refine Wo (fun K hK => ?_) | refine Wp ?_ | refine Wq ?_ | refine Wr ?_); (try simp only [go_sem, fN, seval, eT, iR, d1, h2, h3, h4, eq_self, dT, dF, nL]); (repeat with_reducible refine Ai ?_); (try (refine hK _ ?_; clear hK K)); (try with_reducible refine iC ?_)))
    simp only [go_sem, fN, seval, FinQ, AS.result, resAll, resOne, tupV]
  obtain ⟨s, hs, h0, hz⟩ := text_ex h3 h4
  have hT := ltext_ok h3 h4 hs h0 (by omega)
  have h40 := (freeMay_ok h3).1
  have h200 : t.size ≤ 200 := by
    unfold Lm.may at h4
    split at h4
    · cases h4
    · split at h4
      · cases h4
      · omega
  have hL := lamText_a hs (by omega) (by omega)
  repeat' (first | (with_reducible first | refine W ?_ | refine Wz0 ?_) | refine Cg _ (hA) ?_ | refine Cg _ (hCk) ?_ | refine Cg _ (hM) ?_ | refine Cg _ (hM2) ?_ | refine Cg _ (hN) ?_ | refine Cg _ (hF) ?_ | refine Cg _ (hT) ?_ | refine Cg _ (hL) ?_ | ((with_reducible first | refine Wo (fun K hK => ?_) | refine Wp ?_ | refine Wq ?_ | refine Wr ?_); (try simp only [go_sem, fN, seval, eT, iR, d1, h2, h3, h4, eq_self, dT, dF, nL]); (repeat with_reducible refine Ai ?_); (try (refine hK _ ?_; clear hK K)); (try with_reducible refine iC ?_)))
  simp only [go_sem, fN, seval, FinQ, AS.result, resAll, resOne, tupV]

set_option maxRecDepth 100000
def ir_R_App : IR :=
  (.seq (.ops [.i 2 (.box 24 (.t 0)), .i 3 (.box 24 (.t 1)), .i 4 (.alloc 24 [.st (.int .i64 0), .st (.int .i64 0), .full []])]) (.seq (.ops [.L 5 3 2, .L 6 3 3, .i 7 (.buildSlice false 24 3 [.t 5, .t 6]), .i 8 (.build [.st (.int .i64 0), .st (.int .i64 0), .full []] [(0, 1, .n 3), (2, 1, .t 7)]), .s 3 4 8]) .ret))
theorem ok_R_App : OkF Tryd.prog 40 9 [] ir_R_App [.cell 4 true 3] := .of Tryd.func40 rfl rfl (by kernel_rfl) rfl
def ir_R_Fun : IR :=
  (.seq (.ops [.i 1 (.box 24 (.t 0)), .i 2 (.alloc 24 [.st (.int .i64 0), .st (.int .i64 0), .full []])]) (.seq (.ops [.L 3 3 1, .i 4 (.buildSlice false 24 3 [.t 3]), .i 5 (.build [.st (.int .i64 0), .st (.int .i64 0), .full []] [(0, 1, .n 2), (2, 1, .t 4)]), .s 3 2 5]) .ret))
theorem ok_R_Fun : OkF Tryd.prog 37 6 [] ir_R_Fun [.cell 2 true 3] := .of Tryd.func37 rfl rfl (by kernel_rfl) rfl

theorem lApp_a (f x : Lm) : ACalls Tryd.prog 40 [aLm f, aLm x] (aLm (Lm.a f x)) := by
  refine ok_R_App.ac fun C hC => ?_
  unfold ir_R_App
  repeat' (first | (with_reducible first | refine W ?_ | refine Wz0 ?_) | ((with_reducible first | refine Wo (fun K hK => ?_) | refine Wp ?_ | refine Wq ?_ | refine Wr ?_); (try simp only [go_sem, fN, seval, eT, iR, dT, dF, nL]); (repeat with_reducible refine Ai ?_); (try (refine hK _ ?_; clear hK K)); (try with_reducible refine iC ?_)))
  simp only [go_sem, fN, seval, FinQ, AS.result, resAll, resOne, tupV]
  simp [Lm.a, Lm.kind_mk, Lm.idx_mk, Lm.subs_mk, encL_eq]
theorem lFun_a (t : Lm) : ACalls Tryd.prog 37 [aLm t] (aLm (Lm.l t)) := by
  refine ok_R_Fun.ac fun C hC => ?_
  unfold ir_R_Fun
  repeat' (first | (with_reducible first | refine W ?_ | refine Wz0 ?_) | ((with_reducible first | refine Wo (fun K hK => ?_) | refine Wp ?_ | refine Wq ?_ | refine Wr ?_); (try simp only [go_sem, fN, seval, eT, iR, dT, dF, nL]); (repeat with_reducible refine Ai ?_); (try (refine hK _ ?_; clear hK K)); (try with_reducible refine iC ?_)))
  simp only [go_sem, fN, seval, FinQ, AS.result, resAll, resOne, tupV]
  simp [Lm.l, Lm.kind_mk, Lm.idx_mk, Lm.subs_mk, encL_eq]

def ir_R_Con : IR :=
  (.seq (.ops [.i 2 (.alloc 24 [.st (.int .i64 0), .st (.int .i64 0), .full []])]) (.seq (.ops [.m 3 0, .i 4 (.build [.st (.int .i64 0), .st (.int .i64 0), .full []] [(0, 1, .n 4), (1, 1, .t 3)]), .s 3 2 4]) .ret))
theorem ok_R_Con : OkF Tryd.prog 39 5 [] ir_R_Con [.cell 2 true 3] := .of Tryd.func39 rfl rfl (by kernel_rfl) rfl

theorem lCon_a (i : Int) : ACalls Tryd.prog 39 [aInt i] (aLm (.mk 4 i [])) := by
  refine ok_R_Con.ac fun C hC => ?_
  unfold ir_R_Con
  repeat' (first | (with_reducible first | refine W ?_ | refine Wz0 ?_) | ((with_reducible first | refine Wo (fun K hK => ?_) | refine Wp ?_ | refine Wq ?_ | refine Wr ?_); (try simp only [go_sem, fN, seval, eT, iR, dT, dF, nL]); (repeat with_reducible refine Ai ?_); (try (refine hK _ ?_; clear hK K)); (try with_reducible refine iC ?_)))
  simp only [go_sem, fN, seval, FinQ, AS.result, resAll, resOne, tupV]
  simp [Lm.kind_mk, Lm.idx_mk, Lm.subs_mk, encL_eq]

def ir_R_Pick : IR :=
  (.seq (.ops [.i 4 (.mov (.n 0))]) (.seq (.seq (.ops [.m 5 0, .i 6 (.bin .lss (.t 5) (.n 0))]) (.cond (.t 6) (.ops [.m 7 0, .i 8 (.bin .add (.t 7) (.n 1)), .i 9 (.un .neg (.t 8)), .m 0 9]) .skip)) (.seq (.ops [.m 10 0, .m 11 1, .i 12 (.bin .rem (.t 10) (.t 11)), .m 4 12]) .ret)))
theorem ok_R_Pick : OkF Tryd.prog 12 13 [] ir_R_Pick [.t 4] := .of Tryd.func12 rfl rfl (by kernel_rfl) rfl
def ir_R_Raw : IR :=
  (.seq (.ops [.i 4 (.mov (.n 0))]) (.seq (.seq (.ops [.m 5 0, .i 6 (.len false (.t 5)), .i 7 (.bin .eql (.t 6) (.n 0))]) (.cond (.t 7) (.seq (.ops [.m 8 1, .i 9 (.bin .mul (.t 8) (.n 31)), .m 4 9]) .ret) .skip)) (.seq (.ops [.m 10 0, .m 11 1, .m 12 0, .i 13 (.len false (.t 12)), .i 14 (.bin .rem (.t 11) (.t 13)), .i 15 (.indexAddr 1 (.t 10) (.t 14)), .l 16 15, .i 17 (.call 12 [.t 16, .n 1000003]), .m 18 1, .m 19 0, .i 20 (.len false (.t 19)), .i 21 (.bin .quo (.t 18) (.t 20)), .i 22 (.bin .mul (.t 21) (.n 7919)), .i 23 (.bin .add (.t 17) (.t 22)), .m 4 23]) .ret)))
theorem ok_R_Raw : OkF Tryd.prog 36 24 [] ir_R_Raw [.t 4] := .of Tryd.func36 rfl rfl (by kernel_rfl) rfl
def ir_R_LamFrom : IR :=
  (.seq (.ops [.i 10 (.alloc 24 [.st (.int .i64 0), .st (.int .i64 0), .full []]), .i 11 (.mov (.n 0))]) (.seq (.ops [.m 18 0, .m 19 1, .i 20 (.call 36 [.t 18, .t 19]), .m 12 20]) (.seq (.ops [.m 21 1, .i 22 (.bin .add (.t 21) (.n 1)), .m 1 22]) (.seq (.seq (.ops [.m 23 2, .i 24 (.bin .lss (.t 23) (.n 3)), .m 25 24, .mk (some 26) (some (25, false)) (.mov (.t 12)) .no, .mk (some 27) (some (25, false)) (.call 12 [.t 26, .n 6]) .no, .mk (some 28) (some (25, false)) (.bin .eql (.t 27) (.n 0)) .no, .i 29 (.pick (.t 25) (.c (.one (.st (.bool true)))) (.t 28))]) (.cond (.t 29) (.seq (.seq (.ops [.m 30 3, .i 31 (.bin .eql (.t 30) (.n 0)), .m 32 31, .mk (some 33) (some (32, true)) (.mov (.t 4)) .no, .mk (some 34) (some (32, true)) (.bin .eql (.t 33) (.n 0)) .no, .i 35 (.pick (.t 32) (.t 34) (.c (.one (.st (.bool false)))))]) (.cond (.t 35) (.seq (.ops [.i 36 (.call 38 [.n 0]), .i 37 (.call 37 [.t 36]), .m 38 1, .s 3 10 37, .m 11 38]) .ret) .skip)) (.seq (.seq (.ops [.m 39 3, .i 40 (.bin .eql (.t 39) (.n 0)), .m 41 40, .mk (some 42) (some (41, false)) (.mov (.t 4)) .no, .mk (some 43) (some (41, false)) (.bin .gtr (.t 42) (.n 0)) .no, .mk (some 44) (some (41, false)) (.mov (.t 43)) .no, .mk (some 45) (some (44, true)) (.mov (.t 12)) .no, .mk (some 46) (some (44, true)) (.bin .quo (.t 45) (.n 6)) .no, .mk (some 47) (some (44, true)) (.call 12 [.t 46, .n 4]) .no, .mk (some 48) (some (44, true)) (.bin .eql (.t 47) (.n 0)) .no, .mk (some 49) (some (41, false)) (.pick (.t 44) (.t 48) (.c (.one (.st (.bool false))))) .no, .i 50 (.pick (.t 41) (.c (.one (.st (.bool true)))) (.t 49))]) (.cond (.t 50) (.seq (.ops [.m 51 12, .i 52 (.bin .quo (.t 51) (.n 24)), .m 53 4, .i 54 (.call 12 [.t 52, .t 53]), .i 55 (.call 39 [.t 54]), .m 56 1, .s 3 10 55, .m 11 56]) .ret) .skip)) (.seq (.ops [.m 57 12, .i 58 (.bin .quo (.t 57) (.n 6)), .m 59 3, .i 60 (.call 12 [.t 58, .t 59]), .i 61 (.call 38 [.t 60]), .m 62 1, .s 3 10 61, .m 11 62]) .ret))) .skip)) (.seq (.seq (.ops [.m 63 12, .i 64 (.call 12 [.t 63, .n 6]), .i 65 (.bin .lss (.t 64) (.n 3))]) (.cond (.t 65) (.seq (.ops [.m 67 0, .m 68 1, .m 69 2, .i 70 (.bin .sub (.t 69) (.n 1)), .m 71 3, .i 72 (.bin .add (.t 71) (.n 1)), .m 73 4, .i 74 (.call 24 [.t 67, .t 68, .t 70, .t 72, .t 73]), .m 66 74, .i 75 (.extract 0 (.t 66)), .i 76 (.extract 1 (.t 66)), .i 13 (.alloc 24 [.st (.int .i64 0), .st (.int .i64 0), .full []]), .s 3 13 75, .m 14 76]) (.seq (.ops [.L 77 3 13, .i 78 (.call 37 [.t 77]), .m 79 14, .s 3 10 78, .m 11 79]) .ret)) .skip)) (.seq (.ops [.m 81 0, .m 82 1, .m 83 2, .i 84 (.bin .quo (.t 83) (.n 2)), .m 85 3, .m 86 4, .i 87 (.call 24 [.t 81, .t 82, .t 84, .t 85, .t 86]), .m 80 87, .i 88 (.extract 0 (.t 80)), .i 89 (.extract 1 (.t 80)), .i 15 (.alloc 24 [.st (.int .i64 0), .st (.int .i64 0), .full []]), .s 3 15 88, .m 16 89]) (.seq (.ops [.m 91 0, .m 92 16, .m 93 2, .i 94 (.bin .quo (.t 93) (.n 2)), .m 95 3, .m 96 4, .i 97 (.call 24 [.t 91, .t 92, .t 94, .t 95, .t 96]), .m 90 97, .i 98 (.extract 0 (.t 90)), .i 99 (.extract 1 (.t 90)), .i 17 (.alloc 24 [.st (.int .i64 0), .st (.int .i64 0), .full []]), .s 3 17 98, .m 16 99]) (.seq (.ops [.L 100 3 15, .L 101 3 17, .i 102 (.call 40 [.t 100, .t 101]), .m 103 16, .s 3 10 102, .m 11 103]) .ret))))))))
theorem ok_R_LamFrom : OkF Tryd.prog 24 104 [] ir_R_LamFrom [.cell 10 true 3, .t 11] := .of Tryd.func24 rfl rfl (by kernel_rfl) rfl
def ir_R_LamOfRaw : IR :=
  (.seq (.ops [.i 10 (.alloc 24 [.st (.int .i64 0), .st (.int .i64 0), .full []])]) (.seq (.ops [.m 14 0, .m 15 1, .m 16 2, .m 17 3, .m 18 4, .i 19 (.call 24 [.t 14, .t 15, .t 16, .t 17, .t 18]), .m 13 19, .i 20 (.extract 0 (.t 13)), .i 21 (.extract 1 (.t 13)), .i 11 (.alloc 24 [.st (.int .i64 0), .st (.int .i64 0), .full []]), .s 3 11 20, .m 12 21]) (.seq (.ops [.L 22 3 11, .s 3 10 22]) .ret)))
theorem ok_R_LamOfRaw : OkF Tryd.prog 13 23 [] ir_R_LamOfRaw [.cell 10 true 3] := .of Tryd.func13 rfl rfl (by kernel_rfl) rfl

def pickI (c n : Int) : Int := (if c < 0 then -(c + 1) else c) % n
theorem pickI_range (c n : Int) (hn : 1 ≤ n) : 0 ≤ pickI c n ∧ pickI c n < n := ⟨Int.emod_nonneg _ (by omega), Int.emod_lt_of_pos _ (by omega)⟩
theorem tmod_range {x n : Int} (hx : 0 ≤ x) (hn : 1 ≤ n) : x.tmod n = x % n ∧ 0 ≤ x % n ∧ x % n < n ∧ x % n ≤ x := by
  rw [Int.tmod_eq_emod_of_nonneg hx]
  refine ⟨rfl, Int.emod_nonneg _ (by omega), Int.emod_lt_of_pos _ (by omega), ?_⟩
  by_cases h : x < n
  · rw [Int.emod_eq_of_lt hx h]; exact Int.le_refl _
  · have := Int.emod_lt_of_pos x (show 0 < n by omega); omega
theorem tdiv_range {x n : Int} (hx : 0 ≤ x) (hn : 1 ≤ n) : x.tdiv n = x / n ∧ 0 ≤ x / n ∧ x / n ≤ x := by
  rw [Int.tdiv_eq_ediv_of_nonneg hx]
  exact ⟨rfl, Int.ediv_nonneg hx (by omega), Int.ediv_le_self _ hx⟩
theorem pick_a (c n : Int) (hc : inR .i64 c) (hn : 1 ≤ n) : ACalls Tryd.prog 12 [aInt c, aInt n] (aInt (pickI c n)) := by
  rw [inR_i64] at hc
  refine ok_R_Pick.ac fun C hC => ?_
  unfold ir_R_Pick
  repeat' (first | (with_reducible first | refine W ?_ | refine Wz0 ?_) | ((with_reducible first | refine Wo (fun K hK => ?_) | refine Wq ?_ | refine Wr ?_); (try simp only [go_sem, fN, seval, eT, iR]); (repeat with_reducible refine Ai ?_); (try (refine hK _ ?_; clear hK K))))
  with_reducible refine Wp ?_
  simp only [go_sem, fN, seval, true_implies, false_implies, implies_true, dT, dF, nL]
  (try with_reducible refine iC ?_)
  refine ⟨fun h0 => ?_, fun h0 => ?_⟩
  · have h1 := tmod_range (x := 0 - (c + 1)) (n := n) (by omega) hn
    repeat' (first | (with_reducible first | refine W ?_ | refine Wz0 ?_) | ((with_reducible first | refine Wo (fun K hK => ?_) | refine Wq ?_ | refine Wr ?_); (try simp only [go_sem, fN, seval, eT, iR, h1.1]); (repeat with_reducible refine Ai ?_); (try (refine hK _ ?_; clear hK K))))
    simp only [go_sem, fN, seval, FinQ, AS.result, resAll, resOne, tupV]
    unfold pickI
    rw [if_pos h0]
    congr 5
    omega
  · have h1 := tmod_range (x := c) (n := n) (by omega) hn
    repeat' (first | (with_reducible first | refine W ?_ | refine Wz0 ?_) | ((with_reducible first | refine Wo (fun K hK => ?_) | refine Wq ?_ | refine Wr ?_); (try simp only [go_sem, fN, seval, eT, iR, h1.1]); (repeat with_reducible refine Ai ?_); (try (refine hK _ ?_; clear hK K))))
    simp only [go_sem, fN, seval, FinQ, AS.result, resAll, resOne, tupV]
    unfold pickI
    rw [if_neg h0]
def rawI (l : List Int) (i : Nat) : Int := if l.length = 0 then i * 31 else pickI (l.getD (i % l.length) 0) 1000003 + ((i / l.length : Nat) : Int) * 7919
theorem rawI_range (l : List Int) (i : Nat) : 0 ≤ rawI l i ∧ rawI l i ≤ 1000003 + i * 7919 := by
  unfold rawI
  split
  · omega
  · have := pickI_range (l.getD (i % l.length) 0) 1000003 (by omega)
    have h2 : i / l.length ≤ i := Nat.div_le_self _ _
    generalize i / l.length = q at *
    omega
theorem raw_a (l : List Int) (i : Nat) (hi : i ≤ 1000000) (hl : ∀ n ∈ l, inR .i64 n) (hm : l.length ≤ maxLen) : ACalls Tryd.prog 36 [aInts l, aInt i] (aInt (rawI l i)) := by
  rw [maxLen_eq] at hm
  refine ok_R_Raw.ac fun C hC => ?_
  unfold ir_R_Raw
  repeat' (first | (with_reducible first | refine W ?_ | refine Wz0 ?_) | ((with_reducible first | refine Wo (fun K hK => ?_) | refine Wq ?_ | refine Wr ?_); (try simp only [go_sem, fN, seval, eT, iR]); (repeat with_reducible refine Ai ?_); (try (refine hK _ ?_; clear hK K))))
  with_reducible refine Wp ?_
  simp only [go_sem, fN, seval, true_implies, false_implies, implies_true, dT, dF, nL]
  (try with_reducible refine iC ?_)
  refine ⟨fun h0 => ?_, fun h0 => ?_⟩
  · repeat' (first | (with_reducible first | refine W ?_ | refine Wz0 ?_) | ((with_reducible first | refine Wo (fun K hK => ?_) | refine Wq ?_ | refine Wr ?_); (try simp only [go_sem, fN, seval, eT, iR]); (repeat with_reducible refine Ai ?_); (try (refine hK _ ?_; clear hK K))))
    simp only [go_sem, fN, seval, FinQ, AS.result, resAll, resOne, tupV]
    unfold rawI
    rw [if_pos (by omega)]
  · have h1 := tmod_range (x := (i : Int)) (n := (l.length : Int)) (by omega) (by omega)
    have h2 := tdiv_range (x := (i : Int)) (n := (l.length : Int)) (by omega) (by omega)
    have hlt : i % l.length < l.length := Nat.mod_lt _ (by omega)
    obtain ⟨a, ha⟩ := get_lt hlt
    have e1 : ((i : Int) % (l.length : Int)) = ((i % l.length : Nat) : Int) := by omega
    have e2 : ((i : Int) / (l.length : Int)) = ((i / l.length : Nat) : Int) := by omega
    have h3 : i / l.length ≤ i := Nat.div_le_self _ _
    repeat' (first | (with_reducible first | refine W ?_ | refine Wz0 ?_) | ((with_reducible first | refine Wo (fun K hK => ?_) | refine Wq ?_ | refine Wr ?_); (try simp only [go_sem, fN, seval, eT, iR, h1.1, h2.1, e1, e2, ha]); (repeat with_reducible refine Ai ?_); (try (refine hK _ ?_; clear hK K))))
    refine ⟨_, pick_a a 1000003 (hl a (mem_of_get ha)) (by omega), ?_⟩
    have hp := pickI_range a 1000003 (by omega)
    repeat' (first | (with_reducible first | refine W ?_ | refine Wz0 ?_) | ((with_reducible first | refine Wo (fun K hK => ?_) | refine Wq ?_ | refine Wr ?_); (try simp only [go_sem, fN, seval, eT, iR, h1.1, h2.1, e1, e2]); (repeat with_reducible refine Ai ?_); (try (refine hK _ ?_; clear hK K))))
    simp only [go_sem, fN, seval, FinQ, AS.result, resAll, resOne, tupV]
    unfold rawI
    rw [if_neg (by omega), List.getD_eq_getElem?_getD, ha]
    rfl
def LamAt (l : List Int) (at_ : Nat) (most under consts : Int) (t : Lm) (n : Nat) : Prop :=
  ACalls Tryd.prog 24 [aInts l, aInt at_, aInt most, aInt under, aInt consts] (.tup [aLm t, aInt n])
theorem chk_leaf {k i m u : Int} (h : (k = 1 ∧ 0 ≤ i ∧ i < u) ∨ (k = 4 ∧ 0 ≤ i ∧ i < 40)) : (Lm.mk k i []).chk m u = 0 := by
  rw [Lm.chk_eq]
  rcases h with ⟨rfl, h1, h2⟩ | ⟨rfl, h1, h2⟩ <;> simp [Lm.kind_mk, Lm.idx_mk, Lm.subs_mk, nSubs, mostIdx, h1, h2, Lm.chks]
theorem chk_fun {t : Lm} {m u : Int} (h : t.chk m (u + 1) = 0) : (Lm.l t).chk m u = 0 := by
  rw [Lm.chk_eq]
  simp [Lm.l, Lm.kind_mk, Lm.idx_mk, Lm.subs_mk, nSubs, mostIdx, under, Lm.chks, h]
theorem chk_app {f x : Lm} {m u : Int} (h1 : f.chk m u = 0) (h2 : x.chk m u = 0) : (Lm.a f x).chk m u = 0 := by
  rw [Lm.chk_eq]
  simp [Lm.a, Lm.kind_mk, Lm.idx_mk, Lm.subs_mk, nSubs, mostIdx, under, Lm.chks, h1, h2]
theorem lamFrom_a (l : List Int) (hl : ∀ n ∈ l, inR .i64 n) (hm : l.length ≤ maxLen) (consts : Int) (hc : 0 ≤ consts ∧ consts ≤ 40) : ∀ (most : Nat) (at_ under : Nat), 0 ≤ most → most ≤ 1000 → at_ + 3 * most ≤ 900000 → under + most ≤ 2000 →
    ∃ (t : Lm) (n : Nat), LamAt l at_ most under consts t n ∧ t.size + 1 ≤ 3 * max most 1 ∧ n ≤ at_ + t.size ∧ t.chk 0 under = 0 ∧ (consts = 0 → t.pure = true) := by
  intro most
  induction most using Nat.strongRecOn with
  | _ most ih =>
  intro at_ under h1 h1000 hat hund
  have hraw := raw_a l at_ (by omega) hl hm
  have hr := rawI_range l at_
  generalize rawI l at_ = c at hraw hr
  have d6 := tdiv_range (x := c) (n := 6) (by omega) (by omega)
  have d24 := tdiv_range (x := c) (n := 24) (by omega) (by omega)
  have p6 := pick_a c 6 (by rw [inR_i64]; omega) (by omega)
  have q6 := pickI_range c 6 (by omega)
  have p64 := pick_a (c / 6) 4 (by rw [inR_i64]; omega) (by omega)
  have q64 := pickI_range (c / 6) 4 (by omega)
  have p24 : 1 ≤ consts → _ := fun h => pick_a (c / 24) consts (by rw [inR_i64]; omega) h
  have q24 : 1 ≤ consts → _ := fun h => pickI_range (c / 24) consts h
  have p6u : 1 ≤ (under : Int) → _ := fun h => pick_a (c / 6) under (by rw [inR_i64]; omega) h
  have q6u : 1 ≤ (under : Int) → _ := fun h => pickI_range (c / 6) under h
  generalize pickI c 6 = x6 at *
  generalize pickI (c / 6) 4 = x64 at *
  generalize pickI (c / 24) consts = x24 at *
  generalize pickI (c / 6) under = x6u at *
  by_cases hleaf : (most : Int) < 3 ∨ x6 = 0
  · by_cases hu0 : (under : Int) = 0
    · by_cases hc0 : consts = 0
      · refine ⟨.l (.v 0), at_ + 1, ?_, by simp only [Lm.l, Lm.v, Lm.size, Lm.sizes]; omega, by simp only [Lm.l, Lm.v, Lm.size, Lm.sizes]; omega, chk_fun (chk_leaf (Or.inl ⟨rfl, by omega, by omega⟩)), fun _ => by simp [Lm.l, Lm.v, Lm.pure, Lm.pures]⟩
        by_cases hm3 : (most : Int) < 3
        · unfold LamAt
          refine ok_R_LamFrom.ac fun C hC => ?_
          unfold ir_R_LamFrom
          repeat' (first | (with_reducible first | refine W ?_ | refine Wz0 ?_) | refine Cg _ (hraw) ?_ | refine Cg _ (lVar_a 0) ?_ | refine Cg _ (lFun_a (.v 0)) ?_ | ((with_reducible first | refine Wo (fun K hK => ?_) | refine Wp ?_ | refine Wq ?_ | refine Wr ?_); (try simp only [go_sem, fN, seval, eT, iR, hm3, hu0, hc0, dT, dF, nL]); (repeat with_reducible refine Ai ?_); (try (refine hK _ ?_; clear hK K)); (try with_reducible refine iC ?_)))
          simp only [go_sem, fN, seval, FinQ, AS.result, resAll, resOne, tupV]
          all_goals first | done | rfl | skip
        · have hx6 : x6 = 0 := by omega
          unfold LamAt
          refine ok_R_LamFrom.ac fun C hC => ?_
          unfold ir_R_LamFrom
          repeat' (first | (with_reducible first | refine W ?_ | refine Wz0 ?_) | refine Cg _ (hraw) ?_ | refine Cg _ (p6) ?_ | refine Cg _ (lVar_a 0) ?_ | refine Cg _ (lFun_a (.v 0)) ?_ | ((with_reducible first | refine Wo (fun K hK => ?_) | refine Wp ?_ | refine Wq ?_ | refine Wr ?_); (try simp only [go_sem, fN, seval, eT, iR, hm3, hx6, hu0, hc0, dT, dF, nL]); (repeat with_reducible refine Ai ?_); (try (refine hK _ ?_; clear hK K)); (try with_reducible refine iC ?_)))
          simp only [go_sem, fN, seval, FinQ, AS.result, resAll, resOne, tupV]
          all_goals first | done | rfl | skip
      · have hc1 : 1 ≤ consts := by omega
        have q := q24 hc1
        refine ⟨.mk 4 x24 [], at_ + 1, ?_, by simp only [Lm.size, Lm.sizes]; omega, by simp only [Lm.size, Lm.sizes]; omega, chk_leaf (Or.inr ⟨rfl, by omega, by omega⟩), fun h => by omega⟩
        by_cases hm3 : (most : Int) < 3
        · unfold LamAt
          refine ok_R_LamFrom.ac fun C hC => ?_
          unfold ir_R_LamFrom
          repeat' (first | (with_reducible first | refine W ?_ | refine Wz0 ?_) | refine Cg _ (hraw) ?_ | refine Cg _ (p24 hc1) ?_ | refine Cg _ (lCon_a x24) ?_ | ((with_reducible first | refine Wo (fun K hK => ?_) | refine Wp ?_ | refine Wq ?_ | refine Wr ?_); (try simp only [go_sem, fN, seval, eT, iR, hm3, hu0, hc0, d24.1, dT, dF, nL]); (repeat with_reducible refine Ai ?_); (try (refine hK _ ?_; clear hK K)); (try with_reducible refine iC ?_)))
          simp only [go_sem, fN, seval, FinQ, AS.result, resAll, resOne, tupV]
          all_goals first | done | rfl | skip
        · have hx6 : x6 = 0 := by omega
          unfold LamAt
          refine ok_R_LamFrom.ac fun C hC => ?_
          unfold ir_R_LamFrom
          repeat' (first | (with_reducible first | refine W ?_ | refine Wz0 ?_) | refine Cg _ (hraw) ?_ | refine Cg _ (p6) ?_ | refine Cg _ (p24 hc1) ?_ | refine Cg _ (lCon_a x24) ?_ | ((with_reducible first | refine Wo (fun K hK => ?_) | refine Wp ?_ | refine Wq ?_ | refine Wr ?_); (try simp only [go_sem, fN, seval, eT, iR, hm3, hx6, hu0, hc0, d24.1, dT, dF, nL]); (repeat with_reducible refine Ai ?_); (try (refine hK _ ?_; clear hK K)); (try with_reducible refine iC ?_)))
          simp only [go_sem, fN, seval, FinQ, AS.result, resAll, resOne, tupV]
          all_goals first | done | rfl | skip
    · have hu1 : 1 ≤ (under : Int) := by omega
      have qu := q6u hu1
      by_cases hc0 : consts = 0
      · refine ⟨.mk 1 x6u [], at_ + 1, ?_, by simp only [Lm.size, Lm.sizes]; omega, by simp only [Lm.size, Lm.sizes]; omega, chk_leaf (Or.inl ⟨rfl, by omega, by omega⟩), fun _ => by simp [Lm.pure, Lm.pures]⟩
        by_cases hm3 : (most : Int) < 3
        · unfold LamAt
          refine ok_R_LamFrom.ac fun C hC => ?_
          unfold ir_R_LamFrom
          repeat' (first | (with_reducible first | refine W ?_ | refine Wz0 ?_) | refine Cg _ (hraw) ?_ | refine Cg _ (p6u hu1) ?_ | refine Cg _ (lVar_a x6u) ?_ | ((with_reducible first | refine Wo (fun K hK => ?_) | refine Wp ?_ | refine Wq ?_ | refine Wr ?_); (try simp only [go_sem, fN, seval, eT, iR, hm3, hu0, hc0, d6.1, dT, dF, nL]); (repeat with_reducible refine Ai ?_); (try (refine hK _ ?_; clear hK K)); (try with_reducible refine iC ?_)))
          simp only [go_sem, fN, seval, FinQ, AS.result, resAll, resOne, tupV]
          all_goals first | done | rfl | skip
        · have hx6 : x6 = 0 := by omega
          unfold LamAt
          refine ok_R_LamFrom.ac fun C hC => ?_
          unfold ir_R_LamFrom
          repeat' (first | (with_reducible first | refine W ?_ | refine Wz0 ?_) | refine Cg _ (hraw) ?_ | refine Cg _ (p6) ?_ | refine Cg _ (p6u hu1) ?_ | refine Cg _ (lVar_a x6u) ?_ | ((with_reducible first | refine Wo (fun K hK => ?_) | refine Wp ?_ | refine Wq ?_ | refine Wr ?_); (try simp only [go_sem, fN, seval, eT, iR, hm3, hx6, hu0, hc0, d6.1, dT, dF, nL]); (repeat with_reducible refine Ai ?_); (try (refine hK _ ?_; clear hK K)); (try with_reducible refine iC ?_)))
          simp only [go_sem, fN, seval, FinQ, AS.result, resAll, resOne, tupV]
          all_goals first | done | rfl | skip
      · have hc0' : 0 < consts := by omega
        have hc1 : 1 ≤ consts := by omega
        have q := q24 hc1
        by_cases hx4 : x64 = 0
        · refine ⟨.mk 4 x24 [], at_ + 1, ?_, by simp only [Lm.size, Lm.sizes]; omega, by simp only [Lm.size, Lm.sizes]; omega, chk_leaf (Or.inr ⟨rfl, by omega, by omega⟩), fun h => by omega⟩
          by_cases hm3 : (most : Int) < 3
          · unfold LamAt
            refine ok_R_LamFrom.ac fun C hC => ?_
            unfold ir_R_LamFrom
            repeat' (first | (with_reducible first | refine W ?_ | refine Wz0 ?_) | refine Cg _ (hraw) ?_ | refine Cg _ (p64) ?_ | refine Cg _ (p24 hc1) ?_ | refine Cg _ (lCon_a x24) ?_ | ((with_reducible first | refine Wo (fun K hK => ?_) | refine Wp ?_ | refine Wq ?_ | refine Wr ?_); (try simp only [go_sem, fN, seval, eT, iR, hm3, hu0, hc0', d6.1, hx4, d24.1, dT, dF, nL]); (repeat with_reducible refine Ai ?_); (try (refine hK _ ?_; clear hK K)); (try with_reducible refine iC ?_)))
            simp only [go_sem, fN, seval, FinQ, AS.result, resAll, resOne, tupV]
            all_goals first | done | rfl | skip
          · have hx6 : x6 = 0 := by omega
            unfold LamAt
            refine ok_R_LamFrom.ac fun C hC => ?_
            unfold ir_R_LamFrom
            repeat' (first | (with_reducible first | refine W ?_ | refine Wz0 ?_) | refine Cg _ (hraw) ?_ | refine Cg _ (p6) ?_ | refine Cg _ (p64) ?_ | refine Cg _ (p24 hc1) ?_ | refine Cg _ (lCon_a x24) ?_ | ((with_reducible first | refine Wo (fun K hK => ?_) | refine Wp ?_ | refine Wq ?_ | refine Wr ?_); (try simp only [go_sem, fN, seval, eT, iR, hm3, hx6, hu0, hc0', d6.1, hx4, d24.1, dT, dF, nL]); (repeat with_reducible refine Ai ?_); (try (refine hK _ ?_; clear hK K)); (try with_reducible refine iC ?_)))
            simp only [go_sem, fN, seval, FinQ, AS.result, resAll, resOne, tupV]
            all_goals first | done | rfl | skip
        · refine ⟨.mk 1 x6u [], at_ + 1, ?_, by simp only [Lm.size, Lm.sizes]; omega, by simp only [Lm.size, Lm.sizes]; omega, chk_leaf (Or.inl ⟨rfl, by omega, by omega⟩), fun _ => by simp [Lm.pure, Lm.pures]⟩
          by_cases hm3 : (most : Int) < 3
          · unfold LamAt
            refine ok_R_LamFrom.ac fun C hC => ?_
            unfold ir_R_LamFrom
            repeat' (first | (with_reducible first | refine W ?_ | refine Wz0 ?_) | refine Cg _ (hraw) ?_ | refine Cg _ (p64) ?_ | refine Cg _ (p6u hu1) ?_ | refine Cg _ (lVar_a x6u) ?_ | ((with_reducible first | refine Wo (fun K hK => ?_) | refine Wp ?_ | refine Wq ?_ | refine Wr ?_); (try simp only [go_sem, fN, seval, eT, iR, hm3, hu0, hc0', d6.1, hx4, dT, dF, nL]); (repeat with_reducible refine Ai ?_); (try (refine hK _ ?_; clear hK K)); (try with_reducible refine iC ?_)))
            simp only [go_sem, fN, seval, FinQ, AS.result, resAll, resOne, tupV]
            all_goals first | done | rfl | skip
          · have hx6 : x6 = 0 := by omega
            unfold LamAt
            refine ok_R_LamFrom.ac fun C hC => ?_
            unfold ir_R_LamFrom
            repeat' (first | (with_reducible first | refine W ?_ | refine Wz0 ?_) | refine Cg _ (hraw) ?_ | refine Cg _ (p6) ?_ | refine Cg _ (p64) ?_ | refine Cg _ (p6u hu1) ?_ | refine Cg _ (lVar_a x6u) ?_ | ((with_reducible first | refine Wo (fun K hK => ?_) | refine Wp ?_ | refine Wq ?_ | refine Wr ?_); (try simp only [go_sem, fN, seval, eT, iR, hm3, hx6, hu0, hc0', d6.1, hx4, dT, dF, nL]); (repeat with_reducible refine Ai ?_); (try (refine hK _ ?_; clear hK K)); (try with_reducible refine iC ?_)))
            simp only [go_sem, fN, seval, FinQ, AS.result, resAll, resOne, tupV]
            all_goals first | done | rfl | skip
  · have hm3 : ¬ (most : Int) < 3 := by omega
    have hx6 : ¬ x6 = 0 := by omega
    by_cases h3 : x6 < 3
    · obtain ⟨t, n, ht, hs, hn, hk, hp⟩ := ih (most - 1) (by omega) (at_ + 1) (under + 1) (by omega) (by omega) (by omega) (by omega)
      unfold LamAt at ht
      rw [show (((at_ + 1 : Nat) : Int)) = (at_ : Int) + 1 by omega, show (((most - 1 : Nat) : Int)) = (most : Int) - 1 by omega, show (((under + 1 : Nat) : Int)) = (under : Int) + 1 by omega] at ht
      rw [show (((under + 1 : Nat) : Int)) = (under : Int) + 1 by omega] at hk
      refine ⟨.l t, n, ?_, by simp only [Lm.l, Lm.size, Lm.sizes]; omega, by simp only [Lm.l, Lm.size, Lm.sizes]; omega, chk_fun hk, fun h => by simp [Lm.l, Lm.pure, Lm.pures, hp h]⟩
      unfold LamAt
      refine ok_R_LamFrom.ac fun C hC => ?_
      unfold ir_R_LamFrom
      repeat' (first | (with_reducible first | refine W ?_ | refine Wz0 ?_) | refine Cg _ (hraw) ?_ | refine Cg _ (p6) ?_ | refine Cg _ (ht) ?_ | refine Cg _ (lFun_a t) ?_ | ((with_reducible first | refine Wo (fun K hK => ?_) | refine Wp ?_ | refine Wq ?_ | refine Wr ?_); (try simp only [go_sem, fN, seval, eT, iR, hm3, hx6, h3, dT, dF, nL]); (repeat with_reducible refine Ai ?_); (try (refine hK _ ?_; clear hK K)); (try with_reducible refine iC ?_)))
      simp only [go_sem, fN, seval, FinQ, AS.result, resAll, resOne, tupV]
    · have d2 := tdiv_range (x := (most : Int)) (n := 2) (by omega) (by omega)
      have e2 : (most : Int) / 2 = ((most / 2 : Nat) : Int) := by omega
      obtain ⟨t, n, ht, hs, hn, hk, hp⟩ := ih (most / 2) (by omega) (at_ + 1) under (by omega) (by omega) (by omega) (by omega)
      obtain ⟨u, n2, hu, hs2, hn2, hk2, hp2⟩ := ih (most / 2) (by omega) n under (by omega) (by omega) (by omega) (by omega)
      unfold LamAt at ht hu
      rw [show (((at_ + 1 : Nat) : Int)) = (at_ : Int) + 1 by omega] at ht
      refine ⟨.a t u, n2, ?_, by simp only [Lm.a, Lm.size, Lm.sizes]; omega, by simp only [Lm.a, Lm.size, Lm.sizes]; omega, chk_app hk hk2, fun h => by simp [Lm.a, Lm.pure, Lm.pures, hp h, hp2 h]⟩
      unfold LamAt
      refine ok_R_LamFrom.ac fun C hC => ?_
      unfold ir_R_LamFrom
      repeat' (first | (with_reducible first | refine W ?_ | refine Wz0 ?_) | refine Cg _ (hraw) ?_ | refine Cg _ (p6) ?_ | refine Cg _ (ht) ?_ | refine Cg _ (hu) ?_ | refine Cg _ (lApp_a t u) ?_ | ((with_reducible first | refine Wo (fun K hK => ?_) | refine Wp ?_ | refine Wq ?_ | refine Wr ?_); (try simp only [go_sem, fN, seval, eT, iR, hm3, hx6, h3, d2.1, e2, dT, dF, nL]); (repeat with_reducible refine Ai ?_); (try (refine hK _ ?_; clear hK K)); (try with_reducible refine iC ?_)))
      simp only [go_sem, fN, seval, FinQ, AS.result, resAll, resOne, tupV]

end Go.Proofs.YtfiegbokcabhhaaDoor
