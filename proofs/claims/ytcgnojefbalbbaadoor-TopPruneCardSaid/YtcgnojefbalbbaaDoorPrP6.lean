/-
  Part 6 of the texts. Conditions: none.
-/
import Derived.Test.YtcgnojefbalbbaaDoorPrP5
namespace Go.Proofs.YtcgnojefbalbbaaDoor
open Go Go.RowKit
set_option linter.unusedVariables false
set_option linter.unusedSimpArgs false
set_option maxHeartbeats 400000
theorem K8 (i : Int) : Aa Tryd.prog 58 [AK i] (aLm (.mk 1 i [])) := by
 refine JY.ac fun C hC => ?_
 unfold GN
 repeat' with_reducible first | refine W ?_ | refine Z0 ?_ | ((first | refine Wo fun K hK => ?_ | refine Wp ?_ | refine Wq ?_ | refine Wr ?_); (try simp only [go_sem, fN, seval, eT, iR, dT, dF, nL]); (repeat refine Ai ?_); (try (refine hK _ ?_; clear hK K)); try refine iC ?_)
 simp only [go_sem, fN, seval, AY, AS.result, AD, AE, AM]
 rfl
theorem Df (i : Int) : Aa Tryd.prog 7 [AK i] (aLm (.mk 1 i [])) := by
 refine NQ.ac fun C hC => ?_
 unfold Km
 repeat' with_reducible first | refine W ?_ | refine Z0 ?_ | ((first | refine Wo fun K hK => ?_ | refine Wp ?_ | refine Wq ?_ | refine Wr ?_); (try simp only [go_sem, fN, seval, eT, iR, dT, dF, nL]); (repeat refine Ai ?_); (try (refine hK _ ?_; clear hK K)); try refine iC ?_)
 simp only [go_sem, fN, seval, AY, AS.result, AD, AE, AM]
 rfl
theorem Gq (t : Lm) (b d : Int) (hg : t.good 1000000000) (hb : -1 ≤ b ∧ b ≤ 1000000000) (hd : 0 ≤ d) (hz : d + t.size ≤ 1000000000) : Aa Tryd.prog 40 [aLm t, AK b, AK d] (aLm (Lm.mv b d t)) := by
 induction h : SizeOf.sizeOf t using Nat.strongRecOn generalizing t d with
 | _ N ih =>
 subst h
 have hs := Lm.size_eq t
 have hlen := Lm.length_le t.subs
 obtain ⟨g1, g2, g3, g4⟩ := (Lm.good_eq _ _).1 hg
 have hu2 : Af t.kind d ≤ d + 1 ∧ 0 ≤ Af t.kind d := by unfold Af; split <;> omega
 rw [Lm.mv_eq]
 have hcase : (t.kind = 1 ∧ d ≤ t.idx) ∨ (t.kind = 1 ∧ ¬ d ≤ t.idx) ∨ (¬ t.kind = 1 ∧ t.kind = 2) ∨ (¬ t.kind = 1 ∧ ¬ t.kind = 2) := by omega
 rcases hcase with ⟨k1, k2⟩ | ⟨k1, k2⟩ | ⟨k1, k2⟩ | ⟨k1, k2⟩
 all_goals
  refine Hd.ac fun C hC => ?_
  unfold EC
  repeat' with_reducible first | refine W ?_ | refine Z0 ?_ | ((first | refine Wo fun K hK => ?_ | refine Wp ?_ | refine Wq ?_ | refine Wr ?_); (try simp only [go_sem, fN, seval, eT, iR, k1, k2, dT, dF, nL]); (repeat refine Ai ?_); (try (refine hK _ ?_; clear hK K)); try refine iC ?_)
  refine IWP.ghost (As.ownC 7 2 21 24 3 (xs := ([] : List Lm).map Ac) rfl rfl rfl Bn) ?_
  refine IWP.loopD [9] (fun n s => ∃ k, k ≤ t.subs.length ∧ n = t.subs.length - k ∧ s.env 1 = AK b ∧ s.env 2 = AK (Af t.kind d) ∧ s.env 6 = .one (.ptr 6 1 0 0) ∧ s.env 7 = .one (.ptr 7 1 0 0) ∧ s.S 6 = some (.box 24 [.st (.int .i64 0), .st (.int .i64 0), .full []])
   ∧ s.S 7 = some (.box 24 [.st (.int .i64 t.kind), .st (.int .i64 (if t.kind = 1 ∧ d ≤ t.idx then t.idx + b else t.idx)), .row 21 k]) ∧ s.S 21 = some (.arow 24 3 (((t.subs.take k).map (Lm.mv b (Af t.kind d))).map Ac)) ∧ s.env 33 = .one (.st (.list (t.subs.map Ac))) ∧ s.env 34 = AK t.subs.length ∧ s.env 35 = AK k ∧ s.S 9 = none) t.subs.length
   ⟨0, Nat.zero_le _, rfl, rfl, by simp only [k1, k2, Af, Int.reduceEq, ↓reduceIte]; rfl, rfl, rfl, rfl, by simp only [k1, k2, and_self, and_false, and_true, true_and, false_and, if_true, if_false, not_false_eq_true, Int.reduceEq, ↓reduceIte]; rfl, rfl, rfl, rfl, rfl, rfl⟩ ?_
  rintro n ⟨env, S⟩ ⟨k, hk', rfl, e1, e2, e6, e7, s6, s7, s21, e33, e34, e35, s9⟩
  simp only at e1 e2 e6 e7 s6 s7 s21 e33 e34 e35 s9
  have hlk : (t.subs.take k).length = k := by rw [List.length_take]; omega
  by_cases hlt : (k : Int) < t.subs.length
  ·obtain ⟨a, ha⟩ := Ak (show k < t.subs.length by omega)
   have z3 := Lm.size_mem (AJ ha)
   repeat' (first | (with_reducible first | refine W ?_ | refine Z0 ?_ | ((first | refine Wo fun K hK => ?_ | refine Wp ?_ | refine Wq ?_ | refine Wr ?_); (try simp only [go_sem, fN, seval, eT, iR, e1, e2, e6, e7, s6, s7, s21, e33, e34, e35, s9, ha, hlt, hlk, dT, dF, nL]); (repeat refine Ai ?_); (try (refine hK _ ?_; clear hK K)); try refine iC ?_)) | refine Cg _ (ih _ (Lm.lt_of_sub (AJ ha)) a (Af t.kind d) (Lm.good_sub hg (AJ ha)) hu2.2 (by omega) rfl) ?_)
   refine AH ⟨t.subs.length - (k + 1), by omega, k + 1, by omega, rfl, ?_⟩
   simp only [go_sem, fN, seval, AS.drop, AN, AC.clears, AC.clear, AC.highs, AC.high, Bool.not_false, Bool.true_and, Bool.and_self, AV.purge, AV.purges, AC.purge, AI.purge, List.contains_cons, List.contains_nil, Nat.reduceBEq, Bool.or_self, Bool.or_false, Bool.false_or, Bool.or_true, eT, iR, e1, e2, e6, e7, s6, s7, s21, e33, e34, e35, s9]
   exact ⟨by rw [Al ha]; simp [AB], by congr 3⟩
  ·repeat' with_reducible first | refine W ?_ | refine Z0 ?_ | ((first | refine Wo fun K hK => ?_ | refine Wp ?_ | refine Wq ?_ | refine Wr ?_); (try simp only [go_sem, fN, seval, eT, iR, e1, e2, e6, e7, s6, s7, s21, e33, e34, e35, s9, hlt, dT, dF, nL]); (repeat refine Ai ?_); (try (refine hK _ ?_; clear hK K)); try refine iC ?_)
   have hall : t.subs.take k = t.subs := List.take_of_length_le (by omega)
   rw [hall] at s21
   have hkl : k = t.subs.length := by omega
   simp only [go_sem, fN, seval, AY, AS.result, AD, AE, AM, e6, s6, s7, s21, hkl]
   simp [k1, k2, Lm.kind_mk, Lm.idx_mk, Lm.subs_mk]
theorem IE (t : Lm) (b d : Int) (hg : t.good 1000000000) (hb : -1 ≤ b ∧ b ≤ 1000000000) (hd : 0 ≤ d) (hz : d + t.size ≤ 1000000000) : Aa Tryd.prog 43 [aLm t, AK b, AK d] (aLm (Lm.mv b d t)) := by
 induction h : SizeOf.sizeOf t using Nat.strongRecOn generalizing t d with
 | _ N ih =>
 subst h
 have hs := Lm.size_eq t
 have hlen := Lm.length_le t.subs
 obtain ⟨g1, g2, g3, g4⟩ := (Lm.good_eq _ _).1 hg
 have hu2 : Af t.kind d ≤ d + 1 ∧ 0 ≤ Af t.kind d := by unfold Af; split <;> omega
 rw [Lm.mv_eq]
 by_cases k1 : t.kind = 1
 ·have g1 := g1 k1
  by_cases k2 : t.idx < d
  ·have k3 : ¬ d ≤ t.idx := by omega
   refine EU.ac fun C hC => ?_
   unfold Cz
   repeat' with_reducible first | refine W ?_ | refine Z0 ?_ | ((first | refine Wo fun K hK => ?_ | refine Wp ?_ | refine Wq ?_ | refine Wr ?_); (try simp only [go_sem, fN, seval, eT, iR, k1, k2, dT, dF, nL]); (repeat refine Ai ?_); (try (refine hK _ ?_; clear hK K)); try refine iC ?_)
   simp only [go_sem, fN, seval, AY, AS.result, AD, AE, AM]
   simp [k1, k3, g1, Lm.kind_mk, Lm.idx_mk, Lm.subs_mk]
  ·have k3 : d ≤ t.idx := by omega
   refine EU.ac fun C hC => ?_
   unfold Cz
   repeat' (first | (with_reducible first | refine W ?_ | refine Z0 ?_ | ((first | refine Wo fun K hK => ?_ | refine Wp ?_ | refine Wq ?_ | refine Wr ?_); (try simp only [go_sem, fN, seval, eT, iR, k1, k2, dT, dF, nL]); (repeat refine Ai ?_); (try (refine hK _ ?_; clear hK K)); try refine iC ?_)) | refine Cg _ (Df (t.idx + b)) ?_)
   simp only [go_sem, fN, seval, AY, AS.result, AD, AE, AM]
   simp [k1, k3, g1, Lm.kind_mk, Lm.idx_mk, Lm.subs_mk]
 have hcase : t.kind = 2 ∨ ¬ t.kind = 2 := by omega
 rcases hcase with k2 | k2
 all_goals
  refine EU.ac fun C hC => ?_
  unfold Cz
  repeat' with_reducible first | refine W ?_ | refine Z0 ?_ | ((first | refine Wo fun K hK => ?_ | refine Wp ?_ | refine Wq ?_ | refine Wr ?_); (try simp only [go_sem, fN, seval, eT, iR, k1, k2, dT, dF, nL]); (repeat refine Ai ?_); (try (refine hK _ ?_; clear hK K)); try refine iC ?_)
  refine IWP.ghost (As.ownC 7 2 21 24 3 (xs := ([] : List Lm).map Ac) rfl rfl rfl Bn) ?_
  refine IWP.loop (fun n s => ∃ k, k ≤ t.subs.length ∧ n = t.subs.length - k ∧ s.env 1 = AK b ∧ s.env 2 = AK (Af t.kind d) ∧ s.env 3 = .one (.ptr 3 1 0 0) ∧ s.env 6 = .one (.ptr 6 1 0 0) ∧ s.env 7 = .one (.ptr 7 1 0 0) ∧ s.S 3 = some (.box 24 [.st (.int .i64 t.kind), .st (.int .i64 t.idx), .st (.list (t.subs.map Ac))]) ∧ s.S 6 = some (.box 24 [.st (.int .i64 0), .st (.int .i64 0), .full []])
   ∧ s.S 7 = some (.box 24 [.st (.int .i64 t.kind), .st (.int .i64 t.idx), .row 21 k]) ∧ s.S 21 = some (.arow 24 3 (((t.subs.take k).map (Lm.mv b (Af t.kind d))).map Ac)) ∧ s.env 8 = AK k) t.subs.length
   ⟨0, Nat.zero_le _, rfl, rfl, by simp only [k1, k2, Af, Int.reduceEq, ↓reduceIte]; rfl, rfl, rfl, rfl, by first | rfl | (simp only [k1, k2]; rfl), rfl, by first | rfl | (simp only [k1, k2]; rfl), rfl, rfl⟩ ?_
  rintro n ⟨env, S⟩ ⟨k, hk', rfl, e1, e2, e3, e6, e7, s3, s6, s7, s21, e8⟩
  simp only at e1 e2 e3 e6 e7 s3 s6 s7 s21 e8
  have hlk : (t.subs.take k).length = k := by rw [List.length_take]; omega
  by_cases hlt : (k : Int) < t.subs.length
  ·obtain ⟨a, ha⟩ := Ak (show k < t.subs.length by omega)
   have z3 := Lm.size_mem (AJ ha)
   repeat' (first | (with_reducible first | refine W ?_ | refine Z0 ?_ | ((first | refine Wo fun K hK => ?_ | refine Wp ?_ | refine Wq ?_ | refine Wr ?_); (try simp only [go_sem, fN, seval, eT, iR, e1, e2, e3, e6, e7, s3, s6, s7, s21, e8, ha, hlt, hlk, dT, dF, nL]); (repeat refine Ai ?_); (try (refine hK _ ?_; clear hK K)); try refine iC ?_)) | refine Cg _ (ih _ (Lm.lt_of_sub (AJ ha)) a (Af t.kind d) (Lm.good_sub hg (AJ ha)) hu2.2 (by omega) rfl) ?_)
   refine AH ⟨t.subs.length - (k + 1), by omega, k + 1, by omega, rfl, ?_⟩
   simp only [go_sem, fN, seval, eT, iR, e1, e2, e3, e6, e7, s3, s6, s7, s21, e8]
   exact ⟨by rw [Al ha]; simp [AB], by congr 3⟩
  ·repeat' with_reducible first | refine W ?_ | refine Z0 ?_ | ((first | refine Wo fun K hK => ?_ | refine Wp ?_ | refine Wq ?_ | refine Wr ?_); (try simp only [go_sem, fN, seval, eT, iR, e1, e2, e3, e6, e7, s3, s6, s7, s21, e8, hlt, dT, dF, nL]); (repeat refine Ai ?_); (try (refine hK _ ?_; clear hK K)); try refine iC ?_)
   have hall : t.subs.take k = t.subs := List.take_of_length_le (by omega)
   rw [hall] at s21
   have hkl : k = t.subs.length := by omega
   simp only [go_sem, fN, seval, AY, AS.result, AD, AE, AM, e6, s6, s7, s21, hkl]
   simp [k1, k2, Lm.kind_mk, Lm.idx_mk, Lm.subs_mk]
theorem O0 (t x : Lm) (d : Int) (hg : t.good 1000000000) (hx : x.good 1000000000) (hxz : x.size ≤ 1000000000) (hd : 0 ≤ d) (hz : d + t.size ≤ 1000000000) : Aa Tryd.prog 72 [aLm t, aLm x, AK d] (aLm (Lm.put x d t)) := by
 induction h : SizeOf.sizeOf t using Nat.strongRecOn generalizing t d with
 | _ N ih =>
 subst h
 have hs := Lm.size_eq t
 have hlen := Lm.length_le t.subs
 obtain ⟨g1, g2, g3, g4⟩ := (Lm.good_eq _ _).1 hg
 have hu2 : Af t.kind d ≤ d + 1 ∧ 0 ≤ Af t.kind d := by unfold Af; split <;> omega
 rw [Lm.put_eq]
 by_cases k1 : t.kind = 1
 ·have g1 := g1 k1
  by_cases k2 : t.idx = d
  ·refine CL.ac fun C hC => ?_
   unfold Br
   repeat' (first | (with_reducible first | refine W ?_ | refine Z0 ?_ | ((first | refine Wo fun K hK => ?_ | refine Wp ?_ | refine Wq ?_ | refine Wr ?_); (try simp only [go_sem, fN, seval, eT, iR, k1, k2, dT, dF, nL]); (repeat refine Ai ?_); (try (refine hK _ ?_; clear hK K)); try refine iC ?_)) | refine Cg _ (Gq x d 0 hx (by omega) (by omega) (by omega)) ?_)
   simp only [go_sem, fN, seval, AY, AS.result, AD, AE, AM]
   try simp [k1, k2]
  ·by_cases k3 : d < t.idx
   ·refine CL.ac fun C hC => ?_
    unfold Br
    repeat' (first | (with_reducible first | refine W ?_ | refine Z0 ?_ | ((first | refine Wo fun K hK => ?_ | refine Wp ?_ | refine Wq ?_ | refine Wr ?_); (try simp only [go_sem, fN, seval, eT, iR, k1, k2, k3, dT, dF, nL]); (repeat refine Ai ?_); (try (refine hK _ ?_; clear hK K)); try refine iC ?_)) | refine Cg _ (K8 (t.idx - 1)) ?_)
    simp only [go_sem, fN, seval, AY, AS.result, AD, AE, AM]
    simp [k1, k2, k3, Lm.kind_mk, Lm.idx_mk, Lm.subs_mk]
   ·refine CL.ac fun C hC => ?_
    unfold Br
    repeat' (first | (with_reducible first | refine W ?_ | refine Z0 ?_ | ((first | refine Wo fun K hK => ?_ | refine Wp ?_ | refine Wq ?_ | refine Wr ?_); (try simp only [go_sem, fN, seval, eT, iR, k1, k2, k3, dT, dF, nL]); (repeat refine Ai ?_); (try (refine hK _ ?_; clear hK K)); try refine iC ?_)) | refine Cg _ (K8 t.idx) ?_)
    simp only [go_sem, fN, seval, AY, AS.result, AD, AE, AM]
    simp [k1, k2, k3, Lm.kind_mk, Lm.idx_mk, Lm.subs_mk]
 have hcase : t.kind = 2 ∨ ¬ t.kind = 2 := by omega
 rcases hcase with k2 | k2
 all_goals
  refine CL.ac fun C hC => ?_
  unfold Br
  repeat' with_reducible first | refine W ?_ | refine Z0 ?_ | ((first | refine Wo fun K hK => ?_ | refine Wp ?_ | refine Wq ?_ | refine Wr ?_); (try simp only [go_sem, fN, seval, eT, iR, k1, k2, dT, dF, nL]); (repeat refine Ai ?_); (try (refine hK _ ?_; clear hK K)); try refine iC ?_)
  refine IWP.ghost (As.ownC 7 2 21 24 3 (xs := ([] : List Lm).map Ac) rfl rfl rfl Bn) ?_
  refine IWP.loopD [9] (fun n s => ∃ k, k ≤ t.subs.length ∧ n = t.subs.length - k ∧ s.env 2 = AK (Af t.kind d) ∧ s.env 4 = .one (.ptr 4 1 0 0) ∧ s.env 6 = .one (.ptr 6 1 0 0) ∧ s.env 7 = .one (.ptr 7 1 0 0) ∧ s.S 4 = some (.box 24 [.st (.int .i64 x.kind), .st (.int .i64 x.idx), .st (.list (x.subs.map Ac))]) ∧ s.S 6 = some (.box 24 [.st (.int .i64 0), .st (.int .i64 0), .full []])
   ∧ s.S 7 = some (.box 24 [.st (.int .i64 t.kind), .st (.int .i64 t.idx), .row 21 k]) ∧ s.S 21 = some (.arow 24 3 (((t.subs.take k).map (Lm.put x (Af t.kind d))).map Ac)) ∧ s.env 44 = .one (.st (.list (t.subs.map Ac))) ∧ s.env 45 = AK t.subs.length ∧ s.env 46 = AK k ∧ s.S 9 = none) t.subs.length
   ⟨0, Nat.zero_le _, rfl, by simp only [k1, k2, Af, Int.reduceEq, ↓reduceIte]; rfl, rfl, rfl, rfl, rfl, rfl, by first | rfl | (simp only [k1, k2]; rfl), rfl, rfl, rfl, rfl, rfl⟩ ?_
  rintro n ⟨env, S⟩ ⟨k, hk', rfl, e2, e4, e6, e7, s4, s6, s7, s21, e44, e45, e46, s9⟩
  simp only at e2 e4 e6 e7 s4 s6 s7 s21 e44 e45 e46 s9
  have hlk : (t.subs.take k).length = k := by rw [List.length_take]; omega
  by_cases hlt : (k : Int) < t.subs.length
  ·obtain ⟨a, ha⟩ := Ak (show k < t.subs.length by omega)
   have z3 := Lm.size_mem (AJ ha)
   repeat' (first | (with_reducible first | refine W ?_ | refine Z0 ?_ | ((first | refine Wo fun K hK => ?_ | refine Wp ?_ | refine Wq ?_ | refine Wr ?_); (try simp only [go_sem, fN, seval, eT, iR, e2, e4, e6, e7, s4, s6, s7, s21, e44, e45, e46, s9, ha, hlt, hlk, dT, dF, nL]); (repeat refine Ai ?_); (try (refine hK _ ?_; clear hK K)); try refine iC ?_)) | refine Cg _ (ih _ (Lm.lt_of_sub (AJ ha)) a (Af t.kind d) (Lm.good_sub hg (AJ ha)) hu2.2 (by omega) rfl) ?_)
   refine AH ⟨t.subs.length - (k + 1), by omega, k + 1, by omega, rfl, ?_⟩
   simp only [go_sem, fN, seval, AS.drop, AN, AC.clears, AC.clear, AC.highs, AC.high, Bool.not_false, Bool.true_and, Bool.and_self, AV.purge, AV.purges, AC.purge, AI.purge, List.contains_cons, List.contains_nil, Nat.reduceBEq, Bool.or_self, Bool.or_false, Bool.false_or, Bool.or_true, eT, iR, e2, e4, e6, e7, s4, s6, s7, s21, e44, e45, e46, s9]
   exact ⟨by rw [Al ha]; simp [AB], by congr 3⟩
  ·repeat' with_reducible first | refine W ?_ | refine Z0 ?_ | ((first | refine Wo fun K hK => ?_ | refine Wp ?_ | refine Wq ?_ | refine Wr ?_); (try simp only [go_sem, fN, seval, eT, iR, e2, e4, e6, e7, s4, s6, s7, s21, e44, e45, e46, s9, hlt, dT, dF, nL]); (repeat refine Ai ?_); (try (refine hK _ ?_; clear hK K)); try refine iC ?_)
   have hall : t.subs.take k = t.subs := List.take_of_length_le (by omega)
   rw [hall] at s21
   have hkl : k = t.subs.length := by omega
   simp only [go_sem, fN, seval, AY, AS.result, AD, AE, AM, e6, s6, s7, s21, hkl]
   simp [k1, k2, Lm.kind_mk, Lm.idx_mk, Lm.subs_mk]
theorem Lt (t x : Lm) (hg : t.good 1000000000) (hx : x.good 1000000000) (hxz : x.size ≤ 1000000000) (hz : t.size ≤ 1000000000) : Aa Tryd.prog 56 [aLm t, aLm x] (aLm (Lm.put x 0 t)) := by
 refine G3.ac fun C hC => ?_
 unfold EQ
 repeat' (first | (with_reducible first | refine W ?_ | refine Z0 ?_ | ((first | refine Wo fun K hK => ?_ | refine Wp ?_ | refine Wq ?_ | refine Wr ?_); (try simp only [go_sem, fN, seval, eT, iR, dT, dF, nL]); (repeat refine Ai ?_); (try (refine hK _ ?_; clear hK K)); try refine iC ?_)) | refine Cg _ (O0 t x 0 hg hx hxz (by decide) (by omega)) ?_)
 simp only [go_sem, fN, seval, AY, AS.result, AD, AE, AM]
abbrev Pu (x : Lm) : AV := .one (.st (.list [[.int .i64 x.kind, .int .i64 x.idx, .list (x.subs.map Ac)]]))
theorem LC (t x : Lm) (d : Int) (hg : t.good 1000000000) (hx : x.good 1000000000) (hxz : x.size ≤ 1000000000) (hd : 0 ≤ d) (hz : d + t.size ≤ 1000000000) : Aa Tryd.prog 64 [aLm t, Pu x, AK d] (aLm (Lm.put x d t)) := by
 induction h : SizeOf.sizeOf t using Nat.strongRecOn generalizing t d with
 | _ N ih =>
 subst h
 have hs := Lm.size_eq t
 have hlen := Lm.length_le t.subs
 obtain ⟨g1, g2, g3, g4⟩ := (Lm.good_eq _ _).1 hg
 have hu2 : Af t.kind d ≤ d + 1 ∧ 0 ≤ Af t.kind d := by unfold Af; split <;> omega
 rw [Lm.put_eq]
 by_cases k1 : t.kind = 1
 ·have g1 := g1 k1
  by_cases k2 : t.idx = d
  ·have k3 : ¬ t.idx < d := by omega
   have k4 : t.idx - d = 0 := by omega
   refine Cl.ac fun C hC => ?_
   unfold CC
   repeat' (first | (with_reducible first | refine W ?_ | refine Z0 ?_ | ((first | refine Wo fun K hK => ?_ | refine Wp ?_ | refine Wq ?_ | refine Wr ?_); (try simp only [go_sem, fN, seval, eT, iR, k1, k3, k4, Int.cast_ofNat_Int, dT, dF, nL]); (repeat refine Ai ?_); (try (refine hK _ ?_; clear hK K)); try refine iC ?_)) | refine Cg _ (IE x d 0 hx (by omega) (by omega) (by omega)) ?_)
   simp only [go_sem, fN, seval, AY, AS.result, AD, AE, AM]
   try simp [k1, k2]
  ·by_cases k3 : d < t.idx
   ·have k4 : ¬ t.idx < d := by omega
    have k5 : ¬ t.idx - d < 1 := by omega
    refine Cl.ac fun C hC => ?_
    unfold CC
    repeat' (first | (with_reducible first | refine W ?_ | refine Z0 ?_ | ((first | refine Wo fun K hK => ?_ | refine Wp ?_ | refine Wq ?_ | refine Wr ?_); (try simp only [go_sem, fN, seval, eT, iR, k1, k4, k5, Int.cast_ofNat_Int, dT, dF, nL]); (repeat refine Ai ?_); (try (refine hK _ ?_; clear hK K)); try refine iC ?_)) | refine Cg _ (Df (t.idx - 1)) ?_)
    simp only [go_sem, fN, seval, AY, AS.result, AD, AE, AM]
    simp [k1, k2, k3, Lm.kind_mk, Lm.idx_mk, Lm.subs_mk]
   ·have k4 : t.idx < d := by omega
    refine Cl.ac fun C hC => ?_
    unfold CC
    repeat' with_reducible first | refine W ?_ | refine Z0 ?_ | ((first | refine Wo fun K hK => ?_ | refine Wp ?_ | refine Wq ?_ | refine Wr ?_); (try simp only [go_sem, fN, seval, eT, iR, k1, k4, dT, dF, nL]); (repeat refine Ai ?_); (try (refine hK _ ?_; clear hK K)); try refine iC ?_)
    simp only [go_sem, fN, seval, AY, AS.result, AD, AE, AM]
    simp [k1, k2, k3, g1, Lm.kind_mk, Lm.idx_mk, Lm.subs_mk]
 have hcase : t.kind = 2 ∨ ¬ t.kind = 2 := by omega
 rcases hcase with k2 | k2
 all_goals
  refine Cl.ac fun C hC => ?_
  unfold CC
  repeat' with_reducible first | refine W ?_ | refine Z0 ?_ | ((first | refine Wo fun K hK => ?_ | refine Wp ?_ | refine Wq ?_ | refine Wr ?_); (try simp only [go_sem, fN, seval, eT, iR, k1, k2, dT, dF, nL]); (repeat refine Ai ?_); (try (refine hK _ ?_; clear hK K)); try refine iC ?_)
  refine IWP.ghost (As.ownC 8 2 21 24 3 (xs := ([] : List Lm).map Ac) rfl rfl rfl Bn) ?_
  refine IWP.loop (fun n s => ∃ k, k ≤ t.subs.length ∧ n = t.subs.length - k ∧ s.env 1 = Pu x ∧ s.env 2 = AK (Af t.kind d) ∧ s.env 3 = .one (.ptr 3 1 0 0) ∧ s.env 6 = .one (.ptr 6 1 0 0) ∧ s.env 8 = .one (.ptr 8 1 0 0) ∧ s.S 3 = some (.box 24 [.st (.int .i64 t.kind), .st (.int .i64 t.idx), .st (.list (t.subs.map Ac))]) ∧ s.S 6 = some (.box 24 [.st (.int .i64 0), .st (.int .i64 0), .full []])
   ∧ s.S 8 = some (.box 24 [.st (.int .i64 t.kind), .st (.int .i64 t.idx), .row 21 k]) ∧ s.S 21 = some (.arow 24 3 (((t.subs.take k).map (Lm.put x (Af t.kind d))).map Ac)) ∧ s.env 9 = AK k) t.subs.length
   ⟨0, Nat.zero_le _, rfl, rfl, by simp only [k1, k2, Af, Int.reduceEq, ↓reduceIte]; rfl, rfl, rfl, rfl, by first | rfl | (simp only [k1, k2]; rfl), rfl, by first | rfl | (simp only [k1, k2]; rfl), rfl, rfl⟩ ?_
  rintro n ⟨env, S⟩ ⟨k, hk', rfl, e1, e2, e3, e6, e8, s3, s6, s8, s21, e9⟩
  simp only at e1 e2 e3 e6 e8 s3 s6 s8 s21 e9
  have hlk : (t.subs.take k).length = k := by rw [List.length_take]; omega
  by_cases hlt : (k : Int) < t.subs.length
  ·obtain ⟨a, ha⟩ := Ak (show k < t.subs.length by omega)
   have z3 := Lm.size_mem (AJ ha)
   repeat' (first | (with_reducible first | refine W ?_ | refine Z0 ?_ | ((first | refine Wo fun K hK => ?_ | refine Wp ?_ | refine Wq ?_ | refine Wr ?_); (try simp only [go_sem, fN, seval, eT, iR, e1, e2, e3, e6, e8, s3, s6, s8, s21, e9, ha, hlt, hlk, dT, dF, nL]); (repeat refine Ai ?_); (try (refine hK _ ?_; clear hK K)); try refine iC ?_)) | refine Cg _ (ih _ (Lm.lt_of_sub (AJ ha)) a (Af t.kind d) (Lm.good_sub hg (AJ ha)) hu2.2 (by omega) rfl) ?_)
   refine AH ⟨t.subs.length - (k + 1), by omega, k + 1, by omega, rfl, ?_⟩
   simp only [go_sem, fN, seval, eT, iR, e1, e2, e3, e6, e8, s3, s6, s8, s21, e9]
   exact ⟨by rw [Al ha]; simp [AB], by congr 3⟩
  ·repeat' with_reducible first | refine W ?_ | refine Z0 ?_ | ((first | refine Wo fun K hK => ?_ | refine Wp ?_ | refine Wq ?_ | refine Wr ?_); (try simp only [go_sem, fN, seval, eT, iR, e1, e2, e3, e6, e8, s3, s6, s8, s21, e9, hlt, dT, dF, nL]); (repeat refine Ai ?_); (try (refine hK _ ?_; clear hK K)); try refine iC ?_)
   have hall : t.subs.take k = t.subs := List.take_of_length_le (by omega)
   rw [hall] at s21
   have hkl : k = t.subs.length := by omega
   simp only [go_sem, fN, seval, AY, AS.result, AD, AE, AM, e6, s6, s8, s21, hkl]
   simp [k1, k2, Lm.kind_mk, Lm.idx_mk, Lm.subs_mk]
theorem OY (t x : Lm) (hg : t.good 1000000000) (hx : x.good 1000000000) (hxz : x.size ≤ 1000000000) (hz : t.size ≤ 1000000000) : Aa Tryd.prog 45 [aLm t, aLm x] (aLm (Lm.put x 0 t)) := by
 refine Ma.ac fun C hC => ?_
 unfold Ie
 repeat' (first | (with_reducible first | refine W ?_ | refine Z0 ?_ | ((first | refine Wo fun K hK => ?_ | refine Wp ?_ | refine Wq ?_ | refine Wr ?_); (try simp only [go_sem, fN, seval, eT, iR, dT, dF, nL]); (repeat refine Ai ?_); (try (refine hK _ ?_; clear hK K)); try refine iC ?_)) | refine Cg _ (LC t x 0 hg hx hxz (by decide) (by omega)) ?_)
 simp only [go_sem, fN, seval, AY, AS.result, AD, AE, AM]

set_option maxHeartbeats 1000000 in
theorem Oe (t : Lm) (u m : Int) (hu : 0 ≤ u) (hz : u + t.size ≤ 1000000000) : Aa Tryd.prog 24 [aLm t, AK u, AK m] (AK (t.chk m u)) := by
 induction h : SizeOf.sizeOf t using Nat.strongRecOn generalizing t u with
 | _ N ih =>
 subst h
 have hs := Lm.size_eq t
 have hlen := Lm.length_le t.subs
 refine Jf.ac fun C hC => ?_
 unfold GO
 by_cases hk : 1 ≤ t.kind ∧ t.kind ≤ 5
 case neg =>
  rw [Lm.chk_eq, if_neg (fun h => hk ⟨h.1, h.2.1⟩)]
  have q1 : ¬ t.kind = 1 := by omega
  have q2 : ¬ t.kind = 2 := by omega
  have q3 : ¬ t.kind = 3 := by omega
  have q4 : ¬ t.kind = 4 := by omega
  have q5 : ¬ t.kind = 5 := by omega
  repeat' with_reducible first | refine W ?_ | refine Z0 ?_ | ((first | refine Wo fun K hK => ?_ | refine Wp ?_ | refine Wq ?_ | refine Wr ?_); (try simp only [go_sem, fN, seval, eT, iR, q1, q2, q3, q4, q5, dT, dF, nL]); (repeat refine Ai ?_); (try (refine hK _ ?_; clear hK K)); try refine iC ?_)
  simp only [go_sem, fN, seval, AY, AS.result, AD, AE, AM]
 case pos =>
 have hk5 := Jx hk
 by_cases hl : (t.subs.length : Int) = BX t.kind
 case neg =>
  rw [Lm.chk_eq, if_neg (fun h => hl h.2.2)]
  rcases hk5 with hk5 | hk5 | hk5 | hk5 | hk5
  all_goals
   simp only [hk5, BX, Int.reduceEq, ↓reduceIte] at hl
   repeat' with_reducible first | refine W ?_ | refine Z0 ?_ | ((first | refine Wo fun K hK => ?_ | refine Wp ?_ | refine Wq ?_ | refine Wr ?_); (try simp only [go_sem, fN, seval, eT, iR, hk5, hl, dT, dF, nL]); (repeat refine Ai ?_); (try (refine hK _ ?_; clear hK K)); try refine iC ?_)
   simp only [go_sem, fN, seval, AY, AS.result, AD, AE, AM]
 case pos =>
 by_cases h0 : t.idx < 0
 case pos =>
  rw [Lm.chk_eq, if_pos ⟨hk.1, hk.2, hl⟩, if_neg (fun h => by omega)]
  rcases hk5 with hk5 | hk5 | hk5 | hk5 | hk5
  all_goals
   simp only [hk5, BX, Int.reduceEq, ↓reduceIte] at hl
   repeat' with_reducible first | refine W ?_ | refine Z0 ?_ | ((first | refine Wo fun K hK => ?_ | refine Wp ?_ | refine Wq ?_ | refine Wr ?_); (try simp only [go_sem, fN, seval, eT, iR, hk5, hl, h0, dT, dF, nL]); (repeat refine Ai ?_); (try (refine hK _ ?_; clear hK K)); try refine iC ?_)
   simp only [go_sem, fN, seval, AY, AS.result, AD, AE, AM]
 case neg =>
 by_cases hm : Ca t.kind u m ≤ t.idx
 case pos =>
  rw [Lm.chk_eq, if_pos ⟨hk.1, hk.2, hl⟩, if_neg (fun h => by omega)]
  rcases hk5 with hk5 | hk5 | hk5 | hk5 | hk5
  all_goals
   simp only [hk5, BX, Ca, Int.reduceEq, ↓reduceIte] at hl hm
   repeat' with_reducible first | refine W ?_ | refine Z0 ?_ | ((first | refine Wo fun K hK => ?_ | refine Wp ?_ | refine Wq ?_ | refine Wr ?_); (try simp only [go_sem, fN, seval, eT, iR, hk5, hl, h0, hm, dT, dF, nL]); (repeat refine Ai ?_); (try (refine hK _ ?_; clear hK K)); try refine iC ?_)
   simp only [go_sem, fN, seval, AY, AS.result, AD, AE, AM]
 case neg =>
 rw [Lm.chk_eq, if_pos ⟨hk.1, hk.2, hl⟩, if_pos (by omega)]
 rcases hk5 with hk5 | hk5 | hk5 | hk5 | hk5
 all_goals
  simp only [hk5, BX, Ca, Int.reduceEq, ↓reduceIte] at hl hm
  repeat' with_reducible first | refine W ?_ | refine Z0 ?_ | ((first | refine Wo fun K hK => ?_ | refine Wp ?_ | refine Wq ?_ | refine Wr ?_); (try simp only [go_sem, fN, seval, eT, iR, hk5, hl, h0, hm, dT, dF, nL]); (repeat refine Ai ?_); (try (refine hK _ ?_; clear hK K)); try refine iC ?_)
  refine IWP.loop (fun n s => ∃ k, k ≤ t.subs.length ∧ n = t.subs.length - k ∧ Lm.chks m (t.subs.take k) (Af t.kind u) = 0 ∧ s.env 2 = AK m ∧ s.env 3 = .one (.ptr 3 1 0 0) ∧ s.S 3 = some (.box 24 [.st (.int .i64 t.kind), .st (.int .i64 t.idx), .st (.list (t.subs.map Ac))]) ∧ s.env 8 = AK t.subs.length ∧ s.env 9 = AK (Af t.kind u) ∧ s.env 10 = AK k) t.subs.length ⟨0, Nat.zero_le _, rfl, rfl, rfl, rfl, by simp only [hk5]; rfl, by simp only [go_sem, fN, seval, eT, iR, hl], by simp only [hk5, Af]; rfl, rfl⟩ ?_
  rintro n ⟨env, S⟩ ⟨k, hk', rfl, hc, e2, e3, s3, e8, e9, e10⟩
  simp only at e2 e3 s3 e8 e9 e10
  by_cases hlt : (k : Int) < t.subs.length
  ·obtain ⟨a, ha⟩ := Ak (show k < t.subs.length by omega)
   have z3 := Lm.size_mem (AJ ha)
   have hu2 : Af t.kind u ≤ u + 1 ∧ 0 ≤ Af t.kind u := by unfold Af; split <;> omega
   repeat' with_reducible first | refine W ?_ | refine Z0 ?_ | ((first | refine Wo fun K hK => ?_ | refine Wp ?_ | refine Wq ?_ | refine Wr ?_); (try simp only [go_sem, fN, seval, eT, iR, e2, e3, s3, e8, e9, e10, ha, hlt, dT, dF, nL]); (repeat refine Ai ?_); (try (refine hK _ ?_; clear hK K)); try refine iC ?_)
   refine ⟨_, ih _ (Lm.lt_of_sub (AJ ha)) a (Af t.kind u) hu2.2 (by omega) rfl, ?_⟩
   by_cases hr : a.chk m (Af t.kind u) = 0
   ·repeat' with_reducible first | refine W ?_ | refine Z0 ?_ | ((first | refine Wo fun K hK => ?_ | refine Wp ?_ | refine Wq ?_ | refine Wr ?_); (try simp only [go_sem, fN, seval, eT, iR, e2, e3, s3, e8, e9, e10, hr, dT, dF, nL]); (repeat refine Ai ?_); (try (refine hK _ ?_; clear hK K)); try refine iC ?_)
    refine AH ⟨t.subs.length - (k + 1), by omega, k + 1, by omega, rfl, ?_⟩
    simp only [go_sem, fN, seval, eT, iR, e2, e3, s3, e8, e9, e10]
    exact ⟨by rw [Lm.chks_take ha hc, hr], by congr 3⟩
   ·repeat' with_reducible first | refine W ?_ | refine Z0 ?_ | ((first | refine Wo fun K hK => ?_ | refine Wp ?_ | refine Wq ?_ | refine Wr ?_); (try simp only [go_sem, fN, seval, eT, iR, e2, e3, s3, e8, e9, e10, hr, dT, dF, nL]); (repeat refine Ai ?_); (try (refine hK _ ?_; clear hK K)); try refine iC ?_)
    simp only [go_sem, fN, seval, AY, AS.result, AD, AE, AM]
    simp only [hk5] at hc hr ⊢
    rw [Lm.chks_bad (k := k + 1) (by rw [Lm.chks_take ha hc]; exact hr), Lm.chks_take ha hc]
  ·repeat' with_reducible first | refine W ?_ | refine Z0 ?_ | ((first | refine Wo fun K hK => ?_ | refine Wp ?_ | refine Wq ?_ | refine Wr ?_); (try simp only [go_sem, fN, seval, eT, iR, e2, e3, s3, e8, e9, e10, hlt, dT, dF, nL]); (repeat refine Ai ?_); (try (refine hK _ ?_; clear hK K)); try refine iC ?_)
   simp only [go_sem, fN, seval, AY, AS.result, AD, AE, AM]
   rw [List.take_of_length_le (by omega)] at hc
   simp only [hk5] at hc ⊢
   rw [hc]

set_option maxRecDepth 100000
def GT : IR :=
 (.seq (.ops [.i 2 (.box 24 (.t 0)), .i 3 (.box 24 (.t 1)), .i 4 (.alloc 24 [.st (.int .i64 0), .st (.int .i64 0), .full []])]) (.seq (.ops [.L 5 3 2, .L 6 3 3, .i 7 (.buildSlice false 24 3 [.t 5, .t 6]), .i 8 (.build [.st (.int .i64 0), .st (.int .i64 0), .full []] [(0, 1, .n 3), (2, 1, .t 7)]), .s 3 4 8]) .ret))
theorem J2 : OkF Tryd.prog 57 9 [] GT [.cell 4 true 3] := .of Tryd.func57 rfl rfl (by kernel_rfl) rfl
def GU : IR :=
 (.seq (.ops [.i 1 (.box 24 (.t 0)), .i 2 (.alloc 24 [.st (.int .i64 0), .st (.int .i64 0), .full []])]) (.seq (.ops [.L 3 3 1, .i 4 (.buildSlice false 24 3 [.t 3]), .i 5 (.build [.st (.int .i64 0), .st (.int .i64 0), .full []] [(0, 1, .n 2), (2, 1, .t 4)]), .s 3 2 5]) .ret))
theorem KY : OkF Tryd.prog 73 6 [] GU [.cell 2 true 3] := .of Tryd.func73 rfl rfl (by kernel_rfl) rfl
def D7 : IR :=
 (.seq (.ops [.i 1 (.box 24 (.t 0)), .i 2 (.alloc 24 [.st (.int .i64 0), .st (.int .i64 0), .full []])]) (.seq (.ops [.L 3 3 1, .i 4 (.call 40 [.t 3, .n 0, .n 0]), .s 3 2 4]) .ret))
theorem Ho : OkF Tryd.prog 65 5 [] D7 [.cell 2 true 3] := .of Tryd.func65 rfl rfl (by kernel_rfl) rfl
def EL : IR :=
 (.seq (.ops [.i 2 (.box 24 (.t 0)), .i 3 (.box 24 (.t 1)), .i 4 (.mov (.c (.one (.st (.bool false)))))]) (.seq (.ops [.f 5 0 2, .l 6 5, .f 7 0 3, .l 8 7, .i 9 (.bin .eql (.t 6) (.t 8)), .m 10 9, .mk (some 11) (some (10, true)) (.fieldAddr 1 (.t 2)) .no, .mk (some 12) (some (10, true)) (.load false 1 (.t 11)) .no, .mk (some 13) (some (10, true)) (.fieldAddr 1 (.t 3)) .no, .mk (some 14) (some (10, true)) (.load false 1 (.t 13)) .no, .mk (some 15) (some (10, true)) (.bin .eql (.t 12) (.t 14)) .no, .i 16 (.pick (.t 10) (.t 15) (.c (.one (.st (.bool false))))), .m 17 16, .mk (some 18) (some (17, true)) (.fieldAddr 2 (.t 2)) .no, .mk (some 19) (some (17, true)) (.load false 1 (.t 18)) .no, .mk (some 20) (some (17, true)) (.fieldAddr 2 (.t 3)) .no, .mk (some 21) (some (17, true)) (.load false 1 (.t 20)) .no, .mk (some 22) (some (17, true)) (.call 70 [.t 19, .t 21, .c (.one (.fn 54 []))]) .no, .i 23 (.pick (.t 17) (.t 22) (.c (.one (.st (.bool false))))), .m 4 23]) .ret))
theorem Hp : OkF Tryd.prog 54 24 [] EL [.t 4] := .of Tryd.func54 rfl rfl (by kernel_rfl) rfl
def Ad : IR :=
 (.seq (.ops [.i 6 (.mov (.c (.one (.st (.bool false)))))]) (.seq (.seq (.ops [.m 10 0, .i 11 (.len false (.t 10)), .m 12 1, .i 13 (.len false (.t 12)), .i 14 (.bin .neq (.t 11) (.t 13))]) (.cond (.t 14) (.seq (.ops [.i 6 (.mov (.c (.one (.st (.bool false)))))]) .ret) .skip)) (.seq (.seq (.ops [.m 15 0, .i 16 (.len false (.t 15)), .i 17 (.mov (.n 0))]) (.block 0 (.loop (.seq (.ops [.i 18 (.bin .lss (.t 17) (.t 16))]) (.seq (.cond (.t 18) .skip (.exit 0)) (.seq (.block 1 (.seq (.ops [.m 19 17, .i 20 (.indexAddr 3 (.t 15) (.t 17)), .L 21 3 20, .i 8 (.alloc 24 [.st (.int .i64 0), .st (.int .i64 0), .full []]), .m 7 19, .s 3 8 21]) (.seq (.ops [.m 22 1, .m 23 7, .i 24 (.indexAddr 3 (.t 22) (.t 23)), .L 25 3 24, .i 9 (.alloc 24 [.st (.int .i64 0), .st (.int .i64 0), .full []]), .s 3 9 25]) (.seq (.ops [.m 26 2, .L 27 3 8, .L 28 3 9, .i 29 (.callV (.t 26) [.t 27, .t 28]), .i 30 (.un .not (.t 29))]) (.cond (.t 30) (.seq (.ops [.i 6 (.mov (.c (.one (.st (.bool false)))))]) .ret) .skip))))) (.ops [.i 31 (.bin .add (.t 17) (.n 1)), .m 17 31]))))))) (.seq (.ops [.i 6 (.mov (.c (.one (.st (.bool true)))))]) .ret))))
theorem Ar : OkF Tryd.prog 70 32 [] Ad [.t 6] := .of Tryd.func70 rfl rfl (by kernel_rfl) rfl
def D0 : IR :=
 (.seq (.ops [.i 1 (.box 24 (.t 0)), .i 2 (.mov (.c (.one (.st (.bool false)))))]) (.seq (.ops [.f 3 0 1, .l 4 3, .i 5 (.bin .eql (.t 4) (.n 3)), .m 6 5, .mk (some 7) (some (6, true)) (.fieldAddr 2 (.t 1)) .no, .mk (some 8) (some (6, true)) (.load false 1 (.t 7)) .no, .mk (some 9) (some (6, true)) (.indexAddr 3 (.t 8) (.n 0)) .no, .mk (some 10) (some (6, true)) (.fieldAddr 0 (.t 9)) .no, .mk (some 11) (some (6, true)) (.load false 1 (.t 10)) .no, .mk (some 12) (some (6, true)) (.bin .eql (.t 11) (.n 2)) .no, .i 13 (.pick (.t 6) (.t 12) (.c (.one (.st (.bool false))))), .m 2 13]) .ret))
theorem Ga : OkF Tryd.prog 66 14 [] D0 [.t 2] := .of Tryd.func66 rfl rfl (by kernel_rfl) rfl
def Ev : IR :=
 (.seq (.ops [.i 1 (.box 24 (.t 0)), .i 2 (.alloc 24 [.st (.int .i64 0), .st (.int .i64 0), .full []])]) (.seq (.ops [.f 3 2 1, .l 4 3, .i 5 (.indexAddr 3 (.t 4) (.n 0)), .f 6 2 5, .l 7 6, .i 8 (.indexAddr 3 (.t 7) (.n 0)), .L 9 3 8, .f 10 2 1, .l 11 10, .i 12 (.indexAddr 3 (.t 11) (.n 1)), .L 13 3 12, .i 14 (.call 56 [.t 9, .t 13]), .s 3 2 14]) .ret))
theorem Hy : OkF Tryd.prog 67 15 [] Ev [.cell 2 true 3] := .of Tryd.func67 rfl rfl (by kernel_rfl) rfl
def ER : IR :=
 (.seq (.ops [.i 3 (.box 24 (.t 0)), .i 5 (.box 24 (.t 2)), .i 6 (.alloc 24 [.st (.int .i64 0), .st (.int .i64 0), .full []])]) (.seq (.ops [.mk (some 8) none (.fieldAddr 0 (.t 3)) (.onb 3), .mk (some 9) none (.load false 1 (.t 8)) (.onb 3), .mk (some 10) none (.fieldAddr 1 (.t 3)) (.onb 3), .mk (some 11) none (.load false 1 (.t 10)) (.onb 3), .i 12 (.buildSlice false 24 3 []), .f 13 2 3, .l 14 13, .mk (some 15) none (.append true 24 3 40 (.t 12) (.t 14)) (.keeps [3, 3, 3, 3]), .i 16 (.build [.st (.int .i64 0), .st (.int .i64 0), .full []] [(0, 1, .t 9), (1, 1, .t 11), (2, 1, .t 15)]), .i 7 (.alloc 24 [.st (.int .i64 0), .st (.int .i64 0), .full []]), .s 3 7 16]) (.seq (.ops [.f 17 2 7, .l 18 17, .m 19 1, .L 20 3 5, .i 21 (.indexAddr 3 (.t 18) (.t 19)), .s 3 21 20]) (.seq (.ops [.L 22 3 7, .s 3 6 22]) .ret))))
theorem G6 : OkF Tryd.prog 68 23 [15] ER [.cell 6 true 3] := .of Tryd.func68 rfl rfl (by kernel_rfl) rfl
def Ce : IR :=
 (.seq (.ops [.i 1 (.box 24 (.t 0)), .i 2 (.alloc 24 [.st (.int .i64 0), .st (.int .i64 0), .full []]), .i 3 (.mov (.c (.one (.st (.bool false)))))]) (.seq (.seq (.ops [.L 8 3 1, .i 9 (.call 66 [.t 8])]) (.cond (.t 9) (.seq (.ops [.L 10 3 1, .i 11 (.call 67 [.t 10]), .s 3 2 11, .i 3 (.mov (.c (.one (.st (.bool true)))))]) .ret) .skip)) (.seq (.seq (.ops [.f 12 2 1, .l 13 12, .i 14 (.len false (.t 13)), .i 15 (.mov (.n 0))]) (.block 0 (.loop (.seq (.ops [.i 16 (.bin .lss (.t 15) (.t 14))]) (.seq (.cond (.t 16) .skip (.exit 0)) (.seq (.block 1 (.seq (.ops [.m 17 15, .i 18 (.indexAddr 3 (.t 13) (.t 15)), .L 19 3 18, .i 5 (.alloc 24 [.st (.int .i64 0), .st (.int .i64 0), .full []]), .m 4 17, .s 3 5 19]) (.seq (.ops [.L 21 3 5, .i 22 (.call 48 [.t 21]), .m 20 22, .i 23 (.extract 0 (.t 20)), .i 24 (.extract 1 (.t 20)), .i 6 (.alloc 24 [.st (.int .i64 0), .st (.int .i64 0), .full []]), .s 3 6 23, .m 7 24]) (.seq (.ops [.m 25 7]) (.cond (.t 25) (.seq (.ops [.L 26 3 1, .m 27 4, .L 28 3 6, .i 29 (.call 68 [.t 26, .t 27, .t 28]), .s 3 2 29, .i 3 (.mov (.c (.one (.st (.bool true)))))]) .ret) .skip))))) (.ops [.i 30 (.bin .add (.t 15) (.n 1)), .m 15 30]))))))) (.seq (.ops [.L 31 3 1, .s 3 2 31, .i 3 (.mov (.c (.one (.st (.bool false)))))]) .ret))))
theorem Dy : OkF Tryd.prog 48 32 [] Ce [.cell 2 true 3, .t 3] := .of Tryd.func48 rfl rfl (by kernel_rfl) rfl
def EP : IR :=
 (.seq (.ops [.i 3 (.box 24 (.t 0)), .i 6 (.alloc 24 [.st (.int .i64 0), .st (.int .i64 0), .full []]), .i 7 (.mov (.n 0)), .i 8 (.mov (.n 0))]) (.seq (.ops [.i 9 (.mov (.n 0))]) (.block 0 (.loop (.seq (.block 1 (.seq (.ops [.m 15 2, .L 16 3 3, .i 17 (.callV (.t 15) [.t 16]), .m 14 17, .i 18 (.extract 0 (.t 14)), .i 19 (.extract 1 (.t 14)), .i 10 (.alloc 24 [.st (.int .i64 0), .st (.int .i64 0), .full []]), .s 3 10 18, .m 11 19]) (.seq (.seq (.ops [.m 20 11, .i 21 (.un .not (.t 20))]) (.cond (.t 21) (.seq (.ops [.L 22 3 3, .i 23 (.call 65 [.t 22]), .m 24 9, .s 3 6 23, .m 7 24, .i 8 (.mov (.n 0))]) .ret) .skip)) (.seq (.seq (.ops [.m 25 9, .m 26 1, .i 27 (.bin .eql (.t 25) (.t 26))]) (.cond (.t 27) (.seq (.ops [.i 28 (.build [.st (.int .i64 0), .st (.int .i64 0), .full []] []), .s 3 6 28, .i 7 (.mov (.n 0)), .i 8 (.mov (.n 9))]) .ret) .skip)) (.seq (.ops [.L 29 3 10, .s 3 3 29]) (.seq (.ops [.L 30 3 3, .i 31 (.call 32 [.t 30]), .i 32 (.bin .gtr (.t 31) (.n 2000))]) (.cond (.t 32) (.seq (.ops [.i 33 (.build [.st (.int .i64 0), .st (.int .i64 0), .full []] []), .s 3 6 33, .i 7 (.mov (.n 0)), .i 8 (.mov (.n 8))]) .ret) .skip))))))) (.ops [.m 12 9, .i 13 (.bin .add (.t 12) (.n 1)), .m 9 13]))))))
theorem G8 : OkF Tryd.prog 47 34 [] EP [.cell 6 true 3, .t 7, .t 8] := .of Tryd.func47 rfl rfl (by kernel_rfl) rfl
def DA : IR :=
 (.seq (.ops [.i 2 (.box 24 (.t 0)), .i 4 (.mov (.c (.one (.st (.bool false)))))]) (.seq (.seq (.ops [.f 7 0 2, .l 8 7, .i 9 (.bin .eql (.t 8) (.n 1))]) (.cond (.t 9) (.seq (.ops [.f 10 1 2, .l 11 10, .m 12 1, .i 13 (.bin .eql (.t 11) (.t 12)), .m 4 13]) .ret) .skip)) (.seq (.seq (.ops [.f 14 0 2, .l 15 14, .i 16 (.bin .eql (.t 15) (.n 2))]) (.cond (.t 16) (.ops [.m 17 1, .i 18 (.bin .add (.t 17) (.n 1)), .m 1 18]) .skip)) (.seq (.seq (.ops [.f 19 2 2, .l 20 19, .i 21 (.len false (.t 20)), .i 22 (.mov (.n 0))]) (.block 0 (.loop (.seq (.ops [.i 23 (.bin .lss (.t 22) (.t 21))]) (.seq (.cond (.t 23) .skip (.exit 0)) (.seq (.block 1 (.seq (.ops [.i 24 (.indexAddr 3 (.t 20) (.t 22)), .L 25 3 24, .i 6 (.alloc 24 [.st (.int .i64 0), .st (.int .i64 0), .full []]), .s 3 6 25]) (.seq (.ops [.L 26 3 6, .m 27 1, .i 28 (.call 39 [.t 26, .t 27])]) (.cond (.t 28) (.seq (.ops [.i 4 (.mov (.c (.one (.st (.bool true)))))]) .ret) .skip)))) (.ops [.i 29 (.bin .add (.t 22) (.n 1)), .m 22 29]))))))) (.seq (.ops [.i 4 (.mov (.c (.one (.st (.bool false)))))]) .ret)))))
theorem Ew : OkF Tryd.prog 39 30 [] DA [.t 4] := .of Tryd.func39 rfl rfl (by kernel_rfl) rfl
def Dw : IR :=
 (.seq (.ops [.i 1 (.box 24 (.t 0)), .i 2 (.alloc 24 [.st (.int .i64 0), .st (.int .i64 0), .full []])]) (.seq (.ops [.f 7 0 1, .l 8 7, .f 9 1 1, .l 10 9, .i 11 (.build [.st (.int .i64 0), .st (.int .i64 0), .full []] [(0, 1, .t 8), (1, 1, .t 10)]), .i 3 (.alloc 24 [.st (.int .i64 0), .st (.int .i64 0), .full []]), .s 3 3 11]) (.seq (.seq (.ops [.f 12 2 1, .l 13 12, .i 14 (.len false (.t 13)), .i 15 (.mov (.n 0))]) (.block 0 (.loop (.seq (.ops [.i 16 (.bin .lss (.t 15) (.t 14))]) (.seq (.cond (.t 16) .skip (.exit 0)) (.seq (.block 1 (.seq (.ops [.i 17 (.indexAddr 3 (.t 13) (.t 15)), .L 18 3 17, .i 5 (.alloc 24 [.st (.int .i64 0), .st (.int .i64 0), .full []]), .s 3 5 18]) (.ops [.f 19 2 3, .l 20 19, .L 21 3 5, .i 22 (.call 20 [.t 21]), .i 23 (.buildSlice false 24 3 [.t 22]), .i 24 (.append false 24 3 40 (.t 20) (.t 23)), .f 25 2 3, .s 1 25 24]))) (.ops [.i 26 (.bin .add (.t 15) (.n 1)), .m 15 26]))))))) (.seq (.seq (.ops [.f 27 0 1, .l 28 27, .i 29 (.bin .neq (.t 28) (.n 2))]) (.cond (.t 29) (.seq (.ops [.L 30 3 3, .s 3 2 30]) .ret) .skip)) (.seq (.seq (.ops [.f 31 2 3, .l 32 31, .i 33 (.indexAddr 3 (.t 32) (.n 0)), .L 34 3 33, .i 6 (.alloc 24 [.st (.int .i64 0), .st (.int .i64 0), .full []]), .s 3 6 34]) (.seq (.ops [.f 35 0 6, .l 36 35, .i 37 (.bin .eql (.t 36) (.n 3)), .m 38 37, .mk (some 39) (some (38, true)) (.fieldAddr 2 (.t 6)) .no, .mk (some 40) (some (38, true)) (.load false 1 (.t 39)) .no, .mk (some 41) (some (38, true)) (.indexAddr 3 (.t 40) (.n 1)) .no, .mk (some 42) (some (38, true)) (.fieldAddr 0 (.t 41)) .no, .mk (some 43) (some (38, true)) (.load false 1 (.t 42)) .no, .mk (some 44) (some (38, true)) (.bin .eql (.t 43) (.n 1)) .no, .i 45 (.pick (.t 38) (.t 44) (.c (.one (.st (.bool false))))), .m 46 45, .mk (some 47) (some (46, true)) (.fieldAddr 2 (.t 6)) .no, .mk (some 48) (some (46, true)) (.load false 1 (.t 47)) .no, .mk (some 49) (some (46, true)) (.indexAddr 3 (.t 48) (.n 1)) .no, .mk (some 50) (some (46, true)) (.fieldAddr 1 (.t 49)) .no, .mk (some 51) (some (46, true)) (.load false 1 (.t 50)) .no, .mk (some 52) (some (46, true)) (.bin .eql (.t 51) (.n 0)) .no, .i 53 (.pick (.t 46) (.t 52) (.c (.one (.st (.bool false))))), .m 54 53, .mk (some 55) (some (54, true)) (.fieldAddr 2 (.t 6)) .no, .mk (some 56) (some (54, true)) (.load false 1 (.t 55)) .no, .mk (some 57) (some (54, true)) (.indexAddr 3 (.t 56) (.n 0)) .no, .mk (some 58) (some (54, true)) (.load true 3 (.t 57)) .no, .mk (some 59) (some (54, true)) (.call 39 [.t 58, .n 0]) .no, .mk (some 60) (some (54, true)) (.un .not (.t 59)) .no, .i 61 (.pick (.t 54) (.t 60) (.c (.one (.st (.bool false)))))]) (.cond (.t 61) (.seq (.ops [.f 62 2 6, .l 63 62, .i 64 (.indexAddr 3 (.t 63) (.n 0)), .L 65 3 64, .i 66 (.call 40 [.t 65, .c (.one (.st (.int .i64 (-1)))), .n 0]), .s 3 2 66]) .ret) .skip))) (.seq (.ops [.L 67 3 3, .s 3 2 67]) .ret))))))
theorem Gb : OkF Tryd.prog 20 68 [] Dw [.cell 2 true 3] := .of Tryd.func20 rfl rfl (by kernel_rfl) rfl
def KQ : IR :=
 (.seq (.ops [.i 2 (.box 24 (.t 0)), .i 3 (.box 24 (.t 1)), .i 4 (.alloc 24 [.st (.int .i64 0), .st (.int .i64 0), .full []])]) (.seq (.ops [.L 5 3 2, .L 6 3 3, .i 7 (.buildSlice false 24 3 [.t 5, .t 6]), .i 8 (.build [.st (.int .i64 0), .st (.int .i64 0), .full []] [(0, 1, .n 3), (2, 1, .t 7)]), .s 3 4 8]) .ret))
theorem OK : OkF Tryd.prog 5 9 [] KQ [.cell 4 true 3] := .of Tryd.func5 rfl rfl (by kernel_rfl) rfl
def KN : IR :=
 (.seq (.ops [.i 1 (.box 24 (.t 0)), .i 2 (.alloc 24 [.st (.int .i64 0), .st (.int .i64 0), .full []])]) (.seq (.ops [.L 3 3 1, .i 4 (.buildSlice false 24 3 [.t 3]), .i 5 (.build [.st (.int .i64 0), .st (.int .i64 0), .full []] [(0, 1, .n 2), (2, 1, .t 4)]), .s 3 2 5]) .ret))
theorem Ny : OkF Tryd.prog 8 6 [] KN [.cell 2 true 3] := .of Tryd.func8 rfl rfl (by kernel_rfl) rfl
def Fc : IR :=
 (.seq (.ops [.i 1 (.box 24 (.t 0)), .i 2 (.mov (.c (.one (.st (.bool false)))))]) (.seq (.ops [.f 3 0 1, .l 4 3, .i 5 (.bin .eql (.t 4) (.n 3)), .m 6 5, .mk (some 7) (some (6, true)) (.fieldAddr 2 (.t 1)) .no, .mk (some 8) (some (6, true)) (.load false 1 (.t 7)) .no, .mk (some 9) (some (6, true)) (.indexAddr 3 (.t 8) (.n 0)) .no, .mk (some 10) (some (6, true)) (.fieldAddr 0 (.t 9)) .no, .mk (some 11) (some (6, true)) (.load false 1 (.t 10)) .no, .mk (some 12) (some (6, true)) (.bin .eql (.t 11) (.n 2)) .no, .i 13 (.pick (.t 6) (.t 12) (.c (.one (.st (.bool false))))), .m 2 13]) .ret))
theorem Iq : OkF Tryd.prog 41 14 [] Fc [.t 2] := .of Tryd.func41 rfl rfl (by kernel_rfl) rfl
def Dj : IR :=
 (.seq (.ops [.i 1 (.box 24 (.t 0)), .i 2 (.mov (.c (.one (.st (.bool false)))))]) (.seq (.seq (.ops [.L 4 3 1, .i 5 (.call 41 [.t 4])]) (.cond (.t 5) (.seq (.ops [.i 2 (.mov (.c (.one (.st (.bool true)))))]) .ret) .skip)) (.seq (.seq (.ops [.i 3 (.mov (.n 0))]) (.block 0 (.loop (.seq (.seq (.ops [.m 6 3, .f 7 2 1, .l 8 7, .i 9 (.len false (.t 8)), .i 10 (.bin .lss (.t 6) (.t 9))]) (.cond (.t 10) .skip (.exit 0))) (.seq (.block 1 (.seq (.ops [.f 13 2 1, .l 14 13, .m 15 3, .i 16 (.indexAddr 3 (.t 14) (.t 15)), .L 17 3 16, .i 18 (.call 25 [.t 17])]) (.cond (.t 18) (.seq (.ops [.i 2 (.mov (.c (.one (.st (.bool true)))))]) .ret) .skip))) (.ops [.m 11 3, .i 12 (.bin .add (.t 11) (.n 1)), .m 3 12])))))) (.seq (.ops [.i 2 (.mov (.c (.one (.st (.bool false)))))]) .ret))))
theorem Fa : OkF Tryd.prog 25 19 [] Dj [.t 2] := .of Tryd.func25 rfl rfl (by kernel_rfl) rfl
def Da : IR :=
 (.seq (.ops [.i 2 (.box 24 (.t 0)), .i 4 (.alloc 24 [.st (.int .i64 0), .st (.int .i64 0), .full []])]) (.seq (.seq (.ops [.L 8 3 2, .i 9 (.call 41 [.t 8]), .m 10 9, .mk (some 11) (some (10, true)) (.mov (.t 1)) .no, .mk (some 12) (some (10, true)) (.un .not (.t 11)) .no, .mk (some 13) (some (10, true)) (.mov (.t 12)) .no, .mk (some 14) (some (13, false)) (.fieldAddr 2 (.t 2)) .no, .mk (some 15) (some (13, false)) (.load false 1 (.t 14)) .no, .mk (some 16) (some (13, false)) (.indexAddr 3 (.t 15) (.n 0)) .no, .mk (some 17) (some (13, false)) (.load true 3 (.t 16)) .no, .mk (some 18) (some (13, false)) (.call 25 [.t 17]) .no, .mk (some 19) (some (13, false)) (.un .not (.t 18)) .no, .mk (some 20) (some (13, false)) (.mov (.t 19)) .no, .mk (some 21) (some (20, true)) (.fieldAddr 2 (.t 2)) .no, .mk (some 22) (some (20, true)) (.load false 1 (.t 21)) .no, .mk (some 23) (some (20, true)) (.indexAddr 3 (.t 22) (.n 1)) .no, .mk (some 24) (some (20, true)) (.load true 3 (.t 23)) .no, .mk (some 25) (some (20, true)) (.call 25 [.t 24]) .no, .mk (some 26) (some (20, true)) (.un .not (.t 25)) .no, .mk (some 27) (some (13, false)) (.pick (.t 20) (.t 26) (.c (.one (.st (.bool false))))) .no, .mk (some 28) (some (10, true)) (.pick (.t 13) (.c (.one (.st (.bool true)))) (.t 27)) .no, .i 29 (.pick (.t 10) (.t 28) (.c (.one (.st (.bool false)))))]) (.cond (.t 29) (.seq (.ops [.f 30 2 2, .l 31 30, .i 32 (.indexAddr 3 (.t 31) (.n 0)), .f 33 2 32, .l 34 33, .i 35 (.indexAddr 3 (.t 34) (.n 0)), .L 36 3 35, .f 37 2 2, .l 38 37, .i 39 (.indexAddr 3 (.t 38) (.n 1)), .L 40 3 39, .i 41 (.call 45 [.t 36, .t 40]), .s 3 4 41]) .ret) .skip)) (.seq (.ops [.f 42 0 2, .l 43 42, .f 44 1 2, .l 45 44, .i 46 (.build [.st (.int .i64 0), .st (.int .i64 0), .full []] [(0, 1, .t 43), (1, 1, .t 45)]), .i 5 (.alloc 24 [.st (.int .i64 0), .st (.int .i64 0), .full []]), .s 3 5 46]) (.seq (.ops [.i 6 (.mov (.c (.one (.st (.bool false)))))]) (.seq (.seq (.ops [.i 7 (.mov (.n 0))]) (.block 0 (.loop (.seq (.seq (.ops [.m 47 7, .f 48 2 2, .l 49 48, .i 50 (.len false (.t 49)), .i 51 (.bin .lss (.t 47) (.t 50))]) (.cond (.t 51) .skip (.exit 0))) (.seq (.block 1 (.seq (.ops [.m 54 6, .i 55 (.un .not (.t 54)), .m 56 55, .mk (some 57) (some (56, true)) (.fieldAddr 2 (.t 2)) .no, .mk (some 58) (some (56, true)) (.load false 1 (.t 57)) .no, .mk (some 59) (some (56, true)) (.mov (.t 7)) .no, .mk (some 60) (some (56, true)) (.indexAddr 3 (.t 58) (.t 59)) .no, .mk (some 61) (some (56, true)) (.load true 3 (.t 60)) .no, .mk (some 62) (some (56, true)) (.call 25 [.t 61]) .no, .i 63 (.pick (.t 56) (.t 62) (.c (.one (.st (.bool false)))))]) (.cond (.t 63) (.seq (.ops [.f 64 2 5, .l 65 64, .f 66 2 2, .l 67 66, .m 68 7, .i 69 (.indexAddr 3 (.t 67) (.t 68)), .L 70 3 69, .m 71 1, .i 72 (.call 29 [.t 70, .t 71]), .i 73 (.buildSlice false 24 3 [.t 72]), .i 74 (.append false 24 3 40 (.t 65) (.t 73)), .f 75 2 5, .s 1 75 74]) (.ops [.i 6 (.mov (.c (.one (.st (.bool true)))))])) (.ops [.f 76 2 5, .l 77 76, .f 78 2 2, .l 79 78, .m 80 7, .i 81 (.indexAddr 3 (.t 79) (.t 80)), .L 82 3 81, .i 83 (.buildSlice false 24 3 [.t 82]), .i 84 (.append false 24 3 40 (.t 77) (.t 83)), .f 85 2 5, .s 1 85 84])))) (.ops [.m 52 7, .i 53 (.bin .add (.t 52) (.n 1)), .m 7 53])))))) (.seq (.ops [.L 86 3 5, .s 3 4 86]) .ret))))))
theorem FK : OkF Tryd.prog 29 87 [] Da [.cell 4 true 3] := .of Tryd.func29 rfl rfl (by kernel_rfl) rfl
def GF : IR :=
 (.seq (.ops [.i 3 (.box 24 (.t 0)), .i 6 (.alloc 24 [.st (.int .i64 0), .st (.int .i64 0), .full []]), .i 7 (.mov (.n 0)), .i 8 (.mov (.n 0))]) (.seq (.ops [.i 9 (.mov (.n 0))]) (.seq (.block 0 (.loop (.seq (.seq (.ops [.L 10 3 3, .i 11 (.call 25 [.t 10])]) (.cond (.t 11) .skip (.exit 0))) (.block 1 (.seq (.seq (.ops [.m 12 9, .m 13 1, .i 14 (.bin .eql (.t 12) (.t 13))]) (.cond (.t 14) (.seq (.ops [.i 15 (.build [.st (.int .i64 0), .st (.int .i64 0), .full []] []), .s 3 6 15, .i 7 (.mov (.n 0)), .i 8 (.mov (.n 9))]) .ret) .skip)) (.seq (.ops [.L 16 3 3, .m 17 2, .i 18 (.call 29 [.t 16, .t 17]), .s 3 3 18]) (.seq (.ops [.m 19 9, .i 20 (.bin .add (.t 19) (.n 1)), .m 9 20]) (.seq (.ops [.L 21 3 3, .i 22 (.call 23 [.t 21, .n 2000]), .i 23 (.bin .gtr (.t 22) (.n 2000))]) (.cond (.t 23) (.seq (.ops [.i 24 (.build [.st (.int .i64 0), .st (.int .i64 0), .full []] []), .s 3 6 24, .i 7 (.mov (.n 0)), .i 8 (.mov (.n 8))]) .ret) .skip))))))))) (.seq (.ops [.L 25 3 3, .m 26 9, .s 3 6 25, .m 7 26, .i 8 (.mov (.n 0))]) .ret))))
theorem JX : OkF Tryd.prog 14 27 [] GF [.cell 6 true 3, .t 7, .t 8] := .of Tryd.func14 rfl rfl (by kernel_rfl) rfl
def Eg : IR :=
 (.seq (.ops [.i 2 (.box 24 (.t 0)), .i 4 (.mov (.n 0))]) (.seq (.seq (.ops [.f 7 0 2, .l 8 7, .i 9 (.bin .eql (.t 8) (.n 1))]) (.cond (.t 9) (.seq (.seq (.ops [.f 10 1 2, .l 11 10, .m 12 1, .i 13 (.bin .eql (.t 11) (.t 12))]) (.cond (.t 13) (.seq (.ops [.i 4 (.mov (.n 1))]) .ret) .skip)) (.seq (.ops [.i 4 (.mov (.n 0))]) .ret)) .skip)) (.seq (.seq (.ops [.f 14 0 2, .l 15 14, .i 16 (.bin .eql (.t 15) (.n 2))]) (.cond (.t 16) (.ops [.m 17 1, .i 18 (.bin .add (.t 17) (.n 1)), .m 1 18]) .skip)) (.seq (.ops [.i 5 (.mov (.n 0))]) (.seq (.seq (.ops [.i 6 (.mov (.n 0))]) (.block 0 (.loop (.seq (.seq (.ops [.m 19 6, .f 20 2 2, .l 21 20, .i 22 (.len false (.t 21)), .i 23 (.bin .lss (.t 19) (.t 22))]) (.cond (.t 23) .skip (.exit 0))) (.seq (.block 1 (.ops [.m 26 5, .f 27 2 2, .l 28 27, .m 29 6, .i 30 (.indexAddr 3 (.t 28) (.t 29)), .L 31 3 30, .m 32 1, .i 33 (.call 42 [.t 31, .t 32]), .i 34 (.bin .add (.t 26) (.t 33)), .m 5 34])) (.ops [.m 24 6, .i 25 (.bin .add (.t 24) (.n 1)), .m 6 25])))))) (.seq (.ops [.m 35 5, .m 4 35]) .ret))))))
theorem F6 : OkF Tryd.prog 42 36 [] Eg [.t 4] := .of Tryd.func42 rfl rfl (by kernel_rfl) rfl
def HX : IR :=
 (.seq (.ops [.i 1 (.box 24 (.t 0)), .i 2 (.alloc 24 [.st (.int .i64 0), .st (.int .i64 0), .full []])]) (.seq (.ops [.f 6 0 1, .l 7 6, .f 8 1 1, .l 9 8, .i 10 (.build [.st (.int .i64 0), .st (.int .i64 0), .full []] [(0, 1, .t 7), (1, 1, .t 9)]), .i 3 (.alloc 24 [.st (.int .i64 0), .st (.int .i64 0), .full []]), .s 3 3 10]) (.seq (.seq (.ops [.i 4 (.mov (.n 0))]) (.block 0 (.loop (.seq (.seq (.ops [.m 11 4, .f 12 2 1, .l 13 12, .i 14 (.len false (.t 13)), .i 15 (.bin .lss (.t 11) (.t 14))]) (.cond (.t 15) .skip (.exit 0))) (.seq (.block 1 (.ops [.f 18 2 3, .l 19 18, .f 20 2 1, .l 21 20, .m 22 4, .i 23 (.indexAddr 3 (.t 21) (.t 22)), .L 24 3 23, .i 25 (.call 26 [.t 24]), .i 26 (.buildSlice false 24 3 [.t 25]), .i 27 (.append false 24 3 40 (.t 19) (.t 26)), .f 28 2 3, .s 1 28 27])) (.ops [.m 16 4, .i 17 (.bin .add (.t 16) (.n 1)), .m 4 17])))))) (.seq (.seq (.ops [.f 29 0 1, .l 30 29, .i 31 (.bin .neq (.t 30) (.n 2))]) (.cond (.t 31) (.seq (.ops [.L 32 3 3, .s 3 2 32]) .ret) .skip)) (.seq (.ops [.f 33 2 3, .l 34 33, .i 35 (.indexAddr 3 (.t 34) (.n 0)), .L 36 3 35, .i 5 (.alloc 24 [.st (.int .i64 0), .st (.int .i64 0), .full []]), .s 3 5 36]) (.seq (.seq (.ops [.f 37 0 5, .l 38 37, .i 39 (.bin .eql (.t 38) (.n 3)), .m 40 39, .mk (some 41) (some (40, true)) (.fieldAddr 2 (.t 5)) .no, .mk (some 42) (some (40, true)) (.load false 1 (.t 41)) .no, .mk (some 43) (some (40, true)) (.indexAddr 3 (.t 42) (.n 1)) .no, .mk (some 44) (some (40, true)) (.load true 3 (.t 43)) .no, .mk (some 45) (some (40, true)) (.call 7 [.n 0]) .no, .mk (some 46) (some (40, true)) (.call 12 [.t 44, .t 45]) .no, .i 47 (.pick (.t 40) (.t 46) (.c (.one (.st (.bool false))))), .m 48 47, .mk (some 49) (some (48, true)) (.fieldAddr 2 (.t 5)) .no, .mk (some 50) (some (48, true)) (.load false 1 (.t 49)) .no, .mk (some 51) (some (48, true)) (.indexAddr 3 (.t 50) (.n 0)) .no, .mk (some 52) (some (48, true)) (.load true 3 (.t 51)) .no, .mk (some 53) (some (48, true)) (.call 42 [.t 52, .n 0]) .no, .mk (some 54) (some (48, true)) (.bin .eql (.t 53) (.n 0)) .no, .i 55 (.pick (.t 48) (.t 54) (.c (.one (.st (.bool false)))))]) (.cond (.t 55) (.seq (.ops [.f 56 2 5, .l 57 56, .i 58 (.indexAddr 3 (.t 57) (.n 0)), .L 59 3 58, .i 60 (.call 43 [.t 59, .c (.one (.st (.int .i64 (-1)))), .n 0]), .s 3 2 60]) .ret) .skip)) (.seq (.ops [.L 61 3 3, .s 3 2 61]) .ret)))))))
theorem LE : OkF Tryd.prog 26 62 [] HX [.cell 2 true 3] := .of Tryd.func26 rfl rfl (by kernel_rfl) rfl

mutual
def Lm.wf : Lm → Prop
 | .mk k i xs => (1 ≤ k ∧ k ≤ 5 ∧ (xs.length : Int) = BX k) ∧ Lm.wfs xs
def Lm.wfs : List Lm → Prop
 | [] => True
 | t :: ts => t.wf ∧ Lm.wfs ts
end
theorem Lm.wf_eq (t : Lm) : t.wf ↔ ((1 ≤ t.kind ∧ t.kind ≤ 5 ∧ (t.subs.length : Int) = BX t.kind) ∧ Lm.wfs t.subs) := by cases t; exact Iff.rfl
theorem Lm.wfs_iff {xs : List Lm} : Lm.wfs xs ↔ ∀ t ∈ xs, t.wf := by
 induction xs with
 | nil => simp [Lm.wfs]
 | cons x xs ih => simp [Lm.wfs, ih]
theorem Lm.goods_iff {b : Int} {xs : List Lm} : Lm.goods b xs ↔ ∀ t ∈ xs, t.good b := by
 induction xs with
 | nil => simp [Lm.goods]
 | cons x xs ih => simp [Lm.goods, ih]
theorem Lm.wf_sub {t a : Lm} (h : t.wf) (ha : a ∈ t.subs) : a.wf := Lm.wfs_iff.1 ((Lm.wf_eq t).1 h).2 a ha
mutual
theorem Lm.wf_chk {m : Int} : ∀ (t : Lm) (u : Int), t.chk m u = 0 → t.wf
 | .mk k i xs, u, h => by
  rw [Lm.chk] at h
  split at h
  ·rename_i hk
   split at h
   ·exact ⟨hk, Lm.wfs_chk xs _ h⟩
   ·omega
  ·omega
theorem Lm.wfs_chk {m : Int} : ∀ (xs : List Lm) (u : Int), Lm.chks m xs u = 0 → Lm.wfs xs
 | [], _, _ => trivial
 | t :: ts, u, h => by
  rw [Lm.chks] at h
  split at h
  ·rename_i e
   exact ⟨Lm.wf_chk t u e, Lm.wfs_chk ts u h⟩
  ·rename_i e
   exact absurd h e
end
mutual
theorem Lm.good_mono {b c : Int} (hbc : b ≤ c) : ∀ t : Lm, t.good b → t.good c
 | .mk k i xs, h => ⟨h.1, h.2.1, by have := h.2.2.1; omega, Lm.goods_mono hbc xs h.2.2.2⟩
theorem Lm.goods_mono {b c : Int} (hbc : b ≤ c) : ∀ xs : List Lm, Lm.goods b xs → Lm.goods c xs
 | [], _ => trivial
 | t :: ts, h => ⟨Lm.good_mono hbc t h.1, Lm.goods_mono hbc ts h.2⟩
end
theorem Lm.mvs_length (b d : Int) (xs : List Lm) : (Lm.mvs b d xs).length = xs.length := by rw [Lm.mvs_eq, List.length_map]
theorem Lm.puts_length (x : Lm) (d : Int) (xs : List Lm) : (Lm.puts x d xs).length = xs.length := by rw [Lm.puts_eq, List.length_map]
mutual
theorem Lm.wf_mv {b : Int} : ∀ (d : Int) (t : Lm), t.wf → (Lm.mv b d t).wf
 | d, .mk k i xs, h => ⟨by rw [Lm.mvs_length]; exact h.1, Lm.wfs_mv _ xs h.2⟩
theorem Lm.wfs_mv {b : Int} : ∀ (d : Int) (xs : List Lm), Lm.wfs xs → Lm.wfs (Lm.mvs b d xs)
 | _, [], _ => trivial
 | d, t :: ts, h => ⟨Lm.wf_mv d t h.1, Lm.wfs_mv d ts h.2⟩
end
mutual
theorem Lm.good_mv {b c : Int} (hb : 0 ≤ b) : ∀ (d : Int) (t : Lm), t.good c → (Lm.mv b d t).good (c + b)
 | d, .mk k i xs, h => by
  refine ⟨fun e => by rw [h.1 e]; rfl, ?_, ?_, Lm.goods_mv hb _ xs h.2.2.2⟩
  ·have := h.2.1
   split <;> omega
  ·have := h.2.2.1
   split <;> omega
theorem Lm.goods_mv {b c : Int} (hb : 0 ≤ b) : ∀ (d : Int) (xs : List Lm), Lm.goods c xs → Lm.goods (c + b) (Lm.mvs b d xs)
 | _, [], _ => trivial
 | d, t :: ts, h => ⟨Lm.good_mv hb d t h.1, Lm.goods_mv hb d ts h.2⟩
end
mutual
theorem Lm.mv_zero : ∀ (d : Int) (t : Lm), Lm.mv 0 d t = t
 | d, .mk k i xs => by rw [Lm.mv, Lm.mvs_zero]; simp
theorem Lm.mvs_zero : ∀ (d : Int) (xs : List Lm), Lm.mvs 0 d xs = xs
 | _, [] => rfl
 | d, t :: ts => by rw [Lm.mvs, Lm.mv_zero d t, Lm.mvs_zero d ts]
end
theorem FY (k d : Int) : Af k d ≤ d + 1 ∧ d ≤ Af k d := by unfold Af; split <;> omega
mutual
theorem Lm.wf_put {x : Lm} (hx : x.wf) : ∀ (d : Int) (t : Lm), t.wf → (Lm.put x d t).wf
 | d, .mk k i xs, h => by
  rw [Lm.put]
  split
  ·split
   ·exact Lm.wf_mv 0 x hx
   ·split
    ·exact ⟨⟨by decide, by decide, rfl⟩, trivial⟩
    ·exact ⟨⟨by decide, by decide, rfl⟩, trivial⟩
  ·exact ⟨by rw [Lm.puts_length]; exact h.1, Lm.wfs_put hx _ xs h.2⟩
theorem Lm.wfs_put {x : Lm} (hx : x.wf) : ∀ (d : Int) (xs : List Lm), Lm.wfs xs → Lm.wfs (Lm.puts x d xs)
 | _, [], _ => trivial
 | d, t :: ts, h => ⟨Lm.wf_put hx d t h.1, Lm.wfs_put hx d ts h.2⟩
end
mutual
theorem Lm.good_put {x : Lm} {b D : Int} (hx : x.good b) : ∀ (d : Int) (t : Lm), 0 ≤ d → d + t.size ≤ D → t.good b → (Lm.put x d t).good (b + D)
 | d, .mk k i xs, hd, hD, h => by
  rw [Lm.size] at hD
  have h2 := h.2.1
  have h3 := h.2.2.1
  rw [Lm.put]
  split
  ·split
   ·exact Lm.good_mono (by omega) _ (Lm.good_mv hd 0 x hx)
   ·split
    ·exact ⟨fun _ => rfl, by omega, by omega, trivial⟩
    ·exact ⟨fun _ => rfl, by omega, by omega, trivial⟩
  ·rename_i hk
   have hu := FY k d
   exact ⟨fun e => absurd e hk, h2, by omega, Lm.goods_put hx _ xs (by omega) (by omega) h.2.2.2⟩
theorem Lm.goods_put {x : Lm} {b D : Int} (hx : x.good b) : ∀ (d : Int) (xs : List Lm), 0 ≤ d → d + Lm.sizes xs ≤ D → Lm.goods b xs → Lm.goods (b + D) (Lm.puts x d xs)
 | _, [], _, _, _ => trivial
 | d, t :: ts, hd, hD, h => by
  rw [Lm.sizes] at hD
  exact ⟨Lm.good_put hx d t hd (by omega) h.1, Lm.goods_put hx d ts hd (by omega) h.2⟩
end
def Lm.top (k : Int) (xs : List Lm) : Option Lm := match xs with
 | f :: x :: _ => if k = 3 ∧ f.kind = 2 then (match f.subs with | b :: _ => some (Lm.put x 0 b) | [] => none) else none
 | _ => none
mutual
def Lm.outer : Lm → Option Lm
 | .mk k i xs => match Lm.top k xs with
  | some y => some y
  | none => match Lm.outers xs with
   | some ys => some (.mk k i ys)
   | none => none
def Lm.outers : List Lm → Option (List Lm)
 | [] => none
 | t :: ts => match t.outer with
  | some x => some (x :: ts)
  | none => match Lm.outers ts with
   | some ys => some (t :: ys)
   | none => none
end
theorem Lm.outer_eq (t : Lm) : t.outer = match Lm.top t.kind t.subs with
  | some y => some y
  | none => match Lm.outers t.subs with
   | some ys => some (.mk t.kind t.idx ys)
   | none => none := by cases t; rw [Lm.outer]; rfl
theorem PA {α : Type} {xs : List α} (h : (xs.length : Int) = 1) : ∃ a, xs = [a] := by
 match xs, h with
 | [a], _ => exact ⟨a, rfl⟩
 | [], h => simp at h
 | _ :: _ :: _, h => simp at h; omega
theorem Oo {α : Type} {xs : List α} (h : (xs.length : Int) = 2) : ∃ a b, xs = [a, b] := by
 match xs, h with
 | [a, b], _ => exact ⟨a, b, rfl⟩
 | [], h => simp at h
 | [_], h => simp at h
 | _ :: _ :: _ :: _, h => simp at h; omega
theorem Lm.subs1 {t : Lm} (h : t.wf) (hk : t.kind = 2) : ∃ a, t.subs = [a] := by
 have := ((Lm.wf_eq t).1 h).1.2.2
 rw [hk] at this
 exact PA this
theorem Lm.subs2 {t : Lm} (h : t.wf) (hk : t.kind = 3) : ∃ a b, t.subs = [a, b] := by
 have := ((Lm.wf_eq t).1 h).1.2.2
 rw [hk] at this
 exact Oo this
theorem Lm.top_cases {t : Lm} (h : t.wf) : (∃ f x b, t.kind = 3 ∧ t.subs = [f, x] ∧ f.kind = 2 ∧ f.subs = [b] ∧ Lm.top t.kind t.subs = some (Lm.put x 0 b)) ∨ (Lm.top t.kind t.subs = none ∧ (t.kind = 3 → ∃ f x, t.subs = [f, x] ∧ ¬ f.kind = 2)) := by
 by_cases hk : t.kind = 3
 ·obtain ⟨f, x, hfx⟩ := Lm.subs2 h hk
  by_cases hf : f.kind = 2
  ·obtain ⟨b, hb⟩ := Lm.subs1 (Lm.wf_sub h (by rw [hfx]; simp)) hf
   exact Or.inl ⟨f, x, b, hk, hfx, hf, hb, by rw [hfx]; simp [Lm.top, hk, hf, hb]⟩
  ·exact Or.inr ⟨by rw [hfx]; simp [Lm.top, hf], fun _ => ⟨f, x, hfx, hf⟩⟩
 ·refine Or.inr ⟨?_, fun e => absurd e hk⟩
  unfold Lm.top
  split
  ·rw [if_neg (fun h => hk h.1)]
  ·rfl
theorem Lm.outers_none {xs : List Lm} {k : Nat} {a : Lm} (ha : xs[k]? = some a) (h : Lm.outers (xs.take k) = none) (hn : a.outer = none) : Lm.outers (xs.take (k + 1)) = none := by
 induction xs generalizing k with
 | nil => simp at ha
 | cons x xs ih =>
  cases k with
  | zero =>
   have : x = a := by simpa using ha
   subst this
   simp [Lm.outers, hn]
  | succ k =>
   rw [List.take_succ_cons, Lm.outers] at h ⊢
   split at h
   ·cases h
   ·rename_i hx
    split at h
    ·cases h
    ·rename_i h2
     rw [ih (by simpa using ha) h2]
theorem Lm.outers_some {xs : List Lm} {k : Nat} {a y : Lm} (ha : xs[k]? = some a) (h : Lm.outers (xs.take k) = none) (hy : a.outer = some y) : Lm.outers xs = some (xs.set k y) := by
 induction xs generalizing k with
 | nil => simp at ha
 | cons x xs ih =>
  cases k with
  | zero =>
   have : x = a := by simpa using ha
   subst this
   simp [Lm.outers, hy]
  | succ k =>
   rw [List.take_succ_cons, Lm.outers] at h
   split at h
   ·cases h
   ·rename_i hx
    split at h
    ·cases h
    ·rename_i h2
     rw [Lm.outers, hx, ih (by simpa using ha) h2]
     rfl
theorem Lm.outers_length : ∀ {xs ys : List Lm}, Lm.outers xs = some ys → ys.length = xs.length
 | [], ys, h => by cases h
 | t :: ts, ys, h => by
  rw [Lm.outers] at h
  split at h
  ·cases h; rfl
  ·split at h
   ·rename_i h2
    cases h
    simp [Lm.outers_length h2]
   ·cases h
theorem Lm.top_some {k : Int} {xs : List Lm} {y : Lm} (h : Lm.top k xs = some y) : ∃ f x r b q, xs = f :: x :: r ∧ f.subs = b :: q ∧ k = 3 ∧ f.kind = 2 ∧ y = Lm.put x 0 b := by
 unfold Lm.top at h
 split at h
 ·rename_i f x r
  split at h
  ·rename_i hk
   split at h
   ·rename_i b q hb
    cases h
    exact ⟨f, x, r, b, q, rfl, hb, hk.1, hk.2, rfl⟩
   ·cases h
  ·cases h
 ·cases h
mutual
theorem Lm.wf_outer : ∀ {t y : Lm}, t.wf → t.outer = some y → y.wf
 | .mk k i xs, y, hw, h => by
  rw [Lm.outer] at h
  split at h
  ·rename_i z hz
   cases h
   obtain ⟨f, x, r, b, q, rfl, hb, _, _, rfl⟩ := Lm.top_some hz
   exact Lm.wf_put hw.2.2.1 0 b (Lm.wf_sub hw.2.1 (by rw [hb]; simp))
  ·split at h
   ·rename_i ys hys
    cases h
    exact ⟨by rw [Lm.outers_length hys]; exact hw.1, Lm.wfs_outers hw.2 hys⟩
   ·cases h
theorem Lm.wfs_outers : ∀ {xs ys : List Lm}, Lm.wfs xs → Lm.outers xs = some ys → Lm.wfs ys
 | [], _, _, h => by cases h
 | t :: ts, ys, hw, h => by
  rw [Lm.outers] at h
  split at h
  ·rename_i x hx
   cases h
   exact ⟨Lm.wf_outer hw.1 hx, hw.2⟩
  ·split at h
   ·rename_i zs hzs
    cases h
    exact ⟨hw.1, Lm.wfs_outers hw.2 hzs⟩
   ·cases h
end
mutual
theorem Lm.good_outer {b D : Int} (hD : 0 ≤ D) : ∀ {t y : Lm}, t.size ≤ D → t.good b → t.outer = some y → y.good (b + D)
 | .mk k i xs, y, hs, hg, h => by
  rw [Lm.size] at hs
  rw [Lm.outer] at h
  split at h
  ·rename_i z hz
   cases h
   obtain ⟨f, x, r, c, q, rfl, hb, _, _, rfl⟩ := Lm.top_some hz
   have h1 : c ∈ f.subs := by rw [hb]; simp
   have h2 := Lm.size_sub h1
   simp only [Lm.sizes] at hs
   exact Lm.good_put hg.2.2.2.2.1 0 c (by decide) (by omega) (Lm.good_sub hg.2.2.2.1 h1)
  ·split at h
   ·rename_i ys hys
    cases h
    have := hg.2.2.1
    refine ⟨fun e => ?_, hg.2.1, by omega, Lm.goods_outers hD (by omega) hg.2.2.2 hys⟩
    have h1 := Lm.outers_length hys
    rw [hg.1 e] at h1
    exact List.eq_nil_of_length_eq_zero (by simpa using h1)
   ·cases h
theorem Lm.goods_outers {b D : Int} (hD : 0 ≤ D) : ∀ {xs ys : List Lm}, Lm.sizes xs ≤ D → Lm.goods b xs → Lm.outers xs = some ys → Lm.goods (b + D) ys
 | [], _, _, _, h => by cases h
 | t :: ts, ys, hs, hg, h => by
  rw [Lm.sizes] at hs
  rw [Lm.outers] at h
  split at h
  ·rename_i x hx
   cases h
   exact ⟨Lm.good_outer hD (by omega) hg.1 hx, Lm.goods_mono (by omega) ts hg.2⟩
  ·split at h
   ·rename_i zs hzs
    cases h
    exact ⟨Lm.good_mono (by omega) t hg.1, Lm.goods_outers hD (by omega) hg.2 hzs⟩
   ·cases h
end
theorem Ir {a r x : Nat} (h : x ≤ a * a) : x + r ≤ (a + r) * (a + r) := by
 have h1 : (a + r) * (a + r) = a * a + a * r + (r * a + r * r) := by rw [Nat.add_mul, Nat.mul_add, Nat.mul_add]
 have h2 : r ≤ r * r := Nat.le_mul_self r
 rw [h1]
 omega
mutual
theorem Lm.size_outer : ∀ {t y : Lm}, t.outer = some y → y.size ≤ t.size * t.size
 | .mk k i xs, y, h => by
  rw [Lm.outer] at h
  rw [Lm.size]
  split at h
  ·rename_i z hz
   cases h
   obtain ⟨f, x, r, c, q, rfl, hb, _, _, rfl⟩ := Lm.top_some hz
   have h1 : c ∈ f.subs := by rw [hb]; simp
   have h2 := Lm.size_sub h1
   refine Nat.le_trans (Lm.size_put x 0 c) ?_
   simp only [Lm.sizes]
   exact Nat.mul_le_mul (by omega) (by omega)
  ·split at h
   ·rename_i ys hys
    cases h
    rw [Lm.size]
    have := Ir (r := 1) (Lm.sizes_outers hys)
    rw [Nat.add_comm 1, Nat.add_comm 1]
    exact this
   ·cases h
theorem Lm.sizes_outers : ∀ {xs ys : List Lm}, Lm.outers xs = some ys → Lm.sizes ys ≤ Lm.sizes xs * Lm.sizes xs
 | [], _, h => by cases h
 | t :: ts, ys, h => by
  rw [Lm.outers] at h
  rw [Lm.sizes]
  split at h
  ·rename_i x hx
   cases h
   rw [Lm.sizes]
   exact Ir (Lm.size_outer hx)
  ·split at h
   ·rename_i zs hzs
    cases h
    rw [Lm.sizes, Nat.add_comm t.size, Nat.add_comm t.size]
    exact Ir (Lm.sizes_outers hzs)
   ·cases h
end
def Lm.run : Nat → Int → Lm → Lm × Int × Int
 | left, n, t => match t.outer with
  | none => (t, n, 0)
  | some x => match left with
   | 0 => (Lm.nil, 0, 9)
   | left + 1 => if 2000 < x.size then (Lm.nil, 0, 8) else Lm.run left (n + 1) x
theorem Lm.run_none {left : Nat} {n : Int} {t : Lm} (h : t.outer = none) : Lm.run left n t = (t, n, 0) := by
 cases left <;> (rw [Lm.run]; simp only [h])
theorem Lm.run_zero {n : Int} {t x : Lm} (h : t.outer = some x) : Lm.run 0 n t = (Lm.nil, 0, 9) := by rw [Lm.run]; simp only [h]
theorem Lm.run_succ {left : Nat} {n : Int} {t x : Lm} (h : t.outer = some x) : Lm.run (left + 1) n t = if 2000 < x.size then (Lm.nil, 0, 8) else Lm.run left (n + 1) x := by rw [Lm.run]; simp only [h]
theorem Lm.run_ok : ∀ (left : Nat) (n : Int) (t : Lm) (b : Int), t.wf → t.size ≤ 2000 → t.good b → (Lm.run left n t).2.2 = 0 → (Lm.run left n t).1.wf ∧ (Lm.run left n t).1.size ≤ 2000 ∧ (Lm.run left n t).1.good (b + 2000 * left) := by
 intro left
 induction left with
 | zero =>
  intro n t b hw hs hg he
  cases ho : t.outer with
  | none => rw [Lm.run_none ho]; exact ⟨hw, hs, Lm.good_mono (by simp) _ hg⟩
  | some x => rw [Lm.run_zero ho] at he; simp at he
 | succ left ih =>
  intro n t b hw hs hg he
  cases ho : t.outer with
  | none => rw [Lm.run_none ho]; exact ⟨hw, hs, Lm.good_mono (by omega) _ hg⟩
  | some x =>
   rw [Lm.run_succ ho] at he ⊢
   split at he
   ·simp at he
   ·rename_i hx
    rw [if_neg hx]
    obtain ⟨h1, h2, h3⟩ := ih (n + 1) x (b + 2000) (Lm.wf_outer hw ho) (by omega) (Lm.good_outer (by decide) (by omega) hg ho) he
    exact ⟨h1, h2, Lm.good_mono (by omega) _ h3⟩

mutual
def Lm.has : Int → Lm → Bool
 | d, .mk k i xs => if k = 1 then decide (i = d) else Lm.hass (Af k d) xs
def Lm.hass : Int → List Lm → Bool
 | _, [] => false
 | d, t :: ts => Lm.has d t || Lm.hass d ts
end
theorem Lm.has_eq (d : Int) (t : Lm) : Lm.has d t = if t.kind = 1 then decide (t.idx = d) else Lm.hass (Af t.kind d) t.subs := by cases t; rfl
theorem Lm.hass_append (d : Int) (xs ys : List Lm) : Lm.hass d (xs ++ ys) = (Lm.hass d xs || Lm.hass d ys) := by
 induction xs with
 | nil => simp [Lm.hass]
 | cons x xs ih => simp [Lm.hass, ih, Bool.or_assoc]
theorem Lm.hass_take {d : Int} {xs : List Lm} {k : Nat} {a : Lm} (ha : xs[k]? = some a) (h : Lm.hass d (xs.take k) = false) : Lm.hass d (xs.take (k + 1)) = Lm.has d a := by
 rw [Al ha, Lm.hass_append, h]
 simp [Lm.hass]
theorem Lm.hass_yes {d : Int} {xs : List Lm} {k : Nat} (h : Lm.hass d (xs.take k) = true) : Lm.hass d xs = true := by
 have := Lm.hass_append d (xs.take k) (xs.drop k)
 rw [List.take_append_drop, h] at this
 simpa using this
mutual
def Lm.uses : Int → Lm → Nat
 | d, .mk k i xs => if k = 1 then (if i = d then 1 else 0) else Lm.usess (Af k d) xs
def Lm.usess : Int → List Lm → Nat
 | _, [] => 0
 | d, t :: ts => Lm.uses d t + Lm.usess d ts
end
theorem Lm.uses_eq (d : Int) (t : Lm) : Lm.uses d t = if t.kind = 1 then (if t.idx = d then 1 else 0) else Lm.usess (Af t.kind d) t.subs := by cases t; rfl
theorem Lm.usess_append (d : Int) (xs ys : List Lm) : Lm.usess d (xs ++ ys) = Lm.usess d xs + Lm.usess d ys := by
 induction xs with
 | nil => simp [Lm.usess]
 | cons x xs ih => simp only [List.cons_append, Lm.usess, ih]; omega
theorem Lm.usess_take {d : Int} {xs : List Lm} {k : Nat} {a : Lm} (ha : xs[k]? = some a) : Lm.usess d (xs.take (k + 1)) = Lm.usess d (xs.take k) + Lm.uses d a := by
 rw [Al ha, Lm.usess_append]
 simp [Lm.usess]
mutual
theorem Lm.uses_le : ∀ (d : Int) (t : Lm), Lm.uses d t ≤ t.size
 | d, .mk k i xs => by
  have := Lm.usess_le (Af k d) xs
  rw [Lm.uses, Lm.size]
  split
  ·split <;> omega
  ·omega
theorem Lm.usess_le : ∀ (d : Int) (xs : List Lm), Lm.usess d xs ≤ Lm.sizes xs
 | _, [] => Nat.le_refl _
 | d, t :: ts => by
  have := Lm.uses_le d t
  have := Lm.usess_le d ts
  rw [Lm.usess, Lm.sizes]
  omega
end
mutual
theorem Lm.uses_has : ∀ (d : Int) (t : Lm), Lm.has d t = decide (0 < Lm.uses d t)
 | d, .mk k i xs => by
  rw [Lm.uses, Lm.has]
  split
  ·split <;> simp_all
  ·exact Lm.usess_has _ xs
theorem Lm.usess_has : ∀ (d : Int) (xs : List Lm), Lm.hass d xs = decide (0 < Lm.usess d xs)
 | _, [] => rfl
 | d, t :: ts => by
  rw [Lm.usess, Lm.hass, Lm.uses_has d t, Lm.usess_has d ts, ← Bool.decide_or]
  congr 1
  simp only [eq_iff_iff]
  omega
end
mutual
theorem Lm.good_down {c : Int} : ∀ (d : Int) (t : Lm), 0 ≤ d → t.good c → Lm.has d t = false → (Lm.mv (-1) d t).good c
 | d, .mk k i xs, hd, h, hh => by
  rw [Lm.has] at hh
  have h2 := h.2.1
  have h3 := h.2.2.1
  have hu := FY k d
  by_cases hk : k = 1
  ·rw [if_pos hk] at hh
   have hne : ¬ i = d := by simpa using hh
   have hx := h.1 hk
   subst hx
   refine ⟨fun _ => rfl, ?_, ?_, trivial⟩
   ·split <;> omega
   ·split <;> omega
  ·rw [if_neg hk] at hh
   refine ⟨fun e => absurd e hk, ?_, ?_, Lm.goods_down _ xs (by omega) h.2.2.2 hh⟩
   ·rw [if_neg (fun e => hk e.1)]; exact h2
   ·rw [if_neg (fun e => hk e.1)]; exact h3
theorem Lm.goods_down {c : Int} : ∀ (d : Int) (xs : List Lm), 0 ≤ d → Lm.goods c xs → Lm.hass d xs = false → Lm.goods c (Lm.mvs (-1) d xs)
 | _, [], _, _, _ => trivial
 | d, t :: ts, hd, h, hh => by
  rw [Lm.hass, Bool.or_eq_false_iff] at hh
  exact ⟨Lm.good_down d t hd h.1 hh.1, Lm.goods_down d ts hd h.2 hh.2⟩
end
def Lm.etaAt (ys : List Lm) : Option Lm := match ys with
 | b :: _ => if b.kind = 3 then (match b.subs with | f :: x :: _ => if x.kind = 1 ∧ x.idx = 0 ∧ Lm.has 0 f = false then some (Lm.mv (-1) 0 f) else none | _ => none) else none
 | [] => none
mutual
def Lm.eta1 : Lm → Lm
 | .mk k i xs => if k = 2 then (match Lm.etaAt (Lm.etas xs) with | some y => y | none => .mk k i (Lm.etas xs)) else .mk k i (Lm.etas xs)
def Lm.etas : List Lm → List Lm
 | [] => []
 | t :: ts => t.eta1 :: Lm.etas ts
end
theorem Lm.etas_eq : ∀ xs : List Lm, Lm.etas xs = xs.map Lm.eta1
 | [] => rfl
 | t :: ts => by rw [Lm.etas, Lm.etas_eq ts]; rfl
theorem Lm.eta1_eq (t : Lm) : t.eta1 = if t.kind = 2 then (match Lm.etaAt (t.subs.map Lm.eta1) with | some y => y | none => .mk t.kind t.idx (t.subs.map Lm.eta1)) else .mk t.kind t.idx (t.subs.map Lm.eta1) := by
 cases t
 rw [Lm.eta1, Lm.etas_eq]
 rfl
theorem Lm.etaAt_some {ys : List Lm} {y : Lm} (h : Lm.etaAt ys = some y) : ∃ b r f x q, ys = b :: r ∧ b.kind = 3 ∧ b.subs = f :: x :: q ∧ x.kind = 1 ∧ x.idx = 0 ∧ Lm.has 0 f = false ∧ y = Lm.mv (-1) 0 f := by
 unfold Lm.etaAt at h
 split at h
 ·rename_i b r
  split at h
  ·rename_i hb
   split at h
   ·rename_i f x q hs
    split at h
    ·rename_i hx
     cases h
     exact ⟨b, r, f, x, q, rfl, hb, hs, hx.1, hx.2.1, hx.2.2, rfl⟩
    ·cases h
   ·cases h
  ·cases h
 ·cases h
mutual
theorem Lm.eta1_all {c : Int} : ∀ t : Lm, t.wf → t.good c → t.eta1.wf ∧ t.eta1.good c ∧ t.eta1.size ≤ t.size
 | .mk k i xs, hw, hg => by
  obtain ⟨h1, h2, h3, h4⟩ := Lm.etas_all xs hw.2 hg.2.2.2
  have hrest : (Lm.mk k i (Lm.etas xs)).wf ∧ (Lm.mk k i (Lm.etas xs)).good c ∧ (Lm.mk k i (Lm.etas xs)).size ≤ (Lm.mk k i xs).size :=
   ⟨⟨by rw [h4]; exact hw.1, h1⟩, ⟨fun e => by rw [hg.1 e]; rfl, hg.2.1, hg.2.2.1, h2⟩, by rw [Lm.size, Lm.size]; omega⟩
  rw [Lm.eta1]
  split
  ·split
   ·rename_i y hy
    obtain ⟨b, r, f, x, q, e1, e2, e3, e4, e5, e6, rfl⟩ := Lm.etaAt_some hy
    have hb : b ∈ Lm.etas xs := by rw [e1]; simp
    have hf : f ∈ b.subs := by rw [e3]; simp
    have s1 := Lm.size_sub hf
    have s2 := Lm.size_mem hb
    refine ⟨Lm.wf_mv 0 f (Lm.wf_sub (Lm.wfs_iff.1 h1 b hb) hf), Lm.good_down 0 f (by decide) (Lm.good_sub (Lm.goods_iff.1 h2 b hb) hf) e6, ?_⟩
    rw [Lm.size_mv, Lm.size]
    omega
   ·exact hrest
  ·exact hrest
theorem Lm.etas_all {c : Int} : ∀ xs : List Lm, Lm.wfs xs → Lm.goods c xs → Lm.wfs (Lm.etas xs) ∧ Lm.goods c (Lm.etas xs) ∧ Lm.sizes (Lm.etas xs) ≤ Lm.sizes xs ∧ (Lm.etas xs).length = xs.length
 | [], _, _ => ⟨trivial, trivial, Nat.le_refl _, rfl⟩
 | t :: ts, hw, hg => by
  obtain ⟨a1, a2, a3⟩ := Lm.eta1_all t hw.1 hg.1
  obtain ⟨b1, b2, b3, b4⟩ := Lm.etas_all ts hw.2 hg.2
  refine ⟨⟨a1, b1⟩, ⟨a2, b2⟩, ?_, by simp [Lm.etas, b4]⟩
  rw [Lm.etas, Lm.sizes, Lm.sizes]
  omega
end
mutual
def Lm.known (m : Int) : Lm → Prop
 | .mk k i xs => (k = 5 → 0 ≤ i ∧ i < m) ∧ Lm.knowns m xs
def Lm.knowns (m : Int) : List Lm → Prop
 | [] => True
 | t :: ts => t.known m ∧ Lm.knowns m ts
end
theorem Lm.knowns_iff {m : Int} {xs : List Lm} : Lm.knowns m xs ↔ ∀ t ∈ xs, t.known m := by
 induction xs with
 | nil => simp [Lm.knowns]
 | cons x xs ih => simp [Lm.knowns, ih]
theorem Lm.known_eq (m : Int) (t : Lm) : t.known m ↔ ((t.kind = 5 → 0 ≤ t.idx ∧ t.idx < m) ∧ Lm.knowns m t.subs) := by cases t; exact Iff.rfl
theorem Lm.known_sub {m : Int} {t a : Lm} (h : t.known m) (ha : a ∈ t.subs) : a.known m := Lm.knowns_iff.1 ((Lm.known_eq m t).1 h).2 a ha
mutual
theorem Lm.known_chk {m : Int} : ∀ (t : Lm) (u : Int), t.chk m u = 0 → t.known m
 | .mk k i xs, u, h => by
  rw [Lm.chk] at h
  split at h
  ·split at h
   ·rename_i hi
    refine ⟨fun e => ?_, Lm.knowns_chk xs _ h⟩
    subst e
    exact ⟨hi.1, by simpa [Ca] using hi.2⟩
   ·omega
  ·omega
theorem Lm.knowns_chk {m : Int} : ∀ (xs : List Lm) (u : Int), Lm.chks m xs u = 0 → Lm.knowns m xs
 | [], _, _ => trivial
 | t :: ts, u, h => by
  rw [Lm.chks] at h
  split at h
  ·rename_i e
   exact ⟨Lm.known_chk t u e, Lm.knowns_chk ts u h⟩
  ·rename_i e
   exact absurd h e
end
mutual
def Lm.fill (ws : List Lm) : Lm → Lm
 | .mk k i xs => if k = 5 then ws.getD i.toNat Lm.nil else .mk k i (Lm.fills ws xs)
def Lm.fills (ws : List Lm) : List Lm → List Lm
 | [] => []
 | t :: ts => Lm.fill ws t :: Lm.fills ws ts
end
theorem Lm.fills_eq (ws : List Lm) : ∀ xs : List Lm, Lm.fills ws xs = xs.map (Lm.fill ws)
 | [] => rfl
 | t :: ts => by rw [Lm.fills, Lm.fills_eq ws ts]; rfl
theorem Lm.fill_eq (ws : List Lm) (t : Lm) : Lm.fill ws t = if t.kind = 5 then ws.getD t.idx.toNat Lm.nil else .mk t.kind t.idx (t.subs.map (Lm.fill ws)) := by
 cases t
 rw [Lm.fill, Lm.fills_eq]
 rfl
theorem JW {ws : List Lm} {i : Int} (h : 0 ≤ i ∧ i < ws.length) : ∃ w, w ∈ ws ∧ ws[i.toNat]? = some w ∧ ws.getD i.toNat Lm.nil = w := by
 have hl : i.toNat < ws.length := by omega
 exact ⟨ws[i.toNat], List.getElem_mem hl, List.getElem?_eq_getElem hl, by rw [List.getD_eq_getElem?_getD, List.getElem?_eq_getElem hl]; rfl⟩
mutual
theorem Lm.fill_all {ws : List Lm} {c : Int} {z : Nat} (hz : 1 ≤ z) (hw : ∀ w ∈ ws, w.wf ∧ w.good c ∧ w.size ≤ z) : ∀ t : Lm, t.wf → t.good c → t.known ws.length → (Lm.fill ws t).wf ∧ (Lm.fill ws t).good c ∧ (Lm.fill ws t).size ≤ t.size * z
 | .mk k i xs, h1, h2, h3 => by
  obtain ⟨a1, a2, a3, a4⟩ := Lm.fills_all hz hw xs h1.2 h2.2.2.2 h3.2
  have q : (1 + Lm.sizes xs) * z = z + Lm.sizes xs * z := by rw [Nat.add_mul, Nat.one_mul]
  rw [Lm.fill]
  split
  ·rename_i hk
   obtain ⟨w, m1, _, m2⟩ := JW (h3.1 hk)
   rw [m2]
   obtain ⟨w1, w2, w3⟩ := hw w m1
   refine ⟨w1, w2, ?_⟩
   rw [Lm.size, q]
   omega
  ·refine ⟨⟨by rw [a4]; exact h1.1, a1⟩, ⟨fun e => by rw [h2.1 e]; rfl, h2.2.1, h2.2.2.1, a2⟩, ?_⟩
   rw [Lm.size, Lm.size, q]
   omega
theorem Lm.fills_all {ws : List Lm} {c : Int} {z : Nat} (hz : 1 ≤ z) (hw : ∀ w ∈ ws, w.wf ∧ w.good c ∧ w.size ≤ z) : ∀ xs : List Lm, Lm.wfs xs → Lm.goods c xs → Lm.knowns ws.length xs → Lm.wfs (Lm.fills ws xs) ∧ Lm.goods c (Lm.fills ws xs) ∧ Lm.sizes (Lm.fills ws xs) ≤ Lm.sizes xs * z ∧ (Lm.fills ws xs).length = xs.length
 | [], _, _, _ => ⟨trivial, trivial, Nat.zero_le _, rfl⟩
 | t :: ts, h1, h2, h3 => by
  obtain ⟨a1, a2, a3⟩ := Lm.fill_all hz hw t h1.1 h2.1 h3.1
  obtain ⟨b1, b2, b3, b4⟩ := Lm.fills_all hz hw ts h1.2 h2.2 h3.2
  refine ⟨⟨a1, b1⟩, ⟨a2, b2⟩, ?_, by simp [Lm.fills, b4]⟩
  rw [Lm.fills, Lm.sizes, Lm.sizes, Nat.add_mul]
  omega
end
def Lm.v (i : Int) : Lm := .mk 1 i []
def Lm.l (t : Lm) : Lm := .mk 2 0 [t]
def Lm.a (f x : Lm) : Lm := .mk 3 0 [f, x]
def Lm.isOne (t : Lm) : Option Lm := match t.subs with
 | f :: x :: _ => if t.kind = 3 ∧ f.same (Lm.v 1) = true then some x else none
 | _ => none
def Lm.chain : Nat → Lm → Int × Lm
 | 0, t => (0, t)
 | n + 1, t => match t.isOne with
  | some x => ((Lm.chain n x).1 + 1, (Lm.chain n x).2)
  | none => (0, t)
def Lm.ch (t : Lm) : Int × Lm := Lm.chain t.size t
def Lm.val (t : Lm) : Int := if t.same (Lm.l (Lm.v 0)) = true then 1 else
 if t.kind = 2 then (match t.subs with
  | g :: _ => if g.kind = 2 then (match g.subs with
   | b :: _ => if b.ch.2.same (Lm.v 0) = true then b.ch.1 else -1
   | [] => -1) else -1
  | [] => -1) else -1

theorem Lm.same_eq (a b : Lm) : a.same b = (decide (a.kind = b.kind) && decide (a.idx = b.idx) && Lm.sames a.subs b.subs) := by cases a; cases b; rfl
theorem Lm.sames_len : ∀ {xs ys : List Lm}, ¬ xs.length = ys.length → Lm.sames xs ys = false
 | [], [], h => absurd rfl h
 | [], _ :: _, _ => rfl
 | _ :: _, [], _ => rfl
 | x :: xs, y :: ys, h => by
  rw [Lm.sames, Lm.sames_len (fun e => h (by simp [e]))]
  simp
theorem Lm.sames_append : ∀ {xs ys us vs : List Lm}, xs.length = ys.length → Lm.sames (xs ++ us) (ys ++ vs) = (Lm.sames xs ys && Lm.sames us vs)
 | [], [], us, vs, _ => by simp [Lm.sames]
 | [], _ :: _, _, _, h => by simp at h
 | _ :: _, [], _, _, h => by simp at h
 | x :: xs, y :: ys, us, vs, h => by
  simp only [List.cons_append, Lm.sames, Lm.sames_append (show xs.length = ys.length by simpa using h), Bool.and_assoc]
theorem Lm.sames_take {xs ys : List Lm} {k : Nat} {x y : Lm} (hl : xs.length = ys.length) (hx : xs[k]? = some x) (hy : ys[k]? = some y) (h : Lm.sames (xs.take k) (ys.take k) = true) : Lm.sames (xs.take (k + 1)) (ys.take (k + 1)) = x.same y := by
 rw [Al hx, Al hy, Lm.sames_append (by simp [hl]), h]
 simp [Lm.sames]
theorem Lm.sames_no {xs ys : List Lm} {k : Nat} (hl : xs.length = ys.length) (h : Lm.sames (xs.take k) (ys.take k) = false) : Lm.sames xs ys = false := by
 have := Lm.sames_append (xs := xs.take k) (ys := ys.take k) (us := xs.drop k) (vs := ys.drop k) (by simp [hl])
 rw [List.take_append_drop, List.take_append_drop, h] at this
 simpa using this
theorem EM (a b : Lm) : Aa Tryd.prog 12 [aLm a, aLm b] (An (a.same b)) := by
 induction h : SizeOf.sizeOf a using Nat.strongRecOn generalizing a b with
 | _ N ih =>
 subst h
 rw [Lm.same_eq]
 refine JO.ac fun C hC => ?_
 unfold FE
 refine IWP.learn 0 (by omega) fun hkn => ?_
 have hkn := (HL hkn).2.2
 by_cases h1 : a.kind = b.kind
 case neg =>
  repeat' with_reducible first | refine W ?_ | refine Z0 ?_ | ((first | refine Wo fun K hK => ?_ | refine Wp ?_ | refine Wq ?_ | refine Wr ?_); (try simp only [go_sem, fN, seval, eT, iR, h1, dT, dF, nL]); (repeat refine Ai ?_); (try (refine hK _ ?_; clear hK K)); try refine iC ?_)
  simp only [go_sem, fN, seval, AY, AS.result, AD, AE, AM, h1]
  try simp
 case pos =>
 by_cases h2 : a.idx = b.idx
 case neg =>
  repeat' with_reducible first | refine W ?_ | refine Z0 ?_ | ((first | refine Wo fun K hK => ?_ | refine Wp ?_ | refine Wq ?_ | refine Wr ?_); (try simp only [go_sem, fN, seval, eT, iR, h1, h2, dT, dF, nL]); (repeat refine Ai ?_); (try (refine hK _ ?_; clear hK K)); try refine iC ?_)
  simp only [go_sem, fN, seval, AY, AS.result, AD, AE, AM, h1, h2]
  try simp
 case pos =>
 by_cases h3 : a.subs.length = b.subs.length
 case neg =>
  have h3' : ¬ (a.subs.length : Int) = b.subs.length := by omega
  rw [Lm.sames_len h3]
  repeat' with_reducible first | refine W ?_ | refine Z0 ?_ | ((first | refine Wo fun K hK => ?_ | refine Wp ?_ | refine Wq ?_ | refine Wr ?_); (try simp only [go_sem, fN, seval, eT, iR, h1, h2, h3', dT, dF, nL]); (repeat refine Ai ?_); (try (refine hK _ ?_; clear hK K)); try refine iC ?_)
  simp only [go_sem, fN, seval, AY, AS.result, AD, AE, AM, h1, h2, h3']
  try simp
 case pos =>
 have h3' : (a.subs.length : Int) = b.subs.length := by omega
 repeat' with_reducible first | refine W ?_ | refine Z0 ?_ | ((first | refine Wo fun K hK => ?_ | refine Wp ?_ | refine Wq ?_ | refine Wr ?_); (try simp only [go_sem, fN, seval, eT, iR, h1, h2, h3', dT, dF, nL]); (repeat refine Ai ?_); (try (refine hK _ ?_; clear hK K)); try refine iC ?_)
 refine IWP.loop (fun n s => ∃ k, k ≤ a.subs.length ∧ n = a.subs.length - k ∧ Lm.sames (a.subs.take k) (b.subs.take k) = true ∧ s.env 2 = .one (.ptr 2 1 0 0) ∧ s.env 3 = .one (.ptr 3 1 0 0) ∧ s.S 2 = some (.box 24 [.st (.int .i64 b.kind), .st (.int .i64 b.idx), .st (.list (a.subs.map Ac))]) ∧ s.S 3 = some (.box 24 [.st (.int .i64 b.kind), .st (.int .i64 b.idx), .st (.list (b.subs.map Ac))]) ∧ s.env 5 = AK k) a.subs.length ⟨0, Nat.zero_le _, rfl, rfl, rfl, rfl, by simp only [h1, h2]; rfl, rfl, rfl⟩ ?_
 rintro n ⟨env, S⟩ ⟨k, hk', rfl, hp, e2, e3, s2, s3, e5⟩
 simp only at e2 e3 s2 s3 e5
 by_cases hlt : (k : Int) < a.subs.length
 ·obtain ⟨x, hx⟩ := Ak (show k < a.subs.length by omega)
  obtain ⟨y, hy⟩ := Ak (show k < b.subs.length by omega)
  have hlt2 : (k : Int) < b.subs.length := by omega
  repeat' with_reducible first | refine W ?_ | refine Z0 ?_ | ((first | refine Wo fun K hK => ?_ | refine Wp ?_ | refine Wq ?_ | refine Wr ?_); (try simp only [go_sem, fN, seval, eT, iR, e2, e3, s2, s3, e5, hx, hy, hlt, hlt2, dT, dF, nL]); (repeat refine Ai ?_); (try (refine hK _ ?_; clear hK K)); try refine iC ?_)
  refine ⟨_, ih _ (Lm.lt_of_sub (AJ hx)) x y rfl, ?_⟩
  by_cases hr : x.same y = true
  ·repeat' with_reducible first | refine W ?_ | refine Z0 ?_ | ((first | refine Wo fun K hK => ?_ | refine Wp ?_ | refine Wq ?_ | refine Wr ?_); (try simp only [go_sem, fN, seval, eT, iR, e2, e3, s2, s3, e5, hr, dT, dF, nL]); (repeat refine Ai ?_); (try (refine hK _ ?_; clear hK K)); try refine iC ?_)
   refine AH ⟨a.subs.length - (k + 1), by omega, k + 1, by omega, rfl, ?_⟩
   simp only [go_sem, fN, seval, eT, iR, e2, e3, s2, s3, e5]
   exact ⟨by rw [Lm.sames_take h3 hx hy hp, hr], by congr 3⟩
  ·have hr' : x.same y = false := by simpa using hr
   repeat' with_reducible first | refine W ?_ | refine Z0 ?_ | ((first | refine Wo fun K hK => ?_ | refine Wp ?_ | refine Wq ?_ | refine Wr ?_); (try simp only [go_sem, fN, seval, eT, iR, e2, e3, s2, s3, e5, hr', dT, dF, nL]); (repeat refine Ai ?_); (try (refine hK _ ?_; clear hK K)); try refine iC ?_)
   simp only [go_sem, fN, seval, AY, AS.result, AD, AE, AM]
   rw [Lm.sames_no (k := k + 1) h3 (by rw [Lm.sames_take h3 hx hy hp, hr'])]
   simp
 ·repeat' with_reducible first | refine W ?_ | refine Z0 ?_ | ((first | refine Wo fun K hK => ?_ | refine Wp ?_ | refine Wq ?_ | refine Wr ?_); (try simp only [go_sem, fN, seval, eT, iR, e2, e3, s2, s3, e5, hlt, dT, dF, nL]); (repeat refine Ai ?_); (try (refine hK _ ?_; clear hK K)); try refine iC ?_)
  simp only [go_sem, fN, seval, AY, AS.result, AD, AE, AM]
  rw [List.take_of_length_le (by omega), List.take_of_length_le (by omega)] at hp
  rw [hp]
  simp [h1, h2]
theorem JF (xs ys : List Lm) (hS : ∀ x ∈ xs, ∀ y, Aa Tryd.prog 54 [aLm x, aLm y] (An (x.same y))) :
  Aa Tryd.prog 70 [A1 xs, A1 ys, .one (.fn 54 [])] (An (Lm.sames xs ys)) := by
 refine Ar.ac fun C hC => ?_
 unfold Ad
 refine IWP.learn 0 (by omega) fun hkn => ?_
 have hkn := Cp hkn
 rw [List.length_map] at hkn
 by_cases h3 : xs.length = ys.length
 case neg =>
  have h3' : ¬ (xs.length : Int) = ys.length := by omega
  rw [Lm.sames_len h3]
  repeat' with_reducible first | refine W ?_ | refine Z0 ?_ | ((first | refine Wo fun K hK => ?_ | refine Wp ?_ | refine Wq ?_ | refine Wr ?_); (try simp only [go_sem, fN, seval, eT, iR, h3', dT, dF, nL]); (repeat refine Ai ?_); (try (refine hK _ ?_; clear hK K)); try refine iC ?_)
  simp only [go_sem, fN, seval, AY, AS.result, AD, AE, AM]
 case pos =>
 have h3' : (xs.length : Int) = ys.length := by omega
 repeat' with_reducible first | refine W ?_ | refine Z0 ?_ | ((first | refine Wo fun K hK => ?_ | refine Wp ?_ | refine Wq ?_ | refine Wr ?_); (try simp only [go_sem, fN, seval, eT, iR, h3', dT, dF, nL]); (repeat refine Ai ?_); (try (refine hK _ ?_; clear hK K)); try refine iC ?_)
 refine IWP.loopD [8, 9] (fun n s => ∃ k, k ≤ xs.length ∧ n = xs.length - k ∧ Lm.sames (xs.take k) (ys.take k) = true ∧ s.env 1 = A1 ys ∧ s.env 2 = .one (.fn 54 []) ∧ s.env 15 = A1 xs ∧ s.env 16 = AK xs.length ∧ s.env 17 = AK k ∧ s.S 8 = none ∧ s.S 9 = none) xs.length ⟨0, Nat.zero_le _, rfl, rfl, rfl, rfl, rfl, by simp only [go_sem, fN, seval, eT, iR, h3'], rfl, rfl, rfl⟩ ?_
 rintro n ⟨env, S⟩ ⟨k, hk', rfl, hp, e1, e2, e15, e16, e17, s8, s9⟩
 simp only at e1 e2 e15 e16 e17 s8 s9
 by_cases hlt : (k : Int) < xs.length
 ·obtain ⟨x, hx⟩ := Ak (show k < xs.length by omega)
  obtain ⟨y, hy⟩ := Ak (show k < ys.length by omega)
  repeat' with_reducible first | refine W ?_ | refine Z0 ?_ | ((first | refine Wo fun K hK => ?_ | refine Wp ?_ | refine Wq ?_ | refine Wr ?_); (try simp only [go_sem, fN, seval, eT, iR, e1, e2, e15, e16, e17, s8, s9, hx, hy, hlt, dT, dF, nL]); (repeat refine Ai ?_); (try (refine hK _ ?_; clear hK K)); try refine iC ?_)
  refine ⟨by kernel_rfl, _, _, (hS x (AJ hx) y).toS rfl, ?_⟩
  by_cases hr : x.same y = true
  ·repeat' with_reducible first | refine W ?_ | refine Z0 ?_ | ((first | refine Wo fun K hK => ?_ | refine Wp ?_ | refine Wq ?_ | refine Wr ?_); (try simp only [go_sem, fN, seval, eT, iR, e1, e2, e15, e16, e17, s8, s9, hr, dT, dF, nL]); (repeat refine Ai ?_); (try (refine hK _ ?_; clear hK K)); try refine iC ?_)
   refine AH ⟨xs.length - (k + 1), by omega, k + 1, by omega, rfl, ?_⟩
   simp only [go_sem, fN, seval, AS.drop, AN, AC.clears, AC.clear, AC.highs, AC.high, Bool.not_false, Bool.true_and, Bool.and_self, AV.purge, AV.purges, AC.purge, AI.purge, List.contains_cons, List.contains_nil, Nat.reduceBEq, Bool.or_self, Bool.or_false, Bool.false_or, Bool.or_true, eT, iR, e1, e2, e15, e16, e17, s8, s9]
   exact ⟨by rw [Lm.sames_take h3 hx hy hp, hr], by congr 3⟩
  ·have hr' : x.same y = false := by simpa using hr
   repeat' with_reducible first | refine W ?_ | refine Z0 ?_ | ((first | refine Wo fun K hK => ?_ | refine Wp ?_ | refine Wq ?_ | refine Wr ?_); (try simp only [go_sem, fN, seval, eT, iR, e1, e2, e15, e16, e17, s8, s9, hr', dT, dF, nL]); (repeat refine Ai ?_); (try (refine hK _ ?_; clear hK K)); try refine iC ?_)
   simp only [go_sem, fN, seval, AY, AS.result, AD, AE, AM]
   rw [Lm.sames_no (k := k + 1) h3 (by rw [Lm.sames_take h3 hx hy hp, hr'])]
 ·repeat' with_reducible first | refine W ?_ | refine Z0 ?_ | ((first | refine Wo fun K hK => ?_ | refine Wp ?_ | refine Wq ?_ | refine Wr ?_); (try simp only [go_sem, fN, seval, eT, iR, e1, e2, e15, e16, e17, s8, s9, hlt, dT, dF, nL]); (repeat refine Ai ?_); (try (refine hK _ ?_; clear hK K)); try refine iC ?_)
  simp only [go_sem, fN, seval, AY, AS.result, AD, AE, AM]
  rw [List.take_of_length_le (by omega), List.take_of_length_le (by omega)] at hp
  rw [hp]
theorem OZ (a b : Lm) : Aa Tryd.prog 54 [aLm a, aLm b] (An (a.same b)) := by
 induction h : SizeOf.sizeOf a using Nat.strongRecOn generalizing a b with
 | _ N ih =>
 subst h
 rw [Lm.same_eq]
 refine Hp.ac fun C hC => ?_
 unfold EL
 by_cases h1 : a.kind = b.kind
 case neg =>
  repeat' with_reducible first | refine W ?_ | refine Z0 ?_ | ((first | refine Wo fun K hK => ?_ | refine Wp ?_ | refine Wq ?_ | refine Wr ?_); (try simp only [go_sem, fN, seval, eT, iR, h1, dT, dF, nL]); (repeat refine Ai ?_); (try (refine hK _ ?_; clear hK K)); try refine iC ?_)
  simp only [go_sem, fN, seval, AY, AS.result, AD, AE, AM, h1]
  try simp
 case pos =>
 by_cases h2 : a.idx = b.idx
 case neg =>
  repeat' with_reducible first | refine W ?_ | refine Z0 ?_ | ((first | refine Wo fun K hK => ?_ | refine Wp ?_ | refine Wq ?_ | refine Wr ?_); (try simp only [go_sem, fN, seval, eT, iR, h1, h2, dT, dF, nL]); (repeat refine Ai ?_); (try (refine hK _ ?_; clear hK K)); try refine iC ?_)
  simp only [go_sem, fN, seval, AY, AS.result, AD, AE, AM, h1, h2]
  try simp
 case pos =>
 repeat' (first | (with_reducible first | refine W ?_ | refine Z0 ?_ | ((first | refine Wo fun K hK => ?_ | refine Wp ?_ | refine Wq ?_ | refine Wr ?_); (try simp only [go_sem, fN, seval, eT, iR, h1, h2, dT, dF, nL]); (repeat refine Ai ?_); (try (refine hK _ ?_; clear hK K)); try refine iC ?_)) | refine Cg _ (JF a.subs b.subs fun x hx y => ih _ (Lm.lt_of_sub hx) x y rfl) ?_)
 simp only [go_sem, fN, seval, AY, AS.result, AD, AE, AM]
 simp [h1, h2]
theorem PZ (f x : Lm) : Aa Tryd.prog 57 [aLm f, aLm x] (aLm (Lm.a f x)) := by
 refine J2.ac fun C hC => ?_
 unfold GT
 repeat' with_reducible first | refine W ?_ | refine Z0 ?_ | ((first | refine Wo fun K hK => ?_ | refine Wp ?_ | refine Wq ?_ | refine Wr ?_); (try simp only [go_sem, fN, seval, eT, iR, dT, dF, nL]); (repeat refine Ai ?_); (try (refine hK _ ?_; clear hK K)); try refine iC ?_)
 simp only [go_sem, fN, seval, AY, AS.result, AD, AE, AM]
 simp [Lm.a, Lm.kind_mk, Lm.idx_mk, Lm.subs_mk, AB]
theorem Fw (f x : Lm) : Aa Tryd.prog 5 [aLm f, aLm x] (aLm (Lm.a f x)) := by
 refine OK.ac fun C hC => ?_
 unfold KQ
 repeat' with_reducible first | refine W ?_ | refine Z0 ?_ | ((first | refine Wo fun K hK => ?_ | refine Wp ?_ | refine Wq ?_ | refine Wr ?_); (try simp only [go_sem, fN, seval, eT, iR, dT, dF, nL]); (repeat refine Ai ?_); (try (refine hK _ ?_; clear hK K)); try refine iC ?_)
 simp only [go_sem, fN, seval, AY, AS.result, AD, AE, AM]
 simp [Lm.a, Lm.kind_mk, Lm.idx_mk, Lm.subs_mk, AB]
theorem Px (t : Lm) : Aa Tryd.prog 73 [aLm t] (aLm (Lm.l t)) := by
 refine KY.ac fun C hC => ?_
 unfold GU
 repeat' with_reducible first | refine W ?_ | refine Z0 ?_ | ((first | refine Wo fun K hK => ?_ | refine Wp ?_ | refine Wq ?_ | refine Wr ?_); (try simp only [go_sem, fN, seval, eT, iR, dT, dF, nL]); (repeat refine Ai ?_); (try (refine hK _ ?_; clear hK K)); try refine iC ?_)
 simp only [go_sem, fN, seval, AY, AS.result, AD, AE, AM]
 simp [Lm.l, Lm.kind_mk, Lm.idx_mk, Lm.subs_mk, AB]
theorem Fx (t : Lm) : Aa Tryd.prog 8 [aLm t] (aLm (Lm.l t)) := by
 refine Ny.ac fun C hC => ?_
 unfold KN
 repeat' with_reducible first | refine W ?_ | refine Z0 ?_ | ((first | refine Wo fun K hK => ?_ | refine Wp ?_ | refine Wq ?_ | refine Wr ?_); (try simp only [go_sem, fN, seval, eT, iR, dT, dF, nL]); (repeat refine Ai ?_); (try (refine hK _ ?_; clear hK K)); try refine iC ?_)
 simp only [go_sem, fN, seval, AY, AS.result, AD, AE, AM]
 simp [Lm.l, Lm.kind_mk, Lm.idx_mk, Lm.subs_mk, AB]
theorem Ox (t : Lm) (hg : t.good 1000000000) (hz : t.size ≤ 1000000000) : Aa Tryd.prog 65 [aLm t] (aLm t) := by
 have e := Lm.mv_zero 0 t
 refine Ho.ac fun C hC => ?_
 unfold D7
 repeat' (first | (with_reducible first | refine W ?_ | refine Z0 ?_ | ((first | refine Wo fun K hK => ?_ | refine Wp ?_ | refine Wq ?_ | refine Wr ?_); (try simp only [go_sem, fN, seval, eT, iR, e, dT, dF, nL]); (repeat refine Ai ?_); (try (refine hK _ ?_; clear hK K)); try refine iC ?_)) | refine Cg _ (Gq t 0 0 hg (by decide) (by decide) (by omega)) ?_)
 simp only [go_sem, fN, seval, AY, AS.result, AD, AE, AM, e]
def Lm.isRed (t : Lm) : Bool := (Lm.top t.kind t.subs).isSome
theorem JQ (t : Lm) (hw : t.wf) : Aa Tryd.prog 66 [aLm t] (An t.isRed) := by
 refine Ga.ac fun C hC => ?_
 unfold D0
 unfold Lm.isRed
 rcases Lm.top_cases hw with ⟨f, x, b, h1, h2, h3, h4, h5⟩ | ⟨h5, h6⟩
 ·rw [h5]
  repeat' with_reducible first | refine W ?_ | refine Z0 ?_ | ((first | refine Wo fun K hK => ?_ | refine Wp ?_ | refine Wq ?_ | refine Wr ?_); (try simp only [go_sem, fN, seval, eT, iR, h1, h2, h3, dT, dF, nL]); (repeat refine Ai ?_); (try (refine hK _ ?_; clear hK K)); try refine iC ?_)
  simp only [go_sem, fN, seval, AY, AS.result, AD, AE, AM]
 ·rw [h5]
  by_cases h1 : t.kind = 3
  ·obtain ⟨f, x, h2, h3⟩ := h6 h1
   repeat' with_reducible first | refine W ?_ | refine Z0 ?_ | ((first | refine Wo fun K hK => ?_ | refine Wp ?_ | refine Wq ?_ | refine Wr ?_); (try simp only [go_sem, fN, seval, eT, iR, h1, h2, h3, dT, dF, nL]); (repeat refine Ai ?_); (try (refine hK _ ?_; clear hK K)); try refine iC ?_)
   simp only [go_sem, fN, seval, AY, AS.result, AD, AE, AM]
  ·repeat' with_reducible first | refine W ?_ | refine Z0 ?_ | ((first | refine Wo fun K hK => ?_ | refine Wp ?_ | refine Wq ?_ | refine Wr ?_); (try simp only [go_sem, fN, seval, eT, iR, h1, dT, dF, nL]); (repeat refine Ai ?_); (try (refine hK _ ?_; clear hK K)); try refine iC ?_)
   simp only [go_sem, fN, seval, AY, AS.result, AD, AE, AM]
theorem Dn (t : Lm) (hw : t.wf) : Aa Tryd.prog 41 [aLm t] (An t.isRed) := by
 refine Iq.ac fun C hC => ?_
 unfold Fc
 unfold Lm.isRed
 rcases Lm.top_cases hw with ⟨f, x, b, h1, h2, h3, h4, h5⟩ | ⟨h5, h6⟩
 ·rw [h5]
  repeat' with_reducible first | refine W ?_ | refine Z0 ?_ | ((first | refine Wo fun K hK => ?_ | refine Wp ?_ | refine Wq ?_ | refine Wr ?_); (try simp only [go_sem, fN, seval, eT, iR, h1, h2, h3, dT, dF, nL]); (repeat refine Ai ?_); (try (refine hK _ ?_; clear hK K)); try refine iC ?_)
  simp only [go_sem, fN, seval, AY, AS.result, AD, AE, AM]
 ·rw [h5]
  by_cases h1 : t.kind = 3
  ·obtain ⟨f, x, h2, h3⟩ := h6 h1
   repeat' with_reducible first | refine W ?_ | refine Z0 ?_ | ((first | refine Wo fun K hK => ?_ | refine Wp ?_ | refine Wq ?_ | refine Wr ?_); (try simp only [go_sem, fN, seval, eT, iR, h1, h2, h3, dT, dF, nL]); (repeat refine Ai ?_); (try (refine hK _ ?_; clear hK K)); try refine iC ?_)
   simp only [go_sem, fN, seval, AY, AS.result, AD, AE, AM]
  ·repeat' with_reducible first | refine W ?_ | refine Z0 ?_ | ((first | refine Wo fun K hK => ?_ | refine Wp ?_ | refine Wq ?_ | refine Wr ?_); (try simp only [go_sem, fN, seval, eT, iR, h1, dT, dF, nL]); (repeat refine Ai ?_); (try (refine hK _ ?_; clear hK K)); try refine iC ?_)
   simp only [go_sem, fN, seval, AY, AS.result, AD, AE, AM]
theorem PS (t f x b : Lm) (h2 : t.subs = [f, x]) (h4 : f.subs = [b]) (hb : b.good 1000000000) (hx : x.good 1000000000) (hbz : b.size ≤ 1000000000) (hxz : x.size ≤ 1000000000) : Aa Tryd.prog 67 [aLm t] (aLm (Lm.put x 0 b)) := by
 refine Hy.ac fun C hC => ?_
 unfold Ev
 repeat' (first | (with_reducible first | refine W ?_ | refine Z0 ?_ | ((first | refine Wo fun K hK => ?_ | refine Wp ?_ | refine Wq ?_ | refine Wr ?_); (try simp only [go_sem, fN, seval, eT, iR, h2, h4, dT, dF, nL]); (repeat refine Ai ?_); (try (refine hK _ ?_; clear hK K)); try refine iC ?_)) | refine Cg _ (Lt b x hb hx hxz hbz) ?_)
 simp only [go_sem, fN, seval, AY, AS.result, AD, AE, AM]
theorem Of (t x : Lm) (i : Nat) (hi : i < t.subs.length) (hz : t.subs.length ≤ 1000000000) : Aa Tryd.prog 68 [aLm t, AK i, aLm x] (aLm (.mk t.kind t.idx (t.subs.set i x))) := by
 obtain ⟨a, ha⟩ := Ak hi
 have hne : ¬ t.subs = [] := fun e => by rw [e] at hi; simp at hi
 refine G6.ac fun C hC => ?_
 unfold ER
 repeat' with_reducible first | refine W ?_ | refine Z0 ?_ | ((first | refine Wo fun K hK => ?_ | refine Wp ?_ | refine Wq ?_ | refine Wr ?_); (try simp only [go_sem, fN, seval, eT, iR, hi, hne, dT, dF, nL]); (repeat refine Ai ?_); (try (refine hK _ ?_; clear hK K)); try refine iC ?_)
 simp only [go_sem, fN, seval, eT, iR, ha]
 refine hK _ ?_
 clear hK K
 refine GI ?_
 refine IWP.ghost (As.share (id := 15) rfl) ?_
 repeat' with_reducible first | refine W ?_ | refine Z0 ?_ | ((first | refine Wo fun K hK => ?_ | refine Wp ?_ | refine Wq ?_ | refine Wr ?_); (try simp only [go_sem, fN, seval, eT, iR, dT, dF, nL]); (repeat refine Ai ?_); (try (refine hK _ ?_; clear hK K)); try refine iC ?_)
 simp only [go_sem, fN, seval, AY, AS.result, AD, AE, AM]
 simp [AB, Lm.kind_mk, Lm.idx_mk, Lm.subs_mk]

def Lm.stepR (t : Lm) : AV := .tup [aLm (t.outer.getD t), An t.outer.isSome]
theorem Lm.outer_top {t y : Lm} (h : Lm.top t.kind t.subs = some y) : t.outer = some y := by rw [Lm.outer_eq, h]
theorem Lm.outer_none {t : Lm} (h : Lm.top t.kind t.subs = none) (h2 : Lm.outers t.subs = none) : t.outer = none := by rw [Lm.outer_eq, h, h2]
theorem Lm.outer_some {t : Lm} {ys : List Lm} (h : Lm.top t.kind t.subs = none) (h2 : Lm.outers t.subs = some ys) : t.outer = some (.mk t.kind t.idx ys) := by rw [Lm.outer_eq, h, h2]
theorem N1 (t : Lm) (hw : t.wf) (hg : t.good 1000000000) (hz : t.size ≤ 1000000000) : Aa Tryd.prog 48 [aLm t] t.stepR := by
 induction h : SizeOf.sizeOf t using Nat.strongRecOn generalizing t with
 | _ N ih =>
 subst h
 have hs := Lm.size_eq t
 have hlen := Lm.length_le t.subs
 unfold Lm.stepR
 rcases Lm.top_cases hw with ⟨f, x, b, h1, h2, h3, h4, h5⟩ | ⟨h5, h6⟩
 ·have hr : t.isRed = true := by unfold Lm.isRed; rw [h5]; rfl
  have hf : f ∈ t.subs := by rw [h2]; simp
  have hx : x ∈ t.subs := by rw [h2]; simp
  have hb : b ∈ f.subs := by rw [h4]; simp
  have s1 := Lm.size_sub hf
  have s2 := Lm.size_sub hx
  have s3 := Lm.size_sub hb
  rw [Lm.outer_top h5]
  refine Dy.ac fun C hC => ?_
  unfold Ce
  repeat' (first | (with_reducible first | refine W ?_ | refine Z0 ?_ | ((first | refine Wo fun K hK => ?_ | refine Wp ?_ | refine Wq ?_ | refine Wr ?_); (try simp only [go_sem, fN, seval, eT, iR, hr, dT, dF, nL]); (repeat refine Ai ?_); (try (refine hK _ ?_; clear hK K)); try refine iC ?_)) | refine Cg _ (JQ t hw) ?_ | refine Cg _ (PS t f x b h2 h4 (Lm.good_sub (Lm.good_sub hg hf) hb) (Lm.good_sub hg hx) (by omega) (by omega)) ?_)
  simp only [go_sem, fN, seval, AY, AS.result, AD, AE, AM]
 ·have hr : t.isRed = false := by unfold Lm.isRed; rw [h5]; rfl
  refine Dy.ac fun C hC => ?_
  unfold Ce
  repeat' (first | (with_reducible first | refine W ?_ | refine Z0 ?_ | ((first | refine Wo fun K hK => ?_ | refine Wp ?_ | refine Wq ?_ | refine Wr ?_); (try simp only [go_sem, fN, seval, eT, iR, hr, dT, dF, nL]); (repeat refine Ai ?_); (try (refine hK _ ?_; clear hK K)); try refine iC ?_)) | refine Cg _ (JQ t hw) ?_)
  refine IWP.loopD [5, 6] (fun n s => ∃ k, k ≤ t.subs.length ∧ n = t.subs.length - k ∧ Lm.outers (t.subs.take k) = none ∧ s.env 1 = .one (.ptr 1 1 0 0) ∧ s.env 2 = .one (.ptr 2 1 0 0) ∧ s.S 1 = some (.box 24 [.st (.int .i64 t.kind), .st (.int .i64 t.idx), .st (.list (t.subs.map Ac))]) ∧ s.S 2 = some (.box 24 [.st (.int .i64 0), .st (.int .i64 0), .full []]) ∧ s.env 13 = A1 t.subs ∧ s.env 14 = AK t.subs.length ∧ s.env 15 = AK k ∧ s.S 5 = none ∧ s.S 6 = none) t.subs.length ⟨0, Nat.zero_le _, rfl, rfl, rfl, rfl, rfl, rfl, rfl, rfl, rfl, rfl, rfl⟩ ?_
  rintro n ⟨env, S⟩ ⟨k, hk', rfl, hp, e1, e2, s1, s2, e13, e14, e15, s5, s6⟩
  simp only at e1 e2 s1 s2 e13 e14 e15 s5 s6
  by_cases hlt : (k : Int) < t.subs.length
  ·obtain ⟨a, ha⟩ := Ak (show k < t.subs.length by omega)
   have z3 := Lm.size_sub (AJ ha)
   have ih' := ih _ (Lm.lt_of_sub (AJ ha)) a (Lm.wf_sub hw (AJ ha)) (Lm.good_sub hg (AJ ha)) (by omega) rfl
   unfold Lm.stepR at ih'
   cases ho : a.outer with
   | none =>
    rw [ho] at ih'
    repeat' (first | (with_reducible first | refine W ?_ | refine Z0 ?_ | ((first | refine Wo fun K hK => ?_ | refine Wp ?_ | refine Wq ?_ | refine Wr ?_); (try simp only [go_sem, fN, seval, eT, iR, e1, e2, s1, s2, e13, e14, e15, s5, s6, ha, hlt, dT, dF, nL]); (repeat refine Ai ?_); (try (refine hK _ ?_; clear hK K)); try refine iC ?_)) | refine Cg _ (ih') ?_)
    refine AH ⟨t.subs.length - (k + 1), by omega, k + 1, by omega, rfl, ?_⟩
    simp only [go_sem, fN, seval, AS.drop, AN, AC.clears, AC.clear, AC.highs, AC.high, Bool.not_false, Bool.true_and, Bool.and_self, AV.purge, AV.purges, AC.purge, AI.purge, List.contains_cons, List.contains_nil, Nat.reduceBEq, Bool.or_self, Bool.or_false, Bool.false_or, Bool.or_true, eT, iR, e1, e2, s1, s2, e13, e14, e15, s5, s6]
    exact ⟨Lm.outers_none ha hp ho, by congr 3⟩
   | some y =>
    rw [ho] at ih'
    rw [Lm.outer_some h5 (Lm.outers_some ha hp ho)]
    repeat' (first | (with_reducible first | refine W ?_ | refine Z0 ?_ | ((first | refine Wo fun K hK => ?_ | refine Wp ?_ | refine Wq ?_ | refine Wr ?_); (try simp only [go_sem, fN, seval, eT, iR, e1, e2, s1, s2, e13, e14, e15, s5, s6, ha, hlt, dT, dF, nL]); (repeat refine Ai ?_); (try (refine hK _ ?_; clear hK K)); try refine iC ?_)) | refine Cg _ (ih') ?_ | refine Cg _ (Of t y k (by omega) (by omega)) ?_)
    simp only [go_sem, fN, seval, AY, AS.result, AD, AE, AM, e2]
    try simp [Lm.kind_mk, Lm.idx_mk, Lm.subs_mk]
  ·rw [List.take_of_length_le (by omega)] at hp
   rw [Lm.outer_none h5 hp]
   repeat' with_reducible first | refine W ?_ | refine Z0 ?_ | ((first | refine Wo fun K hK => ?_ | refine Wp ?_ | refine Wq ?_ | refine Wr ?_); (try simp only [go_sem, fN, seval, eT, iR, e1, e2, s1, s2, e13, e14, e15, s5, s6, hlt, dT, dF, nL]); (repeat refine Ai ?_); (try (refine hK _ ?_; clear hK K)); try refine iC ?_)
   simp only [go_sem, fN, seval, AY, AS.result, AD, AE, AM, e2]
   try simp [Lm.kind_mk, Lm.idx_mk, Lm.subs_mk]
theorem Ey (t : Lm) (hw : t.wf) (hz : t.size ≤ 1000000000) : Aa Tryd.prog 25 [aLm t] (An t.outer.isSome) := by
 induction h : SizeOf.sizeOf t using Nat.strongRecOn generalizing t with
 | _ N ih =>
 subst h
 have hs := Lm.size_eq t
 have hlen := Lm.length_le t.subs
 rcases Lm.top_cases hw with ⟨f, x, b, h1, h2, h3, h4, h5⟩ | ⟨h5, h6⟩
 ·have hr : t.isRed = true := by unfold Lm.isRed; rw [h5]; rfl
  rw [Lm.outer_top h5]
  refine Fa.ac fun C hC => ?_
  unfold Dj
  repeat' (first | (with_reducible first | refine W ?_ | refine Z0 ?_ | ((first | refine Wo fun K hK => ?_ | refine Wp ?_ | refine Wq ?_ | refine Wr ?_); (try simp only [go_sem, fN, seval, eT, iR, hr, dT, dF, nL]); (repeat refine Ai ?_); (try (refine hK _ ?_; clear hK K)); try refine iC ?_)) | refine Cg _ (Dn t hw) ?_)
  simp only [go_sem, fN, seval, AY, AS.result, AD, AE, AM]
 ·have hr : t.isRed = false := by unfold Lm.isRed; rw [h5]; rfl
  refine Fa.ac fun C hC => ?_
  unfold Dj
  repeat' (first | (with_reducible first | refine W ?_ | refine Z0 ?_ | ((first | refine Wo fun K hK => ?_ | refine Wp ?_ | refine Wq ?_ | refine Wr ?_); (try simp only [go_sem, fN, seval, eT, iR, hr, dT, dF, nL]); (repeat refine Ai ?_); (try (refine hK _ ?_; clear hK K)); try refine iC ?_)) | refine Cg _ (Dn t hw) ?_)
  refine IWP.loop (fun n s => ∃ k, k ≤ t.subs.length ∧ n = t.subs.length - k ∧ Lm.outers (t.subs.take k) = none ∧ s.env 1 = .one (.ptr 1 1 0 0) ∧ s.S 1 = some (.box 24 [.st (.int .i64 t.kind), .st (.int .i64 t.idx), .st (.list (t.subs.map Ac))]) ∧ s.env 3 = AK k) t.subs.length ⟨0, Nat.zero_le _, rfl, rfl, rfl, rfl, rfl⟩ ?_
  rintro n ⟨env, S⟩ ⟨k, hk', rfl, hp, e1, s1, e3⟩
  simp only at e1 s1 e3
  by_cases hlt : (k : Int) < t.subs.length
  ·obtain ⟨a, ha⟩ := Ak (show k < t.subs.length by omega)
   have z3 := Lm.size_sub (AJ ha)
   have ih' := ih _ (Lm.lt_of_sub (AJ ha)) a (Lm.wf_sub hw (AJ ha)) (by omega) rfl
   cases ho : a.outer with
   | none =>
    rw [ho] at ih'
    repeat' (first | (with_reducible first | refine W ?_ | refine Z0 ?_ | ((first | refine Wo fun K hK => ?_ | refine Wp ?_ | refine Wq ?_ | refine Wr ?_); (try simp only [go_sem, fN, seval, eT, iR, e1, s1, e3, ha, hlt, dT, dF, nL]); (repeat refine Ai ?_); (try (refine hK _ ?_; clear hK K)); try refine iC ?_)) | refine Cg _ (ih') ?_)
    refine AH ⟨t.subs.length - (k + 1), by omega, k + 1, by omega, rfl, ?_⟩
    simp only [go_sem, fN, seval, eT, iR, e1, s1, e3]
    exact ⟨Lm.outers_none ha hp ho, by congr 3⟩
   | some y =>
    rw [ho] at ih'
    rw [Lm.outer_some h5 (Lm.outers_some ha hp ho)]
    repeat' (first | (with_reducible first | refine W ?_ | refine Z0 ?_ | ((first | refine Wo fun K hK => ?_ | refine Wp ?_ | refine Wq ?_ | refine Wr ?_); (try simp only [go_sem, fN, seval, eT, iR, e1, s1, e3, ha, hlt, dT, dF, nL]); (repeat refine Ai ?_); (try (refine hK _ ?_; clear hK K)); try refine iC ?_)) | refine Cg _ (ih') ?_)
    simp only [go_sem, fN, seval, AY, AS.result, AD, AE, AM]
  ·rw [List.take_of_length_le (by omega)] at hp
   rw [Lm.outer_none h5 hp]
   repeat' with_reducible first | refine W ?_ | refine Z0 ?_ | ((first | refine Wo fun K hK => ?_ | refine Wp ?_ | refine Wq ?_ | refine Wr ?_); (try simp only [go_sem, fN, seval, eT, iR, e1, s1, e3, hlt, dT, dF, nL]); (repeat refine Ai ?_); (try (refine hK _ ?_; clear hK K)); try refine iC ?_)
   simp only [go_sem, fN, seval, AY, AS.result, AD, AE, AM]
theorem Jh {α : Type} {xs : List α} {j k : Nat} {y a : α} (hjk : j < k) (ha : xs[k]? = some a) : (xs.set j y).take (k + 1) = (xs.set j y).take k ++ [a] := by
 refine Al ?_
 rw [List.getElem?_set_ne (by omega)]
 exact ha
theorem HI (t y : Lm) (hw : t.wf) (hg : t.good 1000000000) (hz : t.size ≤ 1000000000) (hy : t.outer = some y) : Aa Tryd.prog 29 [aLm t, An false] (aLm y) := by
 induction h : SizeOf.sizeOf t using Nat.strongRecOn generalizing t y with
 | _ N ih =>
 subst h
 have hs := Lm.size_eq t
 have hlen := Lm.length_le t.subs
 rcases Lm.top_cases hw with ⟨f, x, b, h1, h2, h3, h4, h5⟩ | ⟨h5, h6⟩
 ·have hr : t.isRed = true := by unfold Lm.isRed; rw [h5]; rfl
  have hf : f ∈ t.subs := by rw [h2]; simp
  have hx : x ∈ t.subs := by rw [h2]; simp
  have hb : b ∈ f.subs := by rw [h4]; simp
  have s1 := Lm.size_sub hf
  have s2 := Lm.size_sub hx
  have s3 := Lm.size_sub hb
  rw [Lm.outer_top h5] at hy
  obtain rfl := Option.some.inj hy
  refine FK.ac fun C hC => ?_
  unfold Da
  repeat' with_reducible first | refine W ?_ | refine Z0 ?_ | ((first | refine Wo fun K hK => ?_ | refine Wp ?_ | refine Wq ?_ | refine Wr ?_); (try simp only [go_sem, fN, seval, eT, iR, dT, dF, nL]); (repeat refine Ai ?_); (try (refine hK _ ?_; clear hK K)); try refine iC ?_)
  refine ⟨_, Dn t hw, ?_⟩
  repeat' with_reducible first | refine W ?_ | refine Z0 ?_ | ((first | refine Wo fun K hK => ?_ | refine Wp ?_ | refine Wq ?_ | refine Wr ?_); (try simp only [go_sem, fN, seval, eT, iR, hr, h2, h4, dT, dF, nL]); (repeat refine Ai ?_); (try (refine hK _ ?_; clear hK K)); try refine iC ?_)
  refine ⟨_, OY b x (Lm.good_sub (Lm.good_sub hg hf) hb) (Lm.good_sub hg hx) (by omega) (by omega), ?_⟩
  repeat' with_reducible first | refine W ?_ | refine Z0 ?_ | ((first | refine Wo fun K hK => ?_ | refine Wp ?_ | refine Wq ?_ | refine Wr ?_); (try simp only [go_sem, fN, seval, eT, iR, dT, dF, nL]); (repeat refine Ai ?_); (try (refine hK _ ?_; clear hK K)); try refine iC ?_)
  simp only [go_sem, fN, seval, AY, AS.result, AD, AE, AM]
 ·have hr : t.isRed = false := by unfold Lm.isRed; rw [h5]; rfl
  obtain ⟨ys, hys⟩ : ∃ ys, Lm.outers t.subs = some ys := by
   cases ho : Lm.outers t.subs with
   | none => rw [Lm.outer_none h5 ho] at hy; cases hy
   | some ys => exact ⟨ys, rfl⟩
  rw [Lm.outer_some h5 hys] at hy
  obtain rfl := Option.some.inj hy
  refine FK.ac fun C hC => ?_
  unfold Da
  repeat' (first | (with_reducible first | refine W ?_ | refine Z0 ?_ | ((first | refine Wo fun K hK => ?_ | refine Wp ?_ | refine Wq ?_ | refine Wr ?_); (try simp only [go_sem, fN, seval, eT, iR, hr, dT, dF, nL]); (repeat refine Ai ?_); (try (refine hK _ ?_; clear hK K)); try refine iC ?_)) | refine Cg _ (Dn t hw) ?_)
  refine IWP.ghost (As.ownC 5 2 21 24 3 (xs := ([] : List Lm).map Ac) rfl rfl rfl Bn) ?_
  refine IWP.loop (fun n s => ∃ (k : Nat) (done : Bool) (row : List Lm), k ≤ t.subs.length ∧ n = t.subs.length - k ∧ row.length = k ∧ ((done = false ∧ row = t.subs.take k ∧ Lm.outers row = none) ∨ (done = true ∧ ∃ j y, j < k ∧ ys = t.subs.set j y ∧ row = ys.take k)) ∧ s.env 1 = An false ∧ s.env 2 = .one (.ptr 2 1 0 0) ∧ s.env 4 = .one (.ptr 4 1 0 0) ∧ s.env 5 = .one (.ptr 5 1 0 0) ∧ s.S 2 = some (.box 24 [.st (.int .i64 t.kind), .st (.int .i64 t.idx), .st (.list (t.subs.map Ac))]) ∧ s.S 4 = some (.box 24 [.st (.int .i64 0), .st (.int .i64 0), .full []])
   ∧ s.S 5 = some (.box 24 [.st (.int .i64 t.kind), .st (.int .i64 t.idx), .row 21 k]) ∧ s.S 21 = some (.arow 24 3 (row.map Ac)) ∧ s.env 6 = An done ∧ s.env 7 = AK k) t.subs.length
   ⟨0, false, [], Nat.zero_le _, rfl, rfl, Or.inl ⟨rfl, rfl, rfl⟩, rfl, rfl, rfl, rfl, rfl, rfl, rfl, rfl, rfl, rfl⟩ ?_
  rintro n ⟨env, S⟩ ⟨k, done, row, hk', rfl, hlr, hcase, e1, e2, e4, e5, s2, s4, s5, s21, e6, e7⟩
  simp only at e1 e2 e4 e5 s2 s4 s5 s21 e6 e7
  by_cases hlt : (k : Int) < t.subs.length
  ·obtain ⟨a, ha⟩ := Ak (show k < t.subs.length by omega)
   have z3 := Lm.size_sub (AJ ha)
   have ha' := Ey a (Lm.wf_sub hw (AJ ha)) (by omega)
   rcases hcase with ⟨rfl, hrow, hnone⟩ | ⟨rfl, j, y, hj, hset, hrow⟩
   ·cases ho : a.outer with
    | none =>
     rw [ho] at ha'
     repeat' (first | (with_reducible first | refine W ?_ | refine Z0 ?_ | ((first | refine Wo fun K hK => ?_ | refine Wp ?_ | refine Wq ?_ | refine Wr ?_); (try simp only [go_sem, fN, seval, eT, iR, e1, e2, e4, e5, s2, s4, s5, s21, e6, e7, ha, hlt, hlr, dT, dF, nL]); (repeat refine Ai ?_); (try (refine hK _ ?_; clear hK K)); try refine iC ?_)) | refine Cg _ (ha') ?_)
     refine AH ⟨t.subs.length - (k + 1), by omega, k + 1, false, row ++ [a], by omega, rfl, by simp [hlr], ?_, ?_⟩
     ·refine Or.inl ⟨rfl, by rw [Al ha, hrow], ?_⟩
      rw [hrow] at hnone ⊢
      rw [← Al ha]
      exact Lm.outers_none ha hnone ho
     ·simp only [go_sem, fN, seval, eT, iR, e1, e2, e4, e5, s2, s4, s5, s21, e6, e7]
      exact ⟨by simp [AB], by congr 3⟩
    | some z =>
     rw [ho] at ha'
     repeat' (first | (with_reducible first | refine W ?_ | refine Z0 ?_ | ((first | refine Wo fun K hK => ?_ | refine Wp ?_ | refine Wq ?_ | refine Wr ?_); (try simp only [go_sem, fN, seval, eT, iR, e1, e2, e4, e5, s2, s4, s5, s21, e6, e7, ha, hlt, hlr, dT, dF, nL]); (repeat refine Ai ?_); (try (refine hK _ ?_; clear hK K)); try refine iC ?_)) | refine Cg _ (ha') ?_ | refine Cg _ (ih _ (Lm.lt_of_sub (AJ ha)) a z (Lm.wf_sub hw (AJ ha)) (Lm.good_sub hg (AJ ha)) (by omega) ho rfl) ?_)
     have hys2 := Lm.outers_some ha (hrow ▸ hnone) ho
     rw [hys] at hys2
     refine AH ⟨t.subs.length - (k + 1), by omega, k + 1, true, row ++ [z], by omega, rfl, by simp [hlr], ?_, ?_⟩
     ·refine Or.inr ⟨rfl, k, z, by omega, Option.some.inj hys2, ?_⟩
      rw [Option.some.inj hys2, Al (a := z) (by rw [List.getElem?_set_self (by omega)]), List.take_set_of_le (Nat.le_refl k), hrow]
     ·simp only [go_sem, fN, seval, eT, iR, e1, e2, e4, e5, s2, s4, s5, s21, e6, e7]
      exact ⟨by simp [AB], by congr 3⟩
   ·repeat' with_reducible first | refine W ?_ | refine Z0 ?_ | ((first | refine Wo fun K hK => ?_ | refine Wp ?_ | refine Wq ?_ | refine Wr ?_); (try simp only [go_sem, fN, seval, eT, iR, e1, e2, e4, e5, s2, s4, s5, s21, e6, e7, ha, hlt, hlr, dT, dF, nL]); (repeat refine Ai ?_); (try (refine hK _ ?_; clear hK K)); try refine iC ?_)
    refine AH ⟨t.subs.length - (k + 1), by omega, k + 1, true, row ++ [a], by omega, rfl, by simp [hlr], ?_, ?_⟩
    ·refine Or.inr ⟨rfl, j, y, by omega, hset, ?_⟩
     rw [hset, Jh hj ha, hrow, hset]
    ·simp only [go_sem, fN, seval, eT, iR, e1, e2, e4, e5, s2, s4, s5, s21, e6, e7]
     exact ⟨by simp [AB], by congr 3⟩
  ·have hfull : row = ys := by
    rcases hcase with ⟨_, hrow, hnone⟩ | ⟨_, j, y, hj, hset, hrow⟩
    ·rw [hrow, List.take_of_length_le (by omega), hys] at hnone
     cases hnone
    ·have := Lm.outers_length hys
     rw [hrow, List.take_of_length_le (by omega)]
   subst hfull
   repeat' with_reducible first | refine W ?_ | refine Z0 ?_ | ((first | refine Wo fun K hK => ?_ | refine Wp ?_ | refine Wq ?_ | refine Wr ?_); (try simp only [go_sem, fN, seval, eT, iR, e1, e2, e4, e5, s2, s4, s5, s21, e6, e7, hlt, dT, dF, nL]); (repeat refine Ai ?_); (try (refine hK _ ?_; clear hK K)); try refine iC ?_)
   simp only [go_sem, fN, seval, AY, AS.result, AD, AE, AM, e4, s4, s5, s21, hlr]
   try simp [Lm.kind_mk, Lm.idx_mk, Lm.subs_mk]

abbrev Pr (r : Lm × Int × Int) : AV := .tup [aLm r.1, AK r.2.1, AK r.2.2]
theorem O8 (t : Lm) (m : Nat) (hm : m ≤ 400) (hw : t.wf) (hz : t.size ≤ 2000) (hg : t.good 1000000) : Aa Tryd.prog 47 [aLm t, AK m, .one (.fn 48 [])] (Pr (Lm.run m 0 t)) := by
 refine G8.ac fun C hC => ?_
 unfold EP
 repeat' with_reducible first | refine W ?_ | refine Z0 ?_ | ((first | refine Wo fun K hK => ?_ | refine Wp ?_ | refine Wq ?_ | refine Wr ?_); (try simp only [go_sem, fN, seval, eT, iR, dT, dF, nL]); (repeat refine Ai ?_); (try (refine hK _ ?_; clear hK K)); try refine iC ?_)
 refine IWP.loopD [10] (fun n s => ∃ (k : Nat) (t' : Lm), k ≤ m ∧ n = m - k ∧ Lm.run (m - k) k t' = Lm.run m 0 t ∧ t'.wf ∧ t'.size ≤ 2000 ∧ t'.good (1000000 + 2000 * k) ∧ s.env 1 = AK m ∧ s.env 2 = .one (.fn 48 []) ∧ s.env 3 = .one (.ptr 3 1 0 0) ∧ s.env 6 = .one (.ptr 6 1 0 0) ∧ s.S 3 = some (.box 24 [.st (.int .i64 t'.kind), .st (.int .i64 t'.idx), .st (.list (t'.subs.map Ac))]) ∧ s.S 6 = some (.box 24 [.st (.int .i64 0), .st (.int .i64 0), .full []]) ∧ s.env 9 = AK k ∧ s.S 10 = none) m
  ⟨0, t, Nat.zero_le _, rfl, rfl, hw, hz, by simpa using hg, rfl, rfl, rfl, rfl, rfl, rfl, rfl, rfl⟩ ?_
 rintro n ⟨env, S⟩ ⟨k, t', hk, rfl, hR, hw', hz', hg', e1, e2, e3, e6, s3, s6, e9, s10⟩
 simp only at e1 e2 e3 e6 s3 s6 e9 s10
 have hg9 := Lm.good_mono (c := 1000000000) (by omega) t' hg'
 have hO := N1 t' hw' hg9 (by omega)
 unfold Lm.stepR at hO
 rw [← hR]
 cases ho : t'.outer with
 | none =>
  rw [ho] at hO
  rw [Lm.run_none ho]
  repeat' with_reducible first | refine W ?_ | refine Z0 ?_ | ((first | refine Wo fun K hK => ?_ | refine Wp ?_ | refine Wq ?_ | refine Wr ?_); (try simp only [go_sem, fN, seval, eT, iR, e1, e2, e3, e6, s3, s6, e9, s10, dT, dF, nL]); (repeat refine Ai ?_); (try (refine hK _ ?_; clear hK K)); try refine iC ?_)
  refine ⟨by kernel_rfl, _, _, hO.toS rfl, ?_⟩
  repeat' (first | (with_reducible first | refine W ?_ | refine Z0 ?_ | ((first | refine Wo fun K hK => ?_ | refine Wp ?_ | refine Wq ?_ | refine Wr ?_); (try simp only [go_sem, fN, seval, eT, iR, e1, e2, e3, e6, s3, s6, e9, s10, dT, dF, nL]); (repeat refine Ai ?_); (try (refine hK _ ?_; clear hK K)); try refine iC ?_)) | refine Cg _ (Ox t' hg9 (by omega)) ?_)
  simp only [go_sem, fN, seval, AY, AS.result, AD, AE, AM, e6]
 | some y =>
  rw [ho] at hO
  have hsy := Lm.size_outer ho
  have hsq : t'.size * t'.size ≤ 2000 * 2000 := Nat.mul_le_mul hz' hz'
  rcases Nat.lt_or_ge k m with hkm | hkm
  ·have hne : ¬ (k : Int) = m := by omega
   obtain ⟨l, hl⟩ : ∃ l, m - k = l + 1 := ⟨m - k - 1, by omega⟩
   rw [hl, Lm.run_succ ho]
   rw [hl, Lm.run_succ ho] at hR
   by_cases hbig : 2000 < y.size
   ·rw [if_pos hbig]
    repeat' with_reducible first | refine W ?_ | refine Z0 ?_ | ((first | refine Wo fun K hK => ?_ | refine Wp ?_ | refine Wq ?_ | refine Wr ?_); (try simp only [go_sem, fN, seval, eT, iR, e1, e2, e3, e6, s3, s6, e9, s10, dT, dF, nL]); (repeat refine Ai ?_); (try (refine hK _ ?_; clear hK K)); try refine iC ?_)
    refine ⟨by kernel_rfl, _, _, hO.toS rfl, ?_⟩
    repeat' with_reducible first | refine W ?_ | refine Z0 ?_ | ((first | refine Wo fun K hK => ?_ | refine Wp ?_ | refine Wq ?_ | refine Wr ?_); (try simp only [go_sem, fN, seval, eT, iR, e1, e2, e3, e6, s3, s6, e9, s10, hne, dT, dF, nL]); (repeat refine Ai ?_); (try (refine hK _ ?_; clear hK K)); try refine iC ?_)
    refine ⟨_, Ef y (by omega), ?_⟩
    have hbig' : (2000 : Int) < y.size := by omega
    repeat' with_reducible first | refine W ?_ | refine Z0 ?_ | ((first | refine Wo fun K hK => ?_ | refine Wp ?_ | refine Wq ?_ | refine Wr ?_); (try simp only [go_sem, fN, seval, eT, iR, e1, e2, e3, e6, s3, s6, e9, s10, hbig', dT, dF, nL]); (repeat refine Ai ?_); (try (refine hK _ ?_; clear hK K)); try refine iC ?_)
    simp only [go_sem, fN, seval, AY, AS.result, AD, AE, AM, e6, Lm.nil]
    rfl
   ·rw [if_neg hbig] at hR ⊢
    repeat' with_reducible first | refine W ?_ | refine Z0 ?_ | ((first | refine Wo fun K hK => ?_ | refine Wp ?_ | refine Wq ?_ | refine Wr ?_); (try simp only [go_sem, fN, seval, eT, iR, e1, e2, e3, e6, s3, s6, e9, s10, dT, dF, nL]); (repeat refine Ai ?_); (try (refine hK _ ?_; clear hK K)); try refine iC ?_)
    refine ⟨by kernel_rfl, _, _, hO.toS rfl, ?_⟩
    repeat' with_reducible first | refine W ?_ | refine Z0 ?_ | ((first | refine Wo fun K hK => ?_ | refine Wp ?_ | refine Wq ?_ | refine Wr ?_); (try simp only [go_sem, fN, seval, eT, iR, e1, e2, e3, e6, s3, s6, e9, s10, hne, dT, dF, nL]); (repeat refine Ai ?_); (try (refine hK _ ?_; clear hK K)); try refine iC ?_)
    refine ⟨_, Ef y (by omega), ?_⟩
    have hbig' : ¬ (2000 : Int) < y.size := by omega
    repeat' with_reducible first | refine W ?_ | refine Z0 ?_ | ((first | refine Wo fun K hK => ?_ | refine Wp ?_ | refine Wq ?_ | refine Wr ?_); (try simp only [go_sem, fN, seval, eT, iR, e1, e2, e3, e6, s3, s6, e9, s10, hbig', dT, dF, nL]); (repeat refine Ai ?_); (try (refine hK _ ?_; clear hK K)); try refine iC ?_)
    refine AH ⟨m - (k + 1), by omega, k + 1, y, by omega, rfl, ?_, Lm.wf_outer hw' ho, by omega, Lm.good_mono (by omega) y (Lm.good_outer (D := 2000) (by decide) (by omega) hg' ho), ?_⟩
    ·rw [show m - (k + 1) = l by omega]
     congr 1
    ·simp only [go_sem, fN, seval, AS.drop, AN, AC.clears, AC.clear, AC.highs, AC.high, Bool.not_false, Bool.true_and, Bool.and_self, AV.purge, AV.purges, AC.purge, AI.purge, List.contains_cons, List.contains_nil, Nat.reduceBEq, Bool.or_self, Bool.or_false, Bool.false_or, Bool.or_true, eT, iR, e1, e2, e3, e6, s3, s6, e9, s10]
     congr 3
  ·have hkm' : k = m := by omega
   subst hkm'
   rw [Nat.sub_self, Lm.run_zero ho]
   repeat' with_reducible first | refine W ?_ | refine Z0 ?_ | ((first | refine Wo fun K hK => ?_ | refine Wp ?_ | refine Wq ?_ | refine Wr ?_); (try simp only [go_sem, fN, seval, eT, iR, e1, e2, e3, e6, s3, s6, e9, s10, dT, dF, nL]); (repeat refine Ai ?_); (try (refine hK _ ?_; clear hK K)); try refine iC ?_)
   refine ⟨by kernel_rfl, _, _, hO.toS rfl, ?_⟩
   repeat' with_reducible first | refine W ?_ | refine Z0 ?_ | ((first | refine Wo fun K hK => ?_ | refine Wp ?_ | refine Wq ?_ | refine Wr ?_); (try simp only [go_sem, fN, seval, eT, iR, e1, e2, e3, e6, s3, s6, e9, s10, dT, dF, nL]); (repeat refine Ai ?_); (try (refine hK _ ?_; clear hK K)); try refine iC ?_)
   simp only [go_sem, fN, seval, AY, AS.result, AD, AE, AM, e6, Lm.nil]
   rfl
theorem MA (t : Lm) (m : Nat) (hm : m ≤ 400) (hw : t.wf) (hz : t.size ≤ 2000) (hg : t.good 1000000) : Aa Tryd.prog 14 [aLm t, AK m, An false] (Pr (Lm.run m 0 t)) := by
 refine JX.ac fun C hC => ?_
 unfold GF
 repeat' with_reducible first | refine W ?_ | refine Z0 ?_ | ((first | refine Wo fun K hK => ?_ | refine Wp ?_ | refine Wq ?_ | refine Wr ?_); (try simp only [go_sem, fN, seval, eT, iR, dT, dF, nL]); (repeat refine Ai ?_); (try (refine hK _ ?_; clear hK K)); try refine iC ?_)
 refine IWP.loop (fun n s => ∃ (k : Nat) (t' : Lm), k ≤ m ∧ n = m - k ∧ Lm.run (m - k) k t' = Lm.run m 0 t ∧ t'.wf ∧ t'.size ≤ 2000 ∧ t'.good (1000000 + 2000 * k) ∧ s.env 1 = AK m ∧ s.env 2 = An false ∧ s.env 3 = .one (.ptr 3 1 0 0) ∧ s.env 6 = .one (.ptr 6 1 0 0) ∧ s.S 3 = some (.box 24 [.st (.int .i64 t'.kind), .st (.int .i64 t'.idx), .st (.list (t'.subs.map Ac))]) ∧ s.S 6 = some (.box 24 [.st (.int .i64 0), .st (.int .i64 0), .full []]) ∧ s.env 9 = AK k) m
  ⟨0, t, Nat.zero_le _, rfl, rfl, hw, hz, by simpa using hg, rfl, rfl, rfl, rfl, rfl, rfl, rfl⟩ ?_
 rintro n ⟨env, S⟩ ⟨k, t', hk, rfl, hR, hw', hz', hg', e1, e2, e3, e6, s3, s6, e9⟩
 simp only at e1 e2 e3 e6 s3 s6 e9
 have hg9 := Lm.good_mono (c := 1000000000) (by omega) t' hg'
 have hO := Ey t' hw' (by omega)
 rw [← hR]
 cases ho : t'.outer with
 | none =>
  rw [ho] at hO
  rw [Lm.run_none ho]
  repeat' (first | (with_reducible first | refine W ?_ | refine Z0 ?_ | ((first | refine Wo fun K hK => ?_ | refine Wp ?_ | refine Wq ?_ | refine Wr ?_); (try simp only [go_sem, fN, seval, eT, iR, e1, e2, e3, e6, s3, s6, e9, dT, dF, nL]); (repeat refine Ai ?_); (try (refine hK _ ?_; clear hK K)); try refine iC ?_)) | refine Cg _ (hO) ?_)
  simp only [go_sem, fN, seval, AY, AS.result, AD, AE, AM, e6]
 | some y =>
  rw [ho] at hO
  have hsy := Lm.size_outer ho
  have hsq : t'.size * t'.size ≤ 2000 * 2000 := Nat.mul_le_mul hz' hz'
  rcases Nat.lt_or_ge k m with hkm | hkm
  ·have hne : ¬ (k : Int) = m := by omega
   obtain ⟨l, hl⟩ : ∃ l, m - k = l + 1 := ⟨m - k - 1, by omega⟩
   rw [hl, Lm.run_succ ho]
   rw [hl, Lm.run_succ ho] at hR
   by_cases hbig : 2000 < y.size
   ·rw [if_pos hbig]
    repeat' (first | (with_reducible first | refine W ?_ | refine Z0 ?_ | ((first | refine Wo fun K hK => ?_ | refine Wp ?_ | refine Wq ?_ | refine Wr ?_); (try simp only [go_sem, fN, seval, eT, iR, e1, e2, e3, e6, s3, s6, e9, hne, dT, dF, nL]); (repeat refine Ai ?_); (try (refine hK _ ?_; clear hK K)); try refine iC ?_)) | refine Cg _ (hO) ?_ | refine Cg _ (HI t' y hw' hg9 (by omega) ho) ?_)
    refine ⟨_, He y 2000 (by decide) (by decide), ?_⟩
    have hbig' : (2000 : Int) < Bg y.size 2000 := by unfold Bg; split <;> omega
    repeat' with_reducible first | refine W ?_ | refine Z0 ?_ | ((first | refine Wo fun K hK => ?_ | refine Wp ?_ | refine Wq ?_ | refine Wr ?_); (try simp only [go_sem, fN, seval, eT, iR, e1, e2, e3, e6, s3, s6, e9, hbig', dT, dF, nL]); (repeat refine Ai ?_); (try (refine hK _ ?_; clear hK K)); try refine iC ?_)
    simp only [go_sem, fN, seval, AY, AS.result, AD, AE, AM, e6, Lm.nil]
    rfl
   ·rw [if_neg hbig] at hR ⊢
    repeat' (first | (with_reducible first | refine W ?_ | refine Z0 ?_ | ((first | refine Wo fun K hK => ?_ | refine Wp ?_ | refine Wq ?_ | refine Wr ?_); (try simp only [go_sem, fN, seval, eT, iR, e1, e2, e3, e6, s3, s6, e9, hne, dT, dF, nL]); (repeat refine Ai ?_); (try (refine hK _ ?_; clear hK K)); try refine iC ?_)) | refine Cg _ (hO) ?_ | refine Cg _ (HI t' y hw' hg9 (by omega) ho) ?_)
    refine ⟨_, He y 2000 (by decide) (by decide), ?_⟩
    have hbig' : ¬ (2000 : Int) < Bg y.size 2000 := by unfold Bg; split <;> omega
    repeat' with_reducible first | refine W ?_ | refine Z0 ?_ | ((first | refine Wo fun K hK => ?_ | refine Wp ?_ | refine Wq ?_ | refine Wr ?_); (try simp only [go_sem, fN, seval, eT, iR, e1, e2, e3, e6, s3, s6, e9, hbig', dT, dF, nL]); (repeat refine Ai ?_); (try (refine hK _ ?_; clear hK K)); try refine iC ?_)
    refine AH ⟨m - (k + 1), by omega, k + 1, y, by omega, rfl, ?_, Lm.wf_outer hw' ho, by omega, Lm.good_mono (by omega) y (Lm.good_outer (D := 2000) (by decide) (by omega) hg' ho), ?_⟩
    ·rw [show m - (k + 1) = l by omega]
     congr 1
    ·simp only [go_sem, fN, seval, eT, iR, e1, e2, e3, e6, s3, s6, e9]
     congr 3
  ·have hkm' : k = m := by omega
   subst hkm'
   rw [Nat.sub_self, Lm.run_zero ho]
   repeat' (first | (with_reducible first | refine W ?_ | refine Z0 ?_ | ((first | refine Wo fun K hK => ?_ | refine Wp ?_ | refine Wq ?_ | refine Wr ?_); (try simp only [go_sem, fN, seval, eT, iR, e1, e2, e3, e6, s3, s6, e9, dT, dF, nL]); (repeat refine Ai ?_); (try (refine hK _ ?_; clear hK K)); try refine iC ?_)) | refine Cg _ (hO) ?_)
   simp only [go_sem, fN, seval, AY, AS.result, AD, AE, AM, e6, Lm.nil]
   rfl

def CJ : IR :=
 (.seq (.ops [.i 2 (.box 24 (.t 0)), .i 4 (.alloc 24 [.st (.int .i64 0), .st (.int .i64 0), .full []])]) (.seq (.seq (.ops [.f 8 0 2, .l 9 8, .i 10 (.bin .eql (.t 9) (.n 5))]) (.cond (.t 10) (.seq (.ops [.m 11 1, .f 12 1 2, .l 13 12, .i 14 (.indexAddr 3 (.t 11) (.t 13)), .L 15 3 14, .s 3 4 15]) .ret) .skip)) (.seq (.ops [.f 16 0 2, .l 17 16, .f 18 1 2, .l 19 18, .i 20 (.build [.st (.int .i64 0), .st (.int .i64 0), .full []] [(0, 1, .t 17), (1, 1, .t 19)]), .i 5 (.alloc 24 [.st (.int .i64 0), .st (.int .i64 0), .full []]), .s 3 5 20]) (.seq (.seq (.ops [.f 21 2 2, .l 22 21, .i 23 (.len false (.t 22)), .i 24 (.mov (.n 0))]) (.block 0 (.loop (.seq (.ops [.i 25 (.bin .lss (.t 24) (.t 23))]) (.seq (.cond (.t 25) .skip (.exit 0)) (.seq (.block 1 (.seq (.ops [.i 26 (.indexAddr 3 (.t 22) (.t 24)), .L 27 3 26, .i 7 (.alloc 24 [.st (.int .i64 0), .st (.int .i64 0), .full []]), .s 3 7 27]) (.ops [.f 28 2 5, .l 29 28, .L 30 3 7, .m 31 1, .i 32 (.call 46 [.t 30, .t 31]), .i 33 (.buildSlice false 24 3 [.t 32]), .i 34 (.append false 24 3 40 (.t 29) (.t 33)), .f 35 2 5, .s 1 35 34]))) (.ops [.i 36 (.bin .add (.t 24) (.n 1)), .m 24 36]))))))) (.seq (.ops [.L 37 3 5, .s 3 4 37]) .ret)))))
theorem C4 : OkF Tryd.prog 46 38 [] CJ [.cell 4 true 3] := .of Tryd.func46 rfl rfl (by kernel_rfl) rfl
def EJ : IR :=
 (.seq (.ops [.i 3 (.box 24 (.t 0)), .i 6 (.alloc 24 [.st (.int .i64 0), .st (.int .i64 0), .full []]), .i 7 (.mov (.n 0))]) (.seq (.seq (.ops [.m 15 1, .i 16 (.len false (.t 15)), .i 17 (.bin .gtr (.t 16) (.n 4))]) (.cond (.t 17) (.seq (.ops [.i 18 (.build [.st (.int .i64 0), .st (.int .i64 0), .full []] []), .s 3 6 18, .i 7 (.mov (.n 3))]) .ret) .skip)) (.seq (.seq (.ops [.m 19 1, .i 20 (.len false (.t 19)), .i 21 (.mov (.n 0))]) (.block 0 (.loop (.seq (.ops [.i 22 (.bin .lss (.t 21) (.t 20))]) (.seq (.cond (.t 22) .skip (.exit 0)) (.seq (.block 1 (.seq (.ops [.i 23 (.indexAddr 3 (.t 19) (.t 21)), .L 24 3 23, .i 9 (.alloc 24 [.st (.int .i64 0), .st (.int .i64 0), .full []]), .s 3 9 24]) (.seq (.ops [.L 25 3 9, .i 26 (.call 31 [.t 25, .n 0, .n 12]), .m 10 26]) (.seq (.ops [.m 27 10, .i 28 (.bin .neq (.t 27) (.n 0))]) (.cond (.t 28) (.seq (.ops [.i 29 (.build [.st (.int .i64 0), .st (.int .i64 0), .full []] []), .m 30 10, .s 3 6 29, .m 7 30]) .ret) .skip))))) (.ops [.i 31 (.bin .add (.t 21) (.n 1)), .m 21 31]))))))) (.seq (.seq (.ops [.L 32 3 3, .m 33 1, .i 34 (.len false (.t 33)), .i 35 (.call 31 [.t 32, .n 0, .t 34]), .m 11 35]) (.seq (.ops [.m 36 11, .i 37 (.bin .neq (.t 36) (.n 0))]) (.cond (.t 37) (.seq (.ops [.i 38 (.build [.st (.int .i64 0), .st (.int .i64 0), .full []] []), .m 39 11, .s 3 6 38, .m 7 39]) .ret) .skip))) (.seq (.seq (.ops [.m 40 2, .i 41 (.bin .lss (.t 40) (.n 0)), .m 42 41, .mk (some 43) (some (42, false)) (.mov (.t 2)) .no, .mk (some 44) (some (42, false)) (.bin .gtr (.t 43) (.n 400)) .no, .i 45 (.pick (.t 42) (.c (.one (.st (.bool true)))) (.t 44))]) (.cond (.t 45) (.seq (.ops [.i 46 (.build [.st (.int .i64 0), .st (.int .i64 0), .full []] []), .s 3 6 46, .i 7 (.mov (.n 10))]) .ret) .skip)) (.seq (.ops [.L 47 3 3, .m 48 1, .i 49 (.call 46 [.t 47, .t 48]), .i 12 (.alloc 24 [.st (.int .i64 0), .st (.int .i64 0), .full []]), .s 3 12 49]) (.seq (.seq (.ops [.L 50 3 12, .i 51 (.call 32 [.t 50]), .i 52 (.bin .gtr (.t 51) (.n 2000))]) (.cond (.t 52) (.seq (.ops [.i 53 (.build [.st (.int .i64 0), .st (.int .i64 0), .full []] []), .s 3 6 53, .i 7 (.mov (.n 8))]) .ret) .skip)) (.seq (.ops [.L 55 3 12, .m 56 2, .i 57 (.call 47 [.t 55, .t 56, .c (.one (.fn 48 []))]), .m 54 57, .i 58 (.extract 0 (.t 54)), .i 59 (.extract 1 (.t 54)), .i 60 (.extract 2 (.t 54)), .s 3 12 58, .m 13 59, .m 14 60]) (.seq (.seq (.ops [.m 61 14, .i 62 (.bin .neq (.t 61) (.n 0))]) (.cond (.t 62) (.seq (.ops [.i 63 (.build [.st (.int .i64 0), .st (.int .i64 0), .full []] []), .m 64 14, .s 3 6 63, .m 7 64]) .ret) .skip)) (.seq (.ops [.L 65 3 12, .i 66 (.call 20 [.t 65]), .s 3 6 66, .i 7 (.mov (.n 0))]) .ret))))))))))
theorem G2 : OkF Tryd.prog 30 67 [] EJ [.cell 6 true 3, .t 7] := .of Tryd.func30 rfl rfl (by kernel_rfl) rfl

end Go.Proofs.YtcgnojefbalbbaaDoor
