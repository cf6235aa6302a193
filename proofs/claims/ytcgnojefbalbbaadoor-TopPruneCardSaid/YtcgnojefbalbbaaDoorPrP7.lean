/-
  Part 7 of the texts. Conditions: none.
-/
import Derived.Test.YtcgnojefbalbbaaDoorPrP6
namespace Go.Proofs.YtcgnojefbalbbaaDoor
open Go Go.RowKit
set_option linter.unusedVariables false
set_option linter.unusedSimpArgs false
set_option maxHeartbeats 400000
theorem OU (t : Lm) (d : Int) (hd : 0 ≤ d) (hz : d + t.size ≤ 1000000000) : Aa Tryd.prog 39 [aLm t, AK d] (An (Lm.has d t)) := by
 induction h : SizeOf.sizeOf t using Nat.strongRecOn generalizing t d with
 | _ N ih =>
 subst h
 have hs := Lm.size_eq t
 have hlen := Lm.length_le t.subs
 have hu := FY t.kind d
 rw [Lm.has_eq]
 by_cases k1 : t.kind = 1
 ·refine Ew.ac fun C hC => ?_
  unfold DA
  repeat' with_reducible first | refine W ?_ | refine Z0 ?_ | ((first | refine Wo fun K hK => ?_ | refine Wp ?_ | refine Wq ?_ | refine Wr ?_); (try simp only [go_sem, fN, seval, eT, iR, k1, dT, dF, nL]); (repeat refine Ai ?_); (try (refine hK _ ?_; clear hK K)); try refine iC ?_)
  simp only [go_sem, fN, seval, AY, AS.result, AD, AE, AM, k1]
 have hcase : t.kind = 2 ∨ ¬ t.kind = 2 := by omega
 rw [if_neg k1]
 rcases hcase with k2 | k2
 all_goals
  refine Ew.ac fun C hC => ?_
  unfold DA
  repeat' with_reducible first | refine W ?_ | refine Z0 ?_ | ((first | refine Wo fun K hK => ?_ | refine Wp ?_ | refine Wq ?_ | refine Wr ?_); (try simp only [go_sem, fN, seval, eT, iR, k1, k2, dT, dF, nL]); (repeat refine Ai ?_); (try (refine hK _ ?_; clear hK K)); try refine iC ?_)
  refine IWP.loopD [6] (fun n s => ∃ k, k ≤ t.subs.length ∧ n = t.subs.length - k ∧ Lm.hass (Af t.kind d) (t.subs.take k) = false ∧ s.env 1 = AK (Af t.kind d) ∧ s.env 20 = A1 t.subs ∧ s.env 21 = AK t.subs.length ∧ s.env 22 = AK k ∧ s.S 6 = none) t.subs.length ⟨0, Nat.zero_le _, rfl, rfl, by simp only [k1, k2, Af, Int.reduceEq, ↓reduceIte]; rfl, rfl, rfl, rfl, rfl⟩ ?_
  rintro n ⟨env, S⟩ ⟨k, hk', rfl, hp, e1, e20, e21, e22, s6⟩
  simp only at e1 e20 e21 e22 s6
  by_cases hlt : (k : Int) < t.subs.length
  ·obtain ⟨a, ha⟩ := Ak (show k < t.subs.length by omega)
   have z3 := Lm.size_mem (AJ ha)
   repeat' with_reducible first | refine W ?_ | refine Z0 ?_ | ((first | refine Wo fun K hK => ?_ | refine Wp ?_ | refine Wq ?_ | refine Wr ?_); (try simp only [go_sem, fN, seval, eT, iR, e1, e20, e21, e22, s6, ha, hlt, dT, dF, nL]); (repeat refine Ai ?_); (try (refine hK _ ?_; clear hK K)); try refine iC ?_)
   refine ⟨_, ih _ (Lm.lt_of_sub (AJ ha)) a (Af t.kind d) (by omega) (by omega) rfl, ?_⟩
   by_cases hr : Lm.has (Af t.kind d) a = true
   ·repeat' with_reducible first | refine W ?_ | refine Z0 ?_ | ((first | refine Wo fun K hK => ?_ | refine Wp ?_ | refine Wq ?_ | refine Wr ?_); (try simp only [go_sem, fN, seval, eT, iR, e1, e20, e21, e22, s6, hr, dT, dF, nL]); (repeat refine Ai ?_); (try (refine hK _ ?_; clear hK K)); try refine iC ?_)
    simp only [go_sem, fN, seval, AY, AS.result, AD, AE, AM]
    try simp only [k2] at hp hr ⊢
    rw [Lm.hass_yes (k := k + 1) (by rw [Lm.hass_take ha hp, hr])]
   ·have hr' : Lm.has (Af t.kind d) a = false := by simpa using hr
    repeat' with_reducible first | refine W ?_ | refine Z0 ?_ | ((first | refine Wo fun K hK => ?_ | refine Wp ?_ | refine Wq ?_ | refine Wr ?_); (try simp only [go_sem, fN, seval, eT, iR, e1, e20, e21, e22, s6, hr', dT, dF, nL]); (repeat refine Ai ?_); (try (refine hK _ ?_; clear hK K)); try refine iC ?_)
    refine AH ⟨t.subs.length - (k + 1), by omega, k + 1, by omega, rfl, ?_⟩
    simp only [go_sem, fN, seval, AS.drop, AN, AC.clears, AC.clear, AC.highs, AC.high, Bool.not_false, Bool.true_and, Bool.and_self, AV.purge, AV.purges, AC.purge, AI.purge, List.contains_cons, List.contains_nil, Nat.reduceBEq, Bool.or_self, Bool.or_false, Bool.false_or, Bool.or_true, eT, iR, e1, e20, e21, e22, s6]
    exact ⟨by rw [Lm.hass_take ha hp, hr'], by congr 3⟩
  ·repeat' with_reducible first | refine W ?_ | refine Z0 ?_ | ((first | refine Wo fun K hK => ?_ | refine Wp ?_ | refine Wq ?_ | refine Wr ?_); (try simp only [go_sem, fN, seval, eT, iR, e1, e20, e21, e22, s6, hlt, dT, dF, nL]); (repeat refine Ai ?_); (try (refine hK _ ?_; clear hK K)); try refine iC ?_)
   simp only [go_sem, fN, seval, AY, AS.result, AD, AE, AM]
   rw [List.take_of_length_le (by omega)] at hp
   try simp only [k2] at hp ⊢
   rw [hp]
theorem Lw (t : Lm) (d : Int) (hd : 0 ≤ d) (hz : d + t.size ≤ 1000000000) : Aa Tryd.prog 42 [aLm t, AK d] (AK (Lm.uses d t)) := by
 induction h : SizeOf.sizeOf t using Nat.strongRecOn generalizing t d with
 | _ N ih =>
 subst h
 have hs := Lm.size_eq t
 have hlen := Lm.length_le t.subs
 have hu := FY t.kind d
 rw [Lm.uses_eq]
 by_cases k1 : t.kind = 1
 ·by_cases k2 : t.idx = d
  ·refine F6.ac fun C hC => ?_
   unfold Eg
   repeat' with_reducible first | refine W ?_ | refine Z0 ?_ | ((first | refine Wo fun K hK => ?_ | refine Wp ?_ | refine Wq ?_ | refine Wr ?_); (try simp only [go_sem, fN, seval, eT, iR, k1, k2, dT, dF, nL]); (repeat refine Ai ?_); (try (refine hK _ ?_; clear hK K)); try refine iC ?_)
   simp only [go_sem, fN, seval, AY, AS.result, AD, AE, AM, k1, k2]
   try simp
  ·refine F6.ac fun C hC => ?_
   unfold Eg
   repeat' with_reducible first | refine W ?_ | refine Z0 ?_ | ((first | refine Wo fun K hK => ?_ | refine Wp ?_ | refine Wq ?_ | refine Wr ?_); (try simp only [go_sem, fN, seval, eT, iR, k1, k2, dT, dF, nL]); (repeat refine Ai ?_); (try (refine hK _ ?_; clear hK K)); try refine iC ?_)
   simp only [go_sem, fN, seval, AY, AS.result, AD, AE, AM, k1, k2]
   try simp
 have hcase : t.kind = 2 ∨ ¬ t.kind = 2 := by omega
 rw [if_neg k1]
 rcases hcase with k2 | k2
 all_goals
  refine F6.ac fun C hC => ?_
  unfold Eg
  repeat' with_reducible first | refine W ?_ | refine Z0 ?_ | ((first | refine Wo fun K hK => ?_ | refine Wp ?_ | refine Wq ?_ | refine Wr ?_); (try simp only [go_sem, fN, seval, eT, iR, k1, k2, dT, dF, nL]); (repeat refine Ai ?_); (try (refine hK _ ?_; clear hK K)); try refine iC ?_)
  refine IWP.loop (fun n s => ∃ k, k ≤ t.subs.length ∧ n = t.subs.length - k ∧ s.env 1 = AK (Af t.kind d) ∧ s.env 2 = .one (.ptr 2 1 0 0) ∧ s.S 2 = some (.box 24 [.st (.int .i64 t.kind), .st (.int .i64 t.idx), .st (.list (t.subs.map Ac))]) ∧ s.env 5 = AK (Lm.usess (Af t.kind d) (t.subs.take k)) ∧ s.env 6 = AK k) t.subs.length ⟨0, Nat.zero_le _, rfl, by simp only [k1, k2, Af, Int.reduceEq, ↓reduceIte]; rfl, rfl, by first | rfl | (simp only [k2]; rfl), rfl, rfl⟩ ?_
  rintro n ⟨env, S⟩ ⟨k, hk', rfl, e1, e2, s2, e5, e6⟩
  simp only at e1 e2 s2 e5 e6
  by_cases hlt : (k : Int) < t.subs.length
  ·obtain ⟨a, ha⟩ := Ak (show k < t.subs.length by omega)
   have z3 := Lm.size_mem (AJ ha)
   have z4 := Lm.uses_le (Af t.kind d) a
   have z5 := Lm.usess_le (Af t.kind d) (t.subs.take k)
   have z6 := Lm.sizes_take_le t.subs k
   repeat' (first | (with_reducible first | refine W ?_ | refine Z0 ?_ | ((first | refine Wo fun K hK => ?_ | refine Wp ?_ | refine Wq ?_ | refine Wr ?_); (try simp only [go_sem, fN, seval, eT, iR, e1, e2, s2, e5, e6, ha, hlt, dT, dF, nL]); (repeat refine Ai ?_); (try (refine hK _ ?_; clear hK K)); try refine iC ?_)) | refine Cg _ (ih _ (Lm.lt_of_sub (AJ ha)) a (Af t.kind d) (by omega) (by omega) rfl) ?_)
   refine AH ⟨t.subs.length - (k + 1), by omega, k + 1, by omega, rfl, ?_⟩
   simp only [go_sem, fN, seval, eT, iR, e1, e2, s2, e5, e6]
   exact ⟨by rw [Lm.usess_take ha]; congr 3, by congr 3⟩
  ·rw [List.take_of_length_le (by omega)] at e5
   repeat' with_reducible first | refine W ?_ | refine Z0 ?_ | ((first | refine Wo fun K hK => ?_ | refine Wp ?_ | refine Wq ?_ | refine Wr ?_); (try simp only [go_sem, fN, seval, eT, iR, e1, e2, s2, e5, e6, hlt, dT, dF, nL]); (repeat refine Ai ?_); (try (refine hK _ ?_; clear hK K)); try refine iC ?_)
   simp only [go_sem, fN, seval, AY, AS.result, AD, AE, AM, e5]
   try simp [k2]
theorem Lm.etaAt_one {b : Lm} (hw : b.wf) : (∃ f x, b.kind = 3 ∧ b.subs = [f, x] ∧ x.kind = 1 ∧ x.idx = 0 ∧ Lm.has 0 f = false ∧ Lm.etaAt [b] = some (Lm.mv (-1) 0 f)) ∨
  (Lm.etaAt [b] = none ∧ (b.kind = 3 → ∃ f x, b.subs = [f, x] ∧ (x.kind = 1 → x.idx = 0 → Lm.has 0 f = true))) := by
 by_cases hk : b.kind = 3
 ·obtain ⟨f, x, hfx⟩ := Lm.subs2 hw hk
  by_cases hc : x.kind = 1 ∧ x.idx = 0 ∧ Lm.has 0 f = false
  ·exact Or.inl ⟨f, x, hk, hfx, hc.1, hc.2.1, hc.2.2, by simp [Lm.etaAt, hk, hfx, hc]⟩
  ·refine Or.inr ⟨?_, fun _ => ⟨f, x, hfx, fun h1 h2 => ?_⟩⟩
   ·simp only [Lm.etaAt, hk, hfx, if_true]
    rw [if_neg hc]
   ·cases hh : Lm.has 0 f with
    | true => rfl
    | false => exact absurd ⟨h1, h2, hh⟩ hc
 ·exact Or.inr ⟨by simp [Lm.etaAt, hk], fun e => absurd e hk⟩
set_option maxRecDepth 10000 in
theorem Kt (t : Lm) (hw : t.wf) (hg : t.good 1000000000) (hz : t.size ≤ 1000000000) : Aa Tryd.prog 20 [aLm t] (aLm t.eta1) := by
 induction h : SizeOf.sizeOf t using Nat.strongRecOn generalizing t with
 | _ N ih =>
 subst h
 have hs := Lm.size_eq t
 have hlen := Lm.length_le t.subs
 rw [Lm.eta1_eq]
 refine Gb.ac fun C hC => ?_
 unfold Dw
 repeat' with_reducible first | refine W ?_ | refine Z0 ?_ | ((first | refine Wo fun K hK => ?_ | refine Wp ?_ | refine Wq ?_ | refine Wr ?_); (try simp only [go_sem, fN, seval, eT, iR, dT, dF, nL]); (repeat refine Ai ?_); (try (refine hK _ ?_; clear hK K)); try refine iC ?_)
 refine IWP.ghost (As.ownC 3 2 21 24 3 (xs := ([] : List Lm).map Ac) rfl rfl rfl Bn) ?_
 refine IWP.loopD [5] (fun n s => ∃ k, k ≤ t.subs.length ∧ n = t.subs.length - k ∧ s.env 1 = .one (.ptr 1 1 0 0) ∧ s.env 2 = .one (.ptr 2 1 0 0) ∧ s.env 3 = .one (.ptr 3 1 0 0) ∧ s.S 1 = some (.box 24 [.st (.int .i64 t.kind), .st (.int .i64 t.idx), .st (.list (t.subs.map Ac))]) ∧ s.S 2 = some (.box 24 [.st (.int .i64 0), .st (.int .i64 0), .full []])
   ∧ s.S 3 = some (.box 24 [.st (.int .i64 t.kind), .st (.int .i64 t.idx), .row 21 k]) ∧ s.S 21 = some (.arow 24 3 (((t.subs.take k).map Lm.eta1).map Ac)) ∧ s.env 13 = A1 t.subs ∧ s.env 14 = AK t.subs.length ∧ s.env 15 = AK k ∧ s.S 5 = none ∧ s.S 6 = none) t.subs.length
   ⟨0, Nat.zero_le _, rfl, rfl, rfl, rfl, rfl, rfl, rfl, rfl, rfl, rfl, rfl, rfl, rfl⟩ ?_
 rintro n ⟨env, S⟩ ⟨k, hk', rfl, e1, e2, e3, s1, s2, s3, s21, e13, e14, e15, s5, s6⟩
 simp only at e1 e2 e3 s1 s2 s3 s21 e13 e14 e15 s5 s6
 have hlk : (t.subs.take k).length = k := by rw [List.length_take]; omega
 by_cases hlt : (k : Int) < t.subs.length
 ·obtain ⟨a, ha⟩ := Ak (show k < t.subs.length by omega)
  have z3 := Lm.size_sub (AJ ha)
  repeat' (first | (with_reducible first | refine W ?_ | refine Z0 ?_ | ((first | refine Wo fun K hK => ?_ | refine Wp ?_ | refine Wq ?_ | refine Wr ?_); (try simp only [go_sem, fN, seval, eT, iR, e1, e2, e3, s1, s2, s3, s21, e13, e14, e15, s5, s6, ha, hlt, hlk, dT, dF, nL]); (repeat refine Ai ?_); (try (refine hK _ ?_; clear hK K)); try refine iC ?_)) | refine Cg _ (ih _ (Lm.lt_of_sub (AJ ha)) a (Lm.wf_sub hw (AJ ha)) (Lm.good_sub hg (AJ ha)) (by omega) rfl) ?_)
  refine AH ⟨t.subs.length - (k + 1), by omega, k + 1, by omega, rfl, ?_⟩
  simp only [go_sem, fN, seval, AS.drop, AN, AC.clears, AC.clear, AC.highs, AC.high, Bool.not_false, Bool.true_and, Bool.and_self, AV.purge, AV.purges, AC.purge, AI.purge, List.contains_cons, List.contains_nil, Nat.reduceBEq, Bool.or_self, Bool.or_false, Bool.false_or, Bool.or_true, eT, iR, e1, e2, e3, s1, s2, s3, s21, e13, e14, e15, s5, s6]
  exact ⟨by rw [Al ha]; simp [AB], by congr 3⟩
 ·have hall : t.subs.take k = t.subs := List.take_of_length_le (by omega)
  have hkl : k = t.subs.length := by omega
  rw [hall] at s21 hlk
  by_cases k2 : t.kind = 2
  ·obtain ⟨a, ha⟩ := Lm.subs1 hw k2
   have ham : a ∈ t.subs := by rw [ha]; simp
   have z3 := Lm.size_sub ham
   obtain ⟨w1, w2, w3⟩ := Lm.eta1_all (c := 1000000000) a (Lm.wf_sub hw ham) (Lm.good_sub hg ham)
   generalize hb : a.eta1 = b at *
   have hk1 : k = 1 := by rw [hkl, ha]; rfl
   subst hk1
   replace hlt : ¬ (1 : Int) < t.subs.length := by omega
   rw [ha] at s21
   simp only [List.map_cons, List.map_nil, hb, AB b] at s21
   rw [if_pos k2, ha]
   simp only [List.map_cons, List.map_nil, hb]
   rcases Lm.etaAt_one w1 with ⟨f, x, b1, b2, b3, b4, b5, b6⟩ | ⟨b6, b7⟩
   ·have hf : f ∈ b.subs := by rw [b2]; simp
    have s1' := Lm.size_sub hf
    rw [b6]
    repeat' (first | (with_reducible first | refine W ?_ | refine Z0 ?_ | ((first | refine Wo fun K hK => ?_ | refine Wp ?_ | refine Wq ?_ | refine Wr ?_); (try simp only [go_sem, fN, seval, eT, iR, e1, e2, e3, s1, s2, s3, s21, e13, e14, e15, s5, s6, hlt, k2, b1, b2, b3, b4, b5, dT, dF, nL]); (repeat refine Ai ?_); (try (refine hK _ ?_; clear hK K)); try refine iC ?_)) | refine Cg _ (OU f 0 (by decide) (by omega)) ?_ | refine Cg _ (Gq f (-1) 0 (Lm.good_sub w2 hf) (by decide) (by decide) (by omega)) ?_)
    simp only [go_sem, fN, seval, AY, AS.result, AD, AE, AM, e2]
   ·rw [b6]
    by_cases b1 : b.kind = 3
    ·obtain ⟨f, x, b2, b8⟩ := b7 b1
     have hf : f ∈ b.subs := by rw [b2]; simp
     have s1' := Lm.size_sub hf
     by_cases b3 : x.kind = 1
     ·by_cases b4 : x.idx = 0
      ·have b5 := b8 b3 b4
       repeat' (first | (with_reducible first | refine W ?_ | refine Z0 ?_ | ((first | refine Wo fun K hK => ?_ | refine Wp ?_ | refine Wq ?_ | refine Wr ?_); (try simp only [go_sem, fN, seval, eT, iR, e1, e2, e3, s1, s2, s3, s21, e13, e14, e15, s5, s6, hlt, k2, b1, b2, b3, b4, b5, dT, dF, nL]); (repeat refine Ai ?_); (try (refine hK _ ?_; clear hK K)); try refine iC ?_)) | refine Cg _ (OU f 0 (by decide) (by omega)) ?_)
       simp only [go_sem, fN, seval, AY, AS.result, AD, AE, AM, e2, s21]
       try simp [k2, b1, b2, AB, Lm.kind_mk, Lm.idx_mk, Lm.subs_mk]
      ·repeat' with_reducible first | refine W ?_ | refine Z0 ?_ | ((first | refine Wo fun K hK => ?_ | refine Wp ?_ | refine Wq ?_ | refine Wr ?_); (try simp only [go_sem, fN, seval, eT, iR, e1, e2, e3, s1, s2, s3, s21, e13, e14, e15, s5, s6, hlt, k2, b1, b2, b3, b4, dT, dF, nL]); (repeat refine Ai ?_); (try (refine hK _ ?_; clear hK K)); try refine iC ?_)
       simp only [go_sem, fN, seval, AY, AS.result, AD, AE, AM, e2, s21]
       try simp [k2, b1, b2, AB, Lm.kind_mk, Lm.idx_mk, Lm.subs_mk]
     ·repeat' with_reducible first | refine W ?_ | refine Z0 ?_ | ((first | refine Wo fun K hK => ?_ | refine Wp ?_ | refine Wq ?_ | refine Wr ?_); (try simp only [go_sem, fN, seval, eT, iR, e1, e2, e3, s1, s2, s3, s21, e13, e14, e15, s5, s6, hlt, k2, b1, b2, b3, dT, dF, nL]); (repeat refine Ai ?_); (try (refine hK _ ?_; clear hK K)); try refine iC ?_)
      simp only [go_sem, fN, seval, AY, AS.result, AD, AE, AM, e2, s21]
      try simp [k2, b1, b2, AB, Lm.kind_mk, Lm.idx_mk, Lm.subs_mk]
    ·repeat' with_reducible first | refine W ?_ | refine Z0 ?_ | ((first | refine Wo fun K hK => ?_ | refine Wp ?_ | refine Wq ?_ | refine Wr ?_); (try simp only [go_sem, fN, seval, eT, iR, e1, e2, e3, s1, s2, s3, s21, e13, e14, e15, s5, s6, hlt, k2, b1, dT, dF, nL]); (repeat refine Ai ?_); (try (refine hK _ ?_; clear hK K)); try refine iC ?_)
     simp only [go_sem, fN, seval, AY, AS.result, AD, AE, AM, e2, s21]
     try simp [k2, AB, Lm.kind_mk, Lm.idx_mk, Lm.subs_mk]
  ·rw [if_neg k2]
   repeat' with_reducible first | refine W ?_ | refine Z0 ?_ | ((first | refine Wo fun K hK => ?_ | refine Wp ?_ | refine Wq ?_ | refine Wr ?_); (try simp only [go_sem, fN, seval, eT, iR, e1, e2, e3, s1, s2, s3, s21, e13, e14, e15, s5, s6, hlt, k2, dT, dF, nL]); (repeat refine Ai ?_); (try (refine hK _ ?_; clear hK K)); try refine iC ?_)
   simp only [go_sem, fN, seval, AY, AS.result, AD, AE, AM, e2, s2, s3, s21, hkl]
   try simp [Lm.kind_mk, Lm.idx_mk, Lm.subs_mk]
theorem Lm.same_v0 {x : Lm} {c : Int} (hg : x.good c) : x.same (.mk 1 0 []) = decide (x.kind = 1 ∧ x.idx = 0) := by
 rw [Lm.same_eq, Lm.kind_mk, Lm.idx_mk, Lm.subs_mk]
 by_cases h1 : x.kind = 1
 ·rw [((Lm.good_eq c x).1 hg).1 h1]
  simp [h1, Lm.sames]
 ·simp [h1]
set_option maxRecDepth 10000 in
theorem M9 (t : Lm) (hw : t.wf) (hg : t.good 1000000000) (hz : t.size ≤ 1000000000) : Aa Tryd.prog 26 [aLm t] (aLm t.eta1) := by
 induction h : SizeOf.sizeOf t using Nat.strongRecOn generalizing t with
 | _ N ih =>
 subst h
 have hs := Lm.size_eq t
 have hlen := Lm.length_le t.subs
 rw [Lm.eta1_eq]
 refine LE.ac fun C hC => ?_
 unfold HX
 repeat' with_reducible first | refine W ?_ | refine Z0 ?_ | ((first | refine Wo fun K hK => ?_ | refine Wp ?_ | refine Wq ?_ | refine Wr ?_); (try simp only [go_sem, fN, seval, eT, iR, dT, dF, nL]); (repeat refine Ai ?_); (try (refine hK _ ?_; clear hK K)); try refine iC ?_)
 refine IWP.ghost (As.ownC 3 2 21 24 3 (xs := ([] : List Lm).map Ac) rfl rfl rfl Bn) ?_
 refine IWP.loop (fun n s => ∃ k, k ≤ t.subs.length ∧ n = t.subs.length - k ∧ s.env 1 = .one (.ptr 1 1 0 0) ∧ s.env 2 = .one (.ptr 2 1 0 0) ∧ s.env 3 = .one (.ptr 3 1 0 0) ∧ s.S 1 = some (.box 24 [.st (.int .i64 t.kind), .st (.int .i64 t.idx), .st (.list (t.subs.map Ac))]) ∧ s.S 2 = some (.box 24 [.st (.int .i64 0), .st (.int .i64 0), .full []])
   ∧ s.S 3 = some (.box 24 [.st (.int .i64 t.kind), .st (.int .i64 t.idx), .row 21 k]) ∧ s.S 21 = some (.arow 24 3 (((t.subs.take k).map Lm.eta1).map Ac)) ∧ s.env 4 = AK k ∧ s.S 5 = none) t.subs.length
   ⟨0, Nat.zero_le _, rfl, rfl, rfl, rfl, rfl, rfl, rfl, rfl, rfl, rfl⟩ ?_
 rintro n ⟨env, S⟩ ⟨k, hk', rfl, e1, e2, e3, s1, s2, s3, s21, e4, s5⟩
 simp only at e1 e2 e3 s1 s2 s3 s21 e4 s5
 have hlk : (t.subs.take k).length = k := by rw [List.length_take]; omega
 by_cases hlt : (k : Int) < t.subs.length
 ·obtain ⟨a, ha⟩ := Ak (show k < t.subs.length by omega)
  have z3 := Lm.size_sub (AJ ha)
  repeat' (first | (with_reducible first | refine W ?_ | refine Z0 ?_ | ((first | refine Wo fun K hK => ?_ | refine Wp ?_ | refine Wq ?_ | refine Wr ?_); (try simp only [go_sem, fN, seval, eT, iR, e1, e2, e3, s1, s2, s3, s21, e4, s5, ha, hlt, hlk, dT, dF, nL]); (repeat refine Ai ?_); (try (refine hK _ ?_; clear hK K)); try refine iC ?_)) | refine Cg _ (ih _ (Lm.lt_of_sub (AJ ha)) a (Lm.wf_sub hw (AJ ha)) (Lm.good_sub hg (AJ ha)) (by omega) rfl) ?_)
  refine AH ⟨t.subs.length - (k + 1), by omega, k + 1, by omega, rfl, ?_⟩
  simp only [go_sem, fN, seval, eT, iR, e1, e2, e3, s1, s2, s3, s21, e4, s5]
  exact ⟨by rw [Al ha]; simp [AB], by congr 3⟩
 ·have hall : t.subs.take k = t.subs := List.take_of_length_le (by omega)
  have hkl : k = t.subs.length := by omega
  rw [hall] at s21 hlk
  by_cases k2 : t.kind = 2
  ·obtain ⟨a, ha⟩ := Lm.subs1 hw k2
   have ham : a ∈ t.subs := by rw [ha]; simp
   have z3 := Lm.size_sub ham
   obtain ⟨w1, w2, w3⟩ := Lm.eta1_all (c := 1000000000) a (Lm.wf_sub hw ham) (Lm.good_sub hg ham)
   generalize hb : a.eta1 = b at *
   have hk1 : k = 1 := by rw [hkl, ha]; rfl
   subst hk1
   replace hlt : ¬ (1 : Int) < t.subs.length := by omega
   rw [ha] at s21
   simp only [List.map_cons, List.map_nil, hb, AB b] at s21
   rw [if_pos k2, ha]
   simp only [List.map_cons, List.map_nil, hb]
   rcases Lm.etaAt_one w1 with ⟨f, x, b1, b2, b3, b4, b5, b6⟩ | ⟨b6, b7⟩
   ·have hf : f ∈ b.subs := by rw [b2]; simp
    have hx : x ∈ b.subs := by rw [b2]; simp
    have s1' := Lm.size_sub hf
    have hx0 : x.same (.mk 1 0 []) = true := by rw [Lm.same_v0 (Lm.good_sub w2 hx)]; simp [b3, b4]
    have hu0 : ((Lm.uses 0 f : Nat) : Int) = 0 := by
     rw [Lm.uses_has] at b5
     have : ¬ 0 < Lm.uses 0 f := by simpa using b5
     omega
    rw [b6]
    repeat' (first | (with_reducible first | refine W ?_ | refine Z0 ?_ | ((first | refine Wo fun K hK => ?_ | refine Wp ?_ | refine Wq ?_ | refine Wr ?_); (try simp only [go_sem, fN, seval, eT, iR, e1, e2, e3, s1, s2, s3, s21, e4, s5, hlt, k2, b1, b2, hx0, hu0, dT, dF, nL]); (repeat refine Ai ?_); (try (refine hK _ ?_; clear hK K)); try refine iC ?_)) | refine Cg _ (Df 0) ?_ | refine Cg _ (EM x (.mk 1 0 [])) ?_ | refine Cg _ (Lw f 0 (by decide) (by omega)) ?_ | refine Cg _ (IE f (-1) 0 (Lm.good_sub w2 hf) (by decide) (by decide) (by omega)) ?_)
    simp only [go_sem, fN, seval, AY, AS.result, AD, AE, AM, e2]
   ·rw [b6]
    by_cases b1 : b.kind = 3
    ·obtain ⟨f, x, b2, b8⟩ := b7 b1
     have hf : f ∈ b.subs := by rw [b2]; simp
     have hx : x ∈ b.subs := by rw [b2]; simp
     have s1' := Lm.size_sub hf
     by_cases b34 : x.kind = 1 ∧ x.idx = 0
     ·have hx0 : x.same (.mk 1 0 []) = true := by rw [Lm.same_v0 (Lm.good_sub w2 hx)]; simp [b34]
      have b5 := b8 b34.1 b34.2
      have hu0 : ¬ ((Lm.uses 0 f : Nat) : Int) = 0 := by
       rw [Lm.uses_has] at b5
       have : 0 < Lm.uses 0 f := by simpa using b5
       omega
      repeat' (first | (with_reducible first | refine W ?_ | refine Z0 ?_ | ((first | refine Wo fun K hK => ?_ | refine Wp ?_ | refine Wq ?_ | refine Wr ?_); (try simp only [go_sem, fN, seval, eT, iR, e1, e2, e3, s1, s2, s3, s21, e4, s5, hlt, k2, b1, b2, hx0, hu0, dT, dF, nL]); (repeat refine Ai ?_); (try (refine hK _ ?_; clear hK K)); try refine iC ?_)) | refine Cg _ (Df 0) ?_ | refine Cg _ (EM x (.mk 1 0 [])) ?_ | refine Cg _ (Lw f 0 (by decide) (by omega)) ?_)
      simp only [go_sem, fN, seval, AY, AS.result, AD, AE, AM, e2, s21]
      try simp [k2, b1, b2, AB, Lm.kind_mk, Lm.idx_mk, Lm.subs_mk]
     ·have hx0 : x.same (.mk 1 0 []) = false := by rw [Lm.same_v0 (Lm.good_sub w2 hx)]; simp [b34]
      repeat' (first | (with_reducible first | refine W ?_ | refine Z0 ?_ | ((first | refine Wo fun K hK => ?_ | refine Wp ?_ | refine Wq ?_ | refine Wr ?_); (try simp only [go_sem, fN, seval, eT, iR, e1, e2, e3, s1, s2, s3, s21, e4, s5, hlt, k2, b1, b2, hx0, dT, dF, nL]); (repeat refine Ai ?_); (try (refine hK _ ?_; clear hK K)); try refine iC ?_)) | refine Cg _ (Df 0) ?_ | refine Cg _ (EM x (.mk 1 0 [])) ?_)
      simp only [go_sem, fN, seval, AY, AS.result, AD, AE, AM, e2, s21]
      try simp [k2, b1, b2, AB, Lm.kind_mk, Lm.idx_mk, Lm.subs_mk]
    ·repeat' with_reducible first | refine W ?_ | refine Z0 ?_ | ((first | refine Wo fun K hK => ?_ | refine Wp ?_ | refine Wq ?_ | refine Wr ?_); (try simp only [go_sem, fN, seval, eT, iR, e1, e2, e3, s1, s2, s3, s21, e4, s5, hlt, k2, b1, dT, dF, nL]); (repeat refine Ai ?_); (try (refine hK _ ?_; clear hK K)); try refine iC ?_)
     simp only [go_sem, fN, seval, AY, AS.result, AD, AE, AM, e2, s21]
     try simp [k2, AB, Lm.kind_mk, Lm.idx_mk, Lm.subs_mk]
  ·rw [if_neg k2]
   repeat' with_reducible first | refine W ?_ | refine Z0 ?_ | ((first | refine Wo fun K hK => ?_ | refine Wp ?_ | refine Wq ?_ | refine Wr ?_); (try simp only [go_sem, fN, seval, eT, iR, e1, e2, e3, s1, s2, s3, s21, e4, s5, hlt, k2, dT, dF, nL]); (repeat refine Ai ?_); (try (refine hK _ ?_; clear hK K)); try refine iC ?_)
   simp only [go_sem, fN, seval, AY, AS.result, AD, AE, AM, e2, s2, s3, s21, hkl]
   try simp [Lm.kind_mk, Lm.idx_mk, Lm.subs_mk]

theorem Mn (t : Lm) (ws : List Lm) (hk : t.known ws.length) (hz : t.size ≤ 1000000) : Aa Tryd.prog 46 [aLm t, A1 ws] (aLm (Lm.fill ws t)) := by
 induction h : SizeOf.sizeOf t using Nat.strongRecOn generalizing t with
 | _ N ih =>
 subst h
 have hs := Lm.size_eq t
 have hlen := Lm.length_le t.subs
 rw [Lm.fill_eq]
 by_cases k1 : t.kind = 5
 ·have hi := ((Lm.known_eq _ t).1 hk).1 k1
  obtain ⟨w, w1, w2, w3⟩ := JW hi
  have hi0 := hi.1
  have hi1 : t.idx.toNat < ws.length := by omega
  rw [if_pos k1, w3]
  refine C4.ac fun C hC => ?_
  unfold CJ
  repeat' with_reducible first | refine W ?_ | refine Z0 ?_ | ((first | refine Wo fun K hK => ?_ | refine Wp ?_ | refine Wq ?_ | refine Wr ?_); (try simp only [go_sem, fN, seval, eT, iR, k1, w2, hi0, hi1, dT, dF, nL]); (repeat refine Ai ?_); (try (refine hK _ ?_; clear hK K)); try refine iC ?_)
  simp only [go_sem, fN, seval, AY, AS.result, AD, AE, AM]
 ·rw [if_neg k1]
  refine C4.ac fun C hC => ?_
  unfold CJ
  repeat' with_reducible first | refine W ?_ | refine Z0 ?_ | ((first | refine Wo fun K hK => ?_ | refine Wp ?_ | refine Wq ?_ | refine Wr ?_); (try simp only [go_sem, fN, seval, eT, iR, k1, dT, dF, nL]); (repeat refine Ai ?_); (try (refine hK _ ?_; clear hK K)); try refine iC ?_)
  refine IWP.ghost (As.ownC 5 2 21 24 3 (xs := ([] : List Lm).map Ac) rfl rfl rfl Bn) ?_
  refine IWP.loopD [7] (fun n s => ∃ k, k ≤ t.subs.length ∧ n = t.subs.length - k ∧ s.env 1 = A1 ws ∧ s.env 4 = .one (.ptr 4 1 0 0) ∧ s.env 5 = .one (.ptr 5 1 0 0) ∧ s.S 4 = some (.box 24 [.st (.int .i64 0), .st (.int .i64 0), .full []])
   ∧ s.S 5 = some (.box 24 [.st (.int .i64 t.kind), .st (.int .i64 t.idx), .row 21 k]) ∧ s.S 21 = some (.arow 24 3 (((t.subs.take k).map (Lm.fill ws)).map Ac)) ∧ s.env 22 = A1 t.subs ∧ s.env 23 = AK t.subs.length ∧ s.env 24 = AK k ∧ s.S 7 = none) t.subs.length
   ⟨0, Nat.zero_le _, rfl, rfl, rfl, rfl, rfl, rfl, rfl, rfl, rfl, rfl, rfl⟩ ?_
  rintro n ⟨env, S⟩ ⟨k, hk', rfl, e1, e4, e5, s4, s5, s21, e22, e23, e24, s7⟩
  simp only at e1 e4 e5 s4 s5 s21 e22 e23 e24 s7
  have hlk : (t.subs.take k).length = k := by rw [List.length_take]; omega
  by_cases hlt : (k : Int) < t.subs.length
  ·obtain ⟨a, ha⟩ := Ak (show k < t.subs.length by omega)
   have z3 := Lm.size_mem (AJ ha)
   repeat' (first | (with_reducible first | refine W ?_ | refine Z0 ?_ | ((first | refine Wo fun K hK => ?_ | refine Wp ?_ | refine Wq ?_ | refine Wr ?_); (try simp only [go_sem, fN, seval, eT, iR, e1, e4, e5, s4, s5, s21, e22, e23, e24, s7, ha, hlt, hlk, dT, dF, nL]); (repeat refine Ai ?_); (try (refine hK _ ?_; clear hK K)); try refine iC ?_)) | refine Cg _ (ih _ (Lm.lt_of_sub (AJ ha)) a (Lm.known_sub hk (AJ ha)) (by omega) rfl) ?_)
   refine AH ⟨t.subs.length - (k + 1), by omega, k + 1, by omega, rfl, ?_⟩
   simp only [go_sem, fN, seval, AS.drop, AN, AC.clears, AC.clear, AC.highs, AC.high, Bool.not_false, Bool.true_and, Bool.and_self, AV.purge, AV.purges, AC.purge, AI.purge, List.contains_cons, List.contains_nil, Nat.reduceBEq, Bool.or_self, Bool.or_false, Bool.false_or, Bool.or_true, eT, iR, e1, e4, e5, s4, s5, s21, e22, e23, e24, s7]
   exact ⟨by rw [Al ha]; simp [AB], by congr 3⟩
  ·repeat' with_reducible first | refine W ?_ | refine Z0 ?_ | ((first | refine Wo fun K hK => ?_ | refine Wp ?_ | refine Wq ?_ | refine Wr ?_); (try simp only [go_sem, fN, seval, eT, iR, e1, e4, e5, s4, s5, s21, e22, e23, e24, s7, hlt, dT, dF, nL]); (repeat refine Ai ?_); (try (refine hK _ ?_; clear hK K)); try refine iC ?_)
   have hall : t.subs.take k = t.subs := List.take_of_length_le (by omega)
   rw [hall] at s21
   have hkl : k = t.subs.length := by omega
   simp only [go_sem, fN, seval, AY, AS.result, AD, AE, AM, e4, s4, s5, s21, hkl]
   try simp [Lm.kind_mk, Lm.idx_mk, Lm.subs_mk]
def DS : List Lm → Int
 | [] => 0
 | w :: ws => if w.may 12 0 = 0 then DS ws else w.may 12 0
theorem GY (xs ys : List Lm) : DS (xs ++ ys) = if DS xs = 0 then DS ys else DS xs := by
 induction xs with
 | nil => simp [DS]
 | cons x xs ih =>
  simp only [List.cons_append, DS]
  by_cases h : x.may 12 0 = 0
  ·simp only [h, if_true, ih]
  ·simp only [h, if_false]
theorem F5 {xs : List Lm} {k : Nat} {a : Lm} (ha : xs[k]? = some a) (h : DS (xs.take k) = 0) : DS (xs.take (k + 1)) = a.may 12 0 := by
 rw [Al ha, GY, if_pos h]
 simp only [DS]
 split <;> simp_all
theorem Nk {xs : List Lm} {k : Nat} (h : DS (xs.take k) ≠ 0) : DS xs = DS (xs.take k) := by
 have := GY (xs.take k) (xs.drop k)
 rw [List.take_append_drop, if_neg h] at this
 exact this
theorem Ke : ∀ {xs : List Lm}, DS xs = 0 → ∀ w ∈ xs, w.may 12 0 = 0
 | [], _, w, h => by simp at h
 | x :: xs, h0, w, h => by
  rw [DS] at h0
  split at h0
  ·rename_i hx
   rcases List.mem_cons.1 h with rfl | h
   ·exact hx
   ·exact Ke h0 w h
  ·rename_i hx
   exact absurd h0 hx
def D6 (t : Lm) (ws : List Lm) (most : Int) : Int := if 4 < (ws.length : Int) then 3 else if DS ws = 0 then (if t.may ws.length 0 = 0 then (if most < 0 ∨ 400 < most then 10 else 0) else t.may ws.length 0) else DS ws
def Dh (t : Lm) (ws : List Lm) (most : Int) : Lm × Int := if D6 t ws most = 0 then (if 2000 < (Lm.fill ws t).size then (Lm.nil, 8) else if (Lm.run most.toNat 0 (Lm.fill ws t)).2.2 = 0 then ((Lm.run most.toNat 0 (Lm.fill ws t)).1.eta1, 0) else (Lm.nil, (Lm.run most.toNat 0 (Lm.fill ws t)).2.2)) else (Lm.nil, D6 t ws most)
theorem O_ {t : Lm} {ws : List Lm} {most : Int} (h : D6 t ws most = 0) : ws.length ≤ 4 ∧ DS ws = 0 ∧ t.may ws.length 0 = 0 ∧ 0 ≤ most ∧ most ≤ 400 := by
 unfold D6 at h
 split at h
 ·omega
 ·split at h
  ·split at h
   ·split at h
    ·omega
    ·exact ⟨by omega, by assumption, by assumption, by omega, by omega⟩
   ·rename_i h1
    exact absurd h h1
  ·rename_i h1
   exact absurd h h1
theorem O2 {t : Lm} {ws : List Lm} {most : Int} (h : D6 t ws most = 0) : (Lm.fill ws t).wf ∧ (Lm.fill ws t).good 1000000 ∧ (Lm.fill ws t).size ≤ 40000 ∧ t.known ws.length ∧ t.size ≤ 200 := by
 obtain ⟨h1, h2, h3, h4, h5⟩ := O_ h
 obtain ⟨a1, a2, a3, a4⟩ := Lm.may_ok h3
 have hm : ((ws.length : Nat) : Int) ≤ 40 := by omega
 have hkn := Lm.known_chk t 0 a4
 have hw : ∀ w ∈ ws, w.wf ∧ w.good 1000000 ∧ w.size ≤ 200 := fun w hw => by
  obtain ⟨b1, b2, b3, b4⟩ := Lm.may_ok (Ke h2 w hw)
  exact ⟨Lm.wf_chk w 0 b4, Lm.good_chk (by decide) w 0 1000000 (by decide) (by omega) (by decide) b4, b3⟩
 obtain ⟨c1, c2, c3⟩ := Lm.fill_all (by decide) hw t (Lm.wf_chk t 0 a4) (Lm.good_chk hm t 0 1000000 (by decide) (by omega) (by decide) a4) hkn
 exact ⟨c1, c2, Nat.le_trans c3 (by have := Nat.mul_le_mul_right 200 a3; omega), hkn, a3⟩
theorem IY (t : Lm) (ws : List Lm) (most : Int) : Aa Tryd.prog 30 [aLm t, A1 ws, AK most] (.tup [aLm (Dh t ws most).1, AK (Dh t ws most).2]) := by
 refine G2.ac fun C hC => ?_
 unfold EJ
 by_cases h1 : 4 < (ws.length : Int)
 ·have e : Dh t ws most = (Lm.nil, 3) := by
   have : D6 t ws most = 3 := by unfold D6; rw [if_pos h1]
   unfold Dh
   rw [this]
   rfl
  rw [e]
  repeat' with_reducible first | refine W ?_ | refine Z0 ?_ | ((first | refine Wo fun K hK => ?_ | refine Wp ?_ | refine Wq ?_ | refine Wr ?_); (try simp only [go_sem, fN, seval, eT, iR, h1, dT, dF, nL]); (repeat refine Ai ?_); (try (refine hK _ ?_; clear hK K)); try refine iC ?_)
  simp only [go_sem, fN, seval, AY, AS.result, AD, AE, AM]
  rfl
 repeat' with_reducible first | refine W ?_ | refine Z0 ?_ | ((first | refine Wo fun K hK => ?_ | refine Wp ?_ | refine Wq ?_ | refine Wr ?_); (try simp only [go_sem, fN, seval, eT, iR, h1, dT, dF, nL]); (repeat refine Ai ?_); (try (refine hK _ ?_; clear hK K)); try refine iC ?_)
 refine IWP.loopD [9] (fun n s => ∃ k, k ≤ ws.length ∧ n = ws.length - k ∧ DS (ws.take k) = 0 ∧ s.env 1 = A1 ws ∧ s.env 2 = AK most ∧ s.env 3 = .one (.ptr 3 1 0 0) ∧ s.env 6 = .one (.ptr 6 1 0 0) ∧ s.S 3 = some (.box 24 [.st (.int .i64 t.kind), .st (.int .i64 t.idx), .st (.list (t.subs.map Ac))]) ∧ s.S 6 = some (.box 24 [.st (.int .i64 0), .st (.int .i64 0), .full []]) ∧ s.env 19 = A1 ws ∧ s.env 20 = AK ws.length ∧ s.env 21 = AK k ∧ s.S 9 = none ∧ s.S 12 = none) ws.length
  ⟨0, Nat.zero_le _, rfl, rfl, rfl, rfl, rfl, rfl, rfl, rfl, rfl, rfl, rfl, rfl, rfl⟩ ?_
 rintro n ⟨env, S⟩ ⟨k, hk', rfl, hp, e1, e2, e3, e6, s3, s6, e19, e20, e21, s9, s12⟩
 simp only at e1 e2 e3 e6 s3 s6 e19 e20 e21 s9 s12
 by_cases hlt : (k : Int) < ws.length
 ·obtain ⟨a, ha⟩ := Ak (show k < ws.length by omega)
  repeat' with_reducible first | refine W ?_ | refine Z0 ?_ | ((first | refine Wo fun K hK => ?_ | refine Wp ?_ | refine Wq ?_ | refine Wr ?_); (try simp only [go_sem, fN, seval, eT, iR, e1, e2, e3, e6, s3, s6, e19, e20, e21, s9, s12, ha, hlt, dT, dF, nL]); (repeat refine Ai ?_); (try (refine hK _ ?_; clear hK K)); try refine iC ?_)
  refine ⟨_, Ba a 0 12, ?_⟩
  by_cases hr : a.may 12 0 = 0
  ·repeat' with_reducible first | refine W ?_ | refine Z0 ?_ | ((first | refine Wo fun K hK => ?_ | refine Wp ?_ | refine Wq ?_ | refine Wr ?_); (try simp only [go_sem, fN, seval, eT, iR, e1, e2, e3, e6, s3, s6, e19, e20, e21, s9, s12, hr, dT, dF, nL]); (repeat refine Ai ?_); (try (refine hK _ ?_; clear hK K)); try refine iC ?_)
   refine AH ⟨ws.length - (k + 1), by omega, k + 1, by omega, rfl, ?_⟩
   simp only [go_sem, fN, seval, AS.drop, AN, AC.clears, AC.clear, AC.highs, AC.high, Bool.not_false, Bool.true_and, Bool.and_self, AV.purge, AV.purges, AC.purge, AI.purge, List.contains_cons, List.contains_nil, Nat.reduceBEq, Bool.or_self, Bool.or_false, Bool.false_or, Bool.or_true, eT, iR, e1, e2, e3, e6, s3, s6, e19, e20, e21, s9, s12]
   exact ⟨by rw [F5 ha hp, hr], by congr 3⟩
  ·have hb : DS ws = a.may 12 0 := by rw [Nk (k := k + 1) (by rw [F5 ha hp]; exact hr), F5 ha hp]
   have e : Dh t ws most = (Lm.nil, a.may 12 0) := by
    have : D6 t ws most = a.may 12 0 := by unfold D6; rw [if_neg h1, hb, if_neg hr]
    unfold Dh
    rw [this, if_neg hr]
   repeat' with_reducible first | refine W ?_ | refine Z0 ?_ | ((first | refine Wo fun K hK => ?_ | refine Wp ?_ | refine Wq ?_ | refine Wr ?_); (try simp only [go_sem, fN, seval, eT, iR, e1, e2, e3, e6, s3, s6, e19, e20, e21, s9, s12, hr, dT, dF, nL]); (repeat refine Ai ?_); (try (refine hK _ ?_; clear hK K)); try refine iC ?_)
   simp only [go_sem, fN, seval, AY, AS.result, AD, AE, AM, e6, e, Lm.nil]
   rfl
 ·rw [List.take_of_length_le (by omega)] at hp
  by_cases ht : t.may ws.length 0 = 0
  case neg =>
   have e : Dh t ws most = (Lm.nil, t.may ws.length 0) := by
    have : D6 t ws most = t.may ws.length 0 := by unfold D6; rw [if_neg h1, if_pos hp, if_neg ht]
    unfold Dh
    rw [this, if_neg ht]
   rw [e]
   repeat' (first | (with_reducible first | refine W ?_ | refine Z0 ?_ | ((first | refine Wo fun K hK => ?_ | refine Wp ?_ | refine Wq ?_ | refine Wr ?_); (try simp only [go_sem, fN, seval, eT, iR, e1, e2, e3, e6, s3, s6, e19, e20, e21, s9, s12, hlt, ht, dT, dF, nL]); (repeat refine Ai ?_); (try (refine hK _ ?_; clear hK K)); try refine iC ?_)) | refine Cg _ (Ba t 0 ws.length) ?_)
   simp only [go_sem, fN, seval, AY, AS.result, AD, AE, AM, e6]
   rfl
  case pos =>
  by_cases hm0 : most < 0
  ·have e : Dh t ws most = (Lm.nil, 10) := by
    have : D6 t ws most = 10 := by unfold D6; rw [if_neg h1, if_pos hp, if_pos ht, if_pos (Or.inl hm0)]
    unfold Dh
    rw [this]
    rfl
   rw [e]
   repeat' (first | (with_reducible first | refine W ?_ | refine Z0 ?_ | ((first | refine Wo fun K hK => ?_ | refine Wp ?_ | refine Wq ?_ | refine Wr ?_); (try simp only [go_sem, fN, seval, eT, iR, e1, e2, e3, e6, s3, s6, e19, e20, e21, s9, s12, hlt, ht, hm0, dT, dF, nL]); (repeat refine Ai ?_); (try (refine hK _ ?_; clear hK K)); try refine iC ?_)) | refine Cg _ (Ba t 0 ws.length) ?_)
   simp only [go_sem, fN, seval, AY, AS.result, AD, AE, AM, e6]
   rfl
  by_cases hm4 : 400 < most
  ·have e : Dh t ws most = (Lm.nil, 10) := by
    have : D6 t ws most = 10 := by unfold D6; rw [if_neg h1, if_pos hp, if_pos ht, if_pos (Or.inr hm4)]
    unfold Dh
    rw [this]
    rfl
   rw [e]
   repeat' (first | (with_reducible first | refine W ?_ | refine Z0 ?_ | ((first | refine Wo fun K hK => ?_ | refine Wp ?_ | refine Wq ?_ | refine Wr ?_); (try simp only [go_sem, fN, seval, eT, iR, e1, e2, e3, e6, s3, s6, e19, e20, e21, s9, s12, hlt, ht, hm0, hm4, dT, dF, nL]); (repeat refine Ai ?_); (try (refine hK _ ?_; clear hK K)); try refine iC ?_)) | refine Cg _ (Ba t 0 ws.length) ?_)
   simp only [go_sem, fN, seval, AY, AS.result, AD, AE, AM, e6]
   rfl
  have hE : D6 t ws most = 0 := by unfold D6; rw [if_neg h1, if_pos hp, if_pos ht, if_neg (by omega)]
  obtain ⟨f1, f2, f3, f4, f5⟩ := O2 hE
  have hres : Dh t ws most = if 2000 < (Lm.fill ws t).size then (Lm.nil, 8) else if (Lm.run most.toNat 0 (Lm.fill ws t)).2.2 = 0 then ((Lm.run most.toNat 0 (Lm.fill ws t)).1.eta1, 0) else (Lm.nil, (Lm.run most.toNat 0 (Lm.fill ws t)).2.2) := by
   unfold Dh
   rw [if_pos hE]
  have hF := Mn t ws f4 (by omega)
  generalize Lm.fill ws t = x at *
  by_cases hbig : 2000 < x.size
  ·rw [if_pos hbig] at hres
   rw [hres]
   have hbig' : (2000 : Int) < x.size := by omega
   repeat' (first | (with_reducible first | refine W ?_ | refine Z0 ?_ | ((first | refine Wo fun K hK => ?_ | refine Wp ?_ | refine Wq ?_ | refine Wr ?_); (try simp only [go_sem, fN, seval, eT, iR, e1, e2, e3, e6, s3, s6, e19, e20, e21, s9, s12, hlt, ht, hm0, hm4, hbig', dT, dF, nL]); (repeat refine Ai ?_); (try (refine hK _ ?_; clear hK K)); try refine iC ?_)) | refine Cg _ (Ba t 0 ws.length) ?_ | refine Cg _ (hF) ?_ | refine Cg _ (Ef x (by omega)) ?_)
   simp only [go_sem, fN, seval, AY, AS.result, AD, AE, AM, e6]
   rfl
  ·rw [if_neg hbig] at hres
   have hbig' : ¬ (2000 : Int) < x.size := by omega
   obtain ⟨m, rfl⟩ : ∃ m : Nat, most = m := ⟨most.toNat, by omega⟩
   rw [Int.toNat_natCast] at hres
   have hL := O8 x m (by omega) f1 (by omega) f2
   have hok := Lm.run_ok m 0 x 1000000 f1 (by omega) f2
   generalize Lm.run m 0 x = R at *
   obtain ⟨y, r, f⟩ := R
   simp only at hres hL hok
   by_cases hf : f = 0
   ·obtain ⟨w1, w2, w3⟩ := hok hf
    rw [if_pos hf] at hres
    subst hf
    rw [hres]
    repeat' (first | (with_reducible first | refine W ?_ | refine Z0 ?_ | ((first | refine Wo fun K hK => ?_ | refine Wp ?_ | refine Wq ?_ | refine Wr ?_); (try simp only [go_sem, fN, seval, eT, iR, e1, e2, e3, e6, s3, s6, e19, e20, e21, s9, s12, hlt, ht, hm0, hm4, hbig', dT, dF, nL]); (repeat refine Ai ?_); (try (refine hK _ ?_; clear hK K)); try refine iC ?_)) | refine Cg _ (Ba t 0 ws.length) ?_ | refine Cg _ (hF) ?_ | refine Cg _ (Ef x (by omega)) ?_ | refine Cg _ (hL) ?_ | refine Cg _ (Kt y w1 (Lm.good_mono (by omega) y w3) (by omega)) ?_)
    simp only [go_sem, fN, seval, AY, AS.result, AD, AE, AM, e6]
   ·rw [if_neg hf] at hres
    rw [hres]
    repeat' (first | (with_reducible first | refine W ?_ | refine Z0 ?_ | ((first | refine Wo fun K hK => ?_ | refine Wp ?_ | refine Wq ?_ | refine Wr ?_); (try simp only [go_sem, fN, seval, eT, iR, e1, e2, e3, e6, s3, s6, e19, e20, e21, s9, s12, hlt, ht, hm0, hm4, hbig', hf, dT, dF, nL]); (repeat refine Ai ?_); (try (refine hK _ ?_; clear hK K)); try refine iC ?_)) | refine Cg _ (Ba t 0 ws.length) ?_ | refine Cg _ (hF) ?_ | refine Cg _ (Ef x (by omega)) ?_ | refine Cg _ (hL) ?_)
    simp only [go_sem, fN, seval, AY, AS.result, AD, AE, AM, e6]
    rfl

set_option maxRecDepth 100000
def KP : IR :=
 (.seq (.ops [.i 2 (.alloc 24 [.st (.int .i64 0), .st (.int .i64 0), .full []])]) (.seq (.ops [.m 3 0, .i 4 (.build [.st (.int .i64 0), .st (.int .i64 0), .full []] [(0, 1, .n 5), (1, 1, .t 3)]), .s 3 2 4]) .ret))
theorem OB : OkF Tryd.prog 6 5 [] KP [.cell 2 true 3] := .of Tryd.func6 rfl rfl (by kernel_rfl) rfl
def JU : IR :=
 (.seq (.ops [.i 2 (.alloc 24 [.st (.int .i64 0), .st (.int .i64 0), .full []])]) (.seq (.ops [.m 3 0, .i 4 (.build [.st (.int .i64 0), .st (.int .i64 0), .full []] [(0, 1, .n 4), (1, 1, .t 3)]), .s 3 2 4]) .ret))
theorem NR : OkF Tryd.prog 9 5 [] JU [.cell 2 true 3] := .of Tryd.func9 rfl rfl (by kernel_rfl) rfl
def IQ : IR :=
 (.seq (.ops [.i 4 (.mov (.n 0))]) (.seq (.seq (.ops [.m 5 0, .i 6 (.bin .lss (.t 5) (.n 0))]) (.cond (.t 6) (.ops [.m 7 0, .i 8 (.bin .add (.t 7) (.n 1)), .i 9 (.un .neg (.t 8)), .m 0 9]) .skip)) (.seq (.ops [.m 10 0, .m 11 1, .i 12 (.bin .rem (.t 10) (.t 11)), .m 4 12]) .ret)))
theorem Md : OkF Tryd.prog 10 13 [] IQ [.t 4] := .of Tryd.func10 rfl rfl (by kernel_rfl) rfl

def C3 : IR :=
 (.seq (.ops [.i 2 (.box 24 (.t 0)), .i 3 (.mov (.c (.one (.st (.bool false)))))]) (.seq (.ops [.L 4 3 1, .L 5 3 2, .i 6 (.call 54 [.t 4, .t 5]), .m 3 6]) .ret))
theorem FP : OkF Tryd.prog 53 7 [] C3 [.t 3] := .of Tryd.func53 rfl rfl (by kernel_rfl) rfl
def Au : IR :=
 (.seq (.ops [.i 4 (.mov (.n 0))]) (.seq (.seq (.ops [.m 6 0, .i 7 (.len false (.t 6)), .i 8 (.mov (.n 0))]) (.block 0 (.loop (.seq (.ops [.i 9 (.bin .lss (.t 8) (.t 7))]) (.seq (.cond (.t 9) .skip (.exit 0)) (.seq (.block 1 (.seq (.ops [.m 10 8, .m 5 10]) (.seq (.ops [.m 11 1, .m 12 0, .m 13 5, .i 14 (.indexAddr 3 (.t 12) (.t 13)), .L 15 3 14, .i 16 (.callV (.t 11) [.t 15])]) (.cond (.t 16) (.seq (.ops [.m 17 5, .m 4 17]) .ret) .skip)))) (.ops [.i 18 (.bin .add (.t 8) (.n 1)), .m 8 18]))))))) (.seq (.ops [.i 4 (.mov (.c (.one (.st (.int .i64 (-1))))))]) .ret)))
theorem BJ : OkF Tryd.prog 69 19 [] Au [.t 4] := .of Tryd.func69 rfl rfl (by kernel_rfl) rfl
def At : IR :=
 (.seq (.ops [.i 4 (.mov (.c (.one (.st (.bool false)))))]) (.seq (.ops [.m 5 0, .m 6 1, .i 7 (.call 69 [.t 5, .t 6]), .i 8 (.bin .geq (.t 7) (.n 0)), .m 4 8]) .ret))
theorem BC : OkF Tryd.prog 52 9 [] At [.t 4] := .of Tryd.func52 rfl rfl (by kernel_rfl) rfl
def Aw : IR :=
 (.seq (.ops [.i 2 (.mov (.c (.one (.full []))))]) (.seq (.seq (.ops [.m 3 0, .i 4 (.eqN false (.t 3))]) (.cond (.t 4) (.seq (.ops [.i 2 (.mov (.c (.one (.full []))))]) .ret) .skip)) (.seq (.ops [.i 5 (.buildSlice false 24 3 []), .m 6 0, .i 7 (.append false 24 3 40 (.t 5) (.t 6)), .m 2 7]) .ret)))
theorem BQ : OkF Tryd.prog 51 8 [] Aw [.t 2] := .of Tryd.func51 rfl rfl (by kernel_rfl) rfl
def Du : IR :=
 (.seq (.ops [.i 3 (.box 24 (.t 0)), .i 6 (.mov (.c (.one (.st (.bool false)))))]) (.seq (.seq (.ops [.f 11 0 3, .l 12 11]) (.block 0 (.seq (.ops [.i 14 (.bin .eql (.t 12) (.n 2)), .m 13 14]) (.cond (.t 13) (.seq (.ops [.m 15 1, .i 16 (.len false (.t 15)), .i 17 (.bin .eql (.t 16) (.n 0)), .m 18 17, .mk (some 19) (some (18, true)) (.fieldAddr 2 (.t 3)) .no, .mk (some 20) (some (18, true)) (.load false 1 (.t 19)) .no, .mk (some 21) (some (18, true)) (.indexAddr 3 (.t 20) (.n 0)) .no, .mk (some 22) (some (18, true)) (.load true 3 (.t 21)) .no, .mk (some 23) (some (18, true)) (.mov (.t 2)) .no, .mk (some 24) (some (18, true)) (.callX 33 [.t 22, .c (.one (.full [])), .t 23]) .no, .i 25 (.pick (.t 18) (.t 24) (.c (.one (.st (.bool false))))), .m 6 25]) .ret) (.seq (.ops [.i 27 (.bin .eql (.t 12) (.n 3)), .m 26 27]) (.cond (.t 26) (.seq (.ops [.f 28 2 3, .l 29 28, .i 30 (.indexAddr 3 (.t 29) (.n 1)), .L 31 3 30, .m 32 2, .i 33 (.callX 33 [.t 31, .c (.one (.full [])), .t 32]), .m 34 33, .mk (some 35) (some (34, true)) (.fieldAddr 2 (.t 3)) (.onb 3), .mk (some 36) (some (34, true)) (.load false 1 (.t 35)) (.onb 3), .mk (some 37) (some (34, true)) (.indexL 3 (.t 36) (.n 0)) .no, .mk (some 38) (some (34, true)) (.loadL true 3 (.t 37)) .no, .mk (some 39) (some (34, true)) (.mov (.t 1)) .no, .mk (some 40) (some (34, true)) (.callN 51 [.t 39]) (.keeps [3, 3]), .mk (some 41) (some (34, true)) (.fieldAddr 2 (.t 3)) (.onb 3), .mk (some 42) (some (34, true)) (.load false 1 (.t 41)) (.onb 3), .mk (some 43) (some (34, true)) (.indexL 3 (.t 42) (.n 1)) .no, .mk (some 44) (some (34, true)) (.loadL true 3 (.t 43)) .no, .mk (some 45) (some (34, true)) (.buildL 3 [.t 44]) .no, .mk (some 46) (some (34, true)) (.append false 24 3 40 (.t 40) (.t 45)) (.keeps [3, 3]), .mk (some 47) (some (34, true)) (.mov (.t 2)) .no, .mk (some 48) (some (34, true)) (.callX 33 [.t 38, .t 46, .t 47]) .no, .i 49 (.pick (.t 34) (.t 48) (.c (.one (.st (.bool false))))), .m 6 49]) .ret) (.seq (.ops [.i 51 (.bin .eql (.t 12) (.n 5)), .m 50 51]) (.cond (.t 50) (.seq (.seq (.ops [.m 52 1, .i 53 (.len false (.t 52)), .i 54 (.mov (.n 0))]) (.block 1 (.loop (.seq (.ops [.i 55 (.bin .lss (.t 54) (.t 53))]) (.seq (.cond (.t 55) .skip (.exit 1)) (.seq (.block 2 (.seq (.ops [.m 56 54, .i 57 (.indexAddr 3 (.t 52) (.t 54)), .L 58 3 57, .i 8 (.alloc 24 [.st (.int .i64 0), .st (.int .i64 0), .full []]), .m 7 56, .s 3 8 58]) (.seq (.ops [.f 59 0 8, .l 60 59, .i 61 (.bin .neq (.t 60) (.n 1)), .m 62 61, .mk (some 63) (some (62, false)) (.mov (.t 1)) .no, .mk (some 64) (some (62, false)) (.mov (.t 7)) .no, .mk (some 65) (some (62, false)) (.sliceL 3 (.t 63) none (some (.t 64))) .no, .mk (some 66) (some (62, false)) (.makeFunc 53 [.t 8]) .no, .mk (some 67) (some (62, false)) (.call 52 [.t 65, .t 66]) .no, .i 68 (.pick (.t 62) (.c (.one (.st (.bool true)))) (.t 67))]) (.cond (.t 68) (.seq (.ops [.i 6 (.mov (.c (.one (.st (.bool false)))))]) .ret) .skip)))) (.ops [.i 69 (.bin .add (.t 54) (.n 1)), .m 54 69]))))))) (.seq (.ops [.m 71 2, .f 72 1 3, .l 73 72, .i 74 (.lookup (some (Go.Proofs.YtcgnojefbalbbaaDoor.KK.int .i64)) true (.one (.st (.int .i64 0))) (.t 71) (.t 73)), .m 70 74, .i 75 (.extract 0 (.t 70)), .i 76 (.extract 1 (.t 70)), .m 9 75, .m 10 76]) (.seq (.ops [.m 77 2, .f 78 1 3, .l 79 78, .m 80 1, .i 81 (.len false (.t 80)), .mk none none (.mapSet (some (Go.Proofs.YtcgnojefbalbbaaDoor.KK.int .i64)) (.t 77) (.t 79) (.t 81)) .no]) (.seq (.ops [.m 82 10, .i 83 (.un .not (.t 82)), .m 84 83, .mk (some 85) (some (84, false)) (.mov (.t 9)) .no, .mk (some 86) (some (84, false)) (.mov (.t 1)) .no, .mk (some 87) (some (84, false)) (.len false (.t 86)) .no, .mk (some 88) (some (84, false)) (.bin .eql (.t 85) (.t 87)) .no, .i 89 (.pick (.t 84) (.c (.one (.st (.bool true)))) (.t 88)), .m 6 89]) .ret)))) .skip)))))))) (.seq (.ops [.i 6 (.mov (.c (.one (.st (.bool true)))))]) .ret)))
theorem GZ : OkF Tryd.prog 33 90 [80000024, 80000033, 80000048, 20000040, 60000037, 60000038, 60000043, 60000044, 60000045] Du [.t 6] := .of Tryd.func33 rfl rfl (by kernel_rfl) rfl
def DT : IR :=
 (.seq (.ops [.i 4 (.mov (.n 0))]) (.seq (.seq (.ops [.m 15 0, .i 16 (.bin .lss (.t 15) (.n 0)), .m 17 16, .mk (some 18) (some (17, false)) (.mov (.t 0)) .no, .mk (some 19) (some (17, false)) (.bin .gtr (.t 18) (.n 4)) .no, .i 20 (.pick (.t 17) (.c (.one (.st (.bool true)))) (.t 19)), .m 21 20, .mk (some 22) (some (21, false)) (.mov (.t 1)) .no, .mk (some 23) (some (21, false)) (.len false (.t 22)) .no, .mk (some 24) (some (21, false)) (.bin .gtr (.t 23) (.n 3)) .no, .i 25 (.pick (.t 21) (.c (.one (.st (.bool true)))) (.t 24))]) (.cond (.t 25) (.seq (.ops [.i 4 (.mov (.n 3))]) .ret) .skip)) (.seq (.seq (.ops [.m 26 1, .i 27 (.len false (.t 26)), .i 28 (.mov (.n 0))]) (.block 0 (.loop (.seq (.ops [.i 29 (.bin .lss (.t 28) (.t 27))]) (.seq (.cond (.t 29) .skip (.exit 0)) (.seq (.block 1 (.seq (.ops [.i 30 (.indexAddr 6 (.t 26) (.t 28)), .L 31 6 30, .i 6 (.alloc 29 [.st (.int .i64 0), .st (.int .i64 0), .full [], .st (.int .i64 0), .st (.int .i64 0), .full []]), .s 6 6 31]) (.seq (.ops [.f 32 0 6, .L 33 3 32, .f 34 3 6, .L 35 3 34, .i 36 (.buildSlice false 24 3 [.t 33, .t 35]), .i 37 (.len false (.t 36)), .i 38 (.mov (.n 0))]) (.block 2 (.loop (.seq (.ops [.i 39 (.bin .lss (.t 38) (.t 37))]) (.seq (.cond (.t 39) .skip (.exit 2)) (.seq (.block 3 (.seq (.ops [.i 40 (.indexAddr 3 (.t 36) (.t 38)), .L 41 3 40, .i 8 (.alloc 24 [.st (.int .i64 0), .st (.int .i64 0), .full []]), .s 3 8 41]) (.seq (.seq (.ops [.L 42 3 8, .m 43 0, .i 44 (.call 31 [.t 42, .n 0, .t 43]), .m 9 44]) (.seq (.ops [.m 45 9, .i 46 (.bin .neq (.t 45) (.n 0))]) (.cond (.t 46) (.seq (.ops [.m 47 9, .m 4 47]) .ret) .skip))) (.seq (.ops [.L 48 3 8, .i 49 (.call 32 [.t 48]), .i 50 (.bin .gtr (.t 49) (.n 24))]) (.cond (.t 50) (.seq (.ops [.i 4 (.mov (.n 3))]) .ret) .skip))))) (.ops [.i 51 (.bin .add (.t 38) (.n 1)), .m 38 51]))))))))) (.ops [.i 52 (.bin .add (.t 28) (.n 1)), .m 28 52]))))))) (.seq (.ops [.i 53 (.makeMap (some (Go.Proofs.YtcgnojefbalbbaaDoor.KK.int .i64))), .m 10 53]) (.seq (.seq (.ops [.m 54 1, .i 55 (.len false (.t 54)), .i 56 (.mov (.n 0))]) (.block 4 (.loop (.seq (.ops [.i 57 (.bin .lss (.t 56) (.t 55))]) (.seq (.cond (.t 57) .skip (.exit 4)) (.seq (.block 5 (.seq (.ops [.i 58 (.indexAddr 6 (.t 54) (.t 56)), .L 59 6 58, .i 12 (.alloc 29 [.st (.int .i64 0), .st (.int .i64 0), .full [], .st (.int .i64 0), .st (.int .i64 0), .full []]), .s 6 12 59]) (.seq (.ops [.f 60 0 12, .L 61 3 60, .f 62 3 12, .L 63 3 62, .i 64 (.buildSlice false 24 3 [.t 61, .t 63]), .i 65 (.len false (.t 64)), .i 66 (.mov (.n 0))]) (.block 6 (.loop (.seq (.ops [.i 67 (.bin .lss (.t 66) (.t 65))]) (.seq (.cond (.t 67) .skip (.exit 6)) (.seq (.block 7 (.seq (.ops [.i 68 (.indexAddr 3 (.t 64) (.t 66)), .L 69 3 68, .i 14 (.alloc 24 [.st (.int .i64 0), .st (.int .i64 0), .full []]), .s 3 14 69]) (.seq (.ops [.L 70 3 14, .m 71 10, .i 72 (.callS 33 [.t 70, .c (.one (.full [])), .t 71]), .i 73 (.un .not (.t 72))]) (.cond (.t 73) (.seq (.ops [.i 4 (.mov (.n 2))]) .ret) .skip)))) (.ops [.i 74 (.bin .add (.t 66) (.n 1)), .m 66 74]))))))))) (.ops [.i 75 (.bin .add (.t 56) (.n 1)), .m 56 75]))))))) (.seq (.ops [.i 4 (.mov (.n 0))]) .ret))))))
theorem Ft : OkF Tryd.prog 17 76 [72] DT [.t 4] := .of Tryd.func17 rfl rfl (by kernel_rfl) rfl
def DH : IR :=
 (.seq (.ops [.i 4 (.mov (.c (.one (.full [])))), .i 5 (.mov (.n 0)), .i 6 (.mov (.n 0))]) (.seq (.seq (.ops [.m 14 0, .m 15 1, .i 16 (.call 17 [.t 14, .t 15]), .m 7 16]) (.seq (.ops [.m 17 7, .i 18 (.bin .neq (.t 17) (.n 0))]) (.cond (.t 18) (.seq (.ops [.m 19 7, .i 4 (.mov (.c (.one (.full [])))), .i 5 (.mov (.n 0)), .m 6 19]) .ret) .skip))) (.seq (.ops [.m 20 0, .i 21 (.makeSlice 24 3 40 [.int .i64 0, .int .i64 0, .list []] (.t 20) (.t 20)), .i 22 (.build [.full []] [(0, 1, .t 21)]), .i 23 (.box 47 (.t 22)), .m 8 23]) (.seq (.seq (.ops [.m 24 1, .i 25 (.len false (.t 24)), .i 26 (.mov (.n 0))]) (.block 0 (.loop (.seq (.ops [.i 27 (.bin .lss (.t 26) (.t 25))]) (.seq (.cond (.t 27) .skip (.exit 0)) (.seq (.block 1 (.seq (.ops [.i 28 (.indexAddr 6 (.t 24) (.t 26)), .L 29 6 28, .i 10 (.alloc 29 [.st (.int .i64 0), .st (.int .i64 0), .full [], .st (.int .i64 0), .st (.int .i64 0), .full []]), .s 6 10 29]) (.seq (.ops [.m 30 8, .f 31 0 10, .L 32 3 31, .f 33 3 10, .L 34 3 33, .i 35 (.callW 18 [.t 30, .t 32, .t 34]), .i 36 (.un .not (.t 35))]) (.cond (.t 36) (.seq (.ops [.i 4 (.mov (.c (.one (.full [])))), .i 5 (.mov (.n 0)), .i 6 (.mov (.n 7))]) .ret) .skip)))) (.ops [.i 37 (.bin .add (.t 26) (.n 1)), .m 26 37]))))))) (.seq (.ops [.i 11 (.mov (.c (.one (.full []))))]) (.seq (.ops [.i 38 (.makeMap (some (Go.Proofs.YtcgnojefbalbbaaDoor.KK.int .i64))), .m 12 38]) (.seq (.seq (.ops [.m 39 0, .i 40 (.mov (.n 0))]) (.block 2 (.loop (.seq (.ops [.i 41 (.bin .lss (.t 40) (.t 39))]) (.seq (.cond (.t 41) .skip (.exit 2)) (.seq (.block 3 (.seq (.ops [.m 42 40, .m 13 42]) (.ops [.m 43 11, .m 44 8, .m 45 13, .i 46 (.call 22 [.t 45]), .i 47 (.callR 21 [.t 44, .t 46]), .i 48 (.call 20 [.t 47]), .m 49 12, .i 50 (.callW 19 [.t 48, .t 49]), .i 51 (.buildSlice false 24 3 [.t 50]), .i 52 (.append false 24 3 40 (.t 43) (.t 51)), .m 11 52]))) (.ops [.i 53 (.bin .add (.t 40) (.n 1)), .m 40 53]))))))) (.seq (.ops [.m 54 11, .m 55 12, .i 56 (.lenM (.t 55)), .m 4 54, .m 5 56, .i 6 (.mov (.n 0))]) .ret))))))))
theorem F0 : OkF Tryd.prog 11 57 [40000047, 50000035, 50000050] DH [.t 4, .t 5, .t 6] := .of Tryd.func11 rfl rfl (by kernel_rfl) rfl

def okL (t : Lm) : Bool := decide (t.chk 40 100 = 0) && decide (t.size ≤ 1000)
def mU (i : Int) : Lm := .mk 5 i []
def DU (h : Lm) (l : List Lm) : Lm := l.foldl Lm.a h
def Bv (b : Lm) (n : Nat) : Lm := Nat.rec b (fun _ t => Lm.l t) n
def CY (l : List Int) (n : Int) : List Lm := l.map fun i => Lm.v (n - 1 - i)
def D2 : Nat → Lm → List Lm → Lm × List Lm
 | 0, t, acc => (t, acc)
 | f + 1, t, acc => if t.kind = 3 then (match t.subs with
  | [g, x] => D2 f g (x :: acc)
  | _ => (t, acc)) else (t, acc)
def Ao (t : Lm) : Lm × List Lm := D2 t.size t []
def EI : Nat → List Lm → Lm → Option Lm
 | 0, _, _ => none
 | f + 1, K, t => if okL t = false then none else
  if (Ao t).1.kind = 5 then
   (match K[(Ao t).1.idx.toNat]? with
   | none => none
   | some k => if k.kind = 0 then some t else EI f K (DU k (Ao t).2))
  else if (Ao t).1.kind = 2 then
   (match (Ao t).2 with
   | [] => some t
   | x :: w => match (Ao t).1.subs with
    | [b] => if okL b = true ∧ okL x = true then EI f K (DU (Lm.put x 0 b) w) else none
    | _ => none)
  else some t
def EN (t : Lm) : Lm := if t.kind = 2 then t.subs.headD .nil else Lm.a (Lm.mv 1 0 t) (Lm.v 0)
def A3 : Int → List Lm → List Lm → List Int
 | i, x :: xs, y :: ys => if x.idx = y.idx then i :: A3 (i + 1) xs ys else A3 (i + 1) xs ys
 | _, _, _ => []
def Jn (K : List Lm) (m : Int) (l : List Int) (n : Nat) : List Lm := (K ++ [Lm.nil]).set m.toNat (Bv (DU (mU K.length) (CY l n)) n)
def L7 (K : List Lm) (m : Int) (x y : List Lm) : Option (List Lm × Bool) :=
 if ¬ (0 ≤ m ∧ m.toNat < K.length ∧ x.length ≤ 100 ∧ K.length ≤ 100) then none else
 if ¬ x.length = y.length then some (K, false) else
 if (A3 0 x y).length < x.length then some (Jn K m (A3 0 x y) x.length, true) else some (K, true)
def EB : List (Int × Int) → Int → Int → List (Int × Int)
 | [], k, v => [(k, v)]
 | p :: l, k, v => if p.1 = k then (p.1, v) :: l else p :: EB l k v
def D3 : List (Int × Int) → Int → Option Int
 | [], _ => none
 | p :: l, k => if p.1 = k then some p.2 else D3 l k
def atP : Int → List (Int × Int) → List Lm → List (Int × Int)
 | _, es, [] => es
 | i, es, x :: xs => atP (i + 1) (EB es x.idx i) xs
def BH (es : List (Int × Int)) (n d i : Int) : Lm × Bool := if i < d then (Lm.v i, true) else match D3 es (i - d) with
 | some k => (Lm.v (d + n - 1 - k), true)
 | none => (Lm.v (d + n - 1 - 0), false)
def Bx (es : List (Int × Int)) (n d : Int) : Int → List Lm → List Int
 | _, [] => []
 | i, x :: xs => if (BH es n d x.idx).2 = true then i :: Bx es n d (i + 1) xs else Bx es n d (i + 1) xs
mutual
def HV : Nat → Int → List (Int × Int) → Int → List Lm → Lm → Int → Option (List Lm × Lm × Bool)
 | 0, _, _, _, _, _, _ => none
 | f + 1, m, es, n, K, t0, d => match EI f K t0 with
  | none => none
  | some t => if t.kind = 2 ∨ okL t = false ∨ ¬ (0 ≤ d ∧ d ≤ 100 ∧ 0 ≤ n ∧ n ≤ 100 ∧ K.length ≤ 100 ∧ (Ao t).2.length ≤ 100 ∧ es.all (fun p => decide (0 ≤ p.2 ∧ p.2 ≤ 100)) = true) then none else
   if (Ao t).1.kind = 5 then
    if (Ao t).1.idx = m then some (K, t, false) else
    if ¬ (0 ≤ (Ao t).1.idx ∧ (Ao t).1.idx.toNat < K.length) then none else
    if (Bx es n d 0 (Ao t).2).length < (Ao t).2.length then
     some (Jn K (Ao t).1.idx (Bx es n d 0 (Ao t).2) (Ao t).2.length, DU (mU K.length) ((Bx es n d 0 (Ao t).2).map fun i => (BH es n d ((Ao t).2.getD i.toNat .nil).idx).1), true)
    else some (K, DU (Ao t).1 ((Bx es n d 0 (Ao t).2).map fun i => (BH es n d ((Ao t).2.getD i.toNat .nil).idx).1), true)
   else if (Ao t).1.kind = 1 then
    if (BH es n d (Ao t).1.idx).2 = true then EW f m es n K (Ao t).2 d t (BH es n d (Ao t).1.idx).1 else some (K, t, false)
   else EW f m es n K (Ao t).2 d t (Ao t).1
def EW : Nat → Int → List (Int × Int) → Int → List Lm → List Lm → Int → Lm → Lm → Option (List Lm × Lm × Bool)
 | 0, _, _, _, _, _, _, _, _ => none
 | f + 1, m, es, n, K, [], d, t, h => some (K, h, true)
 | f + 1, m, es, n, K, a :: w, d, t, h => match HV f m es n K a d with
  | none => none
  | some (K', x, true) => EW f m es n K' w d t (Lm.a h x)
  | some (K', x, false) => some (K', t, false)
end
def Ll (f : Nat) (K : List Lm) (m : Int) (x : List Lm) (t : Lm) : Option (List Lm × Bool) :=
 if ¬ (0 ≤ m ∧ m.toNat < K.length ∧ x.length ≤ 100) then none else
 match HV f m (atP 0 [] x) x.length K t 0 with
 | none => none
 | some (K', b, true) => if m.toNat < K'.length then some (K'.set m.toNat (Bv b x.length), true) else none
 | some (K', b, false) => some (K', false)
mutual
def FG : Nat → List Lm → Lm → Lm → Option (List Lm × Bool)
 | 0, _, _, _ => none
 | f + 1, K, a0, b0 => match EI f K a0, EI f K b0 with
  | some a, some b => if okL a = false ∨ okL b = false then none else
   if a.kind = 2 ∨ b.kind = 2 then FG f K (EN a) (EN b) else
   if (Ao a).1.kind = 5 ∧ (Ao b).1.kind = 5 ∧ (Ao a).1.idx = (Ao b).1.idx then L7 K (Ao a).1.idx (Ao a).2 (Ao b).2
   else if (Ao a).1.kind = 5 then Ll f K (Ao a).1.idx (Ao a).2 b
   else if (Ao b).1.kind = 5 then Ll f K (Ao b).1.idx (Ao b).2 a
   else if ¬ ((Ao a).1.kind = (Ao b).1.kind ∧ (Ao a).1.idx = (Ao b).1.idx ∧ (Ao a).2.length = (Ao b).2.length) then some (K, false)
   else HA f K (Ao a).2 (Ao b).2
  | _, _ => none
def HA : Nat → List Lm → List Lm → List Lm → Option (List Lm × Bool)
 | 0, _, _, _ => none
 | f + 1, K, x :: xs, y :: ys => match FG f K x y with
  | some (K', true) => HA f K' xs ys
  | some (K', false) => some (K', false)
  | none => none
 | f + 1, K, _, _ => some (K, true)
end
mutual
def ES : Nat → List Lm → Lm → Option Lm
 | 0, _, _ => none
 | f + 1, K, t0 => match EI f K t0 with
  | none => none
  | some t => (Cm f K t.subs).map fun l => .mk t.kind t.idx l
def Cm : Nat → List Lm → List Lm → Option (List Lm)
 | 0, _, _ => none
 | f + 1, K, [] => some []
 | f + 1, K, t :: ts => match ES f K t, Cm f K ts with
  | some x, some l => some (x :: l)
  | _, _ => none
end
def H9 (es : List (Int × Int)) (i : Int) : List (Int × Int) := if (D3 es i).isSome = true then es else EB es i es.length
mutual
def nmP : Lm → List (Int × Int) → Lm × List (Int × Int)
 | .mk k i xs, es => if k = 5 then (.mk k ((D3 (H9 es i) i).getD 0) (CO xs (H9 es i)).1, (CO xs (H9 es i)).2) else (.mk k i (CO xs es).1, (CO xs es).2)
def CO : List Lm → List (Int × Int) → List Lm × List (Int × Int)
 | [], es => ([], es)
 | t :: ts, es => ((nmP t es).1 :: (CO ts (nmP t es).2).1, (CO ts (nmP t es).2).2)
end
theorem Hi {t : Lm} (h : okL t = true) : t.wf := by
 unfold okL at h
 simp only [Bool.and_eq_true, decide_eq_true_eq] at h
 exact Lm.wf_chk t _ h.1
theorem Cd {t : Lm} (h : okL t = true) : t.good 1000000000 ∧ t.size ≤ 1000 := by
 unfold okL at h
 simp only [Bool.and_eq_true, decide_eq_true_eq] at h
 exact ⟨Lm.good_chk (by omega) t 100 _ (by omega) (by omega) (by omega) h.1, h.2⟩

def CH : List Lm → List Lm → Bool
 | _, [] => true
 | pre, x :: xs => if x.kind = 1 ∧ pre.any (fun y => x.same y) = false then CH (pre ++ [x]) xs else false
def Dr : Nat → Lm → List Lm → List (Int × Int) → Bool × List (Int × Int)
 | 0, _, _, m => (true, m)
 | f + 1, t, w, m =>
  if t.kind = 2 then (if w.length = 0 then Dr f (t.subs.headD .nil) [] m else (false, m))
  else if t.kind = 3 then (if (Dr f (t.subs.getD 1 .nil) [] m).1 = true then Dr f (t.subs.headD .nil) (w ++ [t.subs.getD 1 .nil]) (Dr f (t.subs.getD 1 .nil) [] m).2 else (false, (Dr f (t.subs.getD 1 .nil) [] m).2))
  else if t.kind = 5 then (if CH [] w = true then ((match D3 m t.idx with | none => true | some n => decide (n = (w.length : Int))), EB m t.idx w.length) else (false, m))
  else (true, m)
def FW (t : Lm) (m : List (Int × Int)) : Bool × List (Int × Int) := Dr t.size t [] m
def Dk (metas : Int) : List Lm → Int
 | [] => 0
 | t :: ts => if ¬ t.may metas 0 = 0 then t.may metas 0 else if 24 < t.size then 3 else Dk metas ts
def Fv : List Lm → List (Int × Int) → Bool × List (Int × Int)
 | [], m => (true, m)
 | t :: ts, m => if (FW t m).1 = true then Fv ts (FW t m).2 else (false, (FW t m).2)
def Cc (gs : List (Lm × Lm)) : List Lm := gs.flatMap fun g => [g.1, g.2]
def FB (metas : Int) (gs : List (Lm × Lm)) : Int := if metas < 0 ∨ 4 < metas ∨ 3 < gs.length then 3 else if ¬ Dk metas (Cc gs) = 0 then Dk metas (Cc gs) else if (Fv (Cc gs) []).1 = true then 0 else 2
def F7 (f : Nat) : List Lm → List (Lm × Lm) → Option (List Lm × Bool)
 | K, [] => some (K, true)
 | K, g :: gs => match FG f K g.1 g.2 with
  | none => none
  | some (K', false) => some (K', false)
  | some (K', true) => F7 f K' gs
def L8 (f : Nat) (K : List Lm) : List Nat → List (Int × Int) → Option (List Lm × List (Int × Int))
 | [], es => some ([], es)
 | i :: is, es => match ES f K (mU i) with
  | none => none
  | some t => if okL t = true ∧ t.eta1.size ≤ 1000 then (L8 f K is (nmP t.eta1 es).2).map fun q => ((nmP t.eta1 es).1 :: q.1, q.2) else none
def LI (f : Nat) (metas : Int) (gs : List (Lm × Lm)) : Option (List Lm × Int × Int) :=
 if ¬ FB metas gs = 0 then some ([], 0, FB metas gs) else
 match F7 f (List.replicate metas.toNat .nil) gs with
 | none => none
 | some (_, false) => some ([], 0, 7)
 | some (K, true) => match L8 f K (List.range metas.toNat) [] with
  | none => none
  | some (l, es) => some (l, es.length, 0)
theorem GV : ∀ {pre w : List Lm} {k : Nat} {x : Lm}, CH pre (w.take k) = true → w[k]? = some x → (x.kind = 1 ∧ (pre ++ w.take k).any (fun y => x.same y) = false → CH pre (w.take (k + 1)) = true) ∧ (¬ (x.kind = 1 ∧ (pre ++ w.take k).any (fun y => x.same y) = false) → CH pre w = false)
 | pre, [], k, x, _, h => by simp at h
 | pre, y :: ys, 0, x, h0, h => by
  simp only [List.getElem?_cons_zero, Option.some.injEq] at h
  subst h
  simp only [List.take_zero, List.append_nil]
  constructor
  ·intro hc
   rw [List.take_succ_cons, List.take_zero, CH, if_pos hc]
   rfl
  ·intro hc
   rw [CH, if_neg hc]
 | pre, y :: ys, k + 1, x, h0, h => by
  rw [List.getElem?_cons_succ] at h
  rw [List.take_succ_cons, CH] at h0
  split at h0
  ·rename_i hc
   have ih := GV h0 h
   rw [List.append_assoc, List.singleton_append] at ih
   rw [List.take_succ_cons, List.take_succ_cons, CH, if_pos hc]
   refine ⟨ih.1, fun hn => ?_⟩
   rw [CH, if_pos hc]
   exact ih.2 hn
  ·cases h0

def Bd : IR :=
 (.seq (.ops [.i 3 (.box 24 (.t 1)), .i 4 (.alloc 24 [.st (.int .i64 0), .st (.int .i64 0), .full []])]) (.block 0 (.loop (.block 1 (.seq (.ops [.L 8 3 3, .i 9 (.call 36 [.t 8]), .m 7 9, .i 10 (.extract 0 (.t 7)), .i 11 (.extract 1 (.t 7)), .i 5 (.alloc 24 [.st (.int .i64 0), .st (.int .i64 0), .full []]), .s 3 5 10, .m 6 11]) (.block 2 (.seq (.ops [.f 14 0 5, .l 15 14, .i 16 (.bin .eql (.t 15) (.n 5)), .m 17 16, .mk (some 18) (some (17, true)) (.mov (.t 0)) .no, .mk (some 19) (some (17, true)) (.nilCheck (.t 18)) .no, .mk (some 20) (some (17, true)) (.fieldAddr 0 (.t 19)) .no, .mk (some 21) (some (17, true)) (.load false 1 (.t 20)) .no, .mk (some 22) (some (17, true)) (.fieldAddr 1 (.t 5)) .no, .mk (some 23) (some (17, true)) (.load false 1 (.t 22)) .no, .mk (some 24) (some (17, true)) (.indexAddr 3 (.t 21) (.t 23)) .no, .mk (some 25) (some (17, true)) (.fieldAddr 0 (.t 24)) .no, .mk (some 26) (some (17, true)) (.load false 1 (.t 25)) .no, .mk (some 27) (some (17, true)) (.bin .neq (.t 26) (.n 0)) .no, .i 28 (.pick (.t 17) (.t 27) (.c (.one (.st (.bool false))))), .m 13 28]) (.cond (.t 13) (.ops [.m 29 0, .i 30 (.nilCheck (.t 29)), .f 31 0 30, .l 32 31, .f 33 1 5, .l 34 33, .i 35 (.indexAddr 3 (.t 32) (.t 34)), .L 36 3 35, .m 37 6, .i 38 (.call 55 [.t 36, .t 37]), .s 3 3 38]) (.seq (.ops [.f 40 0 5, .l 41 40, .i 42 (.bin .eql (.t 41) (.n 2)), .m 43 42, .mk (some 44) (some (43, true)) (.mov (.t 6)) .no, .mk (some 45) (some (43, true)) (.len false (.t 44)) .no, .mk (some 46) (some (43, true)) (.bin .gtr (.t 45) (.n 0)) .no, .i 47 (.pick (.t 43) (.t 46) (.c (.one (.st (.bool false))))), .m 39 47]) (.cond (.t 39) (.ops [.f 48 2 5, .l 49 48, .i 50 (.indexAddr 3 (.t 49) (.n 0)), .L 51 3 50, .m 52 6, .i 53 (.indexAddr 3 (.t 52) (.n 0)), .L 54 3 53, .i 55 (.call 56 [.t 51, .t 54]), .m 56 6, .i 57 (.sliceL 3 (.t 56) (some (.n 1)) none), .i 58 (.call 55 [.t 55, .t 57]), .s 3 3 58]) (.seq (.ops [.L 12 3 3, .s 3 4 12]) .ret)))))))))))
theorem CP : OkF Tryd.prog 34 59 [] Bd [.cell 4 true 3] := .of Tryd.func34 rfl rfl (by kernel_rfl) rfl
def BU : IR :=
 (.seq (.ops [.i 2 (.alloc 24 [.st (.int .i64 0), .st (.int .i64 0), .full []])]) (.seq (.ops [.m 3 0, .i 4 (.nilCheck (.t 3)), .f 5 0 4, .l 6 5, .i 7 (.build [.st (.int .i64 0), .st (.int .i64 0), .full []] []), .i 8 (.len false (.t 6)), .i 9 (.buildSlice false 24 3 [.c (.agg [.st (.int .i64 0), .st (.int .i64 0), .full []])]), .i 10 (.append true 24 3 40 (.t 6) (.t 9)), .i 11 (.indexAddr 3 (.t 10) (.t 8)), .mk none none (.store 3 (.t 11) (.t 7)) (.onb 2021), .mk (some 12) none (.nilCheck (.t 3)) (.onb 2023), .mk (some 13) none (.fieldAddr 0 (.t 12)) (.onb 2023), .mk none none (.store 1 (.t 13) (.t 10)) (.onb 2023)]) (.seq (.ops [.m 14 0, .i 15 (.nilCheck (.t 14)), .f 16 0 15, .l 17 16, .i 18 (.len false (.t 17)), .i 19 (.bin .sub (.t 18) (.n 1)), .i 20 (.call 22 [.t 19]), .s 3 2 20]) .ret)))
theorem B9 : OkF Tryd.prog 60 21 [10, 10032023, 10112021] BU [.cell 2 true 3] := .of Tryd.func60 rfl rfl (by kernel_rfl) rfl
def BW : IR :=
 (.seq (.ops [.i 8 (.mov (.c (.one (.st (.bool false)))))]) (.seq (.seq (.ops [.m 12 2, .i 13 (.len false (.t 12)), .m 14 3, .i 15 (.len false (.t 14)), .i 16 (.bin .neq (.t 13) (.t 15))]) (.cond (.t 16) (.seq (.ops [.i 8 (.mov (.c (.one (.st (.bool false)))))]) .ret) .skip)) (.seq (.ops [.i 9 (.mov (.c (.one (.full []))))]) (.seq (.seq (.ops [.m 17 2, .i 18 (.len false (.t 17)), .i 19 (.mov (.n 0))]) (.block 0 (.loop (.seq (.ops [.i 20 (.bin .lss (.t 19) (.t 18))]) (.seq (.cond (.t 20) .skip (.exit 0)) (.seq (.block 1 (.seq (.ops [.m 21 19, .m 10 21]) (.seq (.ops [.m 22 2, .m 23 10, .i 24 (.indexAddr 3 (.t 22) (.t 23)), .f 25 1 24, .l 26 25, .m 27 3, .m 28 10, .i 29 (.indexAddr 3 (.t 27) (.t 28)), .f 30 1 29, .l 31 30, .i 32 (.bin .eql (.t 26) (.t 31))]) (.cond (.t 32) (.ops [.m 33 9, .m 34 10, .i 35 (.buildFlat [.t 34]), .i 36 (.append false 3 1 8 (.t 33) (.t 35)), .m 9 36]) .skip)))) (.ops [.i 37 (.bin .add (.t 19) (.n 1)), .m 19 37]))))))) (.seq (.seq (.ops [.m 38 9, .i 39 (.len false (.t 38)), .m 40 2, .i 41 (.len false (.t 40)), .i 42 (.bin .lss (.t 39) (.t 41))]) (.cond (.t 42) (.seq (.ops [.m 43 0, .i 44 (.callX 60 [.t 43]), .i 11 (.alloc 24 [.st (.int .i64 0), .st (.int .i64 0), .full []]), .s 3 11 44]) (.ops [.m 45 0, .i 46 (.nilCheck (.t 45)), .f 47 0 46, .l 48 47, .m 49 1, .L 50 3 11, .m 51 9, .m 52 2, .i 53 (.len false (.t 52)), .i 54 (.call 62 [.t 51, .t 53]), .i 55 (.call 55 [.t 50, .t 54]), .m 56 2, .i 57 (.len false (.t 56)), .i 58 (.call 61 [.t 55, .t 57]), .i 59 (.indexAddr 3 (.t 48) (.t 49)), .s 3 59 58])) .skip)) (.seq (.ops [.i 8 (.mov (.c (.one (.st (.bool true)))))]) .ret))))))
theorem CK : OkF Tryd.prog 37 60 [80000044] BW [.t 8] := .of Tryd.func37 rfl rfl (by kernel_rfl) rfl
def BR : IR :=
 (.seq (.ops [.i 5 (.alloc 24 [.st (.int .i64 0), .st (.int .i64 0), .full []]), .i 6 (.mov (.c (.one (.st (.bool false)))))]) (.seq (.seq (.ops [.m 9 0, .l 10 1, .i 11 (.bin .lss (.t 9) (.t 10))]) (.cond (.t 11) (.seq (.ops [.m 12 0, .i 13 (.call 58 [.t 12]), .s 3 5 13, .i 6 (.mov (.c (.one (.st (.bool true)))))]) .ret) .skip)) (.seq (.ops [.l 15 2, .m 16 0, .l 17 1, .i 18 (.bin .sub (.t 16) (.t 17)), .i 19 (.lookup (some (Go.Proofs.YtcgnojefbalbbaaDoor.KK.int .i64)) true (.one (.st (.int .i64 0))) (.t 15) (.t 18)), .m 14 19, .i 20 (.extract 0 (.t 14)), .i 21 (.extract 1 (.t 14)), .m 7 20, .m 8 21]) (.seq (.ops [.l 22 1, .l 23 3, .i 24 (.bin .add (.t 22) (.t 23)), .i 25 (.bin .sub (.t 24) (.n 1)), .m 26 7, .i 27 (.bin .sub (.t 25) (.t 26)), .i 28 (.call 58 [.t 27]), .m 29 8, .s 3 5 28, .m 6 29]) .ret))))
theorem B4 : OkF Tryd.prog 74 30 [] BR [.cell 5 true 3, .t 6] := .of Tryd.func74 rfl rfl (by kernel_rfl) rfl
def BY : IR :=
 (.seq (.ops [.i 8 (.box 48 (.t 2)), .i 9 (.box 3 (.t 3)), .i 10 (.box 24 (.t 4)), .i 11 (.box 3 (.t 5)), .i 12 (.alloc 24 [.st (.int .i64 0), .st (.int .i64 0), .full []]), .i 13 (.mov (.c (.one (.st (.bool false)))))]) (.seq (.ops [.m 36 0, .L 37 3 10, .i 38 (.callR 34 [.t 36, .t 37]), .s 3 10 38]) (.seq (.seq (.ops [.f 39 0 10, .l 40 39, .i 41 (.bin .eql (.t 40) (.n 2))]) (.cond (.t 41) (.seq (.ops [.m 43 0, .m 44 1, .l 45 8, .l 46 9, .f 47 2 10, .l 48 47, .i 49 (.indexAddr 3 (.t 48) (.n 0)), .L 50 3 49, .l 51 11, .i 52 (.bin .add (.t 51) (.n 1)), .i 53 (.callW 63 [.t 43, .t 44, .t 45, .t 46, .t 50, .t 52]), .m 42 53, .i 54 (.extract 0 (.t 42)), .i 55 (.extract 1 (.t 42)), .i 14 (.alloc 24 [.st (.int .i64 0), .st (.int .i64 0), .full []]), .s 3 14 54, .m 15 55]) (.seq (.ops [.L 56 3 14, .i 57 (.call 73 [.t 56]), .m 58 15, .s 3 12 57, .m 13 58]) .ret)) .skip)) (.seq (.ops [.i 59 (.makeFunc 74 [.t 11, .t 8, .t 9]), .m 16 59]) (.seq (.ops [.L 61 3 10, .i 62 (.call 36 [.t 61]), .m 60 62, .i 63 (.extract 0 (.t 60)), .i 64 (.extract 1 (.t 60)), .i 17 (.alloc 24 [.st (.int .i64 0), .st (.int .i64 0), .full []]), .s 3 17 63, .m 18 64]) (.seq (.seq (.ops [.f 65 0 17, .l 66 65, .i 67 (.bin .eql (.t 66) (.n 5))]) (.cond (.t 67) (.seq (.seq (.ops [.f 68 1 17, .l 69 68, .m 70 1, .i 71 (.bin .eql (.t 69) (.t 70))]) (.cond (.t 71) (.seq (.ops [.L 72 3 10, .s 3 12 72, .i 13 (.mov (.c (.one (.st (.bool false)))))]) .ret) .skip)) (.seq (.ops [.i 19 (.mov (.c (.one (.full []))))]) (.seq (.seq (.ops [.m 73 18, .i 74 (.len false (.t 73)), .i 75 (.mov (.n 0))]) (.block 0 (.loop (.seq (.ops [.i 76 (.bin .lss (.t 75) (.t 74))]) (.seq (.cond (.t 76) .skip (.exit 0)) (.seq (.block 1 (.seq (.ops [.m 77 75, .i 78 (.indexAddr 3 (.t 73) (.t 75)), .L 79 3 78, .i 21 (.alloc 24 [.st (.int .i64 0), .st (.int .i64 0), .full []]), .m 20 77, .s 3 21 79]) (.seq (.ops [.m 81 16, .f 82 1 21, .l 83 82, .i 84 (.callV (.t 81) [.t 83]), .m 80 84, .i 85 (.extract 0 (.t 80)), .i 86 (.extract 1 (.t 80)), .i 22 (.alloc 24 [.st (.int .i64 0), .st (.int .i64 0), .full []]), .s 3 22 85, .m 23 86]) (.seq (.ops [.m 87 23]) (.cond (.t 87) (.ops [.m 88 19, .m 89 20, .i 90 (.buildFlat [.t 89]), .i 91 (.append false 3 1 8 (.t 88) (.t 90)), .m 19 91]) .skip))))) (.ops [.i 92 (.bin .add (.t 75) (.n 1)), .m 75 92]))))))) (.seq (.seq (.ops [.m 93 19, .i 94 (.len false (.t 93)), .m 95 18, .i 96 (.len false (.t 95)), .i 97 (.bin .lss (.t 94) (.t 96))]) (.cond (.t 97) (.seq (.ops [.m 98 0, .i 99 (.callX 60 [.t 98]), .i 24 (.alloc 24 [.st (.int .i64 0), .st (.int .i64 0), .full []]), .s 3 24 99]) (.seq (.ops [.m 100 0, .i 101 (.nilCheck (.t 100)), .f 102 0 101, .l 103 102, .f 104 1 17, .l 105 104, .L 106 3 24, .m 107 19, .m 108 18, .i 109 (.len false (.t 108)), .i 110 (.call 62 [.t 107, .t 109]), .i 111 (.call 55 [.t 106, .t 110]), .m 112 18, .i 113 (.len false (.t 112)), .i 114 (.call 61 [.t 111, .t 113]), .i 115 (.indexAddr 3 (.t 103) (.t 105)), .s 3 115 114]) (.ops [.L 116 3 24, .s 3 17 116]))) .skip)) (.seq (.ops [.i 25 (.mov (.c (.one (.full []))))]) (.seq (.seq (.ops [.m 117 19, .i 118 (.len false (.t 117)), .i 119 (.mov (.n 0))]) (.block 2 (.loop (.seq (.ops [.i 120 (.bin .lss (.t 119) (.t 118))]) (.seq (.cond (.t 120) .skip (.exit 2)) (.seq (.block 3 (.seq (.ops [.i 121 (.indexAddr 1 (.t 117) (.t 119)), .l 122 121, .m 27 122]) (.seq (.ops [.m 124 16, .m 125 18, .m 126 27, .i 127 (.indexAddr 3 (.t 125) (.t 126)), .f 128 1 127, .l 129 128, .i 130 (.callV (.t 124) [.t 129]), .m 123 130, .i 131 (.extract 0 (.t 123)), .i 132 (.extract 1 (.t 123)), .i 28 (.alloc 24 [.st (.int .i64 0), .st (.int .i64 0), .full []]), .s 3 28 131, .m 29 132]) (.ops [.m 133 25, .L 134 3 28, .i 135 (.buildSlice false 24 3 [.t 134]), .i 136 (.append false 24 3 40 (.t 133) (.t 135)), .m 25 136])))) (.ops [.i 137 (.bin .add (.t 119) (.n 1)), .m 119 137]))))))) (.seq (.ops [.L 138 3 17, .m 139 25, .i 140 (.call 55 [.t 138, .t 139]), .s 3 12 140, .i 13 (.mov (.c (.one (.st (.bool true)))))]) .ret))))))) .skip)) (.seq (.seq (.ops [.f 141 0 17, .l 142 141, .i 143 (.bin .eql (.t 142) (.n 1))]) (.cond (.t 143) (.seq (.ops [.m 145 16, .f 146 1 17, .l 147 146, .i 148 (.callV (.t 145) [.t 147]), .m 144 148, .i 149 (.extract 0 (.t 144)), .i 150 (.extract 1 (.t 144)), .i 30 (.alloc 24 [.st (.int .i64 0), .st (.int .i64 0), .full []]), .s 3 30 149, .m 31 150]) (.seq (.seq (.ops [.m 151 31, .i 152 (.un .not (.t 151))]) (.cond (.t 152) (.seq (.ops [.L 153 3 10, .s 3 12 153, .i 13 (.mov (.c (.one (.st (.bool false)))))]) .ret) .skip)) (.ops [.L 154 3 30, .s 3 17 154]))) .skip)) (.seq (.seq (.ops [.m 155 18, .i 156 (.len false (.t 155)), .i 157 (.mov (.n 0))]) (.block 4 (.loop (.seq (.ops [.i 158 (.bin .lss (.t 157) (.t 156))]) (.seq (.cond (.t 158) .skip (.exit 4)) (.seq (.block 5 (.seq (.ops [.i 159 (.indexAddr 3 (.t 155) (.t 157)), .L 160 3 159, .i 33 (.alloc 24 [.st (.int .i64 0), .st (.int .i64 0), .full []]), .s 3 33 160]) (.seq (.ops [.m 162 0, .m 163 1, .l 164 8, .l 165 9, .L 166 3 33, .l 167 11, .i 168 (.callX 63 [.t 162, .t 163, .t 164, .t 165, .t 166, .t 167]), .m 161 168, .i 169 (.extract 0 (.t 161)), .i 170 (.extract 1 (.t 161)), .i 34 (.alloc 24 [.st (.int .i64 0), .st (.int .i64 0), .full []]), .s 3 34 169, .m 35 170]) (.seq (.seq (.ops [.m 171 35, .i 172 (.un .not (.t 171))]) (.cond (.t 172) (.seq (.ops [.L 173 3 10, .s 3 12 173, .i 13 (.mov (.c (.one (.st (.bool false)))))]) .ret) .skip)) (.ops [.L 174 3 17, .L 175 3 34, .i 176 (.call 57 [.t 174, .t 175]), .s 3 17 176]))))) (.ops [.i 177 (.bin .add (.t 157) (.n 1)), .m 157 177]))))))) (.seq (.ops [.L 178 3 17, .s 3 12 178, .i 13 (.mov (.c (.one (.st (.bool true)))))]) .ret)))))))))
theorem CE : OkF Tryd.prog 63 179 [40000038, 50000053, 80000099, 80000168] BY [.cell 12 true 3, .t 13] := .of Tryd.func63 rfl rfl (by kernel_rfl) rfl
def BZ : IR :=
 (.seq (.ops [.i 7 (.box 24 (.t 3)), .i 8 (.mov (.c (.one (.st (.bool false)))))]) (.seq (.ops [.i 14 (.makeMap (some (Go.Proofs.YtcgnojefbalbbaaDoor.KK.int .i64))), .m 9 14]) (.seq (.seq (.ops [.m 15 2, .i 16 (.len false (.t 15)), .i 17 (.mov (.n 0))]) (.block 0 (.loop (.seq (.ops [.i 18 (.bin .lss (.t 17) (.t 16))]) (.seq (.cond (.t 18) .skip (.exit 0)) (.seq (.block 1 (.seq (.ops [.m 19 17, .i 20 (.indexAddr 3 (.t 15) (.t 17)), .L 21 3 20, .i 11 (.alloc 24 [.st (.int .i64 0), .st (.int .i64 0), .full []]), .m 10 19, .s 3 11 21]) (.ops [.m 22 9, .f 23 1 11, .l 24 23, .m 25 10, .mk none none (.mapSet (some (Go.Proofs.YtcgnojefbalbbaaDoor.KK.int .i64)) (.t 22) (.t 24) (.t 25)) .no]))) (.ops [.i 26 (.bin .add (.t 17) (.n 1)), .m 17 26]))))))) (.seq (.ops [.m 28 0, .m 29 1, .m 30 9, .m 31 2, .i 32 (.len false (.t 31)), .L 33 3 7, .i 34 (.callW 63 [.t 28, .t 29, .t 30, .t 32, .t 33, .n 0]), .m 27 34, .i 35 (.extract 0 (.t 27)), .i 36 (.extract 1 (.t 27)), .i 12 (.alloc 24 [.st (.int .i64 0), .st (.int .i64 0), .full []]), .s 3 12 35, .m 13 36]) (.seq (.seq (.ops [.m 37 13]) (.cond (.t 37) (.ops [.m 38 0, .i 39 (.nilCheck (.t 38)), .f 40 0 39, .l 41 40, .m 42 1, .L 43 3 12, .m 44 2, .i 45 (.len false (.t 44)), .i 46 (.call 61 [.t 43, .t 45]), .i 47 (.indexAddr 3 (.t 41) (.t 42)), .s 3 47 46]) .skip)) (.seq (.ops [.m 48 13, .m 8 48]) .ret))))))
theorem CG : OkF Tryd.prog 38 49 [50000034] BZ [.t 8] := .of Tryd.func38 rfl rfl (by kernel_rfl) rfl
def BV : IR :=
 (.seq (.ops [.i 4 (.box 24 (.t 1)), .i 5 (.box 24 (.t 2)), .i 6 (.mov (.c (.one (.st (.bool false)))))]) (.seq (.ops [.m 12 0, .L 13 3 4, .i 14 (.callR 34 [.t 12, .t 13]), .m 15 0, .L 16 3 5, .i 17 (.callR 34 [.t 15, .t 16]), .s 3 4 14, .s 3 5 17]) (.seq (.seq (.ops [.f 18 0 4, .l 19 18, .i 20 (.bin .eql (.t 19) (.n 2)), .m 21 20, .mk (some 22) (some (21, false)) (.fieldAddr 0 (.t 5)) .no, .mk (some 23) (some (21, false)) (.load false 1 (.t 22)) .no, .mk (some 24) (some (21, false)) (.bin .eql (.t 23) (.n 2)) .no, .i 25 (.pick (.t 21) (.c (.one (.st (.bool true)))) (.t 24))]) (.cond (.t 25) (.seq (.ops [.m 26 0, .L 27 3 4, .i 28 (.call 35 [.t 27]), .L 29 3 5, .i 30 (.call 35 [.t 29]), .i 31 (.callX 18 [.t 26, .t 28, .t 30]), .m 6 31]) .ret) .skip)) (.seq (.ops [.L 33 3 4, .i 34 (.call 36 [.t 33]), .m 32 34, .i 35 (.extract 0 (.t 32)), .i 36 (.extract 1 (.t 32)), .i 7 (.alloc 24 [.st (.int .i64 0), .st (.int .i64 0), .full []]), .s 3 7 35, .m 8 36]) (.seq (.ops [.L 38 3 5, .i 39 (.call 36 [.t 38]), .m 37 39, .i 40 (.extract 0 (.t 37)), .i 41 (.extract 1 (.t 37)), .i 9 (.alloc 24 [.st (.int .i64 0), .st (.int .i64 0), .full []]), .s 3 9 40, .m 10 41]) (.seq (.block 0 (.seq (.ops [.f 43 0 7, .l 44 43, .i 45 (.bin .eql (.t 44) (.n 5)), .m 46 45, .mk (some 47) (some (46, true)) (.fieldAddr 0 (.t 9)) .no, .mk (some 48) (some (46, true)) (.load false 1 (.t 47)) .no, .mk (some 49) (some (46, true)) (.bin .eql (.t 48) (.n 5)) .no, .i 50 (.pick (.t 46) (.t 49) (.c (.one (.st (.bool false))))), .m 51 50, .mk (some 52) (some (51, true)) (.fieldAddr 1 (.t 7)) .no, .mk (some 53) (some (51, true)) (.load false 1 (.t 52)) .no, .mk (some 54) (some (51, true)) (.fieldAddr 1 (.t 9)) .no, .mk (some 55) (some (51, true)) (.load false 1 (.t 54)) .no, .mk (some 56) (some (51, true)) (.bin .eql (.t 53) (.t 55)) .no, .i 57 (.pick (.t 51) (.t 56) (.c (.one (.st (.bool false))))), .m 42 57]) (.cond (.t 42) (.seq (.ops [.m 58 0, .f 59 1 7, .l 60 59, .m 61 8, .m 62 10, .i 63 (.callW 37 [.t 58, .t 60, .t 61, .t 62]), .m 6 63]) .ret) (.seq (.ops [.f 65 0 7, .l 66 65, .i 67 (.bin .eql (.t 66) (.n 5)), .m 64 67]) (.cond (.t 64) (.seq (.ops [.m 68 0, .f 69 1 7, .l 70 69, .m 71 8, .L 72 3 5, .i 73 (.callX 38 [.t 68, .t 70, .t 71, .t 72]), .m 6 73]) .ret) (.seq (.ops [.f 75 0 9, .l 76 75, .i 77 (.bin .eql (.t 76) (.n 5)), .m 74 77]) (.cond (.t 74) (.seq (.ops [.m 78 0, .f 79 1 9, .l 80 79, .m 81 10, .L 82 3 4, .i 83 (.callX 38 [.t 78, .t 80, .t 81, .t 82]), .m 6 83]) .ret) .skip))))))) (.seq (.seq (.ops [.f 84 0 7, .l 85 84, .f 86 0 9, .l 87 86, .i 88 (.bin .neq (.t 85) (.t 87)), .m 89 88, .mk (some 90) (some (89, false)) (.fieldAddr 1 (.t 7)) .no, .mk (some 91) (some (89, false)) (.load false 1 (.t 90)) .no, .mk (some 92) (some (89, false)) (.fieldAddr 1 (.t 9)) .no, .mk (some 93) (some (89, false)) (.load false 1 (.t 92)) .no, .mk (some 94) (some (89, false)) (.bin .neq (.t 91) (.t 93)) .no, .i 95 (.pick (.t 89) (.c (.one (.st (.bool true)))) (.t 94)), .m 96 95, .mk (some 97) (some (96, false)) (.mov (.t 8)) .no, .mk (some 98) (some (96, false)) (.len false (.t 97)) .no, .mk (some 99) (some (96, false)) (.mov (.t 10)) .no, .mk (some 100) (some (96, false)) (.len false (.t 99)) .no, .mk (some 101) (some (96, false)) (.bin .neq (.t 98) (.t 100)) .no, .i 102 (.pick (.t 96) (.c (.one (.st (.bool true)))) (.t 101))]) (.cond (.t 102) (.seq (.ops [.i 6 (.mov (.c (.one (.st (.bool false)))))]) .ret) .skip)) (.seq (.seq (.ops [.m 103 8, .i 104 (.len false (.t 103)), .i 105 (.mov (.n 0))]) (.block 1 (.loop (.seq (.ops [.i 106 (.bin .lss (.t 105) (.t 104))]) (.seq (.cond (.t 106) .skip (.exit 1)) (.seq (.block 2 (.seq (.ops [.m 107 105, .m 11 107]) (.seq (.ops [.m 108 0, .m 109 8, .m 110 11, .i 111 (.indexAddr 3 (.t 109) (.t 110)), .L 112 3 111, .m 113 10, .m 114 11, .i 115 (.indexAddr 3 (.t 113) (.t 114)), .L 116 3 115, .i 117 (.callX 18 [.t 108, .t 112, .t 116]), .i 118 (.un .not (.t 117))]) (.cond (.t 118) (.seq (.ops [.i 6 (.mov (.c (.one (.st (.bool false)))))]) .ret) .skip)))) (.ops [.i 119 (.bin .add (.t 105) (.n 1)), .m 105 119]))))))) (.seq (.ops [.i 6 (.mov (.c (.one (.st (.bool true)))))]) .ret)))))))))
theorem CD : OkF Tryd.prog 18 120 [40000014, 40000017, 80000031, 50000063, 80000073, 80000083, 80000117] BV [.t 6] := .of Tryd.func18 rfl rfl (by kernel_rfl) rfl
def BT : IR :=
 (.seq (.ops [.i 3 (.box 24 (.t 1)), .i 4 (.alloc 24 [.st (.int .i64 0), .st (.int .i64 0), .full []])]) (.seq (.ops [.m 8 0, .L 9 3 3, .i 10 (.callR 34 [.t 8, .t 9]), .s 3 3 10]) (.seq (.ops [.f 11 0 3, .l 12 11, .f 13 1 3, .l 14 13, .i 15 (.build [.st (.int .i64 0), .st (.int .i64 0), .full []] [(0, 1, .t 12), (1, 1, .t 14)]), .i 5 (.alloc 24 [.st (.int .i64 0), .st (.int .i64 0), .full []]), .s 3 5 15]) (.seq (.seq (.ops [.f 16 2 3, .l 17 16, .i 18 (.len false (.t 17)), .i 19 (.mov (.n 0))]) (.block 0 (.loop (.seq (.ops [.i 20 (.bin .lss (.t 19) (.t 18))]) (.seq (.cond (.t 20) .skip (.exit 0)) (.seq (.block 1 (.seq (.ops [.i 21 (.indexAddr 3 (.t 17) (.t 19)), .L 22 3 21, .i 7 (.alloc 24 [.st (.int .i64 0), .st (.int .i64 0), .full []]), .s 3 7 22]) (.ops [.f 23 2 5, .l 24 23, .m 25 0, .L 26 3 7, .i 27 (.callR 21 [.t 25, .t 26]), .i 28 (.buildSlice false 24 3 [.t 27]), .i 29 (.append false 24 3 40 (.t 24) (.t 28)), .f 30 2 5, .s 1 30 29]))) (.ops [.i 31 (.bin .add (.t 19) (.n 1)), .m 19 31]))))))) (.seq (.ops [.L 32 3 5, .s 3 4 32]) .ret)))))
theorem B_ : OkF Tryd.prog 21 33 [40000010, 40000027] BT [.cell 4 true 3] := .of Tryd.func21 rfl rfl (by kernel_rfl) rfl
def DC : IR :=
 (.seq (.ops [.i 2 (.box 24 (.t 0)), .i 4 (.alloc 24 [.st (.int .i64 0), .st (.int .i64 0), .full []])]) (.seq (.ops [.f 10 0 2, .l 11 10, .f 12 1 2, .l 13 12, .i 14 (.build [.st (.int .i64 0), .st (.int .i64 0), .full []] [(0, 1, .t 11), (1, 1, .t 13)]), .i 5 (.alloc 24 [.st (.int .i64 0), .st (.int .i64 0), .full []]), .s 3 5 14]) (.seq (.seq (.ops [.f 15 0 2, .l 16 15, .i 17 (.bin .eql (.t 16) (.n 5))]) (.cond (.t 17) (.seq (.seq (.ops [.m 19 1, .f 20 1 2, .l 21 20, .i 22 (.lookup (some (Go.Proofs.YtcgnojefbalbbaaDoor.KK.int .i64)) true (.one (.st (.int .i64 0))) (.t 19) (.t 21)), .m 18 22, .i 23 (.extract 0 (.t 18)), .i 24 (.extract 1 (.t 18)), .m 6 23, .m 7 24]) (.seq (.ops [.m 25 7, .i 26 (.un .not (.t 25))]) (.cond (.t 26) (.ops [.m 27 1, .f 28 1 2, .l 29 28, .m 30 1, .i 31 (.lenM (.t 30)), .mk none none (.mapSet (some (Go.Proofs.YtcgnojefbalbbaaDoor.KK.int .i64)) (.t 27) (.t 29) (.t 31)) .no]) .skip))) (.ops [.m 32 1, .f 33 1 2, .l 34 33, .i 35 (.lookup (some (Go.Proofs.YtcgnojefbalbbaaDoor.KK.int .i64)) false (.one (.st (.int .i64 0))) (.t 32) (.t 34)), .f 36 1 5, .s 1 36 35])) .skip)) (.seq (.seq (.ops [.f 37 2 2, .l 38 37, .i 39 (.len false (.t 38)), .i 40 (.mov (.n 0))]) (.block 0 (.loop (.seq (.ops [.i 41 (.bin .lss (.t 40) (.t 39))]) (.seq (.cond (.t 41) .skip (.exit 0)) (.seq (.block 1 (.seq (.ops [.i 42 (.indexAddr 3 (.t 38) (.t 40)), .L 43 3 42, .i 9 (.alloc 24 [.st (.int .i64 0), .st (.int .i64 0), .full []]), .s 3 9 43]) (.ops [.mk (some 44) none (.fieldAddr 2 (.t 5)) (.onb 5), .mk (some 45) none (.load false 1 (.t 44)) (.onb 5), .L 46 3 9, .m 47 1, .mk (some 48) none (.callS 19 [.t 46, .t 47]) (.keeps [5, 5]), .i 49 (.buildSlice false 24 3 [.t 48]), .i 50 (.append false 24 3 40 (.t 45) (.t 49)), .f 51 2 5, .s 1 51 50]))) (.ops [.i 52 (.bin .add (.t 40) (.n 1)), .m 40 52]))))))) (.seq (.ops [.L 53 3 5, .s 3 4 53]) .ret)))))
theorem Fq : OkF Tryd.prog 19 54 [48] DC [.cell 4 true 3] := .of Tryd.func19 rfl rfl (by kernel_rfl) rfl

def GL : IR :=
 (.seq (.ops [.i 2 (.alloc 24 [.st (.int .i64 0), .st (.int .i64 0), .full []])]) (.seq (.ops [.m 3 0, .i 4 (.build [.st (.int .i64 0), .st (.int .i64 0), .full []] [(0, 1, .n 5), (1, 1, .t 3)]), .s 3 2 4]) .ret))
theorem Ks : OkF Tryd.prog 22 5 [] GL [.cell 2 true 3] := .of Tryd.func22 rfl rfl (by kernel_rfl) rfl
def Eu : IR :=
 (.seq (.ops [.i 2 (.box 24 (.t 0)), .i 4 (.alloc 24 [.st (.int .i64 0), .st (.int .i64 0), .full []])]) (.seq (.seq (.ops [.m 7 1, .i 8 (.len false (.t 7)), .i 9 (.mov (.n 0))]) (.block 0 (.loop (.seq (.ops [.i 10 (.bin .lss (.t 9) (.t 8))]) (.seq (.cond (.t 10) .skip (.exit 0)) (.seq (.block 1 (.seq (.ops [.i 11 (.indexAddr 3 (.t 7) (.t 9)), .L 12 3 11, .i 6 (.alloc 24 [.st (.int .i64 0), .st (.int .i64 0), .full []]), .s 3 6 12]) (.ops [.L 13 3 2, .L 14 3 6, .i 15 (.call 57 [.t 13, .t 14]), .s 3 2 15]))) (.ops [.i 16 (.bin .add (.t 9) (.n 1)), .m 9 16]))))))) (.seq (.ops [.L 17 3 2, .s 3 4 17]) .ret)))
theorem H4 : OkF Tryd.prog 71 18 [] Eu [.cell 4 true 3] := .of Tryd.func71 rfl rfl (by kernel_rfl) rfl
def Et : IR :=
 (.seq (.ops [.i 2 (.box 24 (.t 0)), .i 4 (.alloc 24 [.st (.int .i64 0), .st (.int .i64 0), .full []])]) (.seq (.ops [.L 5 3 2, .m 6 1, .i 7 (.call 71 [.t 5, .t 6]), .s 3 4 7]) .ret))
theorem H1 : OkF Tryd.prog 55 8 [] Et [.cell 4 true 3] := .of Tryd.func55 rfl rfl (by kernel_rfl) rfl
def C8 : IR :=
 (.seq (.ops [.i 2 (.box 24 (.t 0)), .i 4 (.alloc 24 [.st (.int .i64 0), .st (.int .i64 0), .full []])]) (.seq (.seq (.ops [.m 5 1, .i 6 (.mov (.n 0))]) (.block 0 (.loop (.seq (.ops [.i 7 (.bin .lss (.t 6) (.t 5))]) (.seq (.cond (.t 7) .skip (.exit 0)) (.seq (.block 1 (.ops [.L 8 3 2, .i 9 (.call 73 [.t 8]), .s 3 2 9])) (.ops [.i 10 (.bin .add (.t 6) (.n 1)), .m 6 10]))))))) (.seq (.ops [.L 11 3 2, .s 3 4 11]) .ret)))
theorem FR : OkF Tryd.prog 61 12 [] C8 [.cell 4 true 3] := .of Tryd.func61 rfl rfl (by kernel_rfl) rfl
def C2 : IR :=
 (.seq (.ops [.i 4 (.mov (.c (.one (.full []))))]) (.seq (.ops [.i 5 (.mov (.c (.one (.full []))))]) (.seq (.seq (.ops [.m 8 0, .i 9 (.len false (.t 8)), .i 10 (.mov (.n 0))]) (.block 0 (.loop (.seq (.ops [.i 11 (.bin .lss (.t 10) (.t 9))]) (.seq (.cond (.t 11) .skip (.exit 0)) (.seq (.block 1 (.seq (.ops [.i 12 (.indexAddr 1 (.t 8) (.t 10)), .l 13 12, .m 7 13]) (.ops [.m 14 5, .m 15 1, .i 16 (.bin .sub (.t 15) (.n 1)), .m 17 7, .i 18 (.bin .sub (.t 16) (.t 17)), .i 19 (.call 58 [.t 18]), .i 20 (.buildSlice false 24 3 [.t 19]), .i 21 (.append false 24 3 40 (.t 14) (.t 20)), .m 5 21]))) (.ops [.i 22 (.bin .add (.t 10) (.n 1)), .m 10 22]))))))) (.seq (.ops [.m 23 5, .m 4 23]) .ret))))
theorem Fd : OkF Tryd.prog 62 24 [] C2 [.t 4] := .of Tryd.func62 rfl rfl (by kernel_rfl) rfl
def Av : IR :=
 (.seq (.ops [.m 4 0, .i 5 (.len false (.t 4)), .i 6 (.bin .sub (.t 5) (.n 1)), .i 2 (.mov (.n 0)), .m 3 6]) (.block 0 (.loop (.seq (.seq (.ops [.m 7 2, .m 8 3, .i 9 (.bin .lss (.t 7) (.t 8))]) (.cond (.t 9) .skip (.exit 0))) (.seq (.block 1 (.ops [.m 14 0, .m 15 2, .m 16 0, .m 17 3, .m 18 0, .m 19 3, .i 20 (.indexAddr 3 (.t 18) (.t 19)), .L 21 3 20, .m 22 0, .m 23 2, .i 24 (.indexAddr 3 (.t 22) (.t 23)), .L 25 3 24, .i 26 (.indexAddr 3 (.t 14) (.t 15)), .s 3 26 21, .i 27 (.indexAddr 3 (.t 16) (.t 17)), .s 3 27 25])) (.ops [.m 10 2, .i 11 (.bin .add (.t 10) (.n 1)), .m 12 3, .i 13 (.bin .sub (.t 12) (.n 1)), .m 2 11, .m 3 13]))))))
theorem BL : OkF Tryd.prog 59 28 [] Av [] := .of Tryd.func59 rfl rfl (by kernel_rfl) rfl
def C1 : IR :=
 (.seq (.ops [.i 1 (.box 24 (.t 0)), .i 2 (.alloc 24 [.st (.int .i64 0), .st (.int .i64 0), .full []]), .i 3 (.mov (.c (.one (.full []))))]) (.seq (.ops [.i 4 (.mov (.c (.one (.full []))))]) (.seq (.block 0 (.loop (.seq (.seq (.ops [.f 5 0 1, .l 6 5, .i 7 (.bin .eql (.t 6) (.n 3))]) (.cond (.t 7) .skip (.exit 0))) (.block 1 (.seq (.ops [.m 8 4, .f 9 2 1, .l 10 9, .i 11 (.indexAddr 3 (.t 10) (.n 1)), .L 12 3 11, .i 13 (.buildSlice false 24 3 [.t 12]), .i 14 (.append true 24 3 40 (.t 8) (.t 13)), .m 4 14]) (.ops [.f 15 2 1, .l 16 15, .i 17 (.indexAddr 3 (.t 16) (.n 0)), .L 18 3 17, .s 3 1 18])))))) (.seq (.ops [.m 19 4, .i 20 (.callW 59 [.t 19])]) (.seq (.ops [.L 21 3 1, .m 22 4, .s 3 2 21, .m 3 22]) .ret)))))
theorem FQ : OkF Tryd.prog 36 23 [14, 50000020] C1 [.cell 2 true 3, .t 3] := .of Tryd.func36 rfl rfl (by kernel_rfl) rfl
def Dp : IR :=
 (.seq (.ops [.i 1 (.box 24 (.t 0)), .i 2 (.alloc 24 [.st (.int .i64 0), .st (.int .i64 0), .full []])]) (.seq (.seq (.ops [.f 3 0 1, .l 4 3, .i 5 (.bin .eql (.t 4) (.n 2))]) (.cond (.t 5) (.seq (.ops [.f 6 2 1, .l 7 6, .i 8 (.indexAddr 3 (.t 7) (.n 0)), .L 9 3 8, .s 3 2 9]) .ret) .skip)) (.seq (.ops [.L 10 3 1, .i 11 (.call 40 [.t 10, .n 1, .n 0]), .i 12 (.call 58 [.n 0]), .i 13 (.call 57 [.t 11, .t 12]), .s 3 2 13]) .ret)))
theorem Gd : OkF Tryd.prog 35 14 [] Dp [.cell 2 true 3] := .of Tryd.func35 rfl rfl (by kernel_rfl) rfl

set_option maxHeartbeats 2000000
abbrev Bc (t : Lm) : AI := .box 24 [.st (.int .i64 t.kind), .st (.int .i64 t.idx), .st (.list (t.subs.map Ac))]
theorem Pw (u x : Lm) : Bc (Lm.mk 3 0 [u, x]) = .box 24 [.st (.int .i64 3), .st (.int .i64 0), .st (.list [[.int .i64 u.kind, .int .i64 u.idx, .list (u.subs.map Ac)], [.int .i64 x.kind, .int .i64 x.idx, .list (x.subs.map Ac)]])] := by
 simp [Bc, Lm.kind_mk, Lm.idx_mk, Lm.subs_mk, AB]
theorem Pm (u : Lm) : Bc (Lm.l u) = .box 24 [.st (.int .i64 2), .st (.int .i64 0), .st (.list [[.int .i64 u.kind, .int .i64 u.idx, .list (u.subs.map Ac)]])] := by
 simp [Bc, Lm.l, Lm.kind_mk, Lm.idx_mk, Lm.subs_mk, AB]
theorem Pl (i : Int) : Aa Tryd.prog 22 [AK i] (aLm (mU i)) := by
 refine Ks.ac fun C hC => ?_
 unfold GL
 repeat' with_reducible first | refine W ?_ | refine Z0 ?_ | ((first | refine Wo fun K hK => ?_ | refine Wp ?_ | refine Wq ?_ | refine Wr ?_); (try simp only [go_sem, fN, seval, eT, iR, dT, dF, nL]); (repeat refine Ai ?_); (try (refine hK _ ?_; clear hK K)); try refine iC ?_)
 simp only [go_sem, fN, seval, AY, AS.result, AD, AE, AM]
 simp [mU, Lm.kind_mk, Lm.idx_mk, Lm.subs_mk]
theorem Pd (t : Lm) (l : List Lm) : Aa Tryd.prog 71 [aLm t, A1 l] (aLm (DU t l)) := by
 refine H4.ac fun C hC => ?_
 unfold Eu
 refine IWP.learn 1 (by omega) fun hkn => ?_
 have hln := Cp hkn
 repeat' with_reducible first | refine W ?_ | refine Z0 ?_ | ((first | refine Wo fun K hK => ?_ | refine Wp ?_ | refine Wq ?_ | refine Wr ?_); (try simp only [go_sem, fN, seval, eT, iR, dT, dF, nL]); (repeat refine Ai ?_); (try (refine hK _ ?_; clear hK K)); try refine iC ?_)
 refine IWP.loopD [6] (fun q s => ∃ k, k ≤ l.length ∧ q = l.length - k ∧ s.env 2 = .one (.ptr 2 1 0 0) ∧ s.env 4 = .one (.ptr 4 1 0 0) ∧ s.env 7 = A1 l ∧ s.env 8 = AK l.length ∧ s.env 9 = AK k ∧ s.S 2 = some (Bc (DU t (l.take k))) ∧ s.S 4 = some (.box 24 [.st (.int .i64 0), .st (.int .i64 0), .full []]) ∧ s.S 6 = none) l.length
  ⟨0, Nat.zero_le _, rfl, rfl, rfl, rfl, by simp only [go_sem, fN, seval, eT, iR], rfl, rfl, rfl, rfl⟩ ?_
 rintro q ⟨env, S⟩ ⟨k, hk, rfl, e2, e4, e7, e8, e9, s2, s4, s6⟩
 simp only at e2 e4 e7 e8 e9 s2 s4 s6
 have hll : (l.map Ac).length = l.length := List.length_map _
 by_cases hlt : (k : Int) < l.length
 ·obtain ⟨x, hx⟩ := Ak (show k < l.length by omega)
  have hsn : DU t (l.take (k + 1)) = Lm.a (DU t (l.take k)) x := by rw [Al hx]; unfold DU; rw [List.foldl_append]; rfl
  generalize DU t (l.take k) = u at *
  repeat' (first | (with_reducible first | refine W ?_ | refine Z0 ?_ | ((first | refine Wo fun K hK => ?_ | refine Wp ?_ | refine Wq ?_ | refine Wr ?_); (try simp only [go_sem, fN, seval, eT, iR, e2, e4, e7, e8, e9, s2, s4, s6, hlt, hx, hll, AB, dT, dF, nL]); (repeat refine Ai ?_); (try (refine hK _ ?_; clear hK K)); try refine iC ?_)) | refine Cg _ (PZ u x) ?_)
  refine AH ⟨l.length - (k + 1), by omega, k + 1, by omega, rfl, ?_⟩
  rw [hsn]
  simp only [go_sem, fN, seval, AS.drop, AN, AC.clears, AC.clear, AC.highs, AC.high, Bool.not_false, Bool.true_and, Bool.and_self, AV.purge, AV.purges, AC.purge, AI.purge, List.contains_cons, List.contains_nil, Nat.reduceBEq, Bool.or_self, Bool.or_false, Bool.false_or, Bool.or_true, eT, iR, e2, e4, e7, e8, e9, s2, s4, Lm.a, Lm.kind_mk, Lm.idx_mk, Lm.subs_mk]
  exact ⟨rfl, (Pw u x).symm⟩
 ·have hke : k = l.length := by omega
  rw [hke, List.take_length] at s2
  generalize DU t l = u at *
  repeat' with_reducible first | refine W ?_ | refine Z0 ?_ | ((first | refine Wo fun K hK => ?_ | refine Wp ?_ | refine Wq ?_ | refine Wr ?_); (try simp only [go_sem, fN, seval, eT, iR, e2, e4, e7, e8, e9, s2, s4, hlt, dT, dF, nL]); (repeat refine Ai ?_); (try (refine hK _ ?_; clear hK K)); try refine iC ?_)
  simp only [go_sem, fN, seval, AY, AS.result, AD, AE, AM, e4]
theorem HM (t : Lm) (l : List Lm) : Aa Tryd.prog 55 [aLm t, A1 l] (aLm (DU t l)) := by
 have h := Pd t l
 generalize DU t l = u at *
 refine H1.ac fun C hC => ?_
 unfold Et
 repeat' (first | (with_reducible first | refine W ?_ | refine Z0 ?_ | ((first | refine Wo fun K hK => ?_ | refine Wp ?_ | refine Wq ?_ | refine Wr ?_); (try simp only [go_sem, fN, seval, eT, iR, dT, dF, nL]); (repeat refine Ai ?_); (try (refine hK _ ?_; clear hK K)); try refine iC ?_)) | refine Cg _ (h) ?_)
 simp only [go_sem, fN, seval, AY, AS.result, AD, AE, AM]
theorem Fz (b : Lm) (n : Nat) (hn : n ≤ 1000) : Aa Tryd.prog 61 [aLm b, AK n] (aLm (Bv b n)) := by
 refine FR.ac fun C hC => ?_
 unfold C8
 repeat' with_reducible first | refine W ?_ | refine Z0 ?_ | ((first | refine Wo fun K hK => ?_ | refine Wp ?_ | refine Wq ?_ | refine Wr ?_); (try simp only [go_sem, fN, seval, eT, iR, dT, dF, nL]); (repeat refine Ai ?_); (try (refine hK _ ?_; clear hK K)); try refine iC ?_)
 refine IWP.loop (fun q s => ∃ k, k ≤ n ∧ q = n - k ∧ s.env 2 = .one (.ptr 2 1 0 0) ∧ s.env 4 = .one (.ptr 4 1 0 0) ∧ s.env 5 = AK n ∧ s.env 6 = AK k ∧ s.S 2 = some (Bc (Bv b k)) ∧ s.S 4 = some (.box 24 [.st (.int .i64 0), .st (.int .i64 0), .full []])) n
  ⟨0, Nat.zero_le _, rfl, rfl, rfl, rfl, rfl, rfl, rfl⟩ ?_
 rintro q ⟨env, S⟩ ⟨k, hk, rfl, e2, e4, e5, e6, s2, s4⟩
 simp only at e2 e4 e5 e6 s2 s4
 by_cases hlt : (k : Int) < n
 ·have hsn : Bv b (k + 1) = Lm.l (Bv b k) := rfl
  generalize Bv b k = u at *
  repeat' (first | (with_reducible first | refine W ?_ | refine Z0 ?_ | ((first | refine Wo fun K hK => ?_ | refine Wp ?_ | refine Wq ?_ | refine Wr ?_); (try simp only [go_sem, fN, seval, eT, iR, e2, e4, e5, e6, s2, s4, hlt, AB, dT, dF, nL]); (repeat refine Ai ?_); (try (refine hK _ ?_; clear hK K)); try refine iC ?_)) | refine Cg _ (Px u) ?_)
  refine AH ⟨n - (k + 1), by omega, k + 1, by omega, rfl, e2, e4, e5, rfl, ?_, s4⟩
  rw [hsn, Pm]
  simp only [go_sem, fN, seval, eT, iR, Lm.l, Lm.kind_mk, Lm.idx_mk, Lm.subs_mk, AB]
 ·have hke : k = n := by omega
  subst hke
  generalize Bv b k = u at *
  repeat' with_reducible first | refine W ?_ | refine Z0 ?_ | ((first | refine Wo fun K hK => ?_ | refine Wp ?_ | refine Wq ?_ | refine Wr ?_); (try simp only [go_sem, fN, seval, eT, iR, e2, e4, e5, e6, s2, s4, hlt, dT, dF, nL]); (repeat refine Ai ?_); (try (refine hK _ ?_; clear hK K)); try refine iC ?_)
  simp only [go_sem, fN, seval, AY, AS.result, AD, AE, AM, e4]
theorem Ii (l : List Int) (n : Int) (hn : 0 ≤ n ∧ n ≤ 1000) (hl : ∀ i ∈ l, 0 ≤ i ∧ i ≤ 1000) (hz : l.length ≤ 1000) : Aa Tryd.prog 62 [Lf l, AK n] (A1 (CY l n)) := by
 refine Fd.ac fun C hC => ?_
 unfold C2
 refine IWP.learn 0 (by omega) fun hkn => ?_
 have hln := Cp hkn
 repeat' with_reducible first | refine W ?_ | refine Z0 ?_ | ((first | refine Wo fun K hK => ?_ | refine Wp ?_ | refine Wq ?_ | refine Wr ?_); (try simp only [go_sem, fN, seval, eT, iR, dT, dF, nL]); (repeat refine Ai ?_); (try (refine hK _ ?_; clear hK K)); try refine iC ?_)
 refine IWP.ghost (As.own 5 50 24 3 (xs := ([] : List (List SV))) rfl rfl (by simp) (by omega)) ?_
 refine IWP.loop (fun q s => ∃ k, k ≤ l.length ∧ q = l.length - k ∧ s.env 1 = AK n ∧ s.env 8 = Lf l ∧ s.env 9 = AK l.length ∧ s.env 10 = AK k ∧ s.env 5 = .one (.row 50 k) ∧ s.S 50 = some (.arow 24 3 ((CY (l.take k) n).map Ac))) l.length
  ⟨0, Nat.zero_le _, rfl, rfl, rfl, by simp only [go_sem, fN, seval, eT, iR], rfl, rfl, rfl⟩ ?_
 rintro q ⟨env, S⟩ ⟨k, hk, rfl, e1, e8, e9, e10, e5, s50⟩
 simp only at e1 e8 e9 e10 e5 s50
 have hll : (l.map B1).length = l.length := List.length_map _
 have hkl : ((CY (l.take k) n).map Ac).length = k := by rw [List.length_map]; unfold CY; rw [List.length_map, List.length_take]; omega
 by_cases hlt : (k : Int) < l.length
 ·obtain ⟨x, hx⟩ := Ak (show k < l.length by omega)
  obtain ⟨hx1, hx2⟩ := hl x (AJ hx)
  repeat' (first | (with_reducible first | refine W ?_ | refine Z0 ?_ | ((first | refine Wo fun K hK => ?_ | refine Wp ?_ | refine Wq ?_ | refine Wr ?_); (try simp only [go_sem, fN, seval, eT, iR, e1, e8, e9, e10, e5, s50, hlt, hx, hll, hkl, B1, dT, dF, nL]); (repeat refine Ai ?_); (try (refine hK _ ?_; clear hK K)); try refine iC ?_)) | refine Cg _ (K8 (n - 1 - x)) ?_)
  refine AH ⟨l.length - (k + 1), by omega, k + 1, by omega, rfl, e1, e8, e9, rfl, rfl, ?_⟩
  rw [Al hx]
  unfold CY
  rw [List.map_append, List.map_append]
  simp only [go_sem, fN, seval, eT, iR, Lm.v, AB]
 ·have hke : k = l.length := by omega
  rw [hke, List.take_length] at s50
  rw [hke] at e5
  rw [hke, List.take_length] at hkl
  repeat' with_reducible first | refine W ?_ | refine Z0 ?_ | ((first | refine Wo fun K hK => ?_ | refine Wp ?_ | refine Wq ?_ | refine Wr ?_); (try simp only [go_sem, fN, seval, eT, iR, e1, e8, e9, e10, e5, s50, hlt, hkl, dT, dF, nL]); (repeat refine Ai ?_); (try (refine hK _ ?_; clear hK K)); try refine iC ?_)
  simp only [go_sem, fN, seval, AY, AS.result, AD, AE, AM, s50, hkl]
def D5 (xs : List (List SV)) (i : Nat) : List (List SV) := (List.range xs.length).map fun p => if p < i ∨ xs.length - i ≤ p then xs.getD (xs.length - 1 - p) [] else xs.getD p []
theorem Jv (xs : List (List SV)) (i : Nat) : (D5 xs i).length = xs.length := by simp [D5]
theorem Mx (xs : List (List SV)) : D5 xs 0 = xs := by
 refine List.ext_getElem (Jv _ _) fun p h1 h2 => ?_
 simp only [D5, List.getElem_map, List.getElem_range]
 rw [if_neg (by omega), List.getD_eq_getElem?_getD, List.getElem?_eq_getElem h2]
 rfl
theorem Nr {xs : List (List SV)} {i : Nat} (h : xs.length ≤ 2 * i + 1) : D5 xs i = xs.reverse := by
 refine List.ext_getElem (by simp [D5]) fun p h1 h2 => ?_
 have hp : p < xs.length := by simpa [D5] using h1
 simp only [D5, List.getElem_map, List.getElem_range, List.getElem_reverse]
 split
 ·rw [List.getD_eq_getElem?_getD, List.getElem?_eq_getElem (by omega)]
  rfl
 ·have hm : p = xs.length - 1 - p := by omega
  rw [List.getD_eq_getElem?_getD, List.getElem?_eq_getElem hp, Option.getD_some]
  exact getElem_congr rfl hm _
theorem KG {xs : List (List SV)} {i p : Nat} (h1 : i ≤ p) (h2 : p < xs.length - i) (hi : 2 * i + 1 < xs.length) : (D5 xs i)[p]? = some (xs.getD p []) := by
 unfold D5
 rw [List.getElem?_map, List.getElem?_range (by omega), Option.map_some, if_neg (by omega)]
theorem MT {xs : List (List SV)} {i : Nat} (hi : 2 * i + 1 < xs.length) : ((D5 xs i).set i (xs.getD (xs.length - 1 - i) [])).set (xs.length - 1 - i) (xs.getD i []) = D5 xs (i + 1) := by
 refine List.ext_getElem (by simp [D5]) fun p h1 h2 => ?_
 have hp : p < xs.length := by simpa [D5] using h2
 simp only [List.getElem_set, D5, List.getElem_map, List.getElem_range]
 by_cases e1 : xs.length - 1 - i = p
 ·rw [if_pos e1, if_pos (by omega), show xs.length - 1 - p = i by omega]
 ·rw [if_neg e1]
  by_cases e2 : i = p
  ·rw [if_pos e2, if_pos (by omega), e2]
  ·rw [if_neg e2]
   by_cases e3 : p < i ∨ xs.length - i ≤ p
   ·rw [if_pos e3, if_pos (by omega)]
   ·rw [if_neg e3, if_neg (by omega)]
theorem MO (S : AA) (b : Nat) (xs : List (List SV)) (hb : 1000 ≤ b) (hw : ∀ x ∈ xs, x.length = 3) (hz : xs.length ≤ 1000) (sb : S b = some (.mrow 24 3 xs)) : Ag Tryd.prog 59 [.one (.row b xs.length)] S (.tup []) (AO S b (some (.mrow 24 3 xs.reverse))) := by
 refine BL.acS fun hS C hC => ?_
 unfold Av
 repeat' with_reducible first | refine W ?_ | refine Z0 ?_ | ((first | refine Wo fun K hK => ?_ | refine Wp ?_ | refine Wq ?_ | refine Wr ?_); (try simp only [go_sem, fN, seval, eT, iR, AS.startS, sb, dT, dF, nL]); (repeat refine Ai ?_); (try (refine hK _ ?_; clear hK K)); try refine iC ?_)
 refine IWP.loop (fun q s => ∃ i, i ≤ xs.length ∧ q = xs.length - i ∧ s.env 0 = .one (.row b xs.length) ∧ s.env 2 = AK i ∧ s.env 3 = AK ((xs.length : Int) - 1 - i) ∧ s.S b = some (.mrow 24 3 (D5 xs i)) ∧ ∀ j, 1000 ≤ j → j ≠ b → s.S j = S j) xs.length
  ⟨0, Nat.zero_le _, rfl, rfl, rfl, by simp only [go_sem, fN, seval, eT, iR]; simp, by rw [Mx]; exact sb, fun j _ _ => rfl⟩ ?_
 rintro q ⟨env, S1⟩ ⟨i, hi, rfl, e0, e2, e3, s1, hS1⟩
 simp only at e0 e2 e3 s1 hS1
 by_cases hlt : (i : Int) < (xs.length : Int) - 1 - i
 ·have h2 : 2 * i + 1 < xs.length := by omega
  obtain ⟨j, hj⟩ : ∃ j, xs.length - 1 - i = j := ⟨_, rfl⟩
  have hjI : (xs.length : Int) - 1 - i = (j : Int) := by omega
  have hrl := Jv xs i
  have g1 := KG (xs := xs) (i := i) (p := i) (Nat.le_refl _) (by omega) h2
  have g2 := KG (xs := xs) (i := i) (p := j) (by omega) (by omega) h2
  have hst := MT h2
  rw [hj] at hst
  have hl1 : (xs.getD i []).length = 3 := by
   rw [List.getD_eq_getElem?_getD, List.getElem?_eq_getElem (show i < xs.length by omega)]
   exact hw _ (List.getElem_mem _)
  have hl2 : (xs.getD j []).length = 3 := by
   rw [List.getD_eq_getElem?_getD, List.getElem?_eq_getElem (show j < xs.length by omega)]
   exact hw _ (List.getElem_mem _)
  rw [hjI] at e3 hlt
  have hil : i < xs.length := by omega
  have hjl : j < xs.length := by omega
  have hij : ¬ i = j := by omega
  have hji : ¬ j = i := by omega
  match hu : xs.getD i [], hv : xs.getD j [], hl1, hl2 with
  | [u1, u2, u3], [v1, v2, v3], _, _ =>
   rw [hu] at g1 hst
   rw [hv] at g2 hst
   have hsl : ((D5 xs i).set i [v1, v2, v3]).length = xs.length := by rw [List.length_set, hrl]
   have g3 : ((D5 xs i).set i [v1, v2, v3])[j]? = some [v1, v2, v3] := by rw [List.getElem?_set_ne hij]; exact g2
   repeat' with_reducible first | refine W ?_ | refine Z0 ?_ | ((first | refine Wo fun K hK => ?_ | refine Wp ?_ | refine Wq ?_ | refine Wr ?_); (try simp only [go_sem, fN, seval, eT, iR, e0, e2, e3, s1, hlt, hil, hjl, hrl, g1, g2, g3, hsl, hst, dT, dF, nL]); (repeat refine Ai ?_); (try (refine hK _ ?_; clear hK K)); try refine iC ?_)
   refine AH ⟨xs.length - (i + 1), by omega, i + 1, by omega, rfl, e0, rfl, ?_, by simp only [go_sem, fN, seval, eT, iR], fun j' h1 h2 => ?_⟩
   ·exact congrArg (fun z => AK z) (show (j : Int) - 1 = (xs.length : Int) - 1 - ((i + 1 : Nat) : Int) by omega)
   ·have h := hS1 j' h1 h2
    simp only [go_sem, fN, seval, eT, iR, h2, h]
 ·rw [Nr (by omega)] at s1
  repeat' with_reducible first | refine W ?_ | refine Z0 ?_ | ((first | refine Wo fun K hK => ?_ | refine Wp ?_ | refine Wq ?_ | refine Wr ?_); (try simp only [go_sem, fN, seval, eT, iR, e0, e2, e3, s1, hlt, dT, dF, nL]); (repeat refine Ai ?_); (try (refine hK _ ?_; clear hK K)); try refine iC ?_)
  refine Ab (.tup []) (BK hS hb rfl) trivial rfl rfl fun j hj => ?_
  by_cases e : j = b
  ·subst e
   rw [AG]
   exact s1
  ·rw [AU _ e]
   exact hS1 j hj e
theorem HK : ∀ (f : Nat) (t : Lm) (acc : List Lm), D2 f t acc = ((D2 f t []).1, (D2 f t []).2 ++ acc)
 | 0, t, acc => rfl
 | f + 1, t, acc => by
  unfold D2
  split
  ·split
   ·rename_i g x _
    rw [HK f g (x :: acc), HK f g [x]]
    simp
   ·rfl
  ·rfl
theorem IH : ∀ {f f' : Nat} (t : Lm) (acc : List Lm), t.size ≤ f → t.size ≤ f' → D2 f t acc = D2 f' t acc
 | 0, f', t, acc, h, _ => by have := Lm.size_pos t; omega
 | f + 1, 0, t, acc, _, h => by have := Lm.size_pos t; omega
 | f + 1, f' + 1, t, acc, h, h' => by
  unfold D2
  split
  ·split
   ·rename_i g x hs
    have := Lm.size_sub (t := t) (a := g) (by rw [hs]; simp)
    exact IH g _ (by omega) (by omega)
   ·rfl
  ·rfl
theorem HY {t g x : Lm} (hk : t.kind = 3) (hs : t.subs = [g, x]) : Ao t = ((Ao g).1, (Ao g).2 ++ [x]) := by
 have hsz := Lm.size_sub (t := t) (a := g) (by rw [hs]; simp)
 have hp := Lm.size_pos g
 obtain ⟨f, hf⟩ : ∃ f, t.size = f + 1 := ⟨t.size - 1, by omega⟩
 unfold Ao
 rw [hf, D2, if_pos hk, hs]
 show D2 f g [x] = _
 rw [IH (f := f) (f' := g.size) g [x] (by omega) (Nat.le_refl _), HK g.size g [x]]
theorem FU {t : Lm} (hk : ¬ t.kind = 3) : Ao t = (t, []) := by
 have hp := Lm.size_pos t
 obtain ⟨f, hf⟩ : ∃ f, t.size = f + 1 := ⟨t.size - 1, by omega⟩
 unfold Ao
 rw [hf, D2, if_neg hk]
theorem Fh (t : Lm) (hw : t.wf) (hz : t.size ≤ 1000) : Aa Tryd.prog 36 [aLm t] (.tup [aLm (Ao t).1, A1 (Ao t).2]) := by
 refine FQ.ac fun C hC => ?_
 unfold C1
 repeat' with_reducible first | refine W ?_ | refine Z0 ?_ | ((first | refine Wo fun K hK => ?_ | refine Wp ?_ | refine Wq ?_ | refine Wr ?_); (try simp only [go_sem, fN, seval, eT, iR, dT, dF, nL]); (repeat refine Ai ?_); (try (refine hK _ ?_; clear hK K)); try refine iC ?_)
 refine IWP.ghost (As.ownM 4 40 24 3 rfl rfl (by omega)) ?_
 refine IWP.loop (fun q s => ∃ u w, q = u.size ∧ u.wf ∧ u.size + w.length ≤ t.size ∧ (Ao t) = ((Ao u).1, (Ao u).2 ++ w.reverse) ∧ s.env 1 = .one (.ptr 1 1 0 0) ∧ s.env 2 = .one (.ptr 2 1 0 0) ∧ s.env 4 = .one (.row 40 w.length) ∧ s.S 1 = some (Bc u) ∧ s.S 2 = some (.box 24 [.st (.int .i64 0), .st (.int .i64 0), .full []]) ∧ s.S 40 = some (.mrow 24 3 (w.map Ac))) t.size
  ⟨t, [], rfl, hw, by simp, by simp, rfl, rfl, rfl, rfl, rfl, rfl⟩ ?_
 rintro q ⟨env, S⟩ ⟨u, w, rfl, hu, hwl, hsp, e1, e2, e4, s1, s2, s40⟩
 simp only at e1 e2 e4 s1 s2 s40
 have hwm : (w.map Ac).length = w.length := List.length_map _
 have hwe : ∀ x ∈ w.map Ac, x.length = 3 := fun x hx => by
  obtain ⟨y, _, rfl⟩ := List.mem_map.1 hx
  rw [AB]
  rfl
 have hpu := Lm.size_pos u
 by_cases hk : u.kind = 3
 ·obtain ⟨h1, h2⟩ := (Lm.wf_eq u).1 hu
  have hn : BX u.kind = 2 := by unfold BX; rw [if_neg (by omega), if_pos hk]
  rw [hn] at h1
  match hs : u.subs, h1.2.2 with
  | [g, x], _ =>
   have hg := Lm.size_sub (t := u) (a := g) (by rw [hs]; simp)
   have hgx : g.size + x.size < u.size := by
    have := Lm.size_eq u
    rw [hs] at this
    simp only [Lm.sizes] at this
    omega
   have hpx := Lm.size_pos x
   have hap := HY hk hs
   repeat' with_reducible first | refine W ?_ | refine Z0 ?_ | ((first | refine Wo fun K hK => ?_ | refine Wp ?_ | refine Wq ?_ | refine Wr ?_); (try simp only [go_sem, fN, seval, eT, iR, e1, e2, e4, s1, s2, s40, hk, hs, hwm, AB, dT, dF, nL]); (repeat refine Ai ?_); (try (refine hK _ ?_; clear hK K)); try refine iC ?_)
   refine AH ⟨g.size, by omega, g, w ++ [x], rfl, Lm.wf_sub hu (by rw [hs]; simp), by simp; omega, ?_, e1, e2, ?_, ?_, s2, ?_⟩
   ·rw [hsp, hap]
    simp
   ·simp only [go_sem, fN, seval, eT, iR]
   ·simp only [go_sem, fN, seval, eT, iR]
   ·rw [List.map_append]
    simp only [go_sem, fN, seval, eT, iR, AB]
  | [], h => simp at h
  | [_], h => simp at h
  | _ :: _ :: _ :: _, h => simp at h; omega
 ·have hend := FU hk
  rw [hend] at hsp
  have hwr : (w.reverse.map Ac).length = w.length := by simp
  rw [hsp]
  simp only [List.nil_append]
  repeat' with_reducible first | refine W ?_ | refine Z0 ?_ | ((first | refine Wo fun K hK => ?_ | refine Wp ?_ | refine Wq ?_ | refine Wr ?_); (try simp only [go_sem, fN, seval, eT, iR, e1, e2, e4, s1, s2, s40, hk, dT, dF, nL]); (repeat refine Ai ?_); (try (refine hK _ ?_; clear hK K)); try refine iC ?_)
  refine ⟨.tup [], [(40, .mrow 24 3 (w.map Ac), .mrow 24 3 (w.reverse.map Ac))], KE s40, fun T hT => ?_, ?_⟩
  ·show Ag _ _ _ _ _ (upS (AO T 40 (some _)))
   rw [C7]
   have h := MO (upS T) (up1 40) (w.map Ac) (BE _) hwe (by omega) (by rw [A_, Lg hT]; rfl)
   rw [hwm, ← List.map_reverse] at h
   exact h
  generalize w.reverse = v at *
  (try simp only [go_sem, fN, seval, eT, iR, e1, e2, e4, s1, s2, s40, dT, dF, nL])
  refine hK _ ?_
  clear hK K
  refine IWP.ghost (As.share (id := 40) (e := 24) (wd := 3) (xs := v.map Ac) (by simp only [go_sem, fN, seval, eT, iR])) ?_
  repeat' with_reducible first | refine W ?_ | refine Z0 ?_ | ((first | refine Wo fun K hK => ?_ | refine Wp ?_ | refine Wq ?_ | refine Wr ?_); (try simp only [go_sem, fN, seval, eT, iR, e1, e2, e4, s1, s2, s40, dT, dF, nL]); (repeat refine Ai ?_); (try (refine hK _ ?_; clear hK K)); try refine iC ?_)
  simp only [go_sem, fN, seval, AY, AS.result, AD, AE, AM, e2, hwr]
theorem OL (t : Lm) (hw : t.wf) (hg : t.good 1000000000) (hz : t.size ≤ 100000) : Aa Tryd.prog 35 [aLm t] (aLm (EN t)) := by
 refine Gd.ac fun C hC => ?_
 unfold Dp
 by_cases hk : t.kind = 2
 ·obtain ⟨h1, h2⟩ := (Lm.wf_eq t).1 hw
  have hn : BX t.kind = 1 := by unfold BX; rw [if_pos hk]
  rw [hn] at h1
  match hs : t.subs, h1.2.2 with
  | [b], _ =>
   have ho : EN t = b := by unfold EN; rw [if_pos hk, hs]; rfl
   rw [ho]
   repeat' with_reducible first | refine W ?_ | refine Z0 ?_ | ((first | refine Wo fun K hK => ?_ | refine Wp ?_ | refine Wq ?_ | refine Wr ?_); (try simp only [go_sem, fN, seval, eT, iR, hk, hs, AB, dT, dF, nL]); (repeat refine Ai ?_); (try (refine hK _ ?_; clear hK K)); try refine iC ?_)
   simp only [go_sem, fN, seval, AY, AS.result, AD, AE, AM]
  | [], h => simp at h
  | _ :: _ :: _, h => simp at h; omega
 ·have ho : EN t = Lm.a (Lm.mv 1 0 t) (Lm.v 0) := by unfold EN; rw [if_neg hk]
  rw [ho]
  have h1 := Gq t 1 0 hg (by decide) (by decide) (by omega)
  have h2 := PZ (Lm.mv 1 0 t) (Lm.v 0)
  have h3 := K8 0
  generalize Lm.mv 1 0 t = u at *
  generalize Lm.a u (Lm.v 0) = z at *
  repeat' (first | (with_reducible first | refine W ?_ | refine Z0 ?_ | ((first | refine Wo fun K hK => ?_ | refine Wp ?_ | refine Wq ?_ | refine Wr ?_); (try simp only [go_sem, fN, seval, eT, iR, hk, dT, dF, nL]); (repeat refine Ai ?_); (try (refine hK _ ?_; clear hK K)); try refine iC ?_)) | refine Cg _ (h1) ?_ | refine Cg _ (h3) ?_ | refine Cg _ (h2) ?_)
  simp only [go_sem, fN, seval, AY, AS.result, AD, AE, AM]

set_option maxHeartbeats 4000000
theorem AZ {b c : Nat} (hb : 1000 ≤ b) (hc : c < 1000) : (b = c) = False := eq_false (by omega)
theorem BM {b c : Nat} (hb : 1000 ≤ b) (hc : c < 1000) : (c = b) = False := eq_false (by omega)
theorem GA {b c : Nat} (hb : 1000 ≤ b) (hc : c < 1000) : (b == c) = false := by simp; omega
theorem CT {s : AS} {S : AA} {ds : List Nat} {j : Nat} (hS : A7 S) (hd : ∀ d ∈ ds, d < 1000) (hj : 1000 ≤ j) (h : s.S j = S j) : (s.drop ds).S j = S j := by
 have hn : ds.contains j = false := by
  cases hc : ds.contains j with
  | false => rfl
  | true =>
   have := hd j (by simpa using hc)
   omega
 show (if _ then none else (s.S j).map _) = S j
 rw [hn, if_neg (by simp), h]
 cases hb : S j with
 | none => rfl
 | some b => rw [Option.map_some, AI.purge_high hd (hS j b hb).2]
theorem Js {P : Lm → Prop} (hP : ∀ t a, P t → a ∈ t.subs → P a) : ∀ (f : Nat) (t : Lm) (acc : List Lm), P t → (∀ x ∈ acc, P x) → P (D2 f t acc).1 ∧ ∀ x ∈ (D2 f t acc).2, P x
 | 0, t, acc, h, ha => ⟨h, ha⟩
 | f + 1, t, acc, h, ha => by
  unfold D2
  split
  ·split
   ·rename_i g x hs
    exact Js hP f g (x :: acc) (hP t g h (by rw [hs]; simp)) (fun y hy => by
     rcases List.mem_cons.1 hy with rfl | hy
     ·exact hP t _ h (by rw [hs]; simp)
     ·exact ha y hy)
   ·exact ⟨h, ha⟩
  ·exact ⟨h, ha⟩
theorem Ct {P : Lm → Prop} (hP : ∀ t a, P t → a ∈ t.subs → P a) {t : Lm} (h : P t) : P (Ao t).1 ∧ ∀ x ∈ (Ao t).2, P x := Js hP _ t [] h (by simp)
theorem DR : ∀ (f : Nat) (t : Lm) (acc : List Lm), (D2 f t acc).1.size + (D2 f t acc).2.length ≤ t.size + acc.length
 | 0, t, acc => Nat.le_refl _
 | f + 1, t, acc => by
  unfold D2
  split
  ·split
   ·rename_i g x hs
    have h1 := DR f g (x :: acc)
    have h2 := Lm.size_sub (t := t) (a := g) (by rw [hs]; simp)
    simp only [List.length_cons] at h1
    omega
   ·exact Nat.le_refl _
  ·exact Nat.le_refl _
abbrev Ap (KB n : Nat) : AI := .box 47 [.row KB n]
abbrev Aj (Kn : List Lm) : AI := .mrow 24 3 (Kn.map Ac)
def Cx (S : AA) (G KB : Nat) (Kn : List Lm) : AA := AO (AO S G (some (Ap KB Kn.length))) KB (some (Aj Kn))
theorem Gn {S : AA} {G KB : Nat} {Kn : List Lm} (h : G ≠ KB) : Cx S G KB Kn G = some (Ap KB Kn.length) := by unfold Cx; rw [AU _ h, AG]
theorem Gj {S : AA} {G KB : Nat} {Kn : List Lm} : Cx S G KB Kn KB = some (Aj Kn) := AG _ _ _
theorem EE {S : AA} {G KB i : Nat} {Kn : List Lm} (h1 : i ≠ G) (h2 : i ≠ KB) : Cx S G KB Kn i = S i := by unfold Cx; rw [AU _ h2, AU _ h1]
theorem A4 {S : AA} {G KB : Nat} {Kn : List Lm} (hS : A7 S) (hG : 1000 ≤ G) (hK : 1000 ≤ KB) : A7 (Cx S G KB Kn) :=
 BK (BK hS hG (by show AC.highs [.row KB Kn.length] = true; rw [AC.highs, Hb hK]; rfl)) hK rfl
theorem GM {S : AA} {G KB : Nat} {Kn Kn' : List Lm} (h : G ≠ KB) : Cx (Cx S G KB Kn) G KB Kn' = Cx S G KB Kn' := by
 funext i
 by_cases e1 : i = KB
 ·subst e1; rw [Gj, Gj]
 ·by_cases e2 : i = G
  ·subst e2; rw [Gn h, Gn h]
  ·rw [EE e2 e1, EE e2 e1, EE e2 e1]
theorem E7 {S : AA} {G KB : Nat} {Kn : List Lm} (sG : S G = some (Ap KB Kn.length)) (sK : S KB = some (Aj Kn)) : Cx S G KB Kn = S := by
 funext i
 unfold Cx AO
 split
 ·rename_i h; rw [h, sK]
 ·split
  ·rename_i h; rw [h, sG]
  ·rfl
theorem O5 {P : Program} {f : FuncId} {xs : List AV} {S S' : AA} {r : AV} (h : Ag P f xs S r S') : Gu P f xs S (fun r' S'' => r' = r ∧ S'' = S') := fun hclean σ w vs ι h1 h2 h3 h4 => (h hclean σ w vs ι h1 h2 h3 h4).mono fun e w' ⟨v, σ', ι', q1, q2, q3⟩ => ⟨v, r, S', σ', ι', q1, ⟨rfl, rfl⟩, q2, q3⟩
theorem CI {P : Program} {f : FuncId} {S T T' : AA} {us vs : List AV} {r : AV} {d : Option Nat} {l : List Ins} {env : Nat → AV} {Q : AS → Prop} (hv : us = vs) (hh : AV.highs vs = true) (hT : A7 T) (hST : ∀ i, 1000 ≤ i → S i = T i) (hc : Ag P f vs T r T') (h : Run P l ((⟨env, BI S T'⟩ : AS).put d r) Q) :
  Ix P S (AV.highs us) (Gu P f us) d l env Q := by
 subst hv
 refine Ix.mk T _ hT hST hh (O5 hc) ?_
 rintro r' S' hcl ⟨rfl, rfl⟩
 exact h
abbrev BN (S : AA) (Kn : List Lm) : AA := Cx S 2023 2021 Kn
theorem FT {S : AA} {Kn : List Lm} : BN S Kn 2023 = some (Ap 2021 Kn.length) := Gn (by decide)
theorem Fi {S : AA} {Kn : List Lm} : BN S Kn 2021 = some (Aj Kn) := Gj
theorem DP {S : AA} {i : Nat} {Kn : List Lm} (h1 : i ≠ 2023) (h2 : i ≠ 2021) : BN S Kn i = S i := EE h1 h2
theorem Ps (S : AA) (G KB : Nat) (hG : 1000 ≤ G) (hKB : 1000 ≤ KB) (Kn : List Lm) (sG : S G = some (Ap KB Kn.length)) (sK : S KB = some (Aj Kn)) (f : Nat) (t u : Lm) (hu : EI f Kn t = some u) :
  Ag Tryd.prog 34 [.one (.ptr G 1 0 0), aLm t] S (aLm u) S := by
 refine CP.acS fun hS C hC => ?_
 unfold Bd
 have n3 := AR hS (i := 3) (by omega)
 have n4 := AR hS (i := 4) (by omega)
 have n5 := AR hS (i := 5) (by omega)
 have hKl : (Kn.map Ac).length = Kn.length := List.length_map _
 repeat' with_reducible first | refine W ?_ | refine Z0 ?_ | ((first | refine Wo fun K hK => ?_ | refine Wp ?_ | refine Wq ?_ | refine Wr ?_); (try simp only [go_sem, fN, seval, eT, iR, AS.startS, n3, n4, BM, AZ, hG, hKB, dT, dF, nL]); (repeat refine Ai ?_); (try (refine hK _ ?_; clear hK K)); try refine iC ?_)
 refine IWP.loopD [5] (fun q s => ∃ f t, q = f ∧ EI f Kn t = some u ∧ s.env 0 = .one (.ptr G 1 0 0) ∧ s.env 3 = .one (.ptr 3 1 0 0) ∧ s.env 4 = .one (.ptr 4 1 0 0) ∧ s.S 3 = some (Bc t) ∧ s.S 4 = some (.box 24 [.st (.int .i64 0), .st (.int .i64 0), .full []]) ∧ s.S 5 = none ∧ ∀ j, 1000 ≤ j → s.S j = S j) f
  ⟨f, t, rfl, hu, rfl, rfl, rfl, by simp only [go_sem, fN, seval, eT, iR], by simp only [go_sem, fN, seval, eT, iR], by simp only [go_sem, fN, seval, eT, iR, n5], fun j hj => by simp only [go_sem, fN, seval, eT, iR, AZ, hj]⟩ ?_
 clear hu t f
 rintro f ⟨env, S1⟩ ⟨_, t, rfl, hu, e0, e3, e4, s3, s4, s5, hS1⟩
 simp only at e0 e3 e4 s3 s4 s5 hS1
 have hG1 := (hS1 G hG).trans sG
 have hK1 := (hS1 KB hKB).trans sK
 cases f with
 | zero => simp [EI] at hu
 | succ f =>
  unfold EI at hu
  split at hu
  ·simp at hu
  rename_i hok
  have hok : okL t = true := by simpa using hok
  obtain ⟨hgd, hsz⟩ := Cd hok
  have hwf := Hi hok
  have hsp := Fh t hwf hsz
  have hPw := Ct (P := Lm.wf) (fun t a h ha => Lm.wf_sub h ha) hwf
  have hPg := Ct (P := Lm.good 1000000000) (fun t a h ha => Lm.good_sub h ha) hgd
  have hln : (Ao t).1.size + (Ao t).2.length ≤ t.size + ([] : List Lm).length := DR t.size t []
  generalize Ao t = p at *
  obtain ⟨h, w⟩ := p
  simp only [List.length_nil] at hu hPw hPg hsp hln
  obtain ⟨i, hi⟩ : ∃ i : Nat, h.idx = (i : Int) := ⟨h.idx.toNat, by have := ((Lm.good_eq _ h).1 hPg.1).2.1; omega⟩
  rw [hi, Int.toNat_natCast] at hu
  by_cases hk5 : h.kind = 5
  ·rw [if_pos hk5] at hu
   match hk : Kn[i]?, hu with
   | some k, hu =>
    have hil : i < Kn.length := (List.getElem?_eq_some_iff.1 hk).1
    by_cases hk0 : k.kind = 0
    ·simp only [hk0, if_true, Option.some.injEq] at hu
     subst hu
     repeat' (first | (with_reducible first | refine W ?_ | refine Z0 ?_ | ((first | refine Wo fun K hK => ?_ | refine Wp ?_ | refine Wq ?_ | refine Wr ?_); (try simp only [go_sem, fN, seval, eT, iR, e0, e3, e4, s3, s4, s5, hG1, hK1, hG, hKB, AZ, BM, hk5, hi, hk, hk0, hil, hKl, AB, dT, dF, nL]); (repeat refine Ai ?_); (try (refine hK _ ?_; clear hK K)); try refine iC ?_)) | refine Cg _ (hsp) ?_)
     refine Ab (aLm t) hS trivial ?_ rfl fun j hj => ?_
     ·simp only [go_sem, fN, seval, eT, iR, AD, AE, AM, e4]
     ·have hj2 := hS1 j hj
      simp only [go_sem, fN, seval, eT, iR, AZ, hj, hj2]
    ·simp only [hk0, if_false] at hu
     repeat' (first | (with_reducible first | refine W ?_ | refine Z0 ?_ | ((first | refine Wo fun K hK => ?_ | refine Wp ?_ | refine Wq ?_ | refine Wr ?_); (try simp only [go_sem, fN, seval, eT, iR, e0, e3, e4, s3, s4, s5, hG1, hK1, hG, hKB, AZ, BM, hk5, hi, hk, hk0, hil, hKl, AB, dT, dF, nL]); (repeat refine Ai ?_); (try (refine hK _ ?_; clear hK K)); try refine iC ?_)) | refine Cg _ (hsp) ?_ | refine Cg _ (HM k w) ?_)
     refine AH ⟨f, by omega, f, (DU k w), rfl, hu, ?_, ?_, ?_, ?_, ?_, ?_, fun j hj => CT hS (by decide) hj ?_⟩
     ·simp only [go_sem, fN, seval, AS.drop, AN, AC.clears, AC.clear, AC.highs, AC.high, Bool.not_false, Bool.true_and, Bool.and_self, AV.purge, AV.purges, AC.purge, AI.purge, List.contains_cons, List.contains_nil, Nat.reduceBEq, Bool.or_self, Bool.or_false, Bool.false_or, Bool.or_true, eT, iR, e0, GA, hG]
     ·simp only [go_sem, fN, seval, AS.drop, AN, AC.clears, AC.clear, AC.highs, AC.high, Bool.not_false, Bool.true_and, Bool.and_self, AV.purge, AV.purges, AC.purge, AI.purge, List.contains_cons, List.contains_nil, Nat.reduceBEq, Bool.or_self, Bool.or_false, Bool.false_or, Bool.or_true, eT, iR, e3]
     ·simp only [go_sem, fN, seval, AS.drop, AN, AC.clears, AC.clear, AC.highs, AC.high, Bool.not_false, Bool.true_and, Bool.and_self, AV.purge, AV.purges, AC.purge, AI.purge, List.contains_cons, List.contains_nil, Nat.reduceBEq, Bool.or_self, Bool.or_false, Bool.false_or, Bool.or_true, eT, iR, e4]
     ·simp only [go_sem, fN, seval, AS.drop, AN, AC.clears, AC.clear, AC.highs, AC.high, Bool.not_false, Bool.true_and, Bool.and_self, AV.purge, AV.purges, AC.purge, AI.purge, List.contains_cons, List.contains_nil, Nat.reduceBEq, Bool.or_self, Bool.or_false, Bool.false_or, Bool.or_true, eT, iR, s3]
     ·simp only [go_sem, fN, seval, AS.drop, AN, AC.clears, AC.clear, AC.highs, AC.high, Bool.not_false, Bool.true_and, Bool.and_self, AV.purge, AV.purges, AC.purge, AI.purge, List.contains_cons, List.contains_nil, Nat.reduceBEq, Bool.or_self, Bool.or_false, Bool.false_or, Bool.or_true, eT, iR, s4]
     ·simp only [go_sem, fN, seval, AS.drop, AN, AC.clears, AC.clear, AC.highs, AC.high, Bool.not_false, Bool.true_and, Bool.and_self, AV.purge, AV.purges, AC.purge, AI.purge, List.contains_cons, List.contains_nil, Nat.reduceBEq, Bool.or_self, Bool.or_false, Bool.false_or, Bool.or_true, eT, iR, s5]
     ·have hj2 := hS1 j hj
      simp only [go_sem, fN, seval, eT, iR, AZ, hj, hj2]
  ·rw [if_neg hk5] at hu
   by_cases hk2 : h.kind = 2
   ·rw [if_pos hk2] at hu
    match w, hu with
    | [], hu =>
     simp only [Option.some.injEq] at hu
     subst hu
     repeat' (first | (with_reducible first | refine W ?_ | refine Z0 ?_ | ((first | refine Wo fun K hK => ?_ | refine Wp ?_ | refine Wq ?_ | refine Wr ?_); (try simp only [go_sem, fN, seval, eT, iR, e0, e3, e4, s3, s4, s5, hk5, hk2, AB, dT, dF, nL]); (repeat refine Ai ?_); (try (refine hK _ ?_; clear hK K)); try refine iC ?_)) | refine Cg _ (hsp) ?_)
     refine Ab (aLm t) hS trivial ?_ rfl fun j hj => ?_
     ·simp only [go_sem, fN, seval, eT, iR, AD, AE, AM, e4]
     ·have hj2 := hS1 j hj
      simp only [go_sem, fN, seval, eT, iR, AZ, hj, hj2]
    | x :: w, hu =>
     match hsb : h.subs, hu with
     | [b], hu =>
      simp only at hu
      split at hu
      ·rename_i hob
       have htl : List.take w.length (List.map Ac w) = List.map Ac w := List.take_of_length_le (by simp)
       have hpos : (0 : Int) < ((w.length + 1 : Nat) : Int) := by omega
       obtain ⟨hb1, hb2⟩ := Cd hob.1
       obtain ⟨hx1, hx2⟩ := Cd hob.2
       repeat' (first | (with_reducible first | refine W ?_ | refine Z0 ?_ | ((first | refine Wo fun K hK => ?_ | refine Wp ?_ | refine Wq ?_ | refine Wr ?_); (try simp only [go_sem, fN, seval, eT, iR, e0, e3, e4, s3, s4, s5, hk5, hk2, hsb, hpos, htl, AB, dT, dF, nL]); (repeat refine Ai ?_); (try (refine hK _ ?_; clear hK K)); try refine iC ?_)) | refine Cg _ (hsp) ?_ | refine Cg _ (Lt b x hb1 hx1 (by omega) (by omega)) ?_ | refine Cg _ (HM (Lm.put x 0 b) w) ?_)
       refine AH ⟨f, by omega, f, (DU (Lm.put x 0 b) w), rfl, hu, ?_, ?_, ?_, ?_, ?_, ?_, fun j hj => CT hS (by decide) hj ?_⟩
       ·simp only [go_sem, fN, seval, AS.drop, AN, AC.clears, AC.clear, AC.highs, AC.high, Bool.not_false, Bool.true_and, Bool.and_self, AV.purge, AV.purges, AC.purge, AI.purge, List.contains_cons, List.contains_nil, Nat.reduceBEq, Bool.or_self, Bool.or_false, Bool.false_or, Bool.or_true, eT, iR, e0, GA, hG]
       ·simp only [go_sem, fN, seval, AS.drop, AN, AC.clears, AC.clear, AC.highs, AC.high, Bool.not_false, Bool.true_and, Bool.and_self, AV.purge, AV.purges, AC.purge, AI.purge, List.contains_cons, List.contains_nil, Nat.reduceBEq, Bool.or_self, Bool.or_false, Bool.false_or, Bool.or_true, eT, iR, e3]
       ·simp only [go_sem, fN, seval, AS.drop, AN, AC.clears, AC.clear, AC.highs, AC.high, Bool.not_false, Bool.true_and, Bool.and_self, AV.purge, AV.purges, AC.purge, AI.purge, List.contains_cons, List.contains_nil, Nat.reduceBEq, Bool.or_self, Bool.or_false, Bool.false_or, Bool.or_true, eT, iR, e4]
       ·simp only [go_sem, fN, seval, AS.drop, AN, AC.clears, AC.clear, AC.highs, AC.high, Bool.not_false, Bool.true_and, Bool.and_self, AV.purge, AV.purges, AC.purge, AI.purge, List.contains_cons, List.contains_nil, Nat.reduceBEq, Bool.or_self, Bool.or_false, Bool.false_or, Bool.or_true, eT, iR, s3]
       ·simp only [go_sem, fN, seval, AS.drop, AN, AC.clears, AC.clear, AC.highs, AC.high, Bool.not_false, Bool.true_and, Bool.and_self, AV.purge, AV.purges, AC.purge, AI.purge, List.contains_cons, List.contains_nil, Nat.reduceBEq, Bool.or_self, Bool.or_false, Bool.false_or, Bool.or_true, eT, iR, s4]
       ·simp only [go_sem, fN, seval, AS.drop, AN, AC.clears, AC.clear, AC.highs, AC.high, Bool.not_false, Bool.true_and, Bool.and_self, AV.purge, AV.purges, AC.purge, AI.purge, List.contains_cons, List.contains_nil, Nat.reduceBEq, Bool.or_self, Bool.or_false, Bool.false_or, Bool.or_true, eT, iR, s5]
       ·have hj2 := hS1 j hj
        simp only [go_sem, fN, seval, eT, iR, AZ, hj, hj2]
      ·cases hu
   ·rw [if_neg hk2] at hu
    simp only [Option.some.injEq] at hu
    subst hu
    repeat' (first | (with_reducible first | refine W ?_ | refine Z0 ?_ | ((first | refine Wo fun K hK => ?_ | refine Wp ?_ | refine Wq ?_ | refine Wr ?_); (try simp only [go_sem, fN, seval, eT, iR, e0, e3, e4, s3, s4, s5, hk5, hk2, AB, dT, dF, nL]); (repeat refine Ai ?_); (try (refine hK _ ?_; clear hK K)); try refine iC ?_)) | refine Cg _ (hsp) ?_)
    refine Ab (aLm t) hS trivial ?_ rfl fun j hj => ?_
    ·simp only [go_sem, fN, seval, eT, iR, AD, AE, AM, e4]
    ·have hj2 := hS1 j hj
     simp only [go_sem, fN, seval, eT, iR, AZ, hj, hj2]
theorem Kh : Ac Lm.nil = [.int .i64 0, .int .i64 0, .list []] := rfl
theorem LY (S : AA) (Kn : List Lm) (sG : S 2023 = some (Ap 2021 Kn.length)) (sK : S 2021 = some (Aj Kn)) (hl : Kn.length ≤ 1000) :
  Ag Tryd.prog 60 [.one (.ptr 2023 1 0 0)] S (aLm (mU Kn.length)) (BN S (Kn ++ [Lm.nil])) := by
 refine B9.acS fun hS C hC => ?_
 unfold BU
 have n2 := AR hS (i := 2) (by omega)
 have hKl : (Kn.map Ac).length = Kn.length := List.length_map _
 have hm := Pl Kn.length
 have hg1 : (Kn.map Ac ++ [[.int .i64 0, .int .i64 0, .list []]])[Kn.length]? = some [.int .i64 0, .int .i64 0, .list []] := by rw [← hKl]; exact List.getElem?_concat_length
 have hg2 : (Kn.map Ac ++ [[SV.int .i64 0, .int .i64 0, .list []]]).set Kn.length [.int .i64 0, .int .i64 0, .list []] = Kn.map Ac ++ [[.int .i64 0, .int .i64 0, .list []]] := by rw [← hKl]; simp
 have hsub : ((Kn.length + 1 : Nat) : Int) - 1 = Kn.length := by omega
 generalize hu : mU Kn.length = u at *
 repeat' (first | (with_reducible first | refine W ?_ | refine Z0 ?_ | ((first | refine Wo fun K hK => ?_ | refine Wp ?_ | refine Wq ?_ | refine Wr ?_); (try simp only [go_sem, fN, seval, eT, iR, AS.startS, n2, sG, sK, hKl, hg1, hg2, hsub, dT, dF, nL]); (repeat refine Ai ?_); (try (refine hK _ ?_; clear hK K)); try refine iC ?_)) | refine Cg _ (hm) ?_)
 refine Ab (aLm u) (A4 (G := 2023) (KB := 2021) hS (by decide) (by decide)) trivial ?_ rfl fun j hj => ?_
 ·simp only [go_sem, fN, seval, eT, iR, AD, AE, AM]
 ·unfold BN Cx AO
  simp only [go_sem, fN, seval, eT, iR, AZ, hj]
  by_cases h1 : j = 2021 <;> by_cases h2 : j = 2023 <;> simp [h1, h2, Aj, Ap, Kh]
theorem Em : ∀ {x y : List Lm} {k : Nat} {a b : Lm} (i : Int), x[k]? = some a → y[k]? = some b → A3 i (x.take (k + 1)) (y.take (k + 1)) = A3 i (x.take k) (y.take k) ++ (if a.idx = b.idx then [i + k] else [])
 | [], _, _, _, _, _, h, _ => by simp at h
 | _ :: _, [], _, _, _, _, _, h => by simp at h
 | x :: xs, y :: ys, 0, a, b, i, h1, h2 => by
  simp only [List.getElem?_cons_zero, Option.some.injEq] at h1 h2
  subst h1; subst h2
  simp [A3]
 | x :: xs, y :: ys, k + 1, a, b, i, h1, h2 => by
  rw [List.getElem?_cons_succ] at h1 h2
  have ih := Em (i + 1) h1 h2
  have e : i + 1 + (k : Int) = i + ((k + 1 : Nat) : Int) := by omega
  rw [e] at ih
  rw [List.take_succ_cons, List.take_succ_cons, List.take_succ_cons, List.take_succ_cons, A3, A3, ih]
  split <;> simp
theorem FX : ∀ {x y : List Lm} {i j : Int}, j ∈ A3 i x y → i ≤ j ∧ j < i + x.length
 | [], _, _, _, h => by simp [A3] at h
 | _ :: _, [], _, _, h => by simp [A3] at h
 | x :: xs, y :: ys, i, j, h => by
  unfold A3 at h
  have ih := @FX xs ys (i + 1) j
  simp only [List.length_cons]
  split at h
  ·rcases List.mem_cons.1 h with rfl | h
   ·omega
   ·have := ih h; omega
  ·have := ih h; omega
theorem Dm : ∀ (x y : List Lm) (i : Int), (A3 i x y).length ≤ x.length
 | [], _, _ => by simp [A3]
 | _ :: _, [], _ => by simp [A3]
 | x :: xs, y :: ys, i => by
  unfold A3
  have ih := Dm xs ys (i + 1)
  split <;> simp only [List.length_cons] <;> omega
theorem PJ (S : AA) (Kn Kn' : List Lm) (b : Bool) (m : Int) (x y : List Lm) (hm : L7 Kn m x y = some (Kn', b)) (sG : S 2023 = some (Ap 2021 Kn.length)) (sK : S 2021 = some (Aj Kn)) :
  Ag Tryd.prog 37 [.one (.ptr 2023 1 0 0), AK m, A1 x, A1 y] S (An b) (BN S Kn') := by
 refine CK.acS fun hS C hC => ?_
 unfold BW
 unfold L7 at hm
 split at hm
 ·cases hm
 rename_i hb
 simp only [Decidable.not_not] at hb
 obtain ⟨hm0, hmK, hx1, hK1⟩ := hb
 obtain ⟨i, rfl⟩ : ∃ i : Nat, m = (i : Int) := ⟨m.toNat, by omega⟩
 rw [Int.toNat_natCast] at hmK
 have hKl : (Kn.map Ac).length = Kn.length := List.length_map _
 have hxl : (x.map Ac).length = x.length := List.length_map _
 have hyl : (y.map Ac).length = y.length := List.length_map _
 have n11 := AR hS (i := 11) (by omega)
 have n90 := AR hS (i := 90) (by omega)
 have hself : BN S Kn = S := E7 sG sK
 split at hm
 ·rename_i hne
  cases hm
  have hne' : ¬ ((x.length : Nat) : Int) = y.length := by omega
  rw [hself]
  repeat' with_reducible first | refine W ?_ | refine Z0 ?_ | ((first | refine Wo fun K hK => ?_ | refine Wp ?_ | refine Wq ?_ | refine Wr ?_); (try simp only [go_sem, fN, seval, eT, iR, AS.startS, hne', dT, dF, nL]); (repeat refine Ai ?_); (try (refine hK _ ?_; clear hK K)); try refine iC ?_)
  refine Ab (An false) hS trivial ?_ rfl fun j hj => ?_
  ·simp only [go_sem, fN, seval, eT, iR, AD, AE, AM]
  ·rfl
 rename_i heq
 simp only [Decidable.not_not] at heq
 have heq' : ((y.length : Nat) : Int) = x.length := by omega
 repeat' with_reducible first | refine W ?_ | refine Z0 ?_ | ((first | refine Wo fun K hK => ?_ | refine Wp ?_ | refine Wq ?_ | refine Wr ?_); (try simp only [go_sem, fN, seval, eT, iR, AS.startS, heq', dT, dF, nL]); (repeat refine Ai ?_); (try (refine hK _ ?_; clear hK K)); try refine iC ?_)
 refine IWP.ghost (As.own 9 90 3 1 (xs := ([] : List (List SV))) rfl (by simp only [go_sem, fN, seval, eT, iR, n90]) (by simp) (by omega)) ?_
 refine IWP.loop (fun q s => ∃ k, k ≤ x.length ∧ q = x.length - k ∧ s.env 0 = .one (.ptr 2023 1 0 0) ∧ s.env 1 = AK i ∧ s.env 2 = A1 x ∧ s.env 3 = A1 y ∧ s.env 9 = .one (.row 90 (A3 0 (x.take k) (y.take k)).length) ∧ s.env 18 = AK x.length ∧ s.env 19 = AK k ∧ s.S 11 = none ∧ s.S 90 = some (.arow 3 1 ((A3 0 (x.take k) (y.take k)).map B1)) ∧ ∀ j, 1000 ≤ j → s.S j = S j) x.length
  ⟨0, Nat.zero_le _, rfl, rfl, rfl, rfl, rfl, rfl, rfl, rfl, by simp only [go_sem, fN, seval, eT, iR, n11], by simp only [go_sem, fN, seval, eT, iR]; rfl, fun j hj => by simp only [go_sem, fN, seval, eT, iR, AZ, hj]⟩ ?_
 rintro q ⟨env, S1⟩ ⟨k, hk, rfl, e0, e1, e2, e3, e9, e18, e19, s11, s90, hS1⟩
 simp only at e0 e1 e2 e3 e9 e18 e19 s11 s90 hS1
 by_cases hlt : (k : Int) < x.length
 ·obtain ⟨a, ha⟩ := Ak (show k < x.length by omega)
  obtain ⟨b', hb'⟩ := Ak (show k < y.length by omega)
  have hsn := Em 0 ha hb'
  have hsl := Dm (x.take k) (y.take k) 0
  rw [List.length_take] at hsl
  generalize hL : A3 0 (x.take k) (y.take k) = L at *
  have hLl : (L.map B1).length = L.length := List.length_map _
  by_cases hab : a.idx = b'.idx
  ·rw [if_pos hab, Int.zero_add] at hsn
   repeat' with_reducible first | refine W ?_ | refine Z0 ?_ | ((first | refine Wo fun K hK => ?_ | refine Wp ?_ | refine Wq ?_ | refine Wr ?_); (try simp only [go_sem, fN, seval, eT, iR, e0, e1, e2, e3, e9, e18, e19, s11, s90, hlt, ha, hb', hab, hLl, AB, dT, dF, nL]); (repeat refine Ai ?_); (try (refine hK _ ?_; clear hK K)); try refine iC ?_)
   refine AH ⟨x.length - (k + 1), by omega, k + 1, by omega, rfl, e0, e1, e2, e3, ?_, e18, rfl, s11, ?_, fun j hj => ?_⟩
   ·rw [hsn]
    simp only [go_sem, fN, seval, eT, iR]
   ·rw [hsn, List.map_append]
    simp only [go_sem, fN, seval, eT, iR, B1]
   ·have hj2 := hS1 j hj
    simp only [go_sem, fN, seval, eT, iR, AZ, hj, hj2]
  ·rw [if_neg hab, List.append_nil] at hsn
   repeat' with_reducible first | refine W ?_ | refine Z0 ?_ | ((first | refine Wo fun K hK => ?_ | refine Wp ?_ | refine Wq ?_ | refine Wr ?_); (try simp only [go_sem, fN, seval, eT, iR, e0, e1, e2, e3, e9, e18, e19, s11, s90, hlt, ha, hb', hab, hLl, AB, dT, dF, nL]); (repeat refine Ai ?_); (try (refine hK _ ?_; clear hK K)); try refine iC ?_)
   refine AH ⟨x.length - (k + 1), by omega, k + 1, by omega, rfl, e0, e1, e2, e3, ?_, e18, rfl, s11, ?_, hS1⟩
   ·rw [hsn]; exact e9
   ·rw [hsn]; exact s90
 ·have hke : k = x.length := by omega
  rw [hke, List.take_length, heq, List.take_length] at s90 e9
  have hsl := Dm x y 0
  have hsm : ∀ j ∈ A3 0 x y, 0 ≤ j ∧ j ≤ 1000 := fun j hj => by have := FX hj; omega
  generalize hL : A3 0 x y = L at *
  have hLl : (L.map B1).length = L.length := List.length_map _
  by_cases hlt2 : L.length < x.length
  ·rw [if_pos hlt2] at hm
   cases hm
   have hlt2' : ((L.length : Nat) : Int) < x.length := by omega
   have hgv : Jn Kn i L x.length = (Kn ++ [Lm.nil]).set i (Bv (DU (mU Kn.length) (CY L x.length)) x.length) := rfl
   rw [hgv]
   have hf := LY S Kn sG sK (by omega)
   generalize mU Kn.length = u at *
   have hc1 := Ii L x.length ⟨by omega, by omega⟩ hsm (by omega)
   generalize CY L x.length = w at *
   have hc2 := HM u w
   generalize DU u w = z at *
   have hc3 := Fz z x.length (by omega)
   generalize Bv z x.length = v at *
   repeat' with_reducible first | refine W ?_ | refine Z0 ?_ | ((first | refine Wo fun K hK => ?_ | refine Wp ?_ | refine Wq ?_ | refine Wr ?_); (try simp only [go_sem, fN, seval, eT, iR, e0, e1, e2, e3, e9, e18, e19, s11, s90, hlt, hLl, hlt2', dT, dF, nL]); (repeat refine Ai ?_); (try (refine hK _ ?_; clear hK K)); try refine iC ?_)
   refine CI (vs := [.one (.ptr 2023 1 0 0)]) (by simp [Cn, outV, outC, stC]) rfl hS hS1 hf ?_
   have t23 : BI S1 (BN S (Kn ++ [Lm.nil])) 2023 = some (Ap 2021 (Kn.length + 1)) := by rw [Aq (by decide), FT, List.length_append]; rfl
   have t21 : BI S1 (BN S (Kn ++ [Lm.nil])) 2021 = some (Aj (Kn ++ [Lm.nil])) := by rw [Aq (by decide), Fi]
   have t11 : BI S1 (BN S (Kn ++ [Lm.nil])) 11 = none := by rw [Az (by decide), s11]
   have t90 : BI S1 (BN S (Kn ++ [Lm.nil])) 90 = some (.arow 3 1 (L.map B1)) := by rw [Az (by decide), s90]
   have tj : ∀ j, 1000 ≤ j → j ≠ 2023 → j ≠ 2021 → BI S1 (BN S (Kn ++ [Lm.nil])) j = S j := fun j hj h1 h2 => by rw [Aq hj, DP h1 h2]
   have hil : i < Kn.length + 1 := by omega
   have hK1l : ((Kn ++ [Lm.nil]).map Ac).length = Kn.length + 1 := by rw [List.length_map, List.length_append]; rfl
   obtain ⟨k0, hk0⟩ := Ak (show i < (Kn ++ [Lm.nil]).length by rw [List.length_append]; show i < Kn.length + 1; omega)
   generalize BI S1 (BN S (Kn ++ [Lm.nil])) = S2 at *
   repeat' (first | (with_reducible first | refine W ?_ | refine Z0 ?_ | ((first | refine Wo fun K hK => ?_ | refine Wp ?_ | refine Wq ?_ | refine Wr ?_); (try simp only [go_sem, fN, seval, eT, iR, e0, e1, e2, e3, e9, e18, e19, t11, t21, t23, t90, hlt, hLl, hK1l, hil, hk0, AB, dT, dF, nL]); (repeat refine Ai ?_); (try (refine hK _ ?_; clear hK K)); try refine iC ?_)) | refine Cg _ (hc1) ?_ | refine Cg _ (hc2) ?_ | refine Cg _ (hc3) ?_)
   refine Ab (An true) (A4 (G := 2023) (KB := 2021) hS (by decide) (by decide)) trivial ?_ rfl fun j hj => ?_
   ·simp only [go_sem, fN, seval, eT, iR, AD, AE, AM]
   ·by_cases h1 : j = 2021
    ·subst h1
     rw [Fi]
     simp only [go_sem, fN, seval, eT, iR, Aj, List.map_set, AB]
    ·by_cases h2 : j = 2023
     ·subst h2
      rw [FT, List.length_set, List.length_append]
      simp only [go_sem, fN, seval, eT, iR, t23]
     ·have hj2 := tj j hj h2 h1
      rw [DP h2 h1]
      simp only [go_sem, fN, seval, eT, iR, AZ, hj, h1, hj2]
  ·rw [if_neg hlt2] at hm
   cases hm
   have hlt2' : ¬ ((L.length : Nat) : Int) < x.length := by omega
   repeat' with_reducible first | refine W ?_ | refine Z0 ?_ | ((first | refine Wo fun K hK => ?_ | refine Wp ?_ | refine Wq ?_ | refine Wr ?_); (try simp only [go_sem, fN, seval, eT, iR, e0, e1, e2, e3, e9, e18, e19, s11, s90, hlt, hLl, hlt2', dT, dF, nL]); (repeat refine Ai ?_); (try (refine hK _ ?_; clear hK K)); try refine iC ?_)
   rw [hself]
   refine Ab (An true) hS trivial ?_ rfl hS1
   simp only [go_sem, fN, seval, eT, iR, AD, AE, AM]

set_option maxHeartbeats 8000000
abbrev Bb (es : List (Int × Int)) : AI := .map (some (.int .i64)) (es.map fun p => (.i p.1, AK p.2))
theorem DD : ∀ (es : List (Int × Int)) (k : Int), Ck (es.map fun p => ((.i p.1 : KV), AK p.2)) (.i k) = (D3 es k).map AK
 | [], k => rfl
 | p :: es, k => by
  rw [List.map_cons, Ck, D3, DD es k]
  by_cases h : p.1 = k
  ·rw [if_pos h, if_pos (by rw [h])]; rfl
  ·rw [if_neg h, if_neg (fun e => h (KV.i.inj e))]
theorem Ee : ∀ (es : List (Int × Int)) (k v : Int), H3 (es.map fun p => ((.i p.1 : KV), AK p.2)) (.i k) (AK v) = (EB es k v).map fun p => ((.i p.1 : KV), AK p.2)
 | [], k, v => rfl
 | p :: es, k, v => by
  rw [List.map_cons, H3, EB, Ee es k v]
  by_cases h : p.1 = k
  ·rw [if_pos h, if_pos (by rw [h]), h]; rfl
  ·rw [if_neg h, if_neg (fun e => h (KV.i.inj e))]; rfl
theorem OM (es : List (Int × Int)) : (some (Bb es)).map (AI.ren up1) = some (Bb es) := rfl
theorem IWP.atT {P : Program} {C : Ctx} {mu : List Nat} {x : IR} {Q : AX → AS → Prop} {env0 : Nat → AV} {S0 : AA} (M : (Nat → AV) → AA → Prop) (hM : M env0 S0) (h : ∀ env S, M env S → IWP P C mu x Q ⟨env, S⟩) : IWP P C mu x Q ⟨env0, S0⟩ := h _ _ hM
theorem Jt : ∀ {es : List (Int × Int)} {k v : Int}, D3 es k = some v → ∃ p ∈ es, p.2 = v
 | [], _, _, h => by cases h
 | p :: es, k, v, h => by
  unfold D3 at h
  split at h
  ·exact ⟨p, by simp, by simpa using h⟩
  ·obtain ⟨q, hq, e⟩ := Jt h
   exact ⟨q, by simp [hq], e⟩
theorem Iy (T : AA) (G KB : Nat) (Kn : List Lm) (hG : T G = some (Ap KB Kn.length)) (hK : T KB = some (Aj Kn)) {f : Nat} {t u : Lm} (hu : EI f Kn t = some u) : Ag Tryd.prog 34 [.one (.ptr (up1 G) 1 0 0), aLm t] (upS T) (aLm u) (upS T) :=
 Ps (upS T) (up1 G) (up1 KB) (BE _) (BE _) Kn (by rw [A_, hG]; rfl) (by rw [A_, hK]; rfl) f t u hu
theorem Oi (S : AA) (A B D M : Nat) (e1 e2 e3 : TypeId) (i d n : Int) (es : List (Int × Int)) (hA : 1000 ≤ A) (hB : 1000 ≤ B) (hD : 1000 ≤ D) (hM : 1000 ≤ M) (hi : 0 ≤ i ∧ i ≤ 1000000000) (hd : 0 ≤ d ∧ d ≤ 100) (hn : 0 ≤ n ∧ n ≤ 100) (hes : es.all (fun p => decide (0 ≤ p.2 ∧ p.2 ≤ 100)) = true)
  (sA : S A = some (.box e1 [.st (.int .i64 d)])) (sB : S B = some (.box e2 [.mptr M])) (sD : S D = some (.box e3 [.st (.int .i64 n)])) (sM : S M = some (Bb es)) :
  Ag Tryd.prog 74 [AK i, .one (.ptr A 1 0 0), .one (.ptr B 1 0 0), .one (.ptr D 1 0 0)] S (.tup [aLm (BH es n d i).1, An (BH es n d i).2]) S := by
 refine B4.acS fun hS C hC => ?_
 unfold BR
 have n5 := AR hS (i := 5) (by omega)
 have hg := DD es (i - d)
 unfold BH
 by_cases hid : i < d
 ·rw [if_pos hid]
  repeat' (first | (with_reducible first | refine W ?_ | refine Z0 ?_ | ((first | refine Wo fun K hK => ?_ | refine Wp ?_ | refine Wq ?_ | refine Wr ?_); (try simp only [go_sem, fN, seval, eT, iR, AS.startS, n5, sA, sB, sD, sM, hA, hB, hD, hM, AZ, BM, hid, dT, dF, nL]); (repeat refine Ai ?_); (try (refine hK _ ?_; clear hK K)); try refine iC ?_)) | refine Cg _ (K8 i) ?_)
  refine Ab (.tup [aLm (.mk 1 i []), An true]) hS trivial ?_ rfl fun j hj => ?_
  ·simp only [go_sem, fN, seval, eT, iR, AD, AE, AM]
   rfl
  ·simp only [go_sem, fN, seval, eT, iR, AZ, hj]
 ·rw [if_neg hid]
  cases hgk : D3 es (i - d) with
  | none =>
   rw [hgk] at hg
   repeat' (first | (with_reducible first | refine W ?_ | refine Z0 ?_ | ((first | refine Wo fun K hK => ?_ | refine Wp ?_ | refine Wq ?_ | refine Wr ?_); (try simp only [go_sem, fN, seval, eT, iR, AS.startS, n5, sA, sB, sD, sM, hA, hB, hD, hM, AZ, BM, hid, hg, FZ, By, Dz, KV.of, KV.of1, dT, dF, nL]); (repeat refine Ai ?_); (try (refine hK _ ?_; clear hK K)); try refine iC ?_)) | refine Cg _ (K8 (d + n - 1 - 0)) ?_)
   refine Ab (.tup [aLm (.mk 1 (d + n - 1 - 0) []), An false]) hS trivial ?_ rfl fun j hj => ?_
   ·simp only [go_sem, fN, seval, eT, iR, AD, AE, AM]
    rfl
   ·simp only [go_sem, fN, seval, eT, iR, AZ, hj]
  | some k =>
   rw [hgk] at hg
   have hk : 0 ≤ k ∧ k ≤ 100 := by
    obtain ⟨p, hp, rfl⟩ := Jt hgk
    have := List.all_eq_true.1 hes p hp
    simpa using this
   repeat' (first | (with_reducible first | refine W ?_ | refine Z0 ?_ | ((first | refine Wo fun K hK => ?_ | refine Wp ?_ | refine Wq ?_ | refine Wr ?_); (try simp only [go_sem, fN, seval, eT, iR, AS.startS, n5, sA, sB, sD, sM, hA, hB, hD, hM, AZ, BM, hid, hg, FZ, By, Dz, KV.of, KV.of1, dT, dF, nL]); (repeat refine Ai ?_); (try (refine hK _ ?_; clear hK K)); try refine iC ?_)) | refine Cg _ (K8 (d + n - 1 - k)) ?_)
   refine Ab (.tup [aLm (.mk 1 (d + n - 1 - k) []), An true]) hS trivial ?_ rfl fun j hj => ?_
   ·simp only [go_sem, fN, seval, eT, iR, AD, AE, AM]
    rfl
   ·simp only [go_sem, fN, seval, eT, iR, AZ, hj]

end Go.Proofs.YtcgnojefbalbbaaDoor
