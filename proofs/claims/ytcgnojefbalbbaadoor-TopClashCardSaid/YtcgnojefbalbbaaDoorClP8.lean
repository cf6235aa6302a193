/-
  Proved: unlike constants, an unknown within itself, and a thing bound that can't be known have no solution: the law TopClash returns true; as a tied card. Conditions: none.
-/
import Derived.Test.YtcgnojefbalbbaaDoorClP7
import Derived.Test.YtcgnojefbalbbaaDoorRows
import Derived.ProofKit
import Derived.OpenShut
import Derived.JoinedCond
import Derived.Deep.Slices
import Derived.Test.YtcgnojefbalbbaaDoorTie
import Derived.Test.YtcgnojefbalbbaaDoorCards
import Derived.LaidMore
import Derived.MakeChecks
import Derived.Stop.Joined
import Derived.Lib.LaidTab
import Derived.Lib.ItoaNum
import Derived.LaidLaws
namespace Go.Proofs.YtcgnojefbalbbaaDoor
open Go Go.RowKit
set_option linter.unusedVariables false
set_option linter.unusedSimpArgs false
set_option maxHeartbeats 16000000
abbrev H3 (g : Lm × Lm) : List SV := [.int .i64 g.1.kind, .int .i64 g.1.idx, .list (g.1.subs.map Af), .int .i64 g.2.kind, .int .i64 g.2.idx, .list (g.2.subs.map Af)]
abbrev DU (gs : List (Lm × Lm)) : AV := .one (.st (.list (gs.map H3)))
theorem EU (g : Lm × Lm) (gs : List (Lm × Lm)) : CR (g :: gs) = g.1 :: g.2 :: CR gs := rfl
theorem G6 : ∀ gs : List (Lm × Lm), (CR gs).length = 2 * gs.length
 | [] => rfl
 | g :: gs => by rw [EU, List.length_cons, List.length_cons, List.length_cons, G6 gs]; omega
theorem FE : ∀ {gs : List (Lm × Lm)} {k : Nat} {g : Lm × Lm}, gs[k]? = some g → (CR gs)[2 * k]? = some g.1 ∧ (CR gs)[2 * k + 1]? = some g.2
 | [], _, _, h => by simp at h
 | g0 :: gs, 0, g, h => by
  simp only [List.getElem?_cons_zero, Option.some.injEq] at h
  subst h
  rw [EU]
  exact ⟨rfl, rfl⟩
 | g0 :: gs, k + 1, g, h => by
  rw [List.getElem?_cons_succ] at h
  have ih := FE h
  rw [EU, show 2 * (k + 1) = 2 * k + 1 + 1 by omega, List.getElem?_cons_succ, List.getElem?_cons_succ, List.getElem?_cons_succ, List.getElem?_cons_succ]
  exact ih
theorem HP (metas : Int) : ∀ {ts : List Lm} {n : Nat} {t : Lm}, DN metas (ts.take n) = 0 → ts[n]? = some t → (¬ t.may metas 0 = 0 → DN metas ts = t.may metas 0) ∧ (t.may metas 0 = 0 → 24 < t.size → DN metas ts = 3) ∧ (t.may metas 0 = 0 → ¬ 24 < t.size → DN metas (ts.take (n + 1)) = 0)
 | [], _, _, _, h => by simp at h
 | t0 :: ts, 0, t, h0, h => by
  simp only [List.getElem?_cons_zero, Option.some.injEq] at h
  subst h
  refine ⟨fun e => ?_, fun e e2 => ?_, fun e e2 => ?_⟩
  ·rw [DN, if_pos e]
  ·rw [DN, if_neg (fun e' => e' e), if_pos e2]
  ·rw [List.take_succ_cons, List.take_zero, DN, if_neg (fun e' => e' e), if_neg e2]; rfl
 | t0 :: ts, n + 1, t, h0, h => by
  rw [List.getElem?_cons_succ] at h
  rw [List.take_succ_cons, DN] at h0
  split at h0
  ·rename_i hn; exact absurd h0 hn
  ·rename_i hn
   split at h0
   ·cases h0
   ·rename_i hn2
    have ih := HP metas h0 h
    rw [List.take_succ_cons, DN, if_neg hn, if_neg hn2, DN, if_neg hn, if_neg hn2]
    exact ih
theorem Im (metas : Int) : ∀ {ts : List Lm}, DN metas ts = 0 → ∀ t ∈ ts, t.may metas 0 = 0 ∧ t.size ≤ 24
 | [], _, t, h => by simp at h
 | t0 :: ts, h0, t, h => by
  rw [DN] at h0
  split at h0
  ·rename_i hn; exact absurd h0 hn
  ·rename_i hn
   split at h0
   ·cases h0
   ·rename_i hn2
    rcases List.mem_cons.1 h with rfl | h
    ·exact ⟨Decidable.not_not.1 hn, by omega⟩
    ·exact Im metas h0 t h
theorem G8 : ∀ {ts : List Lm} {n : Nat} {t : Lm} {m0 m : List (Int × Int)}, FB (ts.take n) m0 = (true, m) → ts[n]? = some t → ((Eh t m).1 = true → FB (ts.take (n + 1)) m0 = (true, (Eh t m).2)) ∧ ((Eh t m).1 = false → (FB ts m0).1 = false)
 | [], _, _, _, _, _, h => by simp at h
 | t0 :: ts, 0, t, m0, m, h0, h => by
  simp only [List.getElem?_cons_zero, Option.some.injEq] at h
  subst h
  have h0 : (true, m0) = (true, m) := h0
  cases h0
  refine ⟨fun e => ?_, fun e => ?_⟩
  ·rw [List.take_succ_cons, List.take_zero, FB, if_pos e]; rfl
  ·rw [FB, if_neg (by rw [e]; simp)]
 | t0 :: ts, n + 1, t, m0, m, h0, h => by
  rw [List.getElem?_cons_succ] at h
  rw [List.take_succ_cons, FB] at h0
  split at h0
  ·rename_i hn
   have ih := G8 h0 h
   rw [List.take_succ_cons, FB, if_pos hn, FB, if_pos hn]
   exact ih
  ·cases h0
theorem LQ {P : Program} {f : FuncId} {x z : AV} {S : AA} {r : AV} {S' : AA} {xs : List (List SV)} (h : Aj P f [x, .one (.st (.list xs)), z] S r S') : Aj P f [x, .one (.full xs), z] S r S' := by
 intro hc σ w vs ι hg hf ho hv
 refine h hc σ w vs ι hg hf ho ?_
 cases hv with
 | cons h1 hv =>
 cases hv with
 | cons h2 hv =>
 cases hv with
 | cons h3 hv =>
 cases hv
 exact .cons h1 (.cons (.one (.st (B0 (AP h2)))) (.cons h3 .nil))
theorem NC (metas : Int) (gs : List (Lm × Lm)) : Ak Tryd.prog 17 [AQ metas, DU gs] (AQ (ER metas gs)) := by
 refine FF.ac fun C hC => ?_
 unfold Cy
 refine IWP.learn 1 (by omega) fun hkn => ?_
 have hln := Cb hkn
 have hgl : (gs.map H3).length = gs.length := List.length_map _
 rw [hgl] at hln
 unfold ER
 by_cases h1 : metas < 0
 ·rw [if_pos (.inl h1)]
  repeat' with_reducible first | refine W ?_ | refine Z0 ?_ | ((first | refine Wo fun K hK => ?_ | refine Wp ?_ | refine Wq ?_ | refine Wr ?_); (try simp only [go_sem, fN, seval, eT, iR, h1, dT, dF, nL]); (repeat refine Ai ?_); (try (refine hK _ ?_; clear hK K)); try refine iC ?_)
  simp only [go_sem, fN, seval, Ap, AS.result, AG, AH, AY]
 by_cases h2 : 4 < metas
 ·rw [if_pos (.inr (.inl h2))]
  repeat' with_reducible first | refine W ?_ | refine Z0 ?_ | ((first | refine Wo fun K hK => ?_ | refine Wp ?_ | refine Wq ?_ | refine Wr ?_); (try simp only [go_sem, fN, seval, eT, iR, h1, h2, dT, dF, nL]); (repeat refine Ai ?_); (try (refine hK _ ?_; clear hK K)); try refine iC ?_)
  simp only [go_sem, fN, seval, Ap, AS.result, AG, AH, AY]
 by_cases h3 : 3 < gs.length
 ·rw [if_pos (.inr (.inr h3))]
  have h3' : (3 : Int) < gs.length := by omega
  repeat' with_reducible first | refine W ?_ | refine Z0 ?_ | ((first | refine Wo fun K hK => ?_ | refine Wp ?_ | refine Wq ?_ | refine Wr ?_); (try simp only [go_sem, fN, seval, eT, iR, h1, h2, h3', hgl, dT, dF, nL]); (repeat refine Ai ?_); (try (refine hK _ ?_; clear hK K)); try refine iC ?_)
  simp only [go_sem, fN, seval, Ap, AS.result, AG, AH, AY]
 rw [if_neg (by omega)]
 have h3' : ¬ (3 : Int) < gs.length := by omega
 have hfl := G6 gs
 generalize hE : (if ¬ DN metas (CR gs) = 0 then DN metas (CR gs) else if (FB (CR gs) []).1 = true then 0 else 2) = E
 repeat' with_reducible first | refine W ?_ | refine Z0 ?_ | ((first | refine Wo fun K hK => ?_ | refine Wp ?_ | refine Wq ?_ | refine Wr ?_); (try simp only [go_sem, fN, seval, eT, iR, h1, h2, h3', hgl, dT, dF, nL]); (repeat refine Ai ?_); (try (refine hK _ ?_; clear hK K)); try refine iC ?_)
 refine IWP.loopD [6] (fun q s => ∃ k, k ≤ gs.length ∧ q = gs.length - k ∧ DN metas ((CR gs).take (2 * k)) = 0 ∧ s.env 0 = AQ metas ∧ s.env 1 = DU gs ∧ s.env 26 = DU gs ∧ s.env 27 = AQ gs.length ∧ s.env 28 = AQ k ∧ ∀ i ∈ [6, 8, 12, 14, 53], s.S i = none) gs.length
  ⟨0, Nat.zero_le _, rfl, rfl, rfl, rfl, rfl, rfl, rfl, fun i hi => rfl⟩ ?_
 rintro q ⟨env, S⟩ ⟨k, hk, rfl, hck, e0, e1, e26, e27, e28, hno⟩
 simp only at e0 e1 e26 e27 e28 hno
 have o6 := hno 6 (by simp)
 have o8 := hno 8 (by simp)
 have o12 := hno 12 (by simp)
 have o14 := hno 14 (by simp)
 have o53 := hno 53 (by simp)
 by_cases hlt : (k : Int) < gs.length
 ·obtain ⟨g, hg⟩ := A1 (show k < gs.length by omega)
  obtain ⟨hg1, hg2⟩ := FE hg
  repeat' with_reducible first | refine W ?_ | refine Z0 ?_ | ((first | refine Wo fun K hK => ?_ | refine Wp ?_ | refine Wq ?_ | refine Wr ?_); (try simp only [go_sem, fN, seval, eT, iR, e0, e1, e26, e27, e28, o6, hlt, hg, hgl, AD, dT, dF, nL]); (repeat refine Ai ?_); (try (refine hK _ ?_; clear hK K)); try refine iC ?_)
  refine IWP.loopD [8] (fun q s => ∃ p, p ≤ 2 ∧ q = 2 - p ∧ DN metas ((CR gs).take (2 * k + p)) = 0 ∧ s.env 0 = AQ metas ∧ s.env 1 = DU gs ∧ s.env 26 = DU gs ∧ s.env 27 = AQ gs.length ∧ s.env 28 = AQ k ∧ s.env 36 = .one (.full [Af g.1, Af g.2]) ∧ s.env 37 = AQ 2 ∧ s.env 38 = AQ p ∧ ∀ i ∈ [8, 12, 14, 53], s.S i = none) 2
   ⟨0, Nat.zero_le _, rfl, hck, e0, e1, e26, e27, e28, by (simp only [go_sem, fN, seval, eT, iR, AD]), rfl, rfl, ?_⟩ ?_
  ·intro i hi
   simp only [List.mem_cons, List.not_mem_nil, or_false] at hi
   rcases hi with rfl | rfl | rfl | rfl
   ·exact o8
   ·exact o12
   ·exact o14
   ·exact o53
  clear e0 e1 e26 e27 e28 hno hck o6 o8 o12 o14 o53
  rintro q ⟨env, S⟩ ⟨p, hp, rfl, hck, e0, e1, e26, e27, e28, e36, e37, e38, hno⟩
  simp only at e0 e1 e26 e27 e28 e36 e37 e38 hno
  have o8 := hno 8 (by simp)
  have o12 := hno 12 (by simp)
  have o14 := hno 14 (by simp)
  have o53 := hno 53 (by simp)
  by_cases hlp : (p : Int) < 2
  ·obtain ⟨t, hte, htf⟩ : ∃ t : Lm, ([Af g.1, Af g.2])[p]? = some (Af t) ∧ (CR gs)[2 * k + p]? = some t := by
    have hp2 : p = 0 ∨ p = 1 := by omega
    rcases hp2 with rfl | rfl
    ·exact ⟨g.1, rfl, hg1⟩
    ·exact ⟨g.2, rfl, hg2⟩
   obtain ⟨c1, c2, c3⟩ := HP metas hck htf
   simp only [AD] at hte
   have hcw := Ht t 0 metas
   have hsz := M4 t
   by_cases hm0 : t.may metas 0 = 0
   ·have hz2 := (Lm.may_ok hm0).2.2.1
    by_cases hz : 24 < t.size
    ·have hzT : (24 : Int) < t.size := by omega
     rw [c2 hm0 hz] at hE
     subst hE
     rw [hm0] at hcw
     repeat' (first | (with_reducible first | refine W ?_ | refine Z0 ?_ | ((first | refine Wo fun K hK => ?_ | refine Wp ?_ | refine Wq ?_ | refine Wr ?_); (try simp only [go_sem, fN, seval, eT, iR, e0, e1, e26, e27, e28, e36, e37, e38, o8, hlp, hte, hzT, AD, dT, dF, nL]); (repeat refine Ai ?_); (try (refine hK _ ?_; clear hK K)); try refine iC ?_)) | refine Cg _ (hcw) ?_ | refine Cg _ (hsz (by omega)) ?_)
     simp only [go_sem, fN, seval, Ap, AS.result, AG, AH, AY]
    ·have hzT : ¬ (24 : Int) < t.size := by omega
     have c4 := c3 hm0 hz
     rw [hm0] at hcw
     repeat' (first | (with_reducible first | refine W ?_ | refine Z0 ?_ | ((first | refine Wo fun K hK => ?_ | refine Wp ?_ | refine Wq ?_ | refine Wr ?_); (try simp only [go_sem, fN, seval, eT, iR, e0, e1, e26, e27, e28, e36, e37, e38, o8, hlp, hte, hzT, AD, dT, dF, nL]); (repeat refine Ai ?_); (try (refine hK _ ?_; clear hK K)); try refine iC ?_)) | refine Cg _ (hcw) ?_ | refine Cg _ (hsz (by omega)) ?_)
     refine AO ⟨2 - (p + 1), by omega, p + 1, by omega, rfl, c4, ?_, ?_, ?_, ?_, ?_, ?_, ?_, rfl, ?_⟩
     ·simp only [go_sem, fN, seval, AS.drop, AJ, AC.clears, AC.clear, AC.highs, AC.high, Bool.not_false, Bool.true_and, Bool.and_self, AV.purge, AV.purges, AC.purge, AF.purge, List.contains_cons, List.contains_nil, Nat.reduceBEq, Bool.or_self, Bool.or_false, Bool.false_or, Bool.or_true, eT, iR, e0]
     ·simp only [go_sem, fN, seval, AS.drop, AJ, AC.clears, AC.clear, AC.highs, AC.high, Bool.not_false, Bool.true_and, Bool.and_self, AV.purge, AV.purges, AC.purge, AF.purge, List.contains_cons, List.contains_nil, Nat.reduceBEq, Bool.or_self, Bool.or_false, Bool.false_or, Bool.or_true, eT, iR, e1]
     ·simp only [go_sem, fN, seval, AS.drop, AJ, AC.clears, AC.clear, AC.highs, AC.high, Bool.not_false, Bool.true_and, Bool.and_self, AV.purge, AV.purges, AC.purge, AF.purge, List.contains_cons, List.contains_nil, Nat.reduceBEq, Bool.or_self, Bool.or_false, Bool.false_or, Bool.or_true, eT, iR, e26]
     ·simp only [go_sem, fN, seval, AS.drop, AJ, AC.clears, AC.clear, AC.highs, AC.high, Bool.not_false, Bool.true_and, Bool.and_self, AV.purge, AV.purges, AC.purge, AF.purge, List.contains_cons, List.contains_nil, Nat.reduceBEq, Bool.or_self, Bool.or_false, Bool.false_or, Bool.or_true, eT, iR, e27]
     ·simp only [go_sem, fN, seval, AS.drop, AJ, AC.clears, AC.clear, AC.highs, AC.high, Bool.not_false, Bool.true_and, Bool.and_self, AV.purge, AV.purges, AC.purge, AF.purge, List.contains_cons, List.contains_nil, Nat.reduceBEq, Bool.or_self, Bool.or_false, Bool.false_or, Bool.or_true, eT, iR, e28]
     ·simp only [go_sem, fN, seval, AS.drop, AJ, AC.clears, AC.clear, AC.highs, AC.high, Bool.not_false, Bool.true_and, Bool.and_self, AV.purge, AV.purges, AC.purge, AF.purge, List.contains_cons, List.contains_nil, Nat.reduceBEq, Bool.or_self, Bool.or_false, Bool.false_or, Bool.or_true, eT, iR, e36]
     ·simp only [go_sem, fN, seval, AS.drop, AJ, AC.clears, AC.clear, AC.highs, AC.high, Bool.not_false, Bool.true_and, Bool.and_self, AV.purge, AV.purges, AC.purge, AF.purge, List.contains_cons, List.contains_nil, Nat.reduceBEq, Bool.or_self, Bool.or_false, Bool.false_or, Bool.or_true, eT, iR, e37]
     ·simp only [go_sem, fN, seval, AS.drop, AJ, AC.clears, AC.clear, AC.highs, AC.high, Bool.not_false, Bool.true_and, Bool.and_self, AV.purge, AV.purges, AC.purge, AF.purge, List.contains_cons, List.contains_nil, Nat.reduceBEq, Bool.or_self, Bool.or_false, Bool.false_or, Bool.or_true, eT, iR, o12, o14, o53]
   ·rw [c1 hm0, if_pos hm0] at hE
    subst hE
    generalize t.may metas 0 = e at *
    repeat' (first | (with_reducible first | refine W ?_ | refine Z0 ?_ | ((first | refine Wo fun K hK => ?_ | refine Wp ?_ | refine Wq ?_ | refine Wr ?_); (try simp only [go_sem, fN, seval, eT, iR, e0, e1, e26, e27, e28, e36, e37, e38, o8, hlp, hte, hm0, AD, dT, dF, nL]); (repeat refine Ai ?_); (try (refine hK _ ?_; clear hK K)); try refine iC ?_)) | refine Cg _ (hcw) ?_)
    simp only [go_sem, fN, seval, Ap, AS.result, AG, AH, AY]
  ·have hpe : p = 2 := by omega
   subst hpe
   repeat' with_reducible first | refine W ?_ | refine Z0 ?_ | ((first | refine Wo fun K hK => ?_ | refine Wp ?_ | refine Wq ?_ | refine Wr ?_); (try simp only [go_sem, fN, seval, eT, iR, e0, e1, e26, e27, e28, e36, e37, e38, hlp, dT, dF, nL]); (repeat refine Ai ?_); (try (refine hK _ ?_; clear hK K)); try refine iC ?_)
   refine AO ⟨gs.length - (k + 1), by omega, k + 1, by omega, rfl, hck, ?_, ?_, ?_, ?_, rfl, ?_⟩
   ·simp only [go_sem, fN, seval, AS.drop, AJ, AC.clears, AC.clear, AC.highs, AC.high, Bool.not_false, Bool.true_and, Bool.and_self, AV.purge, AV.purges, AC.purge, AF.purge, List.contains_cons, List.contains_nil, Nat.reduceBEq, Bool.or_self, Bool.or_false, Bool.false_or, Bool.or_true, eT, iR, e0]
   ·simp only [go_sem, fN, seval, AS.drop, AJ, AC.clears, AC.clear, AC.highs, AC.high, Bool.not_false, Bool.true_and, Bool.and_self, AV.purge, AV.purges, AC.purge, AF.purge, List.contains_cons, List.contains_nil, Nat.reduceBEq, Bool.or_self, Bool.or_false, Bool.false_or, Bool.or_true, eT, iR, e1]
   ·simp only [go_sem, fN, seval, AS.drop, AJ, AC.clears, AC.clear, AC.highs, AC.high, Bool.not_false, Bool.true_and, Bool.and_self, AV.purge, AV.purges, AC.purge, AF.purge, List.contains_cons, List.contains_nil, Nat.reduceBEq, Bool.or_self, Bool.or_false, Bool.false_or, Bool.or_true, eT, iR, e26]
   ·simp only [go_sem, fN, seval, AS.drop, AJ, AC.clears, AC.clear, AC.highs, AC.high, Bool.not_false, Bool.true_and, Bool.and_self, AV.purge, AV.purges, AC.purge, AF.purge, List.contains_cons, List.contains_nil, Nat.reduceBEq, Bool.or_self, Bool.or_false, Bool.false_or, Bool.or_true, eT, iR, e27]
   ·simp only [go_sem, fN, seval, AS.drop, AJ, AC.clears, AC.clear, AC.highs, AC.high, Bool.not_false, Bool.true_and, Bool.and_self, AV.purge, AV.purges, AC.purge, AF.purge, List.contains_cons, List.contains_nil, Nat.reduceBEq, Bool.or_self, Bool.or_false, Bool.false_or, Bool.or_true, eT, iR, o8, o12, o14, o53]
 ·have hke : k = gs.length := by omega
  rw [hke, ← hfl, List.take_length] at hck
  rw [if_neg (fun e => e hck)] at hE
  repeat' with_reducible first | refine W ?_ | refine Z0 ?_ | ((first | refine Wo fun K hK => ?_ | refine Wp ?_ | refine Wq ?_ | refine Wr ?_); (try simp only [go_sem, fN, seval, eT, iR, e0, e1, e26, e27, e28, o53, hlt, hgl, dT, dF, nL]); (repeat refine Ai ?_); (try (refine hK _ ?_; clear hK K)); try refine iC ?_)
  refine IWP.loopD [12] (fun q s => ∃ k m, k ≤ gs.length ∧ q = gs.length - k ∧ FB ((CR gs).take (2 * k)) [] = (true, m) ∧ s.env 10 = .one (.mptr 53) ∧ s.env 54 = DU gs ∧ s.env 55 = AQ gs.length ∧ s.env 56 = AQ k ∧ s.S 53 = some (BW m) ∧ s.S 12 = none ∧ s.S 14 = none) gs.length
   ⟨0, [], Nat.zero_le _, rfl, rfl, rfl, rfl, rfl, rfl, rfl, o12, o14⟩ ?_
  clear e0 e1 e26 e27 e28 hno o6 o8 o12 o14 o53 hke hlt hk
  rintro q ⟨env, S⟩ ⟨k, m, hk, rfl, hfk, e10, e54, e55, e56, s53, o12, o14⟩
  simp only at e10 e54 e55 e56 s53 o12 o14
  by_cases hlt : (k : Int) < gs.length
  ·obtain ⟨g, hg⟩ := A1 (show k < gs.length by omega)
   obtain ⟨hg1, hg2⟩ := FE hg
   repeat' with_reducible first | refine W ?_ | refine Z0 ?_ | ((first | refine Wo fun K hK => ?_ | refine Wp ?_ | refine Wq ?_ | refine Wr ?_); (try simp only [go_sem, fN, seval, eT, iR, e10, e54, e55, e56, s53, o12, hlt, hg, hgl, AD, dT, dF, nL]); (repeat refine Ai ?_); (try (refine hK _ ?_; clear hK K)); try refine iC ?_)
   refine IWP.loopD [14] (fun q s => ∃ p m, p ≤ 2 ∧ q = 2 - p ∧ FB ((CR gs).take (2 * k + p)) [] = (true, m) ∧ s.env 10 = .one (.mptr 53) ∧ s.env 54 = DU gs ∧ s.env 55 = AQ gs.length ∧ s.env 56 = AQ k ∧ s.env 64 = .one (.full [Af g.1, Af g.2]) ∧ s.env 65 = AQ 2 ∧ s.env 66 = AQ p ∧ s.S 53 = some (BW m) ∧ s.S 14 = none) 2
    ⟨0, m, Nat.zero_le _, rfl, hfk, e10, e54, e55, e56, by (simp only [go_sem, fN, seval, eT, iR, AD]), rfl, rfl, s53, o14⟩ ?_
   clear e10 e54 e55 e56 s53 o12 o14 hfk m
   rintro q ⟨env, S⟩ ⟨p, m, hp, rfl, hfk, e10, e54, e55, e56, e64, e65, e66, s53, o14⟩
   simp only at e10 e54 e55 e56 e64 e65 e66 s53 o14
   by_cases hlp : (p : Int) < 2
   ·obtain ⟨t, hte, htf⟩ : ∃ t : Lm, ([Af g.1, Af g.2])[p]? = some (Af t) ∧ (CR gs)[2 * k + p]? = some t := by
     have hp2 : p = 0 ∨ p = 1 := by omega
     rcases hp2 with rfl | rfl
     ·exact ⟨g.1, rfl, hg1⟩
     ·exact ⟨g.2, rfl, hg2⟩
    obtain ⟨c1, c2⟩ := G8 hfk htf
    obtain ⟨hm0, hz24⟩ := Im metas hck t (Ac htf)
    have hwt := Lm.wf_chk t _ (Lm.may_ok hm0).2.2.2
    simp only [AD] at hte
    have hfm := fun (U : AA) (hU : U (up1 53) = some (BW m)) => LQ (Nx t.size t [] m (up1 53) U hwt (Nat.le_refl _) (by simp only [List.length_nil]; omega) (BR _) hU)
    change ∀ U : AA, _ → Aj _ _ _ U (An (Eh t m).1) (AN U (up1 53) (some (BW (Eh t m).2))) at hfm
    cases hr : Eh t m with
    | mk r m2 =>
     rw [hr] at hfm c1 c2
     repeat' with_reducible first | refine W ?_ | refine Z0 ?_ | ((first | refine Wo fun K hK => ?_ | refine Wp ?_ | refine Wq ?_ | refine Wr ?_); (try simp only [go_sem, fN, seval, eT, iR, e10, e54, e55, e56, e64, e65, e66, s53, o14, hlp, hte, AD, dT, dF, nL]); (repeat refine Ai ?_); (try (refine hK _ ?_; clear hK K)); try refine iC ?_)
     refine ⟨_, _, hfm _ (by rw [BS]; (simp only [go_sem, fN, seval, eT, iR, s53])), ?_⟩
     cases r with
     | false =>
      rw [if_neg (by rw [c2 rfl]; simp)] at hE
      subst hE
      repeat' with_reducible first | refine W ?_ | refine Z0 ?_ | ((first | refine Wo fun K hK => ?_ | refine Wp ?_ | refine Wq ?_ | refine Wr ?_); (try simp only [go_sem, fN, seval, eT, iR, e10, e54, e55, e56, e64, e65, e66, s53, o14, hlp, hte, AD, dT, dF, nL]); (repeat refine Ai ?_); (try (refine hK _ ?_; clear hK K)); try refine iC ?_)
      simp only [go_sem, fN, seval, Ap, AS.result, AG, AH, AY]
     | true =>
      have c3 := c1 rfl
      repeat' with_reducible first | refine W ?_ | refine Z0 ?_ | ((first | refine Wo fun K hK => ?_ | refine Wp ?_ | refine Wq ?_ | refine Wr ?_); (try simp only [go_sem, fN, seval, eT, iR, e10, e54, e55, e56, e64, e65, e66, s53, o14, hlp, hte, AD, dT, dF, nL]); (repeat refine Ai ?_); (try (refine hK _ ?_; clear hK K)); try refine iC ?_)
      refine AO ⟨2 - (p + 1), by omega, p + 1, m2, by omega, rfl, c3, ?_, ?_, ?_, ?_, ?_, ?_, rfl, ?_, rfl⟩
      ·simp only [go_sem, fN, seval, AS.drop, AJ, AC.clears, AC.clear, AC.highs, AC.high, Bool.not_false, Bool.true_and, Bool.and_self, AV.purge, AV.purges, AC.purge, AF.purge, List.contains_cons, List.contains_nil, Nat.reduceBEq, Bool.or_self, Bool.or_false, Bool.false_or, Bool.or_true, eT, iR, e10]
      ·simp only [go_sem, fN, seval, AS.drop, AJ, AC.clears, AC.clear, AC.highs, AC.high, Bool.not_false, Bool.true_and, Bool.and_self, AV.purge, AV.purges, AC.purge, AF.purge, List.contains_cons, List.contains_nil, Nat.reduceBEq, Bool.or_self, Bool.or_false, Bool.false_or, Bool.or_true, eT, iR, e54]
      ·simp only [go_sem, fN, seval, AS.drop, AJ, AC.clears, AC.clear, AC.highs, AC.high, Bool.not_false, Bool.true_and, Bool.and_self, AV.purge, AV.purges, AC.purge, AF.purge, List.contains_cons, List.contains_nil, Nat.reduceBEq, Bool.or_self, Bool.or_false, Bool.false_or, Bool.or_true, eT, iR, e55]
      ·simp only [go_sem, fN, seval, AS.drop, AJ, AC.clears, AC.clear, AC.highs, AC.high, Bool.not_false, Bool.true_and, Bool.and_self, AV.purge, AV.purges, AC.purge, AF.purge, List.contains_cons, List.contains_nil, Nat.reduceBEq, Bool.or_self, Bool.or_false, Bool.false_or, Bool.or_true, eT, iR, e56]
      ·simp only [go_sem, fN, seval, AS.drop, AJ, AC.clears, AC.clear, AC.highs, AC.high, Bool.not_false, Bool.true_and, Bool.and_self, AV.purge, AV.purges, AC.purge, AF.purge, List.contains_cons, List.contains_nil, Nat.reduceBEq, Bool.or_self, Bool.or_false, Bool.false_or, Bool.or_true, eT, iR, e64]
      ·simp only [go_sem, fN, seval, AS.drop, AJ, AC.clears, AC.clear, AC.highs, AC.high, Bool.not_false, Bool.true_and, Bool.and_self, AV.purge, AV.purges, AC.purge, AF.purge, List.contains_cons, List.contains_nil, Nat.reduceBEq, Bool.or_self, Bool.or_false, Bool.false_or, Bool.or_true, eT, iR, e65]
      ·simp only [go_sem, fN, seval, AS.drop, AJ, AC.clears, AC.clear, AC.highs, AC.high, Bool.not_false, Bool.true_and, Bool.and_self, AV.purge, AV.purges, AC.purge, AF.purge, List.contains_cons, List.contains_nil, Nat.reduceBEq, Bool.or_self, Bool.or_false, Bool.false_or, Bool.or_true, eT, iR]
   ·have hpe : p = 2 := by omega
    subst hpe
    repeat' with_reducible first | refine W ?_ | refine Z0 ?_ | ((first | refine Wo fun K hK => ?_ | refine Wp ?_ | refine Wq ?_ | refine Wr ?_); (try simp only [go_sem, fN, seval, eT, iR, e10, e54, e55, e56, e64, e65, e66, hlp, dT, dF, nL]); (repeat refine Ai ?_); (try (refine hK _ ?_; clear hK K)); try refine iC ?_)
    refine AO ⟨gs.length - (k + 1), by omega, k + 1, m, by omega, rfl, hfk, ?_, ?_, ?_, rfl, ?_, ?_, ?_⟩
    ·simp only [go_sem, fN, seval, AS.drop, AJ, AC.clears, AC.clear, AC.highs, AC.high, Bool.not_false, Bool.true_and, Bool.and_self, AV.purge, AV.purges, AC.purge, AF.purge, List.contains_cons, List.contains_nil, Nat.reduceBEq, Bool.or_self, Bool.or_false, Bool.false_or, Bool.or_true, eT, iR, e10]
    ·simp only [go_sem, fN, seval, AS.drop, AJ, AC.clears, AC.clear, AC.highs, AC.high, Bool.not_false, Bool.true_and, Bool.and_self, AV.purge, AV.purges, AC.purge, AF.purge, List.contains_cons, List.contains_nil, Nat.reduceBEq, Bool.or_self, Bool.or_false, Bool.false_or, Bool.or_true, eT, iR, e54]
    ·simp only [go_sem, fN, seval, AS.drop, AJ, AC.clears, AC.clear, AC.highs, AC.high, Bool.not_false, Bool.true_and, Bool.and_self, AV.purge, AV.purges, AC.purge, AF.purge, List.contains_cons, List.contains_nil, Nat.reduceBEq, Bool.or_self, Bool.or_false, Bool.false_or, Bool.or_true, eT, iR, e55]
    ·simp only [go_sem, fN, seval, AS.drop, AJ, AC.clears, AC.clear, AC.highs, AC.high, Bool.not_false, Bool.true_and, Bool.and_self, AV.purge, AV.purges, AC.purge, AF.purge, List.contains_cons, List.contains_nil, Nat.reduceBEq, Bool.or_self, Bool.or_false, Bool.false_or, Bool.or_true, eT, iR, s53]
    ·rfl
    ·simp only [go_sem, fN, seval, AS.drop, AJ, AC.clears, AC.clear, AC.highs, AC.high, Bool.not_false, Bool.true_and, Bool.and_self, AV.purge, AV.purges, AC.purge, AF.purge, List.contains_cons, List.contains_nil, Nat.reduceBEq, Bool.or_self, Bool.or_false, Bool.false_or, Bool.or_true, eT, iR, o14]
  ·have hke : k = gs.length := by omega
   rw [hke, ← hfl, List.take_length] at hfk
   rw [hfk] at hE
   simp only [if_true] at hE
   subst hE
   repeat' with_reducible first | refine W ?_ | refine Z0 ?_ | ((first | refine Wo fun K hK => ?_ | refine Wp ?_ | refine Wq ?_ | refine Wr ?_); (try simp only [go_sem, fN, seval, eT, iR, e10, e54, e55, e56, hlt, dT, dF, nL]); (repeat refine Ai ?_); (try (refine hK _ ?_; clear hK K)); try refine iC ?_)
   simp only [go_sem, fN, seval, Ap, AS.result, AG, AH, AY]

theorem LV {T : AA} {Kn K' : List Lm} : upS (Bs T [(23, Ag 21 Kn.length, Ag 21 K'.length), (21, Ad Kn, Ad K')]) = CI (upS T) K' := by
 show upS (AN (AN T 23 (some (Ag 21 K'.length))) 21 (some (Ad K'))) = _
 rw [Cp, Cp]
 rfl
theorem NP {f : Nat} {Kn K' : List Lm} {a b : Lm} {r : Bool} (h : Eb f Kn a b = some (K', r)) (T : AA) (hT : Dj T [(23, Ag 21 Kn.length, Ag 21 K'.length), (21, Ad Kn, Ad K')]) :
  Aj Tryd.prog 18 [.one (.ptr (up1 23) 1 0 0), aLm a, aLm b] (upS T) (An r) (upS (Bs T [(23, Ag 21 Kn.length, Ag 21 K'.length), (21, Ad Kn, Ad K')])) := by
 have t23 := hT (23, Ag 21 Kn.length, Ag 21 K'.length) (by simp)
 have t21 := hT (21, Ad Kn, Ad K') (by simp)
 simp only at t23 t21
 rw [LV]
 exact Nu f (upS T) Kn K' a b r h (by show upS T (up1 23) = _; rw [BS, t23]; rfl) (by show upS T (up1 21) = _; rw [BS, t21]; rfl)
theorem Lb {t : Lm} (hz : t.size ≤ 100000) {es : List (Int × Int)} (hl : es.length + t.size ≤ 900000) (T : AA) (hT : Dj T [(38, BW es, BW (nmP t es).2)]) :
  Aj Tryd.prog 19 [aLm t, .one (.mptr (up1 38))] (upS T) (aLm (nmP t es).1) (upS (Bs T [(38, BW es, BW (nmP t es).2)])) := by
 have t38 := KL hT
 show Aj _ _ _ _ _ (upS (AN T 38 (some (BW (nmP t es).2))))
 rw [Cp]
 exact M0 t hz (up1 38) es (upS T) (BR _) hl (by rw [BS, t38]; exact Mp es)
theorem Md {f : Nat} {Kn : List Lm} {t u : Lm} (h : Dm f Kn t = some u) (T : AA) (hT : ∀ q ∈ [(23, Ag 21 Kn.length), (21, Ad Kn)], T q.1 = some q.2) :
  Aj Tryd.prog 21 [.one (.ptr (up1 23) 1 0 0), aLm t] (upS T) (aLm u) (upS T) :=
 NR f (upS T) (up1 23) (up1 21) (BR _) (BR _) Kn t u h (by rw [BS, hT (23, Ag 21 Kn.length) (by simp)]; rfl) (by rw [BS, hT (21, Ad Kn) (by simp)]; rfl)
theorem KS (f : Nat) (metas : Int) (gs : List (Lm × Lm)) (l : List Lm) (n e : Int) (h : E9 f metas gs = some (l, n, e)) : Ak Tryd.prog 11 [AQ metas, DU gs] (.tup [BI l, AQ n, AQ e]) := by
 refine E3.ac fun C hC => ?_
 unfold C0
 refine IWP.learn 1 (by omega) fun hkn => ?_
 have hln := Cb hkn
 have hgl : (gs.map H3).length = gs.length := List.length_map _
 rw [hgl] at hln
 have hck := NC metas gs
 unfold E9 at h
 by_cases h0 : ER metas gs = 0
 ·rw [if_neg (fun e => e h0)] at h
  rw [h0] at hck
  have hm : 0 ≤ metas ∧ metas ≤ 4 ∧ gs.length ≤ 3 := by
   unfold ER at h0
   split at h0
   ·cases h0
   ·rename_i hn; omega
  obtain ⟨m, rfl⟩ : ∃ m : Nat, metas = (m : Int) := ⟨metas.toNat, by omega⟩
  rw [Int.toNat_natCast] at h
  have hm0 : (0 : Int) ≤ (m : Int) := by omega
  have hm4 : m ≤ 4 := by omega
  have hmz : ¬ (m : Int) < 0 := by omega
  repeat' (first | (with_reducible first | refine W ?_ | refine Z0 ?_ | ((first | refine Wo fun K hK => ?_ | refine Wp ?_ | refine Wq ?_ | refine Wr ?_); (try simp only [go_sem, fN, seval, eT, iR, hgl, hm0, hmz, dT, dF, nL]); (repeat refine Ai ?_); (try (refine hK _ ?_; clear hK K)); try refine iC ?_)) | refine Cg _ (hck) ?_)
  refine IWP.loopD [10] (fun q s => ∃ k Kn, k ≤ gs.length ∧ q = gs.length - k ∧ E1 f Kn (gs.drop k) = E1 f (List.replicate m .nil) gs ∧ s.env 0 = AQ m ∧ s.env 8 = .one (.ptr 23 1 0 0) ∧ s.env 24 = DU gs ∧ s.env 25 = AQ gs.length ∧ s.env 26 = AQ k ∧ s.S 23 = some (Ag 21 Kn.length) ∧ s.S 21 = some (Ad Kn) ∧ ∀ i ∈ [10, 38, 110], s.S i = none) gs.length
   ⟨0, List.replicate m .nil, Nat.zero_le _, rfl, rfl, rfl, rfl, rfl, rfl, rfl, by (simp only [go_sem, fN, seval, eT, iR, Ag, List.length_replicate]), by (simp only [go_sem, fN, seval, eT, iR, Ad, List.map_replicate, Iz]), by simp [AS.drop, AS.set, AN, noS, AJ]⟩ ?_
  rintro q ⟨env, S⟩ ⟨k, Kn, hk, rfl, hjk, e0, e8, e24, e25, e26, s23, s21, hno⟩
  simp only at e0 e8 e24 e25 e26 s23 s21 hno
  have o10 := hno 10 (by simp)
  have o38 := hno 38 (by simp)
  have o110 := hno 110 (by simp)
  rw [← hjk] at h
  by_cases hlt : (k : Int) < gs.length
  ·obtain ⟨g, hg⟩ := A1 (show k < gs.length by omega)
   have hdr : gs.drop k = g :: gs.drop (k + 1) := by
    obtain ⟨hlk, hak⟩ := List.getElem?_eq_some_iff.1 hg
    rw [List.drop_eq_getElem_cons hlk, hak]
   rw [hdr, E1] at h hjk
   cases hj : Eb f Kn g.1 g.2 with
   | none => rw [hj] at h; cases h
   | some pr =>
    obtain ⟨K2, bo⟩ := pr
    rw [hj] at h hjk
    repeat' with_reducible first | refine W ?_ | refine Z0 ?_ | ((first | refine Wo fun K hK => ?_ | refine Wp ?_ | refine Wq ?_ | refine Wr ?_); (try simp only [go_sem, fN, seval, eT, iR, e0, e8, e24, e25, e26, s23, s21, o10, hlt, hg, hgl, AD, dT, dF, nL]); (repeat refine Ai ?_); (try (refine hK _ ?_; clear hK K)); try refine iC ?_)
    refine ⟨_, _, ?_, NP hj, ?_⟩
    ·exact Mf (by (simp only [go_sem, fN, seval, eT, iR, s23])) (by (simp only [go_sem, fN, seval, eT, iR, s21]))
    cases bo with
    | false =>
     simp only [Option.some.injEq, Prod.mk.injEq] at h
     obtain ⟨rfl, rfl, rfl⟩ := h
     repeat' with_reducible first | refine W ?_ | refine Z0 ?_ | ((first | refine Wo fun K hK => ?_ | refine Wp ?_ | refine Wq ?_ | refine Wr ?_); (try simp only [go_sem, fN, seval, eT, iR, e0, e8, e24, e25, e26, hlt, dT, dF, nL]); (repeat refine Ai ?_); (try (refine hK _ ?_; clear hK K)); try refine iC ?_)
     simp only [go_sem, fN, seval, Ap, AS.result, AG, AH, AY]
     rfl
    | true =>
     simp only at h hjk
     repeat' with_reducible first | refine W ?_ | refine Z0 ?_ | ((first | refine Wo fun K hK => ?_ | refine Wp ?_ | refine Wq ?_ | refine Wr ?_); (try simp only [go_sem, fN, seval, eT, iR, e0, e8, e24, e25, e26, hlt, dT, dF, nL]); (repeat refine Ai ?_); (try (refine hK _ ?_; clear hK K)); try refine iC ?_)
     refine AO ⟨gs.length - (k + 1), by omega, k + 1, K2, by omega, rfl, hjk, ?_, ?_, ?_, ?_, rfl, ?_, ?_, rfl, ?_⟩
     ·simp only [go_sem, fN, seval, AS.drop, AJ, AC.clears, AC.clear, AC.highs, AC.high, Bool.not_false, Bool.true_and, Bool.and_self, AV.purge, AV.purges, AC.purge, AF.purge, List.contains_cons, List.contains_nil, Nat.reduceBEq, Bool.or_self, Bool.or_false, Bool.false_or, Bool.or_true, eT, iR, e0]
     ·simp only [go_sem, fN, seval, AS.drop, AJ, AC.clears, AC.clear, AC.highs, AC.high, Bool.not_false, Bool.true_and, Bool.and_self, AV.purge, AV.purges, AC.purge, AF.purge, List.contains_cons, List.contains_nil, Nat.reduceBEq, Bool.or_self, Bool.or_false, Bool.false_or, Bool.or_true, eT, iR, e8]
     ·simp only [go_sem, fN, seval, AS.drop, AJ, AC.clears, AC.clear, AC.highs, AC.high, Bool.not_false, Bool.true_and, Bool.and_self, AV.purge, AV.purges, AC.purge, AF.purge, List.contains_cons, List.contains_nil, Nat.reduceBEq, Bool.or_self, Bool.or_false, Bool.false_or, Bool.or_true, eT, iR, e24]
     ·simp only [go_sem, fN, seval, AS.drop, AJ, AC.clears, AC.clear, AC.highs, AC.high, Bool.not_false, Bool.true_and, Bool.and_self, AV.purge, AV.purges, AC.purge, AF.purge, List.contains_cons, List.contains_nil, Nat.reduceBEq, Bool.or_self, Bool.or_false, Bool.false_or, Bool.or_true, eT, iR, e25]
     ·simp only [go_sem, fN, seval, AS.drop, AJ, AC.clears, AC.clear, AC.highs, AC.high, Bool.not_false, Bool.true_and, Bool.and_self, AV.purge, AV.purges, AC.purge, AF.purge, List.contains_cons, List.contains_nil, Nat.reduceBEq, Bool.or_self, Bool.or_false, Bool.false_or, Bool.or_true, eT, iR]
     ·simp only [go_sem, fN, seval, AS.drop, AJ, AC.clears, AC.clear, AC.highs, AC.high, Bool.not_false, Bool.true_and, Bool.and_self, AV.purge, AV.purges, AC.purge, AF.purge, List.contains_cons, List.contains_nil, Nat.reduceBEq, Bool.or_self, Bool.or_false, Bool.false_or, Bool.or_true, eT, iR]
     ·simp only [go_sem, fN, seval, AS.drop, AJ, AC.clears, AC.clear, AC.highs, AC.high, Bool.not_false, Bool.true_and, Bool.and_self, AV.purge, AV.purges, AC.purge, AF.purge, List.contains_cons, List.contains_nil, Nat.reduceBEq, Bool.or_self, Bool.or_false, Bool.false_or, Bool.or_true, eT, iR, o38, o110]
  ·have hke : k = gs.length := by omega
   rw [hke, List.drop_length, E1] at h
   simp only at h
   cases hout : Km f Kn (List.range m) [] with
   | none => rw [hout] at h; cases h
   | some pr =>
    obtain ⟨lF, esF⟩ := pr
    rw [hout] at h
    simp only [Option.some.injEq, Prod.mk.injEq] at h
    obtain ⟨rfl, rfl, rfl⟩ := h
    clear hjk
    have hrl : (List.range m).length = m := List.length_range
    repeat' with_reducible first | refine W ?_ | refine Z0 ?_ | ((first | refine Wo fun K hK => ?_ | refine Wp ?_ | refine Wq ?_ | refine Wr ?_); (try simp only [go_sem, fN, seval, eT, iR, e0, e8, e24, e25, e26, s23, s21, o38, hlt, dT, dF, nL]); (repeat refine Ai ?_); (try (refine hK _ ?_; clear hK K)); try refine iC ?_)
    refine IWP.ghost (Ar.own 11 110 24 3 (xs := ([] : List (List SV))) rfl (by simp only [go_sem, fN, seval, eT, iR, o110]) (by simp) (by omega)) ?_
    refine IWP.loop (fun q s => ∃ k es l1 l2, k ≤ m ∧ q = m - k ∧ Km f Kn ((List.range m).drop k) es = some (l2, esF) ∧ lF = l1 ++ l2 ∧ l1.length = k ∧ es.length ≤ 1000 * k ∧ s.env 8 = .one (.ptr 23 1 0 0) ∧ s.env 11 = .one (.row 110 k) ∧ s.env 12 = .one (.mptr 38) ∧ s.env 39 = AQ m ∧ s.env 40 = AQ k ∧ s.S 23 = some (Ag 21 Kn.length) ∧ s.S 21 = some (Ad Kn) ∧ s.S 38 = some (BW es) ∧ s.S 110 = some (.arow 24 3 (l1.map Af))) m
     ⟨0, [], [], lF, Nat.zero_le _, rfl, hout, rfl, rfl, Nat.le_refl _, e8, rfl, rfl, rfl, rfl, s23, s21, rfl, rfl⟩ ?_
    clear e0 e8 e24 e25 e26 s23 s21 hno o10 o38 o110 hout hke hlt hk
    rintro q ⟨env, S⟩ ⟨k, es, l1, l2, hk, rfl, hout, hl, hl1, hes, e8, e11, e12, e39, e40, s23, s21, s38, s110⟩
    simp only at e8 e11 e12 e39 e40 s23 s21 s38 s110
    have hl1l : (l1.map Af).length = k := by rw [List.length_map, hl1]
    by_cases hlt : (k : Int) < m
    ·have hdr : (List.range m).drop k = k :: (List.range m).drop (k + 1) := by
      rw [List.drop_eq_getElem_cons (by rw [hrl]; omega), List.getElem_range]
     rw [hdr, Km] at hout
     cases hw : Dm f Kn (mU k) with
     | none => rw [hw] at hout; cases hout
     | some t =>
      rw [hw] at hout
      simp only at hout
      split at hout
      ·rename_i hok
       obtain ⟨hok1, hz1⟩ := hok
       obtain ⟨hgd, hsz⟩ := CS hok1
       have hwf := GK hok1
       have hshort := LZ t hwf hgd (by omega)
       generalize t.eta1 = t1 at *
       simp only [Option.map_eq_some_iff, Prod.mk.injEq] at hout
       obtain ⟨⟨l3, es3⟩, hout, rfl, rfl⟩ := hout
       have hnl := KU t1 es
       have hnm := fun T hT => Lb (t := t1) (by omega) (es := es) (by omega) T hT
       have hM := N5 k
       generalize mU k = u at *
       cases hnp : nmP t1 es with
       | mk y es2 =>
       rw [hnp] at hnm hnl hout hl
       simp only at hnm hnl hout hl
       repeat' (first | (with_reducible first | refine W ?_ | refine Z0 ?_ | ((first | refine Wo fun K hK => ?_ | refine Wp ?_ | refine Wq ?_ | refine Wr ?_); (try simp only [go_sem, fN, seval, eT, iR, e8, e11, e12, e39, e40, s23, s21, s38, s110, hlt, hl1l, AD, dT, dF, nL]); (repeat refine Ai ?_); (try (refine hK _ ?_; clear hK K)); try refine iC ?_)) | refine Cg _ (hM) ?_ | refine Cg _ (hshort) ?_)
       refine ⟨_, _, Ce (by simp only [go_sem, fN, seval, eT, iR, s23]) (by simp only [go_sem, fN, seval, eT, iR, s21]), Md hw, ?_⟩
       repeat' (first | (with_reducible first | refine W ?_ | refine Z0 ?_ | ((first | refine Wo fun K hK => ?_ | refine Wp ?_ | refine Wq ?_ | refine Wr ?_); (try simp only [go_sem, fN, seval, eT, iR, e8, e11, e12, e39, e40, s23, s21, s38, s110, hlt, hl1l, AD, dT, dF, nL]); (repeat refine Ai ?_); (try (refine hK _ ?_; clear hK K)); try refine iC ?_)) | refine Cg _ (hM) ?_ | refine Cg _ (hshort) ?_)
       refine ⟨_, _, IG s38, hnm, ?_⟩
       repeat' (first | (with_reducible first | refine W ?_ | refine Z0 ?_ | ((first | refine Wo fun K hK => ?_ | refine Wp ?_ | refine Wq ?_ | refine Wr ?_); (try simp only [go_sem, fN, seval, eT, iR, e8, e11, e12, e39, e40, s23, s21, s38, s110, hlt, hl1l, AD, dT, dF, nL]); (repeat refine Ai ?_); (try (refine hK _ ?_; clear hK K)); try refine iC ?_)) | refine Cg _ (hM) ?_ | refine Cg _ (hshort) ?_)
       refine AO ⟨m - (k + 1), by omega, k + 1, es2, l1 ++ [y], l3, by omega, rfl, hout, by rw [hl]; simp, by simp [hl1], by omega, e8, ?_, e12, e39, rfl, s23, s21, ?_, ?_⟩
       ·rfl
       ·simp only [go_sem, fN, seval, eT, iR]
       ·rw [List.map_append]
        simp only [go_sem, fN, seval, eT, iR, AD]
      ·cases hout
    ·have hke : k = m := by omega
     have hdl : (List.range m).drop m = [] := List.drop_eq_nil_of_le (by rw [hrl]; exact Nat.le_refl _)
     rw [hke, hdl, Km] at hout
     simp only [Option.some.injEq, Prod.mk.injEq] at hout
     obtain ⟨rfl, rfl⟩ := hout
     rw [List.append_nil] at hl
     subst hl
     have hml : (es.map fun p => ((.i p.1 : KV), AQ p.2)).length = es.length := List.length_map _
     repeat' with_reducible first | refine W ?_ | refine Z0 ?_ | ((first | refine Wo fun K hK => ?_ | refine Wp ?_ | refine Wq ?_ | refine Wr ?_); (try simp only [go_sem, fN, seval, eT, iR, e8, e11, e12, e39, e40, s23, s21, s38, s110, hlt, hml, Bq, dT, dF, nL]); (repeat refine Ai ?_); (try (refine hK _ ?_; clear hK K)); try refine iC ?_)
     simp only [go_sem, fN, seval, Ap, AS.result, AG, AH, AY, s110, hl1l]
 ·rw [if_pos h0] at h
  simp only [Option.some.injEq, Prod.mk.injEq] at h
  obtain ⟨rfl, rfl, rfl⟩ := h
  generalize ER metas gs = e at *
  repeat' (first | (with_reducible first | refine W ?_ | refine Z0 ?_ | ((first | refine Wo fun K hK => ?_ | refine Wp ?_ | refine Wq ?_ | refine Wr ?_); (try simp only [go_sem, fN, seval, eT, iR, h0, dT, dF, nL]); (repeat refine Ai ?_); (try (refine hK _ ?_; clear hK K)); try refine iC ?_)) | refine Cg _ (hck) ?_)
  simp only [go_sem, fN, seval, Ap, AS.result, AG, AH, AY]
  rfl

theorem MN (c n : Int) (hn : 0 < n) (hn2 : n ≤ 1000) : ∃ k : Nat, (k : Int) < n ∧ Ak Tryd.prog 10 [AQ c, AQ n] (AQ k) := by
 have hpos : 0 ≤ (if c < 0 then 0 - (c + 1) else c) := by split <;> omega
 have t0 := Int.tmod_nonneg n hpos
 have t1 := Int.tmod_lt_of_pos (if c < 0 then 0 - (c + 1) else c) hn
 have hne : ¬ n = 0 := by omega
 refine ⟨(Int.tmod (if c < 0 then 0 - (c + 1) else c) n).toNat, by omega, ?_⟩
 have ht : (((Int.tmod (if c < 0 then 0 - (c + 1) else c) n).toNat : Nat) : Int) = Int.tmod (if c < 0 then 0 - (c + 1) else c) n := by omega
 rw [ht]
 refine Kg.ac fun C hC => ?_
 unfold G7
 refine IWP.learn 0 (by omega) fun hkn => ?_
 have hk : inR .i64 c := by simpa [AV.known, AC.known, SV.known, AS.start] using hkn
 rw [Ev] at hk
 clear ht
 by_cases h : c < 0
 ·simp only [h, if_true] at t0 t1 ⊢
  repeat' with_reducible first | refine W ?_ | refine Z0 ?_ | ((first | refine Wo fun K hK => ?_ | refine Wp ?_ | refine Wq ?_ | refine Wr ?_); (try simp only [go_sem, fN, seval, eT, iR, h, hne, dT, dF, nL]); (repeat refine Ai ?_); (try (refine hK _ ?_; clear hK K)); try refine iC ?_)
  simp only [go_sem, fN, seval, Ap, AS.result, AG, AH, AY, h]
 ·simp only [h, if_false] at t0 t1 ⊢
  repeat' with_reducible first | refine W ?_ | refine Z0 ?_ | ((first | refine Wo fun K hK => ?_ | refine Wp ?_ | refine Wq ?_ | refine Wr ?_); (try simp only [go_sem, fN, seval, eT, iR, h, hne, dT, dF, nL]); (repeat refine Ai ?_); (try (refine hK _ ?_; clear hK K)); try refine iC ?_)
  simp only [go_sem, fN, seval, Ap, AS.result, AG, AH, AY, h]
theorem NZ (i : Int) : Ak Tryd.prog 6 [AQ i] (aLm (mU i)) := by
 refine MK.ac fun C hC => ?_
 unfold I3
 repeat' with_reducible first | refine W ?_ | refine Z0 ?_ | ((first | refine Wo fun K hK => ?_ | refine Wp ?_ | refine Wq ?_ | refine Wr ?_); (try simp only [go_sem, fN, seval, eT, iR, dT, dF, nL]); (repeat refine Ai ?_); (try (refine hK _ ?_; clear hK K)); try refine iC ?_)
 simp only [go_sem, fN, seval, Ap, AS.result, AG, AH, AY]
 simp [mU, Lm.kind_mk, Lm.idx_mk, Lm.subs_mk]
def cP (i : Int) : Lm := .mk 4 i []
theorem Jp (i : Int) : Ak Tryd.prog 9 [AQ i] (aLm (cP i)) := by
 refine ME.ac fun C hC => ?_
 unfold H_
 repeat' with_reducible first | refine W ?_ | refine Z0 ?_ | ((first | refine Wo fun K hK => ?_ | refine Wp ?_ | refine Wq ?_ | refine Wr ?_); (try simp only [go_sem, fN, seval, eT, iR, dT, dF, nL]); (repeat refine Ai ?_); (try (refine hK _ ?_; clear hK K)); try refine iC ?_)
 simp only [go_sem, fN, seval, Ap, AS.result, AG, AH, AY]
 simp [cP, Lm.kind_mk, Lm.idx_mk, Lm.subs_mk]
def xP : Lm := Lm.a (mU 0) (Lm.v 0)
def Jl (k : Int) : List (Lm × Lm) := [(Lm.l (Lm.a (cP 0) xP), Lm.l (Lm.a (cP 1) xP)), (Lm.l xP, Lm.l (Lm.a (cP k) xP)), (Lm.l (Lm.l (Lm.a (mU 0) (Lm.v 1))), Lm.l (Lm.l (Lm.v 0))), (Lm.l xP, Lm.l (Lm.l xP))]
def Ng : Option (List Lm × Int × Int) → Bool
 | some ([], n, e) => decide (n = 0 ∧ e = 7)
 | _ => false
def Lh (c : Int) : Option (List Lm × Int × Int) → Bool
 | some ([.mk k i []], n, e) => decide (k = 4 ∧ i = c ∧ n = 0 ∧ e = 0)
 | _ => false
theorem M6 {o : Option (List Lm × Int × Int)} (h : Ng o = true) : o = some ([], 0, 7) := by
 unfold Ng at h
 split at h
 ·simp only [decide_eq_true_eq] at h
  rw [h.1, h.2]
 ·cases h
theorem Mn {c : Int} {o : Option (List Lm × Int × Int)} (h : Lh c o = true) : o = some ([cP c], 0, 0) := by
 unfold Lh at h
 split at h
 ·simp only [decide_eq_true_eq] at h
  obtain ⟨rfl, rfl, rfl, rfl⟩ := h
  rfl
 ·cases h
theorem Kl : ((List.range 9).all fun k => Lh ((k : Nat) : Int) (E9 60 1 [(Lm.l xP, Lm.l (Lm.a (cP ((k : Nat) : Int)) (Lm.v 0)))]) && (List.range 4).all fun w => Ng (E9 60 1 [(Jl ((k : Nat) : Int)).getD w (Lm.nil, Lm.nil)])) = true := by decide +kernel
theorem Mx {k w : Nat} (hk : k < 9) (hw : w < 4) : E9 60 1 [(Lm.l xP, Lm.l (Lm.a (cP k) (Lm.v 0)))] = some ([cP k], 0, 0) ∧ E9 60 1 [(Jl k).getD w (Lm.nil, Lm.nil)] = some ([], 0, 7) := by
 have h := Kl
 rw [List.all_eq_true] at h
 have h1 := h k (List.mem_range.2 hk)
 rw [Bool.and_eq_true, List.all_eq_true] at h1
 exact ⟨Mn h1.1, M6 (h1.2 w (List.mem_range.2 hw))⟩
set_option maxRecDepth 100000 in
theorem Jf (which i : Int) : Ak Tryd.prog 3 [AQ which, AQ i] (An true) := by
 obtain ⟨w, hw, pw⟩ := MN which 4 (by decide) (by decide)
 obtain ⟨k, hk, pk⟩ := MN i 9 (by decide) (by decide)
 obtain ⟨hyes, hno⟩ := Mx (k := k) (w := w) (by omega) (by omega)
 have hsame : (cP k).same (cP k) = true := Lm.same_self _
 have cU := NZ 0
 have cV0 := Lc 0
 have cV1 := Lc 1
 have cC0 := Jp 0
 have cC1 := Jp 1
 have cCk := Jp k
 unfold Jl at hno
 unfold xP Lm.v at hno hyes
 generalize mU 0 = u at *
 generalize Lm.mk 1 0 [] = v0 at *
 generalize Lm.mk 1 1 [] = v1 at *
 generalize cP 0 = c0 at *
 generalize cP 1 = c1 at *
 generalize cP k = ck at *
 have cX := FC u v0
 generalize Lm.a u v0 = x at *
 have cA0 := FC c0 x
 have cA1 := FC c1 x
 have cAk := FC ck x
 have cAv := FC ck v0
 have cU1 := FC u v1
 generalize Lm.a c0 x = a0 at *
 generalize Lm.a c1 x = a1 at *
 generalize Lm.a ck x = ak at *
 generalize Lm.a ck v0 = av at *
 generalize Lm.a u v1 = u1 at *
 have f1 := Cu a0
 have f2 := Cu a1
 have f3 := Cu ak
 have f4 := Cu x
 have f5 := Cu u1
 have f6 := Cu v0
 have f7 := Cu av
 generalize Lm.l a0 = l1 at *
 generalize Lm.l a1 = l2 at *
 generalize Lm.l ak = l3 at *
 generalize Lm.l x = l4 at *
 generalize Lm.l u1 = l5 at *
 generalize Lm.l v0 = l6 at *
 generalize Lm.l av = l7 at *
 have g4 := Cu l4
 have g5 := Cu l5
 have g6 := Cu l6
 generalize Lm.l l4 = m4 at *
 generalize Lm.l l5 = m5 at *
 generalize Lm.l l6 = m6 at *
 have hs1 := KS 60 1 _ _ _ _ hyes
 have hget : [H3 (l1, l2), H3 (l4, l3), H3 (m5, m6), H3 (l4, m4)][w]? = some (H3 ([(l1, l2), (l4, l3), (m5, m6), (l4, m4)].getD w (Lm.nil, Lm.nil))) := by
  have hw4 : w < 4 := by omega
  match w, hw4 with
  | 0, _ => rfl
  | 1, _ => rfl
  | 2, _ => rfl
  | 3, _ => rfl
 have hw0 : 0 ≤ (w : Int) := by omega
 generalize [(l1, l2), (l4, l3), (m5, m6), (l4, m4)].getD w (Lm.nil, Lm.nil) = g at *
 obtain ⟨ga, gb⟩ := g
 have hs2 := KS 60 1 _ _ _ _ hno
 simp only [H3] at hget
 have hsm := Mk ck ck
 rw [hsame] at hsm
 refine Cv.ac fun C hC => ?_
 unfold Bv
 repeat' (first | (with_reducible first | refine W ?_ | refine Z0 ?_ | ((first | refine Wo fun K hK => ?_ | refine Wp ?_ | refine Wq ?_ | refine Wr ?_); (try simp only [go_sem, fN, seval, eT, iR, AD, hget, hw, dT, dF, nL]); (repeat refine Ai ?_); (try (refine hK _ ?_; clear hK K)); try refine iC ?_)) | refine Cg _ (cU) ?_ | refine Cg _ (cV0) ?_ | refine Cg _ (cV1) ?_ | refine Cg _ (cC0) ?_ | refine Cg _ (cC1) ?_ | refine Cg _ (cCk) ?_ | refine Cg _ (cX) ?_ | refine Cg _ (cA0) ?_ | refine Cg _ (cA1) ?_ | refine Cg _ (cAk) ?_ | refine Cg _ (cAv) ?_ | refine Cg _ (cU1) ?_ | refine Cg _ (f1) ?_ | refine Cg _ (f2) ?_ | refine Cg _ (f3) ?_ | refine Cg _ (f4) ?_ | refine Cg _ (f5) ?_ | refine Cg _ (f6) ?_ | refine Cg _ (f7) ?_ | refine Cg _ (g4) ?_ | refine Cg _ (g5) ?_ | refine Cg _ (g6) ?_ | refine Cg _ (pw) ?_ | refine Cg _ (pk) ?_ | refine Cg _ (hs1) ?_ | refine Cg _ (hs2) ?_ | refine Cg _ (hsm) ?_)
 simp only [go_sem, fN, seval, Ap, AS.result, AG, AH, AY]

open Go.ChangeShapes Go.WideShapes Go.ChangeAt
section
variable {H : Type} {enc : TypeId × Value → H} {P : Program}
theorem EM (hl : laidOutB P = true) : ∀ {ts : List TypeId} {vs : List Value} {ds : List (DataW H)} {ps : List MemPlace} {W W' : World} {sp : Nat → Bool},
  (∀ t ∈ ts, P.readableRec t = true ∧ t < P.types.size) → DataW.TrodAll enc P W 0 (fun _ => true) true ts vs ds ps → (∀ p ∈ ps, W.sameAt W' p) → (∀ p ∈ ps, sp p.block = true) → DataW.TrodAll enc P W' 0 sp true ts vs ds ps
 | [], [], [], _, _, _, _, _, h, _, _ => h
 | _ :: _, _ :: _, _ :: _, _, _, _, _, hT, ⟨p, q, h1, h2, e⟩, hsame, hs => ⟨p, q, WideElems.Trod_stays hl (hT _ (List.mem_cons.2 (Or.inl rfl))).1 (hT _ (List.mem_cons.2 (Or.inl rfl))).2 h1 (fun x hx => hsame x (by rw [e]; exact List.mem_append_left _ hx)) (fun x hx => hs x (by rw [e]; exact List.mem_append_left _ hx)),
   EM hl (fun t ht => hT t (List.mem_cons.2 (Or.inr ht))) h2 (fun x hx => hsame x (by rw [e]; exact List.mem_append_right _ hx)) (fun x hx => hs x (by rw [e]; exact List.mem_append_right _ hx)), e⟩
 | [], _ :: _, _, _, _, _, _, _, h, _, _ => h.elim
 | [], [], _ :: _, _, _, _, _, _, h, _, _ => h.elim
 | _ :: _, [], _, _, _, _, _, _, h, _, _ => h.elim
 | _ :: _, _ :: _, [], _, _, _, _, _, h, _, _ => h.elim
theorem Lo {f : Func} {s : ChangeSpec} {apart fresh handsOn : Bool} {W W' : World} {args : Array Value} {ds : List (DataW H)} {before : List MemPlace} {tb : TypeId}
  (hW : DataW.Whole enc P f.params.toList s.vars apart W args.toList ds [] before) (hv : s.vars = []) (hr : f.resultTypes = #[tb]) (htb : P.underlying tb = some .bool)
  (hres : (s.fn H (ds ++ [])).results = [.lit (.bool true)]) (hargs : (s.fn H (ds ++ [])).args = ds) (hvs : (s.fn H (ds ++ [])).vars = [])
  (hl : laidOutB P = true) (hT : (f.params.toList.all fun t => P.readableRec t && decide (t < P.types.size)) = true) (hb : Below W.heap.size W W') :
  s.post enc P f apart fresh handsOn false W args (.bool true) W' := by
 have hlt : ∀ p ∈ before, p.block < W.heap.size := fun p hp => hW.lt p hp
 have hT' : ∀ t ∈ f.params.toList, P.readableRec t = true ∧ t < P.types.size := fun t ht => by
  have := List.all_eq_true.1 hT t ht
  simpa using this
 obtain ⟨p, q, hA, hV, rfl, hz, hn⟩ := hW
 rw [hv] at hV
 obtain ⟨_, rfl⟩ := trodVars_none hV
 have hargs' : ∀ sp : Nat → Bool, (∀ x ∈ p, sp x.block = true) → DataW.TrodAll enc P W' 0 sp true f.params.toList args.toList ds p := fun sp hsp =>
  EM hl hT' hA (fun x hx => hb.same (hlt x (by simpa using hx))) hsp
 have hres' : ∀ (b : Nat) (sp : Nat → Bool) (hd : Bool), DataW.TrodAll enc P W' b sp hd f.resultTypes.toList ((Value.bool true).resultList f.resultTypes.size) (s.fn H (ds ++ [])).results [] := fun b sp hd => by
  rw [hres, hr]
  exact trodAll_cons_mk (shut_bool htb true) trodAll_mk0
 refine ⟨ds, [], p ++ [], [], p, [], ⟨p, [], hA, by rw [hv]; exact rfl, rfl, hz, hn⟩, hres' _ _ _, by rw [hargs]; exact hargs' _ (fun x hx => by simpa using hlt x (by simpa using hx)), by rw [hv, hvs]; exact rfl,
  World.keptBut_mono (fun x hx => ⟨hx, Or.inr (by simpa using hx)⟩) (hb.frame (· ∈ p ++ [])), fun h => by cases h⟩
variable {W : World} {sp : Nat → Bool} {hd : Bool} {base : Nat}
def sto (W : World) : Sto := By W
theorem M9 (W : World) : Fit (sto W) W := fun _ _ h => h
theorem MU {t : TypeId} (ht : P.underlying t = some (.int .i64)) (fuel : Nat) (cs : List Value) (x : DataW H × List MemPlace) (h : DataW.trod enc P W base sp hd fuel t cs = some x) : ∃ n : Int, Aa (At (sto W)) cs (DQ n) := by
 obtain ⟨n, rfl, _, hn⟩ := DataW.trod_int ht h
 exact ⟨n, .cons (.int (by rw [Ev]; simpa [Lit.wf, IntKind.min, IntKind.max, IntKind.signed, IntKind.bits] using hn)) .nil⟩
theorem KN {t : TypeId} (ht : P.underlying t = some (.int .i64)) {r : Reach} {b0 : Nat} {v : Value} {d : DataW H} {p : List MemPlace} (hv : Value.okWide P W r b0 t v) (h : DataW.Trod enc P W base sp hd t v d p) : ∃ n : Int, AM (sto W) noS noH v (AQ n) := by
 obtain ⟨n, rfl⟩ := okWide_int ht hv
 obtain ⟨fuel, hf⟩ := h
 obtain ⟨m, hm⟩ := MU ht fuel _ _ hf
 have : Aa (At (sto W)) [.int .i64 n] (DQ m) := hm
 cases this with
 | cons h1 h2 => exact ⟨m, .one (.st h1)⟩
end
theorem H5 {P : Program} {f : FuncId} {xs : List AV} {b : Bool} (h : Ak P f xs (An b)) {σ : Sto} {w : World} {vs : List Value} (hg : Bt σ) (hf : Fit σ w) (hv : Aa (AM σ noS noH) vs xs) :
  Calls P f vs.toArray w fun e w' => e = .returned (.bool b) ∧ Below w.heap.size w w' := (h σ w vs hg hf hv).mono fun e w' ⟨v, σ', he, hv, _, _, hb⟩ => by
 rw [CK hv] at he
 exact ⟨he, hb⟩

theorem J5 {P : Program} {W : World} {x : String × DataW Unit} : ∀ {l : List (String × DataW Unit)} {ps : List MemPlace}, DataW.LaidVars P W l ps → x ∈ l → ∃ q, DataW.LaidVars P W [x] q
 | [], _, _, hx => by simp at hx
 | y :: l, ps, h, hx => by
  obtain ⟨n, d⟩ := y
  obtain ⟨g, t, cs, fuel, p, q, a1, a2, a3, a4, a5, a6⟩ := h
  rcases List.mem_cons.1 hx with rfl | hx
  ·exact ⟨_, g, t, cs, fuel, p, [], a1, a2, a3, a4, rfl, rfl⟩
  ·exact J5 a5 hx
theorem Mb {P : Program} {W : World} {n : String} {g : Nat} {cs : Array Value} (hg : P.globalNamed n = some g) (h : W.var? P n = some cs) : sto W ⟨g, cs.size, some 0⟩ = some .nilFunc := by
 unfold World.var? at h
 rw [hg] at h
 simp only [Option.bind_some] at h
 show By W _ = _
 unfold By
 simp only
 cases hb : W.heap[g]? with
 | none => rw [hb] at h; cases h
 | some o =>
  rw [hb] at h
  cases o <;> simp_all
theorem Lp {P : Program} {W : World} {name : String} {g : Nat} {t e : TypeId} {n : Nat} {k : IntKind} {zs : List Int} (hg : P.globalNamed name = some g) (hty : (P.globals[g]?).map (·.type) = some t) (ht : P.underlying t = some (.array n e)) (he : P.underlying e = some (.int k))
  (hce : P.cellsOf e = 1) (hct : P.cellsOf t = n) (hin : ∀ z ∈ zs, inR k z) {ps : List MemPlace} (h : DataW.LaidVars P W [(name, Lib.tabData k zs)] ps) : Hw (sto W) (g, zs.map fun z => .int k z) := by
 obtain ⟨g0, t0, cs0, f0, p0, q0, hg0, ht0, hv0, hd0, _, _⟩ := h
 obtain rfl := Option.some.inj (hg.symm.trans hg0)
 obtain rfl := Option.some.inj (hty.symm.trans ht0)
 have hc := Lib.cells_of_tab ht he hce hct hd0
 have hs : cs0.size = zs.length := by
  have := congrArg List.length hc
  simpa using this
 refine ⟨⟨fun j => (zs[j]?).elim .nilFunc (.int k), fun j a ha => ?_, fun j a ha => ?_⟩, ?_⟩
 ·rw [List.getElem?_map, Option.map_eq_some_iff] at ha
  obtain ⟨z, hz, rfl⟩ := ha
  have h1 := World.var?_cell hg0 hv0 j
  have h2 : cs0[j]? = some (.int k z) := by
   have h3 := congrArg (fun l : List Value => l[j]?) hc
   simpa [hz] using h3
  show By W _ = _
  rw [Bm rfl, Nat.zero_add, h1, h2]
  simp only [hz, Option.elim]
 ·rw [List.getElem?_map, Option.map_eq_some_iff] at ha
  obtain ⟨z, hz, rfl⟩ := ha
  simp only [hz, Option.elim]
  exact .int (hin z (List.mem_of_getElem? hz))
 ·have := Mb hg0 hv0
  rw [hs] at this
  simpa using this
theorem Nn {zs : List Int} (h : zs.all (fun z => decide (-9223372036854775808 ≤ z) && decide (z ≤ 9223372036854775807)) = true) : ∀ z ∈ zs, inR .i64 z := fun z hz => by
 have := List.all_eq_true.1 h z hz
 rw [Ev]
 simpa using this
theorem Kb {W : World} {ps : List MemPlace} (h : DataW.LaidVars Tryd.prog W [("metaprune/lambda.subs", Rows.laid_metaprune_lambda_subs)] ps) : Hw (sto W) (0, [.int .i64 0, .int .i64 0, .int .i64 1, .int .i64 2, .int .i64 0, .int .i64 0]) := Lp (k := .i64) (zs := [0, 0, 1, 2, 0, 0]) (by kernel_rfl) (by kernel_rfl) Tryd.underlying80 Tryd.underlying3 (by kernel_rfl) (by kernel_rfl) (Nn (by decide)) h

end Go.Proofs.YtcgnojefbalbbaaDoor
namespace Go.Proofs.YtcgnojefbalbbaaDoor.topClash
open Go Go.RowKit Go.ChangeShapes Go.WideShapes Go.ChangeAt
set_option linter.unusedVariables false
theorem M3 {W : World} (h : laidMetH Tryd.prog Rows.topClashRow.laid W) : Bt (sto W) := by
 rw [MakeChecks.laidMetH_plain _ _ _ (by kernel_rfl)] at h
 obtain ⟨ps, h, _, _⟩ := h
 obtain ⟨_, h1⟩ := J5 (x := ("metaprune/lambda.subs", Rows.laid_metaprune_lambda_subs)) h (by simp [Rows.topClashRow])
 intro y hy
 simp only [I0, List.mem_cons, List.not_mem_nil, or_false] at hy
 subst hy
 exact Kb h1
theorem own : ownKnob Tryd.prog.godebug = none := by kernel_rfl
theorem laid : laidOutB Tryd.prog = true := by kernel_rfl
set_option maxRecDepth 100000 in
theorem MA (H : Type) (enc : TypeId × Value → H) (W : World) (base : Nat) (args : Array Value) (ds gs : List (DataW H)) (before : List MemPlace) (hL : laidMetH Tryd.prog Rows.topClashRow.laid W)
  (hval : ∀ (j : Nat) t v, Tryd.f3.params[j]? = some t → args[j]? = some v → Value.okWide Tryd.prog W .any base t v)
  (hW : DataW.Whole enc Tryd.prog Tryd.f3.params.toList Rows.topClashSpec.vars false W args.toList ds gs before) :
  Calls Tryd.prog 3 args W fun e W' => ∃ v, e = .returned v ∧ Rows.topClashSpec.post enc Tryd.prog Tryd.f3 false true false false W args v W' := by
 have hG := M3 hL
 obtain ⟨p, q, hA0, hV, rfl, hfz, hnd⟩ := id hW
 obtain ⟨rfl, rfl⟩ := trodVars_none hV
 have hA : DataW.TrodAll enc Tryd.prog W 0 (fun _ => true) true Tryd.f3.params.toList args.toList ds p := hA0
 rw [Tryd.params3] at hA hval
 obtain ⟨v0, v1, d0, d1, p0, p1, hargs, rfl, rfl, h0, h1⟩ := trodAll_two hA
 obtain rfl : args = #[v0, v1] := by cases args; simp_all
 obtain ⟨m, r0⟩ := KN Tryd.underlying3 (hval 0 3 v0 rfl rfl) h0
 obtain ⟨n, r1⟩ := KN Tryd.underlying3 (hval 1 3 v1 rfl rfl) h1
 refine (H5 (Jf m n) hG (M9 W) (vs := [v0, v1]) (.cons r0 (.cons r1 .nil))).mono fun e W' ⟨he, hb⟩ => ⟨_, he, ?_⟩
 exact Lo hW rfl rfl Tryd.underlying4 rfl rfl rfl laid (by kernel_rfl) hb
theorem Ly (os : Os) (args : Array Value) : laidMetH Tryd.prog Rows.topClashRow.laid ((World.doorLaid Tryd.prog 400 os).forCall (fun _ _ => 0) ⟨#[], args, []⟩).memory :=
 laidMetH_of_parts3 (fuel := 8) (laidMet_of_run' 8 (by kernel_rfl) (by kernel_rfl)) (by kernel_rfl) (by kernel_rfl)
set_option maxRecDepth 100000 in
theorem Nj (os : Os) (started : os.Started) (H : Type) (enc : TypeId × Value → H) :
  ReturnsInHanded {} Tryd.checked os 3 .any (fun w args => (Rows.topClashSpec.pre enc Tryd.prog Tryd.f3 [] false w args ∧ laidMetH Tryd.prog Rows.topClashRow.laid w) ∧ sizedMet enc Tryd.prog Tryd.f3 (OpenSpec.ofChange Rows.topClashSpec) false w args)
   (Rows.topClashSpec.post enc Tryd.prog Tryd.f3 false true false false) := by
 refine returnsInHanded_of_change_and (C := Tryd.checked) (X := fun w _ => laidMetH Tryd.prog Rows.topClashRow.laid w) (fun _ _ _ hh h => h.of_heap hh) own started (by kernel_rfl) Tryd.func3
  (ChangeSpec.witness_shaped (enc := enc) (C := Tryd.checked) (os := os) (X := fun w _ => laidMetH Tryd.prog Rows.topClashRow.laid w) false (World.doorLaid Tryd.prog 400 os) #[.int .i64 0, .int .i64 0] 8 rfl (World.shaped_of_RefB (by kernel_rfl) (by kernel_rfl)) (by kernel_rfl) (by kernel_rfl) (by kernel_rfl) (Ly os _)) ?_
 intro W base args ds gs before hval hW _ _ hL _
 exact MA H enc W base args ds gs before hL hval hW
theorem K3 : Rows.TopClashSaid :=
 OpenClaim.holds_of_wide 3 Tryd.f3 rfl rfl rfl rfl rfl rfl rfl ⟨rfl, rfl, rfl, rfl, rfl⟩ rfl rfl rfl rfl rfl (by kernel_rfl) Tryd.func3 (by kernel_rfl)
  (of_decide_eq_true (by kernel_rfl)) (by unfold Func.isWrapper; first | (rw [if_pos (by decide +kernel)]; kernel_rfl) | (rw [if_neg (by decide +kernel)]; exact ⟨rfl, rfl⟩))
  (fun os started H enc _ => Nj os started H enc)
theorem My : (Tryd.f3.params.toList.all fun t => !Tryd.prog.wantsStandIn t) = true := by kernel_rfl
theorem proved : Rows.TopClashCardSaid :=
 Claim7.holds_tied_plain_at .later [] [.data] true Rows.topClashCard.stood.harness Rows.topClashCard.stood.looks
  K3 (fun _ h => by cases h) (by kernel_rfl) (fun _ h => by cases h) topClash_row_tie rfl ⟨rfl, rfl⟩ (by kernel_rfl) rfl
  (fun f fn hf hfn => by
   obtain rfl : f = 3 := Option.some.inj ((show Tryd.prog.funcNamed "metaprune/metaprunetop.TopClash" = some 3 by kernel_rfl).symm.trans hf) |>.symm
   obtain rfl : fn = Tryd.f3 := (Option.some.inj (Tryd.func3.symm.trans hfn)).symm
   exact ⟨by kernel_rfl, fun j t ht => by
    have h1 := List.all_eq_true.1 My t (by rw [Array.mem_toList_iff]; exact Array.mem_of_getElem? ht)
    have h2 : Tryd.prog.wantsStandIn t = false := by simpa using h1
    exact h2⟩)
  (by kernel_rfl)

end Go.Proofs.YtcgnojefbalbbaaDoor.topClash
