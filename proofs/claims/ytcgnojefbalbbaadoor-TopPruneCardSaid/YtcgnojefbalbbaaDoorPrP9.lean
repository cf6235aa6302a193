/-
  Proved: two unknowns, each of two things out of three, become one of what both have: the law TopPrune returns true; as a tied card. Conditions: none.
-/
import Derived.Test.YtcgnojefbalbbaaDoorPrP8
import Derived.Test.YtcgnojefbalbbaaDoorRows
import Derived.ProofKit
import Derived.OpenShut
import Derived.JoinedCond
import Derived.Deep.Slices
import Derived.Test.YtcgnojefbalbbaaDoorTie
import Derived.Test.YtcgnojefbalbbaaDoorCards
import Derived.LaidMore
import Derived.MakeChecks
import Derived.Stop.Joined
import Derived.Lib.LaidTab
import Derived.Lib.ItoaNum
import Derived.LaidLaws
namespace Go.Proofs.YtcgnojefbalbbaaDoor
open Go Go.RowKit
set_option linter.unusedVariables false
set_option linter.unusedSimpArgs false
set_option maxHeartbeats 16000000
abbrev PL (g : Lm × Lm) : List SV := [.int .i64 g.1.kind, .int .i64 g.1.idx, .list (g.1.subs.map Ac), .int .i64 g.2.kind, .int .i64 g.2.idx, .list (g.2.subs.map Ac)]
abbrev Cu (gs : List (Lm × Lm)) : AV := .one (.st (.list (gs.map PL)))
theorem E6 (g : Lm × Lm) (gs : List (Lm × Lm)) : Cc (g :: gs) = g.1 :: g.2 :: Cc gs := rfl
theorem IS : ∀ gs : List (Lm × Lm), (Cc gs).length = 2 * gs.length
 | [] => rfl
 | g :: gs => by rw [E6, List.length_cons, List.length_cons, List.length_cons, IS gs]; omega
theorem GC : ∀ {gs : List (Lm × Lm)} {k : Nat} {g : Lm × Lm}, gs[k]? = some g → (Cc gs)[2 * k]? = some g.1 ∧ (Cc gs)[2 * k + 1]? = some g.2
 | [], _, _, h => by simp at h
 | g0 :: gs, 0, g, h => by
  simp only [List.getElem?_cons_zero, Option.some.injEq] at h
  subst h
  rw [E6]
  exact ⟨rfl, rfl⟩
 | g0 :: gs, k + 1, g, h => by
  rw [List.getElem?_cons_succ] at h
  have ih := GC h
  rw [E6, show 2 * (k + 1) = 2 * k + 1 + 1 by omega, List.getElem?_cons_succ, List.getElem?_cons_succ, List.getElem?_cons_succ, List.getElem?_cons_succ]
  exact ih
theorem IF (metas : Int) : ∀ {ts : List Lm} {n : Nat} {t : Lm}, Dk metas (ts.take n) = 0 → ts[n]? = some t → (¬ t.may metas 0 = 0 → Dk metas ts = t.may metas 0) ∧ (t.may metas 0 = 0 → 24 < t.size → Dk metas ts = 3) ∧ (t.may metas 0 = 0 → ¬ 24 < t.size → Dk metas (ts.take (n + 1)) = 0)
 | [], _, _, _, h => by simp at h
 | t0 :: ts, 0, t, h0, h => by
  simp only [List.getElem?_cons_zero, Option.some.injEq] at h
  subst h
  refine ⟨fun e => ?_, fun e e2 => ?_, fun e e2 => ?_⟩
  ·rw [Dk, if_pos e]
  ·rw [Dk, if_neg (fun e' => e' e), if_pos e2]
  ·rw [List.take_succ_cons, List.take_zero, Dk, if_neg (fun e' => e' e), if_neg e2]; rfl
 | t0 :: ts, n + 1, t, h0, h => by
  rw [List.getElem?_cons_succ] at h
  rw [List.take_succ_cons, Dk] at h0
  split at h0
  ·rename_i hn; exact absurd h0 hn
  ·rename_i hn
   split at h0
   ·cases h0
   ·rename_i hn2
    have ih := IF metas h0 h
    rw [List.take_succ_cons, Dk, if_neg hn, if_neg hn2, Dk, if_neg hn, if_neg hn2]
    exact ih
theorem Jo (metas : Int) : ∀ {ts : List Lm}, Dk metas ts = 0 → ∀ t ∈ ts, t.may metas 0 = 0 ∧ t.size ≤ 24
 | [], _, t, h => by simp at h
 | t0 :: ts, h0, t, h => by
  rw [Dk] at h0
  split at h0
  ·rename_i hn; exact absurd h0 hn
  ·rename_i hn
   split at h0
   ·cases h0
   ·rename_i hn2
    rcases List.mem_cons.1 h with rfl | h
    ·exact ⟨Decidable.not_not.1 hn, by omega⟩
    ·exact Jo metas h0 t h
theorem IW : ∀ {ts : List Lm} {n : Nat} {t : Lm} {m0 m : List (Int × Int)}, Fv (ts.take n) m0 = (true, m) → ts[n]? = some t → ((FW t m).1 = true → Fv (ts.take (n + 1)) m0 = (true, (FW t m).2)) ∧ ((FW t m).1 = false → (Fv ts m0).1 = false)
 | [], _, _, _, _, _, h => by simp at h
 | t0 :: ts, 0, t, m0, m, h0, h => by
  simp only [List.getElem?_cons_zero, Option.some.injEq] at h
  subst h
  have h0 : (true, m0) = (true, m) := h0
  cases h0
  refine ⟨fun e => ?_, fun e => ?_⟩
  ·rw [List.take_succ_cons, List.take_zero, Fv, if_pos e]; rfl
  ·rw [Fv, if_neg (by rw [e]; simp)]
 | t0 :: ts, n + 1, t, m0, m, h0, h => by
  rw [List.getElem?_cons_succ] at h
  rw [List.take_succ_cons, Fv] at h0
  split at h0
  ·rename_i hn
   have ih := IW h0 h
   rw [List.take_succ_cons, Fv, if_pos hn, Fv, if_pos hn]
   exact ih
  ·cases h0
theorem MC {P : Program} {f : FuncId} {x z : AV} {S : AA} {r : AV} {S' : AA} {xs : List (List SV)} (h : Ag P f [x, .one (.st (.list xs)), z] S r S') : Ag P f [x, .one (.full xs), z] S r S' := by
 intro hc σ w vs ι hg hf ho hv
 refine h hc σ w vs ι hg hf ho ?_
 cases hv with
 | cons h1 hv =>
 cases hv with
 | cons h2 hv =>
 cases hv with
 | cons h3 hv =>
 cases hv
 exact .cons h1 (.cons (.one (.st (B8 (AW h2)))) (.cons h3 .nil))
theorem Ol (metas : Int) (gs : List (Lm × Lm)) : Aa Tryd.prog 17 [AK metas, Cu gs] (AK (FB metas gs)) := by
 refine Ft.ac fun C hC => ?_
 unfold DT
 refine IWP.learn 1 (by omega) fun hkn => ?_
 have hln := Cp hkn
 have hgl : (gs.map PL).length = gs.length := List.length_map _
 rw [hgl] at hln
 unfold FB
 by_cases h1 : metas < 0
 ·rw [if_pos (.inl h1)]
  repeat' with_reducible first | refine W ?_ | refine Z0 ?_ | ((first | refine Wo fun K hK => ?_ | refine Wp ?_ | refine Wq ?_ | refine Wr ?_); (try simp only [go_sem, fN, seval, eT, iR, h1, dT, dF, nL]); (repeat refine Ai ?_); (try (refine hK _ ?_; clear hK K)); try refine iC ?_)
  simp only [go_sem, fN, seval, AY, AS.result, AD, AE, AM]
 by_cases h2 : 4 < metas
 ·rw [if_pos (.inr (.inl h2))]
  repeat' with_reducible first | refine W ?_ | refine Z0 ?_ | ((first | refine Wo fun K hK => ?_ | refine Wp ?_ | refine Wq ?_ | refine Wr ?_); (try simp only [go_sem, fN, seval, eT, iR, h1, h2, dT, dF, nL]); (repeat refine Ai ?_); (try (refine hK _ ?_; clear hK K)); try refine iC ?_)
  simp only [go_sem, fN, seval, AY, AS.result, AD, AE, AM]
 by_cases h3 : 3 < gs.length
 ·rw [if_pos (.inr (.inr h3))]
  have h3' : (3 : Int) < gs.length := by omega
  repeat' with_reducible first | refine W ?_ | refine Z0 ?_ | ((first | refine Wo fun K hK => ?_ | refine Wp ?_ | refine Wq ?_ | refine Wr ?_); (try simp only [go_sem, fN, seval, eT, iR, h1, h2, h3', hgl, dT, dF, nL]); (repeat refine Ai ?_); (try (refine hK _ ?_; clear hK K)); try refine iC ?_)
  simp only [go_sem, fN, seval, AY, AS.result, AD, AE, AM]
 rw [if_neg (by omega)]
 have h3' : ¬ (3 : Int) < gs.length := by omega
 have hfl := IS gs
 generalize hE : (if ¬ Dk metas (Cc gs) = 0 then Dk metas (Cc gs) else if (Fv (Cc gs) []).1 = true then 0 else 2) = E
 repeat' with_reducible first | refine W ?_ | refine Z0 ?_ | ((first | refine Wo fun K hK => ?_ | refine Wp ?_ | refine Wq ?_ | refine Wr ?_); (try simp only [go_sem, fN, seval, eT, iR, h1, h2, h3', hgl, dT, dF, nL]); (repeat refine Ai ?_); (try (refine hK _ ?_; clear hK K)); try refine iC ?_)
 refine IWP.loopD [6] (fun q s => ∃ k, k ≤ gs.length ∧ q = gs.length - k ∧ Dk metas ((Cc gs).take (2 * k)) = 0 ∧ s.env 0 = AK metas ∧ s.env 1 = Cu gs ∧ s.env 26 = Cu gs ∧ s.env 27 = AK gs.length ∧ s.env 28 = AK k ∧ ∀ i ∈ [6, 8, 12, 14, 53], s.S i = none) gs.length
  ⟨0, Nat.zero_le _, rfl, rfl, rfl, rfl, rfl, rfl, rfl, fun i hi => rfl⟩ ?_
 rintro q ⟨env, S⟩ ⟨k, hk, rfl, hck, e0, e1, e26, e27, e28, hno⟩
 simp only at e0 e1 e26 e27 e28 hno
 have o6 := hno 6 (by simp)
 have o8 := hno 8 (by simp)
 have o12 := hno 12 (by simp)
 have o14 := hno 14 (by simp)
 have o53 := hno 53 (by simp)
 by_cases hlt : (k : Int) < gs.length
 ·obtain ⟨g, hg⟩ := Ak (show k < gs.length by omega)
  obtain ⟨hg1, hg2⟩ := GC hg
  repeat' with_reducible first | refine W ?_ | refine Z0 ?_ | ((first | refine Wo fun K hK => ?_ | refine Wp ?_ | refine Wq ?_ | refine Wr ?_); (try simp only [go_sem, fN, seval, eT, iR, e0, e1, e26, e27, e28, o6, hlt, hg, hgl, AB, dT, dF, nL]); (repeat refine Ai ?_); (try (refine hK _ ?_; clear hK K)); try refine iC ?_)
  refine IWP.loopD [8] (fun q s => ∃ p, p ≤ 2 ∧ q = 2 - p ∧ Dk metas ((Cc gs).take (2 * k + p)) = 0 ∧ s.env 0 = AK metas ∧ s.env 1 = Cu gs ∧ s.env 26 = Cu gs ∧ s.env 27 = AK gs.length ∧ s.env 28 = AK k ∧ s.env 36 = .one (.full [Ac g.1, Ac g.2]) ∧ s.env 37 = AK 2 ∧ s.env 38 = AK p ∧ ∀ i ∈ [8, 12, 14, 53], s.S i = none) 2
   ⟨0, Nat.zero_le _, rfl, hck, e0, e1, e26, e27, e28, by (simp only [go_sem, fN, seval, eT, iR, AB]), rfl, rfl, ?_⟩ ?_
  ·intro i hi
   simp only [List.mem_cons, List.not_mem_nil, or_false] at hi
   rcases hi with rfl | rfl | rfl | rfl
   ·exact o8
   ·exact o12
   ·exact o14
   ·exact o53
  clear e0 e1 e26 e27 e28 hno hck o6 o8 o12 o14 o53
  rintro q ⟨env, S⟩ ⟨p, hp, rfl, hck, e0, e1, e26, e27, e28, e36, e37, e38, hno⟩
  simp only at e0 e1 e26 e27 e28 e36 e37 e38 hno
  have o8 := hno 8 (by simp)
  have o12 := hno 12 (by simp)
  have o14 := hno 14 (by simp)
  have o53 := hno 53 (by simp)
  by_cases hlp : (p : Int) < 2
  ·obtain ⟨t, hte, htf⟩ : ∃ t : Lm, ([Ac g.1, Ac g.2])[p]? = some (Ac t) ∧ (Cc gs)[2 * k + p]? = some t := by
    have hp2 : p = 0 ∨ p = 1 := by omega
    rcases hp2 with rfl | rfl
    ·exact ⟨g.1, rfl, hg1⟩
    ·exact ⟨g.2, rfl, hg2⟩
   obtain ⟨c1, c2, c3⟩ := IF metas hck htf
   simp only [AB] at hte
   have hcw := Ba t 0 metas
   have hsz := Ef t
   by_cases hm0 : t.may metas 0 = 0
   ·have hz2 := (Lm.may_ok hm0).2.2.1
    by_cases hz : 24 < t.size
    ·have hzT : (24 : Int) < t.size := by omega
     rw [c2 hm0 hz] at hE
     subst hE
     rw [hm0] at hcw
     repeat' (first | (with_reducible first | refine W ?_ | refine Z0 ?_ | ((first | refine Wo fun K hK => ?_ | refine Wp ?_ | refine Wq ?_ | refine Wr ?_); (try simp only [go_sem, fN, seval, eT, iR, e0, e1, e26, e27, e28, e36, e37, e38, o8, hlp, hte, hzT, AB, dT, dF, nL]); (repeat refine Ai ?_); (try (refine hK _ ?_; clear hK K)); try refine iC ?_)) | refine Cg _ (hcw) ?_ | refine Cg _ (hsz (by omega)) ?_)
     simp only [go_sem, fN, seval, AY, AS.result, AD, AE, AM]
    ·have hzT : ¬ (24 : Int) < t.size := by omega
     have c4 := c3 hm0 hz
     rw [hm0] at hcw
     repeat' (first | (with_reducible first | refine W ?_ | refine Z0 ?_ | ((first | refine Wo fun K hK => ?_ | refine Wp ?_ | refine Wq ?_ | refine Wr ?_); (try simp only [go_sem, fN, seval, eT, iR, e0, e1, e26, e27, e28, e36, e37, e38, o8, hlp, hte, hzT, AB, dT, dF, nL]); (repeat refine Ai ?_); (try (refine hK _ ?_; clear hK K)); try refine iC ?_)) | refine Cg _ (hcw) ?_ | refine Cg _ (hsz (by omega)) ?_)
     refine AH ⟨2 - (p + 1), by omega, p + 1, by omega, rfl, c4, ?_, ?_, ?_, ?_, ?_, ?_, ?_, rfl, ?_⟩
     ·simp only [go_sem, fN, seval, AS.drop, AN, AC.clears, AC.clear, AC.highs, AC.high, Bool.not_false, Bool.true_and, Bool.and_self, AV.purge, AV.purges, AC.purge, AI.purge, List.contains_cons, List.contains_nil, Nat.reduceBEq, Bool.or_self, Bool.or_false, Bool.false_or, Bool.or_true, eT, iR, e0]
     ·simp only [go_sem, fN, seval, AS.drop, AN, AC.clears, AC.clear, AC.highs, AC.high, Bool.not_false, Bool.true_and, Bool.and_self, AV.purge, AV.purges, AC.purge, AI.purge, List.contains_cons, List.contains_nil, Nat.reduceBEq, Bool.or_self, Bool.or_false, Bool.false_or, Bool.or_true, eT, iR, e1]
     ·simp only [go_sem, fN, seval, AS.drop, AN, AC.clears, AC.clear, AC.highs, AC.high, Bool.not_false, Bool.true_and, Bool.and_self, AV.purge, AV.purges, AC.purge, AI.purge, List.contains_cons, List.contains_nil, Nat.reduceBEq, Bool.or_self, Bool.or_false, Bool.false_or, Bool.or_true, eT, iR, e26]
     ·simp only [go_sem, fN, seval, AS.drop, AN, AC.clears, AC.clear, AC.highs, AC.high, Bool.not_false, Bool.true_and, Bool.and_self, AV.purge, AV.purges, AC.purge, AI.purge, List.contains_cons, List.contains_nil, Nat.reduceBEq, Bool.or_self, Bool.or_false, Bool.false_or, Bool.or_true, eT, iR, e27]
     ·simp only [go_sem, fN, seval, AS.drop, AN, AC.clears, AC.clear, AC.highs, AC.high, Bool.not_false, Bool.true_and, Bool.and_self, AV.purge, AV.purges, AC.purge, AI.purge, List.contains_cons, List.contains_nil, Nat.reduceBEq, Bool.or_self, Bool.or_false, Bool.false_or, Bool.or_true, eT, iR, e28]
     ·simp only [go_sem, fN, seval, AS.drop, AN, AC.clears, AC.clear, AC.highs, AC.high, Bool.not_false, Bool.true_and, Bool.and_self, AV.purge, AV.purges, AC.purge, AI.purge, List.contains_cons, List.contains_nil, Nat.reduceBEq, Bool.or_self, Bool.or_false, Bool.false_or, Bool.or_true, eT, iR, e36]
     ·simp only [go_sem, fN, seval, AS.drop, AN, AC.clears, AC.clear, AC.highs, AC.high, Bool.not_false, Bool.true_and, Bool.and_self, AV.purge, AV.purges, AC.purge, AI.purge, List.contains_cons, List.contains_nil, Nat.reduceBEq, Bool.or_self, Bool.or_false, Bool.false_or, Bool.or_true, eT, iR, e37]
     ·simp only [go_sem, fN, seval, AS.drop, AN, AC.clears, AC.clear, AC.highs, AC.high, Bool.not_false, Bool.true_and, Bool.and_self, AV.purge, AV.purges, AC.purge, AI.purge, List.contains_cons, List.contains_nil, Nat.reduceBEq, Bool.or_self, Bool.or_false, Bool.false_or, Bool.or_true, eT, iR, o12, o14, o53]
   ·rw [c1 hm0, if_pos hm0] at hE
    subst hE
    generalize t.may metas 0 = e at *
    repeat' (first | (with_reducible first | refine W ?_ | refine Z0 ?_ | ((first | refine Wo fun K hK => ?_ | refine Wp ?_ | refine Wq ?_ | refine Wr ?_); (try simp only [go_sem, fN, seval, eT, iR, e0, e1, e26, e27, e28, e36, e37, e38, o8, hlp, hte, hm0, AB, dT, dF, nL]); (repeat refine Ai ?_); (try (refine hK _ ?_; clear hK K)); try refine iC ?_)) | refine Cg _ (hcw) ?_)
    simp only [go_sem, fN, seval, AY, AS.result, AD, AE, AM]
  ·have hpe : p = 2 := by omega
   subst hpe
   repeat' with_reducible first | refine W ?_ | refine Z0 ?_ | ((first | refine Wo fun K hK => ?_ | refine Wp ?_ | refine Wq ?_ | refine Wr ?_); (try simp only [go_sem, fN, seval, eT, iR, e0, e1, e26, e27, e28, e36, e37, e38, hlp, dT, dF, nL]); (repeat refine Ai ?_); (try (refine hK _ ?_; clear hK K)); try refine iC ?_)
   refine AH ⟨gs.length - (k + 1), by omega, k + 1, by omega, rfl, hck, ?_, ?_, ?_, ?_, rfl, ?_⟩
   ·simp only [go_sem, fN, seval, AS.drop, AN, AC.clears, AC.clear, AC.highs, AC.high, Bool.not_false, Bool.true_and, Bool.and_self, AV.purge, AV.purges, AC.purge, AI.purge, List.contains_cons, List.contains_nil, Nat.reduceBEq, Bool.or_self, Bool.or_false, Bool.false_or, Bool.or_true, eT, iR, e0]
   ·simp only [go_sem, fN, seval, AS.drop, AN, AC.clears, AC.clear, AC.highs, AC.high, Bool.not_false, Bool.true_and, Bool.and_self, AV.purge, AV.purges, AC.purge, AI.purge, List.contains_cons, List.contains_nil, Nat.reduceBEq, Bool.or_self, Bool.or_false, Bool.false_or, Bool.or_true, eT, iR, e1]
   ·simp only [go_sem, fN, seval, AS.drop, AN, AC.clears, AC.clear, AC.highs, AC.high, Bool.not_false, Bool.true_and, Bool.and_self, AV.purge, AV.purges, AC.purge, AI.purge, List.contains_cons, List.contains_nil, Nat.reduceBEq, Bool.or_self, Bool.or_false, Bool.false_or, Bool.or_true, eT, iR, e26]
   ·simp only [go_sem, fN, seval, AS.drop, AN, AC.clears, AC.clear, AC.highs, AC.high, Bool.not_false, Bool.true_and, Bool.and_self, AV.purge, AV.purges, AC.purge, AI.purge, List.contains_cons, List.contains_nil, Nat.reduceBEq, Bool.or_self, Bool.or_false, Bool.false_or, Bool.or_true, eT, iR, e27]
   ·simp only [go_sem, fN, seval, AS.drop, AN, AC.clears, AC.clear, AC.highs, AC.high, Bool.not_false, Bool.true_and, Bool.and_self, AV.purge, AV.purges, AC.purge, AI.purge, List.contains_cons, List.contains_nil, Nat.reduceBEq, Bool.or_self, Bool.or_false, Bool.false_or, Bool.or_true, eT, iR, o8, o12, o14, o53]
 ·have hke : k = gs.length := by omega
  rw [hke, ← hfl, List.take_length] at hck
  rw [if_neg (fun e => e hck)] at hE
  repeat' with_reducible first | refine W ?_ | refine Z0 ?_ | ((first | refine Wo fun K hK => ?_ | refine Wp ?_ | refine Wq ?_ | refine Wr ?_); (try simp only [go_sem, fN, seval, eT, iR, e0, e1, e26, e27, e28, o53, hlt, hgl, dT, dF, nL]); (repeat refine Ai ?_); (try (refine hK _ ?_; clear hK K)); try refine iC ?_)
  refine IWP.loopD [12] (fun q s => ∃ k m, k ≤ gs.length ∧ q = gs.length - k ∧ Fv ((Cc gs).take (2 * k)) [] = (true, m) ∧ s.env 10 = .one (.mptr 53) ∧ s.env 54 = Cu gs ∧ s.env 55 = AK gs.length ∧ s.env 56 = AK k ∧ s.S 53 = some (Bb m) ∧ s.S 12 = none ∧ s.S 14 = none) gs.length
   ⟨0, [], Nat.zero_le _, rfl, rfl, rfl, rfl, rfl, rfl, rfl, o12, o14⟩ ?_
  clear e0 e1 e26 e27 e28 hno o6 o8 o12 o14 o53 hke hlt hk
  rintro q ⟨env, S⟩ ⟨k, m, hk, rfl, hfk, e10, e54, e55, e56, s53, o12, o14⟩
  simp only at e10 e54 e55 e56 s53 o12 o14
  by_cases hlt : (k : Int) < gs.length
  ·obtain ⟨g, hg⟩ := Ak (show k < gs.length by omega)
   obtain ⟨hg1, hg2⟩ := GC hg
   repeat' with_reducible first | refine W ?_ | refine Z0 ?_ | ((first | refine Wo fun K hK => ?_ | refine Wp ?_ | refine Wq ?_ | refine Wr ?_); (try simp only [go_sem, fN, seval, eT, iR, e10, e54, e55, e56, s53, o12, hlt, hg, hgl, AB, dT, dF, nL]); (repeat refine Ai ?_); (try (refine hK _ ?_; clear hK K)); try refine iC ?_)
   refine IWP.loopD [14] (fun q s => ∃ p m, p ≤ 2 ∧ q = 2 - p ∧ Fv ((Cc gs).take (2 * k + p)) [] = (true, m) ∧ s.env 10 = .one (.mptr 53) ∧ s.env 54 = Cu gs ∧ s.env 55 = AK gs.length ∧ s.env 56 = AK k ∧ s.env 64 = .one (.full [Ac g.1, Ac g.2]) ∧ s.env 65 = AK 2 ∧ s.env 66 = AK p ∧ s.S 53 = some (Bb m) ∧ s.S 14 = none) 2
    ⟨0, m, Nat.zero_le _, rfl, hfk, e10, e54, e55, e56, by (simp only [go_sem, fN, seval, eT, iR, AB]), rfl, rfl, s53, o14⟩ ?_
   clear e10 e54 e55 e56 s53 o12 o14 hfk m
   rintro q ⟨env, S⟩ ⟨p, m, hp, rfl, hfk, e10, e54, e55, e56, e64, e65, e66, s53, o14⟩
   simp only at e10 e54 e55 e56 e64 e65 e66 s53 o14
   by_cases hlp : (p : Int) < 2
   ·obtain ⟨t, hte, htf⟩ : ∃ t : Lm, ([Ac g.1, Ac g.2])[p]? = some (Ac t) ∧ (Cc gs)[2 * k + p]? = some t := by
     have hp2 : p = 0 ∨ p = 1 := by omega
     rcases hp2 with rfl | rfl
     ·exact ⟨g.1, rfl, hg1⟩
     ·exact ⟨g.2, rfl, hg2⟩
    obtain ⟨c1, c2⟩ := IW hfk htf
    obtain ⟨hm0, hz24⟩ := Jo metas hck t (AJ htf)
    have hwt := Lm.wf_chk t _ (Lm.may_ok hm0).2.2.2
    simp only [AB] at hte
    have hfm := fun (U : AA) (hU : U (up1 53) = some (Bb m)) => MC (Pc t.size t [] m (up1 53) U hwt (Nat.le_refl _) (by simp only [List.length_nil]; omega) (BE _) hU)
    change ∀ U : AA, _ → Ag _ _ _ U (An (FW t m).1) (AO U (up1 53) (some (Bb (FW t m).2))) at hfm
    cases hr : FW t m with
    | mk r m2 =>
     rw [hr] at hfm c1 c2
     repeat' with_reducible first | refine W ?_ | refine Z0 ?_ | ((first | refine Wo fun K hK => ?_ | refine Wp ?_ | refine Wq ?_ | refine Wr ?_); (try simp only [go_sem, fN, seval, eT, iR, e10, e54, e55, e56, e64, e65, e66, s53, o14, hlp, hte, AB, dT, dF, nL]); (repeat refine Ai ?_); (try (refine hK _ ?_; clear hK K)); try refine iC ?_)
     refine ⟨_, _, hfm _ (by rw [A_]; (simp only [go_sem, fN, seval, eT, iR, s53])), ?_⟩
     cases r with
     | false =>
      rw [if_neg (by rw [c2 rfl]; simp)] at hE
      subst hE
      repeat' with_reducible first | refine W ?_ | refine Z0 ?_ | ((first | refine Wo fun K hK => ?_ | refine Wp ?_ | refine Wq ?_ | refine Wr ?_); (try simp only [go_sem, fN, seval, eT, iR, e10, e54, e55, e56, e64, e65, e66, s53, o14, hlp, hte, AB, dT, dF, nL]); (repeat refine Ai ?_); (try (refine hK _ ?_; clear hK K)); try refine iC ?_)
      simp only [go_sem, fN, seval, AY, AS.result, AD, AE, AM]
     | true =>
      have c3 := c1 rfl
      repeat' with_reducible first | refine W ?_ | refine Z0 ?_ | ((first | refine Wo fun K hK => ?_ | refine Wp ?_ | refine Wq ?_ | refine Wr ?_); (try simp only [go_sem, fN, seval, eT, iR, e10, e54, e55, e56, e64, e65, e66, s53, o14, hlp, hte, AB, dT, dF, nL]); (repeat refine Ai ?_); (try (refine hK _ ?_; clear hK K)); try refine iC ?_)
      refine AH ⟨2 - (p + 1), by omega, p + 1, m2, by omega, rfl, c3, ?_, ?_, ?_, ?_, ?_, ?_, rfl, ?_, rfl⟩
      ·simp only [go_sem, fN, seval, AS.drop, AN, AC.clears, AC.clear, AC.highs, AC.high, Bool.not_false, Bool.true_and, Bool.and_self, AV.purge, AV.purges, AC.purge, AI.purge, List.contains_cons, List.contains_nil, Nat.reduceBEq, Bool.or_self, Bool.or_false, Bool.false_or, Bool.or_true, eT, iR, e10]
      ·simp only [go_sem, fN, seval, AS.drop, AN, AC.clears, AC.clear, AC.highs, AC.high, Bool.not_false, Bool.true_and, Bool.and_self, AV.purge, AV.purges, AC.purge, AI.purge, List.contains_cons, List.contains_nil, Nat.reduceBEq, Bool.or_self, Bool.or_false, Bool.false_or, Bool.or_true, eT, iR, e54]
      ·simp only [go_sem, fN, seval, AS.drop, AN, AC.clears, AC.clear, AC.highs, AC.high, Bool.not_false, Bool.true_and, Bool.and_self, AV.purge, AV.purges, AC.purge, AI.purge, List.contains_cons, List.contains_nil, Nat.reduceBEq, Bool.or_self, Bool.or_false, Bool.false_or, Bool.or_true, eT, iR, e55]
      ·simp only [go_sem, fN, seval, AS.drop, AN, AC.clears, AC.clear, AC.highs, AC.high, Bool.not_false, Bool.true_and, Bool.and_self, AV.purge, AV.purges, AC.purge, AI.purge, List.contains_cons, List.contains_nil, Nat.reduceBEq, Bool.or_self, Bool.or_false, Bool.false_or, Bool.or_true, eT, iR, e56]
      ·simp only [go_sem, fN, seval, AS.drop, AN, AC.clears, AC.clear, AC.highs, AC.high, Bool.not_false, Bool.true_and, Bool.and_self, AV.purge, AV.purges, AC.purge, AI.purge, List.contains_cons, List.contains_nil, Nat.reduceBEq, Bool.or_self, Bool.or_false, Bool.false_or, Bool.or_true, eT, iR, e64]
      ·simp only [go_sem, fN, seval, AS.drop, AN, AC.clears, AC.clear, AC.highs, AC.high, Bool.not_false, Bool.true_and, Bool.and_self, AV.purge, AV.purges, AC.purge, AI.purge, List.contains_cons, List.contains_nil, Nat.reduceBEq, Bool.or_self, Bool.or_false, Bool.false_or, Bool.or_true, eT, iR, e65]
      ·simp only [go_sem, fN, seval, AS.drop, AN, AC.clears, AC.clear, AC.highs, AC.high, Bool.not_false, Bool.true_and, Bool.and_self, AV.purge, AV.purges, AC.purge, AI.purge, List.contains_cons, List.contains_nil, Nat.reduceBEq, Bool.or_self, Bool.or_false, Bool.false_or, Bool.or_true, eT, iR]
   ·have hpe : p = 2 := by omega
    subst hpe
    repeat' with_reducible first | refine W ?_ | refine Z0 ?_ | ((first | refine Wo fun K hK => ?_ | refine Wp ?_ | refine Wq ?_ | refine Wr ?_); (try simp only [go_sem, fN, seval, eT, iR, e10, e54, e55, e56, e64, e65, e66, hlp, dT, dF, nL]); (repeat refine Ai ?_); (try (refine hK _ ?_; clear hK K)); try refine iC ?_)
    refine AH ⟨gs.length - (k + 1), by omega, k + 1, m, by omega, rfl, hfk, ?_, ?_, ?_, rfl, ?_, ?_, ?_⟩
    ·simp only [go_sem, fN, seval, AS.drop, AN, AC.clears, AC.clear, AC.highs, AC.high, Bool.not_false, Bool.true_and, Bool.and_self, AV.purge, AV.purges, AC.purge, AI.purge, List.contains_cons, List.contains_nil, Nat.reduceBEq, Bool.or_self, Bool.or_false, Bool.false_or, Bool.or_true, eT, iR, e10]
    ·simp only [go_sem, fN, seval, AS.drop, AN, AC.clears, AC.clear, AC.highs, AC.high, Bool.not_false, Bool.true_and, Bool.and_self, AV.purge, AV.purges, AC.purge, AI.purge, List.contains_cons, List.contains_nil, Nat.reduceBEq, Bool.or_self, Bool.or_false, Bool.false_or, Bool.or_true, eT, iR, e54]
    ·simp only [go_sem, fN, seval, AS.drop, AN, AC.clears, AC.clear, AC.highs, AC.high, Bool.not_false, Bool.true_and, Bool.and_self, AV.purge, AV.purges, AC.purge, AI.purge, List.contains_cons, List.contains_nil, Nat.reduceBEq, Bool.or_self, Bool.or_false, Bool.false_or, Bool.or_true, eT, iR, e55]
    ·simp only [go_sem, fN, seval, AS.drop, AN, AC.clears, AC.clear, AC.highs, AC.high, Bool.not_false, Bool.true_and, Bool.and_self, AV.purge, AV.purges, AC.purge, AI.purge, List.contains_cons, List.contains_nil, Nat.reduceBEq, Bool.or_self, Bool.or_false, Bool.false_or, Bool.or_true, eT, iR, s53]
    ·rfl
    ·simp only [go_sem, fN, seval, AS.drop, AN, AC.clears, AC.clear, AC.highs, AC.high, Bool.not_false, Bool.true_and, Bool.and_self, AV.purge, AV.purges, AC.purge, AI.purge, List.contains_cons, List.contains_nil, Nat.reduceBEq, Bool.or_self, Bool.or_false, Bool.false_or, Bool.or_true, eT, iR, o14]
  ·have hke : k = gs.length := by omega
   rw [hke, ← hfl, List.take_length] at hfk
   rw [hfk] at hE
   simp only [if_true] at hE
   subst hE
   repeat' with_reducible first | refine W ?_ | refine Z0 ?_ | ((first | refine Wo fun K hK => ?_ | refine Wp ?_ | refine Wq ?_ | refine Wr ?_); (try simp only [go_sem, fN, seval, eT, iR, e10, e54, e55, e56, hlt, dT, dF, nL]); (repeat refine Ai ?_); (try (refine hK _ ?_; clear hK K)); try refine iC ?_)
   simp only [go_sem, fN, seval, AY, AS.result, AD, AE, AM]

theorem Mw {T : AA} {Kn K' : List Lm} : upS (Bw T [(23, Ap 21 Kn.length, Ap 21 K'.length), (21, Aj Kn, Aj K')]) = CR (upS T) K' := by
 show upS (AO (AO T 23 (some (Ap 21 K'.length))) 21 (some (Aj K'))) = _
 rw [C7, C7]
 rfl
theorem Om {f : Nat} {Kn K' : List Lm} {a b : Lm} {r : Bool} (h : FG f Kn a b = some (K', r)) (T : AA) (hT : EH T [(23, Ap 21 Kn.length, Ap 21 K'.length), (21, Aj Kn, Aj K')]) :
  Ag Tryd.prog 18 [.one (.ptr (up1 23) 1 0 0), aLm a, aLm b] (upS T) (An r) (upS (Bw T [(23, Ap 21 Kn.length, Ap 21 K'.length), (21, Aj Kn, Aj K')])) := by
 have t23 := hT (23, Ap 21 Kn.length, Ap 21 K'.length) (by simp)
 have t21 := hT (21, Aj Kn, Aj K') (by simp)
 simp only at t23 t21
 rw [Mw]
 exact PT f (upS T) Kn K' a b r h (by show upS T (up1 23) = _; rw [A_, t23]; rfl) (by show upS T (up1 21) = _; rw [A_, t21]; rfl)
theorem NO {t : Lm} (hz : t.size ≤ 100000) {es : List (Int × Int)} (hl : es.length + t.size ≤ 900000) (T : AA) (hT : EH T [(38, Bb es, Bb (nmP t es).2)]) :
  Ag Tryd.prog 19 [aLm t, .one (.mptr (up1 38))] (upS T) (aLm (nmP t es).1) (upS (Bw T [(38, Bb es, Bb (nmP t es).2)])) := by
 have t38 := Lg hT
 show Ag _ _ _ _ _ (upS (AO T 38 (some (Bb (nmP t es).2))))
 rw [C7]
 exact O3 t hz (up1 38) es (upS T) (BE _) hl (by rw [A_, t38]; exact OM es)
theorem NE {f : Nat} {Kn : List Lm} {t u : Lm} (h : ES f Kn t = some u) (T : AA) (hT : ∀ q ∈ [(23, Ap 21 Kn.length), (21, Aj Kn)], T q.1 = some q.2) :
  Ag Tryd.prog 21 [.one (.ptr (up1 23) 1 0 0), aLm t] (upS T) (aLm u) (upS T) :=
 Oz f (upS T) (up1 23) (up1 21) (BE _) (BE _) Kn t u h (by rw [A_, hT (23, Ap 21 Kn.length) (by simp)]; rfl) (by rw [A_, hT (21, Aj Kn) (by simp)]; rfl)
theorem O7 (f : Nat) (metas : Int) (gs : List (Lm × Lm)) (l : List Lm) (n e : Int) (h : LI f metas gs = some (l, n, e)) : Aa Tryd.prog 11 [AK metas, Cu gs] (.tup [A1 l, AK n, AK e]) := by
 refine F0.ac fun C hC => ?_
 unfold DH
 refine IWP.learn 1 (by omega) fun hkn => ?_
 have hln := Cp hkn
 have hgl : (gs.map PL).length = gs.length := List.length_map _
 rw [hgl] at hln
 have hck := Ol metas gs
 unfold LI at h
 by_cases h0 : FB metas gs = 0
 ·rw [if_neg (fun e => e h0)] at h
  rw [h0] at hck
  have hm : 0 ≤ metas ∧ metas ≤ 4 ∧ gs.length ≤ 3 := by
   unfold FB at h0
   split at h0
   ·cases h0
   ·rename_i hn; omega
  obtain ⟨m, rfl⟩ : ∃ m : Nat, metas = (m : Int) := ⟨metas.toNat, by omega⟩
  rw [Int.toNat_natCast] at h
  have hm0 : (0 : Int) ≤ (m : Int) := by omega
  have hm4 : m ≤ 4 := by omega
  have hmz : ¬ (m : Int) < 0 := by omega
  repeat' (first | (with_reducible first | refine W ?_ | refine Z0 ?_ | ((first | refine Wo fun K hK => ?_ | refine Wp ?_ | refine Wq ?_ | refine Wr ?_); (try simp only [go_sem, fN, seval, eT, iR, hgl, hm0, hmz, dT, dF, nL]); (repeat refine Ai ?_); (try (refine hK _ ?_; clear hK K)); try refine iC ?_)) | refine Cg _ (hck) ?_)
  refine IWP.loopD [10] (fun q s => ∃ k Kn, k ≤ gs.length ∧ q = gs.length - k ∧ F7 f Kn (gs.drop k) = F7 f (List.replicate m .nil) gs ∧ s.env 0 = AK m ∧ s.env 8 = .one (.ptr 23 1 0 0) ∧ s.env 24 = Cu gs ∧ s.env 25 = AK gs.length ∧ s.env 26 = AK k ∧ s.S 23 = some (Ap 21 Kn.length) ∧ s.S 21 = some (Aj Kn) ∧ ∀ i ∈ [10, 38, 110], s.S i = none) gs.length
   ⟨0, List.replicate m .nil, Nat.zero_le _, rfl, rfl, rfl, rfl, rfl, rfl, rfl, by (simp only [go_sem, fN, seval, eT, iR, Ap, List.length_replicate]), by (simp only [go_sem, fN, seval, eT, iR, Aj, List.map_replicate, Kh]), by simp [AS.drop, AS.set, AO, noS, AN]⟩ ?_
  rintro q ⟨env, S⟩ ⟨k, Kn, hk, rfl, hjk, e0, e8, e24, e25, e26, s23, s21, hno⟩
  simp only at e0 e8 e24 e25 e26 s23 s21 hno
  have o10 := hno 10 (by simp)
  have o38 := hno 38 (by simp)
  have o110 := hno 110 (by simp)
  rw [← hjk] at h
  by_cases hlt : (k : Int) < gs.length
  ·obtain ⟨g, hg⟩ := Ak (show k < gs.length by omega)
   have hdr : gs.drop k = g :: gs.drop (k + 1) := by
    obtain ⟨hlk, hak⟩ := List.getElem?_eq_some_iff.1 hg
    rw [List.drop_eq_getElem_cons hlk, hak]
   rw [hdr, F7] at h hjk
   cases hj : FG f Kn g.1 g.2 with
   | none => rw [hj] at h; cases h
   | some pr =>
    obtain ⟨K2, bo⟩ := pr
    rw [hj] at h hjk
    repeat' with_reducible first | refine W ?_ | refine Z0 ?_ | ((first | refine Wo fun K hK => ?_ | refine Wp ?_ | refine Wq ?_ | refine Wr ?_); (try simp only [go_sem, fN, seval, eT, iR, e0, e8, e24, e25, e26, s23, s21, o10, hlt, hg, hgl, AB, dT, dF, nL]); (repeat refine Ai ?_); (try (refine hK _ ?_; clear hK K)); try refine iC ?_)
    refine ⟨_, _, ?_, Om hj, ?_⟩
    ·exact NP (by (simp only [go_sem, fN, seval, eT, iR, s23])) (by (simp only [go_sem, fN, seval, eT, iR, s21]))
    cases bo with
    | false =>
     simp only [Option.some.injEq, Prod.mk.injEq] at h
     obtain ⟨rfl, rfl, rfl⟩ := h
     repeat' with_reducible first | refine W ?_ | refine Z0 ?_ | ((first | refine Wo fun K hK => ?_ | refine Wp ?_ | refine Wq ?_ | refine Wr ?_); (try simp only [go_sem, fN, seval, eT, iR, e0, e8, e24, e25, e26, hlt, dT, dF, nL]); (repeat refine Ai ?_); (try (refine hK _ ?_; clear hK K)); try refine iC ?_)
     simp only [go_sem, fN, seval, AY, AS.result, AD, AE, AM]
     rfl
    | true =>
     simp only at h hjk
     repeat' with_reducible first | refine W ?_ | refine Z0 ?_ | ((first | refine Wo fun K hK => ?_ | refine Wp ?_ | refine Wq ?_ | refine Wr ?_); (try simp only [go_sem, fN, seval, eT, iR, e0, e8, e24, e25, e26, hlt, dT, dF, nL]); (repeat refine Ai ?_); (try (refine hK _ ?_; clear hK K)); try refine iC ?_)
     refine AH ⟨gs.length - (k + 1), by omega, k + 1, K2, by omega, rfl, hjk, ?_, ?_, ?_, ?_, rfl, ?_, ?_, rfl, ?_⟩
     ·simp only [go_sem, fN, seval, AS.drop, AN, AC.clears, AC.clear, AC.highs, AC.high, Bool.not_false, Bool.true_and, Bool.and_self, AV.purge, AV.purges, AC.purge, AI.purge, List.contains_cons, List.contains_nil, Nat.reduceBEq, Bool.or_self, Bool.or_false, Bool.false_or, Bool.or_true, eT, iR, e0]
     ·simp only [go_sem, fN, seval, AS.drop, AN, AC.clears, AC.clear, AC.highs, AC.high, Bool.not_false, Bool.true_and, Bool.and_self, AV.purge, AV.purges, AC.purge, AI.purge, List.contains_cons, List.contains_nil, Nat.reduceBEq, Bool.or_self, Bool.or_false, Bool.false_or, Bool.or_true, eT, iR, e8]
     ·simp only [go_sem, fN, seval, AS.drop, AN, AC.clears, AC.clear, AC.highs, AC.high, Bool.not_false, Bool.true_and, Bool.and_self, AV.purge, AV.purges, AC.purge, AI.purge, List.contains_cons, List.contains_nil, Nat.reduceBEq, Bool.or_self, Bool.or_false, Bool.false_or, Bool.or_true, eT, iR, e24]
     ·simp only [go_sem, fN, seval, AS.drop, AN, AC.clears, AC.clear, AC.highs, AC.high, Bool.not_false, Bool.true_and, Bool.and_self, AV.purge, AV.purges, AC.purge, AI.purge, List.contains_cons, List.contains_nil, Nat.reduceBEq, Bool.or_self, Bool.or_false, Bool.false_or, Bool.or_true, eT, iR, e25]
     ·simp only [go_sem, fN, seval, AS.drop, AN, AC.clears, AC.clear, AC.highs, AC.high, Bool.not_false, Bool.true_and, Bool.and_self, AV.purge, AV.purges, AC.purge, AI.purge, List.contains_cons, List.contains_nil, Nat.reduceBEq, Bool.or_self, Bool.or_false, Bool.false_or, Bool.or_true, eT, iR]
     ·simp only [go_sem, fN, seval, AS.drop, AN, AC.clears, AC.clear, AC.highs, AC.high, Bool.not_false, Bool.true_and, Bool.and_self, AV.purge, AV.purges, AC.purge, AI.purge, List.contains_cons, List.contains_nil, Nat.reduceBEq, Bool.or_self, Bool.or_false, Bool.false_or, Bool.or_true, eT, iR]
     ·simp only [go_sem, fN, seval, AS.drop, AN, AC.clears, AC.clear, AC.highs, AC.high, Bool.not_false, Bool.true_and, Bool.and_self, AV.purge, AV.purges, AC.purge, AI.purge, List.contains_cons, List.contains_nil, Nat.reduceBEq, Bool.or_self, Bool.or_false, Bool.false_or, Bool.or_true, eT, iR, o38, o110]
  ·have hke : k = gs.length := by omega
   rw [hke, List.drop_length, F7] at h
   simp only at h
   cases hout : L8 f Kn (List.range m) [] with
   | none => rw [hout] at h; cases h
   | some pr =>
    obtain ⟨lF, esF⟩ := pr
    rw [hout] at h
    simp only [Option.some.injEq, Prod.mk.injEq] at h
    obtain ⟨rfl, rfl, rfl⟩ := h
    clear hjk
    have hrl : (List.range m).length = m := List.length_range
    repeat' with_reducible first | refine W ?_ | refine Z0 ?_ | ((first | refine Wo fun K hK => ?_ | refine Wp ?_ | refine Wq ?_ | refine Wr ?_); (try simp only [go_sem, fN, seval, eT, iR, e0, e8, e24, e25, e26, s23, s21, o38, hlt, dT, dF, nL]); (repeat refine Ai ?_); (try (refine hK _ ?_; clear hK K)); try refine iC ?_)
    refine IWP.ghost (As.own 11 110 24 3 (xs := ([] : List (List SV))) rfl (by simp only [go_sem, fN, seval, eT, iR, o110]) (by simp) (by omega)) ?_
    refine IWP.loop (fun q s => ∃ k es l1 l2, k ≤ m ∧ q = m - k ∧ L8 f Kn ((List.range m).drop k) es = some (l2, esF) ∧ lF = l1 ++ l2 ∧ l1.length = k ∧ es.length ≤ 1000 * k ∧ s.env 8 = .one (.ptr 23 1 0 0) ∧ s.env 11 = .one (.row 110 k) ∧ s.env 12 = .one (.mptr 38) ∧ s.env 39 = AK m ∧ s.env 40 = AK k ∧ s.S 23 = some (Ap 21 Kn.length) ∧ s.S 21 = some (Aj Kn) ∧ s.S 38 = some (Bb es) ∧ s.S 110 = some (.arow 24 3 (l1.map Ac))) m
     ⟨0, [], [], lF, Nat.zero_le _, rfl, hout, rfl, rfl, Nat.le_refl _, e8, rfl, rfl, rfl, rfl, s23, s21, rfl, rfl⟩ ?_
    clear e0 e8 e24 e25 e26 s23 s21 hno o10 o38 o110 hout hke hlt hk
    rintro q ⟨env, S⟩ ⟨k, es, l1, l2, hk, rfl, hout, hl, hl1, hes, e8, e11, e12, e39, e40, s23, s21, s38, s110⟩
    simp only at e8 e11 e12 e39 e40 s23 s21 s38 s110
    have hl1l : (l1.map Ac).length = k := by rw [List.length_map, hl1]
    by_cases hlt : (k : Int) < m
    ·have hdr : (List.range m).drop k = k :: (List.range m).drop (k + 1) := by
      rw [List.drop_eq_getElem_cons (by rw [hrl]; omega), List.getElem_range]
     rw [hdr, L8] at hout
     cases hw : ES f Kn (mU k) with
     | none => rw [hw] at hout; cases hout
     | some t =>
      rw [hw] at hout
      simp only at hout
      split at hout
      ·rename_i hok
       obtain ⟨hok1, hz1⟩ := hok
       obtain ⟨hgd, hsz⟩ := Cd hok1
       have hwf := Hi hok1
       have hshort := Kt t hwf hgd (by omega)
       generalize t.eta1 = t1 at *
       simp only [Option.map_eq_some_iff, Prod.mk.injEq] at hout
       obtain ⟨⟨l3, es3⟩, hout, rfl, rfl⟩ := hout
       have hnl := L3 t1 es
       have hnm := fun T hT => NO (t := t1) (by omega) (es := es) (by omega) T hT
       have hM := Pl k
       generalize mU k = u at *
       cases hnp : nmP t1 es with
       | mk y es2 =>
       rw [hnp] at hnm hnl hout hl
       simp only at hnm hnl hout hl
       repeat' (first | (with_reducible first | refine W ?_ | refine Z0 ?_ | ((first | refine Wo fun K hK => ?_ | refine Wp ?_ | refine Wq ?_ | refine Wr ?_); (try simp only [go_sem, fN, seval, eT, iR, e8, e11, e12, e39, e40, s23, s21, s38, s110, hlt, hl1l, AB, dT, dF, nL]); (repeat refine Ai ?_); (try (refine hK _ ?_; clear hK K)); try refine iC ?_)) | refine Cg _ (hM) ?_ | refine Cg _ (hshort) ?_)
       refine ⟨_, _, Cw (by simp only [go_sem, fN, seval, eT, iR, s23]) (by simp only [go_sem, fN, seval, eT, iR, s21]), NE hw, ?_⟩
       repeat' (first | (with_reducible first | refine W ?_ | refine Z0 ?_ | ((first | refine Wo fun K hK => ?_ | refine Wp ?_ | refine Wq ?_ | refine Wr ?_); (try simp only [go_sem, fN, seval, eT, iR, e8, e11, e12, e39, e40, s23, s21, s38, s110, hlt, hl1l, AB, dT, dF, nL]); (repeat refine Ai ?_); (try (refine hK _ ?_; clear hK K)); try refine iC ?_)) | refine Cg _ (hM) ?_ | refine Cg _ (hshort) ?_)
       refine ⟨_, _, KE s38, hnm, ?_⟩
       repeat' (first | (with_reducible first | refine W ?_ | refine Z0 ?_ | ((first | refine Wo fun K hK => ?_ | refine Wp ?_ | refine Wq ?_ | refine Wr ?_); (try simp only [go_sem, fN, seval, eT, iR, e8, e11, e12, e39, e40, s23, s21, s38, s110, hlt, hl1l, AB, dT, dF, nL]); (repeat refine Ai ?_); (try (refine hK _ ?_; clear hK K)); try refine iC ?_)) | refine Cg _ (hM) ?_ | refine Cg _ (hshort) ?_)
       refine AH ⟨m - (k + 1), by omega, k + 1, es2, l1 ++ [y], l3, by omega, rfl, hout, by rw [hl]; simp, by simp [hl1], by omega, e8, ?_, e12, e39, rfl, s23, s21, ?_, ?_⟩
       ·rfl
       ·simp only [go_sem, fN, seval, eT, iR]
       ·rw [List.map_append]
        simp only [go_sem, fN, seval, eT, iR, AB]
      ·cases hout
    ·have hke : k = m := by omega
     have hdl : (List.range m).drop m = [] := List.drop_eq_nil_of_le (by rw [hrl]; exact Nat.le_refl _)
     rw [hke, hdl, L8] at hout
     simp only [Option.some.injEq, Prod.mk.injEq] at hout
     obtain ⟨rfl, rfl⟩ := hout
     rw [List.append_nil] at hl
     subst hl
     have hml : (es.map fun p => ((.i p.1 : KV), AK p.2)).length = es.length := List.length_map _
     repeat' with_reducible first | refine W ?_ | refine Z0 ?_ | ((first | refine Wo fun K hK => ?_ | refine Wp ?_ | refine Wq ?_ | refine Wr ?_); (try simp only [go_sem, fN, seval, eT, iR, e8, e11, e12, e39, e40, s23, s21, s38, s110, hlt, hml, By, dT, dF, nL]); (repeat refine Ai ?_); (try (refine hK _ ?_; clear hK K)); try refine iC ?_)
     simp only [go_sem, fN, seval, AY, AS.result, AD, AE, AM, s110, hl1l]
 ·rw [if_pos h0] at h
  simp only [Option.some.injEq, Prod.mk.injEq] at h
  obtain ⟨rfl, rfl, rfl⟩ := h
  generalize FB metas gs = e at *
  repeat' (first | (with_reducible first | refine W ?_ | refine Z0 ?_ | ((first | refine Wo fun K hK => ?_ | refine Wp ?_ | refine Wq ?_ | refine Wr ?_); (try simp only [go_sem, fN, seval, eT, iR, h0, dT, dF, nL]); (repeat refine Ai ?_); (try (refine hK _ ?_; clear hK K)); try refine iC ?_)) | refine Cg _ (hck) ?_)
  simp only [go_sem, fN, seval, AY, AS.result, AD, AE, AM]
  rfl

theorem JK (c n : Int) (hn : 0 < n) (hn2 : n ≤ 1000) : ∃ k : Nat, (k : Int) < n ∧ Aa Tryd.prog 10 [AK c, AK n] (AK k) := by
 have hpos : 0 ≤ (if c < 0 then 0 - (c + 1) else c) := by split <;> omega
 have t0 := Int.tmod_nonneg n hpos
 have t1 := Int.tmod_lt_of_pos (if c < 0 then 0 - (c + 1) else c) hn
 have hne : ¬ n = 0 := by omega
 refine ⟨(Int.tmod (if c < 0 then 0 - (c + 1) else c) n).toNat, by omega, ?_⟩
 have ht : (((Int.tmod (if c < 0 then 0 - (c + 1) else c) n).toNat : Nat) : Int) = Int.tmod (if c < 0 then 0 - (c + 1) else c) n := by omega
 rw [ht]
 refine Md.ac fun C hC => ?_
 unfold IQ
 refine IWP.learn 0 (by omega) fun hkn => ?_
 have hk : inR .i64 c := by simpa [AV.known, AC.known, SV.known, AS.start] using hkn
 rw [FN] at hk
 clear ht
 by_cases h : c < 0
 ·simp only [h, if_true] at t0 t1 ⊢
  repeat' with_reducible first | refine W ?_ | refine Z0 ?_ | ((first | refine Wo fun K hK => ?_ | refine Wp ?_ | refine Wq ?_ | refine Wr ?_); (try simp only [go_sem, fN, seval, eT, iR, h, hne, dT, dF, nL]); (repeat refine Ai ?_); (try (refine hK _ ?_; clear hK K)); try refine iC ?_)
  simp only [go_sem, fN, seval, AY, AS.result, AD, AE, AM, h]
 ·simp only [h, if_false] at t0 t1 ⊢
  repeat' with_reducible first | refine W ?_ | refine Z0 ?_ | ((first | refine Wo fun K hK => ?_ | refine Wp ?_ | refine Wq ?_ | refine Wr ?_); (try simp only [go_sem, fN, seval, eT, iR, h, hne, dT, dF, nL]); (repeat refine Ai ?_); (try (refine hK _ ?_; clear hK K)); try refine iC ?_)
  simp only [go_sem, fN, seval, AY, AS.result, AD, AE, AM, h]
theorem OE (i : Int) : Aa Tryd.prog 6 [AK i] (aLm (mU i)) := by
 refine OB.ac fun C hC => ?_
 unfold KP
 repeat' with_reducible first | refine W ?_ | refine Z0 ?_ | ((first | refine Wo fun K hK => ?_ | refine Wp ?_ | refine Wq ?_ | refine Wr ?_); (try simp only [go_sem, fN, seval, eT, iR, dT, dF, nL]); (repeat refine Ai ?_); (try (refine hK _ ?_; clear hK K)); try refine iC ?_)
 simp only [go_sem, fN, seval, AY, AS.result, AD, AE, AM]
 simp [mU, Lm.kind_mk, Lm.idx_mk, Lm.subs_mk]
def cP (i : Int) : Lm := .mk 4 i []
theorem OG (i : Int) : Aa Tryd.prog 9 [AK i] (aLm (cP i)) := by
 refine NR.ac fun C hC => ?_
 unfold JU
 repeat' with_reducible first | refine W ?_ | refine Z0 ?_ | ((first | refine Wo fun K hK => ?_ | refine Wp ?_ | refine Wq ?_ | refine Wr ?_); (try simp only [go_sem, fN, seval, eT, iR, dT, dF, nL]); (repeat refine Ai ?_); (try (refine hK _ ?_; clear hK K)); try refine iC ?_)
 simp only [go_sem, fN, seval, AY, AS.result, AD, AE, AM]
 simp [cP, Lm.kind_mk, Lm.idx_mk, Lm.subs_mk]

set_option maxRecDepth 100000
def Cb : IR :=
 (.seq (.ops [.i 1 (.box 24 (.t 0)), .i 2 (.alloc 24 [.st (.int .i64 0), .st (.int .i64 0), .full []]), .i 3 (.mov (.c (.one (.full []))))]) (.seq (.seq (.ops [.f 6 0 1, .l 7 6, .i 8 (.bin .neq (.t 7) (.n 3))]) (.cond (.t 8) (.seq (.ops [.L 9 3 1, .s 3 2 9, .i 3 (.mov (.c (.one (.full []))))]) .ret) .skip)) (.seq (.ops [.f 11 2 1, .l 12 11, .i 13 (.indexAddr 3 (.t 12) (.n 0)), .L 14 3 13, .i 15 (.callS 15 [.t 14]), .m 10 15, .i 16 (.extract 0 (.t 10)), .i 17 (.extract 1 (.t 10)), .i 4 (.alloc 24 [.st (.int .i64 0), .st (.int .i64 0), .full []]), .s 3 4 16, .m 5 17]) (.seq (.ops [.mk (some 18) none (.load true 3 (.t 4)) (.onb 4), .m 19 5, .f 20 2 1, .l 21 20, .i 22 (.indexAddr 3 (.t 21) (.n 1)), .L 23 3 22, .i 24 (.buildSlice false 24 3 [.t 23]), .mk (some 25) none (.append false 24 3 40 (.t 19) (.t 24)) (.keeps [4]), .s 3 2 18, .m 3 25]) .ret))))
theorem C6 : OkF Tryd.prog 15 26 [15] Cb [.cell 2 true 3, .t 3] := .of Tryd.func15 rfl rfl (by kernel_rfl) rfl
def GE : IR :=
 (.seq (.ops [.i 1 (.box 24 (.t 0)), .i 2 (.mov (.c (.one (.st (.bool false)))))]) (.seq (.ops [.L 8 3 1, .i 9 (.call 15 [.t 8]), .m 7 9, .i 10 (.extract 0 (.t 7)), .i 11 (.extract 1 (.t 7)), .i 3 (.alloc 24 [.st (.int .i64 0), .st (.int .i64 0), .full []]), .s 3 3 10, .m 4 11]) (.seq (.seq (.ops [.f 12 0 3, .l 13 12, .i 14 (.bin .eql (.t 13) (.n 2))]) (.cond (.t 14) (.seq (.ops [.m 15 4, .i 16 (.len false (.t 15)), .i 17 (.bin .eql (.t 16) (.n 0)), .m 18 17, .mk (some 19) (some (18, true)) (.fieldAddr 2 (.t 3)) .no, .mk (some 20) (some (18, true)) (.load false 1 (.t 19)) .no, .mk (some 21) (some (18, true)) (.indexAddr 3 (.t 20) (.n 0)) .no, .mk (some 22) (some (18, true)) (.load true 3 (.t 21)) .no, .mk (some 23) (some (18, true)) (.call 27 [.t 22]) .no, .i 24 (.pick (.t 18) (.t 23) (.c (.one (.st (.bool false))))), .m 2 24]) .ret) .skip)) (.seq (.seq (.ops [.i 5 (.mov (.n 0))]) (.block 0 (.loop (.seq (.seq (.ops [.m 25 5, .m 26 4, .i 27 (.len false (.t 26)), .i 28 (.bin .lss (.t 25) (.t 27))]) (.cond (.t 28) .skip (.exit 0))) (.seq (.block 1 (.seq (.ops [.f 31 0 3, .l 32 31, .i 33 (.bin .eql (.t 32) (.n 5))]) (.cond (.t 33) (.seq (.seq (.ops [.m 34 4, .m 35 5, .i 36 (.indexAddr 3 (.t 34) (.t 35)), .f 37 0 36, .l 38 37, .i 39 (.bin .neq (.t 38) (.n 1))]) (.cond (.t 39) (.seq (.ops [.i 2 (.mov (.c (.one (.st (.bool false)))))]) .ret) .skip)) (.seq (.ops [.i 6 (.mov (.n 0))]) (.block 2 (.loop (.seq (.seq (.ops [.m 40 6, .m 41 5, .i 42 (.bin .lss (.t 40) (.t 41))]) (.cond (.t 42) .skip (.exit 2))) (.seq (.block 3 (.seq (.ops [.m 45 4, .m 46 6, .i 47 (.indexAddr 3 (.t 45) (.t 46)), .f 48 1 47, .l 49 48, .m 50 4, .m 51 5, .i 52 (.indexAddr 3 (.t 50) (.t 51)), .f 53 1 52, .l 54 53, .i 55 (.bin .eql (.t 49) (.t 54))]) (.cond (.t 55) (.seq (.ops [.i 2 (.mov (.c (.one (.st (.bool false)))))]) .ret) .skip))) (.ops [.m 43 6, .i 44 (.bin .add (.t 43) (.n 1)), .m 6 44]))))))) (.seq (.ops [.m 56 4, .m 57 5, .i 58 (.indexAddr 3 (.t 56) (.t 57)), .L 59 3 58, .i 60 (.call 27 [.t 59]), .i 61 (.un .not (.t 60))]) (.cond (.t 61) (.seq (.ops [.i 2 (.mov (.c (.one (.st (.bool false)))))]) .ret) .skip))))) (.ops [.m 29 5, .i 30 (.bin .add (.t 29) (.n 1)), .m 5 30])))))) (.seq (.ops [.i 2 (.mov (.c (.one (.st (.bool true)))))]) .ret)))))
theorem JR : OkF Tryd.prog 27 62 [] GE [.t 2] := .of Tryd.func27 rfl rfl (by kernel_rfl) rfl
def Ex : IR :=
 (.seq (.ops [.i 2 (.box 24 (.t 0)), .i 4 (.mov (.c (.one (.full []))))]) (.seq (.seq (.ops [.f 7 0 2, .l 8 7, .i 9 (.bin .eql (.t 8) (.n 5))]) (.cond (.t 9) (.seq (.seq (.ops [.i 5 (.mov (.n 0))]) (.block 0 (.loop (.seq (.seq (.ops [.m 10 5, .m 11 1, .i 12 (.len false (.t 11)), .i 13 (.bin .lss (.t 10) (.t 12))]) (.cond (.t 13) .skip (.exit 0))) (.seq (.block 1 (.seq (.ops [.m 16 1, .m 17 5, .i 18 (.indexAddr 1 (.t 16) (.t 17)), .l 19 18, .f 20 1 2, .l 21 20, .i 22 (.bin .eql (.t 19) (.t 21))]) (.cond (.t 22) (.seq (.ops [.m 23 1, .m 4 23]) .ret) .skip))) (.ops [.m 14 5, .i 15 (.bin .add (.t 14) (.n 1)), .m 5 15])))))) (.seq (.ops [.m 24 1, .f 25 1 2, .l 26 25, .i 27 (.buildFlat [.t 26]), .i 28 (.append false 3 1 8 (.t 24) (.t 27)), .m 4 28]) .ret)) .skip)) (.seq (.seq (.ops [.i 6 (.mov (.n 0))]) (.block 2 (.loop (.seq (.seq (.ops [.m 29 6, .f 30 2 2, .l 31 30, .i 32 (.len false (.t 31)), .i 33 (.bin .lss (.t 29) (.t 32))]) (.cond (.t 33) .skip (.exit 2))) (.seq (.block 3 (.ops [.f 36 2 2, .l 37 36, .m 38 6, .i 39 (.indexAddr 3 (.t 37) (.t 38)), .L 40 3 39, .m 41 1, .i 42 (.callS 44 [.t 40, .t 41]), .m 1 42])) (.ops [.m 34 6, .i 35 (.bin .add (.t 34) (.n 1)), .m 6 35])))))) (.seq (.ops [.m 43 1, .m 4 43]) .ret))))
theorem H5 : OkF Tryd.prog 44 44 [42] Ex [.t 4] := .of Tryd.func44 rfl rfl (by kernel_rfl) rfl
def Dt : IR :=
 (.seq (.ops [.i 2 (.mov (.c (.one (.full []))))]) (.seq (.ops [.i 3 (.mov (.c (.one (.full []))))]) (.seq (.seq (.ops [.i 4 (.mov (.n 0))]) (.block 0 (.loop (.seq (.seq (.ops [.m 5 4, .m 6 0, .i 7 (.len false (.t 6)), .i 8 (.bin .lss (.t 5) (.t 7))]) (.cond (.t 8) .skip (.exit 0))) (.seq (.block 1 (.ops [.m 11 0, .m 12 4, .i 13 (.indexAddr 3 (.t 11) (.t 12)), .L 14 3 13, .m 15 3, .i 16 (.callS 44 [.t 14, .t 15]), .m 3 16])) (.ops [.m 9 4, .i 10 (.bin .add (.t 9) (.n 1)), .m 4 10])))))) (.seq (.ops [.m 17 3, .m 2 17]) .ret))))
theorem Gf : OkF Tryd.prog 28 18 [16] Dt [.t 2] := .of Tryd.func28 rfl rfl (by kernel_rfl) rfl
def IG : IR :=
 (.seq (.ops [.i 4 (.mov (.c (.one (.st (.bool false)))))]) (.seq (.seq (.ops [.i 5 (.mov (.n 0))]) (.block 0 (.loop (.seq (.seq (.ops [.m 8 5, .m 9 0, .i 10 (.len false (.t 9)), .i 11 (.bin .lss (.t 8) (.t 10))]) (.cond (.t 11) .skip (.exit 0))) (.seq (.block 1 (.seq (.ops [.m 14 0, .m 15 5, .i 16 (.indexAddr 3 (.t 14) (.t 15)), .L 17 3 16, .i 18 (.call 23 [.t 17, .n 1000000]), .i 19 (.bin .gtr (.t 18) (.n 1000000)), .m 20 19, .mk (some 21) (some (20, false)) (.mov (.t 0)) .no, .mk (some 22) (some (20, false)) (.mov (.t 5)) .no, .mk (some 23) (some (20, false)) (.indexAddr 3 (.t 21) (.t 22)) .no, .mk (some 24) (some (20, false)) (.load true 3 (.t 23)) .no, .mk (some 25) (some (20, false)) (.mov (.t 1)) .no, .mk (some 26) (some (20, false)) (.call 24 [.t 24, .n 0, .t 25]) .no, .mk (some 27) (some (20, false)) (.bin .neq (.t 26) (.n 0)) .no, .i 28 (.pick (.t 20) (.c (.one (.st (.bool true)))) (.t 27)), .m 29 28, .mk (some 30) (some (29, false)) (.mov (.t 0)) .no, .mk (some 31) (some (29, false)) (.mov (.t 5)) .no, .mk (some 32) (some (29, false)) (.indexAddr 3 (.t 30) (.t 31)) .no, .mk (some 33) (some (29, false)) (.load true 3 (.t 32)) .no, .mk (some 34) (some (29, false)) (.call 25 [.t 33]) .no, .i 35 (.pick (.t 29) (.c (.one (.st (.bool true)))) (.t 34)), .m 36 35, .mk (some 37) (some (36, false)) (.mov (.t 0)) .no, .mk (some 38) (some (36, false)) (.mov (.t 5)) .no, .mk (some 39) (some (36, false)) (.indexAddr 3 (.t 37) (.t 38)) .no, .mk (some 40) (some (36, false)) (.load true 3 (.t 39)) .no, .mk (some 41) (some (36, false)) (.call 26 [.t 40]) .no, .mk (some 42) (some (36, false)) (.mov (.t 0)) .no, .mk (some 43) (some (36, false)) (.mov (.t 5)) .no, .mk (some 44) (some (36, false)) (.indexAddr 3 (.t 42) (.t 43)) .no, .mk (some 45) (some (36, false)) (.load true 3 (.t 44)) .no, .mk (some 46) (some (36, false)) (.call 12 [.t 41, .t 45]) .no, .mk (some 47) (some (36, false)) (.un .not (.t 46)) .no, .i 48 (.pick (.t 36) (.c (.one (.st (.bool true)))) (.t 47)), .m 49 48, .mk (some 50) (some (49, false)) (.mov (.t 0)) .no, .mk (some 51) (some (49, false)) (.mov (.t 5)) .no, .mk (some 52) (some (49, false)) (.indexAddr 3 (.t 50) (.t 51)) .no, .mk (some 53) (some (49, false)) (.load true 3 (.t 52)) .no, .mk (some 54) (some (49, false)) (.call 27 [.t 53]) .no, .mk (some 55) (some (49, false)) (.un .not (.t 54)) .no, .i 56 (.pick (.t 49) (.c (.one (.st (.bool true)))) (.t 55))]) (.cond (.t 56) (.seq (.ops [.i 4 (.mov (.c (.one (.st (.bool false)))))]) .ret) .skip))) (.ops [.m 12 5, .i 13 (.bin .add (.t 12) (.n 1)), .m 5 13])))))) (.seq (.ops [.m 57 0, .i 58 (.call 28 [.t 57]), .m 6 58]) (.seq (.seq (.ops [.i 7 (.mov (.n 0))]) (.block 2 (.loop (.seq (.seq (.ops [.m 59 7, .m 60 6, .i 61 (.len false (.t 60)), .i 62 (.bin .lss (.t 59) (.t 61))]) (.cond (.t 62) .skip (.exit 2))) (.seq (.block 3 (.seq (.ops [.m 65 6, .m 66 7, .i 67 (.indexAddr 1 (.t 65) (.t 66)), .l 68 67, .m 69 7, .i 70 (.bin .neq (.t 68) (.t 69))]) (.cond (.t 70) (.seq (.ops [.i 4 (.mov (.c (.one (.st (.bool false)))))]) .ret) .skip))) (.ops [.m 63 7, .i 64 (.bin .add (.t 63) (.n 1)), .m 7 64])))))) (.seq (.ops [.m 71 6, .i 72 (.len false (.t 71)), .m 73 1, .i 74 (.bin .eql (.t 72) (.t 73)), .m 4 74]) .ret)))))
theorem Mz : OkF Tryd.prog 13 75 [] IG [.t 4] := .of Tryd.func13 rfl rfl (by kernel_rfl) rfl
def CQ : IR :=
 (.seq (.ops [.i 4 (.mov (.c (.one (.st (.bool false)))))]) (.seq (.seq (.ops [.i 5 (.mov (.n 0))]) (.block 0 (.loop (.seq (.seq (.ops [.m 10 5, .m 11 0, .i 12 (.len false (.t 11)), .i 13 (.bin .lss (.t 10) (.t 12))]) (.cond (.t 13) .skip (.exit 0))) (.seq (.block 1 (.seq (.ops [.m 17 0, .m 18 5, .i 19 (.indexAddr 6 (.t 17) (.t 18)), .f 20 0 19, .L 21 3 20, .m 22 1, .i 23 (.call 30 [.t 21, .t 22, .n 400]), .m 16 23, .i 24 (.extract 0 (.t 16)), .i 25 (.extract 1 (.t 16)), .i 6 (.alloc 24 [.st (.int .i64 0), .st (.int .i64 0), .full []]), .s 3 6 24, .m 7 25]) (.seq (.ops [.m 27 0, .m 28 5, .i 29 (.indexAddr 6 (.t 27) (.t 28)), .f 30 3 29, .L 31 3 30, .m 32 1, .i 33 (.call 30 [.t 31, .t 32, .n 400]), .m 26 33, .i 34 (.extract 0 (.t 26)), .i 35 (.extract 1 (.t 26)), .i 8 (.alloc 24 [.st (.int .i64 0), .st (.int .i64 0), .full []]), .s 3 8 34, .m 9 35]) (.seq (.seq (.ops [.m 36 7, .i 37 (.bin .eql (.t 36) (.n 0)), .m 38 37, .mk (some 39) (some (38, true)) (.mov (.t 9)) .no, .mk (some 40) (some (38, true)) (.bin .eql (.t 39) (.n 0)) .no, .i 41 (.pick (.t 38) (.t 40) (.c (.one (.st (.bool false))))), .m 42 41, .mk (some 43) (some (42, true)) (.load true 3 (.t 6)) .no, .mk (some 44) (some (42, true)) (.load true 3 (.t 8)) .no, .mk (some 45) (some (42, true)) (.call 12 [.t 43, .t 44]) .no, .mk (some 46) (some (42, true)) (.un .not (.t 45)) .no, .i 47 (.pick (.t 42) (.t 46) (.c (.one (.st (.bool false)))))]) (.cond (.t 47) (.seq (.ops [.i 4 (.mov (.c (.one (.st (.bool false)))))]) .ret) .skip)) (.seq (.ops [.m 48 7, .i 49 (.bin .neq (.t 48) (.n 0)), .m 50 49, .mk (some 51) (some (50, true)) (.mov (.t 7)) .no, .mk (some 52) (some (50, true)) (.bin .neq (.t 51) (.n 8)) .no, .i 53 (.pick (.t 50) (.t 52) (.c (.one (.st (.bool false))))), .m 54 53, .mk (some 55) (some (54, true)) (.mov (.t 7)) .no, .mk (some 56) (some (54, true)) (.bin .neq (.t 55) (.n 15)) .no, .i 57 (.pick (.t 54) (.t 56) (.c (.one (.st (.bool false))))), .m 58 57, .mk (some 59) (some (58, true)) (.mov (.t 7)) .no, .mk (some 60) (some (58, true)) (.bin .neq (.t 59) (.n 3)) .no, .i 61 (.pick (.t 58) (.t 60) (.c (.one (.st (.bool false)))))]) (.cond (.t 61) (.seq (.ops [.i 4 (.mov (.c (.one (.st (.bool false)))))]) .ret) .skip)))))) (.ops [.m 14 5, .i 15 (.bin .add (.t 14) (.n 1)), .m 5 15])))))) (.seq (.ops [.i 4 (.mov (.c (.one (.st (.bool true)))))]) .ret)))
theorem D4 : OkF Tryd.prog 16 62 [] CQ [.t 4] := .of Tryd.func16 rfl rfl (by kernel_rfl) rfl
def B0 : IR :=
 (.seq (.ops [.i 8 (.mov (.c (.one (.st (.bool false)))))]) (.seq (.ops [.m 22 0, .i 23 (.call 10 [.t 22, .n 3]), .m 0 23]) (.seq (.ops [.m 24 0, .i 25 (.bin .add (.t 24) (.n 1)), .m 26 1, .i 27 (.call 10 [.t 26, .n 2]), .i 28 (.bin .add (.t 25) (.t 27)), .i 29 (.bin .rem (.t 28) (.n 3)), .m 1 29]) (.seq (.ops [.m 30 2, .i 31 (.call 10 [.t 30, .n 3]), .m 2 31]) (.seq (.ops [.m 32 2, .i 33 (.bin .add (.t 32) (.n 1)), .m 34 3, .i 35 (.call 10 [.t 34, .n 2]), .i 36 (.bin .add (.t 33) (.t 35)), .i 37 (.bin .rem (.t 36) (.n 3)), .m 3 37]) (.seq (.ops [.i 38 (.call 6 [.n 0]), .m 39 0, .i 40 (.call 7 [.t 39]), .i 41 (.call 5 [.t 38, .t 40]), .m 42 1, .i 43 (.call 7 [.t 42]), .i 44 (.call 5 [.t 41, .t 43]), .i 45 (.call 8 [.t 44]), .i 46 (.call 8 [.t 45]), .i 47 (.call 8 [.t 46]), .i 9 (.alloc 24 [.st (.int .i64 0), .st (.int .i64 0), .full []]), .s 3 9 47]) (.seq (.ops [.i 48 (.call 6 [.n 1]), .m 49 2, .i 50 (.call 7 [.t 49]), .i 51 (.call 5 [.t 48, .t 50]), .m 52 3, .i 53 (.call 7 [.t 52]), .i 54 (.call 5 [.t 51, .t 53]), .i 55 (.call 8 [.t 54]), .i 56 (.call 8 [.t 55]), .i 57 (.call 8 [.t 56]), .i 10 (.alloc 24 [.st (.int .i64 0), .st (.int .i64 0), .full []]), .s 3 10 57]) (.seq (.ops [.L 59 3 9, .L 60 3 10, .i 61 (.build [.st (.int .i64 0), .st (.int .i64 0), .full [], .st (.int .i64 0), .st (.int .i64 0), .full []] [(0, 3, .t 59), (3, 3, .t 60)]), .i 62 (.buildSlice false 29 6 [.t 61]), .i 63 (.call 11 [.n 2, .t 62]), .m 58 63, .i 64 (.extract 0 (.t 58)), .i 65 (.extract 1 (.t 58)), .i 66 (.extract 2 (.t 58)), .m 11 64, .m 12 65, .m 13 66]) (.seq (.seq (.ops [.m 67 13, .i 68 (.bin .neq (.t 67) (.n 0)), .m 69 68, .mk (some 70) (some (69, false)) (.mov (.t 11)) .no, .mk (some 71) (some (69, false)) (.len false (.t 70)) .no, .mk (some 72) (some (69, false)) (.bin .neq (.t 71) (.n 2)) .no, .i 73 (.pick (.t 69) (.c (.one (.st (.bool true)))) (.t 72)), .m 74 73, .mk (some 75) (some (74, false)) (.mov (.t 12)) .no, .mk (some 76) (some (74, false)) (.bin .neq (.t 75) (.n 1)) .no, .i 77 (.pick (.t 74) (.c (.one (.st (.bool true)))) (.t 76)), .m 78 77, .mk (some 79) (some (78, false)) (.mov (.t 11)) .no, .mk (some 80) (some (78, false)) (.mov (.t 12)) .no, .mk (some 81) (some (78, false)) (.call 13 [.t 79, .t 80]) .no, .mk (some 82) (some (78, false)) (.un .not (.t 81)) .no, .i 83 (.pick (.t 78) (.c (.one (.st (.bool true)))) (.t 82))]) (.cond (.t 83) (.seq (.ops [.i 8 (.mov (.c (.one (.st (.bool false)))))]) .ret) .skip)) (.seq (.ops [.i 14 (.mov (.n 0))]) (.seq (.seq (.ops [.i 15 (.mov (.n 0))]) (.block 0 (.loop (.seq (.seq (.ops [.m 84 15, .i 85 (.bin .lss (.t 84) (.n 3))]) (.cond (.t 85) .skip (.exit 0))) (.seq (.block 1 (.seq (.ops [.m 88 15, .m 89 0, .i 90 (.bin .eql (.t 88) (.t 89)), .m 91 90, .mk (some 92) (some (91, false)) (.mov (.t 15)) .no, .mk (some 93) (some (91, false)) (.mov (.t 1)) .no, .mk (some 94) (some (91, false)) (.bin .eql (.t 92) (.t 93)) .no, .i 95 (.pick (.t 91) (.c (.one (.st (.bool true)))) (.t 94)), .m 96 95, .mk (some 97) (some (96, true)) (.mov (.t 15)) .no, .mk (some 98) (some (96, true)) (.mov (.t 2)) .no, .mk (some 99) (some (96, true)) (.bin .eql (.t 97) (.t 98)) .no, .mk (some 100) (some (96, true)) (.mov (.t 99)) .no, .mk (some 101) (some (100, false)) (.mov (.t 15)) .no, .mk (some 102) (some (100, false)) (.mov (.t 3)) .no, .mk (some 103) (some (100, false)) (.bin .eql (.t 101) (.t 102)) .no, .mk (some 104) (some (96, true)) (.pick (.t 100) (.c (.one (.st (.bool true)))) (.t 103)) .no, .i 105 (.pick (.t 96) (.t 104) (.c (.one (.st (.bool false)))))]) (.cond (.t 105) (.ops [.m 106 14, .i 107 (.bin .add (.t 106) (.n 1)), .m 14 107]) .skip))) (.ops [.m 86 15, .i 87 (.bin .add (.t 86) (.n 1)), .m 15 87])))))) (.seq (.ops [.m 108 11, .i 109 (.indexAddr 3 (.t 108) (.n 0)), .L 110 3 109, .i 111 (.call 9 [.n 1]), .i 112 (.call 5 [.t 110, .t 111]), .i 113 (.call 9 [.n 2]), .i 114 (.call 5 [.t 112, .t 113]), .i 16 (.alloc 24 [.st (.int .i64 0), .st (.int .i64 0), .full []]), .s 3 16 114]) (.seq (.ops [.L 116 3 16, .i 117 (.call 14 [.t 116, .n 9, .c (.one (.st (.bool false)))]), .m 115 117, .i 118 (.extract 0 (.t 115)), .i 119 (.extract 1 (.t 115)), .i 120 (.extract 2 (.t 115)), .i 17 (.alloc 24 [.st (.int .i64 0), .st (.int .i64 0), .full []]), .s 3 17 118, .m 18 119, .m 19 120]) (.seq (.ops [.L 122 3 17, .i 123 (.call 15 [.t 122]), .m 121 123, .i 124 (.extract 0 (.t 121)), .i 125 (.extract 1 (.t 121)), .i 20 (.alloc 24 [.st (.int .i64 0), .st (.int .i64 0), .full []]), .s 3 20 124, .m 21 125]) (.seq (.ops [.m 126 19, .i 127 (.bin .eql (.t 126) (.n 0)), .m 128 127, .mk (some 129) (some (128, true)) (.fieldAddr 0 (.t 20)) .no, .mk (some 130) (some (128, true)) (.load false 1 (.t 129)) .no, .mk (some 131) (some (128, true)) (.bin .eql (.t 130) (.n 5)) .no, .i 132 (.pick (.t 128) (.t 131) (.c (.one (.st (.bool false))))), .m 133 132, .mk (some 134) (some (133, true)) (.mov (.t 21)) .no, .mk (some 135) (some (133, true)) (.len false (.t 134)) .no, .mk (some 136) (some (133, true)) (.mov (.t 14)) .no, .mk (some 137) (some (133, true)) (.bin .eql (.t 135) (.t 136)) .no, .i 138 (.pick (.t 133) (.t 137) (.c (.one (.st (.bool false))))), .m 139 138, .mk (some 140) (some (139, true)) (.load true 3 (.t 9)) .no, .mk (some 141) (some (139, true)) (.load true 3 (.t 10)) .no, .mk (some 142) (some (139, true)) (.build [.st (.int .i64 0), .st (.int .i64 0), .full [], .st (.int .i64 0), .st (.int .i64 0), .full []] [(0, 3, .t 140), (3, 3, .t 141)]) .no, .mk (some 143) (some (139, true)) (.buildSlice false 29 6 [.t 142]) .no, .mk (some 144) (some (139, true)) (.mov (.t 11)) .no, .mk (some 145) (some (139, true)) (.call 16 [.t 143, .t 144]) .no, .i 146 (.pick (.t 139) (.t 145) (.c (.one (.st (.bool false))))), .m 8 146]) .ret)))))))))))))))
theorem DB : OkF Tryd.prog 4 147 [] B0 [.t 8] := .of Tryd.func4 rfl rfl (by kernel_rfl) rfl

def frL (m5 : Bool) (p : Lm → Bool) : List Lm → List Lm → Bool
 | _, [] => true
 | pre, x :: xs => if m5 = true then (if x.kind = 1 ∧ pre.all (fun y => decide (¬ y.idx = x.idx)) = true then frL m5 p (pre ++ [x]) xs else false) else if p x = true then frL m5 p (pre ++ [x]) xs else false
def Hf : Nat → Lm → Bool
 | 0, _ => false
 | f + 1, t => if (Ao t).1.kind = 2 then decide ((Ao t).2.length = 0) && Hf f ((Ao t).1.subs.headD .nil) else frL (decide ((Ao t).1.kind = 5)) (Hf f) [] (Ao t).2
mutual
def JE : Lm → List Int → List Int
 | .mk k i xs, h => if k = 5 then (if h.any (fun j => decide (j = i)) = true then h else h ++ [i]) else Bl xs h
def Bl : List Lm → List Int → List Int
 | [], h => h
 | t :: ts, h => Bl ts (JE t h)
end
def OQ (l : List Lm) (n : Nat) : Bool := l.all (fun t => decide (t.size ≤ 1000) && decide (t.chk n 0 = 0) && !t.outer.isSome && t.eta1.same t && Hf 60 t) && decide (Bl l [] = (List.range n).map fun i => ((i : Nat) : Int))
def PB (g : Lm × Lm) (l : List Lm) (pr : Lm → List Lm → Lm × Int) : Bool := decide ((pr g.1 l).2 = 0) && decide ((pr g.2 l).2 = 0) && (pr g.1 l).1.same (pr g.2 l).1
theorem J4 {m5 : Bool} {p : Lm → Bool} : ∀ {pre xs : List Lm} {k : Nat} {x : Lm}, frL m5 p pre xs = true → xs[k]? = some x → (m5 = true → x.kind = 1 ∧ (pre ++ xs.take k).all (fun y => decide (¬ y.idx = x.idx)) = true) ∧ (m5 = false → p x = true)
 | pre, [], k, x, _, h => by simp at h
 | pre, y :: ys, 0, x, h0, h => by
  simp only [List.getElem?_cons_zero, Option.some.injEq] at h
  subst h
  rw [frL] at h0
  refine ⟨fun e => ?_, fun e => ?_⟩
  ·rw [if_pos e] at h0
   split at h0
   ·rename_i hc; simpa using hc
   ·cases h0
  ·rw [if_neg (by rw [e]; simp)] at h0
   split at h0
   ·rename_i hc; exact hc
   ·cases h0
 | pre, y :: ys, k + 1, x, h0, h => by
  rw [List.getElem?_cons_succ] at h
  have hr : frL m5 p (pre ++ [y]) ys = true := by
   rw [frL] at h0
   split at h0
   ·split at h0
    ·exact h0
    ·cases h0
   ·split at h0
    ·exact h0
    ·cases h0
  have ih := J4 hr h
  rw [List.append_assoc, List.singleton_append] at ih
  rw [List.take_succ_cons]
  exact ih
theorem O6 (t : Lm) (h : List Int) : JE t h = if t.kind = 5 then (if h.any (fun j => decide (j = t.idx)) = true then h else h ++ [t.idx]) else Bl t.subs h := by
 cases t
 rw [JE]
 rfl
theorem E_ : ∀ (xs : List Lm) (a : Lm) (h : List Int), Bl (xs ++ [a]) h = JE a (Bl xs h)
 | [], a, h => by simp [Bl]
 | x :: xs, a, h => by
  rw [List.cons_append, Bl, E_ xs a, Bl]
mutual
theorem NF : ∀ (t : Lm) (h : List Int), (JE t h).length ≤ h.length + t.size
 | .mk k i xs, h => by
  have h3 := Lm.size_eq (.mk k i xs)
  rw [Lm.subs_mk] at h3
  have h2 := Eb xs h
  rw [JE]
  by_cases e : k = 5
  ·rw [if_pos e]
   by_cases e2 : (h.any fun j => decide (j = i)) = true
   ·rw [if_pos e2]; omega
   ·rw [if_neg e2, List.length_append, List.length_singleton]; omega
  ·rw [if_neg e]; omega
theorem Eb : ∀ (xs : List Lm) (h : List Int), (Bl xs h).length ≤ h.length + Lm.sizes xs
 | [], h => by simp [Bl]
 | x :: xs, h => by
  rw [Bl, Lm.sizes]
  have h1 := NF x h
  have h2 := Eb xs (JE x h)
  omega
end

theorem PE {S S1 : AA} (hS : A7 S) (sj : ∀ j, 1000 ≤ j → S1 j = S j) : B6 S1 = S := by
 funext i
 unfold B6
 split
 ·exact (AR hS (by omega)).symm
 ·exact sj i (by omega)
theorem Gz {C : Ctx} {rs : List RV} {s : AS} {S' : AA} {r n : Nat} (hr : 1000 ≤ r) (hc : A7 S') (h1 : (AD s rs).map AM = some (.one (.row r n))) (sj : ∀ j, 1000 ≤ j → s.S j = S' j) : Hj C rs (.one (.row r n)) S' .ret s :=
 IT trivial h1 (by show AC.high _ = true; exact Hb hr) (fun i b hi hb => (hc i b (by rw [← sj i hi]; exact hb)).2) (PE hc sj) hc
theorem PW (t : Lm) (hw : t.wf) (hz : t.size ≤ 1000000) (a0 : Nat) (ha : 1000 ≤ a0) (S : AA) (hSa : S a0 = none) :
  (¬ t.kind = 3 ∧ Ag Tryd.prog 15 [aLm t] S (.tup [aLm t, .one (.full [])]) S) ∨
  (t.kind = 3 ∧ Ag Tryd.prog 15 [aLm t] S (.tup [aLm (Ao t).1, .one (.row a0 (Ao t).2.length)]) (AO S a0 (some (.arow 24 3 ((Ao t).2.map Ac))))) := by
 induction h : SizeOf.sizeOf t using Nat.strongRecOn generalizing t a0 S with
 | _ N ih =>
 subst h
 by_cases hk : t.kind = 3
 ·refine Or.inr ⟨hk, ?_⟩
  obtain ⟨h1, h2⟩ := (Lm.wf_eq t).1 hw
  have hn : BX t.kind = 2 := by unfold BX; rw [if_neg (by omega), if_pos hk]
  rw [hn] at h1
  match hs : t.subs, h1.2.2 with
  | [g, x], _ =>
   have hgz := Lm.size_sub (t := t) (a := g) (by rw [hs]; simp)
   have hln : (Ao g).1.size + (Ao g).2.length ≤ g.size + ([] : List Lm).length := DR g.size g []
   simp only [List.length_nil] at hln
   rw [HY hk hs]
   refine C6.acS fun hS C hC => ?_
   unfold Cb
   have s1 : S 1 = none := AR hS (by omega)
   have s2 : S 2 = none := AR hS (by omega)
   have s4 : S 4 = none := AR hS (by omega)
   have s21 : S 21 = none := AR hS (by omega)
   have s25 : S 25 = none := AR hS (by omega)
   have hkT := eq_true hk
   have n1 : ¬ a0 = 1 := by omega
   have n2 : ¬ a0 = 2 := by omega
   have n4 : ¬ a0 = 4 := by omega
   have n21 : ¬ a0 = 21 := by omega
   have n25 : ¬ a0 = 25 := by omega
   by_cases hg : g.kind = 3
   ·have hrec : ∀ U : AA, U (up1 21) = none → Ag Tryd.prog 15 [aLm g] U (.tup [aLm (Ao g).1, .one (.row (up1 21) (Ao g).2.length)]) (AO U (up1 21) (some (.arow 24 3 ((Ao g).2.map Ac)))) := fun U hU => by
     rcases ih _ (Lm.lt_of_sub (by rw [hs]; simp)) g (Lm.wf_sub hw (by rw [hs]; simp)) (by omega) (up1 21) (BE 21) U hU rfl with ⟨h, _⟩ | ⟨_, h⟩
     ·exact absurd hg h
     ·exact h
    generalize Ao g = p at *
    obtain ⟨u, w⟩ := p
    have hwl : (w.map Ac).length = w.length := List.length_map _
    simp only at hln hrec ⊢
    repeat' with_reducible first | refine W ?_ | refine Z0 ?_ | ((first | refine Wo fun K hK => ?_ | refine Wp ?_ | refine Wq ?_ | refine Wr ?_); (try simp only [go_sem, fN, seval, eT, iR, AS.startS, s1, s2, s4, hkT, hs, AB, dT, dF, nL]); (repeat refine Ai ?_); (try (refine hK _ ?_; clear hK K)); try refine iC ?_)
    refine ⟨_, _, hrec _ (by rw [A_]; simp [AO, s21]), ?_⟩
    repeat' with_reducible first | refine W ?_ | refine Z0 ?_ | ((first | refine Wo fun K hK => ?_ | refine Wp ?_ | refine Wq ?_ | refine Wr ?_); (try simp only [go_sem, fN, seval, eT, iR, s1, s2, s4, s21, hs, hwl, AB, dT, dF, nL]); (repeat refine Ai ?_); (try (refine hK _ ?_; clear hK K)); try refine iC ?_)
    rw [show (.tup [aLm u, .one (.row a0 (w.length + 1))] : AV) = AV.ren (BA 21 a0) (.tup [aLm u, .one (.row 21 (w.length + 1))]) by simp [AV.ren, AV.rens, AC.ren, AC.rens, BA]]
    refine Fo trivial 21 a0 _ (b0 := .arow 24 3 ((w ++ [x]).map Ac)) (by omega) ha ?_ ?_ rfl ?_ ?_ ?_ ?_ (BK hS ha rfl)
    ·simp [AO, hSa, n1, n2, n4, n21, n25]
    ·simp [AO, AB]
    ·repeat (refine F3 (by omega) ?_)
     exact fun k c _ hk => (hS k c hk).2
    ·simp [AD, AE, AM, AO, Bm, HW]
    ·simp [AV.ren, AV.rens, AC.ren, AC.rens, AV.high, AV.highs, AC.high, AC.highs, BA, ha]
    ·repeat rw [Hv _ (by omega)]
     rw [E0 hS]
   ·have hrec : ∀ U : AA, U (up1 21) = none → Ag Tryd.prog 15 [aLm g] U (.tup [aLm g, .one (.full [])]) U := fun U hU => by
     rcases ih _ (Lm.lt_of_sub (by rw [hs]; simp)) g (Lm.wf_sub hw (by rw [hs]; simp)) (by omega) (up1 21) (BE 21) U hU rfl with ⟨_, h⟩ | ⟨h, _⟩
     ·exact h
     ·exact absurd h hg
    rw [FU hg]
    simp only [List.nil_append, List.length_singleton]
    repeat' with_reducible first | refine W ?_ | refine Z0 ?_ | ((first | refine Wo fun K hK => ?_ | refine Wp ?_ | refine Wq ?_ | refine Wr ?_); (try simp only [go_sem, fN, seval, eT, iR, AS.startS, s1, s2, s4, hkT, hs, AB, dT, dF, nL]); (repeat refine Ai ?_); (try (refine hK _ ?_; clear hK K)); try refine iC ?_)
    refine ⟨_, _, hrec _ (by rw [A_]; simp [AO, s21]), ?_⟩
    repeat' with_reducible first | refine W ?_ | refine Z0 ?_ | ((first | refine Wo fun K hK => ?_ | refine Wp ?_ | refine Wq ?_ | refine Wr ?_); (try simp only [go_sem, fN, seval, eT, iR, s1, s2, s4, s25, hs, AB, dT, dF, nL]); (repeat refine Ai ?_); (try (refine hK _ ?_; clear hK K)); try refine iC ?_)
    rw [show (.tup [aLm g, .one (.row a0 1)] : AV) = AV.ren (BA 25 a0) (.tup [aLm g, .one (.row 25 1)]) by simp [AV.ren, AV.rens, AC.ren, AC.rens, BA]]
    refine Fo trivial 25 a0 _ (b0 := .arow 24 3 [[.int .i64 x.kind, .int .i64 x.idx, .list (x.subs.map Ac)]]) (by omega) ha ?_ ?_ rfl ?_ ?_ ?_ ?_ (BK hS ha rfl)
    ·simp [AO, hSa, n1, n2, n4, n21, n25]
    ·simp [AO, AB]
    ·repeat (refine F3 (by omega) ?_)
     exact fun k c _ hk => (hS k c hk).2
    ·simp [AD, AE, AM, AO, Bm, HW]
    ·simp [AV.ren, AV.rens, AC.ren, AC.rens, AV.high, AV.highs, AC.high, AC.highs, BA, ha]
    ·repeat rw [Hv _ (by omega)]
     rw [E0 hS]
  | [], h => simp at h
  | [_], h => simp at h
  | _ :: _ :: _ :: _, h => simp at h; omega
 ·refine Or.inl ⟨hk, ?_⟩
  refine C6.acS fun hS C hC => ?_
  unfold Cb
  have s1 : S 1 = none := AR hS (by omega)
  have s2 : S 2 = none := AR hS (by omega)
  repeat' with_reducible first | refine W ?_ | refine Z0 ?_ | ((first | refine Wo fun K hK => ?_ | refine Wp ?_ | refine Wq ?_ | refine Wr ?_); (try simp only [go_sem, fN, seval, eT, iR, AS.startS, s1, s2, hk, dT, dF, nL]); (repeat refine Ai ?_); (try (refine hK _ ?_; clear hK K)); try refine iC ?_)
  refine IT trivial ?_ rfl ?_ ?_ hS
  ·simp [AD, AE, AM, AO, Bm, HW]
  ·repeat (refine F3 (by omega) ?_)
   exact fun k c _ hk => (hS k c hk).2
  ·repeat rw [Hv _ (by omega)]
   rw [E0 hS]
theorem N8 (t : Lm) (hw : t.wf) (hz : t.size ≤ 1000000) : Aa Tryd.prog 15 [aLm t] (.tup [aLm (Ao t).1, A1 (Ao t).2]) := by
 by_cases hk : t.kind = 3
 ·obtain ⟨h1, h2⟩ := (Lm.wf_eq t).1 hw
  have hn : BX t.kind = 2 := by unfold BX; rw [if_neg (by omega), if_pos hk]
  rw [hn] at h1
  match hs : t.subs, h1.2.2 with
  | [g, x], _ =>
   have hgz := Lm.size_sub (t := t) (a := g) (by rw [hs]; simp)
   have hln : (Ao g).1.size + (Ao g).2.length ≤ g.size + ([] : List Lm).length := DR g.size g []
   simp only [List.length_nil] at hln
   have hrec0 := fun (U : AA) (hU : U (up1 21) = none) => PW g (Lm.wf_sub hw (by rw [hs]; simp)) (by omega) (up1 21) (BE 21) U hU
   rw [HY hk hs]
   have hkT := eq_true hk
   refine C6.ac fun C hC => ?_
   unfold Cb
   by_cases hg : g.kind = 3
   ·have hrec : ∀ U : AA, U (up1 21) = none → Ag Tryd.prog 15 [aLm g] U (.tup [aLm (Ao g).1, .one (.row (up1 21) (Ao g).2.length)]) (AO U (up1 21) (some (.arow 24 3 ((Ao g).2.map Ac)))) := fun U hU => by
     rcases hrec0 U hU with ⟨h, _⟩ | ⟨_, h⟩
     ·exact absurd hg h
     ·exact h
    generalize Ao g = p at *
    obtain ⟨u, w⟩ := p
    have hwl : (w.map Ac).length = w.length := List.length_map _
    simp only at hln hrec ⊢
    repeat' with_reducible first | refine W ?_ | refine Z0 ?_ | ((first | refine Wo fun K hK => ?_ | refine Wp ?_ | refine Wq ?_ | refine Wr ?_); (try simp only [go_sem, fN, seval, eT, iR, hkT, hs, AB, dT, dF, nL]); (repeat refine Ai ?_); (try (refine hK _ ?_; clear hK K)); try refine iC ?_)
    refine ⟨_, _, hrec _ (by rw [A_]; rfl), ?_⟩
    repeat' with_reducible first | refine W ?_ | refine Z0 ?_ | ((first | refine Wo fun K hK => ?_ | refine Wp ?_ | refine Wq ?_ | refine Wr ?_); (try simp only [go_sem, fN, seval, eT, iR, hs, hwl, AB, dT, dF, nL]); (repeat refine Ai ?_); (try (refine hK _ ?_; clear hK K)); try refine iC ?_)
    simp only [go_sem, fN, seval, AY, AS.result, AD, AE, AM, AB]
    try simp [AB]
   ·have hrec : ∀ U : AA, U (up1 21) = none → Ag Tryd.prog 15 [aLm g] U (.tup [aLm g, .one (.full [])]) U := fun U hU => by
     rcases hrec0 U hU with ⟨_, h⟩ | ⟨h, _⟩
     ·exact h
     ·exact absurd h hg
    rw [FU hg]
    simp only [List.nil_append, List.length_singleton]
    repeat' with_reducible first | refine W ?_ | refine Z0 ?_ | ((first | refine Wo fun K hK => ?_ | refine Wp ?_ | refine Wq ?_ | refine Wr ?_); (try simp only [go_sem, fN, seval, eT, iR, hkT, hs, AB, dT, dF, nL]); (repeat refine Ai ?_); (try (refine hK _ ?_; clear hK K)); try refine iC ?_)
    refine ⟨_, _, hrec _ (by rw [A_]; rfl), ?_⟩
    repeat' with_reducible first | refine W ?_ | refine Z0 ?_ | ((first | refine Wo fun K hK => ?_ | refine Wp ?_ | refine Wq ?_ | refine Wr ?_); (try simp only [go_sem, fN, seval, eT, iR, hs, AB, dT, dF, nL]); (repeat refine Ai ?_); (try (refine hK _ ?_; clear hK K)); try refine iC ?_)
    simp only [go_sem, fN, seval, AY, AS.result, AD, AE, AM, AB]
    try simp [AB]
  | [], h => simp at h
  | [_], h => simp at h
  | _ :: _ :: _ :: _, h => simp at h; omega
 ·rw [FU hk]
  refine C6.ac fun C hC => ?_
  unfold Cb
  repeat' with_reducible first | refine W ?_ | refine Z0 ?_ | ((first | refine Wo fun K hK => ?_ | refine Wp ?_ | refine Wq ?_ | refine Wr ?_); (try simp only [go_sem, fN, seval, eT, iR, hk, dT, dF, nL]); (repeat refine Ai ?_); (try (refine hK _ ?_; clear hK K)); try refine iC ?_)
  simp only [go_sem, fN, seval, AY, AS.result, AD, AE, AM]
  rfl
theorem Pk (t : Lm) (hz : t.size ≤ 100000) : ∀ (r : Nat) (h : List Int) (S : AA), 1000 ≤ r → h.length + t.size ≤ 1000000 → S r = some (.arow 3 1 (h.map B1)) →
  Ag Tryd.prog 44 [aLm t, .one (.row r h.length)] S (.one (.row r (JE t h).length)) (AO S r (some (.arow 3 1 ((JE t h).map B1)))) := by
 induction hN : SizeOf.sizeOf t using Nat.strongRecOn generalizing t with
 | _ N ih =>
 subst hN
 intro r h S hr hl sr
 have hs := Lm.size_eq t
 have hlen := Lm.length_le t.subs
 have hhl : (h.map B1).length = h.length := List.length_map _
 have hsl : (t.subs.map Ac).length = t.subs.length := List.length_map _
 have hself : AO S r (some (.arow 3 1 (h.map B1))) = S := Gv sr
 rw [O6]
 refine H5.acS fun hS C hC => ?_
 unfold Ex
 have s2 : S 2 = none := AR hS (by omega)
 by_cases hk5 : t.kind = 5
 ·rw [if_pos hk5]
  have hkT := eq_true hk5
  generalize hR : (if h.any (fun j => decide (j = t.idx)) = true then h else h ++ [t.idx]) = R
  repeat' with_reducible first | refine W ?_ | refine Z0 ?_ | ((first | refine Wo fun K hK => ?_ | refine Wp ?_ | refine Wq ?_ | refine Wr ?_); (try simp only [go_sem, fN, seval, eT, iR, AS.startS, s2, hr, AZ, BM, hkT, dT, dF, nL]); (repeat refine Ai ?_); (try (refine hK _ ?_; clear hK K)); try refine iC ?_)
  refine IWP.loop (fun q s => ∃ k, k ≤ h.length ∧ q = h.length - k ∧ (h.take k).any (fun j => decide (j = t.idx)) = false ∧ s.env 1 = .one (.row r h.length) ∧ s.env 2 = .one (.ptr 2 1 0 0) ∧ s.env 5 = AK k ∧ s.S 2 = some (Bc t) ∧ ∀ j, 1000 ≤ j → s.S j = S j) h.length
   ⟨0, Nat.zero_le _, rfl, rfl, rfl, rfl, rfl, by simp only [go_sem, fN, seval, eT, iR, BM, hr], fun j hj => by simp only [go_sem, fN, seval, eT, iR, AZ, hj]⟩ ?_
  rintro q ⟨env, S1⟩ ⟨k, hk, rfl, ha, e1, e2, e5, s2, sj⟩
  simp only at e1 e2 e5 s2 sj
  have srr := (sj r hr).trans sr
  by_cases hlt : (k : Int) < h.length
  ·obtain ⟨x, hx⟩ := Ak (show k < h.length by omega)
   by_cases hxi : x = t.idx
   ·have hany : h.any (fun j => decide (j = t.idx)) = true := by
     rw [List.any_eq_true]
     exact ⟨x, AJ hx, by simpa using hxi⟩
    rw [if_pos hany] at hR
    subst hR
    have hxT := eq_true hxi
    rw [hself]
    repeat' with_reducible first | refine W ?_ | refine Z0 ?_ | ((first | refine Wo fun K hK => ?_ | refine Wp ?_ | refine Wq ?_ | refine Wr ?_); (try simp only [go_sem, fN, seval, eT, iR, e1, e2, e5, s2, srr, hlt, hx, hhl, hxT, B1, dT, dF, nL]); (repeat refine Ai ?_); (try (refine hK _ ?_; clear hK K)); try refine iC ?_)
    refine Gz hr hS ?_ sj
    simp only [go_sem, fN, seval, eT, iR, AD, AE, AM, e1]
   ·repeat' with_reducible first | refine W ?_ | refine Z0 ?_ | ((first | refine Wo fun K hK => ?_ | refine Wp ?_ | refine Wq ?_ | refine Wr ?_); (try simp only [go_sem, fN, seval, eT, iR, e1, e2, e5, s2, srr, hlt, hx, hhl, hxi, B1, dT, dF, nL]); (repeat refine Ai ?_); (try (refine hK _ ?_; clear hK K)); try refine iC ?_)
    refine AH ⟨h.length - (k + 1), by omega, k + 1, by omega, rfl, ?_, e1, e2, rfl, s2, sj⟩
    rw [Al hx, List.any_append, ha]
    simpa using hxi
  ·rw [List.take_of_length_le (by omega)] at ha
   rw [if_neg (by rw [ha]; simp)] at hR
   subst hR
   repeat' with_reducible first | refine W ?_ | refine Z0 ?_ | ((first | refine Wo fun K hK => ?_ | refine Wp ?_ | refine Wq ?_ | refine Wr ?_); (try simp only [go_sem, fN, seval, eT, iR, e1, e2, e5, s2, srr, hlt, hhl, B1, dT, dF, nL]); (repeat refine Ai ?_); (try (refine hK _ ?_; clear hK K)); try refine iC ?_)
   refine Gz hr (BK hS hr rfl) ?_ fun j hj => ?_
   ·simp only [go_sem, fN, seval, eT, iR, AD, AE, AM]
   ·by_cases hjr : j = r
    ·subst hjr
     rw [AG, List.map_append]
     simp only [go_sem, fN, seval, eT, iR, B1]
    ·have hj2 := sj j hj
     rw [AU _ hjr]
     simp only [go_sem, fN, seval, eT, iR, hjr, hj2]
 ·rw [if_neg hk5]
  repeat' with_reducible first | refine W ?_ | refine Z0 ?_ | ((first | refine Wo fun K hK => ?_ | refine Wp ?_ | refine Wq ?_ | refine Wr ?_); (try simp only [go_sem, fN, seval, eT, iR, AS.startS, s2, hr, AZ, BM, hk5, dT, dF, nL]); (repeat refine Ai ?_); (try (refine hK _ ?_; clear hK K)); try refine iC ?_)
  refine IWP.loop (fun q s => ∃ k, k ≤ t.subs.length ∧ q = t.subs.length - k ∧ s.env 1 = .one (.row r (Bl (t.subs.take k) h).length) ∧ s.env 2 = .one (.ptr 2 1 0 0) ∧ s.env 6 = AK k ∧ s.S 2 = some (Bc t) ∧ ∀ j, 1000 ≤ j → s.S j = AO S r (some (.arow 3 1 ((Bl (t.subs.take k) h).map B1))) j) t.subs.length
   ⟨0, Nat.zero_le _, rfl, by rw [List.take_zero, Bl]; rfl, rfl, rfl, by simp only [go_sem, fN, seval, eT, iR, BM, hr], fun j hj => by rw [List.take_zero, Bl, hself]; (simp only [go_sem, fN, seval, eT, iR, AZ, hj])⟩ ?_
  rintro q ⟨env, S1⟩ ⟨k, hk, rfl, e1, e2, e6, s2, sj⟩
  simp only at e1 e2 e6 s2 sj
  by_cases hlt : (k : Int) < t.subs.length
  ·obtain ⟨a, ha⟩ := Ak (show k < t.subs.length by omega)
   have hz1 := Lm.sizes_take ha
   have hz2 := Lm.sizes_take_le t.subs (k + 1)
   have hul := Eb (t.subs.take k) h
   have hsn := E_ (t.subs.take k) a h
   rw [← Al ha] at hsn
   generalize hX : Bl (t.subs.take (k + 1)) h = X at *
   generalize Bl (t.subs.take k) h = Y at *
   have srr := (sj r hr).trans (AG _ _ _)
   repeat' with_reducible first | refine W ?_ | refine Z0 ?_ | ((first | refine Wo fun K hK => ?_ | refine Wp ?_ | refine Wq ?_ | refine Wr ?_); (try simp only [go_sem, fN, seval, eT, iR, e1, e2, e6, s2, hlt, ha, hsl, AB, dT, dF, nL]); (repeat refine Ai ?_); (try (refine hK _ ?_; clear hK K)); try refine iC ?_)
   refine ⟨_, _, ih _ (Lm.lt_of_sub (AJ ha)) a (by omega) rfl (up1 r) Y _ (BE r) (by omega) (by rw [A_, srr]; rfl), ?_⟩
   rw [← hsn]
   repeat' with_reducible first | refine W ?_ | refine Z0 ?_ | ((first | refine Wo fun K hK => ?_ | refine Wp ?_ | refine Wq ?_ | refine Wr ?_); (try simp only [go_sem, fN, seval, eT, iR, e1, e2, e6, s2, hlt, ha, hsl, AB, dT, dF, nL]); (repeat refine Ai ?_); (try (refine hK _ ?_; clear hK K)); try refine iC ?_)
   refine AH ⟨t.subs.length - (k + 1), by omega, k + 1, by omega, rfl, ?_, e2, rfl, ?_, fun j hj => ?_⟩
   ·rw [hX]
    rfl
   ·simp only [go_sem, fN, seval, eT, iR, BM, hr, s2]
   ·rw [hX]
    have hj2 := sj j hj
    by_cases hjr : j = r
    ·simp only [go_sem, fN, seval, eT, iR, hjr]
    ·simp only [go_sem, fN, seval, eT, iR, hjr, hj2]
  ·rw [List.take_of_length_le (by omega)] at e1 sj
   generalize Bl t.subs h = X at *
   repeat' with_reducible first | refine W ?_ | refine Z0 ?_ | ((first | refine Wo fun K hK => ?_ | refine Wp ?_ | refine Wq ?_ | refine Wr ?_); (try simp only [go_sem, fN, seval, eT, iR, e1, e2, e6, s2, hlt, hsl, dT, dF, nL]); (repeat refine Ai ?_); (try (refine hK _ ?_; clear hK K)); try refine iC ?_)
   refine Gz hr (BK hS hr rfl) ?_ sj
   simp only [go_sem, fN, seval, eT, iR, AD, AE, AM, e1]
theorem PH (l : List Lm) (hz : Lm.sizes l ≤ 100000) : Aa Tryd.prog 28 [A1 l] (Lf (Bl l [])) := by
 have hlen := Lm.length_le l
 have hll : (l.map Ac).length = l.length := List.length_map _
 refine Gf.ac fun C hC => ?_
 unfold Dt
 repeat' with_reducible first | refine W ?_ | refine Z0 ?_ | ((first | refine Wo fun K hK => ?_ | refine Wp ?_ | refine Wq ?_ | refine Wr ?_); (try simp only [go_sem, fN, seval, eT, iR, dT, dF, nL]); (repeat refine Ai ?_); (try (refine hK _ ?_; clear hK K)); try refine iC ?_)
 refine IWP.ghost (As.own 3 30 3 1 (xs := ([] : List (List SV))) rfl rfl (by simp) (by omega)) ?_
 refine IWP.loop (fun q s => ∃ k, k ≤ l.length ∧ q = l.length - k ∧ s.env 0 = A1 l ∧ s.env 3 = .one (.row 30 (Bl (l.take k) []).length) ∧ s.env 4 = AK k ∧ s.S 30 = some (.arow 3 1 ((Bl (l.take k) []).map B1))) l.length
  ⟨0, Nat.zero_le _, rfl, rfl, rfl, rfl, rfl⟩ ?_
 rintro q ⟨env, S⟩ ⟨k, hk, rfl, e0, e3, e4, s30⟩
 simp only at e0 e3 e4 s30
 by_cases hlt : (k : Int) < l.length
 ·obtain ⟨a, ha⟩ := Ak (show k < l.length by omega)
  have hz1 := Lm.sizes_take ha
  have hz2 := Lm.sizes_take_le l (k + 1)
  have hul := Eb (l.take k) []
  have hsn := E_ (l.take k) a []
  rw [← Al ha] at hsn
  simp only [List.length_nil] at hul
  generalize hX : Bl (l.take (k + 1)) [] = X at *
  generalize Bl (l.take k) [] = Y at *
  repeat' with_reducible first | refine W ?_ | refine Z0 ?_ | ((first | refine Wo fun K hK => ?_ | refine Wp ?_ | refine Wq ?_ | refine Wr ?_); (try simp only [go_sem, fN, seval, eT, iR, e0, e3, e4, hlt, ha, hll, AB, dT, dF, nL]); (repeat refine Ai ?_); (try (refine hK _ ?_; clear hK K)); try refine iC ?_)
  refine ⟨_, _, Pk a (by omega) (up1 30) Y _ (BE _) (by omega) (by rw [A_, s30]; rfl), ?_⟩
  rw [← hsn]
  repeat' with_reducible first | refine W ?_ | refine Z0 ?_ | ((first | refine Wo fun K hK => ?_ | refine Wp ?_ | refine Wq ?_ | refine Wr ?_); (try simp only [go_sem, fN, seval, eT, iR, e0, e3, e4, hlt, ha, hll, AB, dT, dF, nL]); (repeat refine Ai ?_); (try (refine hK _ ?_; clear hK K)); try refine iC ?_)
  refine AH ⟨l.length - (k + 1), by omega, k + 1, by omega, rfl, e0, ?_, rfl, ?_⟩
  ·rw [hX]
   rfl
  ·rw [hX]
   simp only [go_sem, fN, seval, eT, iR]
 ·rw [List.take_of_length_le (by omega)] at e3 s30
  generalize Bl l [] = X at *
  have hXl : (X.map B1).length = X.length := List.length_map _
  repeat' with_reducible first | refine W ?_ | refine Z0 ?_ | ((first | refine Wo fun K hK => ?_ | refine Wp ?_ | refine Wq ?_ | refine Wr ?_); (try simp only [go_sem, fN, seval, eT, iR, e0, e3, e4, hlt, hll, dT, dF, nL]); (repeat refine Ai ?_); (try (refine hK _ ?_; clear hK K)); try refine iC ?_)
  simp only [go_sem, fN, seval, AY, AS.result, AD, AE, AM, e3, s30, hXl]
theorem PV : ∀ (f : Nat) (t : Lm), t.wf → t.size ≤ 1000 → Hf f t = true → Aa Tryd.prog 27 [aLm t] (An true) := by
 intro f
 induction f with
 | zero => intro t hw hz h; simp [Hf] at h
 | succ f ih =>
 intro t hw hz h
 have hrow := N8 t hw (by omega)
 have hPw := Ct (P := Lm.wf) (fun t a h ha => Lm.wf_sub h ha) hw
 have hPz := Ct (P := fun t => t.size ≤ 1000) (fun t a h ha => by have := Lm.size_sub ha; omega) hz
 have hln : (Ao t).1.size + (Ao t).2.length ≤ t.size + ([] : List Lm).length := DR t.size t []
 simp only [List.length_nil] at hln
 unfold Hf at h
 generalize Ao t = p at *
 obtain ⟨u, w⟩ := p
 simp only at h hrow hPw hPz hln
 have hwl : (w.map Ac).length = w.length := List.length_map _
 refine JR.ac fun C hC => ?_
 unfold GE
 by_cases hk2 : u.kind = 2
 ·rw [if_pos hk2, Bool.and_eq_true, decide_eq_true_eq] at h
  obtain ⟨h0, h⟩ := h
  have h0' : ((w.length : Nat) : Int) = 0 := by omega
  have hk2T := eq_true hk2
  obtain ⟨h1, h2⟩ := (Lm.wf_eq u).1 hPw.1
  have hn : BX u.kind = 1 := by unfold BX; rw [if_pos hk2]
  rw [hn] at h1
  match hs : u.subs, h1.2.2 with
  | [b], _ =>
   rw [hs] at h
   have hc := ih b (Lm.wf_sub hPw.1 (by rw [hs]; simp)) (by have := Lm.size_sub (t := u) (a := b) (by rw [hs]; simp); have := hPz.1; omega) h
   repeat' (first | (with_reducible first | refine W ?_ | refine Z0 ?_ | ((first | refine Wo fun K hK => ?_ | refine Wp ?_ | refine Wq ?_ | refine Wr ?_); (try simp only [go_sem, fN, seval, eT, iR, hk2T, h0', hs, hwl, AB, dT, dF, nL]); (repeat refine Ai ?_); (try (refine hK _ ?_; clear hK K)); try refine iC ?_)) | refine Cg _ (hrow) ?_ | refine Cg _ (hc) ?_)
   simp only [go_sem, fN, seval, AY, AS.result, AD, AE, AM]
  | [], h => simp at h
  | _ :: _ :: _, h => simp at h; omega
 ·rw [if_neg hk2] at h
  repeat' (first | (with_reducible first | refine W ?_ | refine Z0 ?_ | ((first | refine Wo fun K hK => ?_ | refine Wp ?_ | refine Wq ?_ | refine Wr ?_); (try simp only [go_sem, fN, seval, eT, iR, hk2, AB, dT, dF, nL]); (repeat refine Ai ?_); (try (refine hK _ ?_; clear hK K)); try refine iC ?_)) | refine Cg _ (hrow) ?_)
  refine IWP.loop (fun q s => ∃ k, k ≤ w.length ∧ q = w.length - k ∧ s.env 3 = .one (.ptr 3 1 0 0) ∧ s.env 4 = A1 w ∧ s.env 5 = AK k ∧ s.S 3 = some (Bc u)) w.length
   ⟨0, Nat.zero_le _, rfl, rfl, rfl, rfl, by simp only [go_sem, fN, seval, eT, iR]⟩ ?_
  rintro q ⟨env, S⟩ ⟨k, hk, rfl, e3, e4, e5, s3⟩
  simp only at e3 e4 e5 s3
  by_cases hlt : (k : Int) < w.length
  ·obtain ⟨x, hx⟩ := Ak (show k < w.length by omega)
   obtain ⟨c1, c2⟩ := J4 h hx
   rw [List.nil_append] at c1
   by_cases hk5 : u.kind = 5
   ·have hk5T := eq_true hk5
    obtain ⟨hx1, hx2⟩ := c1 (by simpa using hk5)
    have hx1T := eq_true hx1
    repeat' with_reducible first | refine W ?_ | refine Z0 ?_ | ((first | refine Wo fun K hK => ?_ | refine Wp ?_ | refine Wq ?_ | refine Wr ?_); (try simp only [go_sem, fN, seval, eT, iR, e3, e4, e5, s3, hlt, hx, hwl, hk5T, hx1T, AB, dT, dF, nL]); (repeat refine Ai ?_); (try (refine hK _ ?_; clear hK K)); try refine iC ?_)
    refine IWP.loop (fun q s => ∃ j, j ≤ k ∧ q = k - j ∧ s.env 3 = .one (.ptr 3 1 0 0) ∧ s.env 4 = A1 w ∧ s.env 5 = AK k ∧ s.env 6 = AK j ∧ s.S 3 = some (Bc u)) k
     ⟨0, Nat.zero_le _, rfl, e3, e4, e5, rfl, s3⟩ ?_
    clear e3 e4 e5 s3
    rintro q ⟨env, S⟩ ⟨j, hj, rfl, e3, e4, e5, e6, s3⟩
    simp only at e3 e4 e5 e6 s3
    by_cases hjl : (j : Int) < k
    ·obtain ⟨y, hy⟩ := Ak (show j < w.length by omega)
     have hne : ¬ y.idx = x.idx := by
      rw [List.all_eq_true] at hx2
      have hjk : j < k := by omega
      have := hx2 y (List.mem_of_getElem? (by rw [List.getElem?_take_of_lt hjk]; exact hy))
      simpa using this
     repeat' with_reducible first | refine W ?_ | refine Z0 ?_ | ((first | refine Wo fun K hK => ?_ | refine Wp ?_ | refine Wq ?_ | refine Wr ?_); (try simp only [go_sem, fN, seval, eT, iR, e3, e4, e5, e6, s3, hlt, hjl, hx, hy, hwl, hne, AB, dT, dF, nL]); (repeat refine Ai ?_); (try (refine hK _ ?_; clear hK K)); try refine iC ?_)
     exact AH ⟨k - (j + 1), by omega, j + 1, by omega, rfl, e3, e4, e5, rfl, s3⟩
    ·repeat' with_reducible first | refine W ?_ | refine Z0 ?_ | ((first | refine Wo fun K hK => ?_ | refine Wp ?_ | refine Wq ?_ | refine Wr ?_); (try simp only [go_sem, fN, seval, eT, iR, e3, e4, e5, e6, s3, hjl, dT, dF, nL]); (repeat refine Ai ?_); (try (refine hK _ ?_; clear hK K)); try refine iC ?_)
     exact AH ⟨w.length - (k + 1), by omega, k + 1, by omega, rfl, e3, e4, rfl, s3⟩
   ·have hc := ih x (hPw.2 x (AJ hx)) (hPz.2 x (AJ hx)) (c2 (by simpa using hk5))
    repeat' (first | (with_reducible first | refine W ?_ | refine Z0 ?_ | ((first | refine Wo fun K hK => ?_ | refine Wp ?_ | refine Wq ?_ | refine Wr ?_); (try simp only [go_sem, fN, seval, eT, iR, e3, e4, e5, s3, hlt, hx, hwl, hk5, AB, dT, dF, nL]); (repeat refine Ai ?_); (try (refine hK _ ?_; clear hK K)); try refine iC ?_)) | refine Cg _ (hc) ?_)
    exact AH ⟨w.length - (k + 1), by omega, k + 1, by omega, rfl, e3, e4, rfl, s3⟩
  ·repeat' with_reducible first | refine W ?_ | refine Z0 ?_ | ((first | refine Wo fun K hK => ?_ | refine Wp ?_ | refine Wq ?_ | refine Wr ?_); (try simp only [go_sem, fN, seval, eT, iR, e3, e4, e5, s3, hlt, hwl, dT, dF, nL]); (repeat refine Ai ?_); (try (refine hK _ ?_; clear hK K)); try refine iC ?_)
   simp only [go_sem, fN, seval, AY, AS.result, AD, AE, AM]
theorem PN (l : List Lm) (n : Nat) (hn : n ≤ 4) (hl : l.length ≤ 4) (h : OQ l n = true) : Aa Tryd.prog 13 [A1 l, AK n] (An true) := by
 unfold OQ at h
 rw [Bool.and_eq_true, List.all_eq_true, decide_eq_true_eq] at h
 obtain ⟨hall, hu⟩ := h
 have hall : ∀ t ∈ l, (t.size ≤ 1000 ∧ t.chk n 0 = 0) ∧ t.outer.isSome = false ∧ t.eta1.same t = true ∧ Hf 60 t = true := fun t ht => by
  have := hall t ht
  simp only [Bool.and_eq_true, decide_eq_true_eq, Bool.not_eq_true'] at this
  exact ⟨this.1.1.1, this.1.1.2, this.1.2, this.2⟩
 have hzs : Lm.sizes l ≤ 4000 := by
  have : ∀ l : List Lm, (∀ t ∈ l, t.size ≤ 1000) → Lm.sizes l ≤ 1000 * l.length := fun l => by
   induction l with
   | nil => intro _; simp [Lm.sizes]
   | cons x xs ih =>
    intro hx
    have h1 := hx x (by simp)
    have h2 := ih (fun t ht => hx t (by simp [ht]))
    simp only [Lm.sizes, List.length_cons]
    omega
  have := this l (fun t ht => (hall t ht).1.1)
  omega
 have hun := PH l (by omega)
 rw [hu] at hun
 have hll : (l.map Ac).length = l.length := List.length_map _
 have hul : (((List.range n).map fun i => ((i : Nat) : Int)).map B1).length = n := by simp
 refine Mz.ac fun C hC => ?_
 unfold IG
 repeat' with_reducible first | refine W ?_ | refine Z0 ?_ | ((first | refine Wo fun K hK => ?_ | refine Wp ?_ | refine Wq ?_ | refine Wr ?_); (try simp only [go_sem, fN, seval, eT, iR, dT, dF, nL]); (repeat refine Ai ?_); (try (refine hK _ ?_; clear hK K)); try refine iC ?_)
 refine IWP.loop (fun q s => ∃ k, k ≤ l.length ∧ q = l.length - k ∧ s.env 0 = A1 l ∧ s.env 1 = AK n ∧ s.env 5 = AK k) l.length
  ⟨0, Nat.zero_le _, rfl, rfl, rfl, rfl⟩ ?_
 rintro q ⟨env, S⟩ ⟨k, hk, rfl, e0, e1, e5⟩
 simp only at e0 e1 e5
 by_cases hlt : (k : Int) < l.length
 ·obtain ⟨t, ht⟩ := Ak (show k < l.length by omega)
  obtain ⟨⟨hz, hchk⟩, hout, hsm, hfr⟩ := hall t (AJ ht)
  have hw := Lm.wf_chk t _ hchk
  have hg : t.good 1000000000 := Lm.good_chk (by omega) t 0 _ (by omega) (by omega) (by omega) hchk
  have c1 := He t 1000000 (by omega) (by omega)
  have hcap : Bg t.size 1000000 = t.size := by unfold Bg; rw [if_neg (by omega)]
  rw [hcap] at c1
  have hz' : ¬ (1000000 : Int) < t.size := by omega
  have c2 := Oe t 0 n (by omega) (by omega)
  rw [hchk] at c2
  have c3 := Ey t hw (by omega)
  rw [hout] at c3
  have c4 := M9 t hw hg (by omega)
  have c5 := EM t.eta1 t
  rw [hsm] at c5
  have c6 := PV 60 t hw hz hfr
  generalize t.eta1 = t1 at *
  repeat' (first | (with_reducible first | refine W ?_ | refine Z0 ?_ | ((first | refine Wo fun K hK => ?_ | refine Wp ?_ | refine Wq ?_ | refine Wr ?_); (try simp only [go_sem, fN, seval, eT, iR, e0, e1, e5, hlt, ht, hll, hz', AB, dT, dF, nL]); (repeat refine Ai ?_); (try (refine hK _ ?_; clear hK K)); try refine iC ?_)) | refine Cg _ (c1) ?_ | refine Cg _ (c2) ?_ | refine Cg _ (c3) ?_ | refine Cg _ (c4) ?_ | refine Cg _ (c5) ?_ | refine Cg _ (c6) ?_)
  exact AH ⟨l.length - (k + 1), by omega, k + 1, by omega, rfl, e0, e1, rfl⟩
 ·repeat' (first | (with_reducible first | refine W ?_ | refine Z0 ?_ | ((first | refine Wo fun K hK => ?_ | refine Wp ?_ | refine Wq ?_ | refine Wr ?_); (try simp only [go_sem, fN, seval, eT, iR, e0, e1, e5, hlt, hll, dT, dF, nL]); (repeat refine Ai ?_); (try (refine hK _ ?_; clear hK K)); try refine iC ?_)) | refine Cg _ (hun) ?_)
  refine IWP.loop (fun q s => ∃ k, k ≤ n ∧ q = n - k ∧ s.env 1 = AK n ∧ s.env 6 = Lf ((List.range n).map fun i => ((i : Nat) : Int)) ∧ s.env 7 = AK k) n
   ⟨0, Nat.zero_le _, rfl, e1, rfl, rfl⟩ ?_
  clear e0 e1 e5 hlt hk
  rintro q ⟨env, S⟩ ⟨k, hk, rfl, e1, e6, e7⟩
  simp only at e1 e6 e7
  by_cases hlt : (k : Int) < n
  ·have hx : ((List.range n).map fun i => ((i : Nat) : Int))[k]? = some (k : Int) := by
    rw [List.getElem?_map, List.getElem?_range (by omega)]
    rfl
   generalize (List.range n).map (fun i => ((i : Nat) : Int)) = u at *
   repeat' with_reducible first | refine W ?_ | refine Z0 ?_ | ((first | refine Wo fun K hK => ?_ | refine Wp ?_ | refine Wq ?_ | refine Wr ?_); (try simp only [go_sem, fN, seval, eT, iR, e1, e6, e7, hlt, hx, hul, B1, dT, dF, nL]); (repeat refine Ai ?_); (try (refine hK _ ?_; clear hK K)); try refine iC ?_)
   exact AH ⟨n - (k + 1), by omega, k + 1, by omega, rfl, e1, e6, rfl⟩
  ·generalize (List.range n).map (fun i => ((i : Nat) : Int)) = u at *
   repeat' with_reducible first | refine W ?_ | refine Z0 ?_ | ((first | refine Wo fun K hK => ?_ | refine Wp ?_ | refine Wq ?_ | refine Wr ?_); (try simp only [go_sem, fN, seval, eT, iR, e1, e6, e7, hlt, hul, dT, dF, nL]); (repeat refine Ai ?_); (try (refine hK _ ?_; clear hK K)); try refine iC ?_)
   simp only [go_sem, fN, seval, AY, AS.result, AD, AE, AM]
theorem Og (g : Lm × Lm) (l : List Lm) (a b : Lm) (h1 : Dh g.1 l 400 = (a, 0)) (h2 : Dh g.2 l 400 = (b, 0)) (h3 : a.same b = true) : Aa Tryd.prog 16 [Cu [g], A1 l] (An true) := by
 have c1 := IY g.1 l 400
 have c2 := IY g.2 l 400
 rw [h1] at c1
 rw [h2] at c2
 have c3 := EM a b
 rw [h3] at c3
 refine D4.ac fun C hC => ?_
 unfold CQ
 repeat' with_reducible first | refine W ?_ | refine Z0 ?_ | ((first | refine Wo fun K hK => ?_ | refine Wp ?_ | refine Wq ?_ | refine Wr ?_); (try simp only [go_sem, fN, seval, eT, iR, dT, dF, nL]); (repeat refine Ai ?_); (try (refine hK _ ?_; clear hK K)); try refine iC ?_)
 refine IWP.loopD [6, 8] (fun q s => ∃ k, k ≤ 1 ∧ q = 1 - k ∧ s.env 0 = Cu [g] ∧ s.env 1 = A1 l ∧ s.env 5 = AK k ∧ s.S 6 = none ∧ s.S 8 = none) 1
  ⟨0, Nat.zero_le _, rfl, rfl, rfl, rfl, rfl, rfl⟩ ?_
 rintro q ⟨env, S⟩ ⟨k, hk, rfl, e0, e1, e5, s6, s8⟩
 simp only at e0 e1 e5 s6 s8
 by_cases hlt : (k : Int) < 1
 ·obtain rfl : k = 0 := by omega
  repeat' (first | (with_reducible first | refine W ?_ | refine Z0 ?_ | ((first | refine Wo fun K hK => ?_ | refine Wp ?_ | refine Wq ?_ | refine Wr ?_); (try simp only [go_sem, fN, seval, eT, iR, e0, e1, e5, s6, s8, AB, dT, dF, nL]); (repeat refine Ai ?_); (try (refine hK _ ?_; clear hK K)); try refine iC ?_)) | refine Cg _ (c1) ?_ | refine Cg _ (c2) ?_ | refine Cg _ (c3) ?_)
  refine AH ⟨0, by omega, 1, by omega, rfl, ?_, ?_, rfl, rfl, rfl⟩
  ·simp only [go_sem, fN, seval, AS.drop, AN, AC.clears, AC.clear, AC.highs, AC.high, Bool.not_false, Bool.true_and, Bool.and_self, AV.purge, AV.purges, AC.purge, AI.purge, List.contains_cons, List.contains_nil, Nat.reduceBEq, Bool.or_self, Bool.or_false, Bool.false_or, Bool.or_true, eT, iR, e0]
   rfl
  ·simp only [go_sem, fN, seval, AS.drop, AN, AC.clears, AC.clear, AC.highs, AC.high, Bool.not_false, Bool.true_and, Bool.and_self, AV.purge, AV.purges, AC.purge, AI.purge, List.contains_cons, List.contains_nil, Nat.reduceBEq, Bool.or_self, Bool.or_false, Bool.false_or, Bool.or_true, eT, iR, e1]
 ·repeat' with_reducible first | refine W ?_ | refine Z0 ?_ | ((first | refine Wo fun K hK => ?_ | refine Wp ?_ | refine Wq ?_ | refine Wr ?_); (try simp only [go_sem, fN, seval, eT, iR, e0, e1, e5, s6, s8, hlt, dT, dF, nL]); (repeat refine Ai ?_); (try (refine hK _ ?_; clear hK K)); try refine iC ?_)
  simp only [go_sem, fN, seval, AY, AS.result, AD, AE, AM]

def prA (u : Int) (i j : Nat) : Lm := Lm.l (Lm.l (Lm.l (Lm.a (Lm.a (mU u) (Lm.v i)) (Lm.v j))))
def Es (i j k l : Nat) : Nat → Nat
 | 0 => 0
 | v + 1 => if (v = i ∨ v = j) ∧ (v = k ∨ v = l) then Es i j k l v + 1 else Es i j k l v
def En (t : Lm) : Lm := Lm.a (Lm.a t (cP 1)) (cP 2)
def LF (i j k l : Nat) : Bool := match LI 60 2 [(prA 0 i j, prA 1 k l)] with
 | some ([t0, t1], n, e) => decide (n = 1 ∧ e = 0) && OQ [t0, t1] 1 && decide ((En t0).size ≤ 2000) && decide ((En t0).chk 40 0 = 0) && decide ((Lm.run 9 0 (En t0)).2.2 = 0) && decide ((Ao (Lm.run 9 0 (En t0)).1).1.kind = 5) && decide ((Ao (Lm.run 9 0 (En t0)).1).2.length = Es i j k l 3) && decide ((Lm.run 9 0 (En t0)).1.size ≤ 1000) && decide ((Lm.run 9 0 (En t0)).1.chk 40 0 = 0) && PB (prA 0 i j, prA 1 k l) [t0, t1] (fun t l => Dh t l 400)
 | _ => false
theorem Mb : ((List.range 3).all fun i => (List.range 2).all fun j => (List.range 3).all fun k => (List.range 2).all fun l => LF i ((i + 1 + j) % 3) k ((k + 1 + l) % 3)) = true := by decide +kernel
theorem Jl (i j k l : Nat) : ∀ v, Es i j k l v ≤ v
 | 0 => Nat.le_refl _
 | v + 1 => by
  have := Jl i j k l v
  unfold Es
  split <;> omega
theorem No {i j k l : Nat} (hi : i < 3) (hj : j < 2) (hk : k < 3) (hl : l < 2) : LF i ((i + 1 + j) % 3) k ((k + 1 + l) % 3) = true := by
 have h := Mb
 rw [List.all_eq_true] at h
 have h1 := h i (List.mem_range.2 hi)
 rw [List.all_eq_true] at h1
 have h2 := h1 j (List.mem_range.2 hj)
 rw [List.all_eq_true] at h2
 have h3 := h2 k (List.mem_range.2 hk)
 rw [List.all_eq_true] at h3
 exact h3 l (List.mem_range.2 hl)
set_option maxRecDepth 100000 in
theorem LH (a0 b0 c0 d0 : Int) : Aa Tryd.prog 4 [AK a0, AK b0, AK c0, AK d0] (An true) := by
 obtain ⟨i, hi, pi⟩ := JK a0 3 (by decide) (by decide)
 obtain ⟨j0, hj0, pj⟩ := JK b0 2 (by decide) (by decide)
 obtain ⟨k, hk, pk⟩ := JK c0 3 (by decide) (by decide)
 obtain ⟨l0, hl0, pl⟩ := JK d0 2 (by decide) (by decide)
 have hpr := No (i := i) (j := j0) (k := k) (l := l0) (by omega) (by omega) (by omega) (by omega)
 have hr1 : Int.tmod ((i : Int) + 1 + j0) 3 = (((i + 1 + j0) % 3 : Nat) : Int) := by
  rw [Int.tmod_eq_emod_of_nonneg (by omega)]
  omega
 have hr2 : Int.tmod ((k : Int) + 1 + l0) 3 = (((k + 1 + l0) % 3 : Nat) : Int) := by
  rw [Int.tmod_eq_emod_of_nonneg (by omega)]
  omega
 have hj3 : (i + 1 + j0) % 3 < 3 := Nat.mod_lt _ (by decide)
 have hl3 : (k + 1 + l0) % 3 < 3 := Nat.mod_lt _ (by decide)
 generalize (i + 1 + j0) % 3 = j at *
 generalize (k + 1 + l0) % 3 = l at *
 unfold LF at hpr
 split at hpr
 rotate_left
 ·cases hpr
 rename_i t0 t1 n e hsol
 simp only [Bool.and_eq_true, decide_eq_true_eq, PB] at hpr
 obtain ⟨⟨⟨⟨⟨⟨⟨⟨⟨⟨rfl, rfl⟩, hfine⟩, hbz⟩, hbc⟩, hre⟩, hk5⟩, hlen⟩, hxz⟩, hxc⟩, ⟨hm1, hm2⟩, hm3⟩ := hpr
 have hbg : (En t0).good 1000000 := Lm.good_chk (by decide) _ 0 _ (by decide) (by omega) (by decide) hbc
 have cE := MA (En t0) 9 (by decide) (Lm.wf_chk _ _ hbc) hbz hbg
 have cF : Aa Tryd.prog 13 [A1 [t0, t1], AK 1] (An true) := PN [t0, t1] 1 (by decide) (by simp) hfine
 have cM := Og (prA 0 i j, prA 1 k l) [t0, t1] (Dh (prA 0 i j) [t0, t1] 400).1 (Dh (prA 1 k l) [t0, t1] 400).1 (Prod.ext rfl hm1) (Prod.ext rfl hm2) hm3
 have cS := O7 60 2 _ _ _ _ hsol
 obtain ⟨ts, hts⟩ : ∃ ts : List Lm, ts = [t0, t1] := ⟨_, rfl⟩
 have hl2 : ts.length = 2 := by rw [hts]; rfl
 have hl2' : (ts.map Ac).length = 2 := by rw [List.length_map, hl2]
 have h0t : ts[0]? = some t0 := by rw [hts]; rfl
 rw [← hts] at cF cM cS
 clear hm1 hm2 hm3 hsol hfine hbg hbc
 unfold En at *
 generalize hR : Lm.run 9 0 (Lm.a (Lm.a t0 (cP 1)) (cP 2)) = R at *
 obtain ⟨x, rn, re⟩ := R
 simp only at hre hk5 hlen hxz hxc
 subst hre
 have cR := N8 x (Lm.wf_chk _ _ hxc) (by omega)
 generalize Ao x = rw_ at *
 obtain ⟨hd, args⟩ := rw_
 simp only at hk5 hlen cR
 have cA1 := Fw t0 (cP 1)
 have cA2 := Fw (Lm.a t0 (cP 1)) (cP 2)
 have cC1 := OG 1
 have cC2 := OG 2
 generalize cP 1 = c1 at *
 generalize cP 2 = c2 at *
 generalize Lm.a t0 c1 = w1 at *
 generalize Lm.a w1 c2 = w2 at *
 unfold prA at *
 have cU0 := OE 0
 have cU1 := OE 1
 generalize mU 0 = u0 at *
 generalize mU 1 = u1 at *
 have cVi := Df i
 have cVj := Df j
 have cVk := Df k
 have cVl := Df l
 unfold Lm.v at *
 have x1 := Fw u0 (Lm.mk 1 i [])
 have x2 := Fw (Lm.a u0 (Lm.mk 1 i [])) (Lm.mk 1 j [])
 have x3 := Fx (Lm.a (Lm.a u0 (Lm.mk 1 i [])) (Lm.mk 1 j []))
 have x4 := Fx (Lm.l (Lm.a (Lm.a u0 (Lm.mk 1 i [])) (Lm.mk 1 j [])))
 have x5 := Fx (Lm.l (Lm.l (Lm.a (Lm.a u0 (Lm.mk 1 i [])) (Lm.mk 1 j []))))
 have y1 := Fw u1 (Lm.mk 1 k [])
 have y2 := Fw (Lm.a u1 (Lm.mk 1 k [])) (Lm.mk 1 l [])
 have y3 := Fx (Lm.a (Lm.a u1 (Lm.mk 1 k [])) (Lm.mk 1 l []))
 have y4 := Fx (Lm.l (Lm.a (Lm.a u1 (Lm.mk 1 k [])) (Lm.mk 1 l [])))
 have y5 := Fx (Lm.l (Lm.l (Lm.a (Lm.a u1 (Lm.mk 1 k [])) (Lm.mk 1 l []))))
 generalize Lm.mk 1 (i : Int) [] = vi at *
 generalize Lm.mk 1 (j : Int) [] = vj at *
 generalize Lm.mk 1 (k : Int) [] = vk at *
 generalize Lm.mk 1 (l : Int) [] = vl at *
 generalize Lm.a u0 vi = p1 at *
 generalize Lm.a p1 vj = p2 at *
 generalize Lm.l p2 = p3 at *
 generalize Lm.l p3 = p4 at *
 generalize Lm.l p4 = p5 at *
 generalize Lm.a u1 vk = q1 at *
 generalize Lm.a q1 vl = q2 at *
 generalize Lm.l q2 = q3 at *
 generalize Lm.l q3 = q4 at *
 generalize Lm.l q4 = q5 at *
 refine DB.ac fun C hC => ?_
 unfold B0
 repeat' (first | (with_reducible first | refine W ?_ | refine Z0 ?_ | ((first | refine Wo fun K hK => ?_ | refine Wp ?_ | refine Wq ?_ | refine Wr ?_); (try simp only [go_sem, fN, seval, eT, iR, hr1, hr2, hl2, hl2', h0t, AB, dT, dF, nL]); (repeat refine Ai ?_); (try (refine hK _ ?_; clear hK K)); try refine iC ?_)) | refine Cg _ (pi) ?_ | refine Cg _ (pj) ?_ | refine Cg _ (pk) ?_ | refine Cg _ (pl) ?_ | refine Cg _ (cU0) ?_ | refine Cg _ (cU1) ?_ | refine Cg _ (cVi) ?_ | refine Cg _ (cVj) ?_ | refine Cg _ (cVk) ?_ | refine Cg _ (cVl) ?_ | refine Cg _ (x1) ?_ | refine Cg _ (x2) ?_ | refine Cg _ (x3) ?_ | refine Cg _ (x4) ?_ | refine Cg _ (x5) ?_ | refine Cg _ (y1) ?_ | refine Cg _ (y2) ?_ | refine Cg _ (y3) ?_ | refine Cg _ (y4) ?_ | refine Cg _ (y5) ?_ | refine Cg _ (cS) ?_ | refine Cg _ (cF) ?_)
 refine IWP.loop (fun q s => ∃ v : Nat, v ≤ 3 ∧ q = 3 - v ∧ s.env 0 = AK i ∧ s.env 1 = AK j ∧ s.env 2 = AK k ∧ s.env 3 = AK l ∧ s.env 9 = .one (.ptr 9 1 0 0) ∧ s.env 10 = .one (.ptr 10 1 0 0) ∧ s.env 11 = A1 ts ∧ s.env 14 = AK (Es i j k l v) ∧ s.env 15 = AK v ∧ s.S 9 = some (Bc p5) ∧ s.S 10 = some (Bc q5) ∧ s.S 16 = none ∧ s.S 17 = none ∧ s.S 20 = none) 3
  ⟨0, Nat.zero_le _, rfl, rfl, rfl, rfl, rfl, rfl, rfl, rfl, rfl, rfl, by simp only [go_sem, fN, seval, eT, iR], by simp only [go_sem, fN, seval, eT, iR], rfl, rfl, rfl⟩ ?_
 rintro q ⟨env, S⟩ ⟨v, hv, rfl, e0, e1, e2, e3, e9, e10, e11, e14, e15, s9, s10, s16, s17, s20⟩
 simp only at e0 e1 e2 e3 e9 e10 e11 e14 e15 s9 s10 s16 s17 s20
 have hble := Jl i j k l v
 by_cases hlt : (v : Int) < 3
 ·have hst : Es i j k l (v + 1) = if (v = i ∨ v = j) ∧ (v = k ∨ v = l) then Es i j k l v + 1 else Es i j k l v := rfl
  generalize Es i j k l v = b at *
  by_cases hvi : v = i <;> by_cases hvj : v = j <;> by_cases hvk : v = k <;> by_cases hvl : v = l
  all_goals
   first | have cvi : ((v : Int) = i) = True := eq_true (by omega) | have cvi : ((v : Int) = i) = False := eq_false (by omega)
   first | have cvj : ((v : Int) = j) = True := eq_true (by omega) | have cvj : ((v : Int) = j) = False := eq_false (by omega)
   first | have cvk : ((v : Int) = k) = True := eq_true (by omega) | have cvk : ((v : Int) = k) = False := eq_false (by omega)
   first | have cvl : ((v : Int) = l) = True := eq_true (by omega) | have cvl : ((v : Int) = l) = False := eq_false (by omega)
   first | rw [if_pos (by omega)] at hst | rw [if_neg (by omega)] at hst
   clear hvi hvj hvk hvl
   repeat' with_reducible first | refine W ?_ | refine Z0 ?_ | ((first | refine Wo fun K hK => ?_ | refine Wp ?_ | refine Wq ?_ | refine Wr ?_); (try simp only [go_sem, fN, seval, eT, iR, e0, e1, e2, e3, e9, e10, e11, e14, e15, hlt, cvi, cvj, cvk, cvl, dT, dF, nL]); (repeat refine Ai ?_); (try (refine hK _ ?_; clear hK K)); try refine iC ?_)
   refine AH ⟨3 - (v + 1), by omega, v + 1, by omega, rfl, e0, e1, e2, e3, e9, e10, e11, ?_, rfl, s9, s10, s16, s17, s20⟩
   rw [hst]
   first | rfl | exact e14
 ·have hve : v = 3 := by omega
  subst hve
  have hk5T := eq_true hk5
  rw [← hlen] at e14
  repeat' (first | (with_reducible first | refine W ?_ | refine Z0 ?_ | ((first | refine Wo fun K hK => ?_ | refine Wp ?_ | refine Wq ?_ | refine Wr ?_); (try simp only [go_sem, fN, seval, eT, iR, e0, e1, e2, e3, e9, e10, e11, e14, e15, s9, s10, s16, s17, s20, hlt, hl2, hl2', h0t, hk5T, AB, dT, dF, nL]); (repeat refine Ai ?_); (try (refine hK _ ?_; clear hK K)); try refine iC ?_)) | refine Cg _ (cC1) ?_ | refine Cg _ (cA1) ?_ | refine Cg _ (cC2) ?_ | refine Cg _ (cA2) ?_ | refine Cg _ (cE) ?_ | refine Cg _ (cR) ?_ | refine Cg _ (cM) ?_)
  simp only [go_sem, fN, seval, AY, AS.result, AD, AE, AM]

open Go.ChangeShapes Go.WideShapes Go.ChangeAt
section
variable {H : Type} {enc : TypeId × Value → H} {P : Program}
theorem Eo (hl : laidOutB P = true) : ∀ {ts : List TypeId} {vs : List Value} {ds : List (DataW H)} {ps : List MemPlace} {W W' : World} {sp : Nat → Bool},
  (∀ t ∈ ts, P.readableRec t = true ∧ t < P.types.size) → DataW.TrodAll enc P W 0 (fun _ => true) true ts vs ds ps → (∀ p ∈ ps, W.sameAt W' p) → (∀ p ∈ ps, sp p.block = true) → DataW.TrodAll enc P W' 0 sp true ts vs ds ps
 | [], [], [], _, _, _, _, _, h, _, _ => h
 | _ :: _, _ :: _, _ :: _, _, _, _, _, hT, ⟨p, q, h1, h2, e⟩, hsame, hs => ⟨p, q, WideElems.Trod_stays hl (hT _ (List.mem_cons.2 (Or.inl rfl))).1 (hT _ (List.mem_cons.2 (Or.inl rfl))).2 h1 (fun x hx => hsame x (by rw [e]; exact List.mem_append_left _ hx)) (fun x hx => hs x (by rw [e]; exact List.mem_append_left _ hx)),
   Eo hl (fun t ht => hT t (List.mem_cons.2 (Or.inr ht))) h2 (fun x hx => hsame x (by rw [e]; exact List.mem_append_right _ hx)) (fun x hx => hs x (by rw [e]; exact List.mem_append_right _ hx)), e⟩
 | [], _ :: _, _, _, _, _, _, _, h, _, _ => h.elim
 | [], [], _ :: _, _, _, _, _, _, h, _, _ => h.elim
 | _ :: _, [], _, _, _, _, _, _, h, _, _ => h.elim
 | _ :: _, _ :: _, [], _, _, _, _, _, h, _, _ => h.elim
theorem ON {f : Func} {s : ChangeSpec} {apart fresh handsOn : Bool} {W W' : World} {args : Array Value} {ds : List (DataW H)} {before : List MemPlace} {tb : TypeId}
  (hW : DataW.Whole enc P f.params.toList s.vars apart W args.toList ds [] before) (hv : s.vars = []) (hr : f.resultTypes = #[tb]) (htb : P.underlying tb = some .bool)
  (hres : (s.fn H (ds ++ [])).results = [.lit (.bool true)]) (hargs : (s.fn H (ds ++ [])).args = ds) (hvs : (s.fn H (ds ++ [])).vars = [])
  (hl : laidOutB P = true) (hT : (f.params.toList.all fun t => P.readableRec t && decide (t < P.types.size)) = true) (hb : Below W.heap.size W W') :
  s.post enc P f apart fresh handsOn false W args (.bool true) W' := by
 have hlt : ∀ p ∈ before, p.block < W.heap.size := fun p hp => hW.lt p hp
 have hT' : ∀ t ∈ f.params.toList, P.readableRec t = true ∧ t < P.types.size := fun t ht => by
  have := List.all_eq_true.1 hT t ht
  simpa using this
 obtain ⟨p, q, hA, hV, rfl, hz, hn⟩ := hW
 rw [hv] at hV
 obtain ⟨_, rfl⟩ := trodVars_none hV
 have hargs' : ∀ sp : Nat → Bool, (∀ x ∈ p, sp x.block = true) → DataW.TrodAll enc P W' 0 sp true f.params.toList args.toList ds p := fun sp hsp =>
  Eo hl hT' hA (fun x hx => hb.same (hlt x (by simpa using hx))) hsp
 have hres' : ∀ (b : Nat) (sp : Nat → Bool) (hd : Bool), DataW.TrodAll enc P W' b sp hd f.resultTypes.toList ((Value.bool true).resultList f.resultTypes.size) (s.fn H (ds ++ [])).results [] := fun b sp hd => by
  rw [hres, hr]
  exact trodAll_cons_mk (shut_bool htb true) trodAll_mk0
 refine ⟨ds, [], p ++ [], [], p, [], ⟨p, [], hA, by rw [hv]; exact rfl, rfl, hz, hn⟩, hres' _ _ _, by rw [hargs]; exact hargs' _ (fun x hx => by simpa using hlt x (by simpa using hx)), by rw [hv, hvs]; exact rfl,
  World.keptBut_mono (fun x hx => ⟨hx, Or.inr (by simpa using hx)⟩) (hb.frame (· ∈ p ++ [])), fun h => by cases h⟩
variable {W : World} {sp : Nat → Bool} {hd : Bool} {base : Nat}
def sto (W : World) : Sto := B5 W
theorem Oc (W : World) : Fit (sto W) W := fun _ _ h => h
theorem M_ {t : TypeId} (ht : P.underlying t = some (.int .i64)) (fuel : Nat) (cs : List Value) (x : DataW H × List MemPlace) (h : DataW.trod enc P W base sp hd fuel t cs = some x) : ∃ n : Int, Ae (Ax (sto W)) cs (B1 n) := by
 obtain ⟨n, rfl, _, hn⟩ := DataW.trod_int ht h
 exact ⟨n, .cons (.int (by rw [FN]; simpa [Lit.wf, IntKind.min, IntKind.max, IntKind.signed, IntKind.bits] using hn)) .nil⟩
theorem Gg {t : TypeId} (ht : P.underlying t = some (.int .i64)) {r : Reach} {b0 : Nat} {v : Value} {d : DataW H} {p : List MemPlace} (hv : Value.okWide P W r b0 t v) (h : DataW.Trod enc P W base sp hd t v d p) : ∃ n : Int, AT (sto W) noS noH v (AK n) := by
 obtain ⟨n, rfl⟩ := okWide_int ht hv
 obtain ⟨fuel, hf⟩ := h
 obtain ⟨m, hm⟩ := M_ ht fuel _ _ hf
 have : Ae (Ax (sto W)) [.int .i64 n] (B1 m) := hm
 cases this with
 | cons h1 h2 => exact ⟨m, .one (.st h1)⟩
end
theorem KR {P : Program} {f : FuncId} {xs : List AV} {b : Bool} (h : Aa P f xs (An b)) {σ : Sto} {w : World} {vs : List Value} (hg : Bz σ) (hf : Fit σ w) (hv : Ae (AT σ noS noH) vs xs) :
  Calls P f vs.toArray w fun e w' => e = .returned (.bool b) ∧ Below w.heap.size w w' := (h σ w vs hg hf hv).mono fun e w' ⟨v, σ', he, hv, _, _, hb⟩ => by
 rw [CS hv] at he
 exact ⟨he, hb⟩

theorem Lk {P : Program} {W : World} {x : String × DataW Unit} : ∀ {l : List (String × DataW Unit)} {ps : List MemPlace}, DataW.LaidVars P W l ps → x ∈ l → ∃ q, DataW.LaidVars P W [x] q
 | [], _, _, hx => by simp at hx
 | y :: l, ps, h, hx => by
  obtain ⟨n, d⟩ := y
  obtain ⟨g, t, cs, fuel, p, q, a1, a2, a3, a4, a5, a6⟩ := h
  rcases List.mem_cons.1 hx with rfl | hx
  ·exact ⟨_, g, t, cs, fuel, p, [], a1, a2, a3, a4, rfl, rfl⟩
  ·exact Lk a5 hx
theorem NY {P : Program} {W : World} {n : String} {g : Nat} {cs : Array Value} (hg : P.globalNamed n = some g) (h : W.var? P n = some cs) : sto W ⟨g, cs.size, some 0⟩ = some .nilFunc := by
 unfold World.var? at h
 rw [hg] at h
 simp only [Option.bind_some] at h
 show B5 W _ = _
 unfold B5
 simp only
 cases hb : W.heap[g]? with
 | none => rw [hb] at h; cases h
 | some o =>
  rw [hb] at h
  cases o <;> simp_all
theorem N0 {P : Program} {W : World} {name : String} {g : Nat} {t e : TypeId} {n : Nat} {k : IntKind} {zs : List Int} (hg : P.globalNamed name = some g) (hty : (P.globals[g]?).map (·.type) = some t) (ht : P.underlying t = some (.array n e)) (he : P.underlying e = some (.int k))
  (hce : P.cellsOf e = 1) (hct : P.cellsOf t = n) (hin : ∀ z ∈ zs, inR k z) {ps : List MemPlace} (h : DataW.LaidVars P W [(name, Lib.tabData k zs)] ps) : I6 (sto W) (g, zs.map fun z => .int k z) := by
 obtain ⟨g0, t0, cs0, f0, p0, q0, hg0, ht0, hv0, hd0, _, _⟩ := h
 obtain rfl := Option.some.inj (hg.symm.trans hg0)
 obtain rfl := Option.some.inj (hty.symm.trans ht0)
 have hc := Lib.cells_of_tab ht he hce hct hd0
 have hs : cs0.size = zs.length := by
  have := congrArg List.length hc
  simpa using this
 refine ⟨⟨fun j => (zs[j]?).elim .nilFunc (.int k), fun j a ha => ?_, fun j a ha => ?_⟩, ?_⟩
 ·rw [List.getElem?_map, Option.map_eq_some_iff] at ha
  obtain ⟨z, hz, rfl⟩ := ha
  have h1 := World.var?_cell hg0 hv0 j
  have h2 : cs0[j]? = some (.int k z) := by
   have h3 := congrArg (fun l : List Value => l[j]?) hc
   simpa [hz] using h3
  show B5 W _ = _
  rw [Bt rfl, Nat.zero_add, h1, h2]
  simp only [hz, Option.elim]
 ·rw [List.getElem?_map, Option.map_eq_some_iff] at ha
  obtain ⟨z, hz, rfl⟩ := ha
  simp only [hz, Option.elim]
  exact .int (hin z (List.mem_of_getElem? hz))
 ·have := NY hg0 hv0
  rw [hs] at this
  simpa using this
theorem PP {zs : List Int} (h : zs.all (fun z => decide (-9223372036854775808 ≤ z) && decide (z ≤ 9223372036854775807)) = true) : ∀ z ∈ zs, inR .i64 z := fun z hz => by
 have := List.all_eq_true.1 h z hz
 rw [FN]
 simpa using this
theorem Mm {W : World} {ps : List MemPlace} (h : DataW.LaidVars Tryd.prog W [("metaprune/lambda.subs", Rows.laid_metaprune_lambda_subs)] ps) : I6 (sto W) (0, [.int .i64 0, .int .i64 0, .int .i64 1, .int .i64 2, .int .i64 0, .int .i64 0]) := N0 (k := .i64) (zs := [0, 0, 1, 2, 0, 0]) (by kernel_rfl) (by kernel_rfl) Tryd.underlying80 Tryd.underlying3 (by kernel_rfl) (by kernel_rfl) (PP (by decide)) h

end Go.Proofs.YtcgnojefbalbbaaDoor
namespace Go.Proofs.YtcgnojefbalbbaaDoor.topPrune
open Go Go.RowKit Go.ChangeShapes Go.WideShapes Go.ChangeAt
set_option linter.unusedVariables false
theorem OX {W : World} (h : laidMetH Tryd.prog Rows.topPruneRow.laid W) : Bz (sto W) := by
 rw [MakeChecks.laidMetH_plain _ _ _ (by kernel_rfl)] at h
 obtain ⟨ps, h, _, _⟩ := h
 obtain ⟨_, h1⟩ := Lk (x := ("metaprune/lambda.subs", Rows.laid_metaprune_lambda_subs)) h (by simp [Rows.topPruneRow])
 intro y hy
 simp only [Je, List.mem_cons, List.not_mem_nil, or_false] at hy
 subst hy
 exact Mm h1
theorem own : ownKnob Tryd.prog.godebug = none := by kernel_rfl
theorem laid : laidOutB Tryd.prog = true := by kernel_rfl
set_option maxRecDepth 100000 in
theorem N_ (H : Type) (enc : TypeId × Value → H) (W : World) (base : Nat) (args : Array Value) (ds gs : List (DataW H)) (before : List MemPlace) (hL : laidMetH Tryd.prog Rows.topPruneRow.laid W)
  (hval : ∀ (j : Nat) t v, Tryd.f4.params[j]? = some t → args[j]? = some v → Value.okWide Tryd.prog W .any base t v)
  (hW : DataW.Whole enc Tryd.prog Tryd.f4.params.toList Rows.topPruneSpec.vars false W args.toList ds gs before) :
  Calls Tryd.prog 4 args W fun e W' => ∃ v, e = .returned v ∧ Rows.topPruneSpec.post enc Tryd.prog Tryd.f4 false true false false W args v W' := by
 have hG := OX hL
 obtain ⟨p, q, hA0, hV, rfl, hfz, hnd⟩ := id hW
 obtain ⟨rfl, rfl⟩ := trodVars_none hV
 have hA : DataW.TrodAll enc Tryd.prog W 0 (fun _ => true) true Tryd.f4.params.toList args.toList ds p := hA0
 rw [Tryd.params4] at hA hval
 obtain ⟨v0, v1, v2, v3, d0, d1, d2, d3, p0, p1, p2, p3, hargs, rfl, rfl, h0, h1, h2, h3⟩ := trodAll_four hA
 obtain rfl : args = #[v0, v1, v2, v3] := by cases args; simp_all
 obtain ⟨m0, r0⟩ := Gg Tryd.underlying3 (hval 0 3 v0 rfl rfl) h0
 obtain ⟨m1, r1⟩ := Gg Tryd.underlying3 (hval 1 3 v1 rfl rfl) h1
 obtain ⟨m2, r2⟩ := Gg Tryd.underlying3 (hval 2 3 v2 rfl rfl) h2
 obtain ⟨m3, r3⟩ := Gg Tryd.underlying3 (hval 3 3 v3 rfl rfl) h3
 refine (KR (LH m0 m1 m2 m3) hG (Oc W) (vs := [v0, v1, v2, v3]) (.cons r0 (.cons r1 (.cons r2 (.cons r3 .nil))))).mono fun e W' ⟨he, hb⟩ => ⟨_, he, ?_⟩
 exact ON hW rfl rfl Tryd.underlying4 rfl rfl rfl laid (by kernel_rfl) hb
theorem Nq (os : Os) (args : Array Value) : laidMetH Tryd.prog Rows.topPruneRow.laid ((World.doorLaid Tryd.prog 400 os).forCall (fun _ _ => 0) ⟨#[], args, []⟩).memory :=
 laidMetH_of_parts3 (fuel := 8) (laidMet_of_run' 8 (by kernel_rfl) (by kernel_rfl)) (by kernel_rfl) (by kernel_rfl)
set_option maxRecDepth 100000 in
theorem PF (os : Os) (started : os.Started) (H : Type) (enc : TypeId × Value → H) :
  ReturnsInHanded {} Tryd.checked os 4 .any (fun w args => (Rows.topPruneSpec.pre enc Tryd.prog Tryd.f4 [] false w args ∧ laidMetH Tryd.prog Rows.topPruneRow.laid w) ∧ sizedMet enc Tryd.prog Tryd.f4 (OpenSpec.ofChange Rows.topPruneSpec) false w args)
   (Rows.topPruneSpec.post enc Tryd.prog Tryd.f4 false true false false) := by
 refine returnsInHanded_of_change_and (C := Tryd.checked) (X := fun w _ => laidMetH Tryd.prog Rows.topPruneRow.laid w) (fun _ _ _ hh h => h.of_heap hh) own started (by kernel_rfl) Tryd.func4
  (ChangeSpec.witness_shaped (enc := enc) (C := Tryd.checked) (os := os) (X := fun w _ => laidMetH Tryd.prog Rows.topPruneRow.laid w) false (World.doorLaid Tryd.prog 400 os) #[.int .i64 0, .int .i64 0, .int .i64 0, .int .i64 0] 8 rfl (World.shaped_of_RefB (by kernel_rfl) (by kernel_rfl)) (by kernel_rfl) (by kernel_rfl) (by kernel_rfl) (Nq os _)) ?_
 intro W base args ds gs before hval hW _ _ hL _
 exact N_ H enc W base args ds gs before hL hval hW
theorem M3 : Rows.TopPruneSaid :=
 OpenClaim.holds_of_wide 4 Tryd.f4 rfl rfl rfl rfl rfl rfl rfl ⟨rfl, rfl, rfl, rfl, rfl⟩ rfl rfl rfl rfl rfl (by kernel_rfl) Tryd.func4 (by kernel_rfl)
  (of_decide_eq_true (by kernel_rfl)) (by unfold Func.isWrapper; first | (rw [if_pos (by decide +kernel)]; kernel_rfl) | (rw [if_neg (by decide +kernel)]; exact ⟨rfl, rfl⟩))
  (fun os started H enc _ => PF os started H enc)
theorem ND : (Tryd.f4.params.toList.all fun t => !Tryd.prog.wantsStandIn t) = true := by kernel_rfl
theorem proved : Rows.TopPruneCardSaid :=
 Claim7.holds_tied_plain_at .later [] [.data] true Rows.topPruneCard.stood.harness Rows.topPruneCard.stood.looks
  M3 (fun _ h => by cases h) (by kernel_rfl) (fun _ h => by cases h) topPrune_row_tie rfl ⟨rfl, rfl⟩ (by kernel_rfl) rfl
  (fun f fn hf hfn => by
   obtain rfl : f = 4 := Option.some.inj ((show Tryd.prog.funcNamed "metaprune/metaprunetop.TopPrune" = some 4 by kernel_rfl).symm.trans hf) |>.symm
   obtain rfl : fn = Tryd.f4 := (Option.some.inj (Tryd.func4.symm.trans hfn)).symm
   exact ⟨by kernel_rfl, fun j t ht => by
    have h1 := List.all_eq_true.1 ND t (by rw [Array.mem_toList_iff]; exact Array.mem_of_getElem? ht)
    have h2 : Tryd.prog.wantsStandIn t = false := by simpa using h1
    exact h2⟩)
  (by kernel_rfl)

end Go.Proofs.YtcgnojefbalbbaaDoor.topPrune
