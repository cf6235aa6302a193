/-
  Proved: for every lambda term and type, the long normal form is what R1 says, or its error, and a term is like itself: the law LongSays returns true; as a tied card. Conditions: none.
-/
import Derived.Test.YtkjlddlllofenaaGreatDoorLoS10
import Derived.Test.YtkjlddlllofenaaGreatDoorRows
import Derived.ProofKit
import Derived.OpenShut
import Derived.JoinedCond
import Derived.Deep.Slices
import Derived.Test.YtkjlddlllofenaaGreatDoorTie
import Derived.Test.YtkjlddlllofenaaGreatDoorCards
import Derived.LaidMore
import Derived.MakeChecks
import Derived.Stop.Joined
import Derived.Lib.LaidTab
import Derived.Lib.ItoaNum
import Derived.LaidLaws
namespace Go.Proofs.YtkjlddlllofenaaGreatDoor
open Go Go.RowKit
set_option linter.unusedVariables false
set_option linter.unusedSimpArgs false
set_option maxHeartbeats 2000000
def PrinC (t : Lm) (b : BT) (e : Int) : Prop :=
  ACalls Tryz.prog 56 [aLm t] (.tup [aTy b.ty, aInt e]) ∧ (t.may 0 0 ≠ 0 → e = t.may 0 0) ∧ (t.may 0 0 = 0 → t.pure = false → e = 15) ∧ (t.may 0 0 = 0 → t.pure = true → (e = 0 ∨ e = 8 ∨ e = 11) ∧ ACalls Tryz.prog 11 [aLm t] (.tup [aTy b.ty, aInt e]) ∧ (e = 0 → ∀ E, Typ [] t (b.inst E)))
theorem prin_no {t : Lm} (h : t.may 0 0 ≠ 0) : PrinC t (.b 0) (t.may 0 0) := by
  refine ⟨?_, fun _ => rfl, fun h0 => absurd h0 h, fun h0 => absurd h0 h⟩
  refine ok_infer_Principal.ac fun C hC => ?_
  unfold ir_infer_Principal
  repeat' (first | (with_reducible first | refine W ?_ | refine Wz0 ?_) | refine Cg _ (lCheck_a t 0) ?_ | ((with_reducible first | refine Wo (fun K hK => ?_) | refine Wp ?_ | refine Wq ?_ | refine Wr ?_); (try simp only [go_sem, fN, seval, eT, iR, h, dT, dF, nL]); (repeat with_reducible refine Ai ?_); (try (refine hK _ ?_; clear hK K)); (try with_reducible refine iC ?_)))
  simp only [go_sem, fN, seval, FinQ, AS.result, resAll, resOne, tupV, h]
  try rfl
theorem prin_open {t : Lm} (h : t.may 0 0 = 0) (hp : t.pure = false) : PrinC t (.b 0) 15 := by
  obtain ⟨_, _, h3, _⟩ := Lm.may_ok h
  refine ⟨?_, fun h0 => absurd h h0, fun _ _ => rfl, fun _ h1 => by rw [hp] at h1; cases h1⟩
  refine ok_infer_Principal.ac fun C hC => ?_
  unfold ir_infer_Principal
  repeat' (first | (with_reducible first | refine W ?_ | refine Wz0 ?_) | refine Cg _ (lCheck_a t 0) ?_ | refine Cg _ (pure_a t (by omega)) ?_ | ((with_reducible first | refine Wo (fun K hK => ?_) | refine Wp ?_ | refine Wq ?_ | refine Wr ?_); (try simp only [go_sem, fN, seval, eT, iR, h, hp, dT, dF, nL]); (repeat with_reducible refine Ai ?_); (try (refine hK _ ?_; clear hK K)); (try with_reducible refine iC ?_)))
  simp only [go_sem, fN, seval, FinQ, AS.result, resAll, resOne, tupV]
  try rfl
theorem BT.low_le {m n : Nat} (h : m ≤ n) : ∀ {x : BT}, x.low m → x.low n
  | .b k, hk => Nat.lt_of_lt_of_le hk h
  | .a x y, hk => ⟨BT.low_le h hk.1, BT.low_le h hk.2⟩
set_option maxHeartbeats 8000000 in
theorem prin_yes (x : UL) (hc : x.closed 0) (hz : x.sz ≤ 200) (hm0 : x.lm.may 0 0 = 0) (hp : x.lm.pure = true) : ∃ (b : BT) (e : Int), PrinC x.lm b e ∧ b.low 2001 ∧ b.sz ≤ 2000 ∧ (e ≠ 0 → b = .b 0) := by
  have hsz : x.lm.size ≤ 1000000 := by rw [UL.size_lm]; omega
  obtain ⟨t1, t2, t3, t4, t5, t6⟩ := ty_ok 402 x [] ([], 0) hc (by simp) (by omega) (by simp only; omega) ⟨by simp⟩
  have hP := fun {a0 r : Nat} {S : AStore} (h : Eqs 116 S a0 r ([], 0)) => of_S 402 (by decide) x (und := []) h hc (by simp) (by omega) (by simp only; omega) (by simp; omega) (by simp; omega) ⟨by simp⟩
  have hR := fun {a0 r : Nat} {S : AStore} (h : Eqs 58 S a0 r ([], 0)) => ofR_S 402 (by decide) x (und := []) h hc (by simp) (by omega) (by simp only; omega) (by simp; omega) (by simp; omega) ⟨by simp⟩
  simp only at t2 t3 t6
  generalize hm : x.ty [] ([], 0) = mm at *
  obtain ⟨all, eqs, n⟩ := mm
  simp only at t1 t2 t3 t4 t5 t6 hP hR
  have hg := good_eqs (K := 402) (by decide) t1 (by simp only; omega) (by simp only; simp at t6; omega)
  simp only at hg
  have hUl : (tNames n).length ≤ 20000 := by simp [tNames]; omega
  obtain ⟨q, r, hr⟩ := uends_all _ _ [] eqs hg rfl rfl
  have hsolve := solve_a (tNames n) hUl 100000000000 (by decide) q eqs r hr hg
  have hunify := unifyOf_a (tNames n) hUl 100000000000 (by decide) q eqs r hr hg
  have hall := t4.1
  have heqs : ∀ p ∈ eqs, TT p.1 ∧ TT p.2 := fun p hp => ⟨(t1.eqs p hp).1.1.1, (t1.eqs p hp).2.1.1⟩
  have hTs := uends_tt hr (fun b hb => by cases hb) heqs
  have her := uends_err_tt hr (fun b hb => by cases hb) heqs
  have e0 : (([] : List Pr).length = 0) := rfl
  suffices key : ∃ (b : BT) (e : Int), ACalls Tryz.prog 56 [aLm x.lm] (.tup [aTy b.ty, aInt e]) ∧ (e = 0 ∨ e = 8 ∨ e = 11) ∧ ACalls Tryz.prog 11 [aLm x.lm] (.tup [aTy b.ty, aInt e]) ∧ (e = 0 → ∀ E, Typ [] x.lm (b.inst E)) ∧ b.low 2001 ∧ b.sz ≤ 2000 ∧ (e ≠ 0 → b = .b 0) by
    obtain ⟨b, e, k1, k2, k3, kT, k4, k5, k6⟩ := key
    exact ⟨b, e, ⟨k1, fun h => absurd hm0 h, fun _ h1 => (by rw [hp] at h1; cases h1), fun _ _ => ⟨k2, k3, kT⟩⟩, k4, k5, k6⟩
  rcases her with h0 | h6 | h8
  · -- they are found
    obtain ⟨g', _, hsol⟩ := robin_unifies hr hg h0
    have hty := typ_sol hc (s := r.1) (by rw [hm]; exact hsol)
    rw [hm] at hty
    simp only at hty
    have hlen := g'.len
    have hon := onP_a r.1 (by omega) g'.ord all g'.var hall.chk
    have honR := onRef_a r.1 all (by omega)
    by_cases hfit : (all.on r.1).size ≤ 2000
    · have ho : onTo r.1 all = (all.on r.1, true) := if_pos hfit
      rw [ho] at hon honR
      have hy : TT (all.on r.1) := hall.on (fun b hb => (hTs b hb).1) fun b hb => (hTs b hb).2
      generalize all.on r.1 = y at *
      have hvl := vars_len y
      have hv : (y.bk []).2 = y.varsOf := bk_vars hy []
      have hb1 := bk_asB hy [] y.varsOf (by rw [hv]; exact ⟨[], by simp⟩)
      have hb2 := bk_in hy [] y.varsOf (by rw [hv]; exact ⟨[], by simp⟩)
      have hbk := fun {a0 : Nat} {S : AStore} (ha : 1000 ≤ a0) (hs : S a0 = some (mapI [])) => back_S hy (l := []) ha (by simp; omega) hs
      have hvo := varsOf_a y (by omega)
      have hat := asType_a hy y.varsOf hb2 (by omega)
      have low2 : (y.asB y.varsOf).low 2001 := BT.low_le (by omega) hb2
      refine ⟨y.asB y.varsOf, 0, ?_, .inl rfl, ?_, fun _ => hty y.varsOf, low2, by rw [asB_size hy]; exact hfit, fun h => absurd rfl h⟩
      · rw [← hb1]
        refine ok_infer_Principal.ac fun C hC => ?_
        unfold ir_infer_Principal
        repeat' (first | (with_reducible first | refine W ?_ | refine Wz0 ?_) | refine Cg _ (lCheck_a x.lm 0) ?_ | ((with_reducible first | refine Wo (fun K hK => ?_) | refine Wp ?_ | refine Wq ?_ | refine Wr ?_); (try simp only [go_sem, fN, seval, eT, iR, hm0, hp, dT, dF, nL]); (repeat with_reducible refine Ai ?_); (try (refine hK _ ?_; clear hK K)); (try with_reducible refine iC ?_)))
        refine ⟨_, pure_a x.lm hsz, ?_⟩
        iterate 7 (first | (with_reducible first | refine W ?_ | refine Wz0 ?_) | ((with_reducible first | refine Wo (fun K hK => ?_) | refine Wp ?_ | refine Wq ?_ | refine Wr ?_); (try simp only [go_sem, fN, seval, eT, iR, hm0, hp, dT, dF, nL]); (repeat with_reducible refine Ai ?_); (try (refine hK _ ?_; clear hK K)); (try with_reducible refine iC ?_)))
        refine Wb ?_
        refine IWP.ghost (Ghost.ownCellA (id := 23) (r := 900) (e' := 91) 0 4 (by rfl) (by rfl) (by rfl) (by decide)) ?_
        repeat' (first | (with_reducible first | refine W ?_ | refine Wz0 ?_) | ((with_reducible first | refine Wo (fun K hK => ?_) | refine Wp ?_ | refine Wq ?_ | refine Wr ?_); (try simp only [go_sem, fN, seval, eT, iR, dT, dF, nL]); (repeat with_reducible refine Ai ?_); (try (refine hK _ ?_; clear hK K)); (try with_reducible refine iC ?_)))
        refine ⟨_, _, acallsS_full (hP (a0 := up1 23) (r := up1 900) ⟨by decide, by decide, by decide, by rw [upS_up]; rfl, by rw [upS_up]; rfl⟩), ?_⟩
        repeat' (first | (with_reducible first | refine W ?_ | refine Wz0 ?_) | refine Cg _ (hsolve) ?_ | refine Cg _ (hon) ?_ | ((with_reducible first | refine Wo (fun K hK => ?_) | refine Wp ?_ | refine Wq ?_ | refine Wr ?_); (try simp only [go_sem, fN, seval, eT, iR, eqS, h0, dT, dF, nL]); (repeat with_reducible refine Ai ?_); (try (refine hK _ ?_; clear hK K)); (try with_reducible refine iC ?_)))
        refine ⟨_, _, hbk (a0 := up1 50) (up1_le _) (by rw [upS_up]; rfl), ?_⟩
        repeat' (first | (with_reducible first | refine W ?_ | refine Wz0 ?_) | ((with_reducible first | refine Wo (fun K hK => ?_) | refine Wp ?_ | refine Wq ?_ | refine Wr ?_); (try simp only [go_sem, fN, seval, eT, iR, eqS, h0, dT, dF, nL]); (repeat with_reducible refine Ai ?_); (try (refine hK _ ?_; clear hK K)); (try with_reducible refine iC ?_)))
        simp only [go_sem, fN, seval, FinQ, AS.result, resAll, resOne, tupV]
        try rfl
      · refine ok_R_PrincipalOf.ac fun C hC => ?_
        unfold ir_R_PrincipalOf
        refine W ?_
        refine Wo (fun K hK => ?_)
        (try simp only [go_sem, fN, seval, eT, iR])
        (repeat with_reducible refine Ai ?_)
        refine hK _ ?_
        clear hK K
        refine W ?_
        refine W ?_
        refine Wo (fun K hK => ?_)
        (try simp only [go_sem, fN, seval, eT, iR])
        (repeat with_reducible refine Ai ?_)
        refine hK _ ?_
        clear hK K
        refine W ?_
        refine IWP.ghost (Ghost.ownCellA (id := 11) (r := 900) (e' := 91) 0 4 (by rfl) (by rfl) (by rfl) (by decide)) ?_
        repeat' (first | (with_reducible first | refine W ?_ | refine Wz0 ?_) | ((with_reducible first | refine Wo (fun K hK => ?_) | refine Wp ?_ | refine Wq ?_ | refine Wr ?_); (try simp only [go_sem, fN, seval, eT, iR, dT, dF, nL]); (repeat with_reducible refine Ai ?_); (try (refine hK _ ?_; clear hK K)); (try with_reducible refine iC ?_)))
        refine ⟨_, _, acallsS_full (hR (a0 := up1 11) (r := up1 900) ⟨by decide, by decide, by decide, by rw [upS_up]; rfl, by rw [upS_up]; rfl⟩), ?_⟩
        repeat' (first | (with_reducible first | refine W ?_ | refine Wz0 ?_) | refine Cg _ (hunify) ?_ | refine Cg _ (honR) ?_ | refine Cg _ (hvo) ?_ | refine Cg _ (hat) ?_ | ((with_reducible first | refine Wo (fun K hK => ?_) | refine Wp ?_ | refine Wq ?_ | refine Wr ?_); (try simp only [go_sem, fN, seval, eT, iR, eqS, h0, dT, dF, nL]); (repeat with_reducible refine Ai ?_); (try (refine hK _ ?_; clear hK K)); (try with_reducible refine iC ?_)))
        simp only [go_sem, fN, seval, FinQ, AS.result, resAll, resOne, tupV]
        try rfl
    · have ho : onTo r.1 all = (Tm.nil, false) := if_neg hfit
      rw [ho] at hon honR
      refine ⟨.b 0, 8, ?_, .inr (.inl rfl), ?_, fun h => absurd h (by decide), by show 0 < 2001; omega, by show 1 ≤ 2000; omega, fun _ => rfl⟩
      · refine ok_infer_Principal.ac fun C hC => ?_
        unfold ir_infer_Principal
        repeat' (first | (with_reducible first | refine W ?_ | refine Wz0 ?_) | refine Cg _ (lCheck_a x.lm 0) ?_ | ((with_reducible first | refine Wo (fun K hK => ?_) | refine Wp ?_ | refine Wq ?_ | refine Wr ?_); (try simp only [go_sem, fN, seval, eT, iR, hm0, hp, dT, dF, nL]); (repeat with_reducible refine Ai ?_); (try (refine hK _ ?_; clear hK K)); (try with_reducible refine iC ?_)))
        refine ⟨_, pure_a x.lm hsz, ?_⟩
        iterate 7 (first | (with_reducible first | refine W ?_ | refine Wz0 ?_) | ((with_reducible first | refine Wo (fun K hK => ?_) | refine Wp ?_ | refine Wq ?_ | refine Wr ?_); (try simp only [go_sem, fN, seval, eT, iR, hm0, hp, dT, dF, nL]); (repeat with_reducible refine Ai ?_); (try (refine hK _ ?_; clear hK K)); (try with_reducible refine iC ?_)))
        refine Wb ?_
        refine IWP.ghost (Ghost.ownCellA (id := 23) (r := 900) (e' := 91) 0 4 (by rfl) (by rfl) (by rfl) (by decide)) ?_
        repeat' (first | (with_reducible first | refine W ?_ | refine Wz0 ?_) | ((with_reducible first | refine Wo (fun K hK => ?_) | refine Wp ?_ | refine Wq ?_ | refine Wr ?_); (try simp only [go_sem, fN, seval, eT, iR, dT, dF, nL]); (repeat with_reducible refine Ai ?_); (try (refine hK _ ?_; clear hK K)); (try with_reducible refine iC ?_)))
        refine ⟨_, _, acallsS_full (hP (a0 := up1 23) (r := up1 900) ⟨by decide, by decide, by decide, by rw [upS_up]; rfl, by rw [upS_up]; rfl⟩), ?_⟩
        repeat' (first | (with_reducible first | refine W ?_ | refine Wz0 ?_) | refine Cg _ (hsolve) ?_ | refine Cg _ (hon) ?_ | ((with_reducible first | refine Wo (fun K hK => ?_) | refine Wp ?_ | refine Wq ?_ | refine Wr ?_); (try simp only [go_sem, fN, seval, eT, iR, eqS, h0, Tm.nil, dT, dF, nL]); (repeat with_reducible refine Ai ?_); (try (refine hK _ ?_; clear hK K)); (try with_reducible refine iC ?_)))
        simp only [go_sem, fN, seval, FinQ, AS.result, resAll, resOne, tupV]
        try rfl
      · refine ok_R_PrincipalOf.ac fun C hC => ?_
        unfold ir_R_PrincipalOf
        refine W ?_
        refine Wo (fun K hK => ?_)
        (try simp only [go_sem, fN, seval, eT, iR])
        (repeat with_reducible refine Ai ?_)
        refine hK _ ?_
        clear hK K
        refine W ?_
        refine W ?_
        refine Wo (fun K hK => ?_)
        (try simp only [go_sem, fN, seval, eT, iR])
        (repeat with_reducible refine Ai ?_)
        refine hK _ ?_
        clear hK K
        refine W ?_
        refine IWP.ghost (Ghost.ownCellA (id := 11) (r := 900) (e' := 91) 0 4 (by rfl) (by rfl) (by rfl) (by decide)) ?_
        repeat' (first | (with_reducible first | refine W ?_ | refine Wz0 ?_) | ((with_reducible first | refine Wo (fun K hK => ?_) | refine Wp ?_ | refine Wq ?_ | refine Wr ?_); (try simp only [go_sem, fN, seval, eT, iR, dT, dF, nL]); (repeat with_reducible refine Ai ?_); (try (refine hK _ ?_; clear hK K)); (try with_reducible refine iC ?_)))
        refine ⟨_, _, acallsS_full (hR (a0 := up1 11) (r := up1 900) ⟨by decide, by decide, by decide, by rw [upS_up]; rfl, by rw [upS_up]; rfl⟩), ?_⟩
        repeat' (first | (with_reducible first | refine W ?_ | refine Wz0 ?_) | refine Cg _ (hunify) ?_ | refine Cg _ (honR) ?_ | ((with_reducible first | refine Wo (fun K hK => ?_) | refine Wp ?_ | refine Wq ?_ | refine Wr ?_); (try simp only [go_sem, fN, seval, eT, iR, eqS, h0, Tm.nil, dT, dF, nL]); (repeat with_reducible refine Ai ?_); (try (refine hK _ ?_; clear hK K)); (try with_reducible refine iC ?_)))
        simp only [go_sem, fN, seval, FinQ, AS.result, resAll, resOne, tupV]
        try rfl
  · refine ⟨.b 0, 11, ?_, .inr (.inr rfl), ?_, fun h => absurd h (by decide), by show 0 < 2001; omega, by show 1 ≤ 2000; omega, fun _ => rfl⟩
    · refine ok_infer_Principal.ac fun C hC => ?_
      unfold ir_infer_Principal
      repeat' (first | (with_reducible first | refine W ?_ | refine Wz0 ?_) | refine Cg _ (lCheck_a x.lm 0) ?_ | ((with_reducible first | refine Wo (fun K hK => ?_) | refine Wp ?_ | refine Wq ?_ | refine Wr ?_); (try simp only [go_sem, fN, seval, eT, iR, hm0, hp, dT, dF, nL]); (repeat with_reducible refine Ai ?_); (try (refine hK _ ?_; clear hK K)); (try with_reducible refine iC ?_)))
      refine ⟨_, pure_a x.lm hsz, ?_⟩
      iterate 7 (first | (with_reducible first | refine W ?_ | refine Wz0 ?_) | ((with_reducible first | refine Wo (fun K hK => ?_) | refine Wp ?_ | refine Wq ?_ | refine Wr ?_); (try simp only [go_sem, fN, seval, eT, iR, hm0, hp, dT, dF, nL]); (repeat with_reducible refine Ai ?_); (try (refine hK _ ?_; clear hK K)); (try with_reducible refine iC ?_)))
      refine Wb ?_
      refine IWP.ghost (Ghost.ownCellA (id := 23) (r := 900) (e' := 91) 0 4 (by rfl) (by rfl) (by rfl) (by decide)) ?_
      repeat' (first | (with_reducible first | refine W ?_ | refine Wz0 ?_) | ((with_reducible first | refine Wo (fun K hK => ?_) | refine Wp ?_ | refine Wq ?_ | refine Wr ?_); (try simp only [go_sem, fN, seval, eT, iR, dT, dF, nL]); (repeat with_reducible refine Ai ?_); (try (refine hK _ ?_; clear hK K)); (try with_reducible refine iC ?_)))
      refine ⟨_, _, acallsS_full (hP (a0 := up1 23) (r := up1 900) ⟨by decide, by decide, by decide, by rw [upS_up]; rfl, by rw [upS_up]; rfl⟩), ?_⟩
      repeat' (first | (with_reducible first | refine W ?_ | refine Wz0 ?_) | refine Cg _ (hsolve) ?_ | ((with_reducible first | refine Wo (fun K hK => ?_) | refine Wp ?_ | refine Wq ?_ | refine Wr ?_); (try simp only [go_sem, fN, seval, eT, iR, eqS, h6, dT, dF, nL]); (repeat with_reducible refine Ai ?_); (try (refine hK _ ?_; clear hK K)); (try with_reducible refine iC ?_)))
      simp only [go_sem, fN, seval, FinQ, AS.result, resAll, resOne, tupV]
      try rfl
    · refine ok_R_PrincipalOf.ac fun C hC => ?_
      unfold ir_R_PrincipalOf
      refine W ?_
      refine Wo (fun K hK => ?_)
      (try simp only [go_sem, fN, seval, eT, iR])
      (repeat with_reducible refine Ai ?_)
      refine hK _ ?_
      clear hK K
      refine W ?_
      refine W ?_
      refine Wo (fun K hK => ?_)
      (try simp only [go_sem, fN, seval, eT, iR])
      (repeat with_reducible refine Ai ?_)
      refine hK _ ?_
      clear hK K
      refine W ?_
      refine IWP.ghost (Ghost.ownCellA (id := 11) (r := 900) (e' := 91) 0 4 (by rfl) (by rfl) (by rfl) (by decide)) ?_
      repeat' (first | (with_reducible first | refine W ?_ | refine Wz0 ?_) | ((with_reducible first | refine Wo (fun K hK => ?_) | refine Wp ?_ | refine Wq ?_ | refine Wr ?_); (try simp only [go_sem, fN, seval, eT, iR, dT, dF, nL]); (repeat with_reducible refine Ai ?_); (try (refine hK _ ?_; clear hK K)); (try with_reducible refine iC ?_)))
      refine ⟨_, _, acallsS_full (hR (a0 := up1 11) (r := up1 900) ⟨by decide, by decide, by decide, by rw [upS_up]; rfl, by rw [upS_up]; rfl⟩), ?_⟩
      repeat' (first | (with_reducible first | refine W ?_ | refine Wz0 ?_) | refine Cg _ (hunify) ?_ | ((with_reducible first | refine Wo (fun K hK => ?_) | refine Wp ?_ | refine Wq ?_ | refine Wr ?_); (try simp only [go_sem, fN, seval, eT, iR, eqS, h6, dT, dF, nL]); (repeat with_reducible refine Ai ?_); (try (refine hK _ ?_; clear hK K)); (try with_reducible refine iC ?_)))
      simp only [go_sem, fN, seval, FinQ, AS.result, resAll, resOne, tupV]
      try rfl
  · refine ⟨.b 0, 8, ?_, .inr (.inl rfl), ?_, fun h => absurd h (by decide), by show 0 < 2001; omega, by show 1 ≤ 2000; omega, fun _ => rfl⟩
    · refine ok_infer_Principal.ac fun C hC => ?_
      unfold ir_infer_Principal
      repeat' (first | (with_reducible first | refine W ?_ | refine Wz0 ?_) | refine Cg _ (lCheck_a x.lm 0) ?_ | ((with_reducible first | refine Wo (fun K hK => ?_) | refine Wp ?_ | refine Wq ?_ | refine Wr ?_); (try simp only [go_sem, fN, seval, eT, iR, hm0, hp, dT, dF, nL]); (repeat with_reducible refine Ai ?_); (try (refine hK _ ?_; clear hK K)); (try with_reducible refine iC ?_)))
      refine ⟨_, pure_a x.lm hsz, ?_⟩
      iterate 7 (first | (with_reducible first | refine W ?_ | refine Wz0 ?_) | ((with_reducible first | refine Wo (fun K hK => ?_) | refine Wp ?_ | refine Wq ?_ | refine Wr ?_); (try simp only [go_sem, fN, seval, eT, iR, hm0, hp, dT, dF, nL]); (repeat with_reducible refine Ai ?_); (try (refine hK _ ?_; clear hK K)); (try with_reducible refine iC ?_)))
      refine Wb ?_
      refine IWP.ghost (Ghost.ownCellA (id := 23) (r := 900) (e' := 91) 0 4 (by rfl) (by rfl) (by rfl) (by decide)) ?_
      repeat' (first | (with_reducible first | refine W ?_ | refine Wz0 ?_) | ((with_reducible first | refine Wo (fun K hK => ?_) | refine Wp ?_ | refine Wq ?_ | refine Wr ?_); (try simp only [go_sem, fN, seval, eT, iR, dT, dF, nL]); (repeat with_reducible refine Ai ?_); (try (refine hK _ ?_; clear hK K)); (try with_reducible refine iC ?_)))
      refine ⟨_, _, acallsS_full (hP (a0 := up1 23) (r := up1 900) ⟨by decide, by decide, by decide, by rw [upS_up]; rfl, by rw [upS_up]; rfl⟩), ?_⟩
      repeat' (first | (with_reducible first | refine W ?_ | refine Wz0 ?_) | refine Cg _ (hsolve) ?_ | ((with_reducible first | refine Wo (fun K hK => ?_) | refine Wp ?_ | refine Wq ?_ | refine Wr ?_); (try simp only [go_sem, fN, seval, eT, iR, eqS, h8, dT, dF, nL]); (repeat with_reducible refine Ai ?_); (try (refine hK _ ?_; clear hK K)); (try with_reducible refine iC ?_)))
      simp only [go_sem, fN, seval, FinQ, AS.result, resAll, resOne, tupV]
      try rfl
    · refine ok_R_PrincipalOf.ac fun C hC => ?_
      unfold ir_R_PrincipalOf
      refine W ?_
      refine Wo (fun K hK => ?_)
      (try simp only [go_sem, fN, seval, eT, iR])
      (repeat with_reducible refine Ai ?_)
      refine hK _ ?_
      clear hK K
      refine W ?_
      refine W ?_
      refine Wo (fun K hK => ?_)
      (try simp only [go_sem, fN, seval, eT, iR])
      (repeat with_reducible refine Ai ?_)
      refine hK _ ?_
      clear hK K
      refine W ?_
      refine IWP.ghost (Ghost.ownCellA (id := 11) (r := 900) (e' := 91) 0 4 (by rfl) (by rfl) (by rfl) (by decide)) ?_
      repeat' (first | (with_reducible first | refine W ?_ | refine Wz0 ?_) | ((with_reducible first | refine Wo (fun K hK => ?_) | refine Wp ?_ | refine Wq ?_ | refine Wr ?_); (try simp only [go_sem, fN, seval, eT, iR, dT, dF, nL]); (repeat with_reducible refine Ai ?_); (try (refine hK _ ?_; clear hK K)); (try with_reducible refine iC ?_)))
      refine ⟨_, _, acallsS_full (hR (a0 := up1 11) (r := up1 900) ⟨by decide, by decide, by decide, by rw [upS_up]; rfl, by rw [upS_up]; rfl⟩), ?_⟩
      repeat' (first | (with_reducible first | refine W ?_ | refine Wz0 ?_) | refine Cg _ (hunify) ?_ | ((with_reducible first | refine Wo (fun K hK => ?_) | refine Wp ?_ | refine Wq ?_ | refine Wr ?_); (try simp only [go_sem, fN, seval, eT, iR, eqS, h8, dT, dF, nL]); (repeat with_reducible refine Ai ?_); (try (refine hK _ ?_; clear hK K)); (try with_reducible refine iC ?_)))
      simp only [go_sem, fN, seval, FinQ, AS.result, resAll, resOne, tupV]
      try rfl

theorem prin_all (t : Lm) : ∃ (b : BT) (e : Int), PrinC t b e ∧ b.low 2001 ∧ b.sz ≤ 2000 ∧ (e ≠ 0 → b = .b 0) := by
  by_cases h : t.may 0 0 = 0
  · obtain ⟨_, _, h3, h4⟩ := Lm.may_ok h
    cases hp : t.pure with
    | false => exact ⟨.b 0, 15, prin_open h hp, by show 0 < 2001; omega, by show 1 ≤ 2000; omega, fun _ => rfl⟩
    | true =>
      obtain ⟨x, rfl, hc⟩ := ul_of (u := 0) h4 hp
      exact prin_yes x hc (by rw [← UL.size_lm]; exact h3) h hp
  · exact ⟨.b 0, _, prin_no h, by show 0 < 2001; omega, by show 1 ≤ 2000; omega, fun _ => rfl⟩
def hasV (m : Int) (y b : BT) (e : Int) : Bool × Int := if m ≠ 0 then (false, m) else if e = 11 then (false, 0) else if e ≠ 0 then (false, e) else (isCaseB b y, 0)
theorem has_no {t : Lm} {ty : Ty} (h : ty.may ≠ 0) : ACalls Tryz.prog 37 [aLm t, aTy ty] (.tup [aBool false, aInt ty.may]) := by
  refine ok_infer_Has.ac fun C hC => ?_
  unfold ir_infer_Has
  repeat' (first | (with_reducible first | refine W ?_ | refine Wz0 ?_) | refine Cg _ (yCheck_a ty) ?_ | ((with_reducible first | refine Wo (fun K hK => ?_) | refine Wp ?_ | refine Wq ?_ | refine Wr ?_); (try simp only [go_sem, fN, seval, eT, iR, h, dT, dF, nL]); (repeat with_reducible refine Ai ?_); (try (refine hK _ ?_; clear hK K)); (try with_reducible refine iC ?_)))
  simp only [go_sem, fN, seval, FinQ, AS.result, resAll, resOne, tupV, h]
theorem has_yes {t : Lm} {y b : BT} {e : Int} (hP : PrinC t b e) (h1 : b.low 2001) (h2 : b.sz ≤ 2000) (hy : y.ty.may = 0) (h3 : y.low 1000) (h4 : y.sz ≤ 200) : ACalls Tryz.prog 37 [aLm t, aTy y.ty] (.tup [aBool (hasV 0 y b e).1, aInt (hasV 0 y b e).2]) := by
  have hpr := hP.1
  unfold hasV
  refine ok_infer_Has.ac fun C hC => ?_
  unfold ir_infer_Has
  by_cases he : e = 11
  · repeat' (first | (with_reducible first | refine W ?_ | refine Wz0 ?_) | refine Cg _ (yCheck_a y.ty) ?_ | refine Cg _ (hpr) ?_ | ((with_reducible first | refine Wo (fun K hK => ?_) | refine Wp ?_ | refine Wq ?_ | refine Wr ?_); (try simp only [go_sem, fN, seval, eT, iR, hy, he, dT, dF, nL]); (repeat with_reducible refine Ai ?_); (try (refine hK _ ?_; clear hK K)); (try with_reducible refine iC ?_)))
    simp only [go_sem, fN, seval, FinQ, AS.result, resAll, resOne, tupV, he]
    try simp
  by_cases h0 : e = 0
  · have hc := case_a (b.tm 80) (y.tm 81) (by rw [BT.tm_size]; omega) (by rw [BT.tm_size]; omega)
    rw [isCase_bt] at hc
    subst h0
    repeat' (first | (with_reducible first | refine W ?_ | refine Wz0 ?_) | refine Cg _ (yCheck_a y.ty) ?_ | refine Cg _ (hpr) ?_ | refine Cg _ (as_a 80 b (BT.low_le (by decide) h1)) ?_ | refine Cg _ (as_a 81 y (BT.low_le (by decide) h3)) ?_ | refine Cg _ (hc) ?_ | ((with_reducible first | refine Wo (fun K hK => ?_) | refine Wp ?_ | refine Wq ?_ | refine Wr ?_); (try simp only [go_sem, fN, seval, eT, iR, hy, dT, dF, nL]); (repeat with_reducible refine Ai ?_); (try (refine hK _ ?_; clear hK K)); (try with_reducible refine iC ?_)))
    simp only [go_sem, fN, seval, FinQ, AS.result, resAll, resOne, tupV]
    try simp
  · repeat' (first | (with_reducible first | refine W ?_ | refine Wz0 ?_) | refine Cg _ (yCheck_a y.ty) ?_ | refine Cg _ (hpr) ?_ | ((with_reducible first | refine Wo (fun K hK => ?_) | refine Wp ?_ | refine Wq ?_ | refine Wr ?_); (try simp only [go_sem, fN, seval, eT, iR, hy, he, h0, dT, dF, nL]); (repeat with_reducible refine Ai ?_); (try (refine hK _ ?_; clear hK K)); (try with_reducible refine iC ?_)))
    simp only [go_sem, fN, seval, FinQ, AS.result, resAll, resOne, tupV, he, h0]
    try simp [he, h0]
theorem BT.chk_ty : ∀ {x : BT}, x.low 1000 → x.ty.chk = 0
  | .b n, h => by
    have h : n < 1000 := h
    rw [BT.ty, Ty.chk, if_pos (.inl rfl), if_pos (by omega)]
    rfl
  | .a x y, h => by
    rw [BT.ty, Ty.chk, if_pos (.inr ⟨rfl, rfl⟩), if_pos (by omega)]
    simp only [Ty.chks, BT.chk_ty h.1, BT.chk_ty h.2, if_true]
theorem ty_cases (ty : Ty) : ty.may ≠ 0 ∨ ∃ y : BT, ty = y.ty ∧ y.low 1000 ∧ y.sz ≤ 200 := by
  by_cases h : ty.may = 0
  · right
    unfold Ty.may at h
    split at h
    · cases h
    · obtain ⟨y, rfl, hl⟩ := bt_of h
      exact ⟨y, rfl, hl, by rw [← BT.size_ty]; omega⟩
  · exact .inl h

set_option maxRecDepth 100000




set_option maxHeartbeats 4000000
theorem acallsS_full4 {P : Program} {f : FuncId} {x y z : AV} {S : AStore} {r : AV} {S' : AStore} {xs : List (List SV)} (h : ACallsS P f [x, y, z, .one (.st (.list xs))] S r S') : ACallsS P f [x, y, z, .one (.full xs)] S r S' := by
  intro hc σ w vs ι hg hf ho hv
  refine h hc σ w vs ι hg hf ho ?_
  cases hv with
  | cons h1 hv =>
  cases hv with
  | cons h2 hv =>
  cases hv with
  | cons h3 hv =>
  cases hv with
  | cons h4 hv =>
  cases h4 with
  | one h4 =>
  cases h4 with
  | full h4 => exact .cons h1 (.cons h2 (.cons h3 (.cons (.one (.st h4)) hv)))
abbrev aRes (x : Lm) (e : Int) : AV := .tup [aLm x, aInt e]
theorem lLong_no {t : Lm} {ty : Ty} {ok : Bool} {e : Int} (most : Int) (h : ACalls Tryz.prog 37 [aLm t, aTy ty] (.tup [aBool ok, aInt e])) (he : e ≠ 0) : ACalls Tryz.prog 15 [aLm t, aTy ty, aInt most] (aRes Lm.nil e) := by
  refine ok_long_Long.ac fun C hC => ?_
  unfold ir_long_Long
  repeat' (first | (with_reducible first | refine W ?_ | refine Wz0 ?_) | refine Cg _ (h) ?_ | ((with_reducible first | refine Wo (fun K hK => ?_) | refine Wp ?_ | refine Wq ?_ | refine Wr ?_); (try simp only [go_sem, fN, seval, eT, iR, he, dT, dF, nL]); (repeat with_reducible refine Ai ?_); (try (refine hK _ ?_; clear hK K)); (try with_reducible refine iC ?_)))
  simp only [go_sem, fN, seval, FinQ, AS.result, resAll, resOne, tupV]
  try rfl
theorem lLong_not {t : Lm} {ty : Ty} (most : Int) (h : ACalls Tryz.prog 37 [aLm t, aTy ty] (.tup [aBool false, aInt 0])) : ACalls Tryz.prog 15 [aLm t, aTy ty, aInt most] (aRes Lm.nil 11) := by
  refine ok_long_Long.ac fun C hC => ?_
  unfold ir_long_Long
  repeat' (first | (with_reducible first | refine W ?_ | refine Wz0 ?_) | refine Cg _ (h) ?_ | ((with_reducible first | refine Wo (fun K hK => ?_) | refine Wp ?_ | refine Wq ?_ | refine Wr ?_); (try simp only [go_sem, fN, seval, eT, iR, dT, dF, nL]); (repeat with_reducible refine Ai ?_); (try (refine hK _ ?_; clear hK K)); (try with_reducible refine iC ?_)))
  simp only [go_sem, fN, seval, FinQ, AS.result, resAll, resOne, tupV]
  try rfl
theorem lLong_run {t : Lm} {ty : Ty} {most : Int} (h : ACalls Tryz.prog 37 [aLm t, aTy ty] (.tup [aBool true, aInt 0])) (hN : (normalR t 0 most).2.2 ≠ 0) : ACalls Tryz.prog 15 [aLm t, aTy ty, aInt most] (aRes Lm.nil (normalR t 0 most).2.2) := by
  have hn := lNormal_a t 0 most
  generalize normalR t 0 most = r at *
  refine ok_long_Long.ac fun C hC => ?_
  unfold ir_long_Long
  repeat' (first | (with_reducible first | refine W ?_ | refine Wz0 ?_) | refine Cg _ (h) ?_ | refine Cg _ (hn) ?_ | ((with_reducible first | refine Wo (fun K hK => ?_) | refine Wp ?_ | refine Wq ?_ | refine Wr ?_); (try simp only [go_sem, fN, seval, eT, iR, hN, dT, dF, nL]); (repeat with_reducible refine Ai ?_); (try (refine hK _ ?_; clear hK K)); (try with_reducible refine iC ?_)))
  simp only [go_sem, fN, seval, FinQ, AS.result, resAll, resOne, tupV]
  try rfl
theorem lLong_of {t u o : Lm} {b : BT} {most k : Int} {n d : Nat} (h : ACalls Tryz.prog 37 [aLm t, aTy b.ty] (.tup [aBool true, aInt 0])) (hN : normalR t 0 most = (u, k, 0)) (hL : LR true [] u b o n d) (R : Room u [] 2000 1000000 d) (ho : o.good 1000000) :
    ACalls Tryz.prog 15 [aLm t, aTy b.ty, aInt most] (aRes (if (n : Int) ≤ 2000 then o else Lm.nil) (if (n : Int) ≤ 2000 then 0 else 8)) := by
  have hn := lNormal_a t 0 most
  rw [hN] at hn
  obtain ⟨x, m, hc, V, hx⟩ := (longP hL 2000 1000000 R).1 rfl
  by_cases h2 : (n : Int) ≤ 2000
  · have hm := V.yes h2
    have hm0 : ¬ m < 0 := by omega
    have hxo := hx h2
    subst hxo
    have hsz := hL.size
    have hcp := lCopy_a x (Lm.good_mono (by decide) x ho) (by omega)
    rw [if_pos h2, if_pos h2]
    refine ok_long_Long.ac fun C hC => ?_
    unfold ir_long_Long
    repeat' (first | (with_reducible first | refine W ?_ | refine Wz0 ?_) | refine Cg _ (h) ?_ | refine Cg _ (hn) ?_ | ((with_reducible first | refine Wo (fun K hK => ?_) | refine Wp ?_ | refine Wq ?_ | refine Wr ?_); (try simp only [go_sem, fN, seval, eT, iR, dT, dF, nL]); (repeat with_reducible refine Ai ?_); (try (refine hK _ ?_; clear hK K)); (try with_reducible refine iC ?_)))
    refine ⟨_, _, acallsS_full4 (hc (up1 42) _ (up1_le 42) (by rw [upS_up]; simp only [go_sem, fN, seval, eT, iR]; try rfl)), ?_⟩
    repeat' (first | (with_reducible first | refine W ?_ | refine Wz0 ?_) | refine Cg _ (hcp) ?_ | ((with_reducible first | refine Wo (fun K hK => ?_) | refine Wp ?_ | refine Wq ?_ | refine Wr ?_); (try simp only [go_sem, fN, seval, eT, iR, hm0, dT, dF, nL]); (repeat with_reducible refine Ai ?_); (try (refine hK _ ?_; clear hK K)); (try with_reducible refine iC ?_)))
    simp only [go_sem, fN, seval, FinQ, AS.result, resAll, resOne, tupV]
  · have hm0 : m < 0 := V.no (by omega)
    rw [if_neg h2, if_neg h2]
    refine ok_long_Long.ac fun C hC => ?_
    unfold ir_long_Long
    repeat' (first | (with_reducible first | refine W ?_ | refine Wz0 ?_) | refine Cg _ (h) ?_ | refine Cg _ (hn) ?_ | ((with_reducible first | refine Wo (fun K hK => ?_) | refine Wp ?_ | refine Wq ?_ | refine Wr ?_); (try simp only [go_sem, fN, seval, eT, iR, dT, dF, nL]); (repeat with_reducible refine Ai ?_); (try (refine hK _ ?_; clear hK K)); (try with_reducible refine iC ?_)))
    refine ⟨_, _, acallsS_full4 (hc (up1 42) _ (up1_le 42) (by rw [upS_up]; simp only [go_sem, fN, seval, eT, iR]; try rfl)), ?_⟩
    repeat' (first | (with_reducible first | refine W ?_ | refine Wz0 ?_) | ((with_reducible first | refine Wo (fun K hK => ?_) | refine Wp ?_ | refine Wq ?_ | refine Wr ?_); (try simp only [go_sem, fN, seval, eT, iR, hm0, dT, dF, nL]); (repeat with_reducible refine Ai ?_); (try (refine hK _ ?_; clear hK K)); (try with_reducible refine iC ?_)))
    simp only [go_sem, fN, seval, FinQ, AS.result, resAll, resOne, tupV]
    try rfl
theorem lAlike_a {t x : Lm} {ty : Ty} {most e : Int} (h : ACalls Tryz.prog 15 [aLm t, aTy ty, aInt most] (aRes x e)) : ACalls Tryz.prog 16 [aLm t, aLm t, aTy ty, aInt most] (.tup [aBool (decide (e = 0)), aInt e]) := by
  have hs := lsame_a x x
  rw [Lm.same_self] at hs
  by_cases he : e = 0
  · subst he
    refine ok_long_Alike.ac fun C hC => ?_
    unfold ir_long_Alike
    repeat' (first | (with_reducible first | refine W ?_ | refine Wz0 ?_) | refine Cg _ (h) ?_ | refine Cg _ (hs) ?_ | ((with_reducible first | refine Wo (fun K hK => ?_) | refine Wp ?_ | refine Wq ?_ | refine Wr ?_); (try simp only [go_sem, fN, seval, eT, iR, dT, dF, nL]); (repeat with_reducible refine Ai ?_); (try (refine hK _ ?_; clear hK K)); (try with_reducible refine iC ?_)))
    simp only [go_sem, fN, seval, FinQ, AS.result, resAll, resOne, tupV]
  · refine ok_long_Alike.ac fun C hC => ?_
    unfold ir_long_Alike
    repeat' (first | (with_reducible first | refine W ?_ | refine Wz0 ?_) | refine Cg _ (h) ?_ | ((with_reducible first | refine Wo (fun K hK => ?_) | refine Wp ?_ | refine Wq ?_ | refine Wr ?_); (try simp only [go_sem, fN, seval, eT, iR, he, dT, dF, nL]); (repeat with_reducible refine Ai ?_); (try (refine hK _ ?_; clear hK K)); (try with_reducible refine iC ?_)))
    simp only [go_sem, fN, seval, FinQ, AS.result, resAll, resOne, tupV, he]
    try simp
theorem LR.good {w : Bool} {G : List BT} {t o : Lm} {b : BT} {n d : Nat} (h : LR w G t b o n d) : o.good ((G.length : Int) + d) := by
  induction h with
  | @lam G t o a b n d h ih =>
    rw [List.length_cons] at ih
    exact ⟨fun e => absurd e (by decide), by decide, by omega, Lm.good_mono (by omega) _ ih, trivial⟩
  | @eta G t o a b n d hk h ih =>
    rw [List.length_cons] at ih
    exact ⟨fun e => absurd e (by decide), by decide, by omega, Lm.good_mono (by omega) _ ih, trivial⟩
  | base h ih => exact ih
  | @v G i b h =>
    have hi := (List.getElem?_eq_some_iff.1 h).1
    exact ⟨fun _ => rfl, by omega, by omega, trivial⟩
  | a h1 h2 l1 l2 ih1 ih2 => exact ⟨fun e => absurd e (by decide), by decide, by omega, Lm.good_mono (by omega) _ ih1, Lm.good_mono (by omega) _ ih2, trivial⟩
theorem normalR_far {t : Lm} {most : Int} (h : t.may 0 0 = 0) (hm : most < 0 ∨ 400 < most) : normalR t 0 most = (Lm.nil, 0, 3) := by
  have e : argsErr t 0 most = 3 := by unfold argsErr; rw [if_pos h, if_pos hm]
  unfold normalR
  rw [e, if_neg (by decide)]
theorem normalR_near {t : Lm} {m : Nat} (h : t.may 0 0 = 0) (hm : m ≤ 400) : normalR t 0 m = Lm.run m 0 t := by
  have e : argsErr t 0 m = 0 := by unfold argsErr; rw [if_pos h, if_neg (by omega)]
  unfold normalR
  rw [if_pos e, Int.toNat_natCast]
theorem longSays_a (t : Lm) (ty : Ty) (most : Int) : ACalls Tryz.prog 3 [aLm t, aTy ty, aInt most] (aBool true) := by
  by_cases hz1 : 3000 < t.size
  · refine ok_L_LongSays.ac fun C hC => ?_
    unfold ir_L_LongSays
    repeat' (first | (with_reducible first | refine W ?_ | refine Wz0 ?_) | refine Cg _ (hugeLam_a t) ?_ | ((with_reducible first | refine Wo (fun K hK => ?_) | refine Wp ?_ | refine Wq ?_ | refine Wr ?_); (try simp only [go_sem, fN, seval, eT, iR, hz1, dT, dF, nL]); (repeat with_reducible refine Ai ?_); (try (refine hK _ ?_; clear hK K)); (try with_reducible refine iC ?_)))
    simp only [go_sem, fN, seval, FinQ, AS.result, resAll, resOne, tupV]
  by_cases hz2 : 3000 < ty.size
  · refine ok_L_LongSays.ac fun C hC => ?_
    unfold ir_L_LongSays
    repeat' (first | (with_reducible first | refine W ?_ | refine Wz0 ?_) | refine Cg _ (hugeLam_a t) ?_ | refine Cg _ (hugeType_a ty) ?_ | ((with_reducible first | refine Wo (fun K hK => ?_) | refine Wp ?_ | refine Wq ?_ | refine Wr ?_); (try simp only [go_sem, fN, seval, eT, iR, hz1, hz2, dT, dF, nL]); (repeat with_reducible refine Ai ?_); (try (refine hK _ ?_; clear hK K)); (try with_reducible refine iC ?_)))
    simp only [go_sem, fN, seval, FinQ, AS.result, resAll, resOne, tupV]
  have hq : (30 < most ∧ most ≤ 400) ∨ ¬ 30 < most ∨ (30 < most ∧ ¬ most ≤ 400) := by omega
  rcases hq with ⟨q1, q2⟩ | hq
  · refine ok_L_LongSays.ac fun C hC => ?_
    unfold ir_L_LongSays
    repeat' (first | (with_reducible first | refine W ?_ | refine Wz0 ?_) | refine Cg _ (hugeLam_a t) ?_ | refine Cg _ (hugeType_a ty) ?_ | ((with_reducible first | refine Wo (fun K hK => ?_) | refine Wp ?_ | refine Wq ?_ | refine Wr ?_); (try simp only [go_sem, fN, seval, eT, iR, hz1, hz2, q1, q2, dT, dF, nL]); (repeat with_reducible refine Ai ?_); (try (refine hK _ ?_; clear hK K)); (try with_reducible refine iC ?_)))
    simp only [go_sem, fN, seval, FinQ, AS.result, resAll, resOne, tupV]
  obtain ⟨b, e, hP, hb1, hb2, hb3⟩ := prin_all t
  have hpr := hP.1
  obtain ⟨_, hA, hB, hD⟩ := id hP
  rcases ty_cases ty with hy | ⟨y, rfl, hy1, hy2⟩
  · have hL := lLong_no most (has_no (t := t) hy) hy
    have hAl := lAlike_a hL
    have h2 := lam2_a Lm.nil Lm.nil ty.may (Or.inl ⟨hy, rfl⟩)
    rcases hq with q1 | ⟨q1, q2⟩
    case' inl => have q2 := q1
    all_goals
      refine ok_L_LongSays.ac fun C hC => ?_
      unfold ir_L_LongSays
      repeat' (first | (with_reducible first | refine W ?_ | refine Wz0 ?_) | refine Cg _ (hugeLam_a t) ?_ | refine Cg _ (hugeType_a ty) ?_ | refine Cg _ (yMayR_a ty) ?_ | refine Cg _ (hL) ?_ | refine Cg _ (hAl) ?_ | refine Cg _ (h2) ?_ | ((with_reducible first | refine Wo (fun K hK => ?_) | refine Wp ?_ | refine Wq ?_ | refine Wr ?_); (try simp only [go_sem, fN, seval, eT, iR, hz1, hz2, hy, q1, q2, dT, dF, nL]); (repeat with_reducible refine Ai ?_); (try (refine hK _ ?_; clear hK K)); (try with_reducible refine iC ?_)))
      simp only [go_sem, fN, seval, FinQ, AS.result, resAll, resOne, tupV, hy]
      try simp [hy]
  by_cases hy : y.ty.may = 0
  case neg =>
    exact absurd (by
      unfold Ty.may
      rw [BT.size_ty, if_neg (by omega)]
      exact BT.chk_ty hy1) hy
  have hhas := has_yes (y := y) (t := t) (b := b) (e := e) hP hb1 hb2 hy hy1 hy2
  have hcas := caseOfType_a b y hb1
  by_cases hm : t.may 0 0 = 0
  case neg =>
    have he := hA hm
    subst he
    have hL : ACalls Tryz.prog 15 [aLm t, aTy y.ty, aInt most] (aRes Lm.nil (t.may 0 0)) := by
      by_cases h11 : t.may 0 0 = 11
      · rw [h11] at hhas ⊢
        exact lLong_not most hhas
      · have hv : hasV 0 y b (t.may 0 0) = (false, t.may 0 0) := by unfold hasV; rw [if_neg (by simp), if_neg h11, if_pos hm]
        rw [hv] at hhas
        exact lLong_no most hhas hm
    have hAl := lAlike_a hL
    have h2 := lam2_a Lm.nil Lm.nil (t.may 0 0) (Or.inl ⟨hm, rfl⟩)
    rcases hq with q1 | ⟨q1, q2⟩
    case' inl => have q2 := q1
    all_goals
      refine ok_L_LongSays.ac fun C hC => ?_
      unfold ir_L_LongSays
      repeat' (first | (with_reducible first | refine W ?_ | refine Wz0 ?_) | refine Cg _ (hugeLam_a t) ?_ | refine Cg _ (hugeType_a y.ty) ?_ | refine Cg _ (yMayR_a y.ty) ?_ | refine Cg _ (lMay_a t 0 0) ?_ | refine Cg _ (hL) ?_ | refine Cg _ (hAl) ?_ | refine Cg _ (h2) ?_ | ((with_reducible first | refine Wo (fun K hK => ?_) | refine Wp ?_ | refine Wq ?_ | refine Wr ?_); (try simp only [go_sem, fN, seval, eT, iR, hz1, hz2, hy, hm, q1, q2, dT, dF, nL]); (repeat with_reducible refine Ai ?_); (try (refine hK _ ?_; clear hK K)); (try with_reducible refine iC ?_)))
      simp only [go_sem, fN, seval, FinQ, AS.result, resAll, resOne, tupV, hm]
      try simp [hm]
  have hz : t.size ≤ 1000000 := by omega
  cases hp : t.pure with
  | false =>
    have he := hB hm hp
    subst he
    have hv : hasV 0 y b 15 = (false, 15) := rfl
    rw [hv] at hhas
    have hL := lLong_no most hhas (by decide)
    have hAl := lAlike_a hL
    have h2 := lam2_a Lm.nil Lm.nil 15 (Or.inl ⟨by decide, rfl⟩)
    rcases hq with q1 | ⟨q1, q2⟩
    case' inl => have q2 := q1
    all_goals
      refine ok_L_LongSays.ac fun C hC => ?_
      unfold ir_L_LongSays
      repeat' (first | (with_reducible first | refine W ?_ | refine Wz0 ?_) | refine Cg _ (hugeLam_a t) ?_ | refine Cg _ (hugeType_a y.ty) ?_ | refine Cg _ (yMayR_a y.ty) ?_ | refine Cg _ (lMay_a t 0 0) ?_ | refine Cg _ (hasConst_a t hz) ?_ | refine Cg _ (hL) ?_ | refine Cg _ (hAl) ?_ | refine Cg _ (h2) ?_ | ((with_reducible first | refine Wo (fun K hK => ?_) | refine Wp ?_ | refine Wq ?_ | refine Wr ?_); (try simp only [go_sem, fN, seval, eT, iR, hz1, hz2, hy, hm, hp, q1, q2, dT, dF, nL]); (repeat with_reducible refine Ai ?_); (try (refine hK _ ?_; clear hK K)); (try with_reducible refine iC ?_)))
      simp only [go_sem, fN, seval, FinQ, AS.result, resAll, resOne, tupV]
      try simp
  | true =>
    by_cases h40 : (40 : Int) < capTo t.size 40
    · rcases hq with q1 | ⟨q1, q2⟩
      case' inl => have q2 := q1
      all_goals
        refine ok_L_LongSays.ac fun C hC => ?_
        unfold ir_L_LongSays
        repeat' (first | (with_reducible first | refine W ?_ | refine Wz0 ?_) | refine Cg _ (hugeLam_a t) ?_ | refine Cg _ (hugeType_a y.ty) ?_ | refine Cg _ (yMayR_a y.ty) ?_ | refine Cg _ (lMay_a t 0 0) ?_ | refine Cg _ (hasConst_a t hz) ?_ | refine Cg _ (lsizeR_a t 40 (by decide) (by decide)) ?_ | ((with_reducible first | refine Wo (fun K hK => ?_) | refine Wp ?_ | refine Wq ?_ | refine Wr ?_); (try simp only [go_sem, fN, seval, eT, iR, hz1, hz2, hy, hm, hp, h40, q1, q2, dT, dF, nL]); (repeat with_reducible refine Ai ?_); (try (refine hK _ ?_; clear hK K)); (try with_reducible refine iC ?_)))
        simp only [go_sem, fN, seval, FinQ, AS.result, resAll, resOne, tupV]
    obtain ⟨he, hR, hT⟩ := hD hm hp
    rcases he with rfl | rfl | rfl
    case inr.inl =>
      have hv : hasV 0 y b 8 = (false, 8) := rfl
      rw [hv] at hhas
      have hL := lLong_no most hhas (by decide)
      have hAl := lAlike_a hL
      have h2 := lam2_a Lm.nil Lm.nil 8 (Or.inl ⟨by decide, rfl⟩)
      rcases hq with q1 | ⟨q1, q2⟩
      case' inl => have q2 := q1
      all_goals
        refine ok_L_LongSays.ac fun C hC => ?_
        unfold ir_L_LongSays
        repeat' (first | (with_reducible first | refine W ?_ | refine Wz0 ?_) | refine Cg _ (hugeLam_a t) ?_ | refine Cg _ (hugeType_a y.ty) ?_ | refine Cg _ (yMayR_a y.ty) ?_ | refine Cg _ (lMay_a t 0 0) ?_ | refine Cg _ (hasConst_a t hz) ?_ | refine Cg _ (lsizeR_a t 40 (by decide) (by decide)) ?_ | refine Cg _ (hR) ?_ | refine Cg _ (hL) ?_ | refine Cg _ (hAl) ?_ | refine Cg _ (h2) ?_ | ((with_reducible first | refine Wo (fun K hK => ?_) | refine Wp ?_ | refine Wq ?_ | refine Wr ?_); (try simp only [go_sem, fN, seval, eT, iR, hz1, hz2, hy, hm, hp, h40, q1, q2, dT, dF, nL]); (repeat with_reducible refine Ai ?_); (try (refine hK _ ?_; clear hK K)); (try with_reducible refine iC ?_)))
        simp only [go_sem, fN, seval, FinQ, AS.result, resAll, resOne, tupV]
        try simp
    case inr.inr =>
      have hv : hasV 0 y b 11 = (false, 0) := rfl
      rw [hv] at hhas
      have hL := lLong_not most hhas
      have hAl := lAlike_a hL
      have h2 := lam2_a Lm.nil Lm.nil 11 (Or.inl ⟨by decide, rfl⟩)
      rcases hq with q1 | ⟨q1, q2⟩
      case' inl => have q2 := q1
      all_goals
        refine ok_L_LongSays.ac fun C hC => ?_
        unfold ir_L_LongSays
        repeat' (first | (with_reducible first | refine W ?_ | refine Wz0 ?_) | refine Cg _ (hugeLam_a t) ?_ | refine Cg _ (hugeType_a y.ty) ?_ | refine Cg _ (yMayR_a y.ty) ?_ | refine Cg _ (lMay_a t 0 0) ?_ | refine Cg _ (hasConst_a t hz) ?_ | refine Cg _ (lsizeR_a t 40 (by decide) (by decide)) ?_ | refine Cg _ (hR) ?_ | refine Cg _ (hL) ?_ | refine Cg _ (hAl) ?_ | refine Cg _ (h2) ?_ | ((with_reducible first | refine Wo (fun K hK => ?_) | refine Wp ?_ | refine Wq ?_ | refine Wr ?_); (try simp only [go_sem, fN, seval, eT, iR, hz1, hz2, hy, hm, hp, h40, q1, q2, dT, dF, nL]); (repeat with_reducible refine Ai ?_); (try (refine hK _ ?_; clear hK K)); (try with_reducible refine iC ?_)))
        simp only [go_sem, fN, seval, FinQ, AS.result, resAll, resOne, tupV]
        try simp
    have hv : hasV 0 y b 0 = (isCaseB b y, 0) := rfl
    rw [hv] at hhas
    cases hc : isCaseB b y with
    | false =>
      rw [hc] at hhas hcas
      have hL := lLong_not most hhas
      have hAl := lAlike_a hL
      have h2 := lam2_a Lm.nil Lm.nil 11 (Or.inl ⟨by decide, rfl⟩)
      rcases hq with q1 | ⟨q1, q2⟩
      case' inl => have q2 := q1
      all_goals
        refine ok_L_LongSays.ac fun C hC => ?_
        unfold ir_L_LongSays
        repeat' (first | (with_reducible first | refine W ?_ | refine Wz0 ?_) | refine Cg _ (hugeLam_a t) ?_ | refine Cg _ (hugeType_a y.ty) ?_ | refine Cg _ (yMayR_a y.ty) ?_ | refine Cg _ (lMay_a t 0 0) ?_ | refine Cg _ (hasConst_a t hz) ?_ | refine Cg _ (lsizeR_a t 40 (by decide) (by decide)) ?_ | refine Cg _ (hR) ?_ | refine Cg _ (hcas) ?_ | refine Cg _ (hL) ?_ | refine Cg _ (hAl) ?_ | refine Cg _ (h2) ?_ | ((with_reducible first | refine Wo (fun K hK => ?_) | refine Wp ?_ | refine Wq ?_ | refine Wr ?_); (try simp only [go_sem, fN, seval, eT, iR, hz1, hz2, hy, hm, hp, h40, q1, q2, dT, dF, nL]); (repeat with_reducible refine Ai ?_); (try (refine hK _ ?_; clear hK K)); (try with_reducible refine iC ?_)))
        simp only [go_sem, fN, seval, FinQ, AS.result, resAll, resOne, tupV]
        try simp
    | true =>
      rw [hc] at hhas hcas
      have hq3 : (most < 0 ∧ ¬ 30 < most) ∨ (¬ most < 0 ∧ ¬ 30 < most ∧ ¬ 400 < most) ∨ (¬ most < 0 ∧ 30 < most ∧ ¬ most ≤ 400 ∧ 400 < most) := by omega
      rcases hq3 with ⟨q1, q2⟩ | ⟨q1, q2, q3⟩ | ⟨q1, q2, q3, q4⟩
      case inl =>
        have hN := normalR_far hm (Or.inl q1)
        have hL := lLong_run (most := most) hhas (by rw [hN]; decide)
        rw [hN] at hL
        have hAl := lAlike_a hL
        have h2 := lam2_a Lm.nil Lm.nil 3 (Or.inl ⟨by decide, rfl⟩)
        refine ok_L_LongSays.ac fun C hC => ?_
        unfold ir_L_LongSays
        repeat' (first | (with_reducible first | refine W ?_ | refine Wz0 ?_) | refine Cg _ (hugeLam_a t) ?_ | refine Cg _ (hugeType_a y.ty) ?_ | refine Cg _ (yMayR_a y.ty) ?_ | refine Cg _ (lMay_a t 0 0) ?_ | refine Cg _ (hasConst_a t hz) ?_ | refine Cg _ (lsizeR_a t 40 (by decide) (by decide)) ?_ | refine Cg _ (hR) ?_ | refine Cg _ (hcas) ?_ | refine Cg _ (hL) ?_ | refine Cg _ (hAl) ?_ | refine Cg _ (h2) ?_ | ((with_reducible first | refine Wo (fun K hK => ?_) | refine Wp ?_ | refine Wq ?_ | refine Wr ?_); (try simp only [go_sem, fN, seval, eT, iR, hz1, hz2, hy, hm, hp, h40, q1, q2, dT, dF, nL]); (repeat with_reducible refine Ai ?_); (try (refine hK _ ?_; clear hK K)); (try with_reducible refine iC ?_)))
        simp only [go_sem, fN, seval, FinQ, AS.result, resAll, resOne, tupV]
        try simp
      case inr.inr =>
        have hN := normalR_far hm (Or.inr q4)
        have hL := lLong_run (most := most) hhas (by rw [hN]; decide)
        rw [hN] at hL
        have hAl := lAlike_a hL
        have h2 := lam2_a Lm.nil Lm.nil 3 (Or.inl ⟨by decide, rfl⟩)
        refine ok_L_LongSays.ac fun C hC => ?_
        unfold ir_L_LongSays
        repeat' (first | (with_reducible first | refine W ?_ | refine Wz0 ?_) | refine Cg _ (hugeLam_a t) ?_ | refine Cg _ (hugeType_a y.ty) ?_ | refine Cg _ (yMayR_a y.ty) ?_ | refine Cg _ (lMay_a t 0 0) ?_ | refine Cg _ (hasConst_a t hz) ?_ | refine Cg _ (lsizeR_a t 40 (by decide) (by decide)) ?_ | refine Cg _ (hR) ?_ | refine Cg _ (hcas) ?_ | refine Cg _ (hL) ?_ | refine Cg _ (hAl) ?_ | refine Cg _ (h2) ?_ | ((with_reducible first | refine Wo (fun K hK => ?_) | refine Wp ?_ | refine Wq ?_ | refine Wr ?_); (try simp only [go_sem, fN, seval, eT, iR, hz1, hz2, hy, hm, hp, h40, q1, q2, q3, q4, dT, dF, nL]); (repeat with_reducible refine Ai ?_); (try (refine hK _ ?_; clear hK K)); (try with_reducible refine iC ?_)))
        simp only [go_sem, fN, seval, FinQ, AS.result, resAll, resOne, tupV]
        try simp
      obtain ⟨m, rfl⟩ : ∃ m : Nat, most = m := ⟨most.toNat, by omega⟩
      obtain ⟨a1, a2, a3, a4⟩ := Lm.may_ok hm
      have hwf := Lm.wf_chk t 0 a4
      have hgd := Lm.good_chk (m := 0) (by decide) t 0 1000 (by decide) (by omega) (by decide) a4
      have hN := normalR_near hm (show m ≤ 400 by omega)
      have hE := lLamEnd_a t m (by omega) hwf (by omega) (Lm.good_mono (by decide) t hgd)
      by_cases h0 : (Lm.run m 0 t).2.2 = 0
      case neg =>
        have hL := lLong_run (most := (m : Int)) hhas (by rw [hN]; exact h0)
        rw [hN] at hL
        generalize Lm.run m 0 t = r at *
        have hAl := lAlike_a hL
        have h2 := lam2_a Lm.nil r.1 r.2.2 (Or.inl ⟨h0, rfl⟩)
        refine ok_L_LongSays.ac fun C hC => ?_
        unfold ir_L_LongSays
        repeat' (first | (with_reducible first | refine W ?_ | refine Wz0 ?_) | refine Cg _ (hugeLam_a t) ?_ | refine Cg _ (hugeType_a y.ty) ?_ | refine Cg _ (yMayR_a y.ty) ?_ | refine Cg _ (lMay_a t 0 0) ?_ | refine Cg _ (hasConst_a t hz) ?_ | refine Cg _ (lsizeR_a t 40 (by decide) (by decide)) ?_ | refine Cg _ (hR) ?_ | refine Cg _ (hcas) ?_ | refine Cg _ (hE) ?_ | refine Cg _ (hL) ?_ | refine Cg _ (hAl) ?_ | refine Cg _ (h2) ?_ | ((with_reducible first | refine Wo (fun K hK => ?_) | refine Wp ?_ | refine Wq ?_ | refine Wr ?_); (try simp only [go_sem, fN, seval, eT, iR, hz1, hz2, hy, hm, hp, h40, q1, q2, q3, h0, dT, dF, nL]); (repeat with_reducible refine Ai ?_); (try (refine hK _ ?_; clear hK K)); (try with_reducible refine iC ?_)))
        simp only [go_sem, fN, seval, FinQ, AS.result, resAll, resOne, tupV, h0]
        try simp [h0]
      case pos =>
        obtain ⟨E, hE1⟩ := isCaseB_inst hc
        have hty := hT rfl E
        rw [← hE1] at hty
        obtain ⟨t1, t2⟩ := typ_run m 0 t hty h0
        obtain ⟨r1, r2, r3⟩ := Lm.run_ok m 0 t 1000 hwf (by omega) hgd h0
        have hrun : normalR t 0 m = ((Lm.run m 0 t).1, (Lm.run m 0 t).2.1, 0) := by rw [hN]; exact Prod.ext rfl (Prod.ext rfl h0)
        generalize Lm.run m 0 t = r at *
        obtain ⟨u, k, e⟩ := r
        simp only at t1 t2 r1 r2 r3 h0 hrun hE
        subst h0
        obtain ⟨o, n, d, hLR, hd⟩ := (long_ex (T := 200) t1 (by simp) t2).1 hy2
        have hd2 : d ≤ 2000 * 401 := Nat.le_trans hd (Nat.mul_le_mul_right _ r2)
        have hRm : Room u [] 2000 1000000 d := ⟨by decide, by decide, Lm.good_mono (by omega) u r3, by decide, by omega, by omega, by simp; omega⟩
        have hog := hLR.good
        have hL := lLong_of hhas hrun hLR hRm (Lm.good_mono (by simp; omega) o hog)
        obtain ⟨x, l, hc1, V, hx⟩ := (longR hLR 2000 1000000 hRm).1 rfl
        have hc1 : ACalls Tryz.prog 14 [aLm u, aTy y.ty, aTys [], aInt 2000] (.tup [aLm x, aInt l]) := hc1
        by_cases hn : (n : Int) ≤ 2000
        · have hl0 : ¬ l < 0 := by have := V.yes hn; omega
          have hxo := hx hn
          subst hxo
          rw [if_pos hn, if_pos hn] at hL
          have hAl := lAlike_a hL
          have h2 := lam2_a x x 0 (Or.inr ⟨rfl, rfl⟩)
          refine ok_L_LongSays.ac fun C hC => ?_
          unfold ir_L_LongSays
          repeat' (first | (with_reducible first | refine W ?_ | refine Wz0 ?_) | refine Cg _ (hugeLam_a t) ?_ | refine Cg _ (hugeType_a y.ty) ?_ | refine Cg _ (yMayR_a y.ty) ?_ | refine Cg _ (lMay_a t 0 0) ?_ | refine Cg _ (hasConst_a t hz) ?_ | refine Cg _ (lsizeR_a t 40 (by decide) (by decide)) ?_ | refine Cg _ (hR) ?_ | refine Cg _ (hcas) ?_ | refine Cg _ (hE) ?_ | refine Cg _ (hc1) ?_ | refine Cg _ (hL) ?_ | refine Cg _ (hAl) ?_ | refine Cg _ (h2) ?_ | ((with_reducible first | refine Wo (fun K hK => ?_) | refine Wp ?_ | refine Wq ?_ | refine Wr ?_); (try simp only [go_sem, fN, seval, eT, iR, hz1, hz2, hy, hm, hp, h40, q1, q2, q3, hl0, dT, dF, nL]); (repeat with_reducible refine Ai ?_); (try (refine hK _ ?_; clear hK K)); (try with_reducible refine iC ?_)))
          simp only [go_sem, fN, seval, FinQ, AS.result, resAll, resOne, tupV]
          try simp
        · have hl0 : l < 0 := V.no (by omega)
          rw [if_neg hn, if_neg hn] at hL
          have hAl := lAlike_a hL
          have h2 := lam2_a Lm.nil x 8 (Or.inl ⟨by decide, rfl⟩)
          refine ok_L_LongSays.ac fun C hC => ?_
          unfold ir_L_LongSays
          repeat' (first | (with_reducible first | refine W ?_ | refine Wz0 ?_) | refine Cg _ (hugeLam_a t) ?_ | refine Cg _ (hugeType_a y.ty) ?_ | refine Cg _ (yMayR_a y.ty) ?_ | refine Cg _ (lMay_a t 0 0) ?_ | refine Cg _ (hasConst_a t hz) ?_ | refine Cg _ (lsizeR_a t 40 (by decide) (by decide)) ?_ | refine Cg _ (hR) ?_ | refine Cg _ (hcas) ?_ | refine Cg _ (hE) ?_ | refine Cg _ (hc1) ?_ | refine Cg _ (hL) ?_ | refine Cg _ (hAl) ?_ | refine Cg _ (h2) ?_ | ((with_reducible first | refine Wo (fun K hK => ?_) | refine Wp ?_ | refine Wq ?_ | refine Wr ?_); (try simp only [go_sem, fN, seval, eT, iR, hz1, hz2, hy, hm, hp, h40, q1, q2, q3, hl0, dT, dF, nL]); (repeat with_reducible refine Ai ?_); (try (refine hK _ ?_; clear hK K)); (try with_reducible refine iC ?_)))
          simp only [go_sem, fN, seval, FinQ, AS.result, resAll, resOne, tupV]
          try simp

open Go.ChangeShapes Go.WideShapes Go.ChangeAt
section
variable {H : Type} {enc : TypeId × Value → H} {P : Program}
theorem trodAll_stays (hl : laidOutB P = true) : ∀ {ts : List TypeId} {vs : List Value} {ds : List (DataW H)} {ps : List MemPlace} {W W' : World} {sp : Nat → Bool},
    (∀ t ∈ ts, P.readableRec t = true ∧ t < P.types.size) → DataW.TrodAll enc P W 0 (fun _ => true) true ts vs ds ps → (∀ p ∈ ps, W.sameAt W' p) → (∀ p ∈ ps, sp p.block = true) → DataW.TrodAll enc P W' 0 sp true ts vs ds ps
  | [], [], [], _, _, _, _, _, h, _, _ => h
  | _ :: _, _ :: _, _ :: _, _, _, _, _, hT, ⟨p, q, h1, h2, e⟩, hsame, hs => ⟨p, q, WideElems.Trod_stays hl (hT _ (List.mem_cons.2 (Or.inl rfl))).1 (hT _ (List.mem_cons.2 (Or.inl rfl))).2 h1 (fun x hx => hsame x (by rw [e]; exact List.mem_append_left _ hx)) (fun x hx => hs x (by rw [e]; exact List.mem_append_left _ hx)),
      trodAll_stays hl (fun t ht => hT t (List.mem_cons.2 (Or.inr ht))) h2 (fun x hx => hsame x (by rw [e]; exact List.mem_append_right _ hx)) (fun x hx => hs x (by rw [e]; exact List.mem_append_right _ hx)), e⟩
  | [], _ :: _, _, _, _, _, _, _, h, _, _ => h.elim
  | [], [], _ :: _, _, _, _, _, _, h, _, _ => h.elim
  | _ :: _, [], _, _, _, _, _, _, h, _, _ => h.elim
  | _ :: _, _ :: _, [], _, _, _, _, _, h, _, _ => h.elim
theorem law_post {f : Func} {s : ChangeSpec} {apart fresh handsOn : Bool} {W W' : World} {args : Array Value} {ds : List (DataW H)} {before : List MemPlace} {tb : TypeId}
    (hW : DataW.Whole enc P f.params.toList s.vars apart W args.toList ds [] before) (hv : s.vars = []) (hr : f.resultTypes = #[tb]) (htb : P.underlying tb = some .bool)
    (hres : (s.fn H (ds ++ [])).results = [.lit (.bool true)]) (hargs : (s.fn H (ds ++ [])).args = ds) (hvs : (s.fn H (ds ++ [])).vars = [])
    (hl : laidOutB P = true) (hT : (f.params.toList.all fun t => P.readableRec t && decide (t < P.types.size)) = true) (hb : Below W.heap.size W W') :
    s.post enc P f apart fresh handsOn false W args (.bool true) W' := by
  have hlt : ∀ p ∈ before, p.block < W.heap.size := fun p hp => hW.lt p hp
  have hT' : ∀ t ∈ f.params.toList, P.readableRec t = true ∧ t < P.types.size := fun t ht => by
    have := List.all_eq_true.1 hT t ht
    simpa using this
  obtain ⟨p, q, hA, hV, rfl, hz, hn⟩ := hW
  rw [hv] at hV
  obtain ⟨_, rfl⟩ := trodVars_none hV
  have hargs' : ∀ sp : Nat → Bool, (∀ x ∈ p, sp x.block = true) → DataW.TrodAll enc P W' 0 sp true f.params.toList args.toList ds p := fun sp hsp =>
    trodAll_stays hl hT' hA (fun x hx => hb.same (hlt x (by simpa using hx))) hsp
  have hres' : ∀ (b : Nat) (sp : Nat → Bool) (hd : Bool), DataW.TrodAll enc P W' b sp hd f.resultTypes.toList ((Value.bool true).resultList f.resultTypes.size) (s.fn H (ds ++ [])).results [] := fun b sp hd => by
    rw [hres, hr]
    exact trodAll_cons_mk (shut_bool htb true) trodAll_mk0
  refine ⟨ds, [], p ++ [], [], p, [], ⟨p, [], hA, by rw [hv]; exact rfl, rfl, hz, hn⟩, hres' _ _ _, by rw [hargs]; exact hargs' _ (fun x hx => by simpa using hlt x (by simpa using hx)), by rw [hv, hvs]; exact rfl,
    World.keptBut_mono (fun x hx => ⟨hx, Or.inr (by simpa using hx)⟩) (hb.frame (· ∈ p ++ [])), fun h => by cases h⟩
variable {W : World} {sp : Nat → Bool} {hd : Bool} {base : Nat}
def sto (W : World) : Sto := look W
theorem fit_sto (W : World) : Fit (sto W) W := fun _ _ h => h
theorem spot_none {W : World} {a : Addr} {v : Value} (h : W.cell? a = some v) : a.spot = none := by
  cases hs : a.spot with
  | none => rfl
  | some n =>
    unfold World.cell? at h
    split at h
    · simp [hs] at h
    · cases h
theorem choose_list {α : Type} {p : Nat → α → Prop} {n : Nat} (h : ∀ i, i < n → ∃ b, p i b) : ∃ xs : List α, xs.length = n ∧ ∀ i (h : i < xs.length), p i xs[i] := by
  induction n with
  | zero => exact ⟨[], rfl, fun i h => absurd h (by simp)⟩
  | succ m ih =>
    obtain ⟨xs, h1, h2⟩ := ih (fun i hi => h i (by omega))
    obtain ⟨b, h3⟩ := h m (by omega)
    refine ⟨xs ++ [b], by simp [h1], fun i hi => ?_⟩
    by_cases him : i < xs.length
    · rw [List.getElem_append_left him]
      exact h2 i him
    · have : i = xs.length := by simp at hi; omega
      subst this
      rw [show (xs ++ [b])[xs.length]'hi = b by simp, h1]
      exact h3
theorem trod_two {t : TypeId} {f0 f1 : Field} {k0 k1 : Nat} {fuel : Nat} {cs : List Value} {x : DataW H × List MemPlace} (hs : P.underlying t = some (.struct #[f0, f1])) (o0 : f0.offset = 0) (o1 : f1.offset = k0)
    (h0 : P.cellsOf f0.type = k0) (h1 : P.cellsOf f1.type = k1) (hC : P.cellsOf t = k0 + k1) (h : DataW.trod enc P W base sp hd fuel t cs = some x) :
    ∃ (a b : List Value) (y0 y1 : DataW H × List MemPlace) (n : Nat), fuel = n + 1 ∧ cs = a ++ b ∧ DataW.trod enc P W base sp hd n f0.type a = some y0 ∧ DataW.trod enc P W base sp hd n f1.type b = some y1 := by
  obtain ⟨ys, n, hn, _, hlen, hyl, hf⟩ := DataW.trod_struct hs h
  match ys, hyl with
  | [y0, y1], _ =>
  have g0 := hf 0 f0 rfl
  have g1 := hf 1 f1 rfl
  rw [o0, h0, List.drop_zero] at g0
  rw [o1, h1, List.take_of_length_le (by rw [List.length_drop]; omega)] at g1
  exact ⟨_, _, y0, y1, n, hn, (List.take_append_drop k0 cs).symm, g0, g1⟩
theorem trod_three {t : TypeId} {f0 f1 f2 : Field} {k0 k1 k2 : Nat} {fuel : Nat} {cs : List Value} {x : DataW H × List MemPlace} (hs : P.underlying t = some (.struct #[f0, f1, f2])) (o0 : f0.offset = 0) (o1 : f1.offset = k0) (o2 : f2.offset = k0 + k1)
    (h0 : P.cellsOf f0.type = k0) (h1 : P.cellsOf f1.type = k1) (h2 : P.cellsOf f2.type = k2) (hC : P.cellsOf t = k0 + k1 + k2) (h : DataW.trod enc P W base sp hd fuel t cs = some x) :
    ∃ (a b c : List Value) (y0 y1 y2 : DataW H × List MemPlace) (n : Nat), fuel = n + 1 ∧ cs = a ++ (b ++ c) ∧ DataW.trod enc P W base sp hd n f0.type a = some y0 ∧ DataW.trod enc P W base sp hd n f1.type b = some y1 ∧ DataW.trod enc P W base sp hd n f2.type c = some y2 := by
  obtain ⟨ys, n, hn, _, hlen, hyl, hf⟩ := DataW.trod_struct hs h
  match ys, hyl with
  | [y0, y1, y2], _ =>
  have g0 := hf 0 f0 rfl
  have g1 := hf 1 f1 rfl
  have g2 := hf 2 f2 rfl
  rw [o0, h0, List.drop_zero] at g0
  rw [o1, h1] at g1
  rw [o2, h2, List.take_of_length_le (by rw [List.length_drop]; omega), ← List.drop_drop] at g2
  exact ⟨_, _, _, y0, y1, y2, n, hn, by rw [List.take_append_drop, List.take_append_drop], g0, g1, g2⟩
theorem list_of_trod {α : Type} {e0 : α → List SV} {t e : TypeId} {k : Nat} {fuel : Nat} {cs : List Value} {x : DataW H × List MemPlace} (ht : P.underlying t = some (.slice e)) (hc : P.cellsOf e = k) (hlen : ∀ a, (e0 a).length = k) (hk : 0 < k)
    (f : ∀ (n : Nat) (cs : List Value) (y : DataW H × List MemPlace), n < fuel → DataW.trod enc P W base sp hd n e cs = some y → ∃ a : α, All2 (SRep (sto W)) cs (e0 a))
    (h : DataW.trod enc P W base sp hd fuel t cs = some x) (hs : hardRows = true → k < 2 := by decide) : ∃ xs : List α, All2 (SRep (sto W)) cs [.list (xs.map e0)] := by
  rcases DataW.trod_slice ht h with ⟨rfl, _⟩ | ⟨a, len, cap, elems, rest, n, hfu, rfl, _, hb, hl, hm, hlen', hel, _, _⟩
  · exact ⟨[], .cons srep_nil .nil⟩
  · have key : ∀ i, i < len → ∃ (b : α), ∃ (cs' : List Value), cs'.length = k ∧ (∀ j u, cs'[j]? = some u → W.cell? ((a.add (i * k)).add j) = some u) ∧ All2 (SRep (sto W)) cs' (e0 b) := fun i hi => by
      have h1 := hel i hi
      rw [List.getElem?_eq_getElem (by omega)] at h1
      obtain ⟨cs', h2, h3⟩ := Option.bind_eq_some_iff.1 h1
      obtain ⟨_, h4, h5⟩ := World.cells?_some h2
      obtain ⟨b, hb⟩ := f n cs' _ (by omega) h3
      rw [hc] at h4 h5
      refine ⟨b, cs', h4, fun j u hj => ?_, hb⟩
      rw [h5 j (by have := (List.getElem?_eq_some_iff.1 hj).1; omega)]
      exact hj
    obtain ⟨xs, hxl, hxs⟩ : ∃ xs : List α, xs.length = len ∧ ∀ i (h : i < xs.length), ∃ cs' : List Value, cs'.length = k ∧ (∀ j u, cs'[j]? = some u → W.cell? ((a.add (i * k)).add j) = some u) ∧ All2 (SRep (sto W)) cs' (e0 xs[i]) := choose_list key
    have cell : ∀ m y j z, (xs.map e0)[m]? = some y → y[j]? = some z → ∃ v, W.cell? ⟨a.block, a.off + m * k + j, none⟩ = some v ∧ SRep (sto W) v z := fun m y j z hy hz => by
      rw [List.getElem?_map, Option.map_eq_some_iff] at hy
      obtain ⟨b, hb', rfl⟩ := hy
      obtain ⟨hm', hbe⟩ := List.getElem?_eq_some_iff.1 hb'
      obtain ⟨cs', c1, c2, c3⟩ := hxs m hm'
      rw [hbe] at c3
      obtain ⟨v, v1, v2⟩ := c3.get hz
      refine ⟨v, ?_, v2⟩
      have := c2 j v v1
      have hsp := spot_none this
      rw [← this]
      congr 1
      have h7 : ((a.add (m * k)).add j).block = a.block ∧ ((a.add (m * k)).add j).off = a.off + m * k + j := by
        unfold Addr.add
        split <;> split <;> simp_all
      generalize (a.add (m * k)).add j = q at *
      cases q
      simp_all
    refine ⟨xs, .cons (.list (b := a.block) (o := a.off) (w := k) (fun m j => (W.cell? ⟨a.block, a.off + m * k + j, none⟩).getD undef) (by simp [hxl]) hl hm (by simp) (fun h0 => ?_) (fun y hy => ?_) (fun q1 q2 _ => absurd (hs q1) (by omega)) (fun m y j z hy hz => ?_) (fun m y j z hy hz => ?_)) .nil⟩
    · obtain ⟨cs', h1, h2, h3⟩ := hxs 0 (by omega)
      have h4 : W.cell? a = some (cs'[0]'(by omega)) := by
        have := h2 0 _ (List.getElem?_eq_getElem (by omega))
        simpa [Addr.add] using this
      have := spot_none h4
      cases a
      simp_all
    · obtain ⟨b, _, rfl⟩ := List.mem_map.1 hy
      exact hlen b
    · obtain ⟨v, v1, v2⟩ := cell m y j z hy hz
      show W.cell? _ = _
      rw [v1]; rfl
    · obtain ⟨v, v1, v2⟩ := cell m y j z hy hz
      rw [v1]; exact v2
theorem int_trod {t : TypeId} (ht : P.underlying t = some (.int .i64)) (fuel : Nat) (cs : List Value) (x : DataW H × List MemPlace) (h : DataW.trod enc P W base sp hd fuel t cs = some x) : ∃ n : Int, All2 (SRep (sto W)) cs (encI n) := by
  obtain ⟨n, rfl, _, hn⟩ := DataW.trod_int ht h
  exact ⟨n, .cons (.int (by rw [inR_i64]; simpa [Lit.wf, IntKind.min, IntKind.max, IntKind.signed, IntKind.bits] using hn)) .nil⟩
theorem arg_int {t : TypeId} (ht : P.underlying t = some (.int .i64)) {r : Reach} {b0 : Nat} {v : Value} {d : DataW H} {p : List MemPlace} (hv : Value.okWide P W r b0 t v) (h : DataW.Trod enc P W base sp hd t v d p) : ∃ n : Int, VRep (sto W) noS noH v (aInt n) := by
  obtain ⟨n, rfl⟩ := okWide_int ht hv
  obtain ⟨fuel, hf⟩ := h
  obtain ⟨m, hm⟩ := int_trod ht fuel _ _ hf
  have : All2 (SRep (sto W)) [.int .i64 n] (encI m) := hm
  cases this with
  | cons h1 h2 => exact ⟨m, .one (.st h1)⟩
theorem arg_struct {α : Type} {e0 : α → List SV} {t : TypeId} {fs : Array Field} (ht : P.underlying t = some (.struct fs)) {r : Reach} {b0 : Nat} {v : Value} {d : DataW H} {p : List MemPlace} (hv : Value.okWide P W r b0 t v)
    (f : ∀ (n : Nat) (cs : List Value) (y : DataW H × List MemPlace), DataW.trod enc P W base sp hd n t cs = some y → ∃ a : α, All2 (SRep (sto W)) cs (e0 a)) (h : DataW.Trod enc P W base sp hd t v d p) : ∃ a : α, VRep (sto W) noS noH v (.agg ((e0 a).map .st)) := by
  obtain ⟨cs, rfl, hsz⟩ := okWide_struct ht hv
  obtain ⟨fuel, hf⟩ := h
  obtain ⟨a, ha⟩ := f fuel _ _ hf
  exact ⟨a, .agg ((All2.mono (fun _ _ h => .st h) ha).map_right)⟩
end
theorem acalls_true {P : Program} {f : FuncId} {xs : List AV} {b : Bool} (h : ACalls P f xs (aBool b)) {σ : Sto} {w : World} {vs : List Value} (hg : GlobIn σ) (hf : Fit σ w) (hv : All2 (VRep σ noS noH) vs xs) :
    Calls P f vs.toArray w fun e w' => e = .returned (.bool b) ∧ Below w.heap.size w w' := (h σ w vs hg hf hv).mono fun e w' ⟨v, σ', he, hv, _, _, hb⟩ => by
  rw [vrep_bool hv] at he
  exact ⟨he, hb⟩

theorem laid_at {P : Program} {W : World} {x : String × DataW Unit} : ∀ {l : List (String × DataW Unit)} {ps : List MemPlace}, DataW.LaidVars P W l ps → x ∈ l → ∃ q, DataW.LaidVars P W [x] q
  | [], _, _, hx => by simp at hx
  | y :: l, ps, h, hx => by
    obtain ⟨n, d⟩ := y
    obtain ⟨g, t, cs, fuel, p, q, a1, a2, a3, a4, a5, a6⟩ := h
    rcases List.mem_cons.1 hx with rfl | hx
    · exact ⟨_, g, t, cs, fuel, p, [], a1, a2, a3, a4, rfl, rfl⟩
    · exact laid_at a5 hx
theorem size_sto {P : Program} {W : World} {n : String} {g : Nat} {cs : Array Value} (hg : P.globalNamed n = some g) (h : W.var? P n = some cs) : sto W ⟨g, cs.size, some 0⟩ = some .nilFunc := by
  unfold World.var? at h
  rw [hg] at h
  simp only [Option.bind_some] at h
  show look W _ = _
  unfold look
  simp only
  cases hb : W.heap[g]? with
  | none => rw [hb] at h; cases h
  | some o =>
    rw [hb] at h
    cases o <;> simp_all
theorem glob_tab {P : Program} {W : World} {name : String} {g : Nat} {t e : TypeId} {n : Nat} {k : IntKind} {zs : List Int} (hg : P.globalNamed name = some g) (hty : (P.globals[g]?).map (·.type) = some t) (ht : P.underlying t = some (.array n e)) (he : P.underlying e = some (.int k))
    (hce : P.cellsOf e = 1) (hct : P.cellsOf t = n) (hin : ∀ z ∈ zs, inR k z) {ps : List MemPlace} (h : DataW.LaidVars P W [(name, Lib.tabData k zs)] ps) : GlobAt (sto W) (g, zs.map fun z => .int k z) := by
  obtain ⟨g0, t0, cs0, f0, p0, q0, hg0, ht0, hv0, hd0, _, _⟩ := h
  obtain rfl := Option.some.inj (hg.symm.trans hg0)
  obtain rfl := Option.some.inj (hty.symm.trans ht0)
  have hc := Lib.cells_of_tab ht he hce hct hd0
  have hs : cs0.size = zs.length := by
    have := congrArg List.length hc
    simpa using this
  refine ⟨⟨fun j => (zs[j]?).elim .nilFunc (.int k), fun j a ha => ?_, fun j a ha => ?_⟩, ?_⟩
  · rw [List.getElem?_map, Option.map_eq_some_iff] at ha
    obtain ⟨z, hz, rfl⟩ := ha
    have h1 := World.var?_cell hg0 hv0 j
    have h2 : cs0[j]? = some (.int k z) := by
      have h3 := congrArg (fun l : List Value => l[j]?) hc
      simpa [hz] using h3
    show look W _ = _
    rw [look_none rfl, Nat.zero_add, h1, h2]
    simp only [hz, Option.elim]
  · rw [List.getElem?_map, Option.map_eq_some_iff] at ha
    obtain ⟨z, hz, rfl⟩ := ha
    simp only [hz, Option.elim]
    exact .int (hin z (List.mem_of_getElem? hz))
  · have := size_sto hg0 hv0
    rw [hs] at this
    simpa using this
theorem in_i64 {zs : List Int} (h : zs.all (fun z => decide (-9223372036854775808 ≤ z) && decide (z ≤ 9223372036854775807)) = true) : ∀ z ∈ zs, inR .i64 z := fun z hz => by
  have := List.all_eq_true.1 h z hz
  rw [inR_i64]
  simpa using this
theorem in_u64 {zs : List Int} (h : zs.all (fun z => decide (0 ≤ z) && decide (z ≤ 18446744073709551615)) = true) : ∀ z ∈ zs, inR .u64 z := fun z hz => by
  have := List.all_eq_true.1 h z hz
  simp only [Bool.and_eq_true, decide_eq_true_eq] at this
  simp [inR, IntKind.min, IntKind.max, IntKind.signed, IntKind.bits]
  omega
theorem glob_subs {W : World} {ps : List MemPlace} (h : DataW.LaidVars Tryz.prog W [("metaprune/lambda.subs", Rows.laid_metaprune_lambda_subs)] ps) : GlobAt (sto W) (0, [.int .i64 0, .int .i64 0, .int .i64 1, .int .i64 2, .int .i64 0, .int .i64 0]) := glob_tab (k := .i64) (zs := [0, 0, 1, 2, 0, 0]) (by kernel_rfl) (by kernel_rfl) Tryz.underlying145 Tryz.underlying3 (by kernel_rfl) (by kernel_rfl) (in_i64 (by decide)) h
theorem glob_pow {W : World} {ps : List MemPlace} (h : DataW.LaidVars Tryz.prog W [("internal/strconv.uint64pow10", Rows.laid_internal_strconv_uint64pow10)] ps) : GlobAt (sto W) (1, pow10s) := glob_tab (k := .u64) (zs := Lib.pow10Tab) (by kernel_rfl) (by kernel_rfl) Tryz.underlying171 Tryz.underlying158 (by kernel_rfl) (by kernel_rfl) (in_u64 (by decide)) h

section
variable {H : Type} {enc : TypeId × Value → H} {W : World} {sp : Nat → Bool} {hd : Bool} {base : Nat}
set_option maxRecDepth 100000 in
theorem lm_trod : ∀ (fuel : Nat) (cs : List Value) (x : DataW H × List MemPlace), DataW.trod enc Tryz.prog W base sp hd fuel 24 cs = some x → ∃ t : Lm, All2 (SRep (sto W)) cs (encL t) := by
  intro fuel
  induction fuel using Nat.strongRecOn with
  | _ fuel ih =>
  intro cs x h
  obtain ⟨a, b, c, y0, y1, y2, n, hn, rfl, h0, h1, h2⟩ := trod_three Tryz.underlying24 rfl rfl rfl (show Tryz.prog.cellsOf 3 = 1 by kernel_rfl) (show Tryz.prog.cellsOf 3 = 1 by kernel_rfl) (show Tryz.prog.cellsOf 22 = 1 by kernel_rfl) (show Tryz.prog.cellsOf 24 = 3 by kernel_rfl) h
  obtain ⟨k, hk⟩ := int_trod Tryz.underlying3 _ _ _ h0
  obtain ⟨i, hi⟩ := int_trod Tryz.underlying3 _ _ _ h1
  obtain ⟨xs, hxs⟩ := list_of_trod (e0 := encL) Tryz.underlying22 (show Tryz.prog.cellsOf 24 = 3 by kernel_rfl) (fun a => by rw [encL_eq]; rfl) (by decide) (fun m cs y hm hy => ih m (by omega) cs y hy) h2
  exact ⟨.mk k i xs, by rw [encL_eq]; exact hk.append (hi.append hxs)⟩
set_option maxRecDepth 100000 in
theorem arg_lm {r : Reach} {b0 : Nat} {v : Value} {d : DataW H} {p : List MemPlace} (hv : Value.okWide Tryz.prog W r b0 24 v) (h : DataW.Trod enc Tryz.prog W base sp hd 24 v d p) : ∃ t : Lm, VRep (sto W) noS noH v (aLm t) := by
  obtain ⟨t, ht⟩ := arg_struct Tryz.underlying24 hv lm_trod h
  exact ⟨t, by rw [encL_eq] at ht; exact ht⟩
end

section
variable {H : Type} {enc : TypeId × Value → H} {W : World} {sp : Nat → Bool} {hd : Bool} {base : Nat}
set_option maxRecDepth 100000 in
theorem ty_trod : ∀ (fuel : Nat) (cs : List Value) (x : DataW H × List MemPlace), DataW.trod enc Tryz.prog W base sp hd fuel 27 cs = some x → ∃ t : Ty, All2 (SRep (sto W)) cs (encY t) := by
  intro fuel
  induction fuel using Nat.strongRecOn with
  | _ fuel ih =>
  intro cs x h
  obtain ⟨a, b, y0, y1, n, hn, rfl, h0, h1⟩ := trod_two Tryz.underlying27 rfl rfl (show Tryz.prog.cellsOf 3 = 1 by kernel_rfl) (show Tryz.prog.cellsOf 25 = 1 by kernel_rfl) (show Tryz.prog.cellsOf 27 = 2 by kernel_rfl) h
  obtain ⟨k, hk⟩ := int_trod Tryz.underlying3 _ _ _ h0
  obtain ⟨xs, hxs⟩ := list_of_trod (e0 := encY) Tryz.underlying25 (show Tryz.prog.cellsOf 27 = 2 by kernel_rfl) (fun a => by rw [encY_eq]; rfl) (by decide) (fun m cs y hm hy => ih m (by omega) cs y hy) h1
  exact ⟨.mk k xs, by rw [encY_eq]; exact hk.append hxs⟩
set_option maxRecDepth 100000 in
theorem arg_ty {r : Reach} {b0 : Nat} {v : Value} {d : DataW H} {p : List MemPlace} (hv : Value.okWide Tryz.prog W r b0 27 v) (h : DataW.Trod enc Tryz.prog W base sp hd 27 v d p) : ∃ t : Ty, VRep (sto W) noS noH v (aTy t) := by
  obtain ⟨t, ht⟩ := arg_struct Tryz.underlying27 hv ty_trod h
  exact ⟨t, by rw [encY_eq] at ht; exact ht⟩
end
theorem globIn_two {W : World} {l : List (String × DataW Unit)} (hs : ("metaprune/lambda.subs", Rows.laid_metaprune_lambda_subs) ∈ l) (hin : ("internal/strconv.uint64pow10", Rows.laid_internal_strconv_uint64pow10) ∈ l) {ps : List MemPlace} (h : DataW.LaidVars Tryz.prog W l ps) : GlobIn (sto W) := by
  obtain ⟨_, h0⟩ := laid_at (x := ("metaprune/lambda.subs", Rows.laid_metaprune_lambda_subs)) h hs
  obtain ⟨_, h1⟩ := laid_at (x := ("internal/strconv.uint64pow10", Rows.laid_internal_strconv_uint64pow10)) h hin
  intro y hy
  simp only [globs, List.mem_cons, List.not_mem_nil, or_false] at hy
  rcases hy with rfl | rfl
  · exact glob_subs h0
  · exact glob_pow h1

end Go.Proofs.YtkjlddlllofenaaGreatDoor
namespace Go.Proofs.YtkjlddlllofenaaGreatDoor.longSays
open Go Go.RowKit Go.ChangeShapes Go.WideShapes Go.ChangeAt
set_option linter.unusedVariables false
theorem globInG {W : World} (h : laidMetH Tryz.prog Rows.longSaysRow.laid W) : GlobIn (sto W) := by
  rw [MakeChecks.laidMetH_plain _ _ _ (by kernel_rfl)] at h
  obtain ⟨ps, h, _, _⟩ := h
  exact globIn_two (by simp [Rows.longSaysRow]) (by simp [Rows.longSaysRow]) h
theorem own : ownKnob Tryz.prog.godebug = none := by kernel_rfl
theorem laid : laidOutB Tryz.prog = true := by kernel_rfl
set_option maxRecDepth 100000 in
theorem contract (H : Type) (enc : TypeId × Value → H) (W : World) (base : Nat) (args : Array Value) (ds gs : List (DataW H)) (before : List MemPlace) (hL : laidMetH Tryz.prog Rows.longSaysRow.laid W)
    (hval : ∀ (j : Nat) t v, Tryz.f3.params[j]? = some t → args[j]? = some v → Value.okWide Tryz.prog W .any base t v)
    (hW : DataW.Whole enc Tryz.prog Tryz.f3.params.toList Rows.longSaysSpec.vars false W args.toList ds gs before) :
    Calls Tryz.prog 3 args W fun e W' => ∃ v, e = .returned v ∧ Rows.longSaysSpec.post enc Tryz.prog Tryz.f3 false true false false W args v W' := by
  have hG := globInG hL
  obtain ⟨p, q, hA0, hV, rfl, hfz, hnd⟩ := id hW
  obtain ⟨rfl, rfl⟩ := trodVars_none hV
  have hA : DataW.TrodAll enc Tryz.prog W 0 (fun _ => true) true Tryz.f3.params.toList args.toList ds p := hA0
  rw [Tryz.params3] at hA hval
  obtain ⟨v0, v1, v2, d0, d1, d2, p0, p1, p2, hargs, rfl, rfl, h0, h1, h2⟩ := trodAll_three hA
  obtain rfl : args = #[v0, v1, v2] := by cases args; simp_all
  obtain ⟨t, r0⟩ := arg_lm (hval 0 24 v0 rfl rfl) h0
  obtain ⟨u, r1⟩ := arg_ty (hval 1 27 v1 rfl rfl) h1
  obtain ⟨m, r2⟩ := arg_int Tryz.underlying3 (hval 2 3 v2 rfl rfl) h2
  refine (acalls_true (longSays_a t u m) hG (fit_sto W) (vs := [v0, v1, v2]) (.cons r0 (.cons r1 (.cons r2 .nil)))).mono fun e W' ⟨he, hb⟩ => ⟨_, he, ?_⟩
  exact law_post hW rfl rfl Tryz.underlying4 rfl rfl rfl laid (by kernel_rfl) hb
theorem door_met (os : Os) (args : Array Value) : laidMetH Tryz.prog Rows.longSaysRow.laid ((World.doorLaid Tryz.prog 400 os).forCall (fun _ _ => 0) ⟨#[], args, []⟩).memory :=
  laidMetH_of_parts3 (fuel := 8) (laidMet_of_run' 8 (by kernel_rfl) (by kernel_rfl)) (by kernel_rfl) (by kernel_rfl)
set_option maxRecDepth 100000 in
theorem lifted (os : Os) (started : os.Started) (H : Type) (enc : TypeId × Value → H) :
    ReturnsInHanded {} Tryz.checked os 3 .any (fun w args => (Rows.longSaysSpec.pre enc Tryz.prog Tryz.f3 [] false w args ∧ laidMetH Tryz.prog Rows.longSaysRow.laid w) ∧ sizedMet enc Tryz.prog Tryz.f3 (OpenSpec.ofChange Rows.longSaysSpec) false w args)
      (Rows.longSaysSpec.post enc Tryz.prog Tryz.f3 false true false false) := by
  refine returnsInHanded_of_change_and (C := Tryz.checked) (X := fun w _ => laidMetH Tryz.prog Rows.longSaysRow.laid w) (fun _ _ _ hh h => h.of_heap hh) own started (by kernel_rfl) Tryz.func3
    (ChangeSpec.witness_shaped (enc := enc) (C := Tryz.checked) (os := os) (X := fun w _ => laidMetH Tryz.prog Rows.longSaysRow.laid w) false (World.doorLaid Tryz.prog 400 os) #[.agg #[.int .i64 0, .int .i64 0, .slice none 0 0], .agg #[.int .i64 0, .slice none 0 0], .int .i64 0] 8 rfl (World.shaped_of_RefB (by kernel_rfl) (by kernel_rfl)) (by kernel_rfl) (by kernel_rfl) (by kernel_rfl) (door_met os _)) ?_
  intro W base args ds gs before hval hW _ _ hL _
  exact contract H enc W base args ds gs before hL hval hW
theorem row_holds : Rows.LongSaysSaid :=
  OpenClaim.holds_of_wide 3 Tryz.f3 rfl rfl rfl rfl rfl rfl rfl ⟨rfl, rfl, rfl, rfl, rfl⟩ rfl rfl rfl rfl rfl (by kernel_rfl) Tryz.func3 (by kernel_rfl)
    (of_decide_eq_true (by kernel_rfl)) (by unfold Func.isWrapper; first | (rw [if_pos (by decide +kernel)]; kernel_rfl) | (rw [if_neg (by decide +kernel)]; exact ⟨rfl, rfl⟩))
    (fun os started H enc _ => lifted os started H enc)
theorem no_stand : (Tryz.f3.params.toList.all fun t => !Tryz.prog.wantsStandIn t) = true := by kernel_rfl
theorem proved : Rows.LongSaysCardSaid :=
  Claim7.holds_tied_plain_at .later [] [.data, .data, .data, .data] true Rows.longSaysCard.stood.harness Rows.longSaysCard.stood.looks
    row_holds (fun _ h => by cases h) (by kernel_rfl) (fun _ h => by cases h) longSays_row_tie rfl ⟨rfl, rfl⟩ (by kernel_rfl) rfl
    (fun f fn hf hfn => by
      obtain rfl : f = 3 := Option.some.inj ((show Tryz.prog.funcNamed "metaprune/metaprunelaw.LongSays" = some 3 by kernel_rfl).symm.trans hf) |>.symm
      obtain rfl : fn = Tryz.f3 := (Option.some.inj (Tryz.func3.symm.trans hfn)).symm
      exact ⟨by kernel_rfl, fun j t ht => by
        have h1 := List.all_eq_true.1 no_stand t (by rw [Array.mem_toList_iff]; exact Array.mem_of_getElem? ht)
        have h2 : Tryz.prog.wantsStandIn t = false := by simpa using h1
        exact h2⟩)
    (by kernel_rfl)

end Go.Proofs.YtkjlddlllofenaaGreatDoor.longSays
