/-
  Proved: for typed terms made of raw numbers, what R1 says holds: the law LongMade returns true; as a tied card. Conditions: none.
-/
import Derived.Test.YtkjlddlllofenaaGreatDoorLoM10
import Derived.Test.YtkjlddlllofenaaGreatDoorRows
import Derived.ProofKit
import Derived.OpenShut
import Derived.JoinedCond
import Derived.Deep.Slices
import Derived.Test.YtkjlddlllofenaaGreatDoorTie
import Derived.Test.YtkjlddlllofenaaGreatDoorCards
import Derived.LaidMore
import Derived.MakeChecks
import Derived.Stop.Joined
import Derived.Lib.LaidTab
import Derived.Lib.ItoaNum
import Derived.LaidLaws
namespace Go.Proofs.YtkjlddlllofenaaGreatDoor
open Go Go.RowKit
set_option linter.unusedVariables false
set_option linter.unusedSimpArgs false
set_option maxHeartbeats 2000000
def PrinC (t : Lm) (b : BT) (e : Int) : Prop :=
 ACalls Tryz.prog 56 [aLm t] (.tup [aTy b.ty, aInt e]) ∧ (t.may 0 0 ≠ 0 → e = t.may 0 0) ∧ (t.may 0 0 = 0 → t.pure = false → e = 15) ∧ (t.may 0 0 = 0 → t.pure = true → (e = 0 ∨ e = 8 ∨ e = 11) ∧ ACalls Tryz.prog 11 [aLm t] (.tup [aTy b.ty, aInt e]) ∧ (e = 0 → ∀ E, Typ [] t (b.inst E)))
theorem prin_no {t : Lm} (h : t.may 0 0 ≠ 0) : PrinC t (.b 0) (t.may 0 0) := by
 refine ⟨?_, fun _ => rfl, fun h0 => absurd h0 h, fun h0 => absurd h0 h⟩
 refine ok_infer_Principal.ac fun C hC => ?_
 unfold ir_infer_Principal
 repeat' (first | (with_reducible first | refine W ?_ | refine Z0 ?_) | refine Cg _ (lCheck_a t 0) ?_ | ((with_reducible first | refine Wo (fun K hK => ?_) | refine Wp ?_ | refine Wq ?_ | refine Wr ?_); (try simp only [go_sem, fN, seval, eT, iR, h, dT, dF, nL]); (repeat with_reducible refine Ai ?_); (try (refine hK _ ?_; clear hK K)); try with_reducible refine iC ?_))
 simp only [go_sem, fN, seval, FinQ, AS.result, resAll, resOne, tupV, h]
 try rfl
theorem prin_open {t : Lm} (h : t.may 0 0 = 0) (hp : t.pure = false) : PrinC t (.b 0) 15 := by
 obtain ⟨_, _, h3, _⟩ := Lm.may_ok h
 refine ⟨?_, fun h0 => absurd h h0, fun _ _ => rfl, fun _ h1 => by rw [hp] at h1; cases h1⟩
 refine ok_infer_Principal.ac fun C hC => ?_
 unfold ir_infer_Principal
 repeat' (first | (with_reducible first | refine W ?_ | refine Z0 ?_) | refine Cg _ (lCheck_a t 0) ?_ | refine Cg _ (pure_a t (by omega)) ?_ | ((with_reducible first | refine Wo (fun K hK => ?_) | refine Wp ?_ | refine Wq ?_ | refine Wr ?_); (try simp only [go_sem, fN, seval, eT, iR, h, hp, dT, dF, nL]); (repeat with_reducible refine Ai ?_); (try (refine hK _ ?_; clear hK K)); try with_reducible refine iC ?_))
 simp only [go_sem, fN, seval, FinQ, AS.result, resAll, resOne, tupV]
 try rfl
theorem BT.low_le {m n : Nat} (h : m ≤ n) : ∀ {x : BT}, x.low m → x.low n
 | .b k, hk => Nat.lt_of_lt_of_le hk h
 | .a x y, hk => ⟨BT.low_le h hk.1, BT.low_le h hk.2⟩
set_option maxHeartbeats 8000000 in
theorem prin_yes (x : UL) (hc : x.closed 0) (hz : x.sz ≤ 200) (hm0 : x.lm.may 0 0 = 0) (hp : x.lm.pure = true) : ∃ (b : BT) (e : Int), PrinC x.lm b e ∧ b.low 2001 ∧ b.sz ≤ 2000 ∧ (e ≠ 0 → b = .b 0) := by
 have hsz : x.lm.size ≤ 1000000 := by rw [UL.size_lm]; omega
 obtain ⟨t1, t2, t3, t4, t5, t6⟩ := ty_ok 402 x [] ([], 0) hc (by simp) (by omega) (by simp only; omega) ⟨by simp⟩
 have hP := fun {a0 r : Nat} {S : AStore} (h : Eqs 116 S a0 r ([], 0)) => of_S 402 (by decide) x (und := []) h hc (by simp) (by omega) (by simp only; omega) (by simp; omega) (by simp; omega) ⟨by simp⟩
 have hR := fun {a0 r : Nat} {S : AStore} (h : Eqs 58 S a0 r ([], 0)) => ofR_S 402 (by decide) x (und := []) h hc (by simp) (by omega) (by simp only; omega) (by simp; omega) (by simp; omega) ⟨by simp⟩
 simp only at t2 t3 t6
 generalize hm : x.ty [] ([], 0) = mm at *
 obtain ⟨all, eqs, n⟩ := mm
 simp only at t1 t2 t3 t4 t5 t6 hP hR
 have hg := good_eqs (K := 402) (by decide) t1 (by simp only; omega) (by simp only; simp at t6; omega)
 simp only at hg
 have hUl : (tNames n).length ≤ 20000 := by simp [tNames]; omega
 obtain ⟨q, r, hr⟩ := uends_all _ _ [] eqs hg rfl rfl
 have hsolve := solve_a (tNames n) hUl 100000000000 (by decide) q eqs r hr hg
 have hunify := unifyOf_a (tNames n) hUl 100000000000 (by decide) q eqs r hr hg
 have hall := t4.1
 have heqs : ∀ p ∈ eqs, TT p.1 ∧ TT p.2 := fun p hp => ⟨(t1.eqs p hp).1.1.1, (t1.eqs p hp).2.1.1⟩
 have hTs := uends_tt hr (fun b hb => by cases hb) heqs
 have her := uends_err_tt hr (fun b hb => by cases hb) heqs
 have e0 : (([] : List Pr).length = 0) := rfl
 suffices key : ∃ (b : BT) (e : Int), ACalls Tryz.prog 56 [aLm x.lm] (.tup [aTy b.ty, aInt e]) ∧ (e = 0 ∨ e = 8 ∨ e = 11) ∧ ACalls Tryz.prog 11 [aLm x.lm] (.tup [aTy b.ty, aInt e]) ∧ (e = 0 → ∀ E, Typ [] x.lm (b.inst E)) ∧ b.low 2001 ∧ b.sz ≤ 2000 ∧ (e ≠ 0 → b = .b 0) by
  obtain ⟨b, e, k1, k2, k3, kT, k4, k5, k6⟩ := key
  exact ⟨b, e, ⟨k1, fun h => absurd hm0 h, fun _ h1 => (by rw [hp] at h1; cases h1), fun _ _ => ⟨k2, k3, kT⟩⟩, k4, k5, k6⟩
 rcases her with h0 | h6 | h8
 ·-- they are found
  obtain ⟨g', _, hsol⟩ := robin_unifies hr hg h0
  have hty := typ_sol hc (s := r.1) (by rw [hm]; exact hsol)
  rw [hm] at hty
  simp only at hty
  have hlen := g'.len
  have hon := onP_a r.1 (by omega) g'.ord all g'.var hall.chk
  have honR := onRef_a r.1 all (by omega)
  by_cases hfit : (all.on r.1).size ≤ 2000
  ·have ho : onTo r.1 all = (all.on r.1, true) := if_pos hfit
   rw [ho] at hon honR
   have hy : TT (all.on r.1) := hall.on (fun b hb => (hTs b hb).1) fun b hb => (hTs b hb).2
   generalize all.on r.1 = y at *
   have hvl := vars_len y
   have hv : (y.bk []).2 = y.varsOf := bk_vars hy []
   have hb1 := bk_asB hy [] y.varsOf (by rw [hv]; exact ⟨[], by simp⟩)
   have hb2 := bk_in hy [] y.varsOf (by rw [hv]; exact ⟨[], by simp⟩)
   have hbk := fun {a0 : Nat} {S : AStore} (ha : 1000 ≤ a0) (hs : S a0 = some (mapI [])) => back_S hy (l := []) ha (by simp; omega) hs
   have hvo := varsOf_a y (by omega)
   have hat := asType_a hy y.varsOf hb2 (by omega)
   have low2 : (y.asB y.varsOf).low 2001 := BT.low_le (by omega) hb2
   refine ⟨y.asB y.varsOf, 0, ?_, .inl rfl, ?_, fun _ => hty y.varsOf, low2, by rw [asB_size hy]; exact hfit, fun h => absurd rfl h⟩
   ·rw [← hb1]
    refine ok_infer_Principal.ac fun C hC => ?_
    unfold ir_infer_Principal
    repeat' (first | (with_reducible first | refine W ?_ | refine Z0 ?_) | refine Cg _ (lCheck_a x.lm 0) ?_ | ((with_reducible first | refine Wo (fun K hK => ?_) | refine Wp ?_ | refine Wq ?_ | refine Wr ?_); (try simp only [go_sem, fN, seval, eT, iR, hm0, hp, dT, dF, nL]); (repeat with_reducible refine Ai ?_); (try (refine hK _ ?_; clear hK K)); try with_reducible refine iC ?_))
    refine ⟨_, pure_a x.lm hsz, ?_⟩
    iterate 7 (first | (with_reducible first | refine W ?_ | refine Z0 ?_) | ((with_reducible first | refine Wo (fun K hK => ?_) | refine Wp ?_ | refine Wq ?_ | refine Wr ?_); (try simp only [go_sem, fN, seval, eT, iR, hm0, hp, dT, dF, nL]); (repeat with_reducible refine Ai ?_); (try (refine hK _ ?_; clear hK K)); try with_reducible refine iC ?_))
    refine Wb ?_
    refine IWP.ghost (Ghost.ownCellA (id := 23) (r := 900) (e' := 91) 0 4 (by rfl) (by rfl) (by rfl) (by decide)) ?_
    repeat' (first | (with_reducible first | refine W ?_ | refine Z0 ?_) | ((with_reducible first | refine Wo (fun K hK => ?_) | refine Wp ?_ | refine Wq ?_ | refine Wr ?_); (try simp only [go_sem, fN, seval, eT, iR, dT, dF, nL]); (repeat with_reducible refine Ai ?_); (try (refine hK _ ?_; clear hK K)); try with_reducible refine iC ?_))
    refine ⟨_, _, acallsS_full (hP (a0 := up1 23) (r := up1 900) ⟨by decide, by decide, by decide, by rw [upS_up]; rfl, by rw [upS_up]; rfl⟩), ?_⟩
    repeat' (first | (with_reducible first | refine W ?_ | refine Z0 ?_) | refine Cg _ (hsolve) ?_ | refine Cg _ (hon) ?_ | ((with_reducible first | refine Wo (fun K hK => ?_) | refine Wp ?_ | refine Wq ?_ | refine Wr ?_); (try simp only [go_sem, fN, seval, eT, iR, eqS, h0, dT, dF, nL]); (repeat with_reducible refine Ai ?_); (try (refine hK _ ?_; clear hK K)); try with_reducible refine iC ?_))
    refine ⟨_, _, hbk (a0 := up1 50) (up1_le _) (by rw [upS_up]; rfl), ?_⟩
    repeat' (first | (with_reducible first | refine W ?_ | refine Z0 ?_) | ((with_reducible first | refine Wo (fun K hK => ?_) | refine Wp ?_ | refine Wq ?_ | refine Wr ?_); (try simp only [go_sem, fN, seval, eT, iR, eqS, h0, dT, dF, nL]); (repeat with_reducible refine Ai ?_); (try (refine hK _ ?_; clear hK K)); try with_reducible refine iC ?_))
    simp only [go_sem, fN, seval, FinQ, AS.result, resAll, resOne, tupV]
    try rfl
   ·refine ok_R_PrincipalOf.ac fun C hC => ?_
    unfold ir_R_PrincipalOf
    refine W ?_
    refine Wo (fun K hK => ?_)
    (try simp only [go_sem, fN, seval, eT, iR])
    (repeat with_reducible refine Ai ?_)
    refine hK _ ?_
    clear hK K
    refine W ?_
    refine W ?_
    refine Wo (fun K hK => ?_)
    (try simp only [go_sem, fN, seval, eT, iR])
    (repeat with_reducible refine Ai ?_)
    refine hK _ ?_
    clear hK K
    refine W ?_
    refine IWP.ghost (Ghost.ownCellA (id := 11) (r := 900) (e' := 91) 0 4 (by rfl) (by rfl) (by rfl) (by decide)) ?_
    repeat' (first | (with_reducible first | refine W ?_ | refine Z0 ?_) | ((with_reducible first | refine Wo (fun K hK => ?_) | refine Wp ?_ | refine Wq ?_ | refine Wr ?_); (try simp only [go_sem, fN, seval, eT, iR, dT, dF, nL]); (repeat with_reducible refine Ai ?_); (try (refine hK _ ?_; clear hK K)); try with_reducible refine iC ?_))
    refine ⟨_, _, acallsS_full (hR (a0 := up1 11) (r := up1 900) ⟨by decide, by decide, by decide, by rw [upS_up]; rfl, by rw [upS_up]; rfl⟩), ?_⟩
    repeat' (first | (with_reducible first | refine W ?_ | refine Z0 ?_) | refine Cg _ (hunify) ?_ | refine Cg _ (honR) ?_ | refine Cg _ (hvo) ?_ | refine Cg _ (hat) ?_ | ((with_reducible first | refine Wo (fun K hK => ?_) | refine Wp ?_ | refine Wq ?_ | refine Wr ?_); (try simp only [go_sem, fN, seval, eT, iR, eqS, h0, dT, dF, nL]); (repeat with_reducible refine Ai ?_); (try (refine hK _ ?_; clear hK K)); try with_reducible refine iC ?_))
    simp only [go_sem, fN, seval, FinQ, AS.result, resAll, resOne, tupV]
    try rfl
  ·have ho : onTo r.1 all = (Tm.nil, false) := if_neg hfit
   rw [ho] at hon honR
   refine ⟨.b 0, 8, ?_, .inr (.inl rfl), ?_, fun h => absurd h (by decide), by show 0 < 2001; omega, by show 1 ≤ 2000; omega, fun _ => rfl⟩
   ·refine ok_infer_Principal.ac fun C hC => ?_
    unfold ir_infer_Principal
    repeat' (first | (with_reducible first | refine W ?_ | refine Z0 ?_) | refine Cg _ (lCheck_a x.lm 0) ?_ | ((with_reducible first | refine Wo (fun K hK => ?_) | refine Wp ?_ | refine Wq ?_ | refine Wr ?_); (try simp only [go_sem, fN, seval, eT, iR, hm0, hp, dT, dF, nL]); (repeat with_reducible refine Ai ?_); (try (refine hK _ ?_; clear hK K)); try with_reducible refine iC ?_))
    refine ⟨_, pure_a x.lm hsz, ?_⟩
    iterate 7 (first | (with_reducible first | refine W ?_ | refine Z0 ?_) | ((with_reducible first | refine Wo (fun K hK => ?_) | refine Wp ?_ | refine Wq ?_ | refine Wr ?_); (try simp only [go_sem, fN, seval, eT, iR, hm0, hp, dT, dF, nL]); (repeat with_reducible refine Ai ?_); (try (refine hK _ ?_; clear hK K)); try with_reducible refine iC ?_))
    refine Wb ?_
    refine IWP.ghost (Ghost.ownCellA (id := 23) (r := 900) (e' := 91) 0 4 (by rfl) (by rfl) (by rfl) (by decide)) ?_
    repeat' (first | (with_reducible first | refine W ?_ | refine Z0 ?_) | ((with_reducible first | refine Wo (fun K hK => ?_) | refine Wp ?_ | refine Wq ?_ | refine Wr ?_); (try simp only [go_sem, fN, seval, eT, iR, dT, dF, nL]); (repeat with_reducible refine Ai ?_); (try (refine hK _ ?_; clear hK K)); try with_reducible refine iC ?_))
    refine ⟨_, _, acallsS_full (hP (a0 := up1 23) (r := up1 900) ⟨by decide, by decide, by decide, by rw [upS_up]; rfl, by rw [upS_up]; rfl⟩), ?_⟩
    repeat' (first | (with_reducible first | refine W ?_ | refine Z0 ?_) | refine Cg _ (hsolve) ?_ | refine Cg _ (hon) ?_ | ((with_reducible first | refine Wo (fun K hK => ?_) | refine Wp ?_ | refine Wq ?_ | refine Wr ?_); (try simp only [go_sem, fN, seval, eT, iR, eqS, h0, Tm.nil, dT, dF, nL]); (repeat with_reducible refine Ai ?_); (try (refine hK _ ?_; clear hK K)); try with_reducible refine iC ?_))
    simp only [go_sem, fN, seval, FinQ, AS.result, resAll, resOne, tupV]
    try rfl
   ·refine ok_R_PrincipalOf.ac fun C hC => ?_
    unfold ir_R_PrincipalOf
    refine W ?_
    refine Wo (fun K hK => ?_)
    (try simp only [go_sem, fN, seval, eT, iR])
    (repeat with_reducible refine Ai ?_)
    refine hK _ ?_
    clear hK K
    refine W ?_
    refine W ?_
    refine Wo (fun K hK => ?_)
    (try simp only [go_sem, fN, seval, eT, iR])
    (repeat with_reducible refine Ai ?_)
    refine hK _ ?_
    clear hK K
    refine W ?_
    refine IWP.ghost (Ghost.ownCellA (id := 11) (r := 900) (e' := 91) 0 4 (by rfl) (by rfl) (by rfl) (by decide)) ?_
    repeat' (first | (with_reducible first | refine W ?_ | refine Z0 ?_) | ((with_reducible first | refine Wo (fun K hK => ?_) | refine Wp ?_ | refine Wq ?_ | refine Wr ?_); (try simp only [go_sem, fN, seval, eT, iR, dT, dF, nL]); (repeat with_reducible refine Ai ?_); (try (refine hK _ ?_; clear hK K)); try with_reducible refine iC ?_))
    refine ⟨_, _, acallsS_full (hR (a0 := up1 11) (r := up1 900) ⟨by decide, by decide, by decide, by rw [upS_up]; rfl, by rw [upS_up]; rfl⟩), ?_⟩
    repeat' (first | (with_reducible first | refine W ?_ | refine Z0 ?_) | refine Cg _ (hunify) ?_ | refine Cg _ (honR) ?_ | ((with_reducible first | refine Wo (fun K hK => ?_) | refine Wp ?_ | refine Wq ?_ | refine Wr ?_); (try simp only [go_sem, fN, seval, eT, iR, eqS, h0, Tm.nil, dT, dF, nL]); (repeat with_reducible refine Ai ?_); (try (refine hK _ ?_; clear hK K)); try with_reducible refine iC ?_))
    simp only [go_sem, fN, seval, FinQ, AS.result, resAll, resOne, tupV]
    try rfl
 ·refine ⟨.b 0, 11, ?_, .inr (.inr rfl), ?_, fun h => absurd h (by decide), by show 0 < 2001; omega, by show 1 ≤ 2000; omega, fun _ => rfl⟩
  ·refine ok_infer_Principal.ac fun C hC => ?_
   unfold ir_infer_Principal
   repeat' (first | (with_reducible first | refine W ?_ | refine Z0 ?_) | refine Cg _ (lCheck_a x.lm 0) ?_ | ((with_reducible first | refine Wo (fun K hK => ?_) | refine Wp ?_ | refine Wq ?_ | refine Wr ?_); (try simp only [go_sem, fN, seval, eT, iR, hm0, hp, dT, dF, nL]); (repeat with_reducible refine Ai ?_); (try (refine hK _ ?_; clear hK K)); try with_reducible refine iC ?_))
   refine ⟨_, pure_a x.lm hsz, ?_⟩
   iterate 7 (first | (with_reducible first | refine W ?_ | refine Z0 ?_) | ((with_reducible first | refine Wo (fun K hK => ?_) | refine Wp ?_ | refine Wq ?_ | refine Wr ?_); (try simp only [go_sem, fN, seval, eT, iR, hm0, hp, dT, dF, nL]); (repeat with_reducible refine Ai ?_); (try (refine hK _ ?_; clear hK K)); try with_reducible refine iC ?_))
   refine Wb ?_
   refine IWP.ghost (Ghost.ownCellA (id := 23) (r := 900) (e' := 91) 0 4 (by rfl) (by rfl) (by rfl) (by decide)) ?_
   repeat' (first | (with_reducible first | refine W ?_ | refine Z0 ?_) | ((with_reducible first | refine Wo (fun K hK => ?_) | refine Wp ?_ | refine Wq ?_ | refine Wr ?_); (try simp only [go_sem, fN, seval, eT, iR, dT, dF, nL]); (repeat with_reducible refine Ai ?_); (try (refine hK _ ?_; clear hK K)); try with_reducible refine iC ?_))
   refine ⟨_, _, acallsS_full (hP (a0 := up1 23) (r := up1 900) ⟨by decide, by decide, by decide, by rw [upS_up]; rfl, by rw [upS_up]; rfl⟩), ?_⟩
   repeat' (first | (with_reducible first | refine W ?_ | refine Z0 ?_) | refine Cg _ (hsolve) ?_ | ((with_reducible first | refine Wo (fun K hK => ?_) | refine Wp ?_ | refine Wq ?_ | refine Wr ?_); (try simp only [go_sem, fN, seval, eT, iR, eqS, h6, dT, dF, nL]); (repeat with_reducible refine Ai ?_); (try (refine hK _ ?_; clear hK K)); try with_reducible refine iC ?_))
   simp only [go_sem, fN, seval, FinQ, AS.result, resAll, resOne, tupV]
   try rfl
  ·refine ok_R_PrincipalOf.ac fun C hC => ?_
   unfold ir_R_PrincipalOf
   refine W ?_
   refine Wo (fun K hK => ?_)
   (try simp only [go_sem, fN, seval, eT, iR])
   (repeat with_reducible refine Ai ?_)
   refine hK _ ?_
   clear hK K
   refine W ?_
   refine W ?_
   refine Wo (fun K hK => ?_)
   (try simp only [go_sem, fN, seval, eT, iR])
   (repeat with_reducible refine Ai ?_)
   refine hK _ ?_
   clear hK K
   refine W ?_
   refine IWP.ghost (Ghost.ownCellA (id := 11) (r := 900) (e' := 91) 0 4 (by rfl) (by rfl) (by rfl) (by decide)) ?_
   repeat' (first | (with_reducible first | refine W ?_ | refine Z0 ?_) | ((with_reducible first | refine Wo (fun K hK => ?_) | refine Wp ?_ | refine Wq ?_ | refine Wr ?_); (try simp only [go_sem, fN, seval, eT, iR, dT, dF, nL]); (repeat with_reducible refine Ai ?_); (try (refine hK _ ?_; clear hK K)); try with_reducible refine iC ?_))
   refine ⟨_, _, acallsS_full (hR (a0 := up1 11) (r := up1 900) ⟨by decide, by decide, by decide, by rw [upS_up]; rfl, by rw [upS_up]; rfl⟩), ?_⟩
   repeat' (first | (with_reducible first | refine W ?_ | refine Z0 ?_) | refine Cg _ (hunify) ?_ | ((with_reducible first | refine Wo (fun K hK => ?_) | refine Wp ?_ | refine Wq ?_ | refine Wr ?_); (try simp only [go_sem, fN, seval, eT, iR, eqS, h6, dT, dF, nL]); (repeat with_reducible refine Ai ?_); (try (refine hK _ ?_; clear hK K)); try with_reducible refine iC ?_))
   simp only [go_sem, fN, seval, FinQ, AS.result, resAll, resOne, tupV]
   try rfl
 ·refine ⟨.b 0, 8, ?_, .inr (.inl rfl), ?_, fun h => absurd h (by decide), by show 0 < 2001; omega, by show 1 ≤ 2000; omega, fun _ => rfl⟩
  ·refine ok_infer_Principal.ac fun C hC => ?_
   unfold ir_infer_Principal
   repeat' (first | (with_reducible first | refine W ?_ | refine Z0 ?_) | refine Cg _ (lCheck_a x.lm 0) ?_ | ((with_reducible first | refine Wo (fun K hK => ?_) | refine Wp ?_ | refine Wq ?_ | refine Wr ?_); (try simp only [go_sem, fN, seval, eT, iR, hm0, hp, dT, dF, nL]); (repeat with_reducible refine Ai ?_); (try (refine hK _ ?_; clear hK K)); try with_reducible refine iC ?_))
   refine ⟨_, pure_a x.lm hsz, ?_⟩
   iterate 7 (first | (with_reducible first | refine W ?_ | refine Z0 ?_) | ((with_reducible first | refine Wo (fun K hK => ?_) | refine Wp ?_ | refine Wq ?_ | refine Wr ?_); (try simp only [go_sem, fN, seval, eT, iR, hm0, hp, dT, dF, nL]); (repeat with_reducible refine Ai ?_); (try (refine hK _ ?_; clear hK K)); try with_reducible refine iC ?_))
   refine Wb ?_
   refine IWP.ghost (Ghost.ownCellA (id := 23) (r := 900) (e' := 91) 0 4 (by rfl) (by rfl) (by rfl) (by decide)) ?_
   repeat' (first | (with_reducible first | refine W ?_ | refine Z0 ?_) | ((with_reducible first | refine Wo (fun K hK => ?_) | refine Wp ?_ | refine Wq ?_ | refine Wr ?_); (try simp only [go_sem, fN, seval, eT, iR, dT, dF, nL]); (repeat with_reducible refine Ai ?_); (try (refine hK _ ?_; clear hK K)); try with_reducible refine iC ?_))
   refine ⟨_, _, acallsS_full (hP (a0 := up1 23) (r := up1 900) ⟨by decide, by decide, by decide, by rw [upS_up]; rfl, by rw [upS_up]; rfl⟩), ?_⟩
   repeat' (first | (with_reducible first | refine W ?_ | refine Z0 ?_) | refine Cg _ (hsolve) ?_ | ((with_reducible first | refine Wo (fun K hK => ?_) | refine Wp ?_ | refine Wq ?_ | refine Wr ?_); (try simp only [go_sem, fN, seval, eT, iR, eqS, h8, dT, dF, nL]); (repeat with_reducible refine Ai ?_); (try (refine hK _ ?_; clear hK K)); try with_reducible refine iC ?_))
   simp only [go_sem, fN, seval, FinQ, AS.result, resAll, resOne, tupV]
   try rfl
  ·refine ok_R_PrincipalOf.ac fun C hC => ?_
   unfold ir_R_PrincipalOf
   refine W ?_
   refine Wo (fun K hK => ?_)
   (try simp only [go_sem, fN, seval, eT, iR])
   (repeat with_reducible refine Ai ?_)
   refine hK _ ?_
   clear hK K
   refine W ?_
   refine W ?_
   refine Wo (fun K hK => ?_)
   (try simp only [go_sem, fN, seval, eT, iR])
   (repeat with_reducible refine Ai ?_)
   refine hK _ ?_
   clear hK K
   refine W ?_
   refine IWP.ghost (Ghost.ownCellA (id := 11) (r := 900) (e' := 91) 0 4 (by rfl) (by rfl) (by rfl) (by decide)) ?_
   repeat' (first | (with_reducible first | refine W ?_ | refine Z0 ?_) | ((with_reducible first | refine Wo (fun K hK => ?_) | refine Wp ?_ | refine Wq ?_ | refine Wr ?_); (try simp only [go_sem, fN, seval, eT, iR, dT, dF, nL]); (repeat with_reducible refine Ai ?_); (try (refine hK _ ?_; clear hK K)); try with_reducible refine iC ?_))
   refine ⟨_, _, acallsS_full (hR (a0 := up1 11) (r := up1 900) ⟨by decide, by decide, by decide, by rw [upS_up]; rfl, by rw [upS_up]; rfl⟩), ?_⟩
   repeat' (first | (with_reducible first | refine W ?_ | refine Z0 ?_) | refine Cg _ (hunify) ?_ | ((with_reducible first | refine Wo (fun K hK => ?_) | refine Wp ?_ | refine Wq ?_ | refine Wr ?_); (try simp only [go_sem, fN, seval, eT, iR, eqS, h8, dT, dF, nL]); (repeat with_reducible refine Ai ?_); (try (refine hK _ ?_; clear hK K)); try with_reducible refine iC ?_))
   simp only [go_sem, fN, seval, FinQ, AS.result, resAll, resOne, tupV]
   try rfl

theorem prin_all (t : Lm) : ∃ (b : BT) (e : Int), PrinC t b e ∧ b.low 2001 ∧ b.sz ≤ 2000 ∧ (e ≠ 0 → b = .b 0) := by
 by_cases h : t.may 0 0 = 0
 ·obtain ⟨_, _, h3, h4⟩ := Lm.may_ok h
  cases hp : t.pure with
  | false => exact ⟨.b 0, 15, prin_open h hp, by show 0 < 2001; omega, by show 1 ≤ 2000; omega, fun _ => rfl⟩
  | true =>
   obtain ⟨x, rfl, hc⟩ := ul_of (u := 0) h4 hp
   exact prin_yes x hc (by rw [← UL.size_lm]; exact h3) h hp
 ·exact ⟨.b 0, _, prin_no h, by show 0 < 2001; omega, by show 1 ≤ 2000; omega, fun _ => rfl⟩
def hasV (m : Int) (y b : BT) (e : Int) : Bool × Int := if m ≠ 0 then (false, m) else if e = 11 then (false, 0) else if e ≠ 0 then (false, e) else (isCaseB b y, 0)
theorem has_no {t : Lm} {ty : Ty} (h : ty.may ≠ 0) : ACalls Tryz.prog 37 [aLm t, aTy ty] (.tup [aBool false, aInt ty.may]) := by
 refine ok_infer_Has.ac fun C hC => ?_
 unfold ir_infer_Has
 repeat' (first | (with_reducible first | refine W ?_ | refine Z0 ?_) | refine Cg _ (yCheck_a ty) ?_ | ((with_reducible first | refine Wo (fun K hK => ?_) | refine Wp ?_ | refine Wq ?_ | refine Wr ?_); (try simp only [go_sem, fN, seval, eT, iR, h, dT, dF, nL]); (repeat with_reducible refine Ai ?_); (try (refine hK _ ?_; clear hK K)); try with_reducible refine iC ?_))
 simp only [go_sem, fN, seval, FinQ, AS.result, resAll, resOne, tupV, h]
theorem has_yes {t : Lm} {y b : BT} {e : Int} (hP : PrinC t b e) (h1 : b.low 2001) (h2 : b.sz ≤ 2000) (hy : y.ty.may = 0) (h3 : y.low 1000) (h4 : y.sz ≤ 200) : ACalls Tryz.prog 37 [aLm t, aTy y.ty] (.tup [aBool (hasV 0 y b e).1, aInt (hasV 0 y b e).2]) := by
 have hpr := hP.1
 unfold hasV
 refine ok_infer_Has.ac fun C hC => ?_
 unfold ir_infer_Has
 by_cases he : e = 11
 ·repeat' (first | (with_reducible first | refine W ?_ | refine Z0 ?_) | refine Cg _ (yCheck_a y.ty) ?_ | refine Cg _ (hpr) ?_ | ((with_reducible first | refine Wo (fun K hK => ?_) | refine Wp ?_ | refine Wq ?_ | refine Wr ?_); (try simp only [go_sem, fN, seval, eT, iR, hy, he, dT, dF, nL]); (repeat with_reducible refine Ai ?_); (try (refine hK _ ?_; clear hK K)); try with_reducible refine iC ?_))
  simp only [go_sem, fN, seval, FinQ, AS.result, resAll, resOne, tupV, he]
  try simp
 by_cases h0 : e = 0
 ·have hc := case_a (b.tm 80) (y.tm 81) (by rw [BT.tm_size]; omega) (by rw [BT.tm_size]; omega)
  rw [isCase_bt] at hc
  subst h0
  repeat' (first | (with_reducible first | refine W ?_ | refine Z0 ?_) | refine Cg _ (yCheck_a y.ty) ?_ | refine Cg _ (hpr) ?_ | refine Cg _ (as_a 80 b (BT.low_le (by decide) h1)) ?_ | refine Cg _ (as_a 81 y (BT.low_le (by decide) h3)) ?_ | refine Cg _ (hc) ?_ | ((with_reducible first | refine Wo (fun K hK => ?_) | refine Wp ?_ | refine Wq ?_ | refine Wr ?_); (try simp only [go_sem, fN, seval, eT, iR, hy, dT, dF, nL]); (repeat with_reducible refine Ai ?_); (try (refine hK _ ?_; clear hK K)); try with_reducible refine iC ?_))
  simp only [go_sem, fN, seval, FinQ, AS.result, resAll, resOne, tupV]
  try simp
 ·repeat' (first | (with_reducible first | refine W ?_ | refine Z0 ?_) | refine Cg _ (yCheck_a y.ty) ?_ | refine Cg _ (hpr) ?_ | ((with_reducible first | refine Wo (fun K hK => ?_) | refine Wp ?_ | refine Wq ?_ | refine Wr ?_); (try simp only [go_sem, fN, seval, eT, iR, hy, he, h0, dT, dF, nL]); (repeat with_reducible refine Ai ?_); (try (refine hK _ ?_; clear hK K)); try with_reducible refine iC ?_))
  simp only [go_sem, fN, seval, FinQ, AS.result, resAll, resOne, tupV, he, h0]
  try simp [he, h0]
theorem BT.chk_ty : ∀ {x : BT}, x.low 1000 → x.ty.chk = 0
 | .b n, h => by
  have h : n < 1000 := h
  rw [BT.ty, Ty.chk, if_pos (.inl rfl), if_pos (by omega)]
  rfl
 | .a x y, h => by
  rw [BT.ty, Ty.chk, if_pos (.inr ⟨rfl, rfl⟩), if_pos (by omega)]
  simp only [Ty.chks, BT.chk_ty h.1, BT.chk_ty h.2, if_true]
theorem ty_cases (ty : Ty) : ty.may ≠ 0 ∨ ∃ y : BT, ty = y.ty ∧ y.low 1000 ∧ y.sz ≤ 200 := by
 by_cases h : ty.may = 0
 ·right
  unfold Ty.may at h
  split at h
  ·cases h
  ·obtain ⟨y, rfl, hl⟩ := bt_of h
   exact ⟨y, rfl, hl, by rw [← BT.size_ty]; omega⟩
 ·exact .inl h

set_option maxRecDepth 100000


def ir_R_Pick : IR :=
 (.seq (.ops [.i 4 (.mov (.n 0))]) (.seq (.seq (.ops [.m 5 0, .i 6 (.bin .lss (.t 5) (.n 0))]) (.cond (.t 6) (.ops [.m 7 0, .i 8 (.bin .add (.t 7) (.n 1)), .i 9 (.un .neg (.t 8)), .m 0 9]) .skip)) (.seq (.ops [.m 10 0, .m 11 1, .i 12 (.bin .rem (.t 10) (.t 11)), .m 4 12]) .ret)))
theorem ok_R_Pick : OkF Tryz.prog 19 13 [] ir_R_Pick [.t 4] := .of Tryz.func19 rfl rfl (by kernel_rfl) rfl
def ir_R_Raw : IR :=
 (.seq (.ops [.i 4 (.mov (.n 0))]) (.seq (.seq (.ops [.m 5 0, .i 6 (.len false (.t 5)), .i 7 (.bin .eql (.t 6) (.n 0))]) (.cond (.t 7) (.seq (.ops [.m 8 1, .i 9 (.bin .mul (.t 8) (.n 31)), .m 4 9]) .ret) .skip)) (.seq (.ops [.m 10 0, .m 11 1, .m 12 0, .i 13 (.len false (.t 12)), .i 14 (.bin .rem (.t 11) (.t 13)), .i 15 (.indexAddr 1 (.t 10) (.t 14)), .l 16 15, .i 17 (.call 19 [.t 16, .n 1000003]), .m 18 1, .m 19 0, .i 20 (.len false (.t 19)), .i 21 (.bin .quo (.t 18) (.t 20)), .i 22 (.bin .mul (.t 21) (.n 7919)), .i 23 (.bin .add (.t 17) (.t 22)), .m 4 23]) .ret)))
theorem ok_R_Raw : OkF Tryz.prog 43 24 [] ir_R_Raw [.t 4] := .of Tryz.func43 rfl rfl (by kernel_rfl) rfl

def pickI (c n : Int) : Int := (if c < 0 then -(c + 1) else c) % n
theorem pickI_range (c n : Int) (hn : 1 ≤ n) : 0 ≤ pickI c n ∧ pickI c n < n := ⟨Int.emod_nonneg _ (by omega), Int.emod_lt_of_pos _ (by omega)⟩
theorem tmod_range {x n : Int} (hx : 0 ≤ x) (hn : 1 ≤ n) : x.tmod n = x % n ∧ 0 ≤ x % n ∧ x % n < n ∧ x % n ≤ x := by
 rw [Int.tmod_eq_emod_of_nonneg hx]
 refine ⟨rfl, Int.emod_nonneg _ (by omega), Int.emod_lt_of_pos _ (by omega), ?_⟩
 by_cases h : x < n
 ·rw [Int.emod_eq_of_lt hx h]; exact Int.le_refl _
 ·have := Int.emod_lt_of_pos x (show 0 < n by omega); omega
theorem tdiv_range {x n : Int} (hx : 0 ≤ x) (hn : 1 ≤ n) : x.tdiv n = x / n ∧ 0 ≤ x / n ∧ x / n ≤ x := by
 rw [Int.tdiv_eq_ediv_of_nonneg hx]
 exact ⟨rfl, Int.ediv_nonneg hx (by omega), Int.ediv_le_self _ hx⟩
theorem pick_a (c n : Int) (hc : inR .i64 c) (hn : 1 ≤ n) : ACalls Tryz.prog 19 [aInt c, aInt n] (aInt (pickI c n)) := by
 rw [inR_i64] at hc
 refine ok_R_Pick.ac fun C hC => ?_
 unfold ir_R_Pick
 repeat' (first | (with_reducible first | refine W ?_ | refine Z0 ?_) | ((with_reducible first | refine Wo (fun K hK => ?_) | refine Wq ?_ | refine Wr ?_); (try simp only [go_sem, fN, seval, eT, iR]); (repeat with_reducible refine Ai ?_); (try (refine hK _ ?_; clear hK K))))
 with_reducible refine Wp ?_
 simp only [go_sem, fN, seval, true_implies, false_implies, implies_true, dT, dF, nL]
 (try with_reducible refine iC ?_)
 refine ⟨fun h0 => ?_, fun h0 => ?_⟩
 ·have h1 := tmod_range (x := 0 - (c + 1)) (n := n) (by omega) hn
  repeat' (first | (with_reducible first | refine W ?_ | refine Z0 ?_) | ((with_reducible first | refine Wo (fun K hK => ?_) | refine Wq ?_ | refine Wr ?_); (try simp only [go_sem, fN, seval, eT, iR, h1.1]); (repeat with_reducible refine Ai ?_); (try (refine hK _ ?_; clear hK K))))
  simp only [go_sem, fN, seval, FinQ, AS.result, resAll, resOne, tupV]
  unfold pickI
  rw [if_pos h0]
  congr 5
  omega
 ·have h1 := tmod_range (x := c) (n := n) (by omega) hn
  repeat' (first | (with_reducible first | refine W ?_ | refine Z0 ?_) | ((with_reducible first | refine Wo (fun K hK => ?_) | refine Wq ?_ | refine Wr ?_); (try simp only [go_sem, fN, seval, eT, iR, h1.1]); (repeat with_reducible refine Ai ?_); (try (refine hK _ ?_; clear hK K))))
  simp only [go_sem, fN, seval, FinQ, AS.result, resAll, resOne, tupV]
  unfold pickI
  rw [if_neg h0]
def rawI (l : List Int) (i : Nat) : Int := if l.length = 0 then i * 31 else pickI (l.getD (i % l.length) 0) 1000003 + ((i / l.length : Nat) : Int) * 7919
theorem rawI_range (l : List Int) (i : Nat) : 0 ≤ rawI l i ∧ rawI l i ≤ 1000003 + i * 7919 := by
 unfold rawI
 split
 ·omega
 ·have := pickI_range (l.getD (i % l.length) 0) 1000003 (by omega)
  have h2 : i / l.length ≤ i := Nat.div_le_self _ _
  generalize i / l.length = q at *
  omega
theorem raw_a (l : List Int) (i : Nat) (hi : i ≤ 1000000) (hl : ∀ n ∈ l, inR .i64 n) (hm : l.length ≤ maxLen) : ACalls Tryz.prog 43 [aInts l, aInt i] (aInt (rawI l i)) := by
 rw [maxLen_eq] at hm
 refine ok_R_Raw.ac fun C hC => ?_
 unfold ir_R_Raw
 repeat' (first | (with_reducible first | refine W ?_ | refine Z0 ?_) | ((with_reducible first | refine Wo (fun K hK => ?_) | refine Wq ?_ | refine Wr ?_); (try simp only [go_sem, fN, seval, eT, iR]); (repeat with_reducible refine Ai ?_); (try (refine hK _ ?_; clear hK K))))
 with_reducible refine Wp ?_
 simp only [go_sem, fN, seval, true_implies, false_implies, implies_true, dT, dF, nL]
 (try with_reducible refine iC ?_)
 refine ⟨fun h0 => ?_, fun h0 => ?_⟩
 ·repeat' (first | (with_reducible first | refine W ?_ | refine Z0 ?_) | ((with_reducible first | refine Wo (fun K hK => ?_) | refine Wq ?_ | refine Wr ?_); (try simp only [go_sem, fN, seval, eT, iR]); (repeat with_reducible refine Ai ?_); (try (refine hK _ ?_; clear hK K))))
  simp only [go_sem, fN, seval, FinQ, AS.result, resAll, resOne, tupV]
  unfold rawI
  rw [if_pos (by omega)]
 ·have h1 := tmod_range (x := (i : Int)) (n := (l.length : Int)) (by omega) (by omega)
  have h2 := tdiv_range (x := (i : Int)) (n := (l.length : Int)) (by omega) (by omega)
  have hlt : i % l.length < l.length := Nat.mod_lt _ (by omega)
  obtain ⟨a, ha⟩ := get_lt hlt
  have e1 : ((i : Int) % (l.length : Int)) = ((i % l.length : Nat) : Int) := by omega
  have e2 : ((i : Int) / (l.length : Int)) = ((i / l.length : Nat) : Int) := by omega
  have h3 : i / l.length ≤ i := Nat.div_le_self _ _
  repeat' (first | (with_reducible first | refine W ?_ | refine Z0 ?_) | ((with_reducible first | refine Wo (fun K hK => ?_) | refine Wq ?_ | refine Wr ?_); (try simp only [go_sem, fN, seval, eT, iR, h1.1, h2.1, e1, e2, ha]); (repeat with_reducible refine Ai ?_); (try (refine hK _ ?_; clear hK K))))
  refine ⟨_, pick_a a 1000003 (hl a (mem_of_get ha)) (by omega), ?_⟩
  have hp := pickI_range a 1000003 (by omega)
  repeat' (first | (with_reducible first | refine W ?_ | refine Z0 ?_) | ((with_reducible first | refine Wo (fun K hK => ?_) | refine Wq ?_ | refine Wr ?_); (try simp only [go_sem, fN, seval, eT, iR, h1.1, h2.1, e1, e2]); (repeat with_reducible refine Ai ?_); (try (refine hK _ ?_; clear hK K))))
  simp only [go_sem, fN, seval, FinQ, AS.result, resAll, resOne, tupV]
  unfold rawI
  rw [if_neg (by omega), List.getD_eq_getElem?_getD, ha]
  rfl

set_option maxHeartbeats 4000000
theorem acallsS_full4 {P : Program} {f : FuncId} {x y z : AV} {S : AStore} {r : AV} {S' : AStore} {xs : List (List SV)} (h : ACallsS P f [x, y, z, .one (.st (.list xs))] S r S') : ACallsS P f [x, y, z, .one (.full xs)] S r S' := by
 intro hc σ w vs ι hg hf ho hv
 refine h hc σ w vs ι hg hf ho ?_
 cases hv with
 | cons h1 hv =>
 cases hv with
 | cons h2 hv =>
 cases hv with
 | cons h3 hv =>
 cases hv with
 | cons h4 hv =>
 cases h4 with
 | one h4 =>
 cases h4 with
 | full h4 => exact .cons h1 (.cons h2 (.cons h3 (.cons (.one (.st h4)) hv)))
abbrev aRes (x : Lm) (e : Int) : AV := .tup [aLm x, aInt e]
theorem lLong_no {t : Lm} {ty : Ty} {ok : Bool} {e : Int} (most : Int) (h : ACalls Tryz.prog 37 [aLm t, aTy ty] (.tup [aBool ok, aInt e])) (he : e ≠ 0) : ACalls Tryz.prog 15 [aLm t, aTy ty, aInt most] (aRes Lm.nil e) := by
 refine ok_long_Long.ac fun C hC => ?_
 unfold ir_long_Long
 repeat' (first | (with_reducible first | refine W ?_ | refine Z0 ?_) | refine Cg _ (h) ?_ | ((with_reducible first | refine Wo (fun K hK => ?_) | refine Wp ?_ | refine Wq ?_ | refine Wr ?_); (try simp only [go_sem, fN, seval, eT, iR, he, dT, dF, nL]); (repeat with_reducible refine Ai ?_); (try (refine hK _ ?_; clear hK K)); try with_reducible refine iC ?_))
 simp only [go_sem, fN, seval, FinQ, AS.result, resAll, resOne, tupV]
 try rfl
theorem lLong_not {t : Lm} {ty : Ty} (most : Int) (h : ACalls Tryz.prog 37 [aLm t, aTy ty] (.tup [aBool false, aInt 0])) : ACalls Tryz.prog 15 [aLm t, aTy ty, aInt most] (aRes Lm.nil 11) := by
 refine ok_long_Long.ac fun C hC => ?_
 unfold ir_long_Long
 repeat' (first | (with_reducible first | refine W ?_ | refine Z0 ?_) | refine Cg _ (h) ?_ | ((with_reducible first | refine Wo (fun K hK => ?_) | refine Wp ?_ | refine Wq ?_ | refine Wr ?_); (try simp only [go_sem, fN, seval, eT, iR, dT, dF, nL]); (repeat with_reducible refine Ai ?_); (try (refine hK _ ?_; clear hK K)); try with_reducible refine iC ?_))
 simp only [go_sem, fN, seval, FinQ, AS.result, resAll, resOne, tupV]
 try rfl
theorem lLong_run {t : Lm} {ty : Ty} {most : Int} (h : ACalls Tryz.prog 37 [aLm t, aTy ty] (.tup [aBool true, aInt 0])) (hN : (normalR t 0 most).2.2 ≠ 0) : ACalls Tryz.prog 15 [aLm t, aTy ty, aInt most] (aRes Lm.nil (normalR t 0 most).2.2) := by
 have hn := lNormal_a t 0 most
 generalize normalR t 0 most = r at *
 refine ok_long_Long.ac fun C hC => ?_
 unfold ir_long_Long
 repeat' (first | (with_reducible first | refine W ?_ | refine Z0 ?_) | refine Cg _ (h) ?_ | refine Cg _ (hn) ?_ | ((with_reducible first | refine Wo (fun K hK => ?_) | refine Wp ?_ | refine Wq ?_ | refine Wr ?_); (try simp only [go_sem, fN, seval, eT, iR, hN, dT, dF, nL]); (repeat with_reducible refine Ai ?_); (try (refine hK _ ?_; clear hK K)); try with_reducible refine iC ?_))
 simp only [go_sem, fN, seval, FinQ, AS.result, resAll, resOne, tupV]
 try rfl
theorem lLong_of {t u o : Lm} {b : BT} {most k : Int} {n d : Nat} (h : ACalls Tryz.prog 37 [aLm t, aTy b.ty] (.tup [aBool true, aInt 0])) (hN : normalR t 0 most = (u, k, 0)) (hL : LR true [] u b o n d) (R : Room u [] 2000 1000000 d) (ho : o.good 1000000) :
  ACalls Tryz.prog 15 [aLm t, aTy b.ty, aInt most] (aRes (if (n : Int) ≤ 2000 then o else Lm.nil) (if (n : Int) ≤ 2000 then 0 else 8)) := by
 have hn := lNormal_a t 0 most
 rw [hN] at hn
 obtain ⟨x, m, hc, V, hx⟩ := (longP hL 2000 1000000 R).1 rfl
 by_cases h2 : (n : Int) ≤ 2000
 ·have hm := V.yes h2
  have hm0 : ¬ m < 0 := by omega
  have hxo := hx h2
  subst hxo
  have hsz := hL.size
  have hcp := lCopy_a x (Lm.good_mono (by decide) x ho) (by omega)
  rw [if_pos h2, if_pos h2]
  refine ok_long_Long.ac fun C hC => ?_
  unfold ir_long_Long
  repeat' (first | (with_reducible first | refine W ?_ | refine Z0 ?_) | refine Cg _ (h) ?_ | refine Cg _ (hn) ?_ | ((with_reducible first | refine Wo (fun K hK => ?_) | refine Wp ?_ | refine Wq ?_ | refine Wr ?_); (try simp only [go_sem, fN, seval, eT, iR, dT, dF, nL]); (repeat with_reducible refine Ai ?_); (try (refine hK _ ?_; clear hK K)); try with_reducible refine iC ?_))
  refine ⟨_, _, acallsS_full4 (hc (up1 42) _ (up1_le 42) (by rw [upS_up]; simp only [go_sem, fN, seval, eT, iR]; try rfl)), ?_⟩
  repeat' (first | (with_reducible first | refine W ?_ | refine Z0 ?_) | refine Cg _ (hcp) ?_ | ((with_reducible first | refine Wo (fun K hK => ?_) | refine Wp ?_ | refine Wq ?_ | refine Wr ?_); (try simp only [go_sem, fN, seval, eT, iR, hm0, dT, dF, nL]); (repeat with_reducible refine Ai ?_); (try (refine hK _ ?_; clear hK K)); try with_reducible refine iC ?_))
  simp only [go_sem, fN, seval, FinQ, AS.result, resAll, resOne, tupV]
 ·have hm0 : m < 0 := V.no (by omega)
  rw [if_neg h2, if_neg h2]
  refine ok_long_Long.ac fun C hC => ?_
  unfold ir_long_Long
  repeat' (first | (with_reducible first | refine W ?_ | refine Z0 ?_) | refine Cg _ (h) ?_ | refine Cg _ (hn) ?_ | ((with_reducible first | refine Wo (fun K hK => ?_) | refine Wp ?_ | refine Wq ?_ | refine Wr ?_); (try simp only [go_sem, fN, seval, eT, iR, dT, dF, nL]); (repeat with_reducible refine Ai ?_); (try (refine hK _ ?_; clear hK K)); try with_reducible refine iC ?_))
  refine ⟨_, _, acallsS_full4 (hc (up1 42) _ (up1_le 42) (by rw [upS_up]; simp only [go_sem, fN, seval, eT, iR]; try rfl)), ?_⟩
  repeat' (first | (with_reducible first | refine W ?_ | refine Z0 ?_) | ((with_reducible first | refine Wo (fun K hK => ?_) | refine Wp ?_ | refine Wq ?_ | refine Wr ?_); (try simp only [go_sem, fN, seval, eT, iR, hm0, dT, dF, nL]); (repeat with_reducible refine Ai ?_); (try (refine hK _ ?_; clear hK K)); try with_reducible refine iC ?_))
  simp only [go_sem, fN, seval, FinQ, AS.result, resAll, resOne, tupV]
  try rfl
theorem lAlike_a {t x : Lm} {ty : Ty} {most e : Int} (h : ACalls Tryz.prog 15 [aLm t, aTy ty, aInt most] (aRes x e)) : ACalls Tryz.prog 16 [aLm t, aLm t, aTy ty, aInt most] (.tup [aBool (decide (e = 0)), aInt e]) := by
 have hs := lsame_a x x
 rw [Lm.same_self] at hs
 by_cases he : e = 0
 ·subst he
  refine ok_long_Alike.ac fun C hC => ?_
  unfold ir_long_Alike
  repeat' (first | (with_reducible first | refine W ?_ | refine Z0 ?_) | refine Cg _ (h) ?_ | refine Cg _ (hs) ?_ | ((with_reducible first | refine Wo (fun K hK => ?_) | refine Wp ?_ | refine Wq ?_ | refine Wr ?_); (try simp only [go_sem, fN, seval, eT, iR, dT, dF, nL]); (repeat with_reducible refine Ai ?_); (try (refine hK _ ?_; clear hK K)); try with_reducible refine iC ?_))
  simp only [go_sem, fN, seval, FinQ, AS.result, resAll, resOne, tupV]
 ·refine ok_long_Alike.ac fun C hC => ?_
  unfold ir_long_Alike
  repeat' (first | (with_reducible first | refine W ?_ | refine Z0 ?_) | refine Cg _ (h) ?_ | ((with_reducible first | refine Wo (fun K hK => ?_) | refine Wp ?_ | refine Wq ?_ | refine Wr ?_); (try simp only [go_sem, fN, seval, eT, iR, he, dT, dF, nL]); (repeat with_reducible refine Ai ?_); (try (refine hK _ ?_; clear hK K)); try with_reducible refine iC ?_))
  simp only [go_sem, fN, seval, FinQ, AS.result, resAll, resOne, tupV, he]
  try simp
theorem LR.good {w : Bool} {G : List BT} {t o : Lm} {b : BT} {n d : Nat} (h : LR w G t b o n d) : o.good ((G.length : Int) + d) := by
 induction h with
 | @lam G t o a b n d h ih =>
  rw [List.length_cons] at ih
  exact ⟨fun e => absurd e (by decide), by decide, by omega, Lm.good_mono (by omega) _ ih, trivial⟩
 | @eta G t o a b n d hk h ih =>
  rw [List.length_cons] at ih
  exact ⟨fun e => absurd e (by decide), by decide, by omega, Lm.good_mono (by omega) _ ih, trivial⟩
 | base h ih => exact ih
 | @v G i b h =>
  have hi := (List.getElem?_eq_some_iff.1 h).1
  exact ⟨fun _ => rfl, by omega, by omega, trivial⟩
 | a h1 h2 l1 l2 ih1 ih2 => exact ⟨fun e => absurd e (by decide), by decide, by omega, Lm.good_mono (by omega) _ ih1, Lm.good_mono (by omega) _ ih2, trivial⟩
theorem normalR_far {t : Lm} {most : Int} (h : t.may 0 0 = 0) (hm : most < 0 ∨ 400 < most) : normalR t 0 most = (Lm.nil, 0, 3) := by
 have e : argsErr t 0 most = 3 := by unfold argsErr; rw [if_pos h, if_pos hm]
 unfold normalR
 rw [e, if_neg (by decide)]
theorem normalR_near {t : Lm} {m : Nat} (h : t.may 0 0 = 0) (hm : m ≤ 400) : normalR t 0 m = Lm.run m 0 t := by
 have e : argsErr t 0 m = 0 := by unfold argsErr; rw [if_pos h, if_neg (by omega)]
 unfold normalR
 rw [if_pos e, Int.toNat_natCast]
theorem longSays_a (t : Lm) (ty : Ty) (most : Int) : ACalls Tryz.prog 3 [aLm t, aTy ty, aInt most] (aBool true) := by
 by_cases hz1 : 3000 < t.size
 ·refine ok_L_LongSays.ac fun C hC => ?_
  unfold ir_L_LongSays
  repeat' (first | (with_reducible first | refine W ?_ | refine Z0 ?_) | refine Cg _ (hugeLam_a t) ?_ | ((with_reducible first | refine Wo (fun K hK => ?_) | refine Wp ?_ | refine Wq ?_ | refine Wr ?_); (try simp only [go_sem, fN, seval, eT, iR, hz1, dT, dF, nL]); (repeat with_reducible refine Ai ?_); (try (refine hK _ ?_; clear hK K)); try with_reducible refine iC ?_))
  simp only [go_sem, fN, seval, FinQ, AS.result, resAll, resOne, tupV]
 by_cases hz2 : 3000 < ty.size
 ·refine ok_L_LongSays.ac fun C hC => ?_
  unfold ir_L_LongSays
  repeat' (first | (with_reducible first | refine W ?_ | refine Z0 ?_) | refine Cg _ (hugeLam_a t) ?_ | refine Cg _ (hugeType_a ty) ?_ | ((with_reducible first | refine Wo (fun K hK => ?_) | refine Wp ?_ | refine Wq ?_ | refine Wr ?_); (try simp only [go_sem, fN, seval, eT, iR, hz1, hz2, dT, dF, nL]); (repeat with_reducible refine Ai ?_); (try (refine hK _ ?_; clear hK K)); try with_reducible refine iC ?_))
  simp only [go_sem, fN, seval, FinQ, AS.result, resAll, resOne, tupV]
 have hq : (30 < most ∧ most ≤ 400) ∨ ¬ 30 < most ∨ (30 < most ∧ ¬ most ≤ 400) := by omega
 rcases hq with ⟨q1, q2⟩ | hq
 ·refine ok_L_LongSays.ac fun C hC => ?_
  unfold ir_L_LongSays
  repeat' (first | (with_reducible first | refine W ?_ | refine Z0 ?_) | refine Cg _ (hugeLam_a t) ?_ | refine Cg _ (hugeType_a ty) ?_ | ((with_reducible first | refine Wo (fun K hK => ?_) | refine Wp ?_ | refine Wq ?_ | refine Wr ?_); (try simp only [go_sem, fN, seval, eT, iR, hz1, hz2, q1, q2, dT, dF, nL]); (repeat with_reducible refine Ai ?_); (try (refine hK _ ?_; clear hK K)); try with_reducible refine iC ?_))
  simp only [go_sem, fN, seval, FinQ, AS.result, resAll, resOne, tupV]
 obtain ⟨b, e, hP, hb1, hb2, hb3⟩ := prin_all t
 have hpr := hP.1
 obtain ⟨_, hA, hB, hD⟩ := id hP
 rcases ty_cases ty with hy | ⟨y, rfl, hy1, hy2⟩
 ·have hL := lLong_no most (has_no (t := t) hy) hy
  have hAl := lAlike_a hL
  have h2 := lam2_a Lm.nil Lm.nil ty.may (Or.inl ⟨hy, rfl⟩)
  rcases hq with q1 | ⟨q1, q2⟩
  case' inl => have q2 := q1
  all_goals
   refine ok_L_LongSays.ac fun C hC => ?_
   unfold ir_L_LongSays
   repeat' (first | (with_reducible first | refine W ?_ | refine Z0 ?_) | refine Cg _ (hugeLam_a t) ?_ | refine Cg _ (hugeType_a ty) ?_ | refine Cg _ (yMayR_a ty) ?_ | refine Cg _ (hL) ?_ | refine Cg _ (hAl) ?_ | refine Cg _ (h2) ?_ | ((with_reducible first | refine Wo (fun K hK => ?_) | refine Wp ?_ | refine Wq ?_ | refine Wr ?_); (try simp only [go_sem, fN, seval, eT, iR, hz1, hz2, hy, q1, q2, dT, dF, nL]); (repeat with_reducible refine Ai ?_); (try (refine hK _ ?_; clear hK K)); try with_reducible refine iC ?_))
   simp only [go_sem, fN, seval, FinQ, AS.result, resAll, resOne, tupV, hy]
   try simp [hy]
 by_cases hy : y.ty.may = 0
 case neg =>
  exact absurd (by
   unfold Ty.may
   rw [BT.size_ty, if_neg (by omega)]
   exact BT.chk_ty hy1) hy
 have hhas := has_yes (y := y) (t := t) (b := b) (e := e) hP hb1 hb2 hy hy1 hy2
 have hcas := caseOfType_a b y hb1
 by_cases hm : t.may 0 0 = 0
 case neg =>
  have he := hA hm
  subst he
  have hL : ACalls Tryz.prog 15 [aLm t, aTy y.ty, aInt most] (aRes Lm.nil (t.may 0 0)) := by
   by_cases h11 : t.may 0 0 = 11
   ·rw [h11] at hhas ⊢
    exact lLong_not most hhas
   ·have hv : hasV 0 y b (t.may 0 0) = (false, t.may 0 0) := by unfold hasV; rw [if_neg (by simp), if_neg h11, if_pos hm]
    rw [hv] at hhas
    exact lLong_no most hhas hm
  have hAl := lAlike_a hL
  have h2 := lam2_a Lm.nil Lm.nil (t.may 0 0) (Or.inl ⟨hm, rfl⟩)
  rcases hq with q1 | ⟨q1, q2⟩
  case' inl => have q2 := q1
  all_goals
   refine ok_L_LongSays.ac fun C hC => ?_
   unfold ir_L_LongSays
   repeat' (first | (with_reducible first | refine W ?_ | refine Z0 ?_) | refine Cg _ (hugeLam_a t) ?_ | refine Cg _ (hugeType_a y.ty) ?_ | refine Cg _ (yMayR_a y.ty) ?_ | refine Cg _ (lMay_a t 0 0) ?_ | refine Cg _ (hL) ?_ | refine Cg _ (hAl) ?_ | refine Cg _ (h2) ?_ | ((with_reducible first | refine Wo (fun K hK => ?_) | refine Wp ?_ | refine Wq ?_ | refine Wr ?_); (try simp only [go_sem, fN, seval, eT, iR, hz1, hz2, hy, hm, q1, q2, dT, dF, nL]); (repeat with_reducible refine Ai ?_); (try (refine hK _ ?_; clear hK K)); try with_reducible refine iC ?_))
   simp only [go_sem, fN, seval, FinQ, AS.result, resAll, resOne, tupV, hm]
   try simp [hm]
 have hz : t.size ≤ 1000000 := by omega
 cases hp : t.pure with
 | false =>
  have he := hB hm hp
  subst he
  have hv : hasV 0 y b 15 = (false, 15) := rfl
  rw [hv] at hhas
  have hL := lLong_no most hhas (by decide)
  have hAl := lAlike_a hL
  have h2 := lam2_a Lm.nil Lm.nil 15 (Or.inl ⟨by decide, rfl⟩)
  rcases hq with q1 | ⟨q1, q2⟩
  case' inl => have q2 := q1
  all_goals
   refine ok_L_LongSays.ac fun C hC => ?_
   unfold ir_L_LongSays
   repeat' (first | (with_reducible first | refine W ?_ | refine Z0 ?_) | refine Cg _ (hugeLam_a t) ?_ | refine Cg _ (hugeType_a y.ty) ?_ | refine Cg _ (yMayR_a y.ty) ?_ | refine Cg _ (lMay_a t 0 0) ?_ | refine Cg _ (hasConst_a t hz) ?_ | refine Cg _ (hL) ?_ | refine Cg _ (hAl) ?_ | refine Cg _ (h2) ?_ | ((with_reducible first | refine Wo (fun K hK => ?_) | refine Wp ?_ | refine Wq ?_ | refine Wr ?_); (try simp only [go_sem, fN, seval, eT, iR, hz1, hz2, hy, hm, hp, q1, q2, dT, dF, nL]); (repeat with_reducible refine Ai ?_); (try (refine hK _ ?_; clear hK K)); try with_reducible refine iC ?_))
   simp only [go_sem, fN, seval, FinQ, AS.result, resAll, resOne, tupV]
   try simp
 | true =>
  by_cases h40 : (40 : Int) < capTo t.size 40
  ·rcases hq with q1 | ⟨q1, q2⟩
   case' inl => have q2 := q1
   all_goals
    refine ok_L_LongSays.ac fun C hC => ?_
    unfold ir_L_LongSays
    repeat' (first | (with_reducible first | refine W ?_ | refine Z0 ?_) | refine Cg _ (hugeLam_a t) ?_ | refine Cg _ (hugeType_a y.ty) ?_ | refine Cg _ (yMayR_a y.ty) ?_ | refine Cg _ (lMay_a t 0 0) ?_ | refine Cg _ (hasConst_a t hz) ?_ | refine Cg _ (lsizeR_a t 40 (by decide) (by decide)) ?_ | ((with_reducible first | refine Wo (fun K hK => ?_) | refine Wp ?_ | refine Wq ?_ | refine Wr ?_); (try simp only [go_sem, fN, seval, eT, iR, hz1, hz2, hy, hm, hp, h40, q1, q2, dT, dF, nL]); (repeat with_reducible refine Ai ?_); (try (refine hK _ ?_; clear hK K)); try with_reducible refine iC ?_))
    simp only [go_sem, fN, seval, FinQ, AS.result, resAll, resOne, tupV]
  obtain ⟨he, hR, hT⟩ := hD hm hp
  rcases he with rfl | rfl | rfl
  case inr.inl =>
   have hv : hasV 0 y b 8 = (false, 8) := rfl
   rw [hv] at hhas
   have hL := lLong_no most hhas (by decide)
   have hAl := lAlike_a hL
   have h2 := lam2_a Lm.nil Lm.nil 8 (Or.inl ⟨by decide, rfl⟩)
   rcases hq with q1 | ⟨q1, q2⟩
   case' inl => have q2 := q1
   all_goals
    refine ok_L_LongSays.ac fun C hC => ?_
    unfold ir_L_LongSays
    repeat' (first | (with_reducible first | refine W ?_ | refine Z0 ?_) | refine Cg _ (hugeLam_a t) ?_ | refine Cg _ (hugeType_a y.ty) ?_ | refine Cg _ (yMayR_a y.ty) ?_ | refine Cg _ (lMay_a t 0 0) ?_ | refine Cg _ (hasConst_a t hz) ?_ | refine Cg _ (lsizeR_a t 40 (by decide) (by decide)) ?_ | refine Cg _ (hR) ?_ | refine Cg _ (hL) ?_ | refine Cg _ (hAl) ?_ | refine Cg _ (h2) ?_ | ((with_reducible first | refine Wo (fun K hK => ?_) | refine Wp ?_ | refine Wq ?_ | refine Wr ?_); (try simp only [go_sem, fN, seval, eT, iR, hz1, hz2, hy, hm, hp, h40, q1, q2, dT, dF, nL]); (repeat with_reducible refine Ai ?_); (try (refine hK _ ?_; clear hK K)); try with_reducible refine iC ?_))
    simp only [go_sem, fN, seval, FinQ, AS.result, resAll, resOne, tupV]
    try simp
  case inr.inr =>
   have hv : hasV 0 y b 11 = (false, 0) := rfl
   rw [hv] at hhas
   have hL := lLong_not most hhas
   have hAl := lAlike_a hL
   have h2 := lam2_a Lm.nil Lm.nil 11 (Or.inl ⟨by decide, rfl⟩)
   rcases hq with q1 | ⟨q1, q2⟩
   case' inl => have q2 := q1
   all_goals
    refine ok_L_LongSays.ac fun C hC => ?_
    unfold ir_L_LongSays
    repeat' (first | (with_reducible first | refine W ?_ | refine Z0 ?_) | refine Cg _ (hugeLam_a t) ?_ | refine Cg _ (hugeType_a y.ty) ?_ | refine Cg _ (yMayR_a y.ty) ?_ | refine Cg _ (lMay_a t 0 0) ?_ | refine Cg _ (hasConst_a t hz) ?_ | refine Cg _ (lsizeR_a t 40 (by decide) (by decide)) ?_ | refine Cg _ (hR) ?_ | refine Cg _ (hL) ?_ | refine Cg _ (hAl) ?_ | refine Cg _ (h2) ?_ | ((with_reducible first | refine Wo (fun K hK => ?_) | refine Wp ?_ | refine Wq ?_ | refine Wr ?_); (try simp only [go_sem, fN, seval, eT, iR, hz1, hz2, hy, hm, hp, h40, q1, q2, dT, dF, nL]); (repeat with_reducible refine Ai ?_); (try (refine hK _ ?_; clear hK K)); try with_reducible refine iC ?_))
    simp only [go_sem, fN, seval, FinQ, AS.result, resAll, resOne, tupV]
    try simp
  have hv : hasV 0 y b 0 = (isCaseB b y, 0) := rfl
  rw [hv] at hhas
  cases hc : isCaseB b y with
  | false =>
   rw [hc] at hhas hcas
   have hL := lLong_not most hhas
   have hAl := lAlike_a hL
   have h2 := lam2_a Lm.nil Lm.nil 11 (Or.inl ⟨by decide, rfl⟩)
   rcases hq with q1 | ⟨q1, q2⟩
   case' inl => have q2 := q1
   all_goals
    refine ok_L_LongSays.ac fun C hC => ?_
    unfold ir_L_LongSays
    repeat' (first | (with_reducible first | refine W ?_ | refine Z0 ?_) | refine Cg _ (hugeLam_a t) ?_ | refine Cg _ (hugeType_a y.ty) ?_ | refine Cg _ (yMayR_a y.ty) ?_ | refine Cg _ (lMay_a t 0 0) ?_ | refine Cg _ (hasConst_a t hz) ?_ | refine Cg _ (lsizeR_a t 40 (by decide) (by decide)) ?_ | refine Cg _ (hR) ?_ | refine Cg _ (hcas) ?_ | refine Cg _ (hL) ?_ | refine Cg _ (hAl) ?_ | refine Cg _ (h2) ?_ | ((with_reducible first | refine Wo (fun K hK => ?_) | refine Wp ?_ | refine Wq ?_ | refine Wr ?_); (try simp only [go_sem, fN, seval, eT, iR, hz1, hz2, hy, hm, hp, h40, q1, q2, dT, dF, nL]); (repeat with_reducible refine Ai ?_); (try (refine hK _ ?_; clear hK K)); try with_reducible refine iC ?_))
    simp only [go_sem, fN, seval, FinQ, AS.result, resAll, resOne, tupV]
    try simp
  | true =>
   rw [hc] at hhas hcas
   have hq3 : (most < 0 ∧ ¬ 30 < most) ∨ (¬ most < 0 ∧ ¬ 30 < most ∧ ¬ 400 < most) ∨ (¬ most < 0 ∧ 30 < most ∧ ¬ most ≤ 400 ∧ 400 < most) := by omega
   rcases hq3 with ⟨q1, q2⟩ | ⟨q1, q2, q3⟩ | ⟨q1, q2, q3, q4⟩
   case inl =>
    have hN := normalR_far hm (Or.inl q1)
    have hL := lLong_run (most := most) hhas (by rw [hN]; decide)
    rw [hN] at hL
    have hAl := lAlike_a hL
    have h2 := lam2_a Lm.nil Lm.nil 3 (Or.inl ⟨by decide, rfl⟩)
    refine ok_L_LongSays.ac fun C hC => ?_
    unfold ir_L_LongSays
    repeat' (first | (with_reducible first | refine W ?_ | refine Z0 ?_) | refine Cg _ (hugeLam_a t) ?_ | refine Cg _ (hugeType_a y.ty) ?_ | refine Cg _ (yMayR_a y.ty) ?_ | refine Cg _ (lMay_a t 0 0) ?_ | refine Cg _ (hasConst_a t hz) ?_ | refine Cg _ (lsizeR_a t 40 (by decide) (by decide)) ?_ | refine Cg _ (hR) ?_ | refine Cg _ (hcas) ?_ | refine Cg _ (hL) ?_ | refine Cg _ (hAl) ?_ | refine Cg _ (h2) ?_ | ((with_reducible first | refine Wo (fun K hK => ?_) | refine Wp ?_ | refine Wq ?_ | refine Wr ?_); (try simp only [go_sem, fN, seval, eT, iR, hz1, hz2, hy, hm, hp, h40, q1, q2, dT, dF, nL]); (repeat with_reducible refine Ai ?_); (try (refine hK _ ?_; clear hK K)); try with_reducible refine iC ?_))
    simp only [go_sem, fN, seval, FinQ, AS.result, resAll, resOne, tupV]
    try simp
   case inr.inr =>
    have hN := normalR_far hm (Or.inr q4)
    have hL := lLong_run (most := most) hhas (by rw [hN]; decide)
    rw [hN] at hL
    have hAl := lAlike_a hL
    have h2 := lam2_a Lm.nil Lm.nil 3 (Or.inl ⟨by decide, rfl⟩)
    refine ok_L_LongSays.ac fun C hC => ?_
    unfold ir_L_LongSays
    repeat' (first | (with_reducible first | refine W ?_ | refine Z0 ?_) | refine Cg _ (hugeLam_a t) ?_ | refine Cg _ (hugeType_a y.ty) ?_ | refine Cg _ (yMayR_a y.ty) ?_ | refine Cg _ (lMay_a t 0 0) ?_ | refine Cg _ (hasConst_a t hz) ?_ | refine Cg _ (lsizeR_a t 40 (by decide) (by decide)) ?_ | refine Cg _ (hR) ?_ | refine Cg _ (hcas) ?_ | refine Cg _ (hL) ?_ | refine Cg _ (hAl) ?_ | refine Cg _ (h2) ?_ | ((with_reducible first | refine Wo (fun K hK => ?_) | refine Wp ?_ | refine Wq ?_ | refine Wr ?_); (try simp only [go_sem, fN, seval, eT, iR, hz1, hz2, hy, hm, hp, h40, q1, q2, q3, q4, dT, dF, nL]); (repeat with_reducible refine Ai ?_); (try (refine hK _ ?_; clear hK K)); try with_reducible refine iC ?_))
    simp only [go_sem, fN, seval, FinQ, AS.result, resAll, resOne, tupV]
    try simp
   obtain ⟨m, rfl⟩ : ∃ m : Nat, most = m := ⟨most.toNat, by omega⟩
   obtain ⟨a1, a2, a3, a4⟩ := Lm.may_ok hm
   have hwf := Lm.wf_chk t 0 a4
   have hgd := Lm.good_chk (m := 0) (by decide) t 0 1000 (by decide) (by omega) (by decide) a4
   have hN := normalR_near hm (show m ≤ 400 by omega)
   have hE := lLamEnd_a t m (by omega) hwf (by omega) (Lm.good_mono (by decide) t hgd)
   by_cases h0 : (Lm.run m 0 t).2.2 = 0
   case neg =>
    have hL := lLong_run (most := (m : Int)) hhas (by rw [hN]; exact h0)
    rw [hN] at hL
    generalize Lm.run m 0 t = r at *
    have hAl := lAlike_a hL
    have h2 := lam2_a Lm.nil r.1 r.2.2 (Or.inl ⟨h0, rfl⟩)
    refine ok_L_LongSays.ac fun C hC => ?_
    unfold ir_L_LongSays
    repeat' (first | (with_reducible first | refine W ?_ | refine Z0 ?_) | refine Cg _ (hugeLam_a t) ?_ | refine Cg _ (hugeType_a y.ty) ?_ | refine Cg _ (yMayR_a y.ty) ?_ | refine Cg _ (lMay_a t 0 0) ?_ | refine Cg _ (hasConst_a t hz) ?_ | refine Cg _ (lsizeR_a t 40 (by decide) (by decide)) ?_ | refine Cg _ (hR) ?_ | refine Cg _ (hcas) ?_ | refine Cg _ (hE) ?_ | refine Cg _ (hL) ?_ | refine Cg _ (hAl) ?_ | refine Cg _ (h2) ?_ | ((with_reducible first | refine Wo (fun K hK => ?_) | refine Wp ?_ | refine Wq ?_ | refine Wr ?_); (try simp only [go_sem, fN, seval, eT, iR, hz1, hz2, hy, hm, hp, h40, q1, q2, q3, h0, dT, dF, nL]); (repeat with_reducible refine Ai ?_); (try (refine hK _ ?_; clear hK K)); try with_reducible refine iC ?_))
    simp only [go_sem, fN, seval, FinQ, AS.result, resAll, resOne, tupV, h0]
    try simp [h0]
   case pos =>
    obtain ⟨E, hE1⟩ := isCaseB_inst hc
    have hty := hT rfl E
    rw [← hE1] at hty
    obtain ⟨t1, t2⟩ := typ_run m 0 t hty h0
    obtain ⟨r1, r2, r3⟩ := Lm.run_ok m 0 t 1000 hwf (by omega) hgd h0
    have hrun : normalR t 0 m = ((Lm.run m 0 t).1, (Lm.run m 0 t).2.1, 0) := by rw [hN]; exact Prod.ext rfl (Prod.ext rfl h0)
    generalize Lm.run m 0 t = r at *
    obtain ⟨u, k, e⟩ := r
    simp only at t1 t2 r1 r2 r3 h0 hrun hE
    subst h0
    obtain ⟨o, n, d, hLR, hd⟩ := (long_ex (T := 200) t1 (by simp) t2).1 hy2
    have hd2 : d ≤ 2000 * 401 := Nat.le_trans hd (Nat.mul_le_mul_right _ r2)
    have hRm : Room u [] 2000 1000000 d := ⟨by decide, by decide, Lm.good_mono (by omega) u r3, by decide, by omega, by omega, by simp; omega⟩
    have hog := hLR.good
    have hL := lLong_of hhas hrun hLR hRm (Lm.good_mono (by simp; omega) o hog)
    obtain ⟨x, l, hc1, V, hx⟩ := (longR hLR 2000 1000000 hRm).1 rfl
    have hc1 : ACalls Tryz.prog 14 [aLm u, aTy y.ty, aTys [], aInt 2000] (.tup [aLm x, aInt l]) := hc1
    by_cases hn : (n : Int) ≤ 2000
    ·have hl0 : ¬ l < 0 := by have := V.yes hn; omega
     have hxo := hx hn
     subst hxo
     rw [if_pos hn, if_pos hn] at hL
     have hAl := lAlike_a hL
     have h2 := lam2_a x x 0 (Or.inr ⟨rfl, rfl⟩)
     refine ok_L_LongSays.ac fun C hC => ?_
     unfold ir_L_LongSays
     repeat' (first | (with_reducible first | refine W ?_ | refine Z0 ?_) | refine Cg _ (hugeLam_a t) ?_ | refine Cg _ (hugeType_a y.ty) ?_ | refine Cg _ (yMayR_a y.ty) ?_ | refine Cg _ (lMay_a t 0 0) ?_ | refine Cg _ (hasConst_a t hz) ?_ | refine Cg _ (lsizeR_a t 40 (by decide) (by decide)) ?_ | refine Cg _ (hR) ?_ | refine Cg _ (hcas) ?_ | refine Cg _ (hE) ?_ | refine Cg _ (hc1) ?_ | refine Cg _ (hL) ?_ | refine Cg _ (hAl) ?_ | refine Cg _ (h2) ?_ | ((with_reducible first | refine Wo (fun K hK => ?_) | refine Wp ?_ | refine Wq ?_ | refine Wr ?_); (try simp only [go_sem, fN, seval, eT, iR, hz1, hz2, hy, hm, hp, h40, q1, q2, q3, hl0, dT, dF, nL]); (repeat with_reducible refine Ai ?_); (try (refine hK _ ?_; clear hK K)); try with_reducible refine iC ?_))
     simp only [go_sem, fN, seval, FinQ, AS.result, resAll, resOne, tupV]
     try simp
    ·have hl0 : l < 0 := V.no (by omega)
     rw [if_neg hn, if_neg hn] at hL
     have hAl := lAlike_a hL
     have h2 := lam2_a Lm.nil x 8 (Or.inl ⟨by decide, rfl⟩)
     refine ok_L_LongSays.ac fun C hC => ?_
     unfold ir_L_LongSays
     repeat' (first | (with_reducible first | refine W ?_ | refine Z0 ?_) | refine Cg _ (hugeLam_a t) ?_ | refine Cg _ (hugeType_a y.ty) ?_ | refine Cg _ (yMayR_a y.ty) ?_ | refine Cg _ (lMay_a t 0 0) ?_ | refine Cg _ (hasConst_a t hz) ?_ | refine Cg _ (lsizeR_a t 40 (by decide) (by decide)) ?_ | refine Cg _ (hR) ?_ | refine Cg _ (hcas) ?_ | refine Cg _ (hE) ?_ | refine Cg _ (hc1) ?_ | refine Cg _ (hL) ?_ | refine Cg _ (hAl) ?_ | refine Cg _ (h2) ?_ | ((with_reducible first | refine Wo (fun K hK => ?_) | refine Wp ?_ | refine Wq ?_ | refine Wr ?_); (try simp only [go_sem, fN, seval, eT, iR, hz1, hz2, hy, hm, hp, h40, q1, q2, q3, hl0, dT, dF, nL]); (repeat with_reducible refine Ai ?_); (try (refine hK _ ?_; clear hK K)); try with_reducible refine iC ?_))
     simp only [go_sem, fN, seval, FinQ, AS.result, resAll, resOne, tupV]
     try simp

def ir_R_TypeFrom : IR :=
 (.seq (.ops [.i 6 (.alloc 27 [.st (.int .i64 0), .full []]), .i 7 (.mov (.n 0))]) (.seq (.ops [.m 12 0, .m 13 1, .i 14 (.call 43 [.t 12, .t 13]), .m 8 14]) (.seq (.ops [.m 15 1, .i 16 (.bin .add (.t 15) (.n 1)), .m 1 16]) (.seq (.seq (.ops [.m 17 2, .i 18 (.bin .lss (.t 17) (.n 3)), .m 19 18, .mk (some 20) (some (19, false)) (.mov (.t 8)) .no, .mk (some 21) (some (19, false)) (.call 19 [.t 20, .n 3]) .no, .mk (some 22) (some (19, false)) (.bin .eql (.t 21) (.n 0)) .no, .i 23 (.pick (.t 19) (.c (.one (.st (.bool true)))) (.t 22))]) (.cond (.t 23) (.seq (.ops [.m 24 8, .i 25 (.bin .quo (.t 24) (.n 3)), .i 26 (.call 19 [.t 25, .n 3]), .i 27 (.build [.st (.int .i64 0), .full []] [(0, 1, .t 26)]), .m 28 1, .s 2 6 27, .m 7 28]) .ret) .skip)) (.seq (.ops [.m 30 0, .m 31 1, .m 32 2, .i 33 (.bin .quo (.t 32) (.n 2)), .i 34 (.call 18 [.t 30, .t 31, .t 33]), .m 29 34, .i 35 (.extract 0 (.t 29)), .i 36 (.extract 1 (.t 29)), .i 9 (.alloc 27 [.st (.int .i64 0), .full []]), .s 2 9 35, .m 10 36]) (.seq (.ops [.m 38 0, .m 39 10, .m 40 2, .i 41 (.bin .quo (.t 40) (.n 2)), .i 42 (.call 18 [.t 38, .t 39, .t 41]), .m 37 42, .i 43 (.extract 0 (.t 37)), .i 44 (.extract 1 (.t 37)), .i 11 (.alloc 27 [.st (.int .i64 0), .full []]), .s 2 11 43, .m 10 44]) (.seq (.ops [.L 45 2 9, .L 46 2 11, .i 47 (.buildSlice false 27 2 [.t 45, .t 46]), .i 48 (.build [.st (.int .i64 0), .full []] [(1, 1, .t 47)]), .m 49 10, .s 2 6 48, .m 7 49]) .ret)))))))
theorem ok_R_TypeFrom : OkF Tryz.prog 18 50 [] ir_R_TypeFrom [.cell 6 true 2, .t 7] := .of Tryz.func18 rfl rfl (by kernel_rfl) rfl

section
variable (rec : Nat → BT → Lm × Nat × Bool) (low : Bool) (ty : BT)
def argRun : BT → Lm → Nat → Lm × BT × Nat × Bool
 | .b k, h, n => (h, .b k, n, true)
 | .a x y, h, n => if BT.a x y = ty then (h, .a x y, n, true) else if low then (h, .a x y, n, false) else
   if (rec n x).2.2 = true then argRun y (Lm.a h (rec n x).1) (rec n x).2.1 else (Lm.a h (rec n x).1, y, (rec n x).2.1, false)
theorem argRun_n {cap : Nat} (hr : ∀ n x, (rec n x).2.1 ≤ n + cap) : ∀ (t : BT) (h : Lm) (n : Nat), (argRun rec low ty t h n).2.2.1 ≤ n + t.sz / 2 * cap
 | .b k, h, n => by simp only [argRun]; omega
 | .a x y, h, n => by
  have h1 := hr n x
  have px : 1 ≤ x.sz := by cases x <;> simp only [BT.sz] <;> omega
  have hs : (BT.a x y).sz = 1 + x.sz + y.sz := rfl
  have h2 : (y.sz / 2 + 1) * cap ≤ (BT.a x y).sz / 2 * cap := Nat.mul_le_mul_right _ (by rw [hs]; omega)
  rw [Nat.add_mul, Nat.one_mul] at h2
  rw [argRun]
  split
  ·simp only; omega
  ·split
   ·simp only; omega
   ·split
    ·have := argRun_n hr y (Lm.a h (rec n x).1) (rec n x).2.1
     omega
    ·simp only; omega
theorem argRun_stop {t : BT} {h : Lm} {n : Nat} (e : t = ty ∨ ∃ k, t = .b k) : argRun rec low ty t h n = (h, t, n, true) := by
 cases t with
 | b k => rfl
 | a x y =>
  rcases e with rfl | ⟨k, e⟩
  ·rw [argRun, if_pos rfl]
  ·cases e
def tryAll (G : List BT) (c : Nat) (at_ : Nat) : Nat → Nat → Option (Lm × Nat)
 | 0, _ => none
 | f + 1, i =>
  let j := (i + c) % G.length
  let r := argRun rec low ty (G.getD j (.b 0)) (.mk 1 j []) (at_ + 1)
  if r.2.2.2 = true ∧ r.2.1 = ty then some (r.1, r.2.2.1) else tryAll G c at_ f (i + 1)
theorem tryAll_n {cap q : Nat} (hr : ∀ n x, (rec n x).2.1 ≤ n + cap) {G : List BT} {c at_ : Nat} (hq : ∀ x ∈ G, x.sz / 2 ≤ q) : ∀ (f i : Nat) (r : Lm × Nat), tryAll rec low ty G c at_ f i = some r → r.2 ≤ at_ + 1 + q * cap
 | 0, i, r, h => by cases h
 | f + 1, i, r, h => by
  simp only [tryAll] at h
  split at h
  ·obtain rfl := Option.some.inj h
   have h1 := argRun_n rec low ty hr (G.getD ((i + c) % G.length) (.b 0)) (.mk 1 (((i + c) % G.length : Nat) : Int) []) (at_ + 1)
   refine Nat.le_trans h1 (Nat.add_le_add_left (Nat.mul_le_mul_right _ ?_) _)
   rw [List.getD_eq_getElem?_getD]
   cases hg : G[(i + c) % G.length]? with
   | none => show (1 : Nat) / 2 ≤ q; omega
   | some x => exact hq x (List.mem_of_getElem? hg)
  ·exact tryAll_n hr hq f (i + 1) r h
end
def capT (m : Nat) : Nat := [20, 20, 390, 760, 1870, 2980, 10750, 18520, 34430, 50340, 86230, 122120, 191310, 260500, 469550, 678600].getD m 0
def lev (m : Nat) : Nat := if m < 6 then 0 else if m < 12 then 1 else 2
theorem capT_step : ∀ m, m < 16 → 2 ≤ m → capT (m - 1) + 1 ≤ capT m ∧ 1 + 9 * capT (m / 2 - 1) ≤ capT m ∧ 9 + 2 * capT (m / 2) ≤ capT m ∧ capT m ≤ 700000 := by decide
theorem capT_low : ∀ m, m < 16 → 20 ≤ capT m := by decide
theorem lev_step : ∀ m, m < 16 → lev (m - 1) ≤ lev m ∧ lev (m / 2 - 1) ≤ lev m ∧ (6 ≤ m → lev (m / 2) + 1 ≤ lev m) := by decide
theorem sz_pos (x : BT) : 1 ≤ x.sz := by cases x <;> simp only [BT.sz] <;> omega

theorem typeFrom_s (l : List Int) (hl : ∀ n ∈ l, inR .i64 n) (hm : l.length ≤ maxLen) : ∀ (most at_ : Nat), most ≤ 11 → at_ + 3 * most ≤ 900000 →
  ∃ (b : BT) (n : Nat), ACalls Tryz.prog 18 [aInts l, aInt at_, aInt most] (.tup [aTy b.ty, aInt n]) ∧ n + 1 ≤ at_ + 3 * max most 1 ∧ b.sz ≤ if most < 3 then 1 else if most < 6 then 3 else 7 := by
 intro most
 induction most using Nat.strongRecOn with
 | _ most ih =>
 intro at_ h1000 hat
 have hraw := raw_a l at_ (by omega) hl hm
 have hr := rawI_range l at_
 generalize rawI l at_ = c at hraw hr
 have d3 := tdiv_range (x := c) (n := 3) (by omega) (by omega)
 have p3 := pick_a c 3 (by rw [inR_i64]; omega) (by omega)
 have q3 := pickI_range c 3 (by omega)
 have p33 := pick_a (c / 3) 3 (by rw [inR_i64]; omega) (by omega)
 have q33 := pickI_range (c / 3) 3 (by omega)
 generalize pickI c 3 = x3 at *
 generalize pickI (c / 3) 3 = x33 at *
 obtain ⟨k, rfl⟩ : ∃ k : Nat, x33 = k := ⟨x33.toNat, by omega⟩
 by_cases hleaf : (most : Int) < 3 ∨ x3 = 0
 ·refine ⟨.b k, at_ + 1, ?_, by omega, by show 1 ≤ _; split <;> (try split) <;> omega⟩
  have fin : aTy (BT.b k).ty = .agg [.st (.int .i64 k), .st (.list [])] := rfl
  by_cases hm3 : (most : Int) < 3
  ·refine ok_R_TypeFrom.ac fun C hC => ?_
   unfold ir_R_TypeFrom
   repeat' (first | (with_reducible first | refine W ?_ | refine Z0 ?_) | refine Cg _ (hraw) ?_ | refine Cg _ (p33) ?_ | ((with_reducible first | refine Wo (fun K hK => ?_) | refine Wp ?_ | refine Wq ?_ | refine Wr ?_); (try simp only [go_sem, fN, seval, eT, iR, hm3, d3.1, dT, dF, nL]); (repeat with_reducible refine Ai ?_); (try (refine hK _ ?_; clear hK K)); try with_reducible refine iC ?_))
   simp only [go_sem, fN, seval, FinQ, AS.result, resAll, resOne, tupV, fin]
   all_goals first | done | rfl | skip
  ·have hx3 : x3 = 0 := by omega
   subst hx3
   refine ok_R_TypeFrom.ac fun C hC => ?_
   unfold ir_R_TypeFrom
   repeat' (first | (with_reducible first | refine W ?_ | refine Z0 ?_) | refine Cg _ (hraw) ?_ | refine Cg _ (p3) ?_ | refine Cg _ (p33) ?_ | ((with_reducible first | refine Wo (fun K hK => ?_) | refine Wp ?_ | refine Wq ?_ | refine Wr ?_); (try simp only [go_sem, fN, seval, eT, iR, hm3, d3.1, dT, dF, nL]); (repeat with_reducible refine Ai ?_); (try (refine hK _ ?_; clear hK K)); try with_reducible refine iC ?_))
   simp only [go_sem, fN, seval, FinQ, AS.result, resAll, resOne, tupV, fin]
   all_goals first | done | rfl | skip
 ·have hm3 : ¬ (most : Int) < 3 := by omega
  have hx3 : ¬ x3 = 0 := by omega
  have d2 := tdiv_range (x := (most : Int)) (n := 2) (by omega) (by omega)
  have e2 : (most : Int) / 2 = ((most / 2 : Nat) : Int) := by omega
  obtain ⟨t, n, ht, hn, ht2⟩ := ih (most / 2) (by omega) (at_ + 1) (by omega) (by omega)
  obtain ⟨u, n2, hu, hn2, hu2⟩ := ih (most / 2) (by omega) n (by omega) (by omega)
  rw [show (((at_ + 1 : Nat) : Int)) = (at_ : Int) + 1 by omega] at ht
  refine ⟨.a t u, n2, ?_, by omega, by
   show 1 + t.sz + u.sz ≤ _
   rw [if_neg (by omega)]
   by_cases h6 : most < 6
   ·rw [if_pos (by omega)] at ht2 hu2; rw [if_pos h6]; omega
   ·rw [if_neg (by omega), if_pos (by omega)] at ht2 hu2; rw [if_neg h6]; omega⟩
  have fin : aTy (BT.a t u).ty = .agg [.st (.int .i64 0), .st (.list [encY t.ty, encY u.ty])] := rfl
  refine ok_R_TypeFrom.ac fun C hC => ?_
  unfold ir_R_TypeFrom
  repeat' (first | (with_reducible first | refine W ?_ | refine Z0 ?_) | refine Cg _ (hraw) ?_ | refine Cg _ (p3) ?_ | refine Cg _ (ht) ?_ | refine Cg _ (hu) ?_ | ((with_reducible first | refine Wo (fun K hK => ?_) | refine Wp ?_ | refine Wq ?_ | refine Wr ?_); (try simp only [go_sem, fN, seval, eT, iR, hm3, hx3, d3.1, d2.1, e2, dT, dF, nL]); (repeat with_reducible refine Ai ?_); (try (refine hK _ ?_; clear hK K)); try with_reducible refine iC ?_))
  simp only [go_sem, fN, seval, FinQ, AS.result, resAll, resOne, tupV, fin]
  all_goals first | done | rfl | skip
def TypedC (l : List Int) (at_ : Nat) (ty : BT) (G : List BT) (most : Int) (r : Lm × Nat × Bool) : Prop :=
 ACalls Tryz.prog 20 [aInts l, aInt at_, aTy ty.ty, aTys (tys G), aInt most] (.tup [aLm r.1, aInt r.2.1, aBool r.2.2])
theorem aTy_two (a b : BT) : aTy (BT.a a b).ty = .agg [.st (.int .i64 0), .st (.list [[.int .i64 a.ty.base, .list (a.ty.subs.map encY)], [.int .i64 b.ty.base, .list (b.ty.subs.map encY)]])] := by
 show AV.agg [_, AC.st (.list [encY a.ty, encY b.ty])] = _
 rw [encY_eq a.ty, encY_eq b.ty]
 rfl
def wide (ty : BT) (most : Int) : Nat := if most < 2 then ty.sz + 1 else capT most.toNat
theorem half_nat (m : Int) : (m / 2 - 1).toNat = m.toNat / 2 - 1 := by omega
theorem wide_cap {ty : BT} {most : Int} (h : most ≤ 15) (hs : ty.sz ≤ 19) : wide ty most ≤ capT most.toNat := by
 unfold wide
 split
 ·have := capT_low most.toNat (by omega); omega
 ·exact Nat.le_refl _
structure TRoom (at_ : Nat) (ty : BT) (G : List BT) (most : Int) : Prop where
 hi : most ≤ 15
 lo : -1000 ≤ most - ty.sz
 sz : ty.sz + 4 * lev most.toNat ≤ 19
 gs : ∀ x ∈ G, x.sz + 4 * lev most.toNat ≤ 19
 len : G.length + (40 * most.toNat + ty.sz) ≤ 3000
 at_ : at_ + wide ty most ≤ 900000
theorem typed_a (l : List Int) (hl : ∀ n ∈ l, inR .i64 n) (hm : l.length ≤ maxLen) : ∀ (K : Nat) (at_ : Nat) (ty : BT) (G : List BT) (most : Int), 40 * most.toNat + ty.sz ≤ K → TRoom at_ ty G most → ∃ r, TypedC l at_ ty G most r ∧ r.2.1 ≤ at_ + wide ty most := by
 intro K
 induction K with
 | zero => intro at_ ty G most hK; have := sz_pos ty; omega
 | succ K ih =>
 intro at_ ty G most hK R
 obtain ⟨rhi, rlo, rsz, rgs, rlen, rat⟩ := R
 have hpos := sz_pos ty
 have hml := tys_len G
 have hraw := raw_a l at_ (by omega) hl hm
 have hr := rawI_range l at_
 generalize rawI l at_ = c at hraw hr
 have p3 := pick_a c 3 (by rw [inR_i64]; omega) (by omega)
 have q3 := pickI_range c 3 (by omega)
 have p4 := pick_a c 4 (by rw [inR_i64]; omega) (by omega)
 have q4 := pickI_range c 4 (by omega)
 have pk := pick_a c ((G.length : Int) + 1) (by rw [inR_i64]; omega) (by omega)
 have qk := pickI_range c ((G.length : Int) + 1) (by omega)
 generalize pickI c 3 = c3 at *
 generalize pickI c 4 = c4 at *
 generalize pickI c ((G.length : Int) + 1) = ck at *
 obtain ⟨ck, rfl⟩ : ∃ k : Nat, ck = k := ⟨ck.toNat, by omega⟩
 by_cases hA : (∃ a b, ty = .a a b) ∧ (most < 2 ∨ 0 < c3)
 ·obtain ⟨⟨a, b, rfl⟩, hA⟩ := hA
  have hs : (BT.a a b).sz = 1 + a.sz + b.sz := rfl
  have pa := sz_pos a
  have hl1 := lev_step most.toNat (by omega)
  have e1 : (most - 1).toNat = most.toNat - 1 := by omega
  have hw : 1 + wide b (most - 1) ≤ wide (.a a b) most := by
   unfold wide
   by_cases h2 : most < 2
   ·rw [if_pos (by omega), if_pos h2, hs]; omega
   ·rw [if_neg h2]
    have := capT_step most.toNat (by omega) (by omega)
    split
    ·have := capT_low (most.toNat - 1) (by omega); omega
    ·rw [e1]; omega
  obtain ⟨r, hc, hn⟩ := ih (at_ + 1) b (a :: G) (most - 1) (by rw [e1]; omega) ⟨by omega, by omega, by rw [e1]; omega, fun x hx => by
   rw [e1]
   rcases List.mem_cons.1 hx with rfl | hx
   ·omega
   ·have := rgs x hx; omega, by rw [List.length_cons, e1]; omega, by omega⟩
  refine ⟨(Lm.l r.1, r.2.1, r.2.2), ?_, by show r.2.1 ≤ _; omega⟩
  unfold TypedC at hc ⊢
  rw [aTys_cons, show (((at_ + 1 : Nat) : Int)) = (at_ : Int) + 1 by omega] at hc
  rcases hA with h2 | h3
  ·refine ok_R_Typed.ac fun C hC => ?_
   unfold ir_R_Typed
   repeat' (first | (with_reducible first | refine W ?_ | refine Z0 ?_) | refine Cg _ (hc) ?_ | refine Cg _ (lFun_a r.1) ?_ | ((with_reducible first | refine Wo (fun K hK => ?_) | refine Wp ?_ | refine Wq ?_ | refine Wr ?_); (try simp only [go_sem, fN, seval, eT, iR, h2, BT.ty, dT, dF, nL]); (repeat with_reducible refine Ai ?_); (try (refine hK _ ?_; clear hK K)); try with_reducible refine iC ?_))
   simp only [go_sem, fN, seval, FinQ, AS.result, resAll, resOne, tupV]
  ·by_cases h2 : most < 2
   ·refine ok_R_Typed.ac fun C hC => ?_
    unfold ir_R_Typed
    repeat' (first | (with_reducible first | refine W ?_ | refine Z0 ?_) | refine Cg _ (hc) ?_ | refine Cg _ (lFun_a r.1) ?_ | ((with_reducible first | refine Wo (fun K hK => ?_) | refine Wp ?_ | refine Wq ?_ | refine Wr ?_); (try simp only [go_sem, fN, seval, eT, iR, h2, BT.ty, dT, dF, nL]); (repeat with_reducible refine Ai ?_); (try (refine hK _ ?_; clear hK K)); try with_reducible refine iC ?_))
    simp only [go_sem, fN, seval, FinQ, AS.result, resAll, resOne, tupV]
   ·refine ok_R_Typed.ac fun C hC => ?_
    unfold ir_R_Typed
    repeat' (first | (with_reducible first | refine W ?_ | refine Z0 ?_) | refine Cg _ (hraw) ?_ | refine Cg _ (p3) ?_ | refine Cg _ (hc) ?_ | refine Cg _ (lFun_a r.1) ?_ | ((with_reducible first | refine Wo (fun K hK => ?_) | refine Wp ?_ | refine Wq ?_ | refine Wr ?_); (try simp only [go_sem, fN, seval, eT, iR, h2, h3, BT.ty, dT, dF, nL]); (repeat with_reducible refine Ai ?_); (try (refine hK _ ?_; clear hK K)); try with_reducible refine iC ?_))
    simp only [go_sem, fN, seval, FinQ, AS.result, resAll, resOne, tupV]
 have hA1 : (∃ k, ty = .b k) ∨ (∃ a b, ty = .a a b ∧ ¬ most < 2 ∧ ¬ 0 < c3) := by
  cases ty with
  | b k => exact .inl ⟨k, rfl⟩
  | a x y => exact .inr ⟨x, y, rfl, fun h => hA ⟨⟨x, y, rfl⟩, .inl h⟩, fun h => hA ⟨⟨x, y, rfl⟩, .inr h⟩⟩
 have hmid : (6 ≤ most ∧ c4 = 0 ∧ ∃ (a : BT) (n1 : Nat) (r1 r2 : Lm × Nat × Bool), ACalls Tryz.prog 18 [aInts l, aInt ((at_ : Int) + 1), aInt 3] (.tup [aTy a.ty, aInt n1]) ∧ TypedC l n1 (.a a ty) G (most / 2) r1 ∧ TypedC l r1.2.1 a G (most / 2) r2 ∧ r2.2.1 ≤ at_ + wide ty most) ∨ ¬ (6 ≤ most ∧ c4 = 0) := by
  by_cases h : 6 ≤ most ∧ c4 = 0
  ·refine .inl ⟨h.1, h.2, ?_⟩
   have e2 : (most / 2).toNat = most.toNat / 2 := by omega
   have hl1 := (lev_step most.toNat (by omega)).2.2 (by omega)
   have hc1 := capT_step most.toNat (by omega) (by omega)
   have hw : wide ty most = capT most.toNat := by unfold wide; rw [if_neg (by omega)]
   have hlow := capT_low most.toNat (by omega)
   obtain ⟨a, n1, h1, h2, h3⟩ := typeFrom_s l hl hm 3 (at_ + 1) (by decide) (by omega)
   rw [show (((at_ + 1 : Nat) : Int)) = (at_ : Int) + 1 by omega] at h1
   have h3 : a.sz ≤ 3 := by simpa using h3
   have hs : (BT.a a ty).sz = 1 + a.sz + ty.sz := rfl
   have g2 : ∀ x ∈ G, x.sz + 4 * lev (most / 2).toNat ≤ 19 := fun x hx => by have := rgs x hx; rw [e2]; omega
   have w1 : wide (.a a ty) (most / 2) = capT (most.toNat / 2) := by unfold wide; rw [if_neg (by omega), e2]
   have w2 : wide a (most / 2) = capT (most.toNat / 2) := by unfold wide; rw [if_neg (by omega), e2]
   obtain ⟨r1, k1, k2⟩ := ih n1 (.a a ty) G (most / 2) (by rw [e2, hs]; omega) ⟨by omega, by rw [hs]; omega, by rw [e2, hs]; omega, g2, by rw [e2, hs]; omega, by rw [w1]; omega⟩
   obtain ⟨r2, k3, k4⟩ := ih r1.2.1 a G (most / 2) (by rw [e2]; omega) ⟨by omega, by omega, by rw [e2]; omega, g2, by rw [e2]; omega, by rw [w2]; omega⟩
   exact ⟨a, n1, r1, r2, h1, k1, k3, by omega⟩
  ·exact .inr h
 have d2 : 0 ≤ most → most.tdiv 2 = most / 2 ∧ 0 ≤ most / 2 ∧ most / 2 ≤ most := fun h => tdiv_range (x := most) (n := 2) h (by omega)
 have hfin : (∃ r : Lm × Nat × Bool, 6 ≤ most ∧ c4 = 0 ∧ ∃ (a : BT) (n1 : Nat) (r1 r2 : Lm × Nat × Bool), ACalls Tryz.prog 18 [aInts l, aInt ((at_ : Int) + 1), aInt 3] (.tup [aTy a.ty, aInt n1]) ∧ TypedC l n1 (.a a ty) G (most / 2) r1 ∧ TypedC l r1.2.1 a G (most / 2) r2 ∧ r2.2.1 ≤ at_ + wide ty most ∧ r1.2.2 = true ∧ r2.2.2 = true) ∨ ((6 ≤ most ∧ c4 = 0 ∧ ∃ (a : BT) (n1 : Nat) (r1 r2 : Lm × Nat × Bool), ACalls Tryz.prog 18 [aInts l, aInt ((at_ : Int) + 1), aInt 3] (.tup [aTy a.ty, aInt n1]) ∧ TypedC l n1 (.a a ty) G (most / 2) r1 ∧ TypedC l r1.2.1 a G (most / 2) r2 ∧ (r1.2.2 = false ∨ (r1.2.2 = true ∧ r2.2.2 = false))) ∨ ¬ (6 ≤ most ∧ c4 = 0)) := by
  rcases hmid with ⟨h1, h2, a, n1, r1, r2, h3, h4, h5, h6⟩ | h
  ·cases e1 : r1.2.2 with
   | false => exact .inr (.inl ⟨h1, h2, a, n1, r1, r2, h3, h4, h5, .inl e1⟩)
   | true =>
    cases e2 : r2.2.2 with
    | false => exact .inr (.inl ⟨h1, h2, a, n1, r1, r2, h3, h4, h5, .inr ⟨e1, e2⟩⟩)
    | true => exact .inl ⟨r1, h1, h2, a, n1, r1, r2, h3, h4, h5, h6, e1, e2⟩
  ·exact .inr (.inr h)
 rcases hfin with ⟨_, h6, h4, a, n1, r1, r2, hT, hf, hx, hle, o1, o2⟩ | hrest
 ·refine ⟨(Lm.a r1.1 r2.1, r2.2.1, true), ?_, hle⟩
  have d2 := d2 (by omega)
  unfold TypedC at hf hx ⊢
  rw [aTy_two] at hf
  rcases hA1 with ⟨k, rfl⟩ | ⟨a', b', rfl, h2, h3⟩
  ·refine ok_R_Typed.ac fun C hC => ?_
   unfold ir_R_Typed
   repeat' (first | (with_reducible first | refine W ?_ | refine Z0 ?_) | refine Cg _ (hraw) ?_ | refine Cg _ (p4) ?_ | refine Cg _ (hT) ?_ | refine Cg _ (hf) ?_ | refine Cg _ (hx) ?_ | refine Cg _ (lApp_a r1.1 r2.1) ?_ | ((with_reducible first | refine Wo (fun K hK => ?_) | refine Wp ?_ | refine Wq ?_ | refine Wr ?_); (try simp only [go_sem, fN, seval, eT, iR, h6, h4, d2.1, o1, o2, BT.ty, dT, dF, nL]); (repeat with_reducible refine Ai ?_); (try (refine hK _ ?_; clear hK K)); try with_reducible refine iC ?_))
   simp only [go_sem, fN, seval, FinQ, AS.result, resAll, resOne, tupV]
  ·simp only [BT.ty, Ty.base_mk, Ty.subs_mk, List.map_cons, List.map_nil, encY_eq] at hf
   refine ok_R_Typed.ac fun C hC => ?_
   unfold ir_R_Typed
   repeat' (first | (with_reducible first | refine W ?_ | refine Z0 ?_) | refine Cg _ (hraw) ?_ | refine Cg _ (p3) ?_ | refine Cg _ (p4) ?_ | refine Cg _ (hT) ?_ | refine Cg _ (hf) ?_ | refine Cg _ (hx) ?_ | refine Cg _ (lApp_a r1.1 r2.1) ?_ | ((with_reducible first | refine Wo (fun K hK => ?_) | refine Wp ?_ | refine Wq ?_ | refine Wr ?_); (try simp only [go_sem, fN, seval, eT, iR, h2, h3, h6, h4, d2.1, o1, o2, BT.ty, dT, dF, nL]); (repeat with_reducible refine Ai ?_); (try (refine hK _ ?_; clear hK K)); try with_reducible refine iC ?_))
   simp only [go_sem, fN, seval, FinQ, AS.result, resAll, resOne, tupV]
 have hcapx : ∃ (cap : Nat) (rec : Nat → BT → Lm × Nat × Bool), (∀ n x, ¬ most < 2 → n + cap ≤ 900000 → x.sz + 4 * lev (most.toNat / 2 - 1) ≤ 19 → TypedC l n x G (most / 2 - 1) (rec n x)) ∧ (∀ n x, (rec n x).2.1 ≤ n + cap) ∧ 1 + 9 * cap ≤ wide ty most := by
  by_cases h2 : most < 2
  ·exact ⟨0, fun n x => (Lm.nil, n, false), fun n x h => absurd h2 h, fun n x => Nat.le_refl _, by unfold wide; rw [if_pos h2]; omega⟩
  ·have e2 := half_nat most
   have hl1 := (lev_step most.toNat (by omega)).2.1
   have hc1 := capT_step most.toNat (by omega) (by omega)
   have hw : wide ty most = capT most.toNat := by unfold wide; rw [if_neg h2]
   have key : ∀ (n : Nat) (x : BT), ∃ r : Lm × Nat × Bool, (n + capT (most.toNat / 2 - 1) ≤ 900000 → x.sz + 4 * lev (most.toNat / 2 - 1) ≤ 19 → TypedC l n x G (most / 2 - 1) r) ∧ r.2.1 ≤ n + capT (most.toNat / 2 - 1) := fun n x => by
    by_cases hh : n + capT (most.toNat / 2 - 1) ≤ 900000 ∧ x.sz + 4 * lev (most.toNat / 2 - 1) ≤ 19
    ·have hwc := wide_cap (ty := x) (most := most / 2 - 1) (by omega) (by omega)
     rw [e2] at hwc
     obtain ⟨r, k1, k2⟩ := ih n x G (most / 2 - 1) (by rw [e2]; omega) ⟨by omega, by omega, by rw [e2]; exact hh.2, fun y hy => by have := rgs y hy; rw [e2]; omega, by rw [e2]; omega, by omega⟩
     exact ⟨r, fun _ _ => k1, by omega⟩
    ·exact ⟨(Lm.nil, n, false), fun h1 h3 => absurd ⟨h1, h3⟩ hh, by show n ≤ _; omega⟩
   exact ⟨capT (most.toNat / 2 - 1), fun n x => (key n x).choose, fun n x _ h1 h3 => (key n x).choose_spec.1 h1 h3, fun n x => (key n x).choose_spec.2, by rw [hw]; exact hc1.2.1⟩
 obtain ⟨cap, rec, hrec, hcap, hcw⟩ := hcapx
 obtain ⟨low, hlow⟩ : ∃ low : Bool, low = decide (most < 2) := ⟨_, rfl⟩
 obtain ⟨T, hT⟩ : ∃ T, tryAll rec low ty G ck at_ G.length 0 = T := ⟨_, rfl⟩
 refine ⟨match T with | some p => (p.1, p.2, true) | none => (Lm.nil, at_, false), ?_, ?_⟩
 case refine_2 =>
  cases T with
  | none => show at_ ≤ _; omega
  | some p =>
   have := tryAll_n rec _ ty hcap (q := 9) (fun x hx => by have := rgs x hx; omega) _ _ p hT
   show p.2 ≤ _
   omega
 unfold TypedC
 refine ok_R_Typed.ac fun C hC => ?_
 unfold ir_R_Typed
 refine W ?_
 refine Wo (fun K hK => ?_)
 (try simp only [go_sem, fN, seval, eT, iR])
 (repeat with_reducible refine Ai ?_)
 refine hK _ ?_
 clear hK K
 refine W ?_
 refine IWP.mid (fun x => x.env 0 = aInts l ∧ x.env 1 = aInt at_ ∧ x.env 3 = aTys (tys G) ∧ x.env 4 = aInt most ∧ x.env 7 = .one (.ptr 7 1 0 0) ∧ x.env 10 = .one (.ptr 10 1 0 0) ∧ x.S 7 = some (.box 27 [.st (.int .i64 ty.ty.base), .st (.list (ty.ty.subs.map encY))]) ∧ x.S 10 = some (.box 24 [.st (.int .i64 0), .st (.int .i64 0), .full []]) ∧ x.S 25 = none ∧ x.S 26 = none ∧ x.S 29 = none ∧ x.S 16 = none ∧ x.S 18 = none ∧ x.S 20 = none) ?_ ?_
 ·rcases hA1 with ⟨k, rfl⟩ | ⟨a, b, rfl, h2, h3⟩
  ·repeat' (first | (with_reducible first | refine W ?_ | refine Z0 ?_) | ((with_reducible first | refine Wo (fun K hK => ?_) | refine Wp ?_ | refine Wq ?_ | refine Wr ?_); (try simp only [go_sem, fN, seval, eT, iR, BT.ty, dT, dF, nL]); (repeat with_reducible refine Ai ?_); (try (refine hK _ ?_; clear hK K)); try with_reducible refine iC ?_))
   refine ⟨rfl, ?_⟩
   simp only [go_sem, fN, seval, eT, iR, BT.ty]
  ·repeat' (first | (with_reducible first | refine W ?_ | refine Z0 ?_) | refine Cg _ (hraw) ?_ | refine Cg _ (p3) ?_ | ((with_reducible first | refine Wo (fun K hK => ?_) | refine Wp ?_ | refine Wq ?_ | refine Wr ?_); (try simp only [go_sem, fN, seval, eT, iR, BT.ty, h2, h3, dT, dF, nL]); (repeat with_reducible refine Ai ?_); (try (refine hK _ ?_; clear hK K)); try with_reducible refine iC ?_))
   refine ⟨rfl, ?_⟩
   simp only [go_sem, fN, seval, eT, iR, BT.ty]
 rintro ⟨env, S⟩ ⟨e0, e1, e3, e4, e7, e10, s7, s10, n25, n26, n29, n16, n18, n20⟩
 simp only at e0 e1 e3 e4 e7 e10 s7 s10 n25 n26 n29 n16 n18 n20
 refine IWP.mid (fun x => x.env 0 = aInts l ∧ x.env 1 = aInt at_ ∧ x.env 3 = aTys (tys G) ∧ x.env 4 = aInt most ∧ x.env 7 = .one (.ptr 7 1 0 0) ∧ x.env 10 = .one (.ptr 10 1 0 0) ∧ x.S 7 = some (.box 27 [.st (.int .i64 ty.ty.base), .st (.list (ty.ty.subs.map encY))]) ∧ x.S 10 = some (.box 24 [.st (.int .i64 0), .st (.int .i64 0), .full []]) ∧ x.S 25 = none ∧ x.S 26 = none ∧ x.S 29 = none) ?_ ?_
 ·rcases hrest with ⟨h6, h4, a, n1, r1, r2, hTF, hf, hx, ho⟩ | hno
  ·have d2 := d2 (by omega)
   unfold TypedC at hf hx
   rw [aTy_two] at hf
   rcases ho with o1 | ⟨o1, o2⟩
   ·repeat' (first | (with_reducible first | refine W ?_ | refine Z0 ?_) | refine Cg _ (hraw) ?_ | refine Cg _ (p4) ?_ | refine Cg _ (hTF) ?_ | refine Cg _ (hf) ?_ | refine Cg _ (hx) ?_ | ((with_reducible first | refine Wo (fun K hK => ?_) | refine Wp ?_ | refine Wq ?_ | refine Wr ?_); (try simp only [go_sem, fN, seval, eT, iR, e0, e1, e3, e4, e7, e10, s7, s10, n16, n18, n20, h6, h4, d2.1, o1, dT, dF, nL]); (repeat with_reducible refine Ai ?_); (try (refine hK _ ?_; clear hK K)); try with_reducible refine iC ?_))
    refine ⟨rfl, ?_⟩
    simp only [go_sem, fN, seval, eT, iR, e0, e1, e3, e4, e7, e10, s7, s10, n25, n26, n29]
   ·repeat' (first | (with_reducible first | refine W ?_ | refine Z0 ?_) | refine Cg _ (hraw) ?_ | refine Cg _ (p4) ?_ | refine Cg _ (hTF) ?_ | refine Cg _ (hf) ?_ | refine Cg _ (hx) ?_ | ((with_reducible first | refine Wo (fun K hK => ?_) | refine Wp ?_ | refine Wq ?_ | refine Wr ?_); (try simp only [go_sem, fN, seval, eT, iR, e0, e1, e3, e4, e7, e10, s7, s10, n16, n18, n20, h6, h4, d2.1, o1, o2, dT, dF, nL]); (repeat with_reducible refine Ai ?_); (try (refine hK _ ?_; clear hK K)); try with_reducible refine iC ?_))
    refine ⟨rfl, ?_⟩
    simp only [go_sem, fN, seval, eT, iR, e0, e1, e3, e4, e7, e10, s7, s10, n25, n26, n29]
  ·by_cases h6 : 6 ≤ most
   ·have h4 : ¬ c4 = 0 := fun h => hno ⟨h6, h⟩
    repeat' (first | (with_reducible first | refine W ?_ | refine Z0 ?_) | refine Cg _ (hraw) ?_ | refine Cg _ (p4) ?_ | ((with_reducible first | refine Wo (fun K hK => ?_) | refine Wp ?_ | refine Wq ?_ | refine Wr ?_); (try simp only [go_sem, fN, seval, eT, iR, e0, e1, e3, e4, e7, e10, s7, s10, n16, n18, n20, h6, h4, dT, dF, nL]); (repeat with_reducible refine Ai ?_); (try (refine hK _ ?_; clear hK K)); try with_reducible refine iC ?_))
    refine ⟨rfl, ?_⟩
    simp only [go_sem, fN, seval, eT, iR, e0, e1, e3, e4, e7, e10, s7, s10, n25, n26, n29]
   ·repeat' (first | (with_reducible first | refine W ?_ | refine Z0 ?_) | ((with_reducible first | refine Wo (fun K hK => ?_) | refine Wp ?_ | refine Wq ?_ | refine Wr ?_); (try simp only [go_sem, fN, seval, eT, iR, e0, e1, e3, e4, e7, e10, s7, s10, n16, n18, n20, h6, dT, dF, nL]); (repeat with_reducible refine Ai ?_); (try (refine hK _ ?_; clear hK K)); try with_reducible refine iC ?_))
    refine ⟨rfl, ?_⟩
    simp only [go_sem, fN, seval, eT, iR, e0, e1, e3, e4, e7, e10, s7, s10, n25, n26, n29]
 clear e0 e1 e3 e4 e7 e10 s7 s10 n25 n26 n29 n16 n18 n20 hrest hmid hA1
 rintro ⟨env, S⟩ ⟨e0, e1, e3, e4, e7, e10, s7, s10, n25, n26, n29⟩
 simp only at e0 e1 e3 e4 e7 e10 s7 s10 n25 n26 n29
 repeat' (first | (with_reducible first | refine W ?_ | refine Z0 ?_) | ((with_reducible first | refine Wo (fun K hK => ?_) | refine Wp ?_ | refine Wq ?_ | refine Wr ?_); (try simp only [go_sem, fN, seval, eT, iR, e0, e1, e3, e4, e7, e10, s7, s10, n25, n26, n29, hml, dT, dF, nL]); (repeat with_reducible refine Ai ?_); (try (refine hK _ ?_; clear hK K)); try with_reducible refine iC ?_))
 refine IWP.loopD [25, 26] (fun m x => ∃ i, i ≤ G.length ∧ m = G.length - i ∧ tryAll rec low ty G ck at_ (G.length - i) i = T ∧ x.env 0 = aInts l ∧ x.env 1 = aInt at_ ∧ x.env 3 = aTys (tys G) ∧ x.env 4 = aInt most ∧ x.env 7 = .one (.ptr 7 1 0 0) ∧ x.env 10 = .one (.ptr 10 1 0 0) ∧ x.env 22 = aInt G.length ∧ x.env 23 = aInt i ∧
   x.S 7 = some (.box 27 [.st (.int .i64 ty.ty.base), .st (.list (ty.ty.subs.map encY))]) ∧ x.S 10 = some (.box 24 [.st (.int .i64 0), .st (.int .i64 0), .full []]) ∧ x.S 25 = none ∧ x.S 26 = none ∧ x.S 29 = none) G.length
  ⟨0, Nat.zero_le _, rfl, hT, by simp only [go_sem, fN, seval, eT, iR, e0], by simp only [go_sem, fN, seval, eT, iR, e1], by simp only [go_sem, fN, seval, eT, iR, e3], by simp only [go_sem, fN, seval, eT, iR, e4], by simp only [go_sem, fN, seval, eT, iR, e7], by simp only [go_sem, fN, seval, eT, iR, e10], by simp only [go_sem, fN, seval, eT, iR, hml], rfl, by simp only [go_sem, fN, seval, eT, iR, s7], by simp only [go_sem, fN, seval, eT, iR, s10], by simp only [go_sem, fN, seval, eT, iR, n25], by simp only [go_sem, fN, seval, eT, iR, n26], by simp only [go_sem, fN, seval, eT, iR, n29]⟩ ?_
 rintro m ⟨env, S⟩ ⟨i, hi, rfl, hTi, e0, e1, e3, e4, e7, e10, e22, e23, s7, s10, n25, n26, n29⟩
 simp only at e0 e1 e3 e4 e7 e10 e22 e23 s7 s10 n25 n26 n29
 by_cases hlt : (i : Int) < G.length
 case neg =>
  have : G.length - i = 0 := by omega
  rw [this] at hTi
  obtain rfl : none = T := hTi
  repeat' (first | (with_reducible first | refine W ?_ | refine Z0 ?_) | ((with_reducible first | refine Wo (fun K hK => ?_) | refine Wp ?_ | refine Wq ?_ | refine Wr ?_); (try simp only [go_sem, fN, seval, eT, iR, e0, e1, e3, e4, e7, e10, e22, e23, s7, s10, hlt, dT, dF, nL]); (repeat with_reducible refine Ai ?_); (try (refine hK _ ?_; clear hK K)); try with_reducible refine iC ?_))
  simp only [go_sem, fN, seval, FinQ, AS.result, resAll, resOne, tupV, e10]
  all_goals first | done | rfl | simp [Lm.nil, Lm.kind_mk, Lm.idx_mk, Lm.subs_mk]
 obtain ⟨j, hj⟩ : ∃ j, (i + ck) % G.length = j := ⟨_, rfl⟩
 have hjl : j < G.length := by rw [← hj]; exact Nat.mod_lt _ (by omega)
 obtain ⟨t0, ht0⟩ := get_lt hjl
 have hg0 := tys_get ht0
 have htm := tmod_range (x := (i : Int) + ck) (n := (G.length : Int)) (by omega) (by omega)
 have hjm : ((i : Int) + ck) % (G.length : Int) = (j : Int) := by
  rw [← hj, ← Int.natCast_add]
  rfl
 have hidx : ((G.length : Int) - 1 - (j : Int)).toNat = G.length - 1 - j := by omega
 have hst : tryAll rec low ty G ck at_ (G.length - i) i = if (argRun rec low ty t0 (.mk 1 j []) (at_ + 1)).2.2.2 = true ∧ (argRun rec low ty t0 (.mk 1 j []) (at_ + 1)).2.1 = ty then some ((argRun rec low ty t0 (.mk 1 j []) (at_ + 1)).1, (argRun rec low ty t0 (.mk 1 j []) (at_ + 1)).2.2.1) else tryAll rec low ty G ck at_ (G.length - (i + 1)) (i + 1) := by
  rw [show G.length - i = (G.length - (i + 1)) + 1 by omega, tryAll]
  simp only [hj, List.getD_eq_getElem?_getD, ht0, Option.getD_some]
 obtain ⟨R, hR⟩ : ∃ R, argRun rec low ty t0 (.mk 1 j []) (at_ + 1) = R := ⟨_, rfl⟩
 rw [hR] at hst
 have hgs0 := rgs t0 (List.mem_of_getElem? ht0)
 repeat' (first | (with_reducible first | refine W ?_ | refine Z0 ?_) | refine Cg _ (hraw) ?_ | refine Cg _ (pk) ?_ | refine Cg _ (lVar_a (j : Int)) ?_ | ((with_reducible first | refine Wo (fun K hK => ?_) | refine Wp ?_ | refine Wq ?_ | refine Wr ?_); (try simp only [go_sem, fN, seval, eT, iR, e0, e1, e3, e4, e7, e10, e22, e23, s7, s10, n25, n26, n29, hlt, hml, htm.1, hjm, hidx, hg0, dT, dF, nL]); (repeat with_reducible refine Ai ?_); (try (refine hK _ ?_; clear hK K)); try with_reducible refine iC ?_))
 refine IWP.loopD [29] (fun m x => ∃ (t : BT) (h : Lm) (n : Nat) (ok : Bool), m = 2 * t.sz + (if ok then 1 else 0) ∧ (ok = true → argRun rec low ty t h n = R ∧ n + t.sz / 2 * cap ≤ at_ + 1 + 9 * cap ∧ t.sz ≤ t0.sz) ∧ (ok = false → R = (h, t, n, false)) ∧ x.env 0 = aInts l ∧ x.env 1 = aInt at_ ∧ x.env 3 = aTys (tys G) ∧ x.env 4 = aInt most ∧ x.env 7 = .one (.ptr 7 1 0 0) ∧ x.env 10 = .one (.ptr 10 1 0 0) ∧ x.env 22 = aInt G.length ∧ x.env 23 = aInt i ∧ x.env 25 = .one (.ptr 25 1 0 0) ∧ x.env 26 = .one (.ptr 26 1 0 0) ∧ x.env 27 = aInt n ∧ x.env 28 = aBool ok ∧
   x.S 7 = some (.box 27 [.st (.int .i64 ty.ty.base), .st (.list (ty.ty.subs.map encY))]) ∧ x.S 10 = some (.box 24 [.st (.int .i64 0), .st (.int .i64 0), .full []]) ∧ x.S 25 = some (.box 27 [.st (.int .i64 t.ty.base), .st (.list (t.ty.subs.map encY))]) ∧ x.S 26 = some (.box 24 [.st (.int .i64 h.kind), .st (.int .i64 h.idx), .st (.list (h.subs.map encL))]) ∧ x.S 29 = none) (2 * t0.sz + 1)
  ⟨t0, .mk 1 j [], at_ + 1, true, rfl, fun _ => ⟨hR, Nat.add_le_add_left (Nat.mul_le_mul_right _ (by omega)) _, Nat.le_refl _⟩, fun e => (by cases e), by simp only [go_sem, fN, seval, eT, iR, e0], by simp only [go_sem, fN, seval, eT, iR, e1], by simp only [go_sem, fN, seval, eT, iR, e3], by simp only [go_sem, fN, seval, eT, iR, e4], by simp only [go_sem, fN, seval, eT, iR, e7], by simp only [go_sem, fN, seval, eT, iR, e10], by simp only [go_sem, fN, seval, eT, iR, e22], by simp only [go_sem, fN, seval, eT, iR, e23], rfl, rfl, rfl, rfl, by simp only [go_sem, fN, seval, eT, iR, s7], by simp only [go_sem, fN, seval, eT, iR, s10], rfl, rfl, by simp only [go_sem, fN, seval, eT, iR, n29]⟩ ?_
 rintro m ⟨env, S⟩ ⟨t, h, n, ok, rfl, hok, hno, e0, e1, e3, e4, e7, e10, e22, e23, f25, f26, f27, f28, s7, s10, s25, s26, n29⟩
 simp only at e0 e1 e3 e4 e7 e10 e22 e23 f25 f26 f27 f28 s7 s10 s25 s26 n29
 have hsame := sameTy_a t ty
 have hcase : ok = false ∨ (ok = true ∧ t = ty) ∨ (ok = true ∧ t ≠ ty ∧ ∃ k, t = .b k) ∨ (ok = true ∧ t ≠ ty ∧ most < 2 ∧ ∃ x y, t = .a x y) ∨ (ok = true ∧ t ≠ ty ∧ ¬ most < 2 ∧ ∃ x y, t = .a x y) := by
  cases ok with
  | false => exact .inl rfl
  | true =>
   by_cases h1 : t = ty
   ·exact .inr (.inl ⟨rfl, h1⟩)
   ·cases t with
    | b k => exact .inr (.inr (.inl ⟨rfl, h1, k, rfl⟩))
    | a x y =>
     by_cases h2 : most < 2
     ·exact .inr (.inr (.inr (.inl ⟨rfl, h1, h2, x, y, rfl⟩)))
     ·exact .inr (.inr (.inr (.inr ⟨rfl, h1, h2, x, y, rfl⟩)))
 have hout : ∀ (h' : Lm) (t' : BT) (n' : Nat) (ok' : Bool), R = (h', t', n', ok') → (if ok' = true ∧ t' = ty then some (h', n') else tryAll rec low ty G ck at_ (G.length - (i + 1)) (i + 1)) = T := fun h' t' n' ok' e => by
  rw [hst, e] at hTi
  exact hTi
 rcases hcase with rfl | ⟨rfl, h1⟩ | ⟨rfl, h1, k, rfl⟩ | ⟨rfl, h1, h2, x, y, rfl⟩ | ⟨rfl, h1, h2, x, y, rfl⟩
 case inl =>
  have hRR := hno rfl
  have hT2 := hout _ _ _ _ hRR
  rw [if_neg (by simp)] at hT2
  repeat' (first | (with_reducible first | refine W ?_ | refine Z0 ?_) | refine Cg _ (hsame) ?_ | ((with_reducible first | refine Wo (fun K hK => ?_) | refine Wp ?_ | refine Wq ?_ | refine Wr ?_); (try simp only [go_sem, fN, seval, eT, iR, e0, e1, e3, e4, e7, e10, e22, e23, f25, f26, f27, f28, s7, s10, s25, s26, n29, dT, dF, nL]); (repeat with_reducible refine Ai ?_); (try (refine hK _ ?_; clear hK K)); try with_reducible refine iC ?_))
  refine then_normal ?_
  refine ⟨G.length - (i + 1), by omega, i + 1, by omega, rfl, hT2, ?_⟩
  simp only [go_sem, fN, seval, AS.drop, dropS, AC.clears, AC.clear, AC.highs, AC.high, Bool.not_false, Bool.true_and, Bool.and_self, AV.purge, AV.purges, AC.purge, ABlk.purge, List.contains_cons, List.contains_nil, Nat.reduceBEq, Bool.or_self, Bool.or_false, Bool.false_or, Bool.or_true, eT, iR, e0, e1, e3, e4, e7, e10, e22, e23, f25, f26, f27, f28, s7, s10, s25, s26, n29]
  rfl
 case inr.inl =>
  have hRR := (hok rfl).1
  rw [argRun_stop rec _ ty (.inl h1)] at hRR
  have hT2 := hout _ _ _ _ hRR.symm
  rw [if_pos ⟨rfl, h1⟩] at hT2
  subst hT2
  rw [decide_eq_true h1] at hsame
  repeat' (first | (with_reducible first | refine W ?_ | refine Z0 ?_) | refine Cg _ (hsame) ?_ | ((with_reducible first | refine Wo (fun K hK => ?_) | refine Wp ?_ | refine Wq ?_ | refine Wr ?_); (try simp only [go_sem, fN, seval, eT, iR, e0, e1, e3, e4, e7, e10, e22, e23, f25, f26, f27, f28, s7, s10, s25, s26, n29, dT, dF, nL]); (repeat with_reducible refine Ai ?_); (try (refine hK _ ?_; clear hK K)); try with_reducible refine iC ?_))
  simp only [go_sem, fN, seval, FinQ, AS.result, resAll, resOne, tupV, e10]
  all_goals first | done | rfl | simp [Lm.kind_mk, Lm.idx_mk, Lm.subs_mk]
 case inr.inr.inl =>
  have hRR := (hok rfl).1
  rw [argRun_stop rec _ ty (.inr ⟨k, rfl⟩)] at hRR
  have hT2 := hout _ _ _ _ hRR.symm
  rw [if_neg (fun e => h1 e.2)] at hT2
  rw [decide_eq_false h1] at hsame
  simp only [BT.ty, Ty.base_mk, Ty.subs_mk, List.map_nil] at hsame s25
  repeat' (first | (with_reducible first | refine W ?_ | refine Z0 ?_) | refine Cg _ (hsame) ?_ | ((with_reducible first | refine Wo (fun K hK => ?_) | refine Wp ?_ | refine Wq ?_ | refine Wr ?_); (try simp only [go_sem, fN, seval, eT, iR, e0, e1, e3, e4, e7, e10, e22, e23, f25, f26, f27, f28, s7, s10, s25, s26, n29, dT, dF, nL]); (repeat with_reducible refine Ai ?_); (try (refine hK _ ?_; clear hK K)); try with_reducible refine iC ?_))
  refine then_normal ?_
  refine ⟨G.length - (i + 1), by omega, i + 1, by omega, rfl, hT2, ?_⟩
  simp only [go_sem, fN, seval, AS.drop, dropS, AC.clears, AC.clear, AC.highs, AC.high, Bool.not_false, Bool.true_and, Bool.and_self, AV.purge, AV.purges, AC.purge, ABlk.purge, List.contains_cons, List.contains_nil, Nat.reduceBEq, Bool.or_self, Bool.or_false, Bool.false_or, Bool.or_true, eT, iR, e0, e1, e3, e4, e7, e10, e22, e23, f25, f26, f27, f28, s7, s10, s25, s26, n29]
  rfl
 case inr.inr.inr.inl =>
  have hRR := (hok rfl).1
  rw [argRun, if_neg h1, if_pos (by rw [hlow]; simpa using h2)] at hRR
  have hT2 := hout _ _ _ _ hRR.symm
  rw [if_neg (by simp)] at hT2
  rw [decide_eq_false h1] at hsame
  rw [aTy_two] at hsame
  simp only [BT.ty, Ty.base_mk, Ty.subs_mk, List.map_cons, List.map_nil, encY_eq] at s25
  repeat' (first | (with_reducible first | refine W ?_ | refine Z0 ?_) | refine Cg _ (hsame) ?_ | ((with_reducible first | refine Wo (fun K hK => ?_) | refine Wp ?_ | refine Wq ?_ | refine Wr ?_); (try simp only [go_sem, fN, seval, eT, iR, e0, e1, e3, e4, e7, e10, e22, e23, f25, f26, f27, f28, s7, s10, s25, s26, n29, h2, dT, dF, nL]); (repeat with_reducible refine Ai ?_); (try (refine hK _ ?_; clear hK K)); try with_reducible refine iC ?_))
  refine then_normal ?_
  refine ⟨G.length - (i + 1), by omega, i + 1, by omega, rfl, hT2, ?_⟩
  simp only [go_sem, fN, seval, AS.drop, dropS, AC.clears, AC.clear, AC.highs, AC.high, Bool.not_false, Bool.true_and, Bool.and_self, AV.purge, AV.purges, AC.purge, ABlk.purge, List.contains_cons, List.contains_nil, Nat.reduceBEq, Bool.or_self, Bool.or_false, Bool.false_or, Bool.or_true, eT, iR, e0, e1, e3, e4, e7, e10, e22, e23, f25, f26, f27, f28, s7, s10, s25, s26, n29]
  rfl
 case inr.inr.inr.inr =>
  obtain ⟨hRR, hn1, hn2⟩ := hok rfl
  have hz : (BT.a x y).sz = 1 + x.sz + y.sz := rfl
  have px := sz_pos x
  have py := sz_pos y
  have q1 : 1 * cap ≤ (BT.a x y).sz / 2 * cap := Nat.mul_le_mul_right _ (by rw [hz]; omega)
  have q2 : (y.sz / 2 + 1) * cap ≤ (BT.a x y).sz / 2 * cap := Nat.mul_le_mul_right _ (by rw [hz]; omega)
  rw [Nat.add_mul, Nat.one_mul] at q2
  have hlev := (lev_step most.toNat (by omega)).2.1
  have hcall := hrec n x h2 (by omega) (by omega)
  have hcn := hcap n x
  rw [argRun, if_neg h1, if_neg (by rw [hlow]; simpa using h2)] at hRR
  unfold TypedC at hcall
  generalize rec n x = r at hcall hRR hcn
  obtain ⟨r1, r2, r3⟩ := r
  simp only at hcall hRR hcn
  have d2 := d2 (by omega)
  rw [decide_eq_false h1] at hsame
  have hap := lApp_a h r1
  rw [aTy_two] at hsame
  simp only [BT.ty, Ty.base_mk, Ty.subs_mk, List.map_cons, List.map_nil, encY_eq] at s25
  repeat' (first | (with_reducible first | refine W ?_ | refine Z0 ?_) | refine Cg _ (hsame) ?_ | refine Cg _ (hcall) ?_ | refine Cg _ (hap) ?_ | ((with_reducible first | refine Wo (fun K hK => ?_) | refine Wp ?_ | refine Wq ?_ | refine Wr ?_); (try simp only [go_sem, fN, seval, eT, iR, e0, e1, e3, e4, e7, e10, e22, e23, f25, f26, f27, f28, s7, s10, s25, s26, n29, h2, d2.1, dT, dF, nL]); (repeat with_reducible refine Ai ?_); (try (refine hK _ ?_; clear hK K)); try with_reducible refine iC ?_))
  refine then_normal ⟨2 * y.sz + (if r3 then 1 else 0), by rw [hz]; cases r3 <;> simp <;> omega, y, Lm.a h r1, r2, r3, rfl, fun e => ?_, fun e => ?_, ?_⟩
  ·subst e
   rw [if_pos rfl] at hRR
   exact ⟨hRR, by omega, by omega⟩
  ·subst e
   rw [if_neg (by simp)] at hRR
   exact hRR.symm
  ·simp only [go_sem, fN, seval, AS.drop, dropS, AC.clears, AC.clear, AC.highs, AC.high, Bool.not_false, Bool.true_and, Bool.and_self, AV.purge, AV.purges, AC.purge, ABlk.purge, List.contains_cons, List.contains_nil, Nat.reduceBEq, Bool.or_self, Bool.or_false, Bool.false_or, Bool.or_true, eT, iR, e0, e1, e3, e4, e7, e10, e22, e23, f25, f26, f27, f28, s7, s10, s25, s26, n29]
   all_goals first | done | trivial | rfl | simp [Lm.a, Lm.kind_mk, Lm.idx_mk, Lm.subs_mk, encL_eq]
theorem longMade_a (l : List Int) (m1 m2 m3 : Int) (hm : l.length ≤ maxLen) (hl : ∀ n ∈ l, inR .i64 n) (h1 : inR .i64 m1) (h2 : inR .i64 m2) (h3 : inR .i64 m3) : ACalls Tryz.prog 4 [aInts l, aInt m1, aInt m2, aInt m3] (aBool true) := by
 by_cases h256 : (256 : Int) < l.length
 ·refine ok_L_LongMade.ac fun C hC => ?_
  unfold ir_L_LongMade
  repeat' (first | (with_reducible first | refine W ?_ | refine Z0 ?_) | ((with_reducible first | refine Wo (fun K hK => ?_) | refine Wp ?_ | refine Wq ?_ | refine Wr ?_); (try simp only [go_sem, fN, seval, eT, iR, h256, dT, dF, nL]); (repeat with_reducible refine Ai ?_); (try (refine hK _ ?_; clear hK K)); try with_reducible refine iC ?_))
  simp only [go_sem, fN, seval, FinQ, AS.result, resAll, resOne, tupV]
 have p1 := pick_a m1 9 h1 (by decide)
 have r1 := pickI_range m1 9 (by decide)
 have p2 := pick_a m2 14 h2 (by decide)
 have r2 := pickI_range m2 14 (by decide)
 have p3 := pick_a m3 31 h3 (by decide)
 have r3 := pickI_range m3 31 (by decide)
 generalize pickI m1 9 = c1 at *
 generalize pickI m2 14 = c2 at *
 generalize pickI m3 31 = c3 at *
 obtain ⟨b, n, hb, hn, hz⟩ := typeFrom_s l hl hm (3 + c1).toNat 0 (by omega) (by omega)
 rw [Int.toNat_of_nonneg (by omega)] at hb
 have hb : ACalls Tryz.prog 18 [aInts l, aInt 0, aInt (3 + c1)] (.tup [aTy b.ty, aInt n]) := hb
 have hz : b.sz ≤ 7 := by split at hz <;> (try split at hz) <;> omega
 have e1 : (2 + c2).toNat < 16 := by omega
 have hl2 : lev (2 + c2).toNat ≤ 2 := by unfold lev; split <;> (try split) <;> omega
 have hc1 := capT_step (2 + c2).toNat e1 (by omega)
 obtain ⟨r, hr, _⟩ := typed_a l hl hm _ n b [] (2 + c2) (Nat.le_refl _) ⟨by omega, by omega, by omega, fun x hx => by simp at hx, by simp; omega, by unfold wide; rw [if_neg (by omega)]; omega⟩
 unfold TypedC at hr
 have hr : ACalls Tryz.prog 20 [aInts l, aInt n, aTy b.ty, aTys [], aInt (2 + c2)] (.tup [aLm r.1, aInt r.2.1, aBool r.2.2]) := hr
 have i1 := longSays_a r.1 b.ty c3
 have hsz := lsizeR_a r.1 40 (by decide) (by decide)
 generalize b.ty = y at *
 obtain ⟨t, n2, ok⟩ := r
 simp only at hr i1 hsz
 cases ok with
 | false =>
  refine ok_L_LongMade.ac fun C hC => ?_
  unfold ir_L_LongMade
  repeat' (first | (with_reducible first | refine W ?_ | refine Z0 ?_) | refine Cg _ (p1) ?_ | refine Cg _ (hb) ?_ | refine Cg _ (p2) ?_ | refine Cg _ (hr) ?_ | ((with_reducible first | refine Wo (fun K hK => ?_) | refine Wp ?_ | refine Wq ?_ | refine Wr ?_); (try simp only [go_sem, fN, seval, eT, iR, h256, dT, dF, nL]); (repeat with_reducible refine Ai ?_); (try (refine hK _ ?_; clear hK K)); try with_reducible refine iC ?_))
  simp only [go_sem, fN, seval, FinQ, AS.result, resAll, resOne, tupV]
 | true =>
  by_cases h40 : (40 : Int) < capTo t.size 40
  ·refine ok_L_LongMade.ac fun C hC => ?_
   unfold ir_L_LongMade
   repeat' (first | (with_reducible first | refine W ?_ | refine Z0 ?_) | refine Cg _ (p1) ?_ | refine Cg _ (hb) ?_ | refine Cg _ (p2) ?_ | refine Cg _ (hr) ?_ | refine Cg _ (hsz) ?_ | ((with_reducible first | refine Wo (fun K hK => ?_) | refine Wp ?_ | refine Wq ?_ | refine Wr ?_); (try simp only [go_sem, fN, seval, eT, iR, h256, h40, dT, dF, nL]); (repeat with_reducible refine Ai ?_); (try (refine hK _ ?_; clear hK K)); try with_reducible refine iC ?_))
   simp only [go_sem, fN, seval, FinQ, AS.result, resAll, resOne, tupV]
  ·refine ok_L_LongMade.ac fun C hC => ?_
   unfold ir_L_LongMade
   repeat' (first | (with_reducible first | refine W ?_ | refine Z0 ?_) | refine Cg _ (p1) ?_ | refine Cg _ (hb) ?_ | refine Cg _ (p2) ?_ | refine Cg _ (hr) ?_ | refine Cg _ (hsz) ?_ | refine Cg _ (p3) ?_ | refine Cg _ (i1) ?_ | ((with_reducible first | refine Wo (fun K hK => ?_) | refine Wp ?_ | refine Wq ?_ | refine Wr ?_); (try simp only [go_sem, fN, seval, eT, iR, h256, h40, dT, dF, nL]); (repeat with_reducible refine Ai ?_); (try (refine hK _ ?_; clear hK K)); try with_reducible refine iC ?_))
   simp only [go_sem, fN, seval, FinQ, AS.result, resAll, resOne, tupV]

open Go.ChangeShapes Go.WideShapes Go.ChangeAt
section
variable {H : Type} {enc : TypeId × Value → H} {P : Program}
theorem trodAll_stays (hl : laidOutB P = true) : ∀ {ts : List TypeId} {vs : List Value} {ds : List (DataW H)} {ps : List MemPlace} {W W' : World} {sp : Nat → Bool},
  (∀ t ∈ ts, P.readableRec t = true ∧ t < P.types.size) → DataW.TrodAll enc P W 0 (fun _ => true) true ts vs ds ps → (∀ p ∈ ps, W.sameAt W' p) → (∀ p ∈ ps, sp p.block = true) → DataW.TrodAll enc P W' 0 sp true ts vs ds ps
 | [], [], [], _, _, _, _, _, h, _, _ => h
 | _ :: _, _ :: _, _ :: _, _, _, _, _, hT, ⟨p, q, h1, h2, e⟩, hsame, hs => ⟨p, q, WideElems.Trod_stays hl (hT _ (List.mem_cons.2 (Or.inl rfl))).1 (hT _ (List.mem_cons.2 (Or.inl rfl))).2 h1 (fun x hx => hsame x (by rw [e]; exact List.mem_append_left _ hx)) (fun x hx => hs x (by rw [e]; exact List.mem_append_left _ hx)),
   trodAll_stays hl (fun t ht => hT t (List.mem_cons.2 (Or.inr ht))) h2 (fun x hx => hsame x (by rw [e]; exact List.mem_append_right _ hx)) (fun x hx => hs x (by rw [e]; exact List.mem_append_right _ hx)), e⟩
 | [], _ :: _, _, _, _, _, _, _, h, _, _ => h.elim
 | [], [], _ :: _, _, _, _, _, _, h, _, _ => h.elim
 | _ :: _, [], _, _, _, _, _, _, h, _, _ => h.elim
 | _ :: _, _ :: _, [], _, _, _, _, _, h, _, _ => h.elim
theorem law_post {f : Func} {s : ChangeSpec} {apart fresh handsOn : Bool} {W W' : World} {args : Array Value} {ds : List (DataW H)} {before : List MemPlace} {tb : TypeId}
  (hW : DataW.Whole enc P f.params.toList s.vars apart W args.toList ds [] before) (hv : s.vars = []) (hr : f.resultTypes = #[tb]) (htb : P.underlying tb = some .bool)
  (hres : (s.fn H (ds ++ [])).results = [.lit (.bool true)]) (hargs : (s.fn H (ds ++ [])).args = ds) (hvs : (s.fn H (ds ++ [])).vars = [])
  (hl : laidOutB P = true) (hT : (f.params.toList.all fun t => P.readableRec t && decide (t < P.types.size)) = true) (hb : Below W.heap.size W W') :
  s.post enc P f apart fresh handsOn false W args (.bool true) W' := by
 have hlt : ∀ p ∈ before, p.block < W.heap.size := fun p hp => hW.lt p hp
 have hT' : ∀ t ∈ f.params.toList, P.readableRec t = true ∧ t < P.types.size := fun t ht => by
  have := List.all_eq_true.1 hT t ht
  simpa using this
 obtain ⟨p, q, hA, hV, rfl, hz, hn⟩ := hW
 rw [hv] at hV
 obtain ⟨_, rfl⟩ := trodVars_none hV
 have hargs' : ∀ sp : Nat → Bool, (∀ x ∈ p, sp x.block = true) → DataW.TrodAll enc P W' 0 sp true f.params.toList args.toList ds p := fun sp hsp =>
  trodAll_stays hl hT' hA (fun x hx => hb.same (hlt x (by simpa using hx))) hsp
 have hres' : ∀ (b : Nat) (sp : Nat → Bool) (hd : Bool), DataW.TrodAll enc P W' b sp hd f.resultTypes.toList ((Value.bool true).resultList f.resultTypes.size) (s.fn H (ds ++ [])).results [] := fun b sp hd => by
  rw [hres, hr]
  exact trodAll_cons_mk (shut_bool htb true) trodAll_mk0
 refine ⟨ds, [], p ++ [], [], p, [], ⟨p, [], hA, by rw [hv]; exact rfl, rfl, hz, hn⟩, hres' _ _ _, by rw [hargs]; exact hargs' _ (fun x hx => by simpa using hlt x (by simpa using hx)), by rw [hv, hvs]; exact rfl,
  World.keptBut_mono (fun x hx => ⟨hx, Or.inr (by simpa using hx)⟩) (hb.frame (· ∈ p ++ [])), fun h => by cases h⟩
variable {W : World} {sp : Nat → Bool} {hd : Bool} {base : Nat}
def sto (W : World) : Sto := look W
theorem fit_sto (W : World) : Fit (sto W) W := fun _ _ h => h
theorem spot_none {W : World} {a : Addr} {v : Value} (h : W.cell? a = some v) : a.spot = none := by
 cases hs : a.spot with
 | none => rfl
 | some n =>
  unfold World.cell? at h
  split at h
  ·simp [hs] at h
  ·cases h
theorem choose_list {α : Type} {p : Nat → α → Prop} {n : Nat} (h : ∀ i, i < n → ∃ b, p i b) : ∃ xs : List α, xs.length = n ∧ ∀ i (h : i < xs.length), p i xs[i] := by
 induction n with
 | zero => exact ⟨[], rfl, fun i h => absurd h (by simp)⟩
 | succ m ih =>
  obtain ⟨xs, h1, h2⟩ := ih (fun i hi => h i (by omega))
  obtain ⟨b, h3⟩ := h m (by omega)
  refine ⟨xs ++ [b], by simp [h1], fun i hi => ?_⟩
  by_cases him : i < xs.length
  ·rw [List.getElem_append_left him]
   exact h2 i him
  ·have : i = xs.length := by simp at hi; omega
   subst this
   rw [show (xs ++ [b])[xs.length]'hi = b by simp, h1]
   exact h3
theorem list_of_trod {α : Type} {e0 : α → List SV} {t e : TypeId} {k : Nat} {fuel : Nat} {cs : List Value} {x : DataW H × List MemPlace} (ht : P.underlying t = some (.slice e)) (hc : P.cellsOf e = k) (hlen : ∀ a, (e0 a).length = k) (hk : 0 < k)
  (f : ∀ (n : Nat) (cs : List Value) (y : DataW H × List MemPlace), n < fuel → DataW.trod enc P W base sp hd n e cs = some y → ∃ a : α, All2 (SRep (sto W)) cs (e0 a))
  (h : DataW.trod enc P W base sp hd fuel t cs = some x) (hs : hardRows = true → k < 2 := by decide) : ∃ xs : List α, All2 (SRep (sto W)) cs [.list (xs.map e0)] := by
 rcases DataW.trod_slice ht h with ⟨rfl, _⟩ | ⟨a, len, cap, elems, rest, n, hfu, rfl, _, hb, hl, hm, hlen', hel, _, _⟩
 ·exact ⟨[], .cons srep_nil .nil⟩
 ·have key : ∀ i, i < len → ∃ (b : α), ∃ (cs' : List Value), cs'.length = k ∧ (∀ j u, cs'[j]? = some u → W.cell? ((a.add (i * k)).add j) = some u) ∧ All2 (SRep (sto W)) cs' (e0 b) := fun i hi => by
   have h1 := hel i hi
   rw [List.getElem?_eq_getElem (by omega)] at h1
   obtain ⟨cs', h2, h3⟩ := Option.bind_eq_some_iff.1 h1
   obtain ⟨_, h4, h5⟩ := World.cells?_some h2
   obtain ⟨b, hb⟩ := f n cs' _ (by omega) h3
   rw [hc] at h4 h5
   refine ⟨b, cs', h4, fun j u hj => ?_, hb⟩
   rw [h5 j (by have := (List.getElem?_eq_some_iff.1 hj).1; omega)]
   exact hj
  obtain ⟨xs, hxl, hxs⟩ : ∃ xs : List α, xs.length = len ∧ ∀ i (h : i < xs.length), ∃ cs' : List Value, cs'.length = k ∧ (∀ j u, cs'[j]? = some u → W.cell? ((a.add (i * k)).add j) = some u) ∧ All2 (SRep (sto W)) cs' (e0 xs[i]) := choose_list key
  have cell : ∀ m y j z, (xs.map e0)[m]? = some y → y[j]? = some z → ∃ v, W.cell? ⟨a.block, a.off + m * k + j, none⟩ = some v ∧ SRep (sto W) v z := fun m y j z hy hz => by
   rw [List.getElem?_map, Option.map_eq_some_iff] at hy
   obtain ⟨b, hb', rfl⟩ := hy
   obtain ⟨hm', hbe⟩ := List.getElem?_eq_some_iff.1 hb'
   obtain ⟨cs', c1, c2, c3⟩ := hxs m hm'
   rw [hbe] at c3
   obtain ⟨v, v1, v2⟩ := c3.get hz
   refine ⟨v, ?_, v2⟩
   have := c2 j v v1
   have hsp := spot_none this
   rw [← this]
   congr 1
   have h7 : ((a.add (m * k)).add j).block = a.block ∧ ((a.add (m * k)).add j).off = a.off + m * k + j := by
    unfold Addr.add
    split <;> split <;> simp_all
   generalize (a.add (m * k)).add j = q at *
   cases q
   simp_all
  refine ⟨xs, .cons (.list (b := a.block) (o := a.off) (w := k) (fun m j => (W.cell? ⟨a.block, a.off + m * k + j, none⟩).getD undef) (by simp [hxl]) hl hm (by simp) (fun h0 => ?_) (fun y hy => ?_) (fun q1 q2 _ => absurd (hs q1) (by omega)) (fun m y j z hy hz => ?_) (fun m y j z hy hz => ?_)) .nil⟩
  ·obtain ⟨cs', h1, h2, h3⟩ := hxs 0 (by omega)
   have h4 : W.cell? a = some (cs'[0]'(by omega)) := by
    have := h2 0 _ (List.getElem?_eq_getElem (by omega))
    simpa [Addr.add] using this
   have := spot_none h4
   cases a
   simp_all
  ·obtain ⟨b, _, rfl⟩ := List.mem_map.1 hy
   exact hlen b
  ·obtain ⟨v, v1, v2⟩ := cell m y j z hy hz
   show W.cell? _ = _
   rw [v1]; rfl
  ·obtain ⟨v, v1, v2⟩ := cell m y j z hy hz
   rw [v1]; exact v2
theorem int_trod {t : TypeId} (ht : P.underlying t = some (.int .i64)) (fuel : Nat) (cs : List Value) (x : DataW H × List MemPlace) (h : DataW.trod enc P W base sp hd fuel t cs = some x) : ∃ n : Int, All2 (SRep (sto W)) cs (encI n) := by
 obtain ⟨n, rfl, _, hn⟩ := DataW.trod_int ht h
 exact ⟨n, .cons (.int (by rw [inR_i64]; simpa [Lit.wf, IntKind.min, IntKind.max, IntKind.signed, IntKind.bits] using hn)) .nil⟩
theorem arg_int {t : TypeId} (ht : P.underlying t = some (.int .i64)) {r : Reach} {b0 : Nat} {v : Value} {d : DataW H} {p : List MemPlace} (hv : Value.okWide P W r b0 t v) (h : DataW.Trod enc P W base sp hd t v d p) : ∃ n : Int, VRep (sto W) noS noH v (aInt n) := by
 obtain ⟨n, rfl⟩ := okWide_int ht hv
 obtain ⟨fuel, hf⟩ := h
 obtain ⟨m, hm⟩ := int_trod ht fuel _ _ hf
 have : All2 (SRep (sto W)) [.int .i64 n] (encI m) := hm
 cases this with
 | cons h1 h2 => exact ⟨m, .one (.st h1)⟩
theorem arg_list {α : Type} {e0 : α → List SV} {t e : TypeId} {k : Nat} (ht : P.underlying t = some (.slice e)) (hc : P.cellsOf e = k) (hlen : ∀ a, (e0 a).length = k) (hk : 0 < k) {r : Reach} {b0 : Nat} {v : Value} {d : DataW H} {p : List MemPlace} (hv : Value.okWide P W r b0 t v)
  (f : ∀ (n : Nat) (cs : List Value) (y : DataW H × List MemPlace), DataW.trod enc P W base sp hd n e cs = some y → ∃ a : α, All2 (SRep (sto W)) cs (e0 a)) (h : DataW.Trod enc P W base sp hd t v d p) (hs : hardRows = true → k < 2 := by decide) : ∃ xs : List α, VRep (sto W) noS noH v (.one (.st (.list (xs.map e0)))) := by
 obtain ⟨a, len, cap, rfl⟩ := okWide_slice ht hv
 obtain ⟨fuel, hf⟩ := h
 obtain ⟨xs, hxs⟩ := list_of_trod ht hc hlen hk (fun n cs y _ hy => f n cs y hy) hf hs
 have : All2 (SRep (sto W)) [.slice a len cap] [.list (xs.map e0)] := hxs
 cases this with
 | cons h1 h2 => exact ⟨xs, .one (.st h1)⟩
end
theorem acalls_true {P : Program} {f : FuncId} {xs : List AV} {b : Bool} (h : ACalls P f xs (aBool b)) {σ : Sto} {w : World} {vs : List Value} (hg : GlobIn σ) (hf : Fit σ w) (hv : All2 (VRep σ noS noH) vs xs) :
  Calls P f vs.toArray w fun e w' => e = .returned (.bool b) ∧ Below w.heap.size w w' := (h σ w vs hg hf hv).mono fun e w' ⟨v, σ', he, hv, _, _, hb⟩ => by
 rw [vrep_bool hv] at he
 exact ⟨he, hb⟩

theorem laid_at {P : Program} {W : World} {x : String × DataW Unit} : ∀ {l : List (String × DataW Unit)} {ps : List MemPlace}, DataW.LaidVars P W l ps → x ∈ l → ∃ q, DataW.LaidVars P W [x] q
 | [], _, _, hx => by simp at hx
 | y :: l, ps, h, hx => by
  obtain ⟨n, d⟩ := y
  obtain ⟨g, t, cs, fuel, p, q, a1, a2, a3, a4, a5, a6⟩ := h
  rcases List.mem_cons.1 hx with rfl | hx
  ·exact ⟨_, g, t, cs, fuel, p, [], a1, a2, a3, a4, rfl, rfl⟩
  ·exact laid_at a5 hx
theorem size_sto {P : Program} {W : World} {n : String} {g : Nat} {cs : Array Value} (hg : P.globalNamed n = some g) (h : W.var? P n = some cs) : sto W ⟨g, cs.size, some 0⟩ = some .nilFunc := by
 unfold World.var? at h
 rw [hg] at h
 simp only [Option.bind_some] at h
 show look W _ = _
 unfold look
 simp only
 cases hb : W.heap[g]? with
 | none => rw [hb] at h; cases h
 | some o =>
  rw [hb] at h
  cases o <;> simp_all
theorem glob_tab {P : Program} {W : World} {name : String} {g : Nat} {t e : TypeId} {n : Nat} {k : IntKind} {zs : List Int} (hg : P.globalNamed name = some g) (hty : (P.globals[g]?).map (·.type) = some t) (ht : P.underlying t = some (.array n e)) (he : P.underlying e = some (.int k))
  (hce : P.cellsOf e = 1) (hct : P.cellsOf t = n) (hin : ∀ z ∈ zs, inR k z) {ps : List MemPlace} (h : DataW.LaidVars P W [(name, Lib.tabData k zs)] ps) : GlobAt (sto W) (g, zs.map fun z => .int k z) := by
 obtain ⟨g0, t0, cs0, f0, p0, q0, hg0, ht0, hv0, hd0, _, _⟩ := h
 obtain rfl := Option.some.inj (hg.symm.trans hg0)
 obtain rfl := Option.some.inj (hty.symm.trans ht0)
 have hc := Lib.cells_of_tab ht he hce hct hd0
 have hs : cs0.size = zs.length := by
  have := congrArg List.length hc
  simpa using this
 refine ⟨⟨fun j => (zs[j]?).elim .nilFunc (.int k), fun j a ha => ?_, fun j a ha => ?_⟩, ?_⟩
 ·rw [List.getElem?_map, Option.map_eq_some_iff] at ha
  obtain ⟨z, hz, rfl⟩ := ha
  have h1 := World.var?_cell hg0 hv0 j
  have h2 : cs0[j]? = some (.int k z) := by
   have h3 := congrArg (fun l : List Value => l[j]?) hc
   simpa [hz] using h3
  show look W _ = _
  rw [look_none rfl, Nat.zero_add, h1, h2]
  simp only [hz, Option.elim]
 ·rw [List.getElem?_map, Option.map_eq_some_iff] at ha
  obtain ⟨z, hz, rfl⟩ := ha
  simp only [hz, Option.elim]
  exact .int (hin z (List.mem_of_getElem? hz))
 ·have := size_sto hg0 hv0
  rw [hs] at this
  simpa using this
theorem in_i64 {zs : List Int} (h : zs.all (fun z => decide (-9223372036854775808 ≤ z) && decide (z ≤ 9223372036854775807)) = true) : ∀ z ∈ zs, inR .i64 z := fun z hz => by
 have := List.all_eq_true.1 h z hz
 rw [inR_i64]
 simpa using this
theorem in_u64 {zs : List Int} (h : zs.all (fun z => decide (0 ≤ z) && decide (z ≤ 18446744073709551615)) = true) : ∀ z ∈ zs, inR .u64 z := fun z hz => by
 have := List.all_eq_true.1 h z hz
 simp only [Bool.and_eq_true, decide_eq_true_eq] at this
 simp [inR, IntKind.min, IntKind.max, IntKind.signed, IntKind.bits]
 omega
theorem glob_subs {W : World} {ps : List MemPlace} (h : DataW.LaidVars Tryz.prog W [("metaprune/lambda.subs", Rows.laid_metaprune_lambda_subs)] ps) : GlobAt (sto W) (0, [.int .i64 0, .int .i64 0, .int .i64 1, .int .i64 2, .int .i64 0, .int .i64 0]) := glob_tab (k := .i64) (zs := [0, 0, 1, 2, 0, 0]) (by kernel_rfl) (by kernel_rfl) Tryz.underlying145 Tryz.underlying3 (by kernel_rfl) (by kernel_rfl) (in_i64 (by decide)) h
theorem glob_pow {W : World} {ps : List MemPlace} (h : DataW.LaidVars Tryz.prog W [("internal/strconv.uint64pow10", Rows.laid_internal_strconv_uint64pow10)] ps) : GlobAt (sto W) (1, pow10s) := glob_tab (k := .u64) (zs := Lib.pow10Tab) (by kernel_rfl) (by kernel_rfl) Tryz.underlying171 Tryz.underlying158 (by kernel_rfl) (by kernel_rfl) (in_u64 (by decide)) h

section
variable {H : Type} {enc : TypeId × Value → H} {W : World} {sp : Nat → Bool} {hd : Bool} {base : Nat}
end

section
variable {H : Type} {enc : TypeId × Value → H} {W : World} {sp : Nat → Bool} {hd : Bool} {base : Nat}
end
theorem globIn_two {W : World} {l : List (String × DataW Unit)} (hs : ("metaprune/lambda.subs", Rows.laid_metaprune_lambda_subs) ∈ l) (hin : ("internal/strconv.uint64pow10", Rows.laid_internal_strconv_uint64pow10) ∈ l) {ps : List MemPlace} (h : DataW.LaidVars Tryz.prog W l ps) : GlobIn (sto W) := by
 obtain ⟨_, h0⟩ := laid_at (x := ("metaprune/lambda.subs", Rows.laid_metaprune_lambda_subs)) h hs
 obtain ⟨_, h1⟩ := laid_at (x := ("internal/strconv.uint64pow10", Rows.laid_internal_strconv_uint64pow10)) h hin
 intro y hy
 simp only [globs, List.mem_cons, List.not_mem_nil, or_false] at hy
 rcases hy with rfl | rfl
 ·exact glob_subs h0
 ·exact glob_pow h1

section
variable {H : Type} {enc : TypeId × Value → H} {W : World} {sp : Nat → Bool} {hd : Bool} {base : Nat}
set_option maxRecDepth 100000 in
theorem arg_ints {r : Reach} {b0 : Nat} {v : Value} {d : DataW H} {p : List MemPlace} (hv : Value.okWide Tryz.prog W r b0 47 v) (h : DataW.Trod enc Tryz.prog W base sp hd 47 v d p) : ∃ l : List Int, VRep (sto W) noS noH v (aInts l) :=
 arg_list (k := 1) Tryz.underlying47 (by kernel_rfl) (fun _ => rfl) (by decide) hv (int_trod Tryz.underlying3) h
end

end Go.Proofs.YtkjlddlllofenaaGreatDoor
namespace Go.Proofs.YtkjlddlllofenaaGreatDoor.longMade
open Go Go.RowKit Go.ChangeShapes Go.WideShapes Go.ChangeAt
set_option linter.unusedVariables false
theorem globInM {W : World} (h : laidMetH Tryz.prog Rows.longMadeRow.laid W) : GlobIn (sto W) := by
 rw [MakeChecks.laidMetH_plain _ _ _ (by kernel_rfl)] at h
 obtain ⟨ps, h, _, _⟩ := h
 exact globIn_two (by simp [Rows.longMadeRow]) (by simp [Rows.longMadeRow]) h
theorem own : ownKnob Tryz.prog.godebug = none := by kernel_rfl
theorem laid : laidOutB Tryz.prog = true := by kernel_rfl
set_option maxRecDepth 100000 in
theorem contract (H : Type) (enc : TypeId × Value → H) (W : World) (base : Nat) (args : Array Value) (ds gs : List (DataW H)) (before : List MemPlace) (hL : laidMetH Tryz.prog Rows.longMadeRow.laid W)
  (hval : ∀ (j : Nat) t v, Tryz.f4.params[j]? = some t → args[j]? = some v → Value.okWide Tryz.prog W .any base t v)
  (hW : DataW.Whole enc Tryz.prog Tryz.f4.params.toList Rows.longMadeSpec.vars false W args.toList ds gs before) :
  Calls Tryz.prog 4 args W fun e W' => ∃ v, e = .returned v ∧ Rows.longMadeSpec.post enc Tryz.prog Tryz.f4 false true false false W args v W' := by
 have hG := globInM hL
 obtain ⟨p, q, hA0, hV, rfl, hfz, hnd⟩ := id hW
 obtain ⟨rfl, rfl⟩ := trodVars_none hV
 have hA : DataW.TrodAll enc Tryz.prog W 0 (fun _ => true) true Tryz.f4.params.toList args.toList ds p := hA0
 rw [Tryz.params4] at hA hval
 obtain ⟨v0, v1, v2, v3, d0, d1, d2, d3, p0, p1, p2, p3, hargs, rfl, rfl, h0, h1, h2, h3⟩ := trodAll_four hA
 obtain rfl : args = #[v0, v1, v2, v3] := by cases args; simp_all
 obtain ⟨l, r0⟩ := arg_ints (hval 0 47 v0 rfl rfl) h0
 obtain ⟨m1, r1⟩ := arg_int Tryz.underlying3 (hval 1 3 v1 rfl rfl) h1
 obtain ⟨m2, r2⟩ := arg_int Tryz.underlying3 (hval 2 3 v2 rfl rfl) h2
 obtain ⟨m3, r3⟩ := arg_int Tryz.underlying3 (hval 3 3 v3 rfl rfl) h3
 have k0 := known_ints r0.known
 refine (acalls_true (longMade_a l m1 m2 m3 k0.1 k0.2 r1.known r2.known r3.known) hG (fit_sto W) (vs := [v0, v1, v2, v3]) (.cons r0 (.cons r1 (.cons r2 (.cons r3 .nil))))).mono fun e W' ⟨he, hb⟩ => ⟨_, he, ?_⟩
 exact law_post hW rfl rfl Tryz.underlying4 rfl rfl rfl laid (by kernel_rfl) hb
theorem door_met (os : Os) (args : Array Value) : laidMetH Tryz.prog Rows.longMadeRow.laid ((World.doorLaid Tryz.prog 400 os).forCall (fun _ _ => 0) ⟨#[], args, []⟩).memory :=
 laidMetH_of_parts3 (fuel := 8) (laidMet_of_run' 8 (by kernel_rfl) (by kernel_rfl)) (by kernel_rfl) (by kernel_rfl)
set_option maxRecDepth 100000 in
theorem lifted (os : Os) (started : os.Started) (H : Type) (enc : TypeId × Value → H) :
  ReturnsInHanded {} Tryz.checked os 4 .any (fun w args => (Rows.longMadeSpec.pre enc Tryz.prog Tryz.f4 [] false w args ∧ laidMetH Tryz.prog Rows.longMadeRow.laid w) ∧ sizedMet enc Tryz.prog Tryz.f4 (OpenSpec.ofChange Rows.longMadeSpec) false w args)
   (Rows.longMadeSpec.post enc Tryz.prog Tryz.f4 false true false false) := by
 refine returnsInHanded_of_change_and (C := Tryz.checked) (X := fun w _ => laidMetH Tryz.prog Rows.longMadeRow.laid w) (fun _ _ _ hh h => h.of_heap hh) own started (by kernel_rfl) Tryz.func4
  (ChangeSpec.witness_shaped (enc := enc) (C := Tryz.checked) (os := os) (X := fun w _ => laidMetH Tryz.prog Rows.longMadeRow.laid w) false (World.doorLaid Tryz.prog 400 os) #[.slice none 0 0, .int .i64 0, .int .i64 0, .int .i64 0] 8 rfl (World.shaped_of_RefB (by kernel_rfl) (by kernel_rfl)) (by kernel_rfl) (by kernel_rfl) (by kernel_rfl) (door_met os _)) ?_
 intro W base args ds gs before hval hW _ _ hL _
 exact contract H enc W base args ds gs before hL hval hW
theorem row_holds : Rows.LongMadeSaid :=
 OpenClaim.holds_of_wide 4 Tryz.f4 rfl rfl rfl rfl rfl rfl rfl ⟨rfl, rfl, rfl, rfl, rfl⟩ rfl rfl rfl rfl rfl (by kernel_rfl) Tryz.func4 (by kernel_rfl)
  (of_decide_eq_true (by kernel_rfl)) (by unfold Func.isWrapper; first | (rw [if_pos (by decide +kernel)]; kernel_rfl) | (rw [if_neg (by decide +kernel)]; exact ⟨rfl, rfl⟩))
  (fun os started H enc _ => lifted os started H enc)
theorem no_stand : (Tryz.f4.params.toList.all fun t => !Tryz.prog.wantsStandIn t) = true := by kernel_rfl
theorem proved : Rows.LongMadeCardSaid :=
 Claim7.holds_tied_plain_at .later [] [.data, .data, .data, .data] true Rows.longMadeCard.stood.harness Rows.longMadeCard.stood.looks
  row_holds (fun _ h => by cases h) (by kernel_rfl) (fun _ h => by cases h) longMade_row_tie rfl ⟨rfl, rfl⟩ (by kernel_rfl) rfl
  (fun f fn hf hfn => by
   obtain rfl : f = 4 := Option.some.inj ((show Tryz.prog.funcNamed "metaprune/metaprunelaw.LongMade" = some 4 by kernel_rfl).symm.trans hf) |>.symm
   obtain rfl : fn = Tryz.f4 := (Option.some.inj (Tryz.func4.symm.trans hfn)).symm
   exact ⟨by kernel_rfl, fun j t ht => by
    have h1 := List.all_eq_true.1 no_stand t (by rw [Array.mem_toList_iff]; exact Array.mem_of_getElem? ht)
    have h2 : Tryz.prog.wantsStandIn t = false := by simpa using h1
    exact h2⟩)
  (by kernel_rfl)

end Go.Proofs.YtkjlddlllofenaaGreatDoor.longMade
