/-
  Proved: for all rules, their critical pairs, and whether all of them meet, are what H1 and H2 say: the law CriticalSays returns true; as a tied card. Conditions: none.
-/
import Derived.Test.YtgepacmabaaohaaGreatDoorCrS10
import Derived.Test.YtgepacmabaaohaaGreatDoorRows
import Derived.ProofKit
import Derived.OpenShut
import Derived.JoinedCond
import Derived.Deep.Slices
import Derived.Test.YtgepacmabaaohaaGreatDoorTie
import Derived.Test.YtgepacmabaaohaaGreatDoorCards
import Derived.LaidMore
import Derived.MakeChecks
import Derived.Stop.Joined
import Derived.Lib.LaidTab
import Derived.Lib.ItoaNum
import Derived.LaidLaws
namespace Go.Proofs.YtgepacmabaaohaaGreatDoor
open Go Go.RowKit
set_option linter.unusedVariables false
set_option linter.unusedSimpArgs false
set_option maxHeartbeats 1000000
def fitsV (r : Pr) (t : Tm) : AV := if isCase r.1 t = true then .tup [aTm (onTo (caseOf r.1 t) r.2).1, aBool true, aBool (!(onTo (caseOf r.1 t) r.2).2)] else .tup [aTm Tm.nil, aBool false, aBool false]
theorem fits_a (r : Pr) (t : Tm) (hp : r.1.size ≤ 100000) (hq : r.2.size ≤ 100000) (ht : t.size ≤ 1000000) : ACalls Tryz.prog 63 [aPr r, aTm t] (fitsV r t) := by
 unfold fitsV
 refine ok_R_fits.ac fun C hC => ?_
 unfold ir_R_fits
 by_cases h : isCase r.1 t = true
 ·rw [if_pos h]
  repeat' (first | (with_reducible first | refine W ?_ | refine Z0 ?_) | refine Cg _ (matchOf_a r.1 t hp ht) ?_ | refine Cg _ (onRef_a (caseOf r.1 t) r.2 (by omega)) ?_ | ((with_reducible first | refine Wo (fun K hK => ?_) | refine Wp ?_ | refine Wq ?_ | refine Wr ?_); (try simp only [go_sem, fN, seval, eT, iR, h, dT, dF, nL]); (repeat with_reducible refine Ai ?_); (try (refine hK _ ?_; clear hK K)); try with_reducible refine iC ?_))
  simp only [go_sem, fN, seval, FinQ, AS.result, resAll, resOne, tupV]
 ·rw [if_neg h]
  repeat' (first | (with_reducible first | refine W ?_ | refine Z0 ?_) | refine Cg _ (matchOf_a r.1 t hp ht) ?_ | ((with_reducible first | refine Wo (fun K hK => ?_) | refine Wp ?_ | refine Wq ?_ | refine Wr ?_); (try simp only [go_sem, fN, seval, eT, iR, h, dT, dF, nL]); (repeat with_reducible refine Ai ?_); (try (refine hK _ ?_; clear hK K)); try with_reducible refine iC ?_))
  simp only [go_sem, fN, seval, FinQ, AS.result, resAll, resOne, tupV]
  rfl
theorem fit_a {R : List Pr} (hR : GoodRules R) (t : Tm) (ht : t.size ≤ 1000000) : ACalls Tryz.prog 80 [aPrs R, aTm t] (aBool (fitR R t)) := by
 have h40 := hR.len
 refine ok_R_Fit.ac fun C hC => ?_
 unfold ir_R_Fit
 repeat' (first | (with_reducible first | refine W ?_ | refine Z0 ?_) | ((with_reducible first | refine Wo (fun K hK => ?_) | refine Wp ?_ | refine Wq ?_ | refine Wr ?_); (try simp only [go_sem, fN, seval, eT, iR, dT, dF, nL]); (repeat with_reducible refine Ai ?_); (try (refine hK _ ?_; clear hK K)); try with_reducible refine iC ?_))
 refine IWP.loop (fun m s => ∃ k, k ≤ R.length ∧ m = R.length - k ∧ (R.take k).any (fun r => isCase r.1 t) = false ∧ s.env 0 = aPrs R ∧ s.env 3 = .one (.ptr 3 1 0 0) ∧ s.S 3 = some (boxTt t) ∧ s.env 5 = aInt k) R.length ⟨0, Nat.zero_le _, rfl, rfl, rfl, rfl, rfl, rfl⟩ ?_
 rintro m ⟨env, S⟩ ⟨k, hk, rfl, hno, e0, e3, s3, e5⟩
 simp only at e0 e3 s3 e5
 by_cases hlt : (k : Int) < R.length
 ·obtain ⟨r, hr⟩ := get_lt (show k < R.length by omega)
  have z1 := (Tm.may_chk (hR.left r (mem_of_get hr))).2
  by_cases hcase : isCase r.1 t = true
  ·have hf : fitR R t = true := List.any_eq_true.2 ⟨r, mem_of_get hr, hcase⟩
   repeat' (first | (with_reducible first | refine W ?_ | refine Z0 ?_) | refine Cg _ (matchOf_a r.1 t (by omega) ht) ?_ | ((with_reducible first | refine Wo (fun K hK => ?_) | refine Wp ?_ | refine Wq ?_ | refine Wr ?_); (try simp only [go_sem, fN, seval, eT, iR, e0, e3, s3, e5, hlt, hr, encP, hcase, dT, dF, nL]); (repeat with_reducible refine Ai ?_); (try (refine hK _ ?_; clear hK K)); try with_reducible refine iC ?_))
   simp only [go_sem, fN, seval, FinQ, AS.result, resAll, resOne, tupV, hf]
  ·repeat' (first | (with_reducible first | refine W ?_ | refine Z0 ?_) | refine Cg _ (matchOf_a r.1 t (by omega) ht) ?_ | ((with_reducible first | refine Wo (fun K hK => ?_) | refine Wp ?_ | refine Wq ?_ | refine Wr ?_); (try simp only [go_sem, fN, seval, eT, iR, e0, e3, s3, e5, hlt, hr, encP, hcase, dT, dF, nL]); (repeat with_reducible refine Ai ?_); (try (refine hK _ ?_; clear hK K)); try with_reducible refine iC ?_))
   refine then_normal ⟨R.length - (k + 1), by omega, k + 1, by omega, rfl, ?_, ?_⟩
   ·rw [take_snoc hr, List.any_append, hno]
    simpa using hcase
   ·simp only [go_sem, fN, seval, eT, iR, e0, e3, s3, e5]
    congr 3
 ·rw [List.take_of_length_le (by omega)] at hno
  repeat' (first | (with_reducible first | refine W ?_ | refine Z0 ?_) | ((with_reducible first | refine Wo (fun K hK => ?_) | refine Wp ?_ | refine Wq ?_ | refine Wr ?_); (try simp only [go_sem, fN, seval, eT, iR, e0, e3, s3, e5, hlt, dT, dF, nL]); (repeat with_reducible refine Ai ?_); (try (refine hK _ ?_; clear hK K)); try with_reducible refine iC ?_))
  simp only [go_sem, fN, seval, FinQ, AS.result, resAll, resOne, tupV]
  unfold fitR
  rw [hno]
theorem find_snoc {α : Type} {p : α → Bool} {l : List α} {k : Nat} {a : α} (h : l[k]? = some a) (hno : (l.take k).find? p = none) : (p a = true → l.find? p = some a) ∧ (p a = false → (l.take (k + 1)).find? p = none) := by
 refine ⟨fun ha => ?_, fun ha => ?_⟩
 ·have e : l = l.take k ++ a :: l.drop (k + 1) := by rw [← drop_get h, List.take_append_drop]
  rw [e, List.find?_append, hno]
  simp [ha]
 ·rw [take_snoc h, List.find?_append, hno]
  simp [ha]
def nextV (p : Option (List Int)) : AV := match p with
 | none => .tup [aInts [], aBool false]
 | some q => .tup [aInts q, aBool true]
def NextInv (R : List Pr) (inner : Bool) (x : Tm) (i : Nat) (b : Bool) : Prop := (inner = false ∧ b = true ∧ i = 1) ∨ (inner = true ∧ ((x.knots.take i).drop 1).any (fitR R) = !b)
theorem next_a {R : List Pr} (hR : GoodRules R) (inner : Bool) (t : Tm) (ht : t.size ≤ 900000) : ACalls Tryz.prog 62 [aPrs R, aTm t, aBool inner] (nextV (t.findP (testB inner R))) := by
 rw [← Tm.places_find]
 have hpl := Tm.places_length t
 refine ok_R_next.ac fun C hC => ?_
 unfold ir_R_next
 repeat' (first | (with_reducible first | refine W ?_ | refine Z0 ?_) | refine Cg _ (placesN_a t (by omega)) ?_ | ((with_reducible first | refine Wo (fun K hK => ?_) | refine Wp ?_ | refine Wq ?_ | refine Wr ?_); (try simp only [go_sem, fN, seval, eT, iR, dT, dF, nL]); (repeat with_reducible refine Ai ?_); (try (refine hK _ ?_; clear hK K)); try with_reducible refine iC ?_))
 refine IWP.loopD [10] (fun m s => ∃ k, k ≤ t.places.length ∧ m = t.places.length - k ∧ (t.places.take k).find? (atT (testB inner R) t) = none ∧ s.env 0 = aPrs R ∧ s.env 2 = aBool inner ∧ s.env 4 = .one (.ptr 4 1 0 0) ∧ s.S 4 = some (boxTt t) ∧ s.S 10 = none ∧ s.env 8 = aIss t.places ∧ s.env 9 = aInt k) t.places.length ⟨0, Nat.zero_le _, rfl, rfl, rfl, rfl, rfl, rfl, rfl, rfl, rfl⟩ ?_
 rintro m ⟨env, S⟩ ⟨k, hk, rfl, hno, e0, e2, e4, s4, s10, e8, e9⟩
 simp only at e0 e2 e4 s4 s10 e8 e9
 by_cases hlt : (k : Int) < t.places.length
 ·obtain ⟨p, hp⟩ := get_lt (show k < t.places.length by omega)
  obtain ⟨x, hx, hxk⟩ := places_at t p (mem_of_get hp)
  have hxz := knot_size t x hxk
  obtain ⟨g1, g2⟩ := find_snoc hp hno
  have hat : atT (testB inner R) t p = testB inner R x := by unfold atT; rw [hx]
  rw [hat] at g1 g2
  have hcon := atOf_a p t
  rw [hx] at hcon
  by_cases hf : fitR R x = true
  case neg =>
   have hT : testB inner R x = false := by
    rw [← Bool.not_eq_true]
    exact fun h => hf (testB_fit h)
   repeat' (first | (with_reducible first | refine W ?_ | refine Z0 ?_) | refine Cg _ (hcon) ?_ | refine Cg _ (fit_a hR x (by omega)) ?_ | ((with_reducible first | refine Wo (fun K hK => ?_) | refine Wp ?_ | refine Wq ?_ | refine Wr ?_); (try simp only [go_sem, fN, seval, eT, iR, e0, e2, e4, s4, s10, e8, e9, hlt, hp, hf, dT, dF, nL]); (repeat with_reducible refine Ai ?_); (try (refine hK _ ?_; clear hK K)); try with_reducible refine iC ?_))
   refine then_normal ⟨t.places.length - (k + 1), by omega, k + 1, by omega, rfl, g2 hT, ?_⟩
   simp only [go_sem, fN, seval, AS.drop, dropS, AC.clears, AC.clear, AC.highs, AC.high, Bool.not_false, Bool.true_and, Bool.and_self, AV.purge, AV.purges, AC.purge, ABlk.purge, List.contains_cons, List.contains_nil, Nat.reduceBEq, Bool.or_self, Bool.or_false, Bool.false_or, Bool.or_true, eT, iR, e0, e2, e4, s4, s10, e8, e9]
   congr 3
  case pos =>
  have hkn := Tm.knots_length x
  have hke := Tm.knots_eq x
  repeat' (first | (with_reducible first | refine W ?_ | refine Z0 ?_) | refine Cg _ (hcon) ?_ | refine Cg _ (fit_a hR x (by omega)) ?_ | refine Cg _ (knots_a x (by omega)) ?_ | ((with_reducible first | refine Wo (fun K hK => ?_) | refine Wp ?_ | refine Wq ?_ | refine Wr ?_); (try simp only [go_sem, fN, seval, eT, iR, e0, e2, e4, s4, s10, e8, e9, hlt, hp, hf, dT, dF, nL]); (repeat with_reducible refine Ai ?_); (try (refine hK _ ?_; clear hK K)); try with_reducible refine iC ?_))
  refine IWP.loop (fun m s => ∃ (i : Nat) (b : Bool), 1 ≤ i ∧ i ≤ x.knots.length ∧ m = x.knots.length - i ∧ NextInv R inner x i b ∧ s.env 0 = aPrs R ∧ s.env 2 = aBool inner ∧ s.env 4 = .one (.ptr 4 1 0 0) ∧ s.S 4 = some (boxTt t) ∧ s.env 8 = aIss t.places ∧ s.env 9 = aInt k ∧ s.env 12 = aTms x.knots ∧ s.env 13 = aBool b ∧ s.env 14 = aInt i) (x.knots.length - 1) ⟨1, true, by omega, by rw [hke]; simp, rfl, ?_, ?_⟩ ?_
  ·cases inner with
   | false => exact .inl ⟨rfl, rfl, rfl⟩
   | true => exact .inr ⟨rfl, by rw [hke]; rfl⟩
  ·simp only [go_sem, fN, seval, eT, iR, e0, e2, e4, s4, e8, e9]
  rintro m ⟨env, S⟩ ⟨i, b, hi1, hi, rfl, hb, e0, e2, e4, s4, e8, e9, e12, e13, e14⟩
  simp only at e0 e2 e4 s4 e8 e9 e12 e13 e14
  have hdrop : x.knots.drop 1 = Tm.knotsL x.args := by rw [hke]; rfl
  by_cases hil : (i : Int) < x.knots.length
  ·obtain ⟨y, hy⟩ := get_lt (show i < x.knots.length by omega)
   rcases hb with ⟨rfl, rfl, rfl⟩ | ⟨rfl, hb⟩
   ·have hT : testB false R x = true := hf
    have hfin := g1 hT
    have hil' : (1 : Int) < x.knots.length := by omega
    rw [hfin]
    repeat' (first | (with_reducible first | refine W ?_ | refine Z0 ?_) | ((with_reducible first | refine Wo (fun K hK => ?_) | refine Wp ?_ | refine Wq ?_ | refine Wr ?_); (try simp only [go_sem, fN, seval, eT, iR, e0, e2, e4, s4, e8, e9, e12, e13, e14, hil', hp, dT, dF, nL]); (repeat with_reducible refine Ai ?_); (try (refine hK _ ?_; clear hK K)); try with_reducible refine iC ?_))
    simp only [go_sem, fN, seval, FinQ, AS.result, resAll, resOne, tupV]
    rfl
   ·cases b with
    | true =>
     have hyz : y.size ≤ x.size := knot_size x y (mem_of_get hy)
     repeat' (first | (with_reducible first | refine W ?_ | refine Z0 ?_) | refine Cg _ (fit_a hR y (by omega)) ?_ | ((with_reducible first | refine Wo (fun K hK => ?_) | refine Wp ?_ | refine Wq ?_ | refine Wr ?_); (try simp only [go_sem, fN, seval, eT, iR, e0, e2, e4, s4, e8, e9, e12, e13, e14, hil, hy, dT, dF, nL]); (repeat with_reducible refine Ai ?_); (try (refine hK _ ?_; clear hK K)); try with_reducible refine iC ?_))
     refine then_normal ⟨x.knots.length - (i + 1), by omega, i + 1, !fitR R y, by omega, by omega, rfl, .inr ⟨rfl, ?_⟩, ?_⟩
     ·have e : (x.knots.take (i + 1)).drop 1 = (x.knots.take i).drop 1 ++ [y] := by
       rw [take_snoc hy, List.drop_append_of_le_length (by rw [List.length_take]; omega)]
      rw [e, List.any_append, hb]
      simp
     ·simp only [go_sem, fN, seval, eT, iR, e0, e2, e4, s4, e8, e9, e12, e13, e14]
      congr 3
    | false =>
     have hT : testB true R x = false := by
      have h1 : redL R x.args = true := by
       unfold redL
       rw [← hdrop]
       simp only [Bool.not_false] at hb
       rw [List.any_eq_true] at hb ⊢
       obtain ⟨z, hz1, hz2⟩ := hb
       refine ⟨z, ?_, hz2⟩
       rw [List.drop_take] at hz1
       exact List.mem_of_mem_take hz1
      show redI R x = false
      unfold redI
      rw [h1]
      simp
     repeat' (first | (with_reducible first | refine W ?_ | refine Z0 ?_) | ((with_reducible first | refine Wo (fun K hK => ?_) | refine Wp ?_ | refine Wq ?_ | refine Wr ?_); (try simp only [go_sem, fN, seval, eT, iR, e0, e2, e4, s4, e8, e9, e12, e13, e14, hil, dT, dF, nL]); (repeat with_reducible refine Ai ?_); (try (refine hK _ ?_; clear hK K)); try with_reducible refine iC ?_))
     refine then_normal ⟨t.places.length - (k + 1), by omega, k + 1, by omega, rfl, g2 hT, ?_⟩
     simp only [go_sem, fN, seval, AS.drop, dropS, AC.clears, AC.clear, AC.highs, AC.high, Bool.not_false, Bool.true_and, Bool.and_self, AV.purge, AV.purges, AC.purge, ABlk.purge, List.contains_cons, List.contains_nil, Nat.reduceBEq, Bool.or_self, Bool.or_false, Bool.false_or, Bool.or_true, eT, iR, e0, e2, e4, s4, e8, e9]
     congr 3
  ·rcases hb with ⟨rfl, rfl, rfl⟩ | ⟨rfl, hb⟩
   ·have hT : testB false R x = true := hf
    have hfin := g1 hT
    have hil' : ¬ (1 : Int) < x.knots.length := by omega
    rw [hfin]
    repeat' (first | (with_reducible first | refine W ?_ | refine Z0 ?_) | ((with_reducible first | refine Wo (fun K hK => ?_) | refine Wp ?_ | refine Wq ?_ | refine Wr ?_); (try simp only [go_sem, fN, seval, eT, iR, e0, e2, e4, s4, e8, e9, e12, e13, e14, hil', hp, dT, dF, nL]); (repeat with_reducible refine Ai ?_); (try (refine hK _ ?_; clear hK K)); try with_reducible refine iC ?_))
    simp only [go_sem, fN, seval, FinQ, AS.result, resAll, resOne, tupV]
    rfl
   ·rw [List.take_of_length_le (by omega), hdrop] at hb
    cases b with
    | true =>
     have hT : testB true R x = true := by
      show redI R x = true
      unfold redI redL
      rw [hf, hb]
      rfl
     have hfin := g1 hT
     rw [hfin]
     repeat' (first | (with_reducible first | refine W ?_ | refine Z0 ?_) | ((with_reducible first | refine Wo (fun K hK => ?_) | refine Wp ?_ | refine Wq ?_ | refine Wr ?_); (try simp only [go_sem, fN, seval, eT, iR, e0, e2, e4, s4, e8, e9, e12, e13, e14, hil, hp, dT, dF, nL]); (repeat with_reducible refine Ai ?_); (try (refine hK _ ?_; clear hK K)); try with_reducible refine iC ?_))
     simp only [go_sem, fN, seval, FinQ, AS.result, resAll, resOne, tupV]
     rfl
    | false =>
     have hT : testB true R x = false := by
      show redI R x = false
      unfold redI redL
      rw [hb]
      simp
     repeat' (first | (with_reducible first | refine W ?_ | refine Z0 ?_) | ((with_reducible first | refine Wo (fun K hK => ?_) | refine Wp ?_ | refine Wq ?_ | refine Wr ?_); (try simp only [go_sem, fN, seval, eT, iR, e0, e2, e4, s4, e8, e9, e12, e13, e14, hil, dT, dF, nL]); (repeat with_reducible refine Ai ?_); (try (refine hK _ ?_; clear hK K)); try with_reducible refine iC ?_))
     refine then_normal ⟨t.places.length - (k + 1), by omega, k + 1, by omega, rfl, g2 hT, ?_⟩
     simp only [go_sem, fN, seval, AS.drop, dropS, AC.clears, AC.clear, AC.highs, AC.high, Bool.not_false, Bool.true_and, Bool.and_self, AV.purge, AV.purges, AC.purge, ABlk.purge, List.contains_cons, List.contains_nil, Nat.reduceBEq, Bool.or_self, Bool.or_false, Bool.false_or, Bool.or_true, eT, iR, e0, e2, e4, s4, e8, e9]
     congr 3
 ·rw [List.take_of_length_le (by omega)] at hno
  rw [hno]
  repeat' (first | (with_reducible first | refine W ?_ | refine Z0 ?_) | ((with_reducible first | refine Wo (fun K hK => ?_) | refine Wp ?_ | refine Wq ?_ | refine Wr ?_); (try simp only [go_sem, fN, seval, eT, iR, e0, e2, e4, s4, e8, e9, hlt, dT, dF, nL]); (repeat with_reducible refine Ai ?_); (try (refine hK _ ?_; clear hK K)); try with_reducible refine iC ?_))
  simp only [go_sem, fN, seval, FinQ, AS.result, resAll, resOne, tupV]
  rfl
theorem rootFrom_step {R : List Pr} {t : Tm} {r : Pr} {l : List Pr} : rootFrom R t (r :: l) = if isCase r.1 t = true then (if (onTo (caseOf r.1 t) r.2).2 = true then some ((onTo (caseOf r.1 t) r.2).1, 0) else some (Tm.nil, 8)) else rootFrom R t l := rfl
theorem endOf_a {R : List Pr} (hR : GoodRules R) (inner : Bool) (t0 : Tm) (hc0 : t0.chk = 0) (hz0 : t0.size ≤ 800000) (most : Nat) (hm : most ≤ 1000000) : ACalls Tryz.prog 38 [aPrs R, aTm t0, aInt most, aBool inner] (endV (endR (stepB inner R) most 0 t0)) := by
 have h40 := hR.len
 unfold endV
 refine ok_R_EndOf.ac fun C hC => ?_
 unfold ir_R_EndOf
 repeat' (first | (with_reducible first | refine W ?_ | refine Z0 ?_) | ((with_reducible first | refine Wo (fun K hK => ?_) | refine Wp ?_ | refine Wq ?_ | refine Wr ?_); (try simp only [go_sem, fN, seval, eT, iR, dT, dF, nL]); (repeat with_reducible refine Ai ?_); (try (refine hK _ ?_; clear hK K)); try with_reducible refine iC ?_))
 refine IWP.loopD [14, 17] (fun m s => ∃ (n : Nat) (t : Tm), n ≤ most ∧ m = most - n ∧ endR (stepB inner R) most 0 t0 = endR (stepB inner R) (most - n) n t ∧ t.chk = 0 ∧ t.size ≤ 800000 ∧ s.env 0 = aPrs R ∧ s.env 2 = aInt most ∧ s.env 3 = aBool inner ∧ s.env 5 = .one (.ptr 5 1 0 0) ∧ s.env 8 = .one (.ptr 8 1 0 0) ∧ s.env 11 = aInt n ∧ s.S 5 = some (boxTt t) ∧ s.S 8 = some boxT0 ∧ s.S 14 = none ∧ s.S 17 = none)
  most ⟨0, t0, by omega, by omega, rfl, hc0, hz0, rfl, rfl, rfl, rfl, rfl, rfl, rfl, rfl, rfl, rfl⟩ ?_
 rintro m ⟨env, S⟩ ⟨n, t, hn, rfl, hend, hc, hz, e0, e2, e3, e5, e8, e11, s5, s8, s14, s17⟩
 simp only at e0 e2 e3 e5 e8 e11 s5 s8 s14 s17
 rw [hend]
 have hcon := next_a hR inner t (by omega)
 have hfind := stepB_find inner R t
 cases hp : t.findP (testB inner R) with
 | none =>
  rw [hp] at hcon hfind
  unfold nextV at hcon
  rw [endR_none hfind]
  repeat' (first | (with_reducible first | refine W ?_ | refine Z0 ?_) | refine Cg _ (hcon) ?_ | ((with_reducible first | refine Wo (fun K hK => ?_) | refine Wp ?_ | refine Wq ?_ | refine Wr ?_); (try simp only [go_sem, fN, seval, eT, iR, e0, e2, e3, e5, e8, e11, s5, s8, s14, s17, dT, dF, nL]); (repeat with_reducible refine Ai ?_); (try (refine hK _ ?_; clear hK K)); try with_reducible refine iC ?_))
  simp only [go_sem, fN, seval, FinQ, AS.result, resAll, resOne, tupV, e8, s8]
 | some p =>
  obtain ⟨x, hx, hTx, hxk⟩ := Tm.findP_at _ t p hp
  have hxz := knot_size t x hxk
  have hat := atOf_a p t
  rw [hx] at hat
  rw [hp] at hcon hfind
  unfold nextV at hcon
  simp only [stepAt, hx] at hfind
  cases hr : rootS R x with
  | none =>
   exfalso
   have h1 := testB_fit hTx
   rw [rootS_none.1 hr] at h1
   cases h1
  | some r =>
   obtain ⟨y, e⟩ := r
   rw [hr] at hfind
   simp only [Option.map_some] at hfind
   obtain ⟨g1, g2, g3⟩ := stepB_good hR hc hfind
   have hput := putOf_a p t (by omega) y (by rw [hx]; rfl)
   by_cases hmost : n = most
   ·have hmi : (n : Int) = most := by omega
    rw [show most - n = 0 by omega, endR_zero hfind]
    repeat' (first | (with_reducible first | refine W ?_ | refine Z0 ?_) | refine Cg _ (hcon) ?_ | ((with_reducible first | refine Wo (fun K hK => ?_) | refine Wp ?_ | refine Wq ?_ | refine Wr ?_); (try simp only [go_sem, fN, seval, eT, iR, e0, e2, e3, e5, e8, e11, s5, s8, s14, s17, hmi, dT, dF, nL]); (repeat with_reducible refine Ai ?_); (try (refine hK _ ?_; clear hK K)); try with_reducible refine iC ?_))
    simp only [go_sem, fN, seval, FinQ, AS.result, resAll, resOne, tupV, e8, s8]
    rfl
   have hmi : ¬ (n : Int) = most := by omega
   obtain ⟨k0, hk0⟩ : ∃ k, most - n = k + 1 := ⟨most - n - 1, by omega⟩
   rw [hk0]
   repeat' (first | (with_reducible first | refine W ?_ | refine Z0 ?_) | refine Cg _ (hcon) ?_ | refine Cg _ (hat) ?_ | ((with_reducible first | refine Wo (fun K hK => ?_) | refine Wp ?_ | refine Wq ?_ | refine Wr ?_); (try simp only [go_sem, fN, seval, eT, iR, e0, e2, e3, e5, e8, e11, s5, s8, s14, s17, hmi, dT, dF, nL]); (repeat with_reducible refine Ai ?_); (try (refine hK _ ?_; clear hK K)); try with_reducible refine iC ?_))
   refine IWP.loopD [17] (fun m s => ∃ k, k ≤ R.length ∧ m = R.length - k ∧ rootFrom R x (R.drop k) = some (y, e) ∧ s.env 0 = aPrs R ∧ s.env 2 = aInt most ∧ s.env 3 = aBool inner ∧ s.env 5 = .one (.ptr 5 1 0 0) ∧ s.env 8 = .one (.ptr 8 1 0 0) ∧ s.env 11 = aInt (n + 1) ∧ s.env 12 = aInts p ∧ s.env 14 = .one (.ptr 14 1 0 0) ∧ s.env 16 = aInt k ∧ s.S 5 = some (boxTt t) ∧ s.S 8 = some boxT0 ∧ s.S 14 = some (boxTt x) ∧ s.S 17 = none) R.length ⟨0, Nat.zero_le _, rfl, hr, ?_⟩ ?_
   ·simp only [go_sem, fN, seval, eT, iR, e0, e2, e3, e5, e8, e11, s5, s8, s14, s17]
   rintro m ⟨env, S⟩ ⟨k, hk, rfl, hrk, e0, e2, e3, e5, e8, e11, e12, e14, e16, s5, s8, s14, s17⟩
   simp only at e0 e2 e3 e5 e8 e11 e12 e14 e16 s5 s8 s14 s17
   by_cases hkl : k < R.length
   case neg =>
    rw [List.drop_of_length_le (by omega)] at hrk
    cases hrk
   case pos =>
   have hlt : (k : Int) < R.length := by omega
   obtain ⟨q, hq⟩ := get_lt hkl
   have hmem := mem_of_get hq
   have z1 := (Tm.may_chk (hR.left q hmem)).2
   have z2 := (Tm.may_chk (hR.right q hmem)).2
   rw [drop_get hq, rootFrom_step] at hrk
   have hfits := fits_a q x (by omega) (by omega) (by omega)
   unfold fitsV at hfits
   by_cases hcase : isCase q.1 x = true
   case neg =>
    rw [if_neg hcase] at hrk hfits
    repeat' (first | (with_reducible first | refine W ?_ | refine Z0 ?_) | refine Cg _ (hfits) ?_ | ((with_reducible first | refine Wo (fun K hK => ?_) | refine Wp ?_ | refine Wq ?_ | refine Wr ?_); (try simp only [go_sem, fN, seval, eT, iR, e0, e2, e3, e5, e8, e11, e12, e14, e16, s5, s8, s14, s17, hlt, hq, encP, dT, dF, nL]); (repeat with_reducible refine Ai ?_); (try (refine hK _ ?_; clear hK K)); try with_reducible refine iC ?_))
    refine then_normal ⟨R.length - (k + 1), by omega, k + 1, by omega, rfl, hrk, ?_⟩
    simp only [go_sem, fN, seval, AS.drop, dropS, AC.clears, AC.clear, AC.highs, AC.high, Bool.not_false, Bool.true_and, Bool.and_self, AV.purge, AV.purges, AC.purge, ABlk.purge, List.contains_cons, List.contains_nil, Nat.reduceBEq, Bool.or_self, Bool.or_false, Bool.false_or, Bool.or_true, eT, iR, e0, e2, e3, e5, e8, e11, e12, e14, e16, s5, s8, s14, s17]
    congr 3
   case pos =>
   rw [if_pos hcase] at hrk hfits
   by_cases hon : (onTo (caseOf q.1 x) q.2).2 = true
   case neg =>
    rw [if_neg hon] at hrk
    simp only [Bool.not_eq_true] at hon
    rw [hon] at hfits
    cases hrk
    rw [endR_bad hfind (by decide)]
    repeat' (first | (with_reducible first | refine W ?_ | refine Z0 ?_) | refine Cg _ (hfits) ?_ | ((with_reducible first | refine Wo (fun K hK => ?_) | refine Wp ?_ | refine Wq ?_ | refine Wr ?_); (try simp only [go_sem, fN, seval, eT, iR, e0, e2, e3, e5, e8, e11, e12, e14, e16, s5, s8, s14, s17, hlt, hq, encP, dT, dF, nL]); (repeat with_reducible refine Ai ?_); (try (refine hK _ ?_; clear hK K)); try with_reducible refine iC ?_))
    simp only [go_sem, fN, seval, FinQ, AS.result, resAll, resOne, tupV, e8, s8]
    rfl
   case pos =>
   rw [if_pos hon] at hrk
   rw [hon] at hfits
   simp only [Option.some.injEq, Prod.mk.injEq] at hrk
   obtain ⟨hy, he⟩ := hrk
   subst he
   rw [hy] at hfits
   have hsz := sizeR_a (t.putP p y) 2000 (by omega) (by omega)
   by_cases hgr : 2000 < (t.putP p y).size
   ·rw [endR_great hfind hgr]
    have hg : (2000 : Int) < capTo (t.putP p y).size 2000 := by unfold capTo; split <;> omega
    repeat' (first | (with_reducible first | refine W ?_ | refine Z0 ?_) | refine Cg _ (hfits) ?_ | refine Cg _ (hput) ?_ | refine Cg _ (hsz) ?_ | ((with_reducible first | refine Wo (fun K hK => ?_) | refine Wp ?_ | refine Wq ?_ | refine Wr ?_); (try simp only [go_sem, fN, seval, eT, iR, e0, e2, e3, e5, e8, e11, e12, e14, e16, s5, s8, s14, s17, hlt, hq, encP, hg, dT, dF, nL]); (repeat with_reducible refine Ai ?_); (try (refine hK _ ?_; clear hK K)); try with_reducible refine iC ?_))
    simp only [go_sem, fN, seval, FinQ, AS.result, resAll, resOne, tupV, e8, s8]
    rfl
   ·have hg : ¬ (2000 : Int) < capTo (t.putP p y).size 2000 := by unfold capTo; split <;> omega
    repeat' (first | (with_reducible first | refine W ?_ | refine Z0 ?_) | refine Cg _ (hfits) ?_ | refine Cg _ (hput) ?_ | refine Cg _ (hsz) ?_ | ((with_reducible first | refine Wo (fun K hK => ?_) | refine Wp ?_ | refine Wq ?_ | refine Wr ?_); (try simp only [go_sem, fN, seval, eT, iR, e0, e2, e3, e5, e8, e11, e12, e14, e16, s5, s8, s14, s17, hlt, hq, encP, hg, dT, dF, nL]); (repeat with_reducible refine Ai ?_); (try (refine hK _ ?_; clear hK K)); try with_reducible refine iC ?_))
    refine then_normal ⟨most - (n + 1), by omega, n + 1, t.putP p y, by omega, rfl, ?_, g2 rfl, by omega, ?_⟩
    ·rw [show most - (n + 1) = k0 by omega]
     exact endR_on hfind hgr k0 n
    ·simp only [go_sem, fN, seval, AS.drop, dropS, AC.clears, AC.clear, AC.highs, AC.high, Bool.not_false, Bool.true_and, Bool.and_self, AV.purge, AV.purges, AC.purge, ABlk.purge, List.contains_cons, List.contains_nil, Nat.reduceBEq, Bool.or_self, Bool.or_false, Bool.false_or, Bool.or_true, eT, iR, e0, e2, e3, e5, e8, e11, e12, e14, e16, s5, s8, s14, s17]
     congr 3
theorem meetR_a {R : List Pr} (hR : GoodRules R) (a b : Tm) (ha : a.chk = 0) (hb : b.chk = 0) (za : a.size ≤ 800000) (zb : b.size ≤ 800000) (most : Nat) (hm : most ≤ 1000000) : ACalls Tryz.prog 22 [aPrs R, aTm a, aTm b, aInt most] (.tup [aBool (metOf R most a b).1, aInt (metOf R most a b).2]) := by
 have l1 := endOf_a hR true a ha za most hm
 have l2 := endOf_a hR true b hb zb most hm
 have e : stepB true R = Tm.inn R := rfl
 rw [e] at l1 l2
 have hmet : metOf R most a b = if (endR (Tm.inn R) most 0 a).2.2 ≠ 0 then (false, (endR (Tm.inn R) most 0 a).2.2) else if (endR (Tm.inn R) most 0 b).2.2 ≠ 0 then (false, (endR (Tm.inn R) most 0 b).2.2) else ((endR (Tm.inn R) most 0 a).1.beq (endR (Tm.inn R) most 0 b).1, 0) := rfl
 rw [hmet]
 unfold endV at l1 l2
 generalize endR (Tm.inn R) most 0 a = x at *
 generalize endR (Tm.inn R) most 0 b = y at *
 clear hmet
 refine ok_R_MeetOf.ac fun C hC => ?_
 unfold ir_R_MeetOf
 by_cases h1 : x.2.2 = 0
 case neg =>
  rw [if_pos h1]
  repeat' (first | (with_reducible first | refine W ?_ | refine Z0 ?_) | refine Cg _ (l1) ?_ | ((with_reducible first | refine Wo (fun K hK => ?_) | refine Wp ?_ | refine Wq ?_ | refine Wr ?_); (try simp only [go_sem, fN, seval, eT, iR, h1, dT, dF, nL]); (repeat with_reducible refine Ai ?_); (try (refine hK _ ?_; clear hK K)); try with_reducible refine iC ?_))
  simp only [go_sem, fN, seval, FinQ, AS.result, resAll, resOne, tupV]
 case pos =>
 rw [if_neg (fun h => h h1)]
 by_cases h2 : y.2.2 = 0
 case neg =>
  rw [if_pos h2]
  repeat' (first | (with_reducible first | refine W ?_ | refine Z0 ?_) | refine Cg _ (l1) ?_ | refine Cg _ (l2) ?_ | ((with_reducible first | refine Wo (fun K hK => ?_) | refine Wp ?_ | refine Wq ?_ | refine Wr ?_); (try simp only [go_sem, fN, seval, eT, iR, h1, h2, dT, dF, nL]); (repeat with_reducible refine Ai ?_); (try (refine hK _ ?_; clear hK K)); try with_reducible refine iC ?_))
  simp only [go_sem, fN, seval, FinQ, AS.result, resAll, resOne, tupV]
 case pos =>
 rw [if_neg (fun h => h h2)]
 repeat' (first | (with_reducible first | refine W ?_ | refine Z0 ?_) | refine Cg _ (l1) ?_ | refine Cg _ (l2) ?_ | refine Cg _ (sameR_a x.1 y.1) ?_ | ((with_reducible first | refine Wo (fun K hK => ?_) | refine Wp ?_ | refine Wq ?_ | refine Wr ?_); (try simp only [go_sem, fN, seval, eT, iR, h1, h2, dT, dF, nL]); (repeat with_reducible refine Ai ?_); (try (refine hK _ ?_; clear hK K)); try with_reducible refine iC ?_))
 simp only [go_sem, fN, seval, FinQ, AS.result, resAll, resOne, tupV]

set_option maxHeartbeats 1600000
def crV (o : Option (List Pr)) : AV := match o with
 | none => .tup [aPrs [], aInt 8]
 | some l => .tup [aPrs l, aInt 0]
abbrev boxPr (p : Pr) : ABlk := .box 31 [.st (.str p.1.name), .st (.list (p.1.args.map encT)), .st (.str p.2.name), .st (.list (p.2.args.map encT))]
structure RuleOk (p : Pr) : Prop where
 c1 : p.1.chk = 0
 c2 : p.2.chk = 0
 z1 : p.1.size ≤ 200
 z2 : p.2.size ≤ 200
theorem aprt_ok {c : UInt8} (h65 : 65 ≤ c.toNat) (h90 : c.toNat ≤ 90) {k : Nat} (hk : k ≤ 1) {r : Pr} (h1 : r.1.may = 0) (h2 : r.2.may = 0) : RuleOk (aprt c k r) := by
 obtain ⟨c1, z1⟩ := Tm.may_chk h1
 obtain ⟨c2, z2⟩ := Tm.may_chk h2
 have hvl := varsOf_len' r.1
 have f1 := aprt_facts h65 h90 hk (show r.1.varsOf.length ≤ 1000 by omega) c1
 have f2 := aprt_facts h65 h90 hk (show r.1.varsOf.length ≤ 1000 by omega) c2
 exact ⟨f1.1, f2.1, by rw [aprt]; show (Tm.on _ r.1).size ≤ 200; rw [f1.2]; exact z1, by rw [aprt]; show (Tm.on _ r.2).size ≤ 200; rw [f2.2]; exact z2⟩
theorem critOne_cases {A B : Pr} (hA : RuleOk A) (hB : RuleOk B) (same : Bool) {p : List Int} {x : Tm} (hx : A.1.atP p = some x) (hk : x ∈ A.1.knots) :
  ((isVar x.name = true ∨ (same = true ∧ p = [])) ∧ critOne A B same p = some []) ∨ (¬ (isVar x.name = true ∨ (same = true ∧ p = [])) ∧ ∃ n r, UEnds n [] [(x, B.1)] r ∧ pairsMay [(x, B.1)] = 0 ∧
   ((r.2 = 8 ∧ critOne A B same p = none) ∨ (r.2 ≠ 8 ∧ r.2 ≠ 0 ∧ critOne A B same p = some []) ∨ (r.2 = 0 ∧ UGood (namesOf [(x, B.1)]) 100000000000 r.1 [] ∧
    critOne A B same p = if (onTo r.1 A.2).2 = true ∧ (onTo r.1 (A.1.putP p B.2)).2 = true then some [named2 (onTo r.1 A.2).1 (onTo r.1 (A.1.putP p B.2)).1] else none))) := by
 have hxc := knot_chk A.1 x hA.c1 hk
 have hxz := knot_size A.1 x hk
 have hAz := hA.z1
 have hmay := pairsMay_one (may_of hxc (by omega)) (may_of hB.c1 hB.z1)
 obtain ⟨n, r, hr⟩ := uends_start hmay
 have hs := solv_eq hr
 unfold critOne
 simp only [hx, hs]
 by_cases h1 : isVar x.name = true ∨ (same = true ∧ p = [])
 ·exact .inl ⟨h1, by rw [if_pos h1]⟩
 refine .inr ⟨h1, n, r, hr, hmay, ?_⟩
 rw [if_neg h1]
 by_cases h2 : r.2 = 8
 ·exact .inl ⟨h2, by rw [if_pos h2]⟩
 rw [if_neg h2]
 by_cases h3 : r.2 = 0
 ·refine .inr (.inr ⟨h3, ?_, by rw [if_neg (fun h => h h3)]⟩)
  have := solv_good hmay (by rw [hs]; exact h3)
  rw [hs] at this
  exact this
 ·exact .inr (.inl ⟨h2, h3, by rw [if_pos h3]⟩)
theorem critL_step {A B : Pr} {same : Bool} {ps : List (List Int)} {i : Nat} {p : List Int} (h : ps[i]? = some p) {acc : List Pr} (hall : critL A B same ps = (critL A B same (ps.drop i)).map (acc ++ ·)) : (critOne A B same p = none → critL A B same ps = none) ∧ ∀ x, critOne A B same p = some x → critL A B same ps = (critL A B same (ps.drop (i + 1))).map ((acc ++ x) ++ ·) := by
 rw [drop_get h, critL] at hall
 refine ⟨fun h1 => ?_, fun x h1 => ?_⟩
 ·rw [h1] at hall
  exact hall
 ·rw [h1] at hall
  simp only [Option.map_map] at hall
  rw [hall]
  congr 1
  funext l
  simp
theorem between_a {a b : Pr} (ha1 : a.1.may = 0) (ha2 : a.2.may = 0) (hb1 : b.1.may = 0) (hb2 : b.2.may = 0) (same : Bool) : ACalls Tryz.prog 24 [aPr a, aPr b, aBool same] (crV (crit (aprt 88 1 a) (aprt 89 1 b) same)) := by
 have pa := apart_a 88 (by decide) (by decide) ha1 ha2
 have pb := apart_a 89 (by decide) (by decide) hb1 hb2
 have hA := aprt_ok (c := 88) (by decide) (by decide) (k := 1) (by omega) ha1 ha2
 have hB := aprt_ok (c := 89) (by decide) (by decide) (k := 1) (by omega) hb1 hb2
 generalize aprt 88 1 a = A at *
 generalize aprt 89 1 b = B at *
 obtain ⟨A1, A2, A3, A4⟩ := hA
 obtain ⟨B1, B1', B3, B4⟩ := hB
 have hpl := Tm.places_length A.1
 have hall := allN_a A.1 (by omega)
 unfold crit
 refine ok_critical_Between.ac fun C hC => ?_
 unfold ir_critical_Between
 repeat' (first | (with_reducible first | refine W ?_ | refine Z0 ?_) | refine Cg _ (pa) ?_ | refine Cg _ (pb) ?_ | refine Cg _ (hall) ?_ | ((with_reducible first | refine Wo (fun K hK => ?_) | refine Wp ?_ | refine Wq ?_ | refine Wr ?_); (try simp only [go_sem, fN, seval, eT, iR, dT, dF, nL]); (repeat with_reducible refine Ai ?_); (try (refine hK _ ?_; clear hK K)); try with_reducible refine iC ?_))
 refine IWP.ghost (Ghost.own 8 500 31 4 (xs := ([] : List Pr).map encP) (by rfl) (by rfl) lens_encP (by rw [hC]; decide)) ?_
 refine IWP.loopD [13, 17, 19] (fun m s => ∃ i acc, i ≤ A.1.places.length ∧ m = A.1.places.length - i ∧ acc.length ≤ i ∧ critL A B same A.1.places = (critL A B same (A.1.places.drop i)).map (acc ++ ·) ∧ s.env 2 = aBool same ∧ s.env 8 = .one (.row 500 acc.length) ∧ s.env 9 = .one (.ptr 9 1 0 0) ∧ s.env 10 = .one (.ptr 10 1 0 0) ∧ s.env 28 = aIss A.1.places ∧ s.env 29 = aInt A.1.places.length ∧ s.env 30 = aInt i ∧ s.S 9 = some (boxPr A) ∧ s.S 10 = some (boxPr B) ∧ s.S 13 = none ∧ s.S 17 = none ∧ s.S 19 = none ∧ s.S 500 = some (.arow 31 4 (acc.map encP))) A.1.places.length ⟨0, [], Nat.zero_le _, rfl, Nat.zero_le _, by simp, rfl, rfl, rfl, rfl, rfl, rfl, rfl, rfl, rfl, rfl, rfl, rfl, rfl⟩ ?_
 rintro m ⟨env, S⟩ ⟨i, acc, hi, rfl, hal, hcr, e2, e8, e9, e10, e28, e29, e30, s9, s10, s13, s17, s19, s500⟩
 simp only at e2 e8 e9 e10 e28 e29 e30 s9 s10 s13 s17 s19 s500
 have hl : (acc.map encP).length = acc.length := by simp
 by_cases hlt : i < A.1.places.length
 case neg =>
  rw [List.drop_of_length_le (by omega)] at hcr
  simp only [critL, Option.map_some, List.append_nil] at hcr
  rw [hcr]
  have hlt' : ¬ (i : Int) < A.1.places.length := by omega
  unfold crV
  repeat' (first | (with_reducible first | refine W ?_ | refine Z0 ?_) | ((with_reducible first | refine Wo (fun K hK => ?_) | refine Wp ?_ | refine Wq ?_ | refine Wr ?_); (try simp only [go_sem, fN, seval, eT, iR, e2, e8, e9, e10, e28, e29, e30, s9, s10, s13, s17, s19, s500, hlt', dT, dF, nL]); (repeat with_reducible refine Ai ?_); (try (refine hK _ ?_; clear hK K)); try with_reducible refine iC ?_))
  simp only [go_sem, fN, seval, FinQ, AS.result, resAll, resOne, tupV, s500, hl]
 obtain ⟨p, hp⟩ := get_lt hlt
 have hlt' : (i : Int) < A.1.places.length := by omega
 obtain ⟨x, hx, hxk⟩ := places_at A.1 p (mem_of_get hp)
 have hxz := knot_size A.1 x hxk
 have hpd := Tm.places_deep A.1 p (mem_of_get hp)
 have hbel := belowN_a A.1 p (by omega)
 rw [hx] at hbel
 have hwith := withN_a B.2 (by omega) p A.1 (by omega) (by rw [hx]; simp) (by omega)
 obtain ⟨hno, hyes⟩ := critL_step hp hcr
 have hpi : (p.map encI).length = p.length := by simp
 have hadd : ∀ ys : List Pr, acc ++ ys = acc ++ ys := fun _ => rfl
 rcases critOne_cases ⟨A1, A2, A3, A4⟩ ⟨B1, B1', B3, B4⟩ same hx hxk with ⟨h1, h2⟩ | ⟨h1, n, r, hr, hmay, h2⟩
 ·have hn := hyes _ h2
  by_cases hv : isVar x.name = true
  ·repeat' (first | (with_reducible first | refine W ?_ | refine Z0 ?_) | refine Cg _ (hbel) ?_ | refine Cg _ (variable_a x.name) ?_ | ((with_reducible first | refine Wo (fun K hK => ?_) | refine Wp ?_ | refine Wq ?_ | refine Wr ?_); (try simp only [go_sem, fN, seval, eT, iR, e2, e8, e9, e10, e28, e29, e30, s9, s10, s13, s17, s19, s500, hlt', hp, hv, dT, dF, nL]); (repeat with_reducible refine Ai ?_); (try (refine hK _ ?_; clear hK K)); try with_reducible refine iC ?_))
   refine then_normal ⟨A.1.places.length - (i + 1), by omega, i + 1, acc ++ [], by omega, rfl, by simp; omega, hn, ?_⟩
   rw [List.append_nil]
   simp only [go_sem, fN, seval, AS.drop, dropS, AC.clears, AC.clear, AC.highs, AC.high, Bool.not_false, Bool.true_and, Bool.and_self, AV.purge, AV.purges, AC.purge, ABlk.purge, List.contains_cons, List.contains_nil, Nat.reduceBEq, Bool.or_self, Bool.or_false, Bool.false_or, Bool.or_true, eT, iR, e2, e8, e9, e10, e28, e29, e30, s9, s10, s13, s17, s19, s500]
   congr 3
  ·obtain ⟨rfl, rfl⟩ : same = true ∧ p = [] := by
    rcases h1 with h1 | h1
    ·exact absurd h1 hv
    ·exact h1
   repeat' (first | (with_reducible first | refine W ?_ | refine Z0 ?_) | refine Cg _ (hbel) ?_ | refine Cg _ (variable_a x.name) ?_ | ((with_reducible first | refine Wo (fun K hK => ?_) | refine Wp ?_ | refine Wq ?_ | refine Wr ?_); (try simp only [go_sem, fN, seval, eT, iR, e2, e8, e9, e10, e28, e29, e30, s9, s10, s13, s17, s19, s500, hlt', hp, hv, dT, dF, nL]); (repeat with_reducible refine Ai ?_); (try (refine hK _ ?_; clear hK K)); try with_reducible refine iC ?_))
   refine then_normal ⟨A.1.places.length - (i + 1), by omega, i + 1, acc ++ [], by omega, rfl, by simp; omega, hn, ?_⟩
   rw [List.append_nil]
   simp only [go_sem, fN, seval, AS.drop, dropS, AC.clears, AC.clear, AC.highs, AC.high, Bool.not_false, Bool.true_and, Bool.and_self, AV.purge, AV.purges, AC.purge, ABlk.purge, List.contains_cons, List.contains_nil, Nat.reduceBEq, Bool.or_self, Bool.or_false, Bool.false_or, Bool.or_true, eT, iR, e2, e8, e9, e10, e28, e29, e30, s9, s10, s13, s17, s19, s500]
   congr 3
 ·have hv : ¬ isVar x.name = true := fun h => h1 (.inl h)
  have hs : (same = false ∧ True) ∨ (same = true ∧ ¬ (p.length : Int) = 0) := by
   cases same with
   | false => exact .inl ⟨rfl, trivial⟩
   | true => exact .inr ⟨rfl, fun h => h1 (.inr ⟨rfl, List.length_eq_zero_iff.1 (by omega)⟩)⟩
  have hsv := solve_a _ (good_start hmay).1 _ (Nat.le_refl _) n _ r hr (good_start hmay).2
  have hU := (good_start hmay).1
  unfold aPrs at hsv
  simp only [List.map_cons, List.map_nil, encP] at hsv
  rcases hs with ⟨rfl, hp0⟩ | ⟨rfl, hp0⟩
  all_goals
   rcases h2 with ⟨r8, hc⟩ | ⟨r8, r0, hc⟩ | ⟨r0, hg, hc⟩
   ·rw [hno hc]
    unfold crV
    repeat' (first | (with_reducible first | refine W ?_ | refine Z0 ?_) | refine Cg _ (hbel) ?_ | refine Cg _ (variable_a x.name) ?_ | refine Cg _ (hsv) ?_ | ((with_reducible first | refine Wo (fun K hK => ?_) | refine Wp ?_ | refine Wq ?_ | refine Wr ?_); (try simp only [go_sem, fN, seval, eT, iR, e2, e8, e9, e10, e28, e29, e30, s9, s10, s13, s17, s19, s500, hlt', hp, hv, hp0, r8, dT, dF, nL]); (repeat with_reducible refine Ai ?_); (try (refine hK _ ?_; clear hK K)); try with_reducible refine iC ?_))
    simp only [go_sem, fN, seval, FinQ, AS.result, resAll, resOne, tupV]
    rfl
   ·have hn := hyes _ hc
    repeat' (first | (with_reducible first | refine W ?_ | refine Z0 ?_) | refine Cg _ (hbel) ?_ | refine Cg _ (variable_a x.name) ?_ | refine Cg _ (hsv) ?_ | ((with_reducible first | refine Wo (fun K hK => ?_) | refine Wp ?_ | refine Wq ?_ | refine Wr ?_); (try simp only [go_sem, fN, seval, eT, iR, e2, e8, e9, e10, e28, e29, e30, s9, s10, s13, s17, s19, s500, hlt', hp, hv, hp0, r8, r0, dT, dF, nL]); (repeat with_reducible refine Ai ?_); (try (refine hK _ ?_; clear hK K)); try with_reducible refine iC ?_))
    refine then_normal ⟨A.1.places.length - (i + 1), by omega, i + 1, acc ++ [], by omega, rfl, by simp; omega, hn, ?_⟩
    rw [List.append_nil]
    simp only [go_sem, fN, seval, AS.drop, dropS, AC.clears, AC.clear, AC.highs, AC.high, Bool.not_false, Bool.true_and, Bool.and_self, AV.purge, AV.purges, AC.purge, ABlk.purge, List.contains_cons, List.contains_nil, Nat.reduceBEq, Bool.or_self, Bool.or_false, Bool.false_or, Bool.or_true, eT, iR, e2, e8, e9, e10, e28, e29, e30, s9, s10, s13, s17, s19, s500]
    congr 3
   ·have hgl := hg.len
    have on1 := onP_a r.1 (by omega) hg.ord A.2 hg.var A2
    have on2 := onP_a r.1 (by omega) hg.ord (A.1.putP p B.2) hg.var (putP_chk p A.1 B.2 A1 B1')
    have y1 : (onTo r.1 A.2).1.size ≤ 2000 := onTo_size
    have y2 : (onTo r.1 (A.1.putP p B.2)).1.size ≤ 2000 := onTo_size
    generalize onTo r.1 A.2 = y at *
    generalize onTo r.1 (A.1.putP p B.2) = z at *
    obtain ⟨y, yb⟩ := y
    obtain ⟨z, zb⟩ := z
    simp only at on1 on2 y1 y2 hc
    by_cases hb : yb = true ∧ zb = true
    ·obtain ⟨rfl, rfl⟩ := hb
     rw [if_pos ⟨rfl, rfl⟩] at hc
     have hn := hyes _ hc
     have hnm := namedL_a [y, z] (by simp only [Tm.sizes]; omega)
     rw [show (Tm.cnL [y, z] []).1 = [(named2 y z).1, (named2 y z).2] from rfl] at hnm
     unfold aTms at hnm
     simp only [List.map_cons, List.map_nil, encT_eq] at hnm
     generalize named2 y z = q at *
     repeat' (first | (with_reducible first | refine W ?_ | refine Z0 ?_) | refine Cg _ (hbel) ?_ | refine Cg _ (variable_a x.name) ?_ | refine Cg _ (hsv) ?_ | refine Cg _ (on1) ?_ | refine Cg _ (hwith) ?_ | refine Cg _ (on2) ?_ | refine Cg _ (hnm) ?_ | ((with_reducible first | refine Wo (fun K hK => ?_) | refine Wp ?_ | refine Wq ?_ | refine Wr ?_); (try simp only [go_sem, fN, seval, eT, iR, e2, e8, e9, e10, e28, e29, e30, s9, s10, s13, s17, s19, s500, hlt', hp, hv, hp0, r0, hl, dT, dF, nL]); (repeat with_reducible refine Ai ?_); (try (refine hK _ ?_; clear hK K)); try with_reducible refine iC ?_))
     refine then_normal ⟨A.1.places.length - (i + 1), by omega, i + 1, acc ++ [q], by omega, rfl, by simp; omega, hn, ?_⟩
     simp only [go_sem, fN, seval, AS.drop, dropS, AC.clears, AC.clear, AC.highs, AC.high, Bool.not_false, Bool.true_and, Bool.and_self, AV.purge, AV.purges, AC.purge, ABlk.purge, List.contains_cons, List.contains_nil, Nat.reduceBEq, Bool.or_self, Bool.or_false, Bool.false_or, Bool.or_true, eT, iR, e2, e8, e9, e10, e28, e29, e30, s9, s10, s13, s17, s19, s500]
     refine ⟨by congr 3, ?_⟩
     rw [List.map_append]
     rfl
    ·rw [if_neg hb] at hc
     rw [hno hc]
     unfold crV
     cases yb
     ·repeat' (first | (with_reducible first | refine W ?_ | refine Z0 ?_) | refine Cg _ (hbel) ?_ | refine Cg _ (variable_a x.name) ?_ | refine Cg _ (hsv) ?_ | refine Cg _ (on1) ?_ | refine Cg _ (hwith) ?_ | refine Cg _ (on2) ?_ | ((with_reducible first | refine Wo (fun K hK => ?_) | refine Wp ?_ | refine Wq ?_ | refine Wr ?_); (try simp only [go_sem, fN, seval, eT, iR, e2, e8, e9, e10, e28, e29, e30, s9, s10, s13, s17, s19, s500, hlt', hp, hv, hp0, r0, hl, dT, dF, nL]); (repeat with_reducible refine Ai ?_); (try (refine hK _ ?_; clear hK K)); try with_reducible refine iC ?_))
      simp only [go_sem, fN, seval, FinQ, AS.result, resAll, resOne, tupV]
      rfl
     ·cases zb
      ·repeat' (first | (with_reducible first | refine W ?_ | refine Z0 ?_) | refine Cg _ (hbel) ?_ | refine Cg _ (variable_a x.name) ?_ | refine Cg _ (hsv) ?_ | refine Cg _ (on1) ?_ | refine Cg _ (hwith) ?_ | refine Cg _ (on2) ?_ | ((with_reducible first | refine Wo (fun K hK => ?_) | refine Wp ?_ | refine Wq ?_ | refine Wr ?_); (try simp only [go_sem, fN, seval, eT, iR, e2, e8, e9, e10, e28, e29, e30, s9, s10, s13, s17, s19, s500, hlt', hp, hv, hp0, r0, hl, dT, dF, nL]); (repeat with_reducible refine Ai ?_); (try (refine hK _ ?_; clear hK K)); try with_reducible refine iC ?_))
       simp only [go_sem, fN, seval, FinQ, AS.result, resAll, resOne, tupV]
       rfl
      ·exact absurd ⟨rfl, rfl⟩ hb
theorem placesFrom_ne : ∀ (k : Nat) (xs : List Tm) (p : List Int), p ∈ Tm.placesFrom k xs → p ≠ []
 | _, [], p, h => by simp [Tm.placesFrom] at h
 | k, x :: xs, p, h => by
  rw [Tm.placesFrom] at h
  rcases List.mem_append.1 h with h | h
  ·obtain ⟨q, _, rfl⟩ := List.mem_map.1 h
   simp
  ·exact placesFrom_ne (k + 1) xs p h
theorem places_nil {t : Tm} {i : Nat} {p : List Int} (h : t.places[i]? = some p) : p = [] ↔ i = 0 := by
 cases t with
 | mk n xs =>
  rw [Tm.places] at h
  cases i with
  | zero =>
   have h : some [] = some p := h
   cases h
   exact ⟨fun _ => rfl, fun _ => rfl⟩
  | succ i =>
   simp only [List.getElem?_cons_succ] at h
   have := placesFrom_ne 0 xs p (List.mem_of_getElem? h)
   exact ⟨fun e => absurd e this, fun e => by omega⟩
theorem betweenR_a {a b : Pr} (ha1 : a.1.may = 0) (ha2 : a.2.may = 0) (hb1 : b.1.may = 0) (hb2 : b.2.may = 0) (same : Bool) : ACalls Tryz.prog 21 [aPr a, aPr b, aBool same] (crV (crit (aprt 80 0 a) (aprt 81 0 b) same)) := by
 have pa := own_a 80 (by decide) (by decide) ha1 ha2
 have pb := own_a 81 (by decide) (by decide) hb1 hb2
 have hA := aprt_ok (c := 80) (by decide) (by decide) (k := 0) (by omega) ha1 ha2
 have hB := aprt_ok (c := 81) (by decide) (by decide) (k := 0) (by omega) hb1 hb2
 generalize aprt 80 0 a = A at *
 generalize aprt 81 0 b = B at *
 obtain ⟨A1, A2, A3, A4⟩ := hA
 obtain ⟨B1, B1', B3, B4⟩ := hB
 have hpl := Tm.places_length A.1
 have hall := placesN_a A.1 (by omega)
 unfold crit
 refine ok_R_PairsBetween.ac fun C hC => ?_
 unfold ir_R_PairsBetween
 repeat' (first | (with_reducible first | refine W ?_ | refine Z0 ?_) | refine Cg _ (pa) ?_ | refine Cg _ (pb) ?_ | refine Cg _ (hall) ?_ | ((with_reducible first | refine Wo (fun K hK => ?_) | refine Wp ?_ | refine Wq ?_ | refine Wr ?_); (try simp only [go_sem, fN, seval, eT, iR, dT, dF, nL]); (repeat with_reducible refine Ai ?_); (try (refine hK _ ?_; clear hK K)); try with_reducible refine iC ?_))
 refine IWP.ghost (Ghost.own 11 500 31 4 (xs := ([] : List Pr).map encP) (by rfl) (by rfl) lens_encP (by rw [hC]; decide)) ?_
 refine IWP.loopD [13, 17, 19] (fun m s => ∃ i acc, i ≤ A.1.places.length ∧ m = A.1.places.length - i ∧ acc.length ≤ i ∧ critL A B same A.1.places = (critL A B same (A.1.places.drop i)).map (acc ++ ·) ∧ s.env 2 = aBool same ∧ s.env 8 = .one (.ptr 8 1 0 0) ∧ s.env 9 = .one (.ptr 9 1 0 0) ∧ s.env 10 = aIss A.1.places ∧ s.env 11 = .one (.row 500 acc.length) ∧ s.env 12 = aInt i ∧ s.S 8 = some (boxPr A) ∧ s.S 9 = some (boxPr B) ∧ s.S 13 = none ∧ s.S 17 = none ∧ s.S 19 = none ∧ s.S 500 = some (.arow 31 4 (acc.map encP))) A.1.places.length ⟨0, [], Nat.zero_le _, rfl, Nat.zero_le _, by simp, rfl, rfl, rfl, rfl, rfl, rfl, rfl, rfl, rfl, rfl, rfl, rfl⟩ ?_
 rintro m ⟨env, S⟩ ⟨i, acc, hi, rfl, hal, hcr, e2, e8, e9, e10, e11, e12, s8, s9, s13, s17, s19, s500⟩
 simp only at e2 e8 e9 e10 e11 e12 s8 s9 s13 s17 s19 s500
 have hl : (acc.map encP).length = acc.length := by simp
 by_cases hlt : i < A.1.places.length
 case neg =>
  rw [List.drop_of_length_le (by omega)] at hcr
  simp only [critL, Option.map_some, List.append_nil] at hcr
  rw [hcr]
  have hlt' : ¬ (i : Int) < A.1.places.length := by omega
  unfold crV
  repeat' (first | (with_reducible first | refine W ?_ | refine Z0 ?_) | ((with_reducible first | refine Wo (fun K hK => ?_) | refine Wp ?_ | refine Wq ?_ | refine Wr ?_); (try simp only [go_sem, fN, seval, eT, iR, e2, e8, e9, e10, e11, e12, s8, s9, s13, s17, s19, s500, hlt', dT, dF, nL]); (repeat with_reducible refine Ai ?_); (try (refine hK _ ?_; clear hK K)); try with_reducible refine iC ?_))
  simp only [go_sem, fN, seval, FinQ, AS.result, resAll, resOne, tupV, s500, hl]
 obtain ⟨p, hp⟩ := get_lt hlt
 have hlt' : (i : Int) < A.1.places.length := by omega
 obtain ⟨x, hx, hxk⟩ := places_at A.1 p (mem_of_get hp)
 have hxz := knot_size A.1 x hxk
 have hbel := atOf_a p A.1
 rw [hx] at hbel
 have hwith := putOf_a p A.1 (by omega) B.2 (by rw [hx]; rfl)
 have hpz := putP_size p A.1 B.2
 have hpn := places_nil hp
 obtain ⟨hno, hyes⟩ := critL_step hp hcr
 have hpi : (p.map encI).length = p.length := by simp
 have hadd : ∀ ys : List Pr, acc ++ ys = acc ++ ys := fun _ => rfl
 rcases critOne_cases ⟨A1, A2, A3, A4⟩ ⟨B1, B1', B3, B4⟩ same hx hxk with ⟨h1, h2⟩ | ⟨h1, n, r, hr, hmay, h2⟩
 ·have hn := hyes _ h2
  by_cases hv : isVar x.name = true
  ·repeat' (first | (with_reducible first | refine W ?_ | refine Z0 ?_) | refine Cg _ (hbel) ?_ | refine Cg _ (isVar_a x.name) ?_ | ((with_reducible first | refine Wo (fun K hK => ?_) | refine Wp ?_ | refine Wq ?_ | refine Wr ?_); (try simp only [go_sem, fN, seval, eT, iR, e2, e8, e9, e10, e11, e12, s8, s9, s13, s17, s19, s500, hlt', hp, hv, dT, dF, nL]); (repeat with_reducible refine Ai ?_); (try (refine hK _ ?_; clear hK K)); try with_reducible refine iC ?_))
   refine then_normal ⟨A.1.places.length - (i + 1), by omega, i + 1, acc ++ [], by omega, rfl, by simp; omega, hn, ?_⟩
   rw [List.append_nil]
   simp only [go_sem, fN, seval, AS.drop, dropS, AC.clears, AC.clear, AC.highs, AC.high, Bool.not_false, Bool.true_and, Bool.and_self, AV.purge, AV.purges, AC.purge, ABlk.purge, List.contains_cons, List.contains_nil, Nat.reduceBEq, Bool.or_self, Bool.or_false, Bool.false_or, Bool.or_true, eT, iR, e2, e8, e9, e10, e11, e12, s8, s9, s13, s17, s19, s500]
   congr 3
  ·obtain ⟨rfl, hp0⟩ : same = true ∧ p = [] := by
    rcases h1 with h1 | h1
    ·exact absurd h1 hv
    ·exact h1
   have hi0 : i = 0 := hpn.1 hp0
   subst hi0
   have hz0 : ((0 : Nat) : Int) = 0 := rfl
   have hlt0 : (0 : Int) < A.1.places.length := by omega
   repeat' (first | (with_reducible first | refine W ?_ | refine Z0 ?_) | refine Cg _ (hbel) ?_ | refine Cg _ (isVar_a x.name) ?_ | ((with_reducible first | refine Wo (fun K hK => ?_) | refine Wp ?_ | refine Wq ?_ | refine Wr ?_); (try simp only [go_sem, fN, seval, eT, iR, e2, e8, e9, e10, e11, e12, s8, s9, s13, s17, s19, s500, hlt', hlt0, hz0, hp, hv, dT, dF, nL]); (repeat with_reducible refine Ai ?_); (try (refine hK _ ?_; clear hK K)); try with_reducible refine iC ?_))
   refine then_normal ⟨A.1.places.length - (0 + 1), by omega, 0 + 1, acc ++ [], by omega, rfl, by simp; omega, hn, ?_⟩
   rw [List.append_nil]
   simp only [go_sem, fN, seval, AS.drop, dropS, AC.clears, AC.clear, AC.highs, AC.high, Bool.not_false, Bool.true_and, Bool.and_self, AV.purge, AV.purges, AC.purge, ABlk.purge, List.contains_cons, List.contains_nil, Nat.reduceBEq, Bool.or_self, Bool.or_false, Bool.false_or, Bool.or_true, eT, iR, e2, e8, e9, e10, e11, e12, s8, s9, s13, s17, s19, s500]
 ·have hv : ¬ isVar x.name = true := fun h => h1 (.inl h)
  have hs : (same = false ∧ True) ∨ (same = true ∧ ¬ (i : Int) = 0) := by
   cases same with
   | false => exact .inl ⟨rfl, trivial⟩
   | true => exact .inr ⟨rfl, fun h => h1 (.inr ⟨rfl, hpn.2 (by omega)⟩)⟩
  have hsv := unifyOf_a _ (good_start hmay).1 _ (Nat.le_refl _) n _ r hr (good_start hmay).2
  have hU := (good_start hmay).1
  unfold aPrs at hsv
  simp only [List.map_cons, List.map_nil, encP] at hsv
  rcases hs with ⟨rfl, hp0⟩ | ⟨rfl, hp0⟩
  all_goals
   rcases h2 with ⟨r8, hc⟩ | ⟨r8, r0, hc⟩ | ⟨r0, hg, hc⟩
   ·rw [hno hc]
    unfold crV
    repeat' (first | (with_reducible first | refine W ?_ | refine Z0 ?_) | refine Cg _ (hbel) ?_ | refine Cg _ (isVar_a x.name) ?_ | refine Cg _ (hsv) ?_ | ((with_reducible first | refine Wo (fun K hK => ?_) | refine Wp ?_ | refine Wq ?_ | refine Wr ?_); (try simp only [go_sem, fN, seval, eT, iR, e2, e8, e9, e10, e11, e12, s8, s9, s13, s17, s19, s500, hlt', hp, hv, hp0, r8, dT, dF, nL]); (repeat with_reducible refine Ai ?_); (try (refine hK _ ?_; clear hK K)); try with_reducible refine iC ?_))
    simp only [go_sem, fN, seval, FinQ, AS.result, resAll, resOne, tupV]
    rfl
   ·have hn := hyes _ hc
    repeat' (first | (with_reducible first | refine W ?_ | refine Z0 ?_) | refine Cg _ (hbel) ?_ | refine Cg _ (isVar_a x.name) ?_ | refine Cg _ (hsv) ?_ | ((with_reducible first | refine Wo (fun K hK => ?_) | refine Wp ?_ | refine Wq ?_ | refine Wr ?_); (try simp only [go_sem, fN, seval, eT, iR, e2, e8, e9, e10, e11, e12, s8, s9, s13, s17, s19, s500, hlt', hp, hv, hp0, r8, r0, dT, dF, nL]); (repeat with_reducible refine Ai ?_); (try (refine hK _ ?_; clear hK K)); try with_reducible refine iC ?_))
    refine then_normal ⟨A.1.places.length - (i + 1), by omega, i + 1, acc ++ [], by omega, rfl, by simp; omega, hn, ?_⟩
    rw [List.append_nil]
    simp only [go_sem, fN, seval, AS.drop, dropS, AC.clears, AC.clear, AC.highs, AC.high, Bool.not_false, Bool.true_and, Bool.and_self, AV.purge, AV.purges, AC.purge, ABlk.purge, List.contains_cons, List.contains_nil, Nat.reduceBEq, Bool.or_self, Bool.or_false, Bool.false_or, Bool.or_true, eT, iR, e2, e8, e9, e10, e11, e12, s8, s9, s13, s17, s19, s500]
    congr 3
   ·have hgl := hg.len
    have on1 := onRef_a r.1 A.2 (by omega)
    have on2 := onRef_a r.1 (A.1.putP p B.2) (by omega)
    have k1 := fun h => onTo_chk hg.chk A2 h
    have k2 := fun h => onTo_chk hg.chk (putP_chk p A.1 B.2 A1 B1') h
    have y1 : (onTo r.1 A.2).1.size ≤ 2000 := onTo_size
    have y2 : (onTo r.1 (A.1.putP p B.2)).1.size ≤ 2000 := onTo_size
    generalize onTo r.1 A.2 = y at *
    generalize onTo r.1 (A.1.putP p B.2) = z at *
    obtain ⟨y, yb⟩ := y
    obtain ⟨z, zb⟩ := z
    simp only at on1 on2 y1 y2 hc k1 k2
    by_cases hb : yb = true ∧ zb = true
    ·obtain ⟨rfl, rfl⟩ := hb
     rw [if_pos ⟨rfl, rfl⟩] at hc
     have hn := hyes _ hc
     have hnm := canonRL_a [y, z] (fun t ht => by rcases List.mem_cons.1 ht with rfl | ht; exact k1 rfl; rw [List.mem_singleton.1 ht]; exact k2 rfl) (by simp only [Tm.sizes]; omega)
     rw [show (Tm.cnL [y, z] []).1 = [(named2 y z).1, (named2 y z).2] from rfl] at hnm
     unfold aTms at hnm
     simp only [List.map_cons, List.map_nil, encT_eq] at hnm
     generalize named2 y z = q at *
     repeat' (first | (with_reducible first | refine W ?_ | refine Z0 ?_) | refine Cg _ (hbel) ?_ | refine Cg _ (isVar_a x.name) ?_ | refine Cg _ (hsv) ?_ | refine Cg _ (on1) ?_ | refine Cg _ (hwith) ?_ | refine Cg _ (on2) ?_ | refine Cg _ (hnm) ?_ | ((with_reducible first | refine Wo (fun K hK => ?_) | refine Wp ?_ | refine Wq ?_ | refine Wr ?_); (try simp only [go_sem, fN, seval, eT, iR, e2, e8, e9, e10, e11, e12, s8, s9, s13, s17, s19, s500, hlt', hp, hv, hp0, r0, hl, dT, dF, nL]); (repeat with_reducible refine Ai ?_); (try (refine hK _ ?_; clear hK K)); try with_reducible refine iC ?_))
     refine then_normal ⟨A.1.places.length - (i + 1), by omega, i + 1, acc ++ [q], by omega, rfl, by simp; omega, hn, ?_⟩
     simp only [go_sem, fN, seval, AS.drop, dropS, AC.clears, AC.clear, AC.highs, AC.high, Bool.not_false, Bool.true_and, Bool.and_self, AV.purge, AV.purges, AC.purge, ABlk.purge, List.contains_cons, List.contains_nil, Nat.reduceBEq, Bool.or_self, Bool.or_false, Bool.false_or, Bool.or_true, eT, iR, e2, e8, e9, e10, e11, e12, s8, s9, s13, s17, s19, s500]
     refine ⟨by congr 3, ?_⟩
     rw [List.map_append]
     rfl
    ·rw [if_neg hb] at hc
     rw [hno hc]
     unfold crV
     cases yb
     ·repeat' (first | (with_reducible first | refine W ?_ | refine Z0 ?_) | refine Cg _ (hbel) ?_ | refine Cg _ (isVar_a x.name) ?_ | refine Cg _ (hsv) ?_ | refine Cg _ (on1) ?_ | refine Cg _ (hwith) ?_ | refine Cg _ (on2) ?_ | ((with_reducible first | refine Wo (fun K hK => ?_) | refine Wp ?_ | refine Wq ?_ | refine Wr ?_); (try simp only [go_sem, fN, seval, eT, iR, e2, e8, e9, e10, e11, e12, s8, s9, s13, s17, s19, s500, hlt', hp, hv, hp0, r0, hl, dT, dF, nL]); (repeat with_reducible refine Ai ?_); (try (refine hK _ ?_; clear hK K)); try with_reducible refine iC ?_))
      simp only [go_sem, fN, seval, FinQ, AS.result, resAll, resOne, tupV]
      rfl
     ·cases zb
      ·repeat' (first | (with_reducible first | refine W ?_ | refine Z0 ?_) | refine Cg _ (hbel) ?_ | refine Cg _ (isVar_a x.name) ?_ | refine Cg _ (hsv) ?_ | refine Cg _ (on1) ?_ | refine Cg _ (hwith) ?_ | refine Cg _ (on2) ?_ | ((with_reducible first | refine Wo (fun K hK => ?_) | refine Wp ?_ | refine Wq ?_ | refine Wr ?_); (try simp only [go_sem, fN, seval, eT, iR, e2, e8, e9, e10, e11, e12, s8, s9, s13, s17, s19, s500, hlt', hp, hv, hp0, r0, hl, dT, dF, nL]); (repeat with_reducible refine Ai ?_); (try (refine hK _ ?_; clear hK K)); try with_reducible refine iC ?_))
       simp only [go_sem, fN, seval, FinQ, AS.result, resAll, resOne, tupV]
       rfl
      ·exact absurd ⟨rfl, rfl⟩ hb

theorem cn_size {t : Tm} (hc : t.chk = 0) {l : List ByteArray} (hl : ∀ n ∈ (t.cn l).2, isVar n = true) : (t.cn l).1.size = t.size := by
 rw [cn_on t hc l _ hl ⟨[], by simp⟩]
 refine on_size (fun b hb => ?_) t
 obtain ⟨j, h1, h2⟩ := zNames_get _ _ hb
 rw [h2]
 rfl
structure CritOk (q : Pr) : Prop where
 c1 : q.1.chk = 0
 c2 : q.2.chk = 0
 z1 : q.1.size ≤ 2000
 z2 : q.2.size ≤ 2000
theorem cn_vars {t : Tm} (hc : t.chk = 0) {l : List ByteArray} (hl : ∀ n ∈ l, isVar n = true) : ∀ n ∈ (t.cn l).2, isVar n = true := by
 rw [cn_names t hc]
 exact addVars_vars _ l hl
theorem named2_ok {l r : Tm} (h1 : l.chk = 0) (h2 : r.chk = 0) (z1 : l.size ≤ 2000) (z2 : r.size ≤ 2000) : CritOk (named2 l r) := by
 have v1 := cn_vars h1 (l := []) (by simp)
 have v2 := cn_vars h2 v1
 have n1 := cn_names_len l []
 have n2 := cn_names_len r (l.cn []).2
 rw [List.length_nil] at n1
 exact ⟨cn_chk h1 v1 (by omega), cn_chk h2 v2 (by omega), by show (l.cn []).1.size ≤ _; rw [cn_size h1 v1]; exact z1, by show (r.cn _).1.size ≤ _; rw [cn_size h2 v2]; exact z2⟩
theorem critOne_ok {A B : Pr} (a1 : A.1.chk = 0) (a2 : A.2.chk = 0) (z1 : A.1.size ≤ 200) (b1 : B.1.chk = 0) (b2 : B.2.chk = 0) (bz : B.1.size ≤ 200) {same : Bool} {p : List Int} (hp : p ∈ A.1.places) {x : List Pr} (h : critOne A B same p = some x) : x.length ≤ 1 ∧ ∀ q ∈ x, CritOk q := by
 obtain ⟨t, ht, hk⟩ := places_at A.1 p hp
 have hxc := knot_chk A.1 t a1 hk
 have hxz := knot_size A.1 t hk
 have hmay := pairsMay_one (may_of hxc (by omega)) (may_of b1 bz)
 unfold critOne at h
 simp only [ht] at h
 split at h
 ·cases h
  exact ⟨by simp, by simp⟩
 split at h
 ·cases h
 split at h
 ·cases h
  exact ⟨by simp, by simp⟩
 rename_i h8 h0
 have h0 : (solv [(t, B.1)]).2 = 0 := by
  rcases Decidable.em ((solv [(t, B.1)]).2 = 0) with h | h
  ·exact h
  ·exact absurd h h0
 have hg := solv_good hmay h0
 split at h
 ·rename_i hb
  cases h
  refine ⟨by simp, fun q hq => ?_⟩
  rw [List.mem_singleton.1 hq]
  exact named2_ok (onTo_chk hg.chk a2 hb.1) (onTo_chk hg.chk (putP_chk p A.1 B.2 a1 b2) hb.2) onTo_size onTo_size
 ·cases h
theorem critL_ok {A B : Pr} (a1 : A.1.chk = 0) (a2 : A.2.chk = 0) (z1 : A.1.size ≤ 200) (b1 : B.1.chk = 0) (b2 : B.2.chk = 0) (bz : B.1.size ≤ 200) {same : Bool} : ∀ {ps : List (List Int)}, (∀ p ∈ ps, p ∈ A.1.places) → ∀ {x : List Pr}, critL A B same ps = some x → x.length ≤ ps.length ∧ ∀ q ∈ x, CritOk q
 | [], _, x, h => by
  cases h
  exact ⟨by simp, by simp⟩
 | p :: ps, hps, x, h => by
  rw [critL] at h
  split at h
  ·cases h
  ·rename_i y hy
   rw [Option.map_eq_some_iff] at h
   obtain ⟨z, h1, rfl⟩ := h
   obtain ⟨k1, k2⟩ := critOne_ok a1 a2 z1 b1 b2 bz (hps p (by simp)) hy
   obtain ⟨k3, k4⟩ := critL_ok a1 a2 z1 b1 b2 bz (fun q hq => hps q (List.mem_cons_of_mem _ hq)) h1
   refine ⟨by simp only [List.length_append, List.length_cons]; omega, fun q hq => ?_⟩
   rcases List.mem_append.1 hq with hq | hq
   ·exact k2 q hq
   ·exact k4 q hq
theorem accP_ok {cr : Nat → Nat → Option (List Pr)} : ∀ (l : List (Nat × Nat)) (acc : List Pr), (∀ q ∈ acc, CritOk q) → acc.length ≤ 400 → (∀ q ∈ l, ∀ x, cr q.1 q.2 = some x → ∀ p ∈ x, CritOk p) → (∀ q ∈ (accP cr l acc).1, CritOk q) ∧ (accP cr l acc).1.length ≤ 400
 | [], acc, h, hl, _ => ⟨h, hl⟩
 | q :: l, acc, h, hl, hc => by
  rw [accP]
  split
  ·exact ⟨by simp, by simp⟩
  ·rename_i x hx
   split
   ·exact ⟨by simp, by simp⟩
   ·refine accP_ok l (acc ++ x) (fun p hp => ?_) (by omega) fun q' hq' => hc q' (List.mem_cons_of_mem _ hq')
    rcases List.mem_append.1 hp with hp | hp
    ·exact h p hp
    ·exact hc q (by simp) x hx p hp
theorem accP_congr {cr cr' : Nat → Nat → Option (List Pr)} : ∀ (l : List (Nat × Nat)) (acc : List Pr), (∀ q ∈ l, cr q.1 q.2 = cr' q.1 q.2) → accP cr l acc = accP cr' l acc
 | [], _, _ => rfl
 | q :: l, acc, h => by
  rw [accP, accP, h q (by simp)]
  split
  ·rfl
  ·split
   ·rfl
   ·exact accP_congr l _ fun q' hq' => h q' (List.mem_cons_of_mem _ hq')

theorem crR_at {R : List Pr} {c d : UInt8} {k i j : Nat} {a b : Pr} (hi : R[i]? = some a) (hj : R[j]? = some b) : crR R c d k i j = crit (aprt c k a) (aprt d k b) (decide (i = j)) := by
 unfold crR
 rw [hi, hj]
theorem idxF_mem {n i j : Nat} : ∀ q ∈ idxF n i j, j ≤ n → i < n → q.1 < n ∧ q.2 < n := fun q hq h1 h2 => by
 unfold idxF at hq
 rcases List.mem_append.1 hq with hq | hq
 ·obtain ⟨a, ha, rfl⟩ := List.mem_map.1 hq
  rw [List.mem_range'_1] at ha
  exact ⟨h2, by show a < n; omega⟩
 ·obtain ⟨a, ha, hq⟩ := List.mem_flatMap.1 hq
  obtain ⟨b, hb, rfl⟩ := List.mem_map.1 hq
  rw [List.mem_range'_1] at ha hb
  exact ⟨by show a < n; omega, by show b < n; omega⟩
theorem crR_same {R : List Pr} (hR : GoodRules R) {i j : Nat} (hi : i < R.length) (hj : j < R.length) : crR R 80 81 0 i j = crR R 88 89 1 i j := by
 obtain ⟨a, ha⟩ := get_lt hi
 obtain ⟨b, hb⟩ := get_lt hj
 rw [crR_at ha hb, crR_at ha hb]
 have ma := mem_of_get ha
 have mb := mem_of_get hb
 have ca := Tm.may_chk (hR.left a ma)
 have ca' := Tm.may_chk (hR.right a ma)
 have cb := Tm.may_chk (hR.left b mb)
 have cb' := Tm.may_chk (hR.right b mb)
 have va := varsOf_len' a.1
 have vb := varsOf_len' b.1
 have e1 := aprt_ren (c := 88) (d := 80) (fun i hi => exXP_X hi) ca.1 ca'.1 (by omega) (hR.vars a ma)
 have e2 := aprt_ren (c := 89) (d := 81) (fun i hi => exXP_Y hi) cb.1 cb'.1 (by omega) (hR.vars b mb)
 have oA := aprt_ok (c := 88) (by decide) (by decide) (k := 1) (by omega) (hR.left a ma) (hR.right a ma)
 have oB := aprt_ok (c := 89) (by decide) (by decide) (k := 1) (by omega) (hR.left b mb) (hR.right b mb)
 rw [← e1, ← e2]
 exact crit_ren exXP_ren oA.c1 oA.z1 oB.c1 oB.z1 _
theorem pairsC_same {R : List Pr} (hR : GoodRules R) : pairsC R 80 81 0 = pairsC R 88 89 1 := by
 unfold pairsC
 split
 ·rfl
 ·rename_i h
  exact accP_congr _ _ fun q hq => by
   obtain ⟨h1, h2⟩ := idxF_mem q hq (by omega) (by omega)
   exact crR_same hR h1 h2
theorem crR_ok {R : List Pr} (hR : GoodRules R) {i j : Nat} {x : List Pr} (hi : i < R.length) (hj : j < R.length) (h : crR R 88 89 1 i j = some x) : x.length ≤ 200 ∧ ∀ q ∈ x, CritOk q := by
 obtain ⟨a, ha⟩ := get_lt hi
 obtain ⟨b, hb⟩ := get_lt hj
 rw [crR_at ha hb] at h
 have ma := mem_of_get ha
 have mb := mem_of_get hb
 have oA := aprt_ok (c := 88) (by decide) (by decide) (k := 1) (by omega) (hR.left a ma) (hR.right a ma)
 have oB := aprt_ok (c := 89) (by decide) (by decide) (k := 1) (by omega) (hR.left b mb) (hR.right b mb)
 have := critL_ok oA.c1 oA.c2 oA.z1 oB.c1 oB.c2 oB.z1 (fun p hp => hp) h
 rw [Tm.places_length] at this
 exact ⟨by have := oA.z1; omega, this.2⟩
theorem pairsC_ok {R : List Pr} (hR : GoodRules R) : (∀ q ∈ (pairsC R 88 89 1).1, CritOk q) ∧ (pairsC R 88 89 1).1.length ≤ 400 := by
 unfold pairsC
 split
 ·exact ⟨by simp, by simp⟩
 ·rename_i h
  exact accP_ok _ _ (by simp) (by simp) fun q hq x hx => by
   obtain ⟨h1, h2⟩ := idxF_mem q hq (by omega) (by omega)
   exact (crR_ok hR h1 h2 hx).2
noncomputable def accR (R : List Pr) (c d : UInt8) (k i : Nat) (acc : List Pr) : List Pr × Int := if i < R.length then accP (crR R c d k) (idxF R.length i 0) acc else (acc, 0)
theorem accR_in {R : List Pr} {c d : UInt8} {k i : Nat} {acc : List Pr} (h : i < R.length) : accR R c d k i acc = accP (crR R c d k) (idxF R.length i 0) acc := if_pos h
theorem accR_next {R : List Pr} {c d : UInt8} {k i : Nat} {acc : List Pr} (h : i < R.length) : accP (crR R c d k) (idxF R.length i R.length) acc = accR R c d k (i + 1) acc := by
 unfold accR
 by_cases h1 : i + 1 < R.length
 ·rw [if_pos h1, idxF_out h1]
 ·rw [if_neg h1, idxF_end (by omega), accP]
theorem pairs_start (R : List Pr) (c d : UInt8) (k : Nat) : pairsC R c d k = accR R c d k 0 [] := by
 unfold pairsC accR
 by_cases h : R.length = 0
 ·rw [if_pos h, if_neg (by omega)]
 ·rw [if_neg h, if_pos (by omega)]
def prV (r : List Pr × Int) : AV := .tup [aPrs r.1, aInt r.2]
theorem pairsP_a {R : List Pr} (hR : GoodRules R) (h0 : rulesMay R = 0) : ACalls Tryz.prog 10 [aPrs R] (prV (pairsC R 88 89 1)) := by
 have h40 := hR.len
 rw [pairs_start]
 unfold prV
 refine ok_critical_Pairs.ac fun C hC => ?_
 unfold ir_critical_Pairs
 repeat' (first | (with_reducible first | refine W ?_ | refine Z0 ?_) | refine Cg _ (rewCheck_a R) ?_ | ((with_reducible first | refine Wo (fun K hK => ?_) | refine Wp ?_ | refine Wq ?_ | refine Wr ?_); (try simp only [go_sem, fN, seval, eT, iR, h0, dT, dF, nL]); (repeat with_reducible refine Ai ?_); (try (refine hK _ ?_; clear hK K)); try with_reducible refine iC ?_))
 refine IWP.ghost (Ghost.own 5 500 31 4 (xs := ([] : List Pr).map encP) (by rfl) (by rfl) lens_encP (by rw [hC]; decide)) ?_
 refine IWP.loopD [7, 9] (fun m s => ∃ i acc, i ≤ R.length ∧ m = R.length - i ∧ acc.length ≤ 400 ∧ accR R 88 89 1 0 [] = accR R 88 89 1 i acc ∧ s.env 0 = aPrs R ∧ s.env 5 = .one (.row 500 acc.length) ∧ s.env 17 = aPrs R ∧ s.env 18 = aInt R.length ∧ s.env 19 = aInt i ∧ s.S 7 = none ∧ s.S 9 = none ∧ s.S 500 = some (.arow 31 4 (acc.map encP))) R.length ⟨0, [], Nat.zero_le _, rfl, Nat.zero_le _, rfl, rfl, rfl, rfl, rfl, rfl, rfl, rfl, rfl⟩ ?_
 rintro m ⟨env, S⟩ ⟨i, acc, hi, rfl, hal, htot, e0, e5, e17, e18, e19, s7, s9, s500⟩
 simp only at e0 e5 e17 e18 e19 s7 s9 s500
 have hl : (acc.map encP).length = acc.length := by simp
 rw [htot]
 by_cases hlt : i < R.length
 case neg =>
  have hlt' : ¬ (i : Int) < R.length := by omega
  rw [accR, if_neg hlt]
  repeat' (first | (with_reducible first | refine W ?_ | refine Z0 ?_) | ((with_reducible first | refine Wo (fun K hK => ?_) | refine Wp ?_ | refine Wq ?_ | refine Wr ?_); (try simp only [go_sem, fN, seval, eT, iR, e0, e5, e17, e18, e19, s7, s9, s500, hlt', dT, dF, nL]); (repeat with_reducible refine Ai ?_); (try (refine hK _ ?_; clear hK K)); try with_reducible refine iC ?_))
  simp only [go_sem, fN, seval, FinQ, AS.result, resAll, resOne, tupV, s500, hl]
 have hlt' : (i : Int) < R.length := by omega
 obtain ⟨a, ha⟩ := get_lt hlt
 have ma := mem_of_get ha
 rw [accR_in hlt]
 repeat' (first | (with_reducible first | refine W ?_ | refine Z0 ?_) | ((with_reducible first | refine Wo (fun K hK => ?_) | refine Wp ?_ | refine Wq ?_ | refine Wr ?_); (try simp only [go_sem, fN, seval, eT, iR, e0, e5, e17, e18, e19, s7, s9, s500, hlt', ha, encP, dT, dF, nL]); (repeat with_reducible refine Ai ?_); (try (refine hK _ ?_; clear hK K)); try with_reducible refine iC ?_))
 refine IWP.loopD [9] (fun m s => ∃ j acc2, j ≤ R.length ∧ m = R.length - j ∧ acc2.length ≤ 400 ∧ accP (crR R 88 89 1) (idxF R.length i 0) acc = accP (crR R 88 89 1) (idxF R.length i j) acc2 ∧ s.env 0 = aPrs R ∧ s.env 5 = .one (.row 500 acc2.length) ∧ s.env 6 = aInt i ∧ s.env 7 = .one (.ptr 7 1 0 0) ∧ s.env 17 = aPrs R ∧ s.env 18 = aInt R.length ∧ s.env 19 = aInt i ∧ s.env 24 = aPrs R ∧ s.env 25 = aInt R.length ∧ s.env 26 = aInt j ∧ s.S 7 = some (boxPr a) ∧ s.S 9 = none ∧ s.S 500 = some (.arow 31 4 (acc2.map encP))) R.length ⟨0, acc, Nat.zero_le _, rfl, hal, rfl, ?_⟩ ?_
 ·simp only [go_sem, fN, seval, eT, iR, e0, e5, e17, e18, e19, s7, s9, s500]
 rintro m ⟨env, S⟩ ⟨j, acc2, hj, rfl, hal2, htot2, e0, e5, e6, e7, e17, e18, e19, e24, e25, e26, s7, s9, s500⟩
 simp only at e0 e5 e6 e7 e17 e18 e19 e24 e25 e26 s7 s9 s500
 have hl2 : (acc2.map encP).length = acc2.length := by simp
 rw [htot2]
 by_cases hjl : j < R.length
 case neg =>
  have hjl' : ¬ (j : Int) < R.length := by omega
  obtain rfl : j = R.length := by omega
  have hnx := accR_next (c := 88) (d := 89) (k := 1) (acc := acc2) hlt
  repeat' (first | (with_reducible first | refine W ?_ | refine Z0 ?_) | ((with_reducible first | refine Wo (fun K hK => ?_) | refine Wp ?_ | refine Wq ?_ | refine Wr ?_); (try simp only [go_sem, fN, seval, eT, iR, e0, e5, e6, e7, e17, e18, e19, e24, e25, e26, s7, s9, s500, hjl', dT, dF, nL]); (repeat with_reducible refine Ai ?_); (try (refine hK _ ?_; clear hK K)); try with_reducible refine iC ?_))
  refine then_normal ⟨R.length - (i + 1), by omega, i + 1, acc2, by omega, rfl, hal2, ?_, ?_⟩
  ·exact hnx
  ·simp only [go_sem, fN, seval, AS.drop, dropS, AC.clears, AC.clear, AC.highs, AC.high, Bool.not_false, Bool.true_and, Bool.and_self, AV.purge, AV.purges, AC.purge, ABlk.purge, List.contains_cons, List.contains_nil, Nat.reduceBEq, Bool.or_self, Bool.or_false, Bool.false_or, Bool.or_true, eT, iR, e0, e5, e6, e7, e17, e18, e19, e24, e25, e26, s7, s9, s500]
   congr 3
 have hjl' : (j : Int) < R.length := by omega
 obtain ⟨b, hb⟩ := get_lt hjl
 have mb := mem_of_get hb
 have hij : decide ((i : Int) = (j : Int)) = decide (i = j) := by
  rw [decide_eq_decide]
  omega
 have hbt := between_a (hR.left a ma) (hR.right a ma) (hR.left b mb) (hR.right b mb) (decide (i = j))
 rw [← crR_at ha hb, ← hij] at hbt
 rw [idxF_in hjl, accP] at htot2 ⊢
 cases hcr : crR R 88 89 1 i j with
 | none =>
  rw [hcr] at hbt
  unfold crV at hbt
  simp only [hcr]
  repeat' (first | (with_reducible first | refine W ?_ | refine Z0 ?_) | refine Cg _ (hbt) ?_ | ((with_reducible first | refine Wo (fun K hK => ?_) | refine Wp ?_ | refine Wq ?_ | refine Wr ?_); (try simp only [go_sem, fN, seval, eT, iR, e0, e5, e6, e7, e17, e18, e19, e24, e25, e26, s7, s9, s500, hjl', hb, encP, dT, dF, nL]); (repeat with_reducible refine Ai ?_); (try (refine hK _ ?_; clear hK K)); try with_reducible refine iC ?_))
  simp only [go_sem, fN, seval, FinQ, AS.result, resAll, resOne, tupV]
  rfl
 | some x =>
  rw [hcr] at hbt
  unfold crV at hbt
  simp only [hcr]
  have hxl := (crR_ok hR hlt hjl hcr).1
  have hxm : (x.map encP).length = x.length := by simp
  have hla : (acc2 ++ x).length = acc2.length + x.length := List.length_append
  by_cases hg : 400 < (acc2 ++ x).length
  ·rw [if_pos hg]
   have hg' : (400 : Int) < ((acc2.length + x.length : Nat) : Int) := by omega
   repeat' (first | (with_reducible first | refine W ?_ | refine Z0 ?_) | refine Cg _ (hbt) ?_ | ((with_reducible first | refine Wo (fun K hK => ?_) | refine Wp ?_ | refine Wq ?_ | refine Wr ?_); (try simp only [go_sem, fN, seval, eT, iR, e0, e5, e6, e7, e17, e18, e19, e24, e25, e26, s7, s9, s500, hjl', hb, encP, hl2, hxm, hg', dT, dF, nL]); (repeat with_reducible refine Ai ?_); (try (refine hK _ ?_; clear hK K)); try with_reducible refine iC ?_))
   simp only [go_sem, fN, seval, FinQ, AS.result, resAll, resOne, tupV]
   rfl
  ·rw [if_neg hg]
   have hg' : ¬ (400 : Int) < ((acc2.length + x.length : Nat) : Int) := by omega
   repeat' (first | (with_reducible first | refine W ?_ | refine Z0 ?_) | refine Cg _ (hbt) ?_ | ((with_reducible first | refine Wo (fun K hK => ?_) | refine Wp ?_ | refine Wq ?_ | refine Wr ?_); (try simp only [go_sem, fN, seval, eT, iR, e0, e5, e6, e7, e17, e18, e19, e24, e25, e26, s7, s9, s500, hjl', hb, encP, hl2, hxm, hg', dT, dF, nL]); (repeat with_reducible refine Ai ?_); (try (refine hK _ ?_; clear hK K)); try with_reducible refine iC ?_))
   refine then_normal ⟨R.length - (j + 1), by omega, j + 1, acc2 ++ x, by omega, rfl, by omega, rfl, ?_⟩
   simp only [go_sem, fN, seval, AS.drop, dropS, AC.clears, AC.clear, AC.highs, AC.high, Bool.not_false, Bool.true_and, Bool.and_self, AV.purge, AV.purges, AC.purge, ABlk.purge, List.contains_cons, List.contains_nil, Nat.reduceBEq, Bool.or_self, Bool.or_false, Bool.false_or, Bool.or_true, eT, iR, e0, e5, e6, e7, e17, e18, e19, e24, e25, e26, s7, s9, s500]
   refine ⟨by congr 3, ?_⟩
   rw [List.map_append]
theorem pairsOf_a {R : List Pr} (hR : GoodRules R) : ACalls Tryz.prog 8 [aPrs R] (prV (pairsC R 80 81 0)) := by
 have h40 := hR.len
 rw [pairs_start]
 unfold prV
 refine ok_R_PairsOf.ac fun C hC => ?_
 unfold ir_R_PairsOf
 repeat' (first | (with_reducible first | refine W ?_ | refine Z0 ?_) | ((with_reducible first | refine Wo (fun K hK => ?_) | refine Wp ?_ | refine Wq ?_ | refine Wr ?_); (try simp only [go_sem, fN, seval, eT, iR, dT, dF, nL]); (repeat with_reducible refine Ai ?_); (try (refine hK _ ?_; clear hK K)); try with_reducible refine iC ?_))
 refine IWP.ghost (Ghost.own 4 500 31 4 (xs := ([] : List Pr).map encP) (by rfl) (by rfl) lens_encP (by rw [hC]; decide)) ?_
 refine IWP.loop (fun m s => ∃ i acc, i ≤ R.length ∧ m = R.length - i ∧ acc.length ≤ 400 ∧ accR R 80 81 0 0 [] = accR R 80 81 0 i acc ∧ s.env 0 = aPrs R ∧ s.env 4 = .one (.row 500 acc.length) ∧ s.env 5 = aInt i ∧ s.S 500 = some (.arow 31 4 (acc.map encP))) R.length ⟨0, [], Nat.zero_le _, rfl, Nat.zero_le _, rfl, rfl, rfl, rfl, rfl⟩ ?_
 rintro m ⟨env, S⟩ ⟨i, acc, hi, rfl, hal, htot, e0, e4, e5, s500⟩
 simp only at e0 e4 e5 s500
 have hl : (acc.map encP).length = acc.length := by simp
 rw [htot]
 by_cases hlt : i < R.length
 case neg =>
  have hlt' : ¬ (i : Int) < R.length := by omega
  rw [accR, if_neg hlt]
  repeat' (first | (with_reducible first | refine W ?_ | refine Z0 ?_) | ((with_reducible first | refine Wo (fun K hK => ?_) | refine Wp ?_ | refine Wq ?_ | refine Wr ?_); (try simp only [go_sem, fN, seval, eT, iR, e0, e4, e5, s500, hlt', dT, dF, nL]); (repeat with_reducible refine Ai ?_); (try (refine hK _ ?_; clear hK K)); try with_reducible refine iC ?_))
  simp only [go_sem, fN, seval, FinQ, AS.result, resAll, resOne, tupV, s500, hl]
 have hlt' : (i : Int) < R.length := by omega
 obtain ⟨a, ha⟩ := get_lt hlt
 have ma := mem_of_get ha
 rw [accR_in hlt]
 repeat' (first | (with_reducible first | refine W ?_ | refine Z0 ?_) | ((with_reducible first | refine Wo (fun K hK => ?_) | refine Wp ?_ | refine Wq ?_ | refine Wr ?_); (try simp only [go_sem, fN, seval, eT, iR, e0, e4, e5, s500, hlt', dT, dF, nL]); (repeat with_reducible refine Ai ?_); (try (refine hK _ ?_; clear hK K)); try with_reducible refine iC ?_))
 refine IWP.loop (fun m s => ∃ j acc2, j ≤ R.length ∧ m = R.length - j ∧ acc2.length ≤ 400 ∧ accP (crR R 80 81 0) (idxF R.length i 0) acc = accP (crR R 80 81 0) (idxF R.length i j) acc2 ∧ s.env 0 = aPrs R ∧ s.env 4 = .one (.row 500 acc2.length) ∧ s.env 5 = aInt i ∧ s.env 6 = aInt j ∧ s.S 500 = some (.arow 31 4 (acc2.map encP))) R.length ⟨0, acc, Nat.zero_le _, rfl, hal, rfl, ?_⟩ ?_
 ·simp only [go_sem, fN, seval, eT, iR, e0, e4, e5, s500]
 rintro m ⟨env, S⟩ ⟨j, acc2, hj, rfl, hal2, htot2, e0, e4, e5, e6, s500⟩
 simp only at e0 e4 e5 e6 s500
 have hl2 : (acc2.map encP).length = acc2.length := by simp
 rw [htot2]
 by_cases hjl : j < R.length
 case neg =>
  have hjl' : ¬ (j : Int) < R.length := by omega
  obtain rfl : j = R.length := by omega
  have hnx := accR_next (c := 80) (d := 81) (k := 0) (acc := acc2) hlt
  repeat' (first | (with_reducible first | refine W ?_ | refine Z0 ?_) | ((with_reducible first | refine Wo (fun K hK => ?_) | refine Wp ?_ | refine Wq ?_ | refine Wr ?_); (try simp only [go_sem, fN, seval, eT, iR, e0, e4, e5, e6, s500, hjl', dT, dF, nL]); (repeat with_reducible refine Ai ?_); (try (refine hK _ ?_; clear hK K)); try with_reducible refine iC ?_))
  refine then_normal ⟨R.length - (i + 1), by omega, i + 1, acc2, by omega, rfl, hal2, hnx, ?_⟩
  simp only [go_sem, fN, seval, eT, iR, e0, e4, e5, e6, s500]
  congr 3
 have hjl' : (j : Int) < R.length := by omega
 obtain ⟨b, hb⟩ := get_lt hjl
 have mb := mem_of_get hb
 have hij : decide ((i : Int) = (j : Int)) = decide (i = j) := by
  rw [decide_eq_decide]
  omega
 have hbt := betweenR_a (hR.left a ma) (hR.right a ma) (hR.left b mb) (hR.right b mb) (decide (i = j))
 rw [← crR_at ha hb, ← hij] at hbt
 rw [idxF_in hjl, accP] at htot2 ⊢
 have hsame := crR_same hR hlt hjl
 cases hcr : crR R 80 81 0 i j with
 | none =>
  rw [hcr] at hbt
  unfold crV at hbt
  simp only [hcr]
  repeat' (first | (with_reducible first | refine W ?_ | refine Z0 ?_) | refine Cg _ (hbt) ?_ | ((with_reducible first | refine Wo (fun K hK => ?_) | refine Wp ?_ | refine Wq ?_ | refine Wr ?_); (try simp only [go_sem, fN, seval, eT, iR, e0, e4, e5, e6, s500, hjl', ha, hb, encP, dT, dF, nL]); (repeat with_reducible refine Ai ?_); (try (refine hK _ ?_; clear hK K)); try with_reducible refine iC ?_))
  simp only [go_sem, fN, seval, FinQ, AS.result, resAll, resOne, tupV]
  rfl
 | some x =>
  have hxl := (crR_ok hR hlt hjl (hsame.symm.trans hcr)).1
  rw [hcr] at hbt
  unfold crV at hbt
  simp only [hcr]
  have hxm : (x.map encP).length = x.length := by simp
  have hla : (acc2 ++ x).length = acc2.length + x.length := List.length_append
  by_cases hg : 400 < (acc2 ++ x).length
  ·rw [if_pos hg]
   have hg' : (400 : Int) < ((acc2.length + x.length : Nat) : Int) := by omega
   repeat' (first | (with_reducible first | refine W ?_ | refine Z0 ?_) | refine Cg _ (hbt) ?_ | ((with_reducible first | refine Wo (fun K hK => ?_) | refine Wp ?_ | refine Wq ?_ | refine Wr ?_); (try simp only [go_sem, fN, seval, eT, iR, e0, e4, e5, e6, s500, hjl', ha, hb, encP, hl2, hxm, hg', dT, dF, nL]); (repeat with_reducible refine Ai ?_); (try (refine hK _ ?_; clear hK K)); try with_reducible refine iC ?_))
   simp only [go_sem, fN, seval, FinQ, AS.result, resAll, resOne, tupV]
   rfl
  ·rw [if_neg hg]
   have hg' : ¬ (400 : Int) < ((acc2.length + x.length : Nat) : Int) := by omega
   repeat' (first | (with_reducible first | refine W ?_ | refine Z0 ?_) | refine Cg _ (hbt) ?_ | ((with_reducible first | refine Wo (fun K hK => ?_) | refine Wp ?_ | refine Wq ?_ | refine Wr ?_); (try simp only [go_sem, fN, seval, eT, iR, e0, e4, e5, e6, s500, hjl', ha, hb, encP, hl2, hxm, hg', dT, dF, nL]); (repeat with_reducible refine Ai ?_); (try (refine hK _ ?_; clear hK K)); try with_reducible refine iC ?_))
   refine then_normal ⟨R.length - (j + 1), by omega, j + 1, acc2 ++ x, by omega, rfl, by omega, rfl, ?_⟩
   simp only [go_sem, fN, seval, eT, iR, e0, e4, e5, e6, s500]
   refine ⟨by congr 3, ?_⟩
   rw [List.map_append]
def joinL (R : List Pr) (m : Nat) : List Pr → Bool × Int
 | [] => (true, 0)
 | p :: l => if (metOf R m p.1 p.2).2 = 0 then (if (metOf R m p.1 p.2).1 = true then joinL R m l else (false, 0)) else (false, (metOf R m p.1 p.2).2)
noncomputable def joinC (R : List Pr) (m : Int) : Bool × Int := if (pairsC R 88 89 1).2 = 0 then (if fuelMay m = 0 then joinL R m.toNat (pairsC R 88 89 1).1 else (false, fuelMay m)) else (false, (pairsC R 88 89 1).2)
def joV (r : Bool × Int) : AV := .tup [aBool r.1, aInt r.2]
theorem joinP_a {R : List Pr} (hR : GoodRules R) (h0 : rulesMay R = 0) (m : Int) : ACalls Tryz.prog 11 [aPrs R, aInt m] (joV (joinC R m)) := by
 have hp := pairsP_a hR h0
 obtain ⟨hok, hlen⟩ := pairsC_ok hR
 unfold joinC
 generalize pairsC R 88 89 1 = P at *
 obtain ⟨l, e⟩ := P
 unfold prV at hp
 simp only at hp hok hlen ⊢
 have fm : fuelMay m = if m < 0 ∨ 400 < m then 10 else 0 := rfl
 unfold joV
 by_cases he : e = 0
 case neg =>
  rw [if_neg he]
  refine ok_critical_Join.ac fun C hC => ?_
  unfold ir_critical_Join
  repeat' (first | (with_reducible first | refine W ?_ | refine Z0 ?_) | refine Cg _ (hp) ?_ | ((with_reducible first | refine Wo (fun K hK => ?_) | refine Wp ?_ | refine Wq ?_ | refine Wr ?_); (try simp only [go_sem, fN, seval, eT, iR, he, dT, dF, nL]); (repeat with_reducible refine Ai ?_); (try (refine hK _ ?_; clear hK K)); try with_reducible refine iC ?_))
  simp only [go_sem, fN, seval, FinQ, AS.result, resAll, resOne, tupV]
 subst he
 rw [if_pos rfl]
 by_cases m1 : m < 0
 ·have f1 : fuelMay m = 10 := by rw [fm, if_pos (.inl m1)]
  rw [f1, if_neg (by decide)]
  refine ok_critical_Join.ac fun C hC => ?_
  unfold ir_critical_Join
  repeat' (first | (with_reducible first | refine W ?_ | refine Z0 ?_) | refine Cg _ (hp) ?_ | ((with_reducible first | refine Wo (fun K hK => ?_) | refine Wp ?_ | refine Wq ?_ | refine Wr ?_); (try simp only [go_sem, fN, seval, eT, iR, m1, dT, dF, nL]); (repeat with_reducible refine Ai ?_); (try (refine hK _ ?_; clear hK K)); try with_reducible refine iC ?_))
  simp only [go_sem, fN, seval, FinQ, AS.result, resAll, resOne, tupV]
 by_cases m2 : 400 < m
 ·have f1 : fuelMay m = 10 := by rw [fm, if_pos (.inr m2)]
  rw [f1, if_neg (by decide)]
  refine ok_critical_Join.ac fun C hC => ?_
  unfold ir_critical_Join
  repeat' (first | (with_reducible first | refine W ?_ | refine Z0 ?_) | refine Cg _ (hp) ?_ | ((with_reducible first | refine Wo (fun K hK => ?_) | refine Wp ?_ | refine Wq ?_ | refine Wr ?_); (try simp only [go_sem, fN, seval, eT, iR, m1, m2, dT, dF, nL]); (repeat with_reducible refine Ai ?_); (try (refine hK _ ?_; clear hK K)); try with_reducible refine iC ?_))
  simp only [go_sem, fN, seval, FinQ, AS.result, resAll, resOne, tupV]
 have f1 : fuelMay m = 0 := by rw [fm, if_neg (by omega)]
 rw [f1, if_pos rfl]
 obtain ⟨n, rfl⟩ : ∃ n : Nat, m = n := ⟨m.toNat, by omega⟩
 rw [Int.toNat_natCast]
 refine ok_critical_Join.ac fun C hC => ?_
 unfold ir_critical_Join
 repeat' (first | (with_reducible first | refine W ?_ | refine Z0 ?_) | refine Cg _ (hp) ?_ | ((with_reducible first | refine Wo (fun K hK => ?_) | refine Wp ?_ | refine Wq ?_ | refine Wr ?_); (try simp only [go_sem, fN, seval, eT, iR, m1, m2, dT, dF, nL]); (repeat with_reducible refine Ai ?_); (try (refine hK _ ?_; clear hK K)); try with_reducible refine iC ?_))
 refine IWP.loopD [9] (fun m s => ∃ k, k ≤ l.length ∧ m = l.length - k ∧ joinL R n l = joinL R n (l.drop k) ∧ s.env 0 = aPrs R ∧ s.env 1 = aInt n ∧ s.env 30 = aPrs l ∧ s.env 31 = aInt l.length ∧ s.env 32 = aInt k ∧ s.S 9 = none) l.length ⟨0, Nat.zero_le _, rfl, rfl, rfl, rfl, rfl, rfl, rfl, rfl⟩ ?_
 rintro m ⟨env, S⟩ ⟨k, hk, rfl, hj, e0, e1, e30, e31, e32, s9⟩
 simp only at e0 e1 e30 e31 e32 s9
 rw [hj]
 by_cases hkl : k < l.length
 case neg =>
  have hkl' : ¬ (k : Int) < l.length := by omega
  rw [List.drop_of_length_le (by omega)]
  repeat' (first | (with_reducible first | refine W ?_ | refine Z0 ?_) | ((with_reducible first | refine Wo (fun K hK => ?_) | refine Wp ?_ | refine Wq ?_ | refine Wr ?_); (try simp only [go_sem, fN, seval, eT, iR, e0, e1, e30, e31, e32, s9, hkl', dT, dF, nL]); (repeat with_reducible refine Ai ?_); (try (refine hK _ ?_; clear hK K)); try with_reducible refine iC ?_))
  simp only [go_sem, fN, seval, FinQ, AS.result, resAll, resOne, tupV]
  rfl
 have hkl' : (k : Int) < l.length := by omega
 obtain ⟨q, hq⟩ := get_lt hkl
 have o := hok q (mem_of_get hq)
 have hmet := met_a hR q.1 q.2 o.c1 o.c2 (by have := o.z1; omega) (by have := o.z2; omega) n (by omega)
 rw [drop_get hq, joinL]
 generalize metOf R n q.1 q.2 = y at *
 by_cases y2 : y.2 = 0
 ·by_cases y1 : y.1 = true
  ·rw [if_pos y2, if_pos y1]
   repeat' (first | (with_reducible first | refine W ?_ | refine Z0 ?_) | refine Cg _ (hmet) ?_ | ((with_reducible first | refine Wo (fun K hK => ?_) | refine Wp ?_ | refine Wq ?_ | refine Wr ?_); (try simp only [go_sem, fN, seval, eT, iR, e0, e1, e30, e31, e32, s9, hkl', hq, encP, y1, y2, dT, dF, nL]); (repeat with_reducible refine Ai ?_); (try (refine hK _ ?_; clear hK K)); try with_reducible refine iC ?_))
   refine then_normal ⟨l.length - (k + 1), by omega, k + 1, by omega, rfl, rfl, ?_⟩
   simp only [go_sem, fN, seval, AS.drop, dropS, AC.clears, AC.clear, AC.highs, AC.high, Bool.not_false, Bool.true_and, Bool.and_self, AV.purge, AV.purges, AC.purge, ABlk.purge, List.contains_cons, List.contains_nil, Nat.reduceBEq, Bool.or_self, Bool.or_false, Bool.false_or, Bool.or_true, eT, iR, e0, e1, e30, e31, e32, s9]
   congr 3
  ·rw [if_pos y2, if_neg y1]
   repeat' (first | (with_reducible first | refine W ?_ | refine Z0 ?_) | refine Cg _ (hmet) ?_ | ((with_reducible first | refine Wo (fun K hK => ?_) | refine Wp ?_ | refine Wq ?_ | refine Wr ?_); (try simp only [go_sem, fN, seval, eT, iR, e0, e1, e30, e31, e32, s9, hkl', hq, encP, y1, y2, dT, dF, nL]); (repeat with_reducible refine Ai ?_); (try (refine hK _ ?_; clear hK K)); try with_reducible refine iC ?_))
   simp only [go_sem, fN, seval, FinQ, AS.result, resAll, resOne, tupV]
 ·rw [if_neg y2]
  repeat' (first | (with_reducible first | refine W ?_ | refine Z0 ?_) | refine Cg _ (hmet) ?_ | ((with_reducible first | refine Wo (fun K hK => ?_) | refine Wp ?_ | refine Wq ?_ | refine Wr ?_); (try simp only [go_sem, fN, seval, eT, iR, e0, e1, e30, e31, e32, s9, hkl', hq, encP, y2, dT, dF, nL]); (repeat with_reducible refine Ai ?_); (try (refine hK _ ?_; clear hK K)); try with_reducible refine iC ?_))
  simp only [go_sem, fN, seval, FinQ, AS.result, resAll, resOne, tupV]
theorem joinOf_a {R : List Pr} (hR : GoodRules R) (m : Int) : ACalls Tryz.prog 9 [aPrs R, aInt m] (joV (joinC R m)) := by
 have hp := pairsOf_a hR
 rw [pairsC_same hR] at hp
 obtain ⟨hok, hlen⟩ := pairsC_ok hR
 unfold joinC
 generalize pairsC R 88 89 1 = P at *
 obtain ⟨l, e⟩ := P
 unfold prV at hp
 simp only at hp hok hlen ⊢
 have fm : fuelMay m = if m < 0 ∨ 400 < m then 10 else 0 := rfl
 unfold joV
 by_cases he : e = 0
 case neg =>
  rw [if_neg he]
  refine ok_R_JoinOf.ac fun C hC => ?_
  unfold ir_R_JoinOf
  repeat' (first | (with_reducible first | refine W ?_ | refine Z0 ?_) | refine Cg _ (hp) ?_ | ((with_reducible first | refine Wo (fun K hK => ?_) | refine Wp ?_ | refine Wq ?_ | refine Wr ?_); (try simp only [go_sem, fN, seval, eT, iR, he, dT, dF, nL]); (repeat with_reducible refine Ai ?_); (try (refine hK _ ?_; clear hK K)); try with_reducible refine iC ?_))
  simp only [go_sem, fN, seval, FinQ, AS.result, resAll, resOne, tupV]
 subst he
 rw [if_pos rfl]
 by_cases m1 : m < 0
 ·have f1 : fuelMay m = 10 := by rw [fm, if_pos (.inl m1)]
  rw [f1, if_neg (by decide)]
  refine ok_R_JoinOf.ac fun C hC => ?_
  unfold ir_R_JoinOf
  repeat' (first | (with_reducible first | refine W ?_ | refine Z0 ?_) | refine Cg _ (hp) ?_ | ((with_reducible first | refine Wo (fun K hK => ?_) | refine Wp ?_ | refine Wq ?_ | refine Wr ?_); (try simp only [go_sem, fN, seval, eT, iR, m1, dT, dF, nL]); (repeat with_reducible refine Ai ?_); (try (refine hK _ ?_; clear hK K)); try with_reducible refine iC ?_))
  simp only [go_sem, fN, seval, FinQ, AS.result, resAll, resOne, tupV]
 by_cases m2 : 400 < m
 ·have f1 : fuelMay m = 10 := by rw [fm, if_pos (.inr m2)]
  rw [f1, if_neg (by decide)]
  refine ok_R_JoinOf.ac fun C hC => ?_
  unfold ir_R_JoinOf
  repeat' (first | (with_reducible first | refine W ?_ | refine Z0 ?_) | refine Cg _ (hp) ?_ | ((with_reducible first | refine Wo (fun K hK => ?_) | refine Wp ?_ | refine Wq ?_ | refine Wr ?_); (try simp only [go_sem, fN, seval, eT, iR, m1, m2, dT, dF, nL]); (repeat with_reducible refine Ai ?_); (try (refine hK _ ?_; clear hK K)); try with_reducible refine iC ?_))
  simp only [go_sem, fN, seval, FinQ, AS.result, resAll, resOne, tupV]
 have f1 : fuelMay m = 0 := by rw [fm, if_neg (by omega)]
 rw [f1, if_pos rfl]
 obtain ⟨n, rfl⟩ : ∃ n : Nat, m = n := ⟨m.toNat, by omega⟩
 rw [Int.toNat_natCast]
 refine ok_R_JoinOf.ac fun C hC => ?_
 unfold ir_R_JoinOf
 repeat' (first | (with_reducible first | refine W ?_ | refine Z0 ?_) | refine Cg _ (hp) ?_ | ((with_reducible first | refine Wo (fun K hK => ?_) | refine Wp ?_ | refine Wq ?_ | refine Wr ?_); (try simp only [go_sem, fN, seval, eT, iR, m1, m2, dT, dF, nL]); (repeat with_reducible refine Ai ?_); (try (refine hK _ ?_; clear hK K)); try with_reducible refine iC ?_))
 refine IWP.loop (fun m s => ∃ k, k ≤ l.length ∧ m = l.length - k ∧ joinL R n l = joinL R n (l.drop k) ∧ s.env 0 = aPrs R ∧ s.env 1 = aInt n ∧ s.env 6 = aPrs l ∧ s.env 8 = aInt k) l.length ⟨0, Nat.zero_le _, rfl, rfl, rfl, rfl, rfl, rfl⟩ ?_
 rintro m ⟨env, S⟩ ⟨k, hk, rfl, hj, e0, e1, e6, e8⟩
 simp only at e0 e1 e6 e8
 rw [hj]
 by_cases hkl : k < l.length
 case neg =>
  have hkl' : ¬ (k : Int) < l.length := by omega
  rw [List.drop_of_length_le (by omega)]
  repeat' (first | (with_reducible first | refine W ?_ | refine Z0 ?_) | ((with_reducible first | refine Wo (fun K hK => ?_) | refine Wp ?_ | refine Wq ?_ | refine Wr ?_); (try simp only [go_sem, fN, seval, eT, iR, e0, e1, e6, e8, hkl', dT, dF, nL]); (repeat with_reducible refine Ai ?_); (try (refine hK _ ?_; clear hK K)); try with_reducible refine iC ?_))
  simp only [go_sem, fN, seval, FinQ, AS.result, resAll, resOne, tupV]
  rfl
 have hkl' : (k : Int) < l.length := by omega
 obtain ⟨q, hq⟩ := get_lt hkl
 have o := hok q (mem_of_get hq)
 have hmet := meetR_a hR q.1 q.2 o.c1 o.c2 (by have := o.z1; omega) (by have := o.z2; omega) n (by omega)
 rw [drop_get hq, joinL]
 generalize metOf R n q.1 q.2 = y at *
 by_cases y2 : y.2 = 0
 ·by_cases y1 : y.1 = true
  ·rw [if_pos y2, if_pos y1]
   repeat' (first | (with_reducible first | refine W ?_ | refine Z0 ?_) | refine Cg _ (hmet) ?_ | ((with_reducible first | refine Wo (fun K hK => ?_) | refine Wp ?_ | refine Wq ?_ | refine Wr ?_); (try simp only [go_sem, fN, seval, eT, iR, e0, e1, e6, e8, hkl', hq, encP, y1, y2, dT, dF, nL]); (repeat with_reducible refine Ai ?_); (try (refine hK _ ?_; clear hK K)); try with_reducible refine iC ?_))
   refine then_normal ⟨l.length - (k + 1), by omega, k + 1, by omega, rfl, rfl, ?_⟩
   simp only [go_sem, fN, seval, eT, iR, e0, e1, e6, e8]
   congr 3
  ·rw [if_pos y2, if_neg y1]
   repeat' (first | (with_reducible first | refine W ?_ | refine Z0 ?_) | refine Cg _ (hmet) ?_ | ((with_reducible first | refine Wo (fun K hK => ?_) | refine Wp ?_ | refine Wq ?_ | refine Wr ?_); (try simp only [go_sem, fN, seval, eT, iR, e0, e1, e6, e8, hkl', hq, encP, y1, y2, dT, dF, nL]); (repeat with_reducible refine Ai ?_); (try (refine hK _ ?_; clear hK K)); try with_reducible refine iC ?_))
   simp only [go_sem, fN, seval, FinQ, AS.result, resAll, resOne, tupV]
 ·rw [if_neg y2]
  repeat' (first | (with_reducible first | refine W ?_ | refine Z0 ?_) | refine Cg _ (hmet) ?_ | ((with_reducible first | refine Wo (fun K hK => ?_) | refine Wp ?_ | refine Wq ?_ | refine Wr ?_); (try simp only [go_sem, fN, seval, eT, iR, e0, e1, e6, e8, hkl', hq, encP, y2, dT, dF, nL]); (repeat with_reducible refine Ai ?_); (try (refine hK _ ?_; clear hK K)); try with_reducible refine iC ?_))
  simp only [go_sem, fN, seval, FinQ, AS.result, resAll, resOne, tupV]
theorem accP_err {cr : Nat → Nat → Option (List Pr)} : ∀ (l : List (Nat × Nat)) (acc : List Pr), (accP cr l acc).2 ≠ 0 → (accP cr l acc).1 = []
 | [], acc, h => absurd rfl h
 | q :: l, acc, h => by
  rw [accP] at h ⊢
  split
  ·rfl
  ·rename_i x hx
   rw [hx] at h
   simp only at h
   split
   ·rfl
   ·rename_i hg
    rw [if_neg hg] at h
    exact accP_err l _ h
theorem pairsC_err {R : List Pr} {c d : UInt8} {k : Nat} (h : (pairsC R c d k).2 ≠ 0) : (pairsC R c d k).1 = [] := by
 unfold pairsC at h ⊢
 split
 ·rfl
 ·rename_i h0
  rw [if_neg h0] at h
  exact accP_err _ _ h
theorem pairs2_a (l : List Pr) (e : Int) (h : e ≠ 0 → l = []) (hl : l.length ≤ 400) : ACalls Tryz.prog 12 [aPrs l, aInt e, aPrs l, aInt e] (aBool true) := by
 refine ok_L_pairs2.ac fun C hC => ?_
 unfold ir_L_pairs2
 by_cases he : e = 0
 case neg =>
  have hl0 := h he
  subst hl0
  repeat' (first | (with_reducible first | refine W ?_ | refine Z0 ?_) | ((with_reducible first | refine Wo (fun K hK => ?_) | refine Wp ?_ | refine Wq ?_ | refine Wr ?_); (try simp only [go_sem, fN, seval, eT, iR, he, dT, dF, nL]); (repeat with_reducible refine Ai ?_); (try (refine hK _ ?_; clear hK K)); try with_reducible refine iC ?_))
  simp only [go_sem, fN, seval, FinQ, AS.result, resAll, resOne, tupV]
 subst he
 repeat' (first | (with_reducible first | refine W ?_ | refine Z0 ?_) | ((with_reducible first | refine Wo (fun K hK => ?_) | refine Wp ?_ | refine Wq ?_ | refine Wr ?_); (try simp only [go_sem, fN, seval, eT, iR, dT, dF, nL]); (repeat with_reducible refine Ai ?_); (try (refine hK _ ?_; clear hK K)); try with_reducible refine iC ?_))
 refine IWP.loop (fun m s => ∃ k, k ≤ l.length ∧ m = l.length - k ∧ s.env 0 = aPrs l ∧ s.env 2 = aPrs l ∧ s.env 9 = aInt k) l.length ⟨0, Nat.zero_le _, rfl, rfl, rfl, rfl⟩ ?_
 rintro m ⟨env, S⟩ ⟨k, hk, rfl, e0, e2, e9⟩
 simp only at e0 e2 e9
 by_cases hkl : (k : Int) < l.length
 ·obtain ⟨q, hq⟩ := get_lt (show k < l.length by omega)
  have s1 := sameR_a q.1 q.1
  have s2 := sameR_a q.2 q.2
  rw [Tm.beq_refl] at s1 s2
  repeat' (first | (with_reducible first | refine W ?_ | refine Z0 ?_) | refine Cg _ (s1) ?_ | refine Cg _ (s2) ?_ | ((with_reducible first | refine Wo (fun K hK => ?_) | refine Wp ?_ | refine Wq ?_ | refine Wr ?_); (try simp only [go_sem, fN, seval, eT, iR, e0, e2, e9, hkl, hq, encP, dT, dF, nL]); (repeat with_reducible refine Ai ?_); (try (refine hK _ ?_; clear hK K)); try with_reducible refine iC ?_))
  refine then_normal ⟨l.length - (k + 1), by omega, k + 1, by omega, rfl, ?_⟩
  simp only [go_sem, fN, seval, eT, iR, e0, e2, e9]
  congr 3
 ·repeat' (first | (with_reducible first | refine W ?_ | refine Z0 ?_) | ((with_reducible first | refine Wo (fun K hK => ?_) | refine Wp ?_ | refine Wq ?_ | refine Wr ?_); (try simp only [go_sem, fN, seval, eT, iR, e0, e2, e9, hkl, dT, dF, nL]); (repeat with_reducible refine Ai ?_); (try (refine hK _ ?_; clear hK K)); try with_reducible refine iC ?_))
  simp only [go_sem, fN, seval, FinQ, AS.result, resAll, resOne, tupV]
theorem pairsNo_a {R : List Pr} (h0 : rulesMay R ≠ 0) : ACalls Tryz.prog 10 [aPrs R] (.tup [aPrs [], aInt (rulesMay R)]) := by
 refine ok_critical_Pairs.ac fun C hC => ?_
 unfold ir_critical_Pairs
 repeat' (first | (with_reducible first | refine W ?_ | refine Z0 ?_) | refine Cg _ (rewCheck_a R) ?_ | ((with_reducible first | refine Wo (fun K hK => ?_) | refine Wp ?_ | refine Wq ?_ | refine Wr ?_); (try simp only [go_sem, fN, seval, eT, iR, h0, dT, dF, nL]); (repeat with_reducible refine Ai ?_); (try (refine hK _ ?_; clear hK K)); try with_reducible refine iC ?_))
 simp only [go_sem, fN, seval, FinQ, AS.result, resAll, resOne, tupV]
 rfl
theorem joinNo_a {R : List Pr} (h0 : rulesMay R ≠ 0) (m : Int) : ACalls Tryz.prog 11 [aPrs R, aInt m] (.tup [aBool false, aInt (rulesMay R)]) := by
 refine ok_critical_Join.ac fun C hC => ?_
 unfold ir_critical_Join
 repeat' (first | (with_reducible first | refine W ?_ | refine Z0 ?_) | refine Cg _ (pairsNo_a h0) ?_ | ((with_reducible first | refine Wo (fun K hK => ?_) | refine Wp ?_ | refine Wq ?_ | refine Wr ?_); (try simp only [go_sem, fN, seval, eT, iR, h0, dT, dF, nL]); (repeat with_reducible refine Ai ?_); (try (refine hK _ ?_; clear hK K)); try with_reducible refine iC ?_))
 simp only [go_sem, fN, seval, FinQ, AS.result, resAll, resOne, tupV]
set_option maxRecDepth 100000 in
theorem criticalSays_a (R : List Pr) (m : Int) : ACalls Tryz.prog 3 [aPrs R, aInt m] (aBool true) := by
 by_cases g1 : hugePs R = true
 ·refine ok_L_CriticalSays.ac fun C hC => ?_
  unfold ir_L_CriticalSays
  repeat' (first | (with_reducible first | refine W ?_ | refine Z0 ?_) | refine Cg _ (hugePairs_a R) ?_ | ((with_reducible first | refine Wo (fun K hK => ?_) | refine Wp ?_ | refine Wq ?_ | refine Wr ?_); (try simp only [go_sem, fN, seval, eT, iR, g1, dT, dF, nL]); (repeat with_reducible refine Ai ?_); (try (refine hK _ ?_; clear hK K)); try with_reducible refine iC ?_))
  simp only [go_sem, fN, seval, FinQ, AS.result, resAll, resOne, tupV]
 by_cases h0 : rulesMay R = 0
 case neg =>
  have p2 := pairs2_a [] (rulesMay R) (fun _ => rfl) (by simp)
  refine ok_L_CriticalSays.ac fun C hC => ?_
  unfold ir_L_CriticalSays
  repeat' (first | (with_reducible first | refine W ?_ | refine Z0 ?_) | refine Cg _ (hugePairs_a R) ?_ | refine Cg _ (rulesMayR_a R) ?_ | refine Cg _ (pairsNo_a h0) ?_ | refine Cg _ (joinNo_a h0 m) ?_ | refine Cg _ (p2) ?_ | ((with_reducible first | refine Wo (fun K hK => ?_) | refine Wp ?_ | refine Wq ?_ | refine Wr ?_); (try simp only [go_sem, fN, seval, eT, iR, g1, h0, dT, dF, nL]); (repeat with_reducible refine Ai ?_); (try (refine hK _ ?_; clear hK K)); try with_reducible refine iC ?_))
  simp only [go_sem, fN, seval, FinQ, AS.result, resAll, resOne, tupV]
 have hR := goodRules h0
 have h40 := hR.len
 by_cases g2 : (6 : Int) < R.length
 ·refine ok_L_CriticalSays.ac fun C hC => ?_
  unfold ir_L_CriticalSays
  repeat' (first | (with_reducible first | refine W ?_ | refine Z0 ?_) | refine Cg _ (hugePairs_a R) ?_ | refine Cg _ (rulesMayR_a R) ?_ | ((with_reducible first | refine Wo (fun K hK => ?_) | refine Wp ?_ | refine Wq ?_ | refine Wr ?_); (try simp only [go_sem, fN, seval, eT, iR, g1, h0, g2, dT, dF, nL]); (repeat with_reducible refine Ai ?_); (try (refine hK _ ?_; clear hK K)); try with_reducible refine iC ?_))
  simp only [go_sem, fN, seval, FinQ, AS.result, resAll, resOne, tupV]
 by_cases g3 : 20 < m ∧ m ≤ 400
 ·obtain ⟨g3, g4⟩ := g3
  refine ok_L_CriticalSays.ac fun C hC => ?_
  unfold ir_L_CriticalSays
  repeat' (first | (with_reducible first | refine W ?_ | refine Z0 ?_) | refine Cg _ (hugePairs_a R) ?_ | refine Cg _ (rulesMayR_a R) ?_ | ((with_reducible first | refine Wo (fun K hK => ?_) | refine Wp ?_ | refine Wq ?_ | refine Wr ?_); (try simp only [go_sem, fN, seval, eT, iR, g1, h0, g2, g3, g4, dT, dF, nL]); (repeat with_reducible refine Ai ?_); (try (refine hK _ ?_; clear hK K)); try with_reducible refine iC ?_))
  simp only [go_sem, fN, seval, FinQ, AS.result, resAll, resOne, tupV]
 have c1 := pairsOf_a hR
 rw [pairsC_same hR] at c1
 have c2 := joinOf_a hR m
 have c3 := pairsP_a hR h0
 have c4 := joinP_a hR h0 m
 have c5 := pairs2_a (pairsC R 88 89 1).1 (pairsC R 88 89 1).2 (fun h => pairsC_err h) (pairsC_ok hR).2
 generalize pairsC R 88 89 1 = P at *
 generalize joinC R m = J at *
 unfold prV at c1 c3
 unfold joV at c2 c4
 have g34 : (20 < m ∧ ¬ m ≤ 400) ∨ (¬ 20 < m ∧ True) := by
  by_cases h : 20 < m
  ·exact .inl ⟨h, fun h2 => g3 ⟨h, h2⟩⟩
  ·exact .inr ⟨h, trivial⟩
 rcases g34 with ⟨g5, g7⟩ | ⟨g5, g7⟩
 all_goals
  refine ok_L_CriticalSays.ac fun C hC => ?_
  unfold ir_L_CriticalSays
  repeat' (first | (with_reducible first | refine W ?_ | refine Z0 ?_) | refine Cg _ (hugePairs_a R) ?_ | refine Cg _ (rulesMayR_a R) ?_ | ((with_reducible first | refine Wo (fun K hK => ?_) | refine Wp ?_ | refine Wq ?_ | refine Wr ?_); (try simp only [go_sem, fN, seval, eT, iR, g1, h0, g2, g5, g7, dT, dF, nL]); (repeat with_reducible refine Ai ?_); (try (refine hK _ ?_; clear hK K)); try with_reducible refine iC ?_))
  refine IWP.loop (fun z s => ∃ k, k ≤ R.length ∧ z = R.length - k ∧ s.env 0 = aPrs R ∧ s.env 1 = aInt m ∧ s.env 9 = aInt k) R.length ⟨0, Nat.zero_le _, rfl, rfl, rfl, rfl⟩ ?_
  rintro z ⟨env, S⟩ ⟨k, hk, rfl, e0, e1, e9⟩
  simp only at e0 e1 e9
  by_cases hkl : (k : Int) < R.length
  ·obtain ⟨q, hq⟩ := get_lt (show k < R.length by omega)
   have s1 := sizeR_a q.1 12 (by omega) (by omega)
   have s2 := sizeR_a q.2 12 (by omega) (by omega)
   by_cases b1 : 12 < capTo q.1.size 12
   ·repeat' (first | (with_reducible first | refine W ?_ | refine Z0 ?_) | refine Cg _ (s1) ?_ | ((with_reducible first | refine Wo (fun K hK => ?_) | refine Wp ?_ | refine Wq ?_ | refine Wr ?_); (try simp only [go_sem, fN, seval, eT, iR, e0, e1, e9, hkl, hq, encP, b1, dT, dF, nL]); (repeat with_reducible refine Ai ?_); (try (refine hK _ ?_; clear hK K)); try with_reducible refine iC ?_))
    simp only [go_sem, fN, seval, FinQ, AS.result, resAll, resOne, tupV]
   ·by_cases b2 : 12 < capTo q.2.size 12
    ·repeat' (first | (with_reducible first | refine W ?_ | refine Z0 ?_) | refine Cg _ (s1) ?_ | refine Cg _ (s2) ?_ | ((with_reducible first | refine Wo (fun K hK => ?_) | refine Wp ?_ | refine Wq ?_ | refine Wr ?_); (try simp only [go_sem, fN, seval, eT, iR, e0, e1, e9, hkl, hq, encP, b1, b2, dT, dF, nL]); (repeat with_reducible refine Ai ?_); (try (refine hK _ ?_; clear hK K)); try with_reducible refine iC ?_))
     simp only [go_sem, fN, seval, FinQ, AS.result, resAll, resOne, tupV]
    ·repeat' (first | (with_reducible first | refine W ?_ | refine Z0 ?_) | refine Cg _ (s1) ?_ | refine Cg _ (s2) ?_ | ((with_reducible first | refine Wo (fun K hK => ?_) | refine Wp ?_ | refine Wq ?_ | refine Wr ?_); (try simp only [go_sem, fN, seval, eT, iR, e0, e1, e9, hkl, hq, encP, b1, b2, dT, dF, nL]); (repeat with_reducible refine Ai ?_); (try (refine hK _ ?_; clear hK K)); try with_reducible refine iC ?_))
     refine then_normal ⟨R.length - (k + 1), by omega, k + 1, by omega, rfl, ?_⟩
     simp only [go_sem, fN, seval, eT, iR, e0, e1, e9]
     congr 3
  ·repeat' (first | (with_reducible first | refine W ?_ | refine Z0 ?_) | refine Cg _ (c1) ?_ | refine Cg _ (c2) ?_ | refine Cg _ (c3) ?_ | refine Cg _ (c4) ?_ | refine Cg _ (c5) ?_ | ((with_reducible first | refine Wo (fun K hK => ?_) | refine Wp ?_ | refine Wq ?_ | refine Wr ?_); (try simp only [go_sem, fN, seval, eT, iR, e0, e1, e9, hkl, dT, dF, nL]); (repeat with_reducible refine Ai ?_); (try (refine hK _ ?_; clear hK K)); try with_reducible refine iC ?_))
   simp only [go_sem, fN, seval, FinQ, AS.result, resAll, resOne, tupV]

open Go.ChangeShapes Go.WideShapes Go.ChangeAt
section
variable {H : Type} {enc : TypeId × Value → H} {P : Program}
theorem trodAll_stays (hl : laidOutB P = true) : ∀ {ts : List TypeId} {vs : List Value} {ds : List (DataW H)} {ps : List MemPlace} {W W' : World} {sp : Nat → Bool},
  (∀ t ∈ ts, P.readableRec t = true ∧ t < P.types.size) → DataW.TrodAll enc P W 0 (fun _ => true) true ts vs ds ps → (∀ p ∈ ps, W.sameAt W' p) → (∀ p ∈ ps, sp p.block = true) → DataW.TrodAll enc P W' 0 sp true ts vs ds ps
 | [], [], [], _, _, _, _, _, h, _, _ => h
 | _ :: _, _ :: _, _ :: _, _, _, _, _, hT, ⟨p, q, h1, h2, e⟩, hsame, hs => ⟨p, q, WideElems.Trod_stays hl (hT _ (List.mem_cons.2 (Or.inl rfl))).1 (hT _ (List.mem_cons.2 (Or.inl rfl))).2 h1 (fun x hx => hsame x (by rw [e]; exact List.mem_append_left _ hx)) (fun x hx => hs x (by rw [e]; exact List.mem_append_left _ hx)),
   trodAll_stays hl (fun t ht => hT t (List.mem_cons.2 (Or.inr ht))) h2 (fun x hx => hsame x (by rw [e]; exact List.mem_append_right _ hx)) (fun x hx => hs x (by rw [e]; exact List.mem_append_right _ hx)), e⟩
 | [], _ :: _, _, _, _, _, _, _, h, _, _ => h.elim
 | [], [], _ :: _, _, _, _, _, _, h, _, _ => h.elim
 | _ :: _, [], _, _, _, _, _, _, h, _, _ => h.elim
 | _ :: _, _ :: _, [], _, _, _, _, _, h, _, _ => h.elim
theorem law_post {f : Func} {s : ChangeSpec} {apart fresh handsOn : Bool} {W W' : World} {args : Array Value} {ds : List (DataW H)} {before : List MemPlace} {tb : TypeId}
  (hW : DataW.Whole enc P f.params.toList s.vars apart W args.toList ds [] before) (hv : s.vars = []) (hr : f.resultTypes = #[tb]) (htb : P.underlying tb = some .bool)
  (hres : (s.fn H (ds ++ [])).results = [.lit (.bool true)]) (hargs : (s.fn H (ds ++ [])).args = ds) (hvs : (s.fn H (ds ++ [])).vars = [])
  (hl : laidOutB P = true) (hT : (f.params.toList.all fun t => P.readableRec t && decide (t < P.types.size)) = true) (hb : Below W.heap.size W W') :
  s.post enc P f apart fresh handsOn false W args (.bool true) W' := by
 have hlt : ∀ p ∈ before, p.block < W.heap.size := fun p hp => hW.lt p hp
 have hT' : ∀ t ∈ f.params.toList, P.readableRec t = true ∧ t < P.types.size := fun t ht => by
  have := List.all_eq_true.1 hT t ht
  simpa using this
 obtain ⟨p, q, hA, hV, rfl, hz, hn⟩ := hW
 rw [hv] at hV
 obtain ⟨_, rfl⟩ := trodVars_none hV
 have hargs' : ∀ sp : Nat → Bool, (∀ x ∈ p, sp x.block = true) → DataW.TrodAll enc P W' 0 sp true f.params.toList args.toList ds p := fun sp hsp =>
  trodAll_stays hl hT' hA (fun x hx => hb.same (hlt x (by simpa using hx))) hsp
 have hres' : ∀ (b : Nat) (sp : Nat → Bool) (hd : Bool), DataW.TrodAll enc P W' b sp hd f.resultTypes.toList ((Value.bool true).resultList f.resultTypes.size) (s.fn H (ds ++ [])).results [] := fun b sp hd => by
  rw [hres, hr]
  exact trodAll_cons_mk (shut_bool htb true) trodAll_mk0
 refine ⟨ds, [], p ++ [], [], p, [], ⟨p, [], hA, by rw [hv]; exact rfl, rfl, hz, hn⟩, hres' _ _ _, by rw [hargs]; exact hargs' _ (fun x hx => by simpa using hlt x (by simpa using hx)), by rw [hv, hvs]; exact rfl,
  World.keptBut_mono (fun x hx => ⟨hx, Or.inr (by simpa using hx)⟩) (hb.frame (· ∈ p ++ [])), fun h => by cases h⟩
variable {W : World} {sp : Nat → Bool} {hd : Bool} {base : Nat}
def sto (W : World) : Sto := look W
theorem fit_sto (W : World) : Fit (sto W) W := fun _ _ h => h
theorem spot_none {W : World} {a : Addr} {v : Value} (h : W.cell? a = some v) : a.spot = none := by
 cases hs : a.spot with
 | none => rfl
 | some n =>
  unfold World.cell? at h
  split at h
  ·simp [hs] at h
  ·cases h
theorem choose_list {α : Type} {p : Nat → α → Prop} {n : Nat} (h : ∀ i, i < n → ∃ b, p i b) : ∃ xs : List α, xs.length = n ∧ ∀ i (h : i < xs.length), p i xs[i] := by
 induction n with
 | zero => exact ⟨[], rfl, fun i h => absurd h (by simp)⟩
 | succ m ih =>
  obtain ⟨xs, h1, h2⟩ := ih (fun i hi => h i (by omega))
  obtain ⟨b, h3⟩ := h m (by omega)
  refine ⟨xs ++ [b], by simp [h1], fun i hi => ?_⟩
  by_cases him : i < xs.length
  ·rw [List.getElem_append_left him]
   exact h2 i him
  ·have : i = xs.length := by simp at hi; omega
   subst this
   rw [show (xs ++ [b])[xs.length]'hi = b by simp, h1]
   exact h3
theorem trod_two {t : TypeId} {f0 f1 : Field} {k0 k1 : Nat} {fuel : Nat} {cs : List Value} {x : DataW H × List MemPlace} (hs : P.underlying t = some (.struct #[f0, f1])) (o0 : f0.offset = 0) (o1 : f1.offset = k0)
  (h0 : P.cellsOf f0.type = k0) (h1 : P.cellsOf f1.type = k1) (hC : P.cellsOf t = k0 + k1) (h : DataW.trod enc P W base sp hd fuel t cs = some x) :
  ∃ (a b : List Value) (y0 y1 : DataW H × List MemPlace) (n : Nat), fuel = n + 1 ∧ cs = a ++ b ∧ DataW.trod enc P W base sp hd n f0.type a = some y0 ∧ DataW.trod enc P W base sp hd n f1.type b = some y1 := by
 obtain ⟨ys, n, hn, _, hlen, hyl, hf⟩ := DataW.trod_struct hs h
 match ys, hyl with
 | [y0, y1], _ =>
 have g0 := hf 0 f0 rfl
 have g1 := hf 1 f1 rfl
 rw [o0, h0, List.drop_zero] at g0
 rw [o1, h1, List.take_of_length_le (by rw [List.length_drop]; omega)] at g1
 exact ⟨_, _, y0, y1, n, hn, (List.take_append_drop k0 cs).symm, g0, g1⟩
theorem list_of_trod {α : Type} {e0 : α → List SV} {t e : TypeId} {k : Nat} {fuel : Nat} {cs : List Value} {x : DataW H × List MemPlace} (ht : P.underlying t = some (.slice e)) (hc : P.cellsOf e = k) (hlen : ∀ a, (e0 a).length = k) (hk : 0 < k)
  (f : ∀ (n : Nat) (cs : List Value) (y : DataW H × List MemPlace), n < fuel → DataW.trod enc P W base sp hd n e cs = some y → ∃ a : α, All2 (SRep (sto W)) cs (e0 a))
  (h : DataW.trod enc P W base sp hd fuel t cs = some x) (hs : hardRows = true → k < 2 := by decide) : ∃ xs : List α, All2 (SRep (sto W)) cs [.list (xs.map e0)] := by
 rcases DataW.trod_slice ht h with ⟨rfl, _⟩ | ⟨a, len, cap, elems, rest, n, hfu, rfl, _, hb, hl, hm, hlen', hel, _, _⟩
 ·exact ⟨[], .cons srep_nil .nil⟩
 ·have key : ∀ i, i < len → ∃ (b : α), ∃ (cs' : List Value), cs'.length = k ∧ (∀ j u, cs'[j]? = some u → W.cell? ((a.add (i * k)).add j) = some u) ∧ All2 (SRep (sto W)) cs' (e0 b) := fun i hi => by
   have h1 := hel i hi
   rw [List.getElem?_eq_getElem (by omega)] at h1
   obtain ⟨cs', h2, h3⟩ := Option.bind_eq_some_iff.1 h1
   obtain ⟨_, h4, h5⟩ := World.cells?_some h2
   obtain ⟨b, hb⟩ := f n cs' _ (by omega) h3
   rw [hc] at h4 h5
   refine ⟨b, cs', h4, fun j u hj => ?_, hb⟩
   rw [h5 j (by have := (List.getElem?_eq_some_iff.1 hj).1; omega)]
   exact hj
  obtain ⟨xs, hxl, hxs⟩ : ∃ xs : List α, xs.length = len ∧ ∀ i (h : i < xs.length), ∃ cs' : List Value, cs'.length = k ∧ (∀ j u, cs'[j]? = some u → W.cell? ((a.add (i * k)).add j) = some u) ∧ All2 (SRep (sto W)) cs' (e0 xs[i]) := choose_list key
  have cell : ∀ m y j z, (xs.map e0)[m]? = some y → y[j]? = some z → ∃ v, W.cell? ⟨a.block, a.off + m * k + j, none⟩ = some v ∧ SRep (sto W) v z := fun m y j z hy hz => by
   rw [List.getElem?_map, Option.map_eq_some_iff] at hy
   obtain ⟨b, hb', rfl⟩ := hy
   obtain ⟨hm', hbe⟩ := List.getElem?_eq_some_iff.1 hb'
   obtain ⟨cs', c1, c2, c3⟩ := hxs m hm'
   rw [hbe] at c3
   obtain ⟨v, v1, v2⟩ := c3.get hz
   refine ⟨v, ?_, v2⟩
   have := c2 j v v1
   have hsp := spot_none this
   rw [← this]
   congr 1
   have h7 : ((a.add (m * k)).add j).block = a.block ∧ ((a.add (m * k)).add j).off = a.off + m * k + j := by
    unfold Addr.add
    split <;> split <;> simp_all
   generalize (a.add (m * k)).add j = q at *
   cases q
   simp_all
  refine ⟨xs, .cons (.list (b := a.block) (o := a.off) (w := k) (fun m j => (W.cell? ⟨a.block, a.off + m * k + j, none⟩).getD undef) (by simp [hxl]) hl hm (by simp) (fun h0 => ?_) (fun y hy => ?_) (fun q1 q2 _ => absurd (hs q1) (by omega)) (fun m y j z hy hz => ?_) (fun m y j z hy hz => ?_)) .nil⟩
  ·obtain ⟨cs', h1, h2, h3⟩ := hxs 0 (by omega)
   have h4 : W.cell? a = some (cs'[0]'(by omega)) := by
    have := h2 0 _ (List.getElem?_eq_getElem (by omega))
    simpa [Addr.add] using this
   have := spot_none h4
   cases a
   simp_all
  ·obtain ⟨b, _, rfl⟩ := List.mem_map.1 hy
   exact hlen b
  ·obtain ⟨v, v1, v2⟩ := cell m y j z hy hz
   show W.cell? _ = _
   rw [v1]; rfl
  ·obtain ⟨v, v1, v2⟩ := cell m y j z hy hz
   rw [v1]; exact v2
theorem int_trod {t : TypeId} (ht : P.underlying t = some (.int .i64)) (fuel : Nat) (cs : List Value) (x : DataW H × List MemPlace) (h : DataW.trod enc P W base sp hd fuel t cs = some x) : ∃ n : Int, All2 (SRep (sto W)) cs (encI n) := by
 obtain ⟨n, rfl, _, hn⟩ := DataW.trod_int ht h
 exact ⟨n, .cons (.int (by rw [inR_i64]; simpa [Lit.wf, IntKind.min, IntKind.max, IntKind.signed, IntKind.bits] using hn)) .nil⟩
theorem str_trod {t : TypeId} (ht : P.underlying t = some .string) (fuel : Nat) (cs : List Value) (x : DataW H × List MemPlace) (h : DataW.trod enc P W base sp hd fuel t cs = some x) : ∃ s : ByteArray, All2 (SRep (sto W)) cs (encS s) := by
 obtain ⟨s, rfl, _, hs⟩ := DataW.trod_string ht h
 exact ⟨s, .cons (.str hs) .nil⟩
theorem arg_int {t : TypeId} (ht : P.underlying t = some (.int .i64)) {r : Reach} {b0 : Nat} {v : Value} {d : DataW H} {p : List MemPlace} (hv : Value.okWide P W r b0 t v) (h : DataW.Trod enc P W base sp hd t v d p) : ∃ n : Int, VRep (sto W) noS noH v (aInt n) := by
 obtain ⟨n, rfl⟩ := okWide_int ht hv
 obtain ⟨fuel, hf⟩ := h
 obtain ⟨m, hm⟩ := int_trod ht fuel _ _ hf
 have : All2 (SRep (sto W)) [.int .i64 n] (encI m) := hm
 cases this with
 | cons h1 h2 => exact ⟨m, .one (.st h1)⟩
theorem arg_list {α : Type} {e0 : α → List SV} {t e : TypeId} {k : Nat} (ht : P.underlying t = some (.slice e)) (hc : P.cellsOf e = k) (hlen : ∀ a, (e0 a).length = k) (hk : 0 < k) {r : Reach} {b0 : Nat} {v : Value} {d : DataW H} {p : List MemPlace} (hv : Value.okWide P W r b0 t v)
  (f : ∀ (n : Nat) (cs : List Value) (y : DataW H × List MemPlace), DataW.trod enc P W base sp hd n e cs = some y → ∃ a : α, All2 (SRep (sto W)) cs (e0 a)) (h : DataW.Trod enc P W base sp hd t v d p) (hs : hardRows = true → k < 2 := by decide) : ∃ xs : List α, VRep (sto W) noS noH v (.one (.st (.list (xs.map e0)))) := by
 obtain ⟨a, len, cap, rfl⟩ := okWide_slice ht hv
 obtain ⟨fuel, hf⟩ := h
 obtain ⟨xs, hxs⟩ := list_of_trod ht hc hlen hk (fun n cs y _ hy => f n cs y hy) hf hs
 have : All2 (SRep (sto W)) [.slice a len cap] [.list (xs.map e0)] := hxs
 cases this with
 | cons h1 h2 => exact ⟨xs, .one (.st h1)⟩
end
theorem acalls_true {P : Program} {f : FuncId} {xs : List AV} {b : Bool} (h : ACalls P f xs (aBool b)) {σ : Sto} {w : World} {vs : List Value} (hg : GlobIn σ) (hf : Fit σ w) (hv : All2 (VRep σ noS noH) vs xs) :
  Calls P f vs.toArray w fun e w' => e = .returned (.bool b) ∧ Below w.heap.size w w' := (h σ w vs hg hf hv).mono fun e w' ⟨v, σ', he, hv, _, _, hb⟩ => by
 rw [vrep_bool hv] at he
 exact ⟨he, hb⟩

theorem laid_at {P : Program} {W : World} {x : String × DataW Unit} : ∀ {l : List (String × DataW Unit)} {ps : List MemPlace}, DataW.LaidVars P W l ps → x ∈ l → ∃ q, DataW.LaidVars P W [x] q
 | [], _, _, hx => by simp at hx
 | y :: l, ps, h, hx => by
  obtain ⟨n, d⟩ := y
  obtain ⟨g, t, cs, fuel, p, q, a1, a2, a3, a4, a5, a6⟩ := h
  rcases List.mem_cons.1 hx with rfl | hx
  ·exact ⟨_, g, t, cs, fuel, p, [], a1, a2, a3, a4, rfl, rfl⟩
  ·exact laid_at a5 hx
theorem size_sto {P : Program} {W : World} {n : String} {g : Nat} {cs : Array Value} (hg : P.globalNamed n = some g) (h : W.var? P n = some cs) : sto W ⟨g, cs.size, some 0⟩ = some .nilFunc := by
 unfold World.var? at h
 rw [hg] at h
 simp only [Option.bind_some] at h
 show look W _ = _
 unfold look
 simp only
 cases hb : W.heap[g]? with
 | none => rw [hb] at h; cases h
 | some o =>
  rw [hb] at h
  cases o <;> simp_all
theorem glob_tab {P : Program} {W : World} {name : String} {g : Nat} {t e : TypeId} {n : Nat} {k : IntKind} {zs : List Int} (hg : P.globalNamed name = some g) (hty : (P.globals[g]?).map (·.type) = some t) (ht : P.underlying t = some (.array n e)) (he : P.underlying e = some (.int k))
  (hce : P.cellsOf e = 1) (hct : P.cellsOf t = n) (hin : ∀ z ∈ zs, inR k z) {ps : List MemPlace} (h : DataW.LaidVars P W [(name, Lib.tabData k zs)] ps) : GlobAt (sto W) (g, zs.map fun z => .int k z) := by
 obtain ⟨g0, t0, cs0, f0, p0, q0, hg0, ht0, hv0, hd0, _, _⟩ := h
 obtain rfl := Option.some.inj (hg.symm.trans hg0)
 obtain rfl := Option.some.inj (hty.symm.trans ht0)
 have hc := Lib.cells_of_tab ht he hce hct hd0
 have hs : cs0.size = zs.length := by
  have := congrArg List.length hc
  simpa using this
 refine ⟨⟨fun j => (zs[j]?).elim .nilFunc (.int k), fun j a ha => ?_, fun j a ha => ?_⟩, ?_⟩
 ·rw [List.getElem?_map, Option.map_eq_some_iff] at ha
  obtain ⟨z, hz, rfl⟩ := ha
  have h1 := World.var?_cell hg0 hv0 j
  have h2 : cs0[j]? = some (.int k z) := by
   have h3 := congrArg (fun l : List Value => l[j]?) hc
   simpa [hz] using h3
  show look W _ = _
  rw [look_none rfl, Nat.zero_add, h1, h2]
  simp only [hz, Option.elim]
 ·rw [List.getElem?_map, Option.map_eq_some_iff] at ha
  obtain ⟨z, hz, rfl⟩ := ha
  simp only [hz, Option.elim]
  exact .int (hin z (List.mem_of_getElem? hz))
 ·have := size_sto hg0 hv0
  rw [hs] at this
  simpa using this
theorem in_u64 {zs : List Int} (h : zs.all (fun z => decide (0 ≤ z) && decide (z ≤ 18446744073709551615)) = true) : ∀ z ∈ zs, inR .u64 z := fun z hz => by
 have := List.all_eq_true.1 h z hz
 simp only [Bool.and_eq_true, decide_eq_true_eq] at this
 simp [inR, IntKind.min, IntKind.max, IntKind.signed, IntKind.bits]
 omega
theorem glob_pow {W : World} {ps : List MemPlace} (h : DataW.LaidVars Tryz.prog W [("internal/strconv.uint64pow10", Rows.laid_internal_strconv_uint64pow10)] ps) : GlobAt (sto W) (0, pow10s) := glob_tab (k := .u64) (zs := Lib.pow10Tab) (by kernel_rfl) (by kernel_rfl) Tryz.underlying139 Tryz.underlying121 (by kernel_rfl) (by kernel_rfl) (in_u64 (by decide)) h

theorem globIn_pow {W : World} {l : List (String × DataW Unit)} (hp : (l.all fun x => true) = true) (hin : ("internal/strconv.uint64pow10", Rows.laid_internal_strconv_uint64pow10) ∈ l) {ps : List MemPlace} (h : DataW.LaidVars Tryz.prog W l ps) : GlobIn (sto W) := by
 obtain ⟨_, h1⟩ := laid_at (x := ("internal/strconv.uint64pow10", Rows.laid_internal_strconv_uint64pow10)) h hin
 intro y hy
 simp only [globs, List.mem_cons, List.not_mem_nil, or_false] at hy
 subst hy
 exact glob_pow h1

section
variable {H : Type} {enc : TypeId × Value → H} {W : World} {sp : Nat → Bool} {hd : Bool} {base : Nat}
set_option maxRecDepth 100000 in
theorem tm_trod : ∀ (fuel : Nat) (cs : List Value) (x : DataW H × List MemPlace), DataW.trod enc Tryz.prog W base sp hd fuel 29 cs = some x → ∃ t : Tm, All2 (SRep (sto W)) cs (encT t) := by
 intro fuel
 induction fuel using Nat.strongRecOn with
 | _ fuel ih =>
 intro cs x h
 obtain ⟨a, b, y0, y1, n, hn, rfl, h0, h1⟩ := trod_two Tryz.underlying29 rfl rfl (show Tryz.prog.cellsOf 9 = 1 by kernel_rfl) (show Tryz.prog.cellsOf 27 = 1 by kernel_rfl) (show Tryz.prog.cellsOf 29 = 2 by kernel_rfl) h
 obtain ⟨s, hs⟩ := str_trod Tryz.underlying9 _ _ _ h0
 obtain ⟨xs, hxs⟩ := list_of_trod (e0 := encT) Tryz.underlying27 (show Tryz.prog.cellsOf 29 = 2 by kernel_rfl) (fun a => by rw [encT_eq]; rfl) (by decide) (fun m cs y hm hy => ih m (by omega) cs y hy) h1
 exact ⟨.mk s xs, by rw [encT_eq]; exact hs.append hxs⟩
end

section
variable {H : Type} {enc : TypeId × Value → H} {W : World} {sp : Nat → Bool} {hd : Bool} {base : Nat}
set_option maxRecDepth 100000 in
theorem pr_trod (fuel : Nat) (cs : List Value) (x : DataW H × List MemPlace) (h : DataW.trod enc Tryz.prog W base sp hd fuel 31 cs = some x) : ∃ p : Pr, All2 (SRep (sto W)) cs (encP p) := by
 obtain ⟨a, b, y0, y1, n, hn, rfl, h0, h1⟩ := trod_two Tryz.underlying31 rfl rfl (show Tryz.prog.cellsOf 29 = 2 by kernel_rfl) (show Tryz.prog.cellsOf 29 = 2 by kernel_rfl) (show Tryz.prog.cellsOf 31 = 4 by kernel_rfl) h
 obtain ⟨s, hs⟩ := tm_trod _ _ _ h0
 obtain ⟨t, ht⟩ := tm_trod _ _ _ h1
 rw [encT_eq] at hs ht
 exact ⟨(s, t), hs.append ht⟩
set_option maxRecDepth 100000 in
theorem arg_prs {r : Reach} {b0 : Nat} {v : Value} {d : DataW H} {p : List MemPlace} (hv : Value.okWide Tryz.prog W r b0 22 v) (h : DataW.Trod enc Tryz.prog W base sp hd 22 v d p) : ∃ l : List Pr, VRep (sto W) noS noH v (aPrs l) :=
 arg_list (k := 4) Tryz.underlying22 (by kernel_rfl) (fun _ => rfl) (by decide) hv pr_trod h
end

end Go.Proofs.YtgepacmabaaohaaGreatDoor
namespace Go.Proofs.YtgepacmabaaohaaGreatDoor.criticalSays
open Go Go.RowKit Go.ChangeShapes Go.WideShapes Go.ChangeAt
set_option linter.unusedVariables false
theorem globInG {W : World} (h : laidMetH Tryz.prog Rows.criticalSaysRow.laid W) : GlobIn (sto W) := by
 rw [MakeChecks.laidMetH_plain _ _ _ (by kernel_rfl)] at h
 obtain ⟨ps, h, _, _⟩ := h
 exact globIn_pow (by kernel_rfl) (by simp [Rows.criticalSaysRow]) h
theorem own : ownKnob Tryz.prog.godebug = none := by kernel_rfl
theorem laid : laidOutB Tryz.prog = true := by kernel_rfl
set_option maxRecDepth 100000 in
theorem contract (H : Type) (enc : TypeId × Value → H) (W : World) (base : Nat) (args : Array Value) (ds gs : List (DataW H)) (before : List MemPlace) (hL : laidMetH Tryz.prog Rows.criticalSaysRow.laid W)
  (hval : ∀ (j : Nat) t v, Tryz.f3.params[j]? = some t → args[j]? = some v → Value.okWide Tryz.prog W .any base t v)
  (hW : DataW.Whole enc Tryz.prog Tryz.f3.params.toList Rows.criticalSaysSpec.vars false W args.toList ds gs before) :
  Calls Tryz.prog 3 args W fun e W' => ∃ v, e = .returned v ∧ Rows.criticalSaysSpec.post enc Tryz.prog Tryz.f3 false true false false W args v W' := by
 have hG := globInG hL
 obtain ⟨p, q, hA0, hV, rfl, hfz, hnd⟩ := id hW
 obtain ⟨rfl, rfl⟩ := trodVars_none hV
 have hA : DataW.TrodAll enc Tryz.prog W 0 (fun _ => true) true Tryz.f3.params.toList args.toList ds p := hA0
 rw [Tryz.params3] at hA hval
 obtain ⟨v0, v1, d0, d1, p0, p1, hargs, rfl, rfl, h0, h1⟩ := trodAll_two hA
 obtain rfl : args = #[v0, v1] := by cases args; simp_all
 obtain ⟨R, r0⟩ := arg_prs (hval 0 22 v0 rfl rfl) h0
 obtain ⟨m, r1⟩ := arg_int Tryz.underlying3 (hval 1 3 v1 rfl rfl) h1
 refine (acalls_true (criticalSays_a R m) hG (fit_sto W) (vs := [v0, v1]) (.cons r0 (.cons r1 .nil))).mono fun e W' ⟨he, hb⟩ => ⟨_, he, ?_⟩
 exact law_post hW rfl rfl Tryz.underlying4 rfl rfl rfl laid (by kernel_rfl) hb
theorem door_met (os : Os) (args : Array Value) : laidMetH Tryz.prog Rows.criticalSaysRow.laid ((World.doorLaid Tryz.prog 400 os).forCall (fun _ _ => 0) ⟨#[], args, []⟩).memory :=
 laidMetH_of_parts3 (fuel := 8) (laidMet_of_run' 8 (by kernel_rfl) (by kernel_rfl)) (by kernel_rfl) (by kernel_rfl)
set_option maxRecDepth 100000 in
theorem lifted (os : Os) (started : os.Started) (H : Type) (enc : TypeId × Value → H) :
  ReturnsInHanded {} Tryz.checked os 3 .any (fun w args => (Rows.criticalSaysSpec.pre enc Tryz.prog Tryz.f3 [] false w args ∧ laidMetH Tryz.prog Rows.criticalSaysRow.laid w) ∧ sizedMet enc Tryz.prog Tryz.f3 (OpenSpec.ofChange Rows.criticalSaysSpec) false w args)
   (Rows.criticalSaysSpec.post enc Tryz.prog Tryz.f3 false true false false) := by
 refine returnsInHanded_of_change_and (C := Tryz.checked) (X := fun w _ => laidMetH Tryz.prog Rows.criticalSaysRow.laid w) (fun _ _ _ hh h => h.of_heap hh) own started (by kernel_rfl) Tryz.func3
  (ChangeSpec.witness_shaped (enc := enc) (C := Tryz.checked) (os := os) (X := fun w _ => laidMetH Tryz.prog Rows.criticalSaysRow.laid w) false (World.doorLaid Tryz.prog 400 os) #[.slice none 0 0, .int .i64 0] 8 rfl (World.shaped_of_RefB (by kernel_rfl) (by kernel_rfl)) (by kernel_rfl) (by kernel_rfl) (by kernel_rfl) (door_met os _)) ?_
 intro W base args ds gs before hval hW _ _ hL _
 exact contract H enc W base args ds gs before hL hval hW
theorem row_holds : Rows.CriticalSaysSaid :=
 OpenClaim.holds_of_wide 3 Tryz.f3 rfl rfl rfl rfl rfl rfl rfl ⟨rfl, rfl, rfl, rfl, rfl⟩ rfl rfl rfl rfl rfl (by kernel_rfl) Tryz.func3 (by kernel_rfl)
  (of_decide_eq_true (by kernel_rfl)) (by unfold Func.isWrapper; first | (rw [if_pos (by decide +kernel)]; kernel_rfl) | (rw [if_neg (by decide +kernel)]; exact ⟨rfl, rfl⟩))
  (fun os started H enc _ => lifted os started H enc)
theorem no_stand : (Tryz.f3.params.toList.all fun t => !Tryz.prog.wantsStandIn t) = true := by kernel_rfl
theorem proved : Rows.CriticalSaysCardSaid :=
 Claim7.holds_tied_plain_at .later [] [.data, .data, .data] true Rows.criticalSaysCard.stood.harness Rows.criticalSaysCard.stood.looks
  row_holds (fun _ h => by cases h) (by kernel_rfl) (fun _ h => by cases h) criticalSays_row_tie rfl ⟨rfl, rfl⟩ (by kernel_rfl) rfl
  (fun f fn hf hfn => by
   obtain rfl : f = 3 := Option.some.inj ((show Tryz.prog.funcNamed "metaprune/metaprunelaw.CriticalSays" = some 3 by kernel_rfl).symm.trans hf) |>.symm
   obtain rfl : fn = Tryz.f3 := (Option.some.inj (Tryz.func3.symm.trans hfn)).symm
   exact ⟨by kernel_rfl, fun j t ht => by
    have h1 := List.all_eq_true.1 no_stand t (by rw [Array.mem_toList_iff]; exact Array.mem_of_getElem? ht)
    have h2 : Tryz.prog.wantsStandIn t = false := by simpa using h1
    exact h2⟩)
  (by kernel_rfl)

end Go.Proofs.YtgepacmabaaohaaGreatDoor.criticalSays
