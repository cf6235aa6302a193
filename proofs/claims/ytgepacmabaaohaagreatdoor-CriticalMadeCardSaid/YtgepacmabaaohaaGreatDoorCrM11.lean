/-
  Part 11 of the texts. Conditions: none.
-/
import Derived.Test.YtgepacmabaaohaaGreatDoorCrM10
namespace Go.Proofs.YtgepacmabaaohaaGreatDoor
open Go Go.RowKit
set_option linter.unusedVariables false
set_option linter.unusedSimpArgs false
set_option maxHeartbeats 1000000
def UN (r : Pr) (t : Tm) : AV := if CF r.1 t = true then .tup [aTm (Aq (BT r.1 t) r.2).1, Ab true, Ab (!(Aq (BT r.1 t) r.2).2)] else .tup [aTm Tm.nil, Ab false, Ab false]
theorem WJ (r : Pr) (t : Tm) (hp : r.1.size ≤ 100000) (hq : r.2.size ≤ 100000) (ht : t.size ≤ 1000000) : AQ Tryz.prog 63 [aPr r, aTm t] (UN r t) := by
 unfold UN
 refine Ss.ac fun C hC => ?_
 unfold ME
 by_cases h : CF r.1 t = true
 ·rw [if_pos h]
  repeat' (first | (with_reducible first | refine W ?_ | refine Z0 ?_ | ((first | refine Wo fun K hK => ?_ | refine Wp ?_ | refine Wq ?_ | refine Wr ?_); (try simp only [go_sem, fN, seval, eT, iR, h, dT, dF, nL]); (repeat refine Ai ?_); (try (refine hK _ ?_; clear hK K)); try refine iC ?_)) | refine Cg _ (GF r.1 t hp ht) ?_ | refine Cg _ (Dr (BT r.1 t) r.2 (by omega)) ?_)
  simp only [go_sem, fN, seval, AJ, AS.result, AA, AB, AH]
 ·rw [if_neg h]
  repeat' (first | (with_reducible first | refine W ?_ | refine Z0 ?_ | ((first | refine Wo fun K hK => ?_ | refine Wp ?_ | refine Wq ?_ | refine Wr ?_); (try simp only [go_sem, fN, seval, eT, iR, h, dT, dF, nL]); (repeat refine Ai ?_); (try (refine hK _ ?_; clear hK K)); try refine iC ?_)) | refine Cg _ (GF r.1 t hp ht) ?_)
  simp only [go_sem, fN, seval, AJ, AS.result, AA, AB, AH]
  rfl
theorem Tv {R : List Pr} (hR : Au R) (t : Tm) (ht : t.size ≤ 1000000) : AQ Tryz.prog 80 [BF R, aTm t] (Ab (Fo R t)) := by
 have h40 := hR.len
 refine To.ac fun C hC => ?_
 unfold Nm
 repeat' with_reducible first | refine W ?_ | refine Z0 ?_ | ((first | refine Wo fun K hK => ?_ | refine Wp ?_ | refine Wq ?_ | refine Wr ?_); (try simp only [go_sem, fN, seval, eT, iR, dT, dF, nL]); (repeat refine Ai ?_); (try (refine hK _ ?_; clear hK K)); try refine iC ?_)
 refine IWP.loop (fun m s => ∃ k, k ≤ R.length ∧ m = R.length - k ∧ (R.take k).any (fun r => CF r.1 t) = false ∧ s.env 0 = BF R ∧ s.env 3 = .one (.ptr 3 1 0 0) ∧ s.S 3 = some (Jp t) ∧ s.env 5 = AK k) R.length ⟨0, Nat.zero_le _, rfl, rfl, rfl, rfl, rfl, rfl⟩ ?_
 rintro m ⟨env, S⟩ ⟨k, hk, rfl, hno, e0, e3, s3, e5⟩
 simp only at e0 e3 s3 e5
 by_cases hlt : (k : Int) < R.length
 ·obtain ⟨r, hr⟩ := AT (show k < R.length by omega)
  have z1 := (Tm.may_chk (hR.left r (AI hr))).2
  by_cases hcase : CF r.1 t = true
  ·have hf : Fo R t = true := List.any_eq_true.2 ⟨r, AI hr, hcase⟩
   repeat' (first | (with_reducible first | refine W ?_ | refine Z0 ?_ | ((first | refine Wo fun K hK => ?_ | refine Wp ?_ | refine Wq ?_ | refine Wr ?_); (try simp only [go_sem, fN, seval, eT, iR, e0, e3, s3, e5, hlt, hr, At, hcase, dT, dF, nL]); (repeat refine Ai ?_); (try (refine hK _ ?_; clear hK K)); try refine iC ?_)) | refine Cg _ (GF r.1 t (by omega) ht) ?_)
   simp only [go_sem, fN, seval, AJ, AS.result, AA, AB, AH, hf]
  ·repeat' (first | (with_reducible first | refine W ?_ | refine Z0 ?_ | ((first | refine Wo fun K hK => ?_ | refine Wp ?_ | refine Wq ?_ | refine Wr ?_); (try simp only [go_sem, fN, seval, eT, iR, e0, e3, s3, e5, hlt, hr, At, hcase, dT, dF, nL]); (repeat refine Ai ?_); (try (refine hK _ ?_; clear hK K)); try refine iC ?_)) | refine Cg _ (GF r.1 t (by omega) ht) ?_)
   refine AE ⟨R.length - (k + 1), by omega, k + 1, by omega, rfl, ?_, ?_⟩
   ·rw [AY hr, List.any_append, hno]
    simpa using hcase
   ·simp only [go_sem, fN, seval, eT, iR, e0, e3, s3, e5]
    congr 3
 ·rw [List.take_of_length_le (by omega)] at hno
  repeat' with_reducible first | refine W ?_ | refine Z0 ?_ | ((first | refine Wo fun K hK => ?_ | refine Wp ?_ | refine Wq ?_ | refine Wr ?_); (try simp only [go_sem, fN, seval, eT, iR, e0, e3, s3, e5, hlt, dT, dF, nL]); (repeat refine Ai ?_); (try (refine hK _ ?_; clear hK K)); try refine iC ?_)
  simp only [go_sem, fN, seval, AJ, AS.result, AA, AB, AH]
  unfold Fo
  rw [hno]
theorem Sg {α : Type} {p : α → Bool} {l : List α} {k : Nat} {a : α} (h : l[k]? = some a) (hno : (l.take k).find? p = none) : (p a = true → l.find? p = some a) ∧ (p a = false → (l.take (k + 1)).find? p = none) := by
 refine ⟨fun ha => ?_, fun ha => ?_⟩
 ·have e : l = l.take k ++ a :: l.drop (k + 1) := by rw [← BS h, List.take_append_drop]
  rw [e, List.find?_append, hno]
  simp [ha]
 ·rw [AY h, List.find?_append, hno]
  simp [ha]
def TY (p : Option (List Int)) : AV := match p with
 | none => .tup [EA [], Ab false]
 | some q => .tup [EA q, Ab true]
def Vc (R : List Pr) (inner : Bool) (x : Tm) (i : Nat) (b : Bool) : Prop := (inner = false ∧ b = true ∧ i = 1) ∨ (inner = true ∧ ((x.knots.take i).drop 1).any (Fo R) = !b)
theorem WL {R : List Pr} (hR : Au R) (inner : Bool) (t : Tm) (ht : t.size ≤ 900000) : AQ Tryz.prog 62 [BF R, aTm t, Ab inner] (TY (t.findP (EJ inner R))) := by
 rw [← Tm.places_find]
 have hpl := Tm.places_length t
 refine Rx.ac fun C hC => ?_
 unfold LZ
 repeat' (first | (with_reducible first | refine W ?_ | refine Z0 ?_ | ((first | refine Wo fun K hK => ?_ | refine Wp ?_ | refine Wq ?_ | refine Wr ?_); (try simp only [go_sem, fN, seval, eT, iR, dT, dF, nL]); (repeat refine Ai ?_); (try (refine hK _ ?_; clear hK K)); try refine iC ?_)) | refine Cg _ (MR t (by omega)) ?_)
 refine IWP.loopD [10] (fun m s => ∃ k, k ≤ t.places.length ∧ m = t.places.length - k ∧ (t.places.take k).find? (atT (EJ inner R) t) = none ∧ s.env 0 = BF R ∧ s.env 2 = Ab inner ∧ s.env 4 = .one (.ptr 4 1 0 0) ∧ s.S 4 = some (Jp t) ∧ s.S 10 = none ∧ s.env 8 = PA t.places ∧ s.env 9 = AK k) t.places.length ⟨0, Nat.zero_le _, rfl, rfl, rfl, rfl, rfl, rfl, rfl, rfl, rfl⟩ ?_
 rintro m ⟨env, S⟩ ⟨k, hk, rfl, hno, e0, e2, e4, s4, s10, e8, e9⟩
 simp only at e0 e2 e4 s4 s10 e8 e9
 by_cases hlt : (k : Int) < t.places.length
 ·obtain ⟨p, hp⟩ := AT (show k < t.places.length by omega)
  obtain ⟨x, hx, hxk⟩ := Ds t p (AI hp)
  have hxz := Cj t x hxk
  obtain ⟨g1, g2⟩ := Sg hp hno
  have hat : atT (EJ inner R) t p = EJ inner R x := by unfold atT; rw [hx]
  rw [hat] at g1 g2
  have hcon := Ps p t
  rw [hx] at hcon
  by_cases hf : Fo R x = true
  case neg =>
   have hT : EJ inner R x = false := by
    rw [← Bool.not_eq_true]
    exact fun h => hf (Ly h)
   repeat' (first | (with_reducible first | refine W ?_ | refine Z0 ?_ | ((first | refine Wo fun K hK => ?_ | refine Wp ?_ | refine Wq ?_ | refine Wr ?_); (try simp only [go_sem, fN, seval, eT, iR, e0, e2, e4, s4, s10, e8, e9, hlt, hp, hf, dT, dF, nL]); (repeat refine Ai ?_); (try (refine hK _ ?_; clear hK K)); try refine iC ?_)) | refine Cg _ (hcon) ?_ | refine Cg _ (Tv hR x (by omega)) ?_)
   refine AE ⟨t.places.length - (k + 1), by omega, k + 1, by omega, rfl, g2 hT, ?_⟩
   simp only [go_sem, fN, seval, AS.drop, Ak, AC.clears, AC.clear, AC.highs, AC.high, Bool.not_false, Bool.true_and, Bool.and_self, AV.purge, AV.purges, AC.purge, AN.purge, List.contains_cons, List.contains_nil, Nat.reduceBEq, Bool.or_self, Bool.or_false, Bool.false_or, Bool.or_true, eT, iR, e0, e2, e4, s4, s10, e8, e9]
   congr 3
  case pos =>
  have hkn := Tm.knots_length x
  have hke := Tm.knots_eq x
  repeat' (first | (with_reducible first | refine W ?_ | refine Z0 ?_ | ((first | refine Wo fun K hK => ?_ | refine Wp ?_ | refine Wq ?_ | refine Wr ?_); (try simp only [go_sem, fN, seval, eT, iR, e0, e2, e4, s4, s10, e8, e9, hlt, hp, hf, dT, dF, nL]); (repeat refine Ai ?_); (try (refine hK _ ?_; clear hK K)); try refine iC ?_)) | refine Cg _ (hcon) ?_ | refine Cg _ (Tv hR x (by omega)) ?_ | refine Cg _ (M5 x (by omega)) ?_)
  refine IWP.loop (fun m s => ∃ (i : Nat) (b : Bool), 1 ≤ i ∧ i ≤ x.knots.length ∧ m = x.knots.length - i ∧ Vc R inner x i b ∧ s.env 0 = BF R ∧ s.env 2 = Ab inner ∧ s.env 4 = .one (.ptr 4 1 0 0) ∧ s.S 4 = some (Jp t) ∧ s.env 8 = PA t.places ∧ s.env 9 = AK k ∧ s.env 12 = Dn x.knots ∧ s.env 13 = Ab b ∧ s.env 14 = AK i) (x.knots.length - 1) ⟨1, true, by omega, by rw [hke]; simp, rfl, ?_, ?_⟩ ?_
  ·cases inner with
   | false => exact .inl ⟨rfl, rfl, rfl⟩
   | true => exact .inr ⟨rfl, by rw [hke]; rfl⟩
  ·simp only [go_sem, fN, seval, eT, iR, e0, e2, e4, s4, e8, e9]
  rintro m ⟨env, S⟩ ⟨i, b, hi1, hi, rfl, hb, e0, e2, e4, s4, e8, e9, e12, e13, e14⟩
  simp only at e0 e2 e4 s4 e8 e9 e12 e13 e14
  have hdrop : x.knots.drop 1 = Tm.knotsL x.args := by rw [hke]; rfl
  by_cases hil : (i : Int) < x.knots.length
  ·obtain ⟨y, hy⟩ := AT (show i < x.knots.length by omega)
   rcases hb with ⟨rfl, rfl, rfl⟩ | ⟨rfl, hb⟩
   ·have hT : EJ false R x = true := hf
    have hfin := g1 hT
    have hil' : (1 : Int) < x.knots.length := by omega
    rw [hfin]
    repeat' with_reducible first | refine W ?_ | refine Z0 ?_ | ((first | refine Wo fun K hK => ?_ | refine Wp ?_ | refine Wq ?_ | refine Wr ?_); (try simp only [go_sem, fN, seval, eT, iR, e0, e2, e4, s4, e8, e9, e12, e13, e14, hil', hp, dT, dF, nL]); (repeat refine Ai ?_); (try (refine hK _ ?_; clear hK K)); try refine iC ?_)
    simp only [go_sem, fN, seval, AJ, AS.result, AA, AB, AH]
    rfl
   ·cases b with
    | true =>
     have hyz : y.size ≤ x.size := Cj x y (AI hy)
     repeat' (first | (with_reducible first | refine W ?_ | refine Z0 ?_ | ((first | refine Wo fun K hK => ?_ | refine Wp ?_ | refine Wq ?_ | refine Wr ?_); (try simp only [go_sem, fN, seval, eT, iR, e0, e2, e4, s4, e8, e9, e12, e13, e14, hil, hy, dT, dF, nL]); (repeat refine Ai ?_); (try (refine hK _ ?_; clear hK K)); try refine iC ?_)) | refine Cg _ (Tv hR y (by omega)) ?_)
     refine AE ⟨x.knots.length - (i + 1), by omega, i + 1, !Fo R y, by omega, by omega, rfl, .inr ⟨rfl, ?_⟩, ?_⟩
     ·have e : (x.knots.take (i + 1)).drop 1 = (x.knots.take i).drop 1 ++ [y] := by
       rw [AY hy, List.drop_append_of_le_length (by rw [List.length_take]; omega)]
      rw [e, List.any_append, hb]
      simp
     ·simp only [go_sem, fN, seval, eT, iR, e0, e2, e4, s4, e8, e9, e12, e13, e14]
      congr 3
    | false =>
     have hT : EJ true R x = false := by
      have h1 : SR R x.args = true := by
       unfold SR
       rw [← hdrop]
       simp only [Bool.not_false] at hb
       rw [List.any_eq_true] at hb ⊢
       obtain ⟨z, hz1, hz2⟩ := hb
       refine ⟨z, ?_, hz2⟩
       rw [List.drop_take] at hz1
       exact List.mem_of_mem_take hz1
      show G9 R x = false
      unfold G9
      rw [h1]
      simp
     repeat' with_reducible first | refine W ?_ | refine Z0 ?_ | ((first | refine Wo fun K hK => ?_ | refine Wp ?_ | refine Wq ?_ | refine Wr ?_); (try simp only [go_sem, fN, seval, eT, iR, e0, e2, e4, s4, e8, e9, e12, e13, e14, hil, dT, dF, nL]); (repeat refine Ai ?_); (try (refine hK _ ?_; clear hK K)); try refine iC ?_)
     refine AE ⟨t.places.length - (k + 1), by omega, k + 1, by omega, rfl, g2 hT, ?_⟩
     simp only [go_sem, fN, seval, AS.drop, Ak, AC.clears, AC.clear, AC.highs, AC.high, Bool.not_false, Bool.true_and, Bool.and_self, AV.purge, AV.purges, AC.purge, AN.purge, List.contains_cons, List.contains_nil, Nat.reduceBEq, Bool.or_self, Bool.or_false, Bool.false_or, Bool.or_true, eT, iR, e0, e2, e4, s4, e8, e9]
     congr 3
  ·rcases hb with ⟨rfl, rfl, rfl⟩ | ⟨rfl, hb⟩
   ·have hT : EJ false R x = true := hf
    have hfin := g1 hT
    have hil' : ¬ (1 : Int) < x.knots.length := by omega
    rw [hfin]
    repeat' with_reducible first | refine W ?_ | refine Z0 ?_ | ((first | refine Wo fun K hK => ?_ | refine Wp ?_ | refine Wq ?_ | refine Wr ?_); (try simp only [go_sem, fN, seval, eT, iR, e0, e2, e4, s4, e8, e9, e12, e13, e14, hil', hp, dT, dF, nL]); (repeat refine Ai ?_); (try (refine hK _ ?_; clear hK K)); try refine iC ?_)
    simp only [go_sem, fN, seval, AJ, AS.result, AA, AB, AH]
    rfl
   ·rw [List.take_of_length_le (by omega), hdrop] at hb
    cases b with
    | true =>
     have hT : EJ true R x = true := by
      show G9 R x = true
      unfold G9 SR
      rw [hf, hb]
      rfl
     have hfin := g1 hT
     rw [hfin]
     repeat' with_reducible first | refine W ?_ | refine Z0 ?_ | ((first | refine Wo fun K hK => ?_ | refine Wp ?_ | refine Wq ?_ | refine Wr ?_); (try simp only [go_sem, fN, seval, eT, iR, e0, e2, e4, s4, e8, e9, e12, e13, e14, hil, hp, dT, dF, nL]); (repeat refine Ai ?_); (try (refine hK _ ?_; clear hK K)); try refine iC ?_)
     simp only [go_sem, fN, seval, AJ, AS.result, AA, AB, AH]
     rfl
    | false =>
     have hT : EJ true R x = false := by
      show G9 R x = false
      unfold G9 SR
      rw [hb]
      simp
     repeat' with_reducible first | refine W ?_ | refine Z0 ?_ | ((first | refine Wo fun K hK => ?_ | refine Wp ?_ | refine Wq ?_ | refine Wr ?_); (try simp only [go_sem, fN, seval, eT, iR, e0, e2, e4, s4, e8, e9, e12, e13, e14, hil, dT, dF, nL]); (repeat refine Ai ?_); (try (refine hK _ ?_; clear hK K)); try refine iC ?_)
     refine AE ⟨t.places.length - (k + 1), by omega, k + 1, by omega, rfl, g2 hT, ?_⟩
     simp only [go_sem, fN, seval, AS.drop, Ak, AC.clears, AC.clear, AC.highs, AC.high, Bool.not_false, Bool.true_and, Bool.and_self, AV.purge, AV.purges, AC.purge, AN.purge, List.contains_cons, List.contains_nil, Nat.reduceBEq, Bool.or_self, Bool.or_false, Bool.false_or, Bool.or_true, eT, iR, e0, e2, e4, s4, e8, e9]
     congr 3
 ·rw [List.take_of_length_le (by omega)] at hno
  rw [hno]
  repeat' with_reducible first | refine W ?_ | refine Z0 ?_ | ((first | refine Wo fun K hK => ?_ | refine Wp ?_ | refine Wq ?_ | refine Wr ?_); (try simp only [go_sem, fN, seval, eT, iR, e0, e2, e4, s4, e8, e9, hlt, dT, dF, nL]); (repeat refine Ai ?_); (try (refine hK _ ?_; clear hK K)); try refine iC ?_)
  simp only [go_sem, fN, seval, AJ, AS.result, AA, AB, AH]
  rfl
theorem K8 {R : List Pr} {t : Tm} {r : Pr} {l : List Pr} : Bw R t (r :: l) = if CF r.1 t = true then (if (Aq (BT r.1 t) r.2).2 = true then some ((Aq (BT r.1 t) r.2).1, 0) else some (Tm.nil, 8)) else Bw R t l := rfl
theorem Q9 {R : List Pr} (hR : Au R) (inner : Bool) (t0 : Tm) (hc0 : t0.chk = 0) (hz0 : t0.size ≤ 800000) (most : Nat) (hm : most ≤ 1000000) : AQ Tryz.prog 38 [BF R, aTm t0, AK most, Ab inner] (Rq (CW (LS inner R) most 0 t0)) := by
 have h40 := hR.len
 unfold Rq
 refine Pj.ac fun C hC => ?_
 unfold J6
 repeat' with_reducible first | refine W ?_ | refine Z0 ?_ | ((first | refine Wo fun K hK => ?_ | refine Wp ?_ | refine Wq ?_ | refine Wr ?_); (try simp only [go_sem, fN, seval, eT, iR, dT, dF, nL]); (repeat refine Ai ?_); (try (refine hK _ ?_; clear hK K)); try refine iC ?_)
 refine IWP.loopD [14, 17] (fun m s => ∃ (n : Nat) (t : Tm), n ≤ most ∧ m = most - n ∧ CW (LS inner R) most 0 t0 = CW (LS inner R) (most - n) n t ∧ t.chk = 0 ∧ t.size ≤ 800000 ∧ s.env 0 = BF R ∧ s.env 2 = AK most ∧ s.env 3 = Ab inner ∧ s.env 5 = .one (.ptr 5 1 0 0) ∧ s.env 8 = .one (.ptr 8 1 0 0) ∧ s.env 11 = AK n ∧ s.S 5 = some (Jp t) ∧ s.S 8 = some TZ ∧ s.S 14 = none ∧ s.S 17 = none)
  most ⟨0, t0, by omega, by omega, rfl, hc0, hz0, rfl, rfl, rfl, rfl, rfl, rfl, rfl, rfl, rfl, rfl⟩ ?_
 rintro m ⟨env, S⟩ ⟨n, t, hn, rfl, hend, hc, hz, e0, e2, e3, e5, e8, e11, s5, s8, s14, s17⟩
 simp only at e0 e2 e3 e5 e8 e11 s5 s8 s14 s17
 rw [hend]
 have hcon := WL hR inner t (by omega)
 have hfind := P4 inner R t
 cases hp : t.findP (EJ inner R) with
 | none =>
  rw [hp] at hcon hfind
  unfold TY at hcon
  rw [L6 hfind]
  repeat' (first | (with_reducible first | refine W ?_ | refine Z0 ?_ | ((first | refine Wo fun K hK => ?_ | refine Wp ?_ | refine Wq ?_ | refine Wr ?_); (try simp only [go_sem, fN, seval, eT, iR, e0, e2, e3, e5, e8, e11, s5, s8, s14, s17, dT, dF, nL]); (repeat refine Ai ?_); (try (refine hK _ ?_; clear hK K)); try refine iC ?_)) | refine Cg _ (hcon) ?_)
  simp only [go_sem, fN, seval, AJ, AS.result, AA, AB, AH, e8, s8]
 | some p =>
  obtain ⟨x, hx, hTx, hxk⟩ := Tm.findP_at _ t p hp
  have hxz := Cj t x hxk
  have hat := Ps p t
  rw [hx] at hat
  rw [hp] at hcon hfind
  unfold TY at hcon
  simp only [Di, hx] at hfind
  cases hr : DR R x with
  | none =>
   exfalso
   have h1 := Ly hTx
   rw [Cu.1 hr] at h1
   cases h1
  | some r =>
   obtain ⟨y, e⟩ := r
   rw [hr] at hfind
   simp only [Option.map_some] at hfind
   obtain ⟨g1, g2, g3⟩ := P1 hR hc hfind
   have hput := Q8 p t (by omega) y (by rw [hx]; rfl)
   by_cases hmost : n = most
   ·have hmi : (n : Int) = most := by omega
    rw [show most - n = 0 by omega, Lm hfind]
    repeat' (first | (with_reducible first | refine W ?_ | refine Z0 ?_ | ((first | refine Wo fun K hK => ?_ | refine Wp ?_ | refine Wq ?_ | refine Wr ?_); (try simp only [go_sem, fN, seval, eT, iR, e0, e2, e3, e5, e8, e11, s5, s8, s14, s17, hmi, dT, dF, nL]); (repeat refine Ai ?_); (try (refine hK _ ?_; clear hK K)); try refine iC ?_)) | refine Cg _ (hcon) ?_)
    simp only [go_sem, fN, seval, AJ, AS.result, AA, AB, AH, e8, s8]
    rfl
   have hmi : ¬ (n : Int) = most := by omega
   obtain ⟨k0, hk0⟩ : ∃ k, most - n = k + 1 := ⟨most - n - 1, by omega⟩
   rw [hk0]
   repeat' (first | (with_reducible first | refine W ?_ | refine Z0 ?_ | ((first | refine Wo fun K hK => ?_ | refine Wp ?_ | refine Wq ?_ | refine Wr ?_); (try simp only [go_sem, fN, seval, eT, iR, e0, e2, e3, e5, e8, e11, s5, s8, s14, s17, hmi, dT, dF, nL]); (repeat refine Ai ?_); (try (refine hK _ ?_; clear hK K)); try refine iC ?_)) | refine Cg _ (hcon) ?_ | refine Cg _ (hat) ?_)
   refine IWP.loopD [17] (fun m s => ∃ k, k ≤ R.length ∧ m = R.length - k ∧ Bw R x (R.drop k) = some (y, e) ∧ s.env 0 = BF R ∧ s.env 2 = AK most ∧ s.env 3 = Ab inner ∧ s.env 5 = .one (.ptr 5 1 0 0) ∧ s.env 8 = .one (.ptr 8 1 0 0) ∧ s.env 11 = AK (n + 1) ∧ s.env 12 = EA p ∧ s.env 14 = .one (.ptr 14 1 0 0) ∧ s.env 16 = AK k ∧ s.S 5 = some (Jp t) ∧ s.S 8 = some TZ ∧ s.S 14 = some (Jp x) ∧ s.S 17 = none) R.length ⟨0, Nat.zero_le _, rfl, hr, ?_⟩ ?_
   ·simp only [go_sem, fN, seval, eT, iR, e0, e2, e3, e5, e8, e11, s5, s8, s14, s17]
   rintro m ⟨env, S⟩ ⟨k, hk, rfl, hrk, e0, e2, e3, e5, e8, e11, e12, e14, e16, s5, s8, s14, s17⟩
   simp only at e0 e2 e3 e5 e8 e11 e12 e14 e16 s5 s8 s14 s17
   by_cases hkl : k < R.length
   case neg =>
    rw [List.drop_of_length_le (by omega)] at hrk
    cases hrk
   case pos =>
   have hlt : (k : Int) < R.length := by omega
   obtain ⟨q, hq⟩ := AT hkl
   have hmem := AI hq
   have z1 := (Tm.may_chk (hR.left q hmem)).2
   have z2 := (Tm.may_chk (hR.right q hmem)).2
   rw [BS hq, K8] at hrk
   have hfits := WJ q x (by omega) (by omega) (by omega)
   unfold UN at hfits
   by_cases hcase : CF q.1 x = true
   case neg =>
    rw [if_neg hcase] at hrk hfits
    repeat' (first | (with_reducible first | refine W ?_ | refine Z0 ?_ | ((first | refine Wo fun K hK => ?_ | refine Wp ?_ | refine Wq ?_ | refine Wr ?_); (try simp only [go_sem, fN, seval, eT, iR, e0, e2, e3, e5, e8, e11, e12, e14, e16, s5, s8, s14, s17, hlt, hq, At, dT, dF, nL]); (repeat refine Ai ?_); (try (refine hK _ ?_; clear hK K)); try refine iC ?_)) | refine Cg _ (hfits) ?_)
    refine AE ⟨R.length - (k + 1), by omega, k + 1, by omega, rfl, hrk, ?_⟩
    simp only [go_sem, fN, seval, AS.drop, Ak, AC.clears, AC.clear, AC.highs, AC.high, Bool.not_false, Bool.true_and, Bool.and_self, AV.purge, AV.purges, AC.purge, AN.purge, List.contains_cons, List.contains_nil, Nat.reduceBEq, Bool.or_self, Bool.or_false, Bool.false_or, Bool.or_true, eT, iR, e0, e2, e3, e5, e8, e11, e12, e14, e16, s5, s8, s14, s17]
    congr 3
   case pos =>
   rw [if_pos hcase] at hrk hfits
   by_cases hon : (Aq (BT q.1 x) q.2).2 = true
   case neg =>
    rw [if_neg hon] at hrk
    simp only [Bool.not_eq_true] at hon
    rw [hon] at hfits
    cases hrk
    rw [OG hfind (by decide)]
    repeat' (first | (with_reducible first | refine W ?_ | refine Z0 ?_ | ((first | refine Wo fun K hK => ?_ | refine Wp ?_ | refine Wq ?_ | refine Wr ?_); (try simp only [go_sem, fN, seval, eT, iR, e0, e2, e3, e5, e8, e11, e12, e14, e16, s5, s8, s14, s17, hlt, hq, At, dT, dF, nL]); (repeat refine Ai ?_); (try (refine hK _ ?_; clear hK K)); try refine iC ?_)) | refine Cg _ (hfits) ?_)
    simp only [go_sem, fN, seval, AJ, AS.result, AA, AB, AH, e8, s8]
    rfl
   case pos =>
   rw [if_pos hon] at hrk
   rw [hon] at hfits
   simp only [Option.some.injEq, Prod.mk.injEq] at hrk
   obtain ⟨hy, he⟩ := hrk
   subst he
   rw [hy] at hfits
   have hsz := GL (t.putP p y) 2000 (by omega) (by omega)
   by_cases hgr : 2000 < (t.putP p y).size
   ·rw [Ko hfind hgr]
    have hg : (2000 : Int) < BE (t.putP p y).size 2000 := by unfold BE; split <;> omega
    repeat' (first | (with_reducible first | refine W ?_ | refine Z0 ?_ | ((first | refine Wo fun K hK => ?_ | refine Wp ?_ | refine Wq ?_ | refine Wr ?_); (try simp only [go_sem, fN, seval, eT, iR, e0, e2, e3, e5, e8, e11, e12, e14, e16, s5, s8, s14, s17, hlt, hq, At, hg, dT, dF, nL]); (repeat refine Ai ?_); (try (refine hK _ ?_; clear hK K)); try refine iC ?_)) | refine Cg _ (hfits) ?_ | refine Cg _ (hput) ?_ | refine Cg _ (hsz) ?_)
    simp only [go_sem, fN, seval, AJ, AS.result, AA, AB, AH, e8, s8]
    rfl
   ·have hg : ¬ (2000 : Int) < BE (t.putP p y).size 2000 := by unfold BE; split <;> omega
    repeat' (first | (with_reducible first | refine W ?_ | refine Z0 ?_ | ((first | refine Wo fun K hK => ?_ | refine Wp ?_ | refine Wq ?_ | refine Wr ?_); (try simp only [go_sem, fN, seval, eT, iR, e0, e2, e3, e5, e8, e11, e12, e14, e16, s5, s8, s14, s17, hlt, hq, At, hg, dT, dF, nL]); (repeat refine Ai ?_); (try (refine hK _ ?_; clear hK K)); try refine iC ?_)) | refine Cg _ (hfits) ?_ | refine Cg _ (hput) ?_ | refine Cg _ (hsz) ?_)
    refine AE ⟨most - (n + 1), by omega, n + 1, t.putP p y, by omega, rfl, ?_, g2 rfl, by omega, ?_⟩
    ·rw [show most - (n + 1) = k0 by omega]
     exact Qp hfind hgr k0 n
    ·simp only [go_sem, fN, seval, AS.drop, Ak, AC.clears, AC.clear, AC.highs, AC.high, Bool.not_false, Bool.true_and, Bool.and_self, AV.purge, AV.purges, AC.purge, AN.purge, List.contains_cons, List.contains_nil, Nat.reduceBEq, Bool.or_self, Bool.or_false, Bool.false_or, Bool.or_true, eT, iR, e0, e2, e3, e5, e8, e11, e12, e14, e16, s5, s8, s14, s17]
     congr 3
theorem U9 {R : List Pr} (hR : Au R) (a b : Tm) (ha : a.chk = 0) (hb : b.chk = 0) (za : a.size ≤ 800000) (zb : b.size ≤ 800000) (most : Nat) (hm : most ≤ 1000000) : AQ Tryz.prog 22 [BF R, aTm a, aTm b, AK most] (.tup [Ab (Fe R most a b).1, AK (Fe R most a b).2]) := by
 have l1 := Q9 hR true a ha za most hm
 have l2 := Q9 hR true b hb zb most hm
 have e : LS true R = Tm.inn R := rfl
 rw [e] at l1 l2
 have hmet : Fe R most a b = if (CW (Tm.inn R) most 0 a).2.2 ≠ 0 then (false, (CW (Tm.inn R) most 0 a).2.2) else if (CW (Tm.inn R) most 0 b).2.2 ≠ 0 then (false, (CW (Tm.inn R) most 0 b).2.2) else ((CW (Tm.inn R) most 0 a).1.beq (CW (Tm.inn R) most 0 b).1, 0) := rfl
 rw [hmet]
 unfold Rq at l1 l2
 generalize CW (Tm.inn R) most 0 a = x at *
 generalize CW (Tm.inn R) most 0 b = y at *
 clear hmet
 refine Om.ac fun C hC => ?_
 unfold Ia
 by_cases h1 : x.2.2 = 0
 case neg =>
  rw [if_pos h1]
  repeat' (first | (with_reducible first | refine W ?_ | refine Z0 ?_ | ((first | refine Wo fun K hK => ?_ | refine Wp ?_ | refine Wq ?_ | refine Wr ?_); (try simp only [go_sem, fN, seval, eT, iR, h1, dT, dF, nL]); (repeat refine Ai ?_); (try (refine hK _ ?_; clear hK K)); try refine iC ?_)) | refine Cg _ (l1) ?_)
  simp only [go_sem, fN, seval, AJ, AS.result, AA, AB, AH]
 case pos =>
 rw [if_neg (fun h => h h1)]
 by_cases h2 : y.2.2 = 0
 case neg =>
  rw [if_pos h2]
  repeat' (first | (with_reducible first | refine W ?_ | refine Z0 ?_ | ((first | refine Wo fun K hK => ?_ | refine Wp ?_ | refine Wq ?_ | refine Wr ?_); (try simp only [go_sem, fN, seval, eT, iR, h1, h2, dT, dF, nL]); (repeat refine Ai ?_); (try (refine hK _ ?_; clear hK K)); try refine iC ?_)) | refine Cg _ (l1) ?_ | refine Cg _ (l2) ?_)
  simp only [go_sem, fN, seval, AJ, AS.result, AA, AB, AH]
 case pos =>
 rw [if_neg (fun h => h h2)]
 repeat' (first | (with_reducible first | refine W ?_ | refine Z0 ?_ | ((first | refine Wo fun K hK => ?_ | refine Wp ?_ | refine Wq ?_ | refine Wr ?_); (try simp only [go_sem, fN, seval, eT, iR, h1, h2, dT, dF, nL]); (repeat refine Ai ?_); (try (refine hK _ ?_; clear hK K)); try refine iC ?_)) | refine Cg _ (l1) ?_ | refine Cg _ (l2) ?_ | refine Cg _ (JO x.1 y.1) ?_)
 simp only [go_sem, fN, seval, AJ, AS.result, AA, AB, AH]

set_option maxHeartbeats 1600000
def crV (o : Option (List Pr)) : AV := match o with
 | none => .tup [BF [], AK 8]
 | some l => .tup [BF l, AK 0]
abbrev Oh (p : Pr) : AN := .box 31 [.st (.str p.1.name), .st (.list (p.1.args.map Ap)), .st (.str p.2.name), .st (.list (p.2.args.map Ap))]
structure Pk (p : Pr) : Prop where
 c1 : p.1.chk = 0
 c2 : p.2.chk = 0
 z1 : p.1.size ≤ 200
 z2 : p.2.size ≤ 200
theorem EH {c : UInt8} (h65 : 65 ≤ c.toNat) (h90 : c.toNat ≤ 90) {k : Nat} (hk : k ≤ 1) {r : Pr} (h1 : r.1.may = 0) (h2 : r.2.may = 0) : Pk (ED c k r) := by
 obtain ⟨c1, z1⟩ := Tm.may_chk h1
 obtain ⟨c2, z2⟩ := Tm.may_chk h2
 have hvl := C1 r.1
 have f1 := DL h65 h90 hk (show r.1.varsOf.length ≤ 1000 by omega) c1
 have f2 := DL h65 h90 hk (show r.1.varsOf.length ≤ 1000 by omega) c2
 exact ⟨f1.1, f2.1, by rw [ED]; show (Tm.on _ r.1).size ≤ 200; rw [f1.2]; exact z1, by rw [ED]; show (Tm.on _ r.2).size ≤ 200; rw [f2.2]; exact z2⟩
theorem Gi {A B : Pr} (hA : Pk A) (hB : Pk B) (same : Bool) {p : List Int} {x : Tm} (hx : A.1.atP p = some x) (hk : x ∈ A.1.knots) :
  ((AL x.name = true ∨ (same = true ∧ p = [])) ∧ Ch A B same p = some []) ∨ (¬ (AL x.name = true ∨ (same = true ∧ p = [])) ∧ ∃ n r, Ck n [] [(x, B.1)] r ∧ C_ [(x, B.1)] = 0 ∧
   ((r.2 = 8 ∧ Ch A B same p = none) ∨ (r.2 ≠ 8 ∧ r.2 ≠ 0 ∧ Ch A B same p = some []) ∨ (r.2 = 0 ∧ B6 (GK [(x, B.1)]) 100000000000 r.1 [] ∧
    Ch A B same p = if (Aq r.1 A.2).2 = true ∧ (Aq r.1 (A.1.putP p B.2)).2 = true then some [Df (Aq r.1 A.2).1 (Aq r.1 (A.1.putP p B.2)).1] else none))) := by
 have hxc := Hi A.1 x hA.c1 hk
 have hxz := Cj A.1 x hk
 have hAz := hA.z1
 have hmay := Ez (IJ hxc (by omega)) (IJ hB.c1 hB.z1)
 obtain ⟨n, r, hr⟩ := N4 hmay
 have hs := JS hr
 unfold Ch
 simp only [hx, hs]
 by_cases h1 : AL x.name = true ∨ (same = true ∧ p = [])
 ·exact .inl ⟨h1, by rw [if_pos h1]⟩
 refine .inr ⟨h1, n, r, hr, hmay, ?_⟩
 rw [if_neg h1]
 by_cases h2 : r.2 = 8
 ·exact .inl ⟨h2, by rw [if_pos h2]⟩
 rw [if_neg h2]
 by_cases h3 : r.2 = 0
 ·refine .inr (.inr ⟨h3, ?_, by rw [if_neg (fun h => h h3)]⟩)
  have := Mb hmay (by rw [hs]; exact h3)
  rw [hs] at this
  exact this
 ·exact .inr (.inl ⟨h2, h3, by rw [if_pos h3]⟩)
theorem Kp {A B : Pr} {same : Bool} {ps : List (List Int)} {i : Nat} {p : List Int} (h : ps[i]? = some p) {acc : List Pr} (hall : C4 A B same ps = (C4 A B same (ps.drop i)).map (acc ++ ·)) : (Ch A B same p = none → C4 A B same ps = none) ∧ ∀ x, Ch A B same p = some x → C4 A B same ps = (C4 A B same (ps.drop (i + 1))).map ((acc ++ x) ++ ·) := by
 rw [BS h, C4] at hall
 refine ⟨fun h1 => ?_, fun x h1 => ?_⟩
 ·rw [h1] at hall
  exact hall
 ·rw [h1] at hall
  simp only [Option.map_map] at hall
  rw [hall]
  congr 1
  funext l
  simp
theorem SF {a b : Pr} (ha1 : a.1.may = 0) (ha2 : a.2.may = 0) (hb1 : b.1.may = 0) (hb2 : b.2.may = 0) (same : Bool) : AQ Tryz.prog 24 [aPr a, aPr b, Ab same] (crV (Mm (ED 88 1 a) (ED 89 1 b) same)) := by
 have pa := Qn 88 (by decide) (by decide) ha1 ha2
 have pb := Qn 89 (by decide) (by decide) hb1 hb2
 have hA := EH (c := 88) (by decide) (by decide) (k := 1) (by omega) ha1 ha2
 have hB := EH (c := 89) (by decide) (by decide) (k := 1) (by omega) hb1 hb2
 generalize ED 88 1 a = A at *
 generalize ED 89 1 b = B at *
 obtain ⟨A1, A2, A3, A4⟩ := hA
 obtain ⟨B1, B1', B3, B4⟩ := hB
 have hpl := Tm.places_length A.1
 have hall := V9 A.1 (by omega)
 unfold Mm
 refine GS.ac fun C hC => ?_
 unfold Dl
 repeat' (first | (with_reducible first | refine W ?_ | refine Z0 ?_ | ((first | refine Wo fun K hK => ?_ | refine Wp ?_ | refine Wq ?_ | refine Wr ?_); (try simp only [go_sem, fN, seval, eT, iR, dT, dF, nL]); (repeat refine Ai ?_); (try (refine hK _ ?_; clear hK K)); try refine iC ?_)) | refine Cg _ (pa) ?_ | refine Cg _ (pb) ?_ | refine Cg _ (hall) ?_)
 refine IWP.ghost (Af.own 8 500 31 4 (xs := ([] : List Pr).map At) (by rfl) (by rfl) Es (by rw [hC]; decide)) ?_
 refine IWP.loopD [13, 17, 19] (fun m s => ∃ i acc, i ≤ A.1.places.length ∧ m = A.1.places.length - i ∧ acc.length ≤ i ∧ C4 A B same A.1.places = (C4 A B same (A.1.places.drop i)).map (acc ++ ·) ∧ s.env 2 = Ab same ∧ s.env 8 = .one (.row 500 acc.length) ∧ s.env 9 = .one (.ptr 9 1 0 0) ∧ s.env 10 = .one (.ptr 10 1 0 0) ∧ s.env 28 = PA A.1.places ∧ s.env 29 = AK A.1.places.length ∧ s.env 30 = AK i ∧ s.S 9 = some (Oh A) ∧ s.S 10 = some (Oh B) ∧ s.S 13 = none ∧ s.S 17 = none ∧ s.S 19 = none ∧ s.S 500 = some (.arow 31 4 (acc.map At))) A.1.places.length ⟨0, [], Nat.zero_le _, rfl, Nat.zero_le _, by simp, rfl, rfl, rfl, rfl, rfl, rfl, rfl, rfl, rfl, rfl, rfl, rfl, rfl⟩ ?_
 rintro m ⟨env, S⟩ ⟨i, acc, hi, rfl, hal, hcr, e2, e8, e9, e10, e28, e29, e30, s9, s10, s13, s17, s19, s500⟩
 simp only at e2 e8 e9 e10 e28 e29 e30 s9 s10 s13 s17 s19 s500
 have hl : (acc.map At).length = acc.length := by simp
 by_cases hlt : i < A.1.places.length
 case neg =>
  rw [List.drop_of_length_le (by omega)] at hcr
  simp only [C4, Option.map_some, List.append_nil] at hcr
  rw [hcr]
  have hlt' : ¬ (i : Int) < A.1.places.length := by omega
  unfold crV
  repeat' with_reducible first | refine W ?_ | refine Z0 ?_ | ((first | refine Wo fun K hK => ?_ | refine Wp ?_ | refine Wq ?_ | refine Wr ?_); (try simp only [go_sem, fN, seval, eT, iR, e2, e8, e9, e10, e28, e29, e30, s9, s10, s13, s17, s19, s500, hlt', dT, dF, nL]); (repeat refine Ai ?_); (try (refine hK _ ?_; clear hK K)); try refine iC ?_)
  simp only [go_sem, fN, seval, AJ, AS.result, AA, AB, AH, s500, hl]
 obtain ⟨p, hp⟩ := AT hlt
 have hlt' : (i : Int) < A.1.places.length := by omega
 obtain ⟨x, hx, hxk⟩ := Ds A.1 p (AI hp)
 have hxz := Cj A.1 x hxk
 have hpd := Tm.places_deep A.1 p (AI hp)
 have hbel := Tk A.1 p (by omega)
 rw [hx] at hbel
 have hwith := Qv B.2 (by omega) p A.1 (by omega) (by rw [hx]; simp) (by omega)
 obtain ⟨hno, hyes⟩ := Kp hp hcr
 have hpi : (p.map HL).length = p.length := by simp
 have hadd : ∀ ys : List Pr, acc ++ ys = acc ++ ys := fun _ => rfl
 rcases Gi ⟨A1, A2, A3, A4⟩ ⟨B1, B1', B3, B4⟩ same hx hxk with ⟨h1, h2⟩ | ⟨h1, n, r, hr, hmay, h2⟩
 ·have hn := hyes _ h2
  by_cases hv : AL x.name = true
  ·repeat' (first | (with_reducible first | refine W ?_ | refine Z0 ?_ | ((first | refine Wo fun K hK => ?_ | refine Wp ?_ | refine Wq ?_ | refine Wr ?_); (try simp only [go_sem, fN, seval, eT, iR, e2, e8, e9, e10, e28, e29, e30, s9, s10, s13, s17, s19, s500, hlt', hp, hv, dT, dF, nL]); (repeat refine Ai ?_); (try (refine hK _ ?_; clear hK K)); try refine iC ?_)) | refine Cg _ (hbel) ?_ | refine Cg _ (As x.name) ?_)
   refine AE ⟨A.1.places.length - (i + 1), by omega, i + 1, acc ++ [], by omega, rfl, by simp; omega, hn, ?_⟩
   rw [List.append_nil]
   simp only [go_sem, fN, seval, AS.drop, Ak, AC.clears, AC.clear, AC.highs, AC.high, Bool.not_false, Bool.true_and, Bool.and_self, AV.purge, AV.purges, AC.purge, AN.purge, List.contains_cons, List.contains_nil, Nat.reduceBEq, Bool.or_self, Bool.or_false, Bool.false_or, Bool.or_true, eT, iR, e2, e8, e9, e10, e28, e29, e30, s9, s10, s13, s17, s19, s500]
   congr 3
  ·obtain ⟨rfl, rfl⟩ : same = true ∧ p = [] := by
    rcases h1 with h1 | h1
    ·exact absurd h1 hv
    ·exact h1
   repeat' (first | (with_reducible first | refine W ?_ | refine Z0 ?_ | ((first | refine Wo fun K hK => ?_ | refine Wp ?_ | refine Wq ?_ | refine Wr ?_); (try simp only [go_sem, fN, seval, eT, iR, e2, e8, e9, e10, e28, e29, e30, s9, s10, s13, s17, s19, s500, hlt', hp, hv, dT, dF, nL]); (repeat refine Ai ?_); (try (refine hK _ ?_; clear hK K)); try refine iC ?_)) | refine Cg _ (hbel) ?_ | refine Cg _ (As x.name) ?_)
   refine AE ⟨A.1.places.length - (i + 1), by omega, i + 1, acc ++ [], by omega, rfl, by simp; omega, hn, ?_⟩
   rw [List.append_nil]
   simp only [go_sem, fN, seval, AS.drop, Ak, AC.clears, AC.clear, AC.highs, AC.high, Bool.not_false, Bool.true_and, Bool.and_self, AV.purge, AV.purges, AC.purge, AN.purge, List.contains_cons, List.contains_nil, Nat.reduceBEq, Bool.or_self, Bool.or_false, Bool.false_or, Bool.or_true, eT, iR, e2, e8, e9, e10, e28, e29, e30, s9, s10, s13, s17, s19, s500]
   congr 3
 ·have hv : ¬ AL x.name = true := fun h => h1 (.inl h)
  have hs : (same = false ∧ True) ∨ (same = true ∧ ¬ (p.length : Int) = 0) := by
   cases same with
   | false => exact .inl ⟨rfl, trivial⟩
   | true => exact .inr ⟨rfl, fun h => h1 (.inr ⟨rfl, List.length_eq_zero_iff.1 (by omega)⟩)⟩
  have hsv := Vb _ (CK hmay).1 _ (Nat.le_refl _) n _ r hr (CK hmay).2
  have hU := (CK hmay).1
  unfold BF at hsv
  simp only [List.map_cons, List.map_nil, At] at hsv
  rcases hs with ⟨rfl, hp0⟩ | ⟨rfl, hp0⟩
  all_goals
   rcases h2 with ⟨r8, hc⟩ | ⟨r8, r0, hc⟩ | ⟨r0, hg, hc⟩
   ·rw [hno hc]
    unfold crV
    repeat' (first | (with_reducible first | refine W ?_ | refine Z0 ?_ | ((first | refine Wo fun K hK => ?_ | refine Wp ?_ | refine Wq ?_ | refine Wr ?_); (try simp only [go_sem, fN, seval, eT, iR, e2, e8, e9, e10, e28, e29, e30, s9, s10, s13, s17, s19, s500, hlt', hp, hv, hp0, r8, dT, dF, nL]); (repeat refine Ai ?_); (try (refine hK _ ?_; clear hK K)); try refine iC ?_)) | refine Cg _ (hbel) ?_ | refine Cg _ (As x.name) ?_ | refine Cg _ (hsv) ?_)
    simp only [go_sem, fN, seval, AJ, AS.result, AA, AB, AH]
    rfl
   ·have hn := hyes _ hc
    repeat' (first | (with_reducible first | refine W ?_ | refine Z0 ?_ | ((first | refine Wo fun K hK => ?_ | refine Wp ?_ | refine Wq ?_ | refine Wr ?_); (try simp only [go_sem, fN, seval, eT, iR, e2, e8, e9, e10, e28, e29, e30, s9, s10, s13, s17, s19, s500, hlt', hp, hv, hp0, r8, r0, dT, dF, nL]); (repeat refine Ai ?_); (try (refine hK _ ?_; clear hK K)); try refine iC ?_)) | refine Cg _ (hbel) ?_ | refine Cg _ (As x.name) ?_ | refine Cg _ (hsv) ?_)
    refine AE ⟨A.1.places.length - (i + 1), by omega, i + 1, acc ++ [], by omega, rfl, by simp; omega, hn, ?_⟩
    rw [List.append_nil]
    simp only [go_sem, fN, seval, AS.drop, Ak, AC.clears, AC.clear, AC.highs, AC.high, Bool.not_false, Bool.true_and, Bool.and_self, AV.purge, AV.purges, AC.purge, AN.purge, List.contains_cons, List.contains_nil, Nat.reduceBEq, Bool.or_self, Bool.or_false, Bool.false_or, Bool.or_true, eT, iR, e2, e8, e9, e10, e28, e29, e30, s9, s10, s13, s17, s19, s500]
    congr 3
   ·have hgl := hg.len
    have on1 := Lq r.1 (by omega) hg.ord A.2 hg.var A2
    have on2 := Lq r.1 (by omega) hg.ord (A.1.putP p B.2) hg.var (HK p A.1 B.2 A1 B1')
    have y1 : (Aq r.1 A.2).1.size ≤ 2000 := Dv
    have y2 : (Aq r.1 (A.1.putP p B.2)).1.size ≤ 2000 := Dv
    generalize Aq r.1 A.2 = y at *
    generalize Aq r.1 (A.1.putP p B.2) = z at *
    obtain ⟨y, yb⟩ := y
    obtain ⟨z, zb⟩ := z
    simp only at on1 on2 y1 y2 hc
    by_cases hb : yb = true ∧ zb = true
    ·obtain ⟨rfl, rfl⟩ := hb
     rw [if_pos ⟨rfl, rfl⟩] at hc
     have hn := hyes _ hc
     have hnm := UJ [y, z] (by simp only [Tm.sizes]; omega)
     rw [show (Tm.cnL [y, z] []).1 = [(Df y z).1, (Df y z).2] from rfl] at hnm
     unfold Dn at hnm
     simp only [List.map_cons, List.map_nil, BC] at hnm
     generalize Df y z = q at *
     repeat' (first | (with_reducible first | refine W ?_ | refine Z0 ?_ | ((first | refine Wo fun K hK => ?_ | refine Wp ?_ | refine Wq ?_ | refine Wr ?_); (try simp only [go_sem, fN, seval, eT, iR, e2, e8, e9, e10, e28, e29, e30, s9, s10, s13, s17, s19, s500, hlt', hp, hv, hp0, r0, hl, dT, dF, nL]); (repeat refine Ai ?_); (try (refine hK _ ?_; clear hK K)); try refine iC ?_)) | refine Cg _ (hbel) ?_ | refine Cg _ (As x.name) ?_ | refine Cg _ (hsv) ?_ | refine Cg _ (on1) ?_ | refine Cg _ (hwith) ?_ | refine Cg _ (on2) ?_ | refine Cg _ (hnm) ?_)
     refine AE ⟨A.1.places.length - (i + 1), by omega, i + 1, acc ++ [q], by omega, rfl, by simp; omega, hn, ?_⟩
     simp only [go_sem, fN, seval, AS.drop, Ak, AC.clears, AC.clear, AC.highs, AC.high, Bool.not_false, Bool.true_and, Bool.and_self, AV.purge, AV.purges, AC.purge, AN.purge, List.contains_cons, List.contains_nil, Nat.reduceBEq, Bool.or_self, Bool.or_false, Bool.false_or, Bool.or_true, eT, iR, e2, e8, e9, e10, e28, e29, e30, s9, s10, s13, s17, s19, s500]
     refine ⟨by congr 3, ?_⟩
     rw [List.map_append]
     rfl
    ·rw [if_neg hb] at hc
     rw [hno hc]
     unfold crV
     cases yb
     ·repeat' (first | (with_reducible first | refine W ?_ | refine Z0 ?_ | ((first | refine Wo fun K hK => ?_ | refine Wp ?_ | refine Wq ?_ | refine Wr ?_); (try simp only [go_sem, fN, seval, eT, iR, e2, e8, e9, e10, e28, e29, e30, s9, s10, s13, s17, s19, s500, hlt', hp, hv, hp0, r0, hl, dT, dF, nL]); (repeat refine Ai ?_); (try (refine hK _ ?_; clear hK K)); try refine iC ?_)) | refine Cg _ (hbel) ?_ | refine Cg _ (As x.name) ?_ | refine Cg _ (hsv) ?_ | refine Cg _ (on1) ?_ | refine Cg _ (hwith) ?_ | refine Cg _ (on2) ?_)
      simp only [go_sem, fN, seval, AJ, AS.result, AA, AB, AH]
      rfl
     ·cases zb
      ·repeat' (first | (with_reducible first | refine W ?_ | refine Z0 ?_ | ((first | refine Wo fun K hK => ?_ | refine Wp ?_ | refine Wq ?_ | refine Wr ?_); (try simp only [go_sem, fN, seval, eT, iR, e2, e8, e9, e10, e28, e29, e30, s9, s10, s13, s17, s19, s500, hlt', hp, hv, hp0, r0, hl, dT, dF, nL]); (repeat refine Ai ?_); (try (refine hK _ ?_; clear hK K)); try refine iC ?_)) | refine Cg _ (hbel) ?_ | refine Cg _ (As x.name) ?_ | refine Cg _ (hsv) ?_ | refine Cg _ (on1) ?_ | refine Cg _ (hwith) ?_ | refine Cg _ (on2) ?_)
       simp only [go_sem, fN, seval, AJ, AS.result, AA, AB, AH]
       rfl
      ·exact absurd ⟨rfl, rfl⟩ hb
theorem GX : ∀ (k : Nat) (xs : List Tm) (p : List Int), p ∈ Tm.placesFrom k xs → p ≠ []
 | _, [], p, h => by simp [Tm.placesFrom] at h
 | k, x :: xs, p, h => by
  rw [Tm.placesFrom] at h
  rcases List.mem_append.1 h with h | h
  ·obtain ⟨q, _, rfl⟩ := List.mem_map.1 h
   simp
  ·exact GX (k + 1) xs p h
theorem P9 {t : Tm} {i : Nat} {p : List Int} (h : t.places[i]? = some p) : p = [] ↔ i = 0 := by
 cases t with
 | mk n xs =>
  rw [Tm.places] at h
  cases i with
  | zero =>
   have h : some [] = some p := h
   cases h
   exact ⟨fun _ => rfl, fun _ => rfl⟩
  | succ i =>
   simp only [List.getElem?_cons_succ] at h
   have := GX 0 xs p (List.mem_of_getElem? h)
   exact ⟨fun e => absurd e this, fun e => by omega⟩
theorem Pn {a b : Pr} (ha1 : a.1.may = 0) (ha2 : a.2.may = 0) (hb1 : b.1.may = 0) (hb2 : b.2.may = 0) (same : Bool) : AQ Tryz.prog 21 [aPr a, aPr b, Ab same] (crV (Mm (ED 80 0 a) (ED 81 0 b) same)) := by
 have pa := V2 80 (by decide) (by decide) ha1 ha2
 have pb := V2 81 (by decide) (by decide) hb1 hb2
 have hA := EH (c := 80) (by decide) (by decide) (k := 0) (by omega) ha1 ha2
 have hB := EH (c := 81) (by decide) (by decide) (k := 0) (by omega) hb1 hb2
 generalize ED 80 0 a = A at *
 generalize ED 81 0 b = B at *
 obtain ⟨A1, A2, A3, A4⟩ := hA
 obtain ⟨B1, B1', B3, B4⟩ := hB
 have hpl := Tm.places_length A.1
 have hall := MR A.1 (by omega)
 unfold Mm
 refine HG.ac fun C hC => ?_
 unfold ET
 repeat' (first | (with_reducible first | refine W ?_ | refine Z0 ?_ | ((first | refine Wo fun K hK => ?_ | refine Wp ?_ | refine Wq ?_ | refine Wr ?_); (try simp only [go_sem, fN, seval, eT, iR, dT, dF, nL]); (repeat refine Ai ?_); (try (refine hK _ ?_; clear hK K)); try refine iC ?_)) | refine Cg _ (pa) ?_ | refine Cg _ (pb) ?_ | refine Cg _ (hall) ?_)
 refine IWP.ghost (Af.own 11 500 31 4 (xs := ([] : List Pr).map At) (by rfl) (by rfl) Es (by rw [hC]; decide)) ?_
 refine IWP.loopD [13, 17, 19] (fun m s => ∃ i acc, i ≤ A.1.places.length ∧ m = A.1.places.length - i ∧ acc.length ≤ i ∧ C4 A B same A.1.places = (C4 A B same (A.1.places.drop i)).map (acc ++ ·) ∧ s.env 2 = Ab same ∧ s.env 8 = .one (.ptr 8 1 0 0) ∧ s.env 9 = .one (.ptr 9 1 0 0) ∧ s.env 10 = PA A.1.places ∧ s.env 11 = .one (.row 500 acc.length) ∧ s.env 12 = AK i ∧ s.S 8 = some (Oh A) ∧ s.S 9 = some (Oh B) ∧ s.S 13 = none ∧ s.S 17 = none ∧ s.S 19 = none ∧ s.S 500 = some (.arow 31 4 (acc.map At))) A.1.places.length ⟨0, [], Nat.zero_le _, rfl, Nat.zero_le _, by simp, rfl, rfl, rfl, rfl, rfl, rfl, rfl, rfl, rfl, rfl, rfl, rfl⟩ ?_
 rintro m ⟨env, S⟩ ⟨i, acc, hi, rfl, hal, hcr, e2, e8, e9, e10, e11, e12, s8, s9, s13, s17, s19, s500⟩
 simp only at e2 e8 e9 e10 e11 e12 s8 s9 s13 s17 s19 s500
 have hl : (acc.map At).length = acc.length := by simp
 by_cases hlt : i < A.1.places.length
 case neg =>
  rw [List.drop_of_length_le (by omega)] at hcr
  simp only [C4, Option.map_some, List.append_nil] at hcr
  rw [hcr]
  have hlt' : ¬ (i : Int) < A.1.places.length := by omega
  unfold crV
  repeat' with_reducible first | refine W ?_ | refine Z0 ?_ | ((first | refine Wo fun K hK => ?_ | refine Wp ?_ | refine Wq ?_ | refine Wr ?_); (try simp only [go_sem, fN, seval, eT, iR, e2, e8, e9, e10, e11, e12, s8, s9, s13, s17, s19, s500, hlt', dT, dF, nL]); (repeat refine Ai ?_); (try (refine hK _ ?_; clear hK K)); try refine iC ?_)
  simp only [go_sem, fN, seval, AJ, AS.result, AA, AB, AH, s500, hl]
 obtain ⟨p, hp⟩ := AT hlt
 have hlt' : (i : Int) < A.1.places.length := by omega
 obtain ⟨x, hx, hxk⟩ := Ds A.1 p (AI hp)
 have hxz := Cj A.1 x hxk
 have hbel := Ps p A.1
 rw [hx] at hbel
 have hwith := Q8 p A.1 (by omega) B.2 (by rw [hx]; rfl)
 have hpz := LX p A.1 B.2
 have hpn := P9 hp
 obtain ⟨hno, hyes⟩ := Kp hp hcr
 have hpi : (p.map HL).length = p.length := by simp
 have hadd : ∀ ys : List Pr, acc ++ ys = acc ++ ys := fun _ => rfl
 rcases Gi ⟨A1, A2, A3, A4⟩ ⟨B1, B1', B3, B4⟩ same hx hxk with ⟨h1, h2⟩ | ⟨h1, n, r, hr, hmay, h2⟩
 ·have hn := hyes _ h2
  by_cases hv : AL x.name = true
  ·repeat' (first | (with_reducible first | refine W ?_ | refine Z0 ?_ | ((first | refine Wo fun K hK => ?_ | refine Wp ?_ | refine Wq ?_ | refine Wr ?_); (try simp only [go_sem, fN, seval, eT, iR, e2, e8, e9, e10, e11, e12, s8, s9, s13, s17, s19, s500, hlt', hp, hv, dT, dF, nL]); (repeat refine Ai ?_); (try (refine hK _ ?_; clear hK K)); try refine iC ?_)) | refine Cg _ (hbel) ?_ | refine Cg _ (Ba x.name) ?_)
   refine AE ⟨A.1.places.length - (i + 1), by omega, i + 1, acc ++ [], by omega, rfl, by simp; omega, hn, ?_⟩
   rw [List.append_nil]
   simp only [go_sem, fN, seval, AS.drop, Ak, AC.clears, AC.clear, AC.highs, AC.high, Bool.not_false, Bool.true_and, Bool.and_self, AV.purge, AV.purges, AC.purge, AN.purge, List.contains_cons, List.contains_nil, Nat.reduceBEq, Bool.or_self, Bool.or_false, Bool.false_or, Bool.or_true, eT, iR, e2, e8, e9, e10, e11, e12, s8, s9, s13, s17, s19, s500]
   congr 3
  ·obtain ⟨rfl, hp0⟩ : same = true ∧ p = [] := by
    rcases h1 with h1 | h1
    ·exact absurd h1 hv
    ·exact h1
   have hi0 : i = 0 := hpn.1 hp0
   subst hi0
   have hz0 : ((0 : Nat) : Int) = 0 := rfl
   have hlt0 : (0 : Int) < A.1.places.length := by omega
   repeat' (first | (with_reducible first | refine W ?_ | refine Z0 ?_ | ((first | refine Wo fun K hK => ?_ | refine Wp ?_ | refine Wq ?_ | refine Wr ?_); (try simp only [go_sem, fN, seval, eT, iR, e2, e8, e9, e10, e11, e12, s8, s9, s13, s17, s19, s500, hlt', hlt0, hz0, hp, hv, dT, dF, nL]); (repeat refine Ai ?_); (try (refine hK _ ?_; clear hK K)); try refine iC ?_)) | refine Cg _ (hbel) ?_ | refine Cg _ (Ba x.name) ?_)
   refine AE ⟨A.1.places.length - (0 + 1), by omega, 0 + 1, acc ++ [], by omega, rfl, by simp; omega, hn, ?_⟩
   rw [List.append_nil]
   simp only [go_sem, fN, seval, AS.drop, Ak, AC.clears, AC.clear, AC.highs, AC.high, Bool.not_false, Bool.true_and, Bool.and_self, AV.purge, AV.purges, AC.purge, AN.purge, List.contains_cons, List.contains_nil, Nat.reduceBEq, Bool.or_self, Bool.or_false, Bool.false_or, Bool.or_true, eT, iR, e2, e8, e9, e10, e11, e12, s8, s9, s13, s17, s19, s500]
 ·have hv : ¬ AL x.name = true := fun h => h1 (.inl h)
  have hs : (same = false ∧ True) ∨ (same = true ∧ ¬ (i : Int) = 0) := by
   cases same with
   | false => exact .inl ⟨rfl, trivial⟩
   | true => exact .inr ⟨rfl, fun h => h1 (.inr ⟨rfl, hpn.2 (by omega)⟩)⟩
  have hsv := Ri _ (CK hmay).1 _ (Nat.le_refl _) n _ r hr (CK hmay).2
  have hU := (CK hmay).1
  unfold BF at hsv
  simp only [List.map_cons, List.map_nil, At] at hsv
  rcases hs with ⟨rfl, hp0⟩ | ⟨rfl, hp0⟩
  all_goals
   rcases h2 with ⟨r8, hc⟩ | ⟨r8, r0, hc⟩ | ⟨r0, hg, hc⟩
   ·rw [hno hc]
    unfold crV
    repeat' (first | (with_reducible first | refine W ?_ | refine Z0 ?_ | ((first | refine Wo fun K hK => ?_ | refine Wp ?_ | refine Wq ?_ | refine Wr ?_); (try simp only [go_sem, fN, seval, eT, iR, e2, e8, e9, e10, e11, e12, s8, s9, s13, s17, s19, s500, hlt', hp, hv, hp0, r8, dT, dF, nL]); (repeat refine Ai ?_); (try (refine hK _ ?_; clear hK K)); try refine iC ?_)) | refine Cg _ (hbel) ?_ | refine Cg _ (Ba x.name) ?_ | refine Cg _ (hsv) ?_)
    simp only [go_sem, fN, seval, AJ, AS.result, AA, AB, AH]
    rfl
   ·have hn := hyes _ hc
    repeat' (first | (with_reducible first | refine W ?_ | refine Z0 ?_ | ((first | refine Wo fun K hK => ?_ | refine Wp ?_ | refine Wq ?_ | refine Wr ?_); (try simp only [go_sem, fN, seval, eT, iR, e2, e8, e9, e10, e11, e12, s8, s9, s13, s17, s19, s500, hlt', hp, hv, hp0, r8, r0, dT, dF, nL]); (repeat refine Ai ?_); (try (refine hK _ ?_; clear hK K)); try refine iC ?_)) | refine Cg _ (hbel) ?_ | refine Cg _ (Ba x.name) ?_ | refine Cg _ (hsv) ?_)
    refine AE ⟨A.1.places.length - (i + 1), by omega, i + 1, acc ++ [], by omega, rfl, by simp; omega, hn, ?_⟩
    rw [List.append_nil]
    simp only [go_sem, fN, seval, AS.drop, Ak, AC.clears, AC.clear, AC.highs, AC.high, Bool.not_false, Bool.true_and, Bool.and_self, AV.purge, AV.purges, AC.purge, AN.purge, List.contains_cons, List.contains_nil, Nat.reduceBEq, Bool.or_self, Bool.or_false, Bool.false_or, Bool.or_true, eT, iR, e2, e8, e9, e10, e11, e12, s8, s9, s13, s17, s19, s500]
    congr 3
   ·have hgl := hg.len
    have on1 := Dr r.1 A.2 (by omega)
    have on2 := Dr r.1 (A.1.putP p B.2) (by omega)
    have k1 := fun h => HF hg.chk A2 h
    have k2 := fun h => HF hg.chk (HK p A.1 B.2 A1 B1') h
    have y1 : (Aq r.1 A.2).1.size ≤ 2000 := Dv
    have y2 : (Aq r.1 (A.1.putP p B.2)).1.size ≤ 2000 := Dv
    generalize Aq r.1 A.2 = y at *
    generalize Aq r.1 (A.1.putP p B.2) = z at *
    obtain ⟨y, yb⟩ := y
    obtain ⟨z, zb⟩ := z
    simp only at on1 on2 y1 y2 hc k1 k2
    by_cases hb : yb = true ∧ zb = true
    ·obtain ⟨rfl, rfl⟩ := hb
     rw [if_pos ⟨rfl, rfl⟩] at hc
     have hn := hyes _ hc
     have hnm := Sm [y, z] (fun t ht => by rcases List.mem_cons.1 ht with rfl | ht; exact k1 rfl; rw [List.mem_singleton.1 ht]; exact k2 rfl) (by simp only [Tm.sizes]; omega)
     rw [show (Tm.cnL [y, z] []).1 = [(Df y z).1, (Df y z).2] from rfl] at hnm
     unfold Dn at hnm
     simp only [List.map_cons, List.map_nil, BC] at hnm
     generalize Df y z = q at *
     repeat' (first | (with_reducible first | refine W ?_ | refine Z0 ?_ | ((first | refine Wo fun K hK => ?_ | refine Wp ?_ | refine Wq ?_ | refine Wr ?_); (try simp only [go_sem, fN, seval, eT, iR, e2, e8, e9, e10, e11, e12, s8, s9, s13, s17, s19, s500, hlt', hp, hv, hp0, r0, hl, dT, dF, nL]); (repeat refine Ai ?_); (try (refine hK _ ?_; clear hK K)); try refine iC ?_)) | refine Cg _ (hbel) ?_ | refine Cg _ (Ba x.name) ?_ | refine Cg _ (hsv) ?_ | refine Cg _ (on1) ?_ | refine Cg _ (hwith) ?_ | refine Cg _ (on2) ?_ | refine Cg _ (hnm) ?_)
     refine AE ⟨A.1.places.length - (i + 1), by omega, i + 1, acc ++ [q], by omega, rfl, by simp; omega, hn, ?_⟩
     simp only [go_sem, fN, seval, AS.drop, Ak, AC.clears, AC.clear, AC.highs, AC.high, Bool.not_false, Bool.true_and, Bool.and_self, AV.purge, AV.purges, AC.purge, AN.purge, List.contains_cons, List.contains_nil, Nat.reduceBEq, Bool.or_self, Bool.or_false, Bool.false_or, Bool.or_true, eT, iR, e2, e8, e9, e10, e11, e12, s8, s9, s13, s17, s19, s500]
     refine ⟨by congr 3, ?_⟩
     rw [List.map_append]
     rfl
    ·rw [if_neg hb] at hc
     rw [hno hc]
     unfold crV
     cases yb
     ·repeat' (first | (with_reducible first | refine W ?_ | refine Z0 ?_ | ((first | refine Wo fun K hK => ?_ | refine Wp ?_ | refine Wq ?_ | refine Wr ?_); (try simp only [go_sem, fN, seval, eT, iR, e2, e8, e9, e10, e11, e12, s8, s9, s13, s17, s19, s500, hlt', hp, hv, hp0, r0, hl, dT, dF, nL]); (repeat refine Ai ?_); (try (refine hK _ ?_; clear hK K)); try refine iC ?_)) | refine Cg _ (hbel) ?_ | refine Cg _ (Ba x.name) ?_ | refine Cg _ (hsv) ?_ | refine Cg _ (on1) ?_ | refine Cg _ (hwith) ?_ | refine Cg _ (on2) ?_)
      simp only [go_sem, fN, seval, AJ, AS.result, AA, AB, AH]
      rfl
     ·cases zb
      ·repeat' (first | (with_reducible first | refine W ?_ | refine Z0 ?_ | ((first | refine Wo fun K hK => ?_ | refine Wp ?_ | refine Wq ?_ | refine Wr ?_); (try simp only [go_sem, fN, seval, eT, iR, e2, e8, e9, e10, e11, e12, s8, s9, s13, s17, s19, s500, hlt', hp, hv, hp0, r0, hl, dT, dF, nL]); (repeat refine Ai ?_); (try (refine hK _ ?_; clear hK K)); try refine iC ?_)) | refine Cg _ (hbel) ?_ | refine Cg _ (Ba x.name) ?_ | refine Cg _ (hsv) ?_ | refine Cg _ (on1) ?_ | refine Cg _ (hwith) ?_ | refine Cg _ (on2) ?_)
       simp only [go_sem, fN, seval, AJ, AS.result, AA, AB, AH]
       rfl
      ·exact absurd ⟨rfl, rfl⟩ hb

theorem Qe {t : Tm} (hc : t.chk = 0) {l : List ByteArray} (hl : ∀ n ∈ (t.cn l).2, AL n = true) : (t.cn l).1.size = t.size := by
 rw [Tp t hc l _ hl ⟨[], by simp⟩]
 refine Qs (fun b hb => ?_) t
 obtain ⟨j, h1, h2⟩ := Gx _ _ hb
 rw [h2]
 rfl
structure Fd (q : Pr) : Prop where
 c1 : q.1.chk = 0
 c2 : q.2.chk = 0
 z1 : q.1.size ≤ 2000
 z2 : q.2.size ≤ 2000
theorem Qy {t : Tm} (hc : t.chk = 0) {l : List ByteArray} (hl : ∀ n ∈ l, AL n = true) : ∀ n ∈ (t.cn l).2, AL n = true := by
 rw [KI t hc]
 exact FA _ l hl
theorem Ry {l r : Tm} (h1 : l.chk = 0) (h2 : r.chk = 0) (z1 : l.size ≤ 2000) (z2 : r.size ≤ 2000) : Fd (Df l r) := by
 have v1 := Qy h1 (l := []) (by simp)
 have v2 := Qy h2 v1
 have n1 := FG l []
 have n2 := FG r (l.cn []).2
 rw [List.length_nil] at n1
 exact ⟨UT h1 v1 (by omega), UT h2 v2 (by omega), by show (l.cn []).1.size ≤ _; rw [Qe h1 v1]; exact z1, by show (r.cn _).1.size ≤ _; rw [Qe h2 v2]; exact z2⟩
theorem QW {A B : Pr} (a1 : A.1.chk = 0) (a2 : A.2.chk = 0) (z1 : A.1.size ≤ 200) (b1 : B.1.chk = 0) (b2 : B.2.chk = 0) (bz : B.1.size ≤ 200) {same : Bool} {p : List Int} (hp : p ∈ A.1.places) {x : List Pr} (h : Ch A B same p = some x) : x.length ≤ 1 ∧ ∀ q ∈ x, Fd q := by
 obtain ⟨t, ht, hk⟩ := Ds A.1 p hp
 have hxc := Hi A.1 t a1 hk
 have hxz := Cj A.1 t hk
 have hmay := Ez (IJ hxc (by omega)) (IJ b1 bz)
 unfold Ch at h
 simp only [ht] at h
 split at h
 ·cases h
  exact ⟨by simp, by simp⟩
 split at h
 ·cases h
 split at h
 ·cases h
  exact ⟨by simp, by simp⟩
 rename_i h8 h0
 have h0 : (GP [(t, B.1)]).2 = 0 := by
  rcases Decidable.em ((GP [(t, B.1)]).2 = 0) with h | h
  ·exact h
  ·exact absurd h h0
 have hg := Mb hmay h0
 split at h
 ·rename_i hb
  cases h
  refine ⟨by simp, fun q hq => ?_⟩
  rw [List.mem_singleton.1 hq]
  exact Ry (HF hg.chk a2 hb.1) (HF hg.chk (HK p A.1 B.2 a1 b2) hb.2) Dv Dv
 ·cases h
theorem PF {A B : Pr} (a1 : A.1.chk = 0) (a2 : A.2.chk = 0) (z1 : A.1.size ≤ 200) (b1 : B.1.chk = 0) (b2 : B.2.chk = 0) (bz : B.1.size ≤ 200) {same : Bool} : ∀ {ps : List (List Int)}, (∀ p ∈ ps, p ∈ A.1.places) → ∀ {x : List Pr}, C4 A B same ps = some x → x.length ≤ ps.length ∧ ∀ q ∈ x, Fd q
 | [], _, x, h => by
  cases h
  exact ⟨by simp, by simp⟩
 | p :: ps, hps, x, h => by
  rw [C4] at h
  split at h
  ·cases h
  ·rename_i y hy
   rw [Option.map_eq_some_iff] at h
   obtain ⟨z, h1, rfl⟩ := h
   obtain ⟨k1, k2⟩ := QW a1 a2 z1 b1 b2 bz (hps p (by simp)) hy
   obtain ⟨k3, k4⟩ := PF a1 a2 z1 b1 b2 bz (fun q hq => hps q (List.mem_cons_of_mem _ hq)) h1
   refine ⟨by simp only [List.length_append, List.length_cons]; omega, fun q hq => ?_⟩
   rcases List.mem_append.1 hq with hq | hq
   ·exact k2 q hq
   ·exact k4 q hq
theorem Q4 {cr : Nat → Nat → Option (List Pr)} : ∀ (l : List (Nat × Nat)) (acc : List Pr), (∀ q ∈ acc, Fd q) → acc.length ≤ 400 → (∀ q ∈ l, ∀ x, cr q.1 q.2 = some x → ∀ p ∈ x, Fd p) → (∀ q ∈ (EC cr l acc).1, Fd q) ∧ (EC cr l acc).1.length ≤ 400
 | [], acc, h, hl, _ => ⟨h, hl⟩
 | q :: l, acc, h, hl, hc => by
  rw [EC]
  split
  ·exact ⟨by simp, by simp⟩
  ·rename_i x hx
   split
   ·exact ⟨by simp, by simp⟩
   ·refine Q4 l (acc ++ x) (fun p hp => ?_) (by omega) fun q' hq' => hc q' (List.mem_cons_of_mem _ hq')
    rcases List.mem_append.1 hp with hp | hp
    ·exact h p hp
    ·exact hc q (by simp) x hx p hp
theorem J8 {cr cr' : Nat → Nat → Option (List Pr)} : ∀ (l : List (Nat × Nat)) (acc : List Pr), (∀ q ∈ l, cr q.1 q.2 = cr' q.1 q.2) → EC cr l acc = EC cr' l acc
 | [], _, _ => rfl
 | q :: l, acc, h => by
  rw [EC, EC, h q (by simp)]
  split
  ·rfl
  ·split
   ·rfl
   ·exact J8 l _ fun q' hq' => h q' (List.mem_cons_of_mem _ hq')

theorem KH {R : List Pr} {c d : UInt8} {k i j : Nat} {a b : Pr} (hi : R[i]? = some a) (hj : R[j]? = some b) : crR R c d k i j = Mm (ED c k a) (ED d k b) (decide (i = j)) := by
 unfold crR
 rw [hi, hj]
theorem Nj {n i j : Nat} : ∀ q ∈ FT n i j, j ≤ n → i < n → q.1 < n ∧ q.2 < n := fun q hq h1 h2 => by
 unfold FT at hq
 rcases List.mem_append.1 hq with hq | hq
 ·obtain ⟨a, ha, rfl⟩ := List.mem_map.1 hq
  rw [List.mem_range'_1] at ha
  exact ⟨h2, by show a < n; omega⟩
 ·obtain ⟨a, ha, hq⟩ := List.mem_flatMap.1 hq
  obtain ⟨b, hb, rfl⟩ := List.mem_map.1 hq
  rw [List.mem_range'_1] at ha hb
  exact ⟨by show a < n; omega, by show b < n; omega⟩
theorem PH {R : List Pr} (hR : Au R) {i j : Nat} (hi : i < R.length) (hj : j < R.length) : crR R 80 81 0 i j = crR R 88 89 1 i j := by
 obtain ⟨a, ha⟩ := AT hi
 obtain ⟨b, hb⟩ := AT hj
 rw [KH ha hb, KH ha hb]
 have ma := AI ha
 have mb := AI hb
 have ca := Tm.may_chk (hR.left a ma)
 have ca' := Tm.may_chk (hR.right a ma)
 have cb := Tm.may_chk (hR.left b mb)
 have cb' := Tm.may_chk (hR.right b mb)
 have va := C1 a.1
 have vb := C1 b.1
 have e1 := Od (c := 88) (d := 80) (fun i hi => WP hi) ca.1 ca'.1 (by omega) (hR.vars a ma)
 have e2 := Od (c := 89) (d := 81) (fun i hi => V_ hi) cb.1 cb'.1 (by omega) (hR.vars b mb)
 have oA := EH (c := 88) (by decide) (by decide) (k := 1) (by omega) (hR.left a ma) (hR.right a ma)
 have oB := EH (c := 89) (by decide) (by decide) (k := 1) (by omega) (hR.left b mb) (hR.right b mb)
 rw [← e1, ← e2]
 exact Tf KZ oA.c1 oA.z1 oB.c1 oB.z1 _
theorem I4 {R : List Pr} (hR : Au R) : B0 R 80 81 0 = B0 R 88 89 1 := by
 unfold B0
 split
 ·rfl
 ·rename_i h
  exact J8 _ _ fun q hq => by
   obtain ⟨h1, h2⟩ := Nj q hq (by omega) (by omega)
   exact PH hR h1 h2
theorem P5 {R : List Pr} (hR : Au R) {i j : Nat} {x : List Pr} (hi : i < R.length) (hj : j < R.length) (h : crR R 88 89 1 i j = some x) : x.length ≤ 200 ∧ ∀ q ∈ x, Fd q := by
 obtain ⟨a, ha⟩ := AT hi
 obtain ⟨b, hb⟩ := AT hj
 rw [KH ha hb] at h
 have ma := AI ha
 have mb := AI hb
 have oA := EH (c := 88) (by decide) (by decide) (k := 1) (by omega) (hR.left a ma) (hR.right a ma)
 have oB := EH (c := 89) (by decide) (by decide) (k := 1) (by omega) (hR.left b mb) (hR.right b mb)
 have := PF oA.c1 oA.c2 oA.z1 oB.c1 oB.c2 oB.z1 (fun p hp => hp) h
 rw [Tm.places_length] at this
 exact ⟨by have := oA.z1; omega, this.2⟩
theorem Hz {R : List Pr} (hR : Au R) : (∀ q ∈ (B0 R 88 89 1).1, Fd q) ∧ (B0 R 88 89 1).1.length ≤ 400 := by
 unfold B0
 split
 ·exact ⟨by simp, by simp⟩
 ·rename_i h
  exact Q4 _ _ (by simp) (by simp) fun q hq x hx => by
   obtain ⟨h1, h2⟩ := Nj q hq (by omega) (by omega)
   exact (P5 hR h1 h2 hx).2
noncomputable def Jh (R : List Pr) (c d : UInt8) (k i : Nat) (acc : List Pr) : List Pr × Int := if i < R.length then EC (crR R c d k) (FT R.length i 0) acc else (acc, 0)
theorem Qh {R : List Pr} {c d : UInt8} {k i : Nat} {acc : List Pr} (h : i < R.length) : Jh R c d k i acc = EC (crR R c d k) (FT R.length i 0) acc := if_pos h
theorem L5 {R : List Pr} {c d : UInt8} {k i : Nat} {acc : List Pr} (h : i < R.length) : EC (crR R c d k) (FT R.length i R.length) acc = Jh R c d k (i + 1) acc := by
 unfold Jh
 by_cases h1 : i + 1 < R.length
 ·rw [if_pos h1, Tj h1]
 ·rw [if_neg h1, UX (by omega), EC]
theorem I3 (R : List Pr) (c d : UInt8) (k : Nat) : B0 R c d k = Jh R c d k 0 [] := by
 unfold B0 Jh
 by_cases h : R.length = 0
 ·rw [if_pos h, if_neg (by omega)]
 ·rw [if_neg h, if_pos (by omega)]
def prV (r : List Pr × Int) : AV := .tup [BF r.1, AK r.2]
theorem O4 {R : List Pr} (hR : Au R) (h0 : Bv R = 0) : AQ Tryz.prog 10 [BF R] (prV (B0 R 88 89 1)) := by
 have h40 := hR.len
 rw [I3]
 unfold prV
 refine EG.ac fun C hC => ?_
 unfold C9
 repeat' (first | (with_reducible first | refine W ?_ | refine Z0 ?_ | ((first | refine Wo fun K hK => ?_ | refine Wp ?_ | refine Wq ?_ | refine Wr ?_); (try simp only [go_sem, fN, seval, eT, iR, h0, dT, dF, nL]); (repeat refine Ai ?_); (try (refine hK _ ?_; clear hK K)); try refine iC ?_)) | refine Cg _ (KX R) ?_)
 refine IWP.ghost (Af.own 5 500 31 4 (xs := ([] : List Pr).map At) (by rfl) (by rfl) Es (by rw [hC]; decide)) ?_
 refine IWP.loopD [7, 9] (fun m s => ∃ i acc, i ≤ R.length ∧ m = R.length - i ∧ acc.length ≤ 400 ∧ Jh R 88 89 1 0 [] = Jh R 88 89 1 i acc ∧ s.env 0 = BF R ∧ s.env 5 = .one (.row 500 acc.length) ∧ s.env 17 = BF R ∧ s.env 18 = AK R.length ∧ s.env 19 = AK i ∧ s.S 7 = none ∧ s.S 9 = none ∧ s.S 500 = some (.arow 31 4 (acc.map At))) R.length ⟨0, [], Nat.zero_le _, rfl, Nat.zero_le _, rfl, rfl, rfl, rfl, rfl, rfl, rfl, rfl, rfl⟩ ?_
 rintro m ⟨env, S⟩ ⟨i, acc, hi, rfl, hal, htot, e0, e5, e17, e18, e19, s7, s9, s500⟩
 simp only at e0 e5 e17 e18 e19 s7 s9 s500
 have hl : (acc.map At).length = acc.length := by simp
 rw [htot]
 by_cases hlt : i < R.length
 case neg =>
  have hlt' : ¬ (i : Int) < R.length := by omega
  rw [Jh, if_neg hlt]
  repeat' with_reducible first | refine W ?_ | refine Z0 ?_ | ((first | refine Wo fun K hK => ?_ | refine Wp ?_ | refine Wq ?_ | refine Wr ?_); (try simp only [go_sem, fN, seval, eT, iR, e0, e5, e17, e18, e19, s7, s9, s500, hlt', dT, dF, nL]); (repeat refine Ai ?_); (try (refine hK _ ?_; clear hK K)); try refine iC ?_)
  simp only [go_sem, fN, seval, AJ, AS.result, AA, AB, AH, s500, hl]
 have hlt' : (i : Int) < R.length := by omega
 obtain ⟨a, ha⟩ := AT hlt
 have ma := AI ha
 rw [Qh hlt]
 repeat' with_reducible first | refine W ?_ | refine Z0 ?_ | ((first | refine Wo fun K hK => ?_ | refine Wp ?_ | refine Wq ?_ | refine Wr ?_); (try simp only [go_sem, fN, seval, eT, iR, e0, e5, e17, e18, e19, s7, s9, s500, hlt', ha, At, dT, dF, nL]); (repeat refine Ai ?_); (try (refine hK _ ?_; clear hK K)); try refine iC ?_)
 refine IWP.loopD [9] (fun m s => ∃ j acc2, j ≤ R.length ∧ m = R.length - j ∧ acc2.length ≤ 400 ∧ EC (crR R 88 89 1) (FT R.length i 0) acc = EC (crR R 88 89 1) (FT R.length i j) acc2 ∧ s.env 0 = BF R ∧ s.env 5 = .one (.row 500 acc2.length) ∧ s.env 6 = AK i ∧ s.env 7 = .one (.ptr 7 1 0 0) ∧ s.env 17 = BF R ∧ s.env 18 = AK R.length ∧ s.env 19 = AK i ∧ s.env 24 = BF R ∧ s.env 25 = AK R.length ∧ s.env 26 = AK j ∧ s.S 7 = some (Oh a) ∧ s.S 9 = none ∧ s.S 500 = some (.arow 31 4 (acc2.map At))) R.length ⟨0, acc, Nat.zero_le _, rfl, hal, rfl, ?_⟩ ?_
 ·simp only [go_sem, fN, seval, eT, iR, e0, e5, e17, e18, e19, s7, s9, s500]
 rintro m ⟨env, S⟩ ⟨j, acc2, hj, rfl, hal2, htot2, e0, e5, e6, e7, e17, e18, e19, e24, e25, e26, s7, s9, s500⟩
 simp only at e0 e5 e6 e7 e17 e18 e19 e24 e25 e26 s7 s9 s500
 have hl2 : (acc2.map At).length = acc2.length := by simp
 rw [htot2]
 by_cases hjl : j < R.length
 case neg =>
  have hjl' : ¬ (j : Int) < R.length := by omega
  obtain rfl : j = R.length := by omega
  have hnx := L5 (c := 88) (d := 89) (k := 1) (acc := acc2) hlt
  repeat' with_reducible first | refine W ?_ | refine Z0 ?_ | ((first | refine Wo fun K hK => ?_ | refine Wp ?_ | refine Wq ?_ | refine Wr ?_); (try simp only [go_sem, fN, seval, eT, iR, e0, e5, e6, e7, e17, e18, e19, e24, e25, e26, s7, s9, s500, hjl', dT, dF, nL]); (repeat refine Ai ?_); (try (refine hK _ ?_; clear hK K)); try refine iC ?_)
  refine AE ⟨R.length - (i + 1), by omega, i + 1, acc2, by omega, rfl, hal2, ?_, ?_⟩
  ·exact hnx
  ·simp only [go_sem, fN, seval, AS.drop, Ak, AC.clears, AC.clear, AC.highs, AC.high, Bool.not_false, Bool.true_and, Bool.and_self, AV.purge, AV.purges, AC.purge, AN.purge, List.contains_cons, List.contains_nil, Nat.reduceBEq, Bool.or_self, Bool.or_false, Bool.false_or, Bool.or_true, eT, iR, e0, e5, e6, e7, e17, e18, e19, e24, e25, e26, s7, s9, s500]
   congr 3
 have hjl' : (j : Int) < R.length := by omega
 obtain ⟨b, hb⟩ := AT hjl
 have mb := AI hb
 have hij : decide ((i : Int) = (j : Int)) = decide (i = j) := by
  rw [decide_eq_decide]
  omega
 have hbt := SF (hR.left a ma) (hR.right a ma) (hR.left b mb) (hR.right b mb) (decide (i = j))
 rw [← KH ha hb, ← hij] at hbt
 rw [Q2 hjl, EC] at htot2 ⊢
 cases hcr : crR R 88 89 1 i j with
 | none =>
  rw [hcr] at hbt
  unfold crV at hbt
  simp only [hcr]
  repeat' (first | (with_reducible first | refine W ?_ | refine Z0 ?_ | ((first | refine Wo fun K hK => ?_ | refine Wp ?_ | refine Wq ?_ | refine Wr ?_); (try simp only [go_sem, fN, seval, eT, iR, e0, e5, e6, e7, e17, e18, e19, e24, e25, e26, s7, s9, s500, hjl', hb, At, dT, dF, nL]); (repeat refine Ai ?_); (try (refine hK _ ?_; clear hK K)); try refine iC ?_)) | refine Cg _ (hbt) ?_)
  simp only [go_sem, fN, seval, AJ, AS.result, AA, AB, AH]
  rfl
 | some x =>
  rw [hcr] at hbt
  unfold crV at hbt
  simp only [hcr]
  have hxl := (P5 hR hlt hjl hcr).1
  have hxm : (x.map At).length = x.length := by simp
  have hla : (acc2 ++ x).length = acc2.length + x.length := List.length_append
  by_cases hg : 400 < (acc2 ++ x).length
  ·rw [if_pos hg]
   have hg' : (400 : Int) < ((acc2.length + x.length : Nat) : Int) := by omega
   repeat' (first | (with_reducible first | refine W ?_ | refine Z0 ?_ | ((first | refine Wo fun K hK => ?_ | refine Wp ?_ | refine Wq ?_ | refine Wr ?_); (try simp only [go_sem, fN, seval, eT, iR, e0, e5, e6, e7, e17, e18, e19, e24, e25, e26, s7, s9, s500, hjl', hb, At, hl2, hxm, hg', dT, dF, nL]); (repeat refine Ai ?_); (try (refine hK _ ?_; clear hK K)); try refine iC ?_)) | refine Cg _ (hbt) ?_)
   simp only [go_sem, fN, seval, AJ, AS.result, AA, AB, AH]
   rfl
  ·rw [if_neg hg]
   have hg' : ¬ (400 : Int) < ((acc2.length + x.length : Nat) : Int) := by omega
   repeat' (first | (with_reducible first | refine W ?_ | refine Z0 ?_ | ((first | refine Wo fun K hK => ?_ | refine Wp ?_ | refine Wq ?_ | refine Wr ?_); (try simp only [go_sem, fN, seval, eT, iR, e0, e5, e6, e7, e17, e18, e19, e24, e25, e26, s7, s9, s500, hjl', hb, At, hl2, hxm, hg', dT, dF, nL]); (repeat refine Ai ?_); (try (refine hK _ ?_; clear hK K)); try refine iC ?_)) | refine Cg _ (hbt) ?_)
   refine AE ⟨R.length - (j + 1), by omega, j + 1, acc2 ++ x, by omega, rfl, by omega, rfl, ?_⟩
   simp only [go_sem, fN, seval, AS.drop, Ak, AC.clears, AC.clear, AC.highs, AC.high, Bool.not_false, Bool.true_and, Bool.and_self, AV.purge, AV.purges, AC.purge, AN.purge, List.contains_cons, List.contains_nil, Nat.reduceBEq, Bool.or_self, Bool.or_false, Bool.false_or, Bool.or_true, eT, iR, e0, e5, e6, e7, e17, e18, e19, e24, e25, e26, s7, s9, s500]
   refine ⟨by congr 3, ?_⟩
   rw [List.map_append]
theorem Ln {R : List Pr} (hR : Au R) : AQ Tryz.prog 8 [BF R] (prV (B0 R 80 81 0)) := by
 have h40 := hR.len
 rw [I3]
 unfold prV
 refine Ml.ac fun C hC => ?_
 unfold HS
 repeat' with_reducible first | refine W ?_ | refine Z0 ?_ | ((first | refine Wo fun K hK => ?_ | refine Wp ?_ | refine Wq ?_ | refine Wr ?_); (try simp only [go_sem, fN, seval, eT, iR, dT, dF, nL]); (repeat refine Ai ?_); (try (refine hK _ ?_; clear hK K)); try refine iC ?_)
 refine IWP.ghost (Af.own 4 500 31 4 (xs := ([] : List Pr).map At) (by rfl) (by rfl) Es (by rw [hC]; decide)) ?_
 refine IWP.loop (fun m s => ∃ i acc, i ≤ R.length ∧ m = R.length - i ∧ acc.length ≤ 400 ∧ Jh R 80 81 0 0 [] = Jh R 80 81 0 i acc ∧ s.env 0 = BF R ∧ s.env 4 = .one (.row 500 acc.length) ∧ s.env 5 = AK i ∧ s.S 500 = some (.arow 31 4 (acc.map At))) R.length ⟨0, [], Nat.zero_le _, rfl, Nat.zero_le _, rfl, rfl, rfl, rfl, rfl⟩ ?_
 rintro m ⟨env, S⟩ ⟨i, acc, hi, rfl, hal, htot, e0, e4, e5, s500⟩
 simp only at e0 e4 e5 s500
 have hl : (acc.map At).length = acc.length := by simp
 rw [htot]
 by_cases hlt : i < R.length
 case neg =>
  have hlt' : ¬ (i : Int) < R.length := by omega
  rw [Jh, if_neg hlt]
  repeat' with_reducible first | refine W ?_ | refine Z0 ?_ | ((first | refine Wo fun K hK => ?_ | refine Wp ?_ | refine Wq ?_ | refine Wr ?_); (try simp only [go_sem, fN, seval, eT, iR, e0, e4, e5, s500, hlt', dT, dF, nL]); (repeat refine Ai ?_); (try (refine hK _ ?_; clear hK K)); try refine iC ?_)
  simp only [go_sem, fN, seval, AJ, AS.result, AA, AB, AH, s500, hl]
 have hlt' : (i : Int) < R.length := by omega
 obtain ⟨a, ha⟩ := AT hlt
 have ma := AI ha
 rw [Qh hlt]
 repeat' with_reducible first | refine W ?_ | refine Z0 ?_ | ((first | refine Wo fun K hK => ?_ | refine Wp ?_ | refine Wq ?_ | refine Wr ?_); (try simp only [go_sem, fN, seval, eT, iR, e0, e4, e5, s500, hlt', dT, dF, nL]); (repeat refine Ai ?_); (try (refine hK _ ?_; clear hK K)); try refine iC ?_)
 refine IWP.loop (fun m s => ∃ j acc2, j ≤ R.length ∧ m = R.length - j ∧ acc2.length ≤ 400 ∧ EC (crR R 80 81 0) (FT R.length i 0) acc = EC (crR R 80 81 0) (FT R.length i j) acc2 ∧ s.env 0 = BF R ∧ s.env 4 = .one (.row 500 acc2.length) ∧ s.env 5 = AK i ∧ s.env 6 = AK j ∧ s.S 500 = some (.arow 31 4 (acc2.map At))) R.length ⟨0, acc, Nat.zero_le _, rfl, hal, rfl, ?_⟩ ?_
 ·simp only [go_sem, fN, seval, eT, iR, e0, e4, e5, s500]
 rintro m ⟨env, S⟩ ⟨j, acc2, hj, rfl, hal2, htot2, e0, e4, e5, e6, s500⟩
 simp only at e0 e4 e5 e6 s500
 have hl2 : (acc2.map At).length = acc2.length := by simp
 rw [htot2]
 by_cases hjl : j < R.length
 case neg =>
  have hjl' : ¬ (j : Int) < R.length := by omega
  obtain rfl : j = R.length := by omega
  have hnx := L5 (c := 80) (d := 81) (k := 0) (acc := acc2) hlt
  repeat' with_reducible first | refine W ?_ | refine Z0 ?_ | ((first | refine Wo fun K hK => ?_ | refine Wp ?_ | refine Wq ?_ | refine Wr ?_); (try simp only [go_sem, fN, seval, eT, iR, e0, e4, e5, e6, s500, hjl', dT, dF, nL]); (repeat refine Ai ?_); (try (refine hK _ ?_; clear hK K)); try refine iC ?_)
  refine AE ⟨R.length - (i + 1), by omega, i + 1, acc2, by omega, rfl, hal2, hnx, ?_⟩
  simp only [go_sem, fN, seval, eT, iR, e0, e4, e5, e6, s500]
  congr 3
 have hjl' : (j : Int) < R.length := by omega
 obtain ⟨b, hb⟩ := AT hjl
 have mb := AI hb
 have hij : decide ((i : Int) = (j : Int)) = decide (i = j) := by
  rw [decide_eq_decide]
  omega
 have hbt := Pn (hR.left a ma) (hR.right a ma) (hR.left b mb) (hR.right b mb) (decide (i = j))
 rw [← KH ha hb, ← hij] at hbt
 rw [Q2 hjl, EC] at htot2 ⊢
 have hsame := PH hR hlt hjl
 cases hcr : crR R 80 81 0 i j with
 | none =>
  rw [hcr] at hbt
  unfold crV at hbt
  simp only [hcr]
  repeat' (first | (with_reducible first | refine W ?_ | refine Z0 ?_ | ((first | refine Wo fun K hK => ?_ | refine Wp ?_ | refine Wq ?_ | refine Wr ?_); (try simp only [go_sem, fN, seval, eT, iR, e0, e4, e5, e6, s500, hjl', ha, hb, At, dT, dF, nL]); (repeat refine Ai ?_); (try (refine hK _ ?_; clear hK K)); try refine iC ?_)) | refine Cg _ (hbt) ?_)
  simp only [go_sem, fN, seval, AJ, AS.result, AA, AB, AH]
  rfl
 | some x =>
  have hxl := (P5 hR hlt hjl (hsame.symm.trans hcr)).1
  rw [hcr] at hbt
  unfold crV at hbt
  simp only [hcr]
  have hxm : (x.map At).length = x.length := by simp
  have hla : (acc2 ++ x).length = acc2.length + x.length := List.length_append
  by_cases hg : 400 < (acc2 ++ x).length
  ·rw [if_pos hg]
   have hg' : (400 : Int) < ((acc2.length + x.length : Nat) : Int) := by omega
   repeat' (first | (with_reducible first | refine W ?_ | refine Z0 ?_ | ((first | refine Wo fun K hK => ?_ | refine Wp ?_ | refine Wq ?_ | refine Wr ?_); (try simp only [go_sem, fN, seval, eT, iR, e0, e4, e5, e6, s500, hjl', ha, hb, At, hl2, hxm, hg', dT, dF, nL]); (repeat refine Ai ?_); (try (refine hK _ ?_; clear hK K)); try refine iC ?_)) | refine Cg _ (hbt) ?_)
   simp only [go_sem, fN, seval, AJ, AS.result, AA, AB, AH]
   rfl
  ·rw [if_neg hg]
   have hg' : ¬ (400 : Int) < ((acc2.length + x.length : Nat) : Int) := by omega
   repeat' (first | (with_reducible first | refine W ?_ | refine Z0 ?_ | ((first | refine Wo fun K hK => ?_ | refine Wp ?_ | refine Wq ?_ | refine Wr ?_); (try simp only [go_sem, fN, seval, eT, iR, e0, e4, e5, e6, s500, hjl', ha, hb, At, hl2, hxm, hg', dT, dF, nL]); (repeat refine Ai ?_); (try (refine hK _ ?_; clear hK K)); try refine iC ?_)) | refine Cg _ (hbt) ?_)
   refine AE ⟨R.length - (j + 1), by omega, j + 1, acc2 ++ x, by omega, rfl, by omega, rfl, ?_⟩
   simp only [go_sem, fN, seval, eT, iR, e0, e4, e5, e6, s500]
   refine ⟨by congr 3, ?_⟩
   rw [List.map_append]
def Iq (R : List Pr) (m : Nat) : List Pr → Bool × Int
 | [] => (true, 0)
 | p :: l => if (Fe R m p.1 p.2).2 = 0 then (if (Fe R m p.1 p.2).1 = true then Iq R m l else (false, 0)) else (false, (Fe R m p.1 p.2).2)
noncomputable def Ou (R : List Pr) (m : Int) : Bool × Int := if (B0 R 88 89 1).2 = 0 then (if DQ m = 0 then Iq R m.toNat (B0 R 88 89 1).1 else (false, DQ m)) else (false, (B0 R 88 89 1).2)
def joV (r : Bool × Int) : AV := .tup [Ab r.1, AK r.2]
theorem VO {R : List Pr} (hR : Au R) (h0 : Bv R = 0) (m : Int) : AQ Tryz.prog 11 [BF R, AK m] (joV (Ou R m)) := by
 have hp := O4 hR h0
 obtain ⟨hok, hlen⟩ := Hz hR
 unfold Ou
 generalize B0 R 88 89 1 = P at *
 obtain ⟨l, e⟩ := P
 unfold prV at hp
 simp only at hp hok hlen ⊢
 have fm : DQ m = if m < 0 ∨ 400 < m then 10 else 0 := rfl
 unfold joV
 by_cases he : e = 0
 case neg =>
  rw [if_neg he]
  refine B2.ac fun C hC => ?_
  unfold Bp
  repeat' (first | (with_reducible first | refine W ?_ | refine Z0 ?_ | ((first | refine Wo fun K hK => ?_ | refine Wp ?_ | refine Wq ?_ | refine Wr ?_); (try simp only [go_sem, fN, seval, eT, iR, he, dT, dF, nL]); (repeat refine Ai ?_); (try (refine hK _ ?_; clear hK K)); try refine iC ?_)) | refine Cg _ (hp) ?_)
  simp only [go_sem, fN, seval, AJ, AS.result, AA, AB, AH]
 subst he
 rw [if_pos rfl]
 by_cases m1 : m < 0
 ·have f1 : DQ m = 10 := by rw [fm, if_pos (.inl m1)]
  rw [f1, if_neg (by decide)]
  refine B2.ac fun C hC => ?_
  unfold Bp
  repeat' (first | (with_reducible first | refine W ?_ | refine Z0 ?_ | ((first | refine Wo fun K hK => ?_ | refine Wp ?_ | refine Wq ?_ | refine Wr ?_); (try simp only [go_sem, fN, seval, eT, iR, m1, dT, dF, nL]); (repeat refine Ai ?_); (try (refine hK _ ?_; clear hK K)); try refine iC ?_)) | refine Cg _ (hp) ?_)
  simp only [go_sem, fN, seval, AJ, AS.result, AA, AB, AH]
 by_cases m2 : 400 < m
 ·have f1 : DQ m = 10 := by rw [fm, if_pos (.inr m2)]
  rw [f1, if_neg (by decide)]
  refine B2.ac fun C hC => ?_
  unfold Bp
  repeat' (first | (with_reducible first | refine W ?_ | refine Z0 ?_ | ((first | refine Wo fun K hK => ?_ | refine Wp ?_ | refine Wq ?_ | refine Wr ?_); (try simp only [go_sem, fN, seval, eT, iR, m1, m2, dT, dF, nL]); (repeat refine Ai ?_); (try (refine hK _ ?_; clear hK K)); try refine iC ?_)) | refine Cg _ (hp) ?_)
  simp only [go_sem, fN, seval, AJ, AS.result, AA, AB, AH]
 have f1 : DQ m = 0 := by rw [fm, if_neg (by omega)]
 rw [f1, if_pos rfl]
 obtain ⟨n, rfl⟩ : ∃ n : Nat, m = n := ⟨m.toNat, by omega⟩
 rw [Int.toNat_natCast]
 refine B2.ac fun C hC => ?_
 unfold Bp
 repeat' (first | (with_reducible first | refine W ?_ | refine Z0 ?_ | ((first | refine Wo fun K hK => ?_ | refine Wp ?_ | refine Wq ?_ | refine Wr ?_); (try simp only [go_sem, fN, seval, eT, iR, m1, m2, dT, dF, nL]); (repeat refine Ai ?_); (try (refine hK _ ?_; clear hK K)); try refine iC ?_)) | refine Cg _ (hp) ?_)
 refine IWP.loopD [9] (fun m s => ∃ k, k ≤ l.length ∧ m = l.length - k ∧ Iq R n l = Iq R n (l.drop k) ∧ s.env 0 = BF R ∧ s.env 1 = AK n ∧ s.env 30 = BF l ∧ s.env 31 = AK l.length ∧ s.env 32 = AK k ∧ s.S 9 = none) l.length ⟨0, Nat.zero_le _, rfl, rfl, rfl, rfl, rfl, rfl, rfl, rfl⟩ ?_
 rintro m ⟨env, S⟩ ⟨k, hk, rfl, hj, e0, e1, e30, e31, e32, s9⟩
 simp only at e0 e1 e30 e31 e32 s9
 rw [hj]
 by_cases hkl : k < l.length
 case neg =>
  have hkl' : ¬ (k : Int) < l.length := by omega
  rw [List.drop_of_length_le (by omega)]
  repeat' with_reducible first | refine W ?_ | refine Z0 ?_ | ((first | refine Wo fun K hK => ?_ | refine Wp ?_ | refine Wq ?_ | refine Wr ?_); (try simp only [go_sem, fN, seval, eT, iR, e0, e1, e30, e31, e32, s9, hkl', dT, dF, nL]); (repeat refine Ai ?_); (try (refine hK _ ?_; clear hK K)); try refine iC ?_)
  simp only [go_sem, fN, seval, AJ, AS.result, AA, AB, AH]
  rfl
 have hkl' : (k : Int) < l.length := by omega
 obtain ⟨q, hq⟩ := AT hkl
 have o := hok q (AI hq)
 have hmet := W0 hR q.1 q.2 o.c1 o.c2 (by have := o.z1; omega) (by have := o.z2; omega) n (by omega)
 rw [BS hq, Iq]
 generalize Fe R n q.1 q.2 = y at *
 by_cases y2 : y.2 = 0
 ·by_cases y1 : y.1 = true
  ·rw [if_pos y2, if_pos y1]
   repeat' (first | (with_reducible first | refine W ?_ | refine Z0 ?_ | ((first | refine Wo fun K hK => ?_ | refine Wp ?_ | refine Wq ?_ | refine Wr ?_); (try simp only [go_sem, fN, seval, eT, iR, e0, e1, e30, e31, e32, s9, hkl', hq, At, y1, y2, dT, dF, nL]); (repeat refine Ai ?_); (try (refine hK _ ?_; clear hK K)); try refine iC ?_)) | refine Cg _ (hmet) ?_)
   refine AE ⟨l.length - (k + 1), by omega, k + 1, by omega, rfl, rfl, ?_⟩
   simp only [go_sem, fN, seval, AS.drop, Ak, AC.clears, AC.clear, AC.highs, AC.high, Bool.not_false, Bool.true_and, Bool.and_self, AV.purge, AV.purges, AC.purge, AN.purge, List.contains_cons, List.contains_nil, Nat.reduceBEq, Bool.or_self, Bool.or_false, Bool.false_or, Bool.or_true, eT, iR, e0, e1, e30, e31, e32, s9]
   congr 3
  ·rw [if_pos y2, if_neg y1]
   repeat' (first | (with_reducible first | refine W ?_ | refine Z0 ?_ | ((first | refine Wo fun K hK => ?_ | refine Wp ?_ | refine Wq ?_ | refine Wr ?_); (try simp only [go_sem, fN, seval, eT, iR, e0, e1, e30, e31, e32, s9, hkl', hq, At, y1, y2, dT, dF, nL]); (repeat refine Ai ?_); (try (refine hK _ ?_; clear hK K)); try refine iC ?_)) | refine Cg _ (hmet) ?_)
   simp only [go_sem, fN, seval, AJ, AS.result, AA, AB, AH]
 ·rw [if_neg y2]
  repeat' (first | (with_reducible first | refine W ?_ | refine Z0 ?_ | ((first | refine Wo fun K hK => ?_ | refine Wp ?_ | refine Wq ?_ | refine Wr ?_); (try simp only [go_sem, fN, seval, eT, iR, e0, e1, e30, e31, e32, s9, hkl', hq, At, y2, dT, dF, nL]); (repeat refine Ai ?_); (try (refine hK _ ?_; clear hK K)); try refine iC ?_)) | refine Cg _ (hmet) ?_)
  simp only [go_sem, fN, seval, AJ, AS.result, AA, AB, AH]
theorem UH {R : List Pr} (hR : Au R) (m : Int) : AQ Tryz.prog 9 [BF R, AK m] (joV (Ou R m)) := by
 have hp := Ln hR
 rw [I4 hR] at hp
 obtain ⟨hok, hlen⟩ := Hz hR
 unfold Ou
 generalize B0 R 88 89 1 = P at *
 obtain ⟨l, e⟩ := P
 unfold prV at hp
 simp only at hp hok hlen ⊢
 have fm : DQ m = if m < 0 ∨ 400 < m then 10 else 0 := rfl
 unfold joV
 by_cases he : e = 0
 case neg =>
  rw [if_neg he]
  refine EN.ac fun C hC => ?_
  unfold DT
  repeat' (first | (with_reducible first | refine W ?_ | refine Z0 ?_ | ((first | refine Wo fun K hK => ?_ | refine Wp ?_ | refine Wq ?_ | refine Wr ?_); (try simp only [go_sem, fN, seval, eT, iR, he, dT, dF, nL]); (repeat refine Ai ?_); (try (refine hK _ ?_; clear hK K)); try refine iC ?_)) | refine Cg _ (hp) ?_)
  simp only [go_sem, fN, seval, AJ, AS.result, AA, AB, AH]
 subst he
 rw [if_pos rfl]
 by_cases m1 : m < 0
 ·have f1 : DQ m = 10 := by rw [fm, if_pos (.inl m1)]
  rw [f1, if_neg (by decide)]
  refine EN.ac fun C hC => ?_
  unfold DT
  repeat' (first | (with_reducible first | refine W ?_ | refine Z0 ?_ | ((first | refine Wo fun K hK => ?_ | refine Wp ?_ | refine Wq ?_ | refine Wr ?_); (try simp only [go_sem, fN, seval, eT, iR, m1, dT, dF, nL]); (repeat refine Ai ?_); (try (refine hK _ ?_; clear hK K)); try refine iC ?_)) | refine Cg _ (hp) ?_)
  simp only [go_sem, fN, seval, AJ, AS.result, AA, AB, AH]
 by_cases m2 : 400 < m
 ·have f1 : DQ m = 10 := by rw [fm, if_pos (.inr m2)]
  rw [f1, if_neg (by decide)]
  refine EN.ac fun C hC => ?_
  unfold DT
  repeat' (first | (with_reducible first | refine W ?_ | refine Z0 ?_ | ((first | refine Wo fun K hK => ?_ | refine Wp ?_ | refine Wq ?_ | refine Wr ?_); (try simp only [go_sem, fN, seval, eT, iR, m1, m2, dT, dF, nL]); (repeat refine Ai ?_); (try (refine hK _ ?_; clear hK K)); try refine iC ?_)) | refine Cg _ (hp) ?_)
  simp only [go_sem, fN, seval, AJ, AS.result, AA, AB, AH]
 have f1 : DQ m = 0 := by rw [fm, if_neg (by omega)]
 rw [f1, if_pos rfl]
 obtain ⟨n, rfl⟩ : ∃ n : Nat, m = n := ⟨m.toNat, by omega⟩
 rw [Int.toNat_natCast]
 refine EN.ac fun C hC => ?_
 unfold DT
 repeat' (first | (with_reducible first | refine W ?_ | refine Z0 ?_ | ((first | refine Wo fun K hK => ?_ | refine Wp ?_ | refine Wq ?_ | refine Wr ?_); (try simp only [go_sem, fN, seval, eT, iR, m1, m2, dT, dF, nL]); (repeat refine Ai ?_); (try (refine hK _ ?_; clear hK K)); try refine iC ?_)) | refine Cg _ (hp) ?_)
 refine IWP.loop (fun m s => ∃ k, k ≤ l.length ∧ m = l.length - k ∧ Iq R n l = Iq R n (l.drop k) ∧ s.env 0 = BF R ∧ s.env 1 = AK n ∧ s.env 6 = BF l ∧ s.env 8 = AK k) l.length ⟨0, Nat.zero_le _, rfl, rfl, rfl, rfl, rfl, rfl⟩ ?_
 rintro m ⟨env, S⟩ ⟨k, hk, rfl, hj, e0, e1, e6, e8⟩
 simp only at e0 e1 e6 e8
 rw [hj]
 by_cases hkl : k < l.length
 case neg =>
  have hkl' : ¬ (k : Int) < l.length := by omega
  rw [List.drop_of_length_le (by omega)]
  repeat' with_reducible first | refine W ?_ | refine Z0 ?_ | ((first | refine Wo fun K hK => ?_ | refine Wp ?_ | refine Wq ?_ | refine Wr ?_); (try simp only [go_sem, fN, seval, eT, iR, e0, e1, e6, e8, hkl', dT, dF, nL]); (repeat refine Ai ?_); (try (refine hK _ ?_; clear hK K)); try refine iC ?_)
  simp only [go_sem, fN, seval, AJ, AS.result, AA, AB, AH]
  rfl
 have hkl' : (k : Int) < l.length := by omega
 obtain ⟨q, hq⟩ := AT hkl
 have o := hok q (AI hq)
 have hmet := U9 hR q.1 q.2 o.c1 o.c2 (by have := o.z1; omega) (by have := o.z2; omega) n (by omega)
 rw [BS hq, Iq]
 generalize Fe R n q.1 q.2 = y at *
 by_cases y2 : y.2 = 0
 ·by_cases y1 : y.1 = true
  ·rw [if_pos y2, if_pos y1]
   repeat' (first | (with_reducible first | refine W ?_ | refine Z0 ?_ | ((first | refine Wo fun K hK => ?_ | refine Wp ?_ | refine Wq ?_ | refine Wr ?_); (try simp only [go_sem, fN, seval, eT, iR, e0, e1, e6, e8, hkl', hq, At, y1, y2, dT, dF, nL]); (repeat refine Ai ?_); (try (refine hK _ ?_; clear hK K)); try refine iC ?_)) | refine Cg _ (hmet) ?_)
   refine AE ⟨l.length - (k + 1), by omega, k + 1, by omega, rfl, rfl, ?_⟩
   simp only [go_sem, fN, seval, eT, iR, e0, e1, e6, e8]
   congr 3
  ·rw [if_pos y2, if_neg y1]
   repeat' (first | (with_reducible first | refine W ?_ | refine Z0 ?_ | ((first | refine Wo fun K hK => ?_ | refine Wp ?_ | refine Wq ?_ | refine Wr ?_); (try simp only [go_sem, fN, seval, eT, iR, e0, e1, e6, e8, hkl', hq, At, y1, y2, dT, dF, nL]); (repeat refine Ai ?_); (try (refine hK _ ?_; clear hK K)); try refine iC ?_)) | refine Cg _ (hmet) ?_)
   simp only [go_sem, fN, seval, AJ, AS.result, AA, AB, AH]
 ·rw [if_neg y2]
  repeat' (first | (with_reducible first | refine W ?_ | refine Z0 ?_ | ((first | refine Wo fun K hK => ?_ | refine Wp ?_ | refine Wq ?_ | refine Wr ?_); (try simp only [go_sem, fN, seval, eT, iR, e0, e1, e6, e8, hkl', hq, At, y2, dT, dF, nL]); (repeat refine Ai ?_); (try (refine hK _ ?_; clear hK K)); try refine iC ?_)) | refine Cg _ (hmet) ?_)
  simp only [go_sem, fN, seval, AJ, AS.result, AA, AB, AH]
theorem NZ {cr : Nat → Nat → Option (List Pr)} : ∀ (l : List (Nat × Nat)) (acc : List Pr), (EC cr l acc).2 ≠ 0 → (EC cr l acc).1 = []
 | [], acc, h => absurd rfl h
 | q :: l, acc, h => by
  rw [EC] at h ⊢
  split
  ·rfl
  ·rename_i x hx
   rw [hx] at h
   simp only at h
   split
   ·rfl
   ·rename_i hg
    rw [if_neg hg] at h
    exact NZ l _ h
theorem PO {R : List Pr} {c d : UInt8} {k : Nat} (h : (B0 R c d k).2 ≠ 0) : (B0 R c d k).1 = [] := by
 unfold B0 at h ⊢
 split
 ·rfl
 ·rename_i h0
  rw [if_neg h0] at h
  exact NZ _ _ h
theorem Nx (l : List Pr) (e : Int) (h : e ≠ 0 → l = []) (hl : l.length ≤ 400) : AQ Tryz.prog 12 [BF l, AK e, BF l, AK e] (Ab true) := by
 refine OJ.ac fun C hC => ?_
 unfold Iv
 by_cases he : e = 0
 case neg =>
  have hl0 := h he
  subst hl0
  repeat' with_reducible first | refine W ?_ | refine Z0 ?_ | ((first | refine Wo fun K hK => ?_ | refine Wp ?_ | refine Wq ?_ | refine Wr ?_); (try simp only [go_sem, fN, seval, eT, iR, he, dT, dF, nL]); (repeat refine Ai ?_); (try (refine hK _ ?_; clear hK K)); try refine iC ?_)
  simp only [go_sem, fN, seval, AJ, AS.result, AA, AB, AH]
 subst he
 repeat' with_reducible first | refine W ?_ | refine Z0 ?_ | ((first | refine Wo fun K hK => ?_ | refine Wp ?_ | refine Wq ?_ | refine Wr ?_); (try simp only [go_sem, fN, seval, eT, iR, dT, dF, nL]); (repeat refine Ai ?_); (try (refine hK _ ?_; clear hK K)); try refine iC ?_)
 refine IWP.loop (fun m s => ∃ k, k ≤ l.length ∧ m = l.length - k ∧ s.env 0 = BF l ∧ s.env 2 = BF l ∧ s.env 9 = AK k) l.length ⟨0, Nat.zero_le _, rfl, rfl, rfl, rfl⟩ ?_
 rintro m ⟨env, S⟩ ⟨k, hk, rfl, e0, e2, e9⟩
 simp only at e0 e2 e9
 by_cases hkl : (k : Int) < l.length
 ·obtain ⟨q, hq⟩ := AT (show k < l.length by omega)
  have s1 := JO q.1 q.1
  have s2 := JO q.2 q.2
  rw [Tm.beq_refl] at s1 s2
  repeat' (first | (with_reducible first | refine W ?_ | refine Z0 ?_ | ((first | refine Wo fun K hK => ?_ | refine Wp ?_ | refine Wq ?_ | refine Wr ?_); (try simp only [go_sem, fN, seval, eT, iR, e0, e2, e9, hkl, hq, At, dT, dF, nL]); (repeat refine Ai ?_); (try (refine hK _ ?_; clear hK K)); try refine iC ?_)) | refine Cg _ (s1) ?_ | refine Cg _ (s2) ?_)
  refine AE ⟨l.length - (k + 1), by omega, k + 1, by omega, rfl, ?_⟩
  simp only [go_sem, fN, seval, eT, iR, e0, e2, e9]
  congr 3
 ·repeat' with_reducible first | refine W ?_ | refine Z0 ?_ | ((first | refine Wo fun K hK => ?_ | refine Wp ?_ | refine Wq ?_ | refine Wr ?_); (try simp only [go_sem, fN, seval, eT, iR, e0, e2, e9, hkl, dT, dF, nL]); (repeat refine Ai ?_); (try (refine hK _ ?_; clear hK K)); try refine iC ?_)
  simp only [go_sem, fN, seval, AJ, AS.result, AA, AB, AH]
theorem Md {R : List Pr} (h0 : Bv R ≠ 0) : AQ Tryz.prog 10 [BF R] (.tup [BF [], AK (Bv R)]) := by
 refine EG.ac fun C hC => ?_
 unfold C9
 repeat' (first | (with_reducible first | refine W ?_ | refine Z0 ?_ | ((first | refine Wo fun K hK => ?_ | refine Wp ?_ | refine Wq ?_ | refine Wr ?_); (try simp only [go_sem, fN, seval, eT, iR, h0, dT, dF, nL]); (repeat refine Ai ?_); (try (refine hK _ ?_; clear hK K)); try refine iC ?_)) | refine Cg _ (KX R) ?_)
 simp only [go_sem, fN, seval, AJ, AS.result, AA, AB, AH]
 rfl
theorem UU {R : List Pr} (h0 : Bv R ≠ 0) (m : Int) : AQ Tryz.prog 11 [BF R, AK m] (.tup [Ab false, AK (Bv R)]) := by
 refine B2.ac fun C hC => ?_
 unfold Bp
 repeat' (first | (with_reducible first | refine W ?_ | refine Z0 ?_ | ((first | refine Wo fun K hK => ?_ | refine Wp ?_ | refine Wq ?_ | refine Wr ?_); (try simp only [go_sem, fN, seval, eT, iR, h0, dT, dF, nL]); (repeat refine Ai ?_); (try (refine hK _ ?_; clear hK K)); try refine iC ?_)) | refine Cg _ (Md h0) ?_)
 simp only [go_sem, fN, seval, AJ, AS.result, AA, AB, AH]
set_option maxRecDepth 100000 in
theorem FZ (R : List Pr) (m : Int) : AQ Tryz.prog 3 [BF R, AK m] (Ab true) := by
 by_cases g1 : J9 R = true
 ·refine By.ac fun C hC => ?_
  unfold Bg
  repeat' (first | (with_reducible first | refine W ?_ | refine Z0 ?_ | ((first | refine Wo fun K hK => ?_ | refine Wp ?_ | refine Wq ?_ | refine Wr ?_); (try simp only [go_sem, fN, seval, eT, iR, g1, dT, dF, nL]); (repeat refine Ai ?_); (try (refine hK _ ?_; clear hK K)); try refine iC ?_)) | refine Cg _ (Db R) ?_)
  simp only [go_sem, fN, seval, AJ, AS.result, AA, AB, AH]
 by_cases h0 : Bv R = 0
 case neg =>
  have p2 := Nx [] (Bv R) (fun _ => rfl) (by simp)
  refine By.ac fun C hC => ?_
  unfold Bg
  repeat' (first | (with_reducible first | refine W ?_ | refine Z0 ?_ | ((first | refine Wo fun K hK => ?_ | refine Wp ?_ | refine Wq ?_ | refine Wr ?_); (try simp only [go_sem, fN, seval, eT, iR, g1, h0, dT, dF, nL]); (repeat refine Ai ?_); (try (refine hK _ ?_; clear hK K)); try refine iC ?_)) | refine Cg _ (Db R) ?_ | refine Cg _ (ES R) ?_ | refine Cg _ (Md h0) ?_ | refine Cg _ (UU h0 m) ?_ | refine Cg _ (p2) ?_)
  simp only [go_sem, fN, seval, AJ, AS.result, AA, AB, AH]
 have hR := Sd h0
 have h40 := hR.len
 by_cases g2 : (6 : Int) < R.length
 ·refine By.ac fun C hC => ?_
  unfold Bg
  repeat' (first | (with_reducible first | refine W ?_ | refine Z0 ?_ | ((first | refine Wo fun K hK => ?_ | refine Wp ?_ | refine Wq ?_ | refine Wr ?_); (try simp only [go_sem, fN, seval, eT, iR, g1, h0, g2, dT, dF, nL]); (repeat refine Ai ?_); (try (refine hK _ ?_; clear hK K)); try refine iC ?_)) | refine Cg _ (Db R) ?_ | refine Cg _ (ES R) ?_)
  simp only [go_sem, fN, seval, AJ, AS.result, AA, AB, AH]
 by_cases g3 : 20 < m ∧ m ≤ 400
 ·obtain ⟨g3, g4⟩ := g3
  refine By.ac fun C hC => ?_
  unfold Bg
  repeat' (first | (with_reducible first | refine W ?_ | refine Z0 ?_ | ((first | refine Wo fun K hK => ?_ | refine Wp ?_ | refine Wq ?_ | refine Wr ?_); (try simp only [go_sem, fN, seval, eT, iR, g1, h0, g2, g3, g4, dT, dF, nL]); (repeat refine Ai ?_); (try (refine hK _ ?_; clear hK K)); try refine iC ?_)) | refine Cg _ (Db R) ?_ | refine Cg _ (ES R) ?_)
  simp only [go_sem, fN, seval, AJ, AS.result, AA, AB, AH]
 have c1 := Ln hR
 rw [I4 hR] at c1
 have c2 := UH hR m
 have c3 := O4 hR h0
 have c4 := VO hR h0 m
 have c5 := Nx (B0 R 88 89 1).1 (B0 R 88 89 1).2 (fun h => PO h) (Hz hR).2
 generalize B0 R 88 89 1 = P at *
 generalize Ou R m = J at *
 unfold prV at c1 c3
 unfold joV at c2 c4
 have g34 : (20 < m ∧ ¬ m ≤ 400) ∨ (¬ 20 < m ∧ True) := by
  by_cases h : 20 < m
  ·exact .inl ⟨h, fun h2 => g3 ⟨h, h2⟩⟩
  ·exact .inr ⟨h, trivial⟩
 rcases g34 with ⟨g5, g7⟩ | ⟨g5, g7⟩
 all_goals
  refine By.ac fun C hC => ?_
  unfold Bg
  repeat' (first | (with_reducible first | refine W ?_ | refine Z0 ?_ | ((first | refine Wo fun K hK => ?_ | refine Wp ?_ | refine Wq ?_ | refine Wr ?_); (try simp only [go_sem, fN, seval, eT, iR, g1, h0, g2, g5, g7, dT, dF, nL]); (repeat refine Ai ?_); (try (refine hK _ ?_; clear hK K)); try refine iC ?_)) | refine Cg _ (Db R) ?_ | refine Cg _ (ES R) ?_)
  refine IWP.loop (fun z s => ∃ k, k ≤ R.length ∧ z = R.length - k ∧ s.env 0 = BF R ∧ s.env 1 = AK m ∧ s.env 9 = AK k) R.length ⟨0, Nat.zero_le _, rfl, rfl, rfl, rfl⟩ ?_
  rintro z ⟨env, S⟩ ⟨k, hk, rfl, e0, e1, e9⟩
  simp only at e0 e1 e9
  by_cases hkl : (k : Int) < R.length
  ·obtain ⟨q, hq⟩ := AT (show k < R.length by omega)
   have s1 := GL q.1 12 (by omega) (by omega)
   have s2 := GL q.2 12 (by omega) (by omega)
   by_cases b1 : 12 < BE q.1.size 12
   ·repeat' (first | (with_reducible first | refine W ?_ | refine Z0 ?_ | ((first | refine Wo fun K hK => ?_ | refine Wp ?_ | refine Wq ?_ | refine Wr ?_); (try simp only [go_sem, fN, seval, eT, iR, e0, e1, e9, hkl, hq, At, b1, dT, dF, nL]); (repeat refine Ai ?_); (try (refine hK _ ?_; clear hK K)); try refine iC ?_)) | refine Cg _ (s1) ?_)
    simp only [go_sem, fN, seval, AJ, AS.result, AA, AB, AH]
   ·by_cases b2 : 12 < BE q.2.size 12
    ·repeat' (first | (with_reducible first | refine W ?_ | refine Z0 ?_ | ((first | refine Wo fun K hK => ?_ | refine Wp ?_ | refine Wq ?_ | refine Wr ?_); (try simp only [go_sem, fN, seval, eT, iR, e0, e1, e9, hkl, hq, At, b1, b2, dT, dF, nL]); (repeat refine Ai ?_); (try (refine hK _ ?_; clear hK K)); try refine iC ?_)) | refine Cg _ (s1) ?_ | refine Cg _ (s2) ?_)
     simp only [go_sem, fN, seval, AJ, AS.result, AA, AB, AH]
    ·repeat' (first | (with_reducible first | refine W ?_ | refine Z0 ?_ | ((first | refine Wo fun K hK => ?_ | refine Wp ?_ | refine Wq ?_ | refine Wr ?_); (try simp only [go_sem, fN, seval, eT, iR, e0, e1, e9, hkl, hq, At, b1, b2, dT, dF, nL]); (repeat refine Ai ?_); (try (refine hK _ ?_; clear hK K)); try refine iC ?_)) | refine Cg _ (s1) ?_ | refine Cg _ (s2) ?_)
     refine AE ⟨R.length - (k + 1), by omega, k + 1, by omega, rfl, ?_⟩
     simp only [go_sem, fN, seval, eT, iR, e0, e1, e9]
     congr 3
  ·repeat' (first | (with_reducible first | refine W ?_ | refine Z0 ?_ | ((first | refine Wo fun K hK => ?_ | refine Wp ?_ | refine Wq ?_ | refine Wr ?_); (try simp only [go_sem, fN, seval, eT, iR, e0, e1, e9, hkl, dT, dF, nL]); (repeat refine Ai ?_); (try (refine hK _ ?_; clear hK K)); try refine iC ?_)) | refine Cg _ (c1) ?_ | refine Cg _ (c2) ?_ | refine Cg _ (c3) ?_ | refine Cg _ (c4) ?_ | refine Cg _ (c5) ?_)
   simp only [go_sem, fN, seval, AJ, AS.result, AA, AB, AH]

set_option maxRecDepth 100000
def C8 : IR :=
 (.seq (.ops [.i 8 (.mov (.c (.one (.st (.bool false)))))]) (.seq (.seq (.ops [.m 10 0, .i 11 (.len false (.t 10)), .i 12 (.bin .gtr (.t 11) (.n 256))]) (.cond (.t 12) (.seq (.ops [.i 8 (.mov (.c (.one (.st (.bool true)))))]) .ret) .skip)) (.seq (.ops [.m 13 1, .i 14 (.callN 13 [.t 13]), .m 15 2, .i 16 (.callN 13 [.t 15]), .i 17 (.append false 31 4 80 (.t 14) (.t 16)), .m 9 17]) (.seq (.ops [.m 18 9, .m 19 3, .i 20 (.call 14 [.t 19, .n 20]), .i 21 (.call 3 [.t 18, .t 20]), .m 22 21, .mk (some 23) (some (22, true)) (.mov (.t 0)) .no, .mk (some 24) (some (22, true)) (.call 15 [.t 23, .n 2, .n 7, .n 2]) .no, .mk (some 25) (some (22, true)) (.mov (.t 3)) .no, .mk (some 26) (some (22, true)) (.call 14 [.t 25, .n 20]) .no, .mk (some 27) (some (22, true)) (.call 3 [.t 24, .t 26]) .no, .i 28 (.pick (.t 22) (.t 27) (.c (.one (.st (.bool false))))), .m 8 28]) .ret))))
theorem EL : OkF Tryz.prog 4 29 [20000014, 20000016] C8 [.t 8] := .of Tryz.func4 rfl rfl (by kernel_rfl) rfl

def MC : IR :=
 (.seq (.ops [.i 4 (.mov (.n 0))]) (.seq (.seq (.ops [.m 5 0, .i 6 (.bin .lss (.t 5) (.n 0))]) (.cond (.t 6) (.ops [.m 7 0, .i 8 (.bin .add (.t 7) (.n 1)), .i 9 (.un .neg (.t 8)), .m 0 9]) .skip)) (.seq (.ops [.m 10 0, .m 11 1, .i 12 (.bin .rem (.t 10) (.t 11)), .m 4 12]) .ret)))
theorem Rs : OkF Tryz.prog 14 13 [] MC [.t 4] := .of Tryz.func14 rfl rfl (by kernel_rfl) rfl
def PC : IR :=
 (.seq (.ops [.i 4 (.mov (.n 0))]) (.seq (.seq (.ops [.m 5 0, .i 6 (.len false (.t 5)), .i 7 (.bin .eql (.t 6) (.n 0))]) (.cond (.t 7) (.seq (.ops [.m 8 1, .i 9 (.bin .mul (.t 8) (.n 31)), .m 4 9]) .ret) .skip)) (.seq (.ops [.m 10 0, .m 11 1, .m 12 0, .i 13 (.len false (.t 12)), .i 14 (.bin .rem (.t 11) (.t 13)), .i 15 (.indexAddr 1 (.t 10) (.t 14)), .l 16 15, .i 17 (.call 14 [.t 16, .n 1000003]), .m 18 1, .m 19 0, .i 20 (.len false (.t 19)), .i 21 (.bin .quo (.t 18) (.t 20)), .i 22 (.bin .mul (.t 21) (.n 7919)), .i 23 (.bin .add (.t 17) (.t 22)), .m 4 23]) .ret)))
theorem UA : OkF Tryz.prog 55 24 [] PC [.t 4] := .of Tryz.func55 rfl rfl (by kernel_rfl) rfl
def Mf : IR :=
 (.seq (.ops [.i 2 (.alloc 29 [.st (.str (ByteArray.mk (#[]))), .full []])]) (.seq (.ops [.m 3 0, .i 4 (.build [.st (.str (ByteArray.mk (#[]))), .full []] [(0, 1, .t 3)]), .s 2 2 4]) .ret))
theorem SY : OkF Tryz.prog 56 5 [] Mf [.cell 2 true 2] := .of Tryz.func56 rfl rfl (by kernel_rfl) rfl
def Dx : IR :=
 (.seq (.ops [.i 8 (.alloc 29 [.st (.str (ByteArray.mk (#[]))), .full []]), .i 9 (.mov (.n 0))]) (.seq (.ops [.m 18 0, .m 19 1, .i 20 (.call 55 [.t 18, .t 19]), .m 10 20]) (.seq (.ops [.m 21 1, .i 22 (.bin .add (.t 21) (.n 1)), .m 1 22]) (.seq (.seq (.ops [.m 23 2, .i 24 (.bin .lss (.t 23) (.n 3)), .m 25 24, .mk (some 26) (some (25, false)) (.mov (.t 10)) .no, .mk (some 27) (some (25, false)) (.call 14 [.t 26, .n 5]) .no, .mk (some 28) (some (25, false)) (.bin .lss (.t 27) (.n 2)) .no, .i 29 (.pick (.t 25) (.c (.one (.st (.bool true)))) (.t 28))]) (.cond (.t 29) (.seq (.seq (.ops [.m 30 3, .i 31 (.bin .gtr (.t 30) (.n 0)), .m 32 31, .mk (some 33) (some (32, true)) (.mov (.t 10)) .no, .mk (some 34) (some (32, true)) (.bin .quo (.t 33) (.n 5)) .no, .mk (some 35) (some (32, true)) (.call 14 [.t 34, .n 3]) .no, .mk (some 36) (some (32, true)) (.bin .gtr (.t 35) (.n 0)) .no, .i 37 (.pick (.t 32) (.t 36) (.c (.one (.st (.bool false)))))]) (.cond (.t 37) (.seq (.ops [.i 38 (.buildFlat [.c (.one (.st (.str (ByteArray.mk (#[88]))))), .c (.one (.st (.str (ByteArray.mk (#[89]))))), .c (.one (.st (.str (ByteArray.mk (#[90]))))), .c (.one (.st (.str (ByteArray.mk (#[85])))))]), .m 39 10, .i 40 (.bin .quo (.t 39) (.n 15)), .m 41 3, .i 42 (.call 14 [.t 40, .t 41]), .i 43 (.indexAddr 1 (.t 38) (.t 42)), .l 44 43, .i 45 (.call 56 [.t 44]), .m 46 1, .s 2 8 45, .m 9 46]) .ret) .skip)) (.seq (.ops [.i 47 (.buildFlat [.c (.one (.st (.str (ByteArray.mk (#[97]))))), .c (.one (.st (.str (ByteArray.mk (#[98]))))), .c (.one (.st (.str (ByteArray.mk (#[99])))))]), .m 48 10, .i 49 (.bin .quo (.t 48) (.n 15)), .i 50 (.call 14 [.t 49, .n 3]), .i 51 (.indexAddr 1 (.t 47) (.t 50)), .l 52 51, .i 53 (.call 56 [.t 52]), .m 54 1, .s 2 8 53, .m 9 54]) .ret)) .skip)) (.seq (.seq (.ops [.m 55 10, .i 56 (.bin .quo (.t 55) (.n 5)), .i 57 (.call 14 [.t 56, .n 4])]) (.block 0 (.seq (.ops [.i 59 (.bin .eql (.t 57) (.n 0)), .m 58 59]) (.cond (.t 58) (.seq (.ops [.m 61 0, .m 62 1, .m 63 2, .i 64 (.bin .sub (.t 63) (.n 1)), .m 65 3, .i 66 (.call 28 [.t 61, .t 62, .t 64, .t 65]), .m 60 66, .i 67 (.extract 0 (.t 60)), .i 68 (.extract 1 (.t 60)), .i 11 (.alloc 29 [.st (.str (ByteArray.mk (#[]))), .full []]), .s 2 11 67, .m 12 68]) (.seq (.ops [.L 69 2 11, .i 70 (.buildSlice false 29 2 [.t 69]), .i 71 (.build [.st (.str (ByteArray.mk (#[]))), .full []] [(0, 1, .c (.one (.st (.str (ByteArray.mk (#[104])))))), (1, 1, .t 70)]), .m 72 12, .s 2 8 71, .m 9 72]) .ret)) (.seq (.ops [.i 74 (.bin .eql (.t 57) (.n 1)), .m 73 74]) (.cond (.t 73) (.seq (.ops [.m 76 0, .m 77 1, .m 78 2, .i 79 (.bin .sub (.t 78) (.n 1)), .m 80 3, .i 81 (.call 28 [.t 76, .t 77, .t 79, .t 80]), .m 75 81, .i 82 (.extract 0 (.t 75)), .i 83 (.extract 1 (.t 75)), .i 13 (.alloc 29 [.st (.str (ByteArray.mk (#[]))), .full []]), .s 2 13 82, .m 14 83]) (.seq (.ops [.L 84 2 13, .i 85 (.buildSlice false 29 2 [.t 84]), .i 86 (.build [.st (.str (ByteArray.mk (#[]))), .full []] [(0, 1, .c (.one (.st (.str (ByteArray.mk (#[107])))))), (1, 1, .t 85)]), .m 87 14, .s 2 8 86, .m 9 87]) .ret)) .skip)))))) (.seq (.ops [.m 89 0, .m 90 1, .m 91 2, .i 92 (.bin .quo (.t 91) (.n 2)), .m 93 3, .i 94 (.call 28 [.t 89, .t 90, .t 92, .t 93]), .m 88 94, .i 95 (.extract 0 (.t 88)), .i 96 (.extract 1 (.t 88)), .i 15 (.alloc 29 [.st (.str (ByteArray.mk (#[]))), .full []]), .s 2 15 95, .m 16 96]) (.seq (.ops [.m 98 0, .m 99 16, .m 100 2, .i 101 (.bin .quo (.t 100) (.n 2)), .m 102 3, .i 103 (.call 28 [.t 98, .t 99, .t 101, .t 102]), .m 97 103, .i 104 (.extract 0 (.t 97)), .i 105 (.extract 1 (.t 97)), .i 17 (.alloc 29 [.st (.str (ByteArray.mk (#[]))), .full []]), .s 2 17 104, .m 16 105]) (.seq (.ops [.i 106 (.buildFlat [.c (.one (.st (.str (ByteArray.mk (#[102]))))), .c (.one (.st (.str (ByteArray.mk (#[103])))))]), .m 107 10, .i 108 (.bin .quo (.t 107) (.n 5)), .i 109 (.call 14 [.t 108, .n 4]), .i 110 (.bin .sub (.t 109) (.n 2)), .i 111 (.indexAddr 1 (.t 106) (.t 110)), .l 112 111, .L 113 2 15, .L 114 2 17, .i 115 (.buildSlice false 29 2 [.t 113, .t 114]), .i 116 (.build [.st (.str (ByteArray.mk (#[]))), .full []] [(0, 1, .t 112), (1, 1, .t 115)]), .m 117 16, .s 2 8 116, .m 9 117]) .ret))))))))
theorem Ee : OkF Tryz.prog 28 118 [] Dx [.cell 8 true 2, .t 9] := .of Tryz.func28 rfl rfl (by kernel_rfl) rfl

def Dj (c n : Int) : Int := (if c < 0 then -(c + 1) else c) % n
theorem CC (c n : Int) (hn : 1 ≤ n) : 0 ≤ Dj c n ∧ Dj c n < n := ⟨Int.emod_nonneg _ (by omega), Int.emod_lt_of_pos _ (by omega)⟩
theorem Gz {x n : Int} (hx : 0 ≤ x) (hn : 1 ≤ n) : x.tmod n = x % n ∧ 0 ≤ x % n ∧ x % n < n ∧ x % n ≤ x := by
 rw [Int.tmod_eq_emod_of_nonneg hx]
 refine ⟨rfl, Int.emod_nonneg _ (by omega), Int.emod_lt_of_pos _ (by omega), ?_⟩
 by_cases h : x < n
 ·rw [Int.emod_eq_of_lt hx h]; exact Int.le_refl _
 ·have := Int.emod_lt_of_pos x (show 0 < n by omega); omega
theorem E5 {x n : Int} (hx : 0 ≤ x) (hn : 1 ≤ n) : x.tdiv n = x / n ∧ 0 ≤ x / n ∧ x / n ≤ x := by
 rw [Int.tdiv_eq_ediv_of_nonneg hx]
 exact ⟨rfl, Int.ediv_nonneg hx (by omega), Int.ediv_le_self _ hx⟩
theorem Fx (c n : Int) (hc : inR .i64 c) (hn : 1 ≤ n) : AQ Tryz.prog 14 [AK c, AK n] (AK (Dj c n)) := by
 rw [EF] at hc
 refine Rs.ac fun C hC => ?_
 unfold MC
 repeat' with_reducible first | refine W ?_ | refine Z0 ?_ | ((first | refine Wo fun K hK => ?_ | refine Wq ?_ | refine Wr ?_); (try simp only [go_sem, fN, seval, eT, iR]); (repeat refine Ai ?_); (try (refine hK _ ?_; clear hK K)))
 with_reducible refine Wp ?_
 simp only [go_sem, fN, seval, true_implies, false_implies, implies_true, dT, dF, nL]
 (try with_reducible refine iC ?_)
 refine ⟨fun h0 => ?_, fun h0 => ?_⟩
 ·have h1 := Gz (x := 0 - (c + 1)) (n := n) (by omega) hn
  repeat' with_reducible first | refine W ?_ | refine Z0 ?_ | ((first | refine Wo fun K hK => ?_ | refine Wq ?_ | refine Wr ?_); (try simp only [go_sem, fN, seval, eT, iR, h1.1]); (repeat refine Ai ?_); (try (refine hK _ ?_; clear hK K)))
  simp only [go_sem, fN, seval, AJ, AS.result, AA, AB, AH]
  unfold Dj
  rw [if_pos h0]
  congr 5
  omega
 ·have h1 := Gz (x := c) (n := n) (by omega) hn
  repeat' with_reducible first | refine W ?_ | refine Z0 ?_ | ((first | refine Wo fun K hK => ?_ | refine Wq ?_ | refine Wr ?_); (try simp only [go_sem, fN, seval, eT, iR, h1.1]); (repeat refine Ai ?_); (try (refine hK _ ?_; clear hK K)))
  simp only [go_sem, fN, seval, AJ, AS.result, AA, AB, AH]
  unfold Dj
  rw [if_neg h0]
def QM (l : List Int) (i : Nat) : Int := if l.length = 0 then i * 31 else Dj (l.getD (i % l.length) 0) 1000003 + ((i / l.length : Nat) : Int) * 7919
theorem QV (l : List Int) (i : Nat) : 0 ≤ QM l i ∧ QM l i ≤ 1000003 + i * 7919 := by
 unfold QM
 split
 ·omega
 ·have := CC (l.getD (i % l.length) 0) 1000003 (by omega)
  have h2 : i / l.length ≤ i := Nat.div_le_self _ _
  generalize i / l.length = q at *
  omega
theorem Wf (l : List Int) (i : Nat) (hi : i ≤ 1000000) (hl : ∀ n ∈ l, inR .i64 n) (hm : l.length ≤ maxLen) : AQ Tryz.prog 55 [EA l, AK i] (AK (QM l i)) := by
 rw [Ep] at hm
 refine UA.ac fun C hC => ?_
 unfold PC
 repeat' with_reducible first | refine W ?_ | refine Z0 ?_ | ((first | refine Wo fun K hK => ?_ | refine Wq ?_ | refine Wr ?_); (try simp only [go_sem, fN, seval, eT, iR]); (repeat refine Ai ?_); (try (refine hK _ ?_; clear hK K)))
 with_reducible refine Wp ?_
 simp only [go_sem, fN, seval, true_implies, false_implies, implies_true, dT, dF, nL]
 (try with_reducible refine iC ?_)
 refine ⟨fun h0 => ?_, fun h0 => ?_⟩
 ·repeat' with_reducible first | refine W ?_ | refine Z0 ?_ | ((first | refine Wo fun K hK => ?_ | refine Wq ?_ | refine Wr ?_); (try simp only [go_sem, fN, seval, eT, iR]); (repeat refine Ai ?_); (try (refine hK _ ?_; clear hK K)))
  simp only [go_sem, fN, seval, AJ, AS.result, AA, AB, AH]
  unfold QM
  rw [if_pos (by omega)]
 ·have h1 := Gz (x := (i : Int)) (n := (l.length : Int)) (by omega) (by omega)
  have h2 := E5 (x := (i : Int)) (n := (l.length : Int)) (by omega) (by omega)
  have hlt : i % l.length < l.length := Nat.mod_lt _ (by omega)
  obtain ⟨a, ha⟩ := AT hlt
  have e1 : ((i : Int) % (l.length : Int)) = ((i % l.length : Nat) : Int) := by omega
  have e2 : ((i : Int) / (l.length : Int)) = ((i / l.length : Nat) : Int) := by omega
  have h3 : i / l.length ≤ i := Nat.div_le_self _ _
  repeat' with_reducible first | refine W ?_ | refine Z0 ?_ | ((first | refine Wo fun K hK => ?_ | refine Wq ?_ | refine Wr ?_); (try simp only [go_sem, fN, seval, eT, iR, h1.1, h2.1, e1, e2, ha]); (repeat refine Ai ?_); (try (refine hK _ ?_; clear hK K)))
  refine ⟨_, Fx a 1000003 (hl a (AI ha)) (by omega), ?_⟩
  have hp := CC a 1000003 (by omega)
  repeat' with_reducible first | refine W ?_ | refine Z0 ?_ | ((first | refine Wo fun K hK => ?_ | refine Wq ?_ | refine Wr ?_); (try simp only [go_sem, fN, seval, eT, iR, h1.1, h2.1, e1, e2]); (repeat refine Ai ?_); (try (refine hK _ ?_; clear hK K)))
  simp only [go_sem, fN, seval, AJ, AS.result, AA, AB, AH]
  unfold QM
  rw [if_neg (by omega), List.getD_eq_getElem?_getD, ha]
  rfl
theorem Mn (s : ByteArray) : AQ Tryz.prog 56 [Bi s] (aTm (.mk s [])) := by
 refine SY.ac fun C hC => ?_
 unfold Mf
 repeat' with_reducible first | refine W ?_ | refine Z0 ?_ | ((first | refine Wo fun K hK => ?_ | refine Wq ?_ | refine Wr ?_); (try simp only [go_sem, fN, seval, eT, iR]); (repeat refine Ai ?_); (try (refine hK _ ?_; clear hK K)))
 simp only [go_sem, fN, seval, AJ, AS.result, AA, AB, AH]
 rfl
theorem Jb {n : ByteArray} {xs : List Tm} (h1 : Ax n = true) (h2 : AL n = false) (hx : ∀ x ∈ xs, x.chk = 0) : (Tm.mk n xs).chk = 0 := by
 have h0 : BQ (Tm.mk n xs) = 0 := by
  unfold BQ
  rw [Tm.name_mk, if_pos h1, if_neg (by rw [h2]; simp)]
 rw [Tm.chk_eq, if_pos h0, Tm.args_mk]
 induction xs with
 | nil => rfl
 | cons x xs ih =>
  simp only [Tm.chkL]
  rw [if_pos (hx x (by simp))]
  refine ih (fun y hy => hx y (by simp [hy])) ?_
  unfold BQ
  rw [Tm.name_mk, if_pos h1, if_neg (by rw [h2]; simp)]
def Cy (l : List Int) (at_ : Nat) (most vars : Int) (t : Tm) : Prop :=
 AQ Tryz.prog 28 [EA l, AK at_, AK most, AK vars] (.tup [aTm t, AK ((at_ + t.size : Nat) : Int)])
abbrev Ct : List ByteArray := [⟨#[88]⟩, ⟨#[89]⟩, ⟨#[90]⟩, ⟨#[85]⟩, ⟨#[97]⟩, ⟨#[98]⟩, ⟨#[99]⟩, ⟨#[102]⟩, ⟨#[103]⟩, ⟨#[104]⟩, ⟨#[107]⟩]
def JQ (vars : Int) (t : Tm) : Prop := ∀ k ∈ t.knots, k.name ∈ Ct ∧ (vars = 1 → AL k.name = true → k.name = ⟨#[88]⟩)
theorem Mk {k : Tm} : ∀ {xs : List Tm}, k ∈ Tm.knotsL xs → ∃ x ∈ xs, k ∈ x.knots
 | [], h => by cases h
 | x :: xs, h => by
  rw [Tm.knotsL, List.mem_append] at h
  rcases h with h | h
  ·exact ⟨x, by simp, h⟩
  ·obtain ⟨y, hy, hk⟩ := Mk h
   exact ⟨y, by simp [hy], hk⟩
theorem D0 {vars : Int} {n : ByteArray} {xs : List Tm} (hn : n ∈ Ct) (hv : AL n = true → vars = 1 → n = ⟨#[88]⟩) (hx : ∀ x ∈ xs, JQ vars x) : JQ vars (.mk n xs) := by
 intro k hk
 rw [Tm.knots] at hk
 rcases List.mem_cons.1 hk with rfl | hk
 ·exact ⟨hn, fun h1 h2 => hv h2 h1⟩
 ·obtain ⟨x, hx', hk⟩ := Mk hk
  exact hx x hx' k hk
mutual
def Tm.lvs : Tm → Nat
 | .mk _ xs => (if xs.isEmpty then 1 else 0) + Tm.lvsL xs
def Tm.lvsL : List Tm → Nat
 | [] => 0
 | t :: ts => t.lvs + Tm.lvsL ts
end
def Gm (m : Nat) : Nat := if m < 3 then 1 else if m < 6 then 2 else if m < 10 then 4 else m
theorem Lz (m : Nat) : 1 ≤ Gm m := by unfold Gm; split <;> (try split) <;> (try split) <;> omega
theorem LR {m : Nat} (h : 3 ≤ m) : Gm (m - 1) ≤ Gm m := by unfold Gm; (repeat' split) <;> omega
theorem SL {m : Nat} (h : 3 ≤ m) : Gm (m / 2) + Gm (m / 2) ≤ Gm m := by unfold Gm; (repeat' split) <;> omega
def NoU (t : Tm) : Prop := ∀ k ∈ t.knots, k.name ≠ ⟨#[85]⟩
theorem J1 {n : ByteArray} {xs : List Tm} (hn : n ≠ ⟨#[85]⟩) (hx : ∀ x ∈ xs, NoU x) : NoU (.mk n xs) := by
 intro k hk
 rw [Tm.knots] at hk
 rcases List.mem_cons.1 hk with rfl | hk
 ·exact hn
 ·obtain ⟨x, hx', hk⟩ := Mk hk
  exact hx x hx' k hk
theorem WN (l : List Int) (hl : ∀ n ∈ l, inR .i64 n) (hm : l.length ≤ maxLen) (vars : Int) (hv : 1 ≤ vars ∧ vars ≤ 4) : ∀ (most : Nat) (at_ : Nat), most ≤ 1000 → at_ + 2 * most ≤ 900000 → ∃ t : Tm, Cy l at_ most vars t ∧ t.size + 1 ≤ max 2 (2 * most) ∧ t.chk = 0 ∧ JQ vars t ∧ (t.lvs ≤ Gm most ∧ (vars = 3 → NoU t)) := by
 intro most
 induction most using Nat.strongRecOn with
 | _ most ih =>
 intro at_ h1000 hat
 have hraw := Wf l at_ (by omega) hl hm
 have hr := QV l at_
 generalize QM l at_ = c at hraw hr
 have d5 := E5 (x := c) (n := 5) (by omega) (by omega)
 have d15 := E5 (x := c) (n := 15) (by omega) (by omega)
 have p5 := Fx c 5 (by rw [EF]; omega) (by omega)
 have q5 := CC c 5 (by omega)
 have p53 := Fx (c / 5) 3 (by rw [EF]; omega) (by omega)
 have q53 := CC (c / 5) 3 (by omega)
 have p54 := Fx (c / 5) 4 (by rw [EF]; omega) (by omega)
 have q54 := CC (c / 5) 4 (by omega)
 have p15 := Fx (c / 15) vars (by rw [EF]; omega) (by omega)
 have q15 := CC (c / 15) vars (by omega)
 have p153 := Fx (c / 15) 3 (by rw [EF]; omega) (by omega)
 have q153 := CC (c / 15) 3 (by omega)
 generalize Dj c 5 = x5 at p5 q5
 generalize Dj (c / 5) 3 = x53 at p53 q53
 generalize Dj (c / 5) 4 = x54 at p54 q54
 generalize Dj (c / 15) vars = x15 at p15 q15
 generalize Dj (c / 15) 3 = x153 at p153 q153
 have hv0 : vars > 0 := by omega
 by_cases hleaf : (most : Int) < 3 ∨ x5 < 2
 ·by_cases hvar : 0 < x53
  ·obtain ⟨nm, hnm, hch, hX0, hX, hXU⟩ : ∃ nm, [([.str ⟨#[88]⟩] : List SV), [.str ⟨#[89]⟩], [.str ⟨#[90]⟩], [.str ⟨#[85]⟩]][x15.toNat]? = some [.str nm] ∧ (Tm.mk nm []).chk = 0 ∧ nm ∈ Ct ∧ (vars = 1 → nm = ⟨#[88]⟩) ∧ (vars = 3 → nm ≠ ⟨#[85]⟩) := by
    have : x15.toNat = 0 ∨ x15.toNat = 1 ∨ x15.toNat = 2 ∨ x15.toNat = 3 := by omega
    rcases this with h | h | h | h <;> rw [h] <;> first | exact ⟨_, rfl, by decide, by simp [Ct], fun _ => rfl, fun _ => by decide⟩ | exact ⟨_, rfl, by decide, by simp [Ct], fun h1 => by omega, fun _ => by decide⟩ | exact ⟨_, rfl, by decide, by simp [Ct], fun h1 => by omega, fun h1 => by omega⟩
   refine ⟨.mk nm [], ?_, by simp only [Tm.size, Tm.sizes]; omega, hch, D0 hX0 (fun _ h1 => hX h1) (by simp), (by have := Lz most; simp [Tm.lvs, Tm.lvsL]; omega), fun h3 => J1 (hXU h3) (by simp)⟩
   unfold Cy
   refine Ee.ac fun C hC => ?_
   unfold Dx
   repeat' with_reducible first | refine W ?_ | refine Z0 ?_ | ((first | refine Wo fun K hK => ?_ | refine Wq ?_ | refine Wr ?_); (try simp only [go_sem, fN, seval, eT, iR]); (repeat refine Ai ?_); (try (refine hK _ ?_; clear hK K)))
   refine ⟨_, hraw, ?_⟩
   by_cases hm3 : (most : Int) < 3
   ·repeat' with_reducible first | refine W ?_ | refine Z0 ?_ | ((first | refine Wo fun K hK => ?_ | refine Wq ?_ | refine Wr ?_); (try simp only [go_sem, fN, seval, eT, iR, hm3]); (repeat refine Ai ?_); (try (refine hK _ ?_; clear hK K)))
    with_reducible refine Wp ?_
    simp only [go_sem, fN, seval, true_implies, false_implies, implies_true, dT, dF, nL]
    (try with_reducible refine iC ?_)
    repeat' with_reducible first | refine W ?_ | refine Z0 ?_ | ((first | refine Wo fun K hK => ?_ | refine Wq ?_ | refine Wr ?_); (try simp only [go_sem, fN, seval, eT, iR, hv0, d5.1]); (repeat refine Ai ?_); (try (refine hK _ ?_; clear hK K)))
    refine ⟨_, p53, ?_⟩
    repeat' with_reducible first | refine W ?_ | refine Z0 ?_ | ((first | refine Wo fun K hK => ?_ | refine Wq ?_ | refine Wr ?_); (try simp only [go_sem, fN, seval, eT, iR, hv0, d5.1, hvar]); (repeat refine Ai ?_); (try (refine hK _ ?_; clear hK K)))
    with_reducible refine Wp ?_
    simp only [go_sem, fN, seval, true_implies, false_implies, implies_true, dT, dF, nL]
    (try with_reducible refine iC ?_)
    repeat' with_reducible first | refine W ?_ | refine Z0 ?_ | ((first | refine Wo fun K hK => ?_ | refine Wq ?_ | refine Wr ?_); (try simp only [go_sem, fN, seval, eT, iR, d15.1]); (repeat refine Ai ?_); (try (refine hK _ ?_; clear hK K)))
    refine ⟨_, p15, ?_⟩
    repeat' with_reducible first | refine W ?_ | refine Z0 ?_ | ((first | refine Wo fun K hK => ?_ | refine Wq ?_ | refine Wr ?_); (try simp only [go_sem, fN, seval, eT, iR, hnm, q15.1]); (repeat refine Ai ?_); (try (refine hK _ ?_; clear hK K)))
    refine ⟨_, Mn nm, ?_⟩
    repeat' with_reducible first | refine W ?_ | refine Z0 ?_ | ((first | refine Wo fun K hK => ?_ | refine Wq ?_ | refine Wr ?_); (try simp only [go_sem, fN, seval, eT, iR]); (repeat refine Ai ?_); (try (refine hK _ ?_; clear hK K)))
    simp only [go_sem, fN, seval, AJ, AS.result, AA, AB, AH]
    simp only [AV.tup.injEq, AV.agg.injEq, AV.one.injEq, AC.st.injEq, SV.int.injEq, SV.str.injEq, SV.bool.injEq, SV.list.injEq, List.cons.injEq, Option.some.injEq, true_and, and_true, eq_self, BC, Tm.args_mk, Tm.name_mk, List.map_cons, List.map_nil, List.map_append, Tm.size, Tm.sizes]
    omega
   ·have h5 : x5 < 2 := by omega
    repeat' (first | (with_reducible first | refine W ?_ | refine Z0 ?_ | ((first | refine Wo fun K hK => ?_ | refine Wq ?_ | refine Wr ?_); (try simp only [go_sem, fN, seval, eT, iR, hm3, h5]); (repeat refine Ai ?_); (try (refine hK _ ?_; clear hK K)))) | refine Cg _ (p5) ?_)
    with_reducible refine Wp ?_
    simp only [go_sem, fN, seval, true_implies, false_implies, implies_true, dT, dF, nL]
    (try with_reducible refine iC ?_)
    repeat' with_reducible first | refine W ?_ | refine Z0 ?_ | ((first | refine Wo fun K hK => ?_ | refine Wq ?_ | refine Wr ?_); (try simp only [go_sem, fN, seval, eT, iR, hv0, d5.1]); (repeat refine Ai ?_); (try (refine hK _ ?_; clear hK K)))
    refine ⟨_, p53, ?_⟩
    repeat' with_reducible first | refine W ?_ | refine Z0 ?_ | ((first | refine Wo fun K hK => ?_ | refine Wq ?_ | refine Wr ?_); (try simp only [go_sem, fN, seval, eT, iR, hv0, d5.1, hvar]); (repeat refine Ai ?_); (try (refine hK _ ?_; clear hK K)))
    with_reducible refine Wp ?_
    simp only [go_sem, fN, seval, true_implies, false_implies, implies_true, dT, dF, nL]
    (try with_reducible refine iC ?_)
    repeat' with_reducible first | refine W ?_ | refine Z0 ?_ | ((first | refine Wo fun K hK => ?_ | refine Wq ?_ | refine Wr ?_); (try simp only [go_sem, fN, seval, eT, iR, d15.1]); (repeat refine Ai ?_); (try (refine hK _ ?_; clear hK K)))
    refine ⟨_, p15, ?_⟩
    repeat' with_reducible first | refine W ?_ | refine Z0 ?_ | ((first | refine Wo fun K hK => ?_ | refine Wq ?_ | refine Wr ?_); (try simp only [go_sem, fN, seval, eT, iR, hnm, q15.1]); (repeat refine Ai ?_); (try (refine hK _ ?_; clear hK K)))
    refine ⟨_, Mn nm, ?_⟩
    repeat' with_reducible first | refine W ?_ | refine Z0 ?_ | ((first | refine Wo fun K hK => ?_ | refine Wq ?_ | refine Wr ?_); (try simp only [go_sem, fN, seval, eT, iR]); (repeat refine Ai ?_); (try (refine hK _ ?_; clear hK K)))
    simp only [go_sem, fN, seval, AJ, AS.result, AA, AB, AH]
    simp only [AV.tup.injEq, AV.agg.injEq, AV.one.injEq, AC.st.injEq, SV.int.injEq, SV.str.injEq, SV.bool.injEq, SV.list.injEq, List.cons.injEq, Option.some.injEq, true_and, and_true, eq_self, BC, Tm.args_mk, Tm.name_mk, List.map_cons, List.map_nil, List.map_append, Tm.size, Tm.sizes]
    omega
  ·obtain ⟨nm, hnm, hch, hX0, hX⟩ : ∃ nm, [([.str ⟨#[97]⟩] : List SV), [.str ⟨#[98]⟩], [.str ⟨#[99]⟩]][x153.toNat]? = some [.str nm] ∧ (Tm.mk nm []).chk = 0 ∧ nm ∈ Ct ∧ AL nm = false := by
    have : x153.toNat = 0 ∨ x153.toNat = 1 ∨ x153.toNat = 2 := by omega
    rcases this with h | h | h <;> rw [h] <;> exact ⟨_, rfl, by decide, by simp [Ct], by decide⟩
   refine ⟨.mk nm [], ?_, by simp only [Tm.size, Tm.sizes]; omega, hch, D0 hX0 (fun h => by rw [hX] at h; cases h) (by simp), (by have := Lz most; simp [Tm.lvs, Tm.lvsL]; omega), fun h3 => J1 (fun e => by rw [e] at hX; exact absurd hX (by decide)) (by simp)⟩
   unfold Cy
   refine Ee.ac fun C hC => ?_
   unfold Dx
   repeat' with_reducible first | refine W ?_ | refine Z0 ?_ | ((first | refine Wo fun K hK => ?_ | refine Wq ?_ | refine Wr ?_); (try simp only [go_sem, fN, seval, eT, iR]); (repeat refine Ai ?_); (try (refine hK _ ?_; clear hK K)))
   refine ⟨_, hraw, ?_⟩
   by_cases hm3 : (most : Int) < 3
   ·repeat' with_reducible first | refine W ?_ | refine Z0 ?_ | ((first | refine Wo fun K hK => ?_ | refine Wq ?_ | refine Wr ?_); (try simp only [go_sem, fN, seval, eT, iR, hm3]); (repeat refine Ai ?_); (try (refine hK _ ?_; clear hK K)))
    with_reducible refine Wp ?_
    simp only [go_sem, fN, seval, true_implies, false_implies, implies_true, dT, dF, nL]
    (try with_reducible refine iC ?_)
    repeat' with_reducible first | refine W ?_ | refine Z0 ?_ | ((first | refine Wo fun K hK => ?_ | refine Wq ?_ | refine Wr ?_); (try simp only [go_sem, fN, seval, eT, iR, hv0, d5.1]); (repeat refine Ai ?_); (try (refine hK _ ?_; clear hK K)))
    refine ⟨_, p53, ?_⟩
    repeat' with_reducible first | refine W ?_ | refine Z0 ?_ | ((first | refine Wo fun K hK => ?_ | refine Wq ?_ | refine Wr ?_); (try simp only [go_sem, fN, seval, eT, iR, hv0, d5.1, hvar]); (repeat refine Ai ?_); (try (refine hK _ ?_; clear hK K)))
    with_reducible refine Wp ?_
    simp only [go_sem, fN, seval, true_implies, false_implies, implies_true, dT, dF, nL]
    (try with_reducible refine iC ?_)
    repeat' with_reducible first | refine W ?_ | refine Z0 ?_ | ((first | refine Wo fun K hK => ?_ | refine Wq ?_ | refine Wr ?_); (try simp only [go_sem, fN, seval, eT, iR, d15.1]); (repeat refine Ai ?_); (try (refine hK _ ?_; clear hK K)))
    refine ⟨_, p153, ?_⟩
    repeat' with_reducible first | refine W ?_ | refine Z0 ?_ | ((first | refine Wo fun K hK => ?_ | refine Wq ?_ | refine Wr ?_); (try simp only [go_sem, fN, seval, eT, iR, hnm, q153.1]); (repeat refine Ai ?_); (try (refine hK _ ?_; clear hK K)))
    refine ⟨_, Mn nm, ?_⟩
    repeat' with_reducible first | refine W ?_ | refine Z0 ?_ | ((first | refine Wo fun K hK => ?_ | refine Wq ?_ | refine Wr ?_); (try simp only [go_sem, fN, seval, eT, iR]); (repeat refine Ai ?_); (try (refine hK _ ?_; clear hK K)))
    simp only [go_sem, fN, seval, AJ, AS.result, AA, AB, AH]
    simp only [AV.tup.injEq, AV.agg.injEq, AV.one.injEq, AC.st.injEq, SV.int.injEq, SV.str.injEq, SV.bool.injEq, SV.list.injEq, List.cons.injEq, Option.some.injEq, true_and, and_true, eq_self, BC, Tm.args_mk, Tm.name_mk, List.map_cons, List.map_nil, List.map_append, Tm.size, Tm.sizes]
    omega
   ·have h5 : x5 < 2 := by omega
    repeat' (first | (with_reducible first | refine W ?_ | refine Z0 ?_ | ((first | refine Wo fun K hK => ?_ | refine Wq ?_ | refine Wr ?_); (try simp only [go_sem, fN, seval, eT, iR, hm3, h5]); (repeat refine Ai ?_); (try (refine hK _ ?_; clear hK K)))) | refine Cg _ (p5) ?_)
    with_reducible refine Wp ?_
    simp only [go_sem, fN, seval, true_implies, false_implies, implies_true, dT, dF, nL]
    (try with_reducible refine iC ?_)
    repeat' with_reducible first | refine W ?_ | refine Z0 ?_ | ((first | refine Wo fun K hK => ?_ | refine Wq ?_ | refine Wr ?_); (try simp only [go_sem, fN, seval, eT, iR, hv0, d5.1]); (repeat refine Ai ?_); (try (refine hK _ ?_; clear hK K)))
    refine ⟨_, p53, ?_⟩
    repeat' with_reducible first | refine W ?_ | refine Z0 ?_ | ((first | refine Wo fun K hK => ?_ | refine Wq ?_ | refine Wr ?_); (try simp only [go_sem, fN, seval, eT, iR, hv0, d5.1, hvar]); (repeat refine Ai ?_); (try (refine hK _ ?_; clear hK K)))
    with_reducible refine Wp ?_
    simp only [go_sem, fN, seval, true_implies, false_implies, implies_true, dT, dF, nL]
    (try with_reducible refine iC ?_)
    repeat' with_reducible first | refine W ?_ | refine Z0 ?_ | ((first | refine Wo fun K hK => ?_ | refine Wq ?_ | refine Wr ?_); (try simp only [go_sem, fN, seval, eT, iR, d15.1]); (repeat refine Ai ?_); (try (refine hK _ ?_; clear hK K)))
    refine ⟨_, p153, ?_⟩
    repeat' with_reducible first | refine W ?_ | refine Z0 ?_ | ((first | refine Wo fun K hK => ?_ | refine Wq ?_ | refine Wr ?_); (try simp only [go_sem, fN, seval, eT, iR, hnm, q153.1]); (repeat refine Ai ?_); (try (refine hK _ ?_; clear hK K)))
    refine ⟨_, Mn nm, ?_⟩
    repeat' with_reducible first | refine W ?_ | refine Z0 ?_ | ((first | refine Wo fun K hK => ?_ | refine Wq ?_ | refine Wr ?_); (try simp only [go_sem, fN, seval, eT, iR]); (repeat refine Ai ?_); (try (refine hK _ ?_; clear hK K)))
    simp only [go_sem, fN, seval, AJ, AS.result, AA, AB, AH]
    simp only [AV.tup.injEq, AV.agg.injEq, AV.one.injEq, AC.st.injEq, SV.int.injEq, SV.str.injEq, SV.bool.injEq, SV.list.injEq, List.cons.injEq, Option.some.injEq, true_and, and_true, eq_self, BC, Tm.args_mk, Tm.name_mk, List.map_cons, List.map_nil, List.map_append, Tm.size, Tm.sizes]
    omega
 ·have hm3 : ¬ (most : Int) < 3 := by omega
  have h5 : ¬ x5 < 2 := by omega
  by_cases h0 : x54 = 0
  ·obtain ⟨t, ht, hs, hc1, hX1, hL1, hU1⟩ := ih (most - 1) (by omega) (at_ + 1) (by omega) (by omega)
   unfold Cy at ht
   rw [show (((at_ + 1 : Nat) : Int)) = (at_ : Int) + 1 by omega, show (((most - 1 : Nat) : Int)) = (most : Int) - 1 by omega] at ht
   refine ⟨.mk ⟨#[104]⟩ [t], ?_, by simp only [Tm.size, Tm.sizes]; omega, Jb (by decide) (by decide) (by simp [hc1]), D0 (by simp [Ct]) (fun h => absurd h (by decide)) (by simp [hX1]), (by have := LR (m := most) (by omega); simp [Tm.lvs, Tm.lvsL]; omega), fun h3 => J1 (by decide) (by simp [hU1 h3])⟩
   unfold Cy
   subst h0
   refine Ee.ac fun C hC => ?_
   unfold Dx
   repeat' with_reducible first | refine W ?_ | refine Z0 ?_ | ((first | refine Wo fun K hK => ?_ | refine Wq ?_ | refine Wr ?_); (try simp only [go_sem, fN, seval, eT, iR]); (repeat refine Ai ?_); (try (refine hK _ ?_; clear hK K)))
   refine ⟨_, hraw, ?_⟩
   repeat' with_reducible first | refine W ?_ | refine Z0 ?_ | ((first | refine Wo fun K hK => ?_ | refine Wq ?_ | refine Wr ?_); (try simp only [go_sem, fN, seval, eT, iR, hm3]); (repeat refine Ai ?_); (try (refine hK _ ?_; clear hK K)))
   refine ⟨_, p5, ?_⟩
   repeat' with_reducible first | refine W ?_ | refine Z0 ?_ | ((first | refine Wo fun K hK => ?_ | refine Wq ?_ | refine Wr ?_); (try simp only [go_sem, fN, seval, eT, iR, h5]); (repeat refine Ai ?_); (try (refine hK _ ?_; clear hK K)))
   with_reducible refine Wp ?_
   simp only [go_sem, fN, seval, true_implies, false_implies, implies_true, dT, dF, nL]
   (try with_reducible refine iC ?_)
   repeat' with_reducible first | refine W ?_ | refine Z0 ?_ | ((first | refine Wo fun K hK => ?_ | refine Wq ?_ | refine Wr ?_); (try simp only [go_sem, fN, seval, eT, iR, d5.1]); (repeat refine Ai ?_); (try (refine hK _ ?_; clear hK K)))
   refine ⟨_, p54, ?_⟩
   repeat' with_reducible first | refine W ?_ | refine Z0 ?_ | ((first | refine Wo fun K hK => ?_ | refine Wq ?_ | refine Wr ?_); (try simp only [go_sem, fN, seval, eT, iR]); (repeat refine Ai ?_); (try (refine hK _ ?_; clear hK K)))
   with_reducible refine Wp ?_
   simp only [go_sem, fN, seval, true_implies, false_implies, implies_true, dT, dF, nL]
   (try with_reducible refine iC ?_)
   repeat' with_reducible first | refine W ?_ | refine Z0 ?_ | ((first | refine Wo fun K hK => ?_ | refine Wq ?_ | refine Wr ?_); (try simp only [go_sem, fN, seval, eT, iR]); (repeat refine Ai ?_); (try (refine hK _ ?_; clear hK K)))
   refine ⟨_, ht, ?_⟩
   repeat' with_reducible first | refine W ?_ | refine Z0 ?_ | ((first | refine Wo fun K hK => ?_ | refine Wq ?_ | refine Wr ?_); (try simp only [go_sem, fN, seval, eT, iR]); (repeat refine Ai ?_); (try (refine hK _ ?_; clear hK K)))
   simp only [go_sem, fN, seval, AJ, AS.result, AA, AB, AH]
   simp only [AV.tup.injEq, AV.agg.injEq, AV.one.injEq, AC.st.injEq, SV.int.injEq, SV.str.injEq, SV.bool.injEq, SV.list.injEq, List.cons.injEq, Option.some.injEq, true_and, and_true, eq_self, BC, Tm.args_mk, Tm.name_mk, List.map_cons, List.map_nil, List.map_append, Tm.size, Tm.sizes]
   omega
  by_cases h1 : x54 = 1
  ·obtain ⟨t, ht, hs, hc1, hX1, hL1, hU1⟩ := ih (most - 1) (by omega) (at_ + 1) (by omega) (by omega)
   unfold Cy at ht
   rw [show (((at_ + 1 : Nat) : Int)) = (at_ : Int) + 1 by omega, show (((most - 1 : Nat) : Int)) = (most : Int) - 1 by omega] at ht
   refine ⟨.mk ⟨#[107]⟩ [t], ?_, by simp only [Tm.size, Tm.sizes]; omega, Jb (by decide) (by decide) (by simp [hc1]), D0 (by simp [Ct]) (fun h => absurd h (by decide)) (by simp [hX1]), (by have := LR (m := most) (by omega); simp [Tm.lvs, Tm.lvsL]; omega), fun h3 => J1 (by decide) (by simp [hU1 h3])⟩
   unfold Cy
   subst h1
   refine Ee.ac fun C hC => ?_
   unfold Dx
   repeat' with_reducible first | refine W ?_ | refine Z0 ?_ | ((first | refine Wo fun K hK => ?_ | refine Wq ?_ | refine Wr ?_); (try simp only [go_sem, fN, seval, eT, iR]); (repeat refine Ai ?_); (try (refine hK _ ?_; clear hK K)))
   refine ⟨_, hraw, ?_⟩
   repeat' with_reducible first | refine W ?_ | refine Z0 ?_ | ((first | refine Wo fun K hK => ?_ | refine Wq ?_ | refine Wr ?_); (try simp only [go_sem, fN, seval, eT, iR, hm3]); (repeat refine Ai ?_); (try (refine hK _ ?_; clear hK K)))
   refine ⟨_, p5, ?_⟩
   repeat' with_reducible first | refine W ?_ | refine Z0 ?_ | ((first | refine Wo fun K hK => ?_ | refine Wq ?_ | refine Wr ?_); (try simp only [go_sem, fN, seval, eT, iR, h5]); (repeat refine Ai ?_); (try (refine hK _ ?_; clear hK K)))
   with_reducible refine Wp ?_
   simp only [go_sem, fN, seval, true_implies, false_implies, implies_true, dT, dF, nL]
   (try with_reducible refine iC ?_)
   repeat' with_reducible first | refine W ?_ | refine Z0 ?_ | ((first | refine Wo fun K hK => ?_ | refine Wq ?_ | refine Wr ?_); (try simp only [go_sem, fN, seval, eT, iR, d5.1]); (repeat refine Ai ?_); (try (refine hK _ ?_; clear hK K)))
   refine ⟨_, p54, ?_⟩
   repeat' with_reducible first | refine W ?_ | refine Z0 ?_ | ((first | refine Wo fun K hK => ?_ | refine Wq ?_ | refine Wr ?_); (try simp only [go_sem, fN, seval, eT, iR]); (repeat refine Ai ?_); (try (refine hK _ ?_; clear hK K)))
   with_reducible refine Wp ?_
   simp only [go_sem, fN, seval, true_implies, false_implies, implies_true, dT, dF, nL]
   (try with_reducible refine iC ?_)
   repeat' with_reducible first | refine W ?_ | refine Z0 ?_ | ((first | refine Wo fun K hK => ?_ | refine Wq ?_ | refine Wr ?_); (try simp only [go_sem, fN, seval, eT, iR]); (repeat refine Ai ?_); (try (refine hK _ ?_; clear hK K)))
   with_reducible refine Wp ?_
   simp only [go_sem, fN, seval, true_implies, false_implies, implies_true, dT, dF, nL]
   (try with_reducible refine iC ?_)
   repeat' (first | (with_reducible first | refine W ?_ | refine Z0 ?_ | ((first | refine Wo fun K hK => ?_ | refine Wq ?_ | refine Wr ?_); (try simp only [go_sem, fN, seval, eT, iR]); (repeat refine Ai ?_); (try (refine hK _ ?_; clear hK K)))) | refine Cg _ (ht) ?_)
   simp only [go_sem, fN, seval, AJ, AS.result, AA, AB, AH]
   simp only [AV.tup.injEq, AV.agg.injEq, AV.one.injEq, AC.st.injEq, SV.int.injEq, SV.str.injEq, SV.bool.injEq, SV.list.injEq, List.cons.injEq, Option.some.injEq, true_and, and_true, eq_self, BC, Tm.args_mk, Tm.name_mk, List.map_cons, List.map_nil, List.map_append, Tm.size, Tm.sizes]
   omega
  have d2 := E5 (x := (most : Int)) (n := 2) (by omega) (by omega)
  have e2 : (most : Int) / 2 = ((most / 2 : Nat) : Int) := by omega
  obtain ⟨t, ht, hs, hc1, hX1, hL1, hU1⟩ := ih (most / 2) (by omega) (at_ + 1) (by omega) (by omega)
  obtain ⟨u, hu, hs', hc2, hX2, hL2, hU2⟩ := ih (most / 2) (by omega) (at_ + 1 + t.size) (by omega) (by omega)
  obtain ⟨nm, hnm, hok, hnv, hin⟩ : ∃ nm, [([.str ⟨#[102]⟩] : List SV), [.str ⟨#[103]⟩]][(x54 - 2).toNat]? = some [.str nm] ∧ Ax nm = true ∧ AL nm = false ∧ nm ∈ Ct := by
   have : (x54 - 2).toNat = 0 ∨ (x54 - 2).toNat = 1 := by omega
   rcases this with h | h <;> rw [h] <;> exact ⟨_, rfl, by decide, by decide, by simp [Ct]⟩
  refine ⟨.mk nm [t, u], ?_, by simp only [Tm.size, Tm.sizes]; omega, Jb hok hnv (by simp [hc1, hc2]), D0 hin (fun h => by rw [hnv] at h; cases h) (by simp [hX1, hX2]), (by have := SL (m := most) (by omega); simp [Tm.lvs, Tm.lvsL]; omega), fun h3 => J1 (fun e => by rw [e] at hnv; exact absurd hnv (by decide)) (by simp [hU1 h3, hU2 h3])⟩
  unfold Cy at ht hu ⊢
  rw [show (((at_ + 1 : Nat) : Int)) = (at_ : Int) + 1 by omega] at ht
  refine Ee.ac fun C hC => ?_
  unfold Dx
  repeat' with_reducible first | refine W ?_ | refine Z0 ?_ | ((first | refine Wo fun K hK => ?_ | refine Wq ?_ | refine Wr ?_); (try simp only [go_sem, fN, seval, eT, iR]); (repeat refine Ai ?_); (try (refine hK _ ?_; clear hK K)))
  refine ⟨_, hraw, ?_⟩
  repeat' with_reducible first | refine W ?_ | refine Z0 ?_ | ((first | refine Wo fun K hK => ?_ | refine Wq ?_ | refine Wr ?_); (try simp only [go_sem, fN, seval, eT, iR, hm3]); (repeat refine Ai ?_); (try (refine hK _ ?_; clear hK K)))
  refine ⟨_, p5, ?_⟩
  repeat' with_reducible first | refine W ?_ | refine Z0 ?_ | ((first | refine Wo fun K hK => ?_ | refine Wq ?_ | refine Wr ?_); (try simp only [go_sem, fN, seval, eT, iR, h5]); (repeat refine Ai ?_); (try (refine hK _ ?_; clear hK K)))
  with_reducible refine Wp ?_
  simp only [go_sem, fN, seval, true_implies, false_implies, implies_true, dT, dF, nL]
  (try with_reducible refine iC ?_)
  repeat' with_reducible first | refine W ?_ | refine Z0 ?_ | ((first | refine Wo fun K hK => ?_ | refine Wq ?_ | refine Wr ?_); (try simp only [go_sem, fN, seval, eT, iR, d5.1]); (repeat refine Ai ?_); (try (refine hK _ ?_; clear hK K)))
  refine ⟨_, p54, ?_⟩
  repeat' with_reducible first | refine W ?_ | refine Z0 ?_ | ((first | refine Wo fun K hK => ?_ | refine Wq ?_ | refine Wr ?_); (try simp only [go_sem, fN, seval, eT, iR]); (repeat refine Ai ?_); (try (refine hK _ ?_; clear hK K)))
  with_reducible refine Wp ?_
  simp only [go_sem, fN, seval, true_implies, false_implies, implies_true, dT, dF, nL, h0]
  (try with_reducible refine iC ?_)
  repeat' with_reducible first | refine W ?_ | refine Z0 ?_ | ((first | refine Wo fun K hK => ?_ | refine Wq ?_ | refine Wr ?_); (try simp only [go_sem, fN, seval, eT, iR]); (repeat refine Ai ?_); (try (refine hK _ ?_; clear hK K)))
  with_reducible refine Wp ?_
  simp only [go_sem, fN, seval, true_implies, false_implies, implies_true, dT, dF, nL, h1]
  (try with_reducible refine iC ?_)
  repeat' (first | (with_reducible first | refine W ?_ | refine Z0 ?_ | ((first | refine Wo fun K hK => ?_ | refine Wq ?_ | refine Wr ?_); (try simp only [go_sem, fN, seval, eT, iR, d2.1, e2, d5.1, hnm]); (repeat refine Ai ?_); (try (refine hK _ ?_; clear hK K)))) | refine Cg _ (ht) ?_ | refine Cg _ (hu) ?_ | refine Cg _ (p54) ?_)
  simp only [go_sem, fN, seval, AJ, AS.result, AA, AB, AH]
  simp only [AV.tup.injEq, AV.agg.injEq, AV.one.injEq, AC.st.injEq, SV.int.injEq, SV.str.injEq, SV.bool.injEq, SV.list.injEq, List.cons.injEq, Option.some.injEq, true_and, and_true, eq_self, BC, Tm.args_mk, Tm.name_mk, List.map_cons, List.map_nil, List.map_append, Tm.size, Tm.sizes]
  omega
theorem V7 (l : List Int) (hl : ∀ n ∈ l, inR .i64 n) (hm : l.length ≤ maxLen) (vars : Int) (hv : 1 ≤ vars ∧ vars ≤ 4) (most at_ : Nat) (h1 : most ≤ 1000) (h2 : at_ + 2 * most ≤ 900000) : ∃ t : Tm, Cy l at_ most vars t ∧ t.size + 1 ≤ max 2 (2 * most) ∧ t.chk = 0 ∧ JQ vars t := by
 obtain ⟨t, a, b, c, d, _⟩ := WN l hl hm vars hv most at_ h1 h2
 exact ⟨t, a, b, c, d⟩
theorem T8 (l : List Int) (hl : ∀ n ∈ l, inR .i64 n) (hm : l.length ≤ maxLen) (vars : Int) (hv : 1 ≤ vars ∧ vars ≤ 4) (most at_ : Nat) (h1 : most ≤ 1000) (h2 : at_ + 2 * most ≤ 900000) : ∃ t : Tm, Cy l at_ most vars t ∧ t.size + 1 ≤ max 2 (2 * most) ∧ t.chk = 0 := by
 obtain ⟨t, a, b, c, _⟩ := V7 l hl hm vars hv most at_ h1 h2
 exact ⟨t, a, b, c⟩

def FY : IR :=
 (.seq (.ops [.i 8 (.mov (.c (.one (.full []))))]) (.seq (.ops [.i 9 (.mov (.c (.one (.full []))))]) (.seq (.ops [.i 10 (.mov (.n 0))]) (.seq (.seq (.ops [.i 11 (.mov (.n 0))]) (.block 0 (.loop (.seq (.seq (.ops [.m 15 11, .m 16 1, .i 17 (.bin .lss (.t 15) (.t 16))]) (.cond (.t 17) .skip (.exit 0))) (.seq (.block 1 (.seq (.ops [.m 21 0, .m 22 10, .m 23 2, .m 24 3, .i 25 (.call 28 [.t 21, .t 22, .t 23, .t 24]), .m 20 25, .i 26 (.extract 0 (.t 20)), .i 27 (.extract 1 (.t 20)), .i 12 (.alloc 29 [.st (.str (ByteArray.mk (#[]))), .full []]), .s 2 12 26, .m 13 27]) (.seq (.ops [.m 29 0, .m 30 13, .m 31 2, .m 32 3, .i 33 (.call 28 [.t 29, .t 30, .t 31, .t 32]), .m 28 33, .i 34 (.extract 0 (.t 28)), .i 35 (.extract 1 (.t 28)), .i 14 (.alloc 29 [.st (.str (ByteArray.mk (#[]))), .full []]), .s 2 14 34, .m 13 35]) (.seq (.ops [.m 36 13, .m 10 36]) (.ops [.m 37 9, .L 38 2 12, .L 39 2 14, .i 40 (.build [.st (.str (ByteArray.mk (#[]))), .full [], .st (.str (ByteArray.mk (#[]))), .full []] [(0, 2, .t 38), (2, 2, .t 39)]), .i 41 (.buildSlice false 31 4 [.t 40]), .i 42 (.append false 31 4 80 (.t 37) (.t 41)), .m 9 42]))))) (.ops [.m 18 11, .i 19 (.bin .add (.t 18) (.n 1)), .m 11 19])))))) (.seq (.ops [.m 43 9, .m 8 43]) .ret)))))
theorem J5 : OkF Tryz.prog 15 44 [] FY [.t 8] := .of Tryz.func15 rfl rfl (by kernel_rfl) rfl

def L_ : IR :=
 (.seq (.ops [.i 6 (.alloc 29 [.st (.str (ByteArray.mk (#[]))), .full []]), .i 7 (.mov (.n 0)), .i 8 (.mov (.n 0)), .i 9 (.mov (.n 0))]) (.seq (.ops [.m 16 1, .m 10 16]) (.seq (.block 0 (.loop (.seq (.seq (.ops [.m 17 1, .m 18 0, .i 19 (.len true (.t 18)), .i 20 (.bin .lss (.t 17) (.t 19)), .m 21 20, .mk (some 22) (some (21, true)) (.mov (.t 0)) .no, .mk (some 23) (some (21, true)) (.mov (.t 1)) .no, .mk (some 24) (some (21, true)) (.indexStr (.t 22) (.t 23)) .no, .mk (some 25) (some (21, true)) (.call 78 [.t 24]) .no, .i 26 (.pick (.t 21) (.t 25) (.c (.one (.st (.bool false)))))]) (.cond (.t 26) .skip (.exit 0))) (.block 1 (.ops [.m 27 1, .i 28 (.bin .add (.t 27) (.n 1)), .m 1 28]))))) (.seq (.seq (.ops [.m 29 1, .m 30 10, .i 31 (.bin .eql (.t 29) (.t 30))]) (.cond (.t 31) (.seq (.seq (.ops [.m 32 1, .m 33 0, .i 34 (.len true (.t 33)), .i 35 (.bin .eql (.t 32) (.t 34))]) (.cond (.t 35) (.seq (.ops [.i 36 (.build [.st (.str (ByteArray.mk (#[]))), .full []] []), .m 37 1, .m 38 2, .s 2 6 36, .m 7 37, .m 8 38, .i 9 (.mov (.n 13))]) .ret) .skip)) (.seq (.ops [.i 39 (.build [.st (.str (ByteArray.mk (#[]))), .full []] []), .m 40 1, .m 41 2, .s 2 6 39, .m 7 40, .m 8 41, .i 9 (.mov (.n 12))]) .ret)) .skip)) (.seq (.ops [.m 42 0, .m 43 10, .m 44 1, .i 45 (.sliceS (.t 42) (some (.t 43)) (some (.t 44))), .i 46 (.build [.st (.str (ByteArray.mk (#[]))), .full []] [(0, 1, .t 45)]), .i 11 (.alloc 29 [.st (.str (ByteArray.mk (#[]))), .full []]), .s 2 11 46]) (.seq (.seq (.ops [.f 47 0 11, .l 48 47, .i 49 (.call 57 [.t 48]), .i 50 (.un .not (.t 49))]) (.cond (.t 50) (.seq (.ops [.L 51 2 11, .m 52 1, .m 53 2, .s 2 6 51, .m 7 52, .m 8 53, .i 9 (.mov (.n 1))]) .ret) .skip)) (.seq (.ops [.m 54 2, .i 55 (.bin .add (.t 54) (.n 1)), .m 2 55]) (.seq (.seq (.ops [.m 56 2, .i 57 (.bin .gtr (.t 56) (.n 200))]) (.cond (.t 57) (.seq (.ops [.L 58 2 11, .m 59 1, .m 60 2, .s 2 6 58, .m 7 59, .m 8 60, .i 9 (.mov (.n 3))]) .ret) .skip)) (.seq (.seq (.ops [.m 61 1, .m 62 0, .i 63 (.len true (.t 62)), .i 64 (.bin .eql (.t 61) (.t 63)), .m 65 64, .mk (some 66) (some (65, false)) (.mov (.t 0)) .no, .mk (some 67) (some (65, false)) (.mov (.t 1)) .no, .mk (some 68) (some (65, false)) (.indexStr (.t 66) (.t 67)) .no, .mk (some 69) (some (65, false)) (.bin .neq (.t 68) (.c (.one (.st (.int .u8 40))))) .no, .i 70 (.pick (.t 65) (.c (.one (.st (.bool true)))) (.t 69))]) (.cond (.t 70) (.seq (.ops [.L 71 2 11, .m 72 1, .m 73 2, .s 2 6 71, .m 7 72, .m 8 73, .i 9 (.mov (.n 0))]) .ret) .skip)) (.seq (.seq (.ops [.f 74 0 11, .l 75 74, .i 76 (.call 18 [.t 75])]) (.cond (.t 76) (.seq (.ops [.L 77 2 11, .m 78 1, .m 79 2, .s 2 6 77, .m 7 78, .m 8 79, .i 9 (.mov (.n 2))]) .ret) .skip)) (.block 2 (.loop (.block 3 (.seq (.ops [.m 81 0, .m 82 1, .i 83 (.bin .add (.t 82) (.n 1)), .m 84 2, .i 85 (.call 54 [.t 81, .t 83, .t 84]), .m 80 85, .i 86 (.extract 0 (.t 80)), .i 87 (.extract 1 (.t 80)), .i 88 (.extract 2 (.t 80)), .i 89 (.extract 3 (.t 80)), .i 12 (.alloc 29 [.st (.str (ByteArray.mk (#[]))), .full []]), .s 2 12 86, .m 13 87, .m 14 88, .m 15 89]) (.seq (.seq (.ops [.m 90 15, .i 91 (.bin .neq (.t 90) (.n 0))]) (.cond (.t 91) (.seq (.ops [.L 92 2 11, .m 93 13, .m 94 14, .m 95 15, .s 2 6 92, .m 7 93, .m 8 94, .m 9 95]) .ret) .skip)) (.seq (.ops [.f 96 1 11, .l 97 96, .L 98 2 12, .i 99 (.buildSlice false 29 2 [.t 98]), .i 100 (.append false 29 2 40 (.t 97) (.t 99)), .f 101 1 11, .s 1 101 100]) (.seq (.ops [.m 102 13, .m 1 102]) (.seq (.ops [.m 103 14, .m 2 103]) (.seq (.seq (.ops [.m 104 1, .m 105 0, .i 106 (.len true (.t 105)), .i 107 (.bin .eql (.t 104) (.t 106))]) (.cond (.t 107) (.seq (.ops [.L 108 2 11, .m 109 1, .m 110 2, .s 2 6 108, .m 7 109, .m 8 110, .i 9 (.mov (.n 13))]) .ret) .skip)) (.seq (.seq (.ops [.m 111 0, .m 112 1, .i 113 (.indexStr (.t 111) (.t 112)), .i 114 (.bin .eql (.t 113) (.c (.one (.st (.int .u8 41)))))]) (.cond (.t 114) (.seq (.ops [.L 115 2 11, .m 116 1, .i 117 (.bin .add (.t 116) (.n 1)), .m 118 2, .s 2 6 115, .m 7 117, .m 8 118, .i 9 (.mov (.n 0))]) .ret) .skip)) (.seq (.ops [.m 119 0, .m 120 1, .i 121 (.indexStr (.t 119) (.t 120)), .i 122 (.bin .neq (.t 121) (.c (.one (.st (.int .u8 44)))))]) (.cond (.t 122) (.seq (.ops [.L 123 2 11, .m 124 1, .m 125 2, .s 2 6 123, .m 7 124, .m 8 125, .i 9 (.mov (.n 12))]) .ret) .skip))))))))))))))))))))))
theorem Rm : OkF Tryz.prog 54 126 [] L_ [.cell 6 true 2, .t 7, .t 8, .t 9] := .of Tryz.func54 rfl rfl (by kernel_rfl) rfl
def Lp : IR :=
 (.seq (.ops [.i 2 (.alloc 29 [.st (.str (ByteArray.mk (#[]))), .full []]), .i 3 (.mov (.n 0))]) (.seq (.seq (.ops [.m 8 0, .i 9 (.len true (.t 8)), .i 10 (.bin .gtr (.t 9) (.n 4000))]) (.cond (.t 10) (.seq (.ops [.i 11 (.build [.st (.str (ByteArray.mk (#[]))), .full []] []), .s 2 2 11, .i 3 (.mov (.n 3))]) .ret) .skip)) (.seq (.ops [.m 13 0, .i 14 (.call 54 [.t 13, .n 0, .n 0]), .m 12 14, .i 15 (.extract 0 (.t 12)), .i 16 (.extract 1 (.t 12)), .i 17 (.extract 2 (.t 12)), .i 18 (.extract 3 (.t 12)), .i 4 (.alloc 29 [.st (.str (ByteArray.mk (#[]))), .full []]), .s 2 4 15, .m 5 16, .m 6 17, .m 7 18]) (.seq (.seq (.ops [.m 19 7, .i 20 (.bin .eql (.t 19) (.n 0)), .m 21 20, .mk (some 22) (some (21, true)) (.mov (.t 5)) .no, .mk (some 23) (some (21, true)) (.mov (.t 0)) .no, .mk (some 24) (some (21, true)) (.len true (.t 23)) .no, .mk (some 25) (some (21, true)) (.bin .lss (.t 22) (.t 24)) .no, .i 26 (.pick (.t 21) (.t 25) (.c (.one (.st (.bool false)))))]) (.cond (.t 26) (.ops [.i 7 (.mov (.n 12))]) .skip)) (.seq (.seq (.ops [.m 27 7, .i 28 (.bin .neq (.t 27) (.n 0))]) (.cond (.t 28) (.seq (.ops [.i 29 (.build [.st (.str (ByteArray.mk (#[]))), .full []] []), .m 30 7, .s 2 2 29, .m 3 30]) .ret) .skip)) (.seq (.ops [.L 31 2 4, .s 2 2 31, .i 3 (.mov (.n 0))]) .ret))))))
theorem SX : OkF Tryz.prog 27 32 [] Lp [.cell 2 true 2, .t 3] := .of Tryz.func27 rfl rfl (by kernel_rfl) rfl

end Go.Proofs.YtgepacmabaaohaaGreatDoor
