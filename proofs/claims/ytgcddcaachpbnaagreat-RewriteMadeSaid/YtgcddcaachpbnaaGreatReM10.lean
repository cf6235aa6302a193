/-
  Part 10 of the texts. Conditions: none.
-/
import Derived.Test.YtgcddcaachpbnaaGreatReM9
namespace Go.Proofs.YtgcddcaachpbnaaGreat
open Go Go.RowKit
set_option linter.unusedVariables false
set_option linter.unusedSimpArgs false
set_option maxHeartbeats 1000000
def QS (r : Pr) (t : Tm) : AV := if Bc r.1 t = true then .tup [aTm (Bw (A4 r.1 t) r.2).1, Ad true, Ad (!(Bw (A4 r.1 t) r.2).2)] else .tup [aTm Tm.nil, Ad false, Ad false]
theorem R3 (r : Pr) (t : Tm) (hp : r.1.size ≤ 100000) (hq : r.2.size ≤ 100000) (ht : t.size ≤ 1000000) : AN Tryz.prog 46 [aPr r, aTm t] (QS r t) := by
 unfold QS
 refine Rm.ac fun C hC => ?_
 unfold Li
 by_cases h : Bc r.1 t = true
 ·rw [if_pos h]
  repeat' (first | (with_reducible first | refine W ?_ | refine Z0 ?_ | ((first | refine Wo fun K hK => ?_ | refine Wp ?_ | refine Wq ?_ | refine Wr ?_); (try simp only [go_sem, fN, seval, eT, iR, h, dT, dF, nL]); (repeat refine Ai ?_); (try (refine hK _ ?_; clear hK K)); try refine iC ?_)) | refine Cg _ (F7 r.1 t hp ht) ?_ | refine Cg _ (To (A4 r.1 t) r.2 (by omega)) ?_)
  simp only [go_sem, fN, seval, AK, AS.result, AB, AD, AI]
 ·rw [if_neg h]
  repeat' (first | (with_reducible first | refine W ?_ | refine Z0 ?_ | ((first | refine Wo fun K hK => ?_ | refine Wp ?_ | refine Wq ?_ | refine Wr ?_); (try simp only [go_sem, fN, seval, eT, iR, h, dT, dF, nL]); (repeat refine Ai ?_); (try (refine hK _ ?_; clear hK K)); try refine iC ?_)) | refine Cg _ (F7 r.1 t hp ht) ?_)
  simp only [go_sem, fN, seval, AK, AS.result, AB, AD, AI]
  rfl
theorem Sr {R : List Pr} (hR : A1 R) (t : Tm) (ht : t.size ≤ 1000000) : AN Tryz.prog 96 [Bg R, aTm t] (Ad (Fr R t)) := by
 have h40 := hR.len
 refine Sn.ac fun C hC => ?_
 unfold Oj
 repeat' with_reducible first | refine W ?_ | refine Z0 ?_ | ((first | refine Wo fun K hK => ?_ | refine Wp ?_ | refine Wq ?_ | refine Wr ?_); (try simp only [go_sem, fN, seval, eT, iR, dT, dF, nL]); (repeat refine Ai ?_); (try (refine hK _ ?_; clear hK K)); try refine iC ?_)
 refine IWP.loop (fun m s => ∃ k, k ≤ R.length ∧ m = R.length - k ∧ (R.take k).any (fun r => Bc r.1 t) = false ∧ s.env 0 = Bg R ∧ s.env 3 = .one (.ptr 3 1 0 0) ∧ s.S 3 = some (FR t) ∧ s.env 5 = AO k) R.length ⟨0, Nat.zero_le _, rfl, rfl, rfl, rfl, rfl, rfl⟩ ?_
 rintro m ⟨env, S⟩ ⟨k, hk, rfl, hno, e0, e3, s3, e5⟩
 simp only at e0 e3 s3 e5
 by_cases hlt : (k : Int) < R.length
 ·obtain ⟨r, hr⟩ := Af (show k < R.length by omega)
  have z1 := (Tm.may_chk (hR.left r (AP hr))).2
  by_cases hcase : Bc r.1 t = true
  ·have hf : Fr R t = true := List.any_eq_true.2 ⟨r, AP hr, hcase⟩
   repeat' (first | (with_reducible first | refine W ?_ | refine Z0 ?_ | ((first | refine Wo fun K hK => ?_ | refine Wp ?_ | refine Wq ?_ | refine Wr ?_); (try simp only [go_sem, fN, seval, eT, iR, e0, e3, s3, e5, hlt, hr, CR, hcase, dT, dF, nL]); (repeat refine Ai ?_); (try (refine hK _ ?_; clear hK K)); try refine iC ?_)) | refine Cg _ (F7 r.1 t (by omega) ht) ?_)
   simp only [go_sem, fN, seval, AK, AS.result, AB, AD, AI, hf]
  ·repeat' (first | (with_reducible first | refine W ?_ | refine Z0 ?_ | ((first | refine Wo fun K hK => ?_ | refine Wp ?_ | refine Wq ?_ | refine Wr ?_); (try simp only [go_sem, fN, seval, eT, iR, e0, e3, s3, e5, hlt, hr, CR, hcase, dT, dF, nL]); (repeat refine Ai ?_); (try (refine hK _ ?_; clear hK K)); try refine iC ?_)) | refine Cg _ (F7 r.1 t (by omega) ht) ?_)
   refine AF ⟨R.length - (k + 1), by omega, k + 1, by omega, rfl, ?_, ?_⟩
   ·rw [Ak hr, List.any_append, hno]
    simpa using hcase
   ·simp only [go_sem, fN, seval, eT, iR, e0, e3, s3, e5]
    congr 3
 ·rw [List.take_of_length_le (by omega)] at hno
  repeat' with_reducible first | refine W ?_ | refine Z0 ?_ | ((first | refine Wo fun K hK => ?_ | refine Wp ?_ | refine Wq ?_ | refine Wr ?_); (try simp only [go_sem, fN, seval, eT, iR, e0, e3, s3, e5, hlt, dT, dF, nL]); (repeat refine Ai ?_); (try (refine hK _ ?_; clear hK K)); try refine iC ?_)
  simp only [go_sem, fN, seval, AK, AS.result, AB, AD, AI]
  unfold Fr
  rw [hno]
theorem RI {α : Type} {p : α → Bool} {l : List α} {k : Nat} {a : α} (h : l[k]? = some a) (hno : (l.take k).find? p = none) : (p a = true → l.find? p = some a) ∧ (p a = false → (l.take (k + 1)).find? p = none) := by
 refine ⟨fun ha => ?_, fun ha => ?_⟩
 ·have e : l = l.take k ++ a :: l.drop (k + 1) := by rw [← Bf h, List.take_append_drop]
  rw [e, List.find?_append, hno]
  simp [ha]
 ·rw [Ak h, List.find?_append, hno]
  simp [ha]
def Sv (p : Option (List Int)) : AV := match p with
 | none => .tup [FQ [], Ad false]
 | some q => .tup [FQ q, Ad true]
def Td (R : List Pr) (inner : Bool) (x : Tm) (i : Nat) (b : Bool) : Prop := (inner = false ∧ b = true ∧ i = 1) ∨ (inner = true ∧ ((x.knots.take i).drop 1).any (Fr R) = !b)
theorem UX {R : List Pr} (hR : A1 R) (inner : Bool) (t : Tm) (ht : t.size ≤ 900000) : AN Tryz.prog 67 [Bg R, aTm t, Ad inner] (Sv (t.findP (EG inner R))) := by
 rw [← Tm.places_find]
 have hpl := Tm.places_length t
 refine Qb.ac fun C hC => ?_
 unfold K9
 repeat' (first | (with_reducible first | refine W ?_ | refine Z0 ?_ | ((first | refine Wo fun K hK => ?_ | refine Wp ?_ | refine Wq ?_ | refine Wr ?_); (try simp only [go_sem, fN, seval, eT, iR, dT, dF, nL]); (repeat refine Ai ?_); (try (refine hK _ ?_; clear hK K)); try refine iC ?_)) | refine Cg _ (LB t (by omega)) ?_)
 refine IWP.loopD [10] (fun m s => ∃ k, k ≤ t.places.length ∧ m = t.places.length - k ∧ (t.places.take k).find? (atT (EG inner R) t) = none ∧ s.env 0 = Bg R ∧ s.env 2 = Ad inner ∧ s.env 4 = .one (.ptr 4 1 0 0) ∧ s.S 4 = some (FR t) ∧ s.S 10 = none ∧ s.env 8 = Qp t.places ∧ s.env 9 = AO k) t.places.length ⟨0, Nat.zero_le _, rfl, rfl, rfl, rfl, rfl, rfl, rfl, rfl, rfl⟩ ?_
 rintro m ⟨env, S⟩ ⟨k, hk, rfl, hno, e0, e2, e4, s4, s10, e8, e9⟩
 simp only at e0 e2 e4 s4 s10 e8 e9
 by_cases hlt : (k : Int) < t.places.length
 ·obtain ⟨p, hp⟩ := Af (show k < t.places.length by omega)
  obtain ⟨x, hx, hxk⟩ := F2 t p (AP hp)
  have hxz := De t x hxk
  obtain ⟨g1, g2⟩ := RI hp hno
  have hat : atT (EG inner R) t p = EG inner R x := by unfold atT; rw [hx]
  rw [hat] at g1 g2
  have hcon := O6 p t
  rw [hx] at hcon
  by_cases hf : Fr R x = true
  case neg =>
   have hT : EG inner R x = false := by
    rw [← Bool.not_eq_true]
    exact fun h => hf (MC h)
   repeat' (first | (with_reducible first | refine W ?_ | refine Z0 ?_ | ((first | refine Wo fun K hK => ?_ | refine Wp ?_ | refine Wq ?_ | refine Wr ?_); (try simp only [go_sem, fN, seval, eT, iR, e0, e2, e4, s4, s10, e8, e9, hlt, hp, hf, dT, dF, nL]); (repeat refine Ai ?_); (try (refine hK _ ?_; clear hK K)); try refine iC ?_)) | refine Cg _ (hcon) ?_ | refine Cg _ (Sr hR x (by omega)) ?_)
   refine AF ⟨t.places.length - (k + 1), by omega, k + 1, by omega, rfl, g2 hT, ?_⟩
   simp only [go_sem, fN, seval, AS.drop, Ac, AC.clears, AC.clear, AC.highs, AC.high, Bool.not_false, Bool.true_and, Bool.and_self, AV.purge, AV.purges, AC.purge, AL.purge, List.contains_cons, List.contains_nil, Nat.reduceBEq, Bool.or_self, Bool.or_false, Bool.false_or, Bool.or_true, eT, iR, e0, e2, e4, s4, s10, e8, e9]
   congr 3
  case pos =>
  have hkn := Tm.knots_length x
  have hke := Tm.knots_eq x
  repeat' (first | (with_reducible first | refine W ?_ | refine Z0 ?_ | ((first | refine Wo fun K hK => ?_ | refine Wp ?_ | refine Wq ?_ | refine Wr ?_); (try simp only [go_sem, fN, seval, eT, iR, e0, e2, e4, s4, s10, e8, e9, hlt, hp, hf, dT, dF, nL]); (repeat refine Ai ?_); (try (refine hK _ ?_; clear hK K)); try refine iC ?_)) | refine Cg _ (hcon) ?_ | refine Cg _ (Sr hR x (by omega)) ?_ | refine Cg _ (MT x (by omega)) ?_)
  refine IWP.loop (fun m s => ∃ (i : Nat) (b : Bool), 1 ≤ i ∧ i ≤ x.knots.length ∧ m = x.knots.length - i ∧ Td R inner x i b ∧ s.env 0 = Bg R ∧ s.env 2 = Ad inner ∧ s.env 4 = .one (.ptr 4 1 0 0) ∧ s.S 4 = some (FR t) ∧ s.env 8 = Qp t.places ∧ s.env 9 = AO k ∧ s.env 12 = FH x.knots ∧ s.env 13 = Ad b ∧ s.env 14 = AO i) (x.knots.length - 1) ⟨1, true, by omega, by rw [hke]; simp, rfl, ?_, ?_⟩ ?_
  ·cases inner with
   | false => exact .inl ⟨rfl, rfl, rfl⟩
   | true => exact .inr ⟨rfl, by rw [hke]; rfl⟩
  ·simp only [go_sem, fN, seval, eT, iR, e0, e2, e4, s4, e8, e9]
  rintro m ⟨env, S⟩ ⟨i, b, hi1, hi, rfl, hb, e0, e2, e4, s4, e8, e9, e12, e13, e14⟩
  simp only at e0 e2 e4 s4 e8 e9 e12 e13 e14
  have hdrop : x.knots.drop 1 = Tm.knotsL x.args := by rw [hke]; rfl
  by_cases hil : (i : Int) < x.knots.length
  ·obtain ⟨y, hy⟩ := Af (show i < x.knots.length by omega)
   rcases hb with ⟨rfl, rfl, rfl⟩ | ⟨rfl, hb⟩
   ·have hT : EG false R x = true := hf
    have hfin := g1 hT
    have hil' : (1 : Int) < x.knots.length := by omega
    rw [hfin]
    repeat' with_reducible first | refine W ?_ | refine Z0 ?_ | ((first | refine Wo fun K hK => ?_ | refine Wp ?_ | refine Wq ?_ | refine Wr ?_); (try simp only [go_sem, fN, seval, eT, iR, e0, e2, e4, s4, e8, e9, e12, e13, e14, hil', hp, dT, dF, nL]); (repeat refine Ai ?_); (try (refine hK _ ?_; clear hK K)); try refine iC ?_)
    simp only [go_sem, fN, seval, AK, AS.result, AB, AD, AI]
    rfl
   ·cases b with
    | true =>
     have hyz : y.size ≤ x.size := De x y (AP hy)
     repeat' (first | (with_reducible first | refine W ?_ | refine Z0 ?_ | ((first | refine Wo fun K hK => ?_ | refine Wp ?_ | refine Wq ?_ | refine Wr ?_); (try simp only [go_sem, fN, seval, eT, iR, e0, e2, e4, s4, e8, e9, e12, e13, e14, hil, hy, dT, dF, nL]); (repeat refine Ai ?_); (try (refine hK _ ?_; clear hK K)); try refine iC ?_)) | refine Cg _ (Sr hR y (by omega)) ?_)
     refine AF ⟨x.knots.length - (i + 1), by omega, i + 1, !Fr R y, by omega, by omega, rfl, .inr ⟨rfl, ?_⟩, ?_⟩
     ·have e : (x.knots.take (i + 1)).drop 1 = (x.knots.take i).drop 1 ++ [y] := by
       rw [Ak hy, List.drop_append_of_le_length (by rw [List.length_take]; omega)]
      rw [e, List.any_append, hb]
      simp
     ·simp only [go_sem, fN, seval, eT, iR, e0, e2, e4, s4, e8, e9, e12, e13, e14]
      congr 3
    | false =>
     have hT : EG true R x = false := by
      have h1 : Rb R x.args = true := by
       unfold Rb
       rw [← hdrop]
       simp only [Bool.not_false] at hb
       rw [List.any_eq_true] at hb ⊢
       obtain ⟨z, hz1, hz2⟩ := hb
       refine ⟨z, ?_, hz2⟩
       rw [List.drop_take] at hz1
       exact List.mem_of_mem_take hz1
      show Gu R x = false
      unfold Gu
      rw [h1]
      simp
     repeat' with_reducible first | refine W ?_ | refine Z0 ?_ | ((first | refine Wo fun K hK => ?_ | refine Wp ?_ | refine Wq ?_ | refine Wr ?_); (try simp only [go_sem, fN, seval, eT, iR, e0, e2, e4, s4, e8, e9, e12, e13, e14, hil, dT, dF, nL]); (repeat refine Ai ?_); (try (refine hK _ ?_; clear hK K)); try refine iC ?_)
     refine AF ⟨t.places.length - (k + 1), by omega, k + 1, by omega, rfl, g2 hT, ?_⟩
     simp only [go_sem, fN, seval, AS.drop, Ac, AC.clears, AC.clear, AC.highs, AC.high, Bool.not_false, Bool.true_and, Bool.and_self, AV.purge, AV.purges, AC.purge, AL.purge, List.contains_cons, List.contains_nil, Nat.reduceBEq, Bool.or_self, Bool.or_false, Bool.false_or, Bool.or_true, eT, iR, e0, e2, e4, s4, e8, e9]
     congr 3
  ·rcases hb with ⟨rfl, rfl, rfl⟩ | ⟨rfl, hb⟩
   ·have hT : EG false R x = true := hf
    have hfin := g1 hT
    have hil' : ¬ (1 : Int) < x.knots.length := by omega
    rw [hfin]
    repeat' with_reducible first | refine W ?_ | refine Z0 ?_ | ((first | refine Wo fun K hK => ?_ | refine Wp ?_ | refine Wq ?_ | refine Wr ?_); (try simp only [go_sem, fN, seval, eT, iR, e0, e2, e4, s4, e8, e9, e12, e13, e14, hil', hp, dT, dF, nL]); (repeat refine Ai ?_); (try (refine hK _ ?_; clear hK K)); try refine iC ?_)
    simp only [go_sem, fN, seval, AK, AS.result, AB, AD, AI]
    rfl
   ·rw [List.take_of_length_le (by omega), hdrop] at hb
    cases b with
    | true =>
     have hT : EG true R x = true := by
      show Gu R x = true
      unfold Gu Rb
      rw [hf, hb]
      rfl
     have hfin := g1 hT
     rw [hfin]
     repeat' with_reducible first | refine W ?_ | refine Z0 ?_ | ((first | refine Wo fun K hK => ?_ | refine Wp ?_ | refine Wq ?_ | refine Wr ?_); (try simp only [go_sem, fN, seval, eT, iR, e0, e2, e4, s4, e8, e9, e12, e13, e14, hil, hp, dT, dF, nL]); (repeat refine Ai ?_); (try (refine hK _ ?_; clear hK K)); try refine iC ?_)
     simp only [go_sem, fN, seval, AK, AS.result, AB, AD, AI]
     rfl
    | false =>
     have hT : EG true R x = false := by
      show Gu R x = false
      unfold Gu Rb
      rw [hb]
      simp
     repeat' with_reducible first | refine W ?_ | refine Z0 ?_ | ((first | refine Wo fun K hK => ?_ | refine Wp ?_ | refine Wq ?_ | refine Wr ?_); (try simp only [go_sem, fN, seval, eT, iR, e0, e2, e4, s4, e8, e9, e12, e13, e14, hil, dT, dF, nL]); (repeat refine Ai ?_); (try (refine hK _ ?_; clear hK K)); try refine iC ?_)
     refine AF ⟨t.places.length - (k + 1), by omega, k + 1, by omega, rfl, g2 hT, ?_⟩
     simp only [go_sem, fN, seval, AS.drop, Ac, AC.clears, AC.clear, AC.highs, AC.high, Bool.not_false, Bool.true_and, Bool.and_self, AV.purge, AV.purges, AC.purge, AL.purge, List.contains_cons, List.contains_nil, Nat.reduceBEq, Bool.or_self, Bool.or_false, Bool.false_or, Bool.or_true, eT, iR, e0, e2, e4, s4, e8, e9]
     congr 3
 ·rw [List.take_of_length_le (by omega)] at hno
  rw [hno]
  repeat' with_reducible first | refine W ?_ | refine Z0 ?_ | ((first | refine Wo fun K hK => ?_ | refine Wp ?_ | refine Wq ?_ | refine Wr ?_); (try simp only [go_sem, fN, seval, eT, iR, e0, e2, e4, s4, e8, e9, hlt, dT, dF, nL]); (repeat refine Ai ?_); (try (refine hK _ ?_; clear hK K)); try refine iC ?_)
  simp only [go_sem, fN, seval, AK, AS.result, AB, AD, AI]
  rfl
theorem Ky {R : List Pr} {t : Tm} {r : Pr} {l : List Pr} : Bq R t (r :: l) = if Bc r.1 t = true then (if (Bw (A4 r.1 t) r.2).2 = true then some ((Bw (A4 r.1 t) r.2).1, 0) else some (Tm.nil, 8)) else Bq R t l := rfl
theorem Fw {R : List Pr} (hR : A1 R) (inner : Bool) (t0 : Tm) (hc0 : t0.chk = 0) (hz0 : t0.size ≤ 800000) (most : Nat) (hm : most ≤ 1000000) : AN Tryz.prog 37 [Bg R, aTm t0, AO most, Ad inner] (Fq (BN (GE inner R) most 0 t0)) := by
 have h40 := hR.len
 unfold Fq
 refine PM.ac fun C hC => ?_
 unfold KE
 repeat' with_reducible first | refine W ?_ | refine Z0 ?_ | ((first | refine Wo fun K hK => ?_ | refine Wp ?_ | refine Wq ?_ | refine Wr ?_); (try simp only [go_sem, fN, seval, eT, iR, dT, dF, nL]); (repeat refine Ai ?_); (try (refine hK _ ?_; clear hK K)); try refine iC ?_)
 refine IWP.loopD [14, 17] (fun m s => ∃ (n : Nat) (t : Tm), n ≤ most ∧ m = most - n ∧ BN (GE inner R) most 0 t0 = BN (GE inner R) (most - n) n t ∧ t.chk = 0 ∧ t.size ≤ 800000 ∧ s.env 0 = Bg R ∧ s.env 2 = AO most ∧ s.env 3 = Ad inner ∧ s.env 5 = .one (.ptr 5 1 0 0) ∧ s.env 8 = .one (.ptr 8 1 0 0) ∧ s.env 11 = AO n ∧ s.S 5 = some (FR t) ∧ s.S 8 = some QB ∧ s.S 14 = none ∧ s.S 17 = none)
  most ⟨0, t0, by omega, by omega, rfl, hc0, hz0, rfl, rfl, rfl, rfl, rfl, rfl, rfl, rfl, rfl, rfl⟩ ?_
 rintro m ⟨env, S⟩ ⟨n, t, hn, rfl, hend, hc, hz, e0, e2, e3, e5, e8, e11, s5, s8, s14, s17⟩
 simp only at e0 e2 e3 e5 e8 e11 s5 s8 s14 s17
 rw [hend]
 have hcon := UX hR inner t (by omega)
 have hfind := Po inner R t
 cases hp : t.findP (EG inner R) with
 | none =>
  rw [hp] at hcon hfind
  unfold Sv at hcon
  rw [Hs hfind]
  repeat' (first | (with_reducible first | refine W ?_ | refine Z0 ?_ | ((first | refine Wo fun K hK => ?_ | refine Wp ?_ | refine Wq ?_ | refine Wr ?_); (try simp only [go_sem, fN, seval, eT, iR, e0, e2, e3, e5, e8, e11, s5, s8, s14, s17, dT, dF, nL]); (repeat refine Ai ?_); (try (refine hK _ ?_; clear hK K)); try refine iC ?_)) | refine Cg _ (hcon) ?_)
  simp only [go_sem, fN, seval, AK, AS.result, AB, AD, AI, e8, s8]
 | some p =>
  obtain ⟨x, hx, hTx, hxk⟩ := Tm.findP_at _ t p hp
  have hxz := De t x hxk
  have hat := O6 p t
  rw [hx] at hat
  rw [hp] at hcon hfind
  unfold Sv at hcon
  simp only [DQ, hx] at hfind
  cases hr : Cn R x with
  | none =>
   exfalso
   have h1 := MC hTx
   rw [Ch.1 hr] at h1
   cases h1
  | some r =>
   obtain ⟨y, e⟩ := r
   rw [hr] at hfind
   simp only [Option.map_some] at hfind
   obtain ⟨g1, g2, g3⟩ := O1 hR hc hfind
   have hput := QW p t (by omega) y (by rw [hx]; rfl)
   by_cases hmost : n = most
   ·have hmi : (n : Int) = most := by omega
    rw [show most - n = 0 by omega, Hv hfind]
    repeat' (first | (with_reducible first | refine W ?_ | refine Z0 ?_ | ((first | refine Wo fun K hK => ?_ | refine Wp ?_ | refine Wq ?_ | refine Wr ?_); (try simp only [go_sem, fN, seval, eT, iR, e0, e2, e3, e5, e8, e11, s5, s8, s14, s17, hmi, dT, dF, nL]); (repeat refine Ai ?_); (try (refine hK _ ?_; clear hK K)); try refine iC ?_)) | refine Cg _ (hcon) ?_)
    simp only [go_sem, fN, seval, AK, AS.result, AB, AD, AI, e8, s8]
    rfl
   have hmi : ¬ (n : Int) = most := by omega
   obtain ⟨k0, hk0⟩ : ∃ k, most - n = k + 1 := ⟨most - n - 1, by omega⟩
   rw [hk0]
   repeat' (first | (with_reducible first | refine W ?_ | refine Z0 ?_ | ((first | refine Wo fun K hK => ?_ | refine Wp ?_ | refine Wq ?_ | refine Wr ?_); (try simp only [go_sem, fN, seval, eT, iR, e0, e2, e3, e5, e8, e11, s5, s8, s14, s17, hmi, dT, dF, nL]); (repeat refine Ai ?_); (try (refine hK _ ?_; clear hK K)); try refine iC ?_)) | refine Cg _ (hcon) ?_ | refine Cg _ (hat) ?_)
   refine IWP.loopD [17] (fun m s => ∃ k, k ≤ R.length ∧ m = R.length - k ∧ Bq R x (R.drop k) = some (y, e) ∧ s.env 0 = Bg R ∧ s.env 2 = AO most ∧ s.env 3 = Ad inner ∧ s.env 5 = .one (.ptr 5 1 0 0) ∧ s.env 8 = .one (.ptr 8 1 0 0) ∧ s.env 11 = AO (n + 1) ∧ s.env 12 = FQ p ∧ s.env 14 = .one (.ptr 14 1 0 0) ∧ s.env 16 = AO k ∧ s.S 5 = some (FR t) ∧ s.S 8 = some QB ∧ s.S 14 = some (FR x) ∧ s.S 17 = none) R.length ⟨0, Nat.zero_le _, rfl, hr, ?_⟩ ?_
   ·simp only [go_sem, fN, seval, eT, iR, e0, e2, e3, e5, e8, e11, s5, s8, s14, s17]
   rintro m ⟨env, S⟩ ⟨k, hk, rfl, hrk, e0, e2, e3, e5, e8, e11, e12, e14, e16, s5, s8, s14, s17⟩
   simp only at e0 e2 e3 e5 e8 e11 e12 e14 e16 s5 s8 s14 s17
   by_cases hkl : k < R.length
   case neg =>
    rw [List.drop_of_length_le (by omega)] at hrk
    cases hrk
   case pos =>
   have hlt : (k : Int) < R.length := by omega
   obtain ⟨q, hq⟩ := Af hkl
   have hmem := AP hq
   have z1 := (Tm.may_chk (hR.left q hmem)).2
   have z2 := (Tm.may_chk (hR.right q hmem)).2
   rw [Bf hq, Ky] at hrk
   have hfits := R3 q x (by omega) (by omega) (by omega)
   unfold QS at hfits
   by_cases hcase : Bc q.1 x = true
   case neg =>
    rw [if_neg hcase] at hrk hfits
    repeat' (first | (with_reducible first | refine W ?_ | refine Z0 ?_ | ((first | refine Wo fun K hK => ?_ | refine Wp ?_ | refine Wq ?_ | refine Wr ?_); (try simp only [go_sem, fN, seval, eT, iR, e0, e2, e3, e5, e8, e11, e12, e14, e16, s5, s8, s14, s17, hlt, hq, CR, dT, dF, nL]); (repeat refine Ai ?_); (try (refine hK _ ?_; clear hK K)); try refine iC ?_)) | refine Cg _ (hfits) ?_)
    refine AF ⟨R.length - (k + 1), by omega, k + 1, by omega, rfl, hrk, ?_⟩
    simp only [go_sem, fN, seval, AS.drop, Ac, AC.clears, AC.clear, AC.highs, AC.high, Bool.not_false, Bool.true_and, Bool.and_self, AV.purge, AV.purges, AC.purge, AL.purge, List.contains_cons, List.contains_nil, Nat.reduceBEq, Bool.or_self, Bool.or_false, Bool.false_or, Bool.or_true, eT, iR, e0, e2, e3, e5, e8, e11, e12, e14, e16, s5, s8, s14, s17]
    congr 3
   case pos =>
   rw [if_pos hcase] at hrk hfits
   by_cases hon : (Bw (A4 q.1 x) q.2).2 = true
   case neg =>
    rw [if_neg hon] at hrk
    simp only [Bool.not_eq_true] at hon
    rw [hon] at hfits
    cases hrk
    rw [KA hfind (by decide)]
    repeat' (first | (with_reducible first | refine W ?_ | refine Z0 ?_ | ((first | refine Wo fun K hK => ?_ | refine Wp ?_ | refine Wq ?_ | refine Wr ?_); (try simp only [go_sem, fN, seval, eT, iR, e0, e2, e3, e5, e8, e11, e12, e14, e16, s5, s8, s14, s17, hlt, hq, CR, dT, dF, nL]); (repeat refine Ai ?_); (try (refine hK _ ?_; clear hK K)); try refine iC ?_)) | refine Cg _ (hfits) ?_)
    simp only [go_sem, fN, seval, AK, AS.result, AB, AD, AI, e8, s8]
    rfl
   case pos =>
   rw [if_pos hon] at hrk
   rw [hon] at hfits
   simp only [Option.some.injEq, Prod.mk.injEq] at hrk
   obtain ⟨hy, he⟩ := hrk
   subst he
   rw [hy] at hfits
   have hsz := DF (t.putP p y) 2000 (by omega) (by omega)
   by_cases hgr : 2000 < (t.putP p y).size
   ·rw [Gy hfind hgr]
    have hg : (2000 : Int) < Az (t.putP p y).size 2000 := by unfold Az; split <;> omega
    repeat' (first | (with_reducible first | refine W ?_ | refine Z0 ?_ | ((first | refine Wo fun K hK => ?_ | refine Wp ?_ | refine Wq ?_ | refine Wr ?_); (try simp only [go_sem, fN, seval, eT, iR, e0, e2, e3, e5, e8, e11, e12, e14, e16, s5, s8, s14, s17, hlt, hq, CR, hg, dT, dF, nL]); (repeat refine Ai ?_); (try (refine hK _ ?_; clear hK K)); try refine iC ?_)) | refine Cg _ (hfits) ?_ | refine Cg _ (hput) ?_ | refine Cg _ (hsz) ?_)
    simp only [go_sem, fN, seval, AK, AS.result, AB, AD, AI, e8, s8]
    rfl
   ·have hg : ¬ (2000 : Int) < Az (t.putP p y).size 2000 := by unfold Az; split <;> omega
    repeat' (first | (with_reducible first | refine W ?_ | refine Z0 ?_ | ((first | refine Wo fun K hK => ?_ | refine Wp ?_ | refine Wq ?_ | refine Wr ?_); (try simp only [go_sem, fN, seval, eT, iR, e0, e2, e3, e5, e8, e11, e12, e14, e16, s5, s8, s14, s17, hlt, hq, CR, hg, dT, dF, nL]); (repeat refine Ai ?_); (try (refine hK _ ?_; clear hK K)); try refine iC ?_)) | refine Cg _ (hfits) ?_ | refine Cg _ (hput) ?_ | refine Cg _ (hsz) ?_)
    refine AF ⟨most - (n + 1), by omega, n + 1, t.putP p y, by omega, rfl, ?_, g2 rfl, by omega, ?_⟩
    ·rw [show most - (n + 1) = k0 by omega]
     exact MN hfind hgr k0 n
    ·simp only [go_sem, fN, seval, AS.drop, Ac, AC.clears, AC.clear, AC.highs, AC.high, Bool.not_false, Bool.true_and, Bool.and_self, AV.purge, AV.purges, AC.purge, AL.purge, List.contains_cons, List.contains_nil, Nat.reduceBEq, Bool.or_self, Bool.or_false, Bool.false_or, Bool.or_true, eT, iR, e0, e2, e3, e5, e8, e11, e12, e14, e16, s5, s8, s14, s17]
     congr 3
theorem UE {R : List Pr} (hR : A1 R) (a b : Tm) (ha : a.chk = 0) (hb : b.chk = 0) (za : a.size ≤ 800000) (zb : b.size ≤ 800000) (most : Nat) (hm : most ≤ 1000000) : AN Tryz.prog 38 [Bg R, aTm a, aTm b, AO most] (.tup [Ad (HQ R most a b).1, AO (HQ R most a b).2]) := by
 have l1 := Fw hR true a ha za most hm
 have l2 := Fw hR true b hb zb most hm
 have e : GE true R = Tm.inn R := rfl
 rw [e] at l1 l2
 have hmet : HQ R most a b = if (BN (Tm.inn R) most 0 a).2.2 ≠ 0 then (false, (BN (Tm.inn R) most 0 a).2.2) else if (BN (Tm.inn R) most 0 b).2.2 ≠ 0 then (false, (BN (Tm.inn R) most 0 b).2.2) else ((BN (Tm.inn R) most 0 a).1.beq (BN (Tm.inn R) most 0 b).1, 0) := rfl
 rw [hmet]
 unfold Fq at l1 l2
 generalize BN (Tm.inn R) most 0 a = x at *
 generalize BN (Tm.inn R) most 0 b = y at *
 clear hmet
 refine OS.ac fun C hC => ?_
 unfold Ig
 by_cases h1 : x.2.2 = 0
 case neg =>
  rw [if_pos h1]
  repeat' (first | (with_reducible first | refine W ?_ | refine Z0 ?_ | ((first | refine Wo fun K hK => ?_ | refine Wp ?_ | refine Wq ?_ | refine Wr ?_); (try simp only [go_sem, fN, seval, eT, iR, h1, dT, dF, nL]); (repeat refine Ai ?_); (try (refine hK _ ?_; clear hK K)); try refine iC ?_)) | refine Cg _ (l1) ?_)
  simp only [go_sem, fN, seval, AK, AS.result, AB, AD, AI]
 case pos =>
 rw [if_neg (fun h => h h1)]
 by_cases h2 : y.2.2 = 0
 case neg =>
  rw [if_pos h2]
  repeat' (first | (with_reducible first | refine W ?_ | refine Z0 ?_ | ((first | refine Wo fun K hK => ?_ | refine Wp ?_ | refine Wq ?_ | refine Wr ?_); (try simp only [go_sem, fN, seval, eT, iR, h1, h2, dT, dF, nL]); (repeat refine Ai ?_); (try (refine hK _ ?_; clear hK K)); try refine iC ?_)) | refine Cg _ (l1) ?_ | refine Cg _ (l2) ?_)
  simp only [go_sem, fN, seval, AK, AS.result, AB, AD, AI]
 case pos =>
 rw [if_neg (fun h => h h2)]
 repeat' (first | (with_reducible first | refine W ?_ | refine Z0 ?_ | ((first | refine Wo fun K hK => ?_ | refine Wp ?_ | refine Wq ?_ | refine Wr ?_); (try simp only [go_sem, fN, seval, eT, iR, h1, h2, dT, dF, nL]); (repeat refine Ai ?_); (try (refine hK _ ?_; clear hK K)); try refine iC ?_)) | refine Cg _ (l1) ?_ | refine Cg _ (l2) ?_ | refine Cg _ (JC x.1 y.1) ?_)
 simp only [go_sem, fN, seval, AK, AS.result, AB, AD, AI]

set_option maxRecDepth 100000
def Fl : IR :=
 (.seq (.ops [.i 2 (.mov (.c (.one (.st (.bool false)))))]) (.seq (.seq (.ops [.i 3 (.mov (.n 0))]) (.block 0 (.loop (.seq (.seq (.ops [.m 4 3, .m 5 0, .i 6 (.len false (.t 5)), .i 7 (.bin .lss (.t 4) (.t 6))]) (.cond (.t 7) .skip (.exit 0))) (.seq (.block 1 (.seq (.ops [.m 10 0, .m 11 3, .i 12 (.indexAddr 4 (.t 10) (.t 11)), .f 13 0 12, .L 14 2 13, .i 15 (.call 6 [.t 14]), .m 16 15, .mk (some 17) (some (16, false)) (.mov (.t 0)) .no, .mk (some 18) (some (16, false)) (.mov (.t 3)) .no, .mk (some 19) (some (16, false)) (.indexAddr 4 (.t 17) (.t 18)) .no, .mk (some 20) (some (16, false)) (.fieldAddr 2 (.t 19)) .no, .mk (some 21) (some (16, false)) (.load true 2 (.t 20)) .no, .mk (some 22) (some (16, false)) (.call 6 [.t 21]) .no, .i 23 (.pick (.t 16) (.c (.one (.st (.bool true)))) (.t 22))]) (.cond (.t 23) (.seq (.ops [.i 2 (.mov (.c (.one (.st (.bool true)))))]) .ret) .skip))) (.ops [.m 8 3, .i 9 (.bin .add (.t 8) (.n 1)), .m 3 9])))))) (.seq (.ops [.m 24 0, .i 25 (.len false (.t 24)), .i 26 (.bin .gtr (.t 25) (.n 100)), .m 2 26]) .ret)))
theorem KR : OkF Tryz.prog 5 27 [] Fl [.t 2] := .of Tryz.func5 rfl rfl (by kernel_rfl) rfl

def Gv (l : List Pr) : Bool := l.any (fun p => decide (3000 < p.1.size) || decide (3000 < p.2.size)) || decide (100 < l.length)
theorem AU (l : List Pr) : AN Tryz.prog 5 [Bg l] (Ad (Gv l)) := by
 refine KR.ac fun C hC => ?_
 unfold Fl
 refine IWP.learn 0 (by omega) fun hkn => ?_
 have hkn := Dd hkn
 rw [List.length_map] at hkn
 repeat' with_reducible first | refine W ?_ | refine Z0 ?_ | ((first | refine Wo fun K hK => ?_ | refine Wp ?_ | refine Wq ?_ | refine Wr ?_); (try simp only [go_sem, fN, seval, eT, iR, dT, dF, nL]); (repeat refine Ai ?_); (try (refine hK _ ?_; clear hK K)); try refine iC ?_)
 refine IWP.loop (fun m s => ∃ k, k ≤ l.length ∧ m = l.length - k ∧ (l.take k).any (fun p => decide (3000 < p.1.size) || decide (3000 < p.2.size)) = false ∧ s.env 0 = Bg l ∧ s.env 3 = AO k) l.length ⟨0, Nat.zero_le _, rfl, rfl, rfl, rfl⟩ ?_
 rintro m ⟨env, S⟩ ⟨k, hk, rfl, h0, e0, e3⟩
 simp only at e0 e3
 by_cases hlt : (k : Int) < l.length
 ·obtain ⟨p, hp⟩ := Af (show k < l.length by omega)
  repeat' with_reducible first | refine W ?_ | refine Z0 ?_ | ((first | refine Wo fun K hK => ?_ | refine Wp ?_ | refine Wq ?_ | refine Wr ?_); (try simp only [go_sem, fN, seval, eT, iR, e0, e3, hlt, hp, CR, dT, dF, nL]); (repeat refine Ai ?_); (try (refine hK _ ?_; clear hK K)); try refine iC ?_)
  refine ⟨_, An p.1, ?_⟩
  by_cases hz : 3000 < p.1.size
  ·repeat' with_reducible first | refine W ?_ | refine Z0 ?_ | ((first | refine Wo fun K hK => ?_ | refine Wp ?_ | refine Wq ?_ | refine Wr ?_); (try simp only [go_sem, fN, seval, eT, iR, hz, dT, dF, nL]); (repeat refine Ai ?_); (try (refine hK _ ?_; clear hK K)); try refine iC ?_)
   simp only [go_sem, fN, seval, AK, AS.result, AB, AD, AI]
   have : l.any (fun p => decide (3000 < p.1.size) || decide (3000 < p.2.size)) = true := List.any_eq_true.2 ⟨p, AP hp, by simp [hz]⟩
   unfold Gv
   rw [this]
   rfl
  ·repeat' with_reducible first | refine W ?_ | refine Z0 ?_ | ((first | refine Wo fun K hK => ?_ | refine Wp ?_ | refine Wq ?_ | refine Wr ?_); (try simp only [go_sem, fN, seval, eT, iR, hz, e0, e3, hp, CR, dT, dF, nL]); (repeat refine Ai ?_); (try (refine hK _ ?_; clear hK K)); try refine iC ?_)
   refine ⟨_, An p.2, ?_⟩
   by_cases hy : 3000 < p.2.size
   ·repeat' with_reducible first | refine W ?_ | refine Z0 ?_ | ((first | refine Wo fun K hK => ?_ | refine Wp ?_ | refine Wq ?_ | refine Wr ?_); (try simp only [go_sem, fN, seval, eT, iR, hy, dT, dF, nL]); (repeat refine Ai ?_); (try (refine hK _ ?_; clear hK K)); try refine iC ?_)
    simp only [go_sem, fN, seval, AK, AS.result, AB, AD, AI]
    have : l.any (fun p => decide (3000 < p.1.size) || decide (3000 < p.2.size)) = true := List.any_eq_true.2 ⟨p, AP hp, by simp [hy]⟩
    unfold Gv
    rw [this]
    rfl
   ·repeat' with_reducible first | refine W ?_ | refine Z0 ?_ | ((first | refine Wo fun K hK => ?_ | refine Wp ?_ | refine Wq ?_ | refine Wr ?_); (try simp only [go_sem, fN, seval, eT, iR, hy, e0, e3, dT, dF, nL]); (repeat refine Ai ?_); (try (refine hK _ ?_; clear hK K)); try refine iC ?_)
    refine AF ⟨l.length - (k + 1), by omega, k + 1, by omega, rfl, ?_, ?_⟩
    ·rw [Ak hp, List.any_append, h0]
     simp [hz, hy]
    ·simp only [go_sem, fN, seval, eT, iR, e0, e3]
     congr 3
 ·repeat' with_reducible first | refine W ?_ | refine Z0 ?_ | ((first | refine Wo fun K hK => ?_ | refine Wp ?_ | refine Wq ?_ | refine Wr ?_); (try simp only [go_sem, fN, seval, eT, iR, e0, e3, hlt, dT, dF, nL]); (repeat refine Ai ?_); (try (refine hK _ ?_; clear hK K)); try refine iC ?_)
  simp only [go_sem, fN, seval, AK, AS.result, AB, AD, AI]
  rw [List.take_of_length_le (by omega)] at h0
  unfold Gv
  rw [h0, Bool.false_or]
  congr 4
  simp
  omega

def Eu (R : List Pr) (t : Tm) : List Tm × Int := match C9 R t with
 | none => ([], 8)
 | some l => (l, 0)
def Cx (R : List Pr) (t : Tm) : List Tm × Int := if CA R t = 0 then Eu R t else ([], CA R t)
theorem Qg (R : List Pr) (t : Tm) : Ce (C9 R t) = .tup [FH (Eu R t).1, AO (Eu R t).2] := by
 unfold Eu Ce
 cases C9 R t <;> rfl
theorem Nh (R : List Pr) (t : Tm) : AN Tryz.prog 34 [Bg R, aTm t] (.tup [FH (Cx R t).1, AO (Cx R t).2]) := by
 unfold Cx
 refine Hq.ac fun C hC => ?_
 unfold EQ
 by_cases ha : CA R t = 0
 ·rw [if_pos ha]
  obtain ⟨hR, hc, hz⟩ := Ek ha
  have hon := SI hR t hc (by omega)
  rw [Qg] at hon
  repeat' (first | (with_reducible first | refine W ?_ | refine Z0 ?_ | ((first | refine Wo fun K hK => ?_ | refine Wp ?_ | refine Wq ?_ | refine Wr ?_); (try simp only [go_sem, fN, seval, eT, iR, ha, dT, dF, nL]); (repeat refine Ai ?_); (try (refine hK _ ?_; clear hK K)); try refine iC ?_)) | refine Cg _ (BP R t) ?_ | refine Cg _ (hon) ?_)
  simp only [go_sem, fN, seval, AK, AS.result, AB, AD, AI]
 ·rw [if_neg ha]
  repeat' (first | (with_reducible first | refine W ?_ | refine Z0 ?_ | ((first | refine Wo fun K hK => ?_ | refine Wp ?_ | refine Wq ?_ | refine Wr ?_); (try simp only [go_sem, fN, seval, eT, iR, ha, dT, dF, nL]); (repeat refine Ai ?_); (try (refine hK _ ?_; clear hK K)); try refine iC ?_)) | refine Cg _ (BP R t) ?_)
  simp only [go_sem, fN, seval, AK, AS.result, AB, AD, AI]
  rfl
theorem OO {R : List Pr} (hR : A1 R) (t : Tm) (hc : t.chk = 0) (hz : t.size ≤ 2000) : AN Tryz.prog 25 [Bg R, aTm t] (Ce (C9 R t)) := by
 have h40 := hR.len
 have hpl := Tm.places_length t
 unfold C9
 refine Mn.ac fun C hC => ?_
 unfold HK
 repeat' (first | (with_reducible first | refine W ?_ | refine Z0 ?_ | ((first | refine Wo fun K hK => ?_ | refine Wp ?_ | refine Wq ?_ | refine Wr ?_); (try simp only [go_sem, fN, seval, eT, iR, dT, dF, nL]); (repeat refine Ai ?_); (try (refine hK _ ?_; clear hK K)); try refine iC ?_)) | refine Cg _ (LB t (by omega)) ?_)
 refine IWP.ghost (Aa.own 7 500 25 2 (xs := []) rfl rfl (by simp) (by omega)) ?_
 refine IWP.loopD [9, 12] (fun m s => ∃ i out, i ≤ t.places.length ∧ m = t.places.length - i ∧ BB R ((t.places.take i).map (HO [] t)) = some out ∧ s.env 0 = Bg R ∧ s.env 3 = .one (.ptr 3 1 0 0) ∧ s.env 6 = Qp t.places ∧ s.env 7 = .one (.row 500 out.length) ∧ s.env 8 = AO i ∧ s.S 3 = some (FR t) ∧ s.S 9 = none ∧ s.S 12 = none ∧ s.S 500 = some (.arow 25 2 (out.map Al))) t.places.length ⟨0, [], Nat.zero_le _, rfl, rfl, rfl, rfl, rfl, rfl, rfl, rfl, rfl, rfl, rfl⟩ ?_
 rintro m ⟨env, S⟩ ⟨i, out, hi, rfl, ho, e0, e3, e6, e7, e8, s3, s9, s12, s500⟩
 simp only at e0 e3 e6 e7 e8 s3 s9 s12 s500
 by_cases hlt : i < t.places.length
 case neg =>
  rw [List.take_of_length_le (by omega)] at ho
  rw [ho]
  have hlt' : ¬ (i : Int) < t.places.length := by omega
  have hl : (out.map Al).length = out.length := by simp
  unfold Ce
  repeat' with_reducible first | refine W ?_ | refine Z0 ?_ | ((first | refine Wo fun K hK => ?_ | refine Wp ?_ | refine Wq ?_ | refine Wr ?_); (try simp only [go_sem, fN, seval, eT, iR, e0, e3, e6, e7, e8, s3, s9, s12, s500, hlt', dT, dF, nL]); (repeat refine Ai ?_); (try (refine hK _ ?_; clear hK K)); try refine iC ?_)
  simp only [go_sem, fN, seval, AK, AS.result, AB, AD, AI, s500, hl]
 obtain ⟨p, hp⟩ := Af hlt
 have hlt' : (i : Int) < t.places.length := by omega
 obtain ⟨x, hx, hxk⟩ := F2 t p (AP hp)
 have hxz := De t x hxk
 have hat := O6 p t
 rw [hx] at hat
 have hlen := C2 ho
 rw [List.length_map, List.length_take] at hlen
 have hlen2 : out.length ≤ 80000 := Nat.le_trans hlen (Nat.mul_le_mul (show min i t.places.length ≤ 2000 by omega) h40)
 obtain ⟨q, hq⟩ : ∃ q, HO [] t p = q := ⟨_, rfl⟩
 have q1 : ∀ y, q.1 y = t.putP p y := fun y => by rw [← hq]; rfl
 have q2 : q.2 = x := by rw [← hq]; show (t.atP p).getD Tm.nil = x; rw [hx]; rfl
 have hnext : ∀ o, CE q R = some o → BB R ((t.places.take (i + 1)).map (HO [] t)) = some (out ++ o) := fun o h => by
  rw [Ak hp, List.map_append]
  exact IV ho (by rw [hq]; exact h)
 have hbad : CE q R = none → BB R (t.places.map (HO [] t)) = none := fun h => by
  have e : t.places = t.places.take i ++ p :: t.places.drop (i + 1) := by rw [← Bf hp, List.take_append_drop]
  rw [e, List.map_append, List.map_cons]
  exact J8 (by rw [hq]; exact h)
 repeat' (first | (with_reducible first | refine W ?_ | refine Z0 ?_ | ((first | refine Wo fun K hK => ?_ | refine Wp ?_ | refine Wq ?_ | refine Wr ?_); (try simp only [go_sem, fN, seval, eT, iR, e0, e3, e6, e7, e8, s3, s9, s12, s500, hlt', hp, dT, dF, nL]); (repeat refine Ai ?_); (try (refine hK _ ?_; clear hK K)); try refine iC ?_)) | refine Cg _ (hat) ?_)
 refine IWP.loopD [12] (fun m s => ∃ k o2, k ≤ R.length ∧ o2.length ≤ k ∧ m = R.length - k ∧ CE q R = (CE q (R.drop k)).map (o2 ++ ·) ∧ s.env 0 = Bg R ∧ s.env 3 = .one (.ptr 3 1 0 0) ∧ s.env 6 = Qp t.places ∧ s.env 7 = .one (.row 500 (out ++ o2).length) ∧ s.env 8 = AO i ∧ s.env 9 = .one (.ptr 9 1 0 0) ∧ s.env 11 = AO k ∧ s.S 3 = some (FR t) ∧ s.S 9 = some (FR x) ∧ s.S 12 = none ∧ s.S 500 = some (.arow 25 2 ((out ++ o2).map Al))) R.length ⟨0, [], Nat.zero_le _, Nat.zero_le _, rfl, by simp, ?_⟩ ?_
 ·simp only [go_sem, fN, seval, eT, iR, e0, e3, e6, e7, e8, s3, s9, s12, s500, List.append_nil]
 rintro m ⟨env, S⟩ ⟨k, o2, hk, hko, rfl, hoff, e0, e3, e6, e7, e8, e9, e11, s3, s9, s12, s500⟩
 simp only at e0 e3 e6 e7 e8 e9 e11 s3 s9 s12 s500
 by_cases hkl : k < R.length
 case neg =>
  have hkl' : ¬ (k : Int) < R.length := by omega
  rw [List.drop_of_length_le (by omega)] at hoff
  simp only [CE, Option.map_some, List.append_nil] at hoff
  repeat' with_reducible first | refine W ?_ | refine Z0 ?_ | ((first | refine Wo fun K hK => ?_ | refine Wp ?_ | refine Wq ?_ | refine Wr ?_); (try simp only [go_sem, fN, seval, eT, iR, e0, e3, e6, e7, e8, e9, e11, s3, s9, s12, s500, hkl', dT, dF, nL]); (repeat refine Ai ?_); (try (refine hK _ ?_; clear hK K)); try refine iC ?_)
  refine AF ⟨t.places.length - (i + 1), by omega, i + 1, out ++ o2, by omega, rfl, hnext _ hoff, ?_⟩
  simp only [go_sem, fN, seval, AS.drop, Ac, AC.clears, AC.clear, AC.highs, AC.high, Bool.not_false, Bool.true_and, Bool.and_self, AV.purge, AV.purges, AC.purge, AL.purge, List.contains_cons, List.contains_nil, Nat.reduceBEq, Bool.or_self, Bool.or_false, Bool.false_or, Bool.or_true, eT, iR, e0, e3, e6, e7, e8, e9, e11, s3, s9, s12, s500]
  congr 3
 obtain ⟨r, hr⟩ := Af hkl
 have hkl' : (k : Int) < R.length := by omega
 have hmem := AP hr
 have z1 := (Tm.may_chk (hR.left r hmem)).2
 have z2 := (Tm.may_chk (hR.right r hmem)).2
 have hfits := R3 r x (by omega) (by omega) (by omega)
 unfold QS at hfits
 rw [Bf hr, CE, q2] at hoff
 by_cases hcase : Bc r.1 x = true
 case neg =>
  rw [if_neg hcase] at hoff hfits
  repeat' (first | (with_reducible first | refine W ?_ | refine Z0 ?_ | ((first | refine Wo fun K hK => ?_ | refine Wp ?_ | refine Wq ?_ | refine Wr ?_); (try simp only [go_sem, fN, seval, eT, iR, e0, e3, e6, e7, e8, e9, e11, s3, s9, s12, s500, hkl', hr, CR, dT, dF, nL]); (repeat refine Ai ?_); (try (refine hK _ ?_; clear hK K)); try refine iC ?_)) | refine Cg _ (hfits) ?_)
  refine AF ⟨R.length - (k + 1), by omega, k + 1, o2, by omega, by omega, rfl, hoff, ?_⟩
  simp only [go_sem, fN, seval, AS.drop, Ac, AC.clears, AC.clear, AC.highs, AC.high, Bool.not_false, Bool.true_and, Bool.and_self, AV.purge, AV.purges, AC.purge, AL.purge, List.contains_cons, List.contains_nil, Nat.reduceBEq, Bool.or_self, Bool.or_false, Bool.false_or, Bool.or_true, eT, iR, e0, e3, e6, e7, e8, e9, e11, s3, s9, s12, s500]
  congr 3
 rw [if_pos hcase] at hoff hfits
 have hyz : (Bw (A4 r.1 x) r.2).1.size ≤ 2000 := K6
 generalize Bw (A4 r.1 x) r.2 = yg at hoff hfits hyz
 obtain ⟨y, g⟩ := yg
 simp only [q1] at hoff
 by_cases hg : g = true
 case neg =>
  rw [if_neg (fun h => hg h.1), Option.map_none] at hoff
  simp only [Bool.not_eq_true] at hg
  rw [hg] at hfits
  rw [hbad hoff]
  unfold Ce
  repeat' (first | (with_reducible first | refine W ?_ | refine Z0 ?_ | ((first | refine Wo fun K hK => ?_ | refine Wp ?_ | refine Wq ?_ | refine Wr ?_); (try simp only [go_sem, fN, seval, eT, iR, e0, e3, e6, e7, e8, e9, e11, s3, s9, s12, s500, hkl', hr, CR, dT, dF, nL]); (repeat refine Ai ?_); (try (refine hK _ ?_; clear hK K)); try refine iC ?_)) | refine Cg _ (hfits) ?_)
  simp only [go_sem, fN, seval, AK, AS.result, AB, AD, AI]
  rfl
 subst hg
 have hput := QW p t (by omega) y (by rw [hx]; rfl)
 have hsz := DF (t.putP p y) 2000 (by omega) (by omega)
 have hpz := IM p t y
 by_cases hgr : (t.putP p y).size ≤ 2000
 case neg =>
  have hgi : (2000 : Int) < Az (t.putP p y).size 2000 := by unfold Az; split <;> omega
  rw [if_neg (fun h => hgr h.2), Option.map_none] at hoff
  rw [hbad hoff]
  unfold Ce
  repeat' (first | (with_reducible first | refine W ?_ | refine Z0 ?_ | ((first | refine Wo fun K hK => ?_ | refine Wp ?_ | refine Wq ?_ | refine Wr ?_); (try simp only [go_sem, fN, seval, eT, iR, e0, e3, e6, e7, e8, e9, e11, s3, s9, s12, s500, hkl', hr, CR, hgi, hp, dT, dF, nL]); (repeat refine Ai ?_); (try (refine hK _ ?_; clear hK K)); try refine iC ?_)) | refine Cg _ (hfits) ?_ | refine Cg _ (hput) ?_ | refine Cg _ (hsz) ?_)
  simp only [go_sem, fN, seval, AK, AS.result, AB, AD, AI]
  rfl
 have hgi : ¬ (2000 : Int) < Az (t.putP p y).size 2000 := by unfold Az; split <;> omega
 rw [if_pos ⟨rfl, hgr⟩, Option.map_map] at hoff
 have hl2 : ((out ++ o2).map Al).length = (out ++ o2).length := by simp
 repeat' (first | (with_reducible first | refine W ?_ | refine Z0 ?_ | ((first | refine Wo fun K hK => ?_ | refine Wp ?_ | refine Wq ?_ | refine Wr ?_); (try simp only [go_sem, fN, seval, eT, iR, e0, e3, e6, e7, e8, e9, e11, s3, s9, s12, s500, hkl', hr, CR, hgi, hp, hl2, dT, dF, nL]); (repeat refine Ai ?_); (try (refine hK _ ?_; clear hK K)); try refine iC ?_)) | refine Cg _ (hfits) ?_ | refine Cg _ (hput) ?_ | refine Cg _ (hsz) ?_)
 refine AF ⟨R.length - (k + 1), by omega, k + 1, o2 ++ [t.putP p y], by omega, by simp only [List.length_append, List.length_singleton]; omega, rfl, ?_, ?_⟩
 ·rw [hoff]
  congr 1
  funext l
  simp
 ·simp only [go_sem, fN, seval, AS.drop, Ac, AC.clears, AC.clear, AC.highs, AC.high, Bool.not_false, Bool.true_and, Bool.and_self, AV.purge, AV.purges, AC.purge, AL.purge, List.contains_cons, List.contains_nil, Nat.reduceBEq, Bool.or_self, Bool.or_false, Bool.false_or, Bool.or_true, eT, iR, e0, e3, e6, e7, e8, e9, e11, s3, s9, s12, s500]
  refine ⟨by rw [Nat.add_assoc], by congr 3, ?_⟩
  congr 1
  simp [BI]
theorem Kf (R : List Pr) (t : Tm) : AN Tryz.prog 16 [Bg R, aTm t] (Ad true) := by
 have cP := Nh R t
 by_cases g1 : Gv R = true
 ·refine Bb.ac fun C hC => ?_
  unfold BO
  repeat' (first | (with_reducible first | refine W ?_ | refine Z0 ?_ | ((first | refine Wo fun K hK => ?_ | refine Wp ?_ | refine Wq ?_ | refine Wr ?_); (try simp only [go_sem, fN, seval, eT, iR, g1, dT, dF, nL]); (repeat refine Ai ?_); (try (refine hK _ ?_; clear hK K)); try refine iC ?_)) | refine Cg _ (AU R) ?_)
  simp only [go_sem, fN, seval, AK, AS.result, AB, AD, AI]
 by_cases g2 : 3000 < t.size
 ·refine Bb.ac fun C hC => ?_
  unfold BO
  repeat' (first | (with_reducible first | refine W ?_ | refine Z0 ?_ | ((first | refine Wo fun K hK => ?_ | refine Wp ?_ | refine Wq ?_ | refine Wr ?_); (try simp only [go_sem, fN, seval, eT, iR, g1, g2, dT, dF, nL]); (repeat refine Ai ?_); (try (refine hK _ ?_; clear hK K)); try refine iC ?_)) | refine Cg _ (AU R) ?_ | refine Cg _ (An t) ?_)
  simp only [go_sem, fN, seval, AK, AS.result, AB, AD, AI]
 by_cases h0 : A3 R = 0
 case neg =>
  have ha : CA R t = A3 R := if_neg h0
  have hP : Cx R t = ([], A3 R) := by unfold Cx; rw [ha, if_neg h0]
  rw [hP] at cP
  dsimp only at cP
  refine Bb.ac fun C hC => ?_
  unfold BO
  repeat' (first | (with_reducible first | refine W ?_ | refine Z0 ?_ | ((first | refine Wo fun K hK => ?_ | refine Wp ?_ | refine Wq ?_ | refine Wr ?_); (try simp only [go_sem, fN, seval, eT, iR, g1, g2, h0, dT, dF, nL]); (repeat refine Ai ?_); (try (refine hK _ ?_; clear hK K)); try refine iC ?_)) | refine Cg _ (AU R) ?_ | refine Cg _ (An t) ?_ | refine Cg _ (Ah R) ?_ | refine Cg _ (cP) ?_ | refine Cg _ (DB R) ?_)
  simp only [go_sem, fN, seval, AK, AS.result, AB, AD, AI]
 case pos =>
 have ha : CA R t = t.may := if_pos h0
 by_cases h1 : t.may = 0
 case neg =>
  have hP : Cx R t = ([], t.may) := by unfold Cx; rw [ha, if_neg h1]
  rw [hP] at cP
  dsimp only at cP
  refine Bb.ac fun C hC => ?_
  unfold BO
  repeat' (first | (with_reducible first | refine W ?_ | refine Z0 ?_ | ((first | refine Wo fun K hK => ?_ | refine Wp ?_ | refine Wq ?_ | refine Wr ?_); (try simp only [go_sem, fN, seval, eT, iR, g1, g2, h0, h1, dT, dF, nL]); (repeat refine Ai ?_); (try (refine hK _ ?_; clear hK K)); try refine iC ?_)) | refine Cg _ (AU R) ?_ | refine Cg _ (An t) ?_ | refine Cg _ (Ah R) ?_ | refine Cg _ (Aw t) ?_ | refine Cg _ (cP) ?_ | refine Cg _ (DB R) ?_)
  simp only [go_sem, fN, seval, AK, AS.result, AB, AD, AI]
 case pos =>
 obtain ⟨hc, hz⟩ := Tm.may_chk h1
 have hR := F4 h0
 have cR := OO hR t hc (by omega)
 have hP : Cx R t = Eu R t := by unfold Cx; rw [ha, if_pos h1]
 rw [hP] at cP
 have h40 := hR.len
 cases hs : C9 R t with
 | none =>
  have hO : Eu R t = ([], 8) := by unfold Eu; rw [hs]
  rw [hO] at cP
  rw [hs] at cR
  unfold Ce at cR
  dsimp only at cP cR
  refine Bb.ac fun C hC => ?_
  unfold BO
  repeat' (first | (with_reducible first | refine W ?_ | refine Z0 ?_ | ((first | refine Wo fun K hK => ?_ | refine Wp ?_ | refine Wq ?_ | refine Wr ?_); (try simp only [go_sem, fN, seval, eT, iR, g1, g2, h0, h1, dT, dF, nL]); (repeat refine Ai ?_); (try (refine hK _ ?_; clear hK K)); try refine iC ?_)) | refine Cg _ (AU R) ?_ | refine Cg _ (An t) ?_ | refine Cg _ (Ah R) ?_ | refine Cg _ (Aw t) ?_ | refine Cg _ (cR) ?_ | refine Cg _ (cP) ?_ | refine Cg _ (DB R) ?_)
  simp only [go_sem, fN, seval, AK, AS.result, AB, AD, AI]
 | some l =>
  have hO : Eu R t = (l, 0) := by unfold Eu; rw [hs]
  rw [hO] at cP
  rw [hs] at cR
  unfold Ce at cR
  dsimp only at cP cR
  have hl := C2 hs
  rw [List.length_map, Tm.places_length] at hl
  have hl2 : l.length ≤ 8000 := Nat.le_trans hl (Nat.mul_le_mul hz h40)
  clear cP hP
  have cP := Nh R t
  rw [show Cx R t = (l, 0) by unfold Cx; rw [ha, if_pos h1]; exact hO] at cP
  dsimp only at cP
  refine Bb.ac fun C hC => ?_
  unfold BO
  repeat' (first | (with_reducible first | refine W ?_ | refine Z0 ?_ | ((first | refine Wo fun K hK => ?_ | refine Wp ?_ | refine Wq ?_ | refine Wr ?_); (try simp only [go_sem, fN, seval, eT, iR, g1, g2, h0, h1, dT, dF, nL]); (repeat refine Ai ?_); (try (refine hK _ ?_; clear hK K)); try refine iC ?_)) | refine Cg _ (AU R) ?_ | refine Cg _ (An t) ?_ | refine Cg _ (Ah R) ?_ | refine Cg _ (Aw t) ?_ | refine Cg _ (cR) ?_ | refine Cg _ (cP) ?_ | refine Cg _ (DB R) ?_)
  refine IWP.loop (fun m s => ∃ k, k ≤ l.length ∧ m = l.length - k ∧ s.env 7 = FH l ∧ s.env 8 = FH l ∧ s.env 10 = AO k) l.length ⟨0, Nat.zero_le _, rfl, rfl, rfl, rfl⟩ ?_
  rintro m ⟨env, S⟩ ⟨k, hk, rfl, e7, e8, e10⟩
  simp only at e7 e8 e10
  by_cases hkl : (k : Int) < l.length
  ·obtain ⟨x, hx⟩ := Af (show k < l.length by omega)
   have hsm := JC x x
   rw [Tm.beq_refl] at hsm
   repeat' (first | (with_reducible first | refine W ?_ | refine Z0 ?_ | ((first | refine Wo fun K hK => ?_ | refine Wp ?_ | refine Wq ?_ | refine Wr ?_); (try simp only [go_sem, fN, seval, eT, iR, e7, e8, e10, hkl, hx, dT, dF, nL]); (repeat refine Ai ?_); (try (refine hK _ ?_; clear hK K)); try refine iC ?_)) | refine Cg _ (hsm) ?_)
   refine AF ⟨l.length - (k + 1), by omega, k + 1, by omega, rfl, ?_⟩
   simp only [go_sem, fN, seval, eT, iR, e7, e8, e10]
   congr 3
  ·repeat' with_reducible first | refine W ?_ | refine Z0 ?_ | ((first | refine Wo fun K hK => ?_ | refine Wp ?_ | refine Wq ?_ | refine Wr ?_); (try simp only [go_sem, fN, seval, eT, iR, e7, e8, e10, hkl, dT, dF, nL]); (repeat refine Ai ?_); (try (refine hK _ ?_; clear hK K)); try refine iC ?_)
   simp only [go_sem, fN, seval, AK, AS.result, AB, AD, AI]

theorem Lr : ∀ (p : List Int) (t x : Tm), t.chk = 0 → x.chk = 0 → (t.putP p x).chk = 0
 | [], t, x, _, hx => by rw [Tm.putP_nil]; exact hx
 | i :: p, t, x, ht, hx => by
  rw [Tm.putP_cons]
  split
  ·rename_i a ha
   have hl := (List.getElem?_eq_some_iff.1 ha).1
   refine NA (n := t.name) (xs := t.args) (by cases t; exact ht) hl ?_
   exact Lr p a x ((Tm.chk_args ht).2 a (List.mem_of_getElem? ha)) hx
  ·exact ht
def SD (q : Gl) : Prop := q.2.chk = 0 ∧ ∀ y : Tm, y.chk = 0 → (q.1 y).chk = 0
theorem Qe {s : List Bd} {t : Tm} (hs : OkB s) (ht : t.chk = 0) (h : (Bw s t).2 = true) : (Bw s t).1.chk = 0 := by
 unfold Bw at h ⊢
 split
 ·exact P1 hs.chk ht
 ·rename_i hn
  rw [if_neg hn] at h
  cases h
theorem Jz {q : Gl} (hq : SD q) : ∀ {l : List Pr} {a : List Tm}, (∀ r ∈ l, r.1.chk = 0 ∧ r.2.chk = 0) → CE q l = some a → ∀ x ∈ a, x.chk = 0 ∧ x.size ≤ 2000
 | [], a, _, h, x, hx => by cases h; cases hx
 | r :: l, a, hl, h, x, hx => by
  rw [CE] at h
  split at h
  ·split at h
   ·rename_i h1 h2
    rw [Option.map_eq_some_iff] at h
    obtain ⟨b, hb, rfl⟩ := h
    rcases List.mem_cons.1 hx with rfl | hx
    ·have hr := hl r (by simp)
     exact ⟨hq.2 _ (Qe (Mv hr.1 hq.1) hr.2 h2.1), h2.2⟩
    ·exact Jz hq (fun r hr => hl r (by simp [hr])) hb x hx
   ·cases h
  ·exact Jz hq (fun r hr => hl r (by simp [hr])) h x hx
theorem LN {R : List Pr} (hR : ∀ r ∈ R, r.1.chk = 0 ∧ r.2.chk = 0) : ∀ {l : List Gl} {a : List Tm}, (∀ q ∈ l, SD q) → BB R l = some a → ∀ x ∈ a, x.chk = 0 ∧ x.size ≤ 2000
 | [], a, _, h, x, hx => by cases h; cases hx
 | q :: l, a, hq, h, x, hx => by
  rw [BB] at h
  split at h
  ·cases h
  ·rename_i b hb
   rw [Option.map_eq_some_iff] at h
   obtain ⟨c, hc, rfl⟩ := h
   rcases List.mem_append.1 hx with hx | hx
   ·exact Jz (hq q (by simp)) hR hb x hx
   ·exact LN hR (fun q h => hq q (by simp [h])) hc x hx
theorem K_ {R : List Pr} (hR : A1 R) {t : Tm} (ht : t.chk = 0) {a : List Tm} (h : C9 R t = some a) : ∀ x ∈ a, x.chk = 0 ∧ x.size ≤ 2000 := by
 refine LN (fun r hr => ⟨(Tm.may_chk (hR.left r hr)).1, (Tm.may_chk (hR.right r hr)).1⟩) (fun q hq => ?_) h
 obtain ⟨p, hp, rfl⟩ := List.mem_map.1 hq
 obtain ⟨x, h1, h2⟩ := F2 t p hp
 refine ⟨?_, fun y hy => Lr p t y ht hy⟩
 show ((t.atP p).getD Tm.nil).chk = 0
 rw [h1]
 exact JO t x ht h2
open Classical in
noncomputable def DR : List Tm → List Tm → Option (List Tm)
 | all, [] => some all
 | all, x :: l => if x.text ∈ all.map Tm.text then DR all l else if 200 ≤ all.length then none else DR (all ++ [x]) l
noncomputable def B8 (R : List Pr) : Nat → Nat → List Tm → List Tm × Int
 | 0, _, all => (all, 0)
 | f + 1, i, all => match all[i]? with
  | none => (all, 0)
  | some t => match C9 R t with
   | none => ([], 8)
   | some l => match DR all l with
    | none => ([], 3)
    | some all' => B8 R f (i + 1) all'
structure GX (all : List Tm) : Prop where
 ok : ∀ x ∈ all, x.chk = 0 ∧ x.size ≤ 2000
 len : all.length ≤ 200
 nod : (all.map Tm.text).Nodup
theorem GX.snoc {all : List Tm} {x : Tm} (h : GX all) (hg : all.length < 200) (hx : x.chk = 0 ∧ x.size ≤ 2000) (hin : x.text ∉ all.map Tm.text) : GX (all ++ [x]) :=
 ⟨fun y hy => by
  rcases List.mem_append.1 hy with hy | hy
  ·exact h.ok y hy
  ·rw [List.mem_singleton.1 hy]; exact hx, by simp; omega, by
  rw [List.map_append, List.nodup_append]
  refine ⟨h.nod, by simp, fun a ha b hb e => hin ?_⟩
  rw [List.map_singleton, List.mem_singleton] at hb
  rw [← hb, ← e]
  exact ha⟩
theorem Ir {R : List Pr} {i : Nat} {all : List Tm} (h : all.length ≤ i) (f : Nat) : B8 R f i all = (all, 0) := by
 cases f with
 | zero => rfl
 | succ f => rw [B8, List.getElem?_eq_none h]
theorem Lg {R : List Pr} {i f : Nat} {all : List Tm} {t : Tm} (h : all[i]? = some t) : B8 R (f + 1) i all = match C9 R t with
  | none => ([], 8)
  | some l => match DR all l with
   | none => ([], 3)
   | some all' => B8 R f (i + 1) all' := by rw [B8, h]
theorem HG {t : Tm} (h : t.chk = 0) : 0 < t.name.size := by
 rw [Tm.chk_eq] at h
 split at h
 ·rename_i h0
  have := Iq h0
  omega
 ·omega
theorem Kw : ∀ {l m : List ByteArray}, l.Pairwise (fun a b => sLt a b = true) → m.Pairwise (fun a b => sLt a b = true) → (∀ x, x ∈ l ↔ x ∈ m) → l = m := fun {l m} hl hm hx => by
 have nod : ∀ {k : List ByteArray}, k.Pairwise (fun a b => sLt a b = true) → k.Nodup := fun hk => hk.imp fun {a b} hab e => by
  subst e
  rw [Cf] at hab
  cases hab
 have weak : ∀ {k : List ByteArray}, k.Pairwise (fun a b => sLt a b = true) → k.Pairwise (fun a b => sLt b a = false) := fun hk => hk.imp fun {a b} hab => by
  cases h : sLt b a with
  | false => rfl
  | true => have := CL hab h; rw [Cf] at this; cases this
 exact GD (weak hl) (weak hm) ((List.perm_ext_iff_of_nodup (nod hl) (nod hm)).2 hx)
theorem Pd {l : List ByteArray} (hn : l.Nodup) : (srt l).Pairwise fun a b => sLt a b = true := by
 have hn' : (srt l).Nodup := (Ef l).symm.nodup hn
 refine (Gf l).imp₂ (fun a b h1 h2 => ?_) hn'
 rcases Dc a b with q | q | q
 ·exact q
 ·exact absurd q h2
 ·rw [q] at h1; cases h1

set_option maxHeartbeats 2000000
abbrev Sx (b : ByteArray) : KV × AV := (.s b, Ad true)
abbrev Q5 (l : List ByteArray) : AL := .map none (l.map Sx)
theorem Jg {s : ByteArray} : ∀ {l : List ByteArray}, s ∈ l → Dx (l.map Sx) (.s s) = some (Ad true)
 | [], h => by cases h
 | x :: l, h => by
  rw [List.map_cons, Dx]
  by_cases e : x = s
  ·rw [if_pos (by rw [e])]
  ·rw [if_neg (by simpa using e)]
   rcases List.mem_cons.1 h with h | h
   ·exact absurd h.symm e
   ·exact Jg h
theorem IH {s : ByteArray} : ∀ {l : List ByteArray}, s ∉ l → Dx (l.map Sx) (.s s) = none
 | [], h => rfl
 | x :: l, h => by
  rw [List.map_cons, Dx, if_neg (by simpa using fun e => h (by rw [← e]; simp))]
  exact IH fun hx => h (by simp [hx])
theorem SE {s : ByteArray} : ∀ {l : List ByteArray}, s ∉ l → Ho (l.map Sx) (.s s) (Ad true) = (l ++ [s]).map Sx
 | [], h => rfl
 | x :: l, h => by
  rw [List.map_cons, Ho, if_neg (by simpa using fun e => h (by rw [← e]; simp)), SE fun hx => h (by simp [hx])]
  rfl
def Fb (x : List Tm × Int) : AV := .tup [B3 (srt (x.1.map Tm.text)), AO x.2]
noncomputable def D_ (R : List Pr) (t : Tm) : List Tm × Int := if CA R t = 0 then B8 R 200 0 [t] else ([], CA R t)
theorem Dl (e : Int) : Fb ([], e) = .tup [B3 [], AO e] := by
 have : srt [] = [] := List.eq_nil_of_length_eq_zero (Fy [])
 unfold Fb
 rw [List.map_nil, this]
theorem JR {all : List Tm} (h : GX all) {x : Tm} (hx : x ∈ all) : 0 < x.name.size ∧ x.text.size ≤ 20000 := by
 obtain ⟨h1, h2⟩ := h.ok x hx
 have := x.text_le h1
 exact ⟨HG h1, by omega⟩
set_option maxRecDepth 100000 in
theorem TH (R : List Pr) (t : Tm) : AN Tryz.prog 11 [Bg R, aTm t] (Fb (D_ R t)) := by
 unfold D_
 by_cases ha : CA R t = 0
 case neg =>
  rw [if_neg ha, Dl]
  refine Eb.ac fun C hC => ?_
  unfold DC
  repeat' (first | (with_reducible first | refine W ?_ | refine Z0 ?_ | ((first | refine Wo fun K hK => ?_ | refine Wp ?_ | refine Wq ?_ | refine Wr ?_); (try simp only [go_sem, fN, seval, eT, iR, ha, dT, dF, nL]); (repeat refine Ai ?_); (try (refine hK _ ?_; clear hK K)); try refine iC ?_)) | refine Cg _ (BP R t) ?_)
  simp only [go_sem, fN, seval, AK, AS.result, AB, AD, AI]
  rfl
 rw [if_pos ha]
 obtain ⟨hR, hc, hz⟩ := Ek ha
 have ok1 : GX [t] := ⟨fun x hx => by rw [List.mem_singleton.1 hx]; exact ⟨hc, by omega⟩, by simp, by simp⟩
 have sh := JR ok1 (x := t) (by simp)
 refine Eb.ac fun C hC => ?_
 unfold DC
 repeat' (first | (with_reducible first | refine W ?_ | refine Z0 ?_ | ((first | refine Wo fun K hK => ?_ | refine Wp ?_ | refine Wq ?_ | refine Wr ?_); (try simp only [go_sem, fN, seval, eT, iR, ha, B6, Do, KV.of, Ho, dT, dF, nL]); (repeat refine Ai ?_); (try (refine hK _ ?_; clear hK K)); try refine iC ?_)) | refine Cg _ (BP R t) ?_ | refine Cg _ (MU t sh.1 (by omega)) ?_)
 refine IWP.ghost (Aa.own 8 500 25 2 (xs := [[.str t.name, .list (t.args.map Al)]]) (by rfl) (by rfl) (by simp) (by rw [hC]; decide)) ?_
 refine IWP.loopD [12, 501] (fun m s => ∃ i all, i ≤ all.length ∧ m = 200 - i ∧ GX all ∧ B8 R 200 0 [t] = B8 R (200 - i) i all ∧ s.env 0 = Bg R ∧ s.env 7 = .one (.mptr 22) ∧ s.S 22 = some (Q5 (all.map Tm.text)) ∧ s.S 12 = none ∧ s.S 501 = none ∧ s.S 67 = none ∧ s.S 502 = none ∧ ((s.env 8 = .one (.row 500 (all.length - i)) ∧ s.S 500 = some (.arow 25 2 ((all.drop i).map Al))) ∨ ∃ y, s.env 8 = .one (.rest 500 1 (all.length - i + 1)) ∧ s.S 500 = some (.arow 25 2 (Al y :: (all.drop i).map Al)))) 200 ⟨0, [t], Nat.zero_le _, rfl, ok1, rfl, rfl, rfl, ?_, ?_, ?_, ?_, ?_, .inl ⟨?_, ?_⟩⟩ ?_
 ·simp only [go_sem, fN, seval, eT, iR]
  try rfl
 ·simp only [go_sem, fN, seval, eT, iR]
 ·simp only [go_sem, fN, seval, eT, iR]
 ·simp only [go_sem, fN, seval, eT, iR]
 ·simp only [go_sem, fN, seval, eT, iR]
 ·simp only [go_sem, fN, seval, eT, iR]
  try rfl
 ·simp only [go_sem, fN, seval, eT, iR]
  try rfl
 rintro m ⟨env, S⟩ ⟨i, all, hi, rfl, hok, htot, e0, e7, s22, s12, s501, s67, s502, hq⟩
 simp only at e0 e7 s22 s12 s501 s67 s502 hq
 rw [htot]
 have h200 := hok.len
 have hdl : ((all.drop i).map Al).length = all.length - i := by rw [List.length_map, List.length_drop]
 obtain ⟨env', S', hg, e0, e7, e8, s22, s12, s67, s502, s500⟩ : ∃ env' S', Aa C ⟨env, S⟩ ⟨env', S'⟩ ∧ env' 0 = Bg R ∧ env' 7 = .one (.mptr 22) ∧ env' 8 = .one (.row 500 (all.length - i)) ∧ S' 22 = some (Q5 (all.map Tm.text)) ∧ S' 12 = none ∧ S' 67 = none ∧ S' 502 = none ∧ S' 500 = some (.arow 25 2 ((all.drop i).map Al)) := by
  rcases hq with ⟨e8, s500⟩ | ⟨y, e8, s500⟩
  ·exact ⟨env, S, Aa.refl _ _, e0, e7, e8, s22, s12, s67, s502, s500⟩
  ·have g1 := Aa.front (C := C) (s := ⟨env, S⟩) 8 500 501 1000 s500 (by show env 8 = _; rw [e8, List.length_cons, hdl]) (C3 (ts := y :: all.drop i)) s501 (by rw [List.length_cons, hdl]; omega) (by rw [hC]; decide)
   have g2 := Aa.drop (C := C) [500] _ (by decide) |> g1.trans
   have g3 := g2.trans (Aa.rename (C := C) 8 501 500 1000 (e := 25) (wd := 2) (xs := (all.drop i).map Al) ?_ ?_ ?_ (by rw [hdl]; omega) (by rw [hC]; decide))
   ·refine ⟨_, _, g3, ?_, ?_, ?_, ?_, ?_, ?_, ?_, ?_⟩
    ·simp only [go_sem, fN, seval, AS.drop, Ac, AC.clears, AC.clear, AC.highs, AC.high, Bool.not_false, Bool.true_and, Bool.and_self, AV.purge, AV.purges, AC.purge, AL.purge, List.contains_cons, List.contains_nil, Nat.reduceBEq, Bool.or_self, Bool.or_false, Bool.false_or, Bool.or_true, eT, iR, e0]
    ·simp only [go_sem, fN, seval, AS.drop, Ac, AC.clears, AC.clear, AC.highs, AC.high, Bool.not_false, Bool.true_and, Bool.and_self, AV.purge, AV.purges, AC.purge, AL.purge, List.contains_cons, List.contains_nil, Nat.reduceBEq, Bool.or_self, Bool.or_false, Bool.false_or, Bool.or_true, eT, iR, e7]
    ·simp only [go_sem, fN, seval, AS.drop, Ac, AC.clears, AC.clear, AC.highs, AC.high, Bool.not_false, Bool.true_and, Bool.and_self, AV.purge, AV.purges, AC.purge, AL.purge, List.contains_cons, List.contains_nil, Nat.reduceBEq, Bool.or_self, Bool.or_false, Bool.false_or, Bool.or_true, eT, iR, e0, hdl]
    ·simp only [go_sem, fN, seval, AS.drop, Ac, AC.clears, AC.clear, AC.highs, AC.high, Bool.not_false, Bool.true_and, Bool.and_self, AV.purge, AV.purges, AC.purge, AL.purge, List.contains_cons, List.contains_nil, Nat.reduceBEq, Bool.or_self, Bool.or_false, Bool.false_or, Bool.or_true, eT, iR, s22]
    ·simp only [go_sem, fN, seval, AS.drop, Ac, AC.clears, AC.clear, AC.highs, AC.high, Bool.not_false, Bool.true_and, Bool.and_self, AV.purge, AV.purges, AC.purge, AL.purge, List.contains_cons, List.contains_nil, Nat.reduceBEq, Bool.or_self, Bool.or_false, Bool.false_or, Bool.or_true, eT, iR, s12]
    ·simp only [go_sem, fN, seval, AS.drop, Ac, AC.clears, AC.clear, AC.highs, AC.high, Bool.not_false, Bool.true_and, Bool.and_self, AV.purge, AV.purges, AC.purge, AL.purge, List.contains_cons, List.contains_nil, Nat.reduceBEq, Bool.or_self, Bool.or_false, Bool.false_or, Bool.or_true, eT, iR, s67]
    ·simp only [go_sem, fN, seval, AS.drop, Ac, AC.clears, AC.clear, AC.highs, AC.high, Bool.not_false, Bool.true_and, Bool.and_self, AV.purge, AV.purges, AC.purge, AL.purge, List.contains_cons, List.contains_nil, Nat.reduceBEq, Bool.or_self, Bool.or_false, Bool.false_or, Bool.or_true, eT, iR, s502]
    ·simp only [go_sem, fN, seval, AS.drop, Ac, AC.clears, AC.clear, AC.highs, AC.high, Bool.not_false, Bool.true_and, Bool.and_self, AV.purge, AV.purges, AC.purge, AL.purge, List.contains_cons, List.contains_nil, Nat.reduceBEq, Bool.or_self, Bool.or_false, Bool.false_or, Bool.or_true, eT, iR]
   ·simp only [go_sem, fN, seval, AS.drop, Ac, AC.clears, AC.clear, AC.highs, AC.high, Bool.not_false, Bool.true_and, Bool.and_self, AV.purge, AV.purges, AC.purge, AL.purge, List.contains_cons, List.contains_nil, Nat.reduceBEq, Bool.or_self, Bool.or_false, Bool.false_or, Bool.or_true, eT, iR]
   ·simp only [go_sem, fN, seval, AS.drop, Ac, AC.clears, AC.clear, AC.highs, AC.high, Bool.not_false, Bool.true_and, Bool.and_self, AV.purge, AV.purges, AC.purge, AL.purge, List.contains_cons, List.contains_nil, Nat.reduceBEq, Bool.or_self, Bool.or_false, Bool.false_or, Bool.or_true, eT, iR, hdl]
   ·simp only [go_sem, fN, seval, AS.drop, Ac, AC.clears, AC.clear, AC.highs, AC.high, Bool.not_false, Bool.true_and, Bool.and_self, AV.purge, AV.purges, AC.purge, AL.purge, List.contains_cons, List.contains_nil, Nat.reduceBEq, Bool.or_self, Bool.or_false, Bool.false_or, Bool.or_true, eT, iR]
 refine IWP.ghost hg ?_
 clear hg hq s501
 have hdl1 : (all.drop i).length = all.length - i := List.length_drop
 by_cases hlt : i < all.length
 case neg =>
  have hn0 : ¬ (0 : Int) < ((all.length - i : Nat) : Int) := by omega
  rw [Ir (by omega)]
  unfold Fb
  have hnod := hok.nod
  have hll : (all.map Tm.text).length = all.length := List.length_map _
  obtain ⟨L, hL⟩ : ∃ L, all.map Tm.text = L := ⟨_, rfl⟩
  rw [hL] at s22 hnod hll
  simp only [hL]
  repeat' with_reducible first | refine W ?_ | refine Z0 ?_ | ((first | refine Wo fun K hK => ?_ | refine Wp ?_ | refine Wq ?_ | refine Wr ?_); (try simp only [go_sem, fN, seval, eT, iR, e0, e7, e8, s22, s12, s500, s67, s502, hn0, B6, hdl1, dT, dF, nL]); (repeat refine Ai ?_); (try (refine hK _ ?_; clear hK K)); try refine iC ?_)
  refine IWP.ghost (Aa.ownM 14 502 9 1 (by rfl) (by simp only [go_sem, fN, seval, eT, iR, s502]) (by rw [hC]; decide)) ?_
  refine IWP.loop (fun m x => ∃ seen : List Nat, seen.Nodup ∧ (∀ j ∈ seen, j < L.length) ∧ m = L.length - seen.length ∧ x.env 14 = .one (.row 502 seen.length) ∧ x.env 67 = .one (.ptr 67 1 0 0) ∧ x.S 22 = some (Q5 L) ∧ x.S 67 = some (.iter (.mptr 22) L.length seen) ∧ x.S 502 = some (GB (met L seen))) L.length ⟨[], List.nodup_nil, by simp, rfl, rfl, rfl, by simp only [go_sem, fN, seval, eT, iR, s22], by simp only [go_sem, fN, seval, eT, iR], by (simp only [go_sem, fN, seval, eT, iR]; rfl)⟩ ?_
  rintro m ⟨env, S⟩ ⟨seen, hnd, hls, rfl, e14, e67, s22, s67, s502⟩
  simp only at e14 e67 s22 s67 s502
  have hsl := HL hnd hls
  have hmt := MX hls
  repeat' with_reducible first | refine W ?_ | refine Z0 ?_ | ((first | refine Wo fun K hK => ?_ | refine Wp ?_ | refine Wq ?_ | refine Wr ?_); (try simp only [go_sem, fN, seval, eT, iR, e14, e67, s22, s67, DP, dT, dF, nL]); (repeat refine Ai ?_); (try (refine hK _ ?_; clear hK K)); try refine iC ?_)
  refine ⟨fun hall => ?_, fun j x c hx hj hkv => ?_⟩
  ·have hmp := ND hnd hls hall
   have hl' : seen.length = L.length := by rw [← hmt]; exact hmp.length_eq
   refine hK _ ?_
   clear hK K
   refine Wb ?_
   refine Wa ?_
   with_reducible refine Wp ?_
   simp only [go_sem, fN, seval, true_implies, false_implies, implies_true, dT, dF, nL]
   (try with_reducible refine iC ?_)
   repeat' (with_reducible first | refine Wb ?_ | refine Wc ?_ | refine Wd ?_ | refine We ?_ | refine Wg ?_ | refine Wh ?_ | refine Wi ?_ | refine Wj ?_ | refine Wk (by decide) ?_ | refine Wl ?_ | refine Wm ?_ | refine Wn ?_)
   refine IWP.mid (fun x => x.env 14 = .one (.row 502 L.length) ∧ x.S 502 = some (GB (srt L))) ?_ ?_
   ·have hs := UK (met L seen) (by omega) (up1 502) (BL 502) (upS S) (by rw [Bv, s502]; rfl)
    rw [hmt, hl', Ns hmp] at hs
    rw [hl'] at e14
    repeat' with_reducible first | refine W ?_ | refine Z0 ?_ | ((first | refine Wo fun K hK => ?_ | refine Wq ?_ | refine Wr ?_); (try simp only [go_sem, fN, seval, eT, iR, e14]); (repeat refine Ai ?_); (try (refine hK _ ?_; clear hK K)))
    refine ⟨_, _, hs, ?_⟩
    repeat' with_reducible first | refine W ?_ | refine Z0 ?_ | ((first | refine Wo fun K hK => ?_ | refine Wq ?_ | refine Wr ?_); (try simp only [go_sem, fN, seval, eT, iR, e14]); (repeat refine Ai ?_); (try (refine hK _ ?_; clear hK K)))
    refine ⟨rfl, ?_, ?_⟩
    ·simp only [go_sem, fN, seval, eT, iR, e14]
    ·simp only [go_sem, fN, seval, eT, iR]
   rintro ⟨env, S⟩ ⟨e14, s502⟩
   simp only at e14 s502
   have hsl2 := Fy L
   refine IWP.ghost (Aa.share (id := 502) s502) ?_
   repeat' with_reducible first | refine W ?_ | refine Z0 ?_ | ((first | refine Wo fun K hK => ?_ | refine Wq ?_ | refine Wr ?_); (try simp only [go_sem, fN, seval, eT, iR, e14, hsl2]); (repeat refine Ai ?_); (try (refine hK _ ?_; clear hK K)))
   simp only [go_sem, fN, seval, AK, AS.result, AB, AD, AI, hsl2]
  ·rw [Option.map_eq_some_iff] at hx
   obtain ⟨b, hb, rfl⟩ := hx
   have hjl : j < L.length := (List.getElem?_eq_some_iff.1 hb).1
   have hcv : c = .str b := by
    have : some (SV.str b) = some c := hkv
    cases this
    rfl
   subst hcv
   have hnd' : (seen ++ [j]).Nodup := by
    rw [List.nodup_append]
    exact ⟨hnd, by simp, fun a ha b hb e => hj (by rw [List.mem_singleton.1 hb] at e; rw [← e]; exact ha)⟩
   have hlt' : ∀ i ∈ seen ++ [j], i < L.length := fun i hi => by
    rcases List.mem_append.1 hi with h | h
    ·exact hls i h
    ·rw [List.mem_singleton.1 h]; exact hjl
   have hsl' := HL hnd' hlt'
   rw [List.length_append, List.length_singleton] at hsl'
   refine hK _ ?_
   clear hK K
   refine Wb ?_
   repeat' with_reducible first | refine W ?_ | refine Z0 ?_ | ((first | refine Wo fun K hK => ?_ | refine Wp ?_ | refine Wq ?_ | refine Wr ?_); (try simp only [go_sem, fN, seval, eT, iR, e14, e67, s22, s67, s502, DP, List.getLast?_concat, hb, KV.sv, hmt, dT, dF, nL]); (repeat refine Ai ?_); (try (refine hK _ ?_; clear hK K)); try refine iC ?_)
   refine AF ⟨L.length - (seen.length + 1), by omega, seen ++ [j], hnd', hlt', by rw [List.length_append, List.length_singleton], ?_⟩
   rw [OH hb]
   simp only [go_sem, fN, seval, eT, iR, e14, e67, s22, s502]
   show AL.mrow _ _ ((met L seen).map B7 ++ [B7 b]) = GB _
   rw [GB, List.map_append]
   rfl
 obtain ⟨a, ha2⟩ := Af hlt
 have hdr : (all.drop i).map Al = Al a :: (all.drop (i + 1)).map Al := by rw [Bf ha2]; rfl
 have hdl2 : (all.drop (i + 1)).length + 1 = all.length - i := by rw [List.length_drop]; omega
 have hp0 : (0 : Int) < ((all.length - i : Nat) : Int) := by omega
 have hao := hok.ok a (AP ha2)
 have hon := SI hR a hao.1 hao.2
 obtain ⟨f, hf⟩ : ∃ f, 200 - i = f + 1 := ⟨200 - i - 1, by omega⟩
 rw [hf, Lg ha2]
 cases hsT : C9 R a with
 | none =>
  rw [hsT] at hon
  unfold Ce at hon
  rw [Dl]
  have hdr2 := hdr
  rw [hdr] at s500
  repeat' (first | (with_reducible first | refine W ?_ | refine Z0 ?_ | ((first | refine Wo fun K hK => ?_ | refine Wp ?_ | refine Wq ?_ | refine Wr ?_); (try simp only [go_sem, fN, seval, eT, iR, e0, e7, e8, s500, hp0, hdl2, dT, dF, nL]); (repeat refine Ai ?_); (try (refine hK _ ?_; clear hK K)); try refine iC ?_)) | refine Cg _ (hon) ?_)
  simp only [go_sem, fN, seval, AK, AS.result, AB, AD, AI]
  rfl
 | some l =>
  rw [hsT] at hon
  unfold Ce at hon
  have hlo := K_ hR hao.1 hsT
  have hlen : l.length ≤ 80000 := by
   have h1 := C2 (show BB R (a.places.map (HO [] a)) = some l from hsT)
   rw [List.length_map, Tm.places_length] at h1
   exact Nat.le_trans h1 (Nat.mul_le_mul hao.2 hR.len)
  rw [hdr] at s500
  repeat' (first | (with_reducible first | refine W ?_ | refine Z0 ?_ | ((first | refine Wo fun K hK => ?_ | refine Wp ?_ | refine Wq ?_ | refine Wr ?_); (try simp only [go_sem, fN, seval, eT, iR, e0, e7, e8, s500, s22, s12, hp0, hdl2, dT, dF, nL]); (repeat refine Ai ?_); (try (refine hK _ ?_; clear hK K)); try refine iC ?_)) | refine Cg _ (hon) ?_)
  refine IWP.loopD [12] (fun m s => ∃ k all2, k ≤ l.length ∧ m = l.length - k ∧ GX all2 ∧ all <+: all2 ∧ DR all l = DR all2 (l.drop k) ∧ s.env 0 = Bg R ∧ s.env 7 = .one (.mptr 22) ∧ s.env 8 = .one (.row 500 (all2.length - i)) ∧ s.env 44 = FH l ∧ s.env 45 = AO l.length ∧ s.env 46 = AO k ∧ s.S 22 = some (Q5 (all2.map Tm.text)) ∧ s.S 12 = none ∧ s.S 67 = none ∧ s.S 502 = none ∧ s.S 500 = some (.arow 25 2 ((all2.drop i).map Al))) l.length ⟨0, all, Nat.zero_le _, rfl, hok, List.prefix_refl _, rfl, ?_⟩ ?_
  ·simp only [go_sem, fN, seval, eT, iR, e0, e7, e8, s22, s12, s67, s502, s500, hdr]
  rintro m ⟨env, S⟩ ⟨k, all2, hk, rfl, hok2, hpre, hadd, e0, e7, e8, e44, e45, e46, s22, s12, s67, s502, s500⟩
  simp only at e0 e7 e8 e44 e45 e46 s22 s12 s67 s502 s500
  rw [hadd]
  have hle := hpre.length_le
  have h200' := hok2.len
  have hdl2 : (all2.drop i).length = all2.length - i := List.length_drop
  by_cases hkl : k < l.length
  case neg =>
   have hkl' : ¬ (k : Int) < l.length := by omega
   rw [List.drop_of_length_le (by omega), DR]
   repeat' with_reducible first | refine W ?_ | refine Z0 ?_ | ((first | refine Wo fun K hK => ?_ | refine Wp ?_ | refine Wq ?_ | refine Wr ?_); (try simp only [go_sem, fN, seval, eT, iR, e0, e7, e8, e44, e45, e46, s22, s12, s67, s502, s500, hkl', hdl2, dT, dF, nL]); (repeat refine Ai ?_); (try (refine hK _ ?_; clear hK K)); try refine iC ?_)
   have ha3 : all2[i]? = some a := by
    obtain ⟨z, rfl⟩ := hpre
    rw [List.getElem?_append_left hlt]
    exact ha2
   have hd3 : (all2.drop i).map Al = Al a :: (all2.drop (i + 1)).map Al := by rw [Bf ha3]; rfl
   have hf2 : 200 - (i + 1) = f := by omega
   have hl3 : all2.length - i = all2.length - (i + 1) + 1 := by omega
   refine AF ⟨200 - (i + 1), by omega, i + 1, all2, by omega, rfl, hok2, by rw [hf2], ?_, ?_, ?_, ?_, ?_, ?_, ?_, .inr ⟨a, ?_, ?_⟩⟩
   ·simp only [go_sem, fN, seval, AS.drop, Ac, AC.clears, AC.clear, AC.highs, AC.high, Bool.not_false, Bool.true_and, Bool.and_self, AV.purge, AV.purges, AC.purge, AL.purge, List.contains_cons, List.contains_nil, Nat.reduceBEq, Bool.or_self, Bool.or_false, Bool.false_or, Bool.or_true, eT, iR, e0]
   ·simp only [go_sem, fN, seval, AS.drop, Ac, AC.clears, AC.clear, AC.highs, AC.high, Bool.not_false, Bool.true_and, Bool.and_self, AV.purge, AV.purges, AC.purge, AL.purge, List.contains_cons, List.contains_nil, Nat.reduceBEq, Bool.or_self, Bool.or_false, Bool.false_or, Bool.or_true, eT, iR, e7]
   ·simp only [go_sem, fN, seval, AS.drop, Ac, AC.clears, AC.clear, AC.highs, AC.high, Bool.not_false, Bool.true_and, Bool.and_self, AV.purge, AV.purges, AC.purge, AL.purge, List.contains_cons, List.contains_nil, Nat.reduceBEq, Bool.or_self, Bool.or_false, Bool.false_or, Bool.or_true, eT, iR, s22]
   ·simp only [go_sem, fN, seval, AS.drop, Ac, AC.clears, AC.clear, AC.highs, AC.high, Bool.not_false, Bool.true_and, Bool.and_self, AV.purge, AV.purges, AC.purge, AL.purge, List.contains_cons, List.contains_nil, Nat.reduceBEq, Bool.or_self, Bool.or_false, Bool.false_or, Bool.or_true, eT, iR]
   ·simp only [go_sem, fN, seval, AS.drop, Ac, AC.clears, AC.clear, AC.highs, AC.high, Bool.not_false, Bool.true_and, Bool.and_self, AV.purge, AV.purges, AC.purge, AL.purge, List.contains_cons, List.contains_nil, Nat.reduceBEq, Bool.or_self, Bool.or_false, Bool.false_or, Bool.or_true, eT, iR]
   ·simp only [go_sem, fN, seval, AS.drop, Ac, AC.clears, AC.clear, AC.highs, AC.high, Bool.not_false, Bool.true_and, Bool.and_self, AV.purge, AV.purges, AC.purge, AL.purge, List.contains_cons, List.contains_nil, Nat.reduceBEq, Bool.or_self, Bool.or_false, Bool.false_or, Bool.or_true, eT, iR, s67]
   ·simp only [go_sem, fN, seval, AS.drop, Ac, AC.clears, AC.clear, AC.highs, AC.high, Bool.not_false, Bool.true_and, Bool.and_self, AV.purge, AV.purges, AC.purge, AL.purge, List.contains_cons, List.contains_nil, Nat.reduceBEq, Bool.or_self, Bool.or_false, Bool.false_or, Bool.or_true, eT, iR, s502]
   ·simp only [go_sem, fN, seval, AS.drop, Ac, AC.clears, AC.clear, AC.highs, AC.high, Bool.not_false, Bool.true_and, Bool.and_self, AV.purge, AV.purges, AC.purge, AL.purge, List.contains_cons, List.contains_nil, Nat.reduceBEq, Bool.or_self, Bool.or_false, Bool.false_or, Bool.or_true, eT, iR, hl3]
   ·rw [hd3] at s500
    simp only [go_sem, fN, seval, AS.drop, Ac, AC.clears, AC.clear, AC.highs, AC.high, Bool.not_false, Bool.true_and, Bool.and_self, AV.purge, AV.purges, AC.purge, AL.purge, List.contains_cons, List.contains_nil, Nat.reduceBEq, Bool.or_self, Bool.or_false, Bool.false_or, Bool.or_true, eT, iR, s500]
  have hkl' : (k : Int) < l.length := by omega
  obtain ⟨x, hx⟩ := Af hkl
  have hxo := hlo x (AP hx)
  have htx := x.text_le hxo.1
  rw [Bf hx, DR]
  by_cases hin : x.text ∈ all2.map Tm.text
  ·have hget := Jg hin
   rw [if_pos hin]
   repeat' (first | (with_reducible first | refine W ?_ | refine Z0 ?_ | ((first | refine Wo fun K hK => ?_ | refine Wp ?_ | refine Wq ?_ | refine Wr ?_); (try simp only [go_sem, fN, seval, eT, iR, e0, e7, e8, e44, e45, e46, s22, s12, s67, s502, s500, hkl', hx, hdl2, B6, Do, KV.of, hget, Fo, dT, dF, nL]); (repeat refine Ai ?_); (try (refine hK _ ?_; clear hK K)); try refine iC ?_)) | refine Cg _ (MU x (HG hxo.1) (by omega)) ?_)
   refine AF ⟨l.length - (k + 1), by omega, k + 1, all2, by omega, rfl, hok2, hpre, rfl, ?_⟩
   simp only [go_sem, fN, seval, AS.drop, Ac, AC.clears, AC.clear, AC.highs, AC.high, Bool.not_false, Bool.true_and, Bool.and_self, AV.purge, AV.purges, AC.purge, AL.purge, List.contains_cons, List.contains_nil, Nat.reduceBEq, Bool.or_self, Bool.or_false, Bool.false_or, Bool.or_true, eT, iR, e0, e7, e8, e44, e45, e46, s22, s12, s67, s502, s500]
   congr 3
  have hget := IH hin
  have hput := SE hin
  rw [if_neg hin]
  by_cases hg : 200 ≤ all2.length
  ·rw [if_pos hg]
   have hg' : (200 : Int) < ((all2.length + 1 : Nat) : Int) := by omega
   simp only
   rw [Dl]
   repeat' (first | (with_reducible first | refine W ?_ | refine Z0 ?_ | ((first | refine Wo fun K hK => ?_ | refine Wp ?_ | refine Wq ?_ | refine Wr ?_); (try simp only [go_sem, fN, seval, eT, iR, e0, e7, e8, e44, e45, e46, s22, s12, s67, s502, s500, hkl', hx, hdl2, B6, Do, KV.of, hget, hput, Fo, hg', dT, dF, nL]); (repeat refine Ai ?_); (try (refine hK _ ?_; clear hK K)); try refine iC ?_)) | refine Cg _ (MU x (HG hxo.1) (by omega)) ?_)
   simp only [go_sem, fN, seval, AK, AS.result, AB, AD, AI]
   rfl
  ·rw [if_neg hg]
   have hg' : ¬ (200 : Int) < ((all2.length + 1 : Nat) : Int) := by omega
   have hl4 : (all2 ++ [x]).length - i = all2.length - i + 1 := by rw [List.length_append, List.length_singleton]; omega
   have hd4 : ((all2 ++ [x]).drop i).map Al = (all2.drop i).map Al ++ [Al x] := by
    rw [List.drop_append_of_le_length (by omega), List.map_append]
    rfl
   have hm4 : (all2 ++ [x]).map Tm.text = all2.map Tm.text ++ [x.text] := by rw [List.map_append]; rfl
   repeat' (first | (with_reducible first | refine W ?_ | refine Z0 ?_ | ((first | refine Wo fun K hK => ?_ | refine Wp ?_ | refine Wq ?_ | refine Wr ?_); (try simp only [go_sem, fN, seval, eT, iR, e0, e7, e8, e44, e45, e46, s22, s12, s67, s502, s500, hkl', hx, hdl2, B6, Do, KV.of, hget, hput, Fo, hg', dT, dF, nL]); (repeat refine Ai ?_); (try (refine hK _ ?_; clear hK K)); try refine iC ?_)) | refine Cg _ (MU x (HG hxo.1) (by omega)) ?_)
   refine AF ⟨l.length - (k + 1), by omega, k + 1, all2 ++ [x], by omega, rfl, hok2.snoc (by omega) hxo hin, hpre.trans (List.prefix_append _ _), rfl, ?_⟩
   simp only [go_sem, fN, seval, AS.drop, Ac, AC.clears, AC.clear, AC.highs, AC.high, Bool.not_false, Bool.true_and, Bool.and_self, AV.purge, AV.purges, AC.purge, AL.purge, List.contains_cons, List.contains_nil, Nat.reduceBEq, Bool.or_self, Bool.or_false, Bool.false_or, Bool.or_true, eT, iR, e0, e7, e8, e44, e45, e46, s22, s12, s67, s502, s500, hl4, hd4, hm4]
   exact ⟨by congr 2; omega, by congr 3⟩

def EM : IR :=
 (.seq (.ops [.i 2 (.mov (.c (.one (.full []))))]) (.seq (.ops [.i 3 (.mov (.c (.one (.full []))))]) (.seq (.seq (.ops [.i 4 (.mov (.n 0))]) (.block 0 (.loop (.seq (.seq (.ops [.m 6 4, .m 7 0, .i 8 (.len false (.t 7)), .i 9 (.bin .lss (.t 6) (.t 8))]) (.cond (.t 9) .skip (.exit 0))) (.seq (.block 1 (.seq (.ops [.m 12 3, .i 13 (.len false (.t 12)), .m 5 13]) (.seq (.block 2 (.loop (.seq (.seq (.ops [.m 14 5, .i 15 (.bin .gtr (.t 14) (.n 0)), .m 16 15, .mk (some 17) (some (16, true)) (.mov (.t 0)) .no, .mk (some 18) (some (16, true)) (.mov (.t 4)) .no, .mk (some 19) (some (16, true)) (.indexAddr 1 (.t 17) (.t 18)) .no, .mk (some 20) (some (16, true)) (.load false 1 (.t 19)) .no, .mk (some 21) (some (16, true)) (.mov (.t 3)) .no, .mk (some 22) (some (16, true)) (.mov (.t 5)) .no, .mk (some 23) (some (16, true)) (.bin .sub (.t 22) (.n 1)) .no, .mk (some 24) (some (16, true)) (.indexAddr 1 (.t 21) (.t 23)) .no, .mk (some 25) (some (16, true)) (.load false 1 (.t 24)) .no, .mk (some 26) (some (16, true)) (.bin .lss (.t 20) (.t 25)) .no, .i 27 (.pick (.t 16) (.t 26) (.c (.one (.st (.bool false)))))]) (.cond (.t 27) .skip (.exit 2))) (.block 3 (.ops [.m 28 5, .i 29 (.bin .sub (.t 28) (.n 1)), .m 5 29]))))) (.seq (.seq (.ops [.m 30 5, .i 31 (.bin .gtr (.t 30) (.n 0)), .m 32 31, .mk (some 33) (some (32, true)) (.mov (.t 3)) .no, .mk (some 34) (some (32, true)) (.mov (.t 5)) .no, .mk (some 35) (some (32, true)) (.bin .sub (.t 34) (.n 1)) .no, .mk (some 36) (some (32, true)) (.indexAddr 1 (.t 33) (.t 35)) .no, .mk (some 37) (some (32, true)) (.load false 1 (.t 36)) .no, .mk (some 38) (some (32, true)) (.mov (.t 0)) .no, .mk (some 39) (some (32, true)) (.mov (.t 4)) .no, .mk (some 40) (some (32, true)) (.indexAddr 1 (.t 38) (.t 39)) .no, .mk (some 41) (some (32, true)) (.load false 1 (.t 40)) .no, .mk (some 42) (some (32, true)) (.bin .eql (.t 37) (.t 41)) .no, .i 43 (.pick (.t 32) (.t 42) (.c (.one (.st (.bool false)))))]) (.cond (.t 43) (.exit 1) .skip)) (.seq (.ops [.m 44 3, .i 45 (.buildFlat [.c (.one (.st (.str (ByteArray.mk (#[])))))]), .i 46 (.append true 9 1 16 (.t 44) (.t 45)), .m 3 46]) (.seq (.ops [.m 47 3, .m 48 5, .i 49 (.bin .add (.t 48) (.n 1)), .i 50 (.restP 1 (.t 47) (.t 49)), .m 51 3, .m 52 5, .i 53 (.restP 1 (.t 51) (.t 52)), .i 54 (.copyP (.t 50) (.t 53))]) (.ops [.m 55 3, .m 56 5, .m 57 0, .m 58 4, .i 59 (.indexAddr 1 (.t 57) (.t 58)), .l 60 59, .i 61 (.indexAddr 1 (.t 55) (.t 56)), .s 1 61 60]))))))) (.ops [.m 10 4, .i 11 (.bin .add (.t 10) (.n 1)), .m 4 11])))))) (.seq (.ops [.m 62 3, .m 2 62]) .ret))))
theorem H1 : OkF Tryz.prog 26 63 [46, 30000050, 30000053] EM [.t 2] := .of Tryz.func26 rfl rfl (by kernel_rfl) rfl

theorem PR {α : Type} (ys : List α) (z e : α) (k : Nat) (hk : k ≤ ys.length) :
  (((ys ++ [z]).take (k + 1) ++ (((ys ++ [z]).drop k).take (min ((ys ++ [z]).length - k) ((ys ++ [z]).length - (k + 1))) ++ (ys ++ [z]).drop (k + 1 + min ((ys ++ [z]).length - k) ((ys ++ [z]).length - (k + 1))))).set k e) = ys.take k ++ e :: ys.drop k := by
 have hm : min ((ys ++ [z]).length - k) ((ys ++ [z]).length - (k + 1)) = ys.length - k := by simp; omega
 rw [hm]
 have hd : (ys ++ [z]).drop (k + 1 + (ys.length - k)) = [] := List.drop_eq_nil_of_le (by simp; omega)
 rw [hd, List.append_nil]
 refine List.ext_getElem? fun j => ?_
 by_cases h1 : j = k
 ·subst h1
  rw [List.getElem?_set_self (by simp; omega), List.getElem?_append_right (by simp; omega)]
  simp [Nat.min_eq_left hk]
 ·rw [List.getElem?_set_ne (Ne.symm h1)]
  rcases Nat.lt_or_ge j k with h2 | h2
  ·rw [List.getElem?_append_left (by simp; omega), List.getElem?_append_left (by simp; omega), List.getElem?_take, List.getElem?_take, if_pos (by omega), if_pos h2, List.getElem?_append_left (by omega)]
  ·obtain ⟨d, rfl⟩ : ∃ d, j = k + 1 + d := ⟨j - (k + 1), by omega⟩
   have e1 : ((ys ++ [z]).take (k + 1)).length = k + 1 := by simp; omega
   have e2 : (ys.take k).length = k := by simp; omega
   rw [List.getElem?_append_right (by omega), List.getElem?_append_right (by omega), e1, e2, show k + 1 + d - (k + 1) = d by omega, show k + 1 + d - k = d + 1 by omega, List.getElem?_cons_succ, List.getElem?_take, List.getElem?_drop]
   split
   ·rename_i h3
    rw [List.getElem?_drop, List.getElem?_append_left (by omega)]
   ·rw [List.getElem?_drop, List.getElem?_eq_none (by omega)]
def MI (l : List ByteArray) : Prop := l.Pairwise fun a b => sLt a b = true
theorem GJ {out : List ByteArray} {s : ByteArray} {k : Nat} (h : MI out) (hk : k ≤ out.length) (h1 : ∀ j x, k ≤ j → out[j]? = some x → sLt s x = true) (h2 : ∀ k1 q, k = k1 + 1 → out[k1]? = some q → sLt q s = true) : MI (out.take k ++ s :: out.drop k) := by
 have hlow : ∀ x ∈ out.take k, sLt x s = true := fun x hx => by
  obtain ⟨j, hj⟩ := List.getElem?_of_mem hx
  rw [List.getElem?_take] at hj
  split at hj
  ·rename_i hjk
   obtain ⟨k1, rfl⟩ : ∃ k1, k = k1 + 1 := ⟨k - 1, by omega⟩
   obtain ⟨q, hq⟩ := Af (show k1 < out.length by omega)
   have hqs := h2 k1 q rfl hq
   by_cases e : j = k1
   ·subst e
    rw [hq] at hj
    cases hj
    exact hqs
   ·have := List.pairwise_iff_getElem.1 h j k1 (by omega) (by omega) (by omega)
    rw [List.getElem?_eq_getElem (by omega)] at hj hq
    cases hj
    cases hq
    exact CL this hqs
  ·cases hj
 have hhigh : ∀ x ∈ out.drop k, sLt s x = true := fun x hx => by
  obtain ⟨j, hj⟩ := List.getElem?_of_mem hx
  rw [List.getElem?_drop] at hj
  exact h1 (k + j) x (by omega) hj
 unfold MI
 rw [List.pairwise_append]
 refine ⟨h.sublist (List.take_sublist _ _), List.pairwise_cons.2 ⟨hhigh, h.sublist (List.drop_sublist _ _)⟩, fun a ha b hb => ?_⟩
 rcases List.mem_cons.1 hb with rfl | hb
 ·exact hlow a ha
 ·exact CL (hlow a ha) (hhigh b hb)
abbrev Tk (l : List ByteArray) : AL := .mrow 9 1 (l.map B7)
theorem Ks (l : List ByteArray) (hn : l.Nodup) (hl : l.length ≤ 1000) : AN Tryz.prog 26 [B3 l] (B3 (srt l)) := by
 refine H1.ac fun C hC => ?_
 unfold EM
 repeat' with_reducible first | refine W ?_ | refine Z0 ?_ | ((first | refine Wo fun K hK => ?_ | refine Wp ?_ | refine Wq ?_ | refine Wr ?_); (try simp only [go_sem, fN, seval, eT, iR, dT, dF, nL]); (repeat refine Ai ?_); (try (refine hK _ ?_; clear hK K)); try refine iC ?_)
 refine IWP.ghost (Aa.ownM 3 500 9 1 (by rfl) (by rfl) (by rw [hC]; decide)) ?_
 refine IWP.loop (fun m s => ∃ i out, i ≤ l.length ∧ m = l.length - i ∧ out.length ≤ i ∧ MI out ∧ (∀ x, x ∈ out ↔ x ∈ l.take i) ∧ s.env 0 = B3 l ∧ s.env 3 = .one (.row 500 out.length) ∧ s.env 4 = AO i ∧ s.S 500 = some (Tk out)) l.length ⟨0, [], Nat.zero_le _, rfl, Nat.le_refl _, List.Pairwise.nil, by simp, rfl, rfl, rfl, rfl⟩ ?_
 rintro m ⟨env, S⟩ ⟨i, out, hi, rfl, hol, hst, hmem, e0, e3, e4, s500⟩
 simp only at e0 e3 e4 s500
 have hlm : (out.map B7).length = out.length := List.length_map _
 by_cases hlt : i < l.length
 case neg =>
  have hlt' : ¬ (i : Int) < l.length := by omega
  rw [List.take_of_length_le (by omega)] at hmem
  have hso : out = srt l := Kw hst (Pd hn) fun x => by rw [hmem]; exact ((Ef l).mem_iff).symm
  refine IWP.ghost (Aa.share (id := 500) s500) ?_
  repeat' with_reducible first | refine W ?_ | refine Z0 ?_ | ((first | refine Wo fun K hK => ?_ | refine Wp ?_ | refine Wq ?_ | refine Wr ?_); (try simp only [go_sem, fN, seval, eT, iR, e0, e3, e4, hlt', dT, dF, nL]); (repeat refine Ai ?_); (try (refine hK _ ?_; clear hK K)); try refine iC ?_)
  simp only [go_sem, fN, seval, AK, AS.result, AB, AD, AI, hlm]
  rw [← hso]
 have hlt' : (i : Int) < l.length := by omega
 obtain ⟨s, hs⟩ := Af hlt
 have hsn : s ∉ out := fun h => by
  rw [hmem] at h
  obtain ⟨j, hj⟩ := List.getElem?_of_mem h
  rw [List.getElem?_take] at hj
  split at hj
  ·rename_i hji
   have := List.pairwise_iff_getElem.1 hn j i (by omega) hlt hji
   exact this ((List.getElem?_eq_some_iff.1 hj).2.trans (List.getElem?_eq_some_iff.1 hs).2.symm)
  ·cases hj
 repeat' with_reducible first | refine W ?_ | refine Z0 ?_ | ((first | refine Wo fun K hK => ?_ | refine Wp ?_ | refine Wq ?_ | refine Wr ?_); (try simp only [go_sem, fN, seval, eT, iR, e0, e3, e4, s500, hlt', hlm, dT, dF, nL]); (repeat refine Ai ?_); (try (refine hK _ ?_; clear hK K)); try refine iC ?_)
 refine IWP.loop (fun m x => ∃ k, k ≤ out.length ∧ m = k ∧ (∀ j y, k ≤ j → out[j]? = some y → sLt s y = true) ∧ x.env 0 = B3 l ∧ x.env 3 = .one (.row 500 out.length) ∧ x.env 4 = AO i ∧ x.env 5 = AO k ∧ x.S 500 = some (Tk out)) out.length ⟨out.length, Nat.le_refl _, rfl, ?_, ?_⟩ ?_
 ·intro j y hj hy
  rw [List.getElem?_eq_none hj] at hy
  cases hy
 ·simp only [go_sem, fN, seval, eT, iR, e0, e3, e4, s500]
 rintro k ⟨env, S⟩ ⟨_, hk, rfl, hge, e0, e3, e4, e5, s500⟩
 simp only at e0 e3 e4 e5 s500
 have hk1 : ((k : Int) + 1).toNat = k + 1 := by omega
 obtain ⟨X, hX⟩ : ∃ X, List.take (k + 1) (List.map B7 out ++ [[SV.str ⟨#[]⟩]]) ++ (List.take (min (out.length + 1 - k) (out.length - k)) (List.drop k (List.map B7 out ++ [[SV.str ⟨#[]⟩]])) ++ List.drop (k + 1 + min (out.length + 1 - k) (out.length - k)) (List.map B7 out ++ [[SV.str ⟨#[]⟩]])) = X := ⟨_, rfl⟩
 have hXl : X.length = out.length + 1 := by
  rw [← hX]
  simp
  omega
 have hXi := PR (out.map B7) [SV.str ⟨#[]⟩] [SV.str s] k (by rw [hlm]; exact hk)
 simp only [List.length_append, hlm, List.length_singleton, show out.length + 1 - (k + 1) = out.length - k by omega] at hXi
 rw [hX, ← List.map_take, ← List.map_drop] at hXi
 obtain ⟨c0, hc0⟩ : ∃ c0, X[k]? = some [c0] := by
  rw [← hX, List.getElem?_append_left (by simp; omega), List.getElem?_take, if_pos (by omega)]
  rcases Nat.lt_or_ge k out.length with h | h
  ·rw [List.getElem?_append_left (by rw [hlm]; exact h), List.getElem?_map, List.getElem?_eq_getElem h]
   exact ⟨_, rfl⟩
  ·rw [List.getElem?_append_right (by rw [hlm]; exact h), hlm, show k - out.length = 0 by omega]
   exact ⟨_, rfl⟩
 have hnew : ∀ x, x ∈ out.take k ++ s :: out.drop k ↔ x ∈ l.take (i + 1) := fun x => by
  rw [Ak hs, List.mem_append, List.mem_append, List.mem_cons, ← hmem, List.mem_singleton]
  constructor
  ·rintro (h | h | h)
   ·exact .inl (List.mem_of_mem_take h)
   ·exact .inr h
   ·exact .inl (List.mem_of_mem_drop h)
  ·rintro (h | h)
   ·rw [← List.take_append_drop k out, List.mem_append] at h
    rcases h with h | h
    ·exact .inl h
    ·exact .inr (.inr h)
   ·exact .inr (.inl h)
 have hrow : Tk (out.take k ++ s :: out.drop k) = .mrow 9 1 (X.set k [SV.str s]) := by
  rw [hXi]
  simp [Tk]
 by_cases h0 : (0 : Int) < (k : Int)
 case neg =>
  repeat' with_reducible first | refine W ?_ | refine Z0 ?_ | ((first | refine Wo fun K hK => ?_ | refine Wp ?_ | refine Wq ?_ | refine Wr ?_); (try simp only [go_sem, fN, seval, eT, iR, e0, e3, e4, e5, s500, hs, hlm, h0, hk1, hX, hXl, hc0, dT, dF, nL]); (repeat refine Ai ?_); (try (refine hK _ ?_; clear hK K)); try refine iC ?_)
  refine AF ⟨l.length - (i + 1), by omega, i + 1, out.take k ++ s :: out.drop k, by omega, rfl, by simp; omega, GJ hst hk hge (fun k1 q h => by omega), hnew, ?_⟩
  simp only [go_sem, fN, seval, eT, iR, e0, e3, e4, hrow, splice]
  exact ⟨by congr 2; simp; omega, by congr 3⟩
 obtain ⟨k1, hkk⟩ : ∃ k1, k = k1 + 1 := ⟨k - 1, by omega⟩
 obtain ⟨q, hq⟩ := Af (show k1 < out.length by omega)
 have hki : (k : Int) - 1 = (k1 : Int) := by omega
 by_cases hsq : sLt s q = true
 ·repeat' with_reducible first | refine W ?_ | refine Z0 ?_ | ((first | refine Wo fun K hK => ?_ | refine Wp ?_ | refine Wq ?_ | refine Wr ?_); (try simp only [go_sem, fN, seval, eT, iR, e0, e3, e4, e5, s500, hs, hlm, h0, hki, hq, hsq, dT, dF, nL]); (repeat refine Ai ?_); (try (refine hK _ ?_; clear hK K)); try refine iC ?_)
  refine AF ⟨k1, by omega, k1, by omega, rfl, fun j y hj hy => ?_, ?_⟩
  ·by_cases e : j = k1
   ·subst e
    rw [hq] at hy
    cases hy
    exact hsq
   ·exact hge j y (by omega) hy
  ·simp only [go_sem, fN, seval, eT, iR, e0, e3, e4, s500]
 ·have hne : ¬ q = s := fun e => hsn (by rw [← e]; exact AP hq)
  repeat' with_reducible first | refine W ?_ | refine Z0 ?_ | ((first | refine Wo fun K hK => ?_ | refine Wp ?_ | refine Wq ?_ | refine Wr ?_); (try simp only [go_sem, fN, seval, eT, iR, e0, e3, e4, e5, s500, hs, hlm, h0, hki, hq, hsq, hne, hk1, hX, hXl, hc0, dT, dF, nL]); (repeat refine Ai ?_); (try (refine hK _ ?_; clear hK K)); try refine iC ?_)
  refine AF ⟨l.length - (i + 1), by omega, i + 1, out.take k ++ s :: out.drop k, by omega, rfl, by simp; omega, GJ hst hk hge (fun k1' q' h hq' => ?_), hnew, ?_⟩
  ·obtain rfl : k1' = k1 := by omega
   rw [hq] at hq'
   cases hq'
   rcases Dc q s with h | h | h
   ·exact h
   ·exact absurd h hne
   ·exact absurd h hsq
  simp only [go_sem, fN, seval, eT, iR, e0, e3, e4, hrow, splice]
  exact ⟨by congr 2; simp; omega, by congr 3⟩

theorem Su {R : List Pr} (hR : A1 R) (t : Tm) (hc : t.chk = 0) (hz : t.size ≤ 200) : AN Tryz.prog 10 [Bg R, aTm t] (Fb (B8 R 200 0 [t])) := by
 have ok1 : GX [t] := ⟨fun x hx => by rw [List.mem_singleton.1 hx]; exact ⟨hc, by omega⟩, by simp, by simp⟩
 have sh := JR ok1 (x := t) (by simp)
 refine M2.ac fun C hC => ?_
 unfold G4
 repeat' (first | (with_reducible first | refine W ?_ | refine Z0 ?_ | ((first | refine Wo fun K hK => ?_ | refine Wp ?_ | refine Wq ?_ | refine Wr ?_); (try simp only [go_sem, fN, seval, eT, iR, B6, Do, KV.of, Ho, dT, dF, nL]); (repeat refine Ai ?_); (try (refine hK _ ?_; clear hK K)); try refine iC ?_)) | refine Cg _ (JD t (by omega)) ?_)
 refine IWP.ghost (Aa.own 6 500 25 2 (xs := [[.str t.name, .list (t.args.map Al)]]) (by rfl) (by rfl) (by simp) (by rw [hC]; decide)) ?_
 refine IWP.ghost (Aa.own 8 501 9 1 (xs := [[.str t.text]]) (by rfl) (by rfl) (by simp) (by rw [hC]; decide)) ?_
 refine IWP.loop (fun m s => ∃ i all, i ≤ all.length ∧ m = 200 - i ∧ GX all ∧ B8 R 200 0 [t] = B8 R (200 - i) i all ∧ s.env 0 = Bg R ∧ s.env 6 = .one (.row 500 all.length) ∧ s.env 7 = .one (.mptr 16) ∧ s.env 8 = .one (.row 501 all.length) ∧ s.env 9 = AO i ∧ s.S 16 = some (Q5 (all.map Tm.text)) ∧ s.S 500 = some (.arow 25 2 (all.map Al)) ∧ s.S 501 = some (.arow 9 1 ((all.map Tm.text).map B7))) 200 ⟨0, [t], Nat.zero_le _, rfl, ok1, rfl, rfl, rfl, rfl, rfl, rfl, ?_, ?_, ?_⟩ ?_
 ·simp only [go_sem, fN, seval, eT, iR]
  try rfl
 ·simp only [go_sem, fN, seval, eT, iR]
  try rfl
 ·simp only [go_sem, fN, seval, eT, iR]
  try rfl
 rintro m ⟨env, S⟩ ⟨i, all, hi, rfl, hok, htot, e0, e6, e7, e8, e9, s16, s500, s501⟩
 simp only at e0 e6 e7 e8 e9 s16 s500 s501
 rw [htot]
 have h200 := hok.len
 have hl0 : (all.map Al).length = all.length := List.length_map _
 have hl1 : ((all.map Tm.text).map B7).length = all.length := by rw [List.length_map, List.length_map]
 by_cases hlt : i < all.length
 case neg =>
  have hlt' : ¬ (i : Int) < all.length := by omega
  rw [Ir (by omega)]
  unfold Fb
  repeat' (first | (with_reducible first | refine W ?_ | refine Z0 ?_ | ((first | refine Wo fun K hK => ?_ | refine Wp ?_ | refine Wq ?_ | refine Wr ?_); (try simp only [go_sem, fN, seval, eT, iR, e0, e6, e7, e8, e9, s16, s500, s501, hlt', hl0, hl1, dT, dF, nL]); (repeat refine Ai ?_); (try (refine hK _ ?_; clear hK K)); try refine iC ?_)) | refine Cg _ (Ks (all.map Tm.text) hok.nod (by rw [List.length_map]; omega)) ?_)
  simp only [go_sem, fN, seval, AK, AS.result, AB, AD, AI]
 have hlt' : (i : Int) < all.length := by omega
 obtain ⟨a, ha2⟩ := Af hlt
 have hao := hok.ok a (AP ha2)
 have hon := OO hR a hao.1 hao.2
 obtain ⟨f, hf⟩ : ∃ f, 200 - i = f + 1 := ⟨200 - i - 1, by omega⟩
 rw [hf, Lg ha2]
 cases hsT : C9 R a with
 | none =>
  rw [hsT] at hon
  unfold Ce at hon
  rw [Dl]
  repeat' (first | (with_reducible first | refine W ?_ | refine Z0 ?_ | ((first | refine Wo fun K hK => ?_ | refine Wp ?_ | refine Wq ?_ | refine Wr ?_); (try simp only [go_sem, fN, seval, eT, iR, e0, e6, e7, e8, e9, s16, s500, s501, hlt', ha2, dT, dF, nL]); (repeat refine Ai ?_); (try (refine hK _ ?_; clear hK K)); try refine iC ?_)) | refine Cg _ (hon) ?_)
  simp only [go_sem, fN, seval, AK, AS.result, AB, AD, AI]
  rfl
 | some l =>
  rw [hsT] at hon
  unfold Ce at hon
  have hlo := K_ hR hao.1 hsT
  have hlen : l.length ≤ 80000 := by
   have h1 := C2 (show BB R (a.places.map (HO [] a)) = some l from hsT)
   rw [List.length_map, Tm.places_length] at h1
   exact Nat.le_trans h1 (Nat.mul_le_mul hao.2 hR.len)
  repeat' (first | (with_reducible first | refine W ?_ | refine Z0 ?_ | ((first | refine Wo fun K hK => ?_ | refine Wp ?_ | refine Wq ?_ | refine Wr ?_); (try simp only [go_sem, fN, seval, eT, iR, e0, e6, e7, e8, e9, s16, s500, s501, hlt', ha2, dT, dF, nL]); (repeat refine Ai ?_); (try (refine hK _ ?_; clear hK K)); try refine iC ?_)) | refine Cg _ (hon) ?_)
  refine IWP.loop (fun m s => ∃ k all2, k ≤ l.length ∧ m = l.length - k ∧ GX all2 ∧ all <+: all2 ∧ DR all l = DR all2 (l.drop k) ∧ s.env 0 = Bg R ∧ s.env 6 = .one (.row 500 all2.length) ∧ s.env 7 = .one (.mptr 16) ∧ s.env 8 = .one (.row 501 all2.length) ∧ s.env 9 = AO i ∧ s.env 10 = FH l ∧ s.env 12 = AO k ∧ s.S 16 = some (Q5 (all2.map Tm.text)) ∧ s.S 500 = some (.arow 25 2 (all2.map Al)) ∧ s.S 501 = some (.arow 9 1 ((all2.map Tm.text).map B7))) l.length ⟨0, all, Nat.zero_le _, rfl, hok, List.prefix_refl _, rfl, ?_⟩ ?_
  ·simp only [go_sem, fN, seval, eT, iR, e0, e6, e7, e8, e9, s16, s500, s501]
  rintro m ⟨env, S⟩ ⟨k, all2, hk, rfl, hok2, hpre, hadd, e0, e6, e7, e8, e9, e10, e12, s16, s500, s501⟩
  simp only at e0 e6 e7 e8 e9 e10 e12 s16 s500 s501
  rw [hadd]
  have hle := hpre.length_le
  have h200' := hok2.len
  have hl0 : (all2.map Al).length = all2.length := List.length_map _
  by_cases hkl : k < l.length
  case neg =>
   have hkl' : ¬ (k : Int) < l.length := by omega
   rw [List.drop_of_length_le (by omega), DR]
   repeat' with_reducible first | refine W ?_ | refine Z0 ?_ | ((first | refine Wo fun K hK => ?_ | refine Wp ?_ | refine Wq ?_ | refine Wr ?_); (try simp only [go_sem, fN, seval, eT, iR, e0, e6, e7, e8, e9, e10, e12, s16, s500, s501, hkl', dT, dF, nL]); (repeat refine Ai ?_); (try (refine hK _ ?_; clear hK K)); try refine iC ?_)
   have hf2 : 200 - (i + 1) = f := by omega
   refine AF ⟨200 - (i + 1), by omega, i + 1, all2, by omega, rfl, hok2, by rw [hf2], ?_⟩
   simp only [go_sem, fN, seval, eT, iR, e0, e6, e7, e8, e9, s16, s500, s501]
   congr 3
  have hkl' : (k : Int) < l.length := by omega
  obtain ⟨x, hx⟩ := Af hkl
  have hxo := hlo x (AP hx)
  have htx := x.text_le hxo.1
  rw [Bf hx, DR]
  by_cases hin : x.text ∈ all2.map Tm.text
  ·have hget := Jg hin
   rw [if_pos hin]
   repeat' (first | (with_reducible first | refine W ?_ | refine Z0 ?_ | ((first | refine Wo fun K hK => ?_ | refine Wp ?_ | refine Wq ?_ | refine Wr ?_); (try simp only [go_sem, fN, seval, eT, iR, e0, e6, e7, e8, e9, e10, e12, s16, s500, s501, hkl', hx, B6, Do, KV.of, hget, Fo, dT, dF, nL]); (repeat refine Ai ?_); (try (refine hK _ ?_; clear hK K)); try refine iC ?_)) | refine Cg _ (JD x (by omega)) ?_)
   refine AF ⟨l.length - (k + 1), by omega, k + 1, all2, by omega, rfl, hok2, hpre, rfl, ?_⟩
   simp only [go_sem, fN, seval, eT, iR, e0, e6, e7, e8, e9, e10, e12, s16, s500, s501]
   congr 3
  have hget := IH hin
  have hput := SE hin
  rw [if_neg hin]
  by_cases hg : 200 ≤ all2.length
  ·rw [if_pos hg]
   have hg' : (200 : Int) < ((all2.length + 1 : Nat) : Int) := by omega
   simp only
   rw [Dl]
   repeat' (first | (with_reducible first | refine W ?_ | refine Z0 ?_ | ((first | refine Wo fun K hK => ?_ | refine Wp ?_ | refine Wq ?_ | refine Wr ?_); (try simp only [go_sem, fN, seval, eT, iR, e0, e6, e7, e8, e9, e10, e12, s16, s500, s501, hkl', hx, B6, Do, KV.of, hget, hput, Fo, hg', hl0, dT, dF, nL]); (repeat refine Ai ?_); (try (refine hK _ ?_; clear hK K)); try refine iC ?_)) | refine Cg _ (JD x (by omega)) ?_)
   simp only [go_sem, fN, seval, AK, AS.result, AB, AD, AI]
   rfl
  ·rw [if_neg hg]
   have hg' : ¬ (200 : Int) < ((all2.length + 1 : Nat) : Int) := by omega
   have hd4 : (all2 ++ [x]).map Al = all2.map Al ++ [Al x] := by rw [List.map_append]; rfl
   have hm4 : (all2 ++ [x]).map Tm.text = all2.map Tm.text ++ [x.text] := by rw [List.map_append]; rfl
   repeat' (first | (with_reducible first | refine W ?_ | refine Z0 ?_ | ((first | refine Wo fun K hK => ?_ | refine Wp ?_ | refine Wq ?_ | refine Wr ?_); (try simp only [go_sem, fN, seval, eT, iR, e0, e6, e7, e8, e9, e10, e12, s16, s500, s501, hkl', hx, B6, Do, KV.of, hget, hput, Fo, hg', hl0, dT, dF, nL]); (repeat refine Ai ?_); (try (refine hK _ ?_; clear hK K)); try refine iC ?_)) | refine Cg _ (JD x (by omega)) ?_)
   refine AF ⟨l.length - (k + 1), by omega, k + 1, all2 ++ [x], by omega, rfl, hok2.snoc (by omega) hxo hin, hpre.trans (List.prefix_append _ _), rfl, ?_⟩
   simp only [go_sem, fN, seval, eT, iR, e0, e6, e7, e8, e9, e10, e12, s16, s500, s501, hd4, hm4]
   exact ⟨by congr 3, by rw [List.map_append]; rfl⟩

theorem M3 (l : List ByteArray) : AN Tryz.prog 31 [B3 l, B3 l] (Ad true) := by
 refine KT.ac fun C hC => ?_
 unfold FY
 refine IWP.learn 0 (by omega) fun hkn => ?_
 have hml : l.length ≤ maxLen := by simpa using (show ((l.map B7).length ≤ maxLen ∧ _) from hkn).1
 unfold maxLen at hml
 repeat' with_reducible first | refine W ?_ | refine Z0 ?_ | ((first | refine Wo fun K hK => ?_ | refine Wp ?_ | refine Wq ?_ | refine Wr ?_); (try simp only [go_sem, fN, seval, eT, iR, dT, dF, nL]); (repeat refine Ai ?_); (try (refine hK _ ?_; clear hK K)); try refine iC ?_)
 refine IWP.loop (fun m s => ∃ k, k ≤ l.length ∧ m = l.length - k ∧ s.env 0 = B3 l ∧ s.env 1 = B3 l ∧ s.env 5 = AO k) l.length ⟨0, Nat.zero_le _, rfl, rfl, rfl, rfl⟩ ?_
 rintro m ⟨env, S⟩ ⟨k, hk, rfl, e0, e1, e5⟩
 simp only at e0 e1 e5
 by_cases hkl : (k : Int) < l.length
 ·obtain ⟨x, hx⟩ := Af (show k < l.length by omega)
  repeat' with_reducible first | refine W ?_ | refine Z0 ?_ | ((first | refine Wo fun K hK => ?_ | refine Wp ?_ | refine Wq ?_ | refine Wr ?_); (try simp only [go_sem, fN, seval, eT, iR, e0, e1, e5, hkl, hx, dT, dF, nL]); (repeat refine Ai ?_); (try (refine hK _ ?_; clear hK K)); try refine iC ?_)
  refine AF ⟨l.length - (k + 1), by omega, k + 1, by omega, rfl, ?_⟩
  simp only [go_sem, fN, seval, eT, iR, e0, e1, e5]
  congr 3
 ·repeat' with_reducible first | refine W ?_ | refine Z0 ?_ | ((first | refine Wo fun K hK => ?_ | refine Wp ?_ | refine Wq ?_ | refine Wr ?_); (try simp only [go_sem, fN, seval, eT, iR, e0, e1, e5, hkl, dT, dF, nL]); (repeat refine Ai ?_); (try (refine hK _ ?_; clear hK K)); try refine iC ?_)
  simp only [go_sem, fN, seval, AK, AS.result, AB, AD, AI]
theorem Jb (l : List ByteArray) (e : Int) (h : e ≠ 0 → l = []) : AN Tryz.prog 12 [B3 l, AO e, B3 l, AO e] (Ad true) := by
 by_cases he : e = 0
 ·subst he
  refine Ii.ac fun C hC => ?_
  unfold FJ
  repeat' (first | (with_reducible first | refine W ?_ | refine Z0 ?_ | ((first | refine Wo fun K hK => ?_ | refine Wp ?_ | refine Wq ?_ | refine Wr ?_); (try simp only [go_sem, fN, seval, eT, iR, dT, dF, nL]); (repeat refine Ai ?_); (try (refine hK _ ?_; clear hK K)); try refine iC ?_)) | refine Cg _ (M3 l) ?_)
  simp only [go_sem, fN, seval, AK, AS.result, AB, AD, AI]
 ·have hl := h he
  subst hl
  refine Ii.ac fun C hC => ?_
  unfold FJ
  repeat' with_reducible first | refine W ?_ | refine Z0 ?_ | ((first | refine Wo fun K hK => ?_ | refine Wp ?_ | refine Wq ?_ | refine Wr ?_); (try simp only [go_sem, fN, seval, eT, iR, he, dT, dF, nL]); (repeat refine Ai ?_); (try (refine hK _ ?_; clear hK K)); try refine iC ?_)
  simp only [go_sem, fN, seval, AK, AS.result, AB, AD, AI]
theorem Jd (R : List Pr) : ∀ (f i : Nat) (all : List Tm), (B8 R f i all).2 ≠ 0 → (B8 R f i all).1 = []
 | 0, i, all, h => absurd rfl h
 | f + 1, i, all, h => by
  rw [B8] at h ⊢
  split
  ·rename_i h1
   rw [h1] at h
   exact absurd rfl h
  ·rename_i t h1
   rw [h1] at h
   simp only at h
   split
   ·rfl
   ·rename_i l h2
    rw [h2] at h
    simp only at h
    split
    ·rfl
    ·rename_i all' h3
     rw [h3] at h
     exact Jd R f _ all' h
theorem MQ : srt [] = [] := List.eq_nil_of_length_eq_zero (Fy [])
theorem KJ (R : List Pr) (t : Tm) : AN Tryz.prog 3 [Bg R, aTm t] (Ad true) := by
 have cP := TH R t
 unfold Fb at cP
 by_cases g1 : Gv R = true
 ·refine BG.ac fun C hC => ?_
  unfold A8
  repeat' (first | (with_reducible first | refine W ?_ | refine Z0 ?_ | ((first | refine Wo fun K hK => ?_ | refine Wp ?_ | refine Wq ?_ | refine Wr ?_); (try simp only [go_sem, fN, seval, eT, iR, g1, dT, dF, nL]); (repeat refine Ai ?_); (try (refine hK _ ?_; clear hK K)); try refine iC ?_)) | refine Cg _ (AU R) ?_)
  simp only [go_sem, fN, seval, AK, AS.result, AB, AD, AI]
 by_cases g2 : 3000 < t.size
 ·refine BG.ac fun C hC => ?_
  unfold A8
  repeat' (first | (with_reducible first | refine W ?_ | refine Z0 ?_ | ((first | refine Wo fun K hK => ?_ | refine Wp ?_ | refine Wq ?_ | refine Wr ?_); (try simp only [go_sem, fN, seval, eT, iR, g1, g2, dT, dF, nL]); (repeat refine Ai ?_); (try (refine hK _ ?_; clear hK K)); try refine iC ?_)) | refine Cg _ (AU R) ?_ | refine Cg _ (An t) ?_)
  simp only [go_sem, fN, seval, AK, AS.result, AB, AD, AI]
 by_cases h0 : A3 R = 0
 case neg =>
  have ha : CA R t = A3 R := if_neg h0
  have hP : D_ R t = ([], A3 R) := by unfold D_; rw [ha, if_neg h0]
  rw [hP] at cP
  simp only [List.map_nil, MQ] at cP
  have cN := Jb [] (A3 R) (fun _ => rfl)
  refine BG.ac fun C hC => ?_
  unfold A8
  repeat' (first | (with_reducible first | refine W ?_ | refine Z0 ?_ | ((first | refine Wo fun K hK => ?_ | refine Wp ?_ | refine Wq ?_ | refine Wr ?_); (try simp only [go_sem, fN, seval, eT, iR, g1, g2, h0, dT, dF, nL]); (repeat refine Ai ?_); (try (refine hK _ ?_; clear hK K)); try refine iC ?_)) | refine Cg _ (AU R) ?_ | refine Cg _ (An t) ?_ | refine Cg _ (Ah R) ?_ | refine Cg _ (cP) ?_ | refine Cg _ (cN) ?_)
  simp only [go_sem, fN, seval, AK, AS.result, AB, AD, AI]
 case pos =>
 have ha : CA R t = t.may := if_pos h0
 by_cases h1 : t.may = 0
 case neg =>
  have hP : D_ R t = ([], t.may) := by unfold D_; rw [ha, if_neg h1]
  rw [hP] at cP
  simp only [List.map_nil, MQ] at cP
  have cN := Jb [] t.may (fun _ => rfl)
  refine BG.ac fun C hC => ?_
  unfold A8
  repeat' (first | (with_reducible first | refine W ?_ | refine Z0 ?_ | ((first | refine Wo fun K hK => ?_ | refine Wp ?_ | refine Wq ?_ | refine Wr ?_); (try simp only [go_sem, fN, seval, eT, iR, g1, g2, h0, h1, dT, dF, nL]); (repeat refine Ai ?_); (try (refine hK _ ?_; clear hK K)); try refine iC ?_)) | refine Cg _ (AU R) ?_ | refine Cg _ (An t) ?_ | refine Cg _ (Ah R) ?_ | refine Cg _ (Aw t) ?_ | refine Cg _ (cP) ?_ | refine Cg _ (cN) ?_)
  simp only [go_sem, fN, seval, AK, AS.result, AB, AD, AI]
 case pos =>
 obtain ⟨hc, hz⟩ := Tm.may_chk h1
 have hR := F4 h0
 have h40 := hR.len
 have cR := Su hR t hc hz
 have hP : D_ R t = B8 R 200 0 [t] := by unfold D_; rw [ha, if_pos h1]
 rw [hP] at cP
 have cN := Jb (srt ((B8 R 200 0 [t]).1.map Tm.text)) (B8 R 200 0 [t]).2 (fun h => by rw [Jd R _ _ _ h, List.map_nil, MQ])
 unfold Fb at cR
 generalize B8 R 200 0 [t] = X at *
 have s30 := DF t 30 (by omega) (by omega)
 by_cases g3 : 30 < Az t.size 30
 ·refine BG.ac fun C hC => ?_
  unfold A8
  repeat' (first | (with_reducible first | refine W ?_ | refine Z0 ?_ | ((first | refine Wo fun K hK => ?_ | refine Wp ?_ | refine Wq ?_ | refine Wr ?_); (try simp only [go_sem, fN, seval, eT, iR, g1, g2, h0, h1, g3, dT, dF, nL]); (repeat refine Ai ?_); (try (refine hK _ ?_; clear hK K)); try refine iC ?_)) | refine Cg _ (AU R) ?_ | refine Cg _ (An t) ?_ | refine Cg _ (Ah R) ?_ | refine Cg _ (Aw t) ?_ | refine Cg _ (s30) ?_)
  simp only [go_sem, fN, seval, AK, AS.result, AB, AD, AI]
 by_cases g4 : (6 : Int) < R.length
 ·refine BG.ac fun C hC => ?_
  unfold A8
  repeat' (first | (with_reducible first | refine W ?_ | refine Z0 ?_ | ((first | refine Wo fun K hK => ?_ | refine Wp ?_ | refine Wq ?_ | refine Wr ?_); (try simp only [go_sem, fN, seval, eT, iR, g1, g2, h0, h1, g3, g4, dT, dF, nL]); (repeat refine Ai ?_); (try (refine hK _ ?_; clear hK K)); try refine iC ?_)) | refine Cg _ (AU R) ?_ | refine Cg _ (An t) ?_ | refine Cg _ (Ah R) ?_ | refine Cg _ (Aw t) ?_ | refine Cg _ (s30) ?_)
  simp only [go_sem, fN, seval, AK, AS.result, AB, AD, AI]
 refine BG.ac fun C hC => ?_
 unfold A8
 repeat' (first | (with_reducible first | refine W ?_ | refine Z0 ?_ | ((first | refine Wo fun K hK => ?_ | refine Wp ?_ | refine Wq ?_ | refine Wr ?_); (try simp only [go_sem, fN, seval, eT, iR, g1, g2, h0, h1, g3, g4, dT, dF, nL]); (repeat refine Ai ?_); (try (refine hK _ ?_; clear hK K)); try refine iC ?_)) | refine Cg _ (AU R) ?_ | refine Cg _ (An t) ?_ | refine Cg _ (Ah R) ?_ | refine Cg _ (Aw t) ?_ | refine Cg _ (s30) ?_)
 refine IWP.loop (fun z s => ∃ k, k ≤ R.length ∧ z = R.length - k ∧ s.env 0 = Bg R ∧ s.env 3 = .one (.ptr 3 1 0 0) ∧ s.S 3 = some (.box 25 [.st (.str t.name), .st (.list (t.args.map Al))]) ∧ s.env 7 = AO k) R.length ⟨0, Nat.zero_le _, rfl, rfl, rfl, rfl, rfl⟩ ?_
 rintro z ⟨env, S⟩ ⟨k, hk, rfl, e0, e3, s3, e7⟩
 simp only at e0 e3 s3 e7
 by_cases hkl : (k : Int) < R.length
 ·obtain ⟨q, hq⟩ := Af (show k < R.length by omega)
  have s1 := DF q.2 12 (by omega) (by omega)
  by_cases b1 : 12 < Az q.2.size 12
  ·repeat' (first | (with_reducible first | refine W ?_ | refine Z0 ?_ | ((first | refine Wo fun K hK => ?_ | refine Wp ?_ | refine Wq ?_ | refine Wr ?_); (try simp only [go_sem, fN, seval, eT, iR, e0, e3, s3, e7, hkl, hq, CR, b1, dT, dF, nL]); (repeat refine Ai ?_); (try (refine hK _ ?_; clear hK K)); try refine iC ?_)) | refine Cg _ (s1) ?_)
   simp only [go_sem, fN, seval, AK, AS.result, AB, AD, AI]
  ·repeat' (first | (with_reducible first | refine W ?_ | refine Z0 ?_ | ((first | refine Wo fun K hK => ?_ | refine Wp ?_ | refine Wq ?_ | refine Wr ?_); (try simp only [go_sem, fN, seval, eT, iR, e0, e3, s3, e7, hkl, hq, CR, b1, dT, dF, nL]); (repeat refine Ai ?_); (try (refine hK _ ?_; clear hK K)); try refine iC ?_)) | refine Cg _ (s1) ?_)
   refine AF ⟨R.length - (k + 1), by omega, k + 1, by omega, rfl, ?_⟩
   simp only [go_sem, fN, seval, eT, iR, e0, e3, s3, e7]
   congr 3
 ·repeat' (first | (with_reducible first | refine W ?_ | refine Z0 ?_ | ((first | refine Wo fun K hK => ?_ | refine Wp ?_ | refine Wq ?_ | refine Wr ?_); (try simp only [go_sem, fN, seval, eT, iR, e0, e3, s3, e7, hkl, dT, dF, nL]); (repeat refine Ai ?_); (try (refine hK _ ?_; clear hK K)); try refine iC ?_)) | refine Cg _ (cR) ?_ | refine Cg _ (cP) ?_ | refine Cg _ (cN) ?_)
  simp only [go_sem, fN, seval, AK, AS.result, AB, AD, AI]

theorem KO (r : Tm × Int × Int) (h : r.2.2 ≠ 0 → r.1 = Tm.nil) : AN Tryz.prog 42 [aTm r.1, AO r.2.2, aTm r.1, AO r.2.2] (Ad true) := by
 have h1 := Tu r.1 r.1 r.2.2 r.2.2
 rw [Oy r.1 r.2.2 r.2.2 h rfl] at h1
 exact h1
theorem OL {R : List Pr} {t : Tm} {m : Int} (h : (Bt R t m).2.2 ≠ 0) : (Bt R t m).1 = Tm.nil := by
 unfold Bt at *
 split
 ·split
  ·rename_i h1 h2
   rw [if_pos h1, if_pos h2] at h
   rw [HF _ _ _ h]
  ·rfl
 ·rfl
theorem Og {R : List Pr} {t : Tm} {m : Int} (h : (Br R t m).2.2 ≠ 0) : (Br R t m).1 = Tm.nil := by
 unfold Br at *
 split
 ·split
  ·rename_i h1 h2
   rw [if_pos h1, if_pos h2] at h
   rw [HF _ _ _ h]
  ·rfl
 ·rfl
set_option maxRecDepth 100000 in
theorem Kq (R : List Pr) (a b : Tm) (m : Int) : AN Tryz.prog 17 [Bg R, aTm a, aTm b, AO m] (Ad true) := by
 have c1 := T3 R a m
 have c2 := UG R a m
 have c3 := Un R a b m
 have t1 := KO _ (OL (R := R) (t := a) (m := m))
 have t2 := KO _ (Og (R := R) (t := a) (m := m))
 unfold Fq at c1 c2
 have fm : Bi m = if m < 0 ∨ 400 < m then 10 else 0 := rfl
 by_cases g1 : Gv R = true
 ·refine AW.ac fun C hC => ?_
  unfold AT
  repeat' (first | (with_reducible first | refine W ?_ | refine Z0 ?_ | ((first | refine Wo fun K hK => ?_ | refine Wp ?_ | refine Wq ?_ | refine Wr ?_); (try simp only [go_sem, fN, seval, eT, iR, g1, dT, dF, nL]); (repeat refine Ai ?_); (try (refine hK _ ?_; clear hK K)); try refine iC ?_)) | refine Cg _ (AU R) ?_)
  simp only [go_sem, fN, seval, AK, AS.result, AB, AD, AI]
 by_cases g2 : 3000 < a.size
 ·refine AW.ac fun C hC => ?_
  unfold AT
  repeat' (first | (with_reducible first | refine W ?_ | refine Z0 ?_ | ((first | refine Wo fun K hK => ?_ | refine Wp ?_ | refine Wq ?_ | refine Wr ?_); (try simp only [go_sem, fN, seval, eT, iR, g1, g2, dT, dF, nL]); (repeat refine Ai ?_); (try (refine hK _ ?_; clear hK K)); try refine iC ?_)) | refine Cg _ (AU R) ?_ | refine Cg _ (An a) ?_)
  simp only [go_sem, fN, seval, AK, AS.result, AB, AD, AI]
 by_cases g3 : 3000 < b.size
 ·refine AW.ac fun C hC => ?_
  unfold AT
  repeat' (first | (with_reducible first | refine W ?_ | refine Z0 ?_ | ((first | refine Wo fun K hK => ?_ | refine Wp ?_ | refine Wq ?_ | refine Wr ?_); (try simp only [go_sem, fN, seval, eT, iR, g1, g2, g3, dT, dF, nL]); (repeat refine Ai ?_); (try (refine hK _ ?_; clear hK K)); try refine iC ?_)) | refine Cg _ (AU R) ?_ | refine Cg _ (An a) ?_ | refine Cg _ (An b) ?_)
  simp only [go_sem, fN, seval, AK, AS.result, AB, AD, AI]
 by_cases g4 : 30 < m ∧ m ≤ 400
 ·obtain ⟨g4, g5⟩ := g4
  refine AW.ac fun C hC => ?_
  unfold AT
  repeat' (first | (with_reducible first | refine W ?_ | refine Z0 ?_ | ((first | refine Wo fun K hK => ?_ | refine Wp ?_ | refine Wq ?_ | refine Wr ?_); (try simp only [go_sem, fN, seval, eT, iR, g1, g2, g3, g4, g5, dT, dF, nL]); (repeat refine Ai ?_); (try (refine hK _ ?_; clear hK K)); try refine iC ?_)) | refine Cg _ (AU R) ?_ | refine Cg _ (An a) ?_ | refine Cg _ (An b) ?_)
  simp only [go_sem, fN, seval, AK, AS.result, AB, AD, AI]
 have hab : Bx a b = if a.may = 0 then b.may else a.may := rfl
 by_cases h0 : A3 R = 0
 case neg =>
  have ha : CA R a = A3 R := if_neg h0
  have hP : Bt R a m = (Tm.nil, 0, A3 R) := by unfold Bt; rw [ha, if_neg h0]
  have hQ : Br R a m = (Tm.nil, 0, A3 R) := by unfold Br; rw [ha, if_neg h0]
  have hM : DA R a b m = (false, A3 R) := by unfold DA; rw [ha, if_neg h0]
  rw [hP] at c1 t1
  rw [hQ] at c2 t2
  rw [hM] at c3
  dsimp only at c1 c2 c3 t1 t2
  by_cases m1 : m < 0
  ·have m2 : ¬ 30 < m := by omega
   refine AW.ac fun C hC => ?_
   unfold AT
   repeat' (first | (with_reducible first | refine W ?_ | refine Z0 ?_ | ((first | refine Wo fun K hK => ?_ | refine Wp ?_ | refine Wq ?_ | refine Wr ?_); (try simp only [go_sem, fN, seval, eT, iR, g1, g2, g3, m1, m2, h0, dT, dF, nL]); (repeat refine Ai ?_); (try (refine hK _ ?_; clear hK K)); try refine iC ?_)) | refine Cg _ (AU R) ?_ | refine Cg _ (An a) ?_ | refine Cg _ (An b) ?_ | refine Cg _ (Ah R) ?_ | refine Cg _ (c1) ?_ | refine Cg _ (c2) ?_ | refine Cg _ (c3) ?_ | refine Cg _ (t1) ?_ | refine Cg _ (t2) ?_)
   simp only [go_sem, fN, seval, AK, AS.result, AB, AD, AI]
  ·by_cases m3 : 400 < m
   ·have m2 : 30 < m := by omega
    have m4 : ¬ m ≤ 400 := by omega
    refine AW.ac fun C hC => ?_
    unfold AT
    repeat' (first | (with_reducible first | refine W ?_ | refine Z0 ?_ | ((first | refine Wo fun K hK => ?_ | refine Wp ?_ | refine Wq ?_ | refine Wr ?_); (try simp only [go_sem, fN, seval, eT, iR, g1, g2, g3, m1, m2, m3, m4, h0, dT, dF, nL]); (repeat refine Ai ?_); (try (refine hK _ ?_; clear hK K)); try refine iC ?_)) | refine Cg _ (AU R) ?_ | refine Cg _ (An a) ?_ | refine Cg _ (An b) ?_ | refine Cg _ (Ah R) ?_ | refine Cg _ (c1) ?_ | refine Cg _ (c2) ?_ | refine Cg _ (c3) ?_ | refine Cg _ (t1) ?_ | refine Cg _ (t2) ?_)
    simp only [go_sem, fN, seval, AK, AS.result, AB, AD, AI]
   ·have m2 : ¬ 30 < m := by omega
    refine AW.ac fun C hC => ?_
    unfold AT
    repeat' (first | (with_reducible first | refine W ?_ | refine Z0 ?_ | ((first | refine Wo fun K hK => ?_ | refine Wp ?_ | refine Wq ?_ | refine Wr ?_); (try simp only [go_sem, fN, seval, eT, iR, g1, g2, g3, m1, m2, m3, h0, dT, dF, nL]); (repeat refine Ai ?_); (try (refine hK _ ?_; clear hK K)); try refine iC ?_)) | refine Cg _ (AU R) ?_ | refine Cg _ (An a) ?_ | refine Cg _ (An b) ?_ | refine Cg _ (Ah R) ?_ | refine Cg _ (c1) ?_ | refine Cg _ (c2) ?_ | refine Cg _ (c3) ?_ | refine Cg _ (t1) ?_ | refine Cg _ (t2) ?_)
    simp only [go_sem, fN, seval, AK, AS.result, AB, AD, AI]
 case pos =>
 have ha : CA R a = a.may := if_pos h0
 by_cases h1 : a.may = 0
 case neg =>
  have hab' : Bx a b = a.may := if_neg h1
  have hP : Bt R a m = (Tm.nil, 0, a.may) := by unfold Bt; rw [ha, if_neg h1]
  have hQ : Br R a m = (Tm.nil, 0, a.may) := by unfold Br; rw [ha, if_neg h1]
  have hM : DA R a b m = (false, a.may) := by unfold DA; rw [ha, if_neg h1]
  rw [hP] at c1 t1
  rw [hQ] at c2 t2
  rw [hM] at c3
  dsimp only at c1 c2 c3 t1 t2
  by_cases m1 : m < 0
  ·have m2 : ¬ 30 < m := by omega
   refine AW.ac fun C hC => ?_
   unfold AT
   repeat' (first | (with_reducible first | refine W ?_ | refine Z0 ?_ | ((first | refine Wo fun K hK => ?_ | refine Wp ?_ | refine Wq ?_ | refine Wr ?_); (try simp only [go_sem, fN, seval, eT, iR, g1, g2, g3, m1, m2, h0, h1, hab', dT, dF, nL]); (repeat refine Ai ?_); (try (refine hK _ ?_; clear hK K)); try refine iC ?_)) | refine Cg _ (AU R) ?_ | refine Cg _ (An a) ?_ | refine Cg _ (An b) ?_ | refine Cg _ (Ah R) ?_ | refine Cg _ (Aw a) ?_ | refine Cg _ (BK a b) ?_ | refine Cg _ (c1) ?_ | refine Cg _ (c2) ?_ | refine Cg _ (c3) ?_ | refine Cg _ (t1) ?_ | refine Cg _ (t2) ?_)
   simp only [go_sem, fN, seval, AK, AS.result, AB, AD, AI]
  by_cases m3 : 400 < m
  ·have m2 : 30 < m := by omega
   have m4 : ¬ m ≤ 400 := by omega
   refine AW.ac fun C hC => ?_
   unfold AT
   repeat' (first | (with_reducible first | refine W ?_ | refine Z0 ?_ | ((first | refine Wo fun K hK => ?_ | refine Wp ?_ | refine Wq ?_ | refine Wr ?_); (try simp only [go_sem, fN, seval, eT, iR, g1, g2, g3, m1, m2, m3, m4, h0, h1, hab', dT, dF, nL]); (repeat refine Ai ?_); (try (refine hK _ ?_; clear hK K)); try refine iC ?_)) | refine Cg _ (AU R) ?_ | refine Cg _ (An a) ?_ | refine Cg _ (An b) ?_ | refine Cg _ (Ah R) ?_ | refine Cg _ (Aw a) ?_ | refine Cg _ (BK a b) ?_ | refine Cg _ (c1) ?_ | refine Cg _ (c2) ?_ | refine Cg _ (c3) ?_ | refine Cg _ (t1) ?_ | refine Cg _ (t2) ?_)
   simp only [go_sem, fN, seval, AK, AS.result, AB, AD, AI]
  have m2 : ¬ 30 < m := by omega
  refine AW.ac fun C hC => ?_
  unfold AT
  repeat' (first | (with_reducible first | refine W ?_ | refine Z0 ?_ | ((first | refine Wo fun K hK => ?_ | refine Wp ?_ | refine Wq ?_ | refine Wr ?_); (try simp only [go_sem, fN, seval, eT, iR, g1, g2, g3, m1, m2, m3, h0, h1, hab', dT, dF, nL]); (repeat refine Ai ?_); (try (refine hK _ ?_; clear hK K)); try refine iC ?_)) | refine Cg _ (AU R) ?_ | refine Cg _ (An a) ?_ | refine Cg _ (An b) ?_ | refine Cg _ (Ah R) ?_ | refine Cg _ (Aw a) ?_ | refine Cg _ (BK a b) ?_ | refine Cg _ (c1) ?_ | refine Cg _ (c2) ?_ | refine Cg _ (c3) ?_ | refine Cg _ (t1) ?_ | refine Cg _ (t2) ?_)
  simp only [go_sem, fN, seval, AK, AS.result, AB, AD, AI]
 case pos =>
 obtain ⟨hca, hza⟩ := Tm.may_chk h1
 have hR := F4 h0
 have hab' : Bx a b = b.may := if_pos h1
 by_cases h2 : b.may = 0
 case neg =>
  have hM : DA R a b m = (false, b.may) := by unfold DA; rw [ha, if_pos h1, if_neg h2]
  rw [hM] at c3
  dsimp only at c3
  have bad10 : Bi m = 10 → Bt R a m = (Tm.nil, 0, 10) ∧ Br R a m = (Tm.nil, 0, 10) := fun hf => by
   unfold Bt Br
   rw [ha, if_pos h1, if_pos h1, hf]
   exact ⟨rfl, rfl⟩
  by_cases m1 : m < 0
  ·have m2 : ¬ 30 < m := by omega
   obtain ⟨hP, hQ⟩ := bad10 (by rw [fm, if_pos (by omega)])
   rw [hP] at c1 t1
   rw [hQ] at c2 t2
   dsimp only at c1 c2 t1 t2
   refine AW.ac fun C hC => ?_
   unfold AT
   repeat' (first | (with_reducible first | refine W ?_ | refine Z0 ?_ | ((first | refine Wo fun K hK => ?_ | refine Wp ?_ | refine Wq ?_ | refine Wr ?_); (try simp only [go_sem, fN, seval, eT, iR, g1, g2, g3, m1, m2, h0, h1, h2, hab', dT, dF, nL]); (repeat refine Ai ?_); (try (refine hK _ ?_; clear hK K)); try refine iC ?_)) | refine Cg _ (AU R) ?_ | refine Cg _ (An a) ?_ | refine Cg _ (An b) ?_ | refine Cg _ (Ah R) ?_ | refine Cg _ (Aw a) ?_ | refine Cg _ (BK a b) ?_ | refine Cg _ (c1) ?_ | refine Cg _ (c2) ?_ | refine Cg _ (c3) ?_ | refine Cg _ (t1) ?_ | refine Cg _ (t2) ?_)
   simp only [go_sem, fN, seval, AK, AS.result, AB, AD, AI]
  by_cases m3 : 400 < m
  ·have m2 : 30 < m := by omega
   have m4 : ¬ m ≤ 400 := by omega
   obtain ⟨hP, hQ⟩ := bad10 (by rw [fm, if_pos (by omega)])
   rw [hP] at c1 t1
   rw [hQ] at c2 t2
   dsimp only at c1 c2 t1 t2
   refine AW.ac fun C hC => ?_
   unfold AT
   repeat' (first | (with_reducible first | refine W ?_ | refine Z0 ?_ | ((first | refine Wo fun K hK => ?_ | refine Wp ?_ | refine Wq ?_ | refine Wr ?_); (try simp only [go_sem, fN, seval, eT, iR, g1, g2, g3, m1, m2, m3, m4, h0, h1, h2, hab', dT, dF, nL]); (repeat refine Ai ?_); (try (refine hK _ ?_; clear hK K)); try refine iC ?_)) | refine Cg _ (AU R) ?_ | refine Cg _ (An a) ?_ | refine Cg _ (An b) ?_ | refine Cg _ (Ah R) ?_ | refine Cg _ (Aw a) ?_ | refine Cg _ (BK a b) ?_ | refine Cg _ (c1) ?_ | refine Cg _ (c2) ?_ | refine Cg _ (c3) ?_ | refine Cg _ (t1) ?_ | refine Cg _ (t2) ?_)
   simp only [go_sem, fN, seval, AK, AS.result, AB, AD, AI]
  have m2 : ¬ 30 < m := by omega
  obtain ⟨n, rfl⟩ : ∃ n : Nat, m = n := ⟨m.toNat, by omega⟩
  have hf : Bi n = 0 := by rw [fm, if_neg (by omega)]
  have hP : Bt R a n = BN (Tm.inn R) n 0 a := by unfold Bt; rw [ha, if_pos h1, if_pos hf, Int.toNat_natCast]
  have hQ : Br R a n = BN (Tm.out R) n 0 a := by unfold Br; rw [ha, if_pos h1, if_pos hf, Int.toNat_natCast]
  have l1 := Fw hR true a hca (by omega) n (by omega)
  have l2 := Fw hR false a hca (by omega) n (by omega)
  rw [show GE true R = Tm.inn R from rfl] at l1
  rw [show GE false R = Tm.out R from rfl] at l2
  unfold Fq at l1 l2
  rw [hP] at c1 t1
  rw [hQ] at c2 t2
  generalize BN (Tm.inn R) n 0 a = P at *
  generalize BN (Tm.out R) n 0 a = Q at *
  refine AW.ac fun C hC => ?_
  unfold AT
  repeat' (first | (with_reducible first | refine W ?_ | refine Z0 ?_ | ((first | refine Wo fun K hK => ?_ | refine Wp ?_ | refine Wq ?_ | refine Wr ?_); (try simp only [go_sem, fN, seval, eT, iR, g1, g2, g3, m1, m2, m3, h0, h1, h2, hab', dT, dF, nL]); (repeat refine Ai ?_); (try (refine hK _ ?_; clear hK K)); try refine iC ?_)) | refine Cg _ (AU R) ?_ | refine Cg _ (An a) ?_ | refine Cg _ (An b) ?_ | refine Cg _ (Ah R) ?_ | refine Cg _ (Aw a) ?_ | refine Cg _ (BK a b) ?_ | refine Cg _ (l1) ?_ | refine Cg _ (l2) ?_ | refine Cg _ (c1) ?_ | refine Cg _ (c2) ?_ | refine Cg _ (c3) ?_ | refine Cg _ (t1) ?_ | refine Cg _ (t2) ?_)
  simp only [go_sem, fN, seval, AK, AS.result, AB, AD, AI]
 case pos =>
 obtain ⟨hcb, hzb⟩ := Tm.may_chk h2
 have za := DF a 40 (by omega) (by omega)
 have zb := DF b 40 (by omega) (by omega)
 have hg4 : m ≤ 30 ∨ 400 < m := by omega
 have gm : (decide (30 < m) && decide (m ≤ 400)) = false := by
  rcases hg4 with h | h
  ·simp [show ¬ 30 < m by omega]
  ·simp [show ¬ m ≤ 400 by omega]
 have early : ∀ (hbig : (40 : Int) < Az a.size 40 ∨ (¬ (40 : Int) < Az a.size 40 ∧ (40 : Int) < Az b.size 40) ∨ (¬ (40 : Int) < Az a.size 40 ∧ ¬ (40 : Int) < Az b.size 40 ∧ (12 : Int) < R.length)), AN Tryz.prog 17 [Bg R, aTm a, aTm b, AO m] (Ad true) := by
  intro hbig
  rcases hg4 with h30 | h400
  ·have m2 : ¬ 30 < m := by omega
   rcases hbig with q1 | ⟨q1, q2⟩ | ⟨q1, q2, q3⟩
   ·refine AW.ac fun C hC => ?_
    unfold AT
    repeat' (first | (with_reducible first | refine W ?_ | refine Z0 ?_ | ((first | refine Wo fun K hK => ?_ | refine Wp ?_ | refine Wq ?_ | refine Wr ?_); (try simp only [go_sem, fN, seval, eT, iR, g1, g2, g3, m2, h0, h1, h2, hab', q1, dT, dF, nL]); (repeat refine Ai ?_); (try (refine hK _ ?_; clear hK K)); try refine iC ?_)) | refine Cg _ (AU R) ?_ | refine Cg _ (An a) ?_ | refine Cg _ (An b) ?_ | refine Cg _ (Ah R) ?_ | refine Cg _ (Aw a) ?_ | refine Cg _ (BK a b) ?_ | refine Cg _ (za) ?_ | refine Cg _ (zb) ?_)
    simp only [go_sem, fN, seval, AK, AS.result, AB, AD, AI]
   ·refine AW.ac fun C hC => ?_
    unfold AT
    repeat' (first | (with_reducible first | refine W ?_ | refine Z0 ?_ | ((first | refine Wo fun K hK => ?_ | refine Wp ?_ | refine Wq ?_ | refine Wr ?_); (try simp only [go_sem, fN, seval, eT, iR, g1, g2, g3, m2, h0, h1, h2, hab', q1, q2, dT, dF, nL]); (repeat refine Ai ?_); (try (refine hK _ ?_; clear hK K)); try refine iC ?_)) | refine Cg _ (AU R) ?_ | refine Cg _ (An a) ?_ | refine Cg _ (An b) ?_ | refine Cg _ (Ah R) ?_ | refine Cg _ (Aw a) ?_ | refine Cg _ (BK a b) ?_ | refine Cg _ (za) ?_ | refine Cg _ (zb) ?_)
    simp only [go_sem, fN, seval, AK, AS.result, AB, AD, AI]
   ·refine AW.ac fun C hC => ?_
    unfold AT
    repeat' (first | (with_reducible first | refine W ?_ | refine Z0 ?_ | ((first | refine Wo fun K hK => ?_ | refine Wp ?_ | refine Wq ?_ | refine Wr ?_); (try simp only [go_sem, fN, seval, eT, iR, g1, g2, g3, m2, h0, h1, h2, hab', q1, q2, q3, dT, dF, nL]); (repeat refine Ai ?_); (try (refine hK _ ?_; clear hK K)); try refine iC ?_)) | refine Cg _ (AU R) ?_ | refine Cg _ (An a) ?_ | refine Cg _ (An b) ?_ | refine Cg _ (Ah R) ?_ | refine Cg _ (Aw a) ?_ | refine Cg _ (BK a b) ?_ | refine Cg _ (za) ?_ | refine Cg _ (zb) ?_)
    simp only [go_sem, fN, seval, AK, AS.result, AB, AD, AI]
  ·have m2 : 30 < m := by omega
   have m4 : ¬ m ≤ 400 := by omega
   rcases hbig with q1 | ⟨q1, q2⟩ | ⟨q1, q2, q3⟩
   ·refine AW.ac fun C hC => ?_
    unfold AT
    repeat' (first | (with_reducible first | refine W ?_ | refine Z0 ?_ | ((first | refine Wo fun K hK => ?_ | refine Wp ?_ | refine Wq ?_ | refine Wr ?_); (try simp only [go_sem, fN, seval, eT, iR, g1, g2, g3, m2, m4, h0, h1, h2, hab', q1, dT, dF, nL]); (repeat refine Ai ?_); (try (refine hK _ ?_; clear hK K)); try refine iC ?_)) | refine Cg _ (AU R) ?_ | refine Cg _ (An a) ?_ | refine Cg _ (An b) ?_ | refine Cg _ (Ah R) ?_ | refine Cg _ (Aw a) ?_ | refine Cg _ (BK a b) ?_ | refine Cg _ (za) ?_ | refine Cg _ (zb) ?_)
    simp only [go_sem, fN, seval, AK, AS.result, AB, AD, AI]
   ·refine AW.ac fun C hC => ?_
    unfold AT
    repeat' (first | (with_reducible first | refine W ?_ | refine Z0 ?_ | ((first | refine Wo fun K hK => ?_ | refine Wp ?_ | refine Wq ?_ | refine Wr ?_); (try simp only [go_sem, fN, seval, eT, iR, g1, g2, g3, m2, m4, h0, h1, h2, hab', q1, q2, dT, dF, nL]); (repeat refine Ai ?_); (try (refine hK _ ?_; clear hK K)); try refine iC ?_)) | refine Cg _ (AU R) ?_ | refine Cg _ (An a) ?_ | refine Cg _ (An b) ?_ | refine Cg _ (Ah R) ?_ | refine Cg _ (Aw a) ?_ | refine Cg _ (BK a b) ?_ | refine Cg _ (za) ?_ | refine Cg _ (zb) ?_)
    simp only [go_sem, fN, seval, AK, AS.result, AB, AD, AI]
   ·refine AW.ac fun C hC => ?_
    unfold AT
    repeat' (first | (with_reducible first | refine W ?_ | refine Z0 ?_ | ((first | refine Wo fun K hK => ?_ | refine Wp ?_ | refine Wq ?_ | refine Wr ?_); (try simp only [go_sem, fN, seval, eT, iR, g1, g2, g3, m2, m4, h0, h1, h2, hab', q1, q2, q3, dT, dF, nL]); (repeat refine Ai ?_); (try (refine hK _ ?_; clear hK K)); try refine iC ?_)) | refine Cg _ (AU R) ?_ | refine Cg _ (An a) ?_ | refine Cg _ (An b) ?_ | refine Cg _ (Ah R) ?_ | refine Cg _ (Aw a) ?_ | refine Cg _ (BK a b) ?_ | refine Cg _ (za) ?_ | refine Cg _ (zb) ?_)
    simp only [go_sem, fN, seval, AK, AS.result, AB, AD, AI]
 by_cases q1 : (40 : Int) < Az a.size 40
 ·exact early (.inl q1)
 by_cases q2 : (40 : Int) < Az b.size 40
 ·exact early (.inr (.inl ⟨q1, q2⟩))
 by_cases q3 : (12 : Int) < R.length
 ·exact early (.inr (.inr ⟨q1, q2, q3⟩))
 clear early
 have bad10 : Bi m = 10 → Bt R a m = (Tm.nil, 0, 10) ∧ Br R a m = (Tm.nil, 0, 10) ∧ DA R a b m = (false, 10) := fun hf => by
  unfold Bt Br DA
  rw [ha, if_pos h1, if_pos h1, if_pos h1, if_pos h2, hf]
  exact ⟨rfl, rfl, rfl⟩
 by_cases m1 : m < 0
 ·have m2 : ¬ 30 < m := by omega
  obtain ⟨hP, hQ, hM⟩ := bad10 (by rw [fm, if_pos (by omega)])
  rw [hP] at c1 t1
  rw [hQ] at c2 t2
  rw [hM] at c3
  dsimp only at c1 c2 c3 t1 t2
  refine AW.ac fun C hC => ?_
  unfold AT
  repeat' (first | (with_reducible first | refine W ?_ | refine Z0 ?_ | ((first | refine Wo fun K hK => ?_ | refine Wp ?_ | refine Wq ?_ | refine Wr ?_); (try simp only [go_sem, fN, seval, eT, iR, g1, g2, g3, m1, m2, h0, h1, h2, hab', q1, q2, q3, dT, dF, nL]); (repeat refine Ai ?_); (try (refine hK _ ?_; clear hK K)); try refine iC ?_)) | refine Cg _ (AU R) ?_ | refine Cg _ (An a) ?_ | refine Cg _ (An b) ?_ | refine Cg _ (Ah R) ?_ | refine Cg _ (Aw a) ?_ | refine Cg _ (BK a b) ?_ | refine Cg _ (za) ?_ | refine Cg _ (zb) ?_ | refine Cg _ (c1) ?_ | refine Cg _ (c2) ?_ | refine Cg _ (c3) ?_ | refine Cg _ (t1) ?_ | refine Cg _ (t2) ?_)
  simp only [go_sem, fN, seval, AK, AS.result, AB, AD, AI]
 by_cases m3 : 400 < m
 ·have m2 : 30 < m := by omega
  have m4 : ¬ m ≤ 400 := by omega
  obtain ⟨hP, hQ, hM⟩ := bad10 (by rw [fm, if_pos (by omega)])
  rw [hP] at c1 t1
  rw [hQ] at c2 t2
  rw [hM] at c3
  dsimp only at c1 c2 c3 t1 t2
  refine AW.ac fun C hC => ?_
  unfold AT
  repeat' (first | (with_reducible first | refine W ?_ | refine Z0 ?_ | ((first | refine Wo fun K hK => ?_ | refine Wp ?_ | refine Wq ?_ | refine Wr ?_); (try simp only [go_sem, fN, seval, eT, iR, g1, g2, g3, m1, m2, m3, m4, h0, h1, h2, hab', q1, q2, q3, dT, dF, nL]); (repeat refine Ai ?_); (try (refine hK _ ?_; clear hK K)); try refine iC ?_)) | refine Cg _ (AU R) ?_ | refine Cg _ (An a) ?_ | refine Cg _ (An b) ?_ | refine Cg _ (Ah R) ?_ | refine Cg _ (Aw a) ?_ | refine Cg _ (BK a b) ?_ | refine Cg _ (za) ?_ | refine Cg _ (zb) ?_ | refine Cg _ (c1) ?_ | refine Cg _ (c2) ?_ | refine Cg _ (c3) ?_ | refine Cg _ (t1) ?_ | refine Cg _ (t2) ?_)
  simp only [go_sem, fN, seval, AK, AS.result, AB, AD, AI]
 have m2 : ¬ 30 < m := by omega
 obtain ⟨n, rfl⟩ : ∃ n : Nat, m = n := ⟨m.toNat, by omega⟩
 have hf : Bi n = 0 := by rw [fm, if_neg (by omega)]
 have hP : Bt R a n = BN (Tm.inn R) n 0 a := by unfold Bt; rw [ha, if_pos h1, if_pos hf, Int.toNat_natCast]
 have hQ : Br R a n = BN (Tm.out R) n 0 a := by unfold Br; rw [ha, if_pos h1, if_pos hf, Int.toNat_natCast]
 have l1 := Fw hR true a hca (by omega) n (by omega)
 have l2 := Fw hR false a hca (by omega) n (by omega)
 rw [show GE true R = Tm.inn R from rfl] at l1
 rw [show GE false R = Tm.out R from rfl] at l2
 unfold Fq at l1 l2
 rw [hP] at c1 t1
 rw [hQ] at c2 t2
 have hM : DA R a b n = HQ R n a b := by unfold DA; rw [ha, if_pos h1, if_pos h2, if_pos hf, Int.toNat_natCast]
 rw [hM] at c3
 have l3 := UE hR a b hca hcb (by omega) (by omega) n (by omega)
 generalize HQ R n a b = M at *
 generalize BN (Tm.inn R) n 0 a = P at *
 generalize BN (Tm.out R) n 0 a = Q at *
 refine AW.ac fun C hC => ?_
 unfold AT
 repeat' (first | (with_reducible first | refine W ?_ | refine Z0 ?_ | ((first | refine Wo fun K hK => ?_ | refine Wp ?_ | refine Wq ?_ | refine Wr ?_); (try simp only [go_sem, fN, seval, eT, iR, g1, g2, g3, m1, m2, m3, h0, h1, h2, hab', q1, q2, q3, dT, dF, nL]); (repeat refine Ai ?_); (try (refine hK _ ?_; clear hK K)); try refine iC ?_)) | refine Cg _ (AU R) ?_ | refine Cg _ (An a) ?_ | refine Cg _ (An b) ?_ | refine Cg _ (Ah R) ?_ | refine Cg _ (Aw a) ?_ | refine Cg _ (BK a b) ?_ | refine Cg _ (za) ?_ | refine Cg _ (zb) ?_ | refine Cg _ (l1) ?_ | refine Cg _ (l2) ?_ | refine Cg _ (l3) ?_ | refine Cg _ (c1) ?_ | refine Cg _ (c2) ?_ | refine Cg _ (c3) ?_ | refine Cg _ (t1) ?_ | refine Cg _ (t2) ?_)
 simp only [go_sem, fN, seval, AK, AS.result, AB, AD, AI]

def Lt : IR :=
 (.seq (.ops [.i 6 (.alloc 25 [.st (.str (ByteArray.mk (#[]))), .full []]), .i 7 (.mov (.n 0)), .i 8 (.mov (.n 0)), .i 9 (.mov (.n 0))]) (.seq (.ops [.m 16 1, .m 10 16]) (.seq (.block 0 (.loop (.seq (.seq (.ops [.m 17 1, .m 18 0, .i 19 (.len true (.t 18)), .i 20 (.bin .lss (.t 17) (.t 19)), .m 21 20, .mk (some 22) (some (21, true)) (.mov (.t 0)) .no, .mk (some 23) (some (21, true)) (.mov (.t 1)) .no, .mk (some 24) (some (21, true)) (.indexStr (.t 22) (.t 23)) .no, .mk (some 25) (some (21, true)) (.call 43 [.t 24]) .no, .i 26 (.pick (.t 21) (.t 25) (.c (.one (.st (.bool false)))))]) (.cond (.t 26) .skip (.exit 0))) (.block 1 (.ops [.m 27 1, .i 28 (.bin .add (.t 27) (.n 1)), .m 1 28]))))) (.seq (.seq (.ops [.m 29 1, .m 30 10, .i 31 (.bin .eql (.t 29) (.t 30))]) (.cond (.t 31) (.seq (.seq (.ops [.m 32 1, .m 33 0, .i 34 (.len true (.t 33)), .i 35 (.bin .eql (.t 32) (.t 34))]) (.cond (.t 35) (.seq (.ops [.i 36 (.build [.st (.str (ByteArray.mk (#[]))), .full []] []), .m 37 1, .m 38 2, .s 2 6 36, .m 7 37, .m 8 38, .i 9 (.mov (.n 13))]) .ret) .skip)) (.seq (.ops [.i 39 (.build [.st (.str (ByteArray.mk (#[]))), .full []] []), .m 40 1, .m 41 2, .s 2 6 39, .m 7 40, .m 8 41, .i 9 (.mov (.n 12))]) .ret)) .skip)) (.seq (.ops [.m 42 0, .m 43 10, .m 44 1, .i 45 (.sliceS (.t 42) (some (.t 43)) (some (.t 44))), .i 46 (.build [.st (.str (ByteArray.mk (#[]))), .full []] [(0, 1, .t 45)]), .i 11 (.alloc 25 [.st (.str (ByteArray.mk (#[]))), .full []]), .s 2 11 46]) (.seq (.seq (.ops [.f 47 0 11, .l 48 47, .i 49 (.call 23 [.t 48]), .i 50 (.un .not (.t 49))]) (.cond (.t 50) (.seq (.ops [.L 51 2 11, .m 52 1, .m 53 2, .s 2 6 51, .m 7 52, .m 8 53, .i 9 (.mov (.n 1))]) .ret) .skip)) (.seq (.ops [.m 54 2, .i 55 (.bin .add (.t 54) (.n 1)), .m 2 55]) (.seq (.seq (.ops [.m 56 2, .i 57 (.bin .gtr (.t 56) (.n 200))]) (.cond (.t 57) (.seq (.ops [.L 58 2 11, .m 59 1, .m 60 2, .s 2 6 58, .m 7 59, .m 8 60, .i 9 (.mov (.n 3))]) .ret) .skip)) (.seq (.seq (.ops [.m 61 1, .m 62 0, .i 63 (.len true (.t 62)), .i 64 (.bin .eql (.t 61) (.t 63)), .m 65 64, .mk (some 66) (some (65, false)) (.mov (.t 0)) .no, .mk (some 67) (some (65, false)) (.mov (.t 1)) .no, .mk (some 68) (some (65, false)) (.indexStr (.t 66) (.t 67)) .no, .mk (some 69) (some (65, false)) (.bin .neq (.t 68) (.c (.one (.st (.int .u8 40))))) .no, .i 70 (.pick (.t 65) (.c (.one (.st (.bool true)))) (.t 69))]) (.cond (.t 70) (.seq (.ops [.L 71 2 11, .m 72 1, .m 73 2, .s 2 6 71, .m 7 72, .m 8 73, .i 9 (.mov (.n 0))]) .ret) .skip)) (.seq (.seq (.ops [.f 74 0 11, .l 75 74, .i 76 (.call 19 [.t 75])]) (.cond (.t 76) (.seq (.ops [.L 77 2 11, .m 78 1, .m 79 2, .s 2 6 77, .m 7 78, .m 8 79, .i 9 (.mov (.n 2))]) .ret) .skip)) (.block 2 (.loop (.block 3 (.seq (.ops [.m 81 0, .m 82 1, .i 83 (.bin .add (.t 82) (.n 1)), .m 84 2, .i 85 (.call 58 [.t 81, .t 83, .t 84]), .m 80 85, .i 86 (.extract 0 (.t 80)), .i 87 (.extract 1 (.t 80)), .i 88 (.extract 2 (.t 80)), .i 89 (.extract 3 (.t 80)), .i 12 (.alloc 25 [.st (.str (ByteArray.mk (#[]))), .full []]), .s 2 12 86, .m 13 87, .m 14 88, .m 15 89]) (.seq (.seq (.ops [.m 90 15, .i 91 (.bin .neq (.t 90) (.n 0))]) (.cond (.t 91) (.seq (.ops [.L 92 2 11, .m 93 13, .m 94 14, .m 95 15, .s 2 6 92, .m 7 93, .m 8 94, .m 9 95]) .ret) .skip)) (.seq (.ops [.f 96 1 11, .l 97 96, .L 98 2 12, .i 99 (.buildSlice false 25 2 [.t 98]), .i 100 (.append false 25 2 40 (.t 97) (.t 99)), .f 101 1 11, .s 1 101 100]) (.seq (.ops [.m 102 13, .m 1 102]) (.seq (.ops [.m 103 14, .m 2 103]) (.seq (.seq (.ops [.m 104 1, .m 105 0, .i 106 (.len true (.t 105)), .i 107 (.bin .eql (.t 104) (.t 106))]) (.cond (.t 107) (.seq (.ops [.L 108 2 11, .m 109 1, .m 110 2, .s 2 6 108, .m 7 109, .m 8 110, .i 9 (.mov (.n 13))]) .ret) .skip)) (.seq (.seq (.ops [.m 111 0, .m 112 1, .i 113 (.indexStr (.t 111) (.t 112)), .i 114 (.bin .eql (.t 113) (.c (.one (.st (.int .u8 41)))))]) (.cond (.t 114) (.seq (.ops [.L 115 2 11, .m 116 1, .i 117 (.bin .add (.t 116) (.n 1)), .m 118 2, .s 2 6 115, .m 7 117, .m 8 118, .i 9 (.mov (.n 0))]) .ret) .skip)) (.seq (.ops [.m 119 0, .m 120 1, .i 121 (.indexStr (.t 119) (.t 120)), .i 122 (.bin .neq (.t 121) (.c (.one (.st (.int .u8 44)))))]) (.cond (.t 122) (.seq (.ops [.L 123 2 11, .m 124 1, .m 125 2, .s 2 6 123, .m 7 124, .m 8 125, .i 9 (.mov (.n 12))]) .ret) .skip))))))))))))))))))))))
theorem Ri : OkF Tryz.prog 58 126 [] Lt [.cell 6 true 2, .t 7, .t 8, .t 9] := .of Tryz.func58 rfl rfl (by kernel_rfl) rfl
def LA : IR :=
 (.seq (.ops [.i 2 (.alloc 25 [.st (.str (ByteArray.mk (#[]))), .full []]), .i 3 (.mov (.n 0))]) (.seq (.seq (.ops [.m 8 0, .i 9 (.len true (.t 8)), .i 10 (.bin .gtr (.t 9) (.n 4000))]) (.cond (.t 10) (.seq (.ops [.i 11 (.build [.st (.str (ByteArray.mk (#[]))), .full []] []), .s 2 2 11, .i 3 (.mov (.n 3))]) .ret) .skip)) (.seq (.ops [.m 13 0, .i 14 (.call 58 [.t 13, .n 0, .n 0]), .m 12 14, .i 15 (.extract 0 (.t 12)), .i 16 (.extract 1 (.t 12)), .i 17 (.extract 2 (.t 12)), .i 18 (.extract 3 (.t 12)), .i 4 (.alloc 25 [.st (.str (ByteArray.mk (#[]))), .full []]), .s 2 4 15, .m 5 16, .m 6 17, .m 7 18]) (.seq (.seq (.ops [.m 19 7, .i 20 (.bin .eql (.t 19) (.n 0)), .m 21 20, .mk (some 22) (some (21, true)) (.mov (.t 5)) .no, .mk (some 23) (some (21, true)) (.mov (.t 0)) .no, .mk (some 24) (some (21, true)) (.len true (.t 23)) .no, .mk (some 25) (some (21, true)) (.bin .lss (.t 22) (.t 24)) .no, .i 26 (.pick (.t 21) (.t 25) (.c (.one (.st (.bool false)))))]) (.cond (.t 26) (.ops [.i 7 (.mov (.n 12))]) .skip)) (.seq (.seq (.ops [.m 27 7, .i 28 (.bin .neq (.t 27) (.n 0))]) (.cond (.t 28) (.seq (.ops [.i 29 (.build [.st (.str (ByteArray.mk (#[]))), .full []] []), .m 30 7, .s 2 2 29, .m 3 30]) .ret) .skip)) (.seq (.ops [.L 31 2 4, .s 2 2 31, .i 3 (.mov (.n 0))]) .ret))))))
theorem Rt : OkF Tryz.prog 32 32 [] LA [.cell 2 true 2, .t 3] := .of Tryz.func32 rfl rfl (by kernel_rfl) rfl

end Go.Proofs.YtgcddcaachpbnaaGreat
