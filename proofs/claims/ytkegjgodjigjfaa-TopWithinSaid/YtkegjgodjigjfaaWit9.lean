/-
  Proved: inclusion of automata is kept by acceptance, holds of each in itself and in the union, and of the intersection in each: the law TopWithin returns true. Conditions: none.
-/
import Derived.Test.YtkegjgodjigjfaaWit8
import Derived.Sort.Walk0
import Derived.Lib.FrozenHead2
import Derived.Lib.OthersKept
import Derived.Shelf.Strings.BuilderK
import Derived.Test.YtkegjgodjigjfaaRows
import Derived.ProofKit
import Derived.OpenShut
import Derived.JoinedCond
import Derived.Deep.Slices
namespace Go.Proofs.Ytkegjgodjigjfaa
open Go Go.RowKit
set_option linter.unusedVariables false
set_option linter.unusedSimpArgs false
set_option maxHeartbeats 1000000
theorem Py (l : List Au) (hl : l.length ≤ 1000) (hm : ∀ a ∈ l, a.moves.length ≤ 100000) (hf : ∀ a ∈ l, ∀ m ∈ a.moves, m.frm.length ≤ 100000) : Ac Try.prog 30 [NP l] (AR (Dl l)) := by
 refine IC.ac fun C hC => ?_
 unfold E8
 repeat' with_reducible first | refine W ?_ | refine Z0 ?_ | ((first | refine Wo fun K hK => ?_ | refine Wp ?_ | refine Wq ?_ | refine Wr ?_); (try simp only [go_sem, fN, seval, eT, iR, dT, dF, nL]); (repeat refine Ai ?_); (try (refine hK _ ?_; clear hK K)); try refine iC ?_)
 refine IWP.loopD [4] (fun q s => ∃ k, k ≤ l.length ∧ q = l.length - k ∧ (l.take k).all Al = true ∧ s.env 7 = NP l ∧ s.env 8 = AR l.length ∧ s.env 9 = AR k ∧ s.S 4 = none ∧ s.S 6 = none) l.length ⟨0, Nat.zero_le _, rfl, rfl, rfl, by simp only [go_sem, fN, seval, eT, iR], rfl, rfl, rfl⟩ ?_
 rintro q ⟨env, S⟩ ⟨k, hk, rfl, hall, e7, e8, e9, s4, s6⟩
 simp only at e7 e8 e9 s4 s6
 by_cases hlt : (k : Int) < l.length
 ·obtain ⟨a, ha⟩ := Ap (show k < l.length by omega)
  have ham := AT ha
  have h1 := hm a ham
  have hno : Al a = false → Dl l = 3 := fun h => if_neg (by
   rw [List.all_eq_true]
   intro h'
   rw [h' a ham] at h
   cases h)
  have hsn : (l.take (k + 1)).all Al = Al a := DT ha hall
  by_cases h3 : (3 : Int) < a.states
  ·have hb : Al a = false := by
    unfold Al
    rw [decide_eq_false (by omega)]
    rfl
   rw [hno hb]
   repeat' with_reducible first | refine W ?_ | refine Z0 ?_ | ((first | refine Wo fun K hK => ?_ | refine Wp ?_ | refine Wq ?_ | refine Wr ?_); (try simp only [go_sem, fN, seval, eT, iR, e7, e8, e9, s4, s6, hlt, ha, KJ, h3, dT, dF, nL]); (repeat refine Ai ?_); (try (refine hK _ ?_; clear hK K)); try refine iC ?_)
   simp only [go_sem, fN, seval, Ae, AS.result, AK, AL, AZ]
  ·repeat' with_reducible first | refine W ?_ | refine Z0 ?_ | ((first | refine Wo fun K hK => ?_ | refine Wp ?_ | refine Wq ?_ | refine Wr ?_); (try simp only [go_sem, fN, seval, eT, iR, e7, e8, e9, s4, s6, hlt, ha, KJ, h3, dT, dF, nL]); (repeat refine Ai ?_); (try (refine hK _ ?_; clear hK K)); try refine iC ?_)
   refine IWP.loopD [6] (fun q s => ∃ i, i ≤ a.moves.length ∧ q = a.moves.length - i ∧ (a.moves.take i).all (fun m => decide (m.frm.length ≤ 2)) = true ∧ s.env 7 = NP l ∧ s.env 8 = AR l.length ∧ s.env 9 = AR k ∧ s.env 17 = .one (.st (.list (a.moves.map Ab))) ∧ s.env 18 = AR a.moves.length ∧ s.env 19 = AR i ∧ s.S 6 = none) a.moves.length
    ⟨0, Nat.zero_le _, rfl, rfl, by simp only [go_sem, fN, seval, eT, iR, e7], by simp only [go_sem, fN, seval, eT, iR, e8], by simp only [go_sem, fN, seval, eT, iR, e9], by simp only [go_sem, fN, seval, eT, iR], by simp only [go_sem, fN, seval, eT, iR], by simp only [go_sem, fN, seval, eT, iR], by simp only [go_sem, fN, seval, eT, iR, s6]⟩ ?_
   clear e7 e8 e9 s4 s6
   rintro q ⟨env, S⟩ ⟨i, hi, rfl, hai, e7, e8, e9, e17, e18, e19, s6⟩
   simp only at e7 e8 e9 e17 e18 e19 s6
   by_cases hil : (i : Int) < a.moves.length
   ·obtain ⟨m, hmi⟩ := Ap (show i < a.moves.length by omega)
    have hmm := AT hmi
    have hfm := hf a ham m hmm
    have hsn2 : (a.moves.take (i + 1)).all (fun m => decide (m.frm.length ≤ 2)) = decide (m.frm.length ≤ 2) := DT hmi hai
    by_cases h2 : (2 : Int) < m.frm.length
    ·have hb : Al a = false := by
      unfold Al
      rw [ME hmm (p := fun m => decide (m.frm.length ≤ 2)) (decide_eq_false (by omega))]
      simp
     rw [hno hb]
     have h2' : 2 < m.frm.length := by omega
     repeat' with_reducible first | refine W ?_ | refine Z0 ?_ | ((first | refine Wo fun K hK => ?_ | refine Wp ?_ | refine Wq ?_ | refine Wr ?_); (try simp only [go_sem, fN, seval, eT, iR, e7, e8, e9, e17, e18, e19, s6, hil, hmi, Ab, h2, h2', dT, dF, nL]); (repeat refine Ai ?_); (try (refine hK _ ?_; clear hK K)); try refine iC ?_)
     simp only [go_sem, fN, seval, Ae, AS.result, AK, AL, AZ]
    ·have h2' : ¬ 2 < m.frm.length := by omega
     repeat' with_reducible first | refine W ?_ | refine Z0 ?_ | ((first | refine Wo fun K hK => ?_ | refine Wp ?_ | refine Wq ?_ | refine Wr ?_); (try simp only [go_sem, fN, seval, eT, iR, e7, e8, e9, e17, e18, e19, s6, hil, hmi, Ab, h2, h2', dT, dF, nL]); (repeat refine Ai ?_); (try (refine hK _ ?_; clear hK K)); try refine iC ?_)
     refine AH ⟨a.moves.length - (i + 1), by omega, i + 1, by omega, rfl, by rw [hsn2]; exact decide_eq_true (by omega), ?_⟩
     simp only [go_sem, fN, seval, AS.drop, As, AC.clears, AC.clear, AC.highs, AC.high, Bool.not_false, Bool.true_and, Bool.and_self, AV.purge, AV.purges, AC.purge, AJ.purge, List.contains_cons, List.contains_nil, Nat.reduceBEq, Bool.or_self, Bool.or_false, Bool.false_or, Bool.or_true, eT, iR, e7, e8, e9, e17, e18, e19, s6]
     rfl
   ·have hie : i = a.moves.length := by omega
    rw [hie, List.take_length] at hai
    repeat' with_reducible first | refine W ?_ | refine Z0 ?_ | ((first | refine Wo fun K hK => ?_ | refine Wp ?_ | refine Wq ?_ | refine Wr ?_); (try simp only [go_sem, fN, seval, eT, iR, e7, e8, e9, e17, e18, e19, s6, hil, dT, dF, nL]); (repeat refine Ai ?_); (try (refine hK _ ?_; clear hK K)); try refine iC ?_)
    refine AH ⟨l.length - (k + 1), by omega, k + 1, by omega, rfl, ?_, ?_⟩
    ·rw [hsn]
     unfold Al
     rw [decide_eq_true (by omega), hai]
     rfl
    ·simp only [go_sem, fN, seval, AS.drop, As, AC.clears, AC.clear, AC.highs, AC.high, Bool.not_false, Bool.true_and, Bool.and_self, AV.purge, AV.purges, AC.purge, AJ.purge, List.contains_cons, List.contains_nil, Nat.reduceBEq, Bool.or_self, Bool.or_false, Bool.false_or, Bool.or_true, eT, iR, e7, e8, e9, s6]
     rfl
 ·have hke : k = l.length := by omega
  rw [hke, List.take_length] at hall
  have hE : Dl l = 0 := if_pos hall
  rw [hE]
  repeat' with_reducible first | refine W ?_ | refine Z0 ?_ | ((first | refine Wo fun K hK => ?_ | refine Wp ?_ | refine Wq ?_ | refine Wr ?_); (try simp only [go_sem, fN, seval, eT, iR, e7, e8, e9, hlt, dT, dF, nL]); (repeat refine Ai ?_); (try (refine hK _ ?_; clear hK K)); try refine iC ?_)
  simp only [go_sem, fN, seval, Ae, AS.result, AK, AL, AZ]
theorem If {a : Au} (h : a.may 8 40 = 0) : a.moves.length ≤ 40 ∧ ∀ m ∈ a.moves, m.frm.length ≤ 4 := by
 obtain ⟨⟨_, _, h3⟩, h4, _⟩ := Au.may_ok.1 h
 exact ⟨by omega, fun m hm => (Mv.err_ok.1 (h4 m hm)).2.1⟩
theorem L8 (a b : Au) : (C_ [a, b]).length ≤ a.moves.length + b.moves.length := by
 unfold C_
 have key : ∀ l : List Sym, (BQ l).length ≤ l.length := fun l => by
  induction l with
  | nil => exact Nat.le_refl _
  | cons x l ih =>
   have h1 : ∀ m : List Sym, (GM x m).length ≤ m.length + 1 := fun m => by
    induction m with
    | nil => exact Nat.le_refl _
    | cons y m ih2 =>
     unfold GM
     split
     ·simp
     ·split
      ·simp
      ·simp only [List.length_cons]; omega
   have := h1 (BQ l)
   show (GM x (BQ l)).length ≤ _
   simp only [List.length_cons]
   omega
 refine Nat.le_trans (key _) ?_
 simp
def JT (a b : Au) (w : Bool) : AV := if Br a b ≠ 0 then .tup [BJ false, AR (Br a b)] else if Dl [a, b] ≠ 0 then .tup [BJ false, AR (Dl [a, b])] else .tup [BJ w, AR 0]
theorem Om {a b : Au} (h : Br a b = 0) : a.may 8 40 = 0 ∧ b.may 8 40 = 0 := by
 unfold Br at h
 split at h
 ·rename_i h1; exact ⟨h1, h⟩
 ·rename_i h1; exact absurd h h1
theorem Nt {a b : Au} (h : Dl [a, b] = 0) : Al a = true ∧ Al b = true := by
 unfold Dl at h
 split at h
 ·rename_i h1
  simpa using h1
 ·cases h
theorem Lb (a b : Au) (hla : a.last.length ≤ 100000) (hlb : b.last.length ≤ 100000) : Ac Try.prog 12 [aAu a, aAu b] (JT a b (Cw a b)) := by
 have hp := LX a b
 unfold JT
 by_cases h1 : Br a b = 0
 case neg =>
  rw [if_pos h1]
  refine C9.ac fun C hC => ?_
  unfold CI
  repeat' (first | (with_reducible first | refine W ?_ | refine Z0 ?_ | ((first | refine Wo fun K hK => ?_ | refine Wp ?_ | refine Wq ?_ | refine Wr ?_); (try simp only [go_sem, fN, seval, eT, iR, h1, dT, dF, nL]); (repeat refine Ai ?_); (try (refine hK _ ?_; clear hK K)); try refine iC ?_)) | refine Cg _ (hp) ?_)
  simp only [go_sem, fN, seval, Ae, AS.result, AK, AL, AZ]
 case pos =>
  rw [if_neg (fun h => h h1)]
  rw [h1] at hp
  obtain ⟨ma, mb⟩ := Om h1
  have ga := Au.may_good ma
  have gb := Au.may_good mb
  obtain ⟨a1, a2⟩ := If ma
  obtain ⟨b1, b2⟩ := If mb
  have hsm := Py [a, b] (by simp) (fun c hc => by
   simp only [List.mem_cons, List.not_mem_nil, or_false] at hc
   rcases hc with rfl | rfl <;> omega) (fun c hc m hm => by
   simp only [List.mem_cons, List.not_mem_nil, or_false] at hc
   rcases hc with rfl | rfl
   ·have := a2 m hm; omega
   ·have := b2 m hm; omega)
  by_cases h2 : Dl [a, b] = 0
  case neg =>
   rw [if_pos h2]
   refine C9.ac fun C hC => ?_
   unfold CI
   repeat' (first | (with_reducible first | refine W ?_ | refine Z0 ?_ | ((first | refine Wo fun K hK => ?_ | refine Wp ?_ | refine Wq ?_ | refine Wr ?_); (try simp only [go_sem, fN, seval, eT, iR, h2, dT, dF, nL]); (repeat refine Ai ?_); (try (refine hK _ ?_; clear hK K)); try refine iC ?_)) | refine Cg _ (hp) ?_ | refine Cg _ (hsm) ?_)
   simp only [go_sem, fN, seval, Ae, AS.result, AK, AL, AZ]
  case pos =>
   rw [if_neg (fun h => h h2)]
   rw [h2] at hsm
   obtain ⟨sa, sb⟩ := Nt h2
   have hs2 := HD sa sb
   have hsy := NF [a, b] (by simp) (fun c hc => by
    simp only [List.mem_cons, List.not_mem_nil, or_false] at hc
    rcases hc with rfl | rfl <;> omega) (fun c hc m hm => by
    simp only [List.mem_cons, List.not_mem_nil, or_false] at hc
    rcases hc with rfl | rfl
    ·have := a2 m hm; omega
    ·have := b2 m hm; omega)
   have hsl := L8 a b
   have hre := QA a b ga gb (A0 sa) (A0 sb) (by omega) (by omega) (C_ [a, b]) hs2 (by omega)
   have hok := Ik (a := a) (b := b) hs2
   have hlen := hok.len (A0 sa) (A0 sb)
   have hlA := G7 a ga (by have := A0 sa; omega) hla
   have hlB := G7 b gb (by have := A0 sb; omega) hlb
   have hfa := fun x => Kh ga x
   have hfb := fun x => Kh gb x
   unfold Cw
   obtain ⟨R, hR⟩ : ∃ R, Bu a b (C_ [a, b]) = R := ⟨_, rfl⟩
   rw [hR] at hre hlen
   rw [hR]
   refine C9.ac fun C hC => ?_
   unfold CI
   repeat' (first | (with_reducible first | refine W ?_ | refine Z0 ?_ | ((first | refine Wo fun K hK => ?_ | refine Wp ?_ | refine Wq ?_ | refine Wr ?_); (try simp only [go_sem, fN, seval, eT, iR, dT, dF, nL]); (repeat refine Ai ?_); (try (refine hK _ ?_; clear hK K)); try refine iC ?_)) | refine Cg _ (hp) ?_ | refine Cg _ (hsm) ?_ | refine Cg _ (hsy) ?_ | refine Cg _ (hre) ?_)
   refine IWP.loopD [9] (fun q s => ∃ k, k ≤ R.length ∧ q = R.length - k ∧ (R.take k).all (fun j => !(a.fin j.1 && !b.fin j.2)) = true ∧ s.env 2 = .one (.ptr 2 1 0 0) ∧ s.env 3 = .one (.ptr 3 1 0 0) ∧ s.env 29 = aJs R ∧ s.env 30 = AR R.length ∧ s.env 31 = AR k ∧ s.S 2 = some (AF a) ∧ s.S 3 = some (AF b) ∧ s.S 9 = none) R.length ⟨0, Nat.zero_le _, rfl, rfl, rfl, rfl, rfl, by simp only [go_sem, fN, seval, eT, iR], rfl, by simp only [go_sem, fN, seval, eT, iR]; rfl, by simp only [go_sem, fN, seval, eT, iR]; rfl, rfl⟩ ?_
   rintro q ⟨env, S⟩ ⟨k, hk, rfl, hall, e2, e3, e29, e30, e31, s2, s3, s9⟩
   simp only at e2 e3 e29 e30 e31 s2 s3 s9
   by_cases hlt : (k : Int) < R.length
   ·obtain ⟨j, hj⟩ := Ap (show k < R.length by omega)
    have hjm := AT hj
    have hsn : (R.take (k + 1)).all (fun j => !(a.fin j.1 && !b.fin j.2)) = !(a.fin j.1 && !b.fin j.2) := DT hj hall
    have fa := hfa j.1
    have fb := hfb j.2
    by_cases hA : ((bN j.1 &&& bN a.lastB : Nat) : Int) = 0
    ·have hA' : a.fin j.1 = false := by
      cases hx : a.fin j.1 with
      | false => rfl
      | true => exact absurd hA (by have := fa.2 hx; omega)
     repeat' (first | (with_reducible first | refine W ?_ | refine Z0 ?_ | ((first | refine Wo fun K hK => ?_ | refine Wp ?_ | refine Wq ?_ | refine Wr ?_); (try simp only [go_sem, fN, seval, eT, iR, e2, e3, e29, e30, e31, s2, s3, s9, AF, hlt, hj, JQ, F8, IntKind.bits, hA, Int.toNat_natCast, dT, dF, nL]); (repeat refine Ai ?_); (try (refine hK _ ?_; clear hK K)); try refine iC ?_)) | refine Cg _ (hlA) ?_ | refine Cg _ (hlB) ?_)
     refine AH ⟨R.length - (k + 1), by omega, k + 1, by omega, rfl, by rw [hsn, hA']; rfl, ?_⟩
     simp only [go_sem, fN, seval, AS.drop, As, AC.clears, AC.clear, AC.highs, AC.high, Bool.not_false, Bool.true_and, Bool.and_self, AV.purge, AV.purges, AC.purge, AJ.purge, List.contains_cons, List.contains_nil, Nat.reduceBEq, Bool.or_self, Bool.or_false, Bool.false_or, Bool.or_true, eT, iR, e2, e3, e29, e30, e31, s2, s3, s9, AF]
     rfl
    ·have hA' : a.fin j.1 = true := fa.1 (by omega)
     by_cases hB : ((bN j.2 &&& bN b.lastB : Nat) : Int) = 0
     ·have hB' : b.fin j.2 = false := by
       cases hx : b.fin j.2 with
       | false => rfl
       | true => exact absurd hB (by have := fb.2 hx; omega)
      have hw : R.all (fun j => !(a.fin j.1 && !b.fin j.2)) = false := ME hjm (p := fun j => !(a.fin j.1 && !b.fin j.2)) (by rw [hA', hB']; rfl)
      rw [hw]
      repeat' (first | (with_reducible first | refine W ?_ | refine Z0 ?_ | ((first | refine Wo fun K hK => ?_ | refine Wp ?_ | refine Wq ?_ | refine Wr ?_); (try simp only [go_sem, fN, seval, eT, iR, e2, e3, e29, e30, e31, s2, s3, s9, AF, hlt, hj, JQ, F8, IntKind.bits, hA, hB, Int.toNat_natCast, dT, dF, nL]); (repeat refine Ai ?_); (try (refine hK _ ?_; clear hK K)); try refine iC ?_)) | refine Cg _ (hlA) ?_ | refine Cg _ (hlB) ?_)
      simp only [go_sem, fN, seval, Ae, AS.result, AK, AL, AZ]
     ·have hB' : b.fin j.2 = true := fb.1 (by omega)
      repeat' (first | (with_reducible first | refine W ?_ | refine Z0 ?_ | ((first | refine Wo fun K hK => ?_ | refine Wp ?_ | refine Wq ?_ | refine Wr ?_); (try simp only [go_sem, fN, seval, eT, iR, e2, e3, e29, e30, e31, s2, s3, s9, AF, hlt, hj, JQ, F8, IntKind.bits, hA, hB, Int.toNat_natCast, dT, dF, nL]); (repeat refine Ai ?_); (try (refine hK _ ?_; clear hK K)); try refine iC ?_)) | refine Cg _ (hlA) ?_ | refine Cg _ (hlB) ?_)
      refine AH ⟨R.length - (k + 1), by omega, k + 1, by omega, rfl, by rw [hsn, hA', hB']; rfl, ?_⟩
      simp only [go_sem, fN, seval, AS.drop, As, AC.clears, AC.clear, AC.highs, AC.high, Bool.not_false, Bool.true_and, Bool.and_self, AV.purge, AV.purges, AC.purge, AJ.purge, List.contains_cons, List.contains_nil, Nat.reduceBEq, Bool.or_self, Bool.or_false, Bool.false_or, Bool.or_true, eT, iR, e2, e3, e29, e30, e31, s2, s3, s9, AF]
      rfl
   ·have hke : k = R.length := by omega
    rw [hke, List.take_length] at hall
    rw [hall]
    repeat' with_reducible first | refine W ?_ | refine Z0 ?_ | ((first | refine Wo fun K hK => ?_ | refine Wp ?_ | refine Wq ?_ | refine Wr ?_); (try simp only [go_sem, fN, seval, eT, iR, e2, e3, e29, e30, e31, hlt, dT, dF, nL]); (repeat refine Ai ?_); (try (refine hK _ ?_; clear hK K)); try refine iC ?_)
    simp only [go_sem, fN, seval, Ae, AS.result, AK, AL, AZ]

theorem GU (a : Au) (hm : a.moves.length ≤ 100000) (hf : ∀ m ∈ a.moves, m.frm.length ≤ 100000) : Ac Try.prog 9 [aAu a] (BJ (Al a)) := by
 refine Ho.ac fun C hC => ?_
 unfold ER
 repeat' with_reducible first | refine W ?_ | refine Z0 ?_ | ((first | refine Wo fun K hK => ?_ | refine Wp ?_ | refine Wq ?_ | refine Wr ?_); (try simp only [go_sem, fN, seval, eT, iR, dT, dF, nL]); (repeat refine Ai ?_); (try (refine hK _ ?_; clear hK K)); try refine iC ?_)
 refine IWP.loop (fun q s => ∃ i, i ≤ a.moves.length ∧ q = a.moves.length - i ∧ (a.moves.take i).all (fun m => decide (m.frm.length ≤ 2)) = true ∧ s.env 1 = .one (.ptr 1 1 0 0) ∧ s.env 3 = AR i ∧ s.S 1 = some (AF a)) a.moves.length ⟨0, Nat.zero_le _, rfl, rfl, rfl, rfl, rfl⟩ ?_
 rintro q ⟨env, S⟩ ⟨i, hi, rfl, hai, e1, e3, s1⟩
 simp only at e1 e3 s1
 by_cases hil : (i : Int) < a.moves.length
 ·obtain ⟨m, hmi⟩ := Ap (show i < a.moves.length by omega)
  have hmm := AT hmi
  have hfm := hf m hmm
  have hsn2 : (a.moves.take (i + 1)).all (fun m => decide (m.frm.length ≤ 2)) = decide (m.frm.length ≤ 2) := DT hmi hai
  by_cases h2 : (2 : Int) < m.frm.length
  ·have hb : Al a = false := by
    unfold Al
    rw [ME hmm (p := fun m => decide (m.frm.length ≤ 2)) (decide_eq_false (by omega))]
    simp
   rw [hb]
   have h2' : 2 < m.frm.length := by omega
   repeat' with_reducible first | refine W ?_ | refine Z0 ?_ | ((first | refine Wo fun K hK => ?_ | refine Wp ?_ | refine Wq ?_ | refine Wr ?_); (try simp only [go_sem, fN, seval, eT, iR, e1, e3, s1, AF, hil, hmi, Ab, h2, h2', dT, dF, nL]); (repeat refine Ai ?_); (try (refine hK _ ?_; clear hK K)); try refine iC ?_)
   simp only [go_sem, fN, seval, Ae, AS.result, AK, AL, AZ]
  ·have h2' : ¬ 2 < m.frm.length := by omega
   repeat' with_reducible first | refine W ?_ | refine Z0 ?_ | ((first | refine Wo fun K hK => ?_ | refine Wp ?_ | refine Wq ?_ | refine Wr ?_); (try simp only [go_sem, fN, seval, eT, iR, e1, e3, s1, AF, hil, hmi, Ab, h2, h2', dT, dF, nL]); (repeat refine Ai ?_); (try (refine hK _ ?_; clear hK K)); try refine iC ?_)
   refine AH ⟨a.moves.length - (i + 1), by omega, i + 1, by omega, rfl, by rw [hsn2]; exact decide_eq_true (by omega), e1, rfl, s1⟩
 ·have hie : i = a.moves.length := by omega
  rw [hie, List.take_length] at hai
  have hb : Al a = decide (a.states ≤ 3) := by
   unfold Al
   rw [hai, Bool.and_true]
  rw [hb]
  repeat' with_reducible first | refine W ?_ | refine Z0 ?_ | ((first | refine Wo fun K hK => ?_ | refine Wp ?_ | refine Wq ?_ | refine Wr ?_); (try simp only [go_sem, fN, seval, eT, iR, e1, e3, s1, AF, hil, dT, dF, nL]); (repeat refine Ai ?_); (try (refine hK _ ?_; clear hK K)); try refine iC ?_)
  simp only [go_sem, fN, seval, Ae, AS.result, AK, AL, AZ]

def sep (k : Nat) : ByteArray := if k = 0 then ⟨#[40]⟩ else ⟨#[44]⟩
mutual
def Tm.text : Tm → ByteArray
 | .mk n xs => n ++ Tm.textsFrom 0 xs ++ (if xs.length = 0 then ⟨#[]⟩ else ⟨#[41]⟩)
def Tm.textsFrom : Nat → List Tm → ByteArray
 | _, [] => ⟨#[]⟩
 | k, t :: ts => sep k ++ t.text ++ Tm.textsFrom (k+1) ts
end
def Tm.ahead (t : Tm) (k : Nat) : ByteArray := t.name ++ Tm.textsFrom 0 (t.args.take k)

def Qb (a b : Tm) : Bool := if a.size = b.size then sLt a.text b.text else decide (a.size < b.size)
abbrev FV := List (Option Tm)
def QD (best : FV) : List Int → Option (List Tm)
 | [] => some []
 | s :: ss => match best.getD s.toNat none with
  | none => none
  | some t => (QD best ss).map (t :: ·)
def Mv.cand (best : FV) (m : Mv) : Option Tm := match QD best m.frm with
 | none => none
 | some ts => if (Tm.mk m.name ts).size ≤ 2000 then some (.mk m.name ts) else none
def Mv.gain (best : FV) (m : Mv) : Option Tm := match m.cand best with
 | none => none
 | some t => match best.getD m.to_.toNat none with
  | none => some t
  | some b => if Qb t b = true then some t else none
def Qg (best : FV) (m : Mv) : FV := match m.gain best with
 | none => best
 | some t => best.set m.to_.toNat (some t)
def Qc (p : FV × Bool) (m : Mv) : FV × Bool := (Qg p.1 m, p.2 || (m.gain p.1).isSome)
def pass (ms : List Mv) (best : FV) : FV × Bool := ms.foldl Qc (best, false)
@[irreducible] def Qo : Nat := 20000

theorem M7 {ts : List ByteArray} : ∀ x ∈ ts.map ES, x.length = 1 := by
 intro x hx
 obtain ⟨a, _, rfl⟩ := List.mem_map.1 hx
 rfl
theorem FN {α : Type} (f : Nat → α) (i : Nat) (a b : α) : AB (AB f i a) i b = AB f i b := by
 funext k
 unfold AB
 split <;> rfl
theorem IY {α : Type} (f : Nat → α) {i j : Nat} (h : ¬ i = j) (a b : α) : AB (AB f i a) j b = AB (AB f j b) i a := by
 funext k
 unfold AB
 split
 ·rename_i e
  subst e
  rw [if_neg (fun e => h e.symm)]
 ·rfl
theorem Im (t : Tm) (hz : t.size ≤ 1000000)
  (ih : ∀ a ∈ t.args, ∀ (i : Nat) (l : List ByteArray) (S : AA), 1000 ≤ i → l.length + a.size ≤ 3000000 → S i = some (.arow 9 1 (l.map ES)) →
   BM Try.prog 66 [aTm a, .one (.row i l.length)] S (.one (.row i (Ak l a.knots).length)) (AB S i (some (.arow 9 1 ((Ak l a.knots).map ES)))))
  (C : Ctx) (hC : C.n = 34) (i : Nat) (hi : 20 < i) (l : List ByteArray) (hlz : l.length + t.size ≤ 3000000) (S : AA) (hS : Ad S) (env : Nat → AV) (e0 : env 0 = aTm t) (e1 : env 1 = .one (.row i l.length))
  (Q : AX → AS → Prop) (hQ : ∀ env', env' 4 = .one (.row i (Ak l t.knots).length) → Q .ret ⟨env', AB (AB S 2 (some (.box 39 [.st (.str t.name), .st (.list (t.args.map EM))]))) i (some (.arow 9 1 ((Ak l t.knots).map ES)))⟩) :
  IWP Try.prog C [31] Dj Q ⟨env, AB S i (some (.arow 9 1 (l.map ES)))⟩ := by
 have hs := Tm.size_eq t
 have hk := Tm.knots_eq t
 have hc2 := B5 hS (i := 2) (by omega)
 have hc6 := B5 hS (i := 6) (by omega)
 have hi2 : ¬ 2 = i := by omega
 have hi6 : ¬ 6 = i := by omega
 have hi2' : ¬ i = 2 := by omega
 have hi6' : ¬ i = 6 := by omega
 unfold Dj
 have hlk : ∀ k, (Ak (BT l t.name) (Tm.knotsL (t.args.take k))).length ≤ l.length + 1 + Tm.sizes (t.args.take k) := fun k => by
  have h1 := EH (Tm.knotsL (t.args.take k)) (BT l t.name)
  have h2 := Ev l t.name
  have h3 := Tm.knotsL_length (t.args.take k)
  omega
 repeat' with_reducible first | refine W ?_ | refine Z0 ?_ | ((first | refine Wo fun K hK => ?_ | refine Wq ?_ | refine Wr ?_); (try simp only [go_sem, fN, seval, eT, iR, e0, e1, hc2, hi2, hi6, hi2', hi6']); (repeat refine Ai ?_); (try (refine hK _ ?_; clear hK K)))
 refine ⟨_, C6 _, ?_⟩
 rcases (show BG t.name = false ∨ (BG t.name = true ∧ GL t.name l = true) ∨ (BG t.name = true ∧ GL t.name l = false) by cases BG t.name <;> cases GL t.name l <;> simp) with hv | ⟨hv, hin⟩ | ⟨hv, hin⟩
 case' inl =>
  have hl1 := Mt (l := l) hv
  repeat' with_reducible first | refine W ?_ | refine Z0 ?_ | ((first | refine Wo fun K hK => ?_ | refine Wq ?_ | refine Wr ?_); (try simp only [go_sem, fN, seval, eT, iR, e0, e1, hv, hi2, hi2']); (repeat refine Ai ?_); (try (refine hK _ ?_; clear hK K)))
  with_reducible refine Wp ?_
  simp only [go_sem, fN, seval, true_implies, false_implies, implies_true, dT, dF, nL, hv]
  (try with_reducible refine iC ?_)
  repeat' with_reducible first | refine W ?_ | refine Z0 ?_ | ((first | refine Wo fun K hK => ?_ | refine Wq ?_ | refine Wr ?_); (try simp only [go_sem, fN, seval, eT, iR, e0, e1, hi2, hi2']); (repeat refine Ai ?_); (try (refine hK _ ?_; clear hK K)))
 case' inr.inl =>
  have hl1 := Nn (l := l) hin
  repeat' (first | (with_reducible first | refine W ?_ | refine Z0 ?_ | ((first | refine Wo fun K hK => ?_ | refine Wq ?_ | refine Wr ?_); (try simp only [go_sem, fN, seval, eT, iR, e0, e1, hv, hi2, hi2', hin]); (repeat refine Ai ?_); (try (refine hK _ ?_; clear hK K)))) | refine Cg _ (Hr _ _) ?_)
  with_reducible refine Wp ?_
  simp only [go_sem, fN, seval, true_implies, false_implies, implies_true, dT, dF, nL, hv]
  (try with_reducible refine iC ?_)
  repeat' with_reducible first | refine W ?_ | refine Z0 ?_ | ((first | refine Wo fun K hK => ?_ | refine Wq ?_ | refine Wr ?_); (try simp only [go_sem, fN, seval, eT, iR, e0, e1, hi2, hi2']); (repeat refine Ai ?_); (try (refine hK _ ?_; clear hK K)))
 case' inr.inr =>
  have hl1 := L2 (l := l) hv hin
  repeat' (first | (with_reducible first | refine W ?_ | refine Z0 ?_ | ((first | refine Wo fun K hK => ?_ | refine Wq ?_ | refine Wr ?_); (try simp only [go_sem, fN, seval, eT, iR, e0, e1, hv, hi2, hi2', hin]); (repeat refine Ai ?_); (try (refine hK _ ?_; clear hK K)))) | refine Cg _ (Hr _ _) ?_)
  with_reducible refine Wp ?_
  simp only [go_sem, fN, seval, true_implies, false_implies, implies_true, dT, dF, nL, hv]
  (try with_reducible refine iC ?_)
  repeat' with_reducible first | refine W ?_ | refine Z0 ?_ | ((first | refine Wo fun K hK => ?_ | refine Wq ?_ | refine Wr ?_); (try simp only [go_sem, fN, seval, eT, iR, e0, e1, hi2, hi2']); (repeat refine Ai ?_); (try (refine hK _ ?_; clear hK K)))
 all_goals
  refine IWP.loopD [6] (fun m s => ∃ k, k ≤ t.args.length ∧ m = t.args.length - k ∧ s.env 1 = .one (.row i (Ak (BT l t.name) (Tm.knotsL (t.args.take k))).length) ∧ s.env 23 = .one (.st (.list (t.args.map EM))) ∧ s.env 24 = AR t.args.length ∧ s.env 25 = AR k ∧ s.S = AB (AB S 2 (some (.box 39 [.st (.str t.name), .st (.list (t.args.map EM))]))) i (some (.arow 9 1 ((Ak (BT l t.name) (Tm.knotsL (t.args.take k))).map ES)))) t.args.length ⟨0, Nat.zero_le _, rfl, ?_, rfl, rfl, rfl, ?_⟩ ?_
  ·show _ = AV.one (.row i (BT l t.name).length)
   rw [hl1]
   simp only [go_sem, fN, seval, eT, iR, e1]
  ·show _ = AB (AB S 2 _) i (some (.arow 9 1 ((BT l t.name).map ES)))
   rw [hl1]
   first
    | (simp only [FN]; exact IY _ hi2' _ _)
    | (simp only [IY _ hi2', FN, List.map_append]; rfl)
  rintro m ⟨env', S'⟩ ⟨k, hk', rfl, e1', e23, e24, e25, hS'⟩
  simp only at e1' e23 e24 e25 hS'
  have s6 : S' 6 = none := by rw [hS', AE _ hi6, AE _ (by omega), hc6]
  have si : S' i = some (.arow 9 1 ((Ak (BT l t.name) (Tm.knotsL (t.args.take k))).map ES)) := by rw [hS', AD]
  have hlk' := hlk k
  have z3 := Tm.length_le t.args
  by_cases hlt : (k : Int) < t.args.length
  ·obtain ⟨a, ha⟩ := Ap (show k < t.args.length by omega)
   have z1 := Tm.sizes_take ha
   have z2 := Tm.sizes_take_le t.args (k + 1)
   repeat' with_reducible first | refine W ?_ | refine Z0 ?_ | ((first | refine Wo fun K hK => ?_ | refine Wq ?_ | refine Wr ?_); (try simp only [go_sem, fN, seval, eT, iR, e1', e23, e24, e25, s6, si, hlt]); (repeat refine Ai ?_); (try (refine hK _ ?_; clear hK K)))
   with_reducible refine Wp ?_
   simp only [go_sem, fN, seval, true_implies, false_implies, implies_true, dT, dF, nL, e1', e23, e24, e25, s6, si, hlt]
   (try with_reducible refine iC ?_)
   repeat' with_reducible first | refine W ?_ | refine Z0 ?_ | ((first | refine Wo fun K hK => ?_ | refine Wq ?_ | refine Wr ?_); (try simp only [go_sem, fN, seval, eT, iR, e1', e23, e24, e25, s6, si, ha]); (repeat refine Ai ?_); (try (refine hK _ ?_; clear hK K)))
   have hni : ([6] : List Nat).contains i = false := by simp; omega
   refine ⟨_, _, ih a (AT ha) (up1 i) _ _ (BY i) (by omega) (by rw [CR, AE _ hi6', AE _ hi6', si]; rfl), ?_⟩
   repeat' with_reducible first | refine W ?_ | refine Z0 ?_ | ((first | refine Wo fun K hK => ?_ | refine Wq ?_ | refine Wr ?_); (try simp only [go_sem, fN, seval, eT, iR, e23, e24, e25]); (repeat refine Ai ?_); (try (refine hK _ ?_; clear hK K)))
   refine AH ⟨t.args.length - (k + 1), by omega, k + 1, by omega, rfl, ?_⟩
   have hib : (i == 6) = false := by simp; omega
   simp only [go_sem, fN, seval, AS.drop, AC.clears, AC.clear, AC.highs, AC.high, Bool.not_false, Bool.true_and, Bool.and_self, AV.purge, AV.purges, AC.purge, AJ.purge, List.contains_cons, List.contains_nil, Nat.reduceBEq, Bool.or_self, Bool.or_false, Bool.false_or, Bool.or_true, eT, iR, e23, e24, hib]
   rw [Tm.knotsL_take ha, HK]
   refine ⟨rfl, by congr 3, ?_⟩
   rw [GJ hni, K5 rfl, K5 rfl, hS', GJ hni, GJ rfl, KC (by decide) hS, FN]
   rfl
  ·repeat' with_reducible first | refine W ?_ | refine Z0 ?_ | ((first | refine Wo fun K hK => ?_ | refine Wq ?_ | refine Wr ?_); (try simp only [go_sem, fN, seval, eT, iR, e1', e23, e24, e25, hlt]); (repeat refine Ai ?_); (try (refine hK _ ?_; clear hK K)))
   with_reducible refine Wp ?_
   simp only [go_sem, fN, seval, true_implies, false_implies, implies_true, dT, dF, nL, e1', e23, e24, e25, hlt]
   (try with_reducible refine iC ?_)
   repeat' with_reducible first | refine W ?_ | refine Z0 ?_ | ((first | refine Wo fun K hK => ?_ | refine Wq ?_ | refine Wr ?_); (try simp only [go_sem, fN, seval, eT, iR, e1']); (repeat refine Ai ?_); (try (refine hK _ ?_; clear hK K)))
   rw [hS']
   have hfin : Ak (BT l t.name) (Tm.knotsL (t.args.take k)) = Ak l t.knots := by rw [List.take_of_length_le (by omega), hk]; rfl
   rw [hfin]
   refine hQ _ ?_
   simp only [go_sem, fN, seval, eT, iR]
theorem Nl {α : Type} {f : Nat → α} {i : Nat} {a : α} (h : f i = a) : AB f i a = f := by
 funext k
 unfold AB
 split
 ·rename_i e
  rw [e, h]
 ·rfl
theorem Oa (t : Tm) (hz : t.size ≤ 1000000) : ∀ (i : Nat) (l : List ByteArray) (S : AA), 1000 ≤ i → l.length + t.size ≤ 3000000 → S i = some (.arow 9 1 (l.map ES)) →
   BM Try.prog 66 [aTm t, .one (.row i l.length)] S (.one (.row i (Ak l t.knots).length)) (AB S i (some (.arow 9 1 ((Ak l t.knots).map ES)))) := by
 induction h : SizeOf.sizeOf t using Nat.strongRecOn generalizing t with
 | _ N ih =>
 subst h
 have hs := Tm.size_eq t
 intro i l S hi hl hSi
 refine Ft.acS fun hS C hC => ?_
 have hcore := Im t hz (fun a ha => ih _ (Tm.lt_of_arg ha) a (by have := Tm.size_mem ha; omega) rfl) C hC i (by omega) l hl S hS (fun j => ([aTm t, .one (.row i l.length)][j]?).getD (.tup [])) rfl rfl
  (Gl C [.t 4] (.one (.row i (Ak l t.knots).length)) (AB S i (some (.arow 9 1 ((Ak l t.knots).map ES))))) ?_
 ·rw [Nl hSi] at hcore
  exact hcore
 ·intro env' e4
  have hc' : Ad (AB S i (some (.arow 9 1 ((Ak l t.knots).map ES)))) := A2 hS hi rfl
  refine Mh trivial ⟨_, Aa.low (Ow (GC (by omega) fun k c _ hk => (hS k c hk).2) rfl), ?_, ?_, hc'⟩
  ·simp only [AK, AL, AZ, e4, AV.low, AV.high, AC.high, hi, decide_true, if_true, Option.map_some]
  ·show Bv _ = _
   rw [Nj _ hi, HN _ (by omega), HZ hS]
theorem Pc (t : Tm) (hz : t.size ≤ 1000000) (a0 : Nat) (S : AA) (ha : 1000 ≤ a0) (hSa : S a0 = none) :
   BM Try.prog 66 [aTm t, .one (.full [])] S (.one (.row a0 (Ak [] t.knots).length)) (AB S a0 (some (.arow 9 1 ((Ak [] t.knots).map ES)))) := by
 have hs := Tm.size_eq t
 refine Ft.acS fun hS C hC => ?_
 refine IWP.ghost (Aa.own 1 21 9 1 (xs := ([] : List ByteArray).map ES) rfl (B5 hS (by omega)) M7 (by omega)) ?_
 refine Im t hz (fun a ha => Oa a (by have := Tm.size_mem ha; omega)) C hC 21 (by omega) [] (by simp; omega) S hS _ rfl rfl _ ?_
 intro env' e4
 have hb : ∀ i b, 1000 ≤ i → AB (AB S 2 (some (.box 39 [.st (.str t.name), .st (.list (t.args.map EM))]))) 21 (some (.arow 9 1 ((Ak [] t.knots).map ES))) i = some b → b.high = true := GC (by omega) (GC (by omega) fun k c _ hk => (hS k c hk).2)
 refine Mh trivial ⟨_, Aa.hand 21 a0 (b0 := .arow 9 1 ((Ak [] t.knots).map ES)) (by omega) ha (by show AB _ _ _ _ = _; rw [AE _ (by omega), AE _ (by omega), hSa]) (by simp only [AD]) rfl hb, ?_, ?_, A2 hS ha rfl⟩
 ·simp only [AK, AL, AZ, e4, AV.hand, AV.ren, AC.ren, BH, if_true, AV.high, AC.high, ha, decide_true, Option.map_some]
 ·show AB (Bv _) _ _ = _
  rw [HN _ (by omega), HN _ (by omega), HZ hS]
theorem LZ (t : Tm) (hz : t.size ≤ 1000000) : Ac Try.prog 47 [aTm t] (Ku t.varsOf) := by
 refine JI.ac fun C hC => ?_
 unfold Ff
 repeat' with_reducible first | refine W ?_ | refine Z0 ?_ | ((first | refine Wo fun K hK => ?_ | refine Wq ?_ | refine Wr ?_); (try simp only [go_sem, fN, seval, eT, iR]); (repeat refine Ai ?_); (try (refine hK _ ?_; clear hK K)))
 refine ⟨_, _, Pc t hz (up1 10) _ (BY 10) (by rw [CR]; rfl), ?_⟩
 repeat' with_reducible first | refine W ?_ | refine Z0 ?_ | ((first | refine Wo fun K hK => ?_ | refine Wq ?_ | refine Wr ?_); (try simp only [go_sem, fN, seval, eT, iR]); (repeat refine Ai ?_); (try (refine hK _ ?_; clear hK K)))
 simp only [go_sem, fN, seval, Ae, AS.result, AK, AL, AZ]
 rfl

set_option maxRecDepth 100000




abbrev bT : TypeId := 130
abbrev u8T : TypeId := 5
structure Bld (S : AA) (a0 r : Nat) (bs : ByteArray) : Prop where
 ha : 1000 ≤ a0
 hr : 1000 ≤ r
 ne : a0 ≠ r
 box : ∃ p, (p = .st (.lit (.pointer none)) ∨ p = .ptr a0 1 0 0) ∧ S a0 = some (.box bT [p, .row r bs.size])
 row : S r = some (.mrow u8T 1 (Aq bs))
def QM (S : AA) (a0 r : Nat) (bs : ByteArray) : AA := AB (AB S a0 (some (.box bT [.ptr a0 1 0 0, .row r bs.size]))) r (some (.mrow u8T 1 (Aq bs)))
theorem Bld.next {S : AA} {a0 r : Nat} {bs cs : ByteArray} (h : Bld S a0 r bs) : Bld (QM S a0 r cs) a0 r cs :=
 ⟨h.ha, h.hr, h.ne, ⟨_, .inr rfl, by unfold QM; rw [AE _ h.ne, AD]⟩, by unfold QM; rw [AD]⟩


set_option maxHeartbeats 2000000



def Ef (a : Au) (t : Tm) : Int := if a.may 8 40 = 0 then (if t.may = 0 then (if t.varsOf.length = 0 then 0 else 15) else t.may) else a.may 8 40
theorem IV (a : Au) (t : Tm) (hl : a.last.length ≤ 100000) (hz : t.size ≤ 1000000) : Ac Try.prog 19 [aAu a, aTm t] (.tup [BJ (decide (Ef a t = 0) && a.acc t), AR (Ef a t)]) := by
 by_cases h1 : a.may 8 40 = 0
 case neg =>
  have e : Ef a t = a.may 8 40 := if_neg h1
  rw [e]
  refine Be.ac fun C hC => ?_
  unfold BP
  repeat' (first | (with_reducible first | refine W ?_ | refine Z0 ?_ | ((first | refine Wo fun K hK => ?_ | refine Wp ?_ | refine Wq ?_ | refine Wr ?_); (try simp only [go_sem, fN, seval, eT, iR, h1, dT, dF, nL]); (repeat refine Ai ?_); (try (refine hK _ ?_; clear hK K)); try refine iC ?_)) | refine Cg _ (B8 a) ?_)
  simp only [go_sem, fN, seval, Ae, AS.result, AK, AL, AZ, h1]
  rfl
 case pos =>
 have e1 : Ef a t = if t.may = 0 then (if t.varsOf.length = 0 then 0 else 15) else t.may := if_pos h1
 have ga := Au.may_good h1
 obtain ⟨a1, _, _⟩ := Au.may_ok.1 h1
 by_cases h2 : t.may = 0
 case neg =>
  rw [e1, if_neg h2]
  refine Be.ac fun C hC => ?_
  unfold BP
  repeat' (first | (with_reducible first | refine W ?_ | refine Z0 ?_ | ((first | refine Wo fun K hK => ?_ | refine Wp ?_ | refine Wq ?_ | refine Wr ?_); (try simp only [go_sem, fN, seval, eT, iR, h1, h2, dT, dF, nL]); (repeat refine Ai ?_); (try (refine hK _ ?_; clear hK K)); try refine iC ?_)) | refine Cg _ (B8 a) ?_ | refine Cg _ (Fa t) ?_)
  simp only [go_sem, fN, seval, Ae, AS.result, AK, AL, AZ, h2]
  rfl
 case pos =>
 rw [if_pos h2] at e1
 by_cases h3 : t.varsOf.length = 0
 case neg =>
  rw [if_neg h3] at e1
  rw [e1]
  have h3' : (0 : Int) < t.varsOf.length := by omega
  refine Be.ac fun C hC => ?_
  unfold BP
  repeat' (first | (with_reducible first | refine W ?_ | refine Z0 ?_ | ((first | refine Wo fun K hK => ?_ | refine Wp ?_ | refine Wq ?_ | refine Wr ?_); (try simp only [go_sem, fN, seval, eT, iR, h1, h2, h3', dT, dF, nL]); (repeat refine Ai ?_); (try (refine hK _ ?_; clear hK K)); try refine iC ?_)) | refine Cg _ (B8 a) ?_ | refine Cg _ (Fa t) ?_ | refine Cg _ (LZ t hz) ?_)
  simp only [go_sem, fN, seval, Ae, AS.result, AK, AL, AZ]
  rfl
 case pos =>
 rw [if_pos h3] at e1
 rw [e1]
 have hacc := PX ga t
 have hE := Qf a ga (by omega) (by omega) t hz
 have hL := G7 a ga (by omega) hl
 have iE := PC (l := a.ends t) (by rw [a.ends_length]; omega)
 have iL := PC (l := a.lastB) (by rw [a.lastB_length]; omega)
 have h0 : (0 : Int) ≤ (bN (a.ends t) : Int) ∧ (0 : Int) ≤ (bN a.lastB : Int) := ⟨Int.natCast_nonneg _, Int.natCast_nonneg _⟩
 cases hq : a.acc t with
 | true =>
  rw [hq] at hacc
  have hne : ¬ ((bN (a.ends t) &&& bN a.lastB : Nat) : Int) = 0 := fun e => hacc.2 rfl (by omega)
  refine Be.ac fun C hC => ?_
  unfold BP
  repeat' (first | (with_reducible first | refine W ?_ | refine Z0 ?_ | ((first | refine Wo fun K hK => ?_ | refine Wp ?_ | refine Wq ?_ | refine Wr ?_); (try simp only [go_sem, fN, seval, eT, iR, h1, h2, h3, F8, h0, Int.toNat_natCast, hne, dT, dF, nL]); (repeat refine Ai ?_); (try (refine hK _ ?_; clear hK K)); try refine iC ?_)) | refine Cg _ (B8 a) ?_ | refine Cg _ (Fa t) ?_ | refine Cg _ (LZ t hz) ?_ | refine Cg _ (hE) ?_ | refine Cg _ (hL) ?_)
  simp only [go_sem, fN, seval, Ae, AS.result, AK, AL, AZ, hne]
  rfl
 | false =>
  rw [hq] at hacc
  have hne : ((bN (a.ends t) &&& bN a.lastB : Nat) : Int) = 0 := by
   by_cases e : bN (a.ends t) &&& bN a.lastB = 0
   ·rw [e]; rfl
   ·exact absurd (hacc.1 e) (by decide)
  refine Be.ac fun C hC => ?_
  unfold BP
  repeat' (first | (with_reducible first | refine W ?_ | refine Z0 ?_ | ((first | refine Wo fun K hK => ?_ | refine Wp ?_ | refine Wq ?_ | refine Wr ?_); (try simp only [go_sem, fN, seval, eT, iR, h1, h2, h3, F8, h0, Int.toNat_natCast, hne, dT, dF, nL]); (repeat refine Ai ?_); (try (refine hK _ ?_; clear hK K)); try refine iC ?_)) | refine Cg _ (B8 a) ?_ | refine Cg _ (Fa t) ?_ | refine Cg _ (LZ t hz) ?_ | refine Cg _ (hE) ?_ | refine Cg _ (hL) ?_)
  simp only [go_sem, fN, seval, Ae, AS.result, AK, AL, AZ, hne]
  rfl

section
variable {C : Ctx} {s : AS}
end


set_option maxHeartbeats 4000000


def Ey : IR :=
 (.seq (.ops [.i 8 (.alloc 25 [.st (.int .i64 0), .full [], .full []])]) (.seq (.ops [.m 16 2, .i 17 (.build [.st (.int .i64 0), .full [], .full []] [(0, 1, .t 16)]), .i 9 (.alloc 25 [.st (.int .i64 0), .full [], .full []]), .s 3 9 17]) (.seq (.seq (.ops [.i 10 (.mov (.n 0))]) (.block 0 (.loop (.seq (.seq (.ops [.m 18 10, .m 19 3, .i 20 (.bin .lss (.t 18) (.t 19))]) (.cond (.t 20) .skip (.exit 0))) (.seq (.block 1 (.seq (.ops [.m 23 0, .m 24 1, .m 25 10, .i 26 (.bin .mul (.n 4) (.t 25)), .i 27 (.bin .add (.t 24) (.t 26)), .i 28 (.call 37 [.t 23, .t 27]), .m 11 28]) (.seq (.ops [.i 29 (.buildFlat [.n 0, .n 0, .n 1, .n 2]), .m 30 11, .i 31 (.call 15 [.t 30, .n 4]), .i 32 (.indexAddr 1 (.t 29) (.t 31)), .l 33 32, .m 12 33]) (.seq (.ops [.i 34 (.buildFlat [.c (.one (.st (.str (ByteArray.mk (#[97]))))), .c (.one (.st (.str (ByteArray.mk (#[98]))))), .c (.one (.st (.str (ByteArray.mk (#[104]))))), .c (.one (.st (.str (ByteArray.mk (#[102])))))]), .m 35 11, .i 36 (.call 15 [.t 35, .n 4]), .i 37 (.indexAddr 1 (.t 34) (.t 36)), .l 38 37, .m 39 0, .m 40 1, .m 41 10, .i 42 (.bin .mul (.n 4) (.t 41)), .i 43 (.bin .add (.t 40) (.t 42)), .i 44 (.bin .add (.t 43) (.n 1)), .i 45 (.call 37 [.t 39, .t 44]), .m 46 2, .i 47 (.call 15 [.t 45, .t 46]), .i 48 (.build [.st (.str (ByteArray.mk (#[]))), .full [], .st (.int .i64 0)] [(0, 1, .t 38), (2, 1, .t 47)]), .i 13 (.alloc 46 [.st (.str (ByteArray.mk (#[]))), .full [], .st (.int .i64 0)]), .s 3 13 48]) (.seq (.seq (.ops [.i 14 (.mov (.n 0))]) (.block 2 (.loop (.seq (.seq (.ops [.m 49 14, .m 50 12, .i 51 (.bin .lss (.t 49) (.t 50))]) (.cond (.t 51) .skip (.exit 2))) (.seq (.block 3 (.ops [.f 54 1 13, .l 55 54, .m 56 0, .m 57 1, .m 58 10, .i 59 (.bin .mul (.n 4) (.t 58)), .i 60 (.bin .add (.t 57) (.t 59)), .i 61 (.bin .add (.t 60) (.n 2)), .m 62 14, .i 63 (.bin .add (.t 61) (.t 62)), .i 64 (.call 37 [.t 56, .t 63]), .m 65 2, .i 66 (.call 15 [.t 64, .t 65]), .i 67 (.buildFlat [.t 66]), .i 68 (.append false 3 1 8 (.t 55) (.t 67)), .f 69 1 13, .s 1 69 68])) (.ops [.m 52 14, .i 53 (.bin .add (.t 52) (.n 1)), .m 14 53])))))) (.ops [.f 70 1 9, .l 71 70, .L 72 3 13, .i 73 (.buildSlice false 46 3 [.t 72]), .i 74 (.append false 46 3 48 (.t 71) (.t 73)), .f 75 1 9, .s 1 75 74])))))) (.ops [.m 21 10, .i 22 (.bin .add (.t 21) (.n 1)), .m 10 22])))))) (.seq (.seq (.ops [.i 15 (.mov (.n 0))]) (.block 4 (.loop (.seq (.seq (.ops [.m 76 15, .m 77 2, .i 78 (.bin .lss (.t 76) (.t 77))]) (.cond (.t 78) .skip (.exit 4))) (.seq (.block 5 (.seq (.ops [.m 81 0, .m 82 1, .m 83 15, .i 84 (.bin .add (.t 82) (.t 83)), .i 85 (.bin .add (.t 84) (.n 3)), .i 86 (.call 37 [.t 81, .t 85]), .i 87 (.call 15 [.t 86, .n 3]), .i 88 (.bin .eql (.t 87) (.n 0))]) (.cond (.t 88) (.ops [.f 89 2 9, .l 90 89, .m 91 15, .i 92 (.buildFlat [.t 91]), .i 93 (.append false 3 1 8 (.t 90) (.t 92)), .f 94 2 9, .s 1 94 93]) .skip))) (.ops [.m 79 15, .i 80 (.bin .add (.t 79) (.n 1)), .m 15 80])))))) (.seq (.ops [.L 95 3 9, .s 3 8 95]) .ret)))))
theorem Hx : OkF Try.prog 14 96 [] Ey [.cell 8 true 3] := .of Try.func14 rfl rfl (by kernel_rfl) rfl

def Ir : IR :=
 (.seq (.ops [.i 4 (.mov (.n 0))]) (.seq (.seq (.ops [.m 5 0, .i 6 (.bin .lss (.t 5) (.n 0))]) (.cond (.t 6) (.ops [.m 7 0, .i 8 (.bin .add (.t 7) (.n 1)), .i 9 (.un .neg (.t 8)), .m 0 9]) .skip)) (.seq (.ops [.m 10 0, .m 11 1, .i 12 (.bin .rem (.t 10) (.t 11)), .m 4 12]) .ret)))
theorem Mu : OkF Try.prog 15 13 [] Ir [.t 4] := .of Try.func15 rfl rfl (by kernel_rfl) rfl
def Kg : IR :=
 (.seq (.ops [.i 4 (.mov (.n 0))]) (.seq (.seq (.ops [.m 5 0, .i 6 (.len false (.t 5)), .i 7 (.bin .eql (.t 6) (.n 0))]) (.cond (.t 7) (.seq (.ops [.m 8 1, .i 9 (.bin .mul (.t 8) (.n 31)), .m 4 9]) .ret) .skip)) (.seq (.ops [.m 10 0, .m 11 1, .m 12 0, .i 13 (.len false (.t 12)), .i 14 (.bin .rem (.t 11) (.t 13)), .i 15 (.indexAddr 1 (.t 10) (.t 14)), .l 16 15, .i 17 (.call 15 [.t 16, .n 1000003]), .m 18 1, .m 19 0, .i 20 (.len false (.t 19)), .i 21 (.bin .quo (.t 18) (.t 20)), .i 22 (.bin .mul (.t 21) (.n 7919)), .i 23 (.bin .add (.t 17) (.t 22)), .m 4 23]) .ret)))
theorem PL : OkF Try.prog 37 24 [] Kg [.t 4] := .of Try.func37 rfl rfl (by kernel_rfl) rfl
def Ig : IR :=
 (.seq (.ops [.i 2 (.alloc 39 [.st (.str (ByteArray.mk (#[]))), .full []])]) (.seq (.ops [.m 3 0, .i 4 (.build [.st (.str (ByteArray.mk (#[]))), .full []] [(0, 1, .t 3)]), .s 2 2 4]) .ret))
theorem NW : OkF Try.prog 38 5 [] Ig [.cell 2 true 2] := .of Try.func38 rfl rfl (by kernel_rfl) rfl

def A_ (c n : Int) : Int := (if c < 0 then -(c + 1) else c) % n
theorem A1 (c n : Int) (hn : 1 ≤ n) : 0 ≤ A_ c n ∧ A_ c n < n := ⟨Int.emod_nonneg _ (by omega), Int.emod_lt_of_pos _ (by omega)⟩
theorem FC {x n : Int} (hx : 0 ≤ x) (hn : 1 ≤ n) : x.tmod n = x % n ∧ 0 ≤ x % n ∧ x % n < n ∧ x % n ≤ x := by
 rw [Int.tmod_eq_emod_of_nonneg hx]
 refine ⟨rfl, Int.emod_nonneg _ (by omega), Int.emod_lt_of_pos _ (by omega), ?_⟩
 by_cases h : x < n
 ·rw [Int.emod_eq_of_lt hx h]; exact Int.le_refl _
 ·have := Int.emod_lt_of_pos x (show 0 < n by omega); omega
theorem FB {x n : Int} (hx : 0 ≤ x) (hn : 1 ≤ n) : x.tdiv n = x / n ∧ 0 ≤ x / n ∧ x / n ≤ x := by
 rw [Int.tdiv_eq_ediv_of_nonneg hx]
 exact ⟨rfl, Int.ediv_nonneg hx (by omega), Int.ediv_le_self _ hx⟩
theorem DL (c n : Int) (hc : inR .i64 c) (hn : 1 ≤ n) : Ac Try.prog 15 [AR c, AR n] (AR (A_ c n)) := by
 rw [Cd] at hc
 refine Mu.ac fun C hC => ?_
 unfold Ir
 repeat' with_reducible first | refine W ?_ | refine Z0 ?_ | ((first | refine Wo fun K hK => ?_ | refine Wq ?_ | refine Wr ?_); (try simp only [go_sem, fN, seval, eT, iR]); (repeat refine Ai ?_); (try (refine hK _ ?_; clear hK K)))
 with_reducible refine Wp ?_
 simp only [go_sem, fN, seval, true_implies, false_implies, implies_true, dT, dF, nL]
 (try with_reducible refine iC ?_)
 refine ⟨fun h0 => ?_, fun h0 => ?_⟩
 ·have h1 := FC (x := 0 - (c + 1)) (n := n) (by omega) hn
  repeat' with_reducible first | refine W ?_ | refine Z0 ?_ | ((first | refine Wo fun K hK => ?_ | refine Wq ?_ | refine Wr ?_); (try simp only [go_sem, fN, seval, eT, iR, h1.1]); (repeat refine Ai ?_); (try (refine hK _ ?_; clear hK K)))
  simp only [go_sem, fN, seval, Ae, AS.result, AK, AL, AZ]
  unfold A_
  rw [if_pos h0]
  congr 5
  omega
 ·have h1 := FC (x := c) (n := n) (by omega) hn
  repeat' with_reducible first | refine W ?_ | refine Z0 ?_ | ((first | refine Wo fun K hK => ?_ | refine Wq ?_ | refine Wr ?_); (try simp only [go_sem, fN, seval, eT, iR, h1.1]); (repeat refine Ai ?_); (try (refine hK _ ?_; clear hK K)))
  simp only [go_sem, fN, seval, Ae, AS.result, AK, AL, AZ]
  unfold A_
  rw [if_neg h0]
def Bi (l : List Int) (i : Nat) : Int := if l.length = 0 then i * 31 else A_ (l.getD (i % l.length) 0) 1000003 + ((i / l.length : Nat) : Int) * 7919
theorem C4 (l : List Int) (i : Nat) : 0 ≤ Bi l i ∧ Bi l i ≤ 1000003 + i * 7919 := by
 unfold Bi
 split
 ·omega
 ·have := A1 (l.getD (i % l.length) 0) 1000003 (by omega)
  have h2 : i / l.length ≤ i := Nat.div_le_self _ _
  generalize i / l.length = q at *
  omega
theorem J4 (l : List Int) (i : Nat) (hi : i ≤ 1000000) (hl : ∀ n ∈ l, inR .i64 n) (hm : l.length ≤ maxLen) : Ac Try.prog 37 [C3 l, AR i] (AR (Bi l i)) := by
 rw [Cz] at hm
 refine PL.ac fun C hC => ?_
 unfold Kg
 repeat' with_reducible first | refine W ?_ | refine Z0 ?_ | ((first | refine Wo fun K hK => ?_ | refine Wq ?_ | refine Wr ?_); (try simp only [go_sem, fN, seval, eT, iR]); (repeat refine Ai ?_); (try (refine hK _ ?_; clear hK K)))
 with_reducible refine Wp ?_
 simp only [go_sem, fN, seval, true_implies, false_implies, implies_true, dT, dF, nL]
 (try with_reducible refine iC ?_)
 refine ⟨fun h0 => ?_, fun h0 => ?_⟩
 ·repeat' with_reducible first | refine W ?_ | refine Z0 ?_ | ((first | refine Wo fun K hK => ?_ | refine Wq ?_ | refine Wr ?_); (try simp only [go_sem, fN, seval, eT, iR]); (repeat refine Ai ?_); (try (refine hK _ ?_; clear hK K)))
  simp only [go_sem, fN, seval, Ae, AS.result, AK, AL, AZ]
  unfold Bi
  rw [if_pos (by omega)]
 ·have h1 := FC (x := (i : Int)) (n := (l.length : Int)) (by omega) (by omega)
  have h2 := FB (x := (i : Int)) (n := (l.length : Int)) (by omega) (by omega)
  have hlt : i % l.length < l.length := Nat.mod_lt _ (by omega)
  obtain ⟨a, ha⟩ := Ap hlt
  have e1 : ((i : Int) % (l.length : Int)) = ((i % l.length : Nat) : Int) := by omega
  have e2 : ((i : Int) / (l.length : Int)) = ((i / l.length : Nat) : Int) := by omega
  have h3 : i / l.length ≤ i := Nat.div_le_self _ _
  repeat' with_reducible first | refine W ?_ | refine Z0 ?_ | ((first | refine Wo fun K hK => ?_ | refine Wq ?_ | refine Wr ?_); (try simp only [go_sem, fN, seval, eT, iR, h1.1, h2.1, e1, e2, ha]); (repeat refine Ai ?_); (try (refine hK _ ?_; clear hK K)))
  refine ⟨_, DL a 1000003 (hl a (AT ha)) (by omega), ?_⟩
  have hp := A1 a 1000003 (by omega)
  repeat' with_reducible first | refine W ?_ | refine Z0 ?_ | ((first | refine Wo fun K hK => ?_ | refine Wq ?_ | refine Wr ?_); (try simp only [go_sem, fN, seval, eT, iR, h1.1, h2.1, e1, e2]); (repeat refine Ai ?_); (try (refine hK _ ?_; clear hK K)))
  simp only [go_sem, fN, seval, Ae, AS.result, AK, AL, AZ]
  unfold Bi
  rw [if_neg (by omega), List.getD_eq_getElem?_getD, ha]
  rfl
theorem Ol (s : ByteArray) : Ac Try.prog 38 [HE s] (aTm (.mk s [])) := by
 refine NW.ac fun C hC => ?_
 unfold Ig
 repeat' with_reducible first | refine W ?_ | refine Z0 ?_ | ((first | refine Wo fun K hK => ?_ | refine Wq ?_ | refine Wr ?_); (try simp only [go_sem, fN, seval, eT, iR]); (repeat refine Ai ?_); (try (refine hK _ ?_; clear hK K)))
 simp only [go_sem, fN, seval, Ae, AS.result, AK, AL, AZ]
 rfl
theorem K8 {n : ByteArray} {xs : List Tm} (h1 : BB n = true) (h2 : BG n = false) (hx : ∀ x ∈ xs, x.chk = 0) : (Tm.mk n xs).chk = 0 := by
 have h0 : D6 (Tm.mk n xs) = 0 := by
  unfold D6
  rw [Tm.name_mk, if_pos h1, if_neg (by rw [h2]; simp)]
 rw [Tm.chk_eq, if_pos h0, Tm.args_mk]
 induction xs with
 | nil => rfl
 | cons x xs ih =>
  simp only [Tm.chkL]
  rw [if_pos (hx x (by simp))]
  refine ih (fun y hy => hx y (by simp [hy])) ?_
  unfold D6
  rw [Tm.name_mk, if_pos h1, if_neg (by rw [h2]; simp)]

def D5 (c : Int) : Nat := [0, 0, 1, 2].getD (A_ c 4).toNat 0
def Gg (c : Int) : ByteArray := [⟨#[97]⟩, ⟨#[98]⟩, ⟨#[104]⟩, ⟨#[102]⟩].getD (A_ c 4).toNat ⟨#[97]⟩
def JY (l : List Int) (b : Nat) (n : Int) (k : Nat) : List Int := (List.range k).map fun j => A_ (Bi l (b + 2 + j)) n
def mvF (l : List Int) (at_ : Nat) (n : Int) (i : Nat) : Mv := ⟨Gg (Bi l (at_ + 4 * i)), JY l (at_ + 4 * i) n (D5 (Bi l (at_ + 4 * i))), A_ (Bi l (at_ + 4 * i + 1)) n⟩
def HT (l : List Int) (at_ : Nat) (n : Int) (k : Nat) : List Mv := (List.range k).map (mvF l at_ n)
def CN (l : List Int) (at_ : Nat) : Nat → List Int
 | 0 => []
 | s + 1 => if A_ (Bi l (at_ + s + 3)) 3 = 0 then CN l at_ s ++ [(s : Int)] else CN l at_ s
def auF (l : List Int) (at_ n mv : Nat) : Au := ⟨n, HT l at_ n mv, CN l at_ n⟩
theorem Kv (c : Int) : D5 c ≤ 2 := by
 have := A1 c 4 (by omega)
 unfold D5
 have h : (A_ c 4).toNat = 0 ∨ (A_ c 4).toNat = 1 ∨ (A_ c 4).toNat = 2 ∨ (A_ c 4).toNat = 3 := by omega
 rcases h with h | h | h | h <;> rw [h] <;> decide
theorem Ok (c : Int) : BB (Gg c) = true ∧ BG (Gg c) = false := by
 have := A1 c 4 (by omega)
 unfold Gg
 have h : (A_ c 4).toNat = 0 ∨ (A_ c 4).toNat = 1 ∨ (A_ c 4).toNat = 2 ∨ (A_ c 4).toNat = 3 := by omega
 rcases h with h | h | h | h <;> rw [h] <;> decide
theorem Ks (l : List Int) (b : Nat) (n : Int) (k : Nat) : (JY l b n k).length = k := by simp [JY]
theorem M2 (l : List Int) (b : Nat) (n : Int) (k : Nat) : JY l b n (k + 1) = JY l b n k ++ [A_ (Bi l (b + 2 + k)) n] := by simp [JY, List.range_succ]
theorem Ht (l : List Int) (at_ : Nat) (n : Int) (k : Nat) : (HT l at_ n k).length = k := by simp [HT]
theorem NL (l : List Int) (at_ : Nat) (n : Int) (k : Nat) : HT l at_ n (k + 1) = HT l at_ n k ++ [mvF l at_ n k] := by simp [HT, List.range_succ]
theorem Ej (l : List Int) (at_ : Nat) : ∀ s, (CN l at_ s).length ≤ s
 | 0 => Nat.le_refl _
 | s + 1 => by
  have := Ej l at_ s
  rw [CN]
  split
  ·rw [List.length_append]
   simp
   omega
  ·omega
theorem GA (l : List Int) (at_ : Nat) : ∀ s, ∀ x ∈ CN l at_ s, 0 ≤ x ∧ x < (s : Int)
 | 0 => by simp [CN]
 | s + 1 => by
  intro x hx
  rw [CN] at hx
  split at hx
  ·rcases List.mem_append.1 hx with hx | hx
   ·have := GA l at_ s x hx
    omega
   ·simp at hx
    omega
  ·have := GA l at_ s x hx
   omega
theorem MV (l : List Int) (at_ n : Nat) (h : 1 ≤ n) (i : Nat) : (mvF l at_ n i).err n = 0 ∧ (mvF l at_ n i).frm.length ≤ 2 := by
 have hk := Kv (Bi l (at_ + 4 * i))
 have hl : (mvF l at_ n i).frm.length ≤ 2 := by
  show (JY _ _ _ _).length ≤ 2
  rw [Ks]
  exact hk
 refine ⟨Mv.err_ok.2 ⟨Ok _, by omega, List.all_eq_true.2 fun x hx => ?_, ?_⟩, hl⟩
 ·simp only [mvF, JY, List.mem_map] at hx
  obtain ⟨j, _, rfl⟩ := hx
  exact BN.2 (A1 _ _ (by omega))
 ·exact BN.2 (A1 _ _ (by omega))
theorem MM (l : List Int) (at_ n mv : Nat) (h : 1 ≤ n) (h8 : n ≤ 8) (h40 : mv ≤ 40) : (auF l at_ n mv).may 8 40 = 0 := by
 refine Au.may_ok.2 ⟨⟨by simp [auF], by simp [auF]; omega, by simp [auF, Ht]; omega⟩, fun m hm => ?_, ?_⟩
 ·simp only [auF, HT, List.mem_map] at hm
  obtain ⟨i, _, rfl⟩ := hm
  exact (MV l at_ n h i).1
 ·exact List.all_eq_true.2 fun x hx => BN.2 (GA l at_ n x hx)
theorem MX (l : List Int) (at_ n mv : Nat) (h : 1 ≤ n) : ∀ m ∈ (auF l at_ n mv).moves, m.frm.length ≤ 2 := fun m hm => by
 simp only [auF, HT, List.mem_map] at hm
 obtain ⟨i, _, rfl⟩ := hm
 exact (MV l at_ n h i).2
theorem HU (l : List Int) (hl : ∀ n ∈ l, inR .i64 n) (hm : l.length ≤ maxLen) (at_ n mv : Nat) (ha : at_ ≤ 1000) (hn : 1 ≤ n) (hn8 : n ≤ 8) (hmv : mv ≤ 40) :
  Ac Try.prog 14 [C3 l, AR at_, AR n, AR mv] (aAu (auF l at_ n mv)) := by
 have e300 : ([] : List Mv).length = 0 := rfl
 refine Hx.ac fun C hC => ?_
 unfold Ey
 repeat' with_reducible first | refine W ?_ | refine Z0 ?_ | ((first | refine Wo fun K hK => ?_ | refine Wp ?_ | refine Wq ?_ | refine Wr ?_); (try simp only [go_sem, fN, seval, eT, iR, dT, dF, nL]); (repeat refine Ai ?_); (try (refine hK _ ?_; clear hK K)); try refine iC ?_)
 refine IWP.ghost (Aa.ownC (C := C) 9 1 300 46 3 (xs := ([] : List Mv).map Ab) (ty := 25) (cs := [.st (.int .i64 n), .full [], .full []]) (by simp only [go_sem, fN, seval, eT, iR]) rfl (by simp only [go_sem, fN, seval, eT, iR]) FF) ?_
 refine IWP.ghost (Aa.ownC (C := C) 9 2 301 3 1 (xs := ([] : List Int).map BE) (ty := 25) (cs := [.st (.int .i64 n), .row 300 0, .full []]) (by simp only [go_sem, fN, seval, eT, iR]; rfl) rfl (by simp only [go_sem, fN, seval, eT, iR]) De) ?_
 refine IWP.loopD [13, 959] (fun q s => ∃ i, i ≤ mv ∧ q = mv - i ∧ s.env 0 = C3 l ∧ s.env 1 = AR at_ ∧ s.env 2 = AR n ∧ s.env 3 = AR mv ∧ s.env 8 = .one (.ptr 8 1 0 0) ∧ s.S 8 = some (.box 25 [.st (.int .i64 0), .full [], .full []]) ∧ s.env 9 = .one (.ptr 9 1 0 0) ∧ s.S 9 = some (.box 25 [.st (.int .i64 n), .row 300 i, .row 301 0]) ∧ s.S 300 = some (.arow 46 3 ((HT l at_ n i).map Ab)) ∧ s.S 301 = some (.arow 3 1 []) ∧ s.env 10 = AR i ∧ s.S 13 = none ∧ s.S 959 = none) mv
  ⟨0, Nat.zero_le _, rfl, by simp only [go_sem, fN, seval, eT, iR], by simp only [go_sem, fN, seval, eT, iR], by simp only [go_sem, fN, seval, eT, iR], by simp only [go_sem, fN, seval, eT, iR], by simp only [go_sem, fN, seval, eT, iR], by simp only [go_sem, fN, seval, eT, iR], by simp only [go_sem, fN, seval, eT, iR], by simp only [go_sem, fN, seval, eT, iR]; rfl, by simp only [go_sem, fN, seval, eT, iR]; rfl, by simp only [go_sem, fN, seval, eT, iR], by simp only [go_sem, fN, seval, eT, iR], by simp only [go_sem, fN, seval, eT, iR], by simp only [go_sem, fN, seval, eT, iR]⟩ ?_
 rintro q ⟨env, St⟩ ⟨i, hi, rfl, e0, e1, e2, e3, e8, s8, e9, s9, s300, s301, e10, s13, s959⟩
 simp only at e0 e1 e2 e3 e8 s8 e9 s9 s300 s301 e10 s13 s959
 by_cases hlt : (i : Int) < mv
 ·have w0 := J4 l (at_ + 4 * i) (by omega) hl hm
  have w1 := J4 l (at_ + 4 * i + 1) (by omega) hl hm
  rw [show (((at_ + 4 * i : Nat) : Int)) = (at_ : Int) + 4 * (i : Int) by omega] at w0
  rw [show (((at_ + 4 * i + 1 : Nat) : Int)) = (at_ : Int) + 4 * (i : Int) + 1 by omega] at w1
  have r0 := C4 l (at_ + 4 * i)
  have r1 := C4 l (at_ + 4 * i + 1)
  have p0 := DL (Bi l (at_ + 4 * i)) 4 (by rw [Cd]; omega) (by omega)
  have p1 := DL (Bi l (at_ + 4 * i + 1)) n (by rw [Cd]; omega) (by omega)
  have hk2 := Kv (Bi l (at_ + 4 * i))
  have hpk := A1 (Bi l (at_ + 4 * i)) 4 (by omega)
  have hkn : [([.int .i64 0] : List SV), [.int .i64 0], [.int .i64 1], [.int .i64 2]][(A_ (Bi l (at_ + 4 * i)) 4).toNat]? = some [.int .i64 (D5 (Bi l (at_ + 4 * i)) : Int)] ∧ [([.str ⟨#[97]⟩] : List SV), [.str ⟨#[98]⟩], [.str ⟨#[104]⟩], [.str ⟨#[102]⟩]][(A_ (Bi l (at_ + 4 * i)) 4).toNat]? = some [.str (Gg (Bi l (at_ + 4 * i)))] := by
   unfold D5 Gg
   generalize A_ (Bi l (at_ + 4 * i)) 4 = y at hpk
   have h : y.toNat = 0 ∨ y.toNat = 1 ∨ y.toNat = 2 ∨ y.toNat = 3 := by omega
   rcases h with h | h | h | h <;> rw [h] <;> exact ⟨rfl, rfl⟩
  obtain ⟨hkn, hkb⟩ := hkn
  repeat' (first | (with_reducible first | refine W ?_ | refine Z0 ?_ | ((first | refine Wo fun K hK => ?_ | refine Wp ?_ | refine Wq ?_ | refine Wr ?_); (try simp only [go_sem, fN, seval, eT, iR, e0, e1, e2, e3, e8, s8, e9, s9, s300, s301, e10, s13, s959, hlt, hkn, hkb, dT, dF, nL]); (repeat refine Ai ?_); (try (refine hK _ ?_; clear hK K)); try refine iC ?_)) | refine Cg _ (w0) ?_ | refine Cg _ (p0) ?_ | refine Cg _ (w1) ?_ | refine Cg _ (p1) ?_)
  refine IWP.ghost (Aa.ownC (C := C) 13 1 959 3 1 (xs := ([] : List Int).map BE) (ty := 46) (cs := [.st (.str (Gg (Bi l (at_ + 4 * i)))), .full [], .st (.int .i64 (A_ (Bi l (at_ + 4 * i + 1)) n))]) (by simp only [go_sem, fN, seval, eT, iR]) rfl (by simp only [go_sem, fN, seval, eT, iR, s959]) De) ?_
  refine IWP.loop (fun q s => ∃ j, j ≤ D5 (Bi l (at_ + 4 * i)) ∧ q = D5 (Bi l (at_ + 4 * i)) - j ∧ s.env 0 = C3 l ∧ s.env 1 = AR at_ ∧ s.env 2 = AR n ∧ s.env 3 = AR mv ∧ s.env 8 = .one (.ptr 8 1 0 0) ∧ s.S 8 = some (.box 25 [.st (.int .i64 0), .full [], .full []]) ∧ s.env 9 = .one (.ptr 9 1 0 0) ∧ s.S 9 = some (.box 25 [.st (.int .i64 n), .row 300 i, .row 301 0]) ∧ s.S 300 = some (.arow 46 3 ((HT l at_ n i).map Ab)) ∧ s.S 301 = some (.arow 3 1 []) ∧ s.env 10 = AR i ∧ s.env 12 = AR (D5 (Bi l (at_ + 4 * i))) ∧ s.env 13 = .one (.ptr 13 1 0 0) ∧ s.S 13 = some (.box 46 [.st (.str (Gg (Bi l (at_ + 4 * i)))), .row 959 j, .st (.int .i64 (A_ (Bi l (at_ + 4 * i + 1)) n))]) ∧ s.S 959 = some (.arow 3 1 ((JY l (at_ + 4 * i) n j).map BE)) ∧ s.env 14 = AR j) (D5 (Bi l (at_ + 4 * i)))
   ⟨0, Nat.zero_le _, rfl, by simp only [go_sem, fN, seval, eT, iR, e0], by simp only [go_sem, fN, seval, eT, iR, e1], by simp only [go_sem, fN, seval, eT, iR, e2], by simp only [go_sem, fN, seval, eT, iR, e3], by simp only [go_sem, fN, seval, eT, iR, e8], by simp only [go_sem, fN, seval, eT, iR, s8], by simp only [go_sem, fN, seval, eT, iR, e9], by simp only [go_sem, fN, seval, eT, iR, s9], by simp only [go_sem, fN, seval, eT, iR, s300], by simp only [go_sem, fN, seval, eT, iR, s301], by simp only [go_sem, fN, seval, eT, iR, e10], by simp only [go_sem, fN, seval, eT, iR], by simp only [go_sem, fN, seval, eT, iR], by simp only [go_sem, fN, seval, eT, iR]; rfl, by simp only [go_sem, fN, seval, eT, iR]; rfl, by simp only [go_sem, fN, seval, eT, iR]⟩ ?_
  rintro q ⟨env2, S2⟩ ⟨j, hj, rfl, f0, f1, f2, f3, f8, t8, f9, t9, t300, t301, f10, f12, f13, t13, t959, f14⟩
  simp only at f0 f1 f2 f3 f8 t8 f9 t9 t300 t301 f10 f12 f13 t13 t959 f14
  have hfl := Ks l (at_ + 4 * i) n j
  have hml := Ht l at_ n i
  by_cases hjl : (j : Int) < D5 (Bi l (at_ + 4 * i))
  ·have w2 := J4 l (at_ + 4 * i + 2 + j) (by omega) hl hm
   rw [show (((at_ + 4 * i + 2 + j : Nat) : Int)) = (at_ : Int) + 4 * (i : Int) + 2 + j by omega] at w2
   have r2 := C4 l (at_ + 4 * i + 2 + j)
   have p2 := DL (Bi l (at_ + 4 * i + 2 + j)) n (by rw [Cd]; omega) (by omega)
   repeat' (first | (with_reducible first | refine W ?_ | refine Z0 ?_ | ((first | refine Wo fun K hK => ?_ | refine Wp ?_ | refine Wq ?_ | refine Wr ?_); (try simp only [go_sem, fN, seval, eT, iR, f0, f1, f2, f3, f8, t8, f9, t9, t300, t301, f10, f12, f13, t13, t959, f14, hjl, hfl, hml, dT, dF, nL]); (repeat refine Ai ?_); (try (refine hK _ ?_; clear hK K)); try refine iC ?_)) | refine Cg _ (w2) ?_ | refine Cg _ (p2) ?_)
   refine AH ⟨D5 (Bi l (at_ + 4 * i)) - (j + 1), by omega, j + 1, by omega, rfl, ?_⟩
   simp only [go_sem, fN, seval, eT, iR, f0, f1, f2, f3, f8, t8, f9, t9, t300, t301, f10, f12, f13, t13, t959, f14, hfl]
   rw [M2]
   simp
  ·have hjk : j = D5 (Bi l (at_ + 4 * i)) := by omega
   subst hjk
   repeat' with_reducible first | refine W ?_ | refine Z0 ?_ | ((first | refine Wo fun K hK => ?_ | refine Wp ?_ | refine Wq ?_ | refine Wr ?_); (try simp only [go_sem, fN, seval, eT, iR, f0, f1, f2, f3, f8, t8, f9, t9, t300, t301, f10, f12, f13, t13, t959, f14, hjl, hfl, hml, Nat.lt_irrefl, dT, dF, nL]); (repeat refine Ai ?_); (try (refine hK _ ?_; clear hK K)); try refine iC ?_)
   refine AH ⟨mv - (i + 1), by omega, i + 1, by omega, rfl, ?_⟩
   simp only [go_sem, fN, seval, AS.drop, As, AC.clears, AC.clear, AC.highs, AC.high, Bool.not_false, Bool.true_and, Bool.and_self, AV.purge, AV.purges, AC.purge, AJ.purge, List.contains_cons, List.contains_nil, Nat.reduceBEq, Bool.or_self, Bool.or_false, Bool.false_or, Bool.or_true, eT, iR, f0, f1, f2, f3, f8, t8, f9, t9, t300, t301, f10, f12, f13, t13, t959, f14, hml]
   rw [NL]
   simp [Ab, mvF]
 ·have him : i = mv := by omega
  subst him
  have hml := Ht l at_ n i
  repeat' with_reducible first | refine W ?_ | refine Z0 ?_ | ((first | refine Wo fun K hK => ?_ | refine Wp ?_ | refine Wq ?_ | refine Wr ?_); (try simp only [go_sem, fN, seval, eT, iR, e0, e1, e2, e3, e8, s8, e9, s9, s300, s301, e10, s13, s959, hlt, dT, dF, nL]); (repeat refine Ai ?_); (try (refine hK _ ?_; clear hK K)); try refine iC ?_)
  refine IWP.loop (fun q s => ∃ k, k ≤ n ∧ q = n - k ∧ s.env 0 = C3 l ∧ s.env 1 = AR at_ ∧ s.env 2 = AR n ∧ s.env 8 = .one (.ptr 8 1 0 0) ∧ s.S 8 = some (.box 25 [.st (.int .i64 0), .full [], .full []]) ∧ s.env 9 = .one (.ptr 9 1 0 0) ∧ s.S 9 = some (.box 25 [.st (.int .i64 n), .row 300 i, .row 301 (CN l at_ k).length]) ∧ s.S 300 = some (.arow 46 3 ((HT l at_ n i).map Ab)) ∧ s.S 301 = some (.arow 3 1 ((CN l at_ k).map BE)) ∧ s.env 15 = AR k) n
   ⟨0, Nat.zero_le _, rfl, by simp only [go_sem, fN, seval, eT, iR, e0], by simp only [go_sem, fN, seval, eT, iR, e1], by simp only [go_sem, fN, seval, eT, iR, e2], by simp only [go_sem, fN, seval, eT, iR, e8], by simp only [go_sem, fN, seval, eT, iR, s8], by simp only [go_sem, fN, seval, eT, iR, e9], by simp only [go_sem, fN, seval, eT, iR, s9]; rfl, by simp only [go_sem, fN, seval, eT, iR, s300], by simp only [go_sem, fN, seval, eT, iR, s301]; rfl, by simp only [go_sem, fN, seval, eT, iR]⟩ ?_
  rintro q ⟨env2, S2⟩ ⟨k, hk, rfl, f0, f1, f2, f8, t8, f9, t9, t300, t301, f15⟩
  simp only at f0 f1 f2 f8 t8 f9 t9 t300 t301 f15
  have hll := Ej l at_ k
  have hlm : ((CN l at_ k).map BE).length = (CN l at_ k).length := List.length_map _
  by_cases hkl : (k : Int) < n
  ·have w3 := J4 l (at_ + k + 3) (by omega) hl hm
   rw [show (((at_ + k + 3 : Nat) : Int)) = (at_ : Int) + k + 3 by omega] at w3
   have r3 := C4 l (at_ + k + 3)
   have p3 := DL (Bi l (at_ + k + 3)) 3 (by rw [Cd]; omega) (by omega)
   by_cases h0 : A_ (Bi l (at_ + k + 3)) 3 = 0
   ·have hs : CN l at_ (k + 1) = CN l at_ k ++ [(k : Int)] := by rw [CN, if_pos h0]
    repeat' (first | (with_reducible first | refine W ?_ | refine Z0 ?_ | ((first | refine Wo fun K hK => ?_ | refine Wp ?_ | refine Wq ?_ | refine Wr ?_); (try simp only [go_sem, fN, seval, eT, iR, f0, f1, f2, f8, t8, f9, t9, t300, t301, f15, hkl, hlm, h0, dT, dF, nL]); (repeat refine Ai ?_); (try (refine hK _ ?_; clear hK K)); try refine iC ?_)) | refine Cg _ (w3) ?_ | refine Cg _ (p3) ?_)
    refine AH ⟨n - (k + 1), by omega, k + 1, by omega, rfl, ?_⟩
    simp only [go_sem, fN, seval, eT, iR, f0, f1, f2, f8, t8, f9, t9, t300, t301, f15, hlm]
    rw [hs]
    simp
   ·have hs : CN l at_ (k + 1) = CN l at_ k := by rw [CN, if_neg h0]
    repeat' (first | (with_reducible first | refine W ?_ | refine Z0 ?_ | ((first | refine Wo fun K hK => ?_ | refine Wp ?_ | refine Wq ?_ | refine Wr ?_); (try simp only [go_sem, fN, seval, eT, iR, f0, f1, f2, f8, t8, f9, t9, t300, t301, f15, hkl, hlm, h0, dT, dF, nL]); (repeat refine Ai ?_); (try (refine hK _ ?_; clear hK K)); try refine iC ?_)) | refine Cg _ (w3) ?_ | refine Cg _ (p3) ?_)
    refine AH ⟨n - (k + 1), by omega, k + 1, by omega, rfl, ?_⟩
    simp only [go_sem, fN, seval, eT, iR, f0, f1, f2, f8, t8, f9, t9, t300, t301, f15, hlm]
    rw [hs]
    simp
  ·have hkn : k = n := by omega
   subst hkn
   repeat' with_reducible first | refine W ?_ | refine Z0 ?_ | ((first | refine Wo fun K hK => ?_ | refine Wp ?_ | refine Wq ?_ | refine Wr ?_); (try simp only [go_sem, fN, seval, eT, iR, f0, f1, f2, f8, t8, f9, t9, t300, t301, f15, hkl, hlm, hml, Nat.lt_irrefl, dT, dF, nL]); (repeat refine Ai ?_); (try (refine hK _ ?_; clear hK K)); try refine iC ?_)
   simp only [go_sem, fN, seval, Ae, AS.result, AK, AL, AZ, f8, t8, t300, t301, hlm, hml]
   rfl



mutual
def Tm.occN (v : ByteArray) : Tm → Nat
 | .mk n xs => (if n = v then 1 else 0) + Tm.occNs v xs
def Tm.occNs (v : ByteArray) : List Tm → Nat
 | [] => 0
 | t :: ts => t.occN v + Tm.occNs v ts
end
def okV (a b : Tm) : Prop := ∀ v, BG v = true → b.occN v ≤ a.occN v
theorem okV.trans {a b c : Tm} (h : okV a b) (k : okV b c) : okV a c := fun v hv => Nat.le_trans (k v hv) (h v hv)
inductive Lex (R : Tm → Tm → Prop) : List Tm → List Tm → Prop
 | here {x y xs ys} : x ≠ y → R x y → xs.length = ys.length → Lex R (x :: xs) (y :: ys)
 | on {x xs ys} : Lex R xs ys → Lex R (x :: xs) (x :: ys)
theorem Lex.len {R : Tm → Tm → Prop} {xs ys : List Tm} (h : Lex R xs ys) : xs.length = ys.length := by
 induction h with
 | here _ _ h => simp [h]
 | on _ ih => simp [ih]
theorem Lex.irrefl {R : Tm → Tm → Prop} : ∀ {xs : List Tm}, ¬ Lex R xs xs
 | [], h => by cases h
 | x :: xs, h => by
  cases h with
  | here h _ _ => exact h rfl
  | on h => exact Lex.irrefl h
theorem Lex.trans {R : Tm → Tm → Prop} : ∀ {xs ys zs : List Tm}, (∀ x ∈ xs, ∀ y ∈ ys, ∀ z ∈ zs, R x y → R y z → R x z ∧ x ≠ z) → Lex R xs ys → Lex R ys zs → Lex R xs zs := by
 intro xs ys zs ht h k
 induction h generalizing zs with
 | here hne hr hl =>
  cases k with
  | here hne2 hr2 hl2 =>
   obtain ⟨h1, h2⟩ := ht _ (by simp) _ (by simp) _ (by simp) hr hr2
   exact .here h2 h1 (hl.trans hl2)
  | on k => exact .here hne hr (hl.trans k.len)
 | on h ih =>
  cases k with
  | here hne2 hr2 hl2 => exact .here hne2 hr2 (h.len.trans hl2)
  | on k => exact .on (ih (fun x hx y hy z hz => ht x (by simp [hx]) y (by simp [hy]) z (by simp [hz])) k)
section
variable {s : List Bd} {a b : Tm} {row : List ByteArray}
theorem Lex.map {R : Tm → Tm → Prop} {f : Tm → Tm} : ∀ {xs ys : List Tm}, (∀ x ∈ xs, ∀ y ∈ ys, R x y → R (f x) (f y) ∧ f x ≠ f y) → Lex R xs ys → Lex R (xs.map f) (ys.map f) := by
 intro xs ys h k
 induction k with
 | here hne hr hl =>
  obtain ⟨h1, h2⟩ := h _ (by simp) _ (by simp) hr
  exact .here h2 h1 (by simp [hl])
 | on k ih => exact .on (ih fun x hx y hy => h x (by simp [hx]) y (by simp [hy]))
theorem Lex.at {R : Tm → Tm → Prop} {x y : Tm} (hne : x ≠ y) (h : R x y) : ∀ (xs ys : List Tm), Lex R (xs ++ x :: ys) (xs ++ y :: ys)
 | [], ys => .here hne h rfl
 | z :: xs, ys => .on (Lex.at hne h xs ys)
def Tm.ground (t : Tm) : Prop := ∀ k ∈ t.knots, BG k.name = false
end

theorem FQ : ∀ (ks : List Tm) (l : List ByteArray), (∀ k ∈ ks, BG k.name = false) → Ak l ks = l
 | [], l, _ => rfl
 | k :: ks, l, h => by
  have h1 := h k (by simp)
  have e : Ak l (k :: ks) = Ak (BT l k.name) ks := rfl
  rw [e, FQ ks _ fun x hx => h x (by simp [hx])]
  unfold BT
  simp [h1]
theorem KU {t : Tm} (h : t.ground) : t.varsOf = [] := FQ _ _ h

def DC : IR :=
 (.seq (.ops [.i 6 (.alloc 39 [.st (.str (ByteArray.mk (#[]))), .full []]), .i 7 (.mov (.n 0))]) (.seq (.ops [.m 14 0, .m 15 1, .i 16 (.call 37 [.t 14, .t 15]), .m 8 16]) (.seq (.ops [.m 17 1, .i 18 (.bin .add (.t 17) (.n 1)), .m 1 18]) (.seq (.seq (.ops [.m 19 2, .i 20 (.bin .lss (.t 19) (.n 3)), .m 21 20, .mk (some 22) (some (21, false)) (.mov (.t 8)) .no, .mk (some 23) (some (21, false)) (.call 15 [.t 22, .n 5]) .no, .mk (some 24) (some (21, false)) (.bin .lss (.t 23) (.n 2)) .no, .i 25 (.pick (.t 21) (.c (.one (.st (.bool true)))) (.t 24))]) (.cond (.t 25) (.seq (.ops [.i 26 (.buildFlat [.c (.one (.st (.str (ByteArray.mk (#[97]))))), .c (.one (.st (.str (ByteArray.mk (#[98])))))]), .m 27 8, .i 28 (.bin .quo (.t 27) (.n 5)), .i 29 (.call 15 [.t 28, .n 2]), .i 30 (.indexAddr 1 (.t 26) (.t 29)), .l 31 30, .i 32 (.call 38 [.t 31]), .m 33 1, .s 2 6 32, .m 7 33]) .ret) .skip)) (.seq (.seq (.ops [.m 34 8, .i 35 (.bin .quo (.t 34) (.n 5)), .i 36 (.call 15 [.t 35, .n 2]), .i 37 (.bin .eql (.t 36) (.n 0))]) (.cond (.t 37) (.seq (.ops [.m 39 0, .m 40 1, .m 41 2, .i 42 (.bin .sub (.t 41) (.n 1)), .i 43 (.call 16 [.t 39, .t 40, .t 42]), .m 38 43, .i 44 (.extract 0 (.t 38)), .i 45 (.extract 1 (.t 38)), .i 9 (.alloc 39 [.st (.str (ByteArray.mk (#[]))), .full []]), .s 2 9 44, .m 10 45]) (.seq (.ops [.L 46 2 9, .i 47 (.buildSlice false 39 2 [.t 46]), .i 48 (.build [.st (.str (ByteArray.mk (#[]))), .full []] [(0, 1, .c (.one (.st (.str (ByteArray.mk (#[104])))))), (1, 1, .t 47)]), .m 49 10, .s 2 6 48, .m 7 49]) .ret)) .skip)) (.seq (.ops [.m 51 0, .m 52 1, .m 53 2, .i 54 (.bin .quo (.t 53) (.n 2)), .i 55 (.call 16 [.t 51, .t 52, .t 54]), .m 50 55, .i 56 (.extract 0 (.t 50)), .i 57 (.extract 1 (.t 50)), .i 11 (.alloc 39 [.st (.str (ByteArray.mk (#[]))), .full []]), .s 2 11 56, .m 12 57]) (.seq (.ops [.m 59 0, .m 60 12, .m 61 2, .i 62 (.bin .quo (.t 61) (.n 2)), .i 63 (.call 16 [.t 59, .t 60, .t 62]), .m 58 63, .i 64 (.extract 0 (.t 58)), .i 65 (.extract 1 (.t 58)), .i 13 (.alloc 39 [.st (.str (ByteArray.mk (#[]))), .full []]), .s 2 13 64, .m 12 65]) (.seq (.ops [.L 66 2 11, .L 67 2 13, .i 68 (.buildSlice false 39 2 [.t 66, .t 67]), .i 69 (.build [.st (.str (ByteArray.mk (#[]))), .full []] [(0, 1, .c (.one (.st (.str (ByteArray.mk (#[102])))))), (1, 1, .t 68)]), .m 70 12, .s 2 6 69, .m 7 70]) .ret))))))))
theorem EQ : OkF Try.prog 16 71 [] DC [.cell 6 true 2, .t 7] := .of Try.func16 rfl rfl (by kernel_rfl) rfl


def KY (l : List Int) (at_ : Nat) (most : Int) (t : Tm) : Prop :=
 Ac Try.prog 16 [C3 l, AR at_, AR most] (.tup [aTm t, AR ((at_ + t.size : Nat) : Int)])
theorem GD {n : ByteArray} {xs : List Tm} (hn : BG n = false) (hx : ∀ x ∈ xs, x.ground) : (Tm.mk n xs).ground := by
 intro k hk
 rw [Tm.knots, List.mem_cons] at hk
 rcases hk with rfl | hk
 ·exact hn
 ·clear hn
  induction xs with
  | nil => simp [Tm.knotsL] at hk
  | cons x xs ih =>
   rw [Tm.knotsL, List.mem_append] at hk
   rcases hk with hk | hk
   ·exact hx x (by simp) k hk
   ·exact ih (fun y hy => hx y (by simp [hy])) hk
theorem NC (l : List Int) (hl : ∀ n ∈ l, inR .i64 n) (hm : l.length ≤ maxLen) : ∀ (most : Nat) (at_ : Nat), most ≤ 1000 → at_ + 2 * most ≤ 900000 → ∃ t : Tm, KY l at_ most t ∧ t.size + 1 ≤ max 2 (2 * most) ∧ t.chk = 0 ∧ t.ground := by
 intro most
 induction most using Nat.strongRecOn with
 | _ most ih =>
 intro at_ h1000 hat
 have hraw := J4 l at_ (by omega) hl hm
 have hr := C4 l at_
 generalize Bi l at_ = c at hraw hr
 have d5 := FB (x := c) (n := 5) (by omega) (by omega)
 have p5 := DL c 5 (by rw [Cd]; omega) (by omega)
 have q5 := A1 c 5 (by omega)
 have p52 := DL (c / 5) 2 (by rw [Cd]; omega) (by omega)
 have q52 := A1 (c / 5) 2 (by omega)
 generalize A_ c 5 = x5 at p5 q5
 generalize A_ (c / 5) 2 = x52 at p52 q52
 by_cases hleaf : (most : Int) < 3 ∨ x5 < 2
 ·obtain ⟨nm, hnm, hch, hgr⟩ : ∃ nm, [([.str ⟨#[97]⟩] : List SV), [.str ⟨#[98]⟩]][x52.toNat]? = some [.str nm] ∧ (Tm.mk nm []).chk = 0 ∧ BG nm = false := by
   have : x52.toNat = 0 ∨ x52.toNat = 1 := by omega
   rcases this with h | h <;> rw [h] <;> exact ⟨_, rfl, by decide, by decide⟩
  refine ⟨.mk nm [], ?_, by simp only [Tm.size, Tm.sizes]; omega, hch, GD hgr (by simp)⟩
  unfold KY
  refine EQ.ac fun C hC => ?_
  unfold DC
  repeat' with_reducible first | refine W ?_ | refine Z0 ?_ | ((first | refine Wo fun K hK => ?_ | refine Wp ?_ | refine Wq ?_ | refine Wr ?_); (try simp only [go_sem, fN, seval, eT, iR, dT, dF, nL]); (repeat refine Ai ?_); (try (refine hK _ ?_; clear hK K)); try refine iC ?_)
  refine ⟨_, hraw, ?_⟩
  by_cases hm3 : (most : Int) < 3
  ·repeat' (first | (with_reducible first | refine W ?_ | refine Z0 ?_ | ((first | refine Wo fun K hK => ?_ | refine Wp ?_ | refine Wq ?_ | refine Wr ?_); (try simp only [go_sem, fN, seval, eT, iR, hm3, d5.1, hnm, dT, dF, nL]); (repeat refine Ai ?_); (try (refine hK _ ?_; clear hK K)); try refine iC ?_)) | refine Cg _ (p52) ?_ | refine Cg _ (Ol nm) ?_)
   simp only [go_sem, fN, seval, Ae, AS.result, AK, AL, AZ]
   simp only [AV.tup.injEq, AV.agg.injEq, AV.one.injEq, AC.st.injEq, SV.int.injEq, SV.str.injEq, SV.bool.injEq, SV.list.injEq, List.cons.injEq, Option.some.injEq, true_and, and_true, eq_self, Eb, Tm.args_mk, Tm.name_mk, List.map_cons, List.map_nil, List.map_append, Tm.size, Tm.sizes]
   omega
  ·have h5 : x5 < 2 := by omega
   repeat' (first | (with_reducible first | refine W ?_ | refine Z0 ?_ | ((first | refine Wo fun K hK => ?_ | refine Wp ?_ | refine Wq ?_ | refine Wr ?_); (try simp only [go_sem, fN, seval, eT, iR, hm3, h5, d5.1, hnm, dT, dF, nL]); (repeat refine Ai ?_); (try (refine hK _ ?_; clear hK K)); try refine iC ?_)) | refine Cg _ (p5) ?_ | refine Cg _ (p52) ?_ | refine Cg _ (Ol nm) ?_)
   simp only [go_sem, fN, seval, Ae, AS.result, AK, AL, AZ]
   simp only [AV.tup.injEq, AV.agg.injEq, AV.one.injEq, AC.st.injEq, SV.int.injEq, SV.str.injEq, SV.bool.injEq, SV.list.injEq, List.cons.injEq, Option.some.injEq, true_and, and_true, eq_self, Eb, Tm.args_mk, Tm.name_mk, List.map_cons, List.map_nil, List.map_append, Tm.size, Tm.sizes]
   omega
 ·have hm3 : ¬ (most : Int) < 3 := by omega
  have h5 : ¬ x5 < 2 := by omega
  by_cases h0 : x52 = 0
  ·obtain ⟨t, ht, hs, hc1, hg1⟩ := ih (most - 1) (by omega) (at_ + 1) (by omega) (by omega)
   unfold KY at ht
   rw [show (((at_ + 1 : Nat) : Int)) = (at_ : Int) + 1 by omega, show (((most - 1 : Nat) : Int)) = (most : Int) - 1 by omega] at ht
   refine ⟨.mk ⟨#[104]⟩ [t], ?_, by simp only [Tm.size, Tm.sizes]; omega, K8 (by decide) (by decide) (by simp [hc1]), GD (by decide) (by simp [hg1])⟩
   unfold KY
   subst h0
   refine EQ.ac fun C hC => ?_
   unfold DC
   repeat' (first | (with_reducible first | refine W ?_ | refine Z0 ?_ | ((first | refine Wo fun K hK => ?_ | refine Wp ?_ | refine Wq ?_ | refine Wr ?_); (try simp only [go_sem, fN, seval, eT, iR, hm3, h5, d5.1, dT, dF, nL]); (repeat refine Ai ?_); (try (refine hK _ ?_; clear hK K)); try refine iC ?_)) | refine Cg _ (hraw) ?_ | refine Cg _ (p5) ?_ | refine Cg _ (p52) ?_ | refine Cg _ (ht) ?_)
   simp only [go_sem, fN, seval, Ae, AS.result, AK, AL, AZ]
   simp only [AV.tup.injEq, AV.agg.injEq, AV.one.injEq, AC.st.injEq, SV.int.injEq, SV.str.injEq, SV.bool.injEq, SV.list.injEq, List.cons.injEq, Option.some.injEq, true_and, and_true, eq_self, Eb, Tm.args_mk, Tm.name_mk, List.map_cons, List.map_nil, List.map_append, Tm.size, Tm.sizes]
   omega
  have d2 := FB (x := (most : Int)) (n := 2) (by omega) (by omega)
  have e2 : (most : Int) / 2 = ((most / 2 : Nat) : Int) := by omega
  obtain ⟨t, ht, hs, hc1, hg1⟩ := ih (most / 2) (by omega) (at_ + 1) (by omega) (by omega)
  obtain ⟨u, hu, hs', hc2, hg2⟩ := ih (most / 2) (by omega) (at_ + 1 + t.size) (by omega) (by omega)
  refine ⟨.mk ⟨#[102]⟩ [t, u], ?_, by simp only [Tm.size, Tm.sizes]; omega, K8 (by decide) (by decide) (by simp [hc1, hc2]), GD (by decide) (by simp [hg1, hg2])⟩
  unfold KY at ht hu ⊢
  rw [show (((at_ + 1 : Nat) : Int)) = (at_ : Int) + 1 by omega] at ht
  refine EQ.ac fun C hC => ?_
  unfold DC
  repeat' (first | (with_reducible first | refine W ?_ | refine Z0 ?_ | ((first | refine Wo fun K hK => ?_ | refine Wp ?_ | refine Wq ?_ | refine Wr ?_); (try simp only [go_sem, fN, seval, eT, iR, hm3, h5, d5.1, h0, d2.1, e2, dT, dF, nL]); (repeat refine Ai ?_); (try (refine hK _ ?_; clear hK K)); try refine iC ?_)) | refine Cg _ (hraw) ?_ | refine Cg _ (p5) ?_ | refine Cg _ (p52) ?_ | refine Cg _ (ht) ?_ | refine Cg _ (hu) ?_)
  simp only [go_sem, fN, seval, Ae, AS.result, AK, AL, AZ]
  simp only [AV.tup.injEq, AV.agg.injEq, AV.one.injEq, AC.st.injEq, SV.int.injEq, SV.str.injEq, SV.bool.injEq, SV.list.injEq, List.cons.injEq, Option.some.injEq, true_and, and_true, eq_self, Eb, Tm.args_mk, Tm.name_mk, List.map_cons, List.map_nil, List.map_append, Tm.size, Tm.sizes]
  omega

theorem Hh {a : Au} {t : Tm} (ha : a.may 8 40 = 0) (hc : t.chk = 0) (hz : t.size ≤ 200) (hg : t.ground) : Ef a t = 0 := by
 have hm : t.may = 0 := by
  unfold Tm.may
  rw [if_neg (by omega), hc]
 unfold Ef
 rw [if_pos ha, if_pos hm, KU hg]
 rfl

theorem QN {a b : Au} (ha : Al a = true) (hb : Al b = true) : Dl [a, b] = 0 := if_pos (by simp [ha, hb])
theorem Cx {a b : Au} (ha : a.may 8 40 = 0) (hb : b.may 8 40 = 0) (sa : Al a = true) (sb : Al b = true) (hla : a.last.length ≤ 100000) (hlb : b.last.length ≤ 100000) : Ac Try.prog 12 [aAu a, aAu b] (.tup [BJ (Cw a b), AR 0]) := by
 have h := Lb a b hla hlb
 have hp : Br a b = 0 := by unfold Br; rw [if_pos ha, hb]
 unfold JT at h
 rw [if_neg (fun k => k hp), if_neg (fun k => k (QN sa sb))] at h
 exact h
theorem Ju {a : Au} (h3 : a.states ≤ 3) (h2 : ∀ m ∈ a.moves, m.frm.length ≤ 2) : Al a = true := by
 unfold Al
 rw [decide_eq_true h3, Bool.true_and, List.all_eq_true]
 exact fun m hm => decide_eq_true (h2 m hm)
theorem OG {a : Au} (h : a.may 64 1600 = 0) (hs : Al a = true) (h40 : a.moves.length ≤ 40) : a.may 8 40 = 0 := by
 obtain ⟨⟨h1, _, _⟩, h2, h3⟩ := Au.may_ok.1 h
 have := A0 hs
 exact Au.may_ok.2 ⟨⟨h1, by omega, by omega⟩, h2, h3⟩
set_option maxRecDepth 100000 in
theorem Kc (l : List Int) (m1 m2 m3 : Int) (hl : ∀ n ∈ l, inR .i64 n) (hm : l.length ≤ maxLen) (h1 : inR .i64 m1) (h2 : inR .i64 m2) (h3 : inR .i64 m3) : Ac Try.prog 6 [C3 l, AR m1, AR m2, AR m3] (BJ true) := by
 by_cases h256 : (256 : Int) < l.length
 ·refine Bs.ac fun C hC => ?_
  unfold BO
  repeat' with_reducible first | refine W ?_ | refine Z0 ?_ | ((first | refine Wo fun K hK => ?_ | refine Wp ?_ | refine Wq ?_ | refine Wr ?_); (try simp only [go_sem, fN, seval, eT, iR, h256, dT, dF, nL]); (repeat refine Ai ?_); (try (refine hK _ ?_; clear hK K)); try refine iC ?_)
  simp only [go_sem, fN, seval, Ae, AS.result, AK, AL, AZ]
 have r1 := A1 m1 2 (by omega)
 have p1 := DL m1 2 h1 (by omega)
 obtain ⟨k1, e1⟩ : ∃ k : Nat, A_ m1 2 = k := ⟨(A_ m1 2).toNat, by omega⟩
 rw [e1] at p1 r1
 have r2 := A1 m2 7 (by omega)
 have p2 := DL m2 7 h2 (by omega)
 obtain ⟨k2, e2⟩ : ∃ k : Nat, A_ m2 7 = k := ⟨(A_ m2 7).toNat, by omega⟩
 rw [e2] at p2 r2
 have r3 := A1 m3 7 (by omega)
 have p3 := DL m3 7 h3 (by omega)
 obtain ⟨k3, e3⟩ : ∃ k : Nat, A_ m3 7 = k := ⟨(A_ m3 7).toNat, by omega⟩
 rw [e3] at p3 r3
 have cA := HU l hl hm 0 (1 + k1) k2 (by omega) (by omega) (by omega) (by omega)
 rw [show (((1 + k1 : Nat) : Int)) = 1 + (k1 : Int) by omega, show (((0 : Nat) : Int)) = 0 from rfl] at cA
 have ma := MM l 0 (1 + k1) k2 (by omega) (by omega) (by omega)
 have sa : Al (auF l 0 (1 + k1) k2) = true := Ju (by simp only [auF]; omega) (MX l 0 (1 + k1) k2 (by omega))
 have la : (auF l 0 (1 + k1) k2).last.length ≤ 4 := by
  have := Ej l 0 (1 + k1)
  simp only [auF]
  omega
 have cB := HU l hl hm 60 1 k3 (by omega) (by omega) (by omega) (by omega)
 rw [show (((60 : Nat) : Int)) = 60 from rfl, show (((1 : Nat) : Int)) = 1 from rfl] at cB
 have mb := MM l 60 1 k3 (by omega) (by omega) (by omega)
 have sb : Al (auF l 60 1 k3) = true := Ju (by simp only [auF]; omega) (MX l 60 1 k3 (by omega))
 have lb : (auF l 60 1 k3).last.length ≤ 4 := by
  have := Ej l 60 1
  simp only [auF]
  omega
 generalize auF l 0 (1 + k1) k2 = a at *
 generalize auF l 60 1 k3 = b at *
 obtain ⟨t, ht, hz, hc, hg⟩ := NC l hl hm 14 100 (by omega) (by omega)
 have ht : Ac Try.prog 16 [C3 l, AR 100, AR 14] (.tup [aTm t, AR ((100 + t.size : Nat) : Int)]) := ht
 have hz : t.size ≤ 27 := by omega
 have acA := IV a t (by omega) (by omega)
 have acB := IV b t (by omega) (by omega)
 rw [Hh ma hc (by omega) hg] at acA
 rw [Hh mb hc (by omega) hg] at acB
 have h4 : ∀ x : Bool, (decide ((0 : Int) = 0) && x) = x := by simp
 rw [h4] at acA acB
 have wAB := Cx ma mb sa sb (by omega) (by omega)
 have wAA := Cx ma ma sa sa (by omega) (by omega)
 have eAA : Cw a a = true := (CW sa sa).2 fun t h => h
 rw [eAA] at wAA
 have hAB := CW sa sb
 have ga := Au.may_good ma
 have gb := Au.may_good mb
 have cX := QP a b ma mb (by omega) (by omega)
 have cY := Oi a b ma mb (by omega) (by omega)
 have mx0 := OI ma mb
 have my0 := Lv ma mb
 have accX := fun t => N6 ga gb t
 have accY := fun t => L5 ga gb t
 have lx : (a.both b).last.length ≤ 16 := by
  show (Af _ _ _).length ≤ 16
  rw [Cj]
  exact Nat.mul_le_mul la lb
 have ly : (a.either b).last.length ≤ 8 := by
  show (_ ++ _ : List Int).length ≤ 8
  simp only [List.length_append, List.length_map]
  omega
 have fx : ∀ m ∈ (a.both b).moves, m.frm.length ≤ 4 := fun m hm => (Mv.err_ok.1 ((Au.may_ok.1 mx0).2.1 m hm)).2.1
 have fy : ∀ m ∈ (a.either b).moves, m.frm.length ≤ 4 := fun m hm => (Mv.err_ok.1 ((Au.may_ok.1 my0).2.1 m hm)).2.1
 have nx : (a.both b).moves.length ≤ 1600 := by have := (Au.may_ok.1 mx0).1.2.2; omega
 have ny : (a.either b).moves.length ≤ 1600 := by have := (Au.may_ok.1 my0).1.2.2; omega
 have sX := GU (a.both b) (by omega) (fun m hm => by have := fx m hm; omega)
 have sY := GU (a.either b) (by omega) (fun m hm => by have := fy m hm; omega)
 generalize a.both b = x at *
 generalize a.either b = y at *
 have hlaw : (Cw a b && a.acc t && !b.acc t) = false := by
  cases h1 : Cw a b with
  | false => rfl
  | true =>
   cases h2 : a.acc t with
   | false => rfl
   | true => rw [hAB.1 h1 t h2]; rfl
 have rest : Al x = true → Al y = true → x.moves.length ≤ 40 → y.moves.length ≤ 40 → Ac Try.prog 12 [aAu x, aAu a] (.tup [BJ true, AR 0]) ∧ Ac Try.prog 12 [aAu x, aAu b] (.tup [BJ true, AR 0]) ∧ Ac Try.prog 12 [aAu a, aAu y] (.tup [BJ true, AR 0]) ∧ Ac Try.prog 12 [aAu b, aAu y] (.tup [BJ true, AR 0]) := fun hx hy nx ny => by
  have mx := OG mx0 hx nx
  have my := OG my0 hy ny
  have w1 := Cx mx ma hx sa (by omega) (by omega)
  have w2 := Cx mx mb hx sb (by omega) (by omega)
  have w3 := Cx ma my sa hy (by omega) (by omega)
  have w4 := Cx mb my sb hy (by omega) (by omega)
  rw [(CW hx sa).2 fun t h => by rw [accX] at h; simp at h; exact h.1] at w1
  rw [(CW hx sb).2 fun t h => by rw [accX] at h; simp at h; exact h.2] at w2
  rw [(CW sa hy).2 fun t h => by rw [accY]; simp [h]] at w3
  rw [(CW sb hy).2 fun t h => by rw [accY]; simp [h]] at w4
  exact ⟨w1, w2, w3, w4⟩
 clear accX accY hAB mx0 my0
 refine Bs.ac fun C hC => ?_
 unfold BO
 repeat' (first | (with_reducible first | refine W ?_ | refine Z0 ?_ | ((first | refine Wo fun K hK => ?_ | refine Wp ?_ | refine Wq ?_ | refine Wr ?_); (try simp only [go_sem, fN, seval, eT, iR, h256, dT, dF, nL]); (repeat refine Ai ?_); (try (refine hK _ ?_; clear hK K)); try refine iC ?_)) | refine Cg _ (p1) ?_ | refine Cg _ (p2) ?_ | refine Cg _ (p3) ?_ | refine Cg _ (cA) ?_ | refine Cg _ (cB) ?_ | refine Cg _ (ht) ?_ | refine Cg _ (wAB) ?_ | refine Cg _ (wAA) ?_ | refine Cg _ (acA) ?_)
 refine ON.mk _ acB ?_
 refine Wq ?_
 simp only [go_sem, fN, seval, eT, iR]
 refine hK _ ?_
 clear hK K
 refine Wb ?_
 refine IWP.mid (fun z => z.env 97 = BJ false ∧ z.env 9 = .one (.ptr 9 1 0 0) ∧ z.env 10 = .one (.ptr 10 1 0 0) ∧ z.S 9 = some (AF a) ∧ z.S 10 = some (AF b) ∧ z.S 21 = none ∧ z.S 22 = none) ?_ ?_
 ·generalize Cw a b = p at *
  generalize a.acc t = q at *
  generalize b.acc t = r at *
  cases p <;> cases q <;> cases r <;> first | cases hlaw | skip
  all_goals (
   repeat' with_reducible first | refine W ?_ | refine Z0 ?_ | ((first | refine Wo fun K hK => ?_ | refine Wp ?_ | refine Wq ?_ | refine Wr ?_); (try simp only [go_sem, fN, seval, eT, iR, dT, dF, nL]); (repeat refine Ai ?_); (try (refine hK _ ?_; clear hK K)); try refine iC ?_)
   exact ⟨rfl, rfl, rfl, rfl, rfl, rfl, rfl, rfl⟩)
 clear hlaw wAB acA acB
 rintro ⟨env, S⟩ ⟨e97, e9, e10, s9, s10, s21, s22⟩
 simp only at e97 e9 e10 s9 s10 s21 s22
 have hnX : ((x.moves.map Ab).length : Int) = x.moves.length := by simp
 have hnY : ((y.moves.map Ab).length : Int) = y.moves.length := by simp
 cases hx : Al x with
 | false =>
  rw [hx] at sX
  repeat' (first | (with_reducible first | refine W ?_ | refine Z0 ?_ | ((first | refine Wo fun K hK => ?_ | refine Wp ?_ | refine Wq ?_ | refine Wr ?_); (try simp only [go_sem, fN, seval, eT, iR, e9, e10, s9, s10, s21, s22, AF, e97, hnX, hnY, dT, dF, nL]); (repeat refine Ai ?_); (try (refine hK _ ?_; clear hK K)); try refine iC ?_)) | refine Cg _ (wAA) ?_ | refine Cg _ (cX) ?_ | refine Cg _ (cY) ?_ | refine Cg _ (sX) ?_ | refine Cg _ (sY) ?_)
  simp only [go_sem, fN, seval, Ae, AS.result, AK, AL, AZ]
 | true =>
  rw [hx] at sX
  cases hy : Al y with
  | false =>
   rw [hy] at sY
   repeat' (first | (with_reducible first | refine W ?_ | refine Z0 ?_ | ((first | refine Wo fun K hK => ?_ | refine Wp ?_ | refine Wq ?_ | refine Wr ?_); (try simp only [go_sem, fN, seval, eT, iR, e9, e10, s9, s10, s21, s22, AF, e97, hnX, hnY, dT, dF, nL]); (repeat refine Ai ?_); (try (refine hK _ ?_; clear hK K)); try refine iC ?_)) | refine Cg _ (wAA) ?_ | refine Cg _ (cX) ?_ | refine Cg _ (cY) ?_ | refine Cg _ (sX) ?_ | refine Cg _ (sY) ?_)
   simp only [go_sem, fN, seval, Ae, AS.result, AK, AL, AZ]
  | true =>
   rw [hy] at sY
   by_cases h4 : (40 : Int) < x.moves.length
   ·have h4' : 40 < x.moves.length := by omega
    repeat' (first | (with_reducible first | refine W ?_ | refine Z0 ?_ | ((first | refine Wo fun K hK => ?_ | refine Wp ?_ | refine Wq ?_ | refine Wr ?_); (try simp only [go_sem, fN, seval, eT, iR, e9, e10, s9, s10, s21, s22, AF, e97, h4, h4', dT, dF, nL]); (repeat refine Ai ?_); (try (refine hK _ ?_; clear hK K)); try refine iC ?_)) | refine Cg _ (wAA) ?_ | refine Cg _ (cX) ?_ | refine Cg _ (cY) ?_ | refine Cg _ (sX) ?_ | refine Cg _ (sY) ?_)
    simp only [go_sem, fN, seval, Ae, AS.result, AK, AL, AZ]
   ·have h4' : ¬ 40 < x.moves.length := by omega
    by_cases h5 : (40 : Int) < y.moves.length
    ·have h5' : 40 < y.moves.length := by omega
     repeat' (first | (with_reducible first | refine W ?_ | refine Z0 ?_ | ((first | refine Wo fun K hK => ?_ | refine Wp ?_ | refine Wq ?_ | refine Wr ?_); (try simp only [go_sem, fN, seval, eT, iR, e9, e10, s9, s10, s21, s22, AF, e97, h4, h4', h5, h5', dT, dF, nL]); (repeat refine Ai ?_); (try (refine hK _ ?_; clear hK K)); try refine iC ?_)) | refine Cg _ (wAA) ?_ | refine Cg _ (cX) ?_ | refine Cg _ (cY) ?_ | refine Cg _ (sX) ?_ | refine Cg _ (sY) ?_)
     simp only [go_sem, fN, seval, Ae, AS.result, AK, AL, AZ]
    ·have h5' : ¬ 40 < y.moves.length := by omega
     obtain ⟨w1, w2, w3, w4⟩ := rest hx hy (by omega) (by omega)
     repeat' (first | (with_reducible first | refine W ?_ | refine Z0 ?_ | ((first | refine Wo fun K hK => ?_ | refine Wp ?_ | refine Wq ?_ | refine Wr ?_); (try simp only [go_sem, fN, seval, eT, iR, e9, e10, s9, s10, s21, s22, AF, e97, h4, h4', h5, h5', dT, dF, nL]); (repeat refine Ai ?_); (try (refine hK _ ?_; clear hK K)); try refine iC ?_)) | refine Cg _ (wAA) ?_ | refine Cg _ (cX) ?_ | refine Cg _ (cY) ?_ | refine Cg _ (sX) ?_ | refine Cg _ (sY) ?_ | refine Cg _ (w1) ?_ | refine Cg _ (w2) ?_ | refine Cg _ (w3) ?_ | refine Cg _ (w4) ?_)
     simp only [go_sem, fN, seval, Ae, AS.result, AK, AL, AZ]

open Go.ChangeShapes Go.WideShapes Go.ChangeAt
section
variable {H : Type} {enc : TypeId × Value → H} {P : Program}
theorem E7 (hl : laidOutB P = true) : ∀ {ts : List TypeId} {vs : List Value} {ds : List (DataW H)} {ps : List MemPlace} {W W' : World} {sp : Nat → Bool},
  (∀ t ∈ ts, P.readableRec t = true ∧ t < P.types.size) → DataW.TrodAll enc P W 0 (fun _ => true) true ts vs ds ps → (∀ p ∈ ps, W.sameAt W' p) → (∀ p ∈ ps, sp p.block = true) → DataW.TrodAll enc P W' 0 sp true ts vs ds ps
 | [], [], [], _, _, _, _, _, h, _, _ => h
 | _ :: _, _ :: _, _ :: _, _, _, _, _, hT, ⟨p, q, h1, h2, e⟩, hsame, hs => ⟨p, q, WideElems.Trod_stays hl (hT _ (List.mem_cons.2 (Or.inl rfl))).1 (hT _ (List.mem_cons.2 (Or.inl rfl))).2 h1 (fun x hx => hsame x (by rw [e]; exact List.mem_append_left _ hx)) (fun x hx => hs x (by rw [e]; exact List.mem_append_left _ hx)),
   E7 hl (fun t ht => hT t (List.mem_cons.2 (Or.inr ht))) h2 (fun x hx => hsame x (by rw [e]; exact List.mem_append_right _ hx)) (fun x hx => hs x (by rw [e]; exact List.mem_append_right _ hx)), e⟩
 | [], _ :: _, _, _, _, _, _, _, h, _, _ => h.elim
 | [], [], _ :: _, _, _, _, _, _, h, _, _ => h.elim
 | _ :: _, [], _, _, _, _, _, _, h, _, _ => h.elim
 | _ :: _, _ :: _, [], _, _, _, _, _, h, _, _ => h.elim
theorem PG {f : Func} {s : ChangeSpec} {apart fresh handsOn : Bool} {W W' : World} {args : Array Value} {ds : List (DataW H)} {before : List MemPlace} {tb : TypeId}
  (hW : DataW.Whole enc P f.params.toList s.vars apart W args.toList ds [] before) (hv : s.vars = []) (hr : f.resultTypes = #[tb]) (htb : P.underlying tb = some .bool)
  (hres : (s.fn H (ds ++ [])).results = [.lit (.bool true)]) (hargs : (s.fn H (ds ++ [])).args = ds) (hvs : (s.fn H (ds ++ [])).vars = [])
  (hl : laidOutB P = true) (hT : (f.params.toList.all fun t => P.readableRec t && decide (t < P.types.size)) = true) (hb : Below W.heap.size W W') :
  s.post enc P f apart fresh handsOn false W args (.bool true) W' := by
 have hlt : ∀ p ∈ before, p.block < W.heap.size := fun p hp => hW.lt p hp
 have hT' : ∀ t ∈ f.params.toList, P.readableRec t = true ∧ t < P.types.size := fun t ht => by
  have := List.all_eq_true.1 hT t ht
  simpa using this
 obtain ⟨p, q, hA, hV, rfl, hz, hn⟩ := hW
 rw [hv] at hV
 obtain ⟨_, rfl⟩ := trodVars_none hV
 have hargs' : ∀ sp : Nat → Bool, (∀ x ∈ p, sp x.block = true) → DataW.TrodAll enc P W' 0 sp true f.params.toList args.toList ds p := fun sp hsp =>
  E7 hl hT' hA (fun x hx => hb.same (hlt x (by simpa using hx))) hsp
 have hres' : ∀ (b : Nat) (sp : Nat → Bool) (hd : Bool), DataW.TrodAll enc P W' b sp hd f.resultTypes.toList ((Value.bool true).resultList f.resultTypes.size) (s.fn H (ds ++ [])).results [] := fun b sp hd => by
  rw [hres, hr]
  exact trodAll_cons_mk (shut_bool htb true) trodAll_mk0
 refine ⟨ds, [], p ++ [], [], p, [], ⟨p, [], hA, by rw [hv]; exact rfl, rfl, hz, hn⟩, hres' _ _ _, by rw [hargs]; exact hargs' _ (fun x hx => by simpa using hlt x (by simpa using hx)), by rw [hv, hvs]; exact rfl,
  World.keptBut_mono (fun x hx => ⟨hx, Or.inr (by simpa using hx)⟩) (hb.frame (· ∈ p ++ [])), fun h => by cases h⟩
variable {W : World} {sp : Nat → Bool} {hd : Bool} {base : Nat}
def sto (W : World) : Sto := CM W
theorem P4 (W : World) : Fit (sto W) W := fun _ _ h => h
theorem Ia {W : World} {a : Addr} {v : Value} (h : W.cell? a = some v) : a.spot = none := by
 cases hs : a.spot with
 | none => rfl
 | some n =>
  unfold World.cell? at h
  split at h
  ·simp [hs] at h
  ·cases h
theorem LD {α : Type} {p : Nat → α → Prop} {n : Nat} (h : ∀ i, i < n → ∃ b, p i b) : ∃ xs : List α, xs.length = n ∧ ∀ i (h : i < xs.length), p i xs[i] := by
 induction n with
 | zero => exact ⟨[], rfl, fun i h => absurd h (by simp)⟩
 | succ m ih =>
  obtain ⟨xs, h1, h2⟩ := ih (fun i hi => h i (by omega))
  obtain ⟨b, h3⟩ := h m (by omega)
  refine ⟨xs ++ [b], by simp [h1], fun i hi => ?_⟩
  by_cases him : i < xs.length
  ·rw [List.getElem_append_left him]
   exact h2 i him
  ·have : i = xs.length := by simp at hi; omega
   subst this
   rw [show (xs ++ [b])[xs.length]'hi = b by simp, h1]
   exact h3
theorem JO {α : Type} {e0 : α → List SV} {t e : TypeId} {k : Nat} {fuel : Nat} {cs : List Value} {x : DataW H × List MemPlace} (ht : P.underlying t = some (.slice e)) (hc : P.cellsOf e = k) (hlen : ∀ a, (e0 a).length = k) (hk : 0 < k)
  (f : ∀ (n : Nat) (cs : List Value) (y : DataW H × List MemPlace), n < fuel → DataW.trod enc P W base sp hd n e cs = some y → ∃ a : α, AU (Ag (sto W)) cs (e0 a))
  (h : DataW.trod enc P W base sp hd fuel t cs = some x) (hs : BW = true → k < 2 := by decide) : ∃ xs : List α, AU (Ag (sto W)) cs [.list (xs.map e0)] := by
 rcases DataW.trod_slice ht h with ⟨rfl, _⟩ | ⟨a, len, cap, Cf, rest, n, hfu, rfl, _, hb, hl, hm, hlen', hel, _, _⟩
 ·exact ⟨[], .cons Km .nil⟩
 ·have key : ∀ i, i < len → ∃ (b : α), ∃ (cs' : List Value), cs'.length = k ∧ (∀ j u, cs'[j]? = some u → W.cell? ((a.add (i * k)).add j) = some u) ∧ AU (Ag (sto W)) cs' (e0 b) := fun i hi => by
   have h1 := hel i hi
   rw [List.getElem?_eq_getElem (by omega)] at h1
   obtain ⟨cs', h2, h3⟩ := Option.bind_eq_some_iff.1 h1
   obtain ⟨_, h4, h5⟩ := World.cells?_some h2
   obtain ⟨b, hb⟩ := f n cs' _ (by omega) h3
   rw [hc] at h4 h5
   refine ⟨b, cs', h4, fun j u hj => ?_, hb⟩
   rw [h5 j (by have := (List.getElem?_eq_some_iff.1 hj).1; omega)]
   exact hj
  obtain ⟨xs, hxl, hxs⟩ : ∃ xs : List α, xs.length = len ∧ ∀ i (h : i < xs.length), ∃ cs' : List Value, cs'.length = k ∧ (∀ j u, cs'[j]? = some u → W.cell? ((a.add (i * k)).add j) = some u) ∧ AU (Ag (sto W)) cs' (e0 xs[i]) := LD key
  have cell : ∀ m y j z, (xs.map e0)[m]? = some y → y[j]? = some z → ∃ v, W.cell? ⟨a.block, a.off + m * k + j, none⟩ = some v ∧ Ag (sto W) v z := fun m y j z hy hz => by
   rw [List.getElem?_map, Option.map_eq_some_iff] at hy
   obtain ⟨b, hb', rfl⟩ := hy
   obtain ⟨hm', hbe⟩ := List.getElem?_eq_some_iff.1 hb'
   obtain ⟨cs', c1, c2, c3⟩ := hxs m hm'
   rw [hbe] at c3
   obtain ⟨v, v1, v2⟩ := c3.get hz
   refine ⟨v, ?_, v2⟩
   have := c2 j v v1
   have hsp := Ia this
   rw [← this]
   congr 1
   have h7 : ((a.add (m * k)).add j).block = a.block ∧ ((a.add (m * k)).add j).off = a.off + m * k + j := by
    unfold Addr.add
    split <;> split <;> simp_all
   generalize (a.add (m * k)).add j = q at *
   cases q
   simp_all
  refine ⟨xs, .cons (.list (b := a.block) (o := a.off) (w := k) (fun m j => (W.cell? ⟨a.block, a.off + m * k + j, none⟩).getD undef) (by simp [hxl]) hl hm (by simp) (fun h0 => ?_) (fun y hy => ?_) (fun q1 q2 _ => absurd (hs q1) (by omega)) (fun m y j z hy hz => ?_) (fun m y j z hy hz => ?_)) .nil⟩
  ·obtain ⟨cs', h1, h2, h3⟩ := hxs 0 (by omega)
   have h4 : W.cell? a = some (cs'[0]'(by omega)) := by
    have := h2 0 _ (List.getElem?_eq_getElem (by omega))
    simpa [Addr.add] using this
   have := Ia h4
   cases a
   simp_all
  ·obtain ⟨b, _, rfl⟩ := List.mem_map.1 hy
   exact hlen b
  ·obtain ⟨v, v1, v2⟩ := cell m y j z hy hz
   show W.cell? _ = _
   rw [v1]; rfl
  ·obtain ⟨v, v1, v2⟩ := cell m y j z hy hz
   rw [v1]; exact v2
theorem K6 {t : TypeId} (ht : P.underlying t = some (.int .i64)) (fuel : Nat) (cs : List Value) (x : DataW H × List MemPlace) (h : DataW.trod enc P W base sp hd fuel t cs = some x) : ∃ n : Int, AU (Ag (sto W)) cs (BE n) := by
 obtain ⟨n, rfl, _, hn⟩ := DataW.trod_int ht h
 exact ⟨n, .cons (.int (by rw [Cd]; simpa [Lit.wf, IntKind.min, IntKind.max, IntKind.signed, IntKind.bits] using hn)) .nil⟩
theorem JG {t : TypeId} (ht : P.underlying t = some (.int .i64)) {r : Reach} {b0 : Nat} {v : Value} {d : DataW H} {p : List MemPlace} (hv : Value.okWide P W r b0 t v) (h : DataW.Trod enc P W base sp hd t v d p) : ∃ n : Int, AO (sto W) noS noH v (AR n) := by
 obtain ⟨n, rfl⟩ := okWide_int ht hv
 obtain ⟨fuel, hf⟩ := h
 obtain ⟨m, hm⟩ := K6 ht fuel _ _ hf
 have : AU (Ag (sto W)) [.int .i64 n] (BE m) := hm
 cases this with
 | cons h1 h2 => exact ⟨m, .one (.st h1)⟩
theorem Pi {α : Type} {e0 : α → List SV} {t e : TypeId} {k : Nat} (ht : P.underlying t = some (.slice e)) (hc : P.cellsOf e = k) (hlen : ∀ a, (e0 a).length = k) (hk : 0 < k) {r : Reach} {b0 : Nat} {v : Value} {d : DataW H} {p : List MemPlace} (hv : Value.okWide P W r b0 t v)
  (f : ∀ (n : Nat) (cs : List Value) (y : DataW H × List MemPlace), DataW.trod enc P W base sp hd n e cs = some y → ∃ a : α, AU (Ag (sto W)) cs (e0 a)) (h : DataW.Trod enc P W base sp hd t v d p) (hs : BW = true → k < 2 := by decide) : ∃ xs : List α, AO (sto W) noS noH v (.one (.st (.list (xs.map e0)))) := by
 obtain ⟨a, len, cap, rfl⟩ := okWide_slice ht hv
 obtain ⟨fuel, hf⟩ := h
 obtain ⟨xs, hxs⟩ := JO ht hc hlen hk (fun n cs y _ hy => f n cs y hy) hf hs
 have : AU (Ag (sto W)) [.slice a len cap] [.list (xs.map e0)] := hxs
 cases this with
 | cons h1 h2 => exact ⟨xs, .one (.st h1)⟩
end
theorem LQ {σ : Sto} (h : LH = [] := by rfl) : Bt σ := fun x hx => by simp [h] at hx
theorem Jy {P : Program} {f : FuncId} {xs : List AV} {b : Bool} (h : Ac P f xs (BJ b)) {σ : Sto} {w : World} {vs : List Value} (hg : Bt σ) (hf : Fit σ w) (hv : AU (AO σ noS noH) vs xs) :
  Calls P f vs.toArray w fun e w' => e = .returned (.bool b) ∧ Below w.heap.size w w' := (h σ w vs hg hf hv).mono fun e w' ⟨v, σ', he, hv, _, _, hb⟩ => by
 rw [Cb hv] at he
 exact ⟨he, hb⟩

section
variable {H : Type} {enc : TypeId × Value → H} {W : World} {sp : Nat → Bool} {hd : Bool} {base : Nat}
set_option maxRecDepth 100000 in
theorem N9 {r : Reach} {b0 : Nat} {v : Value} {d : DataW H} {p : List MemPlace} (hv : Value.okWide Try.prog W r b0 23 v) (h : DataW.Trod enc Try.prog W base sp hd 23 v d p) : ∃ l : List Int, AO (sto W) noS noH v (C3 l) :=
 Pi (k := 1) Try.underlying23 (by kernel_rfl) (fun _ => rfl) (by decide) hv (K6 Try.underlying3) h
end

end Go.Proofs.Ytkegjgodjigjfaa
namespace Go.Proofs.Ytkegjgodjigjfaa.topWithin
open Go Go.RowKit Go.ChangeShapes Go.WideShapes Go.ChangeAt
set_option linter.unusedVariables false
theorem own : ownKnob Try.prog.godebug = none := by kernel_rfl
theorem Qn : laidOutB Try.prog = true := by kernel_rfl
set_option maxRecDepth 100000 in
theorem O4 (H : Type) (enc : TypeId × Value → H) (W : World) (base : Nat) (args : Array Value) (ds gs : List (DataW H)) (before : List MemPlace)
  (hval : ∀ (j : Nat) t v, Try.f6.params[j]? = some t → args[j]? = some v → Value.okWide Try.prog W .any base t v)
  (hW : DataW.Whole enc Try.prog Try.f6.params.toList Rows.topWithinSpec.vars false W args.toList ds gs before) :
  Calls Try.prog 6 args W fun e W' => ∃ v, e = .returned v ∧ Rows.topWithinSpec.post enc Try.prog Try.f6 false true false false W args v W' := by
 obtain ⟨p, q, hA0, hV, rfl, hfz, hnd⟩ := id hW
 obtain ⟨rfl, rfl⟩ := trodVars_none hV
 have hA : DataW.TrodAll enc Try.prog W 0 (fun _ => true) true Try.f6.params.toList args.toList ds p := hA0
 rw [Try.params6] at hA hval
 obtain ⟨v0, v1, v2, v3, d0, d1, d2, d3, p0, p1, p2, p3, hargs, rfl, rfl, h0, h1, h2, h3⟩ := trodAll_four hA
 obtain rfl : args = #[v0, v1, v2, v3] := by cases args; simp_all
 obtain ⟨l, r0⟩ := N9 (hval 0 23 v0 rfl rfl) h0
 obtain ⟨m1, r1⟩ := JG Try.underlying3 (hval 1 3 v1 rfl rfl) h1
 obtain ⟨m2, r2⟩ := JG Try.underlying3 (hval 2 3 v2 rfl rfl) h2
 obtain ⟨m3, r3⟩ := JG Try.underlying3 (hval 3 3 v3 rfl rfl) h3
 have k0 := LO r0.known
 refine (Jy (Kc l m1 m2 m3 k0.2 k0.1 r1.known r2.known r3.known) LQ (P4 W) (vs := [v0, v1, v2, v3]) (.cons r0 (.cons r1 (.cons r2 (.cons r3 .nil))))).mono fun e W' ⟨he, hb⟩ => ⟨_, he, ?_⟩
 exact PG hW rfl rfl Try.underlying4 rfl rfl rfl Qn (by kernel_rfl) hb
set_option maxRecDepth 100000 in
theorem QG (os : Os) (started : os.Started) (H : Type) (enc : TypeId × Value → H) :
  ReturnsInHanded {} Try.checked os 6 .any (Rows.topWithinSpec.pre6 enc Try.prog Try.f6 Rows.topWithinRow.domain false) (Rows.topWithinSpec.post enc Try.prog Try.f6 false true false false) := by
 refine returnsInHanded_of_change (C := Try.checked) own started (by kernel_rfl) Try.func6
  (ChangeSpec.witness6 (enc := enc) (C := Try.checked) false ⟨#[], #[.slice none 0 0, .int .i64 0, .int .i64 0, .int .i64 0], []⟩ 8 (by kernel_rfl) (by kernel_rfl) (by kernel_rfl) (by kernel_rfl)) ?_
 intro W base args ds gs before hval hW _ _
 exact O4 H enc W base args ds gs before hval hW
theorem proved : Rows.TopWithinSaid :=
 OpenClaim.holds_of_wide 6 Try.f6 rfl rfl rfl rfl rfl rfl rfl ⟨rfl, rfl, rfl, rfl, rfl⟩ rfl rfl rfl rfl rfl (by kernel_rfl) Try.func6 (by kernel_rfl)
  (of_decide_eq_true (by kernel_rfl)) (by unfold Func.isWrapper; first | (rw [if_pos (by decide +kernel)]; kernel_rfl) | (rw [if_neg (by decide +kernel)]; exact ⟨rfl, rfl⟩))
  (fun os started H enc _ => QG os started H enc)

end Go.Proofs.Ytkegjgodjigjfaa.topWithin
