/-
  Proved: for all rules and terms, the terms that one step gives are, in order, those of G2: the law RewriteSays returns true. Conditions: none.
-/
import Derived.Test.YtipddfhkbkihnaaReS8
import Derived.Test.YtipddfhkbkihnaaRows
import Derived.ProofKit
import Derived.OpenShut
import Derived.JoinedCond
import Derived.Deep.Slices
namespace Go.Proofs.Ytipddfhkbkihnaa
open Go Go.RowKit
set_option linter.unusedVariables false
set_option linter.unusedSimpArgs false
set_option maxHeartbeats 800000
def hugePs (l : List Pr) : Bool := l.any (fun p => decide (3000 < p.1.size) || decide (3000 < p.2.size)) || decide (100 < l.length)
theorem hugePairs_a (l : List Pr) : ACalls Try.prog 4 [aPrs l] (aBool (hugePs l)) := by
  refine ok_L_hugePairs.ac fun C hC => ?_
  unfold ir_L_hugePairs
  refine IWP.learn 0 (by omega) fun hkn => ?_
  have hkn := known_len hkn
  rw [List.length_map] at hkn
  repeat' (first | (with_reducible first | refine W ?_ | refine Wz0 ?_) | ((with_reducible first | refine Wo (fun K hK => ?_) | refine Wp ?_ | refine Wq ?_ | refine Wr ?_); (try simp only [go_sem, fN, seval, eT, iR, dT, dF, nL]); (repeat with_reducible refine Ai ?_); (try (refine hK _ ?_; clear hK K)); (try with_reducible refine iC ?_)))
  refine IWP.loop (fun m s => ∃ k, k ≤ l.length ∧ m = l.length - k ∧ (l.take k).any (fun p => decide (3000 < p.1.size) || decide (3000 < p.2.size)) = false ∧ s.env 0 = aPrs l ∧ s.env 3 = aInt k) l.length ⟨0, Nat.zero_le _, rfl, rfl, rfl, rfl⟩ ?_
  rintro m ⟨env, S⟩ ⟨k, hk, rfl, h0, e0, e3⟩
  simp only at e0 e3
  by_cases hlt : (k : Int) < l.length
  · obtain ⟨p, hp⟩ := get_lt (show k < l.length by omega)
    repeat' (first | (with_reducible first | refine W ?_ | refine Wz0 ?_) | ((with_reducible first | refine Wo (fun K hK => ?_) | refine Wp ?_ | refine Wq ?_ | refine Wr ?_); (try simp only [go_sem, fN, seval, eT, iR, e0, e3, hlt, hp, encP, dT, dF, nL]); (repeat with_reducible refine Ai ?_); (try (refine hK _ ?_; clear hK K)); (try with_reducible refine iC ?_)))
    refine ⟨_, huge_a p.1, ?_⟩
    by_cases hz : 3000 < p.1.size
    · repeat' (first | (with_reducible first | refine W ?_ | refine Wz0 ?_) | ((with_reducible first | refine Wo (fun K hK => ?_) | refine Wp ?_ | refine Wq ?_ | refine Wr ?_); (try simp only [go_sem, fN, seval, eT, iR, hz, dT, dF, nL]); (repeat with_reducible refine Ai ?_); (try (refine hK _ ?_; clear hK K)); (try with_reducible refine iC ?_)))
      simp only [go_sem, fN, seval, FinQ, AS.result, resAll, resOne, tupV]
      have : l.any (fun p => decide (3000 < p.1.size) || decide (3000 < p.2.size)) = true := List.any_eq_true.2 ⟨p, mem_of_get hp, by simp [hz]⟩
      unfold hugePs
      rw [this]
      rfl
    · repeat' (first | (with_reducible first | refine W ?_ | refine Wz0 ?_) | ((with_reducible first | refine Wo (fun K hK => ?_) | refine Wp ?_ | refine Wq ?_ | refine Wr ?_); (try simp only [go_sem, fN, seval, eT, iR, hz, e0, e3, hp, encP, dT, dF, nL]); (repeat with_reducible refine Ai ?_); (try (refine hK _ ?_; clear hK K)); (try with_reducible refine iC ?_)))
      refine ⟨_, huge_a p.2, ?_⟩
      by_cases hy : 3000 < p.2.size
      · repeat' (first | (with_reducible first | refine W ?_ | refine Wz0 ?_) | ((with_reducible first | refine Wo (fun K hK => ?_) | refine Wp ?_ | refine Wq ?_ | refine Wr ?_); (try simp only [go_sem, fN, seval, eT, iR, hy, dT, dF, nL]); (repeat with_reducible refine Ai ?_); (try (refine hK _ ?_; clear hK K)); (try with_reducible refine iC ?_)))
        simp only [go_sem, fN, seval, FinQ, AS.result, resAll, resOne, tupV]
        have : l.any (fun p => decide (3000 < p.1.size) || decide (3000 < p.2.size)) = true := List.any_eq_true.2 ⟨p, mem_of_get hp, by simp [hy]⟩
        unfold hugePs
        rw [this]
        rfl
      · repeat' (first | (with_reducible first | refine W ?_ | refine Wz0 ?_) | ((with_reducible first | refine Wo (fun K hK => ?_) | refine Wp ?_ | refine Wq ?_ | refine Wr ?_); (try simp only [go_sem, fN, seval, eT, iR, hy, e0, e3, dT, dF, nL]); (repeat with_reducible refine Ai ?_); (try (refine hK _ ?_; clear hK K)); (try with_reducible refine iC ?_)))
        refine then_normal ⟨l.length - (k + 1), by omega, k + 1, by omega, rfl, ?_, ?_⟩
        · rw [take_snoc hp, List.any_append, h0]
          simp [hz, hy]
        · simp only [go_sem, fN, seval, eT, iR, e0, e3]
          congr 3
  · repeat' (first | (with_reducible first | refine W ?_ | refine Wz0 ?_) | ((with_reducible first | refine Wo (fun K hK => ?_) | refine Wp ?_ | refine Wq ?_ | refine Wr ?_); (try simp only [go_sem, fN, seval, eT, iR, e0, e3, hlt, dT, dF, nL]); (repeat with_reducible refine Ai ?_); (try (refine hK _ ?_; clear hK K)); (try with_reducible refine iC ?_)))
    simp only [go_sem, fN, seval, FinQ, AS.result, resAll, resOne, tupV]
    rw [List.take_of_length_le (by omega)] at h0
    unfold hugePs
    rw [h0, Bool.false_or]
    congr 4
    simp
    omega

set_option maxHeartbeats 1000000
def stepsO (R : List Pr) (t : Tm) : List Tm × Int := match stepsT R t with
  | none => ([], 8)
  | some l => (l, 0)
def stepsOf (R : List Pr) (t : Tm) : List Tm × Int := if argsR R t = 0 then stepsO R t else ([], argsR R t)
theorem stepsV_eq (R : List Pr) (t : Tm) : stepsV (stepsT R t) = .tup [aTms (stepsO R t).1, aInt (stepsO R t).2] := by
  unfold stepsO stepsV
  cases stepsT R t <;> rfl
theorem stepsP_a (R : List Pr) (t : Tm) : ACalls Try.prog 9 [aPrs R, aTm t] (.tup [aTms (stepsOf R t).1, aInt (stepsOf R t).2]) := by
  unfold stepsOf
  refine ok_rewrite_Steps.ac fun C hC => ?_
  unfold ir_rewrite_Steps
  by_cases ha : argsR R t = 0
  · rw [if_pos ha]
    obtain ⟨hR, hc, hz⟩ := args_good ha
    have hon := once_a hR t hc hz
    rw [stepsV_eq] at hon
    repeat' (first | (with_reducible first | refine W ?_ | refine Wz0 ?_) | refine Cg _ (rewArgs_a R t) ?_ | refine Cg _ (hon) ?_ | ((with_reducible first | refine Wo (fun K hK => ?_) | refine Wp ?_ | refine Wq ?_ | refine Wr ?_); (try simp only [go_sem, fN, seval, eT, iR, ha, dT, dF, nL]); (repeat with_reducible refine Ai ?_); (try (refine hK _ ?_; clear hK K)); (try with_reducible refine iC ?_)))
    simp only [go_sem, fN, seval, FinQ, AS.result, resAll, resOne, tupV]
  · rw [if_neg ha]
    repeat' (first | (with_reducible first | refine W ?_ | refine Wz0 ?_) | refine Cg _ (rewArgs_a R t) ?_ | ((with_reducible first | refine Wo (fun K hK => ?_) | refine Wp ?_ | refine Wq ?_ | refine Wr ?_); (try simp only [go_sem, fN, seval, eT, iR, ha, dT, dF, nL]); (repeat with_reducible refine Ai ?_); (try (refine hK _ ?_; clear hK K)); (try with_reducible refine iC ?_)))
    simp only [go_sem, fN, seval, FinQ, AS.result, resAll, resOne, tupV]
    rfl
theorem stepsR_a {R : List Pr} (hR : GoodRules R) (t : Tm) (hc : t.chk = 0) (hz : t.size ≤ 200) : ACalls Try.prog 8 [aPrs R, aTm t] (stepsV (stepsT R t)) := by
  have h40 := hR.len
  have hpl := Tm.places_length t
  unfold stepsT
  refine ok_R_StepsOf.ac fun C hC => ?_
  unfold ir_R_StepsOf
  repeat' (first | (with_reducible first | refine W ?_ | refine Wz0 ?_) | refine Cg _ (placesN_a t (by omega)) ?_ | ((with_reducible first | refine Wo (fun K hK => ?_) | refine Wp ?_ | refine Wq ?_ | refine Wr ?_); (try simp only [go_sem, fN, seval, eT, iR, dT, dF, nL]); (repeat with_reducible refine Ai ?_); (try (refine hK _ ?_; clear hK K)); (try with_reducible refine iC ?_)))
  refine IWP.ghost (Ghost.own 7 500 25 2 (xs := []) rfl rfl (by simp) (by omega)) ?_
  refine IWP.loopD [9, 12] (fun m s => ∃ i out, i ≤ t.places.length ∧ m = t.places.length - i ∧ stepsL R ((t.places.take i).map (spotP [] t)) = some out ∧ s.env 0 = aPrs R ∧ s.env 3 = .one (.ptr 3 1 0 0) ∧ s.env 6 = aIss t.places ∧ s.env 7 = .one (.row 500 out.length) ∧ s.env 8 = aInt i ∧ s.S 3 = some (boxTt t) ∧ s.S 9 = none ∧ s.S 12 = none ∧ s.S 500 = some (.arow 25 2 (out.map encT))) t.places.length ⟨0, [], Nat.zero_le _, rfl, rfl, rfl, rfl, rfl, rfl, rfl, rfl, rfl, rfl, rfl⟩ ?_
  rintro m ⟨env, S⟩ ⟨i, out, hi, rfl, ho, e0, e3, e6, e7, e8, s3, s9, s12, s500⟩
  simp only at e0 e3 e6 e7 e8 s3 s9 s12 s500
  by_cases hlt : i < t.places.length
  case neg =>
    rw [List.take_of_length_le (by omega)] at ho
    rw [ho]
    have hlt' : ¬ (i : Int) < t.places.length := by omega
    have hl : (out.map encT).length = out.length := by simp
    unfold stepsV
    repeat' (first | (with_reducible first | refine W ?_ | refine Wz0 ?_) | ((with_reducible first | refine Wo (fun K hK => ?_) | refine Wp ?_ | refine Wq ?_ | refine Wr ?_); (try simp only [go_sem, fN, seval, eT, iR, e0, e3, e6, e7, e8, s3, s9, s12, s500, hlt', dT, dF, nL]); (repeat with_reducible refine Ai ?_); (try (refine hK _ ?_; clear hK K)); (try with_reducible refine iC ?_)))
    simp only [go_sem, fN, seval, FinQ, AS.result, resAll, resOne, tupV, s500, hl]
  obtain ⟨p, hp⟩ := get_lt hlt
  have hlt' : (i : Int) < t.places.length := by omega
  obtain ⟨x, hx, hxk⟩ := places_at t p (mem_of_get hp)
  have hxz := knot_size t x hxk
  have hat := atOf_a p t
  rw [hx] at hat
  have hlen := stepsL_len ho
  rw [List.length_map, List.length_take] at hlen
  have hlen2 : out.length ≤ 8000 := Nat.le_trans hlen (Nat.mul_le_mul (show min i t.places.length ≤ 200 by omega) h40)
  obtain ⟨q, hq⟩ : ∃ q, spotP [] t p = q := ⟨_, rfl⟩
  have q1 : ∀ y, q.1 y = t.putP p y := fun y => by rw [← hq]; rfl
  have q2 : q.2 = x := by rw [← hq]; show (t.atP p).getD Tm.nil = x; rw [hx]; rfl
  have hnext : ∀ o, offsR q R = some o → stepsL R ((t.places.take (i + 1)).map (spotP [] t)) = some (out ++ o) := fun o h => by
    rw [take_snoc hp, List.map_append]
    exact stepsL_snoc ho (by rw [hq]; exact h)
  have hbad : offsR q R = none → stepsL R (t.places.map (spotP [] t)) = none := fun h => by
    have e : t.places = t.places.take i ++ p :: t.places.drop (i + 1) := by rw [← drop_get hp, List.take_append_drop]
    rw [e, List.map_append, List.map_cons]
    exact stepsL_bad (by rw [hq]; exact h)
  repeat' (first | (with_reducible first | refine W ?_ | refine Wz0 ?_) | refine Cg _ (hat) ?_ | ((with_reducible first | refine Wo (fun K hK => ?_) | refine Wp ?_ | refine Wq ?_ | refine Wr ?_); (try simp only [go_sem, fN, seval, eT, iR, e0, e3, e6, e7, e8, s3, s9, s12, s500, hlt', hp, dT, dF, nL]); (repeat with_reducible refine Ai ?_); (try (refine hK _ ?_; clear hK K)); (try with_reducible refine iC ?_)))
  refine IWP.loopD [12] (fun m s => ∃ k o2, k ≤ R.length ∧ o2.length ≤ k ∧ m = R.length - k ∧ offsR q R = (offsR q (R.drop k)).map (o2 ++ ·) ∧ s.env 0 = aPrs R ∧ s.env 3 = .one (.ptr 3 1 0 0) ∧ s.env 6 = aIss t.places ∧ s.env 7 = .one (.row 500 (out ++ o2).length) ∧ s.env 8 = aInt i ∧ s.env 9 = .one (.ptr 9 1 0 0) ∧ s.env 11 = aInt k ∧ s.S 3 = some (boxTt t) ∧ s.S 9 = some (boxTt x) ∧ s.S 12 = none ∧ s.S 500 = some (.arow 25 2 ((out ++ o2).map encT))) R.length ⟨0, [], Nat.zero_le _, Nat.zero_le _, rfl, by simp, ?_⟩ ?_
  · simp only [go_sem, fN, seval, eT, iR, e0, e3, e6, e7, e8, s3, s9, s12, s500, List.append_nil]
  rintro m ⟨env, S⟩ ⟨k, o2, hk, hko, rfl, hoff, e0, e3, e6, e7, e8, e9, e11, s3, s9, s12, s500⟩
  simp only at e0 e3 e6 e7 e8 e9 e11 s3 s9 s12 s500
  by_cases hkl : k < R.length
  case neg =>
    have hkl' : ¬ (k : Int) < R.length := by omega
    rw [List.drop_of_length_le (by omega)] at hoff
    simp only [offsR, Option.map_some, List.append_nil] at hoff
    repeat' (first | (with_reducible first | refine W ?_ | refine Wz0 ?_) | ((with_reducible first | refine Wo (fun K hK => ?_) | refine Wp ?_ | refine Wq ?_ | refine Wr ?_); (try simp only [go_sem, fN, seval, eT, iR, e0, e3, e6, e7, e8, e9, e11, s3, s9, s12, s500, hkl', dT, dF, nL]); (repeat with_reducible refine Ai ?_); (try (refine hK _ ?_; clear hK K)); (try with_reducible refine iC ?_)))
    refine then_normal ⟨t.places.length - (i + 1), by omega, i + 1, out ++ o2, by omega, rfl, hnext _ hoff, ?_⟩
    simp only [go_sem, fN, seval, AS.drop, dropS, AC.clears, AC.clear, AC.highs, AC.high, Bool.not_false, Bool.true_and, Bool.and_self, AV.purge, AV.purges, AC.purge, ABlk.purge, List.contains_cons, List.contains_nil, Nat.reduceBEq, Bool.or_self, Bool.or_false, Bool.false_or, Bool.or_true, eT, iR, e0, e3, e6, e7, e8, e9, e11, s3, s9, s12, s500]
    congr 3
  obtain ⟨r, hr⟩ := get_lt hkl
  have hkl' : (k : Int) < R.length := by omega
  have hmem := mem_of_get hr
  have z1 := (Tm.may_chk (hR.left r hmem)).2
  have z2 := (Tm.may_chk (hR.right r hmem)).2
  have hfits := fits_a r x (by omega) (by omega) (by omega)
  unfold fitsV at hfits
  rw [drop_get hr, offsR, q2] at hoff
  by_cases hcase : isCase r.1 x = true
  case neg =>
    rw [if_neg hcase] at hoff hfits
    repeat' (first | (with_reducible first | refine W ?_ | refine Wz0 ?_) | refine Cg _ (hfits) ?_ | ((with_reducible first | refine Wo (fun K hK => ?_) | refine Wp ?_ | refine Wq ?_ | refine Wr ?_); (try simp only [go_sem, fN, seval, eT, iR, e0, e3, e6, e7, e8, e9, e11, s3, s9, s12, s500, hkl', hr, encP, dT, dF, nL]); (repeat with_reducible refine Ai ?_); (try (refine hK _ ?_; clear hK K)); (try with_reducible refine iC ?_)))
    refine then_normal ⟨R.length - (k + 1), by omega, k + 1, o2, by omega, by omega, rfl, hoff, ?_⟩
    simp only [go_sem, fN, seval, AS.drop, dropS, AC.clears, AC.clear, AC.highs, AC.high, Bool.not_false, Bool.true_and, Bool.and_self, AV.purge, AV.purges, AC.purge, ABlk.purge, List.contains_cons, List.contains_nil, Nat.reduceBEq, Bool.or_self, Bool.or_false, Bool.false_or, Bool.or_true, eT, iR, e0, e3, e6, e7, e8, e9, e11, s3, s9, s12, s500]
    congr 3
  rw [if_pos hcase] at hoff hfits
  have hyz : (onTo (caseOf r.1 x) r.2).1.size ≤ 2000 := onTo_size
  generalize onTo (caseOf r.1 x) r.2 = yg at hoff hfits hyz
  obtain ⟨y, g⟩ := yg
  simp only [q1] at hoff
  by_cases hg : g = true
  case neg =>
    rw [if_neg (fun h => hg h.1), Option.map_none] at hoff
    simp only [Bool.not_eq_true] at hg
    rw [hg] at hfits
    rw [hbad hoff]
    unfold stepsV
    repeat' (first | (with_reducible first | refine W ?_ | refine Wz0 ?_) | refine Cg _ (hfits) ?_ | ((with_reducible first | refine Wo (fun K hK => ?_) | refine Wp ?_ | refine Wq ?_ | refine Wr ?_); (try simp only [go_sem, fN, seval, eT, iR, e0, e3, e6, e7, e8, e9, e11, s3, s9, s12, s500, hkl', hr, encP, dT, dF, nL]); (repeat with_reducible refine Ai ?_); (try (refine hK _ ?_; clear hK K)); (try with_reducible refine iC ?_)))
    simp only [go_sem, fN, seval, FinQ, AS.result, resAll, resOne, tupV]
    rfl
  subst hg
  have hput := putOf_a p t (by omega) y (by rw [hx]; rfl)
  have hsz := sizeR_a (t.putP p y) 2000 (by omega) (by omega)
  have hpz := putP_size p t y
  by_cases hgr : (t.putP p y).size ≤ 2000
  case neg =>
    have hgi : (2000 : Int) < capTo (t.putP p y).size 2000 := by unfold capTo; split <;> omega
    rw [if_neg (fun h => hgr h.2), Option.map_none] at hoff
    rw [hbad hoff]
    unfold stepsV
    repeat' (first | (with_reducible first | refine W ?_ | refine Wz0 ?_) | refine Cg _ (hfits) ?_ | refine Cg _ (hput) ?_ | refine Cg _ (hsz) ?_ | ((with_reducible first | refine Wo (fun K hK => ?_) | refine Wp ?_ | refine Wq ?_ | refine Wr ?_); (try simp only [go_sem, fN, seval, eT, iR, e0, e3, e6, e7, e8, e9, e11, s3, s9, s12, s500, hkl', hr, encP, hgi, hp, dT, dF, nL]); (repeat with_reducible refine Ai ?_); (try (refine hK _ ?_; clear hK K)); (try with_reducible refine iC ?_)))
    simp only [go_sem, fN, seval, FinQ, AS.result, resAll, resOne, tupV]
    rfl
  have hgi : ¬ (2000 : Int) < capTo (t.putP p y).size 2000 := by unfold capTo; split <;> omega
  rw [if_pos ⟨rfl, hgr⟩, Option.map_map] at hoff
  have hl2 : ((out ++ o2).map encT).length = (out ++ o2).length := by simp
  repeat' (first | (with_reducible first | refine W ?_ | refine Wz0 ?_) | refine Cg _ (hfits) ?_ | refine Cg _ (hput) ?_ | refine Cg _ (hsz) ?_ | ((with_reducible first | refine Wo (fun K hK => ?_) | refine Wp ?_ | refine Wq ?_ | refine Wr ?_); (try simp only [go_sem, fN, seval, eT, iR, e0, e3, e6, e7, e8, e9, e11, s3, s9, s12, s500, hkl', hr, encP, hgi, hp, hl2, dT, dF, nL]); (repeat with_reducible refine Ai ?_); (try (refine hK _ ?_; clear hK K)); (try with_reducible refine iC ?_)))
  refine then_normal ⟨R.length - (k + 1), by omega, k + 1, o2 ++ [t.putP p y], by omega, by simp only [List.length_append, List.length_singleton]; omega, rfl, ?_, ?_⟩
  · rw [hoff]
    congr 1
    funext l
    simp
  · simp only [go_sem, fN, seval, AS.drop, dropS, AC.clears, AC.clear, AC.highs, AC.high, Bool.not_false, Bool.true_and, Bool.and_self, AV.purge, AV.purges, AC.purge, ABlk.purge, List.contains_cons, List.contains_nil, Nat.reduceBEq, Bool.or_self, Bool.or_false, Bool.false_or, Bool.or_true, eT, iR, e0, e3, e6, e7, e8, e9, e11, s3, s9, s12, s500]
    refine ⟨by rw [Nat.add_assoc], by congr 3, ?_⟩
    congr 1
    simp [encT_eq]
theorem rewriteSays_a (R : List Pr) (t : Tm) : ACalls Try.prog 3 [aPrs R, aTm t] (aBool true) := by
  have cP := stepsP_a R t
  by_cases g1 : hugePs R = true
  · refine ok_L_RewriteSays.ac fun C hC => ?_
    unfold ir_L_RewriteSays
    repeat' (first | (with_reducible first | refine W ?_ | refine Wz0 ?_) | refine Cg _ (hugePairs_a R) ?_ | ((with_reducible first | refine Wo (fun K hK => ?_) | refine Wp ?_ | refine Wq ?_ | refine Wr ?_); (try simp only [go_sem, fN, seval, eT, iR, g1, dT, dF, nL]); (repeat with_reducible refine Ai ?_); (try (refine hK _ ?_; clear hK K)); (try with_reducible refine iC ?_)))
    simp only [go_sem, fN, seval, FinQ, AS.result, resAll, resOne, tupV]
  by_cases g2 : 3000 < t.size
  · refine ok_L_RewriteSays.ac fun C hC => ?_
    unfold ir_L_RewriteSays
    repeat' (first | (with_reducible first | refine W ?_ | refine Wz0 ?_) | refine Cg _ (hugePairs_a R) ?_ | refine Cg _ (huge_a t) ?_ | ((with_reducible first | refine Wo (fun K hK => ?_) | refine Wp ?_ | refine Wq ?_ | refine Wr ?_); (try simp only [go_sem, fN, seval, eT, iR, g1, g2, dT, dF, nL]); (repeat with_reducible refine Ai ?_); (try (refine hK _ ?_; clear hK K)); (try with_reducible refine iC ?_)))
    simp only [go_sem, fN, seval, FinQ, AS.result, resAll, resOne, tupV]
  by_cases h0 : rulesMay R = 0
  case neg =>
    have ha : argsR R t = rulesMay R := if_neg h0
    have hP : stepsOf R t = ([], rulesMay R) := by unfold stepsOf; rw [ha, if_neg h0]
    rw [hP] at cP
    dsimp only at cP
    refine ok_L_RewriteSays.ac fun C hC => ?_
    unfold ir_L_RewriteSays
    repeat' (first | (with_reducible first | refine W ?_ | refine Wz0 ?_) | refine Cg _ (hugePairs_a R) ?_ | refine Cg _ (huge_a t) ?_ | refine Cg _ (rulesMayR_a R) ?_ | refine Cg _ (cP) ?_ | refine Cg _ (rewCheck_a R) ?_ | ((with_reducible first | refine Wo (fun K hK => ?_) | refine Wp ?_ | refine Wq ?_ | refine Wr ?_); (try simp only [go_sem, fN, seval, eT, iR, g1, g2, h0, dT, dF, nL]); (repeat with_reducible refine Ai ?_); (try (refine hK _ ?_; clear hK K)); (try with_reducible refine iC ?_)))
    simp only [go_sem, fN, seval, FinQ, AS.result, resAll, resOne, tupV]
  case pos =>
  have ha : argsR R t = t.may := if_pos h0
  by_cases h1 : t.may = 0
  case neg =>
    have hP : stepsOf R t = ([], t.may) := by unfold stepsOf; rw [ha, if_neg h1]
    rw [hP] at cP
    dsimp only at cP
    refine ok_L_RewriteSays.ac fun C hC => ?_
    unfold ir_L_RewriteSays
    repeat' (first | (with_reducible first | refine W ?_ | refine Wz0 ?_) | refine Cg _ (hugePairs_a R) ?_ | refine Cg _ (huge_a t) ?_ | refine Cg _ (rulesMayR_a R) ?_ | refine Cg _ (termMay_a t) ?_ | refine Cg _ (cP) ?_ | refine Cg _ (rewCheck_a R) ?_ | ((with_reducible first | refine Wo (fun K hK => ?_) | refine Wp ?_ | refine Wq ?_ | refine Wr ?_); (try simp only [go_sem, fN, seval, eT, iR, g1, g2, h0, h1, dT, dF, nL]); (repeat with_reducible refine Ai ?_); (try (refine hK _ ?_; clear hK K)); (try with_reducible refine iC ?_)))
    simp only [go_sem, fN, seval, FinQ, AS.result, resAll, resOne, tupV]
  case pos =>
  obtain ⟨hc, hz⟩ := Tm.may_chk h1
  have hR := goodRules h0
  have cR := stepsR_a hR t hc hz
  have hP : stepsOf R t = stepsO R t := by unfold stepsOf; rw [ha, if_pos h1]
  rw [hP] at cP
  have h40 := hR.len
  cases hs : stepsT R t with
  | none =>
    have hO : stepsO R t = ([], 8) := by unfold stepsO; rw [hs]
    rw [hO] at cP
    rw [hs] at cR
    unfold stepsV at cR
    dsimp only at cP cR
    refine ok_L_RewriteSays.ac fun C hC => ?_
    unfold ir_L_RewriteSays
    repeat' (first | (with_reducible first | refine W ?_ | refine Wz0 ?_) | refine Cg _ (hugePairs_a R) ?_ | refine Cg _ (huge_a t) ?_ | refine Cg _ (rulesMayR_a R) ?_ | refine Cg _ (termMay_a t) ?_ | refine Cg _ (cR) ?_ | refine Cg _ (cP) ?_ | refine Cg _ (rewCheck_a R) ?_ | ((with_reducible first | refine Wo (fun K hK => ?_) | refine Wp ?_ | refine Wq ?_ | refine Wr ?_); (try simp only [go_sem, fN, seval, eT, iR, g1, g2, h0, h1, dT, dF, nL]); (repeat with_reducible refine Ai ?_); (try (refine hK _ ?_; clear hK K)); (try with_reducible refine iC ?_)))
    simp only [go_sem, fN, seval, FinQ, AS.result, resAll, resOne, tupV]
  | some l =>
    have hO : stepsO R t = (l, 0) := by unfold stepsO; rw [hs]
    rw [hO] at cP
    rw [hs] at cR
    unfold stepsV at cR
    dsimp only at cP cR
    have hl := stepsL_len hs
    rw [List.length_map, Tm.places_length] at hl
    have hl2 : l.length ≤ 8000 := Nat.le_trans hl (Nat.mul_le_mul hz h40)
    clear cP hP
    have cP := stepsP_a R t
    rw [show stepsOf R t = (l, 0) by unfold stepsOf; rw [ha, if_pos h1]; exact hO] at cP
    dsimp only at cP
    refine ok_L_RewriteSays.ac fun C hC => ?_
    unfold ir_L_RewriteSays
    repeat' (first | (with_reducible first | refine W ?_ | refine Wz0 ?_) | refine Cg _ (hugePairs_a R) ?_ | refine Cg _ (huge_a t) ?_ | refine Cg _ (rulesMayR_a R) ?_ | refine Cg _ (termMay_a t) ?_ | refine Cg _ (cR) ?_ | refine Cg _ (cP) ?_ | refine Cg _ (rewCheck_a R) ?_ | ((with_reducible first | refine Wo (fun K hK => ?_) | refine Wp ?_ | refine Wq ?_ | refine Wr ?_); (try simp only [go_sem, fN, seval, eT, iR, g1, g2, h0, h1, dT, dF, nL]); (repeat with_reducible refine Ai ?_); (try (refine hK _ ?_; clear hK K)); (try with_reducible refine iC ?_)))
    refine IWP.loop (fun m s => ∃ k, k ≤ l.length ∧ m = l.length - k ∧ s.env 7 = aTms l ∧ s.env 8 = aTms l ∧ s.env 10 = aInt k) l.length ⟨0, Nat.zero_le _, rfl, rfl, rfl, rfl⟩ ?_
    rintro m ⟨env, S⟩ ⟨k, hk, rfl, e7, e8, e10⟩
    simp only at e7 e8 e10
    by_cases hkl : (k : Int) < l.length
    · obtain ⟨x, hx⟩ := get_lt (show k < l.length by omega)
      have hsm := sameR_a x x
      rw [Tm.beq_refl] at hsm
      repeat' (first | (with_reducible first | refine W ?_ | refine Wz0 ?_) | refine Cg _ (hsm) ?_ | ((with_reducible first | refine Wo (fun K hK => ?_) | refine Wp ?_ | refine Wq ?_ | refine Wr ?_); (try simp only [go_sem, fN, seval, eT, iR, e7, e8, e10, hkl, hx, dT, dF, nL]); (repeat with_reducible refine Ai ?_); (try (refine hK _ ?_; clear hK K)); (try with_reducible refine iC ?_)))
      refine then_normal ⟨l.length - (k + 1), by omega, k + 1, by omega, rfl, ?_⟩
      simp only [go_sem, fN, seval, eT, iR, e7, e8, e10]
      congr 3
    · repeat' (first | (with_reducible first | refine W ?_ | refine Wz0 ?_) | ((with_reducible first | refine Wo (fun K hK => ?_) | refine Wp ?_ | refine Wq ?_ | refine Wr ?_); (try simp only [go_sem, fN, seval, eT, iR, e7, e8, e10, hkl, dT, dF, nL]); (repeat with_reducible refine Ai ?_); (try (refine hK _ ?_; clear hK K)); (try with_reducible refine iC ?_)))
      simp only [go_sem, fN, seval, FinQ, AS.result, resAll, resOne, tupV]

open Go.ChangeShapes Go.WideShapes Go.ChangeAt
section
variable {H : Type} {enc : TypeId × Value → H} {P : Program}
theorem trodAll_stays (hl : laidOutB P = true) : ∀ {ts : List TypeId} {vs : List Value} {ds : List (DataW H)} {ps : List MemPlace} {W W' : World} {sp : Nat → Bool},
    (∀ t ∈ ts, P.readableRec t = true ∧ t < P.types.size) → DataW.TrodAll enc P W 0 (fun _ => true) true ts vs ds ps → (∀ p ∈ ps, W.sameAt W' p) → (∀ p ∈ ps, sp p.block = true) → DataW.TrodAll enc P W' 0 sp true ts vs ds ps
  | [], [], [], _, _, _, _, _, h, _, _ => h
  | _ :: _, _ :: _, _ :: _, _, _, _, _, hT, ⟨p, q, h1, h2, e⟩, hsame, hs => ⟨p, q, WideElems.Trod_stays hl (hT _ (List.mem_cons.2 (Or.inl rfl))).1 (hT _ (List.mem_cons.2 (Or.inl rfl))).2 h1 (fun x hx => hsame x (by rw [e]; exact List.mem_append_left _ hx)) (fun x hx => hs x (by rw [e]; exact List.mem_append_left _ hx)),
      trodAll_stays hl (fun t ht => hT t (List.mem_cons.2 (Or.inr ht))) h2 (fun x hx => hsame x (by rw [e]; exact List.mem_append_right _ hx)) (fun x hx => hs x (by rw [e]; exact List.mem_append_right _ hx)), e⟩
  | [], _ :: _, _, _, _, _, _, _, h, _, _ => h.elim
  | [], [], _ :: _, _, _, _, _, _, h, _, _ => h.elim
  | _ :: _, [], _, _, _, _, _, _, h, _, _ => h.elim
  | _ :: _, _ :: _, [], _, _, _, _, _, h, _, _ => h.elim
theorem law_post {f : Func} {s : ChangeSpec} {apart fresh handsOn : Bool} {W W' : World} {args : Array Value} {ds : List (DataW H)} {before : List MemPlace} {tb : TypeId}
    (hW : DataW.Whole enc P f.params.toList s.vars apart W args.toList ds [] before) (hv : s.vars = []) (hr : f.resultTypes = #[tb]) (htb : P.underlying tb = some .bool)
    (hres : (s.fn H (ds ++ [])).results = [.lit (.bool true)]) (hargs : (s.fn H (ds ++ [])).args = ds) (hvs : (s.fn H (ds ++ [])).vars = [])
    (hl : laidOutB P = true) (hT : (f.params.toList.all fun t => P.readableRec t && decide (t < P.types.size)) = true) (hb : Below W.heap.size W W') :
    s.post enc P f apart fresh handsOn false W args (.bool true) W' := by
  have hlt : ∀ p ∈ before, p.block < W.heap.size := fun p hp => hW.lt p hp
  have hT' : ∀ t ∈ f.params.toList, P.readableRec t = true ∧ t < P.types.size := fun t ht => by
    have := List.all_eq_true.1 hT t ht
    simpa using this
  obtain ⟨p, q, hA, hV, rfl, hz, hn⟩ := hW
  rw [hv] at hV
  obtain ⟨_, rfl⟩ := trodVars_none hV
  have hargs' : ∀ sp : Nat → Bool, (∀ x ∈ p, sp x.block = true) → DataW.TrodAll enc P W' 0 sp true f.params.toList args.toList ds p := fun sp hsp =>
    trodAll_stays hl hT' hA (fun x hx => hb.same (hlt x (by simpa using hx))) hsp
  have hres' : ∀ (b : Nat) (sp : Nat → Bool) (hd : Bool), DataW.TrodAll enc P W' b sp hd f.resultTypes.toList ((Value.bool true).resultList f.resultTypes.size) (s.fn H (ds ++ [])).results [] := fun b sp hd => by
    rw [hres, hr]
    exact trodAll_cons_mk (shut_bool htb true) trodAll_mk0
  refine ⟨ds, [], p ++ [], [], p, [], ⟨p, [], hA, by rw [hv]; exact rfl, rfl, hz, hn⟩, hres' _ _ _, by rw [hargs]; exact hargs' _ (fun x hx => by simpa using hlt x (by simpa using hx)), by rw [hv, hvs]; exact rfl,
    World.keptBut_mono (fun x hx => ⟨hx, Or.inr (by simpa using hx)⟩) (hb.frame (· ∈ p ++ [])), fun h => by cases h⟩
variable {W : World} {sp : Nat → Bool} {hd : Bool} {base : Nat}
def sto (W : World) : Sto := look W
theorem fit_sto (W : World) : Fit (sto W) W := fun _ _ h => h
theorem spot_none {W : World} {a : Addr} {v : Value} (h : W.cell? a = some v) : a.spot = none := by
  cases hs : a.spot with
  | none => rfl
  | some n =>
    unfold World.cell? at h
    split at h
    · simp [hs] at h
    · cases h
theorem choose_list {α : Type} {p : Nat → α → Prop} {n : Nat} (h : ∀ i, i < n → ∃ b, p i b) : ∃ xs : List α, xs.length = n ∧ ∀ i (h : i < xs.length), p i xs[i] := by
  induction n with
  | zero => exact ⟨[], rfl, fun i h => absurd h (by simp)⟩
  | succ m ih =>
    obtain ⟨xs, h1, h2⟩ := ih (fun i hi => h i (by omega))
    obtain ⟨b, h3⟩ := h m (by omega)
    refine ⟨xs ++ [b], by simp [h1], fun i hi => ?_⟩
    by_cases him : i < xs.length
    · rw [List.getElem_append_left him]
      exact h2 i him
    · have : i = xs.length := by simp at hi; omega
      subst this
      rw [show (xs ++ [b])[xs.length]'hi = b by simp, h1]
      exact h3
theorem trod_two {t : TypeId} {f0 f1 : Field} {k0 k1 : Nat} {fuel : Nat} {cs : List Value} {x : DataW H × List MemPlace} (hs : P.underlying t = some (.struct #[f0, f1])) (o0 : f0.offset = 0) (o1 : f1.offset = k0)
    (h0 : P.cellsOf f0.type = k0) (h1 : P.cellsOf f1.type = k1) (hC : P.cellsOf t = k0 + k1) (h : DataW.trod enc P W base sp hd fuel t cs = some x) :
    ∃ (a b : List Value) (y0 y1 : DataW H × List MemPlace) (n : Nat), fuel = n + 1 ∧ cs = a ++ b ∧ DataW.trod enc P W base sp hd n f0.type a = some y0 ∧ DataW.trod enc P W base sp hd n f1.type b = some y1 := by
  obtain ⟨ys, n, hn, _, hlen, hyl, hf⟩ := DataW.trod_struct hs h
  match ys, hyl with
  | [y0, y1], _ =>
  have g0 := hf 0 f0 rfl
  have g1 := hf 1 f1 rfl
  rw [o0, h0, List.drop_zero] at g0
  rw [o1, h1, List.take_of_length_le (by rw [List.length_drop]; omega)] at g1
  exact ⟨_, _, y0, y1, n, hn, (List.take_append_drop k0 cs).symm, g0, g1⟩
theorem list_of_trod {α : Type} {e0 : α → List SV} {t e : TypeId} {k : Nat} {fuel : Nat} {cs : List Value} {x : DataW H × List MemPlace} (ht : P.underlying t = some (.slice e)) (hc : P.cellsOf e = k) (hlen : ∀ a, (e0 a).length = k) (hk : 0 < k)
    (f : ∀ (n : Nat) (cs : List Value) (y : DataW H × List MemPlace), n < fuel → DataW.trod enc P W base sp hd n e cs = some y → ∃ a : α, All2 (SRep (sto W)) cs (e0 a))
    (h : DataW.trod enc P W base sp hd fuel t cs = some x) (hs : hardRows = true → k < 2 := by decide) : ∃ xs : List α, All2 (SRep (sto W)) cs [.list (xs.map e0)] := by
  rcases DataW.trod_slice ht h with ⟨rfl, _⟩ | ⟨a, len, cap, elems, rest, n, hfu, rfl, _, hb, hl, hm, hlen', hel, _, _⟩
  · exact ⟨[], .cons srep_nil .nil⟩
  · have key : ∀ i, i < len → ∃ (b : α), ∃ (cs' : List Value), cs'.length = k ∧ (∀ j u, cs'[j]? = some u → W.cell? ((a.add (i * k)).add j) = some u) ∧ All2 (SRep (sto W)) cs' (e0 b) := fun i hi => by
      have h1 := hel i hi
      rw [List.getElem?_eq_getElem (by omega)] at h1
      obtain ⟨cs', h2, h3⟩ := Option.bind_eq_some_iff.1 h1
      obtain ⟨_, h4, h5⟩ := World.cells?_some h2
      obtain ⟨b, hb⟩ := f n cs' _ (by omega) h3
      rw [hc] at h4 h5
      refine ⟨b, cs', h4, fun j u hj => ?_, hb⟩
      rw [h5 j (by have := (List.getElem?_eq_some_iff.1 hj).1; omega)]
      exact hj
    obtain ⟨xs, hxl, hxs⟩ : ∃ xs : List α, xs.length = len ∧ ∀ i (h : i < xs.length), ∃ cs' : List Value, cs'.length = k ∧ (∀ j u, cs'[j]? = some u → W.cell? ((a.add (i * k)).add j) = some u) ∧ All2 (SRep (sto W)) cs' (e0 xs[i]) := choose_list key
    have cell : ∀ m y j z, (xs.map e0)[m]? = some y → y[j]? = some z → ∃ v, W.cell? ⟨a.block, a.off + m * k + j, none⟩ = some v ∧ SRep (sto W) v z := fun m y j z hy hz => by
      rw [List.getElem?_map, Option.map_eq_some_iff] at hy
      obtain ⟨b, hb', rfl⟩ := hy
      obtain ⟨hm', hbe⟩ := List.getElem?_eq_some_iff.1 hb'
      obtain ⟨cs', c1, c2, c3⟩ := hxs m hm'
      rw [hbe] at c3
      obtain ⟨v, v1, v2⟩ := c3.get hz
      refine ⟨v, ?_, v2⟩
      have := c2 j v v1
      have hsp := spot_none this
      rw [← this]
      congr 1
      have h7 : ((a.add (m * k)).add j).block = a.block ∧ ((a.add (m * k)).add j).off = a.off + m * k + j := by
        unfold Addr.add
        split <;> split <;> simp_all
      generalize (a.add (m * k)).add j = q at *
      cases q
      simp_all
    refine ⟨xs, .cons (.list (b := a.block) (o := a.off) (w := k) (fun m j => (W.cell? ⟨a.block, a.off + m * k + j, none⟩).getD undef) (by simp [hxl]) hl hm (by simp) (fun h0 => ?_) (fun y hy => ?_) (fun q1 q2 _ => absurd (hs q1) (by omega)) (fun m y j z hy hz => ?_) (fun m y j z hy hz => ?_)) .nil⟩
    · obtain ⟨cs', h1, h2, h3⟩ := hxs 0 (by omega)
      have h4 : W.cell? a = some (cs'[0]'(by omega)) := by
        have := h2 0 _ (List.getElem?_eq_getElem (by omega))
        simpa [Addr.add] using this
      have := spot_none h4
      cases a
      simp_all
    · obtain ⟨b, _, rfl⟩ := List.mem_map.1 hy
      exact hlen b
    · obtain ⟨v, v1, v2⟩ := cell m y j z hy hz
      show W.cell? _ = _
      rw [v1]; rfl
    · obtain ⟨v, v1, v2⟩ := cell m y j z hy hz
      rw [v1]; exact v2
theorem str_trod {t : TypeId} (ht : P.underlying t = some .string) (fuel : Nat) (cs : List Value) (x : DataW H × List MemPlace) (h : DataW.trod enc P W base sp hd fuel t cs = some x) : ∃ s : ByteArray, All2 (SRep (sto W)) cs (encS s) := by
  obtain ⟨s, rfl, _, hs⟩ := DataW.trod_string ht h
  exact ⟨s, .cons (.str hs) .nil⟩
theorem arg_list {α : Type} {e0 : α → List SV} {t e : TypeId} {k : Nat} (ht : P.underlying t = some (.slice e)) (hc : P.cellsOf e = k) (hlen : ∀ a, (e0 a).length = k) (hk : 0 < k) {r : Reach} {b0 : Nat} {v : Value} {d : DataW H} {p : List MemPlace} (hv : Value.okWide P W r b0 t v)
    (f : ∀ (n : Nat) (cs : List Value) (y : DataW H × List MemPlace), DataW.trod enc P W base sp hd n e cs = some y → ∃ a : α, All2 (SRep (sto W)) cs (e0 a)) (h : DataW.Trod enc P W base sp hd t v d p) (hs : hardRows = true → k < 2 := by decide) : ∃ xs : List α, VRep (sto W) noS noH v (.one (.st (.list (xs.map e0)))) := by
  obtain ⟨a, len, cap, rfl⟩ := okWide_slice ht hv
  obtain ⟨fuel, hf⟩ := h
  obtain ⟨xs, hxs⟩ := list_of_trod ht hc hlen hk (fun n cs y _ hy => f n cs y hy) hf hs
  have : All2 (SRep (sto W)) [.slice a len cap] [.list (xs.map e0)] := hxs
  cases this with
  | cons h1 h2 => exact ⟨xs, .one (.st h1)⟩
theorem arg_struct {α : Type} {e0 : α → List SV} {t : TypeId} {fs : Array Field} (ht : P.underlying t = some (.struct fs)) {r : Reach} {b0 : Nat} {v : Value} {d : DataW H} {p : List MemPlace} (hv : Value.okWide P W r b0 t v)
    (f : ∀ (n : Nat) (cs : List Value) (y : DataW H × List MemPlace), DataW.trod enc P W base sp hd n t cs = some y → ∃ a : α, All2 (SRep (sto W)) cs (e0 a)) (h : DataW.Trod enc P W base sp hd t v d p) : ∃ a : α, VRep (sto W) noS noH v (.agg ((e0 a).map .st)) := by
  obtain ⟨cs, rfl, hsz⟩ := okWide_struct ht hv
  obtain ⟨fuel, hf⟩ := h
  obtain ⟨a, ha⟩ := f fuel _ _ hf
  exact ⟨a, .agg ((All2.mono (fun _ _ h => .st h) ha).map_right)⟩
end
theorem globIn_nil {σ : Sto} (h : globs = [] := by rfl) : GlobIn σ := fun x hx => by simp [h] at hx
theorem acalls_true {P : Program} {f : FuncId} {xs : List AV} {b : Bool} (h : ACalls P f xs (aBool b)) {σ : Sto} {w : World} {vs : List Value} (hg : GlobIn σ) (hf : Fit σ w) (hv : All2 (VRep σ noS noH) vs xs) :
    Calls P f vs.toArray w fun e w' => e = .returned (.bool b) ∧ Below w.heap.size w w' := (h σ w vs hg hf hv).mono fun e w' ⟨v, σ', he, hv, _, _, hb⟩ => by
  rw [vrep_bool hv] at he
  exact ⟨he, hb⟩

section
variable {H : Type} {enc : TypeId × Value → H} {W : World} {sp : Nat → Bool} {hd : Bool} {base : Nat}
set_option maxRecDepth 100000 in
theorem tm_trod : ∀ (fuel : Nat) (cs : List Value) (x : DataW H × List MemPlace), DataW.trod enc Try.prog W base sp hd fuel 25 cs = some x → ∃ t : Tm, All2 (SRep (sto W)) cs (encT t) := by
  intro fuel
  induction fuel using Nat.strongRecOn with
  | _ fuel ih =>
  intro cs x h
  obtain ⟨a, b, y0, y1, n, hn, rfl, h0, h1⟩ := trod_two Try.underlying25 rfl rfl (show Try.prog.cellsOf 9 = 1 by kernel_rfl) (show Try.prog.cellsOf 23 = 1 by kernel_rfl) (show Try.prog.cellsOf 25 = 2 by kernel_rfl) h
  obtain ⟨s, hs⟩ := str_trod Try.underlying9 _ _ _ h0
  obtain ⟨xs, hxs⟩ := list_of_trod (e0 := encT) Try.underlying23 (show Try.prog.cellsOf 25 = 2 by kernel_rfl) (fun a => by rw [encT_eq]; rfl) (by decide) (fun m cs y hm hy => ih m (by omega) cs y hy) h1
  exact ⟨.mk s xs, by rw [encT_eq]; exact hs.append hxs⟩
set_option maxRecDepth 100000 in
theorem arg_tm {r : Reach} {b0 : Nat} {v : Value} {d : DataW H} {p : List MemPlace} (hv : Value.okWide Try.prog W r b0 25 v) (h : DataW.Trod enc Try.prog W base sp hd 25 v d p) : ∃ t : Tm, VRep (sto W) noS noH v (aTm t) := by
  obtain ⟨t, ht⟩ := arg_struct Try.underlying25 hv tm_trod h
  exact ⟨t, by rw [encT_eq] at ht; exact ht⟩
end

section
variable {H : Type} {enc : TypeId × Value → H} {W : World} {sp : Nat → Bool} {hd : Bool} {base : Nat}
set_option maxRecDepth 100000 in
theorem pr_trod (fuel : Nat) (cs : List Value) (x : DataW H × List MemPlace) (h : DataW.trod enc Try.prog W base sp hd fuel 36 cs = some x) : ∃ p : Pr, All2 (SRep (sto W)) cs (encP p) := by
  obtain ⟨a, b, y0, y1, n, hn, rfl, h0, h1⟩ := trod_two Try.underlying36 rfl rfl (show Try.prog.cellsOf 25 = 2 by kernel_rfl) (show Try.prog.cellsOf 25 = 2 by kernel_rfl) (show Try.prog.cellsOf 36 = 4 by kernel_rfl) h
  obtain ⟨s, hs⟩ := tm_trod _ _ _ h0
  obtain ⟨t, ht⟩ := tm_trod _ _ _ h1
  rw [encT_eq] at hs ht
  exact ⟨(s, t), hs.append ht⟩
set_option maxRecDepth 100000 in
theorem arg_prs {r : Reach} {b0 : Nat} {v : Value} {d : DataW H} {p : List MemPlace} (hv : Value.okWide Try.prog W r b0 22 v) (h : DataW.Trod enc Try.prog W base sp hd 22 v d p) : ∃ l : List Pr, VRep (sto W) noS noH v (aPrs l) :=
  arg_list (k := 4) Try.underlying22 (by kernel_rfl) (fun _ => rfl) (by decide) hv pr_trod h
end

end Go.Proofs.Ytipddfhkbkihnaa
namespace Go.Proofs.Ytipddfhkbkihnaa.rewriteSays
open Go Go.RowKit Go.ChangeShapes Go.WideShapes Go.ChangeAt
set_option linter.unusedVariables false
theorem own : ownKnob Try.prog.godebug = none := by kernel_rfl
theorem laid : laidOutB Try.prog = true := by kernel_rfl
set_option maxRecDepth 100000 in
theorem contract (H : Type) (enc : TypeId × Value → H) (W : World) (base : Nat) (args : Array Value) (ds gs : List (DataW H)) (before : List MemPlace)
    (hval : ∀ (j : Nat) t v, Try.f3.params[j]? = some t → args[j]? = some v → Value.okWide Try.prog W .any base t v)
    (hW : DataW.Whole enc Try.prog Try.f3.params.toList Rows.rewriteSaysSpec.vars false W args.toList ds gs before) :
    Calls Try.prog 3 args W fun e W' => ∃ v, e = .returned v ∧ Rows.rewriteSaysSpec.post enc Try.prog Try.f3 false true false false W args v W' := by
  obtain ⟨p, q, hA0, hV, rfl, hfz, hnd⟩ := id hW
  obtain ⟨rfl, rfl⟩ := trodVars_none hV
  have hA : DataW.TrodAll enc Try.prog W 0 (fun _ => true) true Try.f3.params.toList args.toList ds p := hA0
  rw [Try.params3] at hA hval
  obtain ⟨v0, v1, d0, d1, p0, p1, hargs, rfl, rfl, h0, h1⟩ := trodAll_two hA
  obtain rfl : args = #[v0, v1] := by cases args; simp_all
  obtain ⟨R, r0⟩ := arg_prs (hval 0 22 v0 rfl rfl) h0
  obtain ⟨t, r1⟩ := arg_tm (hval 1 25 v1 rfl rfl) h1
  refine (acalls_true (rewriteSays_a R t) globIn_nil (fit_sto W) (vs := [v0, v1]) (.cons r0 (.cons r1 .nil))).mono fun e W' ⟨he, hb⟩ => ⟨_, he, ?_⟩
  exact law_post hW rfl rfl Try.underlying4 rfl rfl rfl laid (by kernel_rfl) hb
set_option maxRecDepth 100000 in
theorem lifted (os : Os) (started : os.Started) (H : Type) (enc : TypeId × Value → H) :
    ReturnsInHanded {} Try.checked os 3 .any (Rows.rewriteSaysSpec.pre6 enc Try.prog Try.f3 Rows.rewriteSaysRow.domain false) (Rows.rewriteSaysSpec.post enc Try.prog Try.f3 false true false false) := by
  refine returnsInHanded_of_change (C := Try.checked) own started (by kernel_rfl) Try.func3
    (ChangeSpec.witness6 (enc := enc) (C := Try.checked) false ⟨#[], #[.slice none 0 0, .agg #[.string ⟨#[]⟩, .slice none 0 0]], []⟩ 8 (by kernel_rfl) (by kernel_rfl) (by kernel_rfl) (by kernel_rfl)) ?_
  intro W base args ds gs before hval hW _ _
  exact contract H enc W base args ds gs before hval hW
theorem proved : Rows.RewriteSaysSaid :=
  OpenClaim.holds_of_wide 3 Try.f3 rfl rfl rfl rfl rfl rfl rfl ⟨rfl, rfl, rfl, rfl, rfl⟩ rfl rfl rfl rfl rfl (by kernel_rfl) Try.func3 (by kernel_rfl)
    (of_decide_eq_true (by kernel_rfl)) (by unfold Func.isWrapper; first | (rw [if_pos (by decide +kernel)]; kernel_rfl) | (rw [if_neg (by decide +kernel)]; exact ⟨rfl, rfl⟩))
    (fun os started H enc _ => lifted os started H enc)

end Go.Proofs.Ytipddfhkbkihnaa.rewriteSays
