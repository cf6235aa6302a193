/-
  Part 10 of the texts. Conditions: none.
-/
import Derived.Test.YtgepacmabaaohaaGreatDoorCrM9
namespace Go.Proofs.YtgepacmabaaohaaGreatDoor
open Go Go.RowKit
set_option linter.unusedVariables false
set_option linter.unusedSimpArgs false
set_option maxHeartbeats 800000
theorem Ps (p : List Int) : ∀ t : Tm, AQ Tryz.prog 33 [aTm t, EA p] (.tup [aTm ((t.atP p).getD Tm.nil), Ab (t.atP p).isSome]) := by
 induction p with
 | nil =>
  intro t
  rw [Tm.atP_nil]
  refine Lv.ac fun C hC => ?_
  unfold IT
  repeat' with_reducible first | refine W ?_ | refine Z0 ?_ | ((first | refine Wo fun K hK => ?_ | refine Wp ?_ | refine Wq ?_ | refine Wr ?_); (try simp only [go_sem, fN, seval, eT, iR, dT, dF, nL]); (repeat refine Ai ?_); (try (refine hK _ ?_; clear hK K)); try refine iC ?_)
  simp only [go_sem, fN, seval, AJ, AS.result, AA, AB, AH]
 | cons i p ih =>
  intro t
  rw [Tm.atP_cons]
  have htk : List.take p.length (List.map HL p) = List.map HL p := by rw [List.take_of_length_le (by simp)]
  have hl1 : ¬ ((p.length + 1 : Nat) : Int) = 0 := by omega
  refine Lv.ac fun C hC => ?_
  unfold IT
  by_cases h0 : i < 0
  ·rw [if_pos h0]
   repeat' with_reducible first | refine W ?_ | refine Z0 ?_ | ((first | refine Wo fun K hK => ?_ | refine Wp ?_ | refine Wq ?_ | refine Wr ?_); (try simp only [go_sem, fN, seval, eT, iR, h0, hl1, dT, dF, nL]); (repeat refine Ai ?_); (try (refine hK _ ?_; clear hK K)); try refine iC ?_)
   simp only [go_sem, fN, seval, AJ, AS.result, AA, AB, AH]
   rfl
  ·rw [if_neg h0]
   obtain ⟨k, rfl⟩ : ∃ k : Nat, i = k := ⟨i.toNat, by omega⟩
   rw [Int.toNat_natCast]
   by_cases h1 : (t.args.length : Int) ≤ k
   ·rw [List.getElem?_eq_none (by omega)]
    repeat' with_reducible first | refine W ?_ | refine Z0 ?_ | ((first | refine Wo fun K hK => ?_ | refine Wp ?_ | refine Wq ?_ | refine Wr ?_); (try simp only [go_sem, fN, seval, eT, iR, h0, h1, hl1, dT, dF, nL]); (repeat refine Ai ?_); (try (refine hK _ ?_; clear hK K)); try refine iC ?_)
    simp only [go_sem, fN, seval, AJ, AS.result, AA, AB, AH]
    rfl
   ·obtain ⟨a, ha⟩ := AT (show k < t.args.length by omega)
    rw [ha]
    repeat' (first | (with_reducible first | refine W ?_ | refine Z0 ?_ | ((first | refine Wo fun K hK => ?_ | refine Wp ?_ | refine Wq ?_ | refine Wr ?_); (try simp only [go_sem, fN, seval, eT, iR, h0, h1, ha, hl1, htk, dT, dF, nL]); (repeat refine Ai ?_); (try (refine hK _ ?_; clear hK K)); try refine iC ?_)) | refine Cg _ (ih a) ?_)
    simp only [go_sem, fN, seval, AJ, AS.result, AA, AB, AH]
theorem Q8 (p : List Int) : ∀ t : Tm, t.size ≤ 1000000 → ∀ x : Tm, (t.atP p).isSome = true → AQ Tryz.prog 36 [aTm t, EA p, aTm x] (aTm (t.putP p x)) := by
 induction p with
 | nil =>
  intro t hz x hat
  rw [Tm.putP_nil]
  refine J_.ac fun C hC => ?_
  unfold G1
  repeat' with_reducible first | refine W ?_ | refine Z0 ?_ | ((first | refine Wo fun K hK => ?_ | refine Wp ?_ | refine Wq ?_ | refine Wr ?_); (try simp only [go_sem, fN, seval, eT, iR, dT, dF, nL]); (repeat refine Ai ?_); (try (refine hK _ ?_; clear hK K)); try refine iC ?_)
  simp only [go_sem, fN, seval, AJ, AS.result, AA, AB, AH]
 | cons i p ih =>
  intro t hz x hat
  have hs := Tm.size_eq t
  have hkn := Tm.length_le t.args
  rw [Tm.atP_cons] at hat
  have h0 : ¬ i < 0 := fun h => by rw [if_pos h] at hat; cases hat
  rw [if_neg h0] at hat
  obtain ⟨j, rfl⟩ : ∃ k : Nat, i = k := ⟨i.toNat, by omega⟩
  rw [Int.toNat_natCast] at hat
  obtain ⟨b, hb⟩ : ∃ b, t.args[j]? = some b := by
   cases h : t.args[j]? with
   | none => rw [h] at hat; cases hat
   | some b => exact ⟨b, rfl⟩
  rw [hb] at hat
  dsimp only at hat
  have hjl := Bh hb
  rw [Tm.putP_at hb]
  have htk : List.take p.length (List.map HL p) = List.map HL p := by rw [List.take_of_length_le (by simp)]
  have hl1 : ¬ ((p.length + 1 : Nat) : Int) = 0 := by omega
  refine J_.ac fun C hC => ?_
  unfold G1
  repeat' with_reducible first | refine W ?_ | refine Z0 ?_ | ((first | refine Wo fun K hK => ?_ | refine Wp ?_ | refine Wq ?_ | refine Wr ?_); (try simp only [go_sem, fN, seval, eT, iR, hl1, dT, dF, nL]); (repeat refine Ai ?_); (try (refine hK _ ?_; clear hK K)); try refine iC ?_)
  refine IWP.ghost (Af.ownC 7 1 60 29 2 (xs := ([] : List Tm).map Ap) rfl rfl rfl CS) ?_
  refine IWP.loop (fun m s => ∃ k, k ≤ t.args.length ∧ m = t.args.length - k ∧ s.env 1 = EA ((j : Int) :: p) ∧ s.env 3 = .one (.ptr 3 1 0 0) ∧ s.env 5 = .one (.ptr 5 1 0 0) ∧ s.env 6 = .one (.ptr 6 1 0 0) ∧ s.env 7 = .one (.ptr 7 1 0 0) ∧ s.S 3 = some (.box 29 [.st (.str t.name), .st (.list (t.args.map Ap))]) ∧ s.S 5 = some (.box 29 [.st (.str x.name), .st (.list (x.args.map Ap))]) ∧ s.S 6 = some (.box 29 [.st (.str ⟨#[]⟩), .full []]) ∧ s.S 7 = some (.box 29 [.st (.str t.name), .row 60 k]) ∧ s.S 60 = some (.arow 29 2 (((t.args.set j (b.putP p x)).take k).map Ap)) ∧ s.env 8 = AK k)
   t.args.length ⟨0, Nat.zero_le _, rfl, rfl, rfl, rfl, rfl, rfl, rfl, rfl, rfl, rfl, rfl, rfl⟩ ?_
  rintro m ⟨env, S⟩ ⟨k, hk, rfl, e1, e3, e5, e6, e7, s3, s5, s6, s7, s60, e8⟩
  simp only at e1 e3 e5 e6 e7 s3 s5 s6 s7 s60 e8
  have hlk : ((t.args.set j (b.putP p x)).take k).length = k := by rw [List.length_take, List.length_set]; omega
  by_cases hlt : (k : Int) < t.args.length
  ·obtain ⟨a, ha⟩ := AT (show k < t.args.length by omega)
   by_cases hkj : (k : Int) = j
   ·have hkj' : k = j := by omega
    subst hkj'
    have hset : (t.args.set k (b.putP p x))[k]? = some (b.putP p x) := by rw [List.getElem?_set_self hjl]
    repeat' (first | (with_reducible first | refine W ?_ | refine Z0 ?_ | ((first | refine Wo fun K hK => ?_ | refine Wp ?_ | refine Wq ?_ | refine Wr ?_); (try simp only [go_sem, fN, seval, eT, iR, e1, e3, e5, e6, e7, s3, s5, s6, s7, s60, e8, hlt, hb, htk, hlk, dT, dF, nL]); (repeat refine Ai ?_); (try (refine hK _ ?_; clear hK K)); try refine iC ?_)) | refine Cg _ (ih b (by have := Tm.size_mem (AI hb); omega) x hat) ?_)
    refine AE ⟨t.args.length - (k + 1), by omega, k + 1, by omega, rfl, ?_⟩
    simp only [go_sem, fN, seval, eT, iR, e1, e3, e5, e6, e7, s3, s5, s6, s7, s60, e8]
    exact ⟨by rw [AY hset]; simp [BC], by congr 3⟩
   ·have hkj' : j ≠ k := by omega
    have hset : (t.args.set j (b.putP p x))[k]? = some a := by rw [List.getElem?_set_ne hkj', ha]
    repeat' with_reducible first | refine W ?_ | refine Z0 ?_ | ((first | refine Wo fun K hK => ?_ | refine Wp ?_ | refine Wq ?_ | refine Wr ?_); (try simp only [go_sem, fN, seval, eT, iR, e1, e3, e5, e6, e7, s3, s5, s6, s7, s60, e8, hlt, hkj, ha, hlk, dT, dF, nL]); (repeat refine Ai ?_); (try (refine hK _ ?_; clear hK K)); try refine iC ?_)
    refine AE ⟨t.args.length - (k + 1), by omega, k + 1, by omega, rfl, ?_⟩
    simp only [go_sem, fN, seval, eT, iR, e1, e3, e5, e6, e7, s3, s5, s6, s7, s60, e8]
    exact ⟨by rw [AY hset]; simp [BC], by congr 3⟩
  ·have hall : (t.args.set j (b.putP p x)).take k = t.args.set j (b.putP p x) := List.take_of_length_le (by rw [List.length_set]; omega)
   rw [hall] at hlk s60
   repeat' with_reducible first | refine W ?_ | refine Z0 ?_ | ((first | refine Wo fun K hK => ?_ | refine Wp ?_ | refine Wq ?_ | refine Wr ?_); (try simp only [go_sem, fN, seval, eT, iR, e1, e3, e5, e6, e7, s3, s5, s6, s7, s60, e8, hlt, hlk, dT, dF, nL]); (repeat refine Ai ?_); (try (refine hK _ ?_; clear hK K)); try refine iC ?_)
   simp only [go_sem, fN, seval, AJ, AS.result, AA, AB, AH, e6, s60, hlk]
   rfl
theorem MR (t : Tm) (hz : t.size ≤ 1000000) : AQ Tryz.prog 32 [aTm t] (PA t.places) := by
 induction h : SizeOf.sizeOf t using Nat.strongRecOn generalizing t with
 | _ N ih =>
 subst h
 have hs := Tm.size_eq t
 have hkn := Tm.length_le t.args
 refine LD.ac fun C hC => ?_
 unfold Gg
 repeat' with_reducible first | refine W ?_ | refine Z0 ?_ | ((first | refine Wo fun K hK => ?_ | refine Wp ?_ | refine Wq ?_ | refine Wr ?_); (try simp only [go_sem, fN, seval, eT, iR, dT, dF, nL]); (repeat refine Ai ?_); (try (refine hK _ ?_; clear hK K)); try refine iC ?_)
 refine IWP.ghost (Af.own 3 60 38 1 (xs := ([[]] : List (List Int)).map Ji) (by simp only [go_sem, fN, seval, eT, iR]; rfl) rfl (by simp) (by omega)) ?_
 refine IWP.loop (fun m s => ∃ k, k ≤ t.args.length ∧ m = t.args.length - k ∧ s.env 1 = .one (.ptr 1 1 0 0) ∧ s.S 1 = some (.box 29 [.st (.str t.name), .st (.list (t.args.map Ap))]) ∧ s.env 3 = .one (.row 60 (t.placesTo k).length) ∧ s.S 60 = some (.arow 38 1 ((t.placesTo k).map Ji)) ∧ s.env 4 = AK k ∧ s.S 34 = none)
  t.args.length ⟨0, Nat.zero_le _, rfl, rfl, rfl, rfl, rfl, rfl, rfl⟩ ?_
 rintro m ⟨env, S⟩ ⟨k, hk, rfl, e1, s1, e3, s60, e4, s34⟩
 simp only at e1 s1 e3 s60 e4 s34
 by_cases hlt : (k : Int) < t.args.length
 ·obtain ⟨a, ha⟩ := AT (show k < t.args.length by omega)
  have hsz := Tm.size_mem (AI ha)
  have hpl := Tm.places_length a
  have hto := Tm.placesTo_length t k
  have hst := Tm.sizes_take ha
  have hst2 := Tm.sizes_take_le t.args (k + 1)
  repeat' (first | (with_reducible first | refine W ?_ | refine Z0 ?_ | ((first | refine Wo fun K hK => ?_ | refine Wp ?_ | refine Wq ?_ | refine Wr ?_); (try simp only [go_sem, fN, seval, eT, iR, e1, s1, e3, s60, e4, hlt, ha, dT, dF, nL]); (repeat refine Ai ?_); (try (refine hK _ ?_; clear hK K)); try refine iC ?_)) | refine Cg _ (ih _ (Tm.lt_of_arg (AI ha)) a (by omega) rfl) ?_)
  refine IWP.loopD [34] (fun m s => ∃ i, i ≤ a.places.length ∧ m = a.places.length - i ∧ s.env 1 = .one (.ptr 1 1 0 0) ∧ s.S 1 = some (.box 29 [.st (.str t.name), .st (.list (t.args.map Ap))]) ∧ s.env 3 = .one (.row 60 (t.placesTo k ++ (a.places.take i).map fun p => (k : Int) :: p).length) ∧ s.S 60 = some (.arow 38 1 ((t.placesTo k ++ (a.places.take i).map fun p => (k : Int) :: p).map Ji)) ∧ s.env 4 = AK k ∧ s.env 5 = PA a.places ∧ s.env 6 = AK i ∧ s.S 34 = none)
   a.places.length ⟨0, Nat.zero_le _, rfl, ?_⟩ ?_
  ·simp only [go_sem, fN, seval, eT, iR, e1, s1, e3, s60, e4, s34]
  rintro m ⟨env, S⟩ ⟨i, hi, rfl, e1, s1, e3, s60, e4, e5, e6, s34⟩
  simp only at e1 s1 e3 s60 e4 e5 e6 s34
  have hlen : (t.placesTo k ++ (a.places.take i).map fun p => (k : Int) :: p).length ≤ 1000000 := by
   rw [List.length_append, List.length_map, List.length_take]
   omega
  by_cases hli : (i : Int) < a.places.length
  ·obtain ⟨p, hp⟩ := AT (show i < a.places.length by omega)
   have hd := Tm.places_deep a p (AI hp)
   repeat' with_reducible first | refine W ?_ | refine Z0 ?_ | ((first | refine Wo fun K hK => ?_ | refine Wp ?_ | refine Wq ?_ | refine Wr ?_); (try simp only [go_sem, fN, seval, eT, iR, e1, s1, e3, s60, e4, e5, e6, s34, hli, hp, dT, dF, nL]); (repeat refine Ai ?_); (try (refine hK _ ?_; clear hK K)); try refine iC ?_)
   refine AE ⟨a.places.length - (i + 1), by omega, i + 1, by omega, rfl, ?_⟩
   simp only [go_sem, fN, seval, AS.drop, Ak, AC.clears, AC.clear, AC.highs, AC.high, Bool.not_false, Bool.true_and, Bool.and_self, AV.purge, AV.purges, AC.purge, AN.purge, List.contains_cons, List.contains_nil, Nat.reduceBEq, Bool.or_self, Bool.or_false, Bool.false_or, Bool.or_true, eT, iR, e1, s1, e3, s60, e4, e5, e6, s34]
   rw [AY hp]
   refine ⟨?_, ?_, rfl⟩
   ·simp
    omega
   ·simp
  ·repeat' with_reducible first | refine W ?_ | refine Z0 ?_ | ((first | refine Wo fun K hK => ?_ | refine Wp ?_ | refine Wq ?_ | refine Wr ?_); (try simp only [go_sem, fN, seval, eT, iR, e1, s1, e3, s60, e4, e5, e6, s34, hli, dT, dF, nL]); (repeat refine Ai ?_); (try (refine hK _ ?_; clear hK K)); try refine iC ?_)
   refine AE ⟨t.args.length - (k + 1), by omega, k + 1, by omega, rfl, ?_⟩
   have e9 : (t.placesTo k ++ (a.places.take i).map fun p => (k : Int) :: p) = t.placesTo (k + 1) := by
    rw [List.take_of_length_le (by omega), Tm.placesTo_succ ha]
   rw [e9] at e3 s60
   exact ⟨e1, s1, e3, s60, rfl, s34⟩
 ·repeat' with_reducible first | refine W ?_ | refine Z0 ?_ | ((first | refine Wo fun K hK => ?_ | refine Wp ?_ | refine Wq ?_ | refine Wr ?_); (try simp only [go_sem, fN, seval, eT, iR, e1, s1, e3, s60, e4, hlt, dT, dF, nL]); (repeat refine Ai ?_); (try (refine hK _ ?_; clear hK K)); try refine iC ?_)
  simp only [go_sem, fN, seval, AJ, AS.result, AA, AB, AH, e3, s60]
  rw [Tm.placesTo_all (by omega)]

set_option maxHeartbeats 1000000
theorem V9 (t : Tm) (hz : t.size ≤ 1000000) : AQ Tryz.prog 46 [aTm t] (PA t.places) := by
 induction h : SizeOf.sizeOf t using Nat.strongRecOn generalizing t with
 | _ N ih =>
 subst h
 have hs := Tm.size_eq t
 have hkn := Tm.length_le t.args
 refine O0.ac fun C hC => ?_
 unfold Ih
 repeat' with_reducible first | refine W ?_ | refine Z0 ?_ | ((first | refine Wo fun K hK => ?_ | refine Wp ?_ | refine Wq ?_ | refine Wr ?_); (try simp only [go_sem, fN, seval, eT, iR, dT, dF, nL]); (repeat refine Ai ?_); (try (refine hK _ ?_; clear hK K)); try refine iC ?_)
 refine IWP.ghost (Af.own 3 60 38 1 (xs := ([[]] : List (List Int)).map Ji) (by simp only [go_sem, fN, seval, eT, iR]; rfl) rfl (by simp) (by omega)) ?_
 refine IWP.loopD [5] (fun m s => ∃ k, k ≤ t.args.length ∧ m = t.args.length - k ∧ s.env 11 = Dn t.args ∧ s.env 12 = AK t.args.length ∧ s.env 3 = .one (.row 60 (t.placesTo k).length) ∧ s.S 60 = some (.arow 38 1 ((t.placesTo k).map Ji)) ∧ s.env 13 = AK k ∧ s.S 29 = none ∧ s.S 5 = none)
  t.args.length ⟨0, Nat.zero_le _, rfl, rfl, rfl, rfl, rfl, rfl, rfl, rfl⟩ ?_
 rintro m ⟨env, S⟩ ⟨k, hk, rfl, e11, e12, e3, s60, e13, s29, s5⟩
 simp only at e11 e12 e3 s60 e13 s29 s5
 by_cases hlt : (k : Int) < t.args.length
 ·obtain ⟨a, ha⟩ := AT (show k < t.args.length by omega)
  have hsz := Tm.size_mem (AI ha)
  have hpl := Tm.places_length a
  have hto := Tm.placesTo_length t k
  have hst := Tm.sizes_take ha
  have hst2 := Tm.sizes_take_le t.args (k + 1)
  repeat' (first | (with_reducible first | refine W ?_ | refine Z0 ?_ | ((first | refine Wo fun K hK => ?_ | refine Wp ?_ | refine Wq ?_ | refine Wr ?_); (try simp only [go_sem, fN, seval, eT, iR, e11, e12, e3, s60, e13, s5, hlt, ha, dT, dF, nL]); (repeat refine Ai ?_); (try (refine hK _ ?_; clear hK K)); try refine iC ?_)) | refine Cg _ (ih _ (Tm.lt_of_arg (AI ha)) a (by omega) rfl) ?_)
  refine IWP.loopD [29] (fun m s => ∃ i, i ≤ a.places.length ∧ m = a.places.length - i ∧ s.env 11 = Dn t.args ∧ s.env 12 = AK t.args.length ∧ s.env 3 = .one (.row 60 (t.placesTo k ++ (a.places.take i).map fun p => (k : Int) :: p).length) ∧ s.S 60 = some (.arow 38 1 ((t.placesTo k ++ (a.places.take i).map fun p => (k : Int) :: p).map Ji)) ∧ s.env 4 = AK k ∧ s.env 13 = AK k ∧ s.env 19 = PA a.places ∧ s.env 20 = AK a.places.length ∧ s.env 21 = AK i ∧ s.S 29 = none)
   a.places.length ⟨0, Nat.zero_le _, rfl, ?_⟩ ?_
  ·simp only [go_sem, fN, seval, eT, iR, e11, e12, e3, s60, e13, s29]
  rintro m ⟨env, S⟩ ⟨i, hi, rfl, e11, e12, e3, s60, e4, e13, e19, e20, e21, s29⟩
  simp only at e11 e12 e3 s60 e4 e13 e19 e20 e21 s29
  have hlen : (t.placesTo k ++ (a.places.take i).map fun p => (k : Int) :: p).length ≤ 1000000 := by
   rw [List.length_append, List.length_map, List.length_take]
   omega
  by_cases hli : (i : Int) < a.places.length
  ·obtain ⟨p, hp⟩ := AT (show i < a.places.length by omega)
   have hd := Tm.places_deep a p (AI hp)
   repeat' with_reducible first | refine W ?_ | refine Z0 ?_ | ((first | refine Wo fun K hK => ?_ | refine Wp ?_ | refine Wq ?_ | refine Wr ?_); (try simp only [go_sem, fN, seval, eT, iR, e11, e12, e3, s60, e4, e13, e19, e20, e21, s29, hli, hp, dT, dF, nL]); (repeat refine Ai ?_); (try (refine hK _ ?_; clear hK K)); try refine iC ?_)
   refine AE ⟨a.places.length - (i + 1), by omega, i + 1, by omega, rfl, ?_⟩
   simp only [go_sem, fN, seval, AS.drop, Ak, AC.clears, AC.clear, AC.highs, AC.high, Bool.not_false, Bool.true_and, Bool.and_self, AV.purge, AV.purges, AC.purge, AN.purge, List.contains_cons, List.contains_nil, Nat.reduceBEq, Bool.or_self, Bool.or_false, Bool.false_or, Bool.or_true, eT, iR, e11, e12, e3, s60, e4, e13, e19, e20, e21, s29]
   rw [AY hp]
   refine ⟨?_, ?_, by congr 3⟩
   ·simp
    omega
   ·simp
  ·have e9 : (t.placesTo k ++ (a.places.take i).map fun p => (k : Int) :: p) = t.placesTo (k + 1) := by
    rw [List.take_of_length_le (by omega), Tm.placesTo_succ ha]
   rw [e9] at e3 s60
   repeat' with_reducible first | refine W ?_ | refine Z0 ?_ | ((first | refine Wo fun K hK => ?_ | refine Wp ?_ | refine Wq ?_ | refine Wr ?_); (try simp only [go_sem, fN, seval, eT, iR, e11, e12, e3, s60, e4, e13, e19, e20, e21, s29, hli, dT, dF, nL]); (repeat refine Ai ?_); (try (refine hK _ ?_; clear hK K)); try refine iC ?_)
   refine AE ⟨t.args.length - (k + 1), by omega, k + 1, by omega, rfl, ?_⟩
   simp only [go_sem, fN, seval, AS.drop, Ak, AC.clears, AC.clear, AC.highs, AC.high, Bool.not_false, Bool.true_and, Bool.and_self, AV.purge, AV.purges, AC.purge, AN.purge, List.contains_cons, List.contains_nil, Nat.reduceBEq, Bool.or_self, Bool.or_false, Bool.false_or, Bool.or_true, eT, iR, e11, e12, e3, s60, e4, e13, s29]
   congr 3
 ·repeat' with_reducible first | refine W ?_ | refine Z0 ?_ | ((first | refine Wo fun K hK => ?_ | refine Wp ?_ | refine Wq ?_ | refine Wr ?_); (try simp only [go_sem, fN, seval, eT, iR, e11, e12, e3, s60, e13, hlt, dT, dF, nL]); (repeat refine Ai ?_); (try (refine hK _ ?_; clear hK K)); try refine iC ?_)
  simp only [go_sem, fN, seval, AJ, AS.result, AA, AB, AH, e3, s60]
  rw [Tm.placesTo_all (by omega)]
theorem Tk (t : Tm) (p : List Int) (hp : p.length ≤ 1000000) : AQ Tryz.prog 47 [aTm t, EA p] (.tup [aTm ((t.atP p).getD Tm.nil), Ab (t.atP p).isSome]) := by
 refine K9.ac fun C hC => ?_
 unfold Gp
 repeat' with_reducible first | refine W ?_ | refine Z0 ?_ | ((first | refine Wo fun K hK => ?_ | refine Wp ?_ | refine Wq ?_ | refine Wr ?_); (try simp only [go_sem, fN, seval, eT, iR, dT, dF, nL]); (repeat refine Ai ?_); (try (refine hK _ ?_; clear hK K)); try refine iC ?_)
 refine IWP.loop (fun m s => ∃ k x, k ≤ p.length ∧ m = p.length - k ∧ t.atP p = x.atP (p.drop k) ∧ s.env 2 = .one (.ptr 2 1 0 0) ∧ s.env 4 = .one (.ptr 4 1 0 0) ∧ s.env 8 = EA p ∧ s.env 9 = AK p.length ∧ s.env 10 = AK k ∧ s.S 2 = some (.box 29 [.st (.str x.name), .st (.list (x.args.map Ap))]) ∧ s.S 4 = some (.box 29 [.st (.str ⟨#[]⟩), .full []])) p.length ⟨0, t, Nat.zero_le _, rfl, rfl, rfl, rfl, rfl, rfl, rfl, rfl, rfl⟩ ?_
 rintro m ⟨env, S⟩ ⟨k, x, hk, rfl, hx, e2, e4, e8, e9, e10, s2, s4⟩
 simp only at e2 e4 e8 e9 e10 s2 s4
 rw [hx]
 by_cases hlt : (k : Int) < p.length
 ·obtain ⟨i, hi⟩ := AT (show k < p.length by omega)
  have hd := BS hi
  rw [hd, Tm.atP_cons] at hx ⊢
  by_cases h0 : i < 0
  ·rw [if_pos h0]
   repeat' with_reducible first | refine W ?_ | refine Z0 ?_ | ((first | refine Wo fun K hK => ?_ | refine Wp ?_ | refine Wq ?_ | refine Wr ?_); (try simp only [go_sem, fN, seval, eT, iR, e2, e4, e8, e9, e10, s2, s4, hlt, hi, h0, dT, dF, nL]); (repeat refine Ai ?_); (try (refine hK _ ?_; clear hK K)); try refine iC ?_)
   simp only [go_sem, fN, seval, AJ, AS.result, AA, AB, AH, e4, s4]
   try rfl
  ·rw [if_neg h0] at hx ⊢
   by_cases h1 : i < x.args.length
   ·obtain ⟨a, ha⟩ := AT (show i.toNat < x.args.length by omega)
    rw [ha] at hx ⊢
    obtain ⟨n, rfl⟩ : ∃ n : Nat, i = n := ⟨i.toNat, by omega⟩
    rw [Int.toNat_natCast] at ha
    have h2 : ¬ (x.args.length : Int) ≤ (n : Int) := by omega
    repeat' with_reducible first | refine W ?_ | refine Z0 ?_ | ((first | refine Wo fun K hK => ?_ | refine Wp ?_ | refine Wq ?_ | refine Wr ?_); (try simp only [go_sem, fN, seval, eT, iR, e2, e4, e8, e9, e10, s2, s4, hlt, hi, h0, h2, ha, dT, dF, nL]); (repeat refine Ai ?_); (try (refine hK _ ?_; clear hK K)); try refine iC ?_)
    refine AE ⟨p.length - (k + 1), by omega, k + 1, a, by omega, rfl, rfl, ?_⟩
    simp only [go_sem, fN, seval, eT, iR, e2, e4, e8, e9, s4]
    congr 3
   ·rw [List.getElem?_eq_none (by omega)]
    have h2 : (x.args.length : Int) ≤ i := by omega
    repeat' with_reducible first | refine W ?_ | refine Z0 ?_ | ((first | refine Wo fun K hK => ?_ | refine Wp ?_ | refine Wq ?_ | refine Wr ?_); (try simp only [go_sem, fN, seval, eT, iR, e2, e4, e8, e9, e10, s2, s4, hlt, hi, h0, h2, dT, dF, nL]); (repeat refine Ai ?_); (try (refine hK _ ?_; clear hK K)); try refine iC ?_)
    simp only [go_sem, fN, seval, AJ, AS.result, AA, AB, AH, e4, s4]
    try rfl
 ·have hd : p.drop k = [] := List.drop_of_length_le (by omega)
  rw [hd, Tm.atP_nil]
  repeat' with_reducible first | refine W ?_ | refine Z0 ?_ | ((first | refine Wo fun K hK => ?_ | refine Wp ?_ | refine Wq ?_ | refine Wr ?_); (try simp only [go_sem, fN, seval, eT, iR, e2, e4, e8, e9, e10, s2, s4, hlt, dT, dF, nL]); (repeat refine Ai ?_); (try (refine hK _ ?_; clear hK K)); try refine iC ?_)
  simp only [go_sem, fN, seval, AJ, AS.result, AA, AB, AH, e4, s4]
  try rfl
section
variable {C : Ctx} {s : AS}
theorem Af.ownCW (id j nid : Nat) (e : TypeId) (wd : Nat) {ty : TypeId} {cs : List AC} (hb : s.S id = some (.box ty cs)) (hc : cs[j]? = some (.full [])) (hn : s.S nid = none) :
  Af C s ((s.set nid (.mrow e wd [])).set id (.box ty (cs.set j (.row nid 0)))) := fun a w ⟨σ, ι, R⟩ => by
 have hbk := R.blk id _ hb
 have hne : id ≠ nid := fun e => by subst e; rw [hb] at hn; cases hn
 cases hbk with
 | @box _ _ g vs h1 h2 h3 h4 h5 =>
  obtain ⟨v, hv, hr⟩ := h4.get hc
  cases hr with
  | @full p len _ hs =>
   have hl : len = 0 := by
    obtain ⟨p', cap', e1, _⟩ := Cd hs
    cases e1
    rfl
   subst hl
   obtain ⟨hu, R'⟩ := R.fresh (w' := w) hn (.mrow e wd []) ⟨p, 0, none⟩ (Ext.refl _ _) R.fit (Below.refl _ _) (by simp) (fun S' ι' hu => .mnil rfl rfl)
   have hb' : (s.set nid (.mrow e wd [])).S id = some (.box ty cs) := by simp [AS.set, AO _ hne, hb]
   have hι : AM ι nid ⟨p, 0, none⟩ id = ι id := AO _ hne _
   obtain ⟨hu2, R2⟩ := R'.turn (w' := w) hb' (.box ty (cs.set j (.row nid 0))) (AM ι nid ⟨p, 0, none⟩ id) (σ' := σ) (fun _ _ h => h) (fun _ _ _ => rfl) R.fit (Nat.le_refl _) (fun _ => ⟨by simp [AN.wid], rfl⟩) ⟨rfl, rfl, rfl⟩ (Nat.le_refl _) (fun _ _ _ => rfl) (fun g h => .inl h) (fun hu2 => by
    refine .box (by rw [hι]; exact h1) (by rw [hι]; exact h2) h3 (Ag.of_get (by rw [List.length_set]; exact h4.len) fun k u c hu' hck => ?_) h5
    by_cases hk : k = j
    ·subst hk
     rw [hv] at hu'
     cases hu'
     have hlt : k < cs.length := (List.getElem?_eq_some_iff.1 hc).1
     rw [List.getElem?_set_self hlt] at hck
     cases hck
     exact .row (b := .mrow e wd []) (by simp [AS.set, AM, hne.symm]) (Nat.le_refl _) rfl fun _ => by simp [AM, hne.symm]
    ·rw [List.getElem?_set_ne (fun e => hk e.symm)] at hck
     obtain ⟨u', q1, q2⟩ := h4.get hck
     rw [hu'] at q1
     cases q1
     exact (q2.mono (fun _ _ h => h) hu).mono (fun _ _ h => h) hu2)
   exact ⟨_, _, R2⟩
end
theorem VF (t : Tm) (hz : t.size ≤ 1000000) (a0 : Nat) (S : AD) (ha : 1000 ≤ a0) (hSa : S a0 = none) : An Tryz.prog 72 [aTm t] S (.agg [.st (.str t.name), .row a0 t.args.length]) (AM S a0 (some (.mrow 29 2 (t.args.map Ap)))) := by
 have hs := Tm.size_eq t
 have hkn := Tm.length_le t.args
 refine Kx.acS fun hS C hC => ?_
 unfold Gr
 have k1 : S 1 = none := AR hS (by omega)
 have k2 : S 2 = none := AR hS (by omega)
 have k3 : S 3 = none := AR hS (by omega)
 have k5 : S 5 = none := AR hS (by omega)
 have k21 : S 21 = none := AR hS (by omega)
 repeat' with_reducible first | refine W ?_ | refine Z0 ?_ | ((first | refine Wo fun K hK => ?_ | refine Wq ?_ | refine Wr ?_); (try simp only [go_sem, fN, seval, eT, iR, AS.startS, k1, k2, k3]); (repeat refine Ai ?_); (try (refine hK _ ?_; clear hK K)))
 refine IWP.ghost (Af.ownCW 3 1 21 29 2 (by rfl) (by rfl) (by simp only [go_sem, fN, seval, eT, iR, k21])) ?_
 refine IWP.loopD [5] (fun m s => ∃ k, k ≤ t.args.length ∧ m = t.args.length - k ∧ s.env 2 = .one (.ptr 2 1 0 0) ∧ s.env 3 = .one (.ptr 3 1 0 0) ∧ s.S 2 = some (.box 29 [.st (.str ⟨#[]⟩), .full []]) ∧ s.S 3 = some (.box 29 [.st (.str t.name), .row 21 k]) ∧ s.S 21 = some (.mrow 29 2 ((t.args.take k).map Ap)) ∧ s.env 10 = .one (.st (.list (t.args.map Ap))) ∧ s.env 11 = AK t.args.length ∧ s.env 12 = AK k ∧ s.S 5 = none ∧ ∀ i, 1000 ≤ i → s.S i = S i)
  t.args.length ⟨0, Nat.zero_le _, rfl, rfl, rfl, by simp only [go_sem, fN, seval, eT, iR], by (simp only [go_sem, fN, seval, eT, iR]; rfl), by simp only [go_sem, fN, seval, eT, iR], rfl, rfl, rfl, by simp only [go_sem, fN, seval, eT, iR, k5], fun i hi => ?_⟩ ?_
 ·have i1 : ¬ i = 1 := by omega
  have i2 : ¬ i = 2 := by omega
  have i3 : ¬ i = 3 := by omega
  have i21 : ¬ i = 21 := by omega
  simp only [go_sem, fN, seval, eT, iR, i1, i2, i3, i21]
 rintro m ⟨env, S1⟩ ⟨k, hk, rfl, e2, e3, s2, s3, s21, e10, e11, e12, s5, hrest⟩
 simp only at e2 e3 s2 s3 s21 e10 e11 e12 s5 hrest
 have hlk : (t.args.take k).length = k := by rw [List.length_take]; omega
 by_cases hlt : (k : Int) < t.args.length
 ·obtain ⟨a, ha'⟩ := AT (show k < t.args.length by omega)
  repeat' (first | (with_reducible first | refine W ?_ | refine Z0 ?_ | ((first | refine Wo fun K hK => ?_ | refine Wp ?_ | refine Wq ?_ | refine Wr ?_); (try simp only [go_sem, fN, seval, eT, iR, e2, e3, s2, s3, s21, e10, e11, e12, s5, hlt, ha', hlk, dT, dF, nL]); (repeat refine Ai ?_); (try (refine hK _ ?_; clear hK K)); try refine iC ?_)) | refine Cg _ (NJ a (by have := Tm.size_mem (AI ha'); omega)) ?_)
  refine AE ⟨t.args.length - (k + 1), by omega, k + 1, by omega, rfl, ?_⟩
  simp only [go_sem, fN, seval, AS.drop, Ak, AC.clears, AC.clear, AC.highs, AC.high, Bool.not_false, Bool.true_and, Bool.and_self, AV.purge, AV.purges, AC.purge, AN.purge, List.contains_cons, List.contains_nil, Nat.reduceBEq, Bool.or_self, Bool.or_false, Bool.false_or, Bool.or_true, eT, iR, e2, e3, s2, s3, s21, e10, e11, e12, s5]
  refine ⟨by rw [AY ha']; simp [BC], by congr 3, fun i hi => ?_⟩
  have i3 : ¬ i = 3 := by omega
  have i5 : ¬ i = 5 := by omega
  have i5b : (i == 5) = false := by simp; omega
  have i21 : ¬ i = 21 := by omega
  simp only [go_sem, fN, seval, AS.drop, Ak, AC.clears, AC.clear, AC.highs, AC.high, Bool.not_false, Bool.true_and, Bool.and_self, AV.purge, AV.purges, AC.purge, AN.purge, List.contains_cons, List.contains_nil, Nat.reduceBEq, Bool.or_self, Bool.or_false, Bool.false_or, Bool.or_true, eT, iR, i3, i5, i5b, i21]
  rw [hrest i hi]
  cases hb : S i with
  | none => rfl
  | some b => simp [AN.purge_high (ds := [5]) (by decide) (hS i b hb).2]
 ·obtain rfl : k = t.args.length := by omega
  rw [List.take_of_length_le (by omega)] at s21
  repeat' with_reducible first | refine W ?_ | refine Z0 ?_ | ((first | refine Wo fun K hK => ?_ | refine Wp ?_ | refine Wq ?_ | refine Wr ?_); (try simp only [go_sem, fN, seval, eT, iR, e2, e3, s2, s3, s21, e10, e11, e12, s5, hlt, dT, dF, nL]); (repeat refine Ai ?_); (try (refine hK _ ?_; clear hK K)); try refine iC ?_)
  rw [show (.agg [.st (.str t.name), .row a0 t.args.length] : AV) = AV.ren (BP 21 a0) (.agg [.st (.str t.name), .row 21 t.args.length]) by simp [AV.ren, AC.ren, AC.rens, BP]]
  have n2 : ¬ a0 = 2 := by omega
  have n2' : ∀ i, 1000 ≤ i → ¬ i = 2 := fun i hi => by omega
  refine H3 trivial 21 a0 _ (b0 := .mrow 29 2 (t.args.map Ap)) (by omega) ha ?_ ?_ rfl ?_ ?_ ?_ ?_ (C2 hS ha rfl)
  ·simp [AM, n2, hrest a0 ha, hSa]
  ·simp [AM, s21]
  ·intro i b hi hb
   have hb : AM S1 2 _ i = some b := hb
   rw [AO _ (n2' i hi), hrest i hi] at hb
   exact (hS i b hb).2
  ·simp [AA, AB, AH, AM, e2, Co, Ol]
  ·simp [AV.ren, AC.ren, AC.rens, AV.high, AC.high, AC.highs, BP, ha]
  ·rw [HN _ (by omega)]
   congr 1
   funext i
   show (if i < 1000 then none else S1 i) = S i
   by_cases hi : i < 1000
   ·rw [if_pos hi, AR hS hi]
   ·rw [if_neg hi, hrest i (by omega)]
theorem Qv (x : Tm) (hx : x.size ≤ 1000000) : ∀ (p : List Int) (t : Tm), p.length ≤ 1000000 → t.atP p ≠ none → t.size ≤ 1000000 → AQ Tryz.prog 50 [aTm t, EA p, aTm x] (aTm (t.putP p x))
 | [], t, _, _, _ => by
  rw [Tm.putP_nil]
  refine HO.ac fun C hC => ?_
  unfold E4
  repeat' (first | (with_reducible first | refine W ?_ | refine Z0 ?_ | ((first | refine Wo fun K hK => ?_ | refine Wp ?_ | refine Wq ?_ | refine Wr ?_); (try simp only [go_sem, fN, seval, eT, iR, dT, dF, nL]); (repeat refine Ai ?_); (try (refine hK _ ?_; clear hK K)); try refine iC ?_)) | refine Cg _ (NJ x hx) ?_)
  simp only [go_sem, fN, seval, AJ, AS.result, AA, AB, AH]
 | i :: p, t, hpl, hp, hz => by
  rw [Tm.atP_cons] at hp
  have h0 : ¬ i < 0 := fun h => hp (by rw [if_pos h])
  rw [if_neg h0] at hp
  obtain ⟨a, ha⟩ : ∃ a, t.args[i.toNat]? = some a := by
   cases h : t.args[i.toNat]? with
   | none => rw [h] at hp; exact absurd rfl hp
   | some a => exact ⟨a, rfl⟩
  rw [ha] at hp
  obtain ⟨n, rfl⟩ : ∃ n : Nat, i = n := ⟨i.toNat, by omega⟩
  rw [Int.toNat_natCast] at ha
  rw [Tm.putP_at ha]
  have hlt : n < t.args.length := (List.getElem?_eq_some_iff.1 ha).1
  have hlt' : (n : Int) < t.args.length := by omega
  have hsz := Tm.size_mem (List.mem_of_getElem? ha)
  have hszq := Tm.size_eq t
  have ih := Qv x hx p a (by simp at hpl; omega) hp (by omega)
  have hl0 : ¬ (((p.length + 1 : Nat) : Int) = 0) := by omega
  have hseq := Tm.size_eq t
  refine HO.ac fun C hC => ?_
  unfold E4
  repeat' with_reducible first | refine W ?_ | refine Z0 ?_ | ((first | refine Wo fun K hK => ?_ | refine Wp ?_ | refine Wq ?_ | refine Wr ?_); (try simp only [go_sem, fN, seval, eT, iR, hl0, dT, dF, nL]); (repeat refine Ai ?_); (try (refine hK _ ?_; clear hK K)); try refine iC ?_)
  refine ⟨_, _, VF t hz (up1 13) _ (Aw 13) (by rw [A7]; rfl), ?_⟩
  have htk : List.take p.length (List.map HL p) = List.map HL p := List.take_of_length_le (by simp)
  have hl1 : (t.args.set n (a.putP p x)).length = t.args.length := by simp
  refine Wr ?_
  simp only [go_sem, fN, seval, eT, iR]
  refine hK _ ?_
  clear hK K
  refine Wb ?_
  refine IWP.mid (fun y => y.env 3 = .one (.ptr 3 1 0 0) ∧ y.env 6 = .one (.ptr 6 1 0 0) ∧ y.S 3 = some (.box 29 [.st (.str t.name), .row 13 t.args.length]) ∧ y.S 6 = some (.box 29 [.st (.str ⟨#[]⟩), .full []]) ∧ y.S 13 = some (.mrow 29 2 ((t.args.set n (a.putP p x)).map Ap))) ?_ ?_
  ·repeat' (first | (with_reducible first | refine W ?_ | refine Z0 ?_ | ((first | refine Wo fun K hK => ?_ | refine Wp ?_ | refine Wq ?_ | refine Wr ?_); (try simp only [go_sem, fN, seval, eT, iR, ha, hlt', htk, dT, dF, nL]); (repeat refine Ai ?_); (try (refine hK _ ?_; clear hK K)); try refine iC ?_)) | refine Cg _ (ih) ?_)
   refine ⟨rfl, ?_⟩
   simp only [go_sem, fN, seval, eT, iR, ha, hlt']
   rw [List.map_set, BC]
  rintro ⟨env, S⟩ ⟨e3, e6, s3, s6, s13⟩
  simp only at e3 e6 s3 s6 s13
  refine IWP.ghost (Af.share (id := 13) s13) ?_
  repeat' with_reducible first | refine W ?_ | refine Z0 ?_ | ((first | refine Wo fun K hK => ?_ | refine Wp ?_ | refine Wq ?_ | refine Wr ?_); (try simp only [go_sem, fN, seval, eT, iR, e3, e6, s3, s6, hl1, dT, dF, nL]); (repeat refine Ai ?_); (try (refine hK _ ?_; clear hK K)); try refine iC ?_)
  simp only [go_sem, fN, seval, AJ, AS.result, AA, AB, AH, e6, s6, hl1]
  try rfl

set_option maxRecDepth 100000
def Bm : IR :=
 (.seq (.ops [.i 4 (.mov (.c (.one (.st (.bool false)))))]) (.seq (.ops [.m 5 0, .m 6 1, .i 7 (.callS 66 [.t 5, .t 6]), .i 8 (.bin .geq (.t 7) (.n 0)), .m 4 8]) .ret))
theorem Cl : OkF Tryz.prog 42 9 [7] Bm [.t 4] := .of Tryz.func42 rfl rfl (by kernel_rfl) rfl
def Bt : IR :=
 (.seq (.ops [.i 4 (.mov (.n 0))]) (.seq (.seq (.ops [.m 6 0, .i 7 (.len false (.t 6)), .i 8 (.mov (.n 0))]) (.block 0 (.loop (.seq (.ops [.i 9 (.bin .lss (.t 8) (.t 7))]) (.seq (.cond (.t 9) .skip (.exit 0)) (.seq (.block 1 (.seq (.ops [.m 10 8, .m 5 10]) (.seq (.ops [.m 11 1, .m 12 0, .m 13 5, .i 14 (.indexAddr 1 (.t 12) (.t 13)), .l 15 14, .i 16 (.callV (.t 11) [.t 15])]) (.cond (.t 16) (.seq (.ops [.m 17 5, .m 4 17]) .ret) .skip)))) (.ops [.i 18 (.bin .add (.t 8) (.n 1)), .m 8 18]))))))) (.seq (.ops [.i 4 (.mov (.c (.one (.st (.int .i64 (-1))))))]) .ret)))
theorem C6 : OkF Tryz.prog 66 19 [] Bt [.t 4] := .of Tryz.func66 rfl rfl (by kernel_rfl) rfl
def D5 : IR :=
 (.seq (.ops [.i 3 (.mov (.c (.one (.st (.bool false)))))]) (.seq (.ops [.l 4 1, .m 5 0, .i 6 (.call 44 [.t 4, .t 5]), .i 7 (.un .not (.t 6)), .m 3 7]) .ret))
theorem Gy : OkF Tryz.prog 43 8 [] D5 [.t 3] := .of Tryz.func43 rfl rfl (by kernel_rfl) rfl
def Ev : IR :=
 (.seq (.ops [.i 2 (.mov (.n 0))]) (.seq (.seq (.ops [.m 7 0, .i 8 (.len false (.t 7)), .i 9 (.bin .gtr (.t 8) (.n 40))]) (.cond (.t 9) (.seq (.ops [.i 2 (.mov (.n 3))]) .ret) .skip)) (.seq (.seq (.ops [.m 10 0, .i 11 (.len false (.t 10)), .i 12 (.mov (.n 0))]) (.block 0 (.loop (.seq (.ops [.i 13 (.bin .lss (.t 12) (.t 11))]) (.seq (.cond (.t 13) .skip (.exit 0)) (.seq (.block 1 (.seq (.ops [.i 14 (.indexAddr 4 (.t 10) (.t 12)), .L 15 4 14, .i 4 (.alloc 31 [.st (.str (ByteArray.mk (#[]))), .full [], .st (.str (ByteArray.mk (#[]))), .full []]), .s 4 4 15]) (.seq (.seq (.ops [.f 16 0 4, .L 17 2 16, .f 18 2 4, .L 19 2 18, .i 20 (.call 39 [.t 17, .t 19]), .m 5 20]) (.seq (.ops [.m 21 5, .i 22 (.bin .neq (.t 21) (.n 0))]) (.cond (.t 22) (.seq (.ops [.m 23 5, .m 2 23]) .ret) .skip))) (.seq (.seq (.ops [.f 24 0 4, .f 25 0 24, .l 26 25, .i 27 (.call 40 [.t 26])]) (.cond (.t 27) (.seq (.ops [.i 2 (.mov (.n 2))]) .ret) .skip)) (.seq (.ops [.f 28 0 4, .L 29 2 28, .i 30 (.call 41 [.t 29]), .i 6 (.alloc 46 [.full []]), .s 1 6 30]) (.seq (.ops [.f 31 2 4, .L 32 2 31, .i 33 (.call 41 [.t 32]), .i 34 (.makeFunc 43 [.t 6]), .i 35 (.callS 42 [.t 33, .t 34])]) (.cond (.t 35) (.seq (.ops [.i 2 (.mov (.n 15))]) .ret) .skip))))))) (.ops [.i 36 (.bin .add (.t 12) (.n 1)), .m 12 36]))))))) (.seq (.ops [.i 2 (.mov (.n 0))]) .ret))))
theorem H5 : OkF Tryz.prog 23 37 [35] Ev [.t 2] := .of Tryz.func23 rfl rfl (by kernel_rfl) rfl
def FL : IR :=
 (.seq (.ops [.i 4 (.box 29 (.t 1)), .i 6 (.alloc 29 [.st (.str (ByteArray.mk (#[]))), .full []]), .i 7 (.mov (.n 0)), .i 8 (.mov (.n 0))]) (.seq (.seq (.ops [.m 14 2, .m 9 14]) (.block 0 (.loop (.seq (.seq (.ops [.m 15 9, .m 16 0, .i 17 (.len false (.t 16)), .i 18 (.bin .lss (.t 15) (.t 17))]) (.cond (.t 18) .skip (.exit 0))) (.seq (.block 1 (.seq (.ops [.m 22 0, .m 23 9, .i 24 (.indexAddr 4 (.t 22) (.t 23)), .f 25 0 24, .L 26 2 25, .L 27 2 4, .i 28 (.call 99 [.t 26, .t 27]), .m 21 28, .i 29 (.extract 0 (.t 21)), .i 30 (.extract 1 (.t 21)), .m 10 29, .m 11 30]) (.seq (.ops [.m 31 11]) (.cond (.t 31) (.seq (.ops [.m 33 10, .m 34 0, .m 35 9, .i 36 (.indexAddr 4 (.t 34) (.t 35)), .f 37 2 36, .L 38 2 37, .i 39 (.call 49 [.t 33, .t 38]), .m 32 39, .i 40 (.extract 0 (.t 32)), .i 41 (.extract 1 (.t 32)), .i 12 (.alloc 29 [.st (.str (ByteArray.mk (#[]))), .full []]), .s 2 12 40, .m 13 41]) (.seq (.seq (.ops [.m 42 13, .i 43 (.un .not (.t 42))]) (.cond (.t 43) (.seq (.ops [.i 44 (.build [.st (.str (ByteArray.mk (#[]))), .full []] []), .m 45 9, .s 2 6 44, .m 7 45, .i 8 (.mov (.n 8))]) .ret) .skip)) (.seq (.ops [.L 46 2 12, .m 47 9, .s 2 6 46, .m 7 47, .i 8 (.mov (.n 0))]) .ret))) .skip)))) (.ops [.m 19 9, .i 20 (.bin .add (.t 19) (.n 1)), .m 9 20])))))) (.seq (.ops [.i 48 (.build [.st (.str (ByteArray.mk (#[]))), .full []] []), .s 2 6 48, .i 7 (.mov (.c (.one (.st (.int .i64 (-1)))))), .i 8 (.mov (.n 0))]) .ret)))
theorem JI : OkF Tryz.prog 90 49 [] FL [.cell 6 true 2, .t 7, .t 8] := .of Tryz.func90 rfl rfl (by kernel_rfl) rfl
def Da : IR :=
 (.seq (.ops [.i 3 (.box 29 (.t 1)), .i 4 (.alloc 29 [.st (.str (ByteArray.mk (#[]))), .full []]), .i 5 (.mov (.c (.one (.st (.bool false))))), .i 6 (.mov (.n 0))]) (.seq (.seq (.ops [.f 15 1 3, .l 16 15, .i 17 (.len false (.t 16)), .i 18 (.mov (.n 0))]) (.block 0 (.loop (.seq (.ops [.i 19 (.bin .lss (.t 18) (.t 17))]) (.seq (.cond (.t 19) .skip (.exit 0)) (.seq (.block 1 (.seq (.ops [.m 20 18, .m 7 20]) (.seq (.ops [.m 22 0, .f 23 1 3, .l 24 23, .m 25 7, .i 26 (.indexAddr 2 (.t 24) (.t 25)), .L 27 2 26, .i 28 (.call 75 [.t 22, .t 27]), .m 21 28, .i 29 (.extract 0 (.t 21)), .i 30 (.extract 1 (.t 21)), .i 31 (.extract 2 (.t 21)), .i 8 (.alloc 29 [.st (.str (ByteArray.mk (#[]))), .full []]), .s 2 8 29, .m 9 30, .m 10 31]) (.seq (.ops [.m 32 10, .i 33 (.bin .neq (.t 32) (.n 0)), .m 34 33, .mk (some 35) (some (34, false)) (.mov (.t 9)) .no, .i 36 (.pick (.t 34) (.c (.one (.st (.bool true)))) (.t 35))]) (.cond (.t 36) (.seq (.ops [.f 37 0 3, .l 38 37, .f 39 1 3, .l 40 39, .i 41 (.callN 89 [.t 40]), .i 42 (.build [.st (.str (ByteArray.mk (#[]))), .full []] [(0, 1, .t 38), (1, 1, .t 41)]), .i 11 (.alloc 29 [.st (.str (ByteArray.mk (#[]))), .full []]), .s 2 11 42]) (.seq (.ops [.f 43 1 11, .l 44 43, .m 45 7, .L 46 2 8, .i 47 (.indexAddr 2 (.t 44) (.t 45)), .s 2 47 46]) (.seq (.ops [.L 48 2 11, .m 49 9, .m 50 10, .s 2 4 48, .m 5 49, .m 6 50]) .ret))) .skip))))) (.ops [.i 51 (.bin .add (.t 18) (.n 1)), .m 18 51]))))))) (.seq (.ops [.m 53 0, .L 54 2 3, .i 55 (.call 90 [.t 53, .t 54, .n 0]), .m 52 55, .i 56 (.extract 0 (.t 52)), .i 57 (.extract 1 (.t 52)), .i 58 (.extract 2 (.t 52)), .i 12 (.alloc 29 [.st (.str (ByteArray.mk (#[]))), .full []]), .s 2 12 56, .m 13 57, .m 14 58]) (.seq (.ops [.L 59 2 12, .m 60 13, .i 61 (.bin .geq (.t 60) (.n 0)), .m 62 14, .s 2 4 59, .m 5 61, .m 6 62]) .ret))))
theorem Fm : OkF Tryz.prog 75 63 [20000041] Da [.cell 4 true 2, .t 5, .t 6] := .of Tryz.func75 rfl rfl (by kernel_rfl) rfl
def FQ : IR :=
 (.seq (.ops [.i 4 (.box 29 (.t 1)), .i 6 (.alloc 29 [.st (.str (ByteArray.mk (#[]))), .full []]), .i 7 (.mov (.n 0)), .i 8 (.mov (.n 0))]) (.seq (.ops [.L 13 2 4, .i 14 (.call 72 [.t 13]), .s 2 4 14]) (.seq (.ops [.i 9 (.mov (.n 0))]) (.block 0 (.loop (.seq (.block 1 (.seq (.ops [.m 18 0, .L 19 2 4, .i 20 (.call 75 [.t 18, .t 19]), .m 17 20, .i 21 (.extract 0 (.t 17)), .i 22 (.extract 1 (.t 17)), .i 23 (.extract 2 (.t 17)), .i 10 (.alloc 29 [.st (.str (ByteArray.mk (#[]))), .full []]), .s 2 10 21, .m 11 22, .m 12 23]) (.seq (.seq (.ops [.m 24 11, .m 25 24, .mk (some 26) (some (25, true)) (.mov (.t 9)) .no, .mk (some 27) (some (25, true)) (.mov (.t 2)) .no, .mk (some 28) (some (25, true)) (.bin .eql (.t 26) (.t 27)) .no, .i 29 (.pick (.t 25) (.t 28) (.c (.one (.st (.bool false)))))]) (.cond (.t 29) (.ops [.i 12 (.mov (.n 9))]) .skip)) (.seq (.seq (.ops [.m 30 12, .i 31 (.bin .neq (.t 30) (.n 0))]) (.cond (.t 31) (.seq (.ops [.i 32 (.build [.st (.str (ByteArray.mk (#[]))), .full []] []), .m 33 12, .s 2 6 32, .i 7 (.mov (.n 0)), .m 8 33]) .ret) .skip)) (.seq (.seq (.ops [.m 34 11, .i 35 (.un .not (.t 34))]) (.cond (.t 35) (.seq (.ops [.L 36 2 4, .m 37 9, .s 2 6 36, .m 7 37, .i 8 (.mov (.n 0))]) .ret) .skip)) (.seq (.ops [.L 38 2 10, .s 2 4 38]) (.seq (.ops [.L 39 2 4, .i 40 (.call 76 [.t 39]), .i 41 (.bin .gtr (.t 40) (.n 2000))]) (.cond (.t 41) (.seq (.ops [.i 42 (.build [.st (.str (ByteArray.mk (#[]))), .full []] []), .s 2 6 42, .i 7 (.mov (.n 0)), .i 8 (.mov (.n 8))]) .ret) .skip)))))))) (.ops [.m 15 9, .i 16 (.bin .add (.t 15) (.n 1)), .m 9 16])))))))
theorem JJ : OkF Tryz.prog 52 43 [] FQ [.cell 6 true 2, .t 7, .t 8] := .of Tryz.func52 rfl rfl (by kernel_rfl) rfl
def F7 : IR :=
 (.seq (.ops [.i 5 (.box 29 (.t 1)), .i 6 (.box 29 (.t 2)), .i 8 (.mov (.c (.one (.st (.bool false))))), .i 9 (.mov (.n 0))]) (.seq (.ops [.m 16 0, .L 17 2 5, .m 18 3, .i 19 (.call 52 [.t 16, .t 17, .t 18]), .m 15 19, .i 20 (.extract 0 (.t 15)), .i 21 (.extract 1 (.t 15)), .i 22 (.extract 2 (.t 15)), .i 10 (.alloc 29 [.st (.str (ByteArray.mk (#[]))), .full []]), .s 2 10 20, .m 11 21, .m 12 22]) (.seq (.seq (.ops [.m 23 12, .i 24 (.bin .neq (.t 23) (.n 0))]) (.cond (.t 24) (.seq (.ops [.m 25 12, .i 8 (.mov (.c (.one (.st (.bool false))))), .m 9 25]) .ret) .skip)) (.seq (.ops [.m 27 0, .L 28 2 6, .m 29 3, .i 30 (.call 52 [.t 27, .t 28, .t 29]), .m 26 30, .i 31 (.extract 0 (.t 26)), .i 32 (.extract 1 (.t 26)), .i 33 (.extract 2 (.t 26)), .i 13 (.alloc 29 [.st (.str (ByteArray.mk (#[]))), .full []]), .s 2 13 31, .m 14 32, .m 12 33]) (.seq (.seq (.ops [.m 34 12, .i 35 (.bin .neq (.t 34) (.n 0))]) (.cond (.t 35) (.seq (.ops [.m 36 12, .i 8 (.mov (.c (.one (.st (.bool false))))), .m 9 36]) .ret) .skip)) (.seq (.ops [.L 37 2 10, .L 38 2 13, .i 39 (.call 53 [.t 37, .t 38]), .m 8 39, .i 9 (.mov (.n 0))]) .ret))))))
theorem Jq : OkF Tryz.prog 25 40 [] F7 [.t 8, .t 9] := .of Tryz.func25 rfl rfl (by kernel_rfl) rfl
def GU : IR :=
 (.seq (.ops [.i 2 (.mov (.n 0))]) (.seq (.seq (.ops [.m 8 0, .i 9 (.len false (.t 8)), .i 10 (.bin .gtr (.t 9) (.n 40))]) (.cond (.t 10) (.seq (.ops [.i 2 (.mov (.n 3))]) .ret) .skip)) (.seq (.seq (.ops [.i 3 (.mov (.n 0))]) (.block 0 (.loop (.seq (.seq (.ops [.m 11 3, .m 12 0, .i 13 (.len false (.t 12)), .i 14 (.bin .lss (.t 11) (.t 13))]) (.cond (.t 14) .skip (.exit 0))) (.seq (.block 1 (.seq (.ops [.m 17 0, .m 18 3, .i 19 (.indexAddr 4 (.t 17) (.t 18)), .f 20 0 19, .L 21 2 20, .m 22 0, .m 23 3, .i 24 (.indexAddr 4 (.t 22) (.t 23)), .f 25 2 24, .L 26 2 25, .i 27 (.call 17 [.t 21, .t 26]), .m 4 27]) (.seq (.seq (.ops [.m 28 4, .i 29 (.bin .neq (.t 28) (.n 0))]) (.cond (.t 29) (.seq (.ops [.m 30 4, .m 2 30]) .ret) .skip)) (.seq (.seq (.ops [.m 31 0, .m 32 3, .i 33 (.indexAddr 4 (.t 31) (.t 32)), .f 34 0 33, .f 35 0 34, .l 36 35, .i 37 (.call 18 [.t 36])]) (.cond (.t 37) (.seq (.ops [.i 2 (.mov (.n 2))]) .ret) .skip)) (.seq (.ops [.m 38 0, .m 39 3, .i 40 (.indexAddr 4 (.t 38) (.t 39)), .f 41 0 40, .L 42 2 41, .i 43 (.call 19 [.t 42]), .m 5 43]) (.seq (.ops [.m 44 0, .m 45 3, .i 46 (.indexAddr 4 (.t 44) (.t 45)), .f 47 2 46, .L 48 2 47, .i 49 (.call 19 [.t 48]), .m 6 49]) (.seq (.ops [.i 7 (.mov (.n 0))]) (.block 2 (.loop (.seq (.seq (.ops [.m 50 7, .m 51 6, .i 52 (.len false (.t 51)), .i 53 (.bin .lss (.t 50) (.t 52))]) (.cond (.t 53) .skip (.exit 2))) (.seq (.block 3 (.seq (.ops [.m 56 6, .m 57 7, .i 58 (.indexAddr 1 (.t 56) (.t 57)), .l 59 58, .m 60 5, .i 61 (.call 20 [.t 59, .t 60]), .i 62 (.un .not (.t 61))]) (.cond (.t 62) (.seq (.ops [.i 2 (.mov (.n 15))]) .ret) .skip))) (.ops [.m 54 7, .i 55 (.bin .add (.t 54) (.n 1)), .m 7 55])))))))))))) (.ops [.m 15 3, .i 16 (.bin .add (.t 15) (.n 1)), .m 3 16])))))) (.seq (.ops [.i 2 (.mov (.n 0))]) .ret))))
theorem K0 : OkF Tryz.prog 6 63 [] GU [.t 2] := .of Tryz.func6 rfl rfl (by kernel_rfl) rfl
def ME : IR :=
 (.seq (.ops [.i 2 (.box 31 (.t 0)), .i 3 (.box 29 (.t 1)), .i 4 (.alloc 29 [.st (.str (ByteArray.mk (#[]))), .full []]), .i 5 (.mov (.c (.one (.st (.bool false))))), .i 6 (.mov (.c (.one (.st (.bool false)))))]) (.seq (.ops [.f 12 0 2, .L 13 2 12, .L 14 2 3, .i 15 (.call 81 [.t 13, .t 14]), .m 11 15, .i 16 (.extract 0 (.t 11)), .i 17 (.extract 1 (.t 11)), .m 7 16, .m 8 17]) (.seq (.seq (.ops [.m 18 8, .i 19 (.un .not (.t 18))]) (.cond (.t 19) (.seq (.ops [.i 20 (.build [.st (.str (ByteArray.mk (#[]))), .full []] []), .s 2 4 20, .i 5 (.mov (.c (.one (.st (.bool false))))), .i 6 (.mov (.c (.one (.st (.bool false)))))]) .ret) .skip)) (.seq (.ops [.m 22 7, .f 23 2 2, .L 24 2 23, .i 25 (.call 35 [.t 22, .t 24]), .m 21 25, .i 26 (.extract 0 (.t 21)), .i 27 (.extract 1 (.t 21)), .i 9 (.alloc 29 [.st (.str (ByteArray.mk (#[]))), .full []]), .s 2 9 26, .m 10 27]) (.seq (.ops [.L 28 2 9, .m 29 10, .i 30 (.un .not (.t 29)), .s 2 4 28, .i 5 (.mov (.c (.one (.st (.bool true))))), .m 6 30]) .ret)))))
theorem Ss : OkF Tryz.prog 63 31 [] ME [.cell 4 true 2, .t 5, .t 6] := .of Tryz.func63 rfl rfl (by kernel_rfl) rfl
def Nm : IR :=
 (.seq (.ops [.i 3 (.box 29 (.t 1)), .i 4 (.mov (.c (.one (.st (.bool false)))))]) (.seq (.seq (.ops [.i 5 (.mov (.n 0))]) (.block 0 (.loop (.seq (.seq (.ops [.m 8 5, .m 9 0, .i 10 (.len false (.t 9)), .i 11 (.bin .lss (.t 8) (.t 10))]) (.cond (.t 11) .skip (.exit 0))) (.seq (.block 1 (.seq (.ops [.m 15 0, .m 16 5, .i 17 (.indexAddr 4 (.t 15) (.t 16)), .f 18 0 17, .L 19 2 18, .L 20 2 3, .i 21 (.call 81 [.t 19, .t 20]), .m 14 21, .i 22 (.extract 0 (.t 14)), .i 23 (.extract 1 (.t 14)), .m 6 22, .m 7 23]) (.seq (.ops [.m 24 7]) (.cond (.t 24) (.seq (.ops [.i 4 (.mov (.c (.one (.st (.bool true)))))]) .ret) .skip)))) (.ops [.m 12 5, .i 13 (.bin .add (.t 12) (.n 1)), .m 5 13])))))) (.seq (.ops [.i 4 (.mov (.c (.one (.st (.bool false)))))]) .ret)))
theorem To : OkF Tryz.prog 80 25 [] Nm [.t 4] := .of Tryz.func80 rfl rfl (by kernel_rfl) rfl
def LZ : IR :=
 (.seq (.ops [.i 4 (.box 29 (.t 1)), .i 6 (.mov (.c (.one (.full [])))), .i 7 (.mov (.c (.one (.st (.bool false)))))]) (.seq (.ops [.L 15 2 4, .i 16 (.call 32 [.t 15]), .m 8 16]) (.seq (.seq (.ops [.i 9 (.mov (.n 0))]) (.block 0 (.loop (.seq (.seq (.ops [.m 17 9, .m 18 8, .i 19 (.len false (.t 18)), .i 20 (.bin .lss (.t 17) (.t 19))]) (.cond (.t 20) .skip (.exit 0))) (.seq (.block 1 (.seq (.ops [.L 24 2 4, .m 25 8, .m 26 9, .i 27 (.indexAddr 1 (.t 25) (.t 26)), .l 28 27, .i 29 (.call 33 [.t 24, .t 28]), .m 23 29, .i 30 (.extract 0 (.t 23)), .i 31 (.extract 1 (.t 23)), .i 10 (.alloc 29 [.st (.str (ByteArray.mk (#[]))), .full []]), .s 2 10 30, .m 11 31]) (.seq (.seq (.ops [.m 32 0, .L 33 2 10, .i 34 (.call 80 [.t 32, .t 33]), .i 35 (.un .not (.t 34))]) (.cond (.t 35) (.exit 1) .skip)) (.seq (.ops [.L 36 2 10, .i 37 (.call 30 [.t 36]), .m 12 37]) (.seq (.ops [.i 13 (.mov (.c (.one (.st (.bool true)))))]) (.seq (.seq (.ops [.i 14 (.mov (.n 1))]) (.block 2 (.loop (.seq (.seq (.ops [.m 38 14, .m 39 12, .i 40 (.len false (.t 39)), .i 41 (.bin .lss (.t 38) (.t 40)), .m 42 41, .mk (some 43) (some (42, true)) (.mov (.t 2)) .no, .i 44 (.pick (.t 42) (.t 43) (.c (.one (.st (.bool false))))), .m 45 44, .mk (some 46) (some (45, true)) (.mov (.t 13)) .no, .i 47 (.pick (.t 45) (.t 46) (.c (.one (.st (.bool false)))))]) (.cond (.t 47) .skip (.exit 2))) (.seq (.block 3 (.ops [.m 50 0, .m 51 12, .m 52 14, .i 53 (.indexAddr 2 (.t 51) (.t 52)), .L 54 2 53, .i 55 (.call 80 [.t 50, .t 54]), .i 56 (.un .not (.t 55)), .m 13 56])) (.ops [.m 48 14, .i 49 (.bin .add (.t 48) (.n 1)), .m 14 49])))))) (.seq (.ops [.m 57 13]) (.cond (.t 57) (.seq (.ops [.m 58 8, .m 59 9, .i 60 (.indexAddr 1 (.t 58) (.t 59)), .l 61 60, .m 6 61, .i 7 (.mov (.c (.one (.st (.bool true)))))]) .ret) .skip)))))))) (.ops [.m 21 9, .i 22 (.bin .add (.t 21) (.n 1)), .m 9 22])))))) (.seq (.ops [.i 6 (.mov (.c (.one (.full [])))), .i 7 (.mov (.c (.one (.st (.bool false)))))]) .ret))))
theorem Rx : OkF Tryz.prog 62 62 [] LZ [.t 6, .t 7] := .of Tryz.func62 rfl rfl (by kernel_rfl) rfl
def J6 : IR :=
 (.seq (.ops [.i 5 (.box 29 (.t 1)), .i 8 (.alloc 29 [.st (.str (ByteArray.mk (#[]))), .full []]), .i 9 (.mov (.n 0)), .i 10 (.mov (.n 0))]) (.seq (.ops [.i 11 (.mov (.n 0))]) (.block 0 (.loop (.block 1 (.seq (.ops [.m 21 0, .L 22 2 5, .m 23 3, .i 24 (.call 62 [.t 21, .t 22, .t 23]), .m 20 24, .i 25 (.extract 0 (.t 20)), .i 26 (.extract 1 (.t 20)), .m 12 25, .m 13 26]) (.seq (.seq (.ops [.m 27 13, .i 28 (.un .not (.t 27))]) (.cond (.t 28) (.seq (.ops [.L 29 2 5, .m 30 11, .s 2 8 29, .m 9 30, .i 10 (.mov (.n 0))]) .ret) .skip)) (.seq (.seq (.ops [.m 31 11, .m 32 2, .i 33 (.bin .eql (.t 31) (.t 32))]) (.cond (.t 33) (.seq (.ops [.i 34 (.build [.st (.str (ByteArray.mk (#[]))), .full []] []), .s 2 8 34, .i 9 (.mov (.n 0)), .i 10 (.mov (.n 9))]) .ret) .skip)) (.seq (.ops [.m 35 11, .i 36 (.bin .add (.t 35) (.n 1)), .m 11 36]) (.seq (.ops [.L 38 2 5, .m 39 12, .i 40 (.call 33 [.t 38, .t 39]), .m 37 40, .i 41 (.extract 0 (.t 37)), .i 42 (.extract 1 (.t 37)), .i 14 (.alloc 29 [.st (.str (ByteArray.mk (#[]))), .full []]), .s 2 14 41, .m 15 42]) (.seq (.seq (.ops [.i 16 (.mov (.n 0))]) (.block 2 (.loop (.seq (.seq (.ops [.m 43 16, .m 44 0, .i 45 (.len false (.t 44)), .i 46 (.bin .lss (.t 43) (.t 45))]) (.cond (.t 46) .skip (.exit 2))) (.seq (.block 3 (.seq (.ops [.m 50 0, .m 51 16, .i 52 (.indexAddr 4 (.t 50) (.t 51)), .L 53 4 52, .L 54 2 14, .i 55 (.call 63 [.t 53, .t 54]), .m 49 55, .i 56 (.extract 0 (.t 49)), .i 57 (.extract 1 (.t 49)), .i 58 (.extract 2 (.t 49)), .i 17 (.alloc 29 [.st (.str (ByteArray.mk (#[]))), .full []]), .s 2 17 56, .m 18 57, .m 19 58]) (.seq (.seq (.ops [.m 59 19]) (.cond (.t 59) (.seq (.ops [.i 60 (.build [.st (.str (ByteArray.mk (#[]))), .full []] []), .s 2 8 60, .i 9 (.mov (.n 0)), .i 10 (.mov (.n 8))]) .ret) .skip)) (.seq (.ops [.m 61 18]) (.cond (.t 61) (.seq (.ops [.L 62 2 5, .m 63 12, .L 64 2 17, .i 65 (.call 36 [.t 62, .t 63, .t 64]), .s 2 5 65]) (.exit 2)) .skip))))) (.ops [.m 47 16, .i 48 (.bin .add (.t 47) (.n 1)), .m 16 48])))))) (.seq (.ops [.L 66 2 5, .i 67 (.call 7 [.t 66, .n 2000]), .i 68 (.bin .gtr (.t 67) (.n 2000))]) (.cond (.t 68) (.seq (.ops [.i 69 (.build [.st (.str (ByteArray.mk (#[]))), .full []] []), .s 2 8 69, .i 9 (.mov (.n 0)), .i 10 (.mov (.n 8))]) .ret) .skip)))))))))))))
theorem Pj : OkF Tryz.prog 38 70 [] J6 [.cell 8 true 2, .t 9, .t 10] := .of Tryz.func38 rfl rfl (by kernel_rfl) rfl
def Ia : IR :=
 (.seq (.ops [.i 5 (.box 29 (.t 1)), .i 6 (.box 29 (.t 2)), .i 8 (.mov (.c (.one (.st (.bool false))))), .i 9 (.mov (.n 0))]) (.seq (.ops [.m 16 0, .L 17 2 5, .m 18 3, .i 19 (.call 38 [.t 16, .t 17, .t 18, .c (.one (.st (.bool true)))]), .m 15 19, .i 20 (.extract 0 (.t 15)), .i 21 (.extract 1 (.t 15)), .i 22 (.extract 2 (.t 15)), .i 10 (.alloc 29 [.st (.str (ByteArray.mk (#[]))), .full []]), .s 2 10 20, .m 11 21, .m 12 22]) (.seq (.seq (.ops [.m 23 12, .i 24 (.bin .neq (.t 23) (.n 0))]) (.cond (.t 24) (.seq (.ops [.m 25 12, .i 8 (.mov (.c (.one (.st (.bool false))))), .m 9 25]) .ret) .skip)) (.seq (.ops [.m 27 0, .L 28 2 6, .m 29 3, .i 30 (.call 38 [.t 27, .t 28, .t 29, .c (.one (.st (.bool true)))]), .m 26 30, .i 31 (.extract 0 (.t 26)), .i 32 (.extract 1 (.t 26)), .i 33 (.extract 2 (.t 26)), .i 13 (.alloc 29 [.st (.str (ByteArray.mk (#[]))), .full []]), .s 2 13 31, .m 14 32, .m 12 33]) (.seq (.seq (.ops [.m 34 12, .i 35 (.bin .neq (.t 34) (.n 0))]) (.cond (.t 35) (.seq (.ops [.m 36 12, .i 8 (.mov (.c (.one (.st (.bool false))))), .m 9 36]) .ret) .skip)) (.seq (.ops [.L 37 2 10, .L 38 2 13, .i 39 (.call 26 [.t 37, .t 38]), .m 8 39, .i 9 (.mov (.n 0))]) .ret))))))
theorem Om : OkF Tryz.prog 22 40 [] Ia [.t 8, .t 9] := .of Tryz.func22 rfl rfl (by kernel_rfl) rfl

abbrev WU (vs : List ByteArray) : AN := .box 46 [.st (.list (vs.map DU))]
theorem Tc (vs : List ByteArray) (x : ByteArray) (b : Nat) (hb : 1000 ≤ b) (S : AD) (sb : S b = some (WU vs)) : An Tryz.prog 43 [Bi x, .one (.ptr b 1 0 0)] S (Ab (!B_ x vs)) S := by
 refine Gy.acS fun hS C hC => ?_
 unfold D5
 repeat' (first | (with_reducible first | refine W ?_ | refine Z0 ?_ | ((first | refine Wo fun K hK => ?_ | refine Wp ?_ | refine Wq ?_ | refine Wr ?_); (try simp only [go_sem, fN, seval, eT, iR, sb, dT, dF, nL]); (repeat refine Ai ?_); (try (refine hK _ ?_; clear hK K)); try refine iC ?_)) | refine Cg _ (G2 vs x) ?_)
 refine CR (Ab (!B_ x vs)) hS trivial ?_ rfl fun _ _ => rfl
 simp [AA, AB, AH, AM]
theorem T_ {p : ByteArray → Bool} (xs : List ByteArray) : 0 ≤ (match xs.findIdx? p with | some i => (i : Int) | none => -1) ↔ xs.any p = true := by
 cases h : xs.findIdx? p with
 | some i =>
  rw [List.findIdx?_eq_some_iff_getElem] at h
  obtain ⟨h1, h2, _⟩ := h
  simp only [List.any_eq_true]
  exact ⟨fun _ => ⟨_, List.getElem_mem h1, h2⟩, fun _ => by omega⟩
 | none =>
  rw [List.findIdx?_eq_none_iff] at h
  constructor
  ·intro h'
   exact absurd h' (by decide)
  ·intro h'
   rw [List.any_eq_true] at h'
   obtain ⟨x, hx, hp⟩ := h'
   rw [h x hx] at hp
   cases hp
theorem Nk {p : ByteArray → Bool} {xs : List ByteArray} {k : Nat} {x : ByteArray} (hx : xs[k]? = some x) (h : (xs.take k).any p = false) (hp : p x = true) : xs.findIdx? p = some k := by
 obtain ⟨hk, he⟩ := List.getElem?_eq_some_iff.1 hx
 rw [List.findIdx?_eq_some_iff_getElem]
 refine ⟨hk, by rw [he]; exact hp, fun j hj => ?_⟩
 rw [List.any_eq_false] at h
 have := h (xs[j]'(by omega)) (by
  rw [List.mem_take_iff_getElem]
  exact ⟨j, by omega, rfl⟩)
 simpa using this
theorem MP {p : ByteArray → Bool} {xs : List ByteArray} {k : Nat} {x : ByteArray} (hx : xs[k]? = some x) (h : (xs.take k).any p = false) : (xs.take (k + 1)).any p = p x := by
 rw [AY hx, List.any_append, h]
 simp
theorem NA (vs xs : List ByteArray) (hl : xs.length ≤ 9223372036854775807) (b : Nat) (hb : 1000 ≤ b) (S : AD) (sb : S b = some (WU vs)) :
  An Tryz.prog 66 [DV xs, .one (.fn 43 [.ptr b 1 0 0])] S (AK (match xs.findIdx? (fun x => !B_ x vs) with | some i => (i : Int) | none => -1)) S := by
 refine C6.acS fun hS C hC => ?_
 unfold Bt
 repeat' with_reducible first | refine W ?_ | refine Z0 ?_ | ((first | refine Wo fun K hK => ?_ | refine Wp ?_ | refine Wq ?_ | refine Wr ?_); (try simp only [go_sem, fN, seval, eT, iR, dT, dF, nL]); (repeat refine Ai ?_); (try (refine hK _ ?_; clear hK K)); try refine iC ?_)
 refine IWP.loop (fun n s => ∃ k, k ≤ xs.length ∧ n = xs.length - k ∧ (xs.take k).any (fun x => !B_ x vs) = false ∧ s.env 0 = DV xs ∧ s.env 1 = .one (.fn 43 [.ptr b 1 0 0]) ∧ s.env 7 = AK xs.length ∧ s.env 8 = AK k ∧ s.S = S) xs.length ⟨0, Nat.zero_le _, rfl, rfl, rfl, rfl, rfl, rfl, rfl⟩ ?_
 rintro n ⟨env, S'⟩ ⟨k, hk, rfl, hp, e0, e1, e7, e8, eS⟩
 simp only at e0 e1 e7 e8 eS
 subst eS
 by_cases hlt : (k : Int) < xs.length
 ·obtain ⟨x, hx⟩ := AT (show k < xs.length by omega)
  have hst := MP (p := fun x => !B_ x vs) hx hp
  have hc := Tc vs x (up1 b) (Aw b) (upS S') (by rw [A7, sb]; rfl)
  repeat' with_reducible first | refine W ?_ | refine Z0 ?_ | ((first | refine Wo fun K hK => ?_ | refine Wp ?_ | refine Wq ?_ | refine Wr ?_); (try simp only [go_sem, fN, seval, eT, iR, e0, e1, e7, e8, hlt, hx, dT, dF, nL]); (repeat refine Ai ?_); (try (refine hK _ ?_; clear hK K)); try refine iC ?_)
  first | refine ⟨by kernel_rfl, _, _, hc, ?_⟩ | refine ⟨_, _, hc, ?_⟩
  by_cases hr : (!B_ x vs) = true
  ·have hi := Nk (p := fun x => !B_ x vs) hx hp hr
   repeat' with_reducible first | refine W ?_ | refine Z0 ?_ | ((first | refine Wo fun K hK => ?_ | refine Wp ?_ | refine Wq ?_ | refine Wr ?_); (try simp only [go_sem, fN, seval, eT, iR, e0, e1, e7, e8, hr, dT, dF, nL]); (repeat refine Ai ?_); (try (refine hK _ ?_; clear hK K)); try refine iC ?_)
   refine CR (AK k) hS trivial ?_ ?_ fun j hj => ?_
   ·simp [AA, AB, AH, AM]
   ·rw [hi]
    rfl
   ·rfl
  ·have hr' : (!B_ x vs) = false := by simpa using hr
   repeat' with_reducible first | refine W ?_ | refine Z0 ?_ | ((first | refine Wo fun K hK => ?_ | refine Wp ?_ | refine Wq ?_ | refine Wr ?_); (try simp only [go_sem, fN, seval, eT, iR, e0, e1, e7, e8, hr', dT, dF, nL]); (repeat refine Ai ?_); (try (refine hK _ ?_; clear hK K)); try refine iC ?_)
   refine AE ⟨xs.length - (k + 1), by omega, k + 1, by omega, rfl, ?_⟩
   simp only [go_sem, fN, seval, eT, iR, e0, e1, e7, e8]
   exact ⟨by rw [hst]; exact hr', by congr 3⟩
 ·rw [List.take_of_length_le (by omega)] at hp
  have hi : xs.findIdx? (fun x => !B_ x vs) = none := by
   rw [List.findIdx?_eq_none_iff]
   intro x hx
   rw [List.any_eq_false] at hp
   simpa using hp x hx
  repeat' with_reducible first | refine W ?_ | refine Z0 ?_ | ((first | refine Wo fun K hK => ?_ | refine Wp ?_ | refine Wq ?_ | refine Wr ?_); (try simp only [go_sem, fN, seval, eT, iR, e0, e1, e7, e8, hlt, dT, dF, nL]); (repeat refine Ai ?_); (try (refine hK _ ?_; clear hK K)); try refine iC ?_)
  refine CR (AK (-1)) hS trivial ?_ ?_ fun j hj => ?_
  ·simp [AA, AB, AH, AM]
  ·rw [hi]
   rfl
  ·rfl
theorem JD (vs xs : List ByteArray) (hl : xs.length ≤ 9223372036854775807) (b : Nat) (hb : 1000 ≤ b) (S : AD) (sb : S b = some (WU vs)) :
  An Tryz.prog 42 [DV xs, .one (.fn 43 [.ptr b 1 0 0])] S (Ab (xs.any fun x => !B_ x vs)) S := by
 have hi := T_ (p := fun x => !B_ x vs) xs
 generalize (xs.any fun x => !B_ x vs) = bb at hi ⊢
 refine Cl.acS fun hS C hC => ?_
 unfold Bm
 repeat' with_reducible first | refine W ?_ | refine Z0 ?_ | ((first | refine Wo fun K hK => ?_ | refine Wp ?_ | refine Wq ?_ | refine Wr ?_); (try simp only [go_sem, fN, seval, eT, iR, dT, dF, nL]); (repeat refine Ai ?_); (try (refine hK _ ?_; clear hK K)); try refine iC ?_)
 refine ⟨_, _, NA vs xs hl (up1 b) (Aw b) (upS S) (by rw [A7, sb]; rfl), ?_⟩
 generalize (match xs.findIdx? (fun x => !B_ x vs) with | some i => (i : Int) | none => -1) = q at hi
 repeat' with_reducible first | refine W ?_ | refine Z0 ?_ | ((first | refine Wo fun K hK => ?_ | refine Wp ?_ | refine Wq ?_ | refine Wr ?_); (try simp only [go_sem, fN, seval, eT, iR, hi, dT, dF, nL]); (repeat refine Ai ?_); (try (refine hK _ ?_; clear hK K)); try refine iC ?_)
 refine CR (Ab bb) hS trivial ?_ ?_ fun j hj => ?_
 ·simp [AA, AB, AH, AM]
 ·rfl
 ·rfl
theorem Kb (t : Tm) (h : t.size ≤ 200) : t.varsOf.length ≤ 1000 := by
 have h1 := CZ t.knots []
 rw [Tm.knots_length] at h1
 unfold Tm.varsOf
 simp only [List.length_nil] at h1
 omega
theorem KX (R : List Pr) : AQ Tryz.prog 23 [BF R] (AK (Bv R)) := by
 have hm : Bv R = if 40 < R.length then 3 else D9 Dm R := rfl
 refine H5.ac fun C hC => ?_
 unfold Ev
 by_cases h40 : (40 : Int) < R.length
 ·repeat' with_reducible first | refine W ?_ | refine Z0 ?_ | ((first | refine Wo fun K hK => ?_ | refine Wp ?_ | refine Wq ?_ | refine Wr ?_); (try simp only [go_sem, fN, seval, eT, iR, h40, dT, dF, nL]); (repeat refine Ai ?_); (try (refine hK _ ?_; clear hK K)); try refine iC ?_)
  simp only [go_sem, fN, seval, AJ, AS.result, AA, AB, AH]
  rw [hm, if_pos (by omega)]
 rw [if_neg (by omega)] at hm
 repeat' with_reducible first | refine W ?_ | refine Z0 ?_ | ((first | refine Wo fun K hK => ?_ | refine Wp ?_ | refine Wq ?_ | refine Wr ?_); (try simp only [go_sem, fN, seval, eT, iR, h40, dT, dF, nL]); (repeat refine Ai ?_); (try (refine hK _ ?_; clear hK K)); try refine iC ?_)
 refine IWP.loopD [4, 6] (fun m s => ∃ k, k ≤ R.length ∧ m = R.length - k ∧ D9 Dm (R.take k) = 0 ∧ s.env 10 = BF R ∧ s.env 11 = AK R.length ∧ s.env 12 = AK k ∧ s.S 4 = none ∧ s.S 6 = none) R.length ⟨0, Nat.zero_le _, rfl, rfl, rfl, rfl, rfl, rfl, rfl⟩ ?_
 rintro m ⟨env, S⟩ ⟨k, hk, rfl, h0, e10, e11, e12, s4, s6⟩
 simp only at e10 e11 e12 s4 s6
 by_cases hlt : (k : Int) < R.length
 ·obtain ⟨r, hr⟩ := AT (show k < R.length by omega)
  obtain ⟨g1, g2⟩ := NY hr h0
  have re : Dm r = if Bu r.1 r.2 = 0 then (if AL r.1.name = true then 2 else if Gn r = true then 15 else 0) else Bu r.1 r.2 := rfl
  by_cases hz : Bu r.1 r.2 = 0
  case neg =>
   repeat' (first | (with_reducible first | refine W ?_ | refine Z0 ?_ | ((first | refine Wo fun K hK => ?_ | refine Wp ?_ | refine Wq ?_ | refine Wr ?_); (try simp only [go_sem, fN, seval, eT, iR, e10, e11, e12, s4, s6, hlt, hr, At, hz, dT, dF, nL]); (repeat refine Ai ?_); (try (refine hK _ ?_; clear hK K)); try refine iC ?_)) | refine Cg _ (Pd r.1 r.2) ?_)
   simp only [go_sem, fN, seval, AJ, AS.result, AA, AB, AH]
   rw [if_neg hz] at re
   rw [hm, g2 (by rw [re]; exact hz), re]
  case pos =>
  rw [if_pos hz] at re
  by_cases hv : AL r.1.name = true
  ·repeat' (first | (with_reducible first | refine W ?_ | refine Z0 ?_ | ((first | refine Wo fun K hK => ?_ | refine Wp ?_ | refine Wq ?_ | refine Wr ?_); (try simp only [go_sem, fN, seval, eT, iR, e10, e11, e12, s4, s6, hlt, hr, At, hz, hv, dT, dF, nL]); (repeat refine Ai ?_); (try (refine hK _ ?_; clear hK K)); try refine iC ?_)) | refine Cg _ (Pd r.1 r.2) ?_ | refine Cg _ (As r.1.name) ?_)
   simp only [go_sem, fN, seval, AJ, AS.result, AA, AB, AH]
   rw [if_pos hv] at re
   rw [hm, g2 (by rw [re]; decide), re]
  rw [if_neg hv] at re
  have m12 : r.1.may = 0 ∧ r.2.may = 0 := by
   unfold Bu at hz
   by_cases h4 : r.1.may = 0
   ·rw [if_pos h4] at hz; exact ⟨h4, hz⟩
   ·rw [if_neg h4] at hz; exact absurd hz h4
  have z1 := (Tm.may_chk m12.1).2
  have z2 := (Tm.may_chk m12.2).2
  have l2 := Kb r.2 z2
  repeat' (first | (with_reducible first | refine W ?_ | refine Z0 ?_ | ((first | refine Wo fun K hK => ?_ | refine Wp ?_ | refine Wq ?_ | refine Wr ?_); (try simp only [go_sem, fN, seval, eT, iR, e10, e11, e12, s4, s6, hlt, hr, At, hz, hv, dT, dF, nL]); (repeat refine Ai ?_); (try (refine hK _ ?_; clear hK K)); try refine iC ?_)) | refine Cg _ (Pd r.1 r.2) ?_ | refine Cg _ (As r.1.name) ?_ | refine Cg _ (Qc r.1 (by omega)) ?_ | refine Cg _ (Qc r.2 (by omega)) ?_)
  refine ⟨_, _, JD r.1.varsOf r.2.varsOf (by omega) (up1 6) (Aw 6) _ (by rw [A7]; simp [AM]; rfl), ?_⟩
  have ho : Gn r = r.2.varsOf.any fun v => !B_ v r.1.varsOf := rfl
  rw [← ho]
  by_cases hop : Gn r = true
  ·repeat' with_reducible first | refine W ?_ | refine Z0 ?_ | ((first | refine Wo fun K hK => ?_ | refine Wp ?_ | refine Wq ?_ | refine Wr ?_); (try simp only [go_sem, fN, seval, eT, iR, hop, dT, dF, nL]); (repeat refine Ai ?_); (try (refine hK _ ?_; clear hK K)); try refine iC ?_)
   simp only [go_sem, fN, seval, AJ, AS.result, AA, AB, AH]
   rw [if_pos hop] at re
   rw [hm, g2 (by rw [re]; decide), re]
  ·rw [if_neg hop] at re
   simp only [Bool.not_eq_true] at hop
   repeat' with_reducible first | refine W ?_ | refine Z0 ?_ | ((first | refine Wo fun K hK => ?_ | refine Wp ?_ | refine Wq ?_ | refine Wr ?_); (try simp only [go_sem, fN, seval, eT, iR, hop, e10, e11, e12, dT, dF, nL]); (repeat refine Ai ?_); (try (refine hK _ ?_; clear hK K)); try refine iC ?_)
   refine AE ⟨R.length - (k + 1), by omega, k + 1, by omega, rfl, g1 re, ?_⟩
   simp only [go_sem, fN, seval, AS.drop, Ak, AC.clears, AC.clear, AC.highs, AC.high, Bool.not_false, Bool.true_and, Bool.and_self, AV.purge, AV.purges, AC.purge, AN.purge, List.contains_cons, List.contains_nil, Nat.reduceBEq, Bool.or_self, Bool.or_false, Bool.false_or, Bool.or_true, eT, iR, e10, e11, e12, s4, s6]
   congr 3
 ·repeat' with_reducible first | refine W ?_ | refine Z0 ?_ | ((first | refine Wo fun K hK => ?_ | refine Wp ?_ | refine Wq ?_ | refine Wr ?_); (try simp only [go_sem, fN, seval, eT, iR, e10, e11, e12, hlt, dT, dF, nL]); (repeat refine Ai ?_); (try (refine hK _ ?_; clear hK K)); try refine iC ?_)
  simp only [go_sem, fN, seval, AJ, AS.result, AA, AB, AH]
  rw [List.take_of_length_le (by omega)] at h0
  rw [hm, h0]
def DQ (m : Int) : Int := if m < 0 ∨ 400 < m then 10 else 0
theorem ES (R : List Pr) : AQ Tryz.prog 6 [BF R] (AK (Bv R)) := by
 have hm : Bv R = if 40 < R.length then 3 else D9 Dm R := rfl
 refine K0.ac fun C hC => ?_
 unfold GU
 by_cases h40 : (40 : Int) < R.length
 ·repeat' with_reducible first | refine W ?_ | refine Z0 ?_ | ((first | refine Wo fun K hK => ?_ | refine Wp ?_ | refine Wq ?_ | refine Wr ?_); (try simp only [go_sem, fN, seval, eT, iR, h40, dT, dF, nL]); (repeat refine Ai ?_); (try (refine hK _ ?_; clear hK K)); try refine iC ?_)
  simp only [go_sem, fN, seval, AJ, AS.result, AA, AB, AH]
  rw [hm, if_pos (by omega)]
 rw [if_neg (by omega)] at hm
 repeat' with_reducible first | refine W ?_ | refine Z0 ?_ | ((first | refine Wo fun K hK => ?_ | refine Wp ?_ | refine Wq ?_ | refine Wr ?_); (try simp only [go_sem, fN, seval, eT, iR, h40, dT, dF, nL]); (repeat refine Ai ?_); (try (refine hK _ ?_; clear hK K)); try refine iC ?_)
 refine IWP.loop (fun m s => ∃ k, k ≤ R.length ∧ m = R.length - k ∧ D9 Dm (R.take k) = 0 ∧ s.env 0 = BF R ∧ s.env 3 = AK k) R.length ⟨0, Nat.zero_le _, rfl, rfl, rfl, rfl⟩ ?_
 rintro m ⟨env, S⟩ ⟨k, hk, rfl, h0, e0, e3⟩
 simp only at e0 e3
 by_cases hlt : (k : Int) < R.length
 ·obtain ⟨r, hr⟩ := AT (show k < R.length by omega)
  obtain ⟨g1, g2⟩ := NY hr h0
  have re : Dm r = if Bu r.1 r.2 = 0 then (if AL r.1.name = true then 2 else if Gn r = true then 15 else 0) else Bu r.1 r.2 := rfl
  by_cases hz : Bu r.1 r.2 = 0
  case neg =>
   repeat' (first | (with_reducible first | refine W ?_ | refine Z0 ?_ | ((first | refine Wo fun K hK => ?_ | refine Wp ?_ | refine Wq ?_ | refine Wr ?_); (try simp only [go_sem, fN, seval, eT, iR, e0, e3, hlt, hr, At, hz, dT, dF, nL]); (repeat refine Ai ?_); (try (refine hK _ ?_; clear hK K)); try refine iC ?_)) | refine Cg _ (Jn r.1 r.2) ?_)
   simp only [go_sem, fN, seval, AJ, AS.result, AA, AB, AH]
   rw [if_neg hz] at re
   rw [hm, g2 (by rw [re]; exact hz), re]
  case pos =>
  rw [if_pos hz] at re
  by_cases hv : AL r.1.name = true
  ·repeat' (first | (with_reducible first | refine W ?_ | refine Z0 ?_ | ((first | refine Wo fun K hK => ?_ | refine Wp ?_ | refine Wq ?_ | refine Wr ?_); (try simp only [go_sem, fN, seval, eT, iR, e0, e3, hlt, hr, At, hz, hv, dT, dF, nL]); (repeat refine Ai ?_); (try (refine hK _ ?_; clear hK K)); try refine iC ?_)) | refine Cg _ (Jn r.1 r.2) ?_ | refine Cg _ (Ba r.1.name) ?_)
   simp only [go_sem, fN, seval, AJ, AS.result, AA, AB, AH]
   rw [if_pos hv] at re
   rw [hm, g2 (by rw [re]; decide), re]
  rw [if_neg hv] at re
  have m12 : r.1.may = 0 ∧ r.2.may = 0 := by
   unfold Bu at hz
   by_cases h4 : r.1.may = 0
   ·rw [if_pos h4] at hz; exact ⟨h4, hz⟩
   ·rw [if_neg h4] at hz; exact absurd hz h4
  have z1 := (Tm.may_chk m12.1).2
  have z2 := (Tm.may_chk m12.2).2
  have l2 := Kb r.2 z2
  repeat' (first | (with_reducible first | refine W ?_ | refine Z0 ?_ | ((first | refine Wo fun K hK => ?_ | refine Wp ?_ | refine Wq ?_ | refine Wr ?_); (try simp only [go_sem, fN, seval, eT, iR, e0, e3, hlt, hr, At, hz, hv, dT, dF, nL]); (repeat refine Ai ?_); (try (refine hK _ ?_; clear hK K)); try refine iC ?_)) | refine Cg _ (Jn r.1 r.2) ?_ | refine Cg _ (Ba r.1.name) ?_ | refine Cg _ (Fj r.1 (by omega)) ?_ | refine Cg _ (Fj r.2 (by omega)) ?_)
  have ho : Gn r = r.2.varsOf.any fun v => !B_ v r.1.varsOf := rfl
  refine IWP.loop (fun m s => ∃ i, i ≤ r.2.varsOf.length ∧ m = r.2.varsOf.length - i ∧ (r.2.varsOf.take i).any (fun v => !B_ v r.1.varsOf) = false ∧ s.env 0 = BF R ∧ s.env 3 = AK k ∧ s.env 5 = DV r.1.varsOf ∧ s.env 6 = DV r.2.varsOf ∧ s.env 7 = AK i) r.2.varsOf.length ⟨0, Nat.zero_le _, rfl, rfl, ?_⟩ ?_
  ·simp only [go_sem, fN, seval, eT, iR, e0, e3]
  rintro m ⟨env, S⟩ ⟨i, hi, rfl, hany, e0, e3, e5, e6, e7⟩
  simp only at e0 e3 e5 e6 e7
  by_cases hli : (i : Int) < r.2.varsOf.length
  ·obtain ⟨v, hvi⟩ := AT (show i < r.2.varsOf.length by omega)
   by_cases hin : B_ v r.1.varsOf = true
   ·repeat' (first | (with_reducible first | refine W ?_ | refine Z0 ?_ | ((first | refine Wo fun K hK => ?_ | refine Wp ?_ | refine Wq ?_ | refine Wr ?_); (try simp only [go_sem, fN, seval, eT, iR, e0, e3, e5, e6, e7, hli, hvi, hin, dT, dF, nL]); (repeat refine Ai ?_); (try (refine hK _ ?_; clear hK K)); try refine iC ?_)) | refine Cg _ (S6 v r.1.varsOf) ?_)
    refine AE ⟨r.2.varsOf.length - (i + 1), by omega, i + 1, by omega, rfl, ?_, ?_⟩
    ·rw [MP hvi hany, hin]
     rfl
    ·simp only [go_sem, fN, seval, eT, iR, e0, e3, e5, e6, e7]
     congr 3
   ·have hop : Gn r = true := by
     rw [ho, List.any_eq_true]
     exact ⟨v, AI hvi, by simpa using hin⟩
    repeat' (first | (with_reducible first | refine W ?_ | refine Z0 ?_ | ((first | refine Wo fun K hK => ?_ | refine Wp ?_ | refine Wq ?_ | refine Wr ?_); (try simp only [go_sem, fN, seval, eT, iR, e0, e3, e5, e6, e7, hli, hvi, hin, dT, dF, nL]); (repeat refine Ai ?_); (try (refine hK _ ?_; clear hK K)); try refine iC ?_)) | refine Cg _ (S6 v r.1.varsOf) ?_)
    simp only [go_sem, fN, seval, AJ, AS.result, AA, AB, AH]
    rw [if_pos hop] at re
    rw [hm, g2 (by rw [re]; decide), re]
  ·rw [List.take_of_length_le (by omega), ← ho] at hany
   rw [if_neg (by rw [hany]; decide)] at re
   repeat' with_reducible first | refine W ?_ | refine Z0 ?_ | ((first | refine Wo fun K hK => ?_ | refine Wp ?_ | refine Wq ?_ | refine Wr ?_); (try simp only [go_sem, fN, seval, eT, iR, e0, e3, e5, e6, e7, hli, dT, dF, nL]); (repeat refine Ai ?_); (try (refine hK _ ?_; clear hK K)); try refine iC ?_)
   refine AE ⟨R.length - (k + 1), by omega, k + 1, by omega, rfl, g1 re, ?_⟩
   simp only [go_sem, fN, seval, eT, iR, e0, e3]
   congr 3
 ·repeat' with_reducible first | refine W ?_ | refine Z0 ?_ | ((first | refine Wo fun K hK => ?_ | refine Wp ?_ | refine Wq ?_ | refine Wr ?_); (try simp only [go_sem, fN, seval, eT, iR, e0, e3, hlt, dT, dF, nL]); (repeat refine Ai ?_); (try (refine hK _ ?_; clear hK K)); try refine iC ?_)
  simp only [go_sem, fN, seval, AJ, AS.result, AA, AB, AH]
  rw [List.take_of_length_le (by omega)] at h0
  rw [hm, h0]

def Az : IR :=
 (.seq (.ops [.i 2 (.mov (.c (.one (.full []))))]) (.seq (.seq (.ops [.m 3 0, .i 4 (.eqN false (.t 3))]) (.cond (.t 4) (.seq (.ops [.i 2 (.mov (.c (.one (.full []))))]) .ret) .skip)) (.seq (.ops [.i 5 (.buildSlice false 29 2 []), .m 6 0, .i 7 (.append true 29 2 40 (.t 5) (.t 6)), .m 2 7]) .ret)))
theorem Bk : OkF Tryz.prog 89 8 [7] Az [.t 2] := .of Tryz.func89 rfl rfl (by kernel_rfl) rfl

def Gc : IR :=
 (.seq (.ops [.i 3 (.box 29 (.t 0)), .i 4 (.box 29 (.t 1)), .i 6 (.mov (.c (.one (.st (.bool false)))))]) (.seq (.seq (.ops [.f 10 0 3, .l 11 10, .i 12 (.call 40 [.t 11])]) (.cond (.t 12) (.seq (.seq (.ops [.m 14 2, .f 15 0 3, .l 16 15, .i 17 (.lookup none true (.agg [.st (.str (ByteArray.mk (#[]))), .full []]) (.t 14) (.t 16)), .m 13 17, .i 18 (.extract 0 (.t 13)), .i 19 (.extract 1 (.t 13)), .i 7 (.alloc 29 [.st (.str (ByteArray.mk (#[]))), .full []]), .s 2 7 18, .m 8 19]) (.seq (.ops [.m 20 8]) (.cond (.t 20) (.seq (.ops [.L 21 2 7, .L 22 2 4, .i 23 (.call 53 [.t 21, .t 22]), .m 6 23]) .ret) .skip))) (.seq (.ops [.m 24 2, .f 25 0 3, .l 26 25, .L 27 2 4, .mk none none (.mapSet none (.t 24) (.t 26) (.t 27)) .no]) (.seq (.ops [.i 6 (.mov (.c (.one (.st (.bool true)))))]) .ret))) .skip)) (.seq (.seq (.ops [.f 28 0 3, .l 29 28, .f 30 0 4, .l 31 30, .i 32 (.bin .neq (.t 29) (.t 31)), .m 33 32, .mk (some 34) (some (33, false)) (.fieldAddr 1 (.t 3)) .no, .mk (some 35) (some (33, false)) (.load false 1 (.t 34)) .no, .mk (some 36) (some (33, false)) (.len false (.t 35)) .no, .mk (some 37) (some (33, false)) (.fieldAddr 1 (.t 4)) .no, .mk (some 38) (some (33, false)) (.load false 1 (.t 37)) .no, .mk (some 39) (some (33, false)) (.len false (.t 38)) .no, .mk (some 40) (some (33, false)) (.bin .neq (.t 36) (.t 39)) .no, .i 41 (.pick (.t 33) (.c (.one (.st (.bool true)))) (.t 40))]) (.cond (.t 41) (.seq (.ops [.i 6 (.mov (.c (.one (.st (.bool false)))))]) .ret) .skip)) (.seq (.seq (.ops [.f 42 1 3, .l 43 42, .i 44 (.len false (.t 43)), .i 45 (.mov (.n 0))]) (.block 0 (.loop (.seq (.ops [.i 46 (.bin .lss (.t 45) (.t 44))]) (.seq (.cond (.t 46) .skip (.exit 0)) (.seq (.block 1 (.seq (.ops [.m 47 45, .m 9 47]) (.seq (.ops [.f 48 1 3, .l 49 48, .m 50 9, .i 51 (.indexAddr 2 (.t 49) (.t 50)), .L 52 2 51, .f 53 1 4, .l 54 53, .m 55 9, .i 56 (.indexAddr 2 (.t 54) (.t 55)), .L 57 2 56, .m 58 2, .i 59 (.callS 115 [.t 52, .t 57, .t 58]), .i 60 (.un .not (.t 59))]) (.cond (.t 60) (.seq (.ops [.i 6 (.mov (.c (.one (.st (.bool false)))))]) .ret) .skip)))) (.ops [.i 61 (.bin .add (.t 45) (.n 1)), .m 45 61]))))))) (.seq (.ops [.i 6 (.mov (.c (.one (.st (.bool true)))))]) .ret)))))
theorem K_ : OkF Tryz.prog 115 62 [59] Gc [.t 6] := .of Tryz.func115 rfl rfl (by kernel_rfl) rfl
def Gq : IR :=
 (.seq (.ops [.i 2 (.box 29 (.t 0)), .i 3 (.box 29 (.t 1)), .i 4 (.mov (.c (.one (.full [])))), .i 5 (.mov (.c (.one (.st (.bool false)))))]) (.seq (.ops [.i 10 (.makeMap none), .m 6 10]) (.seq (.seq (.ops [.L 11 2 2, .L 12 2 3, .m 13 6, .i 14 (.callS 115 [.t 11, .t 12, .t 13]), .i 15 (.un .not (.t 14))]) (.cond (.t 15) (.seq (.ops [.i 4 (.mov (.c (.one (.full [])))), .i 5 (.mov (.c (.one (.st (.bool false)))))]) .ret) .skip)) (.seq (.ops [.i 7 (.mov (.c (.one (.full []))))]) (.seq (.seq (.ops [.m 16 6, .i 17 (.rangeM (.t 16))]) (.block 0 (.loop (.seq (.ops [.i 18 (.next (.t 17)), .i 19 (.extract 0 (.t 18))]) (.seq (.cond (.t 19) .skip (.exit 0)) (.block 1 (.seq (.ops [.i 20 (.entry (.t 17)), .i 21 (.extract 0 (.t 20)), .i 22 (.extract 1 (.t 20)), .i 9 (.alloc 29 [.st (.str (ByteArray.mk (#[]))), .full []]), .m 8 21, .s 2 9 22]) (.ops [.m 23 7, .m 24 8, .L 25 2 9, .i 26 (.call 72 [.t 25]), .i 27 (.build [.st (.str (ByteArray.mk (#[]))), .st (.str (ByteArray.mk (#[]))), .full []] [(0, 1, .t 24), (1, 2, .t 26)]), .i 28 (.buildSlice false 81 3 [.t 27]), .i 29 (.append true 81 3 56 (.t 23) (.t 28)), .m 7 29])))))))) (.seq (.ops [.m 30 7, .i 31 (.callS 69 [.t 30]), .m 4 31, .i 5 (.mov (.c (.one (.st (.bool true)))))]) .ret))))))
theorem LM : OkF Tryz.prog 99 32 [14, 29, 31] Gq [.t 4, .t 5] := .of Tryz.func99 rfl rfl (by kernel_rfl) rfl
def E8 : IR :=
 (.seq (.ops [.i 3 (.box 29 (.t 0)), .i 4 (.box 29 (.t 1)), .i 6 (.mov (.c (.one (.full [])))), .i 7 (.mov (.c (.one (.st (.bool false)))))]) (.seq (.seq (.ops [.f 13 0 3, .l 14 13, .i 15 (.call 18 [.t 14])]) (.cond (.t 15) (.seq (.ops [.m 17 2, .f 18 0 3, .l 19 18, .i 20 (.call 79 [.t 17, .t 19]), .m 16 20, .i 21 (.extract 0 (.t 16)), .i 22 (.extract 1 (.t 16)), .i 8 (.alloc 29 [.st (.str (ByteArray.mk (#[]))), .full []]), .s 2 8 21, .m 9 22]) (.seq (.seq (.ops [.m 23 9]) (.cond (.t 23) (.seq (.ops [.m 24 2, .L 25 2 8, .L 26 2 4, .i 27 (.call 26 [.t 25, .t 26]), .m 6 24, .m 7 27]) .ret) .skip)) (.seq (.ops [.m 28 2, .f 29 0 3, .l 30 29, .L 31 2 4, .i 32 (.build [.st (.str (ByteArray.mk (#[]))), .st (.str (ByteArray.mk (#[]))), .full []] [(0, 1, .t 30), (1, 2, .t 31)]), .i 33 (.buildSlice false 81 3 [.t 32]), .i 34 (.append false 81 3 56 (.t 28) (.t 33)), .m 6 34, .i 7 (.mov (.c (.one (.st (.bool true)))))]) .ret))) .skip)) (.seq (.seq (.ops [.f 35 0 3, .l 36 35, .f 37 0 4, .l 38 37, .i 39 (.bin .neq (.t 36) (.t 38)), .m 40 39, .mk (some 41) (some (40, false)) (.fieldAddr 1 (.t 3)) .no, .mk (some 42) (some (40, false)) (.load false 1 (.t 41)) .no, .mk (some 43) (some (40, false)) (.len false (.t 42)) .no, .mk (some 44) (some (40, false)) (.fieldAddr 1 (.t 4)) .no, .mk (some 45) (some (40, false)) (.load false 1 (.t 44)) .no, .mk (some 46) (some (40, false)) (.len false (.t 45)) .no, .mk (some 47) (some (40, false)) (.bin .neq (.t 43) (.t 46)) .no, .i 48 (.pick (.t 40) (.c (.one (.st (.bool true)))) (.t 47))]) (.cond (.t 48) (.seq (.ops [.i 6 (.mov (.c (.one (.full [])))), .i 7 (.mov (.c (.one (.st (.bool false)))))]) .ret) .skip)) (.seq (.seq (.ops [.i 10 (.mov (.n 0))]) (.block 0 (.loop (.seq (.seq (.ops [.m 49 10, .f 50 1 3, .l 51 50, .i 52 (.len false (.t 51)), .i 53 (.bin .lss (.t 49) (.t 52))]) (.cond (.t 53) .skip (.exit 0))) (.seq (.block 1 (.seq (.ops [.f 57 1 3, .l 58 57, .m 59 10, .i 60 (.indexAddr 2 (.t 58) (.t 59)), .L 61 2 60, .f 62 1 4, .l 63 62, .m 64 10, .i 65 (.indexAddr 2 (.t 63) (.t 64)), .L 66 2 65, .m 67 2, .i 68 (.callS 91 [.t 61, .t 66, .t 67]), .m 56 68, .i 69 (.extract 0 (.t 56)), .i 70 (.extract 1 (.t 56)), .m 11 69, .m 12 70]) (.seq (.seq (.ops [.m 71 12, .i 72 (.un .not (.t 71))]) (.cond (.t 72) (.seq (.ops [.i 6 (.mov (.c (.one (.full [])))), .i 7 (.mov (.c (.one (.st (.bool false)))))]) .ret) .skip)) (.ops [.m 73 11, .m 2 73])))) (.ops [.m 54 10, .i 55 (.bin .add (.t 54) (.n 1)), .m 10 55])))))) (.seq (.ops [.m 74 2, .m 6 74, .i 7 (.mov (.c (.one (.st (.bool true)))))]) .ret)))))
theorem HX : OkF Tryz.prog 91 75 [68] E8 [.t 6, .t 7] := .of Tryz.func91 rfl rfl (by kernel_rfl) rfl
def He : IR :=
 (.seq (.ops [.i 2 (.box 29 (.t 0)), .i 3 (.box 29 (.t 1)), .i 4 (.mov (.c (.one (.full [])))), .i 5 (.mov (.c (.one (.st (.bool false)))))]) (.seq (.ops [.L 9 2 2, .L 10 2 3, .i 11 (.callS 91 [.t 9, .t 10, .c (.one (.full []))]), .m 8 11, .i 12 (.extract 0 (.t 8)), .i 13 (.extract 1 (.t 8)), .m 6 12, .m 7 13]) (.seq (.seq (.ops [.m 14 7, .i 15 (.un .not (.t 14))]) (.cond (.t 15) (.seq (.ops [.i 4 (.mov (.c (.one (.full [])))), .i 5 (.mov (.c (.one (.st (.bool false)))))]) .ret) .skip)) (.seq (.ops [.m 16 6, .i 17 (.call 60 [.t 16]), .m 4 17, .i 5 (.mov (.c (.one (.st (.bool true)))))]) .ret))))
theorem Ms : OkF Tryz.prog 81 18 [11] He [.t 4, .t 5] := .of Tryz.func81 rfl rfl (by kernel_rfl) rfl

def met {α : Type} (l : List α) (seen : List Nat) : List α := seen.filterMap fun j => l[j]?
theorem TQ {α : Type} {l : List α} {seen : List Nat} {j : Nat} {b : α} (h : l[j]? = some b) : met l (seen ++ [j]) = met l seen ++ [b] := by
 unfold met
 rw [List.filterMap_append, List.filterMap_cons_some h]
 rfl
theorem Q1 {α : Type} {l : List α} : ∀ {seen : List Nat}, (∀ j ∈ seen, j < l.length) → (met l seen).length = seen.length
 | [], _ => rfl
 | j :: seen, h => by
  have hj := h j (by simp)
  unfold met
  rw [List.filterMap_cons_some (List.getElem?_eq_getElem hj), List.length_cons, List.length_cons]
  exact congrArg (· + 1) (Q1 fun i hi => h i (by simp [hi]))
theorem OL {n : Nat} {seen : List Nat} (hn : seen.Nodup) (h : ∀ j ∈ seen, j < n) : seen.length ≤ n := by
 have h1 : seen.Perm ((List.range n).filter fun j => decide (j ∈ seen)) := (List.perm_ext_iff_of_nodup hn (List.nodup_range.filter _)).2 fun j => by
  rw [List.mem_filter, List.mem_range, decide_eq_true_eq]
  exact ⟨fun hj => ⟨h j hj, hj⟩, fun hj => hj.2⟩
 rw [h1.length_eq]
 exact Nat.le_trans (List.length_filter_le _ _) (Nat.le_of_eq List.length_range)
theorem UK {α : Type} {l : List α} {seen : List Nat} (hn : seen.Nodup) (h : ∀ j ∈ seen, j < l.length) (hall : ∀ j, j < l.length → j ∈ seen) : (met l seen).Perm l := by
 have hp : seen.Perm (List.range l.length) := (List.perm_ext_iff_of_nodup hn List.nodup_range).2 fun j => ⟨fun hj => List.mem_range.2 (h j hj), fun hj => hall j (List.mem_range.1 hj)⟩
 have := hp.filterMap fun j => l[j]?
 rw [Dd] at this
 exact this

def QP (b : Bd) : KV × AV := (.s b.1, aTm b.2)
abbrev R9 (l : List Bd) : AN := .map none (l.map QP)
theorem IS (l : List Bd) (n : ByteArray) : Dh (l.map QP) (.s n) = (lookup l n).map fun t => aTm t := by
 induction l with
 | nil => rfl
 | cons b l ih =>
  unfold lookup
  rw [List.map_cons, Dh, List.find?_cons]
  by_cases h : b.1 = n
  ·have h1 : decide (b.1 = n) = true := decide_eq_true h
   rw [if_pos (show (QP b).1 = KV.s n from congrArg KV.s h)]
   simp only [h1]
   rfl
  ·have h1 : decide (b.1 = n) = false := decide_eq_false h
   rw [if_neg (show ¬ (QP b).1 = KV.s n from fun e => h (KV.s.inj e)), ih]
   simp only [h1]
   rfl
theorem SK {l : List Bd} {n : ByteArray} (h : lookup l n = none) (t : Tm) : JL (l.map QP) (.s n) (aTm t) = (l ++ [(n, t)]).map QP := by
 rw [Lg (by rw [IS, h]; rfl), List.map_append]
 rfl
theorem V6 (p : Tm) (hz : p.size ≤ 1000000) : ∀ (t : Tm) (a0 : Nat) (l : List Bd) (S : AD), 1000 ≤ a0 → S a0 = some (R9 l) →
  An Tryz.prog 115 [aTm p, aTm t, .one (.mptr a0)] S (Ab (p.mt t l).2) (AM S a0 (some (R9 (p.mt t l).1))) := by
 induction h : SizeOf.sizeOf p using Nat.strongRecOn generalizing p with
 | _ N ih =>
 subst h
 intro t a0 l S ha0 hSa
 have hs := Tm.size_eq p
 have hln := Tm.length_le p.args
 refine K_.acS fun hS C hC => ?_
 have n3 : S 3 = none := AR hS (by omega)
 have n4 : S 4 = none := AR hS (by omega)
 have n7 : S 7 = none := AR hS (by omega)
 have d3 : ¬ 3 = a0 := by omega
 have d4 : ¬ 4 = a0 := by omega
 have d7 : ¬ 7 = a0 := by omega
 have e3 : ¬ a0 = 3 := by omega
 have e4 : ¬ a0 = 4 := by omega
 have e7 : ¬ a0 = 7 := by omega
 unfold Gc
 repeat' with_reducible first | refine W ?_ | refine Z0 ?_ | ((first | refine Wo fun K hK => ?_ | refine Wp ?_ | refine Wq ?_ | refine Wr ?_); (try simp only [go_sem, fN, seval, eT, iR, n3, n4, dT, dF, nL]); (repeat refine Ai ?_); (try (refine hK _ ?_; clear hK K)); try refine iC ?_)
 refine ⟨_, As _, ?_⟩
 cases hv : AL p.name with
 | true =>
  cases hl : lookup l p.name with
  | some x =>
   repeat' (first | (with_reducible first | refine W ?_ | refine Z0 ?_ | ((first | refine Wo fun K hK => ?_ | refine Wp ?_ | refine Wq ?_ | refine Wr ?_); (try simp only [go_sem, fN, seval, eT, iR, hv, hSa, n3, n4, n7, d3, d4, d7, e3, e4, e7, DC, Hc, KV.of, Ix, IS, hl, dT, dF, nL]); (repeat refine Ai ?_); (try (refine hK _ ?_; clear hK K)); try refine iC ?_)) | refine Cg _ (Uf _ _) ?_)
   rw [Tm.mt_old hv hl]
   refine Bj (Ab (x.beq t)) hS ha0 rfl trivial rfl rfl (by simp only [go_sem, fN, seval, eT, iR, e3, e4, e7, hSa]) fun i hi hne => ?_
   have i3 : ¬ i = 3 := by omega
   have i4 : ¬ i = 4 := by omega
   have i7 : ¬ i = 7 := by omega
   simp only [go_sem, fN, seval, eT, iR, i3, i4, i7]
  | none =>
   repeat' with_reducible first | refine W ?_ | refine Z0 ?_ | ((first | refine Wo fun K hK => ?_ | refine Wp ?_ | refine Wq ?_ | refine Wr ?_); (try simp only [go_sem, fN, seval, eT, iR, hv, hSa, n3, n4, n7, d3, d4, d7, e3, e4, e7, DC, Hc, KV.of, Ix, IS, hl, SK, dT, dF, nL]); (repeat refine Ai ?_); (try (refine hK _ ?_; clear hK K)); try refine iC ?_)
   rw [Tm.mt_new hv hl]
   refine Bj (Ab true) hS ha0 rfl trivial rfl rfl (by simp only [go_sem, fN, seval, eT, iR, e3, e4, e7, hSa]) fun i hi hne => ?_
   have i3 : ¬ i = 3 := by omega
   have i4 : ¬ i = 4 := by omega
   have i7 : ¬ i = 7 := by omega
   simp only [go_sem, fN, seval, eT, iR, i3, i4, i7, hne]
 | false =>
  by_cases hn : p.name = t.name
  case neg =>
   have hc : ¬ (p.name = t.name ∧ p.args.length = t.args.length) := fun h => hn h.1
   repeat' with_reducible first | refine W ?_ | refine Z0 ?_ | ((first | refine Wo fun K hK => ?_ | refine Wp ?_ | refine Wq ?_ | refine Wr ?_); (try simp only [go_sem, fN, seval, eT, iR, hv, hSa, n3, n4, n7, d3, d4, d7, e3, e4, e7, hn, dT, dF, nL]); (repeat refine Ai ?_); (try (refine hK _ ?_; clear hK K)); try refine iC ?_)
   rw [Tm.mt_clash hv hc]
   refine Bj (Ab false) hS ha0 rfl trivial rfl rfl (by simp only [go_sem, fN, seval, eT, iR, e3, e4, hSa]) fun i hi hne => ?_
   have i3 : ¬ i = 3 := by omega
   have i4 : ¬ i = 4 := by omega
   simp only [go_sem, fN, seval, eT, iR, i3, i4]
  by_cases hlen : p.args.length = t.args.length
  case neg =>
   have hc : ¬ (p.name = t.name ∧ p.args.length = t.args.length) := fun h => hlen h.2
   have hlen' : ¬ (p.args.length : Int) = t.args.length := by omega
   repeat' with_reducible first | refine W ?_ | refine Z0 ?_ | ((first | refine Wo fun K hK => ?_ | refine Wp ?_ | refine Wq ?_ | refine Wr ?_); (try simp only [go_sem, fN, seval, eT, iR, hv, hSa, n3, n4, n7, d3, d4, d7, e3, e4, e7, hn, hlen', dT, dF, nL]); (repeat refine Ai ?_); (try (refine hK _ ?_; clear hK K)); try refine iC ?_)
   rw [Tm.mt_clash hv hc]
   refine Bj (Ab false) hS ha0 rfl trivial rfl rfl (by simp only [go_sem, fN, seval, eT, iR, e3, e4, hSa]) fun i hi hne => ?_
   have i3 : ¬ i = 3 := by omega
   have i4 : ¬ i = 4 := by omega
   simp only [go_sem, fN, seval, eT, iR, i3, i4]
  have hlen' : (p.args.length : Int) = t.args.length := by omega
  have hknot : p.mt t l = Tm.mtL p.args t.args l := Tm.mt_knot hv hn hlen
  repeat' with_reducible first | refine W ?_ | refine Z0 ?_ | ((first | refine Wo fun K hK => ?_ | refine Wp ?_ | refine Wq ?_ | refine Wr ?_); (try simp only [go_sem, fN, seval, eT, iR, hv, hSa, n3, n4, n7, d3, d4, d7, e3, e4, e7, hn, hlen', dT, dF, nL]); (repeat refine Ai ?_); (try (refine hK _ ?_; clear hK K)); try refine iC ?_)
  refine IWP.loop (fun m x => ∃ k, k ≤ p.args.length ∧ m = p.args.length - k ∧ (Tm.mtL (p.args.take k) (t.args.take k) l).2 = true ∧ x.env 2 = .one (.mptr a0) ∧ x.env 3 = .one (.ptr 3 1 0 0) ∧ x.env 4 = .one (.ptr 4 1 0 0) ∧ x.env 44 = AK p.args.length ∧ x.env 45 = AK k ∧
    x.S 3 = some (.box 29 [.st (.str t.name), .st (.list (p.args.map Ap))]) ∧ x.S 4 = some (.box 29 [.st (.str t.name), .st (.list (t.args.map Ap))]) ∧ x.S a0 = some (R9 (Tm.mtL (p.args.take k) (t.args.take k) l).1) ∧ ∀ i, 1000 ≤ i → i ≠ a0 → x.S i = S i)
   p.args.length ⟨0, Nat.zero_le _, rfl, by simp [Tm.mtL], rfl, rfl, rfl, by simp only [go_sem, fN, seval, eT, iR, hlen'], rfl, by simp only [go_sem, fN, seval, eT, iR, hn], rfl, by (simp only [go_sem, fN, seval, eT, iR, e3, e4, hSa]); simp [Tm.mtL], fun i hi hne => ?_⟩ ?_
  ·have i3 : ¬ i = 3 := by omega
   have i4 : ¬ i = 4 := by omega
   simp only [go_sem, fN, seval, eT, iR, i3, i4]
  rintro m ⟨env, S1⟩ ⟨k, hk, rfl, hok, e2, e3', e4', e44, e45, s3, s4, sa, hrest⟩
  simp only at e2 e3' e4' e44 e45 s3 s4 sa hrest
  have hend : ∀ (b : Bool) (r : List Bd) (env : Nat → AV) (S2 : AD), env 6 = Ab b → S2 a0 = some (R9 r) → (∀ i, 1000 ≤ i → i ≠ a0 → S2 i = S i) → JE C [.t 6] (Ab b) (AM S a0 (some (R9 r))) .ret ⟨env, S2⟩ := fun b r env S2 h6 h1 h2 =>
   Bj (Ab b) hS ha0 rfl trivial (by simp only [AA, AB, AH, h6, Option.map_some]) rfl h1 h2
  by_cases hlt : (k : Int) < p.args.length
  ·obtain ⟨a, ha⟩ := AT (show k < p.args.length by omega)
   obtain ⟨c, hc⟩ := AT (show k < t.args.length by omega)
   have hstep := Tm.mtL_take hlen ha hc hok
   repeat' with_reducible first | refine W ?_ | refine Z0 ?_ | ((first | refine Wo fun K hK => ?_ | refine Wp ?_ | refine Wq ?_ | refine Wr ?_); (try simp only [go_sem, fN, seval, eT, iR, e2, e3', e4', e44, e45, s3, s4, sa, hlt, ha, hc, dT, dF, nL]); (repeat refine Ai ?_); (try (refine hK _ ?_; clear hK K)); try refine iC ?_)
   refine ⟨_, _, ih _ (Tm.lt_of_arg (AI ha)) a (by have := Tm.size_mem (AI ha); omega) rfl c (up1 a0) (Tm.mtL (p.args.take k) (t.args.take k) l).1 (upS S1) (Aw a0) (by rw [A7, sa]; rfl), ?_⟩
   rw [← hstep]
   cases hb : (Tm.mtL (p.args.take (k + 1)) (t.args.take (k + 1)) l).2 with
   | true =>
    repeat' with_reducible first | refine W ?_ | refine Z0 ?_ | ((first | refine Wo fun K hK => ?_ | refine Wp ?_ | refine Wq ?_ | refine Wr ?_); (try simp only [go_sem, fN, seval, eT, iR, hb, e2, e3', e4', e44, e45, s3, s4, dT, dF, nL]); (repeat refine Ai ?_); (try (refine hK _ ?_; clear hK K)); try refine iC ?_)
    refine AE ⟨p.args.length - (k + 1), by omega, k + 1, by omega, rfl, hb, ?_⟩
    simp only [go_sem, fN, seval, eT, iR, e2, e3', e4', e44, s3, s4, d3, d4]
    refine ⟨by congr 3, fun i hi hne => ?_⟩
    simp only [go_sem, fN, seval, eT, iR, hne]
    exact hrest i hi hne
   | false =>
    have hno := Tm.mtL_no hlen hb
    repeat' with_reducible first | refine W ?_ | refine Z0 ?_ | ((first | refine Wo fun K hK => ?_ | refine Wp ?_ | refine Wq ?_ | refine Wr ?_); (try simp only [go_sem, fN, seval, eT, iR, hb, e2, e3', e4', e44, e45, s3, s4, dT, dF, nL]); (repeat refine Ai ?_); (try (refine hK _ ?_; clear hK K)); try refine iC ?_)
    rw [hknot, hno]
    refine hend false _ _ _ rfl (by simp only [go_sem, fN, seval, eT, iR]) fun i hi hne => ?_
    simp only [go_sem, fN, seval, eT, iR, hne]
    exact hrest i hi hne
  ·rw [List.take_of_length_le (by omega), List.take_of_length_le (by omega)] at hok sa
   repeat' with_reducible first | refine W ?_ | refine Z0 ?_ | ((first | refine Wo fun K hK => ?_ | refine Wp ?_ | refine Wq ?_ | refine Wr ?_); (try simp only [go_sem, fN, seval, eT, iR, e44, e45, hlt, dT, dF, nL]); (repeat refine Ai ?_); (try (refine hK _ ?_; clear hK K)); try refine iC ?_)
   rw [hknot, hok]
   exact hend true _ _ _ rfl sa hrest
theorem LL {l m : List Bd} (h : l.Perm m) (hn : BK m) : Ay l = Ay m :=
 D1 (Bb (Ca h.symm hn)) (Bb hn) ((BW l).trans (h.trans (BW m).symm))
theorem P3 (p t : Tm) (hp : p.size ≤ 100000) (ht : t.size ≤ 1000000) : AQ Tryz.prog 99 [aTm p, aTm t] (.tup [Dc (BT p t), Ab (CF p t)]) := by
 have hnm := Je p t
 have hml := Pp p t
 have hms := VG p t
 refine LM.ac fun C hC => ?_
 unfold Gq
 repeat' with_reducible first | refine W ?_ | refine Z0 ?_ | ((first | refine Wo fun K hK => ?_ | refine Wp ?_ | refine Wq ?_ | refine Wr ?_); (try simp only [go_sem, fN, seval, eT, iR, dT, dF, nL]); (repeat refine Ai ?_); (try (refine hK _ ?_; clear hK K)); try refine iC ?_)
 refine ⟨_, _, V6 p (by omega) t (up1 10) [] _ (Aw 10) (by rw [A7]; rfl), ?_⟩
 cases hc : (p.mt t []).2 with
 | false =>
  repeat' with_reducible first | refine W ?_ | refine Z0 ?_ | ((first | refine Wo fun K hK => ?_ | refine Wp ?_ | refine Wq ?_ | refine Wr ?_); (try simp only [go_sem, fN, seval, eT, iR, hc, dT, dF, nL]); (repeat refine Ai ?_); (try (refine hK _ ?_; clear hK K)); try refine iC ?_)
  simp only [go_sem, fN, seval, AJ, AS.result, AA, AB, AH]
  unfold BT CF
  rw [hc]
  rfl
 | true =>
  have hca : BT p t = Ay (p.mt t []).1 := by unfold BT; rw [if_pos hc]
  have his : CF p t = true := hc
  repeat' with_reducible first | refine W ?_ | refine Z0 ?_ | ((first | refine Wo fun K hK => ?_ | refine Wp ?_ | refine Wq ?_ | refine Wr ?_); (try simp only [go_sem, fN, seval, eT, iR, hc, DC, dT, dF, nL]); (repeat refine Ai ?_); (try (refine hK _ ?_; clear hK K)); try refine iC ?_)
  rw [hca, his]
  generalize (p.mt t []).1 = l at *
  refine IWP.ghost (Af.ownM 7 500 81 3 (by rfl) (by rfl) (by rw [hC]; decide)) ?_
  refine IWP.loopD [9] (fun m x => ∃ seen : List Nat, seen.Nodup ∧ (∀ j ∈ seen, j < l.length) ∧ m = l.length - seen.length ∧ x.env 7 = .one (.row 500 seen.length) ∧ x.env 17 = .one (.ptr 17 1 0 0) ∧ x.S 10 = some (R9 l) ∧ x.S 17 = some (.iter (.mptr 10) l.length seen) ∧ x.S 500 = some (BN (met l seen)) ∧ x.S 9 = none) l.length ⟨[], List.nodup_nil, by simp, rfl, rfl, rfl, by simp only [go_sem, fN, seval, eT, iR], by simp only [go_sem, fN, seval, eT, iR], rfl, rfl⟩ ?_
  rintro m ⟨env, S⟩ ⟨seen, hnd, hlt, rfl, e7, e17, s10, s17, s500, s9⟩
  simp only at e7 e17 s10 s17 s500 s9
  have hsl := OL hnd hlt
  have hmt := Q1 hlt
  repeat' with_reducible first | refine W ?_ | refine Z0 ?_ | ((first | refine Wo fun K hK => ?_ | refine Wp ?_ | refine Wq ?_ | refine Wr ?_); (try simp only [go_sem, fN, seval, eT, iR, e7, e17, s10, s17, EW, dT, dF, nL]); (repeat refine Ai ?_); (try (refine hK _ ?_; clear hK K)); try refine iC ?_)
  refine ⟨fun hall => ?_, fun j x c hx hj hkv => ?_⟩
  ·have hmp := UK hnd hlt hall
   have hl' : seen.length = l.length := by rw [← hmt]; exact hmp.length_eq
   refine hK _ ?_
   clear hK K
   refine Wb ?_
   refine Wa ?_
   with_reducible refine Wp ?_
   simp only [go_sem, fN, seval, true_implies, false_implies, implies_true, dT, dF, nL]
   (try with_reducible refine iC ?_)
   repeat' (with_reducible first | refine Wb ?_ | refine Wc ?_ | refine Wd ?_ | refine We ?_ | refine Wg ?_ | refine Wh ?_ | refine Wi ?_ | refine Wj ?_ | refine Wk (by decide) ?_ | refine Wl ?_ | refine Wm ?_ | refine Wn ?_)
   refine IWP.mid (fun x => x.env 4 = .one (.row 500 l.length) ∧ x.env 5 = Ab true ∧ x.S 500 = some (BN (Ay l))) ?_ ?_
   ·have hs := Py (met l seen) (Ca hmp.symm hnm) (by omega) (up1 500) (Aw 500) (upS S) (by rw [A7, s500]; rfl)
    rw [hmt, hl', LL hmp hnm] at hs
    rw [hl'] at e7
    repeat' with_reducible first | refine W ?_ | refine Z0 ?_ | ((first | refine Wo fun K hK => ?_ | refine Wq ?_ | refine Wr ?_); (try simp only [go_sem, fN, seval, eT, iR, e7]); (repeat refine Ai ?_); (try (refine hK _ ?_; clear hK K)))
    refine ⟨_, _, hs, ?_⟩
    repeat' with_reducible first | refine W ?_ | refine Z0 ?_ | ((first | refine Wo fun K hK => ?_ | refine Wq ?_ | refine Wr ?_); (try simp only [go_sem, fN, seval, eT, iR, e7]); (repeat refine Ai ?_); (try (refine hK _ ?_; clear hK K)))
    refine ⟨rfl, ?_⟩
    simp only [go_sem, fN, seval, eT, iR]
   rintro ⟨env, S⟩ ⟨e4, e5, s500⟩
   simp only at e4 e5 s500
   refine IWP.ghost (Af.share (id := 500) s500) ?_
   repeat' with_reducible first | refine W ?_ | refine Z0 ?_ | ((first | refine Wo fun K hK => ?_ | refine Wq ?_ | refine Wr ?_); (try simp only [go_sem, fN, seval, eT, iR]); (repeat refine Ai ?_); (try (refine hK _ ?_; clear hK K)))
   simp only [go_sem, fN, seval, AJ, AS.result, AA, AB, AH, e4, e5, BM]
  ·rw [Option.map_eq_some_iff] at hx
   obtain ⟨b, hb, rfl⟩ := hx
   have hbz := hms b (AI hb)
   have hjl : j < l.length := by
    rcases Nat.lt_or_ge j l.length with h | h
    ·exact h
    ·rw [List.getElem?_eq_none h] at hb; cases hb
   have hcv : c = .str b.1 := by
    have : some (SV.str b.1) = some c := hkv
    cases this
    rfl
   subst hcv
   have hnd' : (seen ++ [j]).Nodup := by
    rw [List.nodup_append]
    exact ⟨hnd, by simp, fun a ha b hb e => hj (by rw [List.mem_singleton.1 hb] at e; rw [← e]; exact ha)⟩
   have hlt' : ∀ i ∈ seen ++ [j], i < l.length := fun i hi => by
    rcases List.mem_append.1 hi with h | h
    ·exact hlt i h
    ·rw [List.mem_singleton.1 h]; exact hjl
   have hsl' := OL hnd' hlt'
   rw [List.length_append, List.length_singleton] at hsl'
   refine hK _ ?_
   clear hK K
   refine Wb ?_
   repeat' (first | (with_reducible first | refine W ?_ | refine Z0 ?_ | ((first | refine Wo fun K hK => ?_ | refine Wp ?_ | refine Wq ?_ | refine Wr ?_); (try simp only [go_sem, fN, seval, eT, iR, e7, e17, s10, s17, s500, s9, EW, List.getLast?_concat, hb, QP, KV.sv, hmt, BG, dT, dF, nL]); (repeat refine Ai ?_); (try (refine hK _ ?_; clear hK K)); try refine iC ?_)) | refine Cg _ (NJ b.2 (by omega)) ?_)
   refine AE ⟨l.length - (seen.length + 1), by omega, seen ++ [j], hnd', hlt', by rw [List.length_append, List.length_singleton], ?_⟩
   rw [TQ hb]
   simp only [go_sem, fN, seval, AS.drop, Ak, AC.clears, AC.clear, AC.highs, AC.high, Bool.not_false, Bool.true_and, Bool.and_self, AV.purge, AV.purges, AC.purge, AN.purge, List.contains_cons, List.contains_nil, Nat.reduceBEq, Bool.or_self, Bool.or_false, Bool.false_or, Bool.or_true, eT, iR, e7, e17, s10, s500]
   show AN.mrow _ _ ((met l seen).map BG ++ [BG b]) = BN _
   rw [BN, List.map_append]
   rfl

def HY : IR :=
 (.seq (.ops [.i 1 (.box 29 (.t 0)), .i 2 (.mov (.n 0))]) (.seq (.ops [.i 3 (.mov (.n 1))]) (.seq (.seq (.ops [.f 6 1 1, .l 7 6, .i 8 (.len false (.t 7)), .i 9 (.mov (.n 0))]) (.block 0 (.loop (.seq (.ops [.i 10 (.bin .lss (.t 9) (.t 8))]) (.seq (.cond (.t 10) .skip (.exit 0)) (.seq (.block 1 (.seq (.ops [.i 11 (.indexAddr 2 (.t 7) (.t 9)), .L 12 2 11, .i 5 (.alloc 29 [.st (.str (ByteArray.mk (#[]))), .full []]), .s 2 5 12]) (.ops [.m 13 3, .L 14 2 5, .i 15 (.call 76 [.t 14]), .i 16 (.bin .add (.t 13) (.t 15)), .m 3 16]))) (.ops [.i 17 (.bin .add (.t 9) (.n 1)), .m 9 17]))))))) (.seq (.ops [.m 18 3, .m 2 18]) .ret))))
theorem NG : OkF Tryz.prog 76 19 [] HY [.t 2] := .of Tryz.func76 rfl rfl (by kernel_rfl) rfl

theorem VE (t : Tm) (hz : t.size ≤ 1000000) : AQ Tryz.prog 76 [aTm t] (AK t.size) := by
 induction h : SizeOf.sizeOf t using Nat.strongRecOn generalizing t with
 | _ N ih =>
 subst h
 have hs := Tm.size_eq t
 have hln := Tm.length_le t.args
 refine NG.ac fun C hC => ?_
 unfold HY
 repeat' with_reducible first | refine W ?_ | refine Z0 ?_ | ((first | refine Wo fun K hK => ?_ | refine Wp ?_ | refine Wq ?_ | refine Wr ?_); (try simp only [go_sem, fN, seval, eT, iR, dT, dF, nL]); (repeat refine Ai ?_); (try (refine hK _ ?_; clear hK K)); try refine iC ?_)
 refine IWP.loopD [5] (fun m s => ∃ k, k ≤ t.args.length ∧ m = t.args.length - k ∧ s.env 3 = AK ((1 + Tm.sizes (t.args.take k) : Nat) : Int) ∧ s.env 7 = Dn t.args ∧ s.env 8 = AK t.args.length ∧ s.env 9 = AK k ∧ s.S 5 = none) t.args.length ⟨0, Nat.zero_le _, rfl, rfl, rfl, rfl, rfl, rfl⟩ ?_
 rintro m ⟨env, S⟩ ⟨k, hk, rfl, e3, e7, e8, e9, s5⟩
 simp only at e3 e7 e8 e9 s5
 by_cases hlt : (k : Int) < t.args.length
 ·obtain ⟨a, ha⟩ := AT (show k < t.args.length by omega)
  have h1 := Tm.sizes_take ha
  have h2 := Tm.sizes_take_le t.args (k + 1)
  repeat' (first | (with_reducible first | refine W ?_ | refine Z0 ?_ | ((first | refine Wo fun K hK => ?_ | refine Wp ?_ | refine Wq ?_ | refine Wr ?_); (try simp only [go_sem, fN, seval, eT, iR, e3, e7, e8, e9, s5, hlt, ha, dT, dF, nL]); (repeat refine Ai ?_); (try (refine hK _ ?_; clear hK K)); try refine iC ?_)) | refine Cg _ (ih _ (Tm.lt_of_arg (AI ha)) a (by omega) rfl) ?_)
  refine AE ⟨t.args.length - (k + 1), by omega, k + 1, by omega, rfl, ?_⟩
  simp only [go_sem, fN, seval, AS.drop, Ak, AC.clears, AC.clear, AC.highs, AC.high, Bool.not_false, Bool.true_and, Bool.and_self, AV.purge, AV.purges, AC.purge, AN.purge, List.contains_cons, List.contains_nil, Nat.reduceBEq, Bool.or_self, Bool.or_false, Bool.false_or, Bool.or_true, eT, iR, e3, e7, e8, e9, s5]
  exact ⟨by rw [h1]; congr 3; omega, by congr 3⟩
 ·repeat' with_reducible first | refine W ?_ | refine Z0 ?_ | ((first | refine Wo fun K hK => ?_ | refine Wp ?_ | refine Wq ?_ | refine Wr ?_); (try simp only [go_sem, fN, seval, eT, iR, e3, e7, e8, e9, hlt, dT, dF, nL]); (repeat refine Ai ?_); (try (refine hK _ ?_; clear hK K)); try refine iC ?_)
  simp only [go_sem, fN, seval, AJ, AS.result, AA, AB, AH]
  rw [List.take_of_length_le (by omega), hs]

theorem U8 (l : List Tm) (h0 : 0 < l.length) (hl : l.length ≤ 1000000) : E2 Tryz.prog 89 [Dn l] 29 2 (l.map Ap) true := by
 unfold E2
 rw [List.length_map]
 refine Bk.acS fun hS C hC => ?_
 unfold Az
 have h0' : ¬ l.length = 0 := by omega
 have hb : l.length * 40 ≤ 140737488355328 := by omega
 repeat' with_reducible first | refine W ?_ | refine Z0 ?_ | ((first | refine Wo fun K hK => ?_ | refine Wp ?_ | refine Wq ?_ | refine Wr ?_); (try simp only [go_sem, fN, seval, eT, iR, h0', hb, dT, dF, nL]); (repeat refine Ai ?_); (try (refine hK _ ?_; clear hK K)); try refine iC ?_)
 exact Wz (mu := true) trivial 7 (by decide) rfl (fun i hi => by show AM _ _ _ _ = _; rw [AO _ (by omega)]; rfl) rfl
def MB (r : Tm × Int × Int) : AV := .tup [aTm r.1, AK r.2.1, AK r.2.2]
theorem WB {R : List Pr} (hR : Au R) (t : Tm) (hc : t.chk = 0) (hz : t.size ≤ 1000000) (f : Nat) (hf : f ≤ R.length) : AQ Tryz.prog 90 [BF R, aTm t, AK f] (MB (Ga t f (R.drop f))) := by
 unfold MB
 have h40 := hR.len
 refine JI.ac fun C hC => ?_
 unfold FL
 repeat' with_reducible first | refine W ?_ | refine Z0 ?_ | ((first | refine Wo fun K hK => ?_ | refine Wp ?_ | refine Wq ?_ | refine Wr ?_); (try simp only [go_sem, fN, seval, eT, iR, dT, dF, nL]); (repeat refine Ai ?_); (try (refine hK _ ?_; clear hK K)); try refine iC ?_)
 refine IWP.loop (fun m s => ∃ k, k ≤ R.length ∧ m = R.length - k ∧ Ga t f (R.drop f) = Ga t k (R.drop k) ∧ s.env 0 = BF R ∧ s.env 4 = .one (.ptr 4 1 0 0) ∧ s.env 6 = .one (.ptr 6 1 0 0) ∧ s.S 4 = some (.box 29 [.st (.str t.name), .st (.list (t.args.map Ap))]) ∧ s.S 6 = some (.box 29 [.st (.str ⟨#[]⟩), .full []]) ∧ s.S 12 = none ∧ s.env 9 = AK k) (R.length - f) ⟨f, hf, rfl, rfl, rfl, rfl, rfl, rfl, rfl, rfl, rfl⟩ ?_
 rintro m ⟨env, S⟩ ⟨k, hk, rfl, hrk, e0, e4, e6, s4, s6, s12, e9⟩
 simp only at e0 e4 e6 s4 s6 s12 e9
 rw [hrk]
 by_cases hlt : (k : Int) < R.length
 ·obtain ⟨r, hr⟩ := AT (show k < R.length by omega)
  have hmem := AI hr
  have c1 := Tm.may_chk (hR.left r hmem)
  have c2 := Tm.may_chk (hR.right r hmem)
  have hok := Qz c1.1 hc
  have hd := BS hr
  rw [hd, Ga]
  by_cases hcase : CF r.1 t = true
  ·rw [if_pos hcase]
   have hon := Lq (BT r.1 t) (by have := Np (p := r.1) (t := t); omega) hok.ord r.2 hok.var c2.1
   by_cases hon2 : (Aq (BT r.1 t) r.2).2 = true
   ·repeat' (first | (with_reducible first | refine W ?_ | refine Z0 ?_ | ((first | refine Wo fun K hK => ?_ | refine Wp ?_ | refine Wq ?_ | refine Wr ?_); (try simp only [go_sem, fN, seval, eT, iR, e0, e4, e6, s4, s6, s12, e9, hlt, hr, At, hcase, hon2, dT, dF, nL]); (repeat refine Ai ?_); (try (refine hK _ ?_; clear hK K)); try refine iC ?_)) | refine Cg _ (P3 r.1 t (by omega) hz) ?_ | refine Cg _ (hon) ?_)
    simp only [go_sem, fN, seval, AJ, AS.result, AA, AB, AH, e6, s6, hon2]
   ·have hnil := RC hon2
    simp only [Bool.not_eq_true] at hon2
    repeat' (first | (with_reducible first | refine W ?_ | refine Z0 ?_ | ((first | refine Wo fun K hK => ?_ | refine Wp ?_ | refine Wq ?_ | refine Wr ?_); (try simp only [go_sem, fN, seval, eT, iR, e0, e4, e6, s4, s6, s12, e9, hlt, hr, At, hcase, hon2, dT, dF, nL]); (repeat refine Ai ?_); (try (refine hK _ ?_; clear hK K)); try refine iC ?_)) | refine Cg _ (P3 r.1 t (by omega) hz) ?_ | refine Cg _ (hon) ?_)
    simp only [go_sem, fN, seval, AJ, AS.result, AA, AB, AH, e6, s6, hon2, hnil]
    rfl
  ·rw [if_neg hcase]
   repeat' (first | (with_reducible first | refine W ?_ | refine Z0 ?_ | ((first | refine Wo fun K hK => ?_ | refine Wp ?_ | refine Wq ?_ | refine Wr ?_); (try simp only [go_sem, fN, seval, eT, iR, e0, e4, e6, s4, s6, s12, e9, hlt, hr, At, hcase, dT, dF, nL]); (repeat refine Ai ?_); (try (refine hK _ ?_; clear hK K)); try refine iC ?_)) | refine Cg _ (P3 r.1 t (by omega) hz) ?_)
   refine AE ⟨R.length - (k + 1), by omega, k + 1, by omega, rfl, ?_, ?_⟩
   ·rfl
   ·simp only [go_sem, fN, seval, eT, iR, e0, e4, e6, s4, s6, s12, e9]
    congr 3
 ·have hd : R.drop k = [] := List.drop_of_length_le (by omega)
  rw [hd]
  repeat' with_reducible first | refine W ?_ | refine Z0 ?_ | ((first | refine Wo fun K hK => ?_ | refine Wp ?_ | refine Wq ?_ | refine Wr ?_); (try simp only [go_sem, fN, seval, eT, iR, e0, e4, e6, s4, s6, s12, e9, hlt, dT, dF, nL]); (repeat refine Ai ?_); (try (refine hK _ ?_; clear hK K)); try refine iC ?_)
  simp only [go_sem, fN, seval, AJ, AS.result, AA, AB, AH, e6, s6]
  rfl
def Iu (t : Tm) (r : Option (Tm × Int)) : AV := match r with
 | none => .tup [aTm t, Ab false, AK 0]
 | some (x, e) => .tup [aTm x, Ab true, AK e]
theorem Wy {R : List Pr} {t : Tm} (h : DR R t = none) : MB (Ga t 0 (R.drop 0)) = .tup [aTm Tm.nil, AK (-1), AK 0] := by
 have := J3 R t R 0
 unfold DR at h
 rw [h] at this
 rw [List.drop_zero, MB, this]
theorem W1 {R : List Pr} {t x : Tm} {e : Int} (h : DR R t = some (x, e)) : ∃ i : Nat, MB (Ga t 0 (R.drop 0)) = .tup [aTm x, AK i, AK e] := by
 have := J3 R t R 0
 unfold DR at h
 rw [h] at this
 obtain ⟨i, hi⟩ := this
 exact ⟨i, by rw [List.drop_zero, MB, hi]⟩
theorem OB {R : List Pr} (hR : Au R) (t : Tm) (hc : t.chk = 0) (hz : t.size ≤ 1000000) : AQ Tryz.prog 75 [BF R, aTm t] (Iu Tm.nil (t.inn R)) := by
 induction h : SizeOf.sizeOf t using Nat.strongRecOn generalizing t with
 | _ N ih =>
 subst h
 have hs := Tm.size_eq t
 have hln := Tm.length_le t.args
 refine Fm.ac fun C hC => ?_
 unfold Da
 repeat' with_reducible first | refine W ?_ | refine Z0 ?_ | ((first | refine Wo fun K hK => ?_ | refine Wp ?_ | refine Wq ?_ | refine Wr ?_); (try simp only [go_sem, fN, seval, eT, iR, dT, dF, nL]); (repeat refine Ai ?_); (try (refine hK _ ?_; clear hK K)); try refine iC ?_)
 refine IWP.loopD [8] (fun m s => ∃ k, k ≤ t.args.length ∧ m = t.args.length - k ∧ (∀ b ∈ t.args.take k, b.inn R = none) ∧ s.env 0 = BF R ∧ s.env 3 = .one (.ptr 3 1 0 0) ∧ s.env 4 = .one (.ptr 4 1 0 0) ∧ s.S 3 = some (.box 29 [.st (.str t.name), .st (.list (t.args.map Ap))]) ∧ s.S 4 = some (.box 29 [.st (.str ⟨#[]⟩), .full []]) ∧ s.S 8 = none ∧ s.S 11 = none ∧ s.S 12 = none ∧ s.S 41 = none ∧ s.env 17 = AK t.args.length ∧ s.env 18 = AK k)
  t.args.length ⟨0, Nat.zero_le _, rfl, by simp, rfl, rfl, rfl, rfl, rfl, rfl, rfl, rfl, rfl, rfl, rfl⟩ ?_
 rintro m ⟨env, S⟩ ⟨k, hk, rfl, hno, e0, e3, e4, s3, s4, s8, s11, s12, s41, e17, e18⟩
 simp only at e0 e3 e4 s3 s4 s8 s11 s12 s41 e17 e18
 by_cases hlt : (k : Int) < t.args.length
 ·obtain ⟨a, ha⟩ := AT (show k < t.args.length by omega)
  have hmem := AI ha
  have hcon := ih _ (Tm.lt_of_arg hmem) a ((Tm.chk_args hc).2 a hmem) (by have := Tm.size_mem hmem; omega) rfl
  cases hi : a.inn R with
  | none =>
   rw [hi] at hcon
   unfold Iu at hcon
   repeat' (first | (with_reducible first | refine W ?_ | refine Z0 ?_ | ((first | refine Wo fun K hK => ?_ | refine Wp ?_ | refine Wq ?_ | refine Wr ?_); (try simp only [go_sem, fN, seval, eT, iR, e0, e3, e4, s3, s4, s8, s11, s12, s41, e17, e18, hlt, ha, dT, dF, nL]); (repeat refine Ai ?_); (try (refine hK _ ?_; clear hK K)); try refine iC ?_)) | refine Cg _ (hcon) ?_)
   refine AE ⟨t.args.length - (k + 1), by omega, k + 1, by omega, rfl, ?_, ?_⟩
   ·intro b hb
    rw [AY ha] at hb
    rcases List.mem_append.1 hb with hb | hb
    ·exact hno b hb
    ·rw [List.mem_singleton.1 hb]
     exact hi
   ·simp only [go_sem, fN, seval, AS.drop, Ak, AC.clears, AC.clear, AC.highs, AC.high, Bool.not_false, Bool.true_and, Bool.and_self, AV.purge, AV.purges, AC.purge, AN.purge, List.contains_cons, List.contains_nil, Nat.reduceBEq, Bool.or_self, Bool.or_false, Bool.false_or, Bool.or_true, eT, iR, e0, e3, e4, s3, s4, s8, s11, s12, s41, e17, e18]
    congr 3
  | some r =>
   obtain ⟨y, e⟩ := r
   rw [hi] at hcon
   unfold Iu at hcon
   have hin : t.inn R = some (.mk t.name (t.args.set k y), e) := by
    rw [Tm.inn_eq, RX ha hno hi]
   rw [hin]
   unfold Iu
   by_cases he : e = 0
   all_goals
    repeat' (first | (with_reducible first | refine W ?_ | refine Z0 ?_ | ((first | refine Wo fun K hK => ?_ | refine Wp ?_ | refine Wq ?_ | refine Wr ?_); (try simp only [go_sem, fN, seval, eT, iR, e0, e3, e4, s3, s4, s8, s11, s12, s41, e17, e18, hlt, ha, he, dT, dF, nL]); (repeat refine Ai ?_); (try (refine hK _ ?_; clear hK K)); try refine iC ?_)) | refine Cg _ (hcon) ?_)
    refine ⟨_, _, _, _, U8 t.args (by omega) (by omega), by simp [AM, s41], ?_⟩
    refine Wr ?_
    simp only [go_sem, fN, seval, eT, iR, e0, e3, e4, s3, s4, s8, s11, s12, s41, e17, e18, hlt, ha, he]
    refine hK _ ?_
    clear hK K
    refine Wb ?_
    refine IWP.mid (fun x => x.env 4 = .one (.ptr 4 1 0 0) ∧ x.env 11 = .one (.ptr 11 1 0 0) ∧ x.env 9 = Ab true ∧ x.env 10 = AK e ∧ x.S 4 = some (.box 29 [.st (.str ⟨#[]⟩), .full []]) ∧ x.S 11 = some (.box 29 [.st (.str t.name), .row 41 t.args.length]) ∧ x.S 41 = some (.mrow 29 2 ((t.args.set k y).map Ap))) ?_ ?_
    ·repeat' with_reducible first | refine W ?_ | refine Z0 ?_ | ((first | refine Wo fun K hK => ?_ | refine Wp ?_ | refine Wq ?_ | refine Wr ?_); (try simp only [go_sem, fN, seval, eT, iR, e0, e3, e4, s3, s4, s8, s11, s12, s41, e17, e18, hlt, ha, he, dT, dF, nL]); (repeat refine Ai ?_); (try (refine hK _ ?_; clear hK K)); try refine iC ?_)
     refine ⟨rfl, ?_⟩
     simp only [go_sem, fN, seval, eT, iR, e0, e3, e4, s3, s4, s8, s11, s12, s41, e17, e18, hlt, ha, he]
     rw [List.map_set, BC]
    rintro ⟨env, S⟩ ⟨e4, e11, e9, e10, s4, s11, s41⟩
    simp only at e4 e11 e9 e10 s4 s11 s41
    refine IWP.ghost (Af.share (id := 41) s41) ?_
    have hl1 : (t.args.set k y).length = t.args.length := by simp
    repeat' with_reducible first | refine W ?_ | refine Z0 ?_ | ((first | refine Wo fun K hK => ?_ | refine Wp ?_ | refine Wq ?_ | refine Wr ?_); (try simp only [go_sem, fN, seval, eT, iR, e4, e11, e9, e10, s4, s11, hl1, dT, dF, nL]); (repeat refine Ai ?_); (try (refine hK _ ?_; clear hK K)); try refine iC ?_)
    simp only [go_sem, fN, seval, AJ, AS.result, AA, AB, AH, e4, s4, hl1]
    first | rfl | (rw [he]; rfl)
 ·rw [List.take_of_length_le (by omega)] at hno
  have hin : t.inn R = DR R t := by rw [Tm.inn_eq, PB hno]
  rw [hin]
  have hroot := WB hR t hc hz 0 (by omega)
  cases hr : DR R t with
  | none =>
   rw [Wy hr] at hroot
   unfold Iu
   repeat' (first | (with_reducible first | refine W ?_ | refine Z0 ?_ | ((first | refine Wo fun K hK => ?_ | refine Wp ?_ | refine Wq ?_ | refine Wr ?_); (try simp only [go_sem, fN, seval, eT, iR, e0, e3, e4, s3, s4, s8, s11, s12, s41, e17, e18, hlt, dT, dF, nL]); (repeat refine Ai ?_); (try (refine hK _ ?_; clear hK K)); try refine iC ?_)) | refine Cg _ (hroot) ?_)
   simp only [go_sem, fN, seval, AJ, AS.result, AA, AB, AH, e4, s4]
  | some r =>
   obtain ⟨x, e⟩ := r
   obtain ⟨i, hi⟩ := W1 hr
   rw [hi] at hroot
   unfold Iu
   repeat' (first | (with_reducible first | refine W ?_ | refine Z0 ?_ | ((first | refine Wo fun K hK => ?_ | refine Wp ?_ | refine Wq ?_ | refine Wr ?_); (try simp only [go_sem, fN, seval, eT, iR, e0, e3, e4, s3, s4, s8, s11, s12, s41, e17, e18, hlt, dT, dF, nL]); (repeat refine Ai ?_); (try (refine hK _ ?_; clear hK K)); try refine iC ?_)) | refine Cg _ (hroot) ?_)
   simp only [go_sem, fN, seval, AJ, AS.result, AA, AB, AH, e4, s4]

def Rq (r : Tm × Int × Int) : AV := .tup [aTm r.1, AK r.2.1, AK r.2.2]
abbrev Jp (t : Tm) : AN := .box 29 [.st (.str t.name), .st (.list (t.args.map Ap))]
abbrev TZ : AN := .box 29 [.st (.str ⟨#[]⟩), .full []]
theorem L6 {step : Tm → Option (Tm × Int)} {t : Tm} (h : step t = none) (k : Nat) (n : Int) : CW step k n t = (t, n, 0) := by
 cases k <;> (unfold CW; rw [h])
theorem Lm {step : Tm → Option (Tm × Int)} {t : Tm} {r : Tm × Int} (h : step t = some r) (n : Int) : CW step 0 n t = (Tm.nil, 0, 9) := by
 unfold CW
 rw [h]
theorem OG {step : Tm → Option (Tm × Int)} {t x : Tm} {e : Int} (h : step t = some (x, e)) (he : e ≠ 0) (k : Nat) (n : Int) : CW step (k + 1) n t = (Tm.nil, 0, e) := by
 rw [CW, h]
 exact if_pos he
theorem Ko {step : Tm → Option (Tm × Int)} {t x : Tm} (h : step t = some (x, 0)) (hz : 2000 < x.size) (k : Nat) (n : Int) : CW step (k + 1) n t = (Tm.nil, 0, 8) := by
 rw [CW, h]
 simp only [ne_eq, not_true_eq_false, if_false]
 exact if_pos hz
theorem Qp {step : Tm → Option (Tm × Int)} {t x : Tm} (h : step t = some (x, 0)) (hz : ¬ 2000 < x.size) (k : Nat) (n : Int) : CW step (k + 1) n t = CW step k (n + 1) x := by
 rw [CW, h]
 simp only [ne_eq, not_true_eq_false, if_false]
 exact if_neg hz
theorem UO {R : List Pr} (hR : Au R) (t0 : Tm) (hc0 : t0.chk = 0) (hz0 : t0.size ≤ 900000) (most : Nat) (hm : most ≤ 1000000) : AQ Tryz.prog 52 [BF R, aTm t0, AK most] (Rq (CW (Tm.inn R) most 0 t0)) := by
 unfold Rq
 refine JJ.ac fun C hC => ?_
 unfold FQ
 repeat' (first | (with_reducible first | refine W ?_ | refine Z0 ?_ | ((first | refine Wo fun K hK => ?_ | refine Wp ?_ | refine Wq ?_ | refine Wr ?_); (try simp only [go_sem, fN, seval, eT, iR, dT, dF, nL]); (repeat refine Ai ?_); (try (refine hK _ ?_; clear hK K)); try refine iC ?_)) | refine Cg _ (NJ t0 (by omega)) ?_)
 refine IWP.loopD [10] (fun m s => ∃ (n : Nat) (t : Tm), n ≤ most ∧ m = most - n ∧ CW (Tm.inn R) most 0 t0 = CW (Tm.inn R) (most - n) n t ∧ t.chk = 0 ∧ t.size ≤ 900000 ∧ s.env 0 = BF R ∧ s.env 2 = AK most ∧ s.env 4 = .one (.ptr 4 1 0 0) ∧ s.env 6 = .one (.ptr 6 1 0 0) ∧ s.env 9 = AK n ∧ s.S 4 = some (Jp t) ∧ s.S 6 = some TZ ∧ s.S 10 = none)
  most ⟨0, t0, by omega, by omega, rfl, hc0, hz0, rfl, rfl, rfl, rfl, rfl, rfl, rfl, rfl⟩ ?_
 rintro m ⟨env, S⟩ ⟨n, t, hn, rfl, hend, hc, hz, e0, e2, e4, e6, e9, s4, s6, s10⟩
 simp only at e0 e2 e4 e6 e9 s4 s6 s10
 rw [hend]
 have hcon := OB hR t hc (by omega)
 cases hs : t.inn R with
 | none =>
  rw [hs] at hcon
  unfold Iu at hcon
  rw [L6 hs]
  repeat' (first | (with_reducible first | refine W ?_ | refine Z0 ?_ | ((first | refine Wo fun K hK => ?_ | refine Wp ?_ | refine Wq ?_ | refine Wr ?_); (try simp only [go_sem, fN, seval, eT, iR, e0, e2, e4, e6, e9, s4, s6, s10, dT, dF, nL]); (repeat refine Ai ?_); (try (refine hK _ ?_; clear hK K)); try refine iC ?_)) | refine Cg _ (hcon) ?_)
  simp only [go_sem, fN, seval, AJ, AS.result, AA, AB, AH, e6, s6]
 | some r =>
  obtain ⟨x, e⟩ := r
  rw [hs] at hcon
  unfold Iu at hcon
  obtain ⟨g1, g2, g3⟩ := Ku hR hc hs
  by_cases hmost : n = most
  ·have hmi : (n : Int) = most := by omega
   rw [show most - n = 0 by omega, Lm hs]
   repeat' (first | (with_reducible first | refine W ?_ | refine Z0 ?_ | ((first | refine Wo fun K hK => ?_ | refine Wp ?_ | refine Wq ?_ | refine Wr ?_); (try simp only [go_sem, fN, seval, eT, iR, e0, e2, e4, e6, e9, s4, s6, s10, hmi, dT, dF, nL]); (repeat refine Ai ?_); (try (refine hK _ ?_; clear hK K)); try refine iC ?_)) | refine Cg _ (hcon) ?_)
   simp only [go_sem, fN, seval, AJ, AS.result, AA, AB, AH, e6, s6]
   rfl
  have hmi : ¬ (n : Int) = most := by omega
  obtain ⟨k, hk⟩ : ∃ k, most - n = k + 1 := ⟨most - n - 1, by omega⟩
  rw [hk]
  by_cases he : e = 0
  case neg =>
   rw [OG hs he]
   repeat' (first | (with_reducible first | refine W ?_ | refine Z0 ?_ | ((first | refine Wo fun K hK => ?_ | refine Wp ?_ | refine Wq ?_ | refine Wr ?_); (try simp only [go_sem, fN, seval, eT, iR, e0, e2, e4, e6, e9, s4, s6, s10, hmi, he, dT, dF, nL]); (repeat refine Ai ?_); (try (refine hK _ ?_; clear hK K)); try refine iC ?_)) | refine Cg _ (hcon) ?_)
   simp only [go_sem, fN, seval, AJ, AS.result, AA, AB, AH, e6, s6]
   rfl
  case pos =>
  subst he
  have hsz := VE x (by omega)
  by_cases hgr : (2000 : Int) < x.size
  ·rw [Ko hs (by omega)]
   repeat' (first | (with_reducible first | refine W ?_ | refine Z0 ?_ | ((first | refine Wo fun K hK => ?_ | refine Wp ?_ | refine Wq ?_ | refine Wr ?_); (try simp only [go_sem, fN, seval, eT, iR, e0, e2, e4, e6, e9, s4, s6, s10, hmi, hgr, dT, dF, nL]); (repeat refine Ai ?_); (try (refine hK _ ?_; clear hK K)); try refine iC ?_)) | refine Cg _ (hcon) ?_ | refine Cg _ (hsz) ?_)
   simp only [go_sem, fN, seval, AJ, AS.result, AA, AB, AH, e6, s6]
   rfl
  ·repeat' (first | (with_reducible first | refine W ?_ | refine Z0 ?_ | ((first | refine Wo fun K hK => ?_ | refine Wp ?_ | refine Wq ?_ | refine Wr ?_); (try simp only [go_sem, fN, seval, eT, iR, e0, e2, e4, e6, e9, s4, s6, s10, hmi, hgr, dT, dF, nL]); (repeat refine Ai ?_); (try (refine hK _ ?_; clear hK K)); try refine iC ?_)) | refine Cg _ (hcon) ?_ | refine Cg _ (hsz) ?_)
   refine AE ⟨most - (n + 1), by omega, n + 1, x, by omega, rfl, ?_, g2 rfl, by omega, ?_⟩
   ·rw [show most - (n + 1) = k by omega]
    exact Qp hs (by omega) k n
   ·simp only [go_sem, fN, seval, AS.drop, Ak, AC.clears, AC.clear, AC.highs, AC.high, Bool.not_false, Bool.true_and, Bool.and_self, AV.purge, AV.purges, AC.purge, AN.purge, List.contains_cons, List.contains_nil, Nat.reduceBEq, Bool.or_self, Bool.or_false, Bool.false_or, Bool.or_true, eT, iR, e0, e2, e4, e6, e9, s4, s6, s10]
    congr 3
theorem W0 {R : List Pr} (hR : Au R) (a b : Tm) (ha : a.chk = 0) (hb : b.chk = 0) (za : a.size ≤ 900000) (zb : b.size ≤ 900000) (most : Nat) (hm : most ≤ 1000000) : AQ Tryz.prog 25 [BF R, aTm a, aTm b, AK most] (.tup [Ab (Fe R most a b).1, AK (Fe R most a b).2]) := by
 have l1 := UO hR a ha za most hm
 have l2 := UO hR b hb zb most hm
 have hmet : Fe R most a b = if (CW (Tm.inn R) most 0 a).2.2 ≠ 0 then (false, (CW (Tm.inn R) most 0 a).2.2) else if (CW (Tm.inn R) most 0 b).2.2 ≠ 0 then (false, (CW (Tm.inn R) most 0 b).2.2) else ((CW (Tm.inn R) most 0 a).1.beq (CW (Tm.inn R) most 0 b).1, 0) := rfl
 rw [hmet]
 unfold Rq at l1 l2
 generalize CW (Tm.inn R) most 0 a = x at *
 generalize CW (Tm.inn R) most 0 b = y at *
 clear hmet
 refine Jq.ac fun C hC => ?_
 unfold F7
 by_cases h1 : x.2.2 = 0
 case neg =>
  rw [if_pos h1]
  repeat' (first | (with_reducible first | refine W ?_ | refine Z0 ?_ | ((first | refine Wo fun K hK => ?_ | refine Wp ?_ | refine Wq ?_ | refine Wr ?_); (try simp only [go_sem, fN, seval, eT, iR, h1, dT, dF, nL]); (repeat refine Ai ?_); (try (refine hK _ ?_; clear hK K)); try refine iC ?_)) | refine Cg _ (l1) ?_)
  simp only [go_sem, fN, seval, AJ, AS.result, AA, AB, AH]
 case pos =>
 rw [if_neg (fun h => h h1)]
 by_cases h2 : y.2.2 = 0
 case neg =>
  rw [if_pos h2]
  repeat' (first | (with_reducible first | refine W ?_ | refine Z0 ?_ | ((first | refine Wo fun K hK => ?_ | refine Wp ?_ | refine Wq ?_ | refine Wr ?_); (try simp only [go_sem, fN, seval, eT, iR, h1, h2, dT, dF, nL]); (repeat refine Ai ?_); (try (refine hK _ ?_; clear hK K)); try refine iC ?_)) | refine Cg _ (l1) ?_ | refine Cg _ (l2) ?_)
  simp only [go_sem, fN, seval, AJ, AS.result, AA, AB, AH]
 case pos =>
 rw [if_neg (fun h => h h2)]
 repeat' (first | (with_reducible first | refine W ?_ | refine Z0 ?_ | ((first | refine Wo fun K hK => ?_ | refine Wp ?_ | refine Wq ?_ | refine Wr ?_); (try simp only [go_sem, fN, seval, eT, iR, h1, h2, dT, dF, nL]); (repeat refine Ai ?_); (try (refine hK _ ?_; clear hK K)); try refine iC ?_)) | refine Cg _ (l1) ?_ | refine Cg _ (l2) ?_ | refine Cg _ (Uf x.1 y.1) ?_)
 simp only [go_sem, fN, seval, AJ, AS.result, AA, AB, AH]

abbrev HR (l : List Bd) : AN := .arow 81 3 (l.map BG)
def mtV (i : Nat) (p t : Tm) (l : List Bd) : AV := if (AL p.name || (p.mt t l).2) = true then .one (.row i (p.mt t l).1.length) else .one (.full [])
theorem NB {i : Nat} {p t : Tm} {l : List Bd} (h : (p.mt t l).2 = true) : mtV i p t l = .one (.row i (p.mt t l).1.length) := by unfold mtV; rw [h, Bool.or_true, if_pos rfl]
theorem Qk {i : Nat} {p t : Tm} {l : List Bd} (h : AL p.name = true) : mtV i p t l = .one (.row i (p.mt t l).1.length) := by unfold mtV; rw [h, Bool.true_or, if_pos rfl]
theorem QD {i : Nat} {p t : Tm} {l : List Bd} (hv : AL p.name = false) (h : (p.mt t l).2 = false) : mtV i p t l = .one (.full []) := by unfold mtV; rw [h, hv]; rfl
theorem Hn (p : Tm) (hz : p.size ≤ 1000000)
  (ih : ∀ a ∈ p.args, ∀ (t : Tm) (i : Nat) (l : List Bd) (S : AD), 1000 ≤ i → l.length + a.size ≤ 2000000 → S i = some (HR l) →
   An Tryz.prog 91 [aTm a, aTm t, .one (.row i l.length)] S (.tup [mtV i a t l, Ab (a.mt t l).2]) (AM S i (some (HR (a.mt t l).1))))
  (C : Ctx) (hC : C.n = 75) (t : Tm) (i : Nat) (hi : 100 < i) (l : List Bd) (hl : l.length + p.size ≤ 2000000) (S : AD) (hS : ∀ j, j < 100 → S j = none) (si : S i = some (HR l)) (env : Nat → AV) (e0 : env 0 = aTm p) (e1 : env 1 = aTm t) (e2 : env 2 = .one (.row i l.length))
  (Q : AX → AS → Prop) (hQ : ∀ env' S', env' 6 = mtV i p t l → env' 7 = Ab (p.mt t l).2 → S' i = some (HR (p.mt t l).1) → (∀ j, 100 ≤ j → j ≠ i → S' j = S j) → Q .ret ⟨env', S'⟩) :
  IWP Tryz.prog C [68] E8 Q ⟨env, S⟩ := by
 have hs := Tm.size_eq p
 have hln := Tm.length_le p.args
 have n3 : S 3 = none := hS 3 (by omega)
 have n4 : S 4 = none := hS 4 (by omega)
 have n8 : S 8 = none := hS 8 (by omega)
 have d3 : ¬ 3 = i := by omega
 have d4 : ¬ 4 = i := by omega
 have d8 : ¬ 8 = i := by omega
 have f3 : ¬ i = 3 := by omega
 have f4 : ¬ i = 4 := by omega
 have f8 : ¬ i = 8 := by omega
 unfold E8
 repeat' with_reducible first | refine W ?_ | refine Z0 ?_ | ((first | refine Wo fun K hK => ?_ | refine Wp ?_ | refine Wq ?_ | refine Wr ?_); (try simp only [go_sem, fN, seval, eT, iR, n3, n4, e0, e1, e2, dT, dF, nL]); (repeat refine Ai ?_); (try (refine hK _ ?_; clear hK K)); try refine iC ?_)
 refine ⟨_, Ba _, ?_⟩
 cases hv : AL p.name with
 | true =>
  repeat' with_reducible first | refine W ?_ | refine Z0 ?_ | ((first | refine Wo fun K hK => ?_ | refine Wp ?_ | refine Wq ?_ | refine Wr ?_); (try simp only [go_sem, fN, seval, eT, iR, hv, n3, n4, n8, d3, d4, d8, f3, f4, f8, e0, e1, e2, si, dT, dF, nL]); (repeat refine Ai ?_); (try (refine hK _ ?_; clear hK K)); try refine iC ?_)
  refine ⟨_, Nb l p.name, ?_⟩
  cases hlk : lookup l p.name with
  | some x =>
   repeat' (first | (with_reducible first | refine W ?_ | refine Z0 ?_ | ((first | refine Wo fun K hK => ?_ | refine Wp ?_ | refine Wq ?_ | refine Wr ?_); (try simp only [go_sem, fN, seval, eT, iR, hlk, n3, n4, n8, d3, d4, d8, f3, f4, f8, e0, e1, e2, si, Option.getD_some, Option.isSome_some, dT, dF, nL]); (repeat refine Ai ?_); (try (refine hK _ ?_; clear hK K)); try refine iC ?_)) | refine Cg _ (JO _ _) ?_)
   have hm := Tm.mt_old (t := t) hv hlk
   refine hQ _ _ ?_ ?_ ?_ fun j hj hne => ?_
   ·rw [Qk hv, hm]
    simp only [go_sem, fN, seval, eT, iR]
   ·rw [hm]
    simp only [go_sem, fN, seval, eT, iR]
   ·rw [hm]
    simp only [go_sem, fN, seval, eT, iR, f3, f4, f8, si]
   ·have j3 : ¬ j = 3 := by omega
    have j4 : ¬ j = 4 := by omega
    have j8 : ¬ j = 8 := by omega
    simp only [go_sem, fN, seval, eT, iR, j3, j4, j8]
  | none =>
   repeat' with_reducible first | refine W ?_ | refine Z0 ?_ | ((first | refine Wo fun K hK => ?_ | refine Wp ?_ | refine Wq ?_ | refine Wr ?_); (try simp only [go_sem, fN, seval, eT, iR, hlk, n3, n4, n8, d3, d4, d8, f3, f4, f8, e0, e1, e2, si, Option.getD_none, Option.isSome_none, BG, dT, dF, nL]); (repeat refine Ai ?_); (try (refine hK _ ?_; clear hK K)); try refine iC ?_)
   have hm := Tm.mt_new (t := t) hv hlk
   refine hQ _ _ ?_ ?_ ?_ fun j hj hne => ?_
   ·rw [Qk hv, hm, List.length_append]
    simp only [go_sem, fN, seval, eT, iR]
   ·rw [hm]
    simp only [go_sem, fN, seval, eT, iR]
   ·rw [hm]
    simp only [go_sem, fN, seval, eT, iR, f3, f4, f8, si]
    rw [HR, List.map_append]
    rfl
   ·have j3 : ¬ j = 3 := by omega
    have j4 : ¬ j = 4 := by omega
    have j8 : ¬ j = 8 := by omega
    simp only [go_sem, fN, seval, eT, iR, j3, j4, j8, hne]
 | false =>
  by_cases hn : p.name = t.name
  case neg =>
   have hc : ¬ (p.name = t.name ∧ p.args.length = t.args.length) := fun h => hn h.1
   have hm := Tm.mt_clash (l := l) hv hc
   repeat' with_reducible first | refine W ?_ | refine Z0 ?_ | ((first | refine Wo fun K hK => ?_ | refine Wp ?_ | refine Wq ?_ | refine Wr ?_); (try simp only [go_sem, fN, seval, eT, iR, hv, n3, n4, n8, d3, d4, d8, f3, f4, f8, e0, e1, e2, si, hn, dT, dF, nL]); (repeat refine Ai ?_); (try (refine hK _ ?_; clear hK K)); try refine iC ?_)
   refine hQ _ _ ?_ ?_ ?_ fun j hj hne => ?_
   ·rw [QD hv (by rw [hm])]
    simp only [go_sem, fN, seval, eT, iR]
   ·rw [hm]
    simp only [go_sem, fN, seval, eT, iR]
   ·rw [hm]
    simp only [go_sem, fN, seval, eT, iR, f3, f4, si]
   ·have j3 : ¬ j = 3 := by omega
    have j4 : ¬ j = 4 := by omega
    simp only [go_sem, fN, seval, eT, iR, j3, j4]
  by_cases hlen : p.args.length = t.args.length
  case neg =>
   have hc : ¬ (p.name = t.name ∧ p.args.length = t.args.length) := fun h => hlen h.2
   have hlen' : ¬ (p.args.length : Int) = t.args.length := by omega
   have hm := Tm.mt_clash (l := l) hv hc
   repeat' with_reducible first | refine W ?_ | refine Z0 ?_ | ((first | refine Wo fun K hK => ?_ | refine Wp ?_ | refine Wq ?_ | refine Wr ?_); (try simp only [go_sem, fN, seval, eT, iR, hv, n3, n4, n8, d3, d4, d8, f3, f4, f8, e0, e1, e2, si, hn, hlen', dT, dF, nL]); (repeat refine Ai ?_); (try (refine hK _ ?_; clear hK K)); try refine iC ?_)
   refine hQ _ _ ?_ ?_ ?_ fun j hj hne => ?_
   ·rw [QD hv (by rw [hm])]
    simp only [go_sem, fN, seval, eT, iR]
   ·rw [hm]
    simp only [go_sem, fN, seval, eT, iR]
   ·rw [hm]
    simp only [go_sem, fN, seval, eT, iR, f3, f4, si]
   ·have j3 : ¬ j = 3 := by omega
    have j4 : ¬ j = 4 := by omega
    simp only [go_sem, fN, seval, eT, iR, j3, j4]
  have hlen' : (p.args.length : Int) = t.args.length := by omega
  have hknot : p.mt t l = Tm.mtL p.args t.args l := Tm.mt_knot hv hn hlen
  repeat' with_reducible first | refine W ?_ | refine Z0 ?_ | ((first | refine Wo fun K hK => ?_ | refine Wp ?_ | refine Wq ?_ | refine Wr ?_); (try simp only [go_sem, fN, seval, eT, iR, hv, n3, n4, n8, d3, d4, d8, f3, f4, f8, e0, e1, e2, si, hn, hlen', dT, dF, nL]); (repeat refine Ai ?_); (try (refine hK _ ?_; clear hK K)); try refine iC ?_)
  refine IWP.loop (fun m x => ∃ k, k ≤ p.args.length ∧ m = p.args.length - k ∧ (Tm.mtL (p.args.take k) (t.args.take k) l).2 = true ∧ x.env 2 = .one (.row i (Tm.mtL (p.args.take k) (t.args.take k) l).1.length) ∧ x.env 3 = .one (.ptr 3 1 0 0) ∧ x.env 4 = .one (.ptr 4 1 0 0) ∧ x.env 10 = AK k ∧
    x.S 3 = some (.box 29 [.st (.str t.name), .st (.list (p.args.map Ap))]) ∧ x.S 4 = some (.box 29 [.st (.str t.name), .st (.list (t.args.map Ap))]) ∧ x.S i = some (HR (Tm.mtL (p.args.take k) (t.args.take k) l).1) ∧ ∀ j, 100 ≤ j → j ≠ i → x.S j = S j)
   p.args.length ⟨0, Nat.zero_le _, rfl, by simp [Tm.mtL], by (simp only [go_sem, fN, seval, eT, iR, e2]); simp [Tm.mtL], rfl, rfl, rfl, by simp only [go_sem, fN, seval, eT, iR, hn], rfl, by (simp only [go_sem, fN, seval, eT, iR, f3, f4, si]); simp [Tm.mtL], fun j hj hne => ?_⟩ ?_
  ·have j3 : ¬ j = 3 := by omega
   have j4 : ¬ j = 4 := by omega
   simp only [go_sem, fN, seval, eT, iR, j3, j4]
  rintro m ⟨env, S1⟩ ⟨k, hk, rfl, hok, e2, e3', e4', e10, s3, s4, si, hrest⟩
  simp only at e2 e3' e4' e10 s3 s4 si hrest
  by_cases hlt : (k : Int) < p.args.length
  ·obtain ⟨a, ha⟩ := AT (show k < p.args.length by omega)
   obtain ⟨c, hc⟩ := AT (show k < t.args.length by omega)
   have hstep := Tm.mtL_take hlen ha hc hok
   have hb1 := (Tm.mtL_ok (p.args.take k) (t.args.take k) l).len
   have z1 := Tm.sizes_take ha
   have z2 := Tm.sizes_take_le p.args (k + 1)
   repeat' with_reducible first | refine W ?_ | refine Z0 ?_ | ((first | refine Wo fun K hK => ?_ | refine Wp ?_ | refine Wq ?_ | refine Wr ?_); (try simp only [go_sem, fN, seval, eT, iR, e2, e3', e4', e10, s3, s4, si, hlt, ha, hc, dT, dF, nL]); (repeat refine Ai ?_); (try (refine hK _ ?_; clear hK K)); try refine iC ?_)
   have hcall := ih a (AI ha) c (up1 i) (Tm.mtL (p.args.take k) (t.args.take k) l).1 (upS S1) (Aw i) (by omega) (by rw [A7, si]; rfl)
   rw [← hstep] at hcall
   cases hb : (Tm.mtL (p.args.take (k + 1)) (t.args.take (k + 1)) l).2 with
   | true =>
    rw [NB (by rw [← hstep]; exact hb), ← hstep, hb] at hcall
    refine ⟨_, _, hcall, ?_⟩
    repeat' with_reducible first | refine W ?_ | refine Z0 ?_ | ((first | refine Wo fun K hK => ?_ | refine Wp ?_ | refine Wq ?_ | refine Wr ?_); (try simp only [go_sem, fN, seval, eT, iR, e2, e3', e4', e10, s3, s4, d3, d4, dT, dF, nL]); (repeat refine Ai ?_); (try (refine hK _ ?_; clear hK K)); try refine iC ?_)
    refine AE ⟨p.args.length - (k + 1), by omega, k + 1, by omega, rfl, hb, ?_⟩
    simp only [go_sem, fN, seval, eT, iR, e2, e3', e4', e10, s3, s4, d3, d4]
    refine ⟨by congr 3, fun j hj hne => ?_⟩
    simp only [go_sem, fN, seval, eT, iR, hne]
    exact hrest j hj hne
   | false =>
    have hno := Tm.mtL_no hlen hb
    rw [hb] at hcall
    refine ⟨_, _, hcall, ?_⟩
    repeat' with_reducible first | refine W ?_ | refine Z0 ?_ | ((first | refine Wo fun K hK => ?_ | refine Wp ?_ | refine Wq ?_ | refine Wr ?_); (try simp only [go_sem, fN, seval, eT, iR, hb, e2, e3', e4', e10, s3, s4, dT, dF, nL]); (repeat refine Ai ?_); (try (refine hK _ ?_; clear hK K)); try refine iC ?_)
    refine hQ _ _ ?_ ?_ ?_ fun j hj hne => ?_
    ·rw [QD hv (by rw [hknot, hno])]
     simp only [go_sem, fN, seval, eT, iR]
    ·rw [hknot, hno]
     simp only [go_sem, fN, seval, eT, iR]
    ·rw [hknot, hno]
     simp only [go_sem, fN, seval, eT, iR]
    ·simp only [go_sem, fN, seval, eT, iR, hne]
     exact hrest j hj hne
  ·rw [List.take_of_length_le (by omega), List.take_of_length_le (by omega)] at hok si e2
   rw [← hlen'] at *
   repeat' with_reducible first | refine W ?_ | refine Z0 ?_ | ((first | refine Wo fun K hK => ?_ | refine Wp ?_ | refine Wq ?_ | refine Wr ?_); (try simp only [go_sem, fN, seval, eT, iR, e2, e3', e10, s3, hlt, dT, dF, nL]); (repeat refine Ai ?_); (try (refine hK _ ?_; clear hK K)); try refine iC ?_)
   refine hQ _ _ ?_ ?_ ?_ hrest
   ·rw [NB (by rw [hknot]; exact hok), hknot]
    simp only [go_sem, fN, seval, eT, iR, e2]
   ·rw [hknot, hok]
    simp only [go_sem, fN, seval, eT, iR]
   ·rw [hknot]
    exact si
theorem Ub {S S1 : AD} {a0 : Nat} {b : AN} (hS : BJ S) (ha : 1000 ≤ a0) (h1 : S1 a0 = some b) (h2 : ∀ i, 100 ≤ i → i ≠ a0 → S1 i = S i) : CX S1 = AM S a0 (some b) := RI hS ha h1 fun i hi hne => h2 i (by omega) hne
theorem Na (p : Tm) (hz : p.size ≤ 1000000) : ∀ (t : Tm) (i : Nat) (l : List Bd) (S : AD), 1000 ≤ i → l.length + p.size ≤ 2000000 → S i = some (HR l) →
   An Tryz.prog 91 [aTm p, aTm t, .one (.row i l.length)] S (.tup [mtV i p t l, Ab (p.mt t l).2]) (AM S i (some (HR (p.mt t l).1))) := by
 induction h : SizeOf.sizeOf p using Nat.strongRecOn generalizing p with
 | _ N ih =>
 subst h
 have hs := Tm.size_eq p
 intro t i l S hi hl hSi
 refine HX.acS fun hS C hC => ?_
 refine Hn p hz (fun a ha => ih _ (Tm.lt_of_arg ha) a (by have := Tm.size_mem ha; omega) rfl) C hC t i (by omega) l hl S (fun j hj => AR hS (by omega)) hSi _ rfl rfl rfl _ ?_
 intro env' S' h6 h7 si hrest
 refine LW trivial (by simp only [AA, AB, AH, h6, h7, Option.map_some]) ?_ (OE hS rfl si fun k hk hne => hrest k (by omega) hne) (Ub hS hi si hrest) (C2 hS hi rfl)
 unfold mtV
 split
 ·exact Bool.and_eq_true_iff.2 ⟨Er (n := (p.mt t l).1.length) hi, rfl⟩
 ·rfl
theorem Oq (p t : Tm) (hz : p.size ≤ 1000000) (a0 : Nat) (S : AD) (ha : 1000 ≤ a0) (hSa : S a0 = none) :
   An Tryz.prog 91 [aTm p, aTm t, .one (.full [])] S (.tup [mtV a0 p t [], Ab (p.mt t []).2]) (AM S a0 (some (HR (p.mt t []).1))) := by
 refine HX.acS fun hS C hC => ?_
 refine IWP.ghost (Af.own 2 900 81 3 (xs := ([] : List Bd).map BG) rfl (AR hS (by omega)) GN (by omega)) ?_
 refine Hn p hz (fun a ha => Na a (by have := Tm.size_mem ha; have := Tm.size_eq p; omega)) C hC t 900 (by omega) [] (by simp; omega) _ (fun j hj => by
  show AM S 900 _ j = none
  rw [AO _ (by omega)]
  exact AR hS (by omega)) (AG _ _ _) _ rfl rfl rfl _ ?_
 intro env' S' h6 h7 si hrest
 have hrest' : ∀ j, 1000 ≤ j → S' j = S j := fun j hj => by
  rw [hrest j (by omega) (by omega)]
  exact AO _ (by omega) _
 have e : (AV.tup [mtV a0 p t [], Ab (p.mt t []).2]) = (AV.tup [mtV 900 p t [], Ab (p.mt t []).2]).ren (BP 900 a0) := by
  unfold mtV
  split
  ·simp only [AV.ren, AV.rens, AC.ren, P6]
  ·simp only [AV.ren, AV.rens, AC.ren]
 rw [e]
 refine H3 trivial 900 a0 _ (by omega) ha (by show S' a0 = none; rw [hrest' a0 ha, hSa]) si rfl (fun j b hj hb => (hS j b (by rw [← hrest' j hj]; exact hb)).2) (by simp only [AA, AB, AH, h6, h7, Option.map_some]) ?_ ?_ (C2 hS ha rfl)
 ·rw [← e]
  unfold mtV
  split
  ·exact Bool.and_eq_true_iff.2 ⟨Er (n := (p.mt t []).1.length) ha, rfl⟩
  ·rfl
 ·congr 1
  funext j
  show (if j < 1000 then none else S' j) = S j
  by_cases hj : j < 1000
  ·rw [if_pos hj, AR hS hj]
  ·rw [if_neg hj, hrest' j (by omega)]
theorem GF (p t : Tm) (hp : p.size ≤ 100000) (ht : t.size ≤ 1000000) : AQ Tryz.prog 81 [aTm p, aTm t] (.tup [Dc (BT p t), Ab (CF p t)]) := by
 have hnm := Je p t
 have hml := Pp p t
 refine Ms.ac fun C hC => ?_
 unfold He
 repeat' with_reducible first | refine W ?_ | refine Z0 ?_ | ((first | refine Wo fun K hK => ?_ | refine Wp ?_ | refine Wq ?_ | refine Wr ?_); (try simp only [go_sem, fN, seval, eT, iR, dT, dF, nL]); (repeat refine Ai ?_); (try (refine hK _ ?_; clear hK K)); try refine iC ?_)
 refine ⟨_, _, Oq p t (by omega) (up1 900) _ (Aw 900) (by rw [A7]; rfl), ?_⟩
 cases hc : (p.mt t []).2 with
 | false =>
  repeat' with_reducible first | refine W ?_ | refine Z0 ?_ | ((first | refine Wo fun K hK => ?_ | refine Wp ?_ | refine Wq ?_ | refine Wr ?_); (try simp only [go_sem, fN, seval, eT, iR, hc, dT, dF, nL]); (repeat refine Ai ?_); (try (refine hK _ ?_; clear hK K)); try refine iC ?_)
  simp only [go_sem, fN, seval, AJ, AS.result, AA, AB, AH]
  unfold BT CF
  rw [hc]
  rfl
 | true =>
  have hca : BT p t = Ay (p.mt t []).1 := by unfold BT; rw [if_pos hc]
  have his : CF p t = true := hc
  rw [NB hc]
  repeat' (first | (with_reducible first | refine W ?_ | refine Z0 ?_ | ((first | refine Wo fun K hK => ?_ | refine Wp ?_ | refine Wq ?_ | refine Wr ?_); (try simp only [go_sem, fN, seval, eT, iR, hc, dT, dF, nL]); (repeat refine Ai ?_); (try (refine hK _ ?_; clear hK K)); try refine iC ?_)) | refine Cg _ (LV _ hnm (by omega)) ?_)
  simp only [go_sem, fN, seval, AJ, AS.result, AA, AB, AH, hca, his]

end Go.Proofs.YtgepacmabaaohaaGreatDoor
