/-
  Part 8 of the texts: BSorted; BMatch; BMaker; IrSizeP; BSizeP; BRew; IrBack; BMemo; BBack; BVisit; BRewE; BOnce; IrPlace; BPlaceN; BMatch2; BRewR; IrHugeP. Conditions: none.
-/
import Derived.Test.YtipddfhkbkihnaaReS7
namespace Go.Proofs.Ytipddfhkbkihnaa
open Go Go.RowKit
set_option linter.unusedVariables false
set_option linter.unusedSimpArgs false
set_option maxHeartbeats 800000
theorem insB_split {l : List Bd} {b : Bd} {k : Nat} (hk : k ≤ l.length) (h1 : ∀ c ∈ l.take k, sLt b.1 c.1 = false) (h2 : ∀ c, l[k]? = some c → sLt b.1 c.1 = true) : insB b l = l.take k ++ b :: l.drop k := by
  induction l generalizing k with
  | nil => simp [insB]
  | cons c l ih =>
    cases k with
    | zero =>
      unfold insB
      rw [if_pos (h2 c rfl)]
      rfl
    | succ k =>
      unfold insB
      rw [if_neg (by rw [h1 c (by simp)]; simp), ih (by simpa using hk) (fun c hc => h1 c (by simp [hc])) (fun c hc => h2 c (by simpa using hc))]
      rfl
def laidAt (acc : List Bd) (b : Bd) (k : Nat) : List Bd := acc.take k ++ b :: acc.drop k
theorem laidAt_len (acc : List Bd) (b : Bd) (k : Nat) : (laidAt acc b k).length = acc.length + 1 := by
  have := congrArg List.length (List.take_append_drop k acc)
  unfold laidAt
  rw [List.length_append] at this ⊢
  rw [List.length_cons]
  omega
theorem laidAt_get {acc : List Bd} {b : Bd} {k : Nat} (h : k ≤ acc.length) : (laidAt acc b k)[k]? = some b := by
  unfold laidAt
  rw [List.getElem?_append_right (by rw [List.length_take]; omega), List.length_take, Nat.min_eq_left h, Nat.sub_self]
  rfl
theorem laidAt_prev {acc : List Bd} {b c : Bd} {k : Nat} (h : acc[k]? = some c) : (laidAt acc b (k + 1))[k]? = some c := by
  have := lt_of_get h
  unfold laidAt
  rw [List.getElem?_append_left (by rw [List.length_take]; omega), List.getElem?_take, if_pos (by omega), h]
theorem laidAt_swap {acc : List Bd} {b c : Bd} {k : Nat} (h : acc[k]? = some c) : ((laidAt acc b (k + 1)).set (k + 1) c).set k b = laidAt acc b k := by
  have hk := lt_of_get h
  apply List.ext_getElem?
  intro i
  have hl : ((laidAt acc b (k + 1)).set (k + 1) c).length = acc.length + 1 := by rw [List.length_set, laidAt_len]
  rw [List.getElem?_set, List.getElem?_set]
  unfold laidAt at hl ⊢
  by_cases h1 : k = i
  · subst h1
    rw [if_pos rfl, if_pos (by rw [hl]; omega), List.getElem?_append_right (by rw [List.length_take]; omega), List.length_take, Nat.min_eq_left (by omega), Nat.sub_self]
    rfl
  · rw [if_neg h1]
    by_cases h2 : k + 1 = i
    · subst h2
      have e := laidAt_len acc b (k + 1)
      unfold laidAt at e
      rw [if_pos rfl, if_pos (by rw [e]; omega), List.getElem?_append_right (by rw [List.length_take]; omega), List.length_take, Nat.min_eq_left (by omega), show k + 1 - k = 1 by omega, List.getElem?_cons_succ, List.getElem?_drop, Nat.add_zero, h]
    · rw [if_neg h2]
      rcases Nat.lt_or_ge i k with h3 | h3
      · rw [List.getElem?_append_left (by rw [List.length_take]; omega), List.getElem?_append_left (by rw [List.length_take]; omega), List.getElem?_take, List.getElem?_take, if_pos (by omega), if_pos h3]
      · rw [List.getElem?_append_right (by rw [List.length_take]; omega), List.getElem?_append_right (by rw [List.length_take]; omega), List.length_take, List.length_take, Nat.min_eq_left (by omega), Nat.min_eq_left (by omega)]
        obtain ⟨j, rfl⟩ : ∃ j, i = k + 2 + j := ⟨i - (k + 2), by omega⟩
        rw [show k + 2 + j - (k + 1) = j + 1 by omega, show k + 2 + j - k = j + 1 + 1 by omega, List.getElem?_cons_succ, List.getElem?_cons_succ, List.getElem?_drop, List.getElem?_drop]
        congr 1
        omega
theorem laidAt_last (acc : List Bd) (b : Bd) : laidAt acc b acc.length = acc ++ [b] := by
  unfold laidAt
  rw [List.take_length, List.drop_length]
theorem sortedR_a (l : List Bd) (hn : Named l) (hl : l.length ≤ 100000) : ACalls Try.prog 44 [aBds l] (aBds (sortB l)) := by
  refine ok_R_Sorted.ac fun C hC => ?_
  unfold ir_R_Sorted
  repeat' (first | (with_reducible first | refine W ?_ | refine Wz0 ?_) | ((with_reducible first | refine Wo (fun K hK => ?_) | refine Wp ?_ | refine Wq ?_ | refine Wr ?_); (try simp only [go_sem, fN, seval, eT, iR, dT, dF, nL]); (repeat with_reducible refine Ai ?_); (try (refine hK _ ?_; clear hK K)); (try with_reducible refine iC ?_)))
  refine IWP.ghost (Ghost.ownM 3 900 77 3 rfl rfl (by rw [hC]; decide)) ?_
  refine IWP.loopD [6] (fun m s => ∃ i, i ≤ l.length ∧ m = l.length - i ∧ s.env 0 = aBds l ∧ s.env 3 = .one (.row 900 i) ∧ s.env 4 = aInt i ∧ s.S 900 = some (rowBd (sortB (l.take i))) ∧ s.S 6 = none) l.length ⟨0, Nat.zero_le _, rfl, rfl, rfl, rfl, rfl, rfl⟩ ?_
  rintro m ⟨env, S⟩ ⟨i, hi, rfl, e0, e3, e4, s900, s6⟩
  simp only at e0 e3 e4 s900 s6
  have hlen : (sortB (l.take i)).length = i := by rw [sortB_length, List.length_take]; omega
  have hnt : ∀ j, Named (l.take j) := fun j => by
    unfold Named
    rw [List.map_take]
    exact hn.sublist (List.take_sublist _ _)
  by_cases hlt : (i : Int) < l.length
  · obtain ⟨b, hb⟩ := get_lt (show i < l.length by omega)
    have ho := sortB_ordered (hnt i)
    have hmap : (sortB (l.take i)).map encB ++ [encB b] = (laidAt (sortB (l.take i)) b i).map encB := by
      have := laidAt_last (sortB (l.take i)) b
      rw [hlen] at this
      rw [this, List.map_append]
      rfl
    have hsnoc : sortB (l.take (i + 1)) = insB b (sortB (l.take i)) := by rw [take_snoc hb, sortB_snoc]
    generalize hacc : sortB (l.take i) = acc at *
    repeat' (first | (with_reducible first | refine W ?_ | refine Wz0 ?_) | ((with_reducible first | refine Wo (fun K hK => ?_) | refine Wp ?_ | refine Wq ?_ | refine Wr ?_); (try simp only [go_sem, fN, seval, eT, iR, e0, e3, e4, s900, s6, hlt, hb, hlen, encB, dT, dF, nL]); (repeat with_reducible refine Ai ?_); (try (refine hK _ ?_; clear hK K)); (try with_reducible refine iC ?_)))
    refine IWP.loopD [6] (fun m s => ∃ k, k ≤ i ∧ m = k ∧ (∀ c ∈ acc.drop k, sLt b.1 c.1 = true) ∧ s.env 0 = aBds l ∧ s.env 3 = .one (.row 900 (i + 1)) ∧ s.env 4 = aInt i ∧ s.env 5 = aInt k ∧ s.S 900 = some (rowBd (laidAt acc b k)) ∧ s.S 6 = none) i ⟨i, Nat.le_refl _, rfl, ?_, ?_⟩ ?_
    · rw [← hlen, List.drop_length]; simp
    · simp only [go_sem, fN, seval, eT, iR, e0, e3, e4, s6, hlen]
      refine ⟨by congr 3; omega, ?_⟩
      show ABlk.mrow _ _ (acc.map encB ++ [encB b]) = _
      rw [hmap]
    rintro k ⟨env2, S2⟩ ⟨_, hk, rfl, hd, e0, e3, e4, e5, s900, s6⟩
    simp only at e0 e3 e4 e5 s900 s6
    have hcl := laidAt_len acc b k
    rw [hlen] at hcl
    have hck := laidAt_get (b := b) (show k ≤ acc.length by omega)
    have hend : (∀ c, acc[k - 1]? = some c → 0 < k → sLt b.1 c.1 = false) → insB b acc = laidAt acc b k := fun h => by
      refine insB_split (by omega) (fun c hc => ?_) fun c hc => hd c (by rw [drop_get hc]; simp)
      cases k with
      | zero => simp at hc
      | succ k =>
        obtain ⟨p, hp⟩ := get_lt (show k < acc.length by omega)
        have h1 := h p hp (by omega)
        obtain ⟨j, hj, rfl⟩ := List.getElem_of_mem hc
        rw [List.length_take] at hj
        rw [List.getElem_take]
        have hcj : acc[j]? = some acc[j] := List.getElem?_eq_getElem (by omega)
        cases hx : sLt b.1 acc[j].1 with
        | false => rfl
        | true =>
          rcases Nat.lt_or_ge j k with h3 | h3
          · have := sLt_trans hx (ordered_get ho hcj hp h3)
            rw [this] at h1; cases h1
          · have e : j = k := by omega
            subst e
            rw [hp] at hcj
            cases hcj
            rw [hx] at h1; cases h1
    by_cases hk0 : 0 < (k : Int)
    · obtain ⟨k, rfl⟩ : ∃ q, k = q + 1 := ⟨k - 1, by omega⟩
      obtain ⟨c, hc⟩ := get_lt (show k < acc.length by omega)
      have hcp := laidAt_prev (b := b) hc
      have hz : (((k + 1 : Nat) : Int) - 1).toNat = k := by omega
      have hz0 : (0 : Int) ≤ ((k + 1 : Nat) : Int) - 1 := by omega
      have hl1 : k + 1 < i + 1 := by omega
      have hl2 : k < i + 1 := by omega
      cases hx : sLt b.1 c.1 with
      | true =>
        have hkk : ¬ k + 1 = k := by omega
        repeat' (first | (with_reducible first | refine W ?_ | refine Wz0 ?_) | ((with_reducible first | refine Wo (fun K hK => ?_) | refine Wp ?_ | refine Wq ?_ | refine Wr ?_); (try simp only [go_sem, fN, seval, eT, iR, e0, e3, e4, e5, s900, s6, hk0, hck, hcp, hz, hz0, hcl, hl1, hl2, hx, encB, List.length_set, List.getElem?_set, hkk, dT, dF, nL]); (repeat with_reducible refine Ai ?_); (try (refine hK _ ?_; clear hK K)); (try with_reducible refine iC ?_)))
        refine then_normal ⟨k, by omega, k, by omega, rfl, fun d hd' => ?_, ?_⟩
        · rw [drop_get hc] at hd'
          rcases List.mem_cons.1 hd' with rfl | hd'
          · exact hx
          · exact hd d hd'
        · simp only [go_sem, fN, seval, AS.drop, dropS, AC.clears, AC.clear, AC.highs, AC.high, Bool.not_false, Bool.true_and, Bool.and_self, AV.purge, AV.purges, AC.purge, ABlk.purge, List.contains_cons, List.contains_nil, Nat.reduceBEq, Bool.or_self, Bool.or_false, Bool.false_or, Bool.or_true, eT, iR, e0, e3, e4, e5, s6]
          refine ⟨by congr 3; omega, ?_⟩
          show ABlk.mrow _ _ ((((laidAt acc b (k + 1)).map encB).set (k + 1) (encB c)).set k (encB b)) = _
          rw [← List.map_set, ← List.map_set, laidAt_swap hc]
      | false =>
        repeat' (first | (with_reducible first | refine W ?_ | refine Wz0 ?_) | ((with_reducible first | refine Wo (fun K hK => ?_) | refine Wp ?_ | refine Wq ?_ | refine Wr ?_); (try simp only [go_sem, fN, seval, eT, iR, e0, e3, e4, e5, s900, s6, hk0, hck, hcp, hz, hz0, hcl, hl1, hl2, hx, encB, dT, dF, nL]); (repeat with_reducible refine Ai ?_); (try (refine hK _ ?_; clear hK K)); (try with_reducible refine iC ?_)))
        refine then_normal ⟨l.length - (i + 1), by omega, i + 1, by omega, rfl, ?_⟩
        rw [hsnoc, hend fun d hd' _ => by
          rw [show k + 1 - 1 = k by omega, hc] at hd'
          cases hd'
          exact hx]
        simp only [go_sem, fN, seval, AS.drop, dropS, AC.clears, AC.clear, AC.highs, AC.high, Bool.not_false, Bool.true_and, Bool.and_self, AV.purge, AV.purges, AC.purge, ABlk.purge, List.contains_cons, List.contains_nil, Nat.reduceBEq, Bool.or_self, Bool.or_false, Bool.false_or, Bool.or_true, eT, iR, e0, e3, e4, s900, s6]
        congr 3
    · repeat' (first | (with_reducible first | refine W ?_ | refine Wz0 ?_) | ((with_reducible first | refine Wo (fun K hK => ?_) | refine Wp ?_ | refine Wq ?_ | refine Wr ?_); (try simp only [go_sem, fN, seval, eT, iR, e0, e3, e4, e5, s900, s6, hk0, dT, dF, nL]); (repeat with_reducible refine Ai ?_); (try (refine hK _ ?_; clear hK K)); (try with_reducible refine iC ?_)))
      refine then_normal ⟨l.length - (i + 1), by omega, i + 1, by omega, rfl, ?_⟩
      rw [hsnoc, hend fun d hd' h => by omega]
      simp only [go_sem, fN, seval, AS.drop, dropS, AC.clears, AC.clear, AC.highs, AC.high, Bool.not_false, Bool.true_and, Bool.and_self, AV.purge, AV.purges, AC.purge, ABlk.purge, List.contains_cons, List.contains_nil, Nat.reduceBEq, Bool.or_self, Bool.or_false, Bool.false_or, Bool.or_true, eT, iR, e0, e3, e4, s900, s6]
      congr 3
  · refine IWP.ghost (Ghost.share (id := 900) s900) ?_
    repeat' (first | (with_reducible first | refine W ?_ | refine Wz0 ?_) | ((with_reducible first | refine Wo (fun K hK => ?_) | refine Wp ?_ | refine Wq ?_ | refine Wr ?_); (try simp only [go_sem, fN, seval, eT, iR, e0, e3, e4, hlt, dT, dF, nL]); (repeat with_reducible refine Ai ?_); (try (refine hK _ ?_; clear hK K)); (try with_reducible refine iC ?_)))
    simp only [go_sem, fN, seval, FinQ, AS.result, resAll, resOne, tupV, hlen]
    rw [List.take_of_length_le (by omega)]

set_option maxHeartbeats 1000000
def entB (b : Bd) : KV × AV := (.s b.1, aTm b.2)
abbrev mapB (l : List Bd) : ABlk := .map none (l.map entB)
theorem mGet_mapB (l : List Bd) (n : ByteArray) : mGet (l.map entB) (.s n) = (lookup l n).map fun t => aTm t := by
  induction l with
  | nil => rfl
  | cons b l ih =>
    unfold lookup
    rw [List.map_cons, mGet, List.find?_cons]
    by_cases h : b.1 = n
    · have h1 : decide (b.1 = n) = true := decide_eq_true h
      rw [if_pos (show (entB b).1 = KV.s n from congrArg KV.s h)]
      simp only [h1]
      rfl
    · have h1 : decide (b.1 = n) = false := decide_eq_false h
      rw [if_neg (show ¬ (entB b).1 = KV.s n from fun e => h (KV.s.inj e)), ih]
      simp only [h1]
      rfl
theorem mPut_mapB {l : List Bd} {n : ByteArray} (h : lookup l n = none) (t : Tm) : mPut (l.map entB) (.s n) (aTm t) = (l ++ [(n, t)]).map entB := by
  rw [mPut_none (by rw [mGet_mapB, h]; rfl), List.map_append]
  rfl
theorem into_M (p : Tm) (hz : p.size ≤ 1000000) : ∀ (t : Tm) (a0 : Nat) (l : List Bd) (S : AStore), 1000 ≤ a0 → S a0 = some (mapB l) →
    ACallsS Try.prog 57 [aTm p, aTm t, .one (.mptr a0)] S (aBool (p.mt t l).2) (updE S a0 (some (mapB (p.mt t l).1))) := by
  induction h : SizeOf.sizeOf p using Nat.strongRecOn generalizing p with
  | _ N ih =>
  subst h
  intro t a0 l S ha0 hSa
  have hs := Tm.size_eq p
  have hln := Tm.length_le p.args
  refine ok_match_into.acS fun hS C hC => ?_
  have n3 : S 3 = none := clean_none hS (by omega)
  have n4 : S 4 = none := clean_none hS (by omega)
  have n7 : S 7 = none := clean_none hS (by omega)
  have d3 : ¬ 3 = a0 := by omega
  have d4 : ¬ 4 = a0 := by omega
  have d7 : ¬ 7 = a0 := by omega
  have e3 : ¬ a0 = 3 := by omega
  have e4 : ¬ a0 = 4 := by omega
  have e7 : ¬ a0 = 7 := by omega
  unfold ir_match_into
  repeat' (first | (with_reducible first | refine W ?_ | refine Wz0 ?_) | ((with_reducible first | refine Wo (fun K hK => ?_) | refine Wp ?_ | refine Wq ?_ | refine Wr ?_); (try simp only [go_sem, fN, seval, eT, iR, n3, n4, dT, dF, nL]); (repeat with_reducible refine Ai ?_); (try (refine hK _ ?_; clear hK K)); (try with_reducible refine iC ?_)))
  refine ⟨_, variable_a _, ?_⟩
  cases hv : isVar p.name with
  | true =>
    cases hl : lookup l p.name with
    | some x =>
      repeat' (first | (with_reducible first | refine W ?_ | refine Wz0 ?_) | refine Cg _ (same_a _ _) ?_ | ((with_reducible first | refine Wo (fun K hK => ?_) | refine Wp ?_ | refine Wq ?_ | refine Wr ?_); (try simp only [go_sem, fN, seval, eT, iR, hv, hSa, n3, n4, n7, d3, d4, d7, e3, e4, e7, mapOf, keyOf, KV.of, lookA, mGet_mapB, hl, dT, dF, nL]); (repeat with_reducible refine Ai ?_); (try (refine hK _ ?_; clear hK K)); (try with_reducible refine iC ?_)))
      rw [Tm.mt_old hv hl]
      refine finS_one (aBool (x.beq t)) hS ha0 rfl trivial rfl rfl (by simp only [go_sem, fN, seval, eT, iR, e3, e4, e7, hSa]) fun i hi hne => ?_
      have i3 : ¬ i = 3 := by omega
      have i4 : ¬ i = 4 := by omega
      have i7 : ¬ i = 7 := by omega
      simp only [go_sem, fN, seval, eT, iR, i3, i4, i7]
    | none =>
      repeat' (first | (with_reducible first | refine W ?_ | refine Wz0 ?_) | ((with_reducible first | refine Wo (fun K hK => ?_) | refine Wp ?_ | refine Wq ?_ | refine Wr ?_); (try simp only [go_sem, fN, seval, eT, iR, hv, hSa, n3, n4, n7, d3, d4, d7, e3, e4, e7, mapOf, keyOf, KV.of, lookA, mGet_mapB, hl, mPut_mapB, dT, dF, nL]); (repeat with_reducible refine Ai ?_); (try (refine hK _ ?_; clear hK K)); (try with_reducible refine iC ?_)))
      rw [Tm.mt_new hv hl]
      refine finS_one (aBool true) hS ha0 rfl trivial rfl rfl (by simp only [go_sem, fN, seval, eT, iR, e3, e4, e7, hSa]) fun i hi hne => ?_
      have i3 : ¬ i = 3 := by omega
      have i4 : ¬ i = 4 := by omega
      have i7 : ¬ i = 7 := by omega
      simp only [go_sem, fN, seval, eT, iR, i3, i4, i7, hne]
  | false =>
    by_cases hn : p.name = t.name
    case neg =>
      have hc : ¬ (p.name = t.name ∧ p.args.length = t.args.length) := fun h => hn h.1
      repeat' (first | (with_reducible first | refine W ?_ | refine Wz0 ?_) | ((with_reducible first | refine Wo (fun K hK => ?_) | refine Wp ?_ | refine Wq ?_ | refine Wr ?_); (try simp only [go_sem, fN, seval, eT, iR, hv, hSa, n3, n4, n7, d3, d4, d7, e3, e4, e7, hn, dT, dF, nL]); (repeat with_reducible refine Ai ?_); (try (refine hK _ ?_; clear hK K)); (try with_reducible refine iC ?_)))
      rw [Tm.mt_clash hv hc]
      refine finS_one (aBool false) hS ha0 rfl trivial rfl rfl (by simp only [go_sem, fN, seval, eT, iR, e3, e4, hSa]) fun i hi hne => ?_
      have i3 : ¬ i = 3 := by omega
      have i4 : ¬ i = 4 := by omega
      simp only [go_sem, fN, seval, eT, iR, i3, i4]
    by_cases hlen : p.args.length = t.args.length
    case neg =>
      have hc : ¬ (p.name = t.name ∧ p.args.length = t.args.length) := fun h => hlen h.2
      have hlen' : ¬ (p.args.length : Int) = t.args.length := by omega
      repeat' (first | (with_reducible first | refine W ?_ | refine Wz0 ?_) | ((with_reducible first | refine Wo (fun K hK => ?_) | refine Wp ?_ | refine Wq ?_ | refine Wr ?_); (try simp only [go_sem, fN, seval, eT, iR, hv, hSa, n3, n4, n7, d3, d4, d7, e3, e4, e7, hn, hlen', dT, dF, nL]); (repeat with_reducible refine Ai ?_); (try (refine hK _ ?_; clear hK K)); (try with_reducible refine iC ?_)))
      rw [Tm.mt_clash hv hc]
      refine finS_one (aBool false) hS ha0 rfl trivial rfl rfl (by simp only [go_sem, fN, seval, eT, iR, e3, e4, hSa]) fun i hi hne => ?_
      have i3 : ¬ i = 3 := by omega
      have i4 : ¬ i = 4 := by omega
      simp only [go_sem, fN, seval, eT, iR, i3, i4]
    have hlen' : (p.args.length : Int) = t.args.length := by omega
    have hknot : p.mt t l = Tm.mtL p.args t.args l := Tm.mt_knot hv hn hlen
    repeat' (first | (with_reducible first | refine W ?_ | refine Wz0 ?_) | ((with_reducible first | refine Wo (fun K hK => ?_) | refine Wp ?_ | refine Wq ?_ | refine Wr ?_); (try simp only [go_sem, fN, seval, eT, iR, hv, hSa, n3, n4, n7, d3, d4, d7, e3, e4, e7, hn, hlen', dT, dF, nL]); (repeat with_reducible refine Ai ?_); (try (refine hK _ ?_; clear hK K)); (try with_reducible refine iC ?_)))
    refine IWP.loop (fun m x => ∃ k, k ≤ p.args.length ∧ m = p.args.length - k ∧ (Tm.mtL (p.args.take k) (t.args.take k) l).2 = true ∧ x.env 2 = .one (.mptr a0) ∧ x.env 3 = .one (.ptr 3 1 0 0) ∧ x.env 4 = .one (.ptr 4 1 0 0) ∧ x.env 44 = aInt p.args.length ∧ x.env 45 = aInt k ∧
        x.S 3 = some (.box 25 [.st (.str t.name), .st (.list (p.args.map encT))]) ∧ x.S 4 = some (.box 25 [.st (.str t.name), .st (.list (t.args.map encT))]) ∧ x.S a0 = some (mapB (Tm.mtL (p.args.take k) (t.args.take k) l).1) ∧ ∀ i, 1000 ≤ i → i ≠ a0 → x.S i = S i)
      p.args.length ⟨0, Nat.zero_le _, rfl, by simp [Tm.mtL], rfl, rfl, rfl, by simp only [go_sem, fN, seval, eT, iR, hlen'], rfl, by simp only [go_sem, fN, seval, eT, iR, hn], rfl, by (simp only [go_sem, fN, seval, eT, iR, e3, e4, hSa]); simp [Tm.mtL], fun i hi hne => ?_⟩ ?_
    · have i3 : ¬ i = 3 := by omega
      have i4 : ¬ i = 4 := by omega
      simp only [go_sem, fN, seval, eT, iR, i3, i4]
    rintro m ⟨env, S1⟩ ⟨k, hk, rfl, hok, e2, e3', e4', e44, e45, s3, s4, sa, hrest⟩
    simp only at e2 e3' e4' e44 e45 s3 s4 sa hrest
    have hend : ∀ (b : Bool) (r : List Bd) (env : Nat → AV) (S2 : AStore), env 6 = aBool b → S2 a0 = some (mapB r) → (∀ i, 1000 ≤ i → i ≠ a0 → S2 i = S i) → FinS C [.t 6] (aBool b) (updE S a0 (some (mapB r))) .ret ⟨env, S2⟩ := fun b r env S2 h6 h1 h2 =>
      finS_one (aBool b) hS ha0 rfl trivial (by simp only [resAll, resOne, tupV, h6, Option.map_some]) rfl h1 h2
    by_cases hlt : (k : Int) < p.args.length
    · obtain ⟨a, ha⟩ := get_lt (show k < p.args.length by omega)
      obtain ⟨c, hc⟩ := get_lt (show k < t.args.length by omega)
      have hstep := Tm.mtL_take hlen ha hc hok
      repeat' (first | (with_reducible first | refine W ?_ | refine Wz0 ?_) | ((with_reducible first | refine Wo (fun K hK => ?_) | refine Wp ?_ | refine Wq ?_ | refine Wr ?_); (try simp only [go_sem, fN, seval, eT, iR, e2, e3', e4', e44, e45, s3, s4, sa, hlt, ha, hc, dT, dF, nL]); (repeat with_reducible refine Ai ?_); (try (refine hK _ ?_; clear hK K)); (try with_reducible refine iC ?_)))
      refine ⟨_, _, ih _ (Tm.lt_of_arg (mem_of_get ha)) a (by have := Tm.size_mem (mem_of_get ha); omega) rfl c (up1 a0) (Tm.mtL (p.args.take k) (t.args.take k) l).1 (upS S1) (up1_le a0) (by rw [upS_up, sa]; rfl), ?_⟩
      rw [← hstep]
      cases hb : (Tm.mtL (p.args.take (k + 1)) (t.args.take (k + 1)) l).2 with
      | true =>
        repeat' (first | (with_reducible first | refine W ?_ | refine Wz0 ?_) | ((with_reducible first | refine Wo (fun K hK => ?_) | refine Wp ?_ | refine Wq ?_ | refine Wr ?_); (try simp only [go_sem, fN, seval, eT, iR, hb, e2, e3', e4', e44, e45, s3, s4, dT, dF, nL]); (repeat with_reducible refine Ai ?_); (try (refine hK _ ?_; clear hK K)); (try with_reducible refine iC ?_)))
        refine then_normal ⟨p.args.length - (k + 1), by omega, k + 1, by omega, rfl, hb, ?_⟩
        simp only [go_sem, fN, seval, eT, iR, e2, e3', e4', e44, s3, s4, d3, d4]
        refine ⟨by congr 3, fun i hi hne => ?_⟩
        simp only [go_sem, fN, seval, eT, iR, hne]
        exact hrest i hi hne
      | false =>
        have hno := Tm.mtL_no hlen hb
        repeat' (first | (with_reducible first | refine W ?_ | refine Wz0 ?_) | ((with_reducible first | refine Wo (fun K hK => ?_) | refine Wp ?_ | refine Wq ?_ | refine Wr ?_); (try simp only [go_sem, fN, seval, eT, iR, hb, e2, e3', e4', e44, e45, s3, s4, dT, dF, nL]); (repeat with_reducible refine Ai ?_); (try (refine hK _ ?_; clear hK K)); (try with_reducible refine iC ?_)))
        rw [hknot, hno]
        refine hend false _ _ _ rfl (by simp only [go_sem, fN, seval, eT, iR]) fun i hi hne => ?_
        simp only [go_sem, fN, seval, eT, iR, hne]
        exact hrest i hi hne
    · rw [List.take_of_length_le (by omega), List.take_of_length_le (by omega)] at hok sa
      repeat' (first | (with_reducible first | refine W ?_ | refine Wz0 ?_) | ((with_reducible first | refine Wo (fun K hK => ?_) | refine Wp ?_ | refine Wq ?_ | refine Wr ?_); (try simp only [go_sem, fN, seval, eT, iR, e44, e45, hlt, dT, dF, nL]); (repeat with_reducible refine Ai ?_); (try (refine hK _ ?_; clear hK K)); (try with_reducible refine iC ?_)))
      rw [hknot, hok]
      exact hend true _ _ _ rfl sa hrest
theorem sortB_perm_eq {l m : List Bd} (h : l.Perm m) (hn : Named m) : sortB l = sortB m :=
  ordered_unique (sortB_ordered (named_perm h.symm hn)) (sortB_ordered hn) ((sortB_perm l).trans (h.trans (sortB_perm m).symm))
theorem case_a (p t : Tm) (hp : p.size ≤ 100000) (ht : t.size ≤ 1000000) : ACalls Try.prog 51 [aTm p, aTm t] (.tup [aBds (caseOf p t), aBool (isCase p t)]) := by
  have hnm := mt_named p t
  have hml := mt_len p t
  have hms := mt_size p t
  refine ok_match_Case.ac fun C hC => ?_
  unfold ir_match_Case
  repeat' (first | (with_reducible first | refine W ?_ | refine Wz0 ?_) | ((with_reducible first | refine Wo (fun K hK => ?_) | refine Wp ?_ | refine Wq ?_ | refine Wr ?_); (try simp only [go_sem, fN, seval, eT, iR, dT, dF, nL]); (repeat with_reducible refine Ai ?_); (try (refine hK _ ?_; clear hK K)); (try with_reducible refine iC ?_)))
  refine ⟨_, _, into_M p (by omega) t (up1 10) [] _ (up1_le 10) (by rw [upS_up]; rfl), ?_⟩
  cases hc : (p.mt t []).2 with
  | false =>
    repeat' (first | (with_reducible first | refine W ?_ | refine Wz0 ?_) | ((with_reducible first | refine Wo (fun K hK => ?_) | refine Wp ?_ | refine Wq ?_ | refine Wr ?_); (try simp only [go_sem, fN, seval, eT, iR, hc, dT, dF, nL]); (repeat with_reducible refine Ai ?_); (try (refine hK _ ?_; clear hK K)); (try with_reducible refine iC ?_)))
    simp only [go_sem, fN, seval, FinQ, AS.result, resAll, resOne, tupV]
    unfold caseOf isCase
    rw [hc]
    rfl
  | true =>
    have hca : caseOf p t = sortB (p.mt t []).1 := by unfold caseOf; rw [if_pos hc]
    have his : isCase p t = true := hc
    repeat' (first | (with_reducible first | refine W ?_ | refine Wz0 ?_) | ((with_reducible first | refine Wo (fun K hK => ?_) | refine Wp ?_ | refine Wq ?_ | refine Wr ?_); (try simp only [go_sem, fN, seval, eT, iR, hc, mapOf, dT, dF, nL]); (repeat with_reducible refine Ai ?_); (try (refine hK _ ?_; clear hK K)); (try with_reducible refine iC ?_)))
    rw [hca, his]
    generalize (p.mt t []).1 = l at *
    refine IWP.ghost (Ghost.ownM 7 500 77 3 (by rfl) (by rfl) (by rw [hC]; decide)) ?_
    refine IWP.loopD [9] (fun m x => ∃ seen : List Nat, seen.Nodup ∧ (∀ j ∈ seen, j < l.length) ∧ m = l.length - seen.length ∧ x.env 7 = .one (.row 500 seen.length) ∧ x.env 17 = .one (.ptr 17 1 0 0) ∧ x.S 10 = some (mapB l) ∧ x.S 17 = some (.iter (.mptr 10) l.length seen) ∧ x.S 500 = some (rowBd (met l seen)) ∧ x.S 9 = none) l.length ⟨[], List.nodup_nil, by simp, rfl, rfl, rfl, by simp only [go_sem, fN, seval, eT, iR], by simp only [go_sem, fN, seval, eT, iR], rfl, rfl⟩ ?_
    rintro m ⟨env, S⟩ ⟨seen, hnd, hlt, rfl, e7, e17, s10, s17, s500, s9⟩
    simp only at e7 e17 s10 s17 s500 s9
    have hsl := seen_len hnd hlt
    have hmt := met_len hlt
    repeat' (first | (with_reducible first | refine W ?_ | refine Wz0 ?_) | ((with_reducible first | refine Wo (fun K hK => ?_) | refine Wp ?_ | refine Wq ?_ | refine Wr ?_); (try simp only [go_sem, fN, seval, eT, iR, e7, e17, s10, s17, iterOf, dT, dF, nL]); (repeat with_reducible refine Ai ?_); (try (refine hK _ ?_; clear hK K)); (try with_reducible refine iC ?_)))
    refine ⟨fun hall => ?_, fun j x c hx hj hkv => ?_⟩
    · have hmp := met_perm hnd hlt hall
      have hl' : seen.length = l.length := by rw [← hmt]; exact hmp.length_eq
      refine hK _ ?_
      clear hK K
      refine Wb ?_
      refine Wa ?_
      with_reducible refine Wp ?_
      simp only [go_sem, fN, seval, true_implies, false_implies, implies_true, dT, dF, nL]
      (try with_reducible refine iC ?_)
      repeat' (with_reducible first | refine Wb ?_ | refine Wc ?_ | refine Wd ?_ | refine We ?_ | refine Wg ?_ | refine Wh ?_ | refine Wi ?_ | refine Wj ?_ | refine Wk (by decide) ?_ | refine Wl ?_ | refine Wm ?_ | refine Wn ?_)
      refine IWP.mid (fun x => x.env 4 = .one (.row 500 l.length) ∧ x.env 5 = aBool true ∧ x.S 500 = some (rowBd (sortB l))) ?_ ?_
      · have hs := sort_M (met l seen) (named_perm hmp.symm hnm) (by omega) (up1 500) (up1_le 500) (upS S) (by rw [upS_up, s500]; rfl)
        rw [hmt, hl', sortB_perm_eq hmp hnm] at hs
        rw [hl'] at e7
        repeat' (first | (with_reducible first | refine W ?_ | refine Wz0 ?_) | ((with_reducible first | refine Wo (fun K hK => ?_) | refine Wq ?_ | refine Wr ?_); (try simp only [go_sem, fN, seval, eT, iR, e7]); (repeat with_reducible refine Ai ?_); (try (refine hK _ ?_; clear hK K))))
        refine ⟨_, _, hs, ?_⟩
        repeat' (first | (with_reducible first | refine W ?_ | refine Wz0 ?_) | ((with_reducible first | refine Wo (fun K hK => ?_) | refine Wq ?_ | refine Wr ?_); (try simp only [go_sem, fN, seval, eT, iR, e7]); (repeat with_reducible refine Ai ?_); (try (refine hK _ ?_; clear hK K))))
        refine ⟨rfl, ?_⟩
        simp only [go_sem, fN, seval, eT, iR]
      rintro ⟨env, S⟩ ⟨e4, e5, s500⟩
      simp only at e4 e5 s500
      refine IWP.ghost (Ghost.share (id := 500) s500) ?_
      repeat' (first | (with_reducible first | refine W ?_ | refine Wz0 ?_) | ((with_reducible first | refine Wo (fun K hK => ?_) | refine Wq ?_ | refine Wr ?_); (try simp only [go_sem, fN, seval, eT, iR]); (repeat with_reducible refine Ai ?_); (try (refine hK _ ?_; clear hK K))))
      simp only [go_sem, fN, seval, FinQ, AS.result, resAll, resOne, tupV, e4, e5, sortB_length]
    · rw [Option.map_eq_some_iff] at hx
      obtain ⟨b, hb, rfl⟩ := hx
      have hbz := hms b (mem_of_get hb)
      have hjl : j < l.length := by
        rcases Nat.lt_or_ge j l.length with h | h
        · exact h
        · rw [List.getElem?_eq_none h] at hb; cases hb
      have hcv : c = .str b.1 := by
        have : some (SV.str b.1) = some c := hkv
        cases this
        rfl
      subst hcv
      have hnd' : (seen ++ [j]).Nodup := by
        rw [List.nodup_append]
        exact ⟨hnd, by simp, fun a ha b hb e => hj (by rw [List.mem_singleton.1 hb] at e; rw [← e]; exact ha)⟩
      have hlt' : ∀ i ∈ seen ++ [j], i < l.length := fun i hi => by
        rcases List.mem_append.1 hi with h | h
        · exact hlt i h
        · rw [List.mem_singleton.1 h]; exact hjl
      have hsl' := seen_len hnd' hlt'
      rw [List.length_append, List.length_singleton] at hsl'
      refine hK _ ?_
      clear hK K
      refine Wb ?_
      repeat' (first | (with_reducible first | refine W ?_ | refine Wz0 ?_) | refine Cg _ (copy_a b.2 (by omega)) ?_ | ((with_reducible first | refine Wo (fun K hK => ?_) | refine Wp ?_ | refine Wq ?_ | refine Wr ?_); (try simp only [go_sem, fN, seval, eT, iR, e7, e17, s10, s17, s500, s9, iterOf, List.getLast?_concat, hb, entB, KV.sv, hmt, encB, dT, dF, nL]); (repeat with_reducible refine Ai ?_); (try (refine hK _ ?_; clear hK K)); (try with_reducible refine iC ?_)))
      refine then_normal ⟨l.length - (seen.length + 1), by omega, seen ++ [j], hnd', hlt', by rw [List.length_append, List.length_singleton], ?_⟩
      rw [met_snoc hb]
      simp only [go_sem, fN, seval, AS.drop, dropS, AC.clears, AC.clear, AC.highs, AC.high, Bool.not_false, Bool.true_and, Bool.and_self, AV.purge, AV.purges, AC.purge, ABlk.purge, List.contains_cons, List.contains_nil, Nat.reduceBEq, Bool.or_self, Bool.or_false, Bool.false_or, Bool.or_true, eT, iR, e7, e17, s10, s500]
      show ABlk.mrow _ _ ((met l seen).map encB ++ [encB b]) = rowBd _
      rw [rowBd, List.map_append]
      rfl

def fitIn (u : Tm) (left : Int) : Tm × Int := if (u.size : Int) ≤ left then (u, left - u.size) else (Tm.nil, -1)
abbrev mkBlk (s : List Bd) (left : Int) : ABlk := .box 83 [.st (.list (s.map encB)), .st (.int .i64 left)]
theorem fitIn_yes {u : Tm} {left : Int} (h : (u.size : Int) ≤ left) : fitIn u left = (u, left - u.size) := if_pos h
theorem fitIn_no {u : Tm} {left : Int} (h : ¬ (u.size : Int) ≤ left) : fitIn u left = (Tm.nil, -1) := if_neg h
theorem copy_core (s : List Bd) (h40 : s.length ≤ 100000) (ho : Ordered s) (turn : Bool) (f : Tm → Tm) (t : Tm) (hl : turn = true → lookup s t.name = none)
    (ih : ∀ a ∈ t.args, ∀ (a0 : Nat) (left : Int) (S : AStore), 1000 ≤ a0 → 0 ≤ left → left ≤ 1000000 → S a0 = some (mkBlk s left) →
      ACallsS Try.prog 59 [.one (.ptr a0 1 0 0), aTm a, aBool turn] S (aTm (fitIn (f a) left).1) (updE S a0 (some (mkBlk s (fitIn (f a) left).2))))
    (a0 : Nat) (left : Int) (S : AStore) (ha0 : 1000 ≤ a0) (h0 : 0 ≤ left) (h1 : left ≤ 1000000) (hSa : S a0 = some (mkBlk s left)) :
    ACallsS Try.prog 59 [.one (.ptr a0 1 0 0), aTm t, aBool turn] S (aTm (fitIn (.mk t.name (t.args.map f)) left).1) (updE S a0 (some (mkBlk s (fitIn (.mk t.name (t.args.map f)) left).2))) := by
  refine ok_metaprune_subst_maker_copy.acS fun hS C hC => ?_
  have hu : (Tm.mk t.name (t.args.map f)).size = 1 + Tm.sizes (t.args.map f) := rfl
  have hlen := Tm.length_le (t.args.map f)
  rw [List.length_map] at hlen
  have n4 : S 4 = none := clean_none hS (by omega)
  have n6 : S 6 = none := clean_none hS (by omega)
  have n7 : S 7 = none := clean_none hS (by omega)
  have n9 : S 9 = none := clean_none hS (by omega)
  have n11 : S 11 = none := clean_none hS (by omega)
  have n900 : S 900 = none := clean_none hS (by omega)
  have d4 : ¬ 4 = a0 := by omega
  have d6 : ¬ 6 = a0 := by omega
  have d7 : ¬ 7 = a0 := by omega
  have d9 : ¬ 9 = a0 := by omega
  have d11 : ¬ 11 = a0 := by omega
  have d900 : ¬ 900 = a0 := by omega
  have e4 : ¬ a0 = 4 := by omega
  have e6 : ¬ a0 = 6 := by omega
  have e7 : ¬ a0 = 7 := by omega
  have e9 : ¬ a0 = 9 := by omega
  have e11 : ¬ a0 = 11 := by omega
  have e900 : ¬ a0 = 900 := by omega
  unfold ir_metaprune_subst_maker_copy
  cases turn
  case' false =>
    repeat' (first | (with_reducible first | refine W ?_ | refine Wz0 ?_) | ((with_reducible first | refine Wo (fun K hK => ?_) | refine Wq ?_ | refine Wr ?_); (try simp only [go_sem, fN, seval, eT, iR, hSa, n4, n6, n7, d4, d6, d7, e4, e6, e7]); (repeat with_reducible refine Ai ?_); (try (refine hK _ ?_; clear hK K))))
    with_reducible refine Wp ?_
    simp only [go_sem, fN, seval, true_implies, false_implies, implies_true, dT, dF, nL]
    (try with_reducible refine iC ?_)
    repeat' (first | (with_reducible first | refine W ?_ | refine Wz0 ?_) | ((with_reducible first | refine Wo (fun K hK => ?_) | refine Wq ?_ | refine Wr ?_); (try simp only [go_sem, fN, seval, eT, iR, hSa, n4, n6, n7, n9, d4, d6, d7, d9, e4, e6, e7, e9]); (repeat with_reducible refine Ai ?_); (try (refine hK _ ?_; clear hK K))))
  case' true =>
    have hln := hl rfl
    repeat' (first | (with_reducible first | refine W ?_ | refine Wz0 ?_) | ((with_reducible first | refine Wo (fun K hK => ?_) | refine Wq ?_ | refine Wr ?_); (try simp only [go_sem, fN, seval, eT, iR, hSa, n4, n6, n7, d4, d6, d7, e4, e6, e7]); (repeat with_reducible refine Ai ?_); (try (refine hK _ ?_; clear hK K))))
    with_reducible refine Wp ?_
    simp only [go_sem, fN, seval, true_implies, false_implies, implies_true, dT, dF, nL]
    (try with_reducible refine iC ?_)
    repeat' (first | (with_reducible first | refine W ?_ | refine Wz0 ?_) | refine Cg _ (find_a s h40 ho t.name) ?_ | ((with_reducible first | refine Wo (fun K hK => ?_) | refine Wq ?_ | refine Wr ?_); (try simp only [go_sem, fN, seval, eT, iR, hSa, n4, n6, n7, d4, d6, d7, e4, e6, e7, hln]); (repeat with_reducible refine Ai ?_); (try (refine hK _ ?_; clear hK K))))
    with_reducible refine Wp ?_
    simp only [go_sem, fN, seval, true_implies, false_implies, implies_true, dT, dF, nL]
    (try with_reducible refine iC ?_)
    repeat' (first | (with_reducible first | refine W ?_ | refine Wz0 ?_) | ((with_reducible first | refine Wo (fun K hK => ?_) | refine Wq ?_ | refine Wr ?_); (try simp only [go_sem, fN, seval, eT, iR, hSa, n4, n6, n7, n9, d4, d6, d7, d9, e4, e6, e7, e9]); (repeat with_reducible refine Ai ?_); (try (refine hK _ ?_; clear hK K))))
  all_goals
    by_cases hz : left = 0
    · subst hz
      have hno : ¬ ((Tm.mk t.name (t.args.map f)).size : Int) ≤ 0 := by rw [hu]; omega
      rw [fitIn_no hno]
      with_reducible refine Wp ?_
      simp only [go_sem, fN, seval, true_implies, false_implies, implies_true, dT, dF, nL]
      (try with_reducible refine iC ?_)
      repeat' (first | (with_reducible first | refine W ?_ | refine Wz0 ?_) | ((with_reducible first | refine Wo (fun K hK => ?_) | refine Wq ?_ | refine Wr ?_); (try simp only [go_sem, fN, seval, eT, iR, hSa, n4, n6, n7, n9, d4, d6, d7, d9, e4, e6, e7, e9]); (repeat with_reducible refine Ai ?_); (try (refine hK _ ?_; clear hK K))))
      refine finS_one (.agg [.st (.str ⟨#[]⟩), .full []]) hS ha0 rfl trivial ?_ ?_ ?_ fun i hi hne => ?_
      · simp only [go_sem, fN, seval, eT, iR, resAll, resOne, tupV, e4, e6, e7, e9, d4, d6, d7, d9]
      · simp only [go_sem, fN, seval, eT, iR, Tm.nil]
        rfl
      · simp only [go_sem, fN, seval, eT, iR, e4, e6, e7, e9]
      · have i4 : ¬ i = 4 := by omega
        have i6 : ¬ i = 6 := by omega
        have i7 : ¬ i = 7 := by omega
        simp only [go_sem, fN, seval, eT, iR, i4, i6, i7, hne]
    have hz' : ¬ left - 1 < 0 := by omega
    with_reducible refine Wp ?_
    simp only [go_sem, fN, seval, true_implies, false_implies, implies_true, dT, dF, nL, hz']
    (try with_reducible refine iC ?_)
    repeat' (first | (with_reducible first | refine W ?_ | refine Wz0 ?_) | ((with_reducible first | refine Wo (fun K hK => ?_) | refine Wq ?_ | refine Wr ?_); (try simp only [go_sem, fN, seval, eT, iR, hSa, n4, n6, n7, n9, d4, d6, d7, d9, e4, e6, e7, e9]); (repeat with_reducible refine Ai ?_); (try (refine hK _ ?_; clear hK K))))
    refine IWP.ghost (Ghost.ownC 9 1 900 25 2 (xs := ([] : List Tm).map encT) (by simp only [go_sem, fN, seval, eT, iR, d9, d4, d6, d7, e9]; rfl) rfl (by simp only [go_sem, fN, seval, eT, iR, n900, d900]) lens_encT) ?_
    refine IWP.loopD [11] (fun m x => ∃ k, k ≤ t.args.length ∧ m = t.args.length - k ∧ (Tm.sizes ((t.args.take k).map f) : Int) ≤ left - 1 ∧ x.env 0 = .one (.ptr a0 1 0 0) ∧ x.env 2 = aBool _ ∧ x.env 6 = .one (.ptr 6 1 0 0) ∧ x.env 9 = .one (.ptr 9 1 0 0) ∧ x.env 44 = .one (.st (.list (t.args.map encT))) ∧ x.env 45 = aInt t.args.length ∧ x.env 46 = aInt k ∧
        x.S 6 = some (.box 25 [.st (.str ⟨#[]⟩), .full []]) ∧ x.S 9 = some (.box 25 [.st (.str t.name), .row 900 k]) ∧ x.S 900 = some (.arow 25 2 (((t.args.take k).map f).map encT)) ∧ x.S 11 = none ∧ x.S a0 = some (mkBlk s (left - 1 - Tm.sizes ((t.args.take k).map f))) ∧ ∀ i, 1000 ≤ i → i ≠ a0 → x.S i = S i)
      t.args.length ⟨0, Nat.zero_le _, rfl, by show (0 : Int) ≤ _; omega, rfl, rfl, rfl, rfl, rfl, rfl, rfl, by simp only [go_sem, fN, seval, eT, iR, d6, d4, d7, d9, e6], by (simp only [go_sem, fN, seval, eT, iR, d9]); rfl, by simp only [go_sem, fN, seval, eT, iR, e9], by simp only [go_sem, fN, seval, eT, iR, n11, d11], by (simp only [go_sem, fN, seval, eT, iR, e9, e900]); simp [Tm.sizes], fun i hi hne => ?_⟩ ?_
    · have i4 : ¬ i = 4 := by omega
      have i6 : ¬ i = 6 := by omega
      have i7 : ¬ i = 7 := by omega
      have i9 : ¬ i = 9 := by omega
      have i900 : ¬ i = 900 := by omega
      simp only [go_sem, fN, seval, eT, iR, i4, i6, i7, i9, i900, hne]
    rintro m ⟨env, S1⟩ ⟨k, hk, rfl, hsz, e0, e2, e6', e9', e44, e45, e46, s6, s9, s900, s11, sa, hrest⟩
    simp only at e0 e2 e6' e9' e44 e45 e46 s6 s9 s900 s11 sa hrest
    have hlk : (t.args.take k).length = k := by rw [List.length_take]; omega
    have hle := Tm.sizes_take_le (t.args.map f) k
    rw [← List.map_take] at hle
    have hkl := Tm.length_le ((t.args.take k).map f)
    rw [List.length_map, hlk] at hkl
    by_cases hlt : (k : Int) < t.args.length
    · obtain ⟨a, ha⟩ := get_lt (show k < t.args.length by omega)
      have ha' : (t.args.map f)[k]? = some (f a) := by rw [List.getElem?_map, ha]; rfl
      have z1 := Tm.sizes_take ha'
      have z2 := Tm.sizes_take_le (t.args.map f) (k + 1)
      rw [← List.map_take, ← List.map_take] at z1
      rw [← List.map_take] at z2
      repeat' (first | (with_reducible first | refine W ?_ | refine Wz0 ?_) | ((with_reducible first | refine Wo (fun K hK => ?_) | refine Wq ?_ | refine Wr ?_); (try simp only [go_sem, fN, seval, eT, iR, e0, e2, e6', e9', e44, e45, e46, s6, s9, s900, s11, sa, hlt]); (repeat with_reducible refine Ai ?_); (try (refine hK _ ?_; clear hK K))))
      with_reducible refine Wp ?_
      simp only [go_sem, fN, seval, true_implies, false_implies, implies_true, dT, dF, nL, hlt]
      (try with_reducible refine iC ?_)
      repeat' (first | (with_reducible first | refine W ?_ | refine Wz0 ?_) | ((with_reducible first | refine Wo (fun K hK => ?_) | refine Wq ?_ | refine Wr ?_); (try simp only [go_sem, fN, seval, eT, iR, e0, e2, e6', e9', e44, e45, e46, s6, s9, s900, s11, sa, d11, d9, e11, ha]); (repeat with_reducible refine Ai ?_); (try (refine hK _ ?_; clear hK K))))
      have hcall := ih a (mem_of_get ha) (up1 a0) (left - 1 - Tm.sizes ((t.args.take k).map f)) (upS (updE (updE S1 11 (some (.box 25 [.st (.str ⟨#[]⟩), .full []]))) 11 (some (.box 25 [.st (.str a.name), .st (.list (a.args.map encT))])))) (up1_le a0) (by omega) (by omega) (by rw [upS_up, updE_ne _ e11, updE_ne _ e11, sa]; rfl)
      by_cases hfit : ((f a).size : Int) ≤ left - 1 - Tm.sizes ((t.args.take k).map f)
      · rw [fitIn_yes hfit] at hcall
        refine ⟨_, _, hcall, ?_⟩
        have hge : ¬ left - 1 - Tm.sizes ((t.args.take k).map f) - (f a).size < 0 := by omega
        repeat' (first | (with_reducible first | refine W ?_ | refine Wz0 ?_) | ((with_reducible first | refine Wo (fun K hK => ?_) | refine Wq ?_ | refine Wr ?_); (try simp only [go_sem, fN, seval, eT, iR, e0, e2, e6', e9', e44, e45, e46, s6, s9, s900, s11, d11, d9, e11, e9, e900, d900, hlk]); (repeat with_reducible refine Ai ?_); (try (refine hK _ ?_; clear hK K))))
        with_reducible refine Wp ?_
        simp only [go_sem, fN, seval, true_implies, false_implies, implies_true, dT, dF, nL, hge]
        (try with_reducible refine iC ?_)
        repeat' (first | (with_reducible first | refine W ?_ | refine Wz0 ?_) | ((with_reducible first | refine Wo (fun K hK => ?_) | refine Wq ?_ | refine Wr ?_); (try simp only [go_sem, fN, seval, eT, iR, e0, e2, e6', e9', e44, e45, e46, s6, s9, s900, s11, d11, d9, e11]); (repeat with_reducible refine Ai ?_); (try (refine hK _ ?_; clear hK K))))
        refine then_normal ⟨t.args.length - (k + 1), by omega, k + 1, by omega, rfl, ?_⟩
        have hib : (a0 == 11) = false := by simp; omega
        have hzz : ((Tm.sizes ((t.args.take (k + 1)).map f) : Nat) : Int) = Tm.sizes ((t.args.take k).map f) + (f a).size := by omega
        refine ⟨by omega, ?_⟩
        simp only [go_sem, fN, seval, AS.drop, dropS, AC.clears, AC.clear, AC.highs, AC.high, Bool.not_false, Bool.true_and, Bool.and_self, AV.purge, AV.purges, AC.purge, ABlk.purge, List.contains_cons, List.contains_nil, Nat.reduceBEq, Bool.or_self, Bool.or_false, Bool.false_or, Bool.or_true, eT, iR, e0, e2, e6', e9', e44, e45, s6, s9, s900, d11, d9, e11, e9, e900, d900, d6, hib]
        refine ⟨by congr 3, by rw [take_snoc ha, List.map_append, List.map_append, List.map_cons, List.map_nil, List.map_cons, List.map_nil, encT_eq], ?_, fun i hi hne => ?_⟩
        · congr 5
          omega
        · have i9 : ¬ i = 9 := by omega
          have i11 : ¬ i = 11 := by omega
          have i900 : ¬ i = 900 := by omega
          have i11b : (i == 11) = false := by simp; omega
          simp only [go_sem, fN, seval, AS.drop, dropS, AC.clears, AC.clear, AC.highs, AC.high, Bool.not_false, Bool.true_and, Bool.and_self, AV.purge, AV.purges, AC.purge, ABlk.purge, List.contains_cons, List.contains_nil, Nat.reduceBEq, Bool.or_self, Bool.or_false, Bool.false_or, Bool.or_true, eT, iR, i9, i11, i11b, i900, hne]
          rw [hrest i hi hne]
          exact purgeS (by decide) fun b hb => (hS i b hb).2
      · have hno : ¬ ((Tm.mk t.name (t.args.map f)).size : Int) ≤ left := by rw [hu]; omega
        rw [fitIn_no hfit] at hcall
        refine ⟨_, _, hcall, ?_⟩
        repeat' (first | (with_reducible first | refine W ?_ | refine Wz0 ?_) | ((with_reducible first | refine Wo (fun K hK => ?_) | refine Wq ?_ | refine Wr ?_); (try simp only [go_sem, fN, seval, eT, iR, e0, e2, e6', e9', e44, e45, e46, s6, s9, s900, s11, d11, d9, e11, e9, e900, d900, hlk]); (repeat with_reducible refine Ai ?_); (try (refine hK _ ?_; clear hK K))))
        with_reducible refine Wp ?_
        simp only [go_sem, fN, seval, true_implies, false_implies, implies_true, dT, dF, nL]
        (try with_reducible refine iC ?_)
        repeat' (first | (with_reducible first | refine W ?_ | refine Wz0 ?_) | ((with_reducible first | refine Wo (fun K hK => ?_) | refine Wq ?_ | refine Wr ?_); (try simp only [go_sem, fN, seval, eT, iR, e0, e2, e6', e9', e44, e45, e46, s6, s9, s900, s11, d11, d9, e11, e6, d6, d900, e900]); (repeat with_reducible refine Ai ?_); (try (refine hK _ ?_; clear hK K))))
        rw [fitIn_no hno]
        refine finS_one (.agg [.st (.str ⟨#[]⟩), .full []]) hS ha0 rfl trivial ?_ ?_ ?_ fun i hi hne => ?_
        · simp only [go_sem, fN, seval, eT, iR, resAll, resOne, tupV, e6', s6, e6, e9, e11, e900, d6, d9, d11, d900]
        · simp only [go_sem, fN, seval, eT, iR, Tm.nil]
          rfl
        · simp only [go_sem, fN, seval, eT, iR, e6, e9, e11, e900]
        · have i6 : ¬ i = 6 := by omega
          have i9 : ¬ i = 9 := by omega
          have i11 : ¬ i = 11 := by omega
          have i900 : ¬ i = 900 := by omega
          simp only [go_sem, fN, seval, eT, iR, i6, i9, i11, i900, hne]
          exact hrest i hi hne
    · have hall : t.args.take k = t.args := List.take_of_length_le (by omega)
      rw [hall] at hlk s900 hsz sa
      have hyes : ((Tm.mk t.name (t.args.map f)).size : Int) ≤ left := by rw [hu]; omega
      repeat' (first | (with_reducible first | refine W ?_ | refine Wz0 ?_) | ((with_reducible first | refine Wo (fun K hK => ?_) | refine Wq ?_ | refine Wr ?_); (try simp only [go_sem, fN, seval, eT, iR, e0, e2, e6', e9', e44, e45, e46, s6, s9, s900, s11, sa, hlt]); (repeat with_reducible refine Ai ?_); (try (refine hK _ ?_; clear hK K))))
      with_reducible refine Wp ?_
      simp only [go_sem, fN, seval, true_implies, false_implies, implies_true, dT, dF, nL, hlt]
      (try with_reducible refine iC ?_)
      repeat' (first | (with_reducible first | refine W ?_ | refine Wz0 ?_) | ((with_reducible first | refine Wo (fun K hK => ?_) | refine Wq ?_ | refine Wr ?_); (try simp only [go_sem, fN, seval, eT, iR, e0, e2, e6', e9', e44, e45, e46, s6, s9, s900, s11, sa, d6]); (repeat with_reducible refine Ai ?_); (try (refine hK _ ?_; clear hK K))))
      rw [fitIn_yes hyes]
      refine finS_one (.agg [.st (.str t.name), .row 900 k]) hS ha0 rfl trivial ?_ ?_ ?_ fun i hi hne => ?_
      · simp only [go_sem, fN, seval, eT, iR, resAll, resOne, tupV, e6', s6]
      · simp only [go_sem, fN, seval, eT, iR, s900, hlk]
        rfl
      · simp only [go_sem, fN, seval, eT, iR, e6, sa, hu]
        rw [show left - 1 - (Tm.sizes (t.args.map f) : Int) = left - ((1 + Tm.sizes (t.args.map f) : Nat) : Int) by omega]
      · have i6 : ¬ i = 6 := by omega
        simp only [go_sem, fN, seval, eT, iR, i6]
        exact hrest i hi hne
theorem copyF_a (s : List Bd) (h40 : s.length ≤ 100000) (ho : Ordered s) (t : Tm) : ∀ (a0 : Nat) (left : Int) (S : AStore), 1000 ≤ a0 → 0 ≤ left → left ≤ 1000000 → S a0 = some (mkBlk s left) →
    ACallsS Try.prog 59 [.one (.ptr a0 1 0 0), aTm t, aBool false] S (aTm (fitIn t left).1) (updE S a0 (some (mkBlk s (fitIn t left).2))) := by
  induction h : SizeOf.sizeOf t using Nat.strongRecOn generalizing t with
  | _ N ih =>
  subst h
  intro a0 left S h1 h2 h3 h4
  have := copy_core s h40 ho false id t (fun h => by cases h) (fun a ha => ih _ (Tm.lt_of_arg ha) a rfl) a0 left S h1 h2 h3 h4
  rw [List.map_id, Tm.eta] at this
  exact this
theorem copyT_a (s : List Bd) (h40 : s.length ≤ 100000) (ho : Ordered s) (t : Tm) (hv : ∀ b ∈ s, isVar b.1 = true) (hchk : t.chk = 0) : ∀ (a0 : Nat) (left : Int) (S : AStore), 1000 ≤ a0 → 0 ≤ left → left ≤ 1000000 → S a0 = some (mkBlk s left) →
    ACallsS Try.prog 59 [.one (.ptr a0 1 0 0), aTm t, aBool true] S (aTm (fitIn (t.on s) left).1) (updE S a0 (some (mkBlk s (fitIn (t.on s) left).2))) := by
  induction h : SizeOf.sizeOf t using Nat.strongRecOn generalizing t with
  | _ N ih =>
  subst h
  intro a0 left S ha0 h0 h1 hSa
  obtain ⟨c1, c2⟩ := Tm.chk_args hchk
  cases hl : lookup s t.name with
  | none =>
    have := copy_core s h40 ho true (Tm.on s) t (fun _ => hl) (fun a ha => ih _ (Tm.lt_of_arg ha) a (c2 a ha) rfl) a0 left S ha0 h0 h1 hSa
    rw [← Tm.on_knot (.inl hl)] at this
    exact this
  | some x =>
    obtain ⟨b, hb, hbn, _⟩ := lookup_mem hl
    have hargs := c1 (by rw [← hbn]; exact hv b hb)
    rw [Tm.on_leaf hl hargs]
    refine ok_metaprune_subst_maker_copy.acS fun hS C hC => ?_
    have n4 : S 4 = none := clean_none hS (by omega)
    have n6 : S 6 = none := clean_none hS (by omega)
    have n7 : S 7 = none := clean_none hS (by omega)
    have e4 : ¬ a0 = 4 := by omega
    have e6 : ¬ a0 = 6 := by omega
    have e7 : ¬ a0 = 7 := by omega
    have d4 : ¬ 4 = a0 := by omega
    have d6 : ¬ 6 = a0 := by omega
    have d7 : ¬ 7 = a0 := by omega
    unfold ir_metaprune_subst_maker_copy
    repeat' (first | (with_reducible first | refine W ?_ | refine Wz0 ?_) | ((with_reducible first | refine Wo (fun K hK => ?_) | refine Wq ?_ | refine Wr ?_); (try simp only [go_sem, fN, seval, eT, iR, hSa, n4, n6, n7, d4, d6, d7, e4, e6, e7]); (repeat with_reducible refine Ai ?_); (try (refine hK _ ?_; clear hK K))))
    with_reducible refine Wp ?_
    simp only [go_sem, fN, seval, true_implies, false_implies, implies_true, dT, dF, nL]
    (try with_reducible refine iC ?_)
    repeat' (first | (with_reducible first | refine W ?_ | refine Wz0 ?_) | refine Cg _ (find_a s h40 ho t.name) ?_ | ((with_reducible first | refine Wo (fun K hK => ?_) | refine Wq ?_ | refine Wr ?_); (try simp only [go_sem, fN, seval, eT, iR, hSa, n4, n6, n7, d4, d6, d7, e4, e6, e7, hl]); (repeat with_reducible refine Ai ?_); (try (refine hK _ ?_; clear hK K))))
    with_reducible refine Wp ?_
    simp only [go_sem, fN, seval, true_implies, false_implies, implies_true, dT, dF, nL]
    (try with_reducible refine iC ?_)
    repeat' (first | (with_reducible first | refine W ?_ | refine Wz0 ?_) | ((with_reducible first | refine Wo (fun K hK => ?_) | refine Wq ?_ | refine Wr ?_); (try simp only [go_sem, fN, seval, eT, iR, hSa, n4, n6, n7, d4, d6, d7, e4, e6, e7]); (repeat with_reducible refine Ai ?_); (try (refine hK _ ?_; clear hK K))))
    have hcall := fun S' h => copyF_a s h40 ho x (up1 a0) left S' (up1_le a0) h0 h1 h
    refine ⟨_, _, hcall _ (by rw [upS_up]; (simp only [go_sem, fN, seval, eT, iR, e4, e6, e7, hSa])), ?_⟩
    repeat' (first | (with_reducible first | refine W ?_ | refine Wz0 ?_) | ((with_reducible first | refine Wo (fun K hK => ?_) | refine Wq ?_ | refine Wr ?_); (try simp only [go_sem, fN, seval, eT, iR, e4, e6, e7, d4, d6, d7]); (repeat with_reducible refine Ai ?_); (try (refine hK _ ?_; clear hK K))))
    refine finS_one (aTm (fitIn x left).1) hS ha0 rfl trivial ?_ ?_ ?_ fun i hi hne => ?_
    · simp only [go_sem, fN, seval, eT, iR, resAll, resOne, tupV, e4, e6, e7, d4, d6, d7]
    · simp only [go_sem, fN, seval, eT, iR]
    · simp only [go_sem, fN, seval, eT, iR, e4, e6, e7]
    · have i4 : ¬ i = 4 := by omega
      have i6 : ¬ i = 6 := by omega
      have i7 : ¬ i = 7 := by omega
      simp only [go_sem, fN, seval, eT, iR, i4, i6, i7, hne]
theorem onP_a (s : List Bd) (h40 : s.length ≤ 100000) (ho : Ordered s) (t : Tm) (hv : ∀ b ∈ s, isVar b.1 = true) (hchk : t.chk = 0) : ACalls Try.prog 52 [aBds s, aTm t] (.tup [aTm (onTo s t).1, aBool (onTo s t).2]) := by
  refine ok_subst_On.ac fun C hC => ?_
  unfold ir_subst_On
  repeat' (first | (with_reducible first | refine W ?_ | refine Wz0 ?_) | ((with_reducible first | refine Wo (fun K hK => ?_) | refine Wq ?_ | refine Wr ?_); (try simp only [go_sem, fN, seval, eT, iR]); (repeat with_reducible refine Ai ?_); (try (refine hK _ ?_; clear hK K))))
  have hcall := fun S' h => copyT_a s h40 ho t hv hchk (up1 10) 2000 S' (up1_le 10) (by omega) (by omega) h
  refine ⟨_, _, hcall _ (by rw [upS_up]; rfl), ?_⟩
  by_cases hfit : ((t.on s).size : Int) ≤ 2000
  · have e : onTo s t = (t.on s, true) := by
      unfold onTo
      rw [if_pos (by omega)]
    rw [fitIn_yes hfit]
    have hge : (0 : Int) ≤ 2000 - (t.on s).size := by omega
    repeat' (first | (with_reducible first | refine W ?_ | refine Wz0 ?_) | ((with_reducible first | refine Wo (fun K hK => ?_) | refine Wq ?_ | refine Wr ?_); (try simp only [go_sem, fN, seval, eT, iR, hge]); (repeat with_reducible refine Ai ?_); (try (refine hK _ ?_; clear hK K))))
    rw [e]
    simp only [go_sem, fN, seval, FinQ, AS.result, resAll, resOne, tupV]
  · have e : onTo s t = (Tm.nil, false) := by
      unfold onTo
      rw [if_neg (by omega)]
    rw [fitIn_no hfit]
    repeat' (first | (with_reducible first | refine W ?_ | refine Wz0 ?_) | ((with_reducible first | refine Wo (fun K hK => ?_) | refine Wq ?_ | refine Wr ?_); (try simp only [go_sem, fN, seval, eT, iR]); (repeat with_reducible refine Ai ?_); (try (refine hK _ ?_; clear hK K))))
    rw [e]
    simp only [go_sem, fN, seval, FinQ, AS.result, resAll, resOne, tupV]

set_option maxRecDepth 100000
def ir_term_Size : IR :=
  (.seq (.ops [.i 1 (.box 25 (.t 0)), .i 2 (.mov (.n 0))]) (.seq (.ops [.i 3 (.mov (.n 1))]) (.seq (.seq (.ops [.f 6 1 1, .l 7 6, .i 8 (.len false (.t 7)), .i 9 (.mov (.n 0))]) (.block 0 (.loop (.seq (.ops [.i 10 (.bin .lss (.t 9) (.t 8))]) (.seq (.cond (.t 10) .skip (.exit 0)) (.seq (.block 1 (.seq (.ops [.i 11 (.indexAddr 2 (.t 7) (.t 9)), .L 12 2 11, .i 5 (.alloc 25 [.st (.str (ByteArray.mk (#[]))), .full []]), .s 2 5 12]) (.ops [.m 13 3, .L 14 2 5, .i 15 (.call 38 [.t 14]), .i 16 (.bin .add (.t 13) (.t 15)), .m 3 16]))) (.ops [.i 17 (.bin .add (.t 9) (.n 1)), .m 9 17]))))))) (.seq (.ops [.m 18 3, .m 2 18]) .ret))))
theorem ok_term_Size : OkF Try.prog 38 19 [] ir_term_Size [.t 2] := .of Try.func38 rfl rfl (by kernel_rfl) rfl

theorem sizeP_a (t : Tm) (hz : t.size ≤ 1000000) : ACalls Try.prog 38 [aTm t] (aInt t.size) := by
  induction h : SizeOf.sizeOf t using Nat.strongRecOn generalizing t with
  | _ N ih =>
  subst h
  have hs := Tm.size_eq t
  have hln := Tm.length_le t.args
  refine ok_term_Size.ac fun C hC => ?_
  unfold ir_term_Size
  repeat' (first | (with_reducible first | refine W ?_ | refine Wz0 ?_) | ((with_reducible first | refine Wo (fun K hK => ?_) | refine Wp ?_ | refine Wq ?_ | refine Wr ?_); (try simp only [go_sem, fN, seval, eT, iR, dT, dF, nL]); (repeat with_reducible refine Ai ?_); (try (refine hK _ ?_; clear hK K)); (try with_reducible refine iC ?_)))
  refine IWP.loopD [5] (fun m s => ∃ k, k ≤ t.args.length ∧ m = t.args.length - k ∧ s.env 3 = aInt ((1 + Tm.sizes (t.args.take k) : Nat) : Int) ∧ s.env 7 = aTms t.args ∧ s.env 8 = aInt t.args.length ∧ s.env 9 = aInt k ∧ s.S 5 = none) t.args.length ⟨0, Nat.zero_le _, rfl, rfl, rfl, rfl, rfl, rfl⟩ ?_
  rintro m ⟨env, S⟩ ⟨k, hk, rfl, e3, e7, e8, e9, s5⟩
  simp only at e3 e7 e8 e9 s5
  by_cases hlt : (k : Int) < t.args.length
  · obtain ⟨a, ha⟩ := get_lt (show k < t.args.length by omega)
    have h1 := Tm.sizes_take ha
    have h2 := Tm.sizes_take_le t.args (k + 1)
    repeat' (first | (with_reducible first | refine W ?_ | refine Wz0 ?_) | refine Cg _ (ih _ (Tm.lt_of_arg (mem_of_get ha)) a (by omega) rfl) ?_ | ((with_reducible first | refine Wo (fun K hK => ?_) | refine Wp ?_ | refine Wq ?_ | refine Wr ?_); (try simp only [go_sem, fN, seval, eT, iR, e3, e7, e8, e9, s5, hlt, ha, dT, dF, nL]); (repeat with_reducible refine Ai ?_); (try (refine hK _ ?_; clear hK K)); (try with_reducible refine iC ?_)))
    refine then_normal ⟨t.args.length - (k + 1), by omega, k + 1, by omega, rfl, ?_⟩
    simp only [go_sem, fN, seval, AS.drop, dropS, AC.clears, AC.clear, AC.highs, AC.high, Bool.not_false, Bool.true_and, Bool.and_self, AV.purge, AV.purges, AC.purge, ABlk.purge, List.contains_cons, List.contains_nil, Nat.reduceBEq, Bool.or_self, Bool.or_false, Bool.false_or, Bool.or_true, eT, iR, e3, e7, e8, e9, s5]
    exact ⟨by rw [h1]; congr 3; omega, by congr 3⟩
  · repeat' (first | (with_reducible first | refine W ?_ | refine Wz0 ?_) | ((with_reducible first | refine Wo (fun K hK => ?_) | refine Wp ?_ | refine Wq ?_ | refine Wr ?_); (try simp only [go_sem, fN, seval, eT, iR, e3, e7, e8, e9, hlt, dT, dF, nL]); (repeat with_reducible refine Ai ?_); (try (refine hK _ ?_; clear hK K)); (try with_reducible refine iC ?_)))
    simp only [go_sem, fN, seval, FinQ, AS.result, resAll, resOne, tupV]
    rw [List.take_of_length_le (by omega), hs]

theorem cloneT_N (l : List Tm) (h0 : 0 < l.length) (hl : l.length ≤ 1000000) : ACallsN Try.prog 56 [aTms l] 25 2 (l.map encT) true := by
  unfold ACallsN
  rw [List.length_map]
  refine ok_slices_Clone_metaprune_api_Term_metaprune_api_Term.acS fun hS C hC => ?_
  unfold ir_slices_Clone_metaprune_api_Term_metaprune_api_Term
  have h0' : ¬ l.length = 0 := by omega
  have hb : l.length * 40 ≤ 140737488355328 := by omega
  repeat' (first | (with_reducible first | refine W ?_ | refine Wz0 ?_) | ((with_reducible first | refine Wo (fun K hK => ?_) | refine Wp ?_ | refine Wq ?_ | refine Wr ?_); (try simp only [go_sem, fN, seval, eT, iR, h0', hb, dT, dF, nL]); (repeat with_reducible refine Ai ?_); (try (refine hK _ ?_; clear hK K)); (try with_reducible refine iC ?_)))
  exact finN (mu := true) trivial 7 (by decide) rfl (fun i hi => by show updE _ _ _ _ = _; rw [updE_ne _ (by omega)]; rfl) rfl
def rootV (r : Tm × Int × Int) : AV := .tup [aTm r.1, aInt r.2.1, aInt r.2.2]
theorem root_a {R : List Pr} (hR : GoodRules R) (t : Tm) (hc : t.chk = 0) (hz : t.size ≤ 1000000) (f : Nat) (hf : f ≤ R.length) : ACalls Try.prog 37 [aPrs R, aTm t, aInt f] (rootV (rootK t f (R.drop f))) := by
  unfold rootV
  have h40 := hR.len
  refine ok_rewrite_Root.ac fun C hC => ?_
  unfold ir_rewrite_Root
  repeat' (first | (with_reducible first | refine W ?_ | refine Wz0 ?_) | ((with_reducible first | refine Wo (fun K hK => ?_) | refine Wp ?_ | refine Wq ?_ | refine Wr ?_); (try simp only [go_sem, fN, seval, eT, iR, dT, dF, nL]); (repeat with_reducible refine Ai ?_); (try (refine hK _ ?_; clear hK K)); (try with_reducible refine iC ?_)))
  refine IWP.loop (fun m s => ∃ k, k ≤ R.length ∧ m = R.length - k ∧ rootK t f (R.drop f) = rootK t k (R.drop k) ∧ s.env 0 = aPrs R ∧ s.env 4 = .one (.ptr 4 1 0 0) ∧ s.env 6 = .one (.ptr 6 1 0 0) ∧ s.S 4 = some (.box 25 [.st (.str t.name), .st (.list (t.args.map encT))]) ∧ s.S 6 = some (.box 25 [.st (.str ⟨#[]⟩), .full []]) ∧ s.S 12 = none ∧ s.env 9 = aInt k) (R.length - f) ⟨f, hf, rfl, rfl, rfl, rfl, rfl, rfl, rfl, rfl, rfl⟩ ?_
  rintro m ⟨env, S⟩ ⟨k, hk, rfl, hrk, e0, e4, e6, s4, s6, s12, e9⟩
  simp only at e0 e4 e6 s4 s6 s12 e9
  rw [hrk]
  by_cases hlt : (k : Int) < R.length
  · obtain ⟨r, hr⟩ := get_lt (show k < R.length by omega)
    have hmem := mem_of_get hr
    have c1 := Tm.may_chk (hR.left r hmem)
    have c2 := Tm.may_chk (hR.right r hmem)
    have hok := case_ok c1.1 hc
    have hd := drop_get hr
    rw [hd, rootK]
    by_cases hcase : isCase r.1 t = true
    · rw [if_pos hcase]
      have hon := onP_a (caseOf r.1 t) (by have := case_len_le (p := r.1) (t := t); omega) hok.ord r.2 hok.var c2.1
      by_cases hon2 : (onTo (caseOf r.1 t) r.2).2 = true
      · repeat' (first | (with_reducible first | refine W ?_ | refine Wz0 ?_) | refine Cg _ (case_a r.1 t (by omega) hz) ?_ | refine Cg _ (hon) ?_ | ((with_reducible first | refine Wo (fun K hK => ?_) | refine Wp ?_ | refine Wq ?_ | refine Wr ?_); (try simp only [go_sem, fN, seval, eT, iR, e0, e4, e6, s4, s6, s12, e9, hlt, hr, encP, hcase, hon2, dT, dF, nL]); (repeat with_reducible refine Ai ?_); (try (refine hK _ ?_; clear hK K)); (try with_reducible refine iC ?_)))
        simp only [go_sem, fN, seval, FinQ, AS.result, resAll, resOne, tupV, e6, s6, hon2]
      · have hnil := onTo_no hon2
        simp only [Bool.not_eq_true] at hon2
        repeat' (first | (with_reducible first | refine W ?_ | refine Wz0 ?_) | refine Cg _ (case_a r.1 t (by omega) hz) ?_ | refine Cg _ (hon) ?_ | ((with_reducible first | refine Wo (fun K hK => ?_) | refine Wp ?_ | refine Wq ?_ | refine Wr ?_); (try simp only [go_sem, fN, seval, eT, iR, e0, e4, e6, s4, s6, s12, e9, hlt, hr, encP, hcase, hon2, dT, dF, nL]); (repeat with_reducible refine Ai ?_); (try (refine hK _ ?_; clear hK K)); (try with_reducible refine iC ?_)))
        simp only [go_sem, fN, seval, FinQ, AS.result, resAll, resOne, tupV, e6, s6, hon2, hnil]
        rfl
    · rw [if_neg hcase]
      repeat' (first | (with_reducible first | refine W ?_ | refine Wz0 ?_) | refine Cg _ (case_a r.1 t (by omega) hz) ?_ | ((with_reducible first | refine Wo (fun K hK => ?_) | refine Wp ?_ | refine Wq ?_ | refine Wr ?_); (try simp only [go_sem, fN, seval, eT, iR, e0, e4, e6, s4, s6, s12, e9, hlt, hr, encP, hcase, dT, dF, nL]); (repeat with_reducible refine Ai ?_); (try (refine hK _ ?_; clear hK K)); (try with_reducible refine iC ?_)))
      refine then_normal ⟨R.length - (k + 1), by omega, k + 1, by omega, rfl, ?_, ?_⟩
      · rfl
      · simp only [go_sem, fN, seval, eT, iR, e0, e4, e6, s4, s6, s12, e9]
        congr 3
  · have hd : R.drop k = [] := List.drop_of_length_le (by omega)
    rw [hd]
    repeat' (first | (with_reducible first | refine W ?_ | refine Wz0 ?_) | ((with_reducible first | refine Wo (fun K hK => ?_) | refine Wp ?_ | refine Wq ?_ | refine Wr ?_); (try simp only [go_sem, fN, seval, eT, iR, e0, e4, e6, s4, s6, s12, e9, hlt, dT, dF, nL]); (repeat with_reducible refine Ai ?_); (try (refine hK _ ?_; clear hK K)); (try with_reducible refine iC ?_)))
    simp only [go_sem, fN, seval, FinQ, AS.result, resAll, resOne, tupV, e6, s6]
    rfl




section
variable {C : Ctx} {s : AS}
theorem Ghost.ice (t : Nat) {id : Nat} {e : TypeId} {cs : List AC} {xs : List SV} (hS : s.S id = some (.box e cs)) (hc : stCs s.S cs = some xs) (ht : s.env t = .one (.ptr id 1 0 0)) (hn : t < C.n) : Ghost C s ⟨updE s.env t (.one (.eptr xs)), updE s.S id (some (.dead 1 0))⟩ := fun a w ⟨σ, ι, R⟩ => by
  have hb := R.blk _ _ hS
  cases hb with
  | @box _ _ g vs h1 h2 h3 h4 h5 =>
    have hsc := R.stCs h4 hc
    have hkeep := layS_keep (σ := σ) (w' := w) (g := g) (k := vs.size) (fun p x ep hx => by rw [h5 _ ep] at hx; cases hx)
    obtain ⟨hu, R'⟩ := R.turn (w' := w) hS (.dead 1 0) (ι id) (σ' := layS σ w g vs.size) hkeep (fun p hp _ => layS_out (fun e => hp (by rw [e]; exact h1))) (layS_fit R.fit) (Nat.le_refl _) (fun _ => ⟨rfl, rfl⟩) ⟨rfl, rfl, rfl⟩ (Nat.le_refl _) (fun _ _ _ => rfl) (fun g h => .inl h) (fun hu => .dead fun g' hg' => ⟨_, (by rw [h1] at hg'; cases hg'; exact h3), rfl⟩)
    refine ⟨_, _, { R' with env := fun i hi => ?_ }⟩
    show VRep _ _ _ _ (updE s.env t _ i)
    unfold updE
    split
    · rename_i hit
      subst hit
      have := R.env i hi
      rw [ht] at this
      have hv := vrep_one this
      generalize a.tmps.getD i undef = v at hv
      cases hv with
      | ptr k1 k2 k3 k4 =>
        rw [hS] at k1
        cases k1
        obtain ⟨g', q1, q2⟩ := k4 rfl
        rw [h1] at q1
        cases q1
        rw [q2]
        have key : ∀ j x, xs[j]? = some x → ∃ v, vs[j]? = some v ∧ SRep σ v x := fun j x hx => by
          obtain ⟨v, v1, v2⟩ := hsc.get hx
          exact ⟨v, by simpa using v1, v2⟩
        have hlen : vs.size = xs.length := by simpa using hsc.len
        refine .one (.eptr (o := 0) (fun j => (vs[j]?).getD undef) (fun j x hx => ?_) (fun j x hx => ?_) (fun _ q => ?_))
        · obtain ⟨v, v1, v2⟩ := key j x hx
          have hj : j < vs.size := (Array.getElem?_eq_some_iff.1 v1).1
          rw [Nat.zero_add, layS_in hj, cell_of_row w g _ _ _ _ h3]
          simp [v1]
        · obtain ⟨v, v1, v2⟩ := key j x hx
          rw [v1]
          exact v2.mono hkeep
        · rw [layS_hard (by omega), look_hard h3]
    · exact R'.env i hi
theorem Ghost.calm {id : Nat} {e : TypeId} {cs : List AC} {xs : List SV} (hS : s.S id = some (.box e cs)) (hc : stCs s.S cs = some xs) : Ghost C s (s.set id (.box e (xs.map .st))) := fun a w ⟨σ, ι, R⟩ => by
  have hb := R.blk _ _ hS
  cases hb with
  | @box _ _ g vs h1 h2 h3 h4 h5 =>
    have hsc := R.stCs h4 hc
    obtain ⟨hu, R'⟩ := R.turn (w' := w) hS (.box e (xs.map .st)) (ι id) (σ' := σ) (fun _ _ h => h) (fun _ _ _ => rfl) R.fit (Nat.le_refl _) (fun _ => ⟨rfl, rfl⟩) ⟨rfl, rfl, rfl⟩ (Nat.le_refl _) (fun _ _ _ => rfl) (fun g h => .inl h) (fun hu => .box h1 h2 h3 ((hsc.mono fun _ _ x => ARep.st x).map_right) h5)
    exact ⟨_, _, R'⟩
end
abbrev cellsT (t : Tm) : List SV := [.str t.name, .list (t.args.map encT)]
def svW : List (Tm × Nat) → SV
  | [] => .lit (.func (.func 36) #[] #[])
  | (t, i) :: V => .clo 55 [cellsT t, [.int .i64 i], [svW V]]
def acW : List (Tm × Nat) → AC
  | [] => .fn 36 []
  | (t, i) :: V => .fn 55 [.eptr (cellsT t), .eptr [.int .i64 i], .eptr [svW V]]
theorem stC_acW (S : AStore) : ∀ V, stC S (acW V) = some (svW V)
  | [] => rfl
  | (t, i) :: V => rfl
def capsW : List (Tm × Nat) → List AC
  | [] => []
  | (t, i) :: V => [.eptr (cellsT t), .eptr [.int .i64 i], .eptr [svW V]]
def fnW : List (Tm × Nat) → Nat
  | [] => 36
  | (t, i) :: V => 55
theorem fnOf_svW : ∀ V, (AV.one (.st (svW V))).fnOf = some (fnW V, capsW V)
  | [] => rfl
  | (t, i) :: V => rfl
theorem plain_fnW : ∀ V, plainF Try.prog (fnW V) = true
  | [] => by kernel_rfl
  | (t, i) :: V => by kernel_rfl
theorem rens_capsW (ρ : Nat → Nat) : ∀ V, AV.rens ρ ((capsW V).map .one) = (capsW V).map .one
  | [] => rfl
  | (t, i) :: V => rfl
theorem outs_W (V : List (Tm × Nat)) (x : Tm) : outVs noS (aTm x :: (capsW V).map .one) = some (aTm x :: (capsW V).map .one) := by
  cases V <;> rfl
theorem once1_a (x : Tm) : ACalls Try.prog 36 [aTm x] (aTm x) := by
  refine ok_rewrite_Once_1.ac fun C hC => ?_
  unfold ir_rewrite_Once_1
  repeat' (first | (with_reducible first | refine W ?_ | refine Wz0 ?_) | ((with_reducible first | refine Wo (fun K hK => ?_) | refine Wp ?_ | refine Wq ?_ | refine Wr ?_); (try simp only [go_sem, fN, seval, eT, iR, dT, dF, nL]); (repeat with_reducible refine Ai ?_); (try (refine hK _ ?_; clear hK K)); (try with_reducible refine iC ?_)))
  simp only [go_sem, fN, seval, FinQ, AS.result, resAll, resOne, tupV]
theorem put_a : ∀ (V : List (Tm × Nat)) (x : Tm), SurOk V → ACalls Try.prog (fnW V) (aTm x :: (capsW V).map .one) (aTm (surPut V x))
  | [], x, _ => once1_a x
  | (t, i) :: V, x, hV => by
    obtain ⟨h1, h2, h3⟩ := hV
    have ih := put_a V (.mk t.name (t.args.set i x)) h3
    show ACalls Try.prog 55 [aTm x, .one (.eptr (cellsT t)), .one (.eptr [.int .i64 i]), .one (.eptr [svW V])] (aTm (surPut V (.mk t.name (t.args.set i x))))
    refine ok_rewrite_visit_1.ac fun C hC => ?_
    unfold ir_rewrite_visit_1
    repeat' (first | (with_reducible first | refine W ?_ | refine Wz0 ?_) | ((with_reducible first | refine Wo (fun K hK => ?_) | refine Wp ?_ | refine Wq ?_ | refine Wr ?_); (try simp only [go_sem, fN, seval, eT, iR, dT, dF, nL]); (repeat with_reducible refine Ai ?_); (try (refine hK _ ?_; clear hK K)); (try with_reducible refine iC ?_)))
    refine ⟨_, _, _, _, cloneT_N t.args (by omega) h2, by simp [updE, noS], ?_⟩
    refine Wr ?_
    simp only [go_sem, fN, seval, eT, iR]
    refine hK _ ?_
    clear hK K
    refine Wb ?_
    refine IWP.mid (fun x' => x'.env 3 = .one (.eptr [svW V]) ∧ x'.env 5 = .one (.ptr 5 1 0 0) ∧ x'.env 6 = .one (.ptr 6 1 0 0) ∧ x'.S 5 = some (.box 25 [.st (.str ⟨#[]⟩), .full []]) ∧ x'.S 6 = some (.box 25 [.st (.str t.name), .row 11 t.args.length]) ∧ x'.S 11 = some (.mrow 25 2 ((t.args.set i x).map encT))) ?_ ?_
    · have hlt : (i : Int) < t.args.length := by omega
      obtain ⟨a, ha⟩ := get_lt h1
      repeat' (first | (with_reducible first | refine W ?_ | refine Wz0 ?_) | ((with_reducible first | refine Wo (fun K hK => ?_) | refine Wp ?_ | refine Wq ?_ | refine Wr ?_); (try simp only [go_sem, fN, seval, eT, iR, hlt, ha, dT, dF, nL]); (repeat with_reducible refine Ai ?_); (try (refine hK _ ?_; clear hK K)); (try with_reducible refine iC ?_)))
      refine ⟨rfl, ?_⟩
      simp only [go_sem, fN, seval, eT, iR, hlt, ha]
      rw [List.map_set, encT_eq]
    rintro ⟨env, S⟩ ⟨e3, e5, e6, s5, s6, s11⟩
    simp only at e3 e5 e6 s5 s6 s11
    have hl1 : (t.args.set i x).length = t.args.length := by simp
    refine IWP.ghost (Ghost.share (id := 11) s11) ?_
    refine IWP.ghost (Ghost.calm (id := 6) (e := 25) (cs := [.st (.str t.name), .row 11 t.args.length]) (xs := cellsT (.mk t.name (t.args.set i x))) (by simp only [go_sem, fN, seval, eT, iR, s6]) (by simp only [go_sem, fN, seval, eT, iR, hl1, stCs, stC, Tm.name_mk, Tm.args_mk, cellsT])) ?_
    repeat' (first | (with_reducible first | refine W ?_ | refine Wz0 ?_) | ((with_reducible first | refine Wo (fun K hK => ?_) | refine Wp ?_ | refine Wq ?_ | refine Wr ?_); (try simp only [go_sem, fN, seval, eT, iR, e3, e5, e6, s5, s6, fnOf_svW, dT, dF, nL]); (repeat with_reducible refine Ai ?_); (try (refine hK _ ?_; clear hK K)); (try with_reducible refine iC ?_)))
    rw [rens_capsW]
    refine ⟨plain_fnW V, _, _, ih.toS (outs_W V _), ?_⟩
    repeat' (first | (with_reducible first | refine W ?_ | refine Wz0 ?_) | ((with_reducible first | refine Wo (fun K hK => ?_) | refine Wp ?_ | refine Wq ?_ | refine Wr ?_); (try simp only [go_sem, fN, seval, eT, iR, e3, e5, e6, s5, s6, dT, dF, nL]); (repeat with_reducible refine Ai ?_); (try (refine hK _ ?_; clear hK K)); (try with_reducible refine iC ?_)))
    simp only [go_sem, fN, seval, FinQ, AS.result, resAll, resOne, tupV, e5, s5]
theorem walk_a (t : Tm) : ACalls Try.prog 35 [aTm t, .one (acW [])] (.one (.fn 49 [.eptr (cellsT t), .eptr [svW []]])) := by
  refine ok_rewrite_walk.ac fun C hC => ?_
  unfold ir_rewrite_walk
  refine IWP.mid (fun x => x.env 2 = .one (.ptr 2 1 0 0) ∧ x.env 3 = .one (.ptr 3 1 0 0) ∧ (∃ e, x.S 2 = some (.box e [.st (.str t.name), .st (.list (t.args.map encT))])) ∧ ∃ e, x.S 3 = some (.box e [acW []])) ?_ ?_
  · repeat' (first | (with_reducible first | refine W ?_ | refine Wz0 ?_) | ((with_reducible first | refine Wo (fun K hK => ?_) | refine Wp ?_ | refine Wq ?_ | refine Wr ?_); (try simp only [go_sem, fN, seval, eT, iR, dT, dF, nL]); (repeat with_reducible refine Ai ?_); (try (refine hK _ ?_; clear hK K)); (try with_reducible refine iC ?_)))
    exact ⟨rfl, rfl, rfl, ⟨_, rfl⟩, ⟨_, rfl⟩⟩
  rintro ⟨env, S⟩ ⟨e2, e3, ⟨ty, s2⟩, ty', s3⟩
  simp only at e2 e3 s2 s3
  refine IWP.ghost (Ghost.ice 2 (id := 2) s2 (xs := cellsT t) rfl e2 (by omega)) ?_
  refine IWP.ghost (Ghost.ice 3 (id := 3) (e := ty') (cs := [acW []]) (xs := [svW []]) (by simp only [go_sem, fN, seval, eT, iR, s3]) rfl (by simp only [go_sem, fN, seval, eT, iR, e3]) (by omega)) ?_
  repeat' (first | (with_reducible first | refine W ?_ | refine Wz0 ?_) | ((with_reducible first | refine Wo (fun K hK => ?_) | refine Wp ?_ | refine Wq ?_ | refine Wr ?_); (try simp only [go_sem, fN, seval, eT, iR, AS.caps, dT, dF, nL]); (repeat with_reducible refine Ai ?_); (try (refine hK _ ?_; clear hK K)); (try with_reducible refine iC ?_)))
  simp only [go_sem, fN, seval, FinQ, AS.result, resAll, resOne, tupV]
  rfl
theorem drop_keepT {s : AS} {ds : List Nat} (hds : ∀ d ∈ ds, d < 1000) {T : AStore} (hT : Clean T) (h : ∀ i, 1000 ≤ i → s.S i = T i) : ∀ i, 1000 ≤ i → (s.drop ds).S i = T i := fun i hi => by
  show dropS ds s.S i = T i
  unfold dropS
  rw [not_ds hds hi, h i hi]
  cases hb : T i with
  | none => rfl
  | some b => simp [ABlk.purge_high hds (hT i b hb).2]
def encW (q : List (Tm × Nat) × Tm) : List AV := [aTm q.2, .one (.st (svW q.1))]
theorem visit_R {y : Nat} (hy : 1000 ≤ y) {all : List (List (Tm × Nat) × Tm)} {Inv : List (List (Tm × Nat) × Tm) → AStore → Prop} {Jx : AStore → Prop}
    (hround : ∀ pre v, (pre ++ [v]) <+: all → ∀ T, Inv pre T → AYields Try.prog (.one (.yld y)) (encW v) T fun r T' => (r = .one (.st (.bool true)) ∧ Inv (pre ++ [v]) T') ∨ (r = .one (.st (.bool false)) ∧ Jx T')) :
    ∀ (t : Tm) (V : List (Tm × Nat)) (c : AC) (pre : List (List (Tm × Nat) × Tm)) (T : AStore), (∀ S, stC S c = some (svW V)) → c.stay = true ∨ c = acW V → t.size ≤ 1000000 → (pre ++ t.visits V) <+: all → Inv pre T →
      ACallsR Try.prog 50 [aTm t, .one c, .one (.yld y)] T fun r T' => (r = aBool true ∧ Inv (pre ++ t.visits V) T') ∨ (r = aBool false ∧ Jx T') := by
  intro t
  induction h : SizeOf.sizeOf t using Nat.strongRecOn generalizing t with
  | _ N ih =>
  subst h
  intro V c pre T0 hc hc2 hz hpre hI
  have hs := Tm.size_eq t
  have hln := Tm.length_le t.args
  refine ok_rewrite_visit.acR fun hclean C hC htop => ?_
  unfold ir_rewrite_visit
  have n3 := clean_none hclean (show 3 < 1000 by omega)
  have n4 := clean_none hclean (show 4 < 1000 by omega)
  have n7 := clean_none hclean (show 7 < 1000 by omega)
  refine IWP.mid (fun x => x.env 2 = .one (.yld y) ∧ x.env 3 = .one (.ptr 3 1 0 0) ∧ x.env 4 = .one (.ptr 4 1 0 0) ∧ (∃ e, x.S 3 = some (.box e [.st (.str t.name), .st (.list (t.args.map encT))])) ∧ (∃ e, x.S 4 = some (.box e [c])) ∧ x.S 7 = none ∧ ∀ i, 1000 ≤ i → x.S i = T0 i) ?_ ?_
  · repeat' (first | (with_reducible first | refine W ?_ | refine Wz0 ?_) | ((with_reducible first | refine Wo (fun K hK => ?_) | refine Wp ?_ | refine Wq ?_ | refine Wr ?_); (try simp only [go_sem, fN, seval, eT, iR, AS.startS, n3, n4, dT, dF, nL]); (repeat with_reducible refine Ai ?_); (try (refine hK _ ?_; clear hK K)); (try with_reducible refine iC ?_)))
    refine ⟨rfl, rfl, rfl, rfl, ⟨_, rfl⟩, ⟨_, rfl⟩, ?_, fun i hi => ?_⟩
    · simp only [go_sem, fN, seval, eT, iR, n7]
    · show updE (updE _ 3 _) 4 _ i = _
      rw [updE_ne _ (by omega), updE_ne _ (by omega)]
  rintro ⟨env, S⟩ ⟨e2, e3, e4, ⟨ty, s3⟩, ⟨ty', s4⟩, s7, hST⟩
  simp only at e2 e3 e4 s3 s4 s7 hST
  refine IWP.ghost (Ghost.ice 3 (id := 3) s3 (xs := cellsT t) rfl e3 (by omega)) ?_
  refine IWP.ghost (Ghost.ice 4 (id := 4) (e := ty') (cs := [c]) (xs := [svW V]) (by simp only [go_sem, fN, seval, eT, iR, s4]) (by simp [stCs, hc]) (by simp only [go_sem, fN, seval, eT, iR, e4]) (by omega)) ?_
  have hy' := hround pre (V, t) (by
    rw [Tm.visits_eq] at hpre
    exact List.IsPrefix.trans ⟨Tm.visitsL V t 0 t.args, by simp⟩ hpre) T0 hI
  unfold encW at hy'
  repeat' (first | (with_reducible first | refine W ?_ | refine Wz0 ?_) | ((with_reducible first | refine Wo (fun K hK => ?_) | refine Wp ?_ | refine Wq ?_ | refine Wr ?_); (try simp only [go_sem, fN, seval, eT, iR, e2, dT, dF, nL]); (repeat with_reducible refine Ai ?_); (try (refine hK _ ?_; clear hK K)); (try with_reducible refine iC ?_)))
  refine CallXG.mk T0 _ hclean (fun i hi => by
      show updE (updE S 3 _) 4 _ i = _
      rw [updE_ne _ (by omega), updE_ne _ (by omega)]
      exact hST i hi) (by
      show ((AC.yld y).high && true) = true
      rw [high_yld hy]
      rfl) hy' ?_
  have hj : ∀ {S S' : AStore} (i : Nat), 1000 ≤ i → joinS S S' i = S' i := fun i hi => joinS_high hi
  rintro r S' hS' (⟨rfl, hI'⟩ | ⟨rfl, hJ⟩)
  case inr =>
    repeat' (first | (with_reducible first | refine W ?_ | refine Wz0 ?_) | ((with_reducible first | refine Wo (fun K hK => ?_) | refine Wp ?_ | refine Wq ?_ | refine Wr ?_); (try simp only [go_sem, fN, seval, eT, iR, e2, dT, dF, nL]); (repeat with_reducible refine Ai ?_); (try (refine hK _ ?_; clear hK K)); (try with_reducible refine iC ?_)))
    exact ⟨aBool false, S', .inr ⟨rfl, hJ⟩, finS_same (aBool false) hS' trivial rfl rfl fun i hi => joinS_high hi⟩
  repeat' (first | (with_reducible first | refine W ?_ | refine Wz0 ?_) | ((with_reducible first | refine Wo (fun K hK => ?_) | refine Wp ?_ | refine Wq ?_ | refine Wr ?_); (try simp only [go_sem, fN, seval, eT, iR, e2, dT, dF, nL]); (repeat with_reducible refine Ai ?_); (try (refine hK _ ?_; clear hK K)); (try with_reducible refine iC ?_)))
  refine IWP.loopD [7] (fun m s => ∃ k T pre', k ≤ t.args.length ∧ m = t.args.length - k ∧ pre' ++ Tm.visitsL V t k (t.args.drop k) = pre ++ t.visits V ∧ s.env 2 = .one (.yld y) ∧ s.env 3 = .one (.eptr (cellsT t)) ∧ s.env 4 = .one (.eptr [svW V]) ∧ s.env 16 = aInt t.args.length ∧ s.env 17 = aInt k ∧ s.S 7 = none ∧ (∀ i, 1000 ≤ i → s.S i = T i) ∧ Clean T ∧ Inv pre' T) t.args.length ⟨0, S', pre ++ [(V, t)], Nat.zero_le _, rfl, ?_, ?_, ?_, ?_, ?_, ?_, ?_, fun i hi => joinS_high hi, hS', hI'⟩ ?_
  · rw [Tm.visits_eq]
    simp
  · simp only [go_sem, fN, seval, eT, iR, e2]
  · simp only [go_sem, fN, seval, eT, iR]
  · simp only [go_sem, fN, seval, eT, iR]
  · simp only [go_sem, fN, seval, eT, iR]
  · simp only [go_sem, fN, seval, eT, iR]
  · show joinS (updE (updE S 3 (some (.dead 1 0))) 4 (some (.dead 1 0))) S' 7 = none
    rw [joinS_low (by decide), updE_ne _ (by decide), updE_ne _ (by decide)]
    exact s7
  rintro m ⟨env, S⟩ ⟨k, T, pre', hk, rfl, hall, e2, e3, e4, e16, e17, s7, hST, hT, hI⟩
  simp only at e2 e3 e4 e16 e17 s7 hST
  by_cases hlt : k < t.args.length
  case neg =>
    rw [List.drop_of_length_le (by omega)] at hall
    simp only [Tm.visitsL, List.append_nil] at hall
    subst hall
    have hlt' : ¬ (k : Int) < t.args.length := by omega
    repeat' (first | (with_reducible first | refine W ?_ | refine Wz0 ?_) | ((with_reducible first | refine Wo (fun K hK => ?_) | refine Wp ?_ | refine Wq ?_ | refine Wr ?_); (try simp only [go_sem, fN, seval, eT, iR, e2, e3, e4, e16, e17, hlt', dT, dF, nL]); (repeat with_reducible refine Ai ?_); (try (refine hK _ ?_; clear hK K)); (try with_reducible refine iC ?_)))
    exact ⟨aBool true, T, .inl ⟨rfl, hI⟩, finS_same (aBool true) hT trivial rfl rfl hST⟩
  obtain ⟨a, ha⟩ := get_lt hlt
  have hmem := mem_of_get ha
  have hlt' : (k : Int) < t.args.length := by omega
  rw [visitsL_drop ha, ← List.append_assoc] at hall
  repeat' (first | (with_reducible first | refine W ?_ | refine Wz0 ?_) | ((with_reducible first | refine Wo (fun K hK => ?_) | refine Wq ?_ | refine Wr ?_); (try simp only [go_sem, fN, seval, eT, iR, e16, e17, hlt']); (repeat with_reducible refine Ai ?_); (try (refine hK _ ?_; clear hK K))))
  with_reducible refine Wp ?_
  simp only [go_sem, fN, seval, true_implies, false_implies, implies_true, dT, dF, nL, hlt']
  (try with_reducible refine iC ?_)
  repeat' (with_reducible first | refine Wb ?_ | refine Wc ?_ | refine Wd ?_ | refine We ?_ | refine Wg ?_ | refine Wh ?_ | refine Wi ?_ | refine Wj ?_ | refine Wk (by decide) ?_ | refine Wl ?_ | refine Wm ?_ | refine Wn ?_)
  refine Wb ?_
  refine Wa ?_
  refine Wc ?_
  refine IWP.mid (fun x => x.env 2 = .one (.yld y) ∧ x.env 3 = .one (.eptr (cellsT t)) ∧ x.env 4 = .one (.eptr [svW V]) ∧ x.env 16 = aInt t.args.length ∧ x.env 17 = aInt k ∧ x.env 7 = .one (.ptr 7 1 0 0) ∧ (∃ e, x.S 7 = some (.box e [.st (.int .i64 k)])) ∧ (∀ i, 1000 ≤ i → x.S i = T i)) ?_ ?_
  · repeat' (first | (with_reducible first | refine W ?_ | refine Wz0 ?_) | ((with_reducible first | refine Wo (fun K hK => ?_) | refine Wp ?_ | refine Wq ?_ | refine Wr ?_); (try simp only [go_sem, fN, seval, eT, iR, e2, e3, e4, e16, e17, s7, dT, dF, nL]); (repeat with_reducible refine Ai ?_); (try (refine hK _ ?_; clear hK K)); (try with_reducible refine iC ?_)))
    refine ⟨rfl, e2, e3, e4, e16, e17, rfl, ⟨_, rfl⟩, fun i hi => ?_⟩
    show updE (updE S 7 _) 7 _ i = _
    rw [updE_ne _ (by omega), updE_ne _ (by omega)]
    exact hST i hi
  clear e2 e3 e4 e16 e17 s7 hST
  rintro ⟨env, S⟩ ⟨e2, e3, e4, e16, e17, e7, ⟨ty7, s7⟩, hST⟩
  simp only at e2 e3 e4 e16 e17 e7 s7 hST
  refine IWP.ghost (Ghost.ice 7 (id := 7) s7 (xs := [.int .i64 k]) rfl e7 (by omega)) ?_
  have hst : (updE S 7 (some (.dead 1 0)) : AStore) 7 = some (.dead 1 0) := rfl
  have hcon := ih _ (Tm.lt_of_arg hmem) a rfl ((t, k) :: V) (acW ((t, k) :: V)) pre' T (fun S => stC_acW S _) (.inr rfl) (by have := Tm.size_mem hmem; omega) (List.IsPrefix.trans ⟨Tm.visitsL V t (k + 1) (List.drop (k + 1) t.args), hall⟩ hpre) hI
  repeat' (first | (with_reducible first | refine W ?_ | refine Wz0 ?_) | ((with_reducible first | refine Wo (fun K hK => ?_) | refine Wp ?_ | refine Wq ?_ | refine Wr ?_); (try simp only [go_sem, fN, seval, eT, iR, e2, e3, e4, e16, e17, AS.caps, ha, dT, dF, nL]); (repeat with_reducible refine Ai ?_); (try (refine hK _ ?_; clear hK K)); (try with_reducible refine iC ?_)))
  refine CallXG.mk T _ hT (fun i hi => by
    rw [updE_ne _ (by omega)]
    exact hST i hi) (by
      show (true && (true && ((AC.yld y).high && true))) = true
      rw [high_yld hy]
      rfl) hcon ?_
  rintro r S' hS' (⟨rfl, hI'⟩ | ⟨rfl, hJ⟩)
  case inr =>
    repeat' (first | (with_reducible first | refine W ?_ | refine Wz0 ?_) | ((with_reducible first | refine Wo (fun K hK => ?_) | refine Wp ?_ | refine Wq ?_ | refine Wr ?_); (try simp only [go_sem, fN, seval, eT, iR, e2, e3, e4, e16, e17, dT, dF, nL]); (repeat with_reducible refine Ai ?_); (try (refine hK _ ?_; clear hK K)); (try with_reducible refine iC ?_)))
    exact ⟨aBool false, S', .inr ⟨rfl, hJ⟩, finS_same (aBool false) hS' trivial rfl rfl fun i hi => joinS_high hi⟩
  repeat' (first | (with_reducible first | refine W ?_ | refine Wz0 ?_) | ((with_reducible first | refine Wo (fun K hK => ?_) | refine Wp ?_ | refine Wq ?_ | refine Wr ?_); (try simp only [go_sem, fN, seval, eT, iR, e2, e3, e4, e16, e17, dT, dF, nL]); (repeat with_reducible refine Ai ?_); (try (refine hK _ ?_; clear hK K)); (try with_reducible refine iC ?_)))
  refine ⟨t.args.length - (k + 1), by omega, k + 1, S', _, by omega, rfl, hall, ?_, ?_, ?_, ?_, ?_, rfl, drop_keepT (by decide) hS' (fun i hi => joinS_high hi), hS', hI'⟩
  · have hy7 : (y == 7) = false := by
      rw [beq_eq_false_iff_ne]
      omega
    simp only [go_sem, fN, seval, AS.drop, dropS, AC.clears, AC.clear, AC.highs, AC.high, Bool.not_false, Bool.true_and, Bool.and_self, AV.purge, AV.purges, AC.purge, ABlk.purge, List.contains_cons, List.contains_nil, Nat.reduceBEq, Bool.or_self, Bool.or_false, Bool.false_or, Bool.or_true, eT, iR, e2, hy7]
  · simp only [go_sem, fN, seval, AS.drop, dropS, AC.clears, AC.clear, AC.highs, AC.high, Bool.not_false, Bool.true_and, Bool.and_self, AV.purge, AV.purges, AC.purge, ABlk.purge, List.contains_cons, List.contains_nil, Nat.reduceBEq, Bool.or_self, Bool.or_false, Bool.false_or, Bool.or_true, eT, iR, e3]
  · simp only [go_sem, fN, seval, AS.drop, dropS, AC.clears, AC.clear, AC.highs, AC.high, Bool.not_false, Bool.true_and, Bool.and_self, AV.purge, AV.purges, AC.purge, ABlk.purge, List.contains_cons, List.contains_nil, Nat.reduceBEq, Bool.or_self, Bool.or_false, Bool.false_or, Bool.or_true, eT, iR, e4]
  · simp only [go_sem, fN, seval, AS.drop, dropS, AC.clears, AC.clear, AC.highs, AC.high, Bool.not_false, Bool.true_and, Bool.and_self, AV.purge, AV.purges, AC.purge, ABlk.purge, List.contains_cons, List.contains_nil, Nat.reduceBEq, Bool.or_self, Bool.or_false, Bool.false_or, Bool.or_true, eT, iR, e16]
  · simp only [go_sem, fN, seval, AS.drop, dropS, AC.clears, AC.clear, AC.highs, AC.high, Bool.not_false, Bool.true_and, Bool.and_self, AV.purge, AV.purges, AC.purge, ABlk.purge, List.contains_cons, List.contains_nil, Nat.reduceBEq, Bool.or_self, Bool.or_false, Bool.false_or, Bool.or_true, eT, iR, e17]
    congr 3
theorem walk1_iter (t : Tm) (hz : t.size ≤ 1000000) : AIter Try.prog 49 [.one (.eptr (cellsT t)), .one (.eptr [svW []])] (fun _ => True) encW (t.visits []) := by
  intro y Inv Jx T0 hy _ hround h0
  refine ok_rewrite_walk_1.acR fun hclean C hC htop => ?_
  unfold ir_rewrite_walk_1
  have hcon := visit_R hy hround t [] (.st (svW [])) [] T0 (fun _ => rfl) (.inl rfl) hz (List.prefix_refl _) h0
  repeat' (first | (with_reducible first | refine W ?_ | refine Wz0 ?_) | ((with_reducible first | refine Wo (fun K hK => ?_) | refine Wp ?_ | refine Wq ?_ | refine Wr ?_); (try simp only [go_sem, fN, seval, eT, iR, AS.startS, dT, dF, nL]); (repeat with_reducible refine Ai ?_); (try (refine hK _ ?_; clear hK K)); (try with_reducible refine iC ?_)))
  refine CallXG.mk T0 _ hclean (fun i hi => rfl) (by
      show (true && (true && ((AC.yld y).high && true))) = true
      rw [high_yld hy]
      rfl) hcon ?_
  rintro r S' hS' (⟨rfl, hI'⟩ | ⟨rfl, hJ⟩)
  · repeat' (first | (with_reducible first | refine W ?_ | refine Wz0 ?_) | ((with_reducible first | refine Wo (fun K hK => ?_) | refine Wp ?_ | refine Wq ?_ | refine Wr ?_); (try simp only [go_sem, fN, seval, eT, iR, dT, dF, nL]); (repeat with_reducible refine Ai ?_); (try (refine hK _ ?_; clear hK K)); (try with_reducible refine iC ?_)))
    exact ⟨.tup [], S', .inl hI', finS_same (.tup []) hS' trivial rfl rfl fun i hi => joinS_high hi⟩
  · repeat' (first | (with_reducible first | refine W ?_ | refine Wz0 ?_) | ((with_reducible first | refine Wo (fun K hK => ?_) | refine Wp ?_ | refine Wq ?_ | refine Wr ?_); (try simp only [go_sem, fN, seval, eT, iR, dT, dF, nL]); (repeat with_reducible refine Ai ?_); (try (refine hK _ ?_; clear hK K)); (try with_reducible refine iC ?_)))
    exact ⟨.tup [], S', .inr hJ, finS_same (.tup []) hS' trivial rfl rfl fun i hi => joinS_high hi⟩

abbrev boxTt (t : Tm) : ABlk := .box 25 [.st (.str t.name), .st (.list (t.args.map encT))]
theorem args_good {R : List Pr} {t : Tm} (h : argsR R t = 0) : GoodRules R ∧ t.chk = 0 ∧ t.size ≤ 200 := by
  unfold argsR at h
  by_cases h0 : rulesMay R = 0
  · rw [if_pos h0] at h
    exact ⟨goodRules h0, Tm.may_chk h⟩
  · rw [if_neg h0] at h
    exact absurd h h0

theorem IWP.at_ {P : Program} {C : Ctx} {mu : List Nat} {x : IR} {Q : AX → AS → Prop} {env0 : Nat → AV} {S0 : AStore} (M : (Nat → AV) → AStore → Prop) (hM : M env0 S0) (h : ∀ env S, M env S → IWP P C mu x Q ⟨env, S⟩) : IWP P C mu x Q ⟨env0, S0⟩ := h _ _ hM
section
variable {C : Ctx} {s : AS}
theorem Ghost.ownCM (id j nid : Nat) (e : TypeId) (wd : Nat) {ty : TypeId} {cs : List AC} (hb : s.S id = some (.box ty cs)) (hc : cs[j]? = some (.full [])) (hn : s.S nid = none) :
    Ghost C s ((s.set nid (.mrow e wd [])).set id (.box ty (cs.set j (.row nid 0)))) := fun a w ⟨σ, ι, R⟩ => by
  have hbk := R.blk id _ hb
  have hne : id ≠ nid := fun e => by subst e; rw [hb] at hn; cases hn
  cases hbk with
  | @box _ _ g vs h1 h2 h3 h4 h5 =>
    obtain ⟨v, hv, hr⟩ := h4.get hc
    cases hr with
    | @full p len _ hs =>
      have hl : len = 0 := by
        obtain ⟨p', cap', e1, _⟩ := srep_slice hs
        cases e1
        rfl
      subst hl
      obtain ⟨hu, R'⟩ := R.fresh (w' := w) hn (.mrow e wd []) ⟨p, 0, none⟩ (Ext.refl _ _) R.fit (Below.refl _ _) (by simp) (fun S' ι' hu => .mnil rfl rfl)
      have hb' : (s.set nid (.mrow e wd [])).S id = some (.box ty cs) := by simp [AS.set, updE_ne _ hne, hb]
      have hι : updE ι nid ⟨p, 0, none⟩ id = ι id := updE_ne _ hne _
      obtain ⟨hu2, R2⟩ := R'.turn (w' := w) hb' (.box ty (cs.set j (.row nid 0))) (updE ι nid ⟨p, 0, none⟩ id) (σ' := σ) (fun _ _ h => h) (fun _ _ _ => rfl) R.fit (Nat.le_refl _) (fun _ => ⟨by simp [ABlk.wid], rfl⟩) ⟨rfl, rfl, rfl⟩ (Nat.le_refl _) (fun _ _ _ => rfl) (fun g h => .inl h) (fun hu2 => by
        refine .box (by rw [hι]; exact h1) (by rw [hι]; exact h2) h3 (All2.of_get (by rw [List.length_set]; exact h4.len) fun k u c hu' hck => ?_) h5
        by_cases hk : k = j
        · subst hk
          rw [hv] at hu'
          cases hu'
          have hlt : k < cs.length := (List.getElem?_eq_some_iff.1 hc).1
          rw [List.getElem?_set_self hlt] at hck
          cases hck
          exact .row (b := .mrow e wd []) (by simp [AS.set, updE, hne.symm]) (Nat.le_refl _) rfl fun _ => by simp [updE, hne.symm]
        · rw [List.getElem?_set_ne (fun e => hk e.symm)] at hck
          obtain ⟨u', q1, q2⟩ := h4.get hck
          rw [hu'] at q1
          cases q1
          exact (q2.mono (fun _ _ h => h) hu).mono (fun _ _ h => h) hu2)
      exact ⟨_, _, R2⟩
end
theorem low_same {S U : AStore} (hU : Clean U) (h : ∀ i, 1000 ≤ i → S i = U i) : lowS S = U := by
  funext i
  show (if i < 1000 then none else S i) = U i
  by_cases hi : i < 1000
  · rw [if_pos hi, clean_none hU hi]
  · rw [if_neg hi, h i (by omega)]
theorem low_clean {S : AStore} (h : ∀ i b, 1000 ≤ i → S i = some b → b.high = true) : Clean (lowS S) := fun i b hb => by
  have hb : (if i < 1000 then none else S i) = some b := hb
  by_cases hi : i < 1000
  · rw [if_pos hi] at hb
    cases hb
  · rw [if_neg hi] at hb
    exact ⟨by omega, h i b (by omega) hb⟩
theorem highs_set {S : AStore} (h : ∀ i b, 1000 ≤ i → S i = some b → b.high = true) {j : Nat} {b : ABlk} (hb : b.high = true) : ∀ i b', 1000 ≤ i → updE S j (some b) i = some b' → b'.high = true := fun i b' hi he => by
  by_cases e : i = j
  · subst e
    rw [updE_same] at he
    cases he
    exact hb
  · rw [updE_ne _ e] at he
    exact h i b' hi he
theorem highs_low {S : AStore} (h : ∀ i b, 1000 ≤ i → S i = some b → b.high = true) {j : Nat} (hj : j < 1000) {c : Option ABlk} : ∀ i b', 1000 ≤ i → updE S j c i = some b' → b'.high = true := fun i b' hi he => by
  rw [updE_ne _ (by omega)] at he
  exact h i b' hi he
def onceU (S : AStore) (out : List Tm) : AStore := updE (updE (upS S) 1500 (some (.mrow 25 2 (out.map encT)))) 1006 (some (.box 23 [.row 1500 out.length]))
theorem once_at {S : AStore} {out : List Tm} {i : Nat} (h : i ≠ 1500) (h' : i ≠ 1006) : onceU S out i = upS S i := by
  rw [onceU, updE_ne _ h', updE_ne _ h]
theorem round_fin {C : Ctx} {y : Nat} {b : ABlk} {N : AStore → Prop} {Jx : AX → AStore → Prop} {env : Nat → AV} {S : AStore} (U : AStore) (hU : Clean (updE U y (some b))) (hy : U y = none) (hS : ∀ i, 1000 ≤ i → S i = updE U y (some b) i) (hN : N U) : RoundQ C y b N Jx .normal ⟨env, S⟩ :=
  ⟨⟨fun i => (env i).low, lowS S⟩, U, Ghost.low (s := ⟨env, S⟩) (fun i b' hi h => by
    have h : S i = some b' := h
    rw [hS i hi] at h
    exact (hU i b' h).2), low_same hU hS, by
    show Clean (lowS S)
    rw [low_same hU hS]
    exact hU, hy, hN⟩
theorem round_ret {C : Ctx} {y : Nat} {b : ABlk} {N : AStore → Prop} {Jx : AX → AStore → Prop} {env : Nat → AV} {S : AStore} (h : ∀ i b, 1000 ≤ i → S i = some b → b.high = true) (hy : 1000 ≤ y) (hSy : S y = some b) (hJ : Jx .ret (updE (lowS S) y none)) : RoundQ C y b N Jx .ret ⟨env, S⟩ :=
  ⟨⟨fun i => (env i).low, lowS S⟩, updE (lowS S) y none, Ghost.low (s := ⟨env, S⟩) h, by
    show lowS S = _
    rw [updE_over]
    refine (updE_self ?_).symm
    show (if y < 1000 then none else S y) = some b
    rw [if_neg (by omega), hSy], low_clean h, updE_same _ _ _, hJ⟩
theorem low_at {S : AStore} {i y : Nat} {c : Option ABlk} (h : 1000 ≤ i) (hne : i ≠ y) : updE (lowS S) y c i = S i := by
  rw [updE_ne _ hne]
  show (if i < 1000 then none else S i) = S i
  rw [if_neg (by omega)]
abbrev boxR (R : List Pr) : ABlk := .box 22 [.st (.list (R.map encP))]
abbrev boxI (i : Int) : ABlk := .box 28 [.st (.int .i64 i)]
def stepsV (o : Option (List Tm)) : AV := match o with
  | none => .tup [aTms [], aInt 8]
  | some l => .tup [aTms l, aInt 0]
theorem once_a {R : List Pr} (hR : GoodRules R) (t : Tm) (hc : t.chk = 0) (hz : t.size ≤ 200) : ACalls Try.prog 24 [aPrs R, aTm t] (stepsV (stepsT R t)) := by
  rw [stepsT_visits]
  have h40 := hR.len
  refine ok_rewrite_Once.acT fun C hC htop => ?_
  unfold ir_rewrite_Once
  repeat' (first | (with_reducible first | refine W ?_ | refine Wz0 ?_) | refine Cg _ (walk_a t) ?_ | ((with_reducible first | refine Wo (fun K hK => ?_) | refine Wp ?_ | refine Wq ?_ | refine Wr ?_); (try simp only [go_sem, fN, seval, eT, iR, dT, dF, nL]); (repeat with_reducible refine Ai ?_); (try (refine hK _ ?_; clear hK K)); (try with_reducible refine iC ?_)))
  refine IWP.at_ (fun env S => env 2 = .one (.ptr 2 1 0 0) ∧ env 4 = .one (.ptr 4 1 0 0) ∧ env 5 = .one (.ptr 5 1 0 0) ∧ env 6 = .one (.ptr 6 1 0 0) ∧ env 7 = .one (.ptr 7 1 0 0) ∧ env 15 = .one (.fn 49 [.eptr (cellsT t), .eptr [svW []]]) ∧ S 2 = some (boxR R) ∧ S 4 = some (.box 23 [.full []]) ∧ S 5 = some (boxI 0) ∧ S 6 = some (.box 23 [.full []]) ∧ S 7 = some (boxI 0) ∧ S 500 = none ∧ S 501 = none) ⟨rfl, rfl, rfl, rfl, rfl, rfl, rfl, rfl, rfl, rfl, rfl, rfl, rfl⟩ ?_
  rintro env S0 ⟨e2, e4, e5, e6, e7, e15, s2, s4, s5, s6, s7, s500, s501⟩
  refine IWP.ghost (Ghost.ownCM 6 0 500 25 2 s6 rfl s500) ?_
  refine IWP.at_ (fun env' S => env' = env ∧ S 2 = some (boxR R) ∧ S 4 = some (.box 23 [.full []]) ∧ S 5 = some (boxI 0) ∧ S 6 = some (.box 23 [.row 500 0]) ∧ S 7 = some (boxI 0) ∧ S 500 = some (.mrow 25 2 []) ∧ S 501 = none) ⟨rfl, by simp only [go_sem, fN, seval, eT, iR, s2], by simp only [go_sem, fN, seval, eT, iR, s4], by simp only [go_sem, fN, seval, eT, iR, s5], by simp only [go_sem, fN, seval, eT, iR]; rfl, by simp only [go_sem, fN, seval, eT, iR, s7], by simp only [go_sem, fN, seval, eT, iR], by simp only [go_sem, fN, seval, eT, iR, s501]⟩ ?_
  clear s2 s4 s5 s6 s7 s500 s501 S0
  rintro env' S0 ⟨rfl, s2, s4, s5, s6, s7, s500, s501⟩
  refine IWP.rangeF htop 501 (by decide) s501 (show AS.ev _ (.t 15) = _ from e15) (by kernel_rfl) (walk1_iter t (by omega)) (fun _ => rfl) (fun pre U => ∃ out, stepsL R (pre.map spotOf) = some out ∧ U = onceU S0 out) (fun ex U => ex = .ret ∧ stepsL R ((t.visits []).map spotOf) = none ∧ U 1004 = some (.box 23 [.full []]) ∧ U 1005 = some (boxI 8)) ⟨[], rfl, ?_⟩ (fun _ _ _ _ _ => trivial) ?_ ?_ ?_
  · funext i
    unfold onceU updE
    split
    · rename_i h
      subst h
      exact upS_some s6
    · split
      · rename_i h
        subst h
        exact upS_some s500
      · rfl
  · rintro C' b0 b1 pre v U hC' hpre ⟨out, ho, rfl⟩ hU hcl hb1
    have hv : v ∈ t.visits [] := by
      obtain ⟨tl, htl⟩ := hpre
      rw [← htl]
      simp
    obtain ⟨hsur, hkn⟩ := visits_ok t [] trivial (by omega) v hv
    have hvc := knot_chk t v.2 hc hkn
    have hvz := knot_size t v.2 hkn
    have hlen := stepsL_len ho
    have hpl := hpre.length_le
    rw [List.length_append, visits_len] at hpl
    rw [List.length_map] at hlen
    have hlen2 : out.length ≤ 8000 := Nat.le_trans hlen (Nat.mul_le_mul (show pre.length ≤ 200 by simp at hpl; omega) h40)
    have n8 : onceU S0 out 8 = none := clean_none hcl (by decide)
    have n11 : onceU S0 out 11 = none := clean_none hcl (by decide)
    have w2 : upEnv C.n env' 2 = .one (.ptr 1002 1 0 0) := by rw [upEnv, if_pos (by omega), e2]; rfl
    have w4 : upEnv C.n env' 4 = .one (.ptr 1004 1 0 0) := by rw [upEnv, if_pos (by omega), e4]; rfl
    have w5 : upEnv C.n env' 5 = .one (.ptr 1005 1 0 0) := by rw [upEnv, if_pos (by omega), e5]; rfl
    have w6 : upEnv C.n env' 6 = .one (.ptr 1006 1 0 0) := by rw [upEnv, if_pos (by omega), e6]; rfl
    have w7 : upEnv C.n env' 7 = .one (.ptr 1007 1 0 0) := by rw [upEnv, if_pos (by omega), e7]; rfl
    have u501 : up1 501 = 1501 := rfl
    unfold encW
    repeat' (first | (with_reducible first | refine W ?_ | refine Wz0 ?_) | ((with_reducible first | refine Wo (fun K hK => ?_) | refine Wp ?_ | refine Wq ?_ | refine Wr ?_); (try simp only [go_sem, fN, seval, eT, iR, setPs, n8, n11, u501, dT, dF, nL]); (repeat with_reducible refine Ai ?_); (try (refine hK _ ?_; clear hK K)); (try with_reducible refine iC ?_)))
    refine then_normal ⟨by simp only [go_sem, fN, seval, eT, iR, u501], ?_⟩
    have hst : ∀ i, 1000 ≤ i → updE (updE (updE (updE (onceU S0 out) 1501 (some b0)) 8 (some (.box 25 [.st (.str ⟨#[]⟩), .full []]))) 8 (some (.box 25 [.st (.str v.2.name), .st (.list (v.2.args.map encT))]))) 1501 (some b1) i = updE (onceU S0 out) 1501 (some b1) i := fun i hi => by
      by_cases h : i = 1501
      · subst h
        rw [updE_same, updE_same]
      · rw [updE_ne _ h, updE_ne _ h, updE_ne _ (by omega), updE_ne _ (by omega), updE_ne _ h]
    repeat' (first | (with_reducible first | refine W ?_ | refine Wz0 ?_) | ((with_reducible first | refine Wo (fun K hK => ?_) | refine Wp ?_ | refine Wq ?_ | refine Wr ?_); (try simp only [go_sem, fN, seval, eT, iR, u501, dT, dF, nL]); (repeat with_reducible refine Ai ?_); (try (refine hK _ ?_; clear hK K)); (try with_reducible refine iC ?_)))
    refine IWP.loopD [11] (fun m s => ∃ f o2, f ≤ R.length ∧ o2.length ≤ f ∧ m = R.length - f ∧ offsR (spotOf v) R = (offsR (spotOf v) (R.drop f)).map (o2 ++ ·) ∧ s.env 2 = .one (.ptr 1002 1 0 0) ∧ s.env 4 = .one (.ptr 1004 1 0 0) ∧ s.env 5 = .one (.ptr 1005 1 0 0) ∧ s.env 6 = .one (.ptr 1006 1 0 0) ∧ s.env 7 = .one (.ptr 1007 1 0 0) ∧ s.env 8 = .one (.ptr 8 1 0 0) ∧ s.env 9 = .one (.st (svW v.1)) ∧ s.env 10 = aInt f ∧ s.S 8 = some (.box 25 [.st (.str v.2.name), .st (.list (v.2.args.map encT))]) ∧ s.S 11 = none ∧ ∀ i, 1000 ≤ i → s.S i = updE (onceU S0 (out ++ o2)) 1501 (some b1) i) R.length ⟨0, [], Nat.zero_le _, Nat.zero_le _, rfl, ?_, ?_, ?_, ?_, ?_, ?_, ?_, ?_, ?_, ?_, ?_, ?_⟩ ?_
    · simp
    · simp only [go_sem, fN, seval, eT, iR, w2]
    · simp only [go_sem, fN, seval, eT, iR, w4]
    · simp only [go_sem, fN, seval, eT, iR, w5]
    · simp only [go_sem, fN, seval, eT, iR, w6]
    · simp only [go_sem, fN, seval, eT, iR, w7]
    · simp only [go_sem, fN, seval, eT, iR]
    · simp only [go_sem, fN, seval, eT, iR]
    · simp only [go_sem, fN, seval, eT, iR]
    · simp only [go_sem, fN, seval, eT, iR, u501]
    · simp only [go_sem, fN, seval, eT, iR, n11, u501]
    · rw [List.append_nil]
      exact hst
    rintro m ⟨env1, S1⟩ ⟨f, o2, hf, hfo, rfl, hoff, x2, x4, x5, x6, x7, x8, x9, x10, s8, s11, hS⟩
    simp only at x2 x4 x5 x6 x7 x8 x9 x10 s8 s11 hS
    have hout : ∀ o, Clean (onceU S0 (out ++ o)) := fun o => clean_upd (clean_upd (clean_upS S0) (by decide) rfl) (by decide) rfl
    have t2 : S1 1002 = some (boxR R) := by rw [hS 1002 (by decide), updE_ne _ (by decide), once_at (by decide) (by decide)]; exact upS_some s2
    have t4 : S1 1004 = some (.box 23 [.full []]) := by rw [hS 1004 (by decide), updE_ne _ (by decide), once_at (by decide) (by decide)]; exact upS_some s4
    have t5 : S1 1005 = some (boxI 0) := by rw [hS 1005 (by decide), updE_ne _ (by decide), once_at (by decide) (by decide)]; exact upS_some s5
    have t7 : S1 1007 = some (boxI 0) := by rw [hS 1007 (by decide), updE_ne _ (by decide), once_at (by decide) (by decide)]; exact upS_some s7
    have t6 : S1 1006 = some (.box 23 [.row 1500 (out ++ o2).length]) := by rw [hS 1006 (by decide), updE_ne _ (by decide)]; rfl
    have t15 : S1 1500 = some (.mrow 25 2 ((out ++ o2).map encT)) := by rw [hS 1500 (by decide), updE_ne _ (by decide)]; rfl
    have t1501 : S1 1501 = some b1 := by rw [hS 1501 (by decide), updE_same]
    have hhi : ∀ i b, 1000 ≤ i → S1 i = some b → b.high = true := fun i b hi h => by
      rw [hS i hi] at h
      exact ((clean_upd (hout o2) (by decide) hb1) i b h).2
    have hbad : offsR (spotOf v) R = none → stepsL R ((t.visits []).map spotOf) = none := fun h => by
      obtain ⟨tl, htl⟩ := hpre
      rw [← htl, List.append_assoc, List.map_append, List.singleton_append, List.map_cons]
      exact stepsL_bad h
    have hroot := root_a hR v.2 hvc (by omega) f hf
    rcases offs_root (spotOf v) (R.drop f) f with ⟨hr, ho2⟩ | ⟨i, y, r, hi1, hi2, hmem, hcase, hy, hrest⟩
    · rw [show (spotOf v).2 = v.2 from rfl] at hr
      rw [hr] at hroot
      unfold rootV at hroot
      repeat' (first | (with_reducible first | refine W ?_ | refine Wz0 ?_) | refine Cg _ (hroot) ?_ | ((with_reducible first | refine Wo (fun K hK => ?_) | refine Wp ?_ | refine Wq ?_ | refine Wr ?_); (try simp only [go_sem, fN, seval, eT, iR, x2, x4, x5, x6, x7, x8, x9, x10, s8, s11, t2, t4, t5, t6, t7, t15, dT, dF, nL]); (repeat with_reducible refine Ai ?_); (try (refine hK _ ?_; clear hK K)); (try with_reducible refine iC ?_)))
      rw [ho2] at hoff
      simp only [Option.map_some, List.append_nil] at hoff
      refine round_fin (onceU S0 (out ++ o2)) (clean_upd (hout o2) (by decide) hb1) (by
        have := hU
        rw [once_at (by decide) (by decide)] at this ⊢
        exact this) (fun i hi => ?_) ⟨out ++ o2, ?_, rfl⟩
      · show updE (updE S1 11 _) 11 _ i = _
        rw [updE_ne _ (by omega), updE_ne _ (by omega)]
        exact hS i hi
      · rw [List.map_append]
        exact stepsL_snoc ho hoff
    · rw [show (spotOf v).2 = v.2 from rfl] at hrest hcase hy
      rw [show (spotOf v).1 = surPut v.1 from rfl] at hrest
      have hyz : y.size ≤ 2000 := by rw [← hy]; exact onTo_size
      have hpz := surPut_size hv y
      rw [List.length_drop] at hi2
      have hge : ¬ (i : Int) < 0 := by omega
      rcases hrest with ⟨hr, _, ho2⟩ | ⟨hr, ho2⟩
      · rw [hr] at hroot
        unfold rootV at hroot
        by_cases hgr : (surPut v.1 y).size ≤ 2000
        · have hgi : ¬ (2000 : Int) < (surPut v.1 y).size := by omega
          rw [if_pos hgr] at ho2
          repeat' (first | (with_reducible first | refine W ?_ | refine Wz0 ?_) | refine Cg _ (hroot) ?_ | ((with_reducible first | refine Wo (fun K hK => ?_) | refine Wp ?_ | refine Wq ?_ | refine Wr ?_); (try simp only [go_sem, fN, seval, eT, iR, x2, x4, x5, x6, x7, x8, x9, x10, s8, s11, t2, t4, t5, t6, t7, t15, hge, fnOf_svW, dT, dF, nL]); (repeat with_reducible refine Ai ?_); (try (refine hK _ ?_; clear hK K)); (try with_reducible refine iC ?_)))
          rw [rens_capsW]
          refine ⟨plain_fnW _, _, _, (put_a v.1 y hsur).toS (outs_W _ _), ?_⟩
          have hl2 : ((out ++ o2).map encT).length = (out ++ o2).length := by simp
          have hat : ((out ++ o2).map encT ++ [[SV.str ⟨#[]⟩, SV.list []]])[out.length + o2.length]? = some [SV.str ⟨#[]⟩, SV.list []] := by
            rw [List.getElem?_append_right (by simp)]
            simp
          repeat' (first | (with_reducible first | refine W ?_ | refine Wz0 ?_) | refine Cg _ (sizeP_a (surPut v.1 y) (by omega)) ?_ | refine Cg _ (copy_a (surPut v.1 y) (by omega)) ?_ | ((with_reducible first | refine Wo (fun K hK => ?_) | refine Wp ?_ | refine Wq ?_ | refine Wr ?_); (try simp only [go_sem, fN, seval, eT, iR, x2, x4, x5, x6, x7, x8, x9, x10, s8, s11, t2, t4, t5, t6, t7, t15, hge, hgi, hl2, hat, dT, dF, nL]); (repeat with_reducible refine Ai ?_); (try (refine hK _ ?_; clear hK K)); (try with_reducible refine iC ?_)))
          have hset : ((out ++ o2).map encT ++ [[SV.str ⟨#[]⟩, SV.list []]]).set (out.length + o2.length) [.str (surPut v.1 y).name, .list ((surPut v.1 y).args.map encT)] = (out ++ (o2 ++ [surPut v.1 y])).map encT := by
            rw [List.set_append_right _ _ (by simp)]
            simp [encT_eq]
          rw [hset]
          refine then_normal ⟨R.length - (i + 1), by omega, i + 1, o2 ++ [surPut v.1 y], by omega, by simp only [List.length_append, List.length_singleton]; omega, rfl, ?_, ?_, ?_, ?_, ?_, ?_, ?_, ?_, ?_, ?_, rfl, drop_keepT (T := updE (onceU S0 (out ++ (o2 ++ [surPut v.1 y]))) 1501 (some b1)) (by decide) (clean_upd (hout _) (by decide) hb1) fun j hj => ?_⟩
          · rw [hoff, ho2, List.drop_drop, show f + (i + 1 - f) = i + 1 by omega, Option.map_map]
            congr 1
            funext l
            simp
          · simp only [go_sem, fN, seval, AS.drop, dropS, AC.clears, AC.clear, AC.highs, AC.high, Bool.not_false, Bool.true_and, Bool.and_self, AV.purge, AV.purges, AC.purge, ABlk.purge, List.contains_cons, List.contains_nil, Nat.reduceBEq, Bool.or_self, Bool.or_false, Bool.false_or, Bool.or_true, eT, iR, x2]
          · simp only [go_sem, fN, seval, AS.drop, dropS, AC.clears, AC.clear, AC.highs, AC.high, Bool.not_false, Bool.true_and, Bool.and_self, AV.purge, AV.purges, AC.purge, ABlk.purge, List.contains_cons, List.contains_nil, Nat.reduceBEq, Bool.or_self, Bool.or_false, Bool.false_or, Bool.or_true, eT, iR, x4]
          · simp only [go_sem, fN, seval, AS.drop, dropS, AC.clears, AC.clear, AC.highs, AC.high, Bool.not_false, Bool.true_and, Bool.and_self, AV.purge, AV.purges, AC.purge, ABlk.purge, List.contains_cons, List.contains_nil, Nat.reduceBEq, Bool.or_self, Bool.or_false, Bool.false_or, Bool.or_true, eT, iR, x5]
          · simp only [go_sem, fN, seval, AS.drop, dropS, AC.clears, AC.clear, AC.highs, AC.high, Bool.not_false, Bool.true_and, Bool.and_self, AV.purge, AV.purges, AC.purge, ABlk.purge, List.contains_cons, List.contains_nil, Nat.reduceBEq, Bool.or_self, Bool.or_false, Bool.false_or, Bool.or_true, eT, iR, x6]
          · simp only [go_sem, fN, seval, AS.drop, dropS, AC.clears, AC.clear, AC.highs, AC.high, Bool.not_false, Bool.true_and, Bool.and_self, AV.purge, AV.purges, AC.purge, ABlk.purge, List.contains_cons, List.contains_nil, Nat.reduceBEq, Bool.or_self, Bool.or_false, Bool.false_or, Bool.or_true, eT, iR, x7]
          · simp only [go_sem, fN, seval, AS.drop, dropS, AC.clears, AC.clear, AC.highs, AC.high, Bool.not_false, Bool.true_and, Bool.and_self, AV.purge, AV.purges, AC.purge, ABlk.purge, List.contains_cons, List.contains_nil, Nat.reduceBEq, Bool.or_self, Bool.or_false, Bool.false_or, Bool.or_true, eT, iR, x8]
          · simp only [go_sem, fN, seval, AS.drop, dropS, AC.clears, AC.clear, AC.highs, AC.high, Bool.not_false, Bool.true_and, Bool.and_self, AV.purge, AV.purges, AC.purge, ABlk.purge, List.contains_cons, List.contains_nil, Nat.reduceBEq, Bool.or_self, Bool.or_false, Bool.false_or, Bool.or_true, eT, iR, x9]
          · simp only [go_sem, fN, seval, AS.drop, dropS, AC.clears, AC.clear, AC.highs, AC.high, Bool.not_false, Bool.true_and, Bool.and_self, AV.purge, AV.purges, AC.purge, ABlk.purge, List.contains_cons, List.contains_nil, Nat.reduceBEq, Bool.or_self, Bool.or_false, Bool.false_or, Bool.or_true, eT, iR, x10]
            congr 3
          · simp only [go_sem, fN, seval, AS.drop, dropS, AC.clears, AC.clear, AC.highs, AC.high, Bool.not_false, Bool.true_and, Bool.and_self, AV.purge, AV.purges, AC.purge, ABlk.purge, List.contains_cons, List.contains_nil, Nat.reduceBEq, Bool.or_self, Bool.or_false, Bool.false_or, Bool.or_true, eT, iR, s8]
          · by_cases h1 : j = 1006
            · subst h1
              show some _ = some _
              congr 4
              simp
              omega
            · by_cases h2 : j = 1500
              · subst h2
                rfl
              · show updE (updE (updE (updE (updE (updE S1 11 _) 11 _) 11 _) 1500 _) 1500 _) 1006 _ j = _
                rw [updE_ne _ h1, updE_ne _ h2, updE_ne _ h2, updE_ne _ (by omega), updE_ne _ (by omega), updE_ne _ (by omega), hS j hj]
                by_cases h3 : j = 1501
                · subst h3
                  rw [updE_same, updE_same]
                · rw [updE_ne _ h3, updE_ne _ h3, once_at h2 h1, once_at h2 h1]
        · have hgi : (2000 : Int) < (surPut v.1 y).size := by omega
          rw [if_neg hgr] at ho2
          repeat' (first | (with_reducible first | refine W ?_ | refine Wz0 ?_) | refine Cg _ (hroot) ?_ | ((with_reducible first | refine Wo (fun K hK => ?_) | refine Wp ?_ | refine Wq ?_ | refine Wr ?_); (try simp only [go_sem, fN, seval, eT, iR, x2, x4, x5, x6, x7, x8, x9, x10, s8, s11, t2, t4, t5, t6, t7, t15, hge, fnOf_svW, dT, dF, nL]); (repeat with_reducible refine Ai ?_); (try (refine hK _ ?_; clear hK K)); (try with_reducible refine iC ?_)))
          rw [rens_capsW]
          refine ⟨plain_fnW _, _, _, (put_a v.1 y hsur).toS (outs_W _ _), ?_⟩
          repeat' (first | (with_reducible first | refine W ?_ | refine Wz0 ?_) | refine Cg _ (sizeP_a (surPut v.1 y) (by omega)) ?_ | ((with_reducible first | refine Wo (fun K hK => ?_) | refine Wp ?_ | refine Wq ?_ | refine Wr ?_); (try simp only [go_sem, fN, seval, eT, iR, x2, x4, x5, x6, x7, x8, x9, x10, s8, s11, t2, t4, t5, t6, t7, t15, hge, hgi, dT, dF, nL]); (repeat with_reducible refine Ai ?_); (try (refine hK _ ?_; clear hK K)); (try with_reducible refine iC ?_)))
          rw [ho2, Option.map_none] at hoff
          rw [u501]
          refine round_ret ?_ (by decide) (by simp only [go_sem, fN, seval, eT, iR, t1501]) ⟨rfl, hbad hoff, ?_, ?_⟩
          · repeat (first | exact hhi | refine highs_low ?_ (by decide) | refine highs_set ?_ rfl)
          · rw [low_at (by decide) (by decide)]
            simp only [go_sem, fN, seval, eT, iR]
          · rw [low_at (by decide) (by decide)]
            simp only [go_sem, fN, seval, eT, iR]
      · rw [hr] at hroot
        unfold rootV at hroot
        all_goals
          repeat' (first | (with_reducible first | refine W ?_ | refine Wz0 ?_) | refine Cg _ (hroot) ?_ | ((with_reducible first | refine Wo (fun K hK => ?_) | refine Wp ?_ | refine Wq ?_ | refine Wr ?_); (try simp only [go_sem, fN, seval, eT, iR, x2, x4, x5, x6, x7, x8, x9, x10, s8, s11, t2, t4, t5, t6, t7, t15, hge, dT, dF, nL]); (repeat with_reducible refine Ai ?_); (try (refine hK _ ?_; clear hK K)); (try with_reducible refine iC ?_)))
          rw [ho2, Option.map_none] at hoff
          rw [u501]
          refine round_ret ?_ (by decide) (by simp only [go_sem, fN, seval, eT, iR, t1501]) ⟨rfl, hbad hoff, ?_, ?_⟩
          · repeat (first | exact hhi | refine highs_low ?_ (by decide) | refine highs_set ?_ rfl)
          · rw [low_at (by decide) (by decide)]
            simp only [go_sem, fN, seval, eT, iR]
          · rw [low_at (by decide) (by decide)]
            simp only [go_sem, fN, seval, eT, iR]
  · rintro U ⟨out, ho, rfl⟩
    rw [ho]
    have hdn : dnS (onceU S0 out) = updE (updE S0 500 (some (.mrow 25 2 (out.map encT)))) 6 (some (.box 23 [.row 500 out.length])) := by
      show dnS (updE (updE (upS S0) (up1 500) _) (up1 6) _) = _
      rw [dnS_upd, dnS_upd, dn_upS]
      rfl
    rw [hdn]
    refine Wi ?_
    refine Wb ?_
    have hl : (out.map encT).length = out.length := by simp
    refine IWP.ghost (Ghost.share (id := 500) (e := 25) (wd := 2) (xs := out.map encT) (by simp only [go_sem, fN, seval, eT, iR])) ?_
    unfold stepsV
    repeat' (first | (with_reducible first | refine W ?_ | refine Wz0 ?_) | ((with_reducible first | refine Wo (fun K hK => ?_) | refine Wp ?_ | refine Wq ?_ | refine Wr ?_); (try simp only [go_sem, fN, seval, eT, iR, e2, e4, e5, e6, e7, s4, s5, hl, dT, dF, nL]); (repeat with_reducible refine Ai ?_); (try (refine hK _ ?_; clear hK K)); (try with_reducible refine iC ?_)))
    simp only [go_sem, fN, seval, FinQ, AS.result, resAll, resOne, tupV, e4, e5, s4, s5, hl]
  · rintro ex U ⟨rfl, ho, u4, u5⟩
    rw [ho]
    have d4 : dnS U 4 = some (.box 23 [.full []]) := dnS_some (i := 1004) (by decide) u4
    have d5 : dnS U 5 = some (boxI 8) := dnS_some (i := 1005) (by decide) u5
    refine Wl ?_
    refine Wh ?_
    unfold stepsV
    simp only [go_sem, fN, seval, FinQ, AS.result, resAll, resOne, tupV, e4, e5, d4, d5]
    rfl

def ir_R_AtOf : IR :=
  (.seq (.ops [.i 2 (.box 25 (.t 0)), .i 4 (.alloc 25 [.st (.str (ByteArray.mk (#[]))), .full []]), .i 5 (.mov (.c (.one (.st (.bool false)))))]) (.seq (.seq (.ops [.m 6 1, .i 7 (.len false (.t 6)), .i 8 (.bin .eql (.t 7) (.n 0))]) (.cond (.t 8) (.seq (.ops [.L 9 2 2, .s 2 4 9, .i 5 (.mov (.c (.one (.st (.bool true)))))]) .ret) .skip)) (.seq (.seq (.ops [.m 10 1, .i 11 (.indexAddr 1 (.t 10) (.n 0)), .l 12 11, .i 13 (.bin .lss (.t 12) (.n 0)), .m 14 13, .mk (some 15) (some (14, false)) (.mov (.t 1)) .no, .mk (some 16) (some (14, false)) (.indexAddr 1 (.t 15) (.n 0)) .no, .mk (some 17) (some (14, false)) (.load false 1 (.t 16)) .no, .mk (some 18) (some (14, false)) (.fieldAddr 1 (.t 2)) .no, .mk (some 19) (some (14, false)) (.load false 1 (.t 18)) .no, .mk (some 20) (some (14, false)) (.len false (.t 19)) .no, .mk (some 21) (some (14, false)) (.bin .geq (.t 17) (.t 20)) .no, .i 22 (.pick (.t 14) (.c (.one (.st (.bool true)))) (.t 21))]) (.cond (.t 22) (.seq (.ops [.i 23 (.build [.st (.str (ByteArray.mk (#[]))), .full []] []), .s 2 4 23, .i 5 (.mov (.c (.one (.st (.bool false)))))]) .ret) .skip)) (.seq (.ops [.f 24 1 2, .l 25 24, .m 26 1, .i 27 (.indexAddr 1 (.t 26) (.n 0)), .l 28 27, .i 29 (.indexAddr 2 (.t 25) (.t 28)), .L 30 2 29, .m 31 1, .i 32 (.sliceL 1 (.t 31) (some (.n 1)) none), .i 33 (.call 20 [.t 30, .t 32]), .i 34 (.extract 0 (.t 33)), .i 35 (.extract 1 (.t 33)), .s 2 4 34, .m 5 35]) .ret))))
theorem ok_R_AtOf : OkF Try.prog 20 36 [] ir_R_AtOf [.cell 4 true 2, .t 5] := .of Try.func20 rfl rfl (by kernel_rfl) rfl
def ir_R_PutOf : IR :=
  (.seq (.ops [.i 3 (.box 25 (.t 0)), .i 5 (.box 25 (.t 2)), .i 6 (.alloc 25 [.st (.str (ByteArray.mk (#[]))), .full []])]) (.seq (.seq (.ops [.m 9 1, .i 10 (.len false (.t 9)), .i 11 (.bin .eql (.t 10) (.n 0))]) (.cond (.t 11) (.seq (.ops [.L 12 2 5, .s 2 6 12]) .ret) .skip)) (.seq (.ops [.f 13 0 3, .l 14 13, .i 15 (.build [.st (.str (ByteArray.mk (#[]))), .full []] [(0, 1, .t 14)]), .i 7 (.alloc 25 [.st (.str (ByteArray.mk (#[]))), .full []]), .s 2 7 15]) (.seq (.seq (.ops [.i 8 (.mov (.n 0))]) (.block 0 (.loop (.seq (.seq (.ops [.m 16 8, .f 17 1 3, .l 18 17, .i 19 (.len false (.t 18)), .i 20 (.bin .lss (.t 16) (.t 19))]) (.cond (.t 20) .skip (.exit 0))) (.seq (.block 1 (.seq (.ops [.m 23 8, .m 24 1, .i 25 (.indexAddr 1 (.t 24) (.n 0)), .l 26 25, .i 27 (.bin .eql (.t 23) (.t 26))]) (.cond (.t 27) (.ops [.f 28 1 7, .l 29 28, .f 30 1 3, .l 31 30, .m 32 8, .i 33 (.indexAddr 2 (.t 31) (.t 32)), .L 34 2 33, .m 35 1, .i 36 (.sliceL 1 (.t 35) (some (.n 1)) none), .L 37 2 5, .i 38 (.call 22 [.t 34, .t 36, .t 37]), .i 39 (.buildSlice false 25 2 [.t 38]), .i 40 (.append false 25 2 40 (.t 29) (.t 39)), .f 41 1 7, .s 1 41 40]) (.ops [.f 42 1 7, .l 43 42, .f 44 1 3, .l 45 44, .m 46 8, .i 47 (.indexAddr 2 (.t 45) (.t 46)), .L 48 2 47, .i 49 (.buildSlice false 25 2 [.t 48]), .i 50 (.append false 25 2 40 (.t 43) (.t 49)), .f 51 1 7, .s 1 51 50])))) (.ops [.m 21 8, .i 22 (.bin .add (.t 21) (.n 1)), .m 8 22])))))) (.seq (.ops [.L 52 2 7, .s 2 6 52]) .ret)))))
theorem ok_R_PutOf : OkF Try.prog 22 53 [] ir_R_PutOf [.cell 6 true 2] := .of Try.func22 rfl rfl (by kernel_rfl) rfl
def ir_R_PlacesOf : IR :=
  (.seq (.ops [.i 1 (.box 25 (.t 0)), .i 2 (.mov (.c (.one (.full []))))]) (.seq (.ops [.i 7 (.buildSlice false 48 1 [.c (.one (.full []))]), .m 3 7]) (.seq (.seq (.ops [.i 4 (.mov (.n 0))]) (.block 0 (.loop (.seq (.seq (.ops [.m 8 4, .f 9 1 1, .l 10 9, .i 11 (.len false (.t 10)), .i 12 (.bin .lss (.t 8) (.t 11))]) (.cond (.t 12) .skip (.exit 0))) (.seq (.block 1 (.seq (.ops [.f 15 1 1, .l 16 15, .m 17 4, .i 18 (.indexAddr 2 (.t 16) (.t 17)), .L 19 2 18, .i 20 (.call 19 [.t 19]), .m 5 20]) (.seq (.ops [.i 6 (.mov (.n 0))]) (.block 2 (.loop (.seq (.seq (.ops [.m 21 6, .m 22 5, .i 23 (.len false (.t 22)), .i 24 (.bin .lss (.t 21) (.t 23))]) (.cond (.t 24) .skip (.exit 2))) (.seq (.block 3 (.ops [.m 27 3, .m 28 4, .i 29 (.buildFlat [.t 28]), .m 30 5, .m 31 6, .i 32 (.indexAddr 1 (.t 30) (.t 31)), .l 33 32, .i 34 (.append false 3 1 8 (.t 29) (.t 33)), .i 35 (.buildSlice false 48 1 [.t 34]), .i 36 (.append false 48 1 24 (.t 27) (.t 35)), .m 3 36])) (.ops [.m 25 6, .i 26 (.bin .add (.t 25) (.n 1)), .m 6 26])))))))) (.ops [.m 13 4, .i 14 (.bin .add (.t 13) (.n 1)), .m 4 14])))))) (.seq (.ops [.m 37 3, .m 2 37]) .ret))))
theorem ok_R_PlacesOf : OkF Try.prog 19 38 [] ir_R_PlacesOf [.t 2] := .of Try.func19 rfl rfl (by kernel_rfl) rfl

theorem atOf_a (p : List Int) : ∀ t : Tm, ACalls Try.prog 20 [aTm t, aInts p] (.tup [aTm ((t.atP p).getD Tm.nil), aBool (t.atP p).isSome]) := by
  induction p with
  | nil =>
    intro t
    rw [Tm.atP_nil]
    refine ok_R_AtOf.ac fun C hC => ?_
    unfold ir_R_AtOf
    repeat' (first | (with_reducible first | refine W ?_ | refine Wz0 ?_) | ((with_reducible first | refine Wo (fun K hK => ?_) | refine Wp ?_ | refine Wq ?_ | refine Wr ?_); (try simp only [go_sem, fN, seval, eT, iR, dT, dF, nL]); (repeat with_reducible refine Ai ?_); (try (refine hK _ ?_; clear hK K)); (try with_reducible refine iC ?_)))
    simp only [go_sem, fN, seval, FinQ, AS.result, resAll, resOne, tupV]
  | cons i p ih =>
    intro t
    rw [Tm.atP_cons]
    have htk : List.take p.length (List.map encI p) = List.map encI p := by rw [List.take_of_length_le (by simp)]
    have hl1 : ¬ ((p.length + 1 : Nat) : Int) = 0 := by omega
    refine ok_R_AtOf.ac fun C hC => ?_
    unfold ir_R_AtOf
    by_cases h0 : i < 0
    · rw [if_pos h0]
      repeat' (first | (with_reducible first | refine W ?_ | refine Wz0 ?_) | ((with_reducible first | refine Wo (fun K hK => ?_) | refine Wp ?_ | refine Wq ?_ | refine Wr ?_); (try simp only [go_sem, fN, seval, eT, iR, h0, hl1, dT, dF, nL]); (repeat with_reducible refine Ai ?_); (try (refine hK _ ?_; clear hK K)); (try with_reducible refine iC ?_)))
      simp only [go_sem, fN, seval, FinQ, AS.result, resAll, resOne, tupV]
      rfl
    · rw [if_neg h0]
      obtain ⟨k, rfl⟩ : ∃ k : Nat, i = k := ⟨i.toNat, by omega⟩
      rw [Int.toNat_natCast]
      by_cases h1 : (t.args.length : Int) ≤ k
      · rw [List.getElem?_eq_none (by omega)]
        repeat' (first | (with_reducible first | refine W ?_ | refine Wz0 ?_) | ((with_reducible first | refine Wo (fun K hK => ?_) | refine Wp ?_ | refine Wq ?_ | refine Wr ?_); (try simp only [go_sem, fN, seval, eT, iR, h0, h1, hl1, dT, dF, nL]); (repeat with_reducible refine Ai ?_); (try (refine hK _ ?_; clear hK K)); (try with_reducible refine iC ?_)))
        simp only [go_sem, fN, seval, FinQ, AS.result, resAll, resOne, tupV]
        rfl
      · obtain ⟨a, ha⟩ := get_lt (show k < t.args.length by omega)
        rw [ha]
        repeat' (first | (with_reducible first | refine W ?_ | refine Wz0 ?_) | refine Cg _ (ih a) ?_ | ((with_reducible first | refine Wo (fun K hK => ?_) | refine Wp ?_ | refine Wq ?_ | refine Wr ?_); (try simp only [go_sem, fN, seval, eT, iR, h0, h1, ha, hl1, htk, dT, dF, nL]); (repeat with_reducible refine Ai ?_); (try (refine hK _ ?_; clear hK K)); (try with_reducible refine iC ?_)))
        simp only [go_sem, fN, seval, FinQ, AS.result, resAll, resOne, tupV]
theorem putOf_a (p : List Int) : ∀ t : Tm, t.size ≤ 1000000 → ∀ x : Tm, (t.atP p).isSome = true → ACalls Try.prog 22 [aTm t, aInts p, aTm x] (aTm (t.putP p x)) := by
  induction p with
  | nil =>
    intro t hz x hat
    rw [Tm.putP_nil]
    refine ok_R_PutOf.ac fun C hC => ?_
    unfold ir_R_PutOf
    repeat' (first | (with_reducible first | refine W ?_ | refine Wz0 ?_) | ((with_reducible first | refine Wo (fun K hK => ?_) | refine Wp ?_ | refine Wq ?_ | refine Wr ?_); (try simp only [go_sem, fN, seval, eT, iR, dT, dF, nL]); (repeat with_reducible refine Ai ?_); (try (refine hK _ ?_; clear hK K)); (try with_reducible refine iC ?_)))
    simp only [go_sem, fN, seval, FinQ, AS.result, resAll, resOne, tupV]
  | cons i p ih =>
    intro t hz x hat
    have hs := Tm.size_eq t
    have hkn := Tm.length_le t.args
    rw [Tm.atP_cons] at hat
    have h0 : ¬ i < 0 := fun h => by rw [if_pos h] at hat; cases hat
    rw [if_neg h0] at hat
    obtain ⟨j, rfl⟩ : ∃ k : Nat, i = k := ⟨i.toNat, by omega⟩
    rw [Int.toNat_natCast] at hat
    obtain ⟨b, hb⟩ : ∃ b, t.args[j]? = some b := by
      cases h : t.args[j]? with
      | none => rw [h] at hat; cases hat
      | some b => exact ⟨b, rfl⟩
    rw [hb] at hat
    dsimp only at hat
    have hjl := lt_of_get hb
    rw [Tm.putP_at hb]
    have htk : List.take p.length (List.map encI p) = List.map encI p := by rw [List.take_of_length_le (by simp)]
    have hl1 : ¬ ((p.length + 1 : Nat) : Int) = 0 := by omega
    refine ok_R_PutOf.ac fun C hC => ?_
    unfold ir_R_PutOf
    repeat' (first | (with_reducible first | refine W ?_ | refine Wz0 ?_) | ((with_reducible first | refine Wo (fun K hK => ?_) | refine Wp ?_ | refine Wq ?_ | refine Wr ?_); (try simp only [go_sem, fN, seval, eT, iR, hl1, dT, dF, nL]); (repeat with_reducible refine Ai ?_); (try (refine hK _ ?_; clear hK K)); (try with_reducible refine iC ?_)))
    refine IWP.ghost (Ghost.ownC 7 1 60 25 2 (xs := ([] : List Tm).map encT) rfl rfl rfl lens_encT) ?_
    refine IWP.loop (fun m s => ∃ k, k ≤ t.args.length ∧ m = t.args.length - k ∧ s.env 1 = aInts ((j : Int) :: p) ∧ s.env 3 = .one (.ptr 3 1 0 0) ∧ s.env 5 = .one (.ptr 5 1 0 0) ∧ s.env 6 = .one (.ptr 6 1 0 0) ∧ s.env 7 = .one (.ptr 7 1 0 0) ∧ s.S 3 = some (.box 25 [.st (.str t.name), .st (.list (t.args.map encT))]) ∧ s.S 5 = some (.box 25 [.st (.str x.name), .st (.list (x.args.map encT))]) ∧ s.S 6 = some (.box 25 [.st (.str ⟨#[]⟩), .full []]) ∧ s.S 7 = some (.box 25 [.st (.str t.name), .row 60 k]) ∧ s.S 60 = some (.arow 25 2 (((t.args.set j (b.putP p x)).take k).map encT)) ∧ s.env 8 = aInt k)
      t.args.length ⟨0, Nat.zero_le _, rfl, rfl, rfl, rfl, rfl, rfl, rfl, rfl, rfl, rfl, rfl, rfl⟩ ?_
    rintro m ⟨env, S⟩ ⟨k, hk, rfl, e1, e3, e5, e6, e7, s3, s5, s6, s7, s60, e8⟩
    simp only at e1 e3 e5 e6 e7 s3 s5 s6 s7 s60 e8
    have hlk : ((t.args.set j (b.putP p x)).take k).length = k := by rw [List.length_take, List.length_set]; omega
    by_cases hlt : (k : Int) < t.args.length
    · obtain ⟨a, ha⟩ := get_lt (show k < t.args.length by omega)
      by_cases hkj : (k : Int) = j
      · have hkj' : k = j := by omega
        subst hkj'
        have hset : (t.args.set k (b.putP p x))[k]? = some (b.putP p x) := by rw [List.getElem?_set_self hjl]
        repeat' (first | (with_reducible first | refine W ?_ | refine Wz0 ?_) | refine Cg _ (ih b (by have := Tm.size_mem (mem_of_get hb); omega) x hat) ?_ | ((with_reducible first | refine Wo (fun K hK => ?_) | refine Wp ?_ | refine Wq ?_ | refine Wr ?_); (try simp only [go_sem, fN, seval, eT, iR, e1, e3, e5, e6, e7, s3, s5, s6, s7, s60, e8, hlt, hb, htk, hlk, dT, dF, nL]); (repeat with_reducible refine Ai ?_); (try (refine hK _ ?_; clear hK K)); (try with_reducible refine iC ?_)))
        refine then_normal ⟨t.args.length - (k + 1), by omega, k + 1, by omega, rfl, ?_⟩
        simp only [go_sem, fN, seval, eT, iR, e1, e3, e5, e6, e7, s3, s5, s6, s7, s60, e8]
        exact ⟨by rw [take_snoc hset]; simp [encT_eq], by congr 3⟩
      · have hkj' : j ≠ k := by omega
        have hset : (t.args.set j (b.putP p x))[k]? = some a := by rw [List.getElem?_set_ne hkj', ha]
        repeat' (first | (with_reducible first | refine W ?_ | refine Wz0 ?_) | ((with_reducible first | refine Wo (fun K hK => ?_) | refine Wp ?_ | refine Wq ?_ | refine Wr ?_); (try simp only [go_sem, fN, seval, eT, iR, e1, e3, e5, e6, e7, s3, s5, s6, s7, s60, e8, hlt, hkj, ha, hlk, dT, dF, nL]); (repeat with_reducible refine Ai ?_); (try (refine hK _ ?_; clear hK K)); (try with_reducible refine iC ?_)))
        refine then_normal ⟨t.args.length - (k + 1), by omega, k + 1, by omega, rfl, ?_⟩
        simp only [go_sem, fN, seval, eT, iR, e1, e3, e5, e6, e7, s3, s5, s6, s7, s60, e8]
        exact ⟨by rw [take_snoc hset]; simp [encT_eq], by congr 3⟩
    · have hall : (t.args.set j (b.putP p x)).take k = t.args.set j (b.putP p x) := List.take_of_length_le (by rw [List.length_set]; omega)
      rw [hall] at hlk s60
      repeat' (first | (with_reducible first | refine W ?_ | refine Wz0 ?_) | ((with_reducible first | refine Wo (fun K hK => ?_) | refine Wp ?_ | refine Wq ?_ | refine Wr ?_); (try simp only [go_sem, fN, seval, eT, iR, e1, e3, e5, e6, e7, s3, s5, s6, s7, s60, e8, hlt, hlk, dT, dF, nL]); (repeat with_reducible refine Ai ?_); (try (refine hK _ ?_; clear hK K)); (try with_reducible refine iC ?_)))
      simp only [go_sem, fN, seval, FinQ, AS.result, resAll, resOne, tupV, e6, s60, hlk]
      rfl
theorem placesN_a (t : Tm) (hz : t.size ≤ 1000000) : ACalls Try.prog 19 [aTm t] (aIss t.places) := by
  induction h : SizeOf.sizeOf t using Nat.strongRecOn generalizing t with
  | _ N ih =>
  subst h
  have hs := Tm.size_eq t
  have hkn := Tm.length_le t.args
  refine ok_R_PlacesOf.ac fun C hC => ?_
  unfold ir_R_PlacesOf
  repeat' (first | (with_reducible first | refine W ?_ | refine Wz0 ?_) | ((with_reducible first | refine Wo (fun K hK => ?_) | refine Wp ?_ | refine Wq ?_ | refine Wr ?_); (try simp only [go_sem, fN, seval, eT, iR, dT, dF, nL]); (repeat with_reducible refine Ai ?_); (try (refine hK _ ?_; clear hK K)); (try with_reducible refine iC ?_)))
  refine IWP.ghost (Ghost.own 3 60 48 1 (xs := ([[]] : List (List Int)).map encIs) (by simp only [go_sem, fN, seval, eT, iR]; rfl) rfl (by simp) (by omega)) ?_
  refine IWP.loop (fun m s => ∃ k, k ≤ t.args.length ∧ m = t.args.length - k ∧ s.env 1 = .one (.ptr 1 1 0 0) ∧ s.S 1 = some (.box 25 [.st (.str t.name), .st (.list (t.args.map encT))]) ∧ s.env 3 = .one (.row 60 (t.placesTo k).length) ∧ s.S 60 = some (.arow 48 1 ((t.placesTo k).map encIs)) ∧ s.env 4 = aInt k ∧ s.S 34 = none)
    t.args.length ⟨0, Nat.zero_le _, rfl, rfl, rfl, rfl, rfl, rfl, rfl⟩ ?_
  rintro m ⟨env, S⟩ ⟨k, hk, rfl, e1, s1, e3, s60, e4, s34⟩
  simp only at e1 s1 e3 s60 e4 s34
  by_cases hlt : (k : Int) < t.args.length
  · obtain ⟨a, ha⟩ := get_lt (show k < t.args.length by omega)
    have hsz := Tm.size_mem (mem_of_get ha)
    have hpl := Tm.places_length a
    have hto := Tm.placesTo_length t k
    have hst := Tm.sizes_take ha
    have hst2 := Tm.sizes_take_le t.args (k + 1)
    repeat' (first | (with_reducible first | refine W ?_ | refine Wz0 ?_) | refine Cg _ (ih _ (Tm.lt_of_arg (mem_of_get ha)) a (by omega) rfl) ?_ | ((with_reducible first | refine Wo (fun K hK => ?_) | refine Wp ?_ | refine Wq ?_ | refine Wr ?_); (try simp only [go_sem, fN, seval, eT, iR, e1, s1, e3, s60, e4, hlt, ha, dT, dF, nL]); (repeat with_reducible refine Ai ?_); (try (refine hK _ ?_; clear hK K)); (try with_reducible refine iC ?_)))
    refine IWP.loopD [34] (fun m s => ∃ i, i ≤ a.places.length ∧ m = a.places.length - i ∧ s.env 1 = .one (.ptr 1 1 0 0) ∧ s.S 1 = some (.box 25 [.st (.str t.name), .st (.list (t.args.map encT))]) ∧ s.env 3 = .one (.row 60 (t.placesTo k ++ (a.places.take i).map fun p => (k : Int) :: p).length) ∧ s.S 60 = some (.arow 48 1 ((t.placesTo k ++ (a.places.take i).map fun p => (k : Int) :: p).map encIs)) ∧ s.env 4 = aInt k ∧ s.env 5 = aIss a.places ∧ s.env 6 = aInt i ∧ s.S 34 = none)
      a.places.length ⟨0, Nat.zero_le _, rfl, ?_⟩ ?_
    · simp only [go_sem, fN, seval, eT, iR, e1, s1, e3, s60, e4, s34]
    rintro m ⟨env, S⟩ ⟨i, hi, rfl, e1, s1, e3, s60, e4, e5, e6, s34⟩
    simp only at e1 s1 e3 s60 e4 e5 e6 s34
    have hlen : (t.placesTo k ++ (a.places.take i).map fun p => (k : Int) :: p).length ≤ 1000000 := by
      rw [List.length_append, List.length_map, List.length_take]
      omega
    by_cases hli : (i : Int) < a.places.length
    · obtain ⟨p, hp⟩ := get_lt (show i < a.places.length by omega)
      have hd := Tm.places_deep a p (mem_of_get hp)
      repeat' (first | (with_reducible first | refine W ?_ | refine Wz0 ?_) | ((with_reducible first | refine Wo (fun K hK => ?_) | refine Wp ?_ | refine Wq ?_ | refine Wr ?_); (try simp only [go_sem, fN, seval, eT, iR, e1, s1, e3, s60, e4, e5, e6, s34, hli, hp, dT, dF, nL]); (repeat with_reducible refine Ai ?_); (try (refine hK _ ?_; clear hK K)); (try with_reducible refine iC ?_)))
      refine then_normal ⟨a.places.length - (i + 1), by omega, i + 1, by omega, rfl, ?_⟩
      simp only [go_sem, fN, seval, AS.drop, dropS, AC.clears, AC.clear, AC.highs, AC.high, Bool.not_false, Bool.true_and, Bool.and_self, AV.purge, AV.purges, AC.purge, ABlk.purge, List.contains_cons, List.contains_nil, Nat.reduceBEq, Bool.or_self, Bool.or_false, Bool.false_or, Bool.or_true, eT, iR, e1, s1, e3, s60, e4, e5, e6, s34]
      rw [take_snoc hp]
      refine ⟨?_, ?_, rfl⟩
      · simp
        omega
      · simp
    · repeat' (first | (with_reducible first | refine W ?_ | refine Wz0 ?_) | ((with_reducible first | refine Wo (fun K hK => ?_) | refine Wp ?_ | refine Wq ?_ | refine Wr ?_); (try simp only [go_sem, fN, seval, eT, iR, e1, s1, e3, s60, e4, e5, e6, s34, hli, dT, dF, nL]); (repeat with_reducible refine Ai ?_); (try (refine hK _ ?_; clear hK K)); (try with_reducible refine iC ?_)))
      refine then_normal ⟨t.args.length - (k + 1), by omega, k + 1, by omega, rfl, ?_⟩
      have e9 : (t.placesTo k ++ (a.places.take i).map fun p => (k : Int) :: p) = t.placesTo (k + 1) := by
        rw [List.take_of_length_le (by omega), Tm.placesTo_succ ha]
      rw [e9] at e3 s60
      exact ⟨e1, s1, e3, s60, rfl, s34⟩
  · repeat' (first | (with_reducible first | refine W ?_ | refine Wz0 ?_) | ((with_reducible first | refine Wo (fun K hK => ?_) | refine Wp ?_ | refine Wq ?_ | refine Wr ?_); (try simp only [go_sem, fN, seval, eT, iR, e1, s1, e3, s60, e4, hlt, dT, dF, nL]); (repeat with_reducible refine Ai ?_); (try (refine hK _ ?_; clear hK K)); (try with_reducible refine iC ?_)))
    simp only [go_sem, fN, seval, FinQ, AS.result, resAll, resOne, tupV, e3, s60]
    rw [Tm.placesTo_all (by omega)]

abbrev arowB (l : List Bd) : ABlk := .arow 77 3 (l.map encB)
def mtV (i : Nat) (p t : Tm) (l : List Bd) : AV := if (isVar p.name || (p.mt t l).2) = true then .one (.row i (p.mt t l).1.length) else .one (.full [])
theorem mtV_yes {i : Nat} {p t : Tm} {l : List Bd} (h : (p.mt t l).2 = true) : mtV i p t l = .one (.row i (p.mt t l).1.length) := by unfold mtV; rw [h, Bool.or_true, if_pos rfl]
theorem mtV_var {i : Nat} {p t : Tm} {l : List Bd} (h : isVar p.name = true) : mtV i p t l = .one (.row i (p.mt t l).1.length) := by unfold mtV; rw [h, Bool.true_or, if_pos rfl]
theorem mtV_no {i : Nat} {p t : Tm} {l : List Bd} (hv : isVar p.name = false) (h : (p.mt t l).2 = false) : mtV i p t l = .one (.full []) := by unfold mtV; rw [h, hv]; rfl
theorem matched_core (p : Tm) (hz : p.size ≤ 1000000)
    (ih : ∀ a ∈ p.args, ∀ (t : Tm) (i : Nat) (l : List Bd) (S : AStore), 1000 ≤ i → l.length + a.size ≤ 2000000 → S i = some (arowB l) →
      ACallsS Try.prog 43 [aTm a, aTm t, .one (.row i l.length)] S (.tup [mtV i a t l, aBool (a.mt t l).2]) (updE S i (some (arowB (a.mt t l).1))))
    (C : Ctx) (hC : C.n = 75) (t : Tm) (i : Nat) (hi : 100 < i) (l : List Bd) (hl : l.length + p.size ≤ 2000000) (S : AStore) (hS : ∀ j, j < 100 → S j = none) (si : S i = some (arowB l)) (env : Nat → AV) (e0 : env 0 = aTm p) (e1 : env 1 = aTm t) (e2 : env 2 = .one (.row i l.length))
    (Q : AX → AS → Prop) (hQ : ∀ env' S', env' 6 = mtV i p t l → env' 7 = aBool (p.mt t l).2 → S' i = some (arowB (p.mt t l).1) → (∀ j, 100 ≤ j → j ≠ i → S' j = S j) → Q .ret ⟨env', S'⟩) :
    IWP Try.prog C [68] ir_R_matched Q ⟨env, S⟩ := by
  have hs := Tm.size_eq p
  have hln := Tm.length_le p.args
  have n3 : S 3 = none := hS 3 (by omega)
  have n4 : S 4 = none := hS 4 (by omega)
  have n8 : S 8 = none := hS 8 (by omega)
  have d3 : ¬ 3 = i := by omega
  have d4 : ¬ 4 = i := by omega
  have d8 : ¬ 8 = i := by omega
  have f3 : ¬ i = 3 := by omega
  have f4 : ¬ i = 4 := by omega
  have f8 : ¬ i = 8 := by omega
  unfold ir_R_matched
  repeat' (first | (with_reducible first | refine W ?_ | refine Wz0 ?_) | ((with_reducible first | refine Wo (fun K hK => ?_) | refine Wp ?_ | refine Wq ?_ | refine Wr ?_); (try simp only [go_sem, fN, seval, eT, iR, n3, n4, e0, e1, e2, dT, dF, nL]); (repeat with_reducible refine Ai ?_); (try (refine hK _ ?_; clear hK K)); (try with_reducible refine iC ?_)))
  refine ⟨_, isVar_a _, ?_⟩
  cases hv : isVar p.name with
  | true =>
    repeat' (first | (with_reducible first | refine W ?_ | refine Wz0 ?_) | ((with_reducible first | refine Wo (fun K hK => ?_) | refine Wp ?_ | refine Wq ?_ | refine Wr ?_); (try simp only [go_sem, fN, seval, eT, iR, hv, n3, n4, n8, d3, d4, d8, f3, f4, f8, e0, e1, e2, si, dT, dF, nL]); (repeat with_reducible refine Ai ?_); (try (refine hK _ ?_; clear hK K)); (try with_reducible refine iC ?_)))
    refine ⟨_, for_a l p.name, ?_⟩
    cases hlk : lookup l p.name with
    | some x =>
      repeat' (first | (with_reducible first | refine W ?_ | refine Wz0 ?_) | refine Cg _ (sameR_a _ _) ?_ | ((with_reducible first | refine Wo (fun K hK => ?_) | refine Wp ?_ | refine Wq ?_ | refine Wr ?_); (try simp only [go_sem, fN, seval, eT, iR, hlk, n3, n4, n8, d3, d4, d8, f3, f4, f8, e0, e1, e2, si, Option.getD_some, Option.isSome_some, dT, dF, nL]); (repeat with_reducible refine Ai ?_); (try (refine hK _ ?_; clear hK K)); (try with_reducible refine iC ?_)))
      have hm := Tm.mt_old (t := t) hv hlk
      refine hQ _ _ ?_ ?_ ?_ fun j hj hne => ?_
      · rw [mtV_var hv, hm]
        simp only [go_sem, fN, seval, eT, iR]
      · rw [hm]
        simp only [go_sem, fN, seval, eT, iR]
      · rw [hm]
        simp only [go_sem, fN, seval, eT, iR, f3, f4, f8, si]
      · have j3 : ¬ j = 3 := by omega
        have j4 : ¬ j = 4 := by omega
        have j8 : ¬ j = 8 := by omega
        simp only [go_sem, fN, seval, eT, iR, j3, j4, j8]
    | none =>
      repeat' (first | (with_reducible first | refine W ?_ | refine Wz0 ?_) | ((with_reducible first | refine Wo (fun K hK => ?_) | refine Wp ?_ | refine Wq ?_ | refine Wr ?_); (try simp only [go_sem, fN, seval, eT, iR, hlk, n3, n4, n8, d3, d4, d8, f3, f4, f8, e0, e1, e2, si, Option.getD_none, Option.isSome_none, encB, dT, dF, nL]); (repeat with_reducible refine Ai ?_); (try (refine hK _ ?_; clear hK K)); (try with_reducible refine iC ?_)))
      have hm := Tm.mt_new (t := t) hv hlk
      refine hQ _ _ ?_ ?_ ?_ fun j hj hne => ?_
      · rw [mtV_var hv, hm, List.length_append]
        simp only [go_sem, fN, seval, eT, iR]
      · rw [hm]
        simp only [go_sem, fN, seval, eT, iR]
      · rw [hm]
        simp only [go_sem, fN, seval, eT, iR, f3, f4, f8, si]
        rw [arowB, List.map_append]
        rfl
      · have j3 : ¬ j = 3 := by omega
        have j4 : ¬ j = 4 := by omega
        have j8 : ¬ j = 8 := by omega
        simp only [go_sem, fN, seval, eT, iR, j3, j4, j8, hne]
  | false =>
    by_cases hn : p.name = t.name
    case neg =>
      have hc : ¬ (p.name = t.name ∧ p.args.length = t.args.length) := fun h => hn h.1
      have hm := Tm.mt_clash (l := l) hv hc
      repeat' (first | (with_reducible first | refine W ?_ | refine Wz0 ?_) | ((with_reducible first | refine Wo (fun K hK => ?_) | refine Wp ?_ | refine Wq ?_ | refine Wr ?_); (try simp only [go_sem, fN, seval, eT, iR, hv, n3, n4, n8, d3, d4, d8, f3, f4, f8, e0, e1, e2, si, hn, dT, dF, nL]); (repeat with_reducible refine Ai ?_); (try (refine hK _ ?_; clear hK K)); (try with_reducible refine iC ?_)))
      refine hQ _ _ ?_ ?_ ?_ fun j hj hne => ?_
      · rw [mtV_no hv (by rw [hm])]
        simp only [go_sem, fN, seval, eT, iR]
      · rw [hm]
        simp only [go_sem, fN, seval, eT, iR]
      · rw [hm]
        simp only [go_sem, fN, seval, eT, iR, f3, f4, si]
      · have j3 : ¬ j = 3 := by omega
        have j4 : ¬ j = 4 := by omega
        simp only [go_sem, fN, seval, eT, iR, j3, j4]
    by_cases hlen : p.args.length = t.args.length
    case neg =>
      have hc : ¬ (p.name = t.name ∧ p.args.length = t.args.length) := fun h => hlen h.2
      have hlen' : ¬ (p.args.length : Int) = t.args.length := by omega
      have hm := Tm.mt_clash (l := l) hv hc
      repeat' (first | (with_reducible first | refine W ?_ | refine Wz0 ?_) | ((with_reducible first | refine Wo (fun K hK => ?_) | refine Wp ?_ | refine Wq ?_ | refine Wr ?_); (try simp only [go_sem, fN, seval, eT, iR, hv, n3, n4, n8, d3, d4, d8, f3, f4, f8, e0, e1, e2, si, hn, hlen', dT, dF, nL]); (repeat with_reducible refine Ai ?_); (try (refine hK _ ?_; clear hK K)); (try with_reducible refine iC ?_)))
      refine hQ _ _ ?_ ?_ ?_ fun j hj hne => ?_
      · rw [mtV_no hv (by rw [hm])]
        simp only [go_sem, fN, seval, eT, iR]
      · rw [hm]
        simp only [go_sem, fN, seval, eT, iR]
      · rw [hm]
        simp only [go_sem, fN, seval, eT, iR, f3, f4, si]
      · have j3 : ¬ j = 3 := by omega
        have j4 : ¬ j = 4 := by omega
        simp only [go_sem, fN, seval, eT, iR, j3, j4]
    have hlen' : (p.args.length : Int) = t.args.length := by omega
    have hknot : p.mt t l = Tm.mtL p.args t.args l := Tm.mt_knot hv hn hlen
    repeat' (first | (with_reducible first | refine W ?_ | refine Wz0 ?_) | ((with_reducible first | refine Wo (fun K hK => ?_) | refine Wp ?_ | refine Wq ?_ | refine Wr ?_); (try simp only [go_sem, fN, seval, eT, iR, hv, n3, n4, n8, d3, d4, d8, f3, f4, f8, e0, e1, e2, si, hn, hlen', dT, dF, nL]); (repeat with_reducible refine Ai ?_); (try (refine hK _ ?_; clear hK K)); (try with_reducible refine iC ?_)))
    refine IWP.loop (fun m x => ∃ k, k ≤ p.args.length ∧ m = p.args.length - k ∧ (Tm.mtL (p.args.take k) (t.args.take k) l).2 = true ∧ x.env 2 = .one (.row i (Tm.mtL (p.args.take k) (t.args.take k) l).1.length) ∧ x.env 3 = .one (.ptr 3 1 0 0) ∧ x.env 4 = .one (.ptr 4 1 0 0) ∧ x.env 10 = aInt k ∧
        x.S 3 = some (.box 25 [.st (.str t.name), .st (.list (p.args.map encT))]) ∧ x.S 4 = some (.box 25 [.st (.str t.name), .st (.list (t.args.map encT))]) ∧ x.S i = some (arowB (Tm.mtL (p.args.take k) (t.args.take k) l).1) ∧ ∀ j, 100 ≤ j → j ≠ i → x.S j = S j)
      p.args.length ⟨0, Nat.zero_le _, rfl, by simp [Tm.mtL], by (simp only [go_sem, fN, seval, eT, iR, e2]); simp [Tm.mtL], rfl, rfl, rfl, by simp only [go_sem, fN, seval, eT, iR, hn], rfl, by (simp only [go_sem, fN, seval, eT, iR, f3, f4, si]); simp [Tm.mtL], fun j hj hne => ?_⟩ ?_
    · have j3 : ¬ j = 3 := by omega
      have j4 : ¬ j = 4 := by omega
      simp only [go_sem, fN, seval, eT, iR, j3, j4]
    rintro m ⟨env, S1⟩ ⟨k, hk, rfl, hok, e2, e3', e4', e10, s3, s4, si, hrest⟩
    simp only at e2 e3' e4' e10 s3 s4 si hrest
    by_cases hlt : (k : Int) < p.args.length
    · obtain ⟨a, ha⟩ := get_lt (show k < p.args.length by omega)
      obtain ⟨c, hc⟩ := get_lt (show k < t.args.length by omega)
      have hstep := Tm.mtL_take hlen ha hc hok
      have hb1 := (Tm.mtL_ok (p.args.take k) (t.args.take k) l).len
      have z1 := Tm.sizes_take ha
      have z2 := Tm.sizes_take_le p.args (k + 1)
      repeat' (first | (with_reducible first | refine W ?_ | refine Wz0 ?_) | ((with_reducible first | refine Wo (fun K hK => ?_) | refine Wp ?_ | refine Wq ?_ | refine Wr ?_); (try simp only [go_sem, fN, seval, eT, iR, e2, e3', e4', e10, s3, s4, si, hlt, ha, hc, dT, dF, nL]); (repeat with_reducible refine Ai ?_); (try (refine hK _ ?_; clear hK K)); (try with_reducible refine iC ?_)))
      have hcall := ih a (mem_of_get ha) c (up1 i) (Tm.mtL (p.args.take k) (t.args.take k) l).1 (upS S1) (up1_le i) (by omega) (by rw [upS_up, si]; rfl)
      rw [← hstep] at hcall
      cases hb : (Tm.mtL (p.args.take (k + 1)) (t.args.take (k + 1)) l).2 with
      | true =>
        rw [mtV_yes (by rw [← hstep]; exact hb), ← hstep, hb] at hcall
        refine ⟨_, _, hcall, ?_⟩
        repeat' (first | (with_reducible first | refine W ?_ | refine Wz0 ?_) | ((with_reducible first | refine Wo (fun K hK => ?_) | refine Wp ?_ | refine Wq ?_ | refine Wr ?_); (try simp only [go_sem, fN, seval, eT, iR, e2, e3', e4', e10, s3, s4, d3, d4, dT, dF, nL]); (repeat with_reducible refine Ai ?_); (try (refine hK _ ?_; clear hK K)); (try with_reducible refine iC ?_)))
        refine then_normal ⟨p.args.length - (k + 1), by omega, k + 1, by omega, rfl, hb, ?_⟩
        simp only [go_sem, fN, seval, eT, iR, e2, e3', e4', e10, s3, s4, d3, d4]
        refine ⟨by congr 3, fun j hj hne => ?_⟩
        simp only [go_sem, fN, seval, eT, iR, hne]
        exact hrest j hj hne
      | false =>
        have hno := Tm.mtL_no hlen hb
        rw [hb] at hcall
        refine ⟨_, _, hcall, ?_⟩
        repeat' (first | (with_reducible first | refine W ?_ | refine Wz0 ?_) | ((with_reducible first | refine Wo (fun K hK => ?_) | refine Wp ?_ | refine Wq ?_ | refine Wr ?_); (try simp only [go_sem, fN, seval, eT, iR, hb, e2, e3', e4', e10, s3, s4, dT, dF, nL]); (repeat with_reducible refine Ai ?_); (try (refine hK _ ?_; clear hK K)); (try with_reducible refine iC ?_)))
        refine hQ _ _ ?_ ?_ ?_ fun j hj hne => ?_
        · rw [mtV_no hv (by rw [hknot, hno])]
          simp only [go_sem, fN, seval, eT, iR]
        · rw [hknot, hno]
          simp only [go_sem, fN, seval, eT, iR]
        · rw [hknot, hno]
          simp only [go_sem, fN, seval, eT, iR]
        · simp only [go_sem, fN, seval, eT, iR, hne]
          exact hrest j hj hne
    · rw [List.take_of_length_le (by omega), List.take_of_length_le (by omega)] at hok si e2
      rw [← hlen'] at *
      repeat' (first | (with_reducible first | refine W ?_ | refine Wz0 ?_) | ((with_reducible first | refine Wo (fun K hK => ?_) | refine Wp ?_ | refine Wq ?_ | refine Wr ?_); (try simp only [go_sem, fN, seval, eT, iR, e2, e3', e10, s3, hlt, dT, dF, nL]); (repeat with_reducible refine Ai ?_); (try (refine hK _ ?_; clear hK K)); (try with_reducible refine iC ?_)))
      refine hQ _ _ ?_ ?_ ?_ hrest
      · rw [mtV_yes (by rw [hknot]; exact hok), hknot]
        simp only [go_sem, fN, seval, eT, iR, e2]
      · rw [hknot, hok]
        simp only [go_sem, fN, seval, eT, iR]
      · rw [hknot]
        exact si
theorem lowS_one {S S1 : AStore} {a0 : Nat} {b : ABlk} (hS : Clean S) (ha : 1000 ≤ a0) (h1 : S1 a0 = some b) (h2 : ∀ i, 100 ≤ i → i ≠ a0 → S1 i = S i) : lowS S1 = updE S a0 (some b) := lowS_is hS ha h1 fun i hi hne => h2 i (by omega) hne
theorem matched_row (p : Tm) (hz : p.size ≤ 1000000) : ∀ (t : Tm) (i : Nat) (l : List Bd) (S : AStore), 1000 ≤ i → l.length + p.size ≤ 2000000 → S i = some (arowB l) →
      ACallsS Try.prog 43 [aTm p, aTm t, .one (.row i l.length)] S (.tup [mtV i p t l, aBool (p.mt t l).2]) (updE S i (some (arowB (p.mt t l).1))) := by
  induction h : SizeOf.sizeOf p using Nat.strongRecOn generalizing p with
  | _ N ih =>
  subst h
  have hs := Tm.size_eq p
  intro t i l S hi hl hSi
  refine ok_R_matched.acS fun hS C hC => ?_
  refine matched_core p hz (fun a ha => ih _ (Tm.lt_of_arg ha) a (by have := Tm.size_mem ha; omega) rfl) C hC t i (by omega) l hl S (fun j hj => clean_none hS (by omega)) hSi _ rfl rfl rfl _ ?_
  intro env' S' h6 h7 si hrest
  refine finS_high trivial (by simp only [resAll, resOne, tupV, h6, h7, Option.map_some]) ?_ (highs_is hS rfl si fun k hk hne => hrest k (by omega) hne) (lowS_one hS hi si hrest) (clean_upd hS hi rfl)
  unfold mtV
  split
  · exact Bool.and_eq_true_iff.2 ⟨high_row (n := (p.mt t l).1.length) hi, rfl⟩
  · rfl
theorem matched_nil (p t : Tm) (hz : p.size ≤ 1000000) (a0 : Nat) (S : AStore) (ha : 1000 ≤ a0) (hSa : S a0 = none) :
      ACallsS Try.prog 43 [aTm p, aTm t, .one (.full [])] S (.tup [mtV a0 p t [], aBool (p.mt t []).2]) (updE S a0 (some (arowB (p.mt t []).1))) := by
  refine ok_R_matched.acS fun hS C hC => ?_
  refine IWP.ghost (Ghost.own 2 900 77 3 (xs := ([] : List Bd).map encB) rfl (clean_none hS (by omega)) lens_encB (by omega)) ?_
  refine matched_core p hz (fun a ha => matched_row a (by have := Tm.size_mem ha; have := Tm.size_eq p; omega)) C hC t 900 (by omega) [] (by simp; omega) _ (fun j hj => by
    show updE S 900 _ j = none
    rw [updE_ne _ (by omega)]
    exact clean_none hS (by omega)) (updE_same _ _ _) _ rfl rfl rfl _ ?_
  intro env' S' h6 h7 si hrest
  have hrest' : ∀ j, 1000 ≤ j → S' j = S j := fun j hj => by
    rw [hrest j (by omega) (by omega)]
    exact updE_ne _ (by omega) _
  have e : (AV.tup [mtV a0 p t [], aBool (p.mt t []).2]) = (AV.tup [mtV 900 p t [], aBool (p.mt t []).2]).ren (oneTo 900 a0) := by
    unfold mtV
    split
    · simp only [AV.ren, AV.rens, AC.ren, oneTo_same]
    · simp only [AV.ren, AV.rens, AC.ren]
  rw [e]
  refine finS_hand trivial 900 a0 _ (by omega) ha (by show S' a0 = none; rw [hrest' a0 ha, hSa]) si rfl (fun j b hj hb => (hS j b (by rw [← hrest' j hj]; exact hb)).2) (by simp only [resAll, resOne, tupV, h6, h7, Option.map_some]) ?_ ?_ (clean_upd hS ha rfl)
  · rw [← e]
    unfold mtV
    split
    · exact Bool.and_eq_true_iff.2 ⟨high_row (n := (p.mt t []).1.length) ha, rfl⟩
    · rfl
  · congr 1
    funext j
    show (if j < 1000 then none else S' j) = S j
    by_cases hj : j < 1000
    · rw [if_pos hj, clean_none hS hj]
    · rw [if_neg hj, hrest' j (by omega)]
theorem matchOf_a (p t : Tm) (hp : p.size ≤ 100000) (ht : t.size ≤ 1000000) : ACalls Try.prog 32 [aTm p, aTm t] (.tup [aBds (caseOf p t), aBool (isCase p t)]) := by
  have hnm := mt_named p t
  have hml := mt_len p t
  refine ok_R_MatchOf.ac fun C hC => ?_
  unfold ir_R_MatchOf
  repeat' (first | (with_reducible first | refine W ?_ | refine Wz0 ?_) | ((with_reducible first | refine Wo (fun K hK => ?_) | refine Wp ?_ | refine Wq ?_ | refine Wr ?_); (try simp only [go_sem, fN, seval, eT, iR, dT, dF, nL]); (repeat with_reducible refine Ai ?_); (try (refine hK _ ?_; clear hK K)); (try with_reducible refine iC ?_)))
  refine ⟨_, _, matched_nil p t (by omega) (up1 900) _ (up1_le 900) (by rw [upS_up]; rfl), ?_⟩
  cases hc : (p.mt t []).2 with
  | false =>
    repeat' (first | (with_reducible first | refine W ?_ | refine Wz0 ?_) | ((with_reducible first | refine Wo (fun K hK => ?_) | refine Wp ?_ | refine Wq ?_ | refine Wr ?_); (try simp only [go_sem, fN, seval, eT, iR, hc, dT, dF, nL]); (repeat with_reducible refine Ai ?_); (try (refine hK _ ?_; clear hK K)); (try with_reducible refine iC ?_)))
    simp only [go_sem, fN, seval, FinQ, AS.result, resAll, resOne, tupV]
    unfold caseOf isCase
    rw [hc]
    rfl
  | true =>
    have hca : caseOf p t = sortB (p.mt t []).1 := by unfold caseOf; rw [if_pos hc]
    have his : isCase p t = true := hc
    rw [mtV_yes hc]
    repeat' (first | (with_reducible first | refine W ?_ | refine Wz0 ?_) | refine Cg _ (sortedR_a _ hnm (by omega)) ?_ | ((with_reducible first | refine Wo (fun K hK => ?_) | refine Wp ?_ | refine Wq ?_ | refine Wr ?_); (try simp only [go_sem, fN, seval, eT, iR, hc, dT, dF, nL]); (repeat with_reducible refine Ai ?_); (try (refine hK _ ?_; clear hK K)); (try with_reducible refine iC ?_)))
    simp only [go_sem, fN, seval, FinQ, AS.result, resAll, resOne, tupV, hca, his]

def fitsV (r : Pr) (t : Tm) : AV := if isCase r.1 t = true then .tup [aTm (onTo (caseOf r.1 t) r.2).1, aBool true, aBool (!(onTo (caseOf r.1 t) r.2).2)] else .tup [aTm Tm.nil, aBool false, aBool false]
theorem fits_a (r : Pr) (t : Tm) (hp : r.1.size ≤ 100000) (hq : r.2.size ≤ 100000) (ht : t.size ≤ 1000000) : ACalls Try.prog 21 [aPr r, aTm t] (fitsV r t) := by
  unfold fitsV
  refine ok_R_fits.ac fun C hC => ?_
  unfold ir_R_fits
  by_cases h : isCase r.1 t = true
  · rw [if_pos h]
    repeat' (first | (with_reducible first | refine W ?_ | refine Wz0 ?_) | refine Cg _ (matchOf_a r.1 t hp ht) ?_ | refine Cg _ (onRef_a (caseOf r.1 t) r.2 (by omega)) ?_ | ((with_reducible first | refine Wo (fun K hK => ?_) | refine Wp ?_ | refine Wq ?_ | refine Wr ?_); (try simp only [go_sem, fN, seval, eT, iR, h, dT, dF, nL]); (repeat with_reducible refine Ai ?_); (try (refine hK _ ?_; clear hK K)); (try with_reducible refine iC ?_)))
    simp only [go_sem, fN, seval, FinQ, AS.result, resAll, resOne, tupV]
  · rw [if_neg h]
    repeat' (first | (with_reducible first | refine W ?_ | refine Wz0 ?_) | refine Cg _ (matchOf_a r.1 t hp ht) ?_ | ((with_reducible first | refine Wo (fun K hK => ?_) | refine Wp ?_ | refine Wq ?_ | refine Wr ?_); (try simp only [go_sem, fN, seval, eT, iR, h, dT, dF, nL]); (repeat with_reducible refine Ai ?_); (try (refine hK _ ?_; clear hK K)); (try with_reducible refine iC ?_)))
    simp only [go_sem, fN, seval, FinQ, AS.result, resAll, resOne, tupV]
    rfl

def ir_L_hugePairs : IR :=
  (.seq (.ops [.i 2 (.mov (.c (.one (.st (.bool false)))))]) (.seq (.seq (.ops [.i 3 (.mov (.n 0))]) (.block 0 (.loop (.seq (.seq (.ops [.m 4 3, .m 5 0, .i 6 (.len false (.t 5)), .i 7 (.bin .lss (.t 4) (.t 6))]) (.cond (.t 7) .skip (.exit 0))) (.seq (.block 1 (.seq (.ops [.m 10 0, .m 11 3, .i 12 (.indexAddr 4 (.t 10) (.t 11)), .f 13 0 12, .L 14 2 13, .i 15 (.call 5 [.t 14]), .m 16 15, .mk (some 17) (some (16, false)) (.mov (.t 0)) .no, .mk (some 18) (some (16, false)) (.mov (.t 3)) .no, .mk (some 19) (some (16, false)) (.indexAddr 4 (.t 17) (.t 18)) .no, .mk (some 20) (some (16, false)) (.fieldAddr 2 (.t 19)) .no, .mk (some 21) (some (16, false)) (.load true 2 (.t 20)) .no, .mk (some 22) (some (16, false)) (.call 5 [.t 21]) .no, .i 23 (.pick (.t 16) (.c (.one (.st (.bool true)))) (.t 22))]) (.cond (.t 23) (.seq (.ops [.i 2 (.mov (.c (.one (.st (.bool true)))))]) .ret) .skip))) (.ops [.m 8 3, .i 9 (.bin .add (.t 8) (.n 1)), .m 3 9])))))) (.seq (.ops [.m 24 0, .i 25 (.len false (.t 24)), .i 26 (.bin .gtr (.t 25) (.n 100)), .m 2 26]) .ret)))
theorem ok_L_hugePairs : OkF Try.prog 4 27 [] ir_L_hugePairs [.t 2] := .of Try.func4 rfl rfl (by kernel_rfl) rfl

end Go.Proofs.Ytipddfhkbkihnaa
