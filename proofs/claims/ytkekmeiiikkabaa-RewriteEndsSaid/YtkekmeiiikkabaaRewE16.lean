/-
  Part 16 of the texts: BSorted; BMatch; BMaker; IrSizeP; BSizeP. Conditions: none.
-/
import Derived.Test.YtkekmeiiikkabaaRewE15
namespace Go.Proofs.Ytkekmeiiikkabaa
open Go Go.RowKit
set_option linter.unusedVariables false
set_option linter.unusedSimpArgs false
set_option maxHeartbeats 800000

/-! ### two rows of bindings -/
/-! ### sorting by the document -/
theorem insB_split {l : List Bd} {b : Bd} {k : Nat} (hk : k ≤ l.length) (h1 : ∀ c ∈ l.take k, sLt b.1 c.1 = false) (h2 : ∀ c, l[k]? = some c → sLt b.1 c.1 = true) : insB b l = l.take k ++ b :: l.drop k := by
  induction l generalizing k with
  | nil => simp [insB]
  | cons c l ih =>
    cases k with
    | zero =>
      unfold insB
      rw [if_pos (h2 c rfl)]
      rfl
    | succ k =>
      unfold insB
      rw [if_neg (by rw [h1 c (by simp)]; simp), ih (by simpa using hk) (fun c hc => h1 c (by simp [hc])) (fun c hc => h2 c (by simpa using hc))]
      rfl
/-- A row of bindings, b at k within acc. -/
def laidAt (acc : List Bd) (b : Bd) (k : Nat) : List Bd := acc.take k ++ b :: acc.drop k
theorem laidAt_len (acc : List Bd) (b : Bd) (k : Nat) : (laidAt acc b k).length = acc.length + 1 := by
  have := congrArg List.length (List.take_append_drop k acc)
  unfold laidAt
  rw [List.length_append] at this ⊢
  rw [List.length_cons]
  omega
theorem laidAt_get {acc : List Bd} {b : Bd} {k : Nat} (h : k ≤ acc.length) : (laidAt acc b k)[k]? = some b := by
  unfold laidAt
  rw [List.getElem?_append_right (by rw [List.length_take]; omega), List.length_take, Nat.min_eq_left h, Nat.sub_self]
  rfl
theorem laidAt_prev {acc : List Bd} {b c : Bd} {k : Nat} (h : acc[k]? = some c) : (laidAt acc b (k + 1))[k]? = some c := by
  have := lt_of_get h
  unfold laidAt
  rw [List.getElem?_append_left (by rw [List.length_take]; omega), List.getElem?_take, if_pos (by omega), h]
theorem laidAt_swap {acc : List Bd} {b c : Bd} {k : Nat} (h : acc[k]? = some c) : ((laidAt acc b (k + 1)).set (k + 1) c).set k b = laidAt acc b k := by
  have hk := lt_of_get h
  apply List.ext_getElem?
  intro i
  have hl : ((laidAt acc b (k + 1)).set (k + 1) c).length = acc.length + 1 := by rw [List.length_set, laidAt_len]
  rw [List.getElem?_set, List.getElem?_set]
  unfold laidAt at hl ⊢
  by_cases h1 : k = i
  · subst h1
    rw [if_pos rfl, if_pos (by rw [hl]; omega), List.getElem?_append_right (by rw [List.length_take]; omega), List.length_take, Nat.min_eq_left (by omega), Nat.sub_self]
    rfl
  · rw [if_neg h1]
    by_cases h2 : k + 1 = i
    · subst h2
      have e := laidAt_len acc b (k + 1)
      unfold laidAt at e
      rw [if_pos rfl, if_pos (by rw [e]; omega), List.getElem?_append_right (by rw [List.length_take]; omega), List.length_take, Nat.min_eq_left (by omega), show k + 1 - k = 1 by omega, List.getElem?_cons_succ, List.getElem?_drop, Nat.add_zero, h]
    · rw [if_neg h2]
      rcases Nat.lt_or_ge i k with h3 | h3
      · rw [List.getElem?_append_left (by rw [List.length_take]; omega), List.getElem?_append_left (by rw [List.length_take]; omega), List.getElem?_take, List.getElem?_take, if_pos (by omega), if_pos h3]
      · rw [List.getElem?_append_right (by rw [List.length_take]; omega), List.getElem?_append_right (by rw [List.length_take]; omega), List.length_take, List.length_take, Nat.min_eq_left (by omega), Nat.min_eq_left (by omega)]
        obtain ⟨j, rfl⟩ : ∃ j, i = k + 2 + j := ⟨i - (k + 2), by omega⟩
        rw [show k + 2 + j - (k + 1) = j + 1 by omega, show k + 2 + j - k = j + 1 + 1 by omega, List.getElem?_cons_succ, List.getElem?_cons_succ, List.getElem?_drop, List.getElem?_drop]
        congr 1
        omega
theorem laidAt_last (acc : List Bd) (b : Bd) : laidAt acc b acc.length = acc ++ [b] := by
  unfold laidAt
  rw [List.take_length, List.drop_length]
theorem sortedR_a (l : List Bd) (hn : Named l) (hl : l.length ≤ 100000) : ACalls Try.prog 62 [aBds l] (aBds (sortB l)) := by
  refine ac_R_Sorted (Nat.le_of_ble_eq_true rfl) fun C hC => ?_
  unfold ir_R_Sorted
  repeat' (first | (with_reducible first | refine Wa ?_ | refine Wb ?_ | refine Wc ?_ | refine Wd ?_ | refine We ?_ | refine Wf ?_ | refine Wg ?_ | refine Wh ?_ | refine Wi ?_ | refine Wj ?_ | refine Wk (by decide) ?_ | refine Wl ?_ | refine Wm ?_ | refine Wn ?_) | ((with_reducible first | refine Wo (fun K hK => ?_) | refine Wp ?_ | refine Wq ?_ | refine Wr ?_); (try simp only [go_sem, List.forall_mem_nil, ↓guard_ite, ↓pick_ite, seval, encT_eq, inR_i64, decide_eq_true_eq, decide_eq_false_iff_not, Int.ofNat_lt]); (repeat with_reducible refine And.intro (by first | omega | (with_reducible first | exact lens_encT | exact lens_encL | exact lens_encB | exact lens_encP) | (simp; done) | (simp only [List.length_take, List.length_map, List.length_append, maxLen_eq]; omega)) ?_); (try (with_reducible refine hK _ ?_; clear hK K)); (try with_reducible refine ite_conj ?_)))
  refine IWP.ghost (Ghost.ownM 3 900 89 3 rfl rfl (by rw [hC]; decide)) ?_
  refine IWP.loopD [6] (fun m s => ∃ i, i ≤ l.length ∧ m = l.length - i ∧ s.env 0 = aBds l ∧ s.env 3 = .one (.row 900 i) ∧ s.env 4 = aInt i ∧ s.S 900 = some (rowBd (sortB (l.take i))) ∧ s.S 6 = none) l.length ⟨0, Nat.zero_le _, rfl, rfl, rfl, rfl, rfl, rfl⟩ ?_
  rintro m ⟨env, S⟩ ⟨i, hi, rfl, e0, e3, e4, s900, s6⟩
  simp only at e0 e3 e4 s900 s6
  have hlen : (sortB (l.take i)).length = i := by rw [sortB_length, List.length_take]; omega
  have hnt : ∀ j, Named (l.take j) := fun j => by
    unfold Named
    rw [List.map_take]
    exact hn.sublist (List.take_sublist _ _)
  by_cases hlt : (i : Int) < l.length
  · obtain ⟨b, hb⟩ := get_lt (show i < l.length by omega)
    have ho := sortB_ordered (hnt i)
    have hmap : (sortB (l.take i)).map encB ++ [encB b] = (laidAt (sortB (l.take i)) b i).map encB := by
      have := laidAt_last (sortB (l.take i)) b
      rw [hlen] at this
      rw [this, List.map_append]
      rfl
    have hsnoc : sortB (l.take (i + 1)) = insB b (sortB (l.take i)) := by rw [take_snoc hb, sortB_snoc]
    generalize hacc : sortB (l.take i) = acc at *
    repeat' (first | (with_reducible first | refine Wa ?_ | refine Wb ?_ | refine Wc ?_ | refine Wd ?_ | refine We ?_ | refine Wf ?_ | refine Wg ?_ | refine Wh ?_ | refine Wi ?_ | refine Wj ?_ | refine Wk (by decide) ?_ | refine Wl ?_ | refine Wm ?_ | refine Wn ?_) | ((with_reducible first | refine Wo (fun K hK => ?_) | refine Wp ?_ | refine Wq ?_ | refine Wr ?_); (try simp only [go_sem, List.forall_mem_nil, ↓guard_ite, ↓pick_ite, seval, encT_eq, inR_i64, e0, e3, e4, s900, s6, hlt, hb, hlen, encB, decide_eq_true_eq, decide_eq_false_iff_not, Int.ofNat_lt]); (repeat with_reducible refine And.intro (by first | omega | (with_reducible first | exact lens_encT | exact lens_encL | exact lens_encB | exact lens_encP) | (simp; done) | (simp only [List.length_take, List.length_map, List.length_append, maxLen_eq]; omega)) ?_); (try (with_reducible refine hK _ ?_; clear hK K)); (try with_reducible refine ite_conj ?_)))
    refine IWP.loopD [6] (fun m s => ∃ k, k ≤ i ∧ m = k ∧ (∀ c ∈ acc.drop k, sLt b.1 c.1 = true) ∧ s.env 0 = aBds l ∧ s.env 3 = .one (.row 900 (i + 1)) ∧ s.env 4 = aInt i ∧ s.env 5 = aInt k ∧ s.S 900 = some (rowBd (laidAt acc b k)) ∧ s.S 6 = none) i ⟨i, Nat.le_refl _, rfl, ?_, ?_⟩ ?_
    · rw [← hlen, List.drop_length]; simp
    · simp only [go_sem, List.forall_mem_nil, ↓guard_ite, ↓pick_ite, seval, encT_eq, inR_i64, e0, e3, e4, s6, hlen]
      refine ⟨by congr 3; omega, ?_⟩
      show ABlk.mrow _ _ (acc.map encB ++ [encB b]) = _
      rw [hmap]
    rintro k ⟨env2, S2⟩ ⟨_, hk, rfl, hd, e0, e3, e4, e5, s900, s6⟩
    simp only at e0 e3 e4 e5 s900 s6
    have hcl := laidAt_len acc b k
    rw [hlen] at hcl
    have hck := laidAt_get (b := b) (show k ≤ acc.length by omega)
    -- where the new one has come to its place
    have hend : (∀ c, acc[k - 1]? = some c → 0 < k → sLt b.1 c.1 = false) → insB b acc = laidAt acc b k := fun h => by
      refine insB_split (by omega) (fun c hc => ?_) fun c hc => hd c (by rw [drop_get hc]; simp)
      cases k with
      | zero => simp at hc
      | succ k =>
        obtain ⟨p, hp⟩ := get_lt (show k < acc.length by omega)
        have h1 := h p hp (by omega)
        obtain ⟨j, hj, rfl⟩ := List.getElem_of_mem hc
        rw [List.length_take] at hj
        rw [List.getElem_take]
        have hcj : acc[j]? = some acc[j] := List.getElem?_eq_getElem (by omega)
        cases hx : sLt b.1 acc[j].1 with
        | false => rfl
        | true =>
          rcases Nat.lt_or_ge j k with h3 | h3
          · have := sLt_trans hx (ordered_get ho hcj hp h3)
            rw [this] at h1; cases h1
          · have e : j = k := by omega
            subst e
            rw [hp] at hcj
            cases hcj
            rw [hx] at h1; cases h1
    by_cases hk0 : 0 < (k : Int)
    · obtain ⟨k, rfl⟩ : ∃ q, k = q + 1 := ⟨k - 1, by omega⟩
      obtain ⟨c, hc⟩ := get_lt (show k < acc.length by omega)
      have hcp := laidAt_prev (b := b) hc
      have hz : (((k + 1 : Nat) : Int) - 1).toNat = k := by omega
      have hz0 : (0 : Int) ≤ ((k + 1 : Nat) : Int) - 1 := by omega
      have hl1 : k + 1 < i + 1 := by omega
      have hl2 : k < i + 1 := by omega
      cases hx : sLt b.1 c.1 with
      | true =>
        have hkk : ¬ k + 1 = k := by omega
        repeat' (first | (with_reducible first | refine Wa ?_ | refine Wb ?_ | refine Wc ?_ | refine Wd ?_ | refine We ?_ | refine Wf ?_ | refine Wg ?_ | refine Wh ?_ | refine Wi ?_ | refine Wj ?_ | refine Wk (by decide) ?_ | refine Wl ?_ | refine Wm ?_ | refine Wn ?_) | ((with_reducible first | refine Wo (fun K hK => ?_) | refine Wp ?_ | refine Wq ?_ | refine Wr ?_); (try simp only [go_sem, List.forall_mem_nil, ↓guard_ite, ↓pick_ite, seval, encT_eq, inR_i64, e0, e3, e4, e5, s900, s6, hk0, hck, hcp, hz, hz0, hcl, hl1, hl2, hx, encB, List.length_set, List.getElem?_set, hkk, decide_eq_true_eq, decide_eq_false_iff_not, Int.ofNat_lt]); (repeat with_reducible refine And.intro (by first | omega | (with_reducible first | exact lens_encT | exact lens_encL | exact lens_encB | exact lens_encP) | (simp; done) | (simp only [List.length_take, List.length_map, List.length_append, maxLen_eq]; omega)) ?_); (try (with_reducible refine hK _ ?_; clear hK K)); (try with_reducible refine ite_conj ?_)))
        refine then_normal ⟨k, by omega, k, by omega, rfl, fun d hd' => ?_, ?_⟩
        · rw [drop_get hc] at hd'
          rcases List.mem_cons.1 hd' with rfl | hd'
          · exact hx
          · exact hd d hd'
        · simp only [go_sem, List.forall_mem_nil, ↓guard_ite, ↓pick_ite, seval, AS.drop, dropS, AC.clears, AC.clear, AC.highs, AC.high, Bool.not_false, Bool.true_and, Bool.and_self, AV.purge, AV.purges, AC.purge, ABlk.purge, List.contains_cons, List.contains_nil, Nat.reduceBEq, Bool.or_self, Bool.or_false, Bool.false_or, Bool.or_true, encT_eq, inR_i64, e0, e3, e4, e5, s6]
          refine ⟨by congr 3; omega, ?_⟩
          show ABlk.mrow _ _ ((((laidAt acc b (k + 1)).map encB).set (k + 1) (encB c)).set k (encB b)) = _
          rw [← List.map_set, ← List.map_set, laidAt_swap hc]
      | false =>
        repeat' (first | (with_reducible first | refine Wa ?_ | refine Wb ?_ | refine Wc ?_ | refine Wd ?_ | refine We ?_ | refine Wf ?_ | refine Wg ?_ | refine Wh ?_ | refine Wi ?_ | refine Wj ?_ | refine Wk (by decide) ?_ | refine Wl ?_ | refine Wm ?_ | refine Wn ?_) | ((with_reducible first | refine Wo (fun K hK => ?_) | refine Wp ?_ | refine Wq ?_ | refine Wr ?_); (try simp only [go_sem, List.forall_mem_nil, ↓guard_ite, ↓pick_ite, seval, encT_eq, inR_i64, e0, e3, e4, e5, s900, s6, hk0, hck, hcp, hz, hz0, hcl, hl1, hl2, hx, encB, decide_eq_true_eq, decide_eq_false_iff_not, Int.ofNat_lt]); (repeat with_reducible refine And.intro (by first | omega | (with_reducible first | exact lens_encT | exact lens_encL | exact lens_encB | exact lens_encP) | (simp; done) | (simp only [List.length_take, List.length_map, List.length_append, maxLen_eq]; omega)) ?_); (try (with_reducible refine hK _ ?_; clear hK K)); (try with_reducible refine ite_conj ?_)))
        refine then_normal ⟨l.length - (i + 1), by omega, i + 1, by omega, rfl, ?_⟩
        rw [hsnoc, hend fun d hd' _ => by
          rw [show k + 1 - 1 = k by omega, hc] at hd'
          cases hd'
          exact hx]
        simp only [go_sem, List.forall_mem_nil, ↓guard_ite, ↓pick_ite, seval, AS.drop, dropS, AC.clears, AC.clear, AC.highs, AC.high, Bool.not_false, Bool.true_and, Bool.and_self, AV.purge, AV.purges, AC.purge, ABlk.purge, List.contains_cons, List.contains_nil, Nat.reduceBEq, Bool.or_self, Bool.or_false, Bool.false_or, Bool.or_true, encT_eq, inR_i64, e0, e3, e4, s900, s6]
        congr 3
    · repeat' (first | (with_reducible first | refine Wa ?_ | refine Wb ?_ | refine Wc ?_ | refine Wd ?_ | refine We ?_ | refine Wf ?_ | refine Wg ?_ | refine Wh ?_ | refine Wi ?_ | refine Wj ?_ | refine Wk (by decide) ?_ | refine Wl ?_ | refine Wm ?_ | refine Wn ?_) | ((with_reducible first | refine Wo (fun K hK => ?_) | refine Wp ?_ | refine Wq ?_ | refine Wr ?_); (try simp only [go_sem, List.forall_mem_nil, ↓guard_ite, ↓pick_ite, seval, encT_eq, inR_i64, e0, e3, e4, e5, s900, s6, hk0, decide_eq_true_eq, decide_eq_false_iff_not, Int.ofNat_lt]); (repeat with_reducible refine And.intro (by first | omega | (with_reducible first | exact lens_encT | exact lens_encL | exact lens_encB | exact lens_encP) | (simp; done) | (simp only [List.length_take, List.length_map, List.length_append, maxLen_eq]; omega)) ?_); (try (with_reducible refine hK _ ?_; clear hK K)); (try with_reducible refine ite_conj ?_)))
      refine then_normal ⟨l.length - (i + 1), by omega, i + 1, by omega, rfl, ?_⟩
      rw [hsnoc, hend fun d hd' h => by omega]
      simp only [go_sem, List.forall_mem_nil, ↓guard_ite, ↓pick_ite, seval, AS.drop, dropS, AC.clears, AC.clear, AC.highs, AC.high, Bool.not_false, Bool.true_and, Bool.and_self, AV.purge, AV.purges, AC.purge, ABlk.purge, List.contains_cons, List.contains_nil, Nat.reduceBEq, Bool.or_self, Bool.or_false, Bool.false_or, Bool.or_true, encT_eq, inR_i64, e0, e3, e4, s900, s6]
      congr 3
  · refine IWP.ghost (Ghost.share (id := 900) s900) ?_
    repeat' (first | (with_reducible first | refine Wa ?_ | refine Wb ?_ | refine Wc ?_ | refine Wd ?_ | refine We ?_ | refine Wf ?_ | refine Wg ?_ | refine Wh ?_ | refine Wi ?_ | refine Wj ?_ | refine Wk (by decide) ?_ | refine Wl ?_ | refine Wm ?_ | refine Wn ?_) | ((with_reducible first | refine Wo (fun K hK => ?_) | refine Wp ?_ | refine Wq ?_ | refine Wr ?_); (try simp only [go_sem, List.forall_mem_nil, ↓guard_ite, ↓pick_ite, seval, encT_eq, inR_i64, e0, e3, e4, hlt, decide_eq_true_eq, decide_eq_false_iff_not, Int.ofNat_lt]); (repeat with_reducible refine And.intro (by first | omega | (with_reducible first | exact lens_encT | exact lens_encL | exact lens_encB | exact lens_encP) | (simp; done) | (simp only [List.length_take, List.length_map, List.length_append, maxLen_eq]; omega)) ?_); (try (with_reducible refine hK _ ?_; clear hK K)); (try with_reducible refine ite_conj ?_)))
    simp only [go_sem, List.forall_mem_nil, ↓guard_ite, ↓pick_ite, seval, FinQ, AS.result, resAll, resOne, tupV, hlen]
    rw [List.take_of_length_le (by omega)]
end Go.Proofs.Ytkekmeiiikkabaa

namespace Go.Proofs.Ytkekmeiiikkabaa
open Go Go.RowKit
set_option linter.unusedVariables false
set_option linter.unusedSimpArgs false
set_option maxHeartbeats 1000000

def entB (b : Bd) : KV × AV := (.s b.1, aTm b.2)
abbrev mapB (l : List Bd) : ABlk := .map none (l.map entB)
theorem mGet_mapB (l : List Bd) (n : ByteArray) : mGet (l.map entB) (.s n) = (lookup l n).map fun t => aTm t := by
  induction l with
  | nil => rfl
  | cons b l ih =>
    unfold lookup
    rw [List.map_cons, mGet, List.find?_cons]
    by_cases h : b.1 = n
    · have h1 : decide (b.1 = n) = true := decide_eq_true h
      rw [if_pos (show (entB b).1 = KV.s n from congrArg KV.s h)]
      simp only [h1]
      rfl
    · have h1 : decide (b.1 = n) = false := decide_eq_false h
      rw [if_neg (show ¬ (entB b).1 = KV.s n from fun e => h (KV.s.inj e)), ih]
      simp only [h1]
      rfl
theorem mPut_mapB {l : List Bd} {n : ByteArray} (h : lookup l n = none) (t : Tm) : mPut (l.map entB) (.s n) (aTm t) = (l ++ [(n, t)]).map entB := by
  rw [mPut_none (by rw [mGet_mapB, h]; rfl), List.map_append]
  rfl

theorem into_M (p : Tm) (hz : p.size ≤ 1000000) : ∀ (t : Tm) (a0 : Nat) (l : List Bd) (S : AStore), 1000 ≤ a0 → S a0 = some (mapB l) →
    ACallsS Try.prog 73 [aTm p, aTm t, .one (.mptr a0)] S (aBool (p.mt t l).2) (updE S a0 (some (mapB (p.mt t l).1))) := by
  induction h : SizeOf.sizeOf p using Nat.strongRecOn generalizing p with
  | _ N ih =>
  subst h
  intro t a0 l S ha0 hSa
  have hs := Tm.size_eq p
  have hln := Tm.length_le p.args
  refine acS_match_into (Nat.le_of_ble_eq_true rfl) fun hS C hC => ?_
  have n3 : S 3 = none := clean_none hS (by omega)
  have n4 : S 4 = none := clean_none hS (by omega)
  have n7 : S 7 = none := clean_none hS (by omega)
  have d3 : ¬ 3 = a0 := by omega
  have d4 : ¬ 4 = a0 := by omega
  have d7 : ¬ 7 = a0 := by omega
  have e3 : ¬ a0 = 3 := by omega
  have e4 : ¬ a0 = 4 := by omega
  have e7 : ¬ a0 = 7 := by omega
  unfold ir_match_into
  repeat' (first | (with_reducible first | refine Wa ?_ | refine Wb ?_ | refine Wc ?_ | refine Wd ?_ | refine We ?_ | refine Wf ?_ | refine Wg ?_ | refine Wh ?_ | refine Wi ?_ | refine Wj ?_ | refine Wk (by decide) ?_ | refine Wl ?_ | refine Wm ?_ | refine Wn ?_) | ((with_reducible first | refine Wo (fun K hK => ?_) | refine Wp ?_ | refine Wq ?_ | refine Wr ?_); (try simp only [go_sem, List.forall_mem_nil, ↓guard_ite, ↓pick_ite, seval, encT_eq, inR_i64, n3, n4, decide_eq_true_eq, decide_eq_false_iff_not, Int.ofNat_lt]); (repeat with_reducible refine And.intro (by first | omega | (with_reducible first | exact lens_encT | exact lens_encL | exact lens_encB | exact lens_encP) | (simp; done) | (simp only [List.length_take, List.length_map, List.length_append, maxLen_eq]; omega)) ?_); (try (with_reducible refine hK _ ?_; clear hK K)); (try with_reducible refine ite_conj ?_)))
  refine ⟨_, variable_a _, ?_⟩
  cases hv : isVar p.name with
  | true =>
    cases hl : lookup l p.name with
    | some x =>
      repeat' (first | (with_reducible first | refine Wa ?_ | refine Wb ?_ | refine Wc ?_ | refine Wd ?_ | refine We ?_ | refine Wf ?_ | refine Wg ?_ | refine Wh ?_ | refine Wi ?_ | refine Wj ?_ | refine Wk (by decide) ?_ | refine Wl ?_ | refine Wm ?_ | refine Wn ?_) | refine CallG.mk _ (same_a _ _) ?_ | ((with_reducible first | refine Wo (fun K hK => ?_) | refine Wp ?_ | refine Wq ?_ | refine Wr ?_); (try simp only [go_sem, List.forall_mem_nil, ↓guard_ite, ↓pick_ite, seval, encT_eq, inR_i64, hv, hSa, n3, n4, n7, d3, d4, d7, e3, e4, e7, mapOf, keyOf, KV.of, lookA, mGet_mapB, hl, decide_eq_true_eq, decide_eq_false_iff_not, Int.ofNat_lt]); (repeat with_reducible refine And.intro (by first | omega | (with_reducible first | exact lens_encT | exact lens_encL | exact lens_encB | exact lens_encP) | (simp; done) | (simp only [List.length_take, List.length_map, List.length_append, maxLen_eq]; omega)) ?_); (try (with_reducible refine hK _ ?_; clear hK K)); (try with_reducible refine ite_conj ?_)))
      rw [Tm.mt_old hv hl]
      refine finS_one (aBool (x.beq t)) hS ha0 rfl trivial rfl rfl (by simp only [go_sem, List.forall_mem_nil, ↓guard_ite, ↓pick_ite, seval, encT_eq, inR_i64, e3, e4, e7, hSa]) fun i hi hne => ?_
      have i3 : ¬ i = 3 := by omega
      have i4 : ¬ i = 4 := by omega
      have i7 : ¬ i = 7 := by omega
      simp only [go_sem, List.forall_mem_nil, ↓guard_ite, ↓pick_ite, seval, encT_eq, inR_i64, i3, i4, i7]
    | none =>
      repeat' (first | (with_reducible first | refine Wa ?_ | refine Wb ?_ | refine Wc ?_ | refine Wd ?_ | refine We ?_ | refine Wf ?_ | refine Wg ?_ | refine Wh ?_ | refine Wi ?_ | refine Wj ?_ | refine Wk (by decide) ?_ | refine Wl ?_ | refine Wm ?_ | refine Wn ?_) | ((with_reducible first | refine Wo (fun K hK => ?_) | refine Wp ?_ | refine Wq ?_ | refine Wr ?_); (try simp only [go_sem, List.forall_mem_nil, ↓guard_ite, ↓pick_ite, seval, encT_eq, inR_i64, hv, hSa, n3, n4, n7, d3, d4, d7, e3, e4, e7, mapOf, keyOf, KV.of, lookA, mGet_mapB, hl, mPut_mapB, decide_eq_true_eq, decide_eq_false_iff_not, Int.ofNat_lt]); (repeat with_reducible refine And.intro (by first | omega | (with_reducible first | exact lens_encT | exact lens_encL | exact lens_encB | exact lens_encP) | (simp; done) | (simp only [List.length_take, List.length_map, List.length_append, maxLen_eq]; omega)) ?_); (try (with_reducible refine hK _ ?_; clear hK K)); (try with_reducible refine ite_conj ?_)))
      rw [Tm.mt_new hv hl]
      refine finS_one (aBool true) hS ha0 rfl trivial rfl rfl (by simp only [go_sem, List.forall_mem_nil, ↓guard_ite, ↓pick_ite, seval, encT_eq, inR_i64, e3, e4, e7, hSa]) fun i hi hne => ?_
      have i3 : ¬ i = 3 := by omega
      have i4 : ¬ i = 4 := by omega
      have i7 : ¬ i = 7 := by omega
      simp only [go_sem, List.forall_mem_nil, ↓guard_ite, ↓pick_ite, seval, encT_eq, inR_i64, i3, i4, i7, hne]
  | false =>
    by_cases hn : p.name = t.name
    case neg =>
      have hc : ¬ (p.name = t.name ∧ p.args.length = t.args.length) := fun h => hn h.1
      repeat' (first | (with_reducible first | refine Wa ?_ | refine Wb ?_ | refine Wc ?_ | refine Wd ?_ | refine We ?_ | refine Wf ?_ | refine Wg ?_ | refine Wh ?_ | refine Wi ?_ | refine Wj ?_ | refine Wk (by decide) ?_ | refine Wl ?_ | refine Wm ?_ | refine Wn ?_) | ((with_reducible first | refine Wo (fun K hK => ?_) | refine Wp ?_ | refine Wq ?_ | refine Wr ?_); (try simp only [go_sem, List.forall_mem_nil, ↓guard_ite, ↓pick_ite, seval, encT_eq, inR_i64, hv, hSa, n3, n4, n7, d3, d4, d7, e3, e4, e7, hn, decide_eq_true_eq, decide_eq_false_iff_not, Int.ofNat_lt]); (repeat with_reducible refine And.intro (by first | omega | (with_reducible first | exact lens_encT | exact lens_encL | exact lens_encB | exact lens_encP) | (simp; done) | (simp only [List.length_take, List.length_map, List.length_append, maxLen_eq]; omega)) ?_); (try (with_reducible refine hK _ ?_; clear hK K)); (try with_reducible refine ite_conj ?_)))
      rw [Tm.mt_clash hv hc]
      refine finS_one (aBool false) hS ha0 rfl trivial rfl rfl (by simp only [go_sem, List.forall_mem_nil, ↓guard_ite, ↓pick_ite, seval, encT_eq, inR_i64, e3, e4, hSa]) fun i hi hne => ?_
      have i3 : ¬ i = 3 := by omega
      have i4 : ¬ i = 4 := by omega
      simp only [go_sem, List.forall_mem_nil, ↓guard_ite, ↓pick_ite, seval, encT_eq, inR_i64, i3, i4]
    by_cases hlen : p.args.length = t.args.length
    case neg =>
      have hc : ¬ (p.name = t.name ∧ p.args.length = t.args.length) := fun h => hlen h.2
      have hlen' : ¬ (p.args.length : Int) = t.args.length := by omega
      repeat' (first | (with_reducible first | refine Wa ?_ | refine Wb ?_ | refine Wc ?_ | refine Wd ?_ | refine We ?_ | refine Wf ?_ | refine Wg ?_ | refine Wh ?_ | refine Wi ?_ | refine Wj ?_ | refine Wk (by decide) ?_ | refine Wl ?_ | refine Wm ?_ | refine Wn ?_) | ((with_reducible first | refine Wo (fun K hK => ?_) | refine Wp ?_ | refine Wq ?_ | refine Wr ?_); (try simp only [go_sem, List.forall_mem_nil, ↓guard_ite, ↓pick_ite, seval, encT_eq, inR_i64, hv, hSa, n3, n4, n7, d3, d4, d7, e3, e4, e7, hn, hlen', decide_eq_true_eq, decide_eq_false_iff_not, Int.ofNat_lt]); (repeat with_reducible refine And.intro (by first | omega | (with_reducible first | exact lens_encT | exact lens_encL | exact lens_encB | exact lens_encP) | (simp; done) | (simp only [List.length_take, List.length_map, List.length_append, maxLen_eq]; omega)) ?_); (try (with_reducible refine hK _ ?_; clear hK K)); (try with_reducible refine ite_conj ?_)))
      rw [Tm.mt_clash hv hc]
      refine finS_one (aBool false) hS ha0 rfl trivial rfl rfl (by simp only [go_sem, List.forall_mem_nil, ↓guard_ite, ↓pick_ite, seval, encT_eq, inR_i64, e3, e4, hSa]) fun i hi hne => ?_
      have i3 : ¬ i = 3 := by omega
      have i4 : ¬ i = 4 := by omega
      simp only [go_sem, List.forall_mem_nil, ↓guard_ite, ↓pick_ite, seval, encT_eq, inR_i64, i3, i4]
    have hlen' : (p.args.length : Int) = t.args.length := by omega
    have hknot : p.mt t l = Tm.mtL p.args t.args l := Tm.mt_knot hv hn hlen
    repeat' (first | (with_reducible first | refine Wa ?_ | refine Wb ?_ | refine Wc ?_ | refine Wd ?_ | refine We ?_ | refine Wf ?_ | refine Wg ?_ | refine Wh ?_ | refine Wi ?_ | refine Wj ?_ | refine Wk (by decide) ?_ | refine Wl ?_ | refine Wm ?_ | refine Wn ?_) | ((with_reducible first | refine Wo (fun K hK => ?_) | refine Wp ?_ | refine Wq ?_ | refine Wr ?_); (try simp only [go_sem, List.forall_mem_nil, ↓guard_ite, ↓pick_ite, seval, encT_eq, inR_i64, hv, hSa, n3, n4, n7, d3, d4, d7, e3, e4, e7, hn, hlen', decide_eq_true_eq, decide_eq_false_iff_not, Int.ofNat_lt]); (repeat with_reducible refine And.intro (by first | omega | (with_reducible first | exact lens_encT | exact lens_encL | exact lens_encB | exact lens_encP) | (simp; done) | (simp only [List.length_take, List.length_map, List.length_append, maxLen_eq]; omega)) ?_); (try (with_reducible refine hK _ ?_; clear hK K)); (try with_reducible refine ite_conj ?_)))
    refine IWP.loop (fun m x => ∃ k, k ≤ p.args.length ∧ m = p.args.length - k ∧ (Tm.mtL (p.args.take k) (t.args.take k) l).2 = true ∧ x.env 2 = .one (.mptr a0) ∧ x.env 3 = .one (.ptr 3 1 0 0) ∧ x.env 4 = .one (.ptr 4 1 0 0) ∧ x.env 44 = aInt p.args.length ∧ x.env 45 = aInt k ∧
        x.S 3 = some (.box 25 [.st (.str t.name), .st (.list (p.args.map encT))]) ∧ x.S 4 = some (.box 25 [.st (.str t.name), .st (.list (t.args.map encT))]) ∧ x.S a0 = some (mapB (Tm.mtL (p.args.take k) (t.args.take k) l).1) ∧ ∀ i, 1000 ≤ i → i ≠ a0 → x.S i = S i)
      p.args.length ⟨0, Nat.zero_le _, rfl, by simp [Tm.mtL], rfl, rfl, rfl, by simp only [go_sem, List.forall_mem_nil, ↓guard_ite, ↓pick_ite, seval, encT_eq, inR_i64, hlen'], rfl, by simp only [go_sem, List.forall_mem_nil, ↓guard_ite, ↓pick_ite, seval, encT_eq, inR_i64, hn], rfl, by (simp only [go_sem, List.forall_mem_nil, ↓guard_ite, ↓pick_ite, seval, encT_eq, inR_i64, e3, e4, hSa]); simp [Tm.mtL], fun i hi hne => ?_⟩ ?_
    · have i3 : ¬ i = 3 := by omega
      have i4 : ¬ i = 4 := by omega
      simp only [go_sem, List.forall_mem_nil, ↓guard_ite, ↓pick_ite, seval, encT_eq, inR_i64, i3, i4]
    rintro m ⟨env, S1⟩ ⟨k, hk, rfl, hok, e2, e3', e4', e44, e45, s3, s4, sa, hrest⟩
    simp only at e2 e3' e4' e44 e45 s3 s4 sa hrest
    have hend : ∀ (b : Bool) (r : List Bd) (env : Nat → AV) (S2 : AStore), env 6 = aBool b → S2 a0 = some (mapB r) → (∀ i, 1000 ≤ i → i ≠ a0 → S2 i = S i) → FinS C [.t 6] (aBool b) (updE S a0 (some (mapB r))) .ret ⟨env, S2⟩ := fun b r env S2 h6 h1 h2 =>
      finS_one (aBool b) hS ha0 rfl trivial (by simp only [resAll, resOne, tupV, h6, Option.map_some]) rfl h1 h2
    by_cases hlt : (k : Int) < p.args.length
    · obtain ⟨a, ha⟩ := get_lt (show k < p.args.length by omega)
      obtain ⟨c, hc⟩ := get_lt (show k < t.args.length by omega)
      have hstep := Tm.mtL_take hlen ha hc hok
      repeat' (first | (with_reducible first | refine Wa ?_ | refine Wb ?_ | refine Wc ?_ | refine Wd ?_ | refine We ?_ | refine Wf ?_ | refine Wg ?_ | refine Wh ?_ | refine Wi ?_ | refine Wj ?_ | refine Wk (by decide) ?_ | refine Wl ?_ | refine Wm ?_ | refine Wn ?_) | ((with_reducible first | refine Wo (fun K hK => ?_) | refine Wp ?_ | refine Wq ?_ | refine Wr ?_); (try simp only [go_sem, List.forall_mem_nil, ↓guard_ite, ↓pick_ite, seval, encT_eq, inR_i64, e2, e3', e4', e44, e45, s3, s4, sa, hlt, ha, hc, decide_eq_true_eq, decide_eq_false_iff_not, Int.ofNat_lt]); (repeat with_reducible refine And.intro (by first | omega | (with_reducible first | exact lens_encT | exact lens_encL | exact lens_encB | exact lens_encP) | (simp; done) | (simp only [List.length_take, List.length_map, List.length_append, maxLen_eq]; omega)) ?_); (try (with_reducible refine hK _ ?_; clear hK K)); (try with_reducible refine ite_conj ?_)))
      refine ⟨_, _, ih _ (Tm.lt_of_arg (mem_of_get ha)) a (by have := Tm.size_mem (mem_of_get ha); omega) rfl c (up1 a0) (Tm.mtL (p.args.take k) (t.args.take k) l).1 (upS S1) (up1_le a0) (by rw [upS_up, sa]; rfl), ?_⟩
      rw [← hstep]
      cases hb : (Tm.mtL (p.args.take (k + 1)) (t.args.take (k + 1)) l).2 with
      | true =>
        repeat' (first | (with_reducible first | refine Wa ?_ | refine Wb ?_ | refine Wc ?_ | refine Wd ?_ | refine We ?_ | refine Wf ?_ | refine Wg ?_ | refine Wh ?_ | refine Wi ?_ | refine Wj ?_ | refine Wk (by decide) ?_ | refine Wl ?_ | refine Wm ?_ | refine Wn ?_) | ((with_reducible first | refine Wo (fun K hK => ?_) | refine Wp ?_ | refine Wq ?_ | refine Wr ?_); (try simp only [go_sem, List.forall_mem_nil, ↓guard_ite, ↓pick_ite, seval, encT_eq, inR_i64, hb, e2, e3', e4', e44, e45, s3, s4, decide_eq_true_eq, decide_eq_false_iff_not, Int.ofNat_lt]); (repeat with_reducible refine And.intro (by first | omega | (with_reducible first | exact lens_encT | exact lens_encL | exact lens_encB | exact lens_encP) | (simp; done) | (simp only [List.length_take, List.length_map, List.length_append, maxLen_eq]; omega)) ?_); (try (with_reducible refine hK _ ?_; clear hK K)); (try with_reducible refine ite_conj ?_)))
        refine then_normal ⟨p.args.length - (k + 1), by omega, k + 1, by omega, rfl, hb, ?_⟩
        simp only [go_sem, List.forall_mem_nil, ↓guard_ite, ↓pick_ite, seval, encT_eq, inR_i64, e2, e3', e4', e44, s3, s4, d3, d4]
        refine ⟨by congr 3, fun i hi hne => ?_⟩
        simp only [go_sem, List.forall_mem_nil, ↓guard_ite, ↓pick_ite, seval, encT_eq, inR_i64, hne]
        exact hrest i hi hne
      | false =>
        have hno := Tm.mtL_no hlen hb
        repeat' (first | (with_reducible first | refine Wa ?_ | refine Wb ?_ | refine Wc ?_ | refine Wd ?_ | refine We ?_ | refine Wf ?_ | refine Wg ?_ | refine Wh ?_ | refine Wi ?_ | refine Wj ?_ | refine Wk (by decide) ?_ | refine Wl ?_ | refine Wm ?_ | refine Wn ?_) | ((with_reducible first | refine Wo (fun K hK => ?_) | refine Wp ?_ | refine Wq ?_ | refine Wr ?_); (try simp only [go_sem, List.forall_mem_nil, ↓guard_ite, ↓pick_ite, seval, encT_eq, inR_i64, hb, e2, e3', e4', e44, e45, s3, s4, decide_eq_true_eq, decide_eq_false_iff_not, Int.ofNat_lt]); (repeat with_reducible refine And.intro (by first | omega | (with_reducible first | exact lens_encT | exact lens_encL | exact lens_encB | exact lens_encP) | (simp; done) | (simp only [List.length_take, List.length_map, List.length_append, maxLen_eq]; omega)) ?_); (try (with_reducible refine hK _ ?_; clear hK K)); (try with_reducible refine ite_conj ?_)))
        rw [hknot, hno]
        refine hend false _ _ _ rfl (by simp only [go_sem, List.forall_mem_nil, ↓guard_ite, ↓pick_ite, seval, encT_eq, inR_i64]) fun i hi hne => ?_
        simp only [go_sem, List.forall_mem_nil, ↓guard_ite, ↓pick_ite, seval, encT_eq, inR_i64, hne]
        exact hrest i hi hne
    · rw [List.take_of_length_le (by omega), List.take_of_length_le (by omega)] at hok sa
      repeat' (first | (with_reducible first | refine Wa ?_ | refine Wb ?_ | refine Wc ?_ | refine Wd ?_ | refine We ?_ | refine Wf ?_ | refine Wg ?_ | refine Wh ?_ | refine Wi ?_ | refine Wj ?_ | refine Wk (by decide) ?_ | refine Wl ?_ | refine Wm ?_ | refine Wn ?_) | ((with_reducible first | refine Wo (fun K hK => ?_) | refine Wp ?_ | refine Wq ?_ | refine Wr ?_); (try simp only [go_sem, List.forall_mem_nil, ↓guard_ite, ↓pick_ite, seval, encT_eq, inR_i64, e44, e45, hlt, decide_eq_true_eq, decide_eq_false_iff_not, Int.ofNat_lt]); (repeat with_reducible refine And.intro (by first | omega | (with_reducible first | exact lens_encT | exact lens_encL | exact lens_encB | exact lens_encP) | (simp; done) | (simp only [List.length_take, List.length_map, List.length_append, maxLen_eq]; omega)) ?_); (try (with_reducible refine hK _ ?_; clear hK K)); (try with_reducible refine ite_conj ?_)))
      rw [hknot, hok]
      exact hend true _ _ _ rfl sa hrest

theorem sortB_perm_eq {l m : List Bd} (h : l.Perm m) (hn : Named m) : sortB l = sortB m :=
  ordered_unique (sortB_ordered (named_perm h.symm hn)) (sortB_ordered hn) ((sortB_perm l).trans (h.trans (sortB_perm m).symm))

theorem case_a (p t : Tm) (hp : p.size ≤ 100000) (ht : t.size ≤ 1000000) : ACalls Try.prog 67 [aTm p, aTm t] (.tup [aBds (caseOf p t), aBool (isCase p t)]) := by
  have hnm := mt_named p t
  have hml := mt_len p t
  have hms := mt_size p t
  refine ac_match_Case (Nat.le_of_ble_eq_true rfl) fun C hC => ?_
  unfold ir_match_Case
  repeat' (first | (with_reducible first | refine Wa ?_ | refine Wb ?_ | refine Wc ?_ | refine Wd ?_ | refine We ?_ | refine Wf ?_ | refine Wg ?_ | refine Wh ?_ | refine Wi ?_ | refine Wj ?_ | refine Wk (by decide) ?_ | refine Wl ?_ | refine Wm ?_ | refine Wn ?_) | ((with_reducible first | refine Wo (fun K hK => ?_) | refine Wp ?_ | refine Wq ?_ | refine Wr ?_); (try simp only [go_sem, List.forall_mem_nil, ↓guard_ite, ↓pick_ite, seval, encT_eq, inR_i64, decide_eq_true_eq, decide_eq_false_iff_not, Int.ofNat_lt]); (repeat with_reducible refine And.intro (by first | omega | (with_reducible first | exact lens_encT | exact lens_encL | exact lens_encB | exact lens_encP) | (simp; done) | (simp only [List.length_take, List.length_map, List.length_append, maxLen_eq]; omega)) ?_); (try (with_reducible refine hK _ ?_; clear hK K)); (try with_reducible refine ite_conj ?_)))
  refine ⟨_, _, into_M p (by omega) t (up1 10) [] _ (up1_le 10) (by rw [upS_up]; rfl), ?_⟩
  cases hc : (p.mt t []).2 with
  | false =>
    repeat' (first | (with_reducible first | refine Wa ?_ | refine Wb ?_ | refine Wc ?_ | refine Wd ?_ | refine We ?_ | refine Wf ?_ | refine Wg ?_ | refine Wh ?_ | refine Wi ?_ | refine Wj ?_ | refine Wk (by decide) ?_ | refine Wl ?_ | refine Wm ?_ | refine Wn ?_) | ((with_reducible first | refine Wo (fun K hK => ?_) | refine Wp ?_ | refine Wq ?_ | refine Wr ?_); (try simp only [go_sem, List.forall_mem_nil, ↓guard_ite, ↓pick_ite, seval, encT_eq, inR_i64, hc, decide_eq_true_eq, decide_eq_false_iff_not, Int.ofNat_lt]); (repeat with_reducible refine And.intro (by first | omega | (with_reducible first | exact lens_encT | exact lens_encL | exact lens_encB | exact lens_encP) | (simp; done) | (simp only [List.length_take, List.length_map, List.length_append, maxLen_eq]; omega)) ?_); (try (with_reducible refine hK _ ?_; clear hK K)); (try with_reducible refine ite_conj ?_)))
    simp only [go_sem, List.forall_mem_nil, ↓guard_ite, ↓pick_ite, seval, FinQ, AS.result, resAll, resOne, tupV]
    unfold caseOf isCase
    rw [hc]
    rfl
  | true =>
    have hca : caseOf p t = sortB (p.mt t []).1 := by unfold caseOf; rw [if_pos hc]
    have his : isCase p t = true := hc
    repeat' (first | (with_reducible first | refine Wa ?_ | refine Wb ?_ | refine Wc ?_ | refine Wd ?_ | refine We ?_ | refine Wf ?_ | refine Wg ?_ | refine Wh ?_ | refine Wi ?_ | refine Wj ?_ | refine Wk (by decide) ?_ | refine Wl ?_ | refine Wm ?_ | refine Wn ?_) | ((with_reducible first | refine Wo (fun K hK => ?_) | refine Wp ?_ | refine Wq ?_ | refine Wr ?_); (try simp only [go_sem, List.forall_mem_nil, ↓guard_ite, ↓pick_ite, seval, encT_eq, inR_i64, hc, mapOf, decide_eq_true_eq, decide_eq_false_iff_not, Int.ofNat_lt]); (repeat with_reducible refine And.intro (by first | omega | (with_reducible first | exact lens_encT | exact lens_encL | exact lens_encB | exact lens_encP) | (simp; done) | (simp only [List.length_take, List.length_map, List.length_append, maxLen_eq]; omega)) ?_); (try (with_reducible refine hK _ ?_; clear hK K)); (try with_reducible refine ite_conj ?_)))
    rw [hca, his]
    generalize (p.mt t []).1 = l at *
    refine IWP.ghost (Ghost.ownM 7 500 89 3 (by rfl) (by rfl) (by rw [hC]; decide)) ?_
    refine IWP.loopD [9] (fun m x => ∃ seen : List Nat, seen.Nodup ∧ (∀ j ∈ seen, j < l.length) ∧ m = l.length - seen.length ∧ x.env 7 = .one (.row 500 seen.length) ∧ x.env 17 = .one (.ptr 17 1 0 0) ∧ x.S 10 = some (mapB l) ∧ x.S 17 = some (.iter (.mptr 10) l.length seen) ∧ x.S 500 = some (rowBd (met l seen)) ∧ x.S 9 = none) l.length ⟨[], List.nodup_nil, by simp, rfl, rfl, rfl, by simp only [go_sem, List.forall_mem_nil, ↓guard_ite, ↓pick_ite, seval, encT_eq, inR_i64], by simp only [go_sem, List.forall_mem_nil, ↓guard_ite, ↓pick_ite, seval, encT_eq, inR_i64], rfl, rfl⟩ ?_
    rintro m ⟨env, S⟩ ⟨seen, hnd, hlt, rfl, e7, e17, s10, s17, s500, s9⟩
    simp only at e7 e17 s10 s17 s500 s9
    have hsl := seen_len hnd hlt
    have hmt := met_len hlt
    repeat' (first | (with_reducible first | refine Wa ?_ | refine Wb ?_ | refine Wc ?_ | refine Wd ?_ | refine We ?_ | refine Wf ?_ | refine Wg ?_ | refine Wh ?_ | refine Wi ?_ | refine Wj ?_ | refine Wk (by decide) ?_ | refine Wl ?_ | refine Wm ?_ | refine Wn ?_) | ((with_reducible first | refine Wo (fun K hK => ?_) | refine Wp ?_ | refine Wq ?_ | refine Wr ?_); (try simp only [go_sem, List.forall_mem_nil, ↓guard_ite, ↓pick_ite, seval, encT_eq, inR_i64, e7, e17, s10, s17, iterOf, decide_eq_true_eq, decide_eq_false_iff_not, Int.ofNat_lt]); (repeat with_reducible refine And.intro (by first | omega | (with_reducible first | exact lens_encT | exact lens_encL | exact lens_encB | exact lens_encP) | (simp; done) | (simp only [List.length_take, List.length_map, List.length_append, maxLen_eq]; omega)) ?_); (try (with_reducible refine hK _ ?_; clear hK K)); (try with_reducible refine ite_conj ?_)))
    refine ⟨fun hall => ?_, fun j x c hx hj hkv => ?_⟩
    · have hmp := met_perm hnd hlt hall
      have hl' : seen.length = l.length := by rw [← hmt]; exact hmp.length_eq
      refine hK _ ?_
      clear hK K
      refine Wb ?_
      refine Wa ?_
      with_reducible refine Wp ?_
      simp only [go_sem, List.forall_mem_nil, ↓guard_ite, ↓pick_ite, seval, true_implies, false_implies, implies_true, decide_eq_true_eq, decide_eq_false_iff_not, Int.ofNat_lt]
      (try with_reducible refine ite_conj ?_)
      repeat' (with_reducible first | refine Wb ?_ | refine Wc ?_ | refine Wd ?_ | refine We ?_ | refine Wg ?_ | refine Wh ?_ | refine Wi ?_ | refine Wj ?_ | refine Wk (by decide) ?_ | refine Wl ?_ | refine Wm ?_ | refine Wn ?_)
      refine IWP.mid (fun x => x.env 4 = .one (.row 500 l.length) ∧ x.env 5 = aBool true ∧ x.S 500 = some (rowBd (sortB l))) ?_ ?_
      · have hs := sort_M (met l seen) (named_perm hmp.symm hnm) (by omega) (up1 500) (up1_le 500) (upS S) (by rw [upS_up, s500]; rfl)
        rw [hmt, hl', sortB_perm_eq hmp hnm] at hs
        rw [hl'] at e7
        repeat' (first | (with_reducible first | refine Wa ?_ | refine Wb ?_ | refine Wc ?_ | refine Wd ?_ | refine We ?_ | refine Wf ?_ | refine Wg ?_ | refine Wh ?_ | refine Wi ?_ | refine Wj ?_ | refine Wk (by decide) ?_ | refine Wl ?_ | refine Wm ?_ | refine Wn ?_) | ((with_reducible first | refine Wo (fun K hK => ?_) | refine Wq ?_ | refine Wr ?_); (try simp only [go_sem, List.forall_mem_nil, ↓guard_ite, ↓pick_ite, seval, encT_eq, inR_i64, e7]); (repeat with_reducible refine And.intro (by first | omega | (with_reducible first | exact lens_encT | exact lens_encL | exact lens_encB | exact lens_encP) | (simp; done) | (simp only [List.length_take, List.length_map, List.length_append, maxLen_eq]; omega)) ?_); (try (with_reducible refine hK _ ?_; clear hK K))))
        refine ⟨_, _, hs, ?_⟩
        repeat' (first | (with_reducible first | refine Wa ?_ | refine Wb ?_ | refine Wc ?_ | refine Wd ?_ | refine We ?_ | refine Wf ?_ | refine Wg ?_ | refine Wh ?_ | refine Wi ?_ | refine Wj ?_ | refine Wk (by decide) ?_ | refine Wl ?_ | refine Wm ?_ | refine Wn ?_) | ((with_reducible first | refine Wo (fun K hK => ?_) | refine Wq ?_ | refine Wr ?_); (try simp only [go_sem, List.forall_mem_nil, ↓guard_ite, ↓pick_ite, seval, encT_eq, inR_i64, e7]); (repeat with_reducible refine And.intro (by first | omega | (with_reducible first | exact lens_encT | exact lens_encL | exact lens_encB | exact lens_encP) | (simp; done) | (simp only [List.length_take, List.length_map, List.length_append, maxLen_eq]; omega)) ?_); (try (with_reducible refine hK _ ?_; clear hK K))))
        refine ⟨rfl, ?_⟩
        simp only [go_sem, List.forall_mem_nil, ↓guard_ite, ↓pick_ite, seval, encT_eq, inR_i64]
      rintro ⟨env, S⟩ ⟨e4, e5, s500⟩
      simp only at e4 e5 s500
      refine IWP.ghost (Ghost.share (id := 500) s500) ?_
      repeat' (first | (with_reducible first | refine Wa ?_ | refine Wb ?_ | refine Wc ?_ | refine Wd ?_ | refine We ?_ | refine Wf ?_ | refine Wg ?_ | refine Wh ?_ | refine Wi ?_ | refine Wj ?_ | refine Wk (by decide) ?_ | refine Wl ?_ | refine Wm ?_ | refine Wn ?_) | ((with_reducible first | refine Wo (fun K hK => ?_) | refine Wq ?_ | refine Wr ?_); (try simp only [go_sem, List.forall_mem_nil, ↓guard_ite, ↓pick_ite, seval, encT_eq, inR_i64]); (repeat with_reducible refine And.intro (by first | omega | (with_reducible first | exact lens_encT | exact lens_encL | exact lens_encB | exact lens_encP) | (simp; done) | (simp only [List.length_take, List.length_map, List.length_append, maxLen_eq]; omega)) ?_); (try (with_reducible refine hK _ ?_; clear hK K))))
      simp only [go_sem, List.forall_mem_nil, ↓guard_ite, ↓pick_ite, seval, FinQ, AS.result, resAll, resOne, tupV, e4, e5, sortB_length]
    · rw [Option.map_eq_some_iff] at hx
      obtain ⟨b, hb, rfl⟩ := hx
      have hbz := hms b (mem_of_get hb)
      have hjl : j < l.length := by
        rcases Nat.lt_or_ge j l.length with h | h
        · exact h
        · rw [List.getElem?_eq_none h] at hb; cases hb
      have hcv : c = .str b.1 := by
        have : some (SV.str b.1) = some c := hkv
        cases this
        rfl
      subst hcv
      have hnd' : (seen ++ [j]).Nodup := by
        rw [List.nodup_append]
        exact ⟨hnd, by simp, fun a ha b hb e => hj (by rw [List.mem_singleton.1 hb] at e; rw [← e]; exact ha)⟩
      have hlt' : ∀ i ∈ seen ++ [j], i < l.length := fun i hi => by
        rcases List.mem_append.1 hi with h | h
        · exact hlt i h
        · rw [List.mem_singleton.1 h]; exact hjl
      have hsl' := seen_len hnd' hlt'
      rw [List.length_append, List.length_singleton] at hsl'
      refine hK _ ?_
      clear hK K
      refine Wb ?_
      repeat' (first | (with_reducible first | refine Wa ?_ | refine Wb ?_ | refine Wc ?_ | refine Wd ?_ | refine We ?_ | refine Wf ?_ | refine Wg ?_ | refine Wh ?_ | refine Wi ?_ | refine Wj ?_ | refine Wk (by decide) ?_ | refine Wl ?_ | refine Wm ?_ | refine Wn ?_) | refine CallG.mk _ (copy_a b.2 (by omega)) ?_ | ((with_reducible first | refine Wo (fun K hK => ?_) | refine Wp ?_ | refine Wq ?_ | refine Wr ?_); (try simp only [go_sem, List.forall_mem_nil, ↓guard_ite, ↓pick_ite, seval, encT_eq, inR_i64, e7, e17, s10, s17, s500, s9, iterOf, List.getLast?_concat, hb, entB, KV.sv, hmt, encB, decide_eq_true_eq, decide_eq_false_iff_not, Int.ofNat_lt]); (repeat with_reducible refine And.intro (by first | omega | (with_reducible first | exact lens_encT | exact lens_encL | exact lens_encB | exact lens_encP) | (simp; done) | (simp only [List.length_take, List.length_map, List.length_append, maxLen_eq]; omega)) ?_); (try (with_reducible refine hK _ ?_; clear hK K)); (try with_reducible refine ite_conj ?_)))
      refine then_normal ⟨l.length - (seen.length + 1), by omega, seen ++ [j], hnd', hlt', by rw [List.length_append, List.length_singleton], ?_⟩
      rw [met_snoc hb]
      simp only [go_sem, List.forall_mem_nil, ↓guard_ite, ↓pick_ite, seval, AS.drop, dropS, AC.clears, AC.clear, AC.highs, AC.high, Bool.not_false, Bool.true_and, Bool.and_self, AV.purge, AV.purges, AC.purge, ABlk.purge, List.contains_cons, List.contains_nil, Nat.reduceBEq, Bool.or_self, Bool.or_false, Bool.false_or, Bool.or_true, encT_eq, inR_i64, e7, e17, s10, s500]
      show ABlk.mrow _ _ ((met l seen).map encB ++ [encB b]) = rowBd _
      rw [rowBd, List.map_append]
      rfl
end Go.Proofs.Ytkekmeiiikkabaa

namespace Go.Proofs.Ytkekmeiiikkabaa
open Go Go.RowKit
set_option linter.unusedVariables false
set_option linter.unusedSimpArgs false
set_option maxHeartbeats 800000

/-- A term copied while so many knots are left: the term, and what is left; too great: nothing, and -1. -/
def fitIn (u : Tm) (left : Int) : Tm × Int := if (u.size : Int) ≤ left then (u, left - u.size) else (Tm.nil, -1)
abbrev mkBlk (s : List Bd) (left : Int) : ABlk := .box 94 [.st (.list (s.map encB)), .st (.int .i64 left)]
theorem fitIn_yes {u : Tm} {left : Int} (h : (u.size : Int) ≤ left) : fitIn u left = (u, left - u.size) := if_pos h
theorem fitIn_no {u : Tm} {left : Int} (h : ¬ (u.size : Int) ≤ left) : fitIn u left = (Tm.nil, -1) := if_neg h
theorem copy_core (s : List Bd) (h40 : s.length ≤ 100000) (ho : Ordered s) (turn : Bool) (f : Tm → Tm) (t : Tm) (hl : turn = true → lookup s t.name = none)
    (ih : ∀ a ∈ t.args, ∀ (a0 : Nat) (left : Int) (S : AStore), 1000 ≤ a0 → 0 ≤ left → left ≤ 1000000 → S a0 = some (mkBlk s left) →
      ACallsS Try.prog 75 [.one (.ptr a0 1 0 0), aTm a, aBool turn] S (aTm (fitIn (f a) left).1) (updE S a0 (some (mkBlk s (fitIn (f a) left).2))))
    (a0 : Nat) (left : Int) (S : AStore) (ha0 : 1000 ≤ a0) (h0 : 0 ≤ left) (h1 : left ≤ 1000000) (hSa : S a0 = some (mkBlk s left)) :
    ACallsS Try.prog 75 [.one (.ptr a0 1 0 0), aTm t, aBool turn] S (aTm (fitIn (.mk t.name (t.args.map f)) left).1) (updE S a0 (some (mkBlk s (fitIn (.mk t.name (t.args.map f)) left).2))) := by
  refine acS_metaprune_subst_maker_copy (Nat.le_of_ble_eq_true rfl) fun hS C hC => ?_
  have hu : (Tm.mk t.name (t.args.map f)).size = 1 + Tm.sizes (t.args.map f) := rfl
  have hlen := Tm.length_le (t.args.map f)
  rw [List.length_map] at hlen
  have n4 : S 4 = none := clean_none hS (by omega)
  have n6 : S 6 = none := clean_none hS (by omega)
  have n7 : S 7 = none := clean_none hS (by omega)
  have n9 : S 9 = none := clean_none hS (by omega)
  have n11 : S 11 = none := clean_none hS (by omega)
  have n900 : S 900 = none := clean_none hS (by omega)
  have d4 : ¬ 4 = a0 := by omega
  have d6 : ¬ 6 = a0 := by omega
  have d7 : ¬ 7 = a0 := by omega
  have d9 : ¬ 9 = a0 := by omega
  have d11 : ¬ 11 = a0 := by omega
  have d900 : ¬ 900 = a0 := by omega
  have e4 : ¬ a0 = 4 := by omega
  have e6 : ¬ a0 = 6 := by omega
  have e7 : ¬ a0 = 7 := by omega
  have e9 : ¬ a0 = 9 := by omega
  have e11 : ¬ a0 = 11 := by omega
  have e900 : ¬ a0 = 900 := by omega
  unfold ir_metaprune_subst_maker_copy
  cases turn
  case' false =>
    repeat' (first | (with_reducible first | refine Wa ?_ | refine Wb ?_ | refine Wc ?_ | refine Wd ?_ | refine We ?_ | refine Wf ?_ | refine Wg ?_ | refine Wh ?_ | refine Wi ?_ | refine Wj ?_ | refine Wk (by decide) ?_ | refine Wl ?_ | refine Wm ?_ | refine Wn ?_) | ((with_reducible first | refine Wo (fun K hK => ?_) | refine Wq ?_ | refine Wr ?_); (try simp only [go_sem, List.forall_mem_nil, ↓guard_ite, ↓pick_ite, seval, encT_eq, inR_i64, hSa, n4, n6, n7, d4, d6, d7, e4, e6, e7]); (repeat with_reducible refine And.intro (by first | omega | (with_reducible first | exact lens_encT | exact lens_encL | exact lens_encB | exact lens_encP) | (simp; done) | (simp only [List.length_take, List.length_map, List.length_append, maxLen_eq]; omega)) ?_); (try (with_reducible refine hK _ ?_; clear hK K))))
    with_reducible refine Wp ?_
    simp only [go_sem, List.forall_mem_nil, ↓guard_ite, ↓pick_ite, seval, true_implies, false_implies, implies_true, decide_eq_true_eq, decide_eq_false_iff_not, Int.ofNat_lt]
    (try with_reducible refine ite_conj ?_)
    repeat' (first | (with_reducible first | refine Wa ?_ | refine Wb ?_ | refine Wc ?_ | refine Wd ?_ | refine We ?_ | refine Wf ?_ | refine Wg ?_ | refine Wh ?_ | refine Wi ?_ | refine Wj ?_ | refine Wk (by decide) ?_ | refine Wl ?_ | refine Wm ?_ | refine Wn ?_) | ((with_reducible first | refine Wo (fun K hK => ?_) | refine Wq ?_ | refine Wr ?_); (try simp only [go_sem, List.forall_mem_nil, ↓guard_ite, ↓pick_ite, seval, encT_eq, inR_i64, hSa, n4, n6, n7, n9, d4, d6, d7, d9, e4, e6, e7, e9]); (repeat with_reducible refine And.intro (by first | omega | (with_reducible first | exact lens_encT | exact lens_encL | exact lens_encB | exact lens_encP) | (simp; done) | (simp only [List.length_take, List.length_map, List.length_append, maxLen_eq]; omega)) ?_); (try (with_reducible refine hK _ ?_; clear hK K))))
  case' true =>
    have hln := hl rfl
    repeat' (first | (with_reducible first | refine Wa ?_ | refine Wb ?_ | refine Wc ?_ | refine Wd ?_ | refine We ?_ | refine Wf ?_ | refine Wg ?_ | refine Wh ?_ | refine Wi ?_ | refine Wj ?_ | refine Wk (by decide) ?_ | refine Wl ?_ | refine Wm ?_ | refine Wn ?_) | ((with_reducible first | refine Wo (fun K hK => ?_) | refine Wq ?_ | refine Wr ?_); (try simp only [go_sem, List.forall_mem_nil, ↓guard_ite, ↓pick_ite, seval, encT_eq, inR_i64, hSa, n4, n6, n7, d4, d6, d7, e4, e6, e7]); (repeat with_reducible refine And.intro (by first | omega | (with_reducible first | exact lens_encT | exact lens_encL | exact lens_encB | exact lens_encP) | (simp; done) | (simp only [List.length_take, List.length_map, List.length_append, maxLen_eq]; omega)) ?_); (try (with_reducible refine hK _ ?_; clear hK K))))
    with_reducible refine Wp ?_
    simp only [go_sem, List.forall_mem_nil, ↓guard_ite, ↓pick_ite, seval, true_implies, false_implies, implies_true, decide_eq_true_eq, decide_eq_false_iff_not, Int.ofNat_lt]
    (try with_reducible refine ite_conj ?_)
    repeat' (first | (with_reducible first | refine Wa ?_ | refine Wb ?_ | refine Wc ?_ | refine Wd ?_ | refine We ?_ | refine Wf ?_ | refine Wg ?_ | refine Wh ?_ | refine Wi ?_ | refine Wj ?_ | refine Wk (by decide) ?_ | refine Wl ?_ | refine Wm ?_ | refine Wn ?_) | refine CallG.mk _ (find_a s h40 ho t.name) ?_ | ((with_reducible first | refine Wo (fun K hK => ?_) | refine Wq ?_ | refine Wr ?_); (try simp only [go_sem, List.forall_mem_nil, ↓guard_ite, ↓pick_ite, seval, encT_eq, inR_i64, hSa, n4, n6, n7, d4, d6, d7, e4, e6, e7, hln]); (repeat with_reducible refine And.intro (by first | omega | (with_reducible first | exact lens_encT | exact lens_encL | exact lens_encB | exact lens_encP) | (simp; done) | (simp only [List.length_take, List.length_map, List.length_append, maxLen_eq]; omega)) ?_); (try (with_reducible refine hK _ ?_; clear hK K))))
    with_reducible refine Wp ?_
    simp only [go_sem, List.forall_mem_nil, ↓guard_ite, ↓pick_ite, seval, true_implies, false_implies, implies_true, decide_eq_true_eq, decide_eq_false_iff_not, Int.ofNat_lt]
    (try with_reducible refine ite_conj ?_)
    repeat' (first | (with_reducible first | refine Wa ?_ | refine Wb ?_ | refine Wc ?_ | refine Wd ?_ | refine We ?_ | refine Wf ?_ | refine Wg ?_ | refine Wh ?_ | refine Wi ?_ | refine Wj ?_ | refine Wk (by decide) ?_ | refine Wl ?_ | refine Wm ?_ | refine Wn ?_) | ((with_reducible first | refine Wo (fun K hK => ?_) | refine Wq ?_ | refine Wr ?_); (try simp only [go_sem, List.forall_mem_nil, ↓guard_ite, ↓pick_ite, seval, encT_eq, inR_i64, hSa, n4, n6, n7, n9, d4, d6, d7, d9, e4, e6, e7, e9]); (repeat with_reducible refine And.intro (by first | omega | (with_reducible first | exact lens_encT | exact lens_encL | exact lens_encB | exact lens_encP) | (simp; done) | (simp only [List.length_take, List.length_map, List.length_append, maxLen_eq]; omega)) ?_); (try (with_reducible refine hK _ ?_; clear hK K))))
  all_goals
    by_cases hz : left = 0
    · subst hz
      have hno : ¬ ((Tm.mk t.name (t.args.map f)).size : Int) ≤ 0 := by rw [hu]; omega
      rw [fitIn_no hno]
      with_reducible refine Wp ?_
      simp only [go_sem, List.forall_mem_nil, ↓guard_ite, ↓pick_ite, seval, true_implies, false_implies, implies_true, decide_eq_true_eq, decide_eq_false_iff_not, Int.ofNat_lt]
      (try with_reducible refine ite_conj ?_)
      repeat' (first | (with_reducible first | refine Wa ?_ | refine Wb ?_ | refine Wc ?_ | refine Wd ?_ | refine We ?_ | refine Wf ?_ | refine Wg ?_ | refine Wh ?_ | refine Wi ?_ | refine Wj ?_ | refine Wk (by decide) ?_ | refine Wl ?_ | refine Wm ?_ | refine Wn ?_) | ((with_reducible first | refine Wo (fun K hK => ?_) | refine Wq ?_ | refine Wr ?_); (try simp only [go_sem, List.forall_mem_nil, ↓guard_ite, ↓pick_ite, seval, encT_eq, inR_i64, hSa, n4, n6, n7, n9, d4, d6, d7, d9, e4, e6, e7, e9]); (repeat with_reducible refine And.intro (by first | omega | (with_reducible first | exact lens_encT | exact lens_encL | exact lens_encB | exact lens_encP) | (simp; done) | (simp only [List.length_take, List.length_map, List.length_append, maxLen_eq]; omega)) ?_); (try (with_reducible refine hK _ ?_; clear hK K))))
      refine finS_one (.agg [.st (.str ⟨#[]⟩), .full []]) hS ha0 rfl trivial ?_ ?_ ?_ fun i hi hne => ?_
      · simp only [go_sem, List.forall_mem_nil, ↓guard_ite, ↓pick_ite, seval, encT_eq, inR_i64, resAll, resOne, tupV, e4, e6, e7, e9, d4, d6, d7, d9]
      · simp only [go_sem, List.forall_mem_nil, ↓guard_ite, ↓pick_ite, seval, encT_eq, inR_i64, Tm.nil]
        rfl
      · simp only [go_sem, List.forall_mem_nil, ↓guard_ite, ↓pick_ite, seval, encT_eq, inR_i64, e4, e6, e7, e9]
      · have i4 : ¬ i = 4 := by omega
        have i6 : ¬ i = 6 := by omega
        have i7 : ¬ i = 7 := by omega
        simp only [go_sem, List.forall_mem_nil, ↓guard_ite, ↓pick_ite, seval, encT_eq, inR_i64, i4, i6, i7, hne]
    have hz' : ¬ left - 1 < 0 := by omega
    with_reducible refine Wp ?_
    simp only [go_sem, List.forall_mem_nil, ↓guard_ite, ↓pick_ite, seval, true_implies, false_implies, implies_true, decide_eq_true_eq, decide_eq_false_iff_not, Int.ofNat_lt, hz']
    (try with_reducible refine ite_conj ?_)
    repeat' (first | (with_reducible first | refine Wa ?_ | refine Wb ?_ | refine Wc ?_ | refine Wd ?_ | refine We ?_ | refine Wf ?_ | refine Wg ?_ | refine Wh ?_ | refine Wi ?_ | refine Wj ?_ | refine Wk (by decide) ?_ | refine Wl ?_ | refine Wm ?_ | refine Wn ?_) | ((with_reducible first | refine Wo (fun K hK => ?_) | refine Wq ?_ | refine Wr ?_); (try simp only [go_sem, List.forall_mem_nil, ↓guard_ite, ↓pick_ite, seval, encT_eq, inR_i64, hSa, n4, n6, n7, n9, d4, d6, d7, d9, e4, e6, e7, e9]); (repeat with_reducible refine And.intro (by first | omega | (with_reducible first | exact lens_encT | exact lens_encL | exact lens_encB | exact lens_encP) | (simp; done) | (simp only [List.length_take, List.length_map, List.length_append, maxLen_eq]; omega)) ?_); (try (with_reducible refine hK _ ?_; clear hK K))))
    refine IWP.ghost (Ghost.ownC 9 1 900 25 2 (xs := ([] : List Tm).map encT) (by simp only [go_sem, List.forall_mem_nil, ↓guard_ite, ↓pick_ite, seval, encT_eq, inR_i64, d9, d4, d6, d7, e9]; rfl) rfl (by simp only [go_sem, List.forall_mem_nil, ↓guard_ite, ↓pick_ite, seval, encT_eq, inR_i64, n900, d900]) lens_encT) ?_
    refine IWP.loopD [11] (fun m x => ∃ k, k ≤ t.args.length ∧ m = t.args.length - k ∧ (Tm.sizes ((t.args.take k).map f) : Int) ≤ left - 1 ∧ x.env 0 = .one (.ptr a0 1 0 0) ∧ x.env 2 = aBool _ ∧ x.env 6 = .one (.ptr 6 1 0 0) ∧ x.env 9 = .one (.ptr 9 1 0 0) ∧ x.env 44 = .one (.st (.list (t.args.map encT))) ∧ x.env 45 = aInt t.args.length ∧ x.env 46 = aInt k ∧
        x.S 6 = some (.box 25 [.st (.str ⟨#[]⟩), .full []]) ∧ x.S 9 = some (.box 25 [.st (.str t.name), .row 900 k]) ∧ x.S 900 = some (.arow 25 2 (((t.args.take k).map f).map encT)) ∧ x.S 11 = none ∧ x.S a0 = some (mkBlk s (left - 1 - Tm.sizes ((t.args.take k).map f))) ∧ ∀ i, 1000 ≤ i → i ≠ a0 → x.S i = S i)
      t.args.length ⟨0, Nat.zero_le _, rfl, by show (0 : Int) ≤ _; omega, rfl, rfl, rfl, rfl, rfl, rfl, rfl, by simp only [go_sem, List.forall_mem_nil, ↓guard_ite, ↓pick_ite, seval, encT_eq, inR_i64, d6, d4, d7, d9, e6], by (simp only [go_sem, List.forall_mem_nil, ↓guard_ite, ↓pick_ite, seval, encT_eq, inR_i64, d9]); rfl, by simp only [go_sem, List.forall_mem_nil, ↓guard_ite, ↓pick_ite, seval, encT_eq, inR_i64, e9], by simp only [go_sem, List.forall_mem_nil, ↓guard_ite, ↓pick_ite, seval, encT_eq, inR_i64, n11, d11], by (simp only [go_sem, List.forall_mem_nil, ↓guard_ite, ↓pick_ite, seval, encT_eq, inR_i64, e9, e900]); simp [Tm.sizes], fun i hi hne => ?_⟩ ?_
    · have i4 : ¬ i = 4 := by omega
      have i6 : ¬ i = 6 := by omega
      have i7 : ¬ i = 7 := by omega
      have i9 : ¬ i = 9 := by omega
      have i900 : ¬ i = 900 := by omega
      simp only [go_sem, List.forall_mem_nil, ↓guard_ite, ↓pick_ite, seval, encT_eq, inR_i64, i4, i6, i7, i9, i900, hne]
    rintro m ⟨env, S1⟩ ⟨k, hk, rfl, hsz, e0, e2, e6', e9', e44, e45, e46, s6, s9, s900, s11, sa, hrest⟩
    simp only at e0 e2 e6' e9' e44 e45 e46 s6 s9 s900 s11 sa hrest
    have hlk : (t.args.take k).length = k := by rw [List.length_take]; omega
    have hle := Tm.sizes_take_le (t.args.map f) k
    rw [← List.map_take] at hle
    have hkl := Tm.length_le ((t.args.take k).map f)
    rw [List.length_map, hlk] at hkl
    by_cases hlt : (k : Int) < t.args.length
    · obtain ⟨a, ha⟩ := get_lt (show k < t.args.length by omega)
      have ha' : (t.args.map f)[k]? = some (f a) := by rw [List.getElem?_map, ha]; rfl
      have z1 := Tm.sizes_take ha'
      have z2 := Tm.sizes_take_le (t.args.map f) (k + 1)
      rw [← List.map_take, ← List.map_take] at z1
      rw [← List.map_take] at z2
      repeat' (first | (with_reducible first | refine Wa ?_ | refine Wb ?_ | refine Wc ?_ | refine Wd ?_ | refine We ?_ | refine Wf ?_ | refine Wg ?_ | refine Wh ?_ | refine Wi ?_ | refine Wj ?_ | refine Wk (by decide) ?_ | refine Wl ?_ | refine Wm ?_ | refine Wn ?_) | ((with_reducible first | refine Wo (fun K hK => ?_) | refine Wq ?_ | refine Wr ?_); (try simp only [go_sem, List.forall_mem_nil, ↓guard_ite, ↓pick_ite, seval, encT_eq, inR_i64, e0, e2, e6', e9', e44, e45, e46, s6, s9, s900, s11, sa, hlt]); (repeat with_reducible refine And.intro (by first | omega | (with_reducible first | exact lens_encT | exact lens_encL | exact lens_encB | exact lens_encP) | (simp; done) | (simp only [List.length_take, List.length_map, List.length_append, maxLen_eq]; omega)) ?_); (try (with_reducible refine hK _ ?_; clear hK K))))
      with_reducible refine Wp ?_
      simp only [go_sem, List.forall_mem_nil, ↓guard_ite, ↓pick_ite, seval, true_implies, false_implies, implies_true, decide_eq_true_eq, decide_eq_false_iff_not, Int.ofNat_lt, hlt]
      (try with_reducible refine ite_conj ?_)
      repeat' (first | (with_reducible first | refine Wa ?_ | refine Wb ?_ | refine Wc ?_ | refine Wd ?_ | refine We ?_ | refine Wf ?_ | refine Wg ?_ | refine Wh ?_ | refine Wi ?_ | refine Wj ?_ | refine Wk (by decide) ?_ | refine Wl ?_ | refine Wm ?_ | refine Wn ?_) | ((with_reducible first | refine Wo (fun K hK => ?_) | refine Wq ?_ | refine Wr ?_); (try simp only [go_sem, List.forall_mem_nil, ↓guard_ite, ↓pick_ite, seval, encT_eq, inR_i64, e0, e2, e6', e9', e44, e45, e46, s6, s9, s900, s11, sa, d11, d9, e11, ha]); (repeat with_reducible refine And.intro (by first | omega | (with_reducible first | exact lens_encT | exact lens_encL | exact lens_encB | exact lens_encP) | (simp; done) | (simp only [List.length_take, List.length_map, List.length_append, maxLen_eq]; omega)) ?_); (try (with_reducible refine hK _ ?_; clear hK K))))
      have hcall := ih a (mem_of_get ha) (up1 a0) (left - 1 - Tm.sizes ((t.args.take k).map f)) (upS (updE (updE S1 11 (some (.box 25 [.st (.str ⟨#[]⟩), .full []]))) 11 (some (.box 25 [.st (.str a.name), .st (.list (a.args.map encT))])))) (up1_le a0) (by omega) (by omega) (by rw [upS_up, updE_ne _ e11, updE_ne _ e11, sa]; rfl)
      by_cases hfit : ((f a).size : Int) ≤ left - 1 - Tm.sizes ((t.args.take k).map f)
      · rw [fitIn_yes hfit] at hcall
        refine ⟨_, _, hcall, ?_⟩
        have hge : ¬ left - 1 - Tm.sizes ((t.args.take k).map f) - (f a).size < 0 := by omega
        repeat' (first | (with_reducible first | refine Wa ?_ | refine Wb ?_ | refine Wc ?_ | refine Wd ?_ | refine We ?_ | refine Wf ?_ | refine Wg ?_ | refine Wh ?_ | refine Wi ?_ | refine Wj ?_ | refine Wk (by decide) ?_ | refine Wl ?_ | refine Wm ?_ | refine Wn ?_) | ((with_reducible first | refine Wo (fun K hK => ?_) | refine Wq ?_ | refine Wr ?_); (try simp only [go_sem, List.forall_mem_nil, ↓guard_ite, ↓pick_ite, seval, encT_eq, inR_i64, e0, e2, e6', e9', e44, e45, e46, s6, s9, s900, s11, d11, d9, e11, e9, e900, d900, hlk]); (repeat with_reducible refine And.intro (by first | omega | (with_reducible first | exact lens_encT | exact lens_encL | exact lens_encB | exact lens_encP) | (simp; done) | (simp only [List.length_take, List.length_map, List.length_append, maxLen_eq]; omega)) ?_); (try (with_reducible refine hK _ ?_; clear hK K))))
        with_reducible refine Wp ?_
        simp only [go_sem, List.forall_mem_nil, ↓guard_ite, ↓pick_ite, seval, true_implies, false_implies, implies_true, decide_eq_true_eq, decide_eq_false_iff_not, Int.ofNat_lt, hge]
        (try with_reducible refine ite_conj ?_)
        repeat' (first | (with_reducible first | refine Wa ?_ | refine Wb ?_ | refine Wc ?_ | refine Wd ?_ | refine We ?_ | refine Wf ?_ | refine Wg ?_ | refine Wh ?_ | refine Wi ?_ | refine Wj ?_ | refine Wk (by decide) ?_ | refine Wl ?_ | refine Wm ?_ | refine Wn ?_) | ((with_reducible first | refine Wo (fun K hK => ?_) | refine Wq ?_ | refine Wr ?_); (try simp only [go_sem, List.forall_mem_nil, ↓guard_ite, ↓pick_ite, seval, encT_eq, inR_i64, e0, e2, e6', e9', e44, e45, e46, s6, s9, s900, s11, d11, d9, e11]); (repeat with_reducible refine And.intro (by first | omega | (with_reducible first | exact lens_encT | exact lens_encL | exact lens_encB | exact lens_encP) | (simp; done) | (simp only [List.length_take, List.length_map, List.length_append, maxLen_eq]; omega)) ?_); (try (with_reducible refine hK _ ?_; clear hK K))))
        refine then_normal ⟨t.args.length - (k + 1), by omega, k + 1, by omega, rfl, ?_⟩
        have hib : (a0 == 11) = false := by simp; omega
        have hzz : ((Tm.sizes ((t.args.take (k + 1)).map f) : Nat) : Int) = Tm.sizes ((t.args.take k).map f) + (f a).size := by omega
        refine ⟨by omega, ?_⟩
        simp only [go_sem, List.forall_mem_nil, ↓guard_ite, ↓pick_ite, seval, AS.drop, dropS, AC.clears, AC.clear, AC.highs, AC.high, Bool.not_false, Bool.true_and, Bool.and_self, AV.purge, AV.purges, AC.purge, ABlk.purge, List.contains_cons, List.contains_nil, Nat.reduceBEq, Bool.or_self, Bool.or_false, Bool.false_or, Bool.or_true, encT_eq, inR_i64, e0, e2, e6', e9', e44, e45, s6, s9, s900, d11, d9, e11, e9, e900, d900, d6, hib]
        refine ⟨by congr 3, by rw [take_snoc ha, List.map_append, List.map_append, List.map_cons, List.map_nil, List.map_cons, List.map_nil, encT_eq], ?_, fun i hi hne => ?_⟩
        · congr 5
          omega
        · have i9 : ¬ i = 9 := by omega
          have i11 : ¬ i = 11 := by omega
          have i900 : ¬ i = 900 := by omega
          have i11b : (i == 11) = false := by simp; omega
          simp only [go_sem, List.forall_mem_nil, ↓guard_ite, ↓pick_ite, seval, AS.drop, dropS, AC.clears, AC.clear, AC.highs, AC.high, Bool.not_false, Bool.true_and, Bool.and_self, AV.purge, AV.purges, AC.purge, ABlk.purge, List.contains_cons, List.contains_nil, Nat.reduceBEq, Bool.or_self, Bool.or_false, Bool.false_or, Bool.or_true, encT_eq, inR_i64, i9, i11, i11b, i900, hne]
          rw [hrest i hi hne]
          exact purgeS (by decide) fun b hb => (hS i b hb).2
      · have hno : ¬ ((Tm.mk t.name (t.args.map f)).size : Int) ≤ left := by rw [hu]; omega
        rw [fitIn_no hfit] at hcall
        refine ⟨_, _, hcall, ?_⟩
        repeat' (first | (with_reducible first | refine Wa ?_ | refine Wb ?_ | refine Wc ?_ | refine Wd ?_ | refine We ?_ | refine Wf ?_ | refine Wg ?_ | refine Wh ?_ | refine Wi ?_ | refine Wj ?_ | refine Wk (by decide) ?_ | refine Wl ?_ | refine Wm ?_ | refine Wn ?_) | ((with_reducible first | refine Wo (fun K hK => ?_) | refine Wq ?_ | refine Wr ?_); (try simp only [go_sem, List.forall_mem_nil, ↓guard_ite, ↓pick_ite, seval, encT_eq, inR_i64, e0, e2, e6', e9', e44, e45, e46, s6, s9, s900, s11, d11, d9, e11, e9, e900, d900, hlk]); (repeat with_reducible refine And.intro (by first | omega | (with_reducible first | exact lens_encT | exact lens_encL | exact lens_encB | exact lens_encP) | (simp; done) | (simp only [List.length_take, List.length_map, List.length_append, maxLen_eq]; omega)) ?_); (try (with_reducible refine hK _ ?_; clear hK K))))
        with_reducible refine Wp ?_
        simp only [go_sem, List.forall_mem_nil, ↓guard_ite, ↓pick_ite, seval, true_implies, false_implies, implies_true, decide_eq_true_eq, decide_eq_false_iff_not, Int.ofNat_lt]
        (try with_reducible refine ite_conj ?_)
        repeat' (first | (with_reducible first | refine Wa ?_ | refine Wb ?_ | refine Wc ?_ | refine Wd ?_ | refine We ?_ | refine Wf ?_ | refine Wg ?_ | refine Wh ?_ | refine Wi ?_ | refine Wj ?_ | refine Wk (by decide) ?_ | refine Wl ?_ | refine Wm ?_ | refine Wn ?_) | ((with_reducible first | refine Wo (fun K hK => ?_) | refine Wq ?_ | refine Wr ?_); (try simp only [go_sem, List.forall_mem_nil, ↓guard_ite, ↓pick_ite, seval, encT_eq, inR_i64, e0, e2, e6', e9', e44, e45, e46, s6, s9, s900, s11, d11, d9, e11, e6, d6, d900, e900]); (repeat with_reducible refine And.intro (by first | omega | (with_reducible first | exact lens_encT | exact lens_encL | exact lens_encB | exact lens_encP) | (simp; done) | (simp only [List.length_take, List.length_map, List.length_append, maxLen_eq]; omega)) ?_); (try (with_reducible refine hK _ ?_; clear hK K))))
        rw [fitIn_no hno]
        refine finS_one (.agg [.st (.str ⟨#[]⟩), .full []]) hS ha0 rfl trivial ?_ ?_ ?_ fun i hi hne => ?_
        · simp only [go_sem, List.forall_mem_nil, ↓guard_ite, ↓pick_ite, seval, encT_eq, inR_i64, resAll, resOne, tupV, e6', s6, e6, e9, e11, e900, d6, d9, d11, d900]
        · simp only [go_sem, List.forall_mem_nil, ↓guard_ite, ↓pick_ite, seval, encT_eq, inR_i64, Tm.nil]
          rfl
        · simp only [go_sem, List.forall_mem_nil, ↓guard_ite, ↓pick_ite, seval, encT_eq, inR_i64, e6, e9, e11, e900]
        · have i6 : ¬ i = 6 := by omega
          have i9 : ¬ i = 9 := by omega
          have i11 : ¬ i = 11 := by omega
          have i900 : ¬ i = 900 := by omega
          simp only [go_sem, List.forall_mem_nil, ↓guard_ite, ↓pick_ite, seval, encT_eq, inR_i64, i6, i9, i11, i900, hne]
          exact hrest i hi hne
    · have hall : t.args.take k = t.args := List.take_of_length_le (by omega)
      rw [hall] at hlk s900 hsz sa
      have hyes : ((Tm.mk t.name (t.args.map f)).size : Int) ≤ left := by rw [hu]; omega
      repeat' (first | (with_reducible first | refine Wa ?_ | refine Wb ?_ | refine Wc ?_ | refine Wd ?_ | refine We ?_ | refine Wf ?_ | refine Wg ?_ | refine Wh ?_ | refine Wi ?_ | refine Wj ?_ | refine Wk (by decide) ?_ | refine Wl ?_ | refine Wm ?_ | refine Wn ?_) | ((with_reducible first | refine Wo (fun K hK => ?_) | refine Wq ?_ | refine Wr ?_); (try simp only [go_sem, List.forall_mem_nil, ↓guard_ite, ↓pick_ite, seval, encT_eq, inR_i64, e0, e2, e6', e9', e44, e45, e46, s6, s9, s900, s11, sa, hlt]); (repeat with_reducible refine And.intro (by first | omega | (with_reducible first | exact lens_encT | exact lens_encL | exact lens_encB | exact lens_encP) | (simp; done) | (simp only [List.length_take, List.length_map, List.length_append, maxLen_eq]; omega)) ?_); (try (with_reducible refine hK _ ?_; clear hK K))))
      with_reducible refine Wp ?_
      simp only [go_sem, List.forall_mem_nil, ↓guard_ite, ↓pick_ite, seval, true_implies, false_implies, implies_true, decide_eq_true_eq, decide_eq_false_iff_not, Int.ofNat_lt, hlt]
      (try with_reducible refine ite_conj ?_)
      repeat' (first | (with_reducible first | refine Wa ?_ | refine Wb ?_ | refine Wc ?_ | refine Wd ?_ | refine We ?_ | refine Wf ?_ | refine Wg ?_ | refine Wh ?_ | refine Wi ?_ | refine Wj ?_ | refine Wk (by decide) ?_ | refine Wl ?_ | refine Wm ?_ | refine Wn ?_) | ((with_reducible first | refine Wo (fun K hK => ?_) | refine Wq ?_ | refine Wr ?_); (try simp only [go_sem, List.forall_mem_nil, ↓guard_ite, ↓pick_ite, seval, encT_eq, inR_i64, e0, e2, e6', e9', e44, e45, e46, s6, s9, s900, s11, sa, d6]); (repeat with_reducible refine And.intro (by first | omega | (with_reducible first | exact lens_encT | exact lens_encL | exact lens_encB | exact lens_encP) | (simp; done) | (simp only [List.length_take, List.length_map, List.length_append, maxLen_eq]; omega)) ?_); (try (with_reducible refine hK _ ?_; clear hK K))))
      rw [fitIn_yes hyes]
      refine finS_one (.agg [.st (.str t.name), .row 900 k]) hS ha0 rfl trivial ?_ ?_ ?_ fun i hi hne => ?_
      · simp only [go_sem, List.forall_mem_nil, ↓guard_ite, ↓pick_ite, seval, encT_eq, inR_i64, resAll, resOne, tupV, e6', s6]
      · simp only [go_sem, List.forall_mem_nil, ↓guard_ite, ↓pick_ite, seval, encT_eq, inR_i64, s900, hlk]
        rfl
      · simp only [go_sem, List.forall_mem_nil, ↓guard_ite, ↓pick_ite, seval, encT_eq, inR_i64, e6, sa, hu]
        rw [show left - 1 - (Tm.sizes (t.args.map f) : Int) = left - ((1 + Tm.sizes (t.args.map f) : Nat) : Int) by omega]
      · have i6 : ¬ i = 6 := by omega
        simp only [go_sem, List.forall_mem_nil, ↓guard_ite, ↓pick_ite, seval, encT_eq, inR_i64, i6]
        exact hrest i hi hne

/-- Copied, nothing put in. -/
theorem copyF_a (s : List Bd) (h40 : s.length ≤ 100000) (ho : Ordered s) (t : Tm) : ∀ (a0 : Nat) (left : Int) (S : AStore), 1000 ≤ a0 → 0 ≤ left → left ≤ 1000000 → S a0 = some (mkBlk s left) →
    ACallsS Try.prog 75 [.one (.ptr a0 1 0 0), aTm t, aBool false] S (aTm (fitIn t left).1) (updE S a0 (some (mkBlk s (fitIn t left).2))) := by
  induction h : SizeOf.sizeOf t using Nat.strongRecOn generalizing t with
  | _ N ih =>
  subst h
  intro a0 left S h1 h2 h3 h4
  have := copy_core s h40 ho false id t (fun h => by cases h) (fun a ha => ih _ (Tm.lt_of_arg ha) a rfl) a0 left S h1 h2 h3 h4
  rw [List.map_id, Tm.eta] at this
  exact this
theorem copyT_a (s : List Bd) (h40 : s.length ≤ 100000) (ho : Ordered s) (t : Tm) (hv : ∀ b ∈ s, isVar b.1 = true) (hchk : t.chk = 0) : ∀ (a0 : Nat) (left : Int) (S : AStore), 1000 ≤ a0 → 0 ≤ left → left ≤ 1000000 → S a0 = some (mkBlk s left) →
    ACallsS Try.prog 75 [.one (.ptr a0 1 0 0), aTm t, aBool true] S (aTm (fitIn (t.on s) left).1) (updE S a0 (some (mkBlk s (fitIn (t.on s) left).2))) := by
  induction h : SizeOf.sizeOf t using Nat.strongRecOn generalizing t with
  | _ N ih =>
  subst h
  intro a0 left S ha0 h0 h1 hSa
  obtain ⟨c1, c2⟩ := Tm.chk_args hchk
  cases hl : lookup s t.name with
  | none =>
    have := copy_core s h40 ho true (Tm.on s) t (fun _ => hl) (fun a ha => ih _ (Tm.lt_of_arg ha) a (c2 a ha) rfl) a0 left S ha0 h0 h1 hSa
    rw [← Tm.on_knot (.inl hl)] at this
    exact this
  | some x =>
    obtain ⟨b, hb, hbn, _⟩ := lookup_mem hl
    have hargs := c1 (by rw [← hbn]; exact hv b hb)
    rw [Tm.on_leaf hl hargs]
    refine acS_metaprune_subst_maker_copy (Nat.le_of_ble_eq_true rfl) fun hS C hC => ?_
    have n4 : S 4 = none := clean_none hS (by omega)
    have n6 : S 6 = none := clean_none hS (by omega)
    have n7 : S 7 = none := clean_none hS (by omega)
    have e4 : ¬ a0 = 4 := by omega
    have e6 : ¬ a0 = 6 := by omega
    have e7 : ¬ a0 = 7 := by omega
    have d4 : ¬ 4 = a0 := by omega
    have d6 : ¬ 6 = a0 := by omega
    have d7 : ¬ 7 = a0 := by omega
    unfold ir_metaprune_subst_maker_copy
    repeat' (first | (with_reducible first | refine Wa ?_ | refine Wb ?_ | refine Wc ?_ | refine Wd ?_ | refine We ?_ | refine Wf ?_ | refine Wg ?_ | refine Wh ?_ | refine Wi ?_ | refine Wj ?_ | refine Wk (by decide) ?_ | refine Wl ?_ | refine Wm ?_ | refine Wn ?_) | ((with_reducible first | refine Wo (fun K hK => ?_) | refine Wq ?_ | refine Wr ?_); (try simp only [go_sem, List.forall_mem_nil, ↓guard_ite, ↓pick_ite, seval, encT_eq, inR_i64, hSa, n4, n6, n7, d4, d6, d7, e4, e6, e7]); (repeat with_reducible refine And.intro (by first | omega | (with_reducible first | exact lens_encT | exact lens_encL | exact lens_encB | exact lens_encP) | (simp; done) | (simp only [List.length_take, List.length_map, List.length_append, maxLen_eq]; omega)) ?_); (try (with_reducible refine hK _ ?_; clear hK K))))
    with_reducible refine Wp ?_
    simp only [go_sem, List.forall_mem_nil, ↓guard_ite, ↓pick_ite, seval, true_implies, false_implies, implies_true, decide_eq_true_eq, decide_eq_false_iff_not, Int.ofNat_lt]
    (try with_reducible refine ite_conj ?_)
    repeat' (first | (with_reducible first | refine Wa ?_ | refine Wb ?_ | refine Wc ?_ | refine Wd ?_ | refine We ?_ | refine Wf ?_ | refine Wg ?_ | refine Wh ?_ | refine Wi ?_ | refine Wj ?_ | refine Wk (by decide) ?_ | refine Wl ?_ | refine Wm ?_ | refine Wn ?_) | refine CallG.mk _ (find_a s h40 ho t.name) ?_ | ((with_reducible first | refine Wo (fun K hK => ?_) | refine Wq ?_ | refine Wr ?_); (try simp only [go_sem, List.forall_mem_nil, ↓guard_ite, ↓pick_ite, seval, encT_eq, inR_i64, hSa, n4, n6, n7, d4, d6, d7, e4, e6, e7, hl]); (repeat with_reducible refine And.intro (by first | omega | (with_reducible first | exact lens_encT | exact lens_encL | exact lens_encB | exact lens_encP) | (simp; done) | (simp only [List.length_take, List.length_map, List.length_append, maxLen_eq]; omega)) ?_); (try (with_reducible refine hK _ ?_; clear hK K))))
    with_reducible refine Wp ?_
    simp only [go_sem, List.forall_mem_nil, ↓guard_ite, ↓pick_ite, seval, true_implies, false_implies, implies_true, decide_eq_true_eq, decide_eq_false_iff_not, Int.ofNat_lt]
    (try with_reducible refine ite_conj ?_)
    repeat' (first | (with_reducible first | refine Wa ?_ | refine Wb ?_ | refine Wc ?_ | refine Wd ?_ | refine We ?_ | refine Wf ?_ | refine Wg ?_ | refine Wh ?_ | refine Wi ?_ | refine Wj ?_ | refine Wk (by decide) ?_ | refine Wl ?_ | refine Wm ?_ | refine Wn ?_) | ((with_reducible first | refine Wo (fun K hK => ?_) | refine Wq ?_ | refine Wr ?_); (try simp only [go_sem, List.forall_mem_nil, ↓guard_ite, ↓pick_ite, seval, encT_eq, inR_i64, hSa, n4, n6, n7, d4, d6, d7, e4, e6, e7]); (repeat with_reducible refine And.intro (by first | omega | (with_reducible first | exact lens_encT | exact lens_encL | exact lens_encB | exact lens_encP) | (simp; done) | (simp only [List.length_take, List.length_map, List.length_append, maxLen_eq]; omega)) ?_); (try (with_reducible refine hK _ ?_; clear hK K))))
    have hcall := fun S' h => copyF_a s h40 ho x (up1 a0) left S' (up1_le a0) h0 h1 h
    refine ⟨_, _, hcall _ (by rw [upS_up]; (simp only [go_sem, List.forall_mem_nil, ↓guard_ite, ↓pick_ite, seval, encT_eq, inR_i64, e4, e6, e7, hSa])), ?_⟩
    repeat' (first | (with_reducible first | refine Wa ?_ | refine Wb ?_ | refine Wc ?_ | refine Wd ?_ | refine We ?_ | refine Wf ?_ | refine Wg ?_ | refine Wh ?_ | refine Wi ?_ | refine Wj ?_ | refine Wk (by decide) ?_ | refine Wl ?_ | refine Wm ?_ | refine Wn ?_) | ((with_reducible first | refine Wo (fun K hK => ?_) | refine Wq ?_ | refine Wr ?_); (try simp only [go_sem, List.forall_mem_nil, ↓guard_ite, ↓pick_ite, seval, encT_eq, inR_i64, e4, e6, e7, d4, d6, d7]); (repeat with_reducible refine And.intro (by first | omega | (with_reducible first | exact lens_encT | exact lens_encL | exact lens_encB | exact lens_encP) | (simp; done) | (simp only [List.length_take, List.length_map, List.length_append, maxLen_eq]; omega)) ?_); (try (with_reducible refine hK _ ?_; clear hK K))))
    refine finS_one (aTm (fitIn x left).1) hS ha0 rfl trivial ?_ ?_ ?_ fun i hi hne => ?_
    · simp only [go_sem, List.forall_mem_nil, ↓guard_ite, ↓pick_ite, seval, encT_eq, inR_i64, resAll, resOne, tupV, e4, e6, e7, d4, d6, d7]
    · simp only [go_sem, List.forall_mem_nil, ↓guard_ite, ↓pick_ite, seval, encT_eq, inR_i64]
    · simp only [go_sem, List.forall_mem_nil, ↓guard_ite, ↓pick_ite, seval, encT_eq, inR_i64, e4, e6, e7]
    · have i4 : ¬ i = 4 := by omega
      have i6 : ¬ i = 6 := by omega
      have i7 : ¬ i = 7 := by omega
      simp only [go_sem, List.forall_mem_nil, ↓guard_ite, ↓pick_ite, seval, encT_eq, inR_i64, i4, i6, i7, hne]

/-- A term with bindings in it; too great: nothing. -/
theorem onP_a (s : List Bd) (h40 : s.length ≤ 100000) (ho : Ordered s) (t : Tm) (hv : ∀ b ∈ s, isVar b.1 = true) (hchk : t.chk = 0) : ACalls Try.prog 68 [aBds s, aTm t] (.tup [aTm (onTo s t).1, aBool (onTo s t).2]) := by
  refine ac_subst_On (Nat.le_of_ble_eq_true rfl) fun C hC => ?_
  unfold ir_subst_On
  repeat' (first | (with_reducible first | refine Wa ?_ | refine Wb ?_ | refine Wc ?_ | refine Wd ?_ | refine We ?_ | refine Wf ?_ | refine Wg ?_ | refine Wh ?_ | refine Wi ?_ | refine Wj ?_ | refine Wk (by decide) ?_ | refine Wl ?_ | refine Wm ?_ | refine Wn ?_) | ((with_reducible first | refine Wo (fun K hK => ?_) | refine Wq ?_ | refine Wr ?_); (try simp only [go_sem, List.forall_mem_nil, ↓guard_ite, ↓pick_ite, seval, encT_eq, inR_i64]); (repeat with_reducible refine And.intro (by first | omega | (with_reducible first | exact lens_encT | exact lens_encL | exact lens_encB | exact lens_encP) | (simp; done) | (simp only [List.length_take, List.length_map, List.length_append, maxLen_eq]; omega)) ?_); (try (with_reducible refine hK _ ?_; clear hK K))))
  have hcall := fun S' h => copyT_a s h40 ho t hv hchk (up1 10) 2000 S' (up1_le 10) (by omega) (by omega) h
  refine ⟨_, _, hcall _ (by rw [upS_up]; rfl), ?_⟩
  by_cases hfit : ((t.on s).size : Int) ≤ 2000
  · have e : onTo s t = (t.on s, true) := by
      unfold onTo
      rw [if_pos (by omega)]
    rw [fitIn_yes hfit]
    have hge : (0 : Int) ≤ 2000 - (t.on s).size := by omega
    repeat' (first | (with_reducible first | refine Wa ?_ | refine Wb ?_ | refine Wc ?_ | refine Wd ?_ | refine We ?_ | refine Wf ?_ | refine Wg ?_ | refine Wh ?_ | refine Wi ?_ | refine Wj ?_ | refine Wk (by decide) ?_ | refine Wl ?_ | refine Wm ?_ | refine Wn ?_) | ((with_reducible first | refine Wo (fun K hK => ?_) | refine Wq ?_ | refine Wr ?_); (try simp only [go_sem, List.forall_mem_nil, ↓guard_ite, ↓pick_ite, seval, encT_eq, inR_i64, hge]); (repeat with_reducible refine And.intro (by first | omega | (with_reducible first | exact lens_encT | exact lens_encL | exact lens_encB | exact lens_encP) | (simp; done) | (simp only [List.length_take, List.length_map, List.length_append, maxLen_eq]; omega)) ?_); (try (with_reducible refine hK _ ?_; clear hK K))))
    rw [e]
    simp only [go_sem, List.forall_mem_nil, ↓guard_ite, ↓pick_ite, seval, FinQ, AS.result, resAll, resOne, tupV]
  · have e : onTo s t = (Tm.nil, false) := by
      unfold onTo
      rw [if_neg (by omega)]
    rw [fitIn_no hfit]
    repeat' (first | (with_reducible first | refine Wa ?_ | refine Wb ?_ | refine Wc ?_ | refine Wd ?_ | refine We ?_ | refine Wf ?_ | refine Wg ?_ | refine Wh ?_ | refine Wi ?_ | refine Wj ?_ | refine Wk (by decide) ?_ | refine Wl ?_ | refine Wm ?_ | refine Wn ?_) | ((with_reducible first | refine Wo (fun K hK => ?_) | refine Wq ?_ | refine Wr ?_); (try simp only [go_sem, List.forall_mem_nil, ↓guard_ite, ↓pick_ite, seval, encT_eq, inR_i64]); (repeat with_reducible refine And.intro (by first | omega | (with_reducible first | exact lens_encT | exact lens_encL | exact lens_encB | exact lens_encP) | (simp; done) | (simp only [List.length_take, List.length_map, List.length_append, maxLen_eq]; omega)) ?_); (try (with_reducible refine hK _ ?_; clear hK K))))
    rw [e]
    simp only [go_sem, List.forall_mem_nil, ↓guard_ite, ↓pick_ite, seval, FinQ, AS.result, resAll, resOne, tupV]
end Go.Proofs.Ytkekmeiiikkabaa

namespace Go.Proofs.Ytkekmeiiikkabaa
open Go Go.RowKit
set_option maxRecDepth 100000

def ir_term_Size : IR :=
  (.seq
  (.ops
  [.mk (some 1) none (.box 25 (.t 0)) .no, .mk (some 2) none (.mov (.c (.one (.st (.int .i64 0)))))
  .no])
  (.seq
  (.ops
  [.mk (some 3) none (.mov (.c (.one (.st (.int .i64 1)))))
  .no])
  (.seq
  (.seq
  (.ops
  [.mk (some 6) none (.fieldAddr 1 (.t 1)) .no, .mk (some 7) none (.load false 1 (.t 6)) .no, .mk (some 8) none (.len false (.t 7)) .no, .mk (some 9) none (.mov (.c (.one (.st (.int .i64 0)))))
  .no])
  (.block 0
  (.loop
  (.seq
  (.ops
  [.mk (some 10) none (.bin .lss (.t 9) (.t 8))
  .no])
  (.seq (.cond (.t 10) .skip (.exit 0))
  (.seq
  (.block 1
  (.seq
  (.ops
  [.mk (some 11) none (.indexAddr 2 (.t 7) (.t 9))
  .no, .mk (some 12) none (.load true 2 (.t 11)) .no, .mk (some 5) none
  (.alloc 25 [.st (.str (ByteArray.mk (#[]))), .full []])
  .no, .mk none none (.store 2 (.t 5) (.t 12))
  .no])
  (.ops
  [.mk (some 13) none (.mov (.t 3)) .no, .mk (some 14) none (.load true 2 (.t 5)) .no, .mk (some 15) none (.call 43 [.t 14]) .no, .mk (some 16) none (.bin .add (.t 13) (.t 15))
  .no, .mk (some 3) none (.mov (.t 16)) .no])))
  (.ops
  [.mk (some 17) none (.bin .add (.t 9) (.c (.one (.st (.int .i64 1)))))
  .no, .mk (some 9) none (.mov (.t 17)) .no])))))))
  (.seq
  (.ops
  [.mk (some 18) none (.mov (.t 3)) .no, .mk (some 2) none (.mov (.t 18)) .no])
  .ret))))
theorem tr_term_Size : trCode Try.prog 19 [] (Try.f43.body.getD .skip) = some ir_term_Size := by kernel_rfl
theorem ac_term_Size {xs : List AV} {r : AV} (hn : xs.length ≤ 19) (h : ∀ C : Ctx, C.n = 19 → IWP Try.prog C [] ir_term_Size (FinQ [.t 2] r) (AS.start xs)) : ACalls Try.prog 43 xs r :=
  acalls_of Try.func43 rfl tr_term_Size rfl hn h
end Go.Proofs.Ytkekmeiiikkabaa

namespace Go.Proofs.Ytkekmeiiikkabaa
open Go Go.RowKit
set_option linter.unusedVariables false
set_option linter.unusedSimpArgs false
set_option maxHeartbeats 800000

theorem sizeP_a (t : Tm) (hz : t.size ≤ 1000000) : ACalls Try.prog 43 [aTm t] (aInt t.size) := by
  induction h : SizeOf.sizeOf t using Nat.strongRecOn generalizing t with
  | _ N ih =>
  subst h
  have hs := Tm.size_eq t
  have hln := Tm.length_le t.args
  refine ac_term_Size (Nat.le_of_ble_eq_true rfl) fun C hC => ?_
  unfold ir_term_Size
  repeat' (first | (with_reducible first | refine Wa ?_ | refine Wb ?_ | refine Wc ?_ | refine Wd ?_ | refine We ?_ | refine Wf ?_ | refine Wg ?_ | refine Wh ?_ | refine Wi ?_ | refine Wj ?_ | refine Wk (by decide) ?_ | refine Wl ?_ | refine Wm ?_ | refine Wn ?_) | ((with_reducible first | refine Wo (fun K hK => ?_) | refine Wp ?_ | refine Wq ?_ | refine Wr ?_); (try simp only [go_sem, List.forall_mem_nil, ↓guard_ite, ↓pick_ite, seval, encT_eq, inR_i64, decide_eq_true_eq, decide_eq_false_iff_not, Int.ofNat_lt]); (repeat with_reducible refine And.intro (by first | omega | (with_reducible first | exact lens_encT | exact lens_encL | exact lens_encB | exact lens_encP) | (simp; done) | (simp only [List.length_take, List.length_map, List.length_append, maxLen_eq]; omega)) ?_); (try (with_reducible refine hK _ ?_; clear hK K)); (try with_reducible refine ite_conj ?_)))
  refine IWP.loopD [5] (fun m s => ∃ k, k ≤ t.args.length ∧ m = t.args.length - k ∧ s.env 3 = aInt ((1 + Tm.sizes (t.args.take k) : Nat) : Int) ∧ s.env 7 = aTms t.args ∧ s.env 8 = aInt t.args.length ∧ s.env 9 = aInt k ∧ s.S 5 = none) t.args.length ⟨0, Nat.zero_le _, rfl, rfl, rfl, rfl, rfl, rfl⟩ ?_
  rintro m ⟨env, S⟩ ⟨k, hk, rfl, e3, e7, e8, e9, s5⟩
  simp only at e3 e7 e8 e9 s5
  by_cases hlt : (k : Int) < t.args.length
  · obtain ⟨a, ha⟩ := get_lt (show k < t.args.length by omega)
    have h1 := Tm.sizes_take ha
    have h2 := Tm.sizes_take_le t.args (k + 1)
    repeat' (first | (with_reducible first | refine Wa ?_ | refine Wb ?_ | refine Wc ?_ | refine Wd ?_ | refine We ?_ | refine Wf ?_ | refine Wg ?_ | refine Wh ?_ | refine Wi ?_ | refine Wj ?_ | refine Wk (by decide) ?_ | refine Wl ?_ | refine Wm ?_ | refine Wn ?_) | refine CallG.mk _ (ih _ (Tm.lt_of_arg (mem_of_get ha)) a (by omega) rfl) ?_ | ((with_reducible first | refine Wo (fun K hK => ?_) | refine Wp ?_ | refine Wq ?_ | refine Wr ?_); (try simp only [go_sem, List.forall_mem_nil, ↓guard_ite, ↓pick_ite, seval, encT_eq, inR_i64, e3, e7, e8, e9, s5, hlt, ha, decide_eq_true_eq, decide_eq_false_iff_not, Int.ofNat_lt]); (repeat with_reducible refine And.intro (by first | omega | (with_reducible first | exact lens_encT | exact lens_encL | exact lens_encB | exact lens_encP) | (simp; done) | (simp only [List.length_take, List.length_map, List.length_append, maxLen_eq]; omega)) ?_); (try (with_reducible refine hK _ ?_; clear hK K)); (try with_reducible refine ite_conj ?_)))
    refine then_normal ⟨t.args.length - (k + 1), by omega, k + 1, by omega, rfl, ?_⟩
    simp only [go_sem, List.forall_mem_nil, ↓guard_ite, ↓pick_ite, seval, AS.drop, dropS, AC.clears, AC.clear, AC.highs, AC.high, Bool.not_false, Bool.true_and, Bool.and_self, AV.purge, AV.purges, AC.purge, ABlk.purge, List.contains_cons, List.contains_nil, Nat.reduceBEq, Bool.or_self, Bool.or_false, Bool.false_or, Bool.or_true, encT_eq, inR_i64, e3, e7, e8, e9, s5]
    exact ⟨by rw [h1]; congr 3; omega, by congr 3⟩
  · repeat' (first | (with_reducible first | refine Wa ?_ | refine Wb ?_ | refine Wc ?_ | refine Wd ?_ | refine We ?_ | refine Wf ?_ | refine Wg ?_ | refine Wh ?_ | refine Wi ?_ | refine Wj ?_ | refine Wk (by decide) ?_ | refine Wl ?_ | refine Wm ?_ | refine Wn ?_) | ((with_reducible first | refine Wo (fun K hK => ?_) | refine Wp ?_ | refine Wq ?_ | refine Wr ?_); (try simp only [go_sem, List.forall_mem_nil, ↓guard_ite, ↓pick_ite, seval, encT_eq, inR_i64, e3, e7, e8, e9, hlt, decide_eq_true_eq, decide_eq_false_iff_not, Int.ofNat_lt]); (repeat with_reducible refine And.intro (by first | omega | (with_reducible first | exact lens_encT | exact lens_encL | exact lens_encB | exact lens_encP) | (simp; done) | (simp only [List.length_take, List.length_map, List.length_append, maxLen_eq]; omega)) ?_); (try (with_reducible refine hK _ ?_; clear hK K)); (try with_reducible refine ite_conj ?_)))
    simp only [go_sem, List.forall_mem_nil, ↓guard_ite, ↓pick_ite, seval, FinQ, AS.result, resAll, resOne, tupV]
    rw [List.take_of_length_le (by omega), hs]
end Go.Proofs.Ytkekmeiiikkabaa
