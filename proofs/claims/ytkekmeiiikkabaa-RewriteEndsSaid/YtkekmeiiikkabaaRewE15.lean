/-
  Part 15 of the texts: BRewC; IrClone; IrMatch; BMet; Shelf; BRowBd; IrSortM; BSort; IrSorted. Conditions: none.
-/
import Derived.Test.YtkekmeiiikkabaaRewE14
import Derived.Shelf.SlSortCmp.WholeK
import Derived.Shelf.SlSortCmp.NoneTotal
import Derived.Test.YtkekmeiiikkabaaProg
namespace Go.Proofs.Ytkekmeiiikkabaa
open Go Go.RowKit
set_option linter.unusedVariables false
set_option linter.unusedSimpArgs false
set_option maxHeartbeats 1000000

/-! ### rules that may be -/
abbrev boxS (vs : List ByteArray) : ABlk := .box 47 [.st (.list (vs.map encS))]
theorem check1_S (vs : List ByteArray) (x : ByteArray) (b : Nat) (hb : 1000 ≤ b) (S : AStore) (sb : S b = some (boxS vs)) : ACallsS Try.prog 36 [aStr x, .one (.ptr b 1 0 0)] S (aBool (!isIn x vs)) S := by
  refine acS_rewrite_Check_1 (Nat.le_of_ble_eq_true rfl) fun hS C hC => ?_
  unfold ir_rewrite_Check_1
  repeat' (first | (with_reducible first | refine Wa ?_ | refine Wb ?_ | refine Wc ?_ | refine Wd ?_ | refine We ?_ | refine Wf ?_ | refine Wg ?_ | refine Wh ?_ | refine Wi ?_ | refine Wj ?_ | refine Wk (by decide) ?_ | refine Wl ?_ | refine Wm ?_ | refine Wn ?_) | refine CallG.mk _ (contains_a vs x) ?_ | ((with_reducible first | refine Wo (fun K hK => ?_) | refine Wp ?_ | refine Wq ?_ | refine Wr ?_); (try simp only [go_sem, List.forall_mem_nil, ↓guard_ite, ↓pick_ite, seval, encT_eq, inR_i64, sb, decide_eq_true_eq, decide_eq_false_iff_not, Int.ofNat_lt]); (repeat with_reducible refine And.intro (by first | omega | (with_reducible first | exact lens_encT | exact lens_encL | exact lens_encB | exact lens_encP) | (simp; done) | (simp only [List.length_take, List.length_map, List.length_append, maxLen_eq]; omega)) ?_); (try (with_reducible refine hK _ ?_; clear hK K)); (try with_reducible refine ite_conj ?_)))
  refine finS_same (aBool (!isIn x vs)) hS trivial ?_ rfl fun _ _ => rfl
  simp [resAll, resOne, tupV, updE]
theorem idxS_iff {p : ByteArray → Bool} (xs : List ByteArray) : 0 ≤ (match xs.findIdx? p with | some i => (i : Int) | none => -1) ↔ xs.any p = true := by
  cases h : xs.findIdx? p with
  | some i =>
    rw [List.findIdx?_eq_some_iff_getElem] at h
    obtain ⟨h1, h2, _⟩ := h
    simp only [List.any_eq_true]
    exact ⟨fun _ => ⟨_, List.getElem_mem h1, h2⟩, fun _ => by omega⟩
  | none =>
    rw [List.findIdx?_eq_none_iff] at h
    constructor
    · intro h'
      exact absurd h' (by decide)
    · intro h'
      rw [List.any_eq_true] at h'
      obtain ⟨x, hx, hp⟩ := h'
      rw [h x hx] at hp
      cases hp
theorem findIdxS_at {p : ByteArray → Bool} {xs : List ByteArray} {k : Nat} {x : ByteArray} (hx : xs[k]? = some x) (h : (xs.take k).any p = false) (hp : p x = true) : xs.findIdx? p = some k := by
  obtain ⟨hk, he⟩ := List.getElem?_eq_some_iff.1 hx
  rw [List.findIdx?_eq_some_iff_getElem]
  refine ⟨hk, by rw [he]; exact hp, fun j hj => ?_⟩
  rw [List.any_eq_false] at h
  have := h (xs[j]'(by omega)) (by
    rw [List.mem_take_iff_getElem]
    exact ⟨j, by omega, rfl⟩)
  simpa using this
theorem any_takeS {p : ByteArray → Bool} {xs : List ByteArray} {k : Nat} {x : ByteArray} (hx : xs[k]? = some x) (h : (xs.take k).any p = false) : (xs.take (k + 1)).any p = p x := by
  rw [take_snoc hx, List.any_append, h]
  simp
theorem indexFuncS_S (vs xs : List ByteArray) (hl : xs.length ≤ 9223372036854775807) (b : Nat) (hb : 1000 ≤ b) (S : AStore) (sb : S b = some (boxS vs)) :
    ACallsS Try.prog 53 [aStrs xs, .one (.fn 36 [.ptr b 1 0 0])] S (aInt (match xs.findIdx? (fun x => !isIn x vs) with | some i => (i : Int) | none => -1)) S := by
  refine acS_slices_IndexFunc_string_string (Nat.le_of_ble_eq_true rfl) fun hS C hC => ?_
  unfold ir_slices_IndexFunc_string_string
  repeat' (first | (with_reducible first | refine Wa ?_ | refine Wb ?_ | refine Wc ?_ | refine Wd ?_ | refine We ?_ | refine Wf ?_ | refine Wg ?_ | refine Wh ?_ | refine Wi ?_ | refine Wj ?_ | refine Wk (by decide) ?_ | refine Wl ?_ | refine Wm ?_ | refine Wn ?_) | ((with_reducible first | refine Wo (fun K hK => ?_) | refine Wp ?_ | refine Wq ?_ | refine Wr ?_); (try simp only [go_sem, List.forall_mem_nil, ↓guard_ite, ↓pick_ite, seval, encT_eq, inR_i64, decide_eq_true_eq, decide_eq_false_iff_not, Int.ofNat_lt]); (repeat with_reducible refine And.intro (by first | omega | (with_reducible first | exact lens_encT | exact lens_encL | exact lens_encB | exact lens_encP) | (simp; done) | (simp only [List.length_take, List.length_map, List.length_append, maxLen_eq]; omega)) ?_); (try (with_reducible refine hK _ ?_; clear hK K)); (try with_reducible refine ite_conj ?_)))
  refine IWP.loop (fun n s => ∃ k, k ≤ xs.length ∧ n = xs.length - k ∧ (xs.take k).any (fun x => !isIn x vs) = false ∧ s.env 0 = aStrs xs ∧ s.env 1 = .one (.fn 36 [.ptr b 1 0 0]) ∧ s.env 7 = aInt xs.length ∧ s.env 8 = aInt k ∧ s.S = S) xs.length ⟨0, Nat.zero_le _, rfl, rfl, rfl, rfl, rfl, rfl, rfl⟩ ?_
  rintro n ⟨env, S'⟩ ⟨k, hk, rfl, hp, e0, e1, e7, e8, eS⟩
  simp only at e0 e1 e7 e8 eS
  subst eS
  by_cases hlt : (k : Int) < xs.length
  · obtain ⟨x, hx⟩ := get_lt (show k < xs.length by omega)
    have hst := any_takeS (p := fun x => !isIn x vs) hx hp
    have hc := check1_S vs x (up1 b) (up1_le b) (upS S') (by rw [upS_up, sb]; rfl)
    repeat' (first | (with_reducible first | refine Wa ?_ | refine Wb ?_ | refine Wc ?_ | refine Wd ?_ | refine We ?_ | refine Wf ?_ | refine Wg ?_ | refine Wh ?_ | refine Wi ?_ | refine Wj ?_ | refine Wk (by decide) ?_ | refine Wl ?_ | refine Wm ?_ | refine Wn ?_) | ((with_reducible first | refine Wo (fun K hK => ?_) | refine Wp ?_ | refine Wq ?_ | refine Wr ?_); (try simp only [go_sem, List.forall_mem_nil, ↓guard_ite, ↓pick_ite, seval, encT_eq, inR_i64, e0, e1, e7, e8, hlt, hx, decide_eq_true_eq, decide_eq_false_iff_not, Int.ofNat_lt]); (repeat with_reducible refine And.intro (by first | omega | (with_reducible first | exact lens_encT | exact lens_encL | exact lens_encB | exact lens_encP) | (simp; done) | (simp only [List.length_take, List.length_map, List.length_append, maxLen_eq]; omega)) ?_); (try (with_reducible refine hK _ ?_; clear hK K)); (try with_reducible refine ite_conj ?_)))
    first | refine ⟨by kernel_rfl, _, _, hc, ?_⟩ | refine ⟨_, _, hc, ?_⟩
    by_cases hr : (!isIn x vs) = true
    · have hi := findIdxS_at (p := fun x => !isIn x vs) hx hp hr
      repeat' (first | (with_reducible first | refine Wa ?_ | refine Wb ?_ | refine Wc ?_ | refine Wd ?_ | refine We ?_ | refine Wf ?_ | refine Wg ?_ | refine Wh ?_ | refine Wi ?_ | refine Wj ?_ | refine Wk (by decide) ?_ | refine Wl ?_ | refine Wm ?_ | refine Wn ?_) | ((with_reducible first | refine Wo (fun K hK => ?_) | refine Wp ?_ | refine Wq ?_ | refine Wr ?_); (try simp only [go_sem, List.forall_mem_nil, ↓guard_ite, ↓pick_ite, seval, encT_eq, inR_i64, e0, e1, e7, e8, hr, decide_eq_true_eq, decide_eq_false_iff_not, Int.ofNat_lt]); (repeat with_reducible refine And.intro (by first | omega | (with_reducible first | exact lens_encT | exact lens_encL | exact lens_encB | exact lens_encP) | (simp; done) | (simp only [List.length_take, List.length_map, List.length_append, maxLen_eq]; omega)) ?_); (try (with_reducible refine hK _ ?_; clear hK K)); (try with_reducible refine ite_conj ?_)))
      refine finS_same (aInt k) hS trivial ?_ ?_ fun j hj => ?_
      · simp [resAll, resOne, tupV, updE]
      · rw [hi]
        rfl
      · rfl
    · have hr' : (!isIn x vs) = false := by simpa using hr
      repeat' (first | (with_reducible first | refine Wa ?_ | refine Wb ?_ | refine Wc ?_ | refine Wd ?_ | refine We ?_ | refine Wf ?_ | refine Wg ?_ | refine Wh ?_ | refine Wi ?_ | refine Wj ?_ | refine Wk (by decide) ?_ | refine Wl ?_ | refine Wm ?_ | refine Wn ?_) | ((with_reducible first | refine Wo (fun K hK => ?_) | refine Wp ?_ | refine Wq ?_ | refine Wr ?_); (try simp only [go_sem, List.forall_mem_nil, ↓guard_ite, ↓pick_ite, seval, encT_eq, inR_i64, e0, e1, e7, e8, hr', decide_eq_true_eq, decide_eq_false_iff_not, Int.ofNat_lt]); (repeat with_reducible refine And.intro (by first | omega | (with_reducible first | exact lens_encT | exact lens_encL | exact lens_encB | exact lens_encP) | (simp; done) | (simp only [List.length_take, List.length_map, List.length_append, maxLen_eq]; omega)) ?_); (try (with_reducible refine hK _ ?_; clear hK K)); (try with_reducible refine ite_conj ?_)))
      refine then_normal ⟨xs.length - (k + 1), by omega, k + 1, by omega, rfl, ?_⟩
      simp only [go_sem, List.forall_mem_nil, ↓guard_ite, ↓pick_ite, seval, encT_eq, inR_i64, e0, e1, e7, e8]
      exact ⟨by rw [hst]; exact hr', by congr 3⟩
  · rw [List.take_of_length_le (by omega)] at hp
    have hi : xs.findIdx? (fun x => !isIn x vs) = none := by
      rw [List.findIdx?_eq_none_iff]
      intro x hx
      rw [List.any_eq_false] at hp
      simpa using hp x hx
    repeat' (first | (with_reducible first | refine Wa ?_ | refine Wb ?_ | refine Wc ?_ | refine Wd ?_ | refine We ?_ | refine Wf ?_ | refine Wg ?_ | refine Wh ?_ | refine Wi ?_ | refine Wj ?_ | refine Wk (by decide) ?_ | refine Wl ?_ | refine Wm ?_ | refine Wn ?_) | ((with_reducible first | refine Wo (fun K hK => ?_) | refine Wp ?_ | refine Wq ?_ | refine Wr ?_); (try simp only [go_sem, List.forall_mem_nil, ↓guard_ite, ↓pick_ite, seval, encT_eq, inR_i64, e0, e1, e7, e8, hlt, decide_eq_true_eq, decide_eq_false_iff_not, Int.ofNat_lt]); (repeat with_reducible refine And.intro (by first | omega | (with_reducible first | exact lens_encT | exact lens_encL | exact lens_encB | exact lens_encP) | (simp; done) | (simp only [List.length_take, List.length_map, List.length_append, maxLen_eq]; omega)) ?_); (try (with_reducible refine hK _ ?_; clear hK K)); (try with_reducible refine ite_conj ?_)))
    refine finS_same (aInt (-1)) hS trivial ?_ ?_ fun j hj => ?_
    · simp [resAll, resOne, tupV, updE]
    · rw [hi]
      rfl
    · rfl
theorem containsFuncS_S (vs xs : List ByteArray) (hl : xs.length ≤ 9223372036854775807) (b : Nat) (hb : 1000 ≤ b) (S : AStore) (sb : S b = some (boxS vs)) :
    ACallsS Try.prog 35 [aStrs xs, .one (.fn 36 [.ptr b 1 0 0])] S (aBool (xs.any fun x => !isIn x vs)) S := by
  have hi := idxS_iff (p := fun x => !isIn x vs) xs
  generalize (xs.any fun x => !isIn x vs) = bb at hi ⊢
  refine acS_slices_ContainsFunc_string_string (Nat.le_of_ble_eq_true rfl) fun hS C hC => ?_
  unfold ir_slices_ContainsFunc_string_string
  repeat' (first | (with_reducible first | refine Wa ?_ | refine Wb ?_ | refine Wc ?_ | refine Wd ?_ | refine We ?_ | refine Wf ?_ | refine Wg ?_ | refine Wh ?_ | refine Wi ?_ | refine Wj ?_ | refine Wk (by decide) ?_ | refine Wl ?_ | refine Wm ?_ | refine Wn ?_) | ((with_reducible first | refine Wo (fun K hK => ?_) | refine Wp ?_ | refine Wq ?_ | refine Wr ?_); (try simp only [go_sem, List.forall_mem_nil, ↓guard_ite, ↓pick_ite, seval, encT_eq, inR_i64, decide_eq_true_eq, decide_eq_false_iff_not, Int.ofNat_lt]); (repeat with_reducible refine And.intro (by first | omega | (with_reducible first | exact lens_encT | exact lens_encL | exact lens_encB | exact lens_encP) | (simp; done) | (simp only [List.length_take, List.length_map, List.length_append, maxLen_eq]; omega)) ?_); (try (with_reducible refine hK _ ?_; clear hK K)); (try with_reducible refine ite_conj ?_)))
  refine ⟨_, _, indexFuncS_S vs xs hl (up1 b) (up1_le b) (upS S) (by rw [upS_up, sb]; rfl), ?_⟩
  generalize (match xs.findIdx? (fun x => !isIn x vs) with | some i => (i : Int) | none => -1) = q at hi
  repeat' (first | (with_reducible first | refine Wa ?_ | refine Wb ?_ | refine Wc ?_ | refine Wd ?_ | refine We ?_ | refine Wf ?_ | refine Wg ?_ | refine Wh ?_ | refine Wi ?_ | refine Wj ?_ | refine Wk (by decide) ?_ | refine Wl ?_ | refine Wm ?_ | refine Wn ?_) | ((with_reducible first | refine Wo (fun K hK => ?_) | refine Wp ?_ | refine Wq ?_ | refine Wr ?_); (try simp only [go_sem, List.forall_mem_nil, ↓guard_ite, ↓pick_ite, seval, encT_eq, inR_i64, hi, decide_eq_true_eq, decide_eq_false_iff_not, Int.ofNat_lt]); (repeat with_reducible refine And.intro (by first | omega | (with_reducible first | exact lens_encT | exact lens_encL | exact lens_encB | exact lens_encP) | (simp; done) | (simp only [List.length_take, List.length_map, List.length_append, maxLen_eq]; omega)) ?_); (try (with_reducible refine hK _ ?_; clear hK K)); (try with_reducible refine ite_conj ?_)))
  refine finS_same (aBool bb) hS trivial ?_ ?_ fun j hj => ?_
  · simp [resAll, resOne, tupV, updE]
  · rfl
  · rfl
theorem varsOf_len (t : Tm) (h : t.size ≤ 200) : t.varsOf.length ≤ 1000 := by
  have h1 := addVars_length t.knots []
  rw [Tm.knots_length] at h1
  unfold Tm.varsOf
  simp only [List.length_nil] at h1
  omega
theorem rewCheck_a (R : List Pr) : ACalls Try.prog 11 [aPrs R] (aInt (rulesMay R)) := by
  have hm : rulesMay R = if 40 < R.length then 3 else errL ruleErr R := rfl
  refine ac_rewrite_Check (Nat.le_of_ble_eq_true rfl) fun C hC => ?_
  unfold ir_rewrite_Check
  by_cases h40 : (40 : Int) < R.length
  · repeat' (first | (with_reducible first | refine Wa ?_ | refine Wb ?_ | refine Wc ?_ | refine Wd ?_ | refine We ?_ | refine Wf ?_ | refine Wg ?_ | refine Wh ?_ | refine Wi ?_ | refine Wj ?_ | refine Wk (by decide) ?_ | refine Wl ?_ | refine Wm ?_ | refine Wn ?_) | ((with_reducible first | refine Wo (fun K hK => ?_) | refine Wp ?_ | refine Wq ?_ | refine Wr ?_); (try simp only [go_sem, List.forall_mem_nil, ↓guard_ite, ↓pick_ite, seval, encT_eq, inR_i64, h40, decide_eq_true_eq, decide_eq_false_iff_not, Int.ofNat_lt]); (repeat with_reducible refine And.intro (by first | omega | (with_reducible first | exact lens_encT | exact lens_encL | exact lens_encB | exact lens_encP) | (simp; done) | (simp only [List.length_take, List.length_map, List.length_append, maxLen_eq]; omega)) ?_); (try (with_reducible refine hK _ ?_; clear hK K)); (try with_reducible refine ite_conj ?_)))
    simp only [go_sem, List.forall_mem_nil, ↓guard_ite, ↓pick_ite, seval, FinQ, AS.result, resAll, resOne, tupV]
    rw [hm, if_pos (by omega)]
  rw [if_neg (by omega)] at hm
  repeat' (first | (with_reducible first | refine Wa ?_ | refine Wb ?_ | refine Wc ?_ | refine Wd ?_ | refine We ?_ | refine Wf ?_ | refine Wg ?_ | refine Wh ?_ | refine Wi ?_ | refine Wj ?_ | refine Wk (by decide) ?_ | refine Wl ?_ | refine Wm ?_ | refine Wn ?_) | ((with_reducible first | refine Wo (fun K hK => ?_) | refine Wp ?_ | refine Wq ?_ | refine Wr ?_); (try simp only [go_sem, List.forall_mem_nil, ↓guard_ite, ↓pick_ite, seval, encT_eq, inR_i64, h40, decide_eq_true_eq, decide_eq_false_iff_not, Int.ofNat_lt]); (repeat with_reducible refine And.intro (by first | omega | (with_reducible first | exact lens_encT | exact lens_encL | exact lens_encB | exact lens_encP) | (simp; done) | (simp only [List.length_take, List.length_map, List.length_append, maxLen_eq]; omega)) ?_); (try (with_reducible refine hK _ ?_; clear hK K)); (try with_reducible refine ite_conj ?_)))
  refine IWP.loopD [4, 6] (fun m s => ∃ k, k ≤ R.length ∧ m = R.length - k ∧ errL ruleErr (R.take k) = 0 ∧ s.env 10 = aPrs R ∧ s.env 11 = aInt R.length ∧ s.env 12 = aInt k ∧ s.S 4 = none ∧ s.S 6 = none) R.length ⟨0, Nat.zero_le _, rfl, rfl, rfl, rfl, rfl, rfl, rfl⟩ ?_
  rintro m ⟨env, S⟩ ⟨k, hk, rfl, h0, e10, e11, e12, s4, s6⟩
  simp only at e10 e11 e12 s4 s6
  by_cases hlt : (k : Int) < R.length
  · obtain ⟨r, hr⟩ := get_lt (show k < R.length by omega)
    obtain ⟨g1, g2⟩ := errL_get hr h0
    have re : ruleErr r = if twoMay r.1 r.2 = 0 then (if isVar r.1.name = true then 2 else if openR r = true then 15 else 0) else twoMay r.1 r.2 := rfl
    by_cases hz : twoMay r.1 r.2 = 0
    case neg =>
      repeat' (first | (with_reducible first | refine Wa ?_ | refine Wb ?_ | refine Wc ?_ | refine Wd ?_ | refine We ?_ | refine Wf ?_ | refine Wg ?_ | refine Wh ?_ | refine Wi ?_ | refine Wj ?_ | refine Wk (by decide) ?_ | refine Wl ?_ | refine Wm ?_ | refine Wn ?_) | refine CallG.mk _ (both_a r.1 r.2) ?_ | ((with_reducible first | refine Wo (fun K hK => ?_) | refine Wp ?_ | refine Wq ?_ | refine Wr ?_); (try simp only [go_sem, List.forall_mem_nil, ↓guard_ite, ↓pick_ite, seval, encT_eq, inR_i64, e10, e11, e12, s4, s6, hlt, hr, encP, hz, decide_eq_true_eq, decide_eq_false_iff_not, Int.ofNat_lt]); (repeat with_reducible refine And.intro (by first | omega | (with_reducible first | exact lens_encT | exact lens_encL | exact lens_encB | exact lens_encP) | (simp; done) | (simp only [List.length_take, List.length_map, List.length_append, maxLen_eq]; omega)) ?_); (try (with_reducible refine hK _ ?_; clear hK K)); (try with_reducible refine ite_conj ?_)))
      simp only [go_sem, List.forall_mem_nil, ↓guard_ite, ↓pick_ite, seval, FinQ, AS.result, resAll, resOne, tupV]
      rw [if_neg hz] at re
      rw [hm, g2 (by rw [re]; exact hz), re]
    case pos =>
    rw [if_pos hz] at re
    by_cases hv : isVar r.1.name = true
    · repeat' (first | (with_reducible first | refine Wa ?_ | refine Wb ?_ | refine Wc ?_ | refine Wd ?_ | refine We ?_ | refine Wf ?_ | refine Wg ?_ | refine Wh ?_ | refine Wi ?_ | refine Wj ?_ | refine Wk (by decide) ?_ | refine Wl ?_ | refine Wm ?_ | refine Wn ?_) | refine CallG.mk _ (both_a r.1 r.2) ?_ | refine CallG.mk _ (variable_a r.1.name) ?_ | ((with_reducible first | refine Wo (fun K hK => ?_) | refine Wp ?_ | refine Wq ?_ | refine Wr ?_); (try simp only [go_sem, List.forall_mem_nil, ↓guard_ite, ↓pick_ite, seval, encT_eq, inR_i64, e10, e11, e12, s4, s6, hlt, hr, encP, hz, hv, decide_eq_true_eq, decide_eq_false_iff_not, Int.ofNat_lt]); (repeat with_reducible refine And.intro (by first | omega | (with_reducible first | exact lens_encT | exact lens_encL | exact lens_encB | exact lens_encP) | (simp; done) | (simp only [List.length_take, List.length_map, List.length_append, maxLen_eq]; omega)) ?_); (try (with_reducible refine hK _ ?_; clear hK K)); (try with_reducible refine ite_conj ?_)))
      simp only [go_sem, List.forall_mem_nil, ↓guard_ite, ↓pick_ite, seval, FinQ, AS.result, resAll, resOne, tupV]
      rw [if_pos hv] at re
      rw [hm, g2 (by rw [re]; decide), re]
    rw [if_neg hv] at re
    have m12 : r.1.may = 0 ∧ r.2.may = 0 := by
      unfold twoMay at hz
      by_cases h4 : r.1.may = 0
      · rw [if_pos h4] at hz; exact ⟨h4, hz⟩
      · rw [if_neg h4] at hz; exact absurd hz h4
    have z1 := (Tm.may_chk m12.1).2
    have z2 := (Tm.may_chk m12.2).2
    have l2 := varsOf_len r.2 z2
    repeat' (first | (with_reducible first | refine Wa ?_ | refine Wb ?_ | refine Wc ?_ | refine Wd ?_ | refine We ?_ | refine Wf ?_ | refine Wg ?_ | refine Wh ?_ | refine Wi ?_ | refine Wj ?_ | refine Wk (by decide) ?_ | refine Wl ?_ | refine Wm ?_ | refine Wn ?_) | refine CallG.mk _ (both_a r.1 r.2) ?_ | refine CallG.mk _ (variable_a r.1.name) ?_ | refine CallG.mk _ (vars_a r.1 (by omega)) ?_ | refine CallG.mk _ (vars_a r.2 (by omega)) ?_ | ((with_reducible first | refine Wo (fun K hK => ?_) | refine Wp ?_ | refine Wq ?_ | refine Wr ?_); (try simp only [go_sem, List.forall_mem_nil, ↓guard_ite, ↓pick_ite, seval, encT_eq, inR_i64, e10, e11, e12, s4, s6, hlt, hr, encP, hz, hv, decide_eq_true_eq, decide_eq_false_iff_not, Int.ofNat_lt]); (repeat with_reducible refine And.intro (by first | omega | (with_reducible first | exact lens_encT | exact lens_encL | exact lens_encB | exact lens_encP) | (simp; done) | (simp only [List.length_take, List.length_map, List.length_append, maxLen_eq]; omega)) ?_); (try (with_reducible refine hK _ ?_; clear hK K)); (try with_reducible refine ite_conj ?_)))
    refine ⟨_, _, containsFuncS_S r.1.varsOf r.2.varsOf (by omega) (up1 6) (up1_le 6) _ (by rw [upS_up]; simp [updE]; rfl), ?_⟩
    have ho : openR r = r.2.varsOf.any fun v => !isIn v r.1.varsOf := rfl
    rw [← ho]
    by_cases hop : openR r = true
    · repeat' (first | (with_reducible first | refine Wa ?_ | refine Wb ?_ | refine Wc ?_ | refine Wd ?_ | refine We ?_ | refine Wf ?_ | refine Wg ?_ | refine Wh ?_ | refine Wi ?_ | refine Wj ?_ | refine Wk (by decide) ?_ | refine Wl ?_ | refine Wm ?_ | refine Wn ?_) | ((with_reducible first | refine Wo (fun K hK => ?_) | refine Wp ?_ | refine Wq ?_ | refine Wr ?_); (try simp only [go_sem, List.forall_mem_nil, ↓guard_ite, ↓pick_ite, seval, encT_eq, inR_i64, hop, decide_eq_true_eq, decide_eq_false_iff_not, Int.ofNat_lt]); (repeat with_reducible refine And.intro (by first | omega | (with_reducible first | exact lens_encT | exact lens_encL | exact lens_encB | exact lens_encP) | (simp; done) | (simp only [List.length_take, List.length_map, List.length_append, maxLen_eq]; omega)) ?_); (try (with_reducible refine hK _ ?_; clear hK K)); (try with_reducible refine ite_conj ?_)))
      simp only [go_sem, List.forall_mem_nil, ↓guard_ite, ↓pick_ite, seval, FinQ, AS.result, resAll, resOne, tupV]
      rw [if_pos hop] at re
      rw [hm, g2 (by rw [re]; decide), re]
    · rw [if_neg hop] at re
      simp only [Bool.not_eq_true] at hop
      repeat' (first | (with_reducible first | refine Wa ?_ | refine Wb ?_ | refine Wc ?_ | refine Wd ?_ | refine We ?_ | refine Wf ?_ | refine Wg ?_ | refine Wh ?_ | refine Wi ?_ | refine Wj ?_ | refine Wk (by decide) ?_ | refine Wl ?_ | refine Wm ?_ | refine Wn ?_) | ((with_reducible first | refine Wo (fun K hK => ?_) | refine Wp ?_ | refine Wq ?_ | refine Wr ?_); (try simp only [go_sem, List.forall_mem_nil, ↓guard_ite, ↓pick_ite, seval, encT_eq, inR_i64, hop, e10, e11, e12, decide_eq_true_eq, decide_eq_false_iff_not, Int.ofNat_lt]); (repeat with_reducible refine And.intro (by first | omega | (with_reducible first | exact lens_encT | exact lens_encL | exact lens_encB | exact lens_encP) | (simp; done) | (simp only [List.length_take, List.length_map, List.length_append, maxLen_eq]; omega)) ?_); (try (with_reducible refine hK _ ?_; clear hK K)); (try with_reducible refine ite_conj ?_)))
      refine then_normal ⟨R.length - (k + 1), by omega, k + 1, by omega, rfl, g1 re, ?_⟩
      simp only [go_sem, List.forall_mem_nil, ↓guard_ite, ↓pick_ite, seval, AS.drop, dropS, AC.clears, AC.clear, AC.highs, AC.high, Bool.not_false, Bool.true_and, Bool.and_self, AV.purge, AV.purges, AC.purge, ABlk.purge, List.contains_cons, List.contains_nil, Nat.reduceBEq, Bool.or_self, Bool.or_false, Bool.false_or, Bool.or_true, encT_eq, inR_i64, e10, e11, e12, s4, s6]
      congr 3
  · repeat' (first | (with_reducible first | refine Wa ?_ | refine Wb ?_ | refine Wc ?_ | refine Wd ?_ | refine We ?_ | refine Wf ?_ | refine Wg ?_ | refine Wh ?_ | refine Wi ?_ | refine Wj ?_ | refine Wk (by decide) ?_ | refine Wl ?_ | refine Wm ?_ | refine Wn ?_) | ((with_reducible first | refine Wo (fun K hK => ?_) | refine Wp ?_ | refine Wq ?_ | refine Wr ?_); (try simp only [go_sem, List.forall_mem_nil, ↓guard_ite, ↓pick_ite, seval, encT_eq, inR_i64, e10, e11, e12, hlt, decide_eq_true_eq, decide_eq_false_iff_not, Int.ofNat_lt]); (repeat with_reducible refine And.intro (by first | omega | (with_reducible first | exact lens_encT | exact lens_encL | exact lens_encB | exact lens_encP) | (simp; done) | (simp only [List.length_take, List.length_map, List.length_append, maxLen_eq]; omega)) ?_); (try (with_reducible refine hK _ ?_; clear hK K)); (try with_reducible refine ite_conj ?_)))
    simp only [go_sem, List.forall_mem_nil, ↓guard_ite, ↓pick_ite, seval, FinQ, AS.result, resAll, resOne, tupV]
    rw [List.take_of_length_le (by omega)] at h0
    rw [hm, h0]
theorem rewArgs_a (R : List Pr) (t : Tm) : ACalls Try.prog 30 [aPrs R, aTm t] (aInt (argsR R t)) := by
  have hm : argsR R t = if rulesMay R = 0 then t.may else rulesMay R := rfl
  refine ac_rewrite_Args (Nat.le_of_ble_eq_true rfl) fun C hC => ?_
  unfold ir_rewrite_Args
  by_cases h : rulesMay R = 0
  · rw [if_pos h] at hm
    repeat' (first | (with_reducible first | refine Wa ?_ | refine Wb ?_ | refine Wc ?_ | refine Wd ?_ | refine We ?_ | refine Wf ?_ | refine Wg ?_ | refine Wh ?_ | refine Wi ?_ | refine Wj ?_ | refine Wk (by decide) ?_ | refine Wl ?_ | refine Wm ?_ | refine Wn ?_) | refine CallG.mk _ (rewCheck_a R) ?_ | refine CallG.mk _ (checkT_a t) ?_ | ((with_reducible first | refine Wo (fun K hK => ?_) | refine Wp ?_ | refine Wq ?_ | refine Wr ?_); (try simp only [go_sem, List.forall_mem_nil, ↓guard_ite, ↓pick_ite, seval, encT_eq, inR_i64, h, decide_eq_true_eq, decide_eq_false_iff_not, Int.ofNat_lt]); (repeat with_reducible refine And.intro (by first | omega | (with_reducible first | exact lens_encT | exact lens_encL | exact lens_encB | exact lens_encP) | (simp; done) | (simp only [List.length_take, List.length_map, List.length_append, maxLen_eq]; omega)) ?_); (try (with_reducible refine hK _ ?_; clear hK K)); (try with_reducible refine ite_conj ?_)))
    simp only [go_sem, List.forall_mem_nil, ↓guard_ite, ↓pick_ite, seval, FinQ, AS.result, resAll, resOne, tupV]
    rw [hm]
  · rw [if_neg h] at hm
    repeat' (first | (with_reducible first | refine Wa ?_ | refine Wb ?_ | refine Wc ?_ | refine Wd ?_ | refine We ?_ | refine Wf ?_ | refine Wg ?_ | refine Wh ?_ | refine Wi ?_ | refine Wj ?_ | refine Wk (by decide) ?_ | refine Wl ?_ | refine Wm ?_ | refine Wn ?_) | refine CallG.mk _ (rewCheck_a R) ?_ | refine CallG.mk _ (checkT_a t) ?_ | ((with_reducible first | refine Wo (fun K hK => ?_) | refine Wp ?_ | refine Wq ?_ | refine Wr ?_); (try simp only [go_sem, List.forall_mem_nil, ↓guard_ite, ↓pick_ite, seval, encT_eq, inR_i64, h, decide_eq_true_eq, decide_eq_false_iff_not, Int.ofNat_lt]); (repeat with_reducible refine And.intro (by first | omega | (with_reducible first | exact lens_encT | exact lens_encL | exact lens_encB | exact lens_encP) | (simp; done) | (simp only [List.length_take, List.length_map, List.length_append, maxLen_eq]; omega)) ?_); (try (with_reducible refine hK _ ?_; clear hK K)); (try with_reducible refine ite_conj ?_)))
    simp only [go_sem, List.forall_mem_nil, ↓guard_ite, ↓pick_ite, seval, FinQ, AS.result, resAll, resOne, tupV]
    rw [hm]
def fuelMay (m : Int) : Int := if m < 0 ∨ 400 < m then 10 else 0
theorem fuel_a (m : Int) : ACalls Try.prog 39 [aInt m] (aInt (fuelMay m)) := by
  have hm : fuelMay m = if m < 0 ∨ 400 < m then 10 else 0 := rfl
  refine ac_rewrite_fuel (Nat.le_of_ble_eq_true rfl) fun C hC => ?_
  unfold ir_rewrite_fuel
  by_cases h1 : m < 0
  · repeat' (first | (with_reducible first | refine Wa ?_ | refine Wb ?_ | refine Wc ?_ | refine Wd ?_ | refine We ?_ | refine Wf ?_ | refine Wg ?_ | refine Wh ?_ | refine Wi ?_ | refine Wj ?_ | refine Wk (by decide) ?_ | refine Wl ?_ | refine Wm ?_ | refine Wn ?_) | ((with_reducible first | refine Wo (fun K hK => ?_) | refine Wp ?_ | refine Wq ?_ | refine Wr ?_); (try simp only [go_sem, List.forall_mem_nil, ↓guard_ite, ↓pick_ite, seval, encT_eq, inR_i64, h1, decide_eq_true_eq, decide_eq_false_iff_not, Int.ofNat_lt]); (repeat with_reducible refine And.intro (by first | omega | (with_reducible first | exact lens_encT | exact lens_encL | exact lens_encB | exact lens_encP) | (simp; done) | (simp only [List.length_take, List.length_map, List.length_append, maxLen_eq]; omega)) ?_); (try (with_reducible refine hK _ ?_; clear hK K)); (try with_reducible refine ite_conj ?_)))
    simp only [go_sem, List.forall_mem_nil, ↓guard_ite, ↓pick_ite, seval, FinQ, AS.result, resAll, resOne, tupV]
    rw [hm, if_pos (.inl h1)]
  · by_cases h2 : 400 < m
    · repeat' (first | (with_reducible first | refine Wa ?_ | refine Wb ?_ | refine Wc ?_ | refine Wd ?_ | refine We ?_ | refine Wf ?_ | refine Wg ?_ | refine Wh ?_ | refine Wi ?_ | refine Wj ?_ | refine Wk (by decide) ?_ | refine Wl ?_ | refine Wm ?_ | refine Wn ?_) | ((with_reducible first | refine Wo (fun K hK => ?_) | refine Wp ?_ | refine Wq ?_ | refine Wr ?_); (try simp only [go_sem, List.forall_mem_nil, ↓guard_ite, ↓pick_ite, seval, encT_eq, inR_i64, h1, h2, decide_eq_true_eq, decide_eq_false_iff_not, Int.ofNat_lt]); (repeat with_reducible refine And.intro (by first | omega | (with_reducible first | exact lens_encT | exact lens_encL | exact lens_encB | exact lens_encP) | (simp; done) | (simp only [List.length_take, List.length_map, List.length_append, maxLen_eq]; omega)) ?_); (try (with_reducible refine hK _ ?_; clear hK K)); (try with_reducible refine ite_conj ?_)))
      simp only [go_sem, List.forall_mem_nil, ↓guard_ite, ↓pick_ite, seval, FinQ, AS.result, resAll, resOne, tupV]
      rw [hm, if_pos (.inr h2)]
    · repeat' (first | (with_reducible first | refine Wa ?_ | refine Wb ?_ | refine Wc ?_ | refine Wd ?_ | refine We ?_ | refine Wf ?_ | refine Wg ?_ | refine Wh ?_ | refine Wi ?_ | refine Wj ?_ | refine Wk (by decide) ?_ | refine Wl ?_ | refine Wm ?_ | refine Wn ?_) | ((with_reducible first | refine Wo (fun K hK => ?_) | refine Wp ?_ | refine Wq ?_ | refine Wr ?_); (try simp only [go_sem, List.forall_mem_nil, ↓guard_ite, ↓pick_ite, seval, encT_eq, inR_i64, h1, h2, decide_eq_true_eq, decide_eq_false_iff_not, Int.ofNat_lt]); (repeat with_reducible refine And.intro (by first | omega | (with_reducible first | exact lens_encT | exact lens_encL | exact lens_encB | exact lens_encP) | (simp; done) | (simp only [List.length_take, List.length_map, List.length_append, maxLen_eq]; omega)) ?_); (try (with_reducible refine hK _ ?_; clear hK K)); (try with_reducible refine ite_conj ?_)))
      simp only [go_sem, List.forall_mem_nil, ↓guard_ite, ↓pick_ite, seval, FinQ, AS.result, resAll, resOne, tupV]
      rw [hm, if_neg (by omega)]
theorem rulesMayR_a (R : List Pr) : ACalls Try.prog 7 [aPrs R] (aInt (rulesMay R)) := by
  have hm : rulesMay R = if 40 < R.length then 3 else errL ruleErr R := rfl
  refine ac_R_RulesMay (Nat.le_of_ble_eq_true rfl) fun C hC => ?_
  unfold ir_R_RulesMay
  by_cases h40 : (40 : Int) < R.length
  · repeat' (first | (with_reducible first | refine Wa ?_ | refine Wb ?_ | refine Wc ?_ | refine Wd ?_ | refine We ?_ | refine Wf ?_ | refine Wg ?_ | refine Wh ?_ | refine Wi ?_ | refine Wj ?_ | refine Wk (by decide) ?_ | refine Wl ?_ | refine Wm ?_ | refine Wn ?_) | ((with_reducible first | refine Wo (fun K hK => ?_) | refine Wp ?_ | refine Wq ?_ | refine Wr ?_); (try simp only [go_sem, List.forall_mem_nil, ↓guard_ite, ↓pick_ite, seval, encT_eq, inR_i64, h40, decide_eq_true_eq, decide_eq_false_iff_not, Int.ofNat_lt]); (repeat with_reducible refine And.intro (by first | omega | (with_reducible first | exact lens_encT | exact lens_encL | exact lens_encB | exact lens_encP) | (simp; done) | (simp only [List.length_take, List.length_map, List.length_append, maxLen_eq]; omega)) ?_); (try (with_reducible refine hK _ ?_; clear hK K)); (try with_reducible refine ite_conj ?_)))
    simp only [go_sem, List.forall_mem_nil, ↓guard_ite, ↓pick_ite, seval, FinQ, AS.result, resAll, resOne, tupV]
    rw [hm, if_pos (by omega)]
  rw [if_neg (by omega)] at hm
  repeat' (first | (with_reducible first | refine Wa ?_ | refine Wb ?_ | refine Wc ?_ | refine Wd ?_ | refine We ?_ | refine Wf ?_ | refine Wg ?_ | refine Wh ?_ | refine Wi ?_ | refine Wj ?_ | refine Wk (by decide) ?_ | refine Wl ?_ | refine Wm ?_ | refine Wn ?_) | ((with_reducible first | refine Wo (fun K hK => ?_) | refine Wp ?_ | refine Wq ?_ | refine Wr ?_); (try simp only [go_sem, List.forall_mem_nil, ↓guard_ite, ↓pick_ite, seval, encT_eq, inR_i64, h40, decide_eq_true_eq, decide_eq_false_iff_not, Int.ofNat_lt]); (repeat with_reducible refine And.intro (by first | omega | (with_reducible first | exact lens_encT | exact lens_encL | exact lens_encB | exact lens_encP) | (simp; done) | (simp only [List.length_take, List.length_map, List.length_append, maxLen_eq]; omega)) ?_); (try (with_reducible refine hK _ ?_; clear hK K)); (try with_reducible refine ite_conj ?_)))
  refine IWP.loop (fun m s => ∃ k, k ≤ R.length ∧ m = R.length - k ∧ errL ruleErr (R.take k) = 0 ∧ s.env 0 = aPrs R ∧ s.env 3 = aInt k) R.length ⟨0, Nat.zero_le _, rfl, rfl, rfl, rfl⟩ ?_
  rintro m ⟨env, S⟩ ⟨k, hk, rfl, h0, e0, e3⟩
  simp only at e0 e3
  by_cases hlt : (k : Int) < R.length
  · obtain ⟨r, hr⟩ := get_lt (show k < R.length by omega)
    obtain ⟨g1, g2⟩ := errL_get hr h0
    have re : ruleErr r = if twoMay r.1 r.2 = 0 then (if isVar r.1.name = true then 2 else if openR r = true then 15 else 0) else twoMay r.1 r.2 := rfl
    by_cases hz : twoMay r.1 r.2 = 0
    case neg =>
      repeat' (first | (with_reducible first | refine Wa ?_ | refine Wb ?_ | refine Wc ?_ | refine Wd ?_ | refine We ?_ | refine Wf ?_ | refine Wg ?_ | refine Wh ?_ | refine Wi ?_ | refine Wj ?_ | refine Wk (by decide) ?_ | refine Wl ?_ | refine Wm ?_ | refine Wn ?_) | refine CallG.mk _ (twoMay_a r.1 r.2) ?_ | ((with_reducible first | refine Wo (fun K hK => ?_) | refine Wp ?_ | refine Wq ?_ | refine Wr ?_); (try simp only [go_sem, List.forall_mem_nil, ↓guard_ite, ↓pick_ite, seval, encT_eq, inR_i64, e0, e3, hlt, hr, encP, hz, decide_eq_true_eq, decide_eq_false_iff_not, Int.ofNat_lt]); (repeat with_reducible refine And.intro (by first | omega | (with_reducible first | exact lens_encT | exact lens_encL | exact lens_encB | exact lens_encP) | (simp; done) | (simp only [List.length_take, List.length_map, List.length_append, maxLen_eq]; omega)) ?_); (try (with_reducible refine hK _ ?_; clear hK K)); (try with_reducible refine ite_conj ?_)))
      simp only [go_sem, List.forall_mem_nil, ↓guard_ite, ↓pick_ite, seval, FinQ, AS.result, resAll, resOne, tupV]
      rw [if_neg hz] at re
      rw [hm, g2 (by rw [re]; exact hz), re]
    case pos =>
    rw [if_pos hz] at re
    by_cases hv : isVar r.1.name = true
    · repeat' (first | (with_reducible first | refine Wa ?_ | refine Wb ?_ | refine Wc ?_ | refine Wd ?_ | refine We ?_ | refine Wf ?_ | refine Wg ?_ | refine Wh ?_ | refine Wi ?_ | refine Wj ?_ | refine Wk (by decide) ?_ | refine Wl ?_ | refine Wm ?_ | refine Wn ?_) | refine CallG.mk _ (twoMay_a r.1 r.2) ?_ | refine CallG.mk _ (isVar_a r.1.name) ?_ | ((with_reducible first | refine Wo (fun K hK => ?_) | refine Wp ?_ | refine Wq ?_ | refine Wr ?_); (try simp only [go_sem, List.forall_mem_nil, ↓guard_ite, ↓pick_ite, seval, encT_eq, inR_i64, e0, e3, hlt, hr, encP, hz, hv, decide_eq_true_eq, decide_eq_false_iff_not, Int.ofNat_lt]); (repeat with_reducible refine And.intro (by first | omega | (with_reducible first | exact lens_encT | exact lens_encL | exact lens_encB | exact lens_encP) | (simp; done) | (simp only [List.length_take, List.length_map, List.length_append, maxLen_eq]; omega)) ?_); (try (with_reducible refine hK _ ?_; clear hK K)); (try with_reducible refine ite_conj ?_)))
      simp only [go_sem, List.forall_mem_nil, ↓guard_ite, ↓pick_ite, seval, FinQ, AS.result, resAll, resOne, tupV]
      rw [if_pos hv] at re
      rw [hm, g2 (by rw [re]; decide), re]
    rw [if_neg hv] at re
    have m12 : r.1.may = 0 ∧ r.2.may = 0 := by
      unfold twoMay at hz
      by_cases h4 : r.1.may = 0
      · rw [if_pos h4] at hz; exact ⟨h4, hz⟩
      · rw [if_neg h4] at hz; exact absurd hz h4
    have z1 := (Tm.may_chk m12.1).2
    have z2 := (Tm.may_chk m12.2).2
    have l2 := varsOf_len r.2 z2
    repeat' (first | (with_reducible first | refine Wa ?_ | refine Wb ?_ | refine Wc ?_ | refine Wd ?_ | refine We ?_ | refine Wf ?_ | refine Wg ?_ | refine Wh ?_ | refine Wi ?_ | refine Wj ?_ | refine Wk (by decide) ?_ | refine Wl ?_ | refine Wm ?_ | refine Wn ?_) | refine CallG.mk _ (twoMay_a r.1 r.2) ?_ | refine CallG.mk _ (isVar_a r.1.name) ?_ | refine CallG.mk _ (varsOf_a r.1 (by omega)) ?_ | refine CallG.mk _ (varsOf_a r.2 (by omega)) ?_ | ((with_reducible first | refine Wo (fun K hK => ?_) | refine Wp ?_ | refine Wq ?_ | refine Wr ?_); (try simp only [go_sem, List.forall_mem_nil, ↓guard_ite, ↓pick_ite, seval, encT_eq, inR_i64, e0, e3, hlt, hr, encP, hz, hv, decide_eq_true_eq, decide_eq_false_iff_not, Int.ofNat_lt]); (repeat with_reducible refine And.intro (by first | omega | (with_reducible first | exact lens_encT | exact lens_encL | exact lens_encB | exact lens_encP) | (simp; done) | (simp only [List.length_take, List.length_map, List.length_append, maxLen_eq]; omega)) ?_); (try (with_reducible refine hK _ ?_; clear hK K)); (try with_reducible refine ite_conj ?_)))
    have ho : openR r = r.2.varsOf.any fun v => !isIn v r.1.varsOf := rfl
    refine IWP.loop (fun m s => ∃ i, i ≤ r.2.varsOf.length ∧ m = r.2.varsOf.length - i ∧ (r.2.varsOf.take i).any (fun v => !isIn v r.1.varsOf) = false ∧ s.env 0 = aPrs R ∧ s.env 3 = aInt k ∧ s.env 5 = aStrs r.1.varsOf ∧ s.env 6 = aStrs r.2.varsOf ∧ s.env 7 = aInt i) r.2.varsOf.length ⟨0, Nat.zero_le _, rfl, rfl, ?_⟩ ?_
    · simp only [go_sem, List.forall_mem_nil, ↓guard_ite, ↓pick_ite, seval, encT_eq, inR_i64, e0, e3]
    rintro m ⟨env, S⟩ ⟨i, hi, rfl, hany, e0, e3, e5, e6, e7⟩
    simp only at e0 e3 e5 e6 e7
    by_cases hli : (i : Int) < r.2.varsOf.length
    · obtain ⟨v, hvi⟩ := get_lt (show i < r.2.varsOf.length by omega)
      by_cases hin : isIn v r.1.varsOf = true
      · repeat' (first | (with_reducible first | refine Wa ?_ | refine Wb ?_ | refine Wc ?_ | refine Wd ?_ | refine We ?_ | refine Wf ?_ | refine Wg ?_ | refine Wh ?_ | refine Wi ?_ | refine Wj ?_ | refine Wk (by decide) ?_ | refine Wl ?_ | refine Wm ?_ | refine Wn ?_) | refine CallG.mk _ (in_a v r.1.varsOf) ?_ | ((with_reducible first | refine Wo (fun K hK => ?_) | refine Wp ?_ | refine Wq ?_ | refine Wr ?_); (try simp only [go_sem, List.forall_mem_nil, ↓guard_ite, ↓pick_ite, seval, encT_eq, inR_i64, e0, e3, e5, e6, e7, hli, hvi, hin, decide_eq_true_eq, decide_eq_false_iff_not, Int.ofNat_lt]); (repeat with_reducible refine And.intro (by first | omega | (with_reducible first | exact lens_encT | exact lens_encL | exact lens_encB | exact lens_encP) | (simp; done) | (simp only [List.length_take, List.length_map, List.length_append, maxLen_eq]; omega)) ?_); (try (with_reducible refine hK _ ?_; clear hK K)); (try with_reducible refine ite_conj ?_)))
        refine then_normal ⟨r.2.varsOf.length - (i + 1), by omega, i + 1, by omega, rfl, ?_, ?_⟩
        · rw [any_takeS hvi hany, hin]
          rfl
        · simp only [go_sem, List.forall_mem_nil, ↓guard_ite, ↓pick_ite, seval, encT_eq, inR_i64, e0, e3, e5, e6, e7]
          congr 3
      · have hop : openR r = true := by
          rw [ho, List.any_eq_true]
          exact ⟨v, mem_of_get hvi, by simpa using hin⟩
        repeat' (first | (with_reducible first | refine Wa ?_ | refine Wb ?_ | refine Wc ?_ | refine Wd ?_ | refine We ?_ | refine Wf ?_ | refine Wg ?_ | refine Wh ?_ | refine Wi ?_ | refine Wj ?_ | refine Wk (by decide) ?_ | refine Wl ?_ | refine Wm ?_ | refine Wn ?_) | refine CallG.mk _ (in_a v r.1.varsOf) ?_ | ((with_reducible first | refine Wo (fun K hK => ?_) | refine Wp ?_ | refine Wq ?_ | refine Wr ?_); (try simp only [go_sem, List.forall_mem_nil, ↓guard_ite, ↓pick_ite, seval, encT_eq, inR_i64, e0, e3, e5, e6, e7, hli, hvi, hin, decide_eq_true_eq, decide_eq_false_iff_not, Int.ofNat_lt]); (repeat with_reducible refine And.intro (by first | omega | (with_reducible first | exact lens_encT | exact lens_encL | exact lens_encB | exact lens_encP) | (simp; done) | (simp only [List.length_take, List.length_map, List.length_append, maxLen_eq]; omega)) ?_); (try (with_reducible refine hK _ ?_; clear hK K)); (try with_reducible refine ite_conj ?_)))
        simp only [go_sem, List.forall_mem_nil, ↓guard_ite, ↓pick_ite, seval, FinQ, AS.result, resAll, resOne, tupV]
        rw [if_pos hop] at re
        rw [hm, g2 (by rw [re]; decide), re]
    · rw [List.take_of_length_le (by omega), ← ho] at hany
      rw [if_neg (by rw [hany]; decide)] at re
      repeat' (first | (with_reducible first | refine Wa ?_ | refine Wb ?_ | refine Wc ?_ | refine Wd ?_ | refine We ?_ | refine Wf ?_ | refine Wg ?_ | refine Wh ?_ | refine Wi ?_ | refine Wj ?_ | refine Wk (by decide) ?_ | refine Wl ?_ | refine Wm ?_ | refine Wn ?_) | ((with_reducible first | refine Wo (fun K hK => ?_) | refine Wp ?_ | refine Wq ?_ | refine Wr ?_); (try simp only [go_sem, List.forall_mem_nil, ↓guard_ite, ↓pick_ite, seval, encT_eq, inR_i64, e0, e3, e5, e6, e7, hli, decide_eq_true_eq, decide_eq_false_iff_not, Int.ofNat_lt]); (repeat with_reducible refine And.intro (by first | omega | (with_reducible first | exact lens_encT | exact lens_encL | exact lens_encB | exact lens_encP) | (simp; done) | (simp only [List.length_take, List.length_map, List.length_append, maxLen_eq]; omega)) ?_); (try (with_reducible refine hK _ ?_; clear hK K)); (try with_reducible refine ite_conj ?_)))
      refine then_normal ⟨R.length - (k + 1), by omega, k + 1, by omega, rfl, g1 re, ?_⟩
      simp only [go_sem, List.forall_mem_nil, ↓guard_ite, ↓pick_ite, seval, encT_eq, inR_i64, e0, e3]
      congr 3
  · repeat' (first | (with_reducible first | refine Wa ?_ | refine Wb ?_ | refine Wc ?_ | refine Wd ?_ | refine We ?_ | refine Wf ?_ | refine Wg ?_ | refine Wh ?_ | refine Wi ?_ | refine Wj ?_ | refine Wk (by decide) ?_ | refine Wl ?_ | refine Wm ?_ | refine Wn ?_) | ((with_reducible first | refine Wo (fun K hK => ?_) | refine Wp ?_ | refine Wq ?_ | refine Wr ?_); (try simp only [go_sem, List.forall_mem_nil, ↓guard_ite, ↓pick_ite, seval, encT_eq, inR_i64, e0, e3, hlt, decide_eq_true_eq, decide_eq_false_iff_not, Int.ofNat_lt]); (repeat with_reducible refine And.intro (by first | omega | (with_reducible first | exact lens_encT | exact lens_encL | exact lens_encB | exact lens_encP) | (simp; done) | (simp only [List.length_take, List.length_map, List.length_append, maxLen_eq]; omega)) ?_); (try (with_reducible refine hK _ ?_; clear hK K)); (try with_reducible refine ite_conj ?_)))
    simp only [go_sem, List.forall_mem_nil, ↓guard_ite, ↓pick_ite, seval, FinQ, AS.result, resAll, resOne, tupV]
    rw [List.take_of_length_le (by omega)] at h0
    rw [hm, h0]
end Go.Proofs.Ytkekmeiiikkabaa

namespace Go.Proofs.Ytkekmeiiikkabaa
open Go Go.RowKit
set_option maxRecDepth 100000

def ir_slices_Clone_metaprune_api_Term_metaprune_api_Term : IR :=
  (.seq
  (.ops
  [.mk (some 2) none (.mov (.c (.one (.full []))))
  .no])
  (.seq
  (.seq
  (.ops
  [.mk (some 3) none (.mov (.t 0)) .no, .mk (some 4) none (.eqN false (.t 3)) .no])
  (.cond (.t 4)
  (.seq
  (.ops
  [.mk (some 2) none (.mov (.c (.one (.full []))))
  .no])
  .ret)
  .skip))
  (.seq
  (.ops
  [.mk (some 5) none (.buildSlice false 25 2 []) .no, .mk (some 6) none (.mov (.t 0)) .no, .mk (some 7) none (.append true 25 2 40 (.t 5) (.t 6))
  .no, .mk (some 2) none (.mov (.t 7)) .no])
  .ret)))
theorem tr_slices_Clone_metaprune_api_Term_metaprune_api_Term : trCode Try.prog 8 [7] (Try.f57.body.getD .skip) = some ir_slices_Clone_metaprune_api_Term_metaprune_api_Term := by kernel_rfl
theorem acS_slices_Clone_metaprune_api_Term_metaprune_api_Term {xs : List AV} {S S' : AStore} {r : AV} (hn : xs.length ≤ 8) (h : Clean S → ∀ C : Ctx, C.n = 8 → IWP Try.prog C [7] ir_slices_Clone_metaprune_api_Term_metaprune_api_Term (FinS C [.t 2] r S') (AS.startS xs S)) : ACallsS Try.prog 57 xs S r S' :=
  acallsS_of Try.func57 rfl tr_slices_Clone_metaprune_api_Term_metaprune_api_Term rfl hn h

end Go.Proofs.Ytkekmeiiikkabaa

namespace Go.Proofs.Ytkekmeiiikkabaa
open Go Go.RowKit
set_option maxRecDepth 100000

def ir_match_into : IR :=
  (.seq
  (.ops
  [.mk (some 3) none (.box 25 (.t 0)) .no, .mk (some 4) none (.box 25 (.t 1)) .no, .mk (some 6) none (.mov (.c (.one (.st (.bool false)))))
  .no])
  (.seq
  (.seq
  (.ops
  [.mk (some 10) none (.fieldAddr 0 (.t 3)) .no, .mk (some 11) none (.load false 1 (.t 10)) .no, .mk (some 12) none (.call 33 [.t 11]) .no])
  (.cond (.t 12)
  (.seq
  (.seq
  (.ops
  [.mk (some 14) none (.mov (.t 2)) .no, .mk (some 15) none (.fieldAddr 0 (.t 3)) .no, .mk (some 16) none (.load false 1 (.t 15)) .no, .mk (some 17) none
  (.lookup none true
  (.agg [.st (.str (ByteArray.mk (#[]))), .full []]) (.t 14) (.t 16))
  .no, .mk (some 13) none (.mov (.t 17)) .no, .mk (some 18) none (.extract 0 (.t 13)) .no, .mk (some 19) none (.extract 1 (.t 13)) .no, .mk (some 7) none
  (.alloc 25 [.st (.str (ByteArray.mk (#[]))), .full []])
  .no, .mk none none (.store 2 (.t 7) (.t 18)) .no, .mk (some 8) none (.mov (.t 19)) .no])
  (.seq
  (.ops [.mk (some 20) none (.mov (.t 8)) .no])
  (.cond (.t 20)
  (.seq
  (.ops
  [.mk (some 21) none (.load true 2 (.t 7)) .no, .mk (some 22) none (.load true 2 (.t 4)) .no, .mk (some 23) none (.call 60 [.t 21, .t 22])
  .no, .mk (some 6) none (.mov (.t 23)) .no])
  .ret)
  .skip)))
  (.seq
  (.ops
  [.mk (some 24) none (.mov (.t 2)) .no, .mk (some 25) none (.fieldAddr 0 (.t 3)) .no, .mk (some 26) none (.load false 1 (.t 25)) .no, .mk (some 27) none (.load true 2 (.t 4)) .no, .mk none none
  (.mapSet none (.t 24) (.t 26) (.t 27)) .no])
  (.seq
  (.ops
  [.mk (some 6) none (.mov (.c (.one (.st (.bool true)))))
  .no])
  .ret)))
  .skip))
  (.seq
  (.seq
  (.ops
  [.mk (some 28) none (.fieldAddr 0 (.t 3)) .no, .mk (some 29) none (.load false 1 (.t 28)) .no, .mk (some 30) none (.fieldAddr 0 (.t 4)) .no, .mk (some 31) none (.load false 1 (.t 30)) .no, .mk (some 32) none (.bin .neq (.t 29) (.t 31))
  .no, .mk (some 33) none (.mov (.t 32)) .no, .mk (some 34) (some (33, false)) (.fieldAddr 1 (.t 3)) .no, .mk (some 35) (some (33, false)) (.load false 1 (.t 34)) .no, .mk (some 36) (some (33, false)) (.len false (.t 35)) .no, .mk (some 37) (some (33, false)) (.fieldAddr 1 (.t 4)) .no, .mk (some 38) (some (33, false)) (.load false 1 (.t 37)) .no, .mk (some 39) (some (33, false)) (.len false (.t 38)) .no, .mk (some 40) (some (33, false)) (.bin .neq (.t 36) (.t 39))
  .no, .mk (some 41) none
  (.pick (.t 33) (.c (.one (.st (.bool true)))) (.t 40))
  .no])
  (.cond (.t 41)
  (.seq
  (.ops
  [.mk (some 6) none (.mov (.c (.one (.st (.bool false)))))
  .no])
  .ret)
  .skip))
  (.seq
  (.seq
  (.ops
  [.mk (some 42) none (.fieldAddr 1 (.t 3)) .no, .mk (some 43) none (.load false 1 (.t 42)) .no, .mk (some 44) none (.len false (.t 43)) .no, .mk (some 45) none (.mov (.c (.one (.st (.int .i64 0)))))
  .no])
  (.block 0
  (.loop
  (.seq
  (.ops
  [.mk (some 46) none (.bin .lss (.t 45) (.t 44))
  .no])
  (.seq (.cond (.t 46) .skip (.exit 0))
  (.seq
  (.block 1
  (.seq
  (.ops
  [.mk (some 47) none (.mov (.t 45)) .no, .mk (some 9) none (.mov (.t 47)) .no])
  (.seq
  (.ops
  [.mk (some 48) none (.fieldAddr 1 (.t 3)) .no, .mk (some 49) none (.load false 1 (.t 48)) .no, .mk (some 50) none (.mov (.t 9)) .no, .mk (some 51) none (.indexAddr 2 (.t 49) (.t 50))
  .no, .mk (some 52) none (.load true 2 (.t 51)) .no, .mk (some 53) none (.fieldAddr 1 (.t 4)) .no, .mk (some 54) none (.load false 1 (.t 53)) .no, .mk (some 55) none (.mov (.t 9)) .no, .mk (some 56) none (.indexAddr 2 (.t 54) (.t 55))
  .no, .mk (some 57) none (.load true 2 (.t 56)) .no, .mk (some 58) none (.mov (.t 2)) .no, .mk (some 59) none
  (.callS 73 [.t 52, .t 57, .t 58]) .no, .mk (some 60) none (.un .not (.t 59)) .no])
  (.cond (.t 60)
  (.seq
  (.ops
  [.mk (some 6) none (.mov (.c (.one (.st (.bool false)))))
  .no])
  .ret)
  .skip))))
  (.ops
  [.mk (some 61) none (.bin .add (.t 45) (.c (.one (.st (.int .i64 1)))))
  .no, .mk (some 45) none (.mov (.t 61)) .no])))))))
  (.seq
  (.ops
  [.mk (some 6) none (.mov (.c (.one (.st (.bool true)))))
  .no])
  .ret)))))
theorem tr_match_into : trCode Try.prog 62 [59] (Try.f73.body.getD .skip) = some ir_match_into := by kernel_rfl
theorem acS_match_into {xs : List AV} {S S' : AStore} {r : AV} (hn : xs.length ≤ 62) (h : Clean S → ∀ C : Ctx, C.n = 62 → IWP Try.prog C [59] ir_match_into (FinS C [.t 6] r S') (AS.startS xs S)) : ACallsS Try.prog 73 xs S r S' :=
  acallsS_of Try.func73 rfl tr_match_into rfl hn h

def ir_match_Case : IR :=
  (.seq
  (.ops
  [.mk (some 2) none (.box 25 (.t 0)) .no, .mk (some 3) none (.box 25 (.t 1)) .no, .mk (some 4) none (.mov (.c (.one (.full []))))
  .no, .mk (some 5) none (.mov (.c (.one (.st (.bool false)))))
  .no])
  (.seq
  (.ops
  [.mk (some 10) none (.makeMap none) .no, .mk (some 6) none (.mov (.t 10)) .no])
  (.seq
  (.seq
  (.ops
  [.mk (some 11) none (.load true 2 (.t 2)) .no, .mk (some 12) none (.load true 2 (.t 3)) .no, .mk (some 13) none (.mov (.t 6)) .no, .mk (some 14) none (.callS 73 [.t 11, .t 12, .t 13])
  .no, .mk (some 15) none (.un .not (.t 14)) .no])
  (.cond (.t 15)
  (.seq
  (.ops
  [.mk (some 4) none (.mov (.c (.one (.full []))))
  .no, .mk (some 5) none (.mov (.c (.one (.st (.bool false)))))
  .no])
  .ret)
  .skip))
  (.seq
  (.ops
  [.mk (some 7) none (.mov (.c (.one (.full []))))
  .no])
  (.seq
  (.seq
  (.ops
  [.mk (some 16) none (.mov (.t 6)) .no, .mk (some 17) none (.rangeM (.t 16)) .no])
  (.block 0
  (.loop
  (.seq
  (.ops
  [.mk (some 18) none (.next (.t 17)) .no, .mk (some 19) none (.extract 0 (.t 18)) .no])
  (.seq (.cond (.t 19) .skip (.exit 0))
  (.block 1
  (.seq
  (.ops
  [.mk (some 20) none (.entry (.t 17)) .no, .mk (some 21) none (.extract 0 (.t 20)) .no, .mk (some 22) none (.extract 1 (.t 20)) .no, .mk (some 9) none
  (.alloc 25 [.st (.str (ByteArray.mk (#[]))), .full []])
  .no, .mk (some 8) none (.mov (.t 21)) .no, .mk none none (.store 2 (.t 9) (.t 22))
  .no])
  (.ops
  [.mk (some 23) none (.mov (.t 7)) .no, .mk (some 24) none (.mov (.t 8)) .no, .mk (some 25) none (.load true 2 (.t 9)) .no, .mk (some 26) none (.call 41 [.t 25]) .no, .mk (some 27) none
  (.build
  [.st (.str (ByteArray.mk (#[]))), .st (.str (ByteArray.mk (#[]))), .full []]
  [(0, 1, .t 24), (1, 2, .t 26)])
  .no, .mk (some 28) none (.buildSlice false 89 3 [.t 27]) .no, .mk (some 29) none (.append true 89 3 56 (.t 23) (.t 28))
  .no, .mk (some 7) none (.mov (.t 29)) .no]))))))))
  (.seq
  (.ops
  [.mk (some 30) none (.mov (.t 7)) .no, .mk (some 31) none (.callS 74 [.t 30]) .no, .mk (some 4) none (.mov (.t 31)) .no, .mk (some 5) none (.mov (.c (.one (.st (.bool true)))))
  .no])
  .ret))))))
theorem tr_match_Case : trCode Try.prog 32 [14, 29, 31] (Try.f67.body.getD .skip) = some ir_match_Case := by kernel_rfl
theorem ac_match_Case {xs : List AV} {r : AV} (hn : xs.length ≤ 32) (h : ∀ C : Ctx, C.n = 32 → IWP Try.prog C [14, 29, 31] ir_match_Case (FinQ [.t 4, .t 5] r) (AS.start xs)) : ACalls Try.prog 67 xs r :=
  acalls_of Try.func67 rfl tr_match_Case rfl hn h
def ir_R_matched : IR :=
  (.seq
  (.ops
  [.mk (some 3) none (.box 25 (.t 0)) .no, .mk (some 4) none (.box 25 (.t 1)) .no, .mk (some 6) none (.mov (.c (.one (.full []))))
  .no, .mk (some 7) none (.mov (.c (.one (.st (.bool false)))))
  .no])
  (.seq
  (.seq
  (.ops
  [.mk (some 13) none (.fieldAddr 0 (.t 3)) .no, .mk (some 14) none (.load false 1 (.t 13)) .no, .mk (some 15) none (.call 21 [.t 14]) .no])
  (.cond (.t 15)
  (.seq
  (.ops
  [.mk (some 17) none (.mov (.t 2)) .no, .mk (some 18) none (.fieldAddr 0 (.t 3)) .no, .mk (some 19) none (.load false 1 (.t 18)) .no, .mk (some 20) none (.call 71 [.t 17, .t 19]) .no, .mk (some 16) none (.mov (.t 20)) .no, .mk (some 21) none (.extract 0 (.t 16)) .no, .mk (some 22) none (.extract 1 (.t 16)) .no, .mk (some 8) none
  (.alloc 25 [.st (.str (ByteArray.mk (#[]))), .full []])
  .no, .mk none none (.store 2 (.t 8) (.t 21)) .no, .mk (some 9) none (.mov (.t 22)) .no])
  (.seq
  (.seq
  (.ops [.mk (some 23) none (.mov (.t 9)) .no])
  (.cond (.t 23)
  (.seq
  (.ops
  [.mk (some 24) none (.mov (.t 2)) .no, .mk (some 25) none (.load true 2 (.t 8)) .no, .mk (some 26) none (.load true 2 (.t 4)) .no, .mk (some 27) none (.call 12 [.t 25, .t 26])
  .no, .mk (some 6) none (.mov (.t 24)) .no, .mk (some 7) none (.mov (.t 27)) .no])
  .ret)
  .skip))
  (.seq
  (.ops
  [.mk (some 28) none (.mov (.t 2)) .no, .mk (some 29) none (.fieldAddr 0 (.t 3)) .no, .mk (some 30) none (.load false 1 (.t 29)) .no, .mk (some 31) none (.load true 2 (.t 4)) .no, .mk (some 32) none
  (.build
  [.st (.str (ByteArray.mk (#[]))), .st (.str (ByteArray.mk (#[]))),
  .full []]
  [(0, 1, .t 30), (1, 2, .t 31)])
  .no, .mk (some 33) none (.buildSlice false 89 3 [.t 32]) .no, .mk (some 34) none (.append false 89 3 56 (.t 28) (.t 33))
  .no, .mk (some 6) none (.mov (.t 34)) .no, .mk (some 7) none (.mov (.c (.one (.st (.bool true)))))
  .no])
  .ret)))
  .skip))
  (.seq
  (.seq
  (.ops
  [.mk (some 35) none (.fieldAddr 0 (.t 3)) .no, .mk (some 36) none (.load false 1 (.t 35)) .no, .mk (some 37) none (.fieldAddr 0 (.t 4)) .no, .mk (some 38) none (.load false 1 (.t 37)) .no, .mk (some 39) none (.bin .neq (.t 36) (.t 38))
  .no, .mk (some 40) none (.mov (.t 39)) .no, .mk (some 41) (some (40, false)) (.fieldAddr 1 (.t 3)) .no, .mk (some 42) (some (40, false)) (.load false 1 (.t 41)) .no, .mk (some 43) (some (40, false)) (.len false (.t 42)) .no, .mk (some 44) (some (40, false)) (.fieldAddr 1 (.t 4)) .no, .mk (some 45) (some (40, false)) (.load false 1 (.t 44)) .no, .mk (some 46) (some (40, false)) (.len false (.t 45)) .no, .mk (some 47) (some (40, false)) (.bin .neq (.t 43) (.t 46))
  .no, .mk (some 48) none
  (.pick (.t 40) (.c (.one (.st (.bool true)))) (.t 47))
  .no])
  (.cond (.t 48)
  (.seq
  (.ops
  [.mk (some 6) none (.mov (.c (.one (.full []))))
  .no, .mk (some 7) none (.mov (.c (.one (.st (.bool false)))))
  .no])
  .ret)
  .skip))
  (.seq
  (.seq
  (.ops
  [.mk (some 10) none (.mov (.c (.one (.st (.int .i64 0)))))
  .no])
  (.block 0
  (.loop
  (.seq
  (.seq
  (.ops
  [.mk (some 49) none (.mov (.t 10)) .no, .mk (some 50) none (.fieldAddr 1 (.t 3)) .no, .mk (some 51) none (.load false 1 (.t 50)) .no, .mk (some 52) none (.len false (.t 51)) .no, .mk (some 53) none (.bin .lss (.t 49) (.t 52))
  .no])
  (.cond (.t 53) .skip (.exit 0)))
  (.seq
  (.block 1
  (.seq
  (.ops
  [.mk (some 57) none (.fieldAddr 1 (.t 3)) .no, .mk (some 58) none (.load false 1 (.t 57)) .no, .mk (some 59) none (.mov (.t 10)) .no, .mk (some 60) none (.indexAddr 2 (.t 58) (.t 59))
  .no, .mk (some 61) none (.load true 2 (.t 60)) .no, .mk (some 62) none (.fieldAddr 1 (.t 4)) .no, .mk (some 63) none (.load false 1 (.t 62)) .no, .mk (some 64) none (.mov (.t 10)) .no, .mk (some 65) none (.indexAddr 2 (.t 63) (.t 64))
  .no, .mk (some 66) none (.load true 2 (.t 65)) .no, .mk (some 67) none (.mov (.t 2)) .no, .mk (some 68) none
  (.callS 61 [.t 61, .t 66, .t 67]) .no, .mk (some 56) none (.mov (.t 68)) .no, .mk (some 69) none (.extract 0 (.t 56)) .no, .mk (some 70) none (.extract 1 (.t 56)) .no, .mk (some 11) none (.mov (.t 69)) .no, .mk (some 12) none (.mov (.t 70)) .no])
  (.seq
  (.seq
  (.ops
  [.mk (some 71) none (.mov (.t 12)) .no, .mk (some 72) none (.un .not (.t 71)) .no])
  (.cond (.t 72)
  (.seq
  (.ops
  [.mk (some 6) none (.mov (.c (.one (.full [])))) .no, .mk (some 7) none (.mov (.c (.one (.st (.bool false)))))
  .no])
  .ret)
  .skip))
  (.ops
  [.mk (some 73) none (.mov (.t 11)) .no, .mk (some 2) none (.mov (.t 73)) .no]))))
  (.ops
  [.mk (some 54) none (.mov (.t 10)) .no, .mk (some 55) none (.bin .add (.t 54) (.c (.one (.st (.int .i64 1)))))
  .no, .mk (some 10) none (.mov (.t 55)) .no]))))))
  (.seq
  (.ops
  [.mk (some 74) none (.mov (.t 2)) .no, .mk (some 6) none (.mov (.t 74)) .no, .mk (some 7) none (.mov (.c (.one (.st (.bool true)))))
  .no])
  .ret)))))
theorem tr_R_matched : trCode Try.prog 75 [68] (Try.f61.body.getD .skip) = some ir_R_matched := by kernel_rfl
theorem acS_R_matched {xs : List AV} {S S' : AStore} {r : AV} (hn : xs.length ≤ 75) (h : Clean S → ∀ C : Ctx, C.n = 75 → IWP Try.prog C [68] ir_R_matched (FinS C [.t 6, .t 7] r S') (AS.startS xs S)) : ACallsS Try.prog 61 xs S r S' :=
  acallsS_of Try.func61 rfl tr_R_matched rfl hn h

def ir_R_MatchOf : IR :=
  (.seq
  (.ops
  [.mk (some 2) none (.box 25 (.t 0)) .no, .mk (some 3) none (.box 25 (.t 1)) .no, .mk (some 4) none (.mov (.c (.one (.full []))))
  .no, .mk (some 5) none (.mov (.c (.one (.st (.bool false)))))
  .no])
  (.seq
  (.ops
  [.mk (some 9) none (.load true 2 (.t 2)) .no, .mk (some 10) none (.load true 2 (.t 3)) .no, .mk (some 11) none
  (.callS 61
  [.t 9, .t 10, .c (.one (.full []))])
  .no, .mk (some 8) none (.mov (.t 11)) .no, .mk (some 12) none (.extract 0 (.t 8)) .no, .mk (some 13) none (.extract 1 (.t 8)) .no, .mk (some 6) none (.mov (.t 12)) .no, .mk (some 7) none (.mov (.t 13)) .no])
  (.seq
  (.seq
  (.ops
  [.mk (some 14) none (.mov (.t 7)) .no, .mk (some 15) none (.un .not (.t 14)) .no])
  (.cond (.t 15)
  (.seq
  (.ops
  [.mk (some 4) none (.mov (.c (.one (.full []))))
  .no, .mk (some 5) none (.mov (.c (.one (.st (.bool false)))))
  .no])
  .ret)
  .skip))
  (.seq
  (.ops
  [.mk (some 16) none (.mov (.t 6)) .no, .mk (some 17) none (.call 62 [.t 16]) .no, .mk (some 4) none (.mov (.t 17)) .no, .mk (some 5) none (.mov (.c (.one (.st (.bool true)))))
  .no])
  .ret))))
theorem tr_R_MatchOf : trCode Try.prog 18 [11] (Try.f47.body.getD .skip) = some ir_R_MatchOf := by kernel_rfl
theorem ac_R_MatchOf {xs : List AV} {r : AV} (hn : xs.length ≤ 18) (h : ∀ C : Ctx, C.n = 18 → IWP Try.prog C [11] ir_R_MatchOf (FinQ [.t 4, .t 5] r) (AS.start xs)) : ACalls Try.prog 47 xs r :=
  acalls_of Try.func47 rfl tr_R_MatchOf rfl hn h
end Go.Proofs.Ytkekmeiiikkabaa

namespace Go.Proofs.Ytkekmeiiikkabaa
open Go Go.RowKit
set_option linter.unusedVariables false

/-- A walk through a row in any order, each place once. -/
def met {α : Type} (l : List α) (seen : List Nat) : List α := seen.filterMap fun j => l[j]?
theorem met_snoc {α : Type} {l : List α} {seen : List Nat} {j : Nat} {b : α} (h : l[j]? = some b) : met l (seen ++ [j]) = met l seen ++ [b] := by
  unfold met
  rw [List.filterMap_append, List.filterMap_cons_some h]
  rfl
theorem met_len {α : Type} {l : List α} : ∀ {seen : List Nat}, (∀ j ∈ seen, j < l.length) → (met l seen).length = seen.length
  | [], _ => rfl
  | j :: seen, h => by
    have hj := h j (by simp)
    unfold met
    rw [List.filterMap_cons_some (List.getElem?_eq_getElem hj), List.length_cons, List.length_cons]
    exact congrArg (· + 1) (met_len fun i hi => h i (by simp [hi]))
theorem seen_len {n : Nat} {seen : List Nat} (hn : seen.Nodup) (h : ∀ j ∈ seen, j < n) : seen.length ≤ n := by
  have h1 : seen.Perm ((List.range n).filter fun j => decide (j ∈ seen)) := (List.perm_ext_iff_of_nodup hn (List.nodup_range.filter _)).2 fun j => by
    rw [List.mem_filter, List.mem_range, decide_eq_true_eq]
    exact ⟨fun hj => ⟨h j hj, hj⟩, fun hj => hj.2⟩
  rw [h1.length_eq]
  exact Nat.le_trans (List.length_filter_le _ _) (Nat.le_of_eq List.length_range)
theorem met_perm {α : Type} {l : List α} {seen : List Nat} (hn : seen.Nodup) (h : ∀ j ∈ seen, j < l.length) (hall : ∀ j, j < l.length → j ∈ seen) : (met l seen).Perm l := by
  have hp : seen.Perm (List.range l.length) := (List.perm_ext_iff_of_nodup hn List.nodup_range).2 fun j => ⟨fun hj => List.mem_range.2 (h j hj), fun hj => hall j (List.mem_range.1 hj)⟩
  have := hp.filterMap fun j => l[j]?
  rw [filterMap_range] at this
  exact this
end Go.Proofs.Ytkekmeiiikkabaa

namespace Go.Proofs.Ytkekmeiiikkabaa
open Go Go.Proofs Go.Shelf
def Try.sortBd_ren : Go.Shelf.Ren := ⟨fun | 6 => 77 | 15 => 82 | 14 => 81 | 28 => 94 | 29 => 95 | 20 => 86 | 21 => 87 | 22 => 88 | 23 => 89 | 24 => 90 | 25 => 91 | 26 => 92 | 27 => 93 | 46 => 96 | 47 => 97 | 48 => 98 | 49 => 99 | 50 => 100 | 57 => 101 | n => n, fun | 22 => 70 | 24 => 89 | 25 => 98 | 3 => 3 | 39 => 101 | 0 => 0 | 53 => 113 | 55 => 115 | 4 => 4 | 46 => 107 | 45 => 106 | 50 => 102 | 5 => 5 | 9 => 9 | 66 => 116 | 70 => 120 | 76 => 122 | 77 => 123 | n => n, fun | n => n⟩
theorem Try.sortBd : Go.Proofs.SlLaysF0.n6 Try.prog Try.sortBd_ren := {
  mixed := by kernel_rfl
  f6 := ⟨Try.f77.name, by decide, Try.func77.trans (congrArg some (by kernel_rfl))⟩
  f14 := ⟨Try.f81.name, by decide, Try.func81.trans (congrArg some (by kernel_rfl))⟩
  f15 := Try.func82.trans (congrArg some (by kernel_rfl))
  f20 := ⟨Try.f86.name, by decide, Try.func86.trans (congrArg some (by kernel_rfl))⟩
  f21 := ⟨Try.f87.name, by decide, Try.func87.trans (congrArg some (by kernel_rfl))⟩
  f22 := ⟨Try.f88.name, by decide, Try.func88.trans (congrArg some (by kernel_rfl))⟩
  f23 := ⟨Try.f89.name, by decide, Try.func89.trans (congrArg some (by kernel_rfl))⟩
  f24 := ⟨Try.f90.name, by decide, Try.func90.trans (congrArg some (by kernel_rfl))⟩
  f25 := ⟨Try.f91.name, by decide, Try.func91.trans (congrArg some (by kernel_rfl))⟩
  f26 := ⟨Try.f92.name, by decide, Try.func92.trans (congrArg some (by kernel_rfl))⟩
  f27 := ⟨Try.f93.name, by decide, Try.func93.trans (congrArg some (by kernel_rfl))⟩
  f28 := Try.func94.trans (congrArg some (by kernel_rfl))
  f29 := Try.func95.trans (congrArg some (by kernel_rfl))
  f46 := ⟨Try.f96.name, by decide, Try.func96.trans (congrArg some (by kernel_rfl))⟩
  f47 := Try.func97.trans (congrArg some (by kernel_rfl))
  f48 := Try.func98.trans (congrArg some (by kernel_rfl))
  f49 := ⟨Try.f99.name, by decide, Try.func99.trans (congrArg some (by kernel_rfl))⟩
  f50 := ⟨Try.f100.name, by decide, Try.func100.trans (congrArg some (by kernel_rfl))⟩
  f57 := ⟨Try.f101.name, by decide, Try.func101.trans (congrArg some (by kernel_rfl))⟩
  t0 := Try.underlying0
  a0 := Try.isAgg0
  z0 := Try.sizeOf0
  v0 := Try.zeroValue0
  t3 := Try.underlying3
  a3 := Try.isAgg3
  z3 := Try.sizeOf3
  v3 := Try.zeroValue3
  t4 := Try.underlying4
  a4 := Try.isAgg4
  z4 := Try.sizeOf4
  v4 := Try.zeroValue4
  t5 := Try.underlying5
  a5 := Try.isAgg5
  z5 := Try.sizeOf5
  v5 := Try.zeroValue5
  t9 := Try.underlying9
  a9 := Try.isAgg9
  z9 := Try.sizeOf9
  v9 := Try.zeroValue9
  t22 := Try.underlying70
  a22 := Try.isAgg70
  z22 := Try.sizeOf70
  v22 := Try.zeroValue70
  t25 := Try.underlying98
  a25 := Try.isAgg98
  z25 := Try.sizeOf98
  v25 := Try.zeroValue98
  t39 := Try.underlying101
  a39 := Try.isAgg101
  z39 := Try.sizeOf101
  v39 := Try.zeroValue101
  t45 := Try.underlying106
  a45 := Try.isAgg106
  z45 := Try.sizeOf106
  v45 := Try.zeroValue106
  t46 := Try.underlying107
  a46 := Try.isAgg107
  z46 := Try.sizeOf107
  v46 := Try.zeroValue107
  t50 := Try.underlying102
  a50 := Try.isAgg102
  z50 := Try.sizeOf102
  v50 := Try.zeroValue102
  t53 := Try.underlying113
  a53 := Try.isAgg113
  z53 := Try.sizeOf113
  v53 := Try.zeroValue113
  t55 := Try.underlying115
  a55 := Try.isAgg115
  z55 := Try.sizeOf115
  v55 := Try.zeroValue115
  t66 := Try.underlying116
  a66 := Try.isAgg116
  z66 := Try.sizeOf116
  v66 := Try.zeroValue116
  t70 := Try.underlying120
  a70 := Try.isAgg120
  z70 := Try.sizeOf120
  v70 := Try.zeroValue120
  t76 := Try.underlying122
  a76 := Try.isAgg122
  z76 := Try.sizeOf122
  v76 := Try.zeroValue122
  t77 := Try.underlying123
  a77 := Try.isAgg123
  z77 := Try.sizeOf123
  v77 := Try.zeroValue123 }
end Go.Proofs.Ytkekmeiiikkabaa

namespace Go.Proofs.Ytkekmeiiikkabaa
open Go Go.RowKit
set_option linter.unusedVariables false

abbrev rowBd (l : List Bd) : ABlk := .mrow 89 3 (l.map encB)
end Go.Proofs.Ytkekmeiiikkabaa

namespace Go.Proofs.Ytkekmeiiikkabaa
open Go Go.RowKit
set_option maxRecDepth 100000

def ir_subst_SortM : IR :=
  (.seq
  (.ops
  [.mk (some 2) none (.mov (.c (.one (.full []))))
  .no])
  (.seq
  (.ops
  [.mk (some 3) none (.mov (.t 0)) .no, .mk (some 4) none
  (.callS 77 [.t 3, .c (.one (.fn 78 []))])
  .no])
  (.seq
  (.ops
  [.mk (some 5) none (.mov (.t 0)) .no, .mk (some 2) none (.mov (.t 5)) .no])
  .ret)))
theorem tr_subst_SortM : trCode Try.prog 6 [4] (Try.f74.body.getD .skip) = some ir_subst_SortM := by kernel_rfl
theorem acS_subst_SortM {xs : List AV} {S S' : AStore} {r : AV} (hn : xs.length ≤ 6) (h : Clean S → ∀ C : Ctx, C.n = 6 → IWP Try.prog C [4] ir_subst_SortM (FinS C [.t 2] r S') (AS.startS xs S)) : ACallsS Try.prog 74 xs S r S' :=
  acallsS_of Try.func74 rfl tr_subst_SortM rfl hn h

end Go.Proofs.Ytkekmeiiikkabaa

namespace Go.Proofs.Ytkekmeiiikkabaa
open Go Go.RowKit Go.Lib Go.Sort Go.Shelf
set_option linter.unusedVariables false
set_option linter.unusedSimpArgs false
set_option maxHeartbeats 1000000

theorem run_gtr {P : Program} {w : World} (t : TypeId) (x y : ByteArray) : (binOp .gtr t (.string x) (.string y)).run P w = .ok (.bool (!(sLt x y || decide (x = y)))) w := by
  simp only [binOp, Op.stringOp, toList_eq_iff]
  rfl
attribute [go_sem] run_gtr
theorem isNaN_C (s : ByteArray) (W : World) : Calls Try.prog 83 #[.string s] W fun e w' => e = .returned (.bool false) ∧ w' = W := by
  go_enter Try.func83, Try.ntmps83
  go_wp2_with fail
  go_ret
  exact ⟨rfl, rfl⟩
theorem compare_C (a b : ByteArray) (W : World) : Calls Try.prog 79 #[.string a, .string b] W fun e w' => e = .returned (.int .i64 (cmpI a b)) ∧ w' = W := by
  have h1 := isNaN_C
  have hl : sLt a b = Op.bytesLess a.toList b.toList := rfl
  have hc : cmpI a b = if sLt a b = true then -1 else if a = b then 0 else 1 := rfl
  generalize cmpI a b = r at hc ⊢
  go_enter Try.func79, Try.ntmps79
  go_wp2_with (go_at_call 83; refine (h1 _ _).mono ?_; rintro e w' ⟨rfl, rfl⟩)
  all_goals go_ret
  all_goals refine ⟨?_, rfl⟩
  all_goals simp_all
/-- What 'Sort' hands the library: two bindings compared by their names; two boxes are laid. -/
abbrev SCell := ByteArray × ByteArray × Option Addr × Nat × Nat
def encSC (x : SCell) : List Value := [.string x.1, .string x.2.1, .slice x.2.2.1 x.2.2.2.1 x.2.2.2.2]
theorem sort1_C (x y : SCell) (W : World) : Calls Try.prog 78 #[.agg (encSC x).toArray, .agg (encSC y).toArray] W fun e w' => e = .returned (.int .i64 (cmpI x.1 y.1)) ∧ ∃ q os', w' = grow (W.drewN q) os' := by
  have hcon := fun W' => compare_C x.1 y.1 W'
  generalize cmpI x.1 y.1 = r at hcon ⊢
  unfold encSC
  go_enter Try.func78, Try.ntmps78
  go_wp2_with (go_at_call 79; refine (hcon _).mono ?_; rintro e w' ⟨rfl, rfl⟩)
  go_ret
  exact ⟨rfl, 0, _, by rw [alloc_eq_grow, alloc_eq_grow, grow_grow]; rfl⟩

/-! ### the row behind it -/
theorem swo_names : SWO (ltOf fun x y : SCell => cmpI x.1 y.1) where
  irrefl x := by
    simp only [ltOf, decide_eq_false_iff_not]
    intro h
    have := cmpI_neg.1 h
    rw [sLt_irrefl] at this
    cases this
  trans x y z h k := by
    simp only [ltOf, decide_eq_true_eq] at *
    exact cmpI_neg.2 (sLt_trans (cmpI_neg.1 h) (cmpI_neg.1 k))
  ntrans x y z h k := by
    simp only [ltOf, decide_eq_false_iff_not] at *
    intro e
    have e := cmpI_neg.1 e
    have h : sLt x.1 y.1 = false := by
      cases hx : sLt x.1 y.1 with
      | false => rfl
      | true => exact absurd (cmpI_neg.2 hx) h
    have k : sLt y.1 z.1 = false := by
      cases hx : sLt y.1 z.1 with
      | false => rfl
      | true => exact absurd (cmpI_neg.2 hx) k
    rcases sLt_total y.1 z.1 with q | q | q
    · rw [q] at k; cases k
    · rw [q] at h; rw [e] at h; cases h
    · have := sLt_trans e q
      rw [this] at h
      cases h
/-- These cells are a binding's. -/
def CellIs (σ : Sto) (x : SCell) (b : Bd) : Prop := x.1 = b.1 ∧ All2 (SRep σ) (encSC x) (encB b)
theorem all2_perm {α β : Type} {R : α → β → Prop} {l1 l2 : List α} (hp : l1.Perm l2) : ∀ {m1 : List β}, All2 R l1 m1 → ∃ m2, All2 R l2 m2 ∧ m1.Perm m2 := by
  induction hp with
  | nil => intro m1 h; exact ⟨m1, h, List.Perm.refl _⟩
  | cons x _ ih =>
    intro m1 h
    cases h with
    | cons h1 h2 =>
      obtain ⟨m2, q1, q2⟩ := ih h2
      exact ⟨_ :: m2, .cons h1 q1, q2.cons _⟩
  | swap x y l =>
    intro m1 h
    cases h with
    | cons h1 h2 =>
      cases h2 with
      | cons h2 h3 => exact ⟨_, .cons h2 (.cons h1 h3), List.Perm.swap _ _ _⟩
  | trans _ _ ih1 ih2 =>
    intro m1 h
    obtain ⟨m2, q1, q2⟩ := ih1 h
    obtain ⟨m3, q3, q4⟩ := ih2 q1
    exact ⟨m3, q3, q2.trans q4⟩
theorem cell_is {σ : Sto} {b : Bd} {v1 v2 v3 : Value} (h1 : SRep σ v1 (.str b.1)) (h2 : SRep σ v2 (.str b.2.name)) (h3 : SRep σ v3 (.list (b.2.args.map encT))) : ∃ x : SCell, [v1, v2, v3] = encSC x ∧ CellIs σ x b := by
  have e1 := (vrep_str (S := noS) (ι := noH) (.one (.st h1))).1
  have e2 := (vrep_str (S := noS) (ι := noH) (.one (.st h2))).1
  obtain ⟨p, cap, e3, _⟩ := srep_slice h3
  subst e1 e2 e3
  exact ⟨(b.1, b.2.name, p, _, cap), rfl, rfl, .cons h1 (.cons h2 (.cons h3 .nil))⟩
theorem sort_cells {σ : Sto} {vs : Array Value} : ∀ (l : List Bd) (base : Nat), (∀ k b, l[k]? = some b → ∀ j a, (encB b)[j]? = some a → ∃ v, vs[base + k * 3 + j]? = some v ∧ SRep σ v a) →
    ∃ d : List SCell, All2 (CellIs σ) d l ∧ ∀ k x j v, d[k]? = some x → (encSC x)[j]? = some v → vs[base + k * 3 + j]? = some v
  | [], base, _ => ⟨[], .nil, by simp⟩
  | b :: l, base, h => by
    obtain ⟨d, d1, d2⟩ := sort_cells l (base + 3) (fun k c hc j a ha => by
      obtain ⟨v, v1, v2⟩ := h (k + 1) c (by simpa using hc) j a ha
      exact ⟨v, by rw [← v1]; congr 1; omega, v2⟩)
    obtain ⟨u1, p1, q1⟩ := h 0 b rfl 0 _ rfl
    obtain ⟨u2, p2, q2⟩ := h 0 b rfl 1 _ rfl
    obtain ⟨u3, p3, q3⟩ := h 0 b rfl 2 _ rfl
    obtain ⟨x, x1, x2⟩ := cell_is q1 q2 q3
    refine ⟨x :: d, .cons x2 d1, fun k y j v hy hv => ?_⟩
    cases k with
    | zero =>
      simp only [List.getElem?_cons_zero, Option.some.injEq] at hy
      subst hy
      rw [← x1] at hv
      match j, hv with
      | 0, hv => cases hv; exact p1
      | 1, hv => cases hv; exact p2
      | 2, hv => cases hv; exact p3
      | j + 3, hv => simp at hv
    | succ k =>
      have := d2 k y j v (by simpa using hy) hv
      rw [← this]
      congr 1
      omega
theorem encSC_len (x : SCell) : (encSC x).length = 3 := rfl
theorem flat_get {d : Array SCell} {t : Nat} (h : t < d.size * 3) : ∃ x v, d[t / 3]? = some x ∧ (encSC x)[t % 3]? = some v ∧ (flatK encSC 3 d)[t]! = v := by
  have hk : t / 3 < d.size := by omega
  have hj : t % 3 < (encSC d[t / 3]).length := by rw [encSC_len]; omega
  refine ⟨d[t / 3], (encSC d[t / 3])[t % 3], Array.getElem?_eq_getElem hk, List.getElem?_eq_getElem hj, ?_⟩
  rw [get_flatK _ _ _ _ h, getElem!_pos d (t / 3) hk, getElem!_pos (encSC d[t / 3]) (t % 3) hj]
theorem sort_heap (w : World) (g n : Nat) (d : Array SCell) (os : Array Obj) (vs : Array Value) (e : TypeId) (hg : w.heap[g]? = some (.cells vs e (0, 0))) :
    (sortWorldK encSC 3 w g 0 n d os).heap[g]? = some (.cells (putCells id 0 (flatK encSC 3 d) vs) e (0, 0)) ∧ (∀ k, k < w.heap.size → k ≠ g → (sortWorldK encSC 3 w g 0 n d os).heap[k]? = w.heap[k]?) ∧ w.heap.size ≤ (sortWorldK encSC 3 w g 0 n d os).heap.size := by
  have hlt := (Array.getElem?_eq_some_iff.1 hg).1
  have hsz : (putRowK encSC 3 (Sort.ahead w n) g 0 d).heap.size = w.heap.size := by simp [putRowK, putRow, mapBlock, Sort.ahead]
  refine ⟨?_, fun k hk hne => ?_, ?_⟩
  · unfold sortWorldK
    rw [heap_grow_old _ _ (by rw [hsz]; exact hlt)]
    simp [putRowK, putRow, mapBlock, Sort.ahead, Array.getElem?_modify, hg, onCells]
  · unfold sortWorldK
    rw [heap_grow_old _ _ (by rw [hsz]; exact hk)]
    simp [putRowK, putRow, mapBlock, Sort.ahead, Array.getElem?_modify, Ne.symm hne]
  · unfold sortWorldK
    rw [Go.Sort.size_grow, hsz]
    omega
theorem put_get {d : Array SCell} {vs : Array Value} (hs : d.size * 3 ≤ vs.size) {k : Nat} {x : SCell} {j : Nat} {v : Value} (hx : d[k]? = some x) (hv : (encSC x)[j]? = some v) : (putCells id 0 (flatK encSC 3 d) vs)[k * 3 + j]? = some v := by
  have hk := (Array.getElem?_eq_some_iff.1 hx).1
  have hj : j < 3 := by have := (List.getElem?_eq_some_iff.1 hv).1; rw [encSC_len] at this; exact this
  have hlt : k * 3 + j < d.size * 3 := by omega
  obtain ⟨y, u, h1, h2, h3⟩ := flat_get hlt
  have e1 : (k * 3 + j) / 3 = k := by omega
  have e2 : (k * 3 + j) % 3 = j := by omega
  rw [e1, hx] at h1
  cases h1
  rw [e2, hv] at h2
  cases h2
  unfold putCells
  rw [Array.getElem?_mapIdx, Array.getElem?_eq_getElem (by omega), Option.map_some, if_pos (by rw [size_flatK]; omega)]
  simp only [Nat.sub_zero, id, h3]
theorem put_size (d : Array SCell) (vs : Array Value) : (putCells id 0 (flatK encSC 3 d) vs).size = vs.size := by simp [putCells]
theorem updE_eq {S : AStore} {r : Nat} {b : ABlk} (h : S r = some b) : updE S r (some b) = S := by
  funext k
  unfold updE
  split
  · rename_i e; rw [e, h]
  · rfl
theorem put_other {d : Array SCell} {vs : Array Value} {t : Nat} (h : d.size * 3 ≤ t) : (putCells id 0 (flatK encSC 3 d) vs)[t]? = vs[t]? := by
  unfold putCells
  rw [Array.getElem?_mapIdx]
  cases hv : vs[t]? with
  | none => rfl
  | some v => rw [Option.map_some, if_neg (by rw [size_flatK]; omega)]
/-- A row of bindings that is written, and what stands behind them. -/
abbrev rowBy (l : List Bd) (ys : List (List SV)) : ABlk := .mrow 89 3 (l.map encB ++ ys)
/-- slices.SortFunc at the first things of a row of bindings that is written: sorted by names, no two of which are alike. -/
theorem sort_core (l : List Bd) (ys : List (List SV)) (hys : ∀ y ∈ ys, y.length = 3) (hn : Named l) (hl : l.length ≤ 100000) (r : Nat) (hr : 1000 ≤ r) (S : AStore) (sr : S r = some (rowBy l ys)) (hS : Clean S) (σ : Sto) (w : World) (ι : AHnd) (hF : Fit σ w) (hO : Owned σ S ι w) :
    Calls Try.prog 77 #[.slice (ι r).p l.length (ι r).cap, .func (.func 78) #[] #[]] w fun e w' => ∃ v σ' ι', e = .returned v ∧ Clean (updE S r (some (rowBy (sortB l) ys))) ∧ Upd S ι (updE S r (some (rowBy (sortB l) ys))) ι' ∧ Owned σ' (updE S r (some (rowBy (sortB l) ys))) ι' w' ∧ VRep σ' (updE S r (some (rowBy (sortB l) ys))) ι' v (.tup []) ∧ Fit σ' w' ∧ (∀ p x, σ p = some x → σ' p = some x) ∧
      (∀ p : Addr, p.block < w.heap.size → notOf S ι p.block → σ' p = σ p) ∧ (w'.os = w.os ∧ w'.tape = w.tape ∧ w'.output = w.output) ∧ w.heap.size ≤ w'.heap.size ∧
      (∀ g, g < w.heap.size → notOf S ι g → w'.heap[g]? = w.heap[g]?) ∧ (∀ id b g, updE S r (some (rowBy (sortB l) ys)) id = some b → (ι' id).g = some g → w.heap.size ≤ g ∨ ¬ notOf S ι g) := by
  have hS' : Clean (updE S r (some (rowBy (sortB l) ys))) := clean_upd hS hr rfl
  have hb : BRep σ S ι w (ι r) (.mrow 89 3 (l.map encB ++ ys)) := hO.1 r _ sr
  generalize hxs : l.map encB ++ ys = xs at hb
  have hlen : xs.length = l.length + ys.length := by rw [← hxs, List.length_append, List.length_map]
  generalize hh : ι r = hd at hb
  cases hb with
  | mnil k1 k2 =>
    obtain ⟨hl0, hy0⟩ : l = [] ∧ ys = [] := by simpa using hxs
    subst hl0 hy0
    refine (AnyF.slices_SortFunc_none Try.sortBd hd.p hd.cap _ w).mono fun e w' ⟨he, hw⟩ => ?_
    subst hw
    have hid : updE S r (some (rowBy (sortB []) [])) = S := updE_eq sr
    rw [hid]
    exact ⟨_, σ, ι, he, hS, Upd.refl _ _, hO, .tup (fun _ => undef) rfl (by simp) (by simp), hF, fun _ _ h => h, fun _ _ _ => rfl, ⟨rfl, rfl, rfl⟩, Nat.le_refl _, fun _ _ _ => rfl, fun id b g h1 h2 => .inr fun hno => hno id b h1 h2⟩
  | @mrow _ _ _ g cs k1 k2 k3 k4 k5 k6 k7 k8 k9 =>
    subst hxs
    obtain ⟨d, d1, d2⟩ := sort_cells (σ := σ) (vs := cs) l 0 (fun k b hb j a ha => by
      obtain ⟨v, v1, v2⟩ := k8 k (encB b) j a (by rw [List.getElem?_append_left (by rw [List.length_map]; exact lt_of_get hb), List.getElem?_map, hb]; rfl) ha
      exact ⟨v, by rw [Nat.zero_add]; exact v1, v2⟩)
    have dlen : d.length = l.length := d1.len
    have hcap : l.length ≤ hd.cap := by omega
    have hfits : d.toArray.size * 3 ≤ cs.size := by
      rw [k6]
      simp only [List.size_toArray, dlen]
      exact Nat.mul_le_mul_right 3 hcap
    have hH : HoldsK encSC 3 w g 0 d.toArray := fun j hj => by
      rw [size_flatK] at hj
      obtain ⟨x, v, q1, q2, q3⟩ := flat_get hj
      have q1 : d[j / 3]? = some x := by simpa using q1
      have hc := d2 _ _ _ _ q1 q2
      have e : 0 + j / 3 * 3 + j % 3 = j := by omega
      rw [e] at hc
      refine ⟨?_, ?_⟩
      · rw [cell_of_row w g _ _ _ _ k3, Nat.zero_add, hc, q3]
        rfl
      · exact Blk.frozen k3 _
    have eg : ∀ args w, (callFunc 78 args).run Try.prog w = .ok (.enter 78 args) w := enters_of Try.func78 (by kernel_rfl) rfl
    have hgl : g < w.heap.size := (Array.getElem?_eq_some_iff.1 k3).1
    have hcon := AnyQ.slices_SortFunc Try.sortBd 3 Try.isAgg89 Try.sizeOf89 encSC encSC_len (fun x v hv => by simp [encSC] at hv; rcases hv with rfl | rfl | rfl <;> rfl) (fun x y : SCell => cmpI x.1 y.1) swo_names 78 #[] g 0 hd.cap d.toArray w eg (fun _ _ _ _ x y => sort1_C x y _) hH hgl (by simp [dlen]; omega)
    rw [show d.toArray.size = l.length by simp [dlen]] at hcon
    rw [k2, show (l.length) = l.length from rfl]
    refine Calls.mono hcon fun e w' ⟨he, d', n, os, hp, hs, hw⟩ => ?_
    obtain ⟨hp1, hp2, hp3⟩ := hp
    have hd'l : d'.size = l.length := by rw [hp1]; simp [dlen]
    have hperm : d.Perm d'.toList := by
      have e1 : d'.extract 0 l.length = d' := by rw [← hd'l]; exact Array.extract_size
      have e2 : d.toArray.extract 0 l.length = d.toArray := by
        rw [show l.length = d.toArray.size by simp [dlen]]
        exact Array.extract_size
      rw [e1, e2] at hp3
      exact hp3.symm
    obtain ⟨l', l1, l2⟩ := all2_perm hperm d1
    have hl'len : l'.length = l.length := l2.length_eq.symm
    have hord : Ordered l' := by
      unfold Ordered
      rw [List.pairwise_iff_getElem]
      intro i j hi hj hij
      obtain ⟨x, x1, x2, _⟩ := l1.get (List.getElem?_eq_getElem hi)
      obtain ⟨y, y1, y2, _⟩ := l1.get (List.getElem?_eq_getElem hj)
      have hso := hs i j (Nat.zero_le _) hij (by omega)
      have e1 : d'[i]! = x := by
        rw [Array.getElem?_toList] at x1
        rw [getElem!_def, x1]
      have e2 : d'[j]! = y := by
        rw [Array.getElem?_toList] at y1
        rw [getElem!_def, y1]
      rw [e1, e2] at hso
      simp only [ltOf, decide_eq_false_iff_not] at hso
      have hno : sLt l'[j].1 l'[i].1 = false := by
        cases hx : sLt l'[j].1 l'[i].1 with
        | false => rfl
        | true => exact absurd (cmpI_neg.2 (by rw [x2, y2]; exact hx)) hso
      have hdiff : l'[i].1 ≠ l'[j].1 := by
        have hn' := named_perm l2 hn
        unfold Named at hn'
        rw [List.nodup_iff_pairwise_ne, List.pairwise_map, List.pairwise_iff_getElem] at hn'
        exact hn' i j hi hj hij
      rcases sLt_total l'[i].1 l'[j].1 with q | q | q
      · exact q
      · exact absurd q hdiff
      · rw [q] at hno; cases hno
    have hl' : l' = sortB l := ordered_unique hord (sortB_ordered hn) ((l2.symm).trans (sortB_perm l).symm)
    subst hl'
    obtain ⟨w1, w2, w3⟩ := sort_heap w g n d' os cs _ k3
    rw [← hw] at w1 w2 w3
    have hfits' : d'.size * 3 ≤ cs.size := by rw [hd'l]; rw [← dlen]; simpa using hfits
    have hupd : Upd S ι (updE S r (some (rowBy (sortB l) ys))) ι := fun id b hb => by
      by_cases e : id = r
      · subst e
        rw [sr] at hb
        cases hb
        exact ⟨_, updE_same _ _ _, by simp [ABlk.len, sortB_length], fun _ => ⟨rfl, rfl⟩⟩
      · exact ⟨b, by rw [updE_ne _ e]; exact hb, Nat.le_refl _, fun _ => ⟨rfl, rfl⟩⟩
    have hotherg : ∀ id b g', id ≠ r → S id = some b → (ι id).g = some g' → g' ≠ g := fun id b g' hne hb hg' e => by
      subst e
      exact hne (hO.2 id r b _ g' hb sr hg' (by rw [hh]; exact k1))
    have hFit : Fit σ w' := fun p x hp => by
      have hlt := hF.lt hp
      by_cases e : p.block = g
      · rw [k9 p e] at hp; cases hp
      · exact (look_of_block (w2 _ hlt e)).trans (hF p x hp)
    refine ⟨_, σ, ι, he, hS', hupd, ⟨fun id b hb => ?_, fun id id' b b' g' q1 q2 q3 q4 => ?_⟩, .tup (fun _ => undef) rfl (by simp) (by simp), hFit, fun _ _ h => h, fun _ _ _ => rfl, ?_, w3, fun g' q1 q2 => ?_, fun id b g' q1 q2 => ?_⟩
    · by_cases e : id = r
      · subst e
        rw [updE_same] at hb
        cases hb
        rw [hh]
        have hlen' : ((sortB l).map encB ++ ys).length = l.length + ys.length := by rw [List.length_append, List.length_map, sortB_length]
        refine .mrow k1 k2 w1 (by rw [hlen', ← hlen]; exact k4) k5 (by rw [put_size]; exact k6) (fun x hx => ?_) (fun k x j a hx ha => ?_) k9
        · rcases List.mem_append.1 hx with hx | hx
          · exact lens_encB x hx
          · exact hys x hx
        rcases Nat.lt_or_ge k l.length with hk | hk
        · rw [List.getElem?_append_left (by rw [List.length_map, sortB_length]; exact hk), List.getElem?_map, Option.map_eq_some_iff] at hx
          obtain ⟨b, hb, rfl⟩ := hx
          obtain ⟨y, y1, y2, y3⟩ := l1.get hb
          obtain ⟨v, v1, v2⟩ := y3.get ha
          exact ⟨v, put_get hfits' (by simpa using y1) v1, v2⟩
        · rw [List.getElem?_append_right (by rw [List.length_map, sortB_length]; exact hk), List.length_map, sortB_length] at hx
          obtain ⟨v, v1, v2⟩ := k8 k x j a (by rw [List.getElem?_append_right (by rw [List.length_map]; exact hk), List.length_map]; exact hx) ha
          exact ⟨v, by rw [put_other (by rw [hd'l]; omega)]; exact v1, v2⟩
      · rw [updE_ne _ e] at hb
        refine (hO.1 id b hb).mono (fun _ _ h => h) hupd (fun g' hg' => w2 g' ((hO.1 id b hb).gsome hg') (hotherg id b g' e hb hg')) (fun _ _ _ _ => rfl)
    · have back : ∀ i c, updE S r (some (rowBy (sortB l) ys)) i = some c → ∃ c', S i = some c' := fun i c hc => by
        by_cases e : i = r
        · subst e; exact ⟨_, sr⟩
        · rw [updE_ne _ e] at hc; exact ⟨c, hc⟩
      obtain ⟨c1, c1'⟩ := back _ _ q1
      obtain ⟨c2, c2'⟩ := back _ _ q2
      exact hO.2 _ _ _ _ _ c1' c2' q3 q4
    · rw [hw]
      exact ⟨rfl, rfl, rfl⟩
    · exact w2 g' q1 fun e => q2 r _ sr (by rw [hh, e]; exact k1)
    · refine .inr fun hno => ?_
      by_cases e : id = r
      · subst e; exact hno id _ sr q2
      · rw [updE_ne _ e] at q1; exact hno id _ q1 q2
/-- The library's sort of a whole row. -/
theorem sortFunc_M (l : List Bd) (hn : Named l) (hl : l.length ≤ 100000) (r : Nat) (hr : 1000 ≤ r) (S : AStore) (sr : S r = some (rowBd l)) :
    ACallsS Try.prog 77 [.one (.row r l.length), .one (.fn 78 [])] S (.tup []) (updE S r (some (rowBd (sortB l)))) := by
  intro hS σ w vs ι hG hF hO hv
  cases hv with
  | @cons v1 _ _ _ h1 hv =>
  cases hv with
  | @cons v2 _ _ _ h2 hv =>
  cases hv
  obtain ⟨b, b1, b2, b3⟩ := arep_row (vrep_one h1)
  rw [sr] at b1
  cases b1
  have hv1 := b3 (by simp [ABlk.len])
  subst hv1
  have hv2 : v2 = .func (.func 78) #[] #[] := by
    cases vrep_one h2 with
    | @fn _ vs _ c q1 q2 q3 =>
      have e : vs = #[] := Array.eq_empty_of_size_eq_zero (by simpa using q1)
      rw [e]
  subst hv2
  have e : ∀ m : List Bd, rowBd m = rowBy m [] := fun m => by rw [rowBy, List.append_nil]
  rw [e] at sr ⊢
  exact sort_core l [] (by simp) hn hl r hr S sr hS σ w ι hF hO
theorem sort_M (l : List Bd) (hn : Named l) (hl : l.length ≤ 100000) (r : Nat) (hr : 1000 ≤ r) (S : AStore) (sr : S r = some (rowBd l)) :
    ACallsS Try.prog 74 [.one (.row r l.length)] S (.one (.row r l.length)) (updE S r (some (rowBd (sortB l)))) := by
  refine acS_subst_SortM (Nat.le_of_ble_eq_true rfl) fun hS C hC => ?_
  unfold ir_subst_SortM
  repeat' (first | (with_reducible first | refine Wa ?_ | refine Wb ?_ | refine Wc ?_ | refine Wd ?_ | refine We ?_ | refine Wf ?_ | refine Wg ?_ | refine Wh ?_ | refine Wi ?_ | refine Wj ?_ | refine Wk (by decide) ?_ | refine Wl ?_ | refine Wm ?_ | refine Wn ?_) | ((with_reducible first | refine Wo (fun K hK => ?_) | refine Wq ?_ | refine Wr ?_); (try simp only [go_sem, List.forall_mem_nil, ↓guard_ite, ↓pick_ite, seval, encT_eq, inR_i64]); (repeat with_reducible refine And.intro (by first | omega | (with_reducible first | exact lens_encT | exact lens_encL | exact lens_encB | exact lens_encP) | (simp; done) | (simp only [List.length_take, List.length_map, List.length_append, maxLen_eq]; omega)) ?_); (try (with_reducible refine hK _ ?_; clear hK K))))
  refine ⟨_, _, sortFunc_M l hn hl (up1 r) (up1_le r) (upS S) (by rw [upS_up, sr]; rfl), ?_⟩
  repeat' (first | (with_reducible first | refine Wa ?_ | refine Wb ?_ | refine Wc ?_ | refine Wd ?_ | refine We ?_ | refine Wf ?_ | refine Wg ?_ | refine Wh ?_ | refine Wi ?_ | refine Wj ?_ | refine Wk (by decide) ?_ | refine Wl ?_ | refine Wm ?_ | refine Wn ?_) | ((with_reducible first | refine Wo (fun K hK => ?_) | refine Wq ?_ | refine Wr ?_); (try simp only [go_sem, List.forall_mem_nil, ↓guard_ite, ↓pick_ite, seval, encT_eq, inR_i64]); (repeat with_reducible refine And.intro (by first | omega | (with_reducible first | exact lens_encT | exact lens_encL | exact lens_encB | exact lens_encP) | (simp; done) | (simp only [List.length_take, List.length_map, List.length_append, maxLen_eq]; omega)) ?_); (try (with_reducible refine hK _ ?_; clear hK K))))
  have hc := clean_upd (b := rowBd (sortB l)) hS hr rfl
  refine finS_high trivial ?_ (high_row (n := l.length) hr) (fun i b _ h => (hc i b h).2) (lowS_clean hc) hc
  simp only [go_sem, List.forall_mem_nil, ↓guard_ite, ↓pick_ite, seval, encT_eq, inR_i64, resAll, resOne, tupV]
end Go.Proofs.Ytkekmeiiikkabaa

namespace Go.Proofs.Ytkekmeiiikkabaa
open Go Go.RowKit
set_option maxRecDepth 100000

def ir_R_Sorted : IR :=
  (.seq
  (.ops
  [.mk (some 2) none (.mov (.c (.one (.full []))))
  .no])
  (.seq
  (.ops
  [.mk (some 3) none (.mov (.c (.one (.full []))))
  .no])
  (.seq
  (.seq
  (.ops
  [.mk (some 4) none (.mov (.c (.one (.st (.int .i64 0)))))
  .no])
  (.block 0
  (.loop
  (.seq
  (.seq
  (.ops
  [.mk (some 7) none (.mov (.t 4)) .no, .mk (some 8) none (.mov (.t 0)) .no, .mk (some 9) none (.len false (.t 8)) .no, .mk (some 10) none (.bin .lss (.t 7) (.t 9))
  .no])
  (.cond (.t 10) .skip (.exit 0)))
  (.seq
  (.block 1
  (.seq
  (.ops
  [.mk (some 13) none (.mov (.t 3)) .no, .mk (some 14) none (.mov (.t 0)) .no, .mk (some 15) none (.mov (.t 4)) .no, .mk (some 16) none (.indexAddr 3 (.t 14) (.t 15))
  .no, .mk (some 17) none (.load true 3 (.t 16)) .no, .mk (some 18) none (.buildSlice false 89 3 [.t 17]) .no, .mk (some 19) none (.append true 89 3 56 (.t 13) (.t 18))
  .no, .mk (some 3) none (.mov (.t 19)) .no])
  (.seq
  (.ops
  [.mk (some 20) none (.mov (.t 3)) .no, .mk (some 21) none (.len false (.t 20)) .no, .mk (some 22) none (.bin .sub (.t 21) (.c (.one (.st (.int .i64 1)))))
  .no, .mk (some 5) none (.mov (.t 22)) .no])
  (.block 2
  (.loop
  (.seq
  (.seq
  (.ops
  [.mk (some 23) none (.mov (.t 5)) .no, .mk (some 24) none (.bin .gtr (.t 23) (.c (.one (.st (.int .i64 0)))))
  .no, .mk (some 25) none (.mov (.t 24)) .no, .mk (some 26) (some (25, true)) (.mov (.t 3)) .no, .mk (some 27) (some (25, true)) (.mov (.t 5)) .no, .mk (some 28) (some (25, true))
  (.indexAddr 3 (.t 26) (.t 27)) .no, .mk (some 29) (some (25, true)) (.fieldAddr 0 (.t 28))
  .no, .mk (some 30) (some (25, true)) (.load false 1 (.t 29))
  .no, .mk (some 31) (some (25, true)) (.mov (.t 3)) .no, .mk (some 32) (some (25, true)) (.mov (.t 5)) .no, .mk (some 33) (some (25, true)) (.bin .sub (.t 32) (.c (.one (.st (.int .i64 1)))))
  .no, .mk (some 34) (some (25, true))
  (.indexAddr 3 (.t 31) (.t 33)) .no, .mk (some 35) (some (25, true)) (.fieldAddr 0 (.t 34))
  .no, .mk (some 36) (some (25, true)) (.load false 1 (.t 35))
  .no, .mk (some 37) (some (25, true)) (.bin .lss (.t 30) (.t 36)) .no, .mk (some 38) none
  (.pick (.t 25) (.t 37) (.c (.one (.st (.bool false)))))
  .no])
  (.cond (.t 38) .skip (.exit 2)))
  (.seq
  (.block 3
  (.seq
  (.ops
  [.mk (some 41) none (.mov (.t 3)) .no, .mk (some 42) none (.mov (.t 5)) .no, .mk (some 43) none (.indexAddr 3 (.t 41) (.t 42))
  .no, .mk (some 44) none (.load true 3 (.t 43)) .no, .mk (some 6) none
  (.alloc 89
  [.st (.str (ByteArray.mk (#[]))), .st (.str (ByteArray.mk (#[]))), .full []])
  .no, .mk none none (.store 3 (.t 6) (.t 44))
  .no])
  (.seq
  (.ops
  [.mk (some 45) none (.mov (.t 3)) .no, .mk (some 46) none (.mov (.t 5)) .no, .mk (some 47) none (.mov (.t 3)) .no, .mk (some 48) none (.mov (.t 5)) .no, .mk (some 49) none (.bin .sub (.t 48) (.c (.one (.st (.int .i64 1)))))
  .no, .mk (some 50) none (.indexAddr 3 (.t 47) (.t 49))
  .no, .mk (some 51) none (.load true 3 (.t 50)) .no, .mk (some 52) none (.indexAddr 3 (.t 45) (.t 46))
  .no, .mk none none (.store 3 (.t 52) (.t 51))
  .no])
  (.ops
  [.mk (some 53) none (.mov (.t 3)) .no, .mk (some 54) none (.mov (.t 5)) .no, .mk (some 55) none (.bin .sub (.t 54) (.c (.one (.st (.int .i64 1)))))
  .no, .mk (some 56) none (.load true 3 (.t 6)) .no, .mk (some 57) none (.indexAddr 3 (.t 53) (.t 55))
  .no, .mk none none (.store 3 (.t 57) (.t 56))
  .no]))))
  (.ops
  [.mk (some 39) none (.mov (.t 5)) .no, .mk (some 40) none (.bin .sub (.t 39) (.c (.one (.st (.int .i64 1)))))
  .no, .mk (some 5) none (.mov (.t 40)) .no]))))))))
  (.ops
  [.mk (some 11) none (.mov (.t 4)) .no, .mk (some 12) none (.bin .add (.t 11) (.c (.one (.st (.int .i64 1)))))
  .no, .mk (some 4) none (.mov (.t 12)) .no]))))))
  (.seq
  (.ops
  [.mk (some 58) none (.mov (.t 3)) .no, .mk (some 2) none (.mov (.t 58)) .no])
  .ret))))
theorem tr_R_Sorted : trCode Try.prog 59 [28, 34, 43, 50, 52, 57, 19] (Try.f62.body.getD .skip) = some ir_R_Sorted := by kernel_rfl
theorem ac_R_Sorted {xs : List AV} {r : AV} (hn : xs.length ≤ 59) (h : ∀ C : Ctx, C.n = 59 → IWP Try.prog C [28, 34, 43, 50, 52, 57, 19] ir_R_Sorted (FinQ [.t 2] r) (AS.start xs)) : ACalls Try.prog 62 xs r :=
  acalls_of Try.func62 rfl tr_R_Sorted rfl hn h
end Go.Proofs.Ytkekmeiiikkabaa
