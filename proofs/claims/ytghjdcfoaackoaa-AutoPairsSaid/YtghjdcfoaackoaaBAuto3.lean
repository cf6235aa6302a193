/-
  Automata: the walk of the program's checks.
  Conditions: none.
-/
import Derived.Test.YtghjdcfoaackoaaBAuto2
namespace Go.Proofs.Ytghjdcfoaackoaa
open Go Go.RowKit
set_option linter.unusedVariables false
set_option linter.unusedSimpArgs false
set_option maxHeartbeats 1000000

def boxAu (a : Au) : ABlk := .box 25 [.st (.int .i64 a.states), .st (.list (a.moves.map encMv)), .st (.list (a.last.map encI))]
/-! ### out of range? -/
theorem bounded1_S (a : Au) (x : Int) (b : Nat) (hb : 1000 ≤ b) (S : AStore) (sb : S b = some (boxAu a)) : ACallsS Try.prog 23 [aInt x, .one (.ptr b 1 0 0)] S (aBool (!inS a.states x)) S := by
  refine acS_auto_Bounded_1 (Nat.le_of_ble_eq_true rfl) fun hS C hC => ?_
  unfold ir_auto_Bounded_1
  unfold boxAu at sb
  by_cases h1 : x < 0
  · have e : inS a.states x = false := out_inS (Or.inl h1)
    repeat' (first | (with_reducible first | refine Wa ?_ | refine Wb ?_ | refine Wc ?_ | refine Wd ?_ | refine We ?_ | refine Wf ?_ | refine Wg ?_ | refine Wh ?_ | refine Wi ?_ | refine Wj ?_ | refine Wk (by decide) ?_ | refine Wl ?_ | refine Wm ?_ | refine Wn ?_) | ((with_reducible first | refine Wo (fun K hK => ?_) | refine Wp ?_ | refine Wq ?_ | refine Wr ?_); (try simp only [go_sem, List.forall_mem_nil, ↓guard_ite, ↓pick_ite, seval, encT_eq, inR_i64, sb, h1, decide_eq_true_eq, decide_eq_false_iff_not, Int.ofNat_lt]); (repeat with_reducible refine And.intro (by first | omega | with_reducible exact lens_encT | with_reducible exact lens_encL | (simp; done) | (simp only [List.length_take, List.length_map, List.length_append, maxLen_eq]; omega)) ?_); (try (with_reducible refine hK _ ?_; clear hK K)); (try with_reducible refine ite_conj ?_)))
    refine finS_same (aBool (!inS a.states x)) hS trivial ?_ ?_ fun j hj => ?_
    · rw [e]
      rfl
    · rfl
    · rfl
  by_cases h2 : a.states ≤ x
  · have e : inS a.states x = false := out_inS (Or.inr h2)
    repeat' (first | (with_reducible first | refine Wa ?_ | refine Wb ?_ | refine Wc ?_ | refine Wd ?_ | refine We ?_ | refine Wf ?_ | refine Wg ?_ | refine Wh ?_ | refine Wi ?_ | refine Wj ?_ | refine Wk (by decide) ?_ | refine Wl ?_ | refine Wm ?_ | refine Wn ?_) | ((with_reducible first | refine Wo (fun K hK => ?_) | refine Wp ?_ | refine Wq ?_ | refine Wr ?_); (try simp only [go_sem, List.forall_mem_nil, ↓guard_ite, ↓pick_ite, seval, encT_eq, inR_i64, sb, h1, h2, decide_eq_true_eq, decide_eq_false_iff_not, Int.ofNat_lt]); (repeat with_reducible refine And.intro (by first | omega | with_reducible exact lens_encT | with_reducible exact lens_encL | (simp; done) | (simp only [List.length_take, List.length_map, List.length_append, maxLen_eq]; omega)) ?_); (try (with_reducible refine hK _ ?_; clear hK K)); (try with_reducible refine ite_conj ?_)))
    refine finS_same (aBool (!inS a.states x)) hS trivial ?_ ?_ fun j hj => ?_
    · rw [e]
      rfl
    · rfl
    · rfl
  · have e : inS a.states x = true := in_inS h1 h2
    repeat' (first | (with_reducible first | refine Wa ?_ | refine Wb ?_ | refine Wc ?_ | refine Wd ?_ | refine We ?_ | refine Wf ?_ | refine Wg ?_ | refine Wh ?_ | refine Wi ?_ | refine Wj ?_ | refine Wk (by decide) ?_ | refine Wl ?_ | refine Wm ?_ | refine Wn ?_) | ((with_reducible first | refine Wo (fun K hK => ?_) | refine Wp ?_ | refine Wq ?_ | refine Wr ?_); (try simp only [go_sem, List.forall_mem_nil, ↓guard_ite, ↓pick_ite, seval, encT_eq, inR_i64, sb, h1, h2, decide_eq_true_eq, decide_eq_false_iff_not, Int.ofNat_lt]); (repeat with_reducible refine And.intro (by first | omega | with_reducible exact lens_encT | with_reducible exact lens_encL | (simp; done) | (simp only [List.length_take, List.length_map, List.length_append, maxLen_eq]; omega)) ?_); (try (with_reducible refine hK _ ?_; clear hK K)); (try with_reducible refine ite_conj ?_)))
    refine finS_same (aBool (!inS a.states x)) hS trivial ?_ ?_ fun j hj => ?_
    · rw [e]
      rfl
    · rfl
    · rfl
theorem idx_iff {p : Int → Bool} (xs : List Int) : 0 ≤ (match xs.findIdx? p with | some i => (i : Int) | none => -1) ↔ xs.any p = true := by
  cases h : xs.findIdx? p with
  | some i =>
    rw [List.findIdx?_eq_some_iff_getElem] at h
    obtain ⟨h1, h2, _⟩ := h
    simp only [List.any_eq_true]
    exact ⟨fun _ => ⟨_, List.getElem_mem h1, h2⟩, fun _ => by omega⟩
  | none =>
    rw [List.findIdx?_eq_none_iff] at h
    constructor
    · intro h'
      exact absurd h' (by decide)
    · intro h'
      rw [List.any_eq_true] at h'
      obtain ⟨x, hx, hp⟩ := h'
      rw [h x hx] at hp
      cases hp
theorem findIdx_at {p : Int → Bool} {xs : List Int} {k : Nat} {x : Int} (hx : xs[k]? = some x) (h : (xs.take k).any p = false) (hp : p x = true) : xs.findIdx? p = some k := by
  obtain ⟨hk, he⟩ := List.getElem?_eq_some_iff.1 hx
  rw [List.findIdx?_eq_some_iff_getElem]
  refine ⟨hk, by rw [he]; exact hp, fun j hj => ?_⟩
  rw [List.any_eq_false] at h
  have := h (xs[j]'(by omega)) (by
    rw [List.mem_take_iff_getElem]
    exact ⟨j, by omega, rfl⟩)
  simpa using this
theorem indexFuncI_S (a : Au) (xs : List Int) (hl : xs.length ≤ 9223372036854775807) (b : Nat) (hb : 1000 ≤ b) (S : AStore) (sb : S b = some (boxAu a)) :
    ACallsS Try.prog 25 [aInts xs, .one (.fn 23 [.ptr b 1 0 0])] S (aInt (match xs.findIdx? (fun x => !inS a.states x) with | some i => (i : Int) | none => -1)) S := by
  refine acS_slices_IndexFunc_int_int (Nat.le_of_ble_eq_true rfl) fun hS C hC => ?_
  unfold ir_slices_IndexFunc_int_int
  repeat' (first | (with_reducible first | refine Wa ?_ | refine Wb ?_ | refine Wc ?_ | refine Wd ?_ | refine We ?_ | refine Wf ?_ | refine Wg ?_ | refine Wh ?_ | refine Wi ?_ | refine Wj ?_ | refine Wk (by decide) ?_ | refine Wl ?_ | refine Wm ?_ | refine Wn ?_) | ((with_reducible first | refine Wo (fun K hK => ?_) | refine Wp ?_ | refine Wq ?_ | refine Wr ?_); (try simp only [go_sem, List.forall_mem_nil, ↓guard_ite, ↓pick_ite, seval, encT_eq, inR_i64, decide_eq_true_eq, decide_eq_false_iff_not, Int.ofNat_lt]); (repeat with_reducible refine And.intro (by first | omega | with_reducible exact lens_encT | with_reducible exact lens_encL | (simp; done) | (simp only [List.length_take, List.length_map, List.length_append, maxLen_eq]; omega)) ?_); (try (with_reducible refine hK _ ?_; clear hK K)); (try with_reducible refine ite_conj ?_)))
  refine IWP.loop (fun n s => ∃ k, k ≤ xs.length ∧ n = xs.length - k ∧ (xs.take k).any (fun x => !inS a.states x) = false ∧ s.env 0 = aInts xs ∧ s.env 1 = .one (.fn 23 [.ptr b 1 0 0]) ∧ s.env 7 = aInt xs.length ∧ s.env 8 = aInt k ∧ s.S = S) xs.length ⟨0, Nat.zero_le _, rfl, rfl, rfl, rfl, rfl, rfl, rfl⟩ ?_
  rintro n ⟨env, S'⟩ ⟨k, hk, rfl, hp, e0, e1, e7, e8, eS⟩
  simp only at e0 e1 e7 e8 eS
  subst eS
  by_cases hlt : (k : Int) < xs.length
  · obtain ⟨x, hx⟩ := get_lt (show k < xs.length by omega)
    have hst := any_takeB (p := fun x => !inS a.states x) hx hp
    have hc := bounded1_S a x (up1 b) (up1_le b) (upS S') (by rw [upS_up, sb]; rfl)
    repeat' (first | (with_reducible first | refine Wa ?_ | refine Wb ?_ | refine Wc ?_ | refine Wd ?_ | refine We ?_ | refine Wf ?_ | refine Wg ?_ | refine Wh ?_ | refine Wi ?_ | refine Wj ?_ | refine Wk (by decide) ?_ | refine Wl ?_ | refine Wm ?_ | refine Wn ?_) | ((with_reducible first | refine Wo (fun K hK => ?_) | refine Wp ?_ | refine Wq ?_ | refine Wr ?_); (try simp only [go_sem, List.forall_mem_nil, ↓guard_ite, ↓pick_ite, seval, encT_eq, inR_i64, e0, e1, e7, e8, hlt, hx, decide_eq_true_eq, decide_eq_false_iff_not, Int.ofNat_lt]); (repeat with_reducible refine And.intro (by first | omega | with_reducible exact lens_encT | with_reducible exact lens_encL | (simp; done) | (simp only [List.length_take, List.length_map, List.length_append, maxLen_eq]; omega)) ?_); (try (with_reducible refine hK _ ?_; clear hK K)); (try with_reducible refine ite_conj ?_)))
    first | refine ⟨by kernel_rfl, _, _, hc, ?_⟩ | refine ⟨_, _, hc, ?_⟩
    by_cases hr : (!inS a.states x) = true
    · have hi := findIdx_at (p := fun x => !inS a.states x) hx hp hr
      repeat' (first | (with_reducible first | refine Wa ?_ | refine Wb ?_ | refine Wc ?_ | refine Wd ?_ | refine We ?_ | refine Wf ?_ | refine Wg ?_ | refine Wh ?_ | refine Wi ?_ | refine Wj ?_ | refine Wk (by decide) ?_ | refine Wl ?_ | refine Wm ?_ | refine Wn ?_) | ((with_reducible first | refine Wo (fun K hK => ?_) | refine Wp ?_ | refine Wq ?_ | refine Wr ?_); (try simp only [go_sem, List.forall_mem_nil, ↓guard_ite, ↓pick_ite, seval, encT_eq, inR_i64, e0, e1, e7, e8, hr, decide_eq_true_eq, decide_eq_false_iff_not, Int.ofNat_lt]); (repeat with_reducible refine And.intro (by first | omega | with_reducible exact lens_encT | with_reducible exact lens_encL | (simp; done) | (simp only [List.length_take, List.length_map, List.length_append, maxLen_eq]; omega)) ?_); (try (with_reducible refine hK _ ?_; clear hK K)); (try with_reducible refine ite_conj ?_)))
      refine finS_same (aInt k) hS trivial ?_ ?_ fun j hj => ?_
      · simp [resAll, resOne, tupV, updE]
      · rw [hi]
        rfl
      · rfl
    · have hr' : (!inS a.states x) = false := by simpa using hr
      repeat' (first | (with_reducible first | refine Wa ?_ | refine Wb ?_ | refine Wc ?_ | refine Wd ?_ | refine We ?_ | refine Wf ?_ | refine Wg ?_ | refine Wh ?_ | refine Wi ?_ | refine Wj ?_ | refine Wk (by decide) ?_ | refine Wl ?_ | refine Wm ?_ | refine Wn ?_) | ((with_reducible first | refine Wo (fun K hK => ?_) | refine Wp ?_ | refine Wq ?_ | refine Wr ?_); (try simp only [go_sem, List.forall_mem_nil, ↓guard_ite, ↓pick_ite, seval, encT_eq, inR_i64, e0, e1, e7, e8, hr', decide_eq_true_eq, decide_eq_false_iff_not, Int.ofNat_lt]); (repeat with_reducible refine And.intro (by first | omega | with_reducible exact lens_encT | with_reducible exact lens_encL | (simp; done) | (simp only [List.length_take, List.length_map, List.length_append, maxLen_eq]; omega)) ?_); (try (with_reducible refine hK _ ?_; clear hK K)); (try with_reducible refine ite_conj ?_)))
      refine then_normal ⟨xs.length - (k + 1), by omega, k + 1, by omega, rfl, ?_⟩
      simp only [go_sem, List.forall_mem_nil, ↓guard_ite, ↓pick_ite, seval, encT_eq, inR_i64, e0, e1, e7, e8]
      exact ⟨by rw [hst]; exact hr', by congr 3⟩
  · rw [List.take_of_length_le (by omega)] at hp
    have hi : xs.findIdx? (fun x => !inS a.states x) = none := by
      rw [List.findIdx?_eq_none_iff]
      intro x hx
      rw [List.any_eq_false] at hp
      simpa using hp x hx
    repeat' (first | (with_reducible first | refine Wa ?_ | refine Wb ?_ | refine Wc ?_ | refine Wd ?_ | refine We ?_ | refine Wf ?_ | refine Wg ?_ | refine Wh ?_ | refine Wi ?_ | refine Wj ?_ | refine Wk (by decide) ?_ | refine Wl ?_ | refine Wm ?_ | refine Wn ?_) | ((with_reducible first | refine Wo (fun K hK => ?_) | refine Wp ?_ | refine Wq ?_ | refine Wr ?_); (try simp only [go_sem, List.forall_mem_nil, ↓guard_ite, ↓pick_ite, seval, encT_eq, inR_i64, e0, e1, e7, e8, hlt, decide_eq_true_eq, decide_eq_false_iff_not, Int.ofNat_lt]); (repeat with_reducible refine And.intro (by first | omega | with_reducible exact lens_encT | with_reducible exact lens_encL | (simp; done) | (simp only [List.length_take, List.length_map, List.length_append, maxLen_eq]; omega)) ?_); (try (with_reducible refine hK _ ?_; clear hK K)); (try with_reducible refine ite_conj ?_)))
    refine finS_same (aInt (-1)) hS trivial ?_ ?_ fun j hj => ?_
    · simp [resAll, resOne, tupV, updE]
    · rw [hi]
      rfl
    · rfl
theorem containsFuncI_S (a : Au) (xs : List Int) (hl : xs.length ≤ 9223372036854775807) (b : Nat) (hb : 1000 ≤ b) (S : AStore) (sb : S b = some (boxAu a)) :
    ACallsS Try.prog 22 [aInts xs, .one (.fn 23 [.ptr b 1 0 0])] S (aBool (!xs.all (inS a.states))) S := by
  have hi := idx_iff (p := fun x => !inS a.states x) xs
  rw [List.not_all_eq_any_not]
  generalize (xs.any fun x => !inS a.states x) = bb at hi ⊢
  refine acS_slices_ContainsFunc_int_int (Nat.le_of_ble_eq_true rfl) fun hS C hC => ?_
  unfold ir_slices_ContainsFunc_int_int
  repeat' (first | (with_reducible first | refine Wa ?_ | refine Wb ?_ | refine Wc ?_ | refine Wd ?_ | refine We ?_ | refine Wf ?_ | refine Wg ?_ | refine Wh ?_ | refine Wi ?_ | refine Wj ?_ | refine Wk (by decide) ?_ | refine Wl ?_ | refine Wm ?_ | refine Wn ?_) | ((with_reducible first | refine Wo (fun K hK => ?_) | refine Wp ?_ | refine Wq ?_ | refine Wr ?_); (try simp only [go_sem, List.forall_mem_nil, ↓guard_ite, ↓pick_ite, seval, encT_eq, inR_i64, decide_eq_true_eq, decide_eq_false_iff_not, Int.ofNat_lt]); (repeat with_reducible refine And.intro (by first | omega | with_reducible exact lens_encT | with_reducible exact lens_encL | (simp; done) | (simp only [List.length_take, List.length_map, List.length_append, maxLen_eq]; omega)) ?_); (try (with_reducible refine hK _ ?_; clear hK K)); (try with_reducible refine ite_conj ?_)))
  refine ⟨_, _, indexFuncI_S a xs hl (up1 b) (up1_le b) (upS S) (by rw [upS_up, sb]; rfl), ?_⟩
  generalize (match xs.findIdx? (fun x => !inS a.states x) with | some i => (i : Int) | none => -1) = q at hi
  repeat' (first | (with_reducible first | refine Wa ?_ | refine Wb ?_ | refine Wc ?_ | refine Wd ?_ | refine We ?_ | refine Wf ?_ | refine Wg ?_ | refine Wh ?_ | refine Wi ?_ | refine Wj ?_ | refine Wk (by decide) ?_ | refine Wl ?_ | refine Wm ?_ | refine Wn ?_) | ((with_reducible first | refine Wo (fun K hK => ?_) | refine Wp ?_ | refine Wq ?_ | refine Wr ?_); (try simp only [go_sem, List.forall_mem_nil, ↓guard_ite, ↓pick_ite, seval, encT_eq, inR_i64, hi, decide_eq_true_eq, decide_eq_false_iff_not, Int.ofNat_lt]); (repeat with_reducible refine And.intro (by first | omega | with_reducible exact lens_encT | with_reducible exact lens_encL | (simp; done) | (simp only [List.length_take, List.length_map, List.length_append, maxLen_eq]; omega)) ?_); (try (with_reducible refine hK _ ?_; clear hK K)); (try with_reducible refine ite_conj ?_)))
  refine finS_same (aBool bb) hS trivial ?_ ?_ fun j hj => ?_
  · simp [resAll, resOne, tupV, updE]
  · rfl
  · rfl

/-! ### the program's checks -/
theorem err_any {S : Int} {m : Mv} (h1 : nameOk m.name = true) (h2 : ¬ isVar m.name = true) (h3 : ¬ 4 < m.frm.length) {s : Int} (hs : s ∈ m.frm ++ [m.to_]) (h : s < 0 ∨ S ≤ s) : m.err S = 10 := by
  rcases List.mem_append.1 hs with hs | hs
  · exact err_frm h1 h2 h3 hs h
  · rw [List.mem_singleton] at hs
    subst hs
    exact err_to h1 h2 h3 h
theorem err_all {S : Int} {m : Mv} (h1 : nameOk m.name = true) (h2 : ¬ isVar m.name = true) (h3 : ¬ 4 < m.frm.length) (h : (m.frm ++ [m.to_]).all (inS S) = true) : m.err S = 0 := by
  rw [List.all_append, Bool.and_eq_true] at h
  exact err_none h1 h2 h3 h.1 (by simpa using h.2)
theorem bounded_a (a : Au) (S M : Int) : ACalls Try.prog 19 [aAu a, aInt S, aInt M] (aInt (a.may S M)) := by
  by_cases h1 : a.states < 0
  · have e : a.may S M = 3 := if_pos (Or.inl h1)
    rw [e]
    refine ac_auto_Bounded (Nat.le_of_ble_eq_true rfl) fun C hC => ?_
    unfold ir_auto_Bounded
    repeat' (first | (with_reducible first | refine Wa ?_ | refine Wb ?_ | refine Wc ?_ | refine Wd ?_ | refine We ?_ | refine Wf ?_ | refine Wg ?_ | refine Wh ?_ | refine Wi ?_ | refine Wj ?_ | refine Wk (by decide) ?_ | refine Wl ?_ | refine Wm ?_ | refine Wn ?_) | ((with_reducible first | refine Wo (fun K hK => ?_) | refine Wp ?_ | refine Wq ?_ | refine Wr ?_); (try simp only [go_sem, List.forall_mem_nil, ↓guard_ite, ↓pick_ite, seval, encT_eq, inR_i64, h1, decide_eq_true_eq, decide_eq_false_iff_not, Int.ofNat_lt]); (repeat with_reducible refine And.intro (by first | omega | with_reducible exact lens_encT | with_reducible exact lens_encL | (simp; done) | (simp only [List.length_take, List.length_map, List.length_append, maxLen_eq]; omega)) ?_); (try (with_reducible refine hK _ ?_; clear hK K)); (try with_reducible refine ite_conj ?_)))
    simp only [go_sem, List.forall_mem_nil, ↓guard_ite, ↓pick_ite, seval, FinQ, AS.result, resAll, resOne, tupV]
  by_cases h2 : S < a.states
  · have e : a.may S M = 3 := if_pos (Or.inr (Or.inl h2))
    rw [e]
    refine ac_auto_Bounded (Nat.le_of_ble_eq_true rfl) fun C hC => ?_
    unfold ir_auto_Bounded
    repeat' (first | (with_reducible first | refine Wa ?_ | refine Wb ?_ | refine Wc ?_ | refine Wd ?_ | refine We ?_ | refine Wf ?_ | refine Wg ?_ | refine Wh ?_ | refine Wi ?_ | refine Wj ?_ | refine Wk (by decide) ?_ | refine Wl ?_ | refine Wm ?_ | refine Wn ?_) | ((with_reducible first | refine Wo (fun K hK => ?_) | refine Wp ?_ | refine Wq ?_ | refine Wr ?_); (try simp only [go_sem, List.forall_mem_nil, ↓guard_ite, ↓pick_ite, seval, encT_eq, inR_i64, h1, h2, decide_eq_true_eq, decide_eq_false_iff_not, Int.ofNat_lt]); (repeat with_reducible refine And.intro (by first | omega | with_reducible exact lens_encT | with_reducible exact lens_encL | (simp; done) | (simp only [List.length_take, List.length_map, List.length_append, maxLen_eq]; omega)) ?_); (try (with_reducible refine hK _ ?_; clear hK K)); (try with_reducible refine ite_conj ?_)))
    simp only [go_sem, List.forall_mem_nil, ↓guard_ite, ↓pick_ite, seval, FinQ, AS.result, resAll, resOne, tupV]
  by_cases h3 : M < a.moves.length
  · have e : a.may S M = 3 := if_pos (Or.inr (Or.inr h3))
    rw [e]
    refine ac_auto_Bounded (Nat.le_of_ble_eq_true rfl) fun C hC => ?_
    unfold ir_auto_Bounded
    repeat' (first | (with_reducible first | refine Wa ?_ | refine Wb ?_ | refine Wc ?_ | refine Wd ?_ | refine We ?_ | refine Wf ?_ | refine Wg ?_ | refine Wh ?_ | refine Wi ?_ | refine Wj ?_ | refine Wk (by decide) ?_ | refine Wl ?_ | refine Wm ?_ | refine Wn ?_) | ((with_reducible first | refine Wo (fun K hK => ?_) | refine Wp ?_ | refine Wq ?_ | refine Wr ?_); (try simp only [go_sem, List.forall_mem_nil, ↓guard_ite, ↓pick_ite, seval, encT_eq, inR_i64, h1, h2, h3, decide_eq_true_eq, decide_eq_false_iff_not, Int.ofNat_lt]); (repeat with_reducible refine And.intro (by first | omega | with_reducible exact lens_encT | with_reducible exact lens_encL | (simp; done) | (simp only [List.length_take, List.length_map, List.length_append, maxLen_eq]; omega)) ?_); (try (with_reducible refine hK _ ?_; clear hK K)); (try with_reducible refine ite_conj ?_)))
    simp only [go_sem, List.forall_mem_nil, ↓guard_ite, ↓pick_ite, seval, FinQ, AS.result, resAll, resOne, tupV]
  have h0 : ¬ (a.states < 0 ∨ S < a.states ∨ M < a.moves.length) := by omega
  refine ac_auto_Bounded (Nat.le_of_ble_eq_true rfl) fun C hC => ?_
  unfold ir_auto_Bounded
  refine IWP.learn 0 (by omega) fun hkn => ?_
  obtain ⟨kM, kL, kF⟩ := known_au hkn
  repeat' (first | (with_reducible first | refine Wa ?_ | refine Wb ?_ | refine Wc ?_ | refine Wd ?_ | refine We ?_ | refine Wf ?_ | refine Wg ?_ | refine Wh ?_ | refine Wi ?_ | refine Wj ?_ | refine Wk (by decide) ?_ | refine Wl ?_ | refine Wm ?_ | refine Wn ?_) | ((with_reducible first | refine Wo (fun K hK => ?_) | refine Wp ?_ | refine Wq ?_ | refine Wr ?_); (try simp only [go_sem, List.forall_mem_nil, ↓guard_ite, ↓pick_ite, seval, encT_eq, inR_i64, h1, h2, h3, decide_eq_true_eq, decide_eq_false_iff_not, Int.ofNat_lt]); (repeat with_reducible refine And.intro (by first | omega | with_reducible exact lens_encT | with_reducible exact lens_encL | (simp; done) | (simp only [List.length_take, List.length_map, List.length_append, maxLen_eq]; omega)) ?_); (try (with_reducible refine hK _ ?_; clear hK K)); (try with_reducible refine ite_conj ?_)))
  refine IWP.loopD [8, 49] (fun n s => ∃ k, k ≤ a.moves.length ∧ n = a.moves.length - k ∧ s.env 3 = .one (.ptr 3 1 0 0) ∧ s.S 3 = some (boxAu a) ∧ s.env 28 = .one (.st (.list (a.moves.map encMv))) ∧ s.env 29 = aInt a.moves.length ∧ s.env 30 = aInt k ∧ s.S 8 = none ∧ s.S 49 = none ∧ mvsErr a.states (a.moves.take k) = 0) a.moves.length ⟨0, Nat.zero_le _, rfl, rfl, rfl, rfl, rfl, rfl, rfl, rfl, rfl⟩ ?_
  rintro n ⟨env, St⟩ ⟨k, hk, rfl, e3, s3, e28, e29, e30, s8, s49, hno⟩
  simp only at e3 s3 e28 e29 e30 s8 s49
  unfold boxAu at s3
  by_cases hlt : (k : Int) < a.moves.length
  · obtain ⟨m, hm⟩ := get_lt (show k < a.moves.length by omega)
    have hmm := mem_of_get hm
    have hst := mvsErr_take hm hno
    by_cases g1 : nameOk m.name = true
    case neg =>
      have e := may_move h0 hm hno (err_name g1) (by decide)
      repeat' (first | (with_reducible first | refine Wa ?_ | refine Wb ?_ | refine Wc ?_ | refine Wd ?_ | refine We ?_ | refine Wf ?_ | refine Wg ?_ | refine Wh ?_ | refine Wi ?_ | refine Wj ?_ | refine Wk (by decide) ?_ | refine Wl ?_ | refine Wm ?_ | refine Wn ?_) | refine CallG.mk _ (name_a m.name) ?_ | ((with_reducible first | refine Wo (fun K hK => ?_) | refine Wp ?_ | refine Wq ?_ | refine Wr ?_); (try simp only [go_sem, List.forall_mem_nil, ↓guard_ite, ↓pick_ite, seval, encT_eq, inR_i64, e3, s3, e28, e29, e30, s8, s49, hlt, hm, encMv, g1, decide_eq_true_eq, decide_eq_false_iff_not, Int.ofNat_lt]); (repeat with_reducible refine And.intro (by first | omega | with_reducible exact lens_encT | with_reducible exact lens_encL | (simp; done) | (simp only [List.length_take, List.length_map, List.length_append, maxLen_eq]; omega)) ?_); (try (with_reducible refine hK _ ?_; clear hK K)); (try with_reducible refine ite_conj ?_)))
      simp only [go_sem, List.forall_mem_nil, ↓guard_ite, ↓pick_ite, seval, FinQ, AS.result, resAll, resOne, tupV, e]
    case pos =>
    by_cases g2 : isVar m.name = true
    · have e := may_move h0 hm hno (err_var g2) (by decide)
      repeat' (first | (with_reducible first | refine Wa ?_ | refine Wb ?_ | refine Wc ?_ | refine Wd ?_ | refine We ?_ | refine Wf ?_ | refine Wg ?_ | refine Wh ?_ | refine Wi ?_ | refine Wj ?_ | refine Wk (by decide) ?_ | refine Wl ?_ | refine Wm ?_ | refine Wn ?_) | refine CallG.mk _ (name_a m.name) ?_ | refine CallG.mk _ (variable_a m.name) ?_ | ((with_reducible first | refine Wo (fun K hK => ?_) | refine Wp ?_ | refine Wq ?_ | refine Wr ?_); (try simp only [go_sem, List.forall_mem_nil, ↓guard_ite, ↓pick_ite, seval, encT_eq, inR_i64, e3, s3, e28, e29, e30, s8, s49, hlt, hm, encMv, g1, g2, decide_eq_true_eq, decide_eq_false_iff_not, Int.ofNat_lt]); (repeat with_reducible refine And.intro (by first | omega | with_reducible exact lens_encT | with_reducible exact lens_encL | (simp; done) | (simp only [List.length_take, List.length_map, List.length_append, maxLen_eq]; omega)) ?_); (try (with_reducible refine hK _ ?_; clear hK K)); (try with_reducible refine ite_conj ?_)))
      simp only [go_sem, List.forall_mem_nil, ↓guard_ite, ↓pick_ite, seval, FinQ, AS.result, resAll, resOne, tupV, e]
    by_cases g3 : (4 : Int) < m.frm.length
    · have e := may_move h0 hm hno (err_len g1 g2 (by omega)) (by decide)
      repeat' (first | (with_reducible first | refine Wa ?_ | refine Wb ?_ | refine Wc ?_ | refine Wd ?_ | refine We ?_ | refine Wf ?_ | refine Wg ?_ | refine Wh ?_ | refine Wi ?_ | refine Wj ?_ | refine Wk (by decide) ?_ | refine Wl ?_ | refine Wm ?_ | refine Wn ?_) | refine CallG.mk _ (name_a m.name) ?_ | refine CallG.mk _ (variable_a m.name) ?_ | ((with_reducible first | refine Wo (fun K hK => ?_) | refine Wp ?_ | refine Wq ?_ | refine Wr ?_); (try simp only [go_sem, List.forall_mem_nil, ↓guard_ite, ↓pick_ite, seval, encT_eq, inR_i64, e3, s3, e28, e29, e30, s8, s49, hlt, hm, encMv, g1, g2, g3, decide_eq_true_eq, decide_eq_false_iff_not, Int.ofNat_lt]); (repeat with_reducible refine And.intro (by first | omega | with_reducible exact lens_encT | with_reducible exact lens_encL | (simp; done) | (simp only [List.length_take, List.length_map, List.length_append, maxLen_eq]; omega)) ?_); (try (with_reducible refine hK _ ?_; clear hK K)); (try with_reducible refine ite_conj ?_)))
      simp only [go_sem, List.forall_mem_nil, ↓guard_ite, ↓pick_ite, seval, FinQ, AS.result, resAll, resOne, tupV, e]
    have g3' : ¬ 4 < m.frm.length := by omega
    have gb : (m.frm.length + 1) * 8 ≤ 140737488355328 := by omega
    repeat' (first | (with_reducible first | refine Wa ?_ | refine Wb ?_ | refine Wc ?_ | refine Wd ?_ | refine We ?_ | refine Wf ?_ | refine Wg ?_ | refine Wh ?_ | refine Wi ?_ | refine Wj ?_ | refine Wk (by decide) ?_ | refine Wl ?_ | refine Wm ?_ | refine Wn ?_) | refine CallG.mk _ (name_a m.name) ?_ | refine CallG.mk _ (variable_a m.name) ?_ | ((with_reducible first | refine Wo (fun K hK => ?_) | refine Wp ?_ | refine Wq ?_ | refine Wr ?_); (try simp only [go_sem, List.forall_mem_nil, ↓guard_ite, ↓pick_ite, seval, encT_eq, inR_i64, e3, s3, e28, e29, e30, s8, s49, hlt, hm, encMv, g1, g2, g3, decide_eq_true_eq, decide_eq_false_iff_not, Int.ofNat_lt]); (repeat with_reducible refine And.intro (by first | omega | with_reducible exact lens_encT | with_reducible exact lens_encL | (simp; done) | (simp only [List.length_take, List.length_map, List.length_append, maxLen_eq]; omega)) ?_); (try (with_reducible refine hK _ ?_; clear hK K)); (try with_reducible refine ite_conj ?_)))
    refine ⟨_, _, _, cloneI_N m.frm (by omega), by simp [updE, s49], ?_⟩
    repeat' (first | (with_reducible first | refine Wa ?_ | refine Wb ?_ | refine Wc ?_ | refine Wd ?_ | refine We ?_ | refine Wf ?_ | refine Wg ?_ | refine Wh ?_ | refine Wi ?_ | refine Wj ?_ | refine Wk (by decide) ?_ | refine Wl ?_ | refine Wm ?_ | refine Wn ?_) | ((with_reducible first | refine Wo (fun K hK => ?_) | refine Wp ?_ | refine Wq ?_ | refine Wr ?_); (try simp only [go_sem, List.forall_mem_nil, ↓guard_ite, ↓pick_ite, seval, encT_eq, inR_i64, e3, s3, e28, e29, e30, s8, s49, gb, decide_eq_true_eq, decide_eq_false_iff_not, Int.ofNat_lt]); (repeat with_reducible refine And.intro (by first | omega | with_reducible exact lens_encT | with_reducible exact lens_encL | (simp; done) | (simp only [List.length_take, List.length_map, List.length_append, maxLen_eq]; omega)) ?_); (try (with_reducible refine hK _ ?_; clear hK K)); (try with_reducible refine ite_conj ?_)))
    have kFm : (m.frm ++ [m.to_]).length = m.frm.length + 1 := by simp
    refine IWP.loop (fun n s => ∃ j, j ≤ m.frm.length + 1 ∧ n = m.frm.length + 1 - j ∧ s.env 3 = .one (.ptr 3 1 0 0) ∧ s.S 3 = some (boxAu a) ∧ s.env 28 = .one (.st (.list (a.moves.map encMv))) ∧ s.env 29 = aInt a.moves.length ∧ s.env 30 = aInt k ∧ s.env 53 = .one (.row 49 (m.frm.length + 1)) ∧ s.S 49 = some (.arow 3 1 ((m.frm ++ [m.to_]).map encI)) ∧ s.env 54 = aInt ((m.frm.length + 1 : Nat) : Int) ∧ s.env 55 = aInt j ∧ ((m.frm ++ [m.to_]).take j).all (inS a.states) = true) (m.frm.length + 1) ⟨0, Nat.zero_le _, rfl, by simpa [updE] using e3, by simpa [updE, boxAu] using s3, by simpa [updE] using e28, by simpa [updE] using e29, by simpa [updE] using e30, by simp [updE], by simp [updE], by simp [updE], by simp [updE], rfl⟩ ?_
    rintro n ⟨env2, S2⟩ ⟨j, hj, rfl, f3, t3, f28, f29, f30, f53, t49, f54, f55, hall⟩
    simp only at f3 t3 f28 f29 f30 f53 t49 f54 f55
    unfold boxAu at t3
    by_cases hjl : (j : Int) < ((m.frm.length + 1 : Nat) : Int)
    · obtain ⟨s, hs⟩ := get_lt (show j < (m.frm ++ [m.to_]).length by omega)
      have hst2 := all_takeB hs hall
      generalize hL : m.frm ++ [m.to_] = L at *
      have kL' : ¬ m.frm.length + 1 < L.length := by omega
      by_cases g4 : s < 0
      · have e := may_move h0 hm hno (err_any g1 g2 g3' (by rw [hL]; exact mem_of_get hs) (Or.inl g4)) (by decide)
        repeat' (first | (with_reducible first | refine Wa ?_ | refine Wb ?_ | refine Wc ?_ | refine Wd ?_ | refine We ?_ | refine Wf ?_ | refine Wg ?_ | refine Wh ?_ | refine Wi ?_ | refine Wj ?_ | refine Wk (by decide) ?_ | refine Wl ?_ | refine Wm ?_ | refine Wn ?_) | ((with_reducible first | refine Wo (fun K hK => ?_) | refine Wp ?_ | refine Wq ?_ | refine Wr ?_); (try simp only [go_sem, List.forall_mem_nil, ↓guard_ite, ↓pick_ite, seval, encT_eq, inR_i64, f3, t3, f28, f29, f30, f53, t49, f54, f55, hjl, hs, g4, kFm, decide_eq_true_eq, decide_eq_false_iff_not, Int.ofNat_lt]); (repeat with_reducible refine And.intro (by first | omega | with_reducible exact lens_encT | with_reducible exact lens_encL | (simp; done) | (simp only [List.length_take, List.length_map, List.length_append, maxLen_eq]; omega)) ?_); (try (with_reducible refine hK _ ?_; clear hK K)); (try with_reducible refine ite_conj ?_)))
        simp only [go_sem, List.forall_mem_nil, ↓guard_ite, ↓pick_ite, seval, FinQ, AS.result, resAll, resOne, tupV, e]
      by_cases g5 : a.states ≤ s
      · have e := may_move h0 hm hno (err_any g1 g2 g3' (by rw [hL]; exact mem_of_get hs) (Or.inr g5)) (by decide)
        repeat' (first | (with_reducible first | refine Wa ?_ | refine Wb ?_ | refine Wc ?_ | refine Wd ?_ | refine We ?_ | refine Wf ?_ | refine Wg ?_ | refine Wh ?_ | refine Wi ?_ | refine Wj ?_ | refine Wk (by decide) ?_ | refine Wl ?_ | refine Wm ?_ | refine Wn ?_) | ((with_reducible first | refine Wo (fun K hK => ?_) | refine Wp ?_ | refine Wq ?_ | refine Wr ?_); (try simp only [go_sem, List.forall_mem_nil, ↓guard_ite, ↓pick_ite, seval, encT_eq, inR_i64, f3, t3, f28, f29, f30, f53, t49, f54, f55, hjl, hs, g4, g5, kFm, decide_eq_true_eq, decide_eq_false_iff_not, Int.ofNat_lt]); (repeat with_reducible refine And.intro (by first | omega | with_reducible exact lens_encT | with_reducible exact lens_encL | (simp; done) | (simp only [List.length_take, List.length_map, List.length_append, maxLen_eq]; omega)) ?_); (try (with_reducible refine hK _ ?_; clear hK K)); (try with_reducible refine ite_conj ?_)))
        simp only [go_sem, List.forall_mem_nil, ↓guard_ite, ↓pick_ite, seval, FinQ, AS.result, resAll, resOne, tupV, e]
      · repeat' (first | (with_reducible first | refine Wa ?_ | refine Wb ?_ | refine Wc ?_ | refine Wd ?_ | refine We ?_ | refine Wf ?_ | refine Wg ?_ | refine Wh ?_ | refine Wi ?_ | refine Wj ?_ | refine Wk (by decide) ?_ | refine Wl ?_ | refine Wm ?_ | refine Wn ?_) | ((with_reducible first | refine Wo (fun K hK => ?_) | refine Wp ?_ | refine Wq ?_ | refine Wr ?_); (try simp only [go_sem, List.forall_mem_nil, ↓guard_ite, ↓pick_ite, seval, encT_eq, inR_i64, f3, t3, f28, f29, f30, f53, t49, f54, f55, hjl, hs, g4, g5, kFm, decide_eq_true_eq, decide_eq_false_iff_not, Int.ofNat_lt]); (repeat with_reducible refine And.intro (by first | omega | with_reducible exact lens_encT | with_reducible exact lens_encL | (simp; done) | (simp only [List.length_take, List.length_map, List.length_append, maxLen_eq]; omega)) ?_); (try (with_reducible refine hK _ ?_; clear hK K)); (try with_reducible refine ite_conj ?_)))
        refine then_normal ⟨m.frm.length + 1 - (j + 1), by omega, j + 1, by omega, rfl, ?_⟩
        simp only [go_sem, List.forall_mem_nil, ↓guard_ite, ↓pick_ite, seval, encT_eq, inR_i64, f3, t3, f28, f29, f30, f53, t49, f54, f55]
        exact ⟨rfl, by congr 3, by rw [hst2]; exact in_inS g4 g5⟩
    · rw [List.take_of_length_le (by omega)] at hall
      repeat' (first | (with_reducible first | refine Wa ?_ | refine Wb ?_ | refine Wc ?_ | refine Wd ?_ | refine We ?_ | refine Wf ?_ | refine Wg ?_ | refine Wh ?_ | refine Wi ?_ | refine Wj ?_ | refine Wk (by decide) ?_ | refine Wl ?_ | refine Wm ?_ | refine Wn ?_) | ((with_reducible first | refine Wo (fun K hK => ?_) | refine Wp ?_ | refine Wq ?_ | refine Wr ?_); (try simp only [go_sem, List.forall_mem_nil, ↓guard_ite, ↓pick_ite, seval, encT_eq, inR_i64, f3, t3, f28, f29, f30, f53, t49, f54, f55, hjl, decide_eq_true_eq, decide_eq_false_iff_not, Int.ofNat_lt]); (repeat with_reducible refine And.intro (by first | omega | with_reducible exact lens_encT | with_reducible exact lens_encL | (simp; done) | (simp only [List.length_take, List.length_map, List.length_append, maxLen_eq]; omega)) ?_); (try (with_reducible refine hK _ ?_; clear hK K)); (try with_reducible refine ite_conj ?_)))
      refine then_normal ⟨a.moves.length - (k + 1), by omega, k + 1, by omega, rfl, ?_⟩
      simp only [go_sem, List.forall_mem_nil, ↓guard_ite, ↓pick_ite, seval, AS.drop, dropS, AC.clears, AC.clear, AC.highs, AC.high, Bool.not_false, Bool.true_and, Bool.and_self, AV.purge, AV.purges, AC.purge, ABlk.purge, List.contains_cons, List.contains_nil, Nat.reduceBEq, Bool.or_self, Bool.or_false, Bool.false_or, Bool.or_true, encT_eq, inR_i64, f3, t3, f28, f29, f30, f53, t49, f54, f55]
      exact ⟨rfl, by congr 3, by rw [hst]; exact err_all g1 g2 g3' hall⟩
  · rw [List.take_of_length_le (by omega)] at hno
    have e := may_last (S := S) (M := M) h0 hno
    repeat' (first | (with_reducible first | refine Wa ?_ | refine Wb ?_ | refine Wc ?_ | refine Wd ?_ | refine We ?_ | refine Wf ?_ | refine Wg ?_ | refine Wh ?_ | refine Wi ?_ | refine Wj ?_ | refine Wk (by decide) ?_ | refine Wl ?_ | refine Wm ?_ | refine Wn ?_) | ((with_reducible first | refine Wo (fun K hK => ?_) | refine Wp ?_ | refine Wq ?_ | refine Wr ?_); (try simp only [go_sem, List.forall_mem_nil, ↓guard_ite, ↓pick_ite, seval, encT_eq, inR_i64, e3, s3, e28, e29, e30, hlt, AS.caps, decide_eq_true_eq, decide_eq_false_iff_not, Int.ofNat_lt]); (repeat with_reducible refine And.intro (by first | omega | with_reducible exact lens_encT | with_reducible exact lens_encL | (simp; done) | (simp only [List.length_take, List.length_map, List.length_append, maxLen_eq]; omega)) ?_); (try (with_reducible refine hK _ ?_; clear hK K)); (try with_reducible refine ite_conj ?_)))
    refine ⟨_, _, containsFuncI_S a a.last (by omega) (up1 3) (up1_le 3) _ (by rw [upS_up, s3]; rfl), ?_⟩
    by_cases hall : a.last.all (inS a.states) = true
    · rw [hall, if_pos rfl] at e
      repeat' (first | (with_reducible first | refine Wa ?_ | refine Wb ?_ | refine Wc ?_ | refine Wd ?_ | refine We ?_ | refine Wf ?_ | refine Wg ?_ | refine Wh ?_ | refine Wi ?_ | refine Wj ?_ | refine Wk (by decide) ?_ | refine Wl ?_ | refine Wm ?_ | refine Wn ?_) | ((with_reducible first | refine Wo (fun K hK => ?_) | refine Wp ?_ | refine Wq ?_ | refine Wr ?_); (try simp only [go_sem, List.forall_mem_nil, ↓guard_ite, ↓pick_ite, seval, encT_eq, inR_i64, e3, s3, e28, e29, e30, hall, decide_eq_true_eq, decide_eq_false_iff_not, Int.ofNat_lt]); (repeat with_reducible refine And.intro (by first | omega | with_reducible exact lens_encT | with_reducible exact lens_encL | (simp; done) | (simp only [List.length_take, List.length_map, List.length_append, maxLen_eq]; omega)) ?_); (try (with_reducible refine hK _ ?_; clear hK K)); (try with_reducible refine ite_conj ?_)))
      simp only [go_sem, List.forall_mem_nil, ↓guard_ite, ↓pick_ite, seval, FinQ, AS.result, resAll, resOne, tupV, e]
    · have hall' : a.last.all (inS a.states) = false := by simpa using hall
      rw [hall', if_neg (by decide)] at e
      repeat' (first | (with_reducible first | refine Wa ?_ | refine Wb ?_ | refine Wc ?_ | refine Wd ?_ | refine We ?_ | refine Wf ?_ | refine Wg ?_ | refine Wh ?_ | refine Wi ?_ | refine Wj ?_ | refine Wk (by decide) ?_ | refine Wl ?_ | refine Wm ?_ | refine Wn ?_) | ((with_reducible first | refine Wo (fun K hK => ?_) | refine Wp ?_ | refine Wq ?_ | refine Wr ?_); (try simp only [go_sem, List.forall_mem_nil, ↓guard_ite, ↓pick_ite, seval, encT_eq, inR_i64, e3, s3, e28, e29, e30, hall', decide_eq_true_eq, decide_eq_false_iff_not, Int.ofNat_lt]); (repeat with_reducible refine And.intro (by first | omega | with_reducible exact lens_encT | with_reducible exact lens_encL | (simp; done) | (simp only [List.length_take, List.length_map, List.length_append, maxLen_eq]; omega)) ?_); (try (with_reducible refine hK _ ?_; clear hK K)); (try with_reducible refine ite_conj ?_)))
      simp only [go_sem, List.forall_mem_nil, ↓guard_ite, ↓pick_ite, seval, FinQ, AS.result, resAll, resOne, tupV, e]
theorem check_a (a : Au) : ACalls Try.prog 17 [aAu a] (aInt (a.may 8 40)) := by
  refine ac_auto_Check (Nat.le_of_ble_eq_true rfl) fun C hC => ?_
  unfold ir_auto_Check
  repeat' (first | (with_reducible first | refine Wa ?_ | refine Wb ?_ | refine Wc ?_ | refine Wd ?_ | refine We ?_ | refine Wf ?_ | refine Wg ?_ | refine Wh ?_ | refine Wi ?_ | refine Wj ?_ | refine Wk (by decide) ?_ | refine Wl ?_ | refine Wm ?_ | refine Wn ?_) | refine CallG.mk _ (bounded_a a 8 40) ?_ | ((with_reducible first | refine Wo (fun K hK => ?_) | refine Wp ?_ | refine Wq ?_ | refine Wr ?_); (try simp only [go_sem, List.forall_mem_nil, ↓guard_ite, ↓pick_ite, seval, encT_eq, inR_i64, decide_eq_true_eq, decide_eq_false_iff_not, Int.ofNat_lt]); (repeat with_reducible refine And.intro (by first | omega | with_reducible exact lens_encT | with_reducible exact lens_encL | (simp; done) | (simp only [List.length_take, List.length_map, List.length_append, maxLen_eq]; omega)) ?_); (try (with_reducible refine hK _ ?_; clear hK K)); (try with_reducible refine ite_conj ?_)))
  simp only [go_sem, List.forall_mem_nil, ↓guard_ite, ↓pick_ite, seval, FinQ, AS.result, resAll, resOne, tupV]
def pairErr (a b : Au) : Int := if a.may 8 40 = 0 then b.may 8 40 else a.may 8 40
theorem pair_a (a b : Au) : ACalls Try.prog 12 [aAu a, aAu b] (aInt (pairErr a b)) := by
  unfold pairErr
  by_cases h : a.may 8 40 = 0
  · rw [if_pos h]
    refine ac_auto_pair (Nat.le_of_ble_eq_true rfl) fun C hC => ?_
    unfold ir_auto_pair
    repeat' (first | (with_reducible first | refine Wa ?_ | refine Wb ?_ | refine Wc ?_ | refine Wd ?_ | refine We ?_ | refine Wf ?_ | refine Wg ?_ | refine Wh ?_ | refine Wi ?_ | refine Wj ?_ | refine Wk (by decide) ?_ | refine Wl ?_ | refine Wm ?_ | refine Wn ?_) | refine CallG.mk _ (check_a a) ?_ | refine CallG.mk _ (check_a b) ?_ | ((with_reducible first | refine Wo (fun K hK => ?_) | refine Wp ?_ | refine Wq ?_ | refine Wr ?_); (try simp only [go_sem, List.forall_mem_nil, ↓guard_ite, ↓pick_ite, seval, encT_eq, inR_i64, h, decide_eq_true_eq, decide_eq_false_iff_not, Int.ofNat_lt]); (repeat with_reducible refine And.intro (by first | omega | with_reducible exact lens_encT | with_reducible exact lens_encL | (simp; done) | (simp only [List.length_take, List.length_map, List.length_append, maxLen_eq]; omega)) ?_); (try (with_reducible refine hK _ ?_; clear hK K)); (try with_reducible refine ite_conj ?_)))
    simp only [go_sem, List.forall_mem_nil, ↓guard_ite, ↓pick_ite, seval, FinQ, AS.result, resAll, resOne, tupV]
  · rw [if_neg h]
    refine ac_auto_pair (Nat.le_of_ble_eq_true rfl) fun C hC => ?_
    unfold ir_auto_pair
    repeat' (first | (with_reducible first | refine Wa ?_ | refine Wb ?_ | refine Wc ?_ | refine Wd ?_ | refine We ?_ | refine Wf ?_ | refine Wg ?_ | refine Wh ?_ | refine Wi ?_ | refine Wj ?_ | refine Wk (by decide) ?_ | refine Wl ?_ | refine Wm ?_ | refine Wn ?_) | refine CallG.mk _ (check_a a) ?_ | ((with_reducible first | refine Wo (fun K hK => ?_) | refine Wp ?_ | refine Wq ?_ | refine Wr ?_); (try simp only [go_sem, List.forall_mem_nil, ↓guard_ite, ↓pick_ite, seval, encT_eq, inR_i64, h, decide_eq_true_eq, decide_eq_false_iff_not, Int.ofNat_lt]); (repeat with_reducible refine And.intro (by first | omega | with_reducible exact lens_encT | with_reducible exact lens_encL | (simp; done) | (simp only [List.length_take, List.length_map, List.length_append, maxLen_eq]; omega)) ?_); (try (with_reducible refine hK _ ?_; clear hK K)); (try with_reducible refine ite_conj ?_)))
    simp only [go_sem, List.forall_mem_nil, ↓guard_ite, ↓pick_ite, seval, FinQ, AS.result, resAll, resOne, tupV]
end Go.Proofs.Ytghjdcfoaackoaa
