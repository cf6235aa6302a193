/-
  Bindings: the walks.
  Conditions: none.
-/
import Derived.Test.YtelmgldeghmkbaaIrSubst
import Derived.Test.YtelmgldeghmkbaaPSubst
namespace Go.Proofs.Ytelmgldeghmkbaa
open Go Go.RowKit
set_option linter.unusedVariables false
set_option linter.unusedSimpArgs false
set_option maxHeartbeats 400000

theorem for_a (l : List Bd) (n : ByteArray) : ACalls Try.prog 33 [aBds l, aStr n] (.tup [aTm ((lookup l n).getD Tm.nil), aBool (lookup l n).isSome]) := by
  refine ac_R_For (Nat.le_of_ble_eq_true rfl) fun C hC => ?_
  unfold ir_R_For
  refine IWP.learn 0 (by omega) fun hkn => ?_
  have hkn := known_len hkn
  rw [List.length_map] at hkn
  repeat' (first | (with_reducible first | refine Wa ?_ | refine Wb ?_ | refine Wc ?_ | refine Wd ?_ | refine We ?_ | refine Wf ?_ | refine Wg ?_ | refine Wh ?_ | refine Wi ?_ | refine Wj ?_ | refine Wk (by decide) ?_ | refine Wl ?_ | refine Wm ?_ | refine Wn ?_) | ((with_reducible first | refine Wo (fun K hK => ?_) | refine Wq ?_ | refine Wr ?_); (try simp only [go_sem, List.forall_mem_nil, ↓guard_ite, ↓pick_ite, seval, encT_eq, inR_i64]); (repeat with_reducible refine And.intro (by first | omega | with_reducible exact lens_encT | with_reducible exact lens_encL | (simp; done) | (simp only [List.length_take, List.length_map, List.length_append, maxLen_eq]; omega)) ?_); (try (with_reducible refine hK _ ?_; clear hK K))))
  refine IWP.loop (fun m s => ∃ k, k ≤ l.length ∧ m = l.length - k ∧ (∀ c ∈ l.take k, c.1 ≠ n) ∧ s.env 0 = aBds l ∧ s.env 1 = aStr n ∧ s.env 4 = .one (.ptr 4 1 0 0) ∧ s.S 4 = some (.box 25 [.st (.str ⟨#[]⟩), .full []]) ∧ s.env 6 = aInt k) l.length ⟨0, Nat.zero_le _, rfl, by simp, rfl, rfl, rfl, rfl, rfl⟩ ?_
  rintro m ⟨env, S⟩ ⟨k, hk, rfl, h0, e0, e1, e4, s4, e6⟩
  simp only at e0 e1 e4 s4 e6
  by_cases hlt : (k : Int) < l.length
  · obtain ⟨b, hb⟩ := get_lt (show k < l.length by omega)
    repeat' (first | (with_reducible first | refine Wa ?_ | refine Wb ?_ | refine Wc ?_ | refine Wd ?_ | refine We ?_ | refine Wf ?_ | refine Wg ?_ | refine Wh ?_ | refine Wi ?_ | refine Wj ?_ | refine Wk (by decide) ?_ | refine Wl ?_ | refine Wm ?_ | refine Wn ?_) | ((with_reducible first | refine Wo (fun K hK => ?_) | refine Wq ?_ | refine Wr ?_); (try simp only [go_sem, List.forall_mem_nil, ↓guard_ite, ↓pick_ite, seval, encT_eq, inR_i64, e0, e1, e4, s4, e6, hlt]); (repeat with_reducible refine And.intro (by first | omega | with_reducible exact lens_encT | with_reducible exact lens_encL | (simp; done) | (simp only [List.length_take, List.length_map, List.length_append, maxLen_eq]; omega)) ?_); (try (with_reducible refine hK _ ?_; clear hK K))))
    with_reducible refine Wp ?_
    simp only [go_sem, List.forall_mem_nil, ↓guard_ite, ↓pick_ite, seval, true_implies, false_implies, implies_true, decide_eq_true_eq, decide_eq_false_iff_not, Int.ofNat_lt, hlt]
    (try with_reducible refine ite_conj ?_)
    repeat' (first | (with_reducible first | refine Wa ?_ | refine Wb ?_ | refine Wc ?_ | refine Wd ?_ | refine We ?_ | refine Wf ?_ | refine Wg ?_ | refine Wh ?_ | refine Wi ?_ | refine Wj ?_ | refine Wk (by decide) ?_ | refine Wl ?_ | refine Wm ?_ | refine Wn ?_) | ((with_reducible first | refine Wo (fun K hK => ?_) | refine Wq ?_ | refine Wr ?_); (try simp only [go_sem, List.forall_mem_nil, ↓guard_ite, ↓pick_ite, seval, encT_eq, inR_i64, e0, e1, e4, s4, e6, hb, encB]); (repeat with_reducible refine And.intro (by first | omega | with_reducible exact lens_encT | with_reducible exact lens_encL | (simp; done) | (simp only [List.length_take, List.length_map, List.length_append, maxLen_eq]; omega)) ?_); (try (with_reducible refine hK _ ?_; clear hK K))))
    by_cases he : b.1 = n
    · with_reducible refine Wp ?_
      simp only [go_sem, List.forall_mem_nil, ↓guard_ite, ↓pick_ite, seval, true_implies, false_implies, implies_true, decide_eq_true_eq, decide_eq_false_iff_not, Int.ofNat_lt, he]
      (try with_reducible refine ite_conj ?_)
      repeat' (first | (with_reducible first | refine Wa ?_ | refine Wb ?_ | refine Wc ?_ | refine Wd ?_ | refine We ?_ | refine Wf ?_ | refine Wg ?_ | refine Wh ?_ | refine Wi ?_ | refine Wj ?_ | refine Wk (by decide) ?_ | refine Wl ?_ | refine Wm ?_ | refine Wn ?_) | ((with_reducible first | refine Wo (fun K hK => ?_) | refine Wq ?_ | refine Wr ?_); (try simp only [go_sem, List.forall_mem_nil, ↓guard_ite, ↓pick_ite, seval, encT_eq, inR_i64, e0, e1, e4, s4, e6, hb, encB]); (repeat with_reducible refine And.intro (by first | omega | with_reducible exact lens_encT | with_reducible exact lens_encL | (simp; done) | (simp only [List.length_take, List.length_map, List.length_append, maxLen_eq]; omega)) ?_); (try (with_reducible refine hK _ ?_; clear hK K))))
      simp only [go_sem, List.forall_mem_nil, ↓guard_ite, ↓pick_ite, seval, FinQ, AS.result, resAll, resOne, tupV, e4]
      rw [lookup_take hb he h0]
      rfl
    · with_reducible refine Wp ?_
      simp only [go_sem, List.forall_mem_nil, ↓guard_ite, ↓pick_ite, seval, true_implies, false_implies, implies_true, decide_eq_true_eq, decide_eq_false_iff_not, Int.ofNat_lt, he]
      (try with_reducible refine ite_conj ?_)
      repeat' (first | (with_reducible first | refine Wa ?_ | refine Wb ?_ | refine Wc ?_ | refine Wd ?_ | refine We ?_ | refine Wf ?_ | refine Wg ?_ | refine Wh ?_ | refine Wi ?_ | refine Wj ?_ | refine Wk (by decide) ?_ | refine Wl ?_ | refine Wm ?_ | refine Wn ?_) | ((with_reducible first | refine Wo (fun K hK => ?_) | refine Wq ?_ | refine Wr ?_); (try simp only [go_sem, List.forall_mem_nil, ↓guard_ite, ↓pick_ite, seval, encT_eq, inR_i64, e0, e1, e4, s4, e6]); (repeat with_reducible refine And.intro (by first | omega | with_reducible exact lens_encT | with_reducible exact lens_encL | (simp; done) | (simp only [List.length_take, List.length_map, List.length_append, maxLen_eq]; omega)) ?_); (try (with_reducible refine hK _ ?_; clear hK K))))
      refine then_normal ⟨l.length - (k + 1), by omega, k + 1, by omega, rfl, ?_, ?_⟩
      · rw [take_snoc hb]
        intro c hc
        rcases List.mem_append.1 hc with hc | hc
        · exact h0 c hc
        · rw [List.mem_singleton.1 hc]; exact he
      · simp only [go_sem, List.forall_mem_nil, ↓guard_ite, ↓pick_ite, seval, encT_eq, inR_i64, e0, e1, e4, s4, e6]
        congr 3
  · repeat' (first | (with_reducible first | refine Wa ?_ | refine Wb ?_ | refine Wc ?_ | refine Wd ?_ | refine We ?_ | refine Wf ?_ | refine Wg ?_ | refine Wh ?_ | refine Wi ?_ | refine Wj ?_ | refine Wk (by decide) ?_ | refine Wl ?_ | refine Wm ?_ | refine Wn ?_) | ((with_reducible first | refine Wo (fun K hK => ?_) | refine Wq ?_ | refine Wr ?_); (try simp only [go_sem, List.forall_mem_nil, ↓guard_ite, ↓pick_ite, seval, encT_eq, inR_i64, e0, e1, e4, s4, e6, hlt]); (repeat with_reducible refine And.intro (by first | omega | with_reducible exact lens_encT | with_reducible exact lens_encL | (simp; done) | (simp only [List.length_take, List.length_map, List.length_append, maxLen_eq]; omega)) ?_); (try (with_reducible refine hK _ ?_; clear hK K))))
    with_reducible refine Wp ?_
    simp only [go_sem, List.forall_mem_nil, ↓guard_ite, ↓pick_ite, seval, true_implies, false_implies, implies_true, decide_eq_true_eq, decide_eq_false_iff_not, Int.ofNat_lt, hlt]
    (try with_reducible refine ite_conj ?_)
    repeat' (first | (with_reducible first | refine Wa ?_ | refine Wb ?_ | refine Wc ?_ | refine Wd ?_ | refine We ?_ | refine Wf ?_ | refine Wg ?_ | refine Wh ?_ | refine Wi ?_ | refine Wj ?_ | refine Wk (by decide) ?_ | refine Wl ?_ | refine Wm ?_ | refine Wn ?_) | ((with_reducible first | refine Wo (fun K hK => ?_) | refine Wq ?_ | refine Wr ?_); (try simp only [go_sem, List.forall_mem_nil, ↓guard_ite, ↓pick_ite, seval, encT_eq, inR_i64, e0, e1, e4, s4, e6]); (repeat with_reducible refine And.intro (by first | omega | with_reducible exact lens_encT | with_reducible exact lens_encL | (simp; done) | (simp only [List.length_take, List.length_map, List.length_append, maxLen_eq]; omega)) ?_); (try (with_reducible refine hK _ ?_; clear hK K))))
    simp only [go_sem, List.forall_mem_nil, ↓guard_ite, ↓pick_ite, seval, FinQ, AS.result, resAll, resOne, tupV, e4]
    rw [List.take_of_length_le (by omega)] at h0
    rw [lookup_none h0]
    rfl
theorem prevName {l : List Bd} {k : Nat} {b : Bd} (h : l[k]? = some b) : ∀ q, lastName none (l.take k) = some q → 0 < k := by
  intro q hq
  cases k with
  | zero => cases hq
  | succ k => omega
/-- The bindings from k on, one at a time: which test fails. -/
theorem bindErr_cases {l : List Bd} {k : Nat} {b : Bd} (hb : l[k]? = some b) :
    (k = 0 ∧ bindErr (lastName none (l.take k)) b = if nameOk b.1 = true ∧ isVar b.1 = true then b.2.may else 1) ∨
    (0 < k ∧ ∃ p, l[k - 1]? = some p ∧ bindErr (lastName none (l.take k)) b = if nameOk b.1 = true ∧ isVar b.1 = true then (if ordBad b.1 p.1 = true then 14 else b.2.may) else 1) := by
  have hlt := lt_of_get hb
  cases k with
  | zero => exact .inl ⟨rfl, by simp [bindErr, lastName]⟩
  | succ k =>
    obtain ⟨p, hp⟩ := get_lt (show k < l.length by omega)
    refine .inr ⟨by omega, p, hp, ?_⟩
    rw [lastName_take hp]
    simp [bindErr]
/-! ### what stands for a name, by halving -/
theorem cmpI_neg {a b : ByteArray} : cmpI a b < 0 ↔ sLt a b = true := by
  unfold cmpI
  split
  · rename_i h; simp [h]
  · rename_i h
    split <;> simp [h]
theorem cmpI_zero {a b : ByteArray} : cmpI a b = 0 ↔ a = b := by
  unfold cmpI
  split
  · rename_i h
    constructor
    · intro h'; cases h'
    · intro e; subst e; rw [sLt_irrefl] at h; cases h
  · split <;> simp_all
def foundAt (l : List Bd) (n : ByteArray) (i : Nat) : Bool := match l[i]? with
  | some b => decide (b.1 = n)
  | none => false
theorem half {i j : Nat} (h : i < j) : (((i : Int) + j).fdiv (2 ^ 1)) = (((i + j) / 2 : Nat) : Int) ∧ i ≤ (i + j) / 2 ∧ (i + j) / 2 < j := by
  refine ⟨?_, by omega, by omega⟩
  rw [show (2 : Int) ^ 1 = 2 from rfl, Int.fdiv_eq_ediv_of_nonneg _ (by omega)]
  omega
theorem inR_u64 (n : Int) : inR .u64 n ↔ 0 ≤ n ∧ n ≤ 18446744073709551615 := by
  simp [inR, IntKind.min, IntKind.max, IntKind.signed, IntKind.bits]
theorem found_lookup {l : List Bd} {n : ByteArray} {i : Nat} (hlo : ∀ k b, l[k]? = some b → k < i → sLt b.1 n = true) (hhi : ∀ k b, l[k]? = some b → i ≤ k → sLt b.1 n = false) (ho : Ordered l) :
    (∃ b, l[i]? = some b ∧ b.1 = n ∧ lookup l n = some b.2) ∨ (foundAt l n i = false ∧ lookup l n = none) := by
  have hlow : ∀ c ∈ l.take i, c.1 ≠ n := fun c hc e => by
    obtain ⟨k, hk, rfl⟩ := List.getElem_of_mem hc
    rw [List.length_take] at hk
    have := hlo k l[k] (List.getElem?_eq_getElem (by omega)) (by omega)
    rw [List.getElem_take] at e
    rw [e, sLt_irrefl] at this
    cases this
  by_cases hil : i < l.length
  · obtain ⟨b, hb⟩ := get_lt hil
    by_cases he : b.1 = n
    · exact .inl ⟨b, hb, he, lookup_take hb he hlow⟩
    · refine .inr ⟨by unfold foundAt; rw [hb]; exact decide_eq_false he, lookup_none fun c hc e => ?_⟩
      obtain ⟨k, hk, rfl⟩ := List.getElem_of_mem hc
      have hck := List.getElem?_eq_getElem hk
      rcases Nat.lt_trichotomy k i with h | h | h
      · have := hlo k _ hck h
        rw [e, sLt_irrefl] at this
        cases this
      · subst h
        rw [hb] at hck
        cases hck
        exact he e
      · have h1 := ordered_get ho hb hck h
        rw [e, hhi i b hb (Nat.le_refl _)] at h1
        cases h1
  · refine .inr ⟨by unfold foundAt; rw [List.getElem?_eq_none (by omega)], lookup_none fun c hc => hlow c ?_⟩
    rw [List.take_of_length_le (by omega)]
    exact hc
def hugeBs (l : List Bd) : Bool := l.any (fun b => decide (3000 < b.2.size)) || decide (100 < l.length)
end Go.Proofs.Ytelmgldeghmkbaa
