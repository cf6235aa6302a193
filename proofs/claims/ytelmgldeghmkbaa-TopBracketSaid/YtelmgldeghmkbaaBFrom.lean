/-
  Lambda terms into terms without what is bound: the walks.
  Conditions: none.
-/
import Derived.Test.YtelmgldeghmkbaaIrFrom
import Derived.Test.YtelmgldeghmkbaaPFrom
namespace Go.Proofs.Ytelmgldeghmkbaa
open Go Go.RowKit
set_option linter.unusedVariables false
set_option linter.unusedSimpArgs false
set_option maxHeartbeats 400000

/-! ### is a name there? -/
def fstN (v : ByteArray) : List Tm → Nat
  | [] => 0
  | t :: ts => if t.hasN v = true then 0 else fstN v ts + 1
theorem fstN_at {v : ByteArray} {xs : List Tm} {k : Nat} {a : Tm} (ha : xs[k]? = some a) (h : Tm.hasNs v (xs.take k) = false) (hy : a.hasN v = true) : fstN v xs = k := by
  induction xs generalizing k with
  | nil => simp at ha
  | cons x xs ih =>
    cases k with
    | zero =>
      have : x = a := by simpa using ha
      subst this
      rw [fstN, if_pos hy]
    | succ k =>
      rw [List.take_succ_cons, Tm.hasNs, Bool.or_eq_false_iff] at h
      rw [fstN, if_neg (by rw [h.1]; decide), ih (by simpa using ha) h.2]
def idxN (v : ByteArray) (xs : List Tm) : Int := if Tm.hasNs v xs = true then fstN v xs else -1
theorem idxN_iff (v : ByteArray) (xs : List Tm) : 0 ≤ idxN v xs ↔ Tm.hasNs v xs = true := by
  unfold idxN
  split <;> simp_all
theorem has1_S (v : ByteArray) (a : Tm) (hh : ACalls Try.prog 30 [aTm a, aStr v] (aBool (a.hasN v))) (b : Nat) (hb : 1000 ≤ b) (S : AStore) (sb : S b = some (.box 9 [.st (.str v)])) :
    ACallsS Try.prog 39 [aTm a, .one (.ptr b 1 0 0)] S (aBool (a.hasN v)) S := by
  refine acS_comb_has_1 (Nat.le_of_ble_eq_true rfl) fun hS C hC => ?_
  unfold ir_comb_has_1
  have s2 : S 2 = none := clean_none hS (by omega)
  have b2 : ¬ b = 2 := by omega
  repeat' (first | (with_reducible first | refine Wa ?_ | refine Wb ?_ | refine Wc ?_ | refine Wd ?_ | refine We ?_ | refine Wf ?_ | refine Wg ?_ | refine Wh ?_ | refine Wi ?_ | refine Wj ?_ | refine Wk (by decide) ?_ | refine Wl ?_ | refine Wm ?_ | refine Wn ?_) | refine CallG.mk _ (hh) ?_ | ((with_reducible first | refine Wo (fun K hK => ?_) | refine Wp ?_ | refine Wq ?_ | refine Wr ?_); (try simp only [go_sem, List.forall_mem_nil, ↓guard_ite, ↓pick_ite, seval, encT_eq, inR_i64, s2, sb, b2, decide_eq_true_eq, decide_eq_false_iff_not, Int.ofNat_lt]); (repeat with_reducible refine And.intro (by first | omega | with_reducible exact lens_encT | with_reducible exact lens_encL | (simp; done) | (simp only [List.length_take, List.length_map, List.length_append, maxLen_eq]; omega)) ?_); (try (with_reducible refine hK _ ?_; clear hK K)); (try with_reducible refine ite_conj ?_)))
  refine finS_same (aBool (a.hasN v)) hS trivial ?_ ?_ fun j hj => ?_
  · rfl
  · rfl
  · have j2 : ¬ j = 2 := by omega
    simp only [updE, j2, if_false]
theorem indexFunc_S (v : ByteArray) (xs : List Tm) (hh : ∀ a ∈ xs, ACalls Try.prog 30 [aTm a, aStr v] (aBool (a.hasN v))) (hl : xs.length ≤ 1000000) (b : Nat) (hb : 1000 ≤ b) (S : AStore) (sb : S b = some (.box 9 [.st (.str v)])) :
    ACallsS Try.prog 40 [aTms xs, .one (.fn 39 [.ptr b 1 0 0])] S (aInt (idxN v xs)) S := by
  refine acS_slices_IndexFunc_metaprune_api_Term_metaprune_api_Term (Nat.le_of_ble_eq_true rfl) fun hS C hC => ?_
  unfold ir_slices_IndexFunc_metaprune_api_Term_metaprune_api_Term
  repeat' (first | (with_reducible first | refine Wa ?_ | refine Wb ?_ | refine Wc ?_ | refine Wd ?_ | refine We ?_ | refine Wf ?_ | refine Wg ?_ | refine Wh ?_ | refine Wi ?_ | refine Wj ?_ | refine Wk (by decide) ?_ | refine Wl ?_ | refine Wm ?_ | refine Wn ?_) | ((with_reducible first | refine Wo (fun K hK => ?_) | refine Wp ?_ | refine Wq ?_ | refine Wr ?_); (try simp only [go_sem, List.forall_mem_nil, ↓guard_ite, ↓pick_ite, seval, encT_eq, inR_i64, decide_eq_true_eq, decide_eq_false_iff_not, Int.ofNat_lt]); (repeat with_reducible refine And.intro (by first | omega | with_reducible exact lens_encT | with_reducible exact lens_encL | (simp; done) | (simp only [List.length_take, List.length_map, List.length_append, maxLen_eq]; omega)) ?_); (try (with_reducible refine hK _ ?_; clear hK K)); (try with_reducible refine ite_conj ?_)))
  refine IWP.loop (fun n s => ∃ k, k ≤ xs.length ∧ n = xs.length - k ∧ Tm.hasNs v (xs.take k) = false ∧ s.env 0 = aTms xs ∧ s.env 1 = .one (.fn 39 [.ptr b 1 0 0]) ∧ s.env 7 = aInt xs.length ∧ s.env 8 = aInt k ∧ s.S = S) xs.length ⟨0, Nat.zero_le _, rfl, rfl, rfl, rfl, rfl, rfl, rfl⟩ ?_
  rintro n ⟨env, S'⟩ ⟨k, hk, rfl, hp, e0, e1, e7, e8, eS⟩
  simp only at e0 e1 e7 e8 eS
  subst eS
  by_cases hlt : (k : Int) < xs.length
  · obtain ⟨a, ha⟩ := get_lt (show k < xs.length by omega)
    repeat' (first | (with_reducible first | refine Wa ?_ | refine Wb ?_ | refine Wc ?_ | refine Wd ?_ | refine We ?_ | refine Wf ?_ | refine Wg ?_ | refine Wh ?_ | refine Wi ?_ | refine Wj ?_ | refine Wk (by decide) ?_ | refine Wl ?_ | refine Wm ?_ | refine Wn ?_) | ((with_reducible first | refine Wo (fun K hK => ?_) | refine Wp ?_ | refine Wq ?_ | refine Wr ?_); (try simp only [go_sem, List.forall_mem_nil, ↓guard_ite, ↓pick_ite, seval, encT_eq, inR_i64, e0, e1, e7, e8, hlt, ha, decide_eq_true_eq, decide_eq_false_iff_not, Int.ofNat_lt]); (repeat with_reducible refine And.intro (by first | omega | with_reducible exact lens_encT | with_reducible exact lens_encL | (simp; done) | (simp only [List.length_take, List.length_map, List.length_append, maxLen_eq]; omega)) ?_); (try (with_reducible refine hK _ ?_; clear hK K)); (try with_reducible refine ite_conj ?_)))
    first | refine ⟨by kernel_rfl, _, _, has1_S v a (hh a (mem_of_get ha)) (up1 b) (up1_le b) (upS S') (by rw [upS_up, sb]; rfl), ?_⟩ | refine ⟨_, _, has1_S v a (hh a (mem_of_get ha)) (up1 b) (up1_le b) (upS S') (by rw [upS_up, sb]; rfl), ?_⟩
    by_cases hr : a.hasN v = true
    · have hi : idxN v xs = k := by
        unfold idxN
        rw [if_pos (Tm.hasNs_yes (k := k + 1) (by rw [Tm.hasNs_take ha hp, hr])), fstN_at ha hp hr]
      repeat' (first | (with_reducible first | refine Wa ?_ | refine Wb ?_ | refine Wc ?_ | refine Wd ?_ | refine We ?_ | refine Wf ?_ | refine Wg ?_ | refine Wh ?_ | refine Wi ?_ | refine Wj ?_ | refine Wk (by decide) ?_ | refine Wl ?_ | refine Wm ?_ | refine Wn ?_) | ((with_reducible first | refine Wo (fun K hK => ?_) | refine Wp ?_ | refine Wq ?_ | refine Wr ?_); (try simp only [go_sem, List.forall_mem_nil, ↓guard_ite, ↓pick_ite, seval, encT_eq, inR_i64, e0, e1, e7, e8, hr, decide_eq_true_eq, decide_eq_false_iff_not, Int.ofNat_lt]); (repeat with_reducible refine And.intro (by first | omega | with_reducible exact lens_encT | with_reducible exact lens_encL | (simp; done) | (simp only [List.length_take, List.length_map, List.length_append, maxLen_eq]; omega)) ?_); (try (with_reducible refine hK _ ?_; clear hK K)); (try with_reducible refine ite_conj ?_)))
      refine finS_same (aInt (idxN v xs)) hS trivial ?_ ?_ fun j hj => ?_
      · simp [resAll, resOne, tupV, updE, hi]
      · rfl
      · rfl
    · have hr' : a.hasN v = false := by simpa using hr
      repeat' (first | (with_reducible first | refine Wa ?_ | refine Wb ?_ | refine Wc ?_ | refine Wd ?_ | refine We ?_ | refine Wf ?_ | refine Wg ?_ | refine Wh ?_ | refine Wi ?_ | refine Wj ?_ | refine Wk (by decide) ?_ | refine Wl ?_ | refine Wm ?_ | refine Wn ?_) | ((with_reducible first | refine Wo (fun K hK => ?_) | refine Wp ?_ | refine Wq ?_ | refine Wr ?_); (try simp only [go_sem, List.forall_mem_nil, ↓guard_ite, ↓pick_ite, seval, encT_eq, inR_i64, e0, e1, e7, e8, hr', decide_eq_true_eq, decide_eq_false_iff_not, Int.ofNat_lt]); (repeat with_reducible refine And.intro (by first | omega | with_reducible exact lens_encT | with_reducible exact lens_encL | (simp; done) | (simp only [List.length_take, List.length_map, List.length_append, maxLen_eq]; omega)) ?_); (try (with_reducible refine hK _ ?_; clear hK K)); (try with_reducible refine ite_conj ?_)))
      refine then_normal ⟨xs.length - (k + 1), by omega, k + 1, by omega, rfl, ?_⟩
      simp only [go_sem, List.forall_mem_nil, ↓guard_ite, ↓pick_ite, seval, encT_eq, inR_i64, e0, e1, e7, e8]
      exact ⟨by rw [Tm.hasNs_take ha hp, hr'], by congr 3⟩
  · rw [List.take_of_length_le (by omega)] at hp
    have hi : idxN v xs = -1 := by
      unfold idxN
      rw [if_neg (by rw [hp]; decide)]
    repeat' (first | (with_reducible first | refine Wa ?_ | refine Wb ?_ | refine Wc ?_ | refine Wd ?_ | refine We ?_ | refine Wf ?_ | refine Wg ?_ | refine Wh ?_ | refine Wi ?_ | refine Wj ?_ | refine Wk (by decide) ?_ | refine Wl ?_ | refine Wm ?_ | refine Wn ?_) | ((with_reducible first | refine Wo (fun K hK => ?_) | refine Wp ?_ | refine Wq ?_ | refine Wr ?_); (try simp only [go_sem, List.forall_mem_nil, ↓guard_ite, ↓pick_ite, seval, encT_eq, inR_i64, e0, e1, e7, e8, hlt, decide_eq_true_eq, decide_eq_false_iff_not, Int.ofNat_lt]); (repeat with_reducible refine And.intro (by first | omega | with_reducible exact lens_encT | with_reducible exact lens_encL | (simp; done) | (simp only [List.length_take, List.length_map, List.length_append, maxLen_eq]; omega)) ?_); (try (with_reducible refine hK _ ?_; clear hK K)); (try with_reducible refine ite_conj ?_)))
    refine finS_same (aInt (idxN v xs)) hS trivial ?_ ?_ fun j hj => ?_
    · simp [resAll, resOne, tupV, updE, hi]
    · rfl
    · rfl
theorem containsFunc_S (v : ByteArray) (xs : List Tm) (hh : ∀ a ∈ xs, ACalls Try.prog 30 [aTm a, aStr v] (aBool (a.hasN v))) (hl : xs.length ≤ 1000000) (b : Nat) (hb : 1000 ≤ b) (S : AStore) (sb : S b = some (.box 9 [.st (.str v)])) :
    ACallsS Try.prog 38 [aTms xs, .one (.fn 39 [.ptr b 1 0 0])] S (aBool (Tm.hasNs v xs)) S := by
  refine acS_slices_ContainsFunc_metaprune_api_Term_metaprune_api_Term (Nat.le_of_ble_eq_true rfl) fun hS C hC => ?_
  unfold ir_slices_ContainsFunc_metaprune_api_Term_metaprune_api_Term
  repeat' (first | (with_reducible first | refine Wa ?_ | refine Wb ?_ | refine Wc ?_ | refine Wd ?_ | refine We ?_ | refine Wf ?_ | refine Wg ?_ | refine Wh ?_ | refine Wi ?_ | refine Wj ?_ | refine Wk (by decide) ?_ | refine Wl ?_ | refine Wm ?_ | refine Wn ?_) | ((with_reducible first | refine Wo (fun K hK => ?_) | refine Wp ?_ | refine Wq ?_ | refine Wr ?_); (try simp only [go_sem, List.forall_mem_nil, ↓guard_ite, ↓pick_ite, seval, encT_eq, inR_i64, decide_eq_true_eq, decide_eq_false_iff_not, Int.ofNat_lt]); (repeat with_reducible refine And.intro (by first | omega | with_reducible exact lens_encT | with_reducible exact lens_encL | (simp; done) | (simp only [List.length_take, List.length_map, List.length_append, maxLen_eq]; omega)) ?_); (try (with_reducible refine hK _ ?_; clear hK K)); (try with_reducible refine ite_conj ?_)))
  refine ⟨_, _, indexFunc_S v xs hh hl (up1 b) (up1_le b) (upS S) (by rw [upS_up, sb]; rfl), ?_⟩
  have hi := idxN_iff v xs
  repeat' (first | (with_reducible first | refine Wa ?_ | refine Wb ?_ | refine Wc ?_ | refine Wd ?_ | refine We ?_ | refine Wf ?_ | refine Wg ?_ | refine Wh ?_ | refine Wi ?_ | refine Wj ?_ | refine Wk (by decide) ?_ | refine Wl ?_ | refine Wm ?_ | refine Wn ?_) | ((with_reducible first | refine Wo (fun K hK => ?_) | refine Wp ?_ | refine Wq ?_ | refine Wr ?_); (try simp only [go_sem, List.forall_mem_nil, ↓guard_ite, ↓pick_ite, seval, encT_eq, inR_i64, hi, decide_eq_true_eq, decide_eq_false_iff_not, Int.ofNat_lt]); (repeat with_reducible refine And.intro (by first | omega | with_reducible exact lens_encT | with_reducible exact lens_encL | (simp; done) | (simp only [List.length_take, List.length_map, List.length_append, maxLen_eq]; omega)) ?_); (try (with_reducible refine hK _ ?_; clear hK K)); (try with_reducible refine ite_conj ?_)))
  refine finS_same (aBool (Tm.hasNs v xs)) hS trivial ?_ ?_ fun j hj => ?_
  · simp [resAll, resOne, tupV, updE]
  · rfl
  · rfl
theorem hasN_a (v : ByteArray) (t : Tm) (hz : t.size ≤ 1000000) : ACalls Try.prog 30 [aTm t, aStr v] (aBool (t.hasN v)) := by
  induction h : SizeOf.sizeOf t using Nat.strongRecOn generalizing t with
  | _ N ih =>
  subst h
  have hs := Tm.size_eq t
  have hlen := Tm.length_le t.args
  rw [Tm.hasN_eq]
  by_cases h1 : t.name = v
  · refine ac_comb_has (Nat.le_of_ble_eq_true rfl) fun C hC => ?_
    unfold ir_comb_has
    repeat' (first | (with_reducible first | refine Wa ?_ | refine Wb ?_ | refine Wc ?_ | refine Wd ?_ | refine We ?_ | refine Wf ?_ | refine Wg ?_ | refine Wh ?_ | refine Wi ?_ | refine Wj ?_ | refine Wk (by decide) ?_ | refine Wl ?_ | refine Wm ?_ | refine Wn ?_) | ((with_reducible first | refine Wo (fun K hK => ?_) | refine Wp ?_ | refine Wq ?_ | refine Wr ?_); (try simp only [go_sem, List.forall_mem_nil, ↓guard_ite, ↓pick_ite, seval, encT_eq, inR_i64, h1, decide_eq_true_eq, decide_eq_false_iff_not, Int.ofNat_lt]); (repeat with_reducible refine And.intro (by first | omega | with_reducible exact lens_encT | with_reducible exact lens_encL | (simp; done) | (simp only [List.length_take, List.length_map, List.length_append, maxLen_eq]; omega)) ?_); (try (with_reducible refine hK _ ?_; clear hK K)); (try with_reducible refine ite_conj ?_)))
    simp only [go_sem, List.forall_mem_nil, ↓guard_ite, ↓pick_ite, seval, FinQ, AS.result, resAll, resOne, tupV, h1]
    try simp
  · refine ac_comb_has (Nat.le_of_ble_eq_true rfl) fun C hC => ?_
    unfold ir_comb_has
    repeat' (first | (with_reducible first | refine Wa ?_ | refine Wb ?_ | refine Wc ?_ | refine Wd ?_ | refine We ?_ | refine Wf ?_ | refine Wg ?_ | refine Wh ?_ | refine Wi ?_ | refine Wj ?_ | refine Wk (by decide) ?_ | refine Wl ?_ | refine Wm ?_ | refine Wn ?_) | ((with_reducible first | refine Wo (fun K hK => ?_) | refine Wp ?_ | refine Wq ?_ | refine Wr ?_); (try simp only [go_sem, List.forall_mem_nil, ↓guard_ite, ↓pick_ite, seval, encT_eq, inR_i64, h1, decide_eq_true_eq, decide_eq_false_iff_not, Int.ofNat_lt]); (repeat with_reducible refine And.intro (by first | omega | with_reducible exact lens_encT | with_reducible exact lens_encL | (simp; done) | (simp only [List.length_take, List.length_map, List.length_append, maxLen_eq]; omega)) ?_); (try (with_reducible refine hK _ ?_; clear hK K)); (try with_reducible refine ite_conj ?_)))
    refine ⟨_, _, containsFunc_S v t.args (fun a ha => ih _ (Tm.lt_of_arg ha) a (by have := Tm.size_mem ha; omega) rfl) (by omega) (up1 3) (up1_le 3) _ (by rw [upS_up]; rfl), ?_⟩
    repeat' (first | (with_reducible first | refine Wa ?_ | refine Wb ?_ | refine Wc ?_ | refine Wd ?_ | refine We ?_ | refine Wf ?_ | refine Wg ?_ | refine Wh ?_ | refine Wi ?_ | refine Wj ?_ | refine Wk (by decide) ?_ | refine Wl ?_ | refine Wm ?_ | refine Wn ?_) | ((with_reducible first | refine Wo (fun K hK => ?_) | refine Wp ?_ | refine Wq ?_ | refine Wr ?_); (try simp only [go_sem, List.forall_mem_nil, ↓guard_ite, ↓pick_ite, seval, encT_eq, inR_i64, h1, decide_eq_true_eq, decide_eq_false_iff_not, Int.ofNat_lt]); (repeat with_reducible refine And.intro (by first | omega | with_reducible exact lens_encT | with_reducible exact lens_encL | (simp; done) | (simp only [List.length_take, List.length_map, List.length_append, maxLen_eq]; omega)) ?_); (try (with_reducible refine hK _ ?_; clear hK K)); (try with_reducible refine ite_conj ?_)))
    simp only [go_sem, List.forall_mem_nil, ↓guard_ite, ↓pick_ite, seval, FinQ, AS.result, resAll, resOne, tupV, h1]
    try simp [h1]
end Go.Proofs.Ytelmgldeghmkbaa
