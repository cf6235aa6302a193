/-
  One list of bindings behind another: the library's deletion; the walks.
  Conditions: none.
-/
import Derived.Test.YtkjocebkajckpaaIrThen
import Derived.Test.YtkjocebkajckpaaPThen
namespace Go.Proofs.Ytkjocebkajckpaa
open Go Go.RowKit
set_option linter.unusedVariables false
set_option linter.unusedSimpArgs false
set_option maxHeartbeats 1000000

theorem then1_a (b : Bd) : ACalls Try.prog 20 [aBd b] (aBool (selfB b)) := by
  refine ac_subst_Then_1 (Nat.le_of_ble_eq_true rfl) fun C hC => ?_
  unfold ir_subst_Then_1
  repeat' (first | (with_reducible first | refine Wa ?_ | refine Wb ?_ | refine Wc ?_ | refine Wd ?_ | refine We ?_ | refine Wf ?_ | refine Wg ?_ | refine Wh ?_ | refine Wi ?_ | refine Wj ?_ | refine Wk (by decide) ?_ | refine Wl ?_ | refine Wm ?_ | refine Wn ?_) | ((with_reducible first | refine Wo (fun K hK => ?_) | refine Wq ?_ | refine Wr ?_); (try simp only [go_sem, List.forall_mem_nil, ↓guard_ite, ↓pick_ite, seval, encT_eq, inR_i64]); (repeat with_reducible refine And.intro (by first | omega | (with_reducible first | exact lens_encT | exact lens_encL | exact lens_encB | exact lens_encP) | (simp; done) | (simp only [List.length_take, List.length_map, List.length_append, maxLen_eq]; omega)) ?_); (try (with_reducible refine hK _ ?_; clear hK K))))
  simp only [go_sem, List.forall_mem_nil, ↓guard_ite, ↓pick_ite, seval, FinQ, AS.result, resAll, resOne, tupV]
  rfl
theorem then1_S (b : Bd) (S : AStore) : ACallsS Try.prog 20 [aBd b] S (aBool (selfB b)) S := (then1_a b).toS rfl
/-- Where the first stands that stands for itself. -/
def FirstIs (l : List Bd) (i : Int) : Prop := (i = -1 ∧ ∀ c ∈ l, selfB c = false) ∨ ∃ (k : Nat) (b : Bd), i = k ∧ l[k]? = some b ∧ selfB b = true ∧ ∀ c ∈ l.take k, selfB c = false
theorem indexFunc_M (l : List Bd) (hl : l.length ≤ 100000) (i : Int) (hi : FirstIs l i) (r : Nat) (hr : 1000 ≤ r) (S : AStore) (sr : S r = some (rowBd l)) :
    ACallsS Try.prog 30 [.one (.row r l.length), .one (.fn 20 [])] S (aInt i) S := by
  have hplain : plainF Try.prog 20 = true := by kernel_rfl
  refine acS_slices_IndexFunc_metaprune_api_Bind_metaprune_api_Bind (Nat.le_of_ble_eq_true rfl) fun hS C hC => ?_
  unfold ir_slices_IndexFunc_metaprune_api_Bind_metaprune_api_Bind
  repeat' (first | (with_reducible first | refine Wa ?_ | refine Wb ?_ | refine Wc ?_ | refine Wd ?_ | refine We ?_ | refine Wf ?_ | refine Wg ?_ | refine Wh ?_ | refine Wi ?_ | refine Wj ?_ | refine Wk (by decide) ?_ | refine Wl ?_ | refine Wm ?_ | refine Wn ?_) | ((with_reducible first | refine Wo (fun K hK => ?_) | refine Wp ?_ | refine Wq ?_ | refine Wr ?_); (try simp only [go_sem, List.forall_mem_nil, ↓guard_ite, ↓pick_ite, seval, encT_eq, inR_i64, sr, decide_eq_true_eq, decide_eq_false_iff_not, Int.ofNat_lt]); (repeat with_reducible refine And.intro (by first | omega | (with_reducible first | exact lens_encT | exact lens_encL | exact lens_encB | exact lens_encP) | (simp; done) | (simp only [List.length_take, List.length_map, List.length_append, maxLen_eq]; omega)) ?_); (try (with_reducible refine hK _ ?_; clear hK K)); (try with_reducible refine ite_conj ?_)))
  refine IWP.loop (fun m s => ∃ k, k ≤ l.length ∧ m = l.length - k ∧ (∀ c ∈ l.take k, selfB c = false) ∧ s.env 0 = .one (.row r l.length) ∧ s.env 1 = .one (.fn 20 []) ∧ s.env 7 = aInt l.length ∧ s.env 8 = aInt k ∧ s.S = S) l.length ⟨0, Nat.zero_le _, rfl, by simp, rfl, rfl, rfl, rfl, rfl⟩ ?_
  rintro m ⟨env, S1⟩ ⟨k, hk, rfl, h0, e0, e1, e7, e8, hS1⟩
  simp only at e0 e1 e7 e8 hS1
  subst hS1
  by_cases hlt : (k : Int) < l.length
  · have hlt' : k < l.length := by omega
    obtain ⟨b, hb⟩ := get_lt hlt'
    repeat' (first | (with_reducible first | refine Wa ?_ | refine Wb ?_ | refine Wc ?_ | refine Wd ?_ | refine We ?_ | refine Wf ?_ | refine Wg ?_ | refine Wh ?_ | refine Wi ?_ | refine Wj ?_ | refine Wk (by decide) ?_ | refine Wl ?_ | refine Wm ?_ | refine Wn ?_) | ((with_reducible first | refine Wo (fun K hK => ?_) | refine Wp ?_ | refine Wq ?_ | refine Wr ?_); (try simp only [go_sem, List.forall_mem_nil, ↓guard_ite, ↓pick_ite, seval, encT_eq, inR_i64, e0, e1, e7, e8, hlt, hlt', hb, sr, hplain, encB, decide_eq_true_eq, decide_eq_false_iff_not, Int.ofNat_lt]); (repeat with_reducible refine And.intro (by first | omega | (with_reducible first | exact lens_encT | exact lens_encL | exact lens_encB | exact lens_encP) | (simp; done) | (simp only [List.length_take, List.length_map, List.length_append, maxLen_eq]; omega)) ?_); (try (with_reducible refine hK _ ?_; clear hK K)); (try with_reducible refine ite_conj ?_)))
    refine ⟨_, _, then1_S b _, ?_⟩
    cases hc : selfB b with
    | true =>
      have hik : i = k := by
        rcases hi with ⟨_, h⟩ | ⟨q, c, rfl, hq, hqs, hqb⟩
        · rw [h b (mem_of_get hb)] at hc; cases hc
        · rcases Nat.lt_trichotomy q k with h | h | h
          · have := h0 c (by
              have e : (l.take k)[q]? = some c := by rw [List.getElem?_take, if_pos h]; exact hq
              exact mem_of_get e)
            rw [this] at hqs; cases hqs
          · rw [h]
          · have := hqb b (by
              have e : (l.take q)[k]? = some b := by rw [List.getElem?_take, if_pos h]; exact hb
              exact mem_of_get e)
            rw [this] at hc; cases hc
      repeat' (first | (with_reducible first | refine Wa ?_ | refine Wb ?_ | refine Wc ?_ | refine Wd ?_ | refine We ?_ | refine Wf ?_ | refine Wg ?_ | refine Wh ?_ | refine Wi ?_ | refine Wj ?_ | refine Wk (by decide) ?_ | refine Wl ?_ | refine Wm ?_ | refine Wn ?_) | ((with_reducible first | refine Wo (fun K hK => ?_) | refine Wp ?_ | refine Wq ?_ | refine Wr ?_); (try simp only [go_sem, List.forall_mem_nil, ↓guard_ite, ↓pick_ite, seval, encT_eq, inR_i64, hc, e0, e1, e7, e8, decide_eq_true_eq, decide_eq_false_iff_not, Int.ofNat_lt]); (repeat with_reducible refine And.intro (by first | omega | (with_reducible first | exact lens_encT | exact lens_encL | exact lens_encB | exact lens_encP) | (simp; done) | (simp only [List.length_take, List.length_map, List.length_append, maxLen_eq]; omega)) ?_); (try (with_reducible refine hK _ ?_; clear hK K)); (try with_reducible refine ite_conj ?_)))
      refine finS_same (aInt k) hS trivial ?_ ?_ fun _ _ => rfl
      · simp only [go_sem, List.forall_mem_nil, ↓guard_ite, ↓pick_ite, seval, encT_eq, inR_i64, resAll, resOne, tupV]
      · rw [hik]; rfl
    | false =>
      repeat' (first | (with_reducible first | refine Wa ?_ | refine Wb ?_ | refine Wc ?_ | refine Wd ?_ | refine We ?_ | refine Wf ?_ | refine Wg ?_ | refine Wh ?_ | refine Wi ?_ | refine Wj ?_ | refine Wk (by decide) ?_ | refine Wl ?_ | refine Wm ?_ | refine Wn ?_) | ((with_reducible first | refine Wo (fun K hK => ?_) | refine Wp ?_ | refine Wq ?_ | refine Wr ?_); (try simp only [go_sem, List.forall_mem_nil, ↓guard_ite, ↓pick_ite, seval, encT_eq, inR_i64, hc, e0, e1, e7, e8, decide_eq_true_eq, decide_eq_false_iff_not, Int.ofNat_lt]); (repeat with_reducible refine And.intro (by first | omega | (with_reducible first | exact lens_encT | exact lens_encL | exact lens_encB | exact lens_encP) | (simp; done) | (simp only [List.length_take, List.length_map, List.length_append, maxLen_eq]; omega)) ?_); (try (with_reducible refine hK _ ?_; clear hK K)); (try with_reducible refine ite_conj ?_)))
      refine then_normal ⟨l.length - (k + 1), by omega, k + 1, by omega, rfl, fun c hc' => ?_, ?_⟩
      · rw [take_snoc hb] at hc'
        rcases List.mem_append.1 hc' with hc' | hc'
        · exact h0 c hc'
        · rw [List.mem_singleton.1 hc']; exact hc
      · simp only [go_sem, List.forall_mem_nil, ↓guard_ite, ↓pick_ite, seval, encT_eq, inR_i64, e0, e1, e7, e8]
        congr 3
  · rw [List.take_of_length_le (by omega)] at h0
    have hik : i = -1 := by
      rcases hi with ⟨h, _⟩ | ⟨q, c, rfl, hq, hqs, _⟩
      · exact h
      · rw [h0 c (mem_of_get hq)] at hqs; cases hqs
    repeat' (first | (with_reducible first | refine Wa ?_ | refine Wb ?_ | refine Wc ?_ | refine Wd ?_ | refine We ?_ | refine Wf ?_ | refine Wg ?_ | refine Wh ?_ | refine Wi ?_ | refine Wj ?_ | refine Wk (by decide) ?_ | refine Wl ?_ | refine Wm ?_ | refine Wn ?_) | ((with_reducible first | refine Wo (fun K hK => ?_) | refine Wp ?_ | refine Wq ?_ | refine Wr ?_); (try simp only [go_sem, List.forall_mem_nil, ↓guard_ite, ↓pick_ite, seval, encT_eq, inR_i64, e0, e1, e7, e8, hlt, decide_eq_true_eq, decide_eq_false_iff_not, Int.ofNat_lt]); (repeat with_reducible refine And.intro (by first | omega | (with_reducible first | exact lens_encT | exact lens_encL | exact lens_encB | exact lens_encP) | (simp; done) | (simp only [List.length_take, List.length_map, List.length_append, maxLen_eq]; omega)) ?_); (try (with_reducible refine hK _ ?_; clear hK K)); (try with_reducible refine ite_conj ?_)))
    refine finS_same (aInt (-1)) hS trivial ?_ ?_ fun _ _ => rfl
    · simp only [go_sem, List.forall_mem_nil, ↓guard_ite, ↓pick_ite, seval, encT_eq, inR_i64, resAll, resOne, tupV]
    · rw [hik]; rfl
abbrev zeroB : List SV := [.str ⟨#[]⟩, .str ⟨#[]⟩, .list []]
theorem deleteFunc_no (l : List Bd) (hl : l.length ≤ 100000) (h0 : ∀ c ∈ l, selfB c = false) (r : Nat) (hr : 1000 ≤ r) (S : AStore) (sr : S r = some (rowBd l)) :
    ACallsS Try.prog 19 [.one (.row r l.length), .one (.fn 20 [])] S (.one (.row r l.length)) S := by
  refine acS_slices_DeleteFunc_metaprune_api_Bind_metaprune_api_Bind (Nat.le_of_ble_eq_true rfl) fun hS C hC => ?_
  unfold ir_slices_DeleteFunc_metaprune_api_Bind_metaprune_api_Bind
  repeat' (first | (with_reducible first | refine Wa ?_ | refine Wb ?_ | refine Wc ?_ | refine Wd ?_ | refine We ?_ | refine Wf ?_ | refine Wg ?_ | refine Wh ?_ | refine Wi ?_ | refine Wj ?_ | refine Wk (by decide) ?_ | refine Wl ?_ | refine Wm ?_ | refine Wn ?_) | ((with_reducible first | refine Wo (fun K hK => ?_) | refine Wp ?_ | refine Wq ?_ | refine Wr ?_); (try simp only [go_sem, List.forall_mem_nil, ↓guard_ite, ↓pick_ite, seval, encT_eq, inR_i64, decide_eq_true_eq, decide_eq_false_iff_not, Int.ofNat_lt]); (repeat with_reducible refine And.intro (by first | omega | (with_reducible first | exact lens_encT | exact lens_encL | exact lens_encB | exact lens_encP) | (simp; done) | (simp only [List.length_take, List.length_map, List.length_append, maxLen_eq]; omega)) ?_); (try (with_reducible refine hK _ ?_; clear hK K)); (try with_reducible refine ite_conj ?_)))
  refine ⟨_, [(r, rowBd l)], rows_one (by (simp only [go_sem, List.forall_mem_nil, ↓guard_ite, ↓pick_ite, seval, encT_eq, inR_i64, sr])), fun T hT => indexFunc_M l hl (-1) (.inl ⟨rfl, h0⟩) (up1 r) (up1_le r) (upS T) (by rw [upS_up, hT _ (List.mem_singleton.2 rfl)]; rfl), ?_⟩
  repeat' (first | (with_reducible first | refine Wa ?_ | refine Wb ?_ | refine Wc ?_ | refine Wd ?_ | refine We ?_ | refine Wf ?_ | refine Wg ?_ | refine Wh ?_ | refine Wi ?_ | refine Wj ?_ | refine Wk (by decide) ?_ | refine Wl ?_ | refine Wm ?_ | refine Wn ?_) | ((with_reducible first | refine Wo (fun K hK => ?_) | refine Wp ?_ | refine Wq ?_ | refine Wr ?_); (try simp only [go_sem, List.forall_mem_nil, ↓guard_ite, ↓pick_ite, seval, encT_eq, inR_i64, decide_eq_true_eq, decide_eq_false_iff_not, Int.ofNat_lt]); (repeat with_reducible refine And.intro (by first | omega | (with_reducible first | exact lens_encT | exact lens_encL | exact lens_encB | exact lens_encP) | (simp; done) | (simp only [List.length_take, List.length_map, List.length_append, maxLen_eq]; omega)) ?_); (try (with_reducible refine hK _ ?_; clear hK K)); (try with_reducible refine ite_conj ?_)))
  refine finS_high trivial ?_ (high_row (n := l.length) hr) (fun i b _ h => (hS i b h).2) (lowS_clean hS) hS
  simp only [go_sem, List.forall_mem_nil, ↓guard_ite, ↓pick_ite, seval, encT_eq, inR_i64, resAll, resOne, tupV]
theorem deleteFunc_yes (l : List Bd) (hl : l.length ≤ 100000) (h0 : ¬ ∀ c ∈ l, selfB c = false) (r : Nat) (hr : 1000 ≤ r) (S : AStore) (sr : S r = some (rowBd l)) :
    ACallsS Try.prog 19 [.one (.row r l.length), .one (.fn 20 [])] S (.one (.part r (keepB l).length l.length)) (updE S r (some (rowBy (keepB l) (List.replicate (l.length - (keepB l).length) zeroB)))) := by
  have hplain : plainF Try.prog 20 = true := by kernel_rfl
  obtain ⟨k, b, hb, hbs, hbk⟩ := first_self h0
  have hkl := lt_of_get hb
  have r7 : ¬ r = 7 := by omega
  refine acS_slices_DeleteFunc_metaprune_api_Bind_metaprune_api_Bind (Nat.le_of_ble_eq_true rfl) fun hS C hC => ?_
  have n7 : S 7 = none := clean_none hS (by omega)
  unfold ir_slices_DeleteFunc_metaprune_api_Bind_metaprune_api_Bind
  repeat' (first | (with_reducible first | refine Wa ?_ | refine Wb ?_ | refine Wc ?_ | refine Wd ?_ | refine We ?_ | refine Wf ?_ | refine Wg ?_ | refine Wh ?_ | refine Wi ?_ | refine Wj ?_ | refine Wk (by decide) ?_ | refine Wl ?_ | refine Wm ?_ | refine Wn ?_) | ((with_reducible first | refine Wo (fun K hK => ?_) | refine Wp ?_ | refine Wq ?_ | refine Wr ?_); (try simp only [go_sem, List.forall_mem_nil, ↓guard_ite, ↓pick_ite, seval, encT_eq, inR_i64, decide_eq_true_eq, decide_eq_false_iff_not, Int.ofNat_lt]); (repeat with_reducible refine And.intro (by first | omega | (with_reducible first | exact lens_encT | exact lens_encL | exact lens_encB | exact lens_encP) | (simp; done) | (simp only [List.length_take, List.length_map, List.length_append, maxLen_eq]; omega)) ?_); (try (with_reducible refine hK _ ?_; clear hK K)); (try with_reducible refine ite_conj ?_)))
  refine ⟨_, [(r, rowBd l)], rows_one (by (simp only [go_sem, List.forall_mem_nil, ↓guard_ite, ↓pick_ite, seval, encT_eq, inR_i64, sr])), fun T hT => indexFunc_M l hl k (.inr ⟨k, b, rfl, hb, hbs, hbk⟩) (up1 r) (up1_le r) (upS T) (by rw [upS_up, hT _ (List.mem_singleton.2 rfl)]; rfl), ?_⟩
  have hk1 : ¬ (k : Int) = -1 := by omega
  have hkk : keepB (l.take (k + 1)) = l.take k := by
    rw [take_snoc hb, keepB_append, keepB_no hbs, List.append_nil, keepB_all hbk]
  repeat' (first | (with_reducible first | refine Wa ?_ | refine Wb ?_ | refine Wc ?_ | refine Wd ?_ | refine We ?_ | refine Wf ?_ | refine Wg ?_ | refine Wh ?_ | refine Wi ?_ | refine Wj ?_ | refine Wk (by decide) ?_ | refine Wl ?_ | refine Wm ?_ | refine Wn ?_) | ((with_reducible first | refine Wo (fun K hK => ?_) | refine Wp ?_ | refine Wq ?_ | refine Wr ?_); (try simp only [go_sem, List.forall_mem_nil, ↓guard_ite, ↓pick_ite, seval, encT_eq, inR_i64, hk1, decide_eq_true_eq, decide_eq_false_iff_not, Int.ofNat_lt]); (repeat with_reducible refine And.intro (by first | omega | (with_reducible first | exact lens_encT | exact lens_encL | exact lens_encB | exact lens_encP) | (simp; done) | (simp only [List.length_take, List.length_map, List.length_append, maxLen_eq]; omega)) ?_); (try (with_reducible refine hK _ ?_; clear hK K)); (try with_reducible refine ite_conj ?_)))
  have hlk : (keepB (l.take (k + 1))).length = k := by rw [hkk, List.length_take]; omega
  refine IWP.loopD [7] (fun m x => ∃ (j : Nat) (M : List Bd), j ≤ l.length ∧ m = l.length - j ∧ M.length = l.length ∧ (keepB (l.take j)).length < j ∧ M.take (keepB (l.take j)).length = keepB (l.take j) ∧ M.drop j = l.drop j ∧ x.env 0 = .one (.row r l.length) ∧ x.env 1 = .one (.fn 20 []) ∧ x.env 5 = aInt (keepB (l.take j)).length ∧ x.env 6 = aInt j ∧ x.S r = some (rowBd M) ∧ x.S 7 = none ∧ ∀ i, 1000 ≤ i → i ≠ r → x.S i = S i)
    (l.length - (k + 1)) ⟨k + 1, l, by omega, rfl, rfl, by rw [hlk]; omega, by rw [hlk, hkk], rfl, ?_⟩ ?_
  · simp only [go_sem, List.forall_mem_nil, ↓guard_ite, ↓pick_ite, seval, encT_eq, inR_i64, sr, n7, hlk]
    congr 3
  rintro m ⟨env, S1⟩ ⟨j, M, hj, rfl, hMl, hij, hMt, hMd, e0, e1, e5, e6, s1r, s7, hrest⟩
  simp only at e0 e1 e5 e6 s1r s7 hrest
  have hrb : (r == 7) = false := by simp; omega
  by_cases hlt : (j : Int) < l.length
  · have hlt' : j < l.length := by omega
    have hltM : j < M.length := by omega
    obtain ⟨c, hc⟩ := get_lt hlt'
    have hcM : M[j]? = some c := by
      have e : (M.drop j)[0]? = (l.drop j)[0]? := by rw [hMd]
      rw [List.getElem?_drop, List.getElem?_drop, Nat.add_zero] at e
      rw [e, hc]
    repeat' (first | (with_reducible first | refine Wa ?_ | refine Wb ?_ | refine Wc ?_ | refine Wd ?_ | refine We ?_ | refine Wf ?_ | refine Wg ?_ | refine Wh ?_ | refine Wi ?_ | refine Wj ?_ | refine Wk (by decide) ?_ | refine Wl ?_ | refine Wm ?_ | refine Wn ?_) | ((with_reducible first | refine Wo (fun K hK => ?_) | refine Wp ?_ | refine Wq ?_ | refine Wr ?_); (try simp only [go_sem, List.forall_mem_nil, ↓guard_ite, ↓pick_ite, seval, encT_eq, inR_i64, e0, e1, e5, e6, s1r, s7, hlt, hMl, hltM, hcM, hplain, r7, encB, decide_eq_true_eq, decide_eq_false_iff_not, Int.ofNat_lt]); (repeat with_reducible refine And.intro (by first | omega | (with_reducible first | exact lens_encT | exact lens_encL | exact lens_encB | exact lens_encP) | (simp; done) | (simp only [List.length_take, List.length_map, List.length_append, maxLen_eq]; omega)) ?_); (try (with_reducible refine hK _ ?_; clear hK K)); (try with_reducible refine ite_conj ?_)))
    refine ⟨_, _, then1_S c _, ?_⟩
    cases hs : selfB c with
    | true =>
      repeat' (first | (with_reducible first | refine Wa ?_ | refine Wb ?_ | refine Wc ?_ | refine Wd ?_ | refine We ?_ | refine Wf ?_ | refine Wg ?_ | refine Wh ?_ | refine Wi ?_ | refine Wj ?_ | refine Wk (by decide) ?_ | refine Wl ?_ | refine Wm ?_ | refine Wn ?_) | ((with_reducible first | refine Wo (fun K hK => ?_) | refine Wp ?_ | refine Wq ?_ | refine Wr ?_); (try simp only [go_sem, List.forall_mem_nil, ↓guard_ite, ↓pick_ite, seval, encT_eq, inR_i64, hs, e0, e1, e5, e6, s1r, s7, r7, decide_eq_true_eq, decide_eq_false_iff_not, Int.ofNat_lt]); (repeat with_reducible refine And.intro (by first | omega | (with_reducible first | exact lens_encT | exact lens_encL | exact lens_encB | exact lens_encP) | (simp; done) | (simp only [List.length_take, List.length_map, List.length_append, maxLen_eq]; omega)) ?_); (try (with_reducible refine hK _ ?_; clear hK K)); (try with_reducible refine ite_conj ?_)))
      have hkj : keepB (l.take (j + 1)) = keepB (l.take j) := by rw [take_snoc hc, keepB_append, keepB_no hs, List.append_nil]
      refine then_normal ⟨l.length - (j + 1), by omega, j + 1, M, by omega, rfl, hMl, by rw [hkj]; omega, by rw [hkj]; exact hMt, by rw [← List.drop_drop, ← List.drop_drop, hMd], ?_⟩
      simp only [go_sem, List.forall_mem_nil, ↓guard_ite, ↓pick_ite, seval, AS.drop, dropS, AC.clears, AC.clear, AC.highs, AC.high, Bool.not_false, Bool.true_and, Bool.and_self, AV.purge, AV.purges, AC.purge, ABlk.purge, List.contains_cons, List.contains_nil, Nat.reduceBEq, Bool.or_self, Bool.or_false, Bool.false_or, Bool.or_true, encT_eq, inR_i64, e0, e1, e5, e6, s1r, s7, r7, hrb, hkj]
      refine ⟨by congr 3, fun i hi hne => ?_⟩
      have i7b : (i == 7) = false := by simp; omega
      have i7 : ¬ i = 7 := by omega
      simp only [go_sem, List.forall_mem_nil, ↓guard_ite, ↓pick_ite, seval, AS.drop, dropS, AC.clears, AC.clear, AC.highs, AC.high, Bool.not_false, Bool.true_and, Bool.and_self, AV.purge, AV.purges, AC.purge, ABlk.purge, List.contains_cons, List.contains_nil, Nat.reduceBEq, Bool.or_self, Bool.or_false, Bool.false_or, Bool.or_true, encT_eq, inR_i64, i7b, i7]
      rw [hrest i hi hne]
      exact purgeS (by decide) fun b hb => (hS i b hb).2
    | false =>
      obtain ⟨d, hd⟩ := get_lt (show (keepB (l.take j)).length < M.length by omega)
      have hkj : keepB (l.take (j + 1)) = keepB (l.take j) ++ [c] := by rw [take_snoc hc, keepB_append, keepB_yes hs]
      have hkjl : (keepB (l.take (j + 1))).length = (keepB (l.take j)).length + 1 := by rw [hkj, List.length_append]; rfl
      have hltK : (keepB (l.take j)).length < M.length := by omega
      have hltl : (keepB (l.take j)).length < l.length := by omega
      repeat' (first | (with_reducible first | refine Wa ?_ | refine Wb ?_ | refine Wc ?_ | refine Wd ?_ | refine We ?_ | refine Wf ?_ | refine Wg ?_ | refine Wh ?_ | refine Wi ?_ | refine Wj ?_ | refine Wk (by decide) ?_ | refine Wl ?_ | refine Wm ?_ | refine Wn ?_) | ((with_reducible first | refine Wo (fun K hK => ?_) | refine Wp ?_ | refine Wq ?_ | refine Wr ?_); (try simp only [go_sem, List.forall_mem_nil, ↓guard_ite, ↓pick_ite, seval, encT_eq, inR_i64, hs, e0, e1, e5, e6, s1r, s7, r7, hMl, hd, hltl, encB, decide_eq_true_eq, decide_eq_false_iff_not, Int.ofNat_lt]); (repeat with_reducible refine And.intro (by first | omega | (with_reducible first | exact lens_encT | exact lens_encL | exact lens_encB | exact lens_encP) | (simp; done) | (simp only [List.length_take, List.length_map, List.length_append, maxLen_eq]; omega)) ?_); (try (with_reducible refine hK _ ?_; clear hK K)); (try with_reducible refine ite_conj ?_)))
      refine then_normal ⟨l.length - (j + 1), by omega, j + 1, M.set (keepB (l.take j)).length c, by omega, rfl, by rw [List.length_set]; exact hMl, by omega, ?_, ?_, ?_⟩
      · rw [hkjl, List.take_add_one, List.getElem?_set_self hltK, List.take_set, List.set_eq_of_length_le (by rw [List.length_take]; omega), hMt, hkj]
        rfl
      · rw [List.drop_set_of_lt (by omega), ← List.drop_drop, ← List.drop_drop, hMd]
      · simp only [go_sem, List.forall_mem_nil, ↓guard_ite, ↓pick_ite, seval, AS.drop, dropS, AC.clears, AC.clear, AC.highs, AC.high, Bool.not_false, Bool.true_and, Bool.and_self, AV.purge, AV.purges, AC.purge, ABlk.purge, List.contains_cons, List.contains_nil, Nat.reduceBEq, Bool.or_self, Bool.or_false, Bool.false_or, Bool.or_true, encT_eq, inR_i64, e0, e1, e5, e6, s1r, s7, r7, hrb, hkjl]
        refine ⟨by congr 3, by congr 3, ?_, fun i hi hne => ?_⟩
        · show ABlk.mrow _ _ ((M.map encB).set (keepB (l.take j)).length (encB c)) = _
          rw [← List.map_set]
        · have i7b : (i == 7) = false := by simp; omega
          have i7 : ¬ i = 7 := by omega
          simp only [go_sem, List.forall_mem_nil, ↓guard_ite, ↓pick_ite, seval, AS.drop, dropS, AC.clears, AC.clear, AC.highs, AC.high, Bool.not_false, Bool.true_and, Bool.and_self, AV.purge, AV.purges, AC.purge, ABlk.purge, List.contains_cons, List.contains_nil, Nat.reduceBEq, Bool.or_self, Bool.or_false, Bool.false_or, Bool.or_true, encT_eq, inR_i64, i7b, i7, hne]
          rw [hrest i hi hne]
          exact purgeS (by decide) fun b hb => (hS i b hb).2
  · obtain rfl : j = l.length := by omega
    rw [List.take_of_length_le (Nat.le_refl _)] at hij hMt e5
    have htk : (M.map encB).take (keepB l).length = (keepB l).map encB := by rw [← List.map_take, hMt]
    repeat' (first | (with_reducible first | refine Wa ?_ | refine Wb ?_ | refine Wc ?_ | refine Wd ?_ | refine We ?_ | refine Wf ?_ | refine Wg ?_ | refine Wh ?_ | refine Wi ?_ | refine Wj ?_ | refine Wk (by decide) ?_ | refine Wl ?_ | refine Wm ?_ | refine Wn ?_) | ((with_reducible first | refine Wo (fun K hK => ?_) | refine Wp ?_ | refine Wq ?_ | refine Wr ?_); (try simp only [go_sem, List.forall_mem_nil, ↓guard_ite, ↓pick_ite, seval, encT_eq, inR_i64, e0, e1, e5, e6, s1r, s7, hlt, hMl, htk, List.length_replicate, decide_eq_true_eq, decide_eq_false_iff_not, Int.ofNat_lt]); (repeat with_reducible refine And.intro (by first | omega | (with_reducible first | exact lens_encT | exact lens_encL | exact lens_encB | exact lens_encP) | (simp; done) | (simp only [List.length_take, List.length_map, List.length_append, maxLen_eq]; omega)) ?_); (try (with_reducible refine hK _ ?_; clear hK K)); (try with_reducible refine ite_conj ?_)))
    have hc := clean_upd (b := rowBy (keepB l) (List.replicate (l.length - (keepB l).length) zeroB)) hS hr rfl
    refine finS_high trivial ?_ (high_part (k := (keepB l).length) (n := l.length) hr) (fun i b hi h => ?_) ?_ hc
    · simp only [go_sem, List.forall_mem_nil, ↓guard_ite, ↓pick_ite, seval, encT_eq, inR_i64, resAll, resOne, tupV]
    · replace h : updE S1 r _ i = some b := h
      by_cases e : i = r
      · subst e
        rw [updE_same] at h
        cases h
        rfl
      · rw [updE_ne _ e, hrest i hi e] at h
        exact (hS i b h).2
    · refine lowS_is hS hr (updE_same _ _ _) fun i hi hne => ?_
      show updE S1 r _ i = S i
      rw [updE_ne _ hne]
      exact hrest i hi hne
end Go.Proofs.Ytkjocebkajckpaa
