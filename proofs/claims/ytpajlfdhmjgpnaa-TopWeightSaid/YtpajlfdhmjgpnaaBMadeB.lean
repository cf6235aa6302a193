/-
  Bindings made of raw numbers.
  Conditions: none.
-/
import Derived.Test.YtpajlfdhmjgpnaaPCompose
import Derived.Test.YtpajlfdhmjgpnaaIrMadeB
import Derived.Test.YtpajlfdhmjgpnaaBVars
namespace Go.Proofs.Ytpajlfdhmjgpnaa
open Go Go.RowKit
set_option linter.unusedVariables false
set_option linter.unusedSimpArgs false
set_option maxHeartbeats 800000

def nmB (i : Nat) : ByteArray := [(⟨#[85]⟩ : ByteArray), ⟨#[88]⟩, ⟨#[89]⟩, ⟨#[90]⟩].getD i ⟨#[]⟩
theorem bindsFrom_a (l : List Int) (hl : ∀ n ∈ l, inR .i64 n) (hm : l.length ≤ maxLen) (vars : Int) (hv : 1 ≤ vars ∧ vars ≤ 4) (at_ most : Nat) (hat : at_ ≤ 1000) (h12 : most ≤ 100) : ∃ bs : List Bd, ACalls Try.prog 22 [aInts l, aInt at_, aInt most, aInt vars] (aBds bs) ∧ OkB bs ∧ bs.length ≤ 4 ∧ ∀ b ∈ bs, b.2.size + 1 ≤ max 2 (2 * most) := by
  have hT : ∀ i : Nat, ∃ t : Tm, i < 4 → ACalls Try.prog 19 [aInts l, aInt ((at_ : Int) + 4 + 7 * i), aInt most, aInt vars] (aTm t) ∧ t.size + 1 ≤ max 2 (2 * most) ∧ t.chk = 0 := fun i => by
    by_cases hi : i < 4
    · obtain ⟨t, ht, hz, hc⟩ := termOf_a l hl hm vars hv most (at_ + 4 + 7 * i) (by omega) (by omega)
      refine ⟨t, fun _ => ⟨?_, hz, hc⟩⟩
      rw [show (((at_ + 4 + 7 * i : Nat) : Int)) = (at_ : Int) + 4 + 7 * i by omega] at ht
      exact ht
    · exact ⟨Tm.nil, fun h => absurd h hi⟩
  obtain ⟨T, hT⟩ := Classical.skolem.1 hT
  obtain ⟨B, hB⟩ : ∃ B : Nat → List Bd, B = fun k => ((List.range k).filter fun i => decide (0 < pickI (rawI l (at_ + i)) 4)).map fun i => (nmB i, T i) := ⟨_, rfl⟩
  have hB0 : B 0 = [] := by rw [hB]; rfl
  have hBy : ∀ k, 0 < pickI (rawI l (at_ + k)) 4 → B (k + 1) = B k ++ [(nmB k, T k)] := fun k h => by
    rw [hB]
    simp only [List.range_succ, List.filter_append, List.map_append]
    rw [List.filter_cons_of_pos (by simpa using h)]
    rfl
  have hBn : ∀ k, ¬ 0 < pickI (rawI l (at_ + k)) 4 → B (k + 1) = B k := fun k h => by
    rw [hB]
    simp only [List.range_succ, List.filter_append, List.map_append]
    rw [List.filter_cons_of_neg (by simpa using h), List.filter_nil, List.map_nil, List.append_nil]
  have hBl : ∀ k, (B k).length ≤ k := fun k => by
    rw [hB]
    simp only [List.length_map]
    exact Nat.le_trans (List.length_filter_le _ _) (by simp)
  have hB4 : OkB (B 4) ∧ ∀ b ∈ B 4, b.2.size + 1 ≤ max 2 (2 * most) := by
    have hmem : ∀ b ∈ B 4, ∃ i, i < 4 ∧ b = (nmB i, T i) := fun b hb => by
      rw [hB] at hb
      obtain ⟨i, hi, rfl⟩ := List.mem_map.1 hb
      exact ⟨i, List.mem_range.1 (List.mem_filter.1 hi).1, rfl⟩
    have hnm : ∀ i, i < 4 → isVar (nmB i) = true ∧ nameOk (nmB i) = true := by decide +kernel
    refine ⟨⟨?_, fun b hb => ?_, fun b hb => ?_, fun b hb => ?_⟩, fun b hb => ?_⟩
    · rw [hB]
      refine List.pairwise_map.2 (List.Pairwise.sublist List.filter_sublist ?_)
      have hp : ∀ i, i < 4 → ∀ j, j < 4 → i < j → sLt (nmB i) (nmB j) = true := by decide +kernel
      exact (List.pairwise_lt_range (n := 4)).imp_of_mem fun hi hj hij => hp _ (List.mem_range.1 hi) _ (List.mem_range.1 hj) hij
    · obtain ⟨i, hi, rfl⟩ := hmem b hb
      exact (hnm i hi).1
    · obtain ⟨i, hi, rfl⟩ := hmem b hb
      exact (hnm i hi).2
    · obtain ⟨i, hi, rfl⟩ := hmem b hb
      exact (hT i hi).2.2
    · obtain ⟨i, hi, rfl⟩ := hmem b hb
      exact (hT i hi).2.1
  clear hB
  refine ⟨B 4, ?_, hB4.1, hBl 4, hB4.2⟩
  have hT := fun i hi => (hT i hi).1
  refine ac_R_BindsFrom (Nat.le_of_ble_eq_true rfl) fun C hC => ?_
  unfold ir_R_BindsFrom
  repeat' (first | (with_reducible first | refine Wa ?_ | refine Wb ?_ | refine Wc ?_ | refine Wd ?_ | refine We ?_ | refine Wf ?_ | refine Wg ?_ | refine Wh ?_ | refine Wi ?_ | refine Wj ?_ | refine Wk (by decide) ?_ | refine Wl ?_ | refine Wm ?_ | refine Wn ?_) | ((with_reducible first | refine Wo (fun K hK => ?_) | refine Wp ?_ | refine Wq ?_ | refine Wr ?_); (try simp only [go_sem, List.forall_mem_nil, ↓guard_ite, ↓pick_ite, seval, encT_eq, inR_i64, decide_eq_true_eq, decide_eq_false_iff_not, Int.ofNat_lt]); (repeat with_reducible refine And.intro (by first | omega | (with_reducible first | exact lens_encT | exact lens_encL | exact lens_encB | exact lens_encP) | (simp; done) | (simp only [List.length_take, List.length_map, List.length_append, maxLen_eq]; omega)) ?_); (try (with_reducible refine hK _ ?_; clear hK K)); (try with_reducible refine ite_conj ?_)))
  refine IWP.ghost (Ghost.own 9 900 63 3 (xs := []) rfl rfl (by simp) (by rw [hC]; decide)) ?_
  refine IWP.loop (fun m x => ∃ k, k ≤ 4 ∧ m = 4 - k ∧ x.env 0 = aInts l ∧ x.env 1 = aInt at_ ∧ x.env 2 = aInt most ∧ x.env 3 = aInt vars ∧ x.env 9 = .one (.row 900 (B k).length) ∧ x.env 10 = .one (.full [[.str ⟨#[85]⟩], [.str ⟨#[88]⟩], [.str ⟨#[89]⟩], [.str ⟨#[90]⟩]]) ∧ x.env 11 = aInt k ∧ x.S 900 = some (.arow 63 3 ((B k).map encB))) 4 ⟨0, Nat.zero_le _, rfl, rfl, rfl, rfl, rfl, by rw [hB0]; rfl, rfl, rfl, by rw [hB0]; rfl⟩ ?_
  rintro m ⟨env, S⟩ ⟨k, hk, rfl, e0, e1, e2, e3, e9, e10, e11, s900⟩
  simp only at e0 e1 e2 e3 e9 e10 e11 s900
  have hbl := hBl k
  by_cases hlt : (k : Int) < 4
  · have hraw := raw_a l (at_ + k) (by omega) hl hm
    have hrr := rawI_range l (at_ + k)
    have hpick := pick_a (rawI l (at_ + k)) 4 (by rw [inR_i64]; omega) (by omega)
    have htk := hT k (by omega)
    rw [show (((at_ + k : Nat) : Int)) = (at_ : Int) + k by omega] at hraw
    have hnm : [([.str ⟨#[85]⟩] : List SV), [.str ⟨#[88]⟩], [.str ⟨#[89]⟩], [.str ⟨#[90]⟩]][k]? = some [.str (nmB k)] := by
      match k, (show k < 4 by omega) with
      | 0, _ => rfl
      | 1, _ => rfl
      | 2, _ => rfl
      | 3, _ => rfl
    by_cases hc : 0 < pickI (rawI l (at_ + k)) 4
    · repeat' (first | (with_reducible first | refine Wa ?_ | refine Wb ?_ | refine Wc ?_ | refine Wd ?_ | refine We ?_ | refine Wf ?_ | refine Wg ?_ | refine Wh ?_ | refine Wi ?_ | refine Wj ?_ | refine Wk (by decide) ?_ | refine Wl ?_ | refine Wm ?_ | refine Wn ?_) | refine CallG.mk _ (hraw) ?_ | refine CallG.mk _ (hpick) ?_ | refine CallG.mk _ (htk) ?_ | ((with_reducible first | refine Wo (fun K hK => ?_) | refine Wp ?_ | refine Wq ?_ | refine Wr ?_); (try simp only [go_sem, List.forall_mem_nil, ↓guard_ite, ↓pick_ite, seval, encT_eq, inR_i64, e0, e1, e2, e3, e9, e10, e11, s900, hlt, hc, hnm, decide_eq_true_eq, decide_eq_false_iff_not, Int.ofNat_lt]); (repeat with_reducible refine And.intro (by first | omega | (with_reducible first | exact lens_encT | exact lens_encL | exact lens_encB | exact lens_encP) | (simp; done) | (simp only [List.length_take, List.length_map, List.length_append, maxLen_eq]; omega)) ?_); (try (with_reducible refine hK _ ?_; clear hK K)); (try with_reducible refine ite_conj ?_)))
      refine then_normal ⟨4 - (k + 1), by omega, k + 1, by omega, rfl, ?_⟩
      rw [hBy k hc]
      simp only [go_sem, List.forall_mem_nil, ↓guard_ite, ↓pick_ite, seval, encT_eq, inR_i64, e0, e1, e2, e3, e9, e10, e11, s900]
      refine ⟨by congr 3, ?_⟩
      rw [List.map_append]
      rfl
    · repeat' (first | (with_reducible first | refine Wa ?_ | refine Wb ?_ | refine Wc ?_ | refine Wd ?_ | refine We ?_ | refine Wf ?_ | refine Wg ?_ | refine Wh ?_ | refine Wi ?_ | refine Wj ?_ | refine Wk (by decide) ?_ | refine Wl ?_ | refine Wm ?_ | refine Wn ?_) | refine CallG.mk _ (hraw) ?_ | refine CallG.mk _ (hpick) ?_ | ((with_reducible first | refine Wo (fun K hK => ?_) | refine Wp ?_ | refine Wq ?_ | refine Wr ?_); (try simp only [go_sem, List.forall_mem_nil, ↓guard_ite, ↓pick_ite, seval, encT_eq, inR_i64, e0, e1, e2, e3, e9, e10, e11, s900, hlt, hc, hnm, decide_eq_true_eq, decide_eq_false_iff_not, Int.ofNat_lt]); (repeat with_reducible refine And.intro (by first | omega | (with_reducible first | exact lens_encT | exact lens_encL | exact lens_encB | exact lens_encP) | (simp; done) | (simp only [List.length_take, List.length_map, List.length_append, maxLen_eq]; omega)) ?_); (try (with_reducible refine hK _ ?_; clear hK K)); (try with_reducible refine ite_conj ?_)))
      refine then_normal ⟨4 - (k + 1), by omega, k + 1, by omega, rfl, ?_⟩
      rw [hBn k hc]
      simp only [go_sem, List.forall_mem_nil, ↓guard_ite, ↓pick_ite, seval, encT_eq, inR_i64, e0, e1, e2, e3, e9, e10, e11, s900]
      congr 3
  · obtain rfl : k = 4 := by omega
    repeat' (first | (with_reducible first | refine Wa ?_ | refine Wb ?_ | refine Wc ?_ | refine Wd ?_ | refine We ?_ | refine Wf ?_ | refine Wg ?_ | refine Wh ?_ | refine Wi ?_ | refine Wj ?_ | refine Wk (by decide) ?_ | refine Wl ?_ | refine Wm ?_ | refine Wn ?_) | ((with_reducible first | refine Wo (fun K hK => ?_) | refine Wp ?_ | refine Wq ?_ | refine Wr ?_); (try simp only [go_sem, List.forall_mem_nil, ↓guard_ite, ↓pick_ite, seval, encT_eq, inR_i64, e0, e1, e9, e11, s900, hlt, decide_eq_true_eq, decide_eq_false_iff_not, Int.ofNat_lt]); (repeat with_reducible refine And.intro (by first | omega | (with_reducible first | exact lens_encT | exact lens_encL | exact lens_encB | exact lens_encP) | (simp; done) | (simp only [List.length_take, List.length_map, List.length_append, maxLen_eq]; omega)) ?_); (try (with_reducible refine hK _ ?_; clear hK K)); (try with_reducible refine ite_conj ?_)))
    simp only [go_sem, List.forall_mem_nil, ↓guard_ite, ↓pick_ite, seval, FinQ, AS.result, resAll, resOne, tupV, s900]
theorem may_of {t : Tm} (hc : t.chk = 0) (hz : t.size ≤ 200) : t.may = 0 := by
  unfold Tm.may
  rw [if_neg (by omega)]
  exact hc
end Go.Proofs.Ytpajlfdhmjgpnaa
