/-
  Bindings made of raw numbers: one list behind another is doing one behind the other: the law.
  Conditions: none.
-/
import Derived.Test.YtkjocebkajckpaaBThen2
import Derived.Test.YtkjocebkajckpaaBMaker
import Derived.Test.YtkjocebkajckpaaPCompose
import Derived.Test.YtkjocebkajckpaaBRawT
import Derived.Test.YtkjocebkajckpaaIrTComp
namespace Go.Proofs.Ytkjocebkajckpaa
open Go Go.RowKit
set_option linter.unusedVariables false
set_option linter.unusedSimpArgs false
set_option maxHeartbeats 800000

def nmB (i : Nat) : ByteArray := [(⟨#[85]⟩ : ByteArray), ⟨#[88]⟩, ⟨#[89]⟩, ⟨#[90]⟩].getD i ⟨#[]⟩
theorem bindsFrom_a (l : List Int) (hl : ∀ n ∈ l, inR .i64 n) (hm : l.length ≤ maxLen) (at_ most : Nat) (hat : at_ ≤ 100) (h12 : most ≤ 6) : ∃ bs : List Bd, ACalls Try.prog 5 [aInts l, aInt at_, aInt most, aInt 4] (aBds bs) ∧ OkB bs ∧ bs.length ≤ 4 ∧ ∀ b ∈ bs, b.2.size ≤ 11 := by
  have hT : ∀ i : Nat, ∃ t : Tm, i < 4 → ACalls Try.prog 6 [aInts l, aInt ((at_ : Int) + 4 + 7 * i), aInt most, aInt 4] (aTm t) ∧ t.size ≤ 11 ∧ t.chk = 0 := fun i => by
    by_cases hi : i < 4
    · obtain ⟨t, ht, hz, hc⟩ := termOf_a l hl hm 4 (by omega) most (at_ + 4 + 7 * i) (by omega) (by omega)
      refine ⟨t, fun _ => ⟨?_, by omega, hc⟩⟩
      rw [show (((at_ + 4 + 7 * i : Nat) : Int)) = (at_ : Int) + 4 + 7 * i by omega] at ht
      exact ht
    · exact ⟨Tm.nil, fun h => absurd h hi⟩
  obtain ⟨T, hT⟩ := Classical.skolem.1 hT
  obtain ⟨B, hB⟩ : ∃ B : Nat → List Bd, B = fun k => ((List.range k).filter fun i => decide (0 < pickI (rawI l (at_ + i)) 4)).map fun i => (nmB i, T i) := ⟨_, rfl⟩
  have hB0 : B 0 = [] := by rw [hB]; rfl
  have hBy : ∀ k, 0 < pickI (rawI l (at_ + k)) 4 → B (k + 1) = B k ++ [(nmB k, T k)] := fun k h => by
    rw [hB]
    simp only [List.range_succ, List.filter_append, List.map_append]
    rw [List.filter_cons_of_pos (by simpa using h)]
    rfl
  have hBn : ∀ k, ¬ 0 < pickI (rawI l (at_ + k)) 4 → B (k + 1) = B k := fun k h => by
    rw [hB]
    simp only [List.range_succ, List.filter_append, List.map_append]
    rw [List.filter_cons_of_neg (by simpa using h), List.filter_nil, List.map_nil, List.append_nil]
  have hBl : ∀ k, (B k).length ≤ k := fun k => by
    rw [hB]
    simp only [List.length_map]
    exact Nat.le_trans (List.length_filter_le _ _) (by simp)
  have hB4 : OkB (B 4) ∧ ∀ b ∈ B 4, b.2.size ≤ 11 := by
    have hmem : ∀ b ∈ B 4, ∃ i, i < 4 ∧ b = (nmB i, T i) := fun b hb => by
      rw [hB] at hb
      obtain ⟨i, hi, rfl⟩ := List.mem_map.1 hb
      exact ⟨i, List.mem_range.1 (List.mem_filter.1 hi).1, rfl⟩
    have hnm : ∀ i, i < 4 → isVar (nmB i) = true ∧ nameOk (nmB i) = true := by decide +kernel
    refine ⟨⟨?_, fun b hb => ?_, fun b hb => ?_, fun b hb => ?_⟩, fun b hb => ?_⟩
    · rw [hB]
      refine List.pairwise_map.2 (List.Pairwise.sublist List.filter_sublist ?_)
      have hp : ∀ i, i < 4 → ∀ j, j < 4 → i < j → sLt (nmB i) (nmB j) = true := by decide +kernel
      exact (List.pairwise_lt_range (n := 4)).imp_of_mem fun hi hj hij => hp _ (List.mem_range.1 hi) _ (List.mem_range.1 hj) hij
    · obtain ⟨i, hi, rfl⟩ := hmem b hb
      exact (hnm i hi).1
    · obtain ⟨i, hi, rfl⟩ := hmem b hb
      exact (hnm i hi).2
    · obtain ⟨i, hi, rfl⟩ := hmem b hb
      exact (hT i hi).2.2
    · obtain ⟨i, hi, rfl⟩ := hmem b hb
      exact (hT i hi).2.1
  clear hB
  refine ⟨B 4, ?_, hB4.1, hBl 4, hB4.2⟩
  have hT := fun i hi => (hT i hi).1
  refine ac_R_BindsFrom (Nat.le_of_ble_eq_true rfl) fun C hC => ?_
  unfold ir_R_BindsFrom
  repeat' (first | (with_reducible first | refine Wa ?_ | refine Wb ?_ | refine Wc ?_ | refine Wd ?_ | refine We ?_ | refine Wf ?_ | refine Wg ?_ | refine Wh ?_ | refine Wi ?_ | refine Wj ?_ | refine Wk (by decide) ?_ | refine Wl ?_ | refine Wm ?_ | refine Wn ?_) | ((with_reducible first | refine Wo (fun K hK => ?_) | refine Wp ?_ | refine Wq ?_ | refine Wr ?_); (try simp only [go_sem, List.forall_mem_nil, ↓guard_ite, ↓pick_ite, seval, encT_eq, inR_i64, decide_eq_true_eq, decide_eq_false_iff_not, Int.ofNat_lt]); (repeat with_reducible refine And.intro (by first | omega | (with_reducible first | exact lens_encT | exact lens_encL | exact lens_encB | exact lens_encP) | (simp; done) | (simp only [List.length_take, List.length_map, List.length_append, maxLen_eq]; omega)) ?_); (try (with_reducible refine hK _ ?_; clear hK K)); (try with_reducible refine ite_conj ?_)))
  refine IWP.ghost (Ghost.own 9 900 43 3 (xs := []) rfl rfl (by simp) (by rw [hC]; decide)) ?_
  refine IWP.loop (fun m x => ∃ k, k ≤ 4 ∧ m = 4 - k ∧ x.env 0 = aInts l ∧ x.env 1 = aInt at_ ∧ x.env 2 = aInt most ∧ x.env 3 = aInt 4 ∧ x.env 9 = .one (.row 900 (B k).length) ∧ x.env 10 = .one (.full [[.str ⟨#[85]⟩], [.str ⟨#[88]⟩], [.str ⟨#[89]⟩], [.str ⟨#[90]⟩]]) ∧ x.env 11 = aInt k ∧ x.S 900 = some (.arow 43 3 ((B k).map encB))) 4 ⟨0, Nat.zero_le _, rfl, rfl, rfl, rfl, rfl, by rw [hB0]; rfl, rfl, rfl, by rw [hB0]; rfl⟩ ?_
  rintro m ⟨env, S⟩ ⟨k, hk, rfl, e0, e1, e2, e3, e9, e10, e11, s900⟩
  simp only at e0 e1 e2 e3 e9 e10 e11 s900
  have hbl := hBl k
  by_cases hlt : (k : Int) < 4
  · have hraw := raw_a l (at_ + k) (by omega) hl hm
    have hrr := rawI_range l (at_ + k)
    have hpick := pick_a (rawI l (at_ + k)) 4 (by rw [inR_i64]; omega) (by omega)
    have htk := hT k (by omega)
    rw [show (((at_ + k : Nat) : Int)) = (at_ : Int) + k by omega] at hraw
    have hnm : [([.str ⟨#[85]⟩] : List SV), [.str ⟨#[88]⟩], [.str ⟨#[89]⟩], [.str ⟨#[90]⟩]][k]? = some [.str (nmB k)] := by
      match k, (show k < 4 by omega) with
      | 0, _ => rfl
      | 1, _ => rfl
      | 2, _ => rfl
      | 3, _ => rfl
    by_cases hc : 0 < pickI (rawI l (at_ + k)) 4
    · repeat' (first | (with_reducible first | refine Wa ?_ | refine Wb ?_ | refine Wc ?_ | refine Wd ?_ | refine We ?_ | refine Wf ?_ | refine Wg ?_ | refine Wh ?_ | refine Wi ?_ | refine Wj ?_ | refine Wk (by decide) ?_ | refine Wl ?_ | refine Wm ?_ | refine Wn ?_) | refine CallG.mk _ (hraw) ?_ | refine CallG.mk _ (hpick) ?_ | refine CallG.mk _ (htk) ?_ | ((with_reducible first | refine Wo (fun K hK => ?_) | refine Wp ?_ | refine Wq ?_ | refine Wr ?_); (try simp only [go_sem, List.forall_mem_nil, ↓guard_ite, ↓pick_ite, seval, encT_eq, inR_i64, e0, e1, e2, e3, e9, e10, e11, s900, hlt, hc, hnm, decide_eq_true_eq, decide_eq_false_iff_not, Int.ofNat_lt]); (repeat with_reducible refine And.intro (by first | omega | (with_reducible first | exact lens_encT | exact lens_encL | exact lens_encB | exact lens_encP) | (simp; done) | (simp only [List.length_take, List.length_map, List.length_append, maxLen_eq]; omega)) ?_); (try (with_reducible refine hK _ ?_; clear hK K)); (try with_reducible refine ite_conj ?_)))
      refine then_normal ⟨4 - (k + 1), by omega, k + 1, by omega, rfl, ?_⟩
      rw [hBy k hc]
      simp only [go_sem, List.forall_mem_nil, ↓guard_ite, ↓pick_ite, seval, encT_eq, inR_i64, e0, e1, e2, e3, e9, e10, e11, s900]
      refine ⟨by congr 3, ?_⟩
      rw [List.map_append]
      rfl
    · repeat' (first | (with_reducible first | refine Wa ?_ | refine Wb ?_ | refine Wc ?_ | refine Wd ?_ | refine We ?_ | refine Wf ?_ | refine Wg ?_ | refine Wh ?_ | refine Wi ?_ | refine Wj ?_ | refine Wk (by decide) ?_ | refine Wl ?_ | refine Wm ?_ | refine Wn ?_) | refine CallG.mk _ (hraw) ?_ | refine CallG.mk _ (hpick) ?_ | ((with_reducible first | refine Wo (fun K hK => ?_) | refine Wp ?_ | refine Wq ?_ | refine Wr ?_); (try simp only [go_sem, List.forall_mem_nil, ↓guard_ite, ↓pick_ite, seval, encT_eq, inR_i64, e0, e1, e2, e3, e9, e10, e11, s900, hlt, hc, hnm, decide_eq_true_eq, decide_eq_false_iff_not, Int.ofNat_lt]); (repeat with_reducible refine And.intro (by first | omega | (with_reducible first | exact lens_encT | exact lens_encL | exact lens_encB | exact lens_encP) | (simp; done) | (simp only [List.length_take, List.length_map, List.length_append, maxLen_eq]; omega)) ?_); (try (with_reducible refine hK _ ?_; clear hK K)); (try with_reducible refine ite_conj ?_)))
      refine then_normal ⟨4 - (k + 1), by omega, k + 1, by omega, rfl, ?_⟩
      rw [hBn k hc]
      simp only [go_sem, List.forall_mem_nil, ↓guard_ite, ↓pick_ite, seval, encT_eq, inR_i64, e0, e1, e2, e3, e9, e10, e11, s900]
      congr 3
  · obtain rfl : k = 4 := by omega
    repeat' (first | (with_reducible first | refine Wa ?_ | refine Wb ?_ | refine Wc ?_ | refine Wd ?_ | refine We ?_ | refine Wf ?_ | refine Wg ?_ | refine Wh ?_ | refine Wi ?_ | refine Wj ?_ | refine Wk (by decide) ?_ | refine Wl ?_ | refine Wm ?_ | refine Wn ?_) | ((with_reducible first | refine Wo (fun K hK => ?_) | refine Wp ?_ | refine Wq ?_ | refine Wr ?_); (try simp only [go_sem, List.forall_mem_nil, ↓guard_ite, ↓pick_ite, seval, encT_eq, inR_i64, e0, e1, e9, e11, s900, hlt, decide_eq_true_eq, decide_eq_false_iff_not, Int.ofNat_lt]); (repeat with_reducible refine And.intro (by first | omega | (with_reducible first | exact lens_encT | exact lens_encL | exact lens_encB | exact lens_encP) | (simp; done) | (simp only [List.length_take, List.length_map, List.length_append, maxLen_eq]; omega)) ?_); (try (with_reducible refine hK _ ?_; clear hK K)); (try with_reducible refine ite_conj ?_)))
    simp only [go_sem, List.forall_mem_nil, ↓guard_ite, ↓pick_ite, seval, FinQ, AS.result, resAll, resOne, tupV, s900]
theorem may_of {t : Tm} (hc : t.chk = 0) (hz : t.size ≤ 200) : t.may = 0 := by
  unfold Tm.may
  rw [if_neg (by omega)]
  exact hc
theorem thenOf_yes {s r : List Bd} {M : Nat} (hM : 1 ≤ M) (hr : ∀ b ∈ r, b.2.size ≤ M) (hs : ∀ b ∈ s, b.2.size * M ≤ 2000) : thenOf s r = (composed s r, 0) := by
  unfold thenOf
  rw [if_pos]
  · rfl
  · refine List.all_eq_true.2 fun b hb => decide_eq_true ?_
    exact Nat.le_trans (size_sub hM hr b.2) (hs b hb)
theorem applyTo_yes {s : List Bd} {t : Tm} (hs : bindsMay s = 0) (ht : t.may = 0) (hz : (t.on s).size ≤ 2000) : applyTo s t = (t.on s, 0) := by
  unfold applyTo
  rw [if_pos hs, if_pos ht, if_pos hz]
theorem composed_len (s r : List Bd) : (composed s r).length ≤ s.length + r.length := by
  unfold composed
  rw [sortB_length]
  refine Nat.le_trans (keepB_len _) ?_
  unfold joined putIn newIn
  rw [List.length_append, List.length_map]
  have := List.length_filter_le (fun b : Bd => !(lookup s b.1).isSome) r
  omega
theorem composed_size {s r : List Bd} {M K : Nat} (hM : 1 ≤ M) (hr : ∀ b ∈ r, b.2.size ≤ M) (hs : ∀ b ∈ s, b.2.size ≤ K) (hK : 1 ≤ K) : ∀ b ∈ composed s r, b.2.size ≤ K * M := fun b hb => by
  rcases composed_mem hb with ⟨c, hc, rfl⟩ | h
  · exact Nat.le_trans (size_sub hM hr c.2) (Nat.mul_le_mul_right M (hs c hc))
  · exact Nat.le_trans (hr b h) (Nat.le_mul_of_pos_left M hK)
theorem puts_a : ACalls Try.prog 12 [] (aBool true) := by
  have e0 : (Tm.mk ⟨#[88]⟩ []).on [((⟨#[88]⟩ : ByteArray), Tm.mk ⟨#[97]⟩ [])] = Tm.mk ⟨#[97]⟩ [] := Tm.on_leaf (x := Tm.mk ⟨#[97]⟩ []) (by rw [lookup_cons]; rfl) rfl
  have e : applyTo [((⟨#[88]⟩ : ByteArray), Tm.mk ⟨#[97]⟩ [])] (Tm.mk ⟨#[88]⟩ []) = (Tm.mk ⟨#[97]⟩ [], 0) := by
    rw [applyTo_yes (by decide +kernel) (by decide +kernel) (by rw [e0]; decide +kernel), e0]
  have h := applyP_a [(⟨#[88]⟩, Tm.mk ⟨#[97]⟩ [])] (Tm.mk ⟨#[88]⟩ [])
  rw [e] at h
  refine ac_metaprunetop_puts (Nat.le_of_ble_eq_true rfl) fun C hC => ?_
  unfold ir_metaprunetop_puts
  repeat' (first | (with_reducible first | refine Wa ?_ | refine Wb ?_ | refine Wc ?_ | refine Wd ?_ | refine We ?_ | refine Wf ?_ | refine Wg ?_ | refine Wh ?_ | refine Wi ?_ | refine Wj ?_ | refine Wk (by decide) ?_ | refine Wl ?_ | refine Wm ?_ | refine Wn ?_) | refine CallG.mk _ (leaf_a ⟨#[97]⟩) ?_ | refine CallG.mk _ (leaf_a ⟨#[88]⟩) ?_ | refine CallG.mk _ (h) ?_ | ((with_reducible first | refine Wo (fun K hK => ?_) | refine Wp ?_ | refine Wq ?_ | refine Wr ?_); (try simp only [go_sem, List.forall_mem_nil, ↓guard_ite, ↓pick_ite, seval, encT_eq, inR_i64, encB, decide_eq_true_eq, decide_eq_false_iff_not, Int.ofNat_lt]); (repeat with_reducible refine And.intro (by first | omega | (with_reducible first | exact lens_encT | exact lens_encL | exact lens_encB | exact lens_encP) | (simp; done) | (simp only [List.length_take, List.length_map, List.length_append, maxLen_eq]; omega)) ?_); (try (with_reducible refine hK _ ?_; clear hK K)); (try with_reducible refine ite_conj ?_)))
  simp only [go_sem, List.forall_mem_nil, ↓guard_ite, ↓pick_ite, seval, FinQ, AS.result, resAll, resOne, tupV]
theorem topCompose_a (l : List Int) (m1 : Int) (hl : ∀ n ∈ l, inR .i64 n) (hm : l.length ≤ maxLen) (h1 : inR .i64 m1) : ACalls Try.prog 3 [aInts l, aInt m1] (aBool true) := by
  have r1 := pickI_range m1 7 (by omega)
  have p1 := pick_a m1 7 h1 (by omega)
  obtain ⟨n, e1⟩ : ∃ k : Nat, pickI m1 7 = k := ⟨(pickI m1 7).toNat, by omega⟩
  rw [e1] at p1 r1
  obtain ⟨s, cs, os, ls, zs⟩ := bindsFrom_a l hl hm 0 n (by omega) (by omega)
  obtain ⟨r, cr, or_, lr, zr⟩ := bindsFrom_a l hl hm 40 n (by omega) (by omega)
  obtain ⟨q, cq, oq, lq, zq⟩ := bindsFrom_a l hl hm 80 n (by omega) (by omega)
  obtain ⟨t, ct, zt, kt⟩ := termOf_a l hl hm 4 (by omega) 7 120 (by omega) (by omega)
  have bs := bindsMay_ok os (by omega) fun b hb => Nat.le_trans (zs b hb) (by omega)
  have br := bindsMay_ok or_ (by omega) fun b hb => Nat.le_trans (zr b hb) (by omega)
  have bq := bindsMay_ok oq (by omega) fun b hb => Nat.le_trans (zq b hb) (by omega)
  have osr := composed_ok os or_
  have orq := composed_ok or_ oq
  have zsr := composed_size (M := 11) (K := 11) (by omega) zr zs (by omega)
  have zrq := composed_size (M := 11) (K := 11) (by omega) zq zr (by omega)
  have lsr := composed_len s r
  have lrq := composed_len r q
  have bsr := bindsMay_ok osr (by omega) fun b hb => Nat.le_trans (zsr b hb) (by omega)
  have brq := bindsMay_ok orq (by omega) fun b hb => Nat.le_trans (zrq b hb) (by omega)
  have ht13 : t.size ≤ 13 := by omega
  have za : (t.on s).size ≤ 143 := by
    have := size_sub (M := 11) (by omega) zs t
    omega
  have zb : ((t.on s).on r).size ≤ 1573 := by
    have := size_sub (M := 11) (by omega) zr (t.on s)
    omega
  have hon := on_composed os or_ kt
  have c1 := then_yes s r bs br
  rw [thenOf_yes (M := 11) (by omega) zr fun b hb => by have := zs b hb; omega] at c1
  have c2 := then_yes r q br bq
  rw [thenOf_yes (M := 11) (by omega) zq fun b hb => by have := zr b hb; omega] at c2
  have c3 := applyP_a s t
  rw [applyTo_yes bs (may_of kt (by omega)) (by omega)] at c3
  have c4 := applyP_a (composed s r) t
  rw [applyTo_yes bsr (may_of kt (by omega)) (by rw [hon]; omega), hon] at c4
  have c5 := applyP_a r (t.on s)
  rw [applyTo_yes br (may_of (chk_sub os.chk kt) (by omega)) (by omega)] at c5
  have c6 := sameR_a ((t.on s).on r) ((t.on s).on r)
  rw [(Tm.beq_iff _ _).2 rfl] at c6
  have c7 := then_yes (composed s r) q bsr bq
  rw [thenOf_yes (M := 11) (by omega) zq fun b hb => by have := zsr b hb; omega] at c7
  have c8 := then_yes s (composed r q) bs brq
  rw [thenOf_yes (M := 121) (by omega) zrq fun b hb => by have := zs b hb; omega, ← composed_assoc os or_ oq] at c8
  refine ac_metaprunetop_TopCompose (Nat.le_of_ble_eq_true rfl) fun C hC => ?_
  unfold ir_metaprunetop_TopCompose
  by_cases h256 : (256 : Int) < l.length
  · repeat' (first | (with_reducible first | refine Wa ?_ | refine Wb ?_ | refine Wc ?_ | refine Wd ?_ | refine We ?_ | refine Wf ?_ | refine Wg ?_ | refine Wh ?_ | refine Wi ?_ | refine Wj ?_ | refine Wk (by decide) ?_ | refine Wl ?_ | refine Wm ?_ | refine Wn ?_) | ((with_reducible first | refine Wo (fun K hK => ?_) | refine Wp ?_ | refine Wq ?_ | refine Wr ?_); (try simp only [go_sem, List.forall_mem_nil, ↓guard_ite, ↓pick_ite, seval, encT_eq, inR_i64, h256, decide_eq_true_eq, decide_eq_false_iff_not, Int.ofNat_lt]); (repeat with_reducible refine And.intro (by first | omega | (with_reducible first | exact lens_encT | exact lens_encL | exact lens_encB | exact lens_encP) | (simp; done) | (simp only [List.length_take, List.length_map, List.length_append, maxLen_eq]; omega)) ?_); (try (with_reducible refine hK _ ?_; clear hK K)); (try with_reducible refine ite_conj ?_)))
    simp only [go_sem, List.forall_mem_nil, ↓guard_ite, ↓pick_ite, seval, FinQ, AS.result, resAll, resOne, tupV]
  · repeat' (first | (with_reducible first | refine Wa ?_ | refine Wb ?_ | refine Wc ?_ | refine Wd ?_ | refine We ?_ | refine Wf ?_ | refine Wg ?_ | refine Wh ?_ | refine Wi ?_ | refine Wj ?_ | refine Wk (by decide) ?_ | refine Wl ?_ | refine Wm ?_ | refine Wn ?_) | refine CallG.mk _ (p1) ?_ | refine CallG.mk _ (cs) ?_ | refine CallG.mk _ (cr) ?_ | refine CallG.mk _ (cq) ?_ | refine CallG.mk _ (ct) ?_ | refine CallG.mk _ (c1) ?_ | refine CallG.mk _ (c2) ?_ | refine CallG.mk _ (c3) ?_ | refine CallG.mk _ (c4) ?_ | refine CallG.mk _ (c5) ?_ | refine CallG.mk _ (c6) ?_ | refine CallG.mk _ (c7) ?_ | refine CallG.mk _ (c8) ?_ | refine CallG.mk _ (sameBinds_a _) ?_ | refine CallG.mk _ (puts_a) ?_ | ((with_reducible first | refine Wo (fun K hK => ?_) | refine Wp ?_ | refine Wq ?_ | refine Wr ?_); (try simp only [go_sem, List.forall_mem_nil, ↓guard_ite, ↓pick_ite, seval, encT_eq, inR_i64, h256, decide_eq_true_eq, decide_eq_false_iff_not, Int.ofNat_lt]); (repeat with_reducible refine And.intro (by first | omega | (with_reducible first | exact lens_encT | exact lens_encL | exact lens_encB | exact lens_encP) | (simp; done) | (simp only [List.length_take, List.length_map, List.length_append, maxLen_eq]; omega)) ?_); (try (with_reducible refine hK _ ?_; clear hK K)); (try with_reducible refine ite_conj ?_)))
    simp only [go_sem, List.forall_mem_nil, ↓guard_ite, ↓pick_ite, seval, FinQ, AS.result, resAll, resOne, tupV]
end Go.Proofs.Ytkjocebkajckpaa
