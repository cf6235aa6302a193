/-
  What matching finds makes the pattern into the term: the law.
  Conditions: none.
-/
import Derived.Test.YtpajlfdhmjgpnaaMatchMade
namespace Go.Proofs.Ytpajlfdhmjgpnaa
open Go Go.RowKit
set_option linter.unusedVariables false
set_option linter.unusedSimpArgs false
set_option maxHeartbeats 800000

theorem topMatch_a (l : List Int) (m1 : Int) (hl : ∀ n ∈ l, inR .i64 n) (hm : l.length ≤ maxLen) (h1 : inR .i64 m1) : ACalls Try.prog 5 [aInts l, aInt m1] (aBool true) := by
  have r1 := pickI_range m1 14 (by omega)
  have p1 := pick_a m1 14 h1 (by omega)
  obtain ⟨k1, e1⟩ : ∃ k : Nat, pickI m1 14 = k := ⟨(pickI m1 14).toNat, by omega⟩
  rw [e1] at p1 r1
  obtain ⟨p, ht, zt, kt⟩ := termOf_a l hl hm 3 (by omega) k1 0 (by omega) (by omega)
  obtain ⟨bs, hb, ok, _, zb⟩ := bindsFrom_a l hl hm 4 (by omega) 40 6 (by omega) (by omega)
  have hz := size_sub (M := 11) (by omega) (fun b hb => by have := zb b hb; omega) p
  have ho := onRef_a bs p (by omega)
  have he : onTo bs p = (p.on bs, true) := by unfold onTo; rw [if_pos (by omega)]
  rw [he] at ho
  have kx : (p.on bs).chk = 0 := chk_sub ok.chk kt
  have hcase : isCase p (p.on bs) = true := case_all kt ok.var
  generalize p.on bs = x at *
  have s1 := sizeR_a x 200 (by omega) (by omega)
  have s2 := sizeR_a x 190 (by omega) (by omega)
  refine ac_metaprunetop_TopMatch (Nat.le_of_ble_eq_true rfl) fun C hC => ?_
  unfold ir_metaprunetop_TopMatch
  by_cases h256 : (256 : Int) < l.length
  · repeat' (first | (with_reducible first | refine Wa ?_ | refine Wb ?_ | refine Wc ?_ | refine Wd ?_ | refine We ?_ | refine Wf ?_ | refine Wg ?_ | refine Wh ?_ | refine Wi ?_ | refine Wj ?_ | refine Wk (by decide) ?_ | refine Wl ?_ | refine Wm ?_ | refine Wn ?_) | ((with_reducible first | refine Wo (fun K hK => ?_) | refine Wp ?_ | refine Wq ?_ | refine Wr ?_); (try simp only [go_sem, List.forall_mem_nil, ↓guard_ite, ↓pick_ite, seval, encT_eq, inR_i64, h256, decide_eq_true_eq, decide_eq_false_iff_not, Int.ofNat_lt]); (repeat with_reducible refine And.intro (by first | omega | (with_reducible first | exact lens_encT | exact lens_encL | exact lens_encB | exact lens_encP) | (simp; done) | (simp only [List.length_take, List.length_map, List.length_append, maxLen_eq]; omega)) ?_); (try (with_reducible refine hK _ ?_; clear hK K)); (try with_reducible refine ite_conj ?_)))
    simp only [go_sem, List.forall_mem_nil, ↓guard_ite, ↓pick_ite, seval, FinQ, AS.result, resAll, resOne, tupV]
  by_cases z200 : x.size ≤ 200
  case neg =>
    have hc : (200 : Int) < capTo x.size 200 := by unfold capTo; split <;> omega
    repeat' (first | (with_reducible first | refine Wa ?_ | refine Wb ?_ | refine Wc ?_ | refine Wd ?_ | refine We ?_ | refine Wf ?_ | refine Wg ?_ | refine Wh ?_ | refine Wi ?_ | refine Wj ?_ | refine Wk (by decide) ?_ | refine Wl ?_ | refine Wm ?_ | refine Wn ?_) | refine CallG.mk _ (p1) ?_ | refine CallG.mk _ (ht) ?_ | refine CallG.mk _ (hb) ?_ | refine CallG.mk _ (ho) ?_ | refine CallG.mk _ (s1) ?_ | ((with_reducible first | refine Wo (fun K hK => ?_) | refine Wp ?_ | refine Wq ?_ | refine Wr ?_); (try simp only [go_sem, List.forall_mem_nil, ↓guard_ite, ↓pick_ite, seval, encT_eq, inR_i64, h256, hc, decide_eq_true_eq, decide_eq_false_iff_not, Int.ofNat_lt]); (repeat with_reducible refine And.intro (by first | omega | (with_reducible first | exact lens_encT | exact lens_encL | exact lens_encB | exact lens_encP) | (simp; done) | (simp only [List.length_take, List.length_map, List.length_append, maxLen_eq]; omega)) ?_); (try (with_reducible refine hK _ ?_; clear hK K)); (try with_reducible refine ite_conj ?_)))
    simp only [go_sem, List.forall_mem_nil, ↓guard_ite, ↓pick_ite, seval, FinQ, AS.result, resAll, resOne, tupV]
  have hc : ¬ (200 : Int) < capTo x.size 200 := by unfold capTo; split <;> omega
  have hpm := may_of kt (show p.size ≤ 200 by omega)
  have hxm := may_of kx z200
  have h2 : twoMay p x = 0 := by unfold twoMay; rw [if_pos hpm]; exact hxm
  have c1 := match_a p x
  rw [if_pos h2, h2, hcase, show (decide ((0 : Int) = 0) && true) = true from rfl] at c1
  have hle := case_len_le (p := p) (t := x)
  have c2 := applyP_a (caseOf p x) p
  rw [applyTo_yes (bindsMay_ok (case_ok kt kx) (by omega) fun b hb => by have := case_size b hb; omega) hpm (by rw [case_on kt kx hcase]; omega), case_on kt kx hcase] at c2
  have c3 := encompasses_a (.mk ⟨#[103]⟩ [.mk ⟨#[97]⟩ [], x]) p
  have c4 := sameR_a x x
  rw [Tm.beq_refl] at c4
  have c5 := varsOf_a p (by omega)
  have hlen : ((caseOf p x).length : Int) = p.varsOf.length := by rw [case_len kt hcase]
  by_cases z190 : x.size ≤ 190
  · have hd : ¬ (190 : Int) < capTo x.size 190 := by unfold capTo; split <;> omega
    have hk : (Tm.mk ⟨#[103]⟩ [.mk ⟨#[97]⟩ [], x]).chk = 0 := chk_knot (by decide +kernel) (by decide +kernel) fun y hy => by
      rcases List.mem_cons.1 hy with rfl | hy
      · decide +kernel
      · rw [List.mem_singleton.1 hy]; exact kx
    have h3 : twoMay (.mk ⟨#[103]⟩ [.mk ⟨#[97]⟩ [], x]) p = 0 := by
      unfold twoMay
      rw [if_pos (may_of hk (by simp only [Tm.size, Tm.sizes]; omega))]
      exact hpm
    have h4 : p.hasCase (.mk ⟨#[103]⟩ [.mk ⟨#[97]⟩ [], x]) = true := by
      rw [Tm.hasCase_eq, Tm.args_mk, Tm.hasCaseL, Tm.hasCaseL, Tm.hasCase_eq p x, hcase]
      simp
    rw [h3, h4, show (decide ((0 : Int) = 0) && true) = true from rfl] at c3
    unfold aTm at c3
    simp only [Tm.args_mk, Tm.name_mk, List.map_cons, List.map_nil, encT_eq] at c3
    repeat' (first | (with_reducible first | refine Wa ?_ | refine Wb ?_ | refine Wc ?_ | refine Wd ?_ | refine We ?_ | refine Wf ?_ | refine Wg ?_ | refine Wh ?_ | refine Wi ?_ | refine Wj ?_ | refine Wk (by decide) ?_ | refine Wl ?_ | refine Wm ?_ | refine Wn ?_) | refine CallG.mk _ (p1) ?_ | refine CallG.mk _ (ht) ?_ | refine CallG.mk _ (hb) ?_ | refine CallG.mk _ (ho) ?_ | refine CallG.mk _ (s1) ?_ | refine CallG.mk _ (c1) ?_ | refine CallG.mk _ (c2) ?_ | refine CallG.mk _ (leaf_a ⟨#[97]⟩) ?_ | refine CallG.mk _ (c3) ?_ | refine CallG.mk _ (c4) ?_ | refine CallG.mk _ (c5) ?_ | refine CallG.mk _ (s2) ?_ | ((with_reducible first | refine Wo (fun K hK => ?_) | refine Wp ?_ | refine Wq ?_ | refine Wr ?_); (try simp only [go_sem, List.forall_mem_nil, ↓guard_ite, ↓pick_ite, seval, encT_eq, inR_i64, h256, hc, hd, hlen, decide_eq_true_eq, decide_eq_false_iff_not, Int.ofNat_lt]); (repeat with_reducible refine And.intro (by first | omega | (with_reducible first | exact lens_encT | exact lens_encL | exact lens_encB | exact lens_encP) | (simp; done) | (simp only [List.length_take, List.length_map, List.length_append, maxLen_eq]; omega)) ?_); (try (with_reducible refine hK _ ?_; clear hK K)); (try with_reducible refine ite_conj ?_)))
    simp only [go_sem, List.forall_mem_nil, ↓guard_ite, ↓pick_ite, seval, FinQ, AS.result, resAll, resOne, tupV]
  · have hd : (190 : Int) < capTo x.size 190 := by unfold capTo; split <;> omega
    unfold aTm at c3
    simp only [Tm.args_mk, Tm.name_mk, List.map_cons, List.map_nil, encT_eq] at c3
    repeat' (first | (with_reducible first | refine Wa ?_ | refine Wb ?_ | refine Wc ?_ | refine Wd ?_ | refine We ?_ | refine Wf ?_ | refine Wg ?_ | refine Wh ?_ | refine Wi ?_ | refine Wj ?_ | refine Wk (by decide) ?_ | refine Wl ?_ | refine Wm ?_ | refine Wn ?_) | refine CallG.mk _ (p1) ?_ | refine CallG.mk _ (ht) ?_ | refine CallG.mk _ (hb) ?_ | refine CallG.mk _ (ho) ?_ | refine CallG.mk _ (s1) ?_ | refine CallG.mk _ (c1) ?_ | refine CallG.mk _ (c2) ?_ | refine CallG.mk _ (leaf_a ⟨#[97]⟩) ?_ | refine CallG.mk _ (c3) ?_ | refine CallG.mk _ (c4) ?_ | refine CallG.mk _ (c5) ?_ | refine CallG.mk _ (s2) ?_ | ((with_reducible first | refine Wo (fun K hK => ?_) | refine Wp ?_ | refine Wq ?_ | refine Wr ?_); (try simp only [go_sem, List.forall_mem_nil, ↓guard_ite, ↓pick_ite, seval, encT_eq, inR_i64, h256, hc, hd, hlen, decide_eq_true_eq, decide_eq_false_iff_not, Int.ofNat_lt]); (repeat with_reducible refine And.intro (by first | omega | (with_reducible first | exact lens_encT | exact lens_encL | exact lens_encB | exact lens_encP) | (simp; done) | (simp only [List.length_take, List.length_map, List.length_append, maxLen_eq]; omega)) ?_); (try (with_reducible refine hK _ ?_; clear hK K)); (try with_reducible refine ite_conj ?_)))
    simp only [go_sem, List.forall_mem_nil, ↓guard_ite, ↓pick_ite, seval, FinQ, AS.result, resAll, resOne, tupV]
end Go.Proofs.Ytpajlfdhmjgpnaa
