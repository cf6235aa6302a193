/-
  Equations made of raw numbers: the law.
  Conditions: none.
-/
import Derived.Test.YtnbdpkgndhacfaaBUnify4
import Derived.Test.YtnbdpkgndhacfaaBRawT
namespace Go.Proofs.Ytnbdpkgndhacfaa
open Go Go.RowKit
set_option linter.unusedVariables false
set_option linter.unusedSimpArgs false
set_option maxHeartbeats 800000

theorem pairsFrom_a (l : List Int) (hl : ∀ n ∈ l, inR .i64 n) (hm : l.length ≤ maxLen) (many most : Nat) (h3 : many ≤ 3) (h12 : most ≤ 12) : ∃ ps : List Pr, ACalls Try.prog 17 [aInts l, aInt many, aInt most, aInt 4] (aPrs ps) := by
  have hstep : ∀ at_ : Nat, at_ ≤ 1000 → ∃ p : Pr, MadeAt l at_ most 4 p.1 ∧ MadeAt l (at_ + p.1.size) most 4 p.2 ∧ p.1.size ≤ 24 ∧ p.2.size ≤ 24 := fun at_ h => by
    obtain ⟨a, ha, hs⟩ := grow_a l hl hm 4 (by omega) most at_ (by omega) (by omega)
    have hs : a.size ≤ 24 := by omega
    obtain ⟨b, hb, hs'⟩ := grow_a l hl hm 4 (by omega) most (at_ + a.size) (by omega) (by omega)
    exact ⟨(a, b), ha, hb, hs, by show b.size ≤ 24; omega⟩
  obtain ⟨p0, a0, b0, s0, s0'⟩ := hstep 0 (by omega)
  obtain ⟨p1, a1, b1, s1, s1'⟩ := hstep (0 + p0.1.size + p0.2.size) (by omega)
  obtain ⟨p2, a2, b2, s2, s2'⟩ := hstep (0 + p0.1.size + p0.2.size + p1.1.size + p1.2.size) (by omega)
  obtain ⟨A, hA0, hA⟩ : ∃ A : Nat → Nat, A 0 = 0 ∧ ∀ k, k < 3 → ∃ p, [p0, p1, p2][k]? = some p ∧ MadeAt l (A k) most 4 p.1 ∧ MadeAt l (A k + p.1.size) most 4 p.2 ∧ A (k + 1) = A k + p.1.size + p.2.size := by
    refine ⟨fun k => match k with | 0 => 0 | 1 => 0 + p0.1.size + p0.2.size | 2 => 0 + p0.1.size + p0.2.size + p1.1.size + p1.2.size | _ => 0 + p0.1.size + p0.2.size + p1.1.size + p1.2.size + p2.1.size + p2.2.size, rfl, fun k hk => ?_⟩
    match k, hk with
    | 0, _ => exact ⟨p0, rfl, a0, b0, rfl⟩
    | 1, _ => exact ⟨p1, rfl, a1, b1, rfl⟩
    | 2, _ => exact ⟨p2, rfl, a2, b2, rfl⟩
  generalize hL : [p0, p1, p2] = L at hA
  have hLl : L.length = 3 := by rw [← hL]; rfl
  refine ⟨L.take many, ?_⟩
  refine ac_R_PairsFrom (Nat.le_of_ble_eq_true rfl) fun C hC => ?_
  unfold ir_R_PairsFrom
  repeat' (first | (with_reducible first | refine Wa ?_ | refine Wb ?_ | refine Wc ?_ | refine Wd ?_ | refine We ?_ | refine Wf ?_ | refine Wg ?_ | refine Wh ?_ | refine Wi ?_ | refine Wj ?_ | refine Wk (by decide) ?_ | refine Wl ?_ | refine Wm ?_ | refine Wn ?_) | ((with_reducible first | refine Wo (fun K hK => ?_) | refine Wp ?_ | refine Wq ?_ | refine Wr ?_); (try simp only [go_sem, List.forall_mem_nil, ↓guard_ite, ↓pick_ite, seval, encT_eq, inR_i64, decide_eq_true_eq, decide_eq_false_iff_not, Int.ofNat_lt]); (repeat with_reducible refine And.intro (by first | omega | with_reducible exact lens_encT | with_reducible exact lens_encL | with_reducible exact lens_encB | with_reducible exact lens_encP | (simp; done) | (simp only [List.length_take, List.length_map, List.length_append, maxLen_eq]; omega)) ?_); (try (with_reducible refine hK _ ?_; clear hK K)); (try with_reducible refine ite_conj ?_)))
  refine IWP.ghost (Ghost.own 9 900 57 4 (xs := []) rfl rfl (by simp) (by rw [hC]; decide)) ?_
  refine IWP.loopD [12, 14] (fun m x => ∃ k, k ≤ many ∧ m = many - k ∧ x.env 0 = aInts l ∧ x.env 1 = aInt many ∧ x.env 2 = aInt most ∧ x.env 3 = aInt 4 ∧ x.env 9 = .one (.row 900 k) ∧ x.env 10 = aInt (A k) ∧ x.env 11 = aInt k ∧ x.S 900 = some (.arow 57 4 ((L.take k).map encP)) ∧ x.S 12 = none ∧ x.S 14 = none) many ⟨0, Nat.zero_le _, rfl, rfl, rfl, rfl, rfl, rfl, by rw [hA0]; rfl, rfl, rfl, rfl, rfl⟩ ?_
  rintro m ⟨env, S⟩ ⟨k, hk, rfl, e0, e1, e2, e3, e9, e10, e11, s900, s12, s14⟩
  simp only at e0 e1 e2 e3 e9 e10 e11 s900 s12 s14
  have hlk : (L.take k).length = k := by rw [List.length_take]; omega
  by_cases hlt : (k : Int) < many
  · obtain ⟨p, hp, ha, hb, hn⟩ := hA k (by omega)
    unfold MadeAt at ha hb
    repeat' (first | (with_reducible first | refine Wa ?_ | refine Wb ?_ | refine Wc ?_ | refine Wd ?_ | refine We ?_ | refine Wf ?_ | refine Wg ?_ | refine Wh ?_ | refine Wi ?_ | refine Wj ?_ | refine Wk (by decide) ?_ | refine Wl ?_ | refine Wm ?_ | refine Wn ?_) | refine CallG.mk _ (ha) ?_ | refine CallG.mk _ (hb) ?_ | ((with_reducible first | refine Wo (fun K hK => ?_) | refine Wp ?_ | refine Wq ?_ | refine Wr ?_); (try simp only [go_sem, List.forall_mem_nil, ↓guard_ite, ↓pick_ite, seval, encT_eq, inR_i64, e0, e1, e2, e3, e9, e10, e11, s900, s12, s14, hlt, hlk, decide_eq_true_eq, decide_eq_false_iff_not, Int.ofNat_lt]); (repeat with_reducible refine And.intro (by first | omega | with_reducible exact lens_encT | with_reducible exact lens_encL | with_reducible exact lens_encB | with_reducible exact lens_encP | (simp; done) | (simp only [List.length_take, List.length_map, List.length_append, maxLen_eq]; omega)) ?_); (try (with_reducible refine hK _ ?_; clear hK K)); (try with_reducible refine ite_conj ?_)))
    refine then_normal ⟨many - (k + 1), by omega, k + 1, by omega, rfl, ?_⟩
    simp only [go_sem, List.forall_mem_nil, ↓guard_ite, ↓pick_ite, seval, AS.drop, dropS, AC.clears, AC.clear, AC.highs, AC.high, Bool.not_false, Bool.true_and, Bool.and_self, AV.purge, AV.purges, AC.purge, ABlk.purge, List.contains_cons, List.contains_nil, Nat.reduceBEq, Bool.or_self, Bool.or_false, Bool.false_or, Bool.or_true, encT_eq, inR_i64, e0, e1, e2, e3, e9, e10, e11, s900, s12, s14]
    refine ⟨by rw [hn], by congr 3, ?_⟩
    rw [take_snoc hp, List.map_append]
    rfl
  · obtain rfl : k = many := by omega
    repeat' (first | (with_reducible first | refine Wa ?_ | refine Wb ?_ | refine Wc ?_ | refine Wd ?_ | refine We ?_ | refine Wf ?_ | refine Wg ?_ | refine Wh ?_ | refine Wi ?_ | refine Wj ?_ | refine Wk (by decide) ?_ | refine Wl ?_ | refine Wm ?_ | refine Wn ?_) | ((with_reducible first | refine Wo (fun K hK => ?_) | refine Wp ?_ | refine Wq ?_ | refine Wr ?_); (try simp only [go_sem, List.forall_mem_nil, ↓guard_ite, ↓pick_ite, seval, encT_eq, inR_i64, e0, e1, e9, e11, s900, hlt, decide_eq_true_eq, decide_eq_false_iff_not, Int.ofNat_lt]); (repeat with_reducible refine And.intro (by first | omega | with_reducible exact lens_encT | with_reducible exact lens_encL | with_reducible exact lens_encB | with_reducible exact lens_encP | (simp; done) | (simp only [List.length_take, List.length_map, List.length_append, maxLen_eq]; omega)) ?_); (try (with_reducible refine hK _ ?_; clear hK K)); (try with_reducible refine ite_conj ?_)))
    simp only [go_sem, List.forall_mem_nil, ↓guard_ite, ↓pick_ite, seval, FinQ, AS.result, resAll, resOne, tupV, s900, hlk]
theorem unifyMade_a (l : List Int) (m1 m2 : Int) (hl : ∀ n ∈ l, inR .i64 n) (hm : l.length ≤ maxLen) (h1 : inR .i64 m1) (h2 : inR .i64 m2) : ACalls Try.prog 5 [aInts l, aInt m1, aInt m2] (aBool true) := by
  have r1 := pickI_range m1 4 (by omega)
  have r2 := pickI_range m2 12 (by omega)
  have p1 := pick_a m1 4 h1 (by omega)
  have p2 := pick_a m2 12 h2 (by omega)
  obtain ⟨k1, e1⟩ : ∃ k : Nat, pickI m1 4 = k := ⟨(pickI m1 4).toNat, by omega⟩
  obtain ⟨k2, e2⟩ : ∃ k : Nat, pickI m2 12 = k := ⟨(pickI m2 12).toNat, by omega⟩
  rw [e1] at p1 r1
  rw [e2] at p2 r2
  obtain ⟨ps, hps⟩ := pairsFrom_a l hl hm k1 (1 + k2) (by omega) (by omega)
  rw [show (((1 + k2 : Nat) : Int)) = 1 + (k2 : Int) by omega] at hps
  refine ac_L_UnifyMade (Nat.le_of_ble_eq_true rfl) fun C hC => ?_
  unfold ir_L_UnifyMade
  by_cases h256 : (256 : Int) < l.length
  · repeat' (first | (with_reducible first | refine Wa ?_ | refine Wb ?_ | refine Wc ?_ | refine Wd ?_ | refine We ?_ | refine Wf ?_ | refine Wg ?_ | refine Wh ?_ | refine Wi ?_ | refine Wj ?_ | refine Wk (by decide) ?_ | refine Wl ?_ | refine Wm ?_ | refine Wn ?_) | ((with_reducible first | refine Wo (fun K hK => ?_) | refine Wp ?_ | refine Wq ?_ | refine Wr ?_); (try simp only [go_sem, List.forall_mem_nil, ↓guard_ite, ↓pick_ite, seval, encT_eq, inR_i64, h256, decide_eq_true_eq, decide_eq_false_iff_not, Int.ofNat_lt]); (repeat with_reducible refine And.intro (by first | omega | with_reducible exact lens_encT | with_reducible exact lens_encL | with_reducible exact lens_encB | with_reducible exact lens_encP | (simp; done) | (simp only [List.length_take, List.length_map, List.length_append, maxLen_eq]; omega)) ?_); (try (with_reducible refine hK _ ?_; clear hK K)); (try with_reducible refine ite_conj ?_)))
    simp only [go_sem, List.forall_mem_nil, ↓guard_ite, ↓pick_ite, seval, FinQ, AS.result, resAll, resOne, tupV]
  · repeat' (first | (with_reducible first | refine Wa ?_ | refine Wb ?_ | refine Wc ?_ | refine Wd ?_ | refine We ?_ | refine Wf ?_ | refine Wg ?_ | refine Wh ?_ | refine Wi ?_ | refine Wj ?_ | refine Wk (by decide) ?_ | refine Wl ?_ | refine Wm ?_ | refine Wn ?_) | refine CallG.mk _ (p1) ?_ | refine CallG.mk _ (p2) ?_ | refine CallG.mk _ (hps) ?_ | refine CallG.mk _ (unifySays_a ps) ?_ | ((with_reducible first | refine Wo (fun K hK => ?_) | refine Wp ?_ | refine Wq ?_ | refine Wr ?_); (try simp only [go_sem, List.forall_mem_nil, ↓guard_ite, ↓pick_ite, seval, encT_eq, inR_i64, h256, decide_eq_true_eq, decide_eq_false_iff_not, Int.ofNat_lt]); (repeat with_reducible refine And.intro (by first | omega | with_reducible exact lens_encT | with_reducible exact lens_encL | with_reducible exact lens_encB | with_reducible exact lens_encP | (simp; done) | (simp only [List.length_take, List.length_map, List.length_append, maxLen_eq]; omega)) ?_); (try (with_reducible refine hK _ ?_; clear hK K)); (try with_reducible refine ite_conj ?_)))
    simp only [go_sem, List.forall_mem_nil, ↓guard_ite, ↓pick_ite, seval, FinQ, AS.result, resAll, resOne, tupV]
end Go.Proofs.Ytnbdpkgndhacfaa
