/-
  Rows of symbols, terms without variables made of raw numbers.
  Conditions: none.
-/
import Derived.Test.YtpajlfdhmjgpnaaIrMadeG
import Derived.Test.YtpajlfdhmjgpnaaPOrder
namespace Go.Proofs.Ytpajlfdhmjgpnaa
open Go Go.RowKit
set_option linter.unusedVariables false
set_option linter.unusedSimpArgs false
set_option maxHeartbeats 800000

theorem rowFrom_a (m : Int) (hm : inR .i64 m) : ∃ row, ACalls Try.prog 34 [aInt m] (aStrs row) ∧ rowMay row = 0 := by
  have r1 := pickI_range m 6 (by omega)
  have p1 := pick_a m 6 hm (by omega)
  obtain ⟨k, e1⟩ : ∃ k : Nat, pickI m 6 = k := ⟨(pickI m 6).toNat, by omega⟩
  rw [e1] at p1 r1
  have key : ∀ row : List ByteArray, [([.list [[.str ⟨#[97]⟩], [.str ⟨#[98]⟩], [.str ⟨#[99]⟩], [.str ⟨#[104]⟩], [.str ⟨#[107]⟩], [.str ⟨#[102]⟩], [.str ⟨#[103]⟩]]] : List SV), [.list [[.str ⟨#[103]⟩], [.str ⟨#[102]⟩], [.str ⟨#[107]⟩], [.str ⟨#[104]⟩], [.str ⟨#[99]⟩], [.str ⟨#[98]⟩], [.str ⟨#[97]⟩]]], [.list [[.str ⟨#[102]⟩], [.str ⟨#[104]⟩]]], [.list []], [.list [[.str ⟨#[101]⟩], [.str ⟨#[102]⟩], [.str ⟨#[105]⟩]]], [.list [[.str ⟨#[99]⟩], [.str ⟨#[97]⟩], [.str ⟨#[107]⟩], [.str ⟨#[104]⟩], [.str ⟨#[103]⟩], [.str ⟨#[102]⟩]]]][k]? = some [.list (row.map encS)] → ACalls Try.prog 34 [aInt m] (aStrs row) := fun row hrow => by
    refine ac_R_RowFrom (Nat.le_of_ble_eq_true rfl) fun C hC => ?_
    unfold ir_R_RowFrom
    repeat' (first | (with_reducible first | refine Wa ?_ | refine Wb ?_ | refine Wc ?_ | refine Wd ?_ | refine We ?_ | refine Wf ?_ | refine Wg ?_ | refine Wh ?_ | refine Wi ?_ | refine Wj ?_ | refine Wk (by decide) ?_ | refine Wl ?_ | refine Wm ?_ | refine Wn ?_) | refine CallG.mk _ (p1) ?_ | ((with_reducible first | refine Wo (fun K hK => ?_) | refine Wp ?_ | refine Wq ?_ | refine Wr ?_); (try simp only [go_sem, List.forall_mem_nil, ↓guard_ite, ↓pick_ite, seval, encT_eq, inR_i64, hrow, decide_eq_true_eq, decide_eq_false_iff_not, Int.ofNat_lt]); (repeat with_reducible refine And.intro (by first | omega | (with_reducible first | exact lens_encT | exact lens_encL | exact lens_encB | exact lens_encP) | (simp; done) | (simp only [List.length_take, List.length_map, List.length_append, maxLen_eq]; omega)) ?_); (try (with_reducible refine hK _ ?_; clear hK K)); (try with_reducible refine ite_conj ?_)))
    simp only [go_sem, List.forall_mem_nil, ↓guard_ite, ↓pick_ite, seval, FinQ, AS.result, resAll, resOne, tupV]
  match k, (show k < 6 by omega) with
  | 0, _ => exact ⟨[⟨#[97]⟩, ⟨#[98]⟩, ⟨#[99]⟩, ⟨#[104]⟩, ⟨#[107]⟩, ⟨#[102]⟩, ⟨#[103]⟩], key _ rfl, by decide +kernel⟩
  | 1, _ => exact ⟨[⟨#[103]⟩, ⟨#[102]⟩, ⟨#[107]⟩, ⟨#[104]⟩, ⟨#[99]⟩, ⟨#[98]⟩, ⟨#[97]⟩], key _ rfl, by decide +kernel⟩
  | 2, _ => exact ⟨[⟨#[102]⟩, ⟨#[104]⟩], key _ rfl, by decide +kernel⟩
  | 3, _ => exact ⟨[], key _ rfl, by decide +kernel⟩
  | 4, _ => exact ⟨[⟨#[101]⟩, ⟨#[102]⟩, ⟨#[105]⟩], key _ rfl, by decide +kernel⟩
  | 5, _ => exact ⟨[⟨#[99]⟩, ⟨#[97]⟩, ⟨#[107]⟩, ⟨#[104]⟩, ⟨#[103]⟩, ⟨#[102]⟩], key _ rfl, by decide +kernel⟩

def MadeG (l : List Int) (at_ : Nat) (most : Int) (t : Tm) : Prop :=
  ACalls Try.prog 35 [aInts l, aInt at_, aInt most] (.tup [aTm t, aInt ((at_ + t.size : Nat) : Int)])
theorem ground_mk {n : ByteArray} {xs : List Tm} (hn : isVar n = false) (hx : ∀ x ∈ xs, x.ground) : (Tm.mk n xs).ground := by
  intro k hk
  rw [Tm.knots, List.mem_cons] at hk
  rcases hk with rfl | hk
  · exact hn
  · clear hn
    induction xs with
    | nil => simp [Tm.knotsL] at hk
    | cons x xs ih =>
      rw [Tm.knotsL, List.mem_append] at hk
      rcases hk with hk | hk
      · exact hx x (by simp) k hk
      · exact ih (fun y hy => hx y (by simp [hy])) hk
theorem groundR_a (l : List Int) (hl : ∀ n ∈ l, inR .i64 n) (hm : l.length ≤ maxLen) : ∀ (most : Nat) (at_ : Nat), most ≤ 1000 → at_ + 2 * most ≤ 900000 → ∃ t : Tm, MadeG l at_ most t ∧ t.size + 1 ≤ max 2 (2 * most) ∧ t.chk = 0 ∧ t.ground := by
  intro most
  induction most using Nat.strongRecOn with
  | _ most ih =>
  intro at_ h1000 hat
  have hraw := raw_a l at_ (by omega) hl hm
  have hr := rawI_range l at_
  generalize rawI l at_ = c at hraw hr
  have d5 := tdiv_range (x := c) (n := 5) (by omega) (by omega)
  have p5 := pick_a c 5 (by rw [inR_i64]; omega) (by omega)
  have q5 := pickI_range c 5 (by omega)
  have p52 := pick_a (c / 5) 2 (by rw [inR_i64]; omega) (by omega)
  have q52 := pickI_range (c / 5) 2 (by omega)
  generalize pickI c 5 = x5 at p5 q5
  generalize pickI (c / 5) 2 = x52 at p52 q52
  by_cases hleaf : (most : Int) < 3 ∨ x5 < 2
  · obtain ⟨nm, hnm, hch, hgr⟩ : ∃ nm, [([.str ⟨#[97]⟩] : List SV), [.str ⟨#[98]⟩]][x52.toNat]? = some [.str nm] ∧ (Tm.mk nm []).chk = 0 ∧ isVar nm = false := by
      have : x52.toNat = 0 ∨ x52.toNat = 1 := by omega
      rcases this with h | h <;> rw [h] <;> exact ⟨_, rfl, by decide, by decide⟩
    refine ⟨.mk nm [], ?_, by simp only [Tm.size, Tm.sizes]; omega, hch, ground_mk hgr (by simp)⟩
    unfold MadeG
    refine ac_R_Ground (Nat.le_of_ble_eq_true rfl) fun C hC => ?_
    unfold ir_R_Ground
    repeat' (first | (with_reducible first | refine Wa ?_ | refine Wb ?_ | refine Wc ?_ | refine Wd ?_ | refine We ?_ | refine Wf ?_ | refine Wg ?_ | refine Wh ?_ | refine Wi ?_ | refine Wj ?_ | refine Wk (by decide) ?_ | refine Wl ?_ | refine Wm ?_ | refine Wn ?_) | ((with_reducible first | refine Wo (fun K hK => ?_) | refine Wp ?_ | refine Wq ?_ | refine Wr ?_); (try simp only [go_sem, List.forall_mem_nil, ↓guard_ite, ↓pick_ite, seval, encT_eq, inR_i64, decide_eq_true_eq, decide_eq_false_iff_not, Int.ofNat_lt]); (repeat with_reducible refine And.intro (by first | omega | (with_reducible first | exact lens_encT | exact lens_encL | exact lens_encB | exact lens_encP) | (simp; done) | (simp only [List.length_take, List.length_map, List.length_append, maxLen_eq]; omega)) ?_); (try (with_reducible refine hK _ ?_; clear hK K)); (try with_reducible refine ite_conj ?_)))
    refine ⟨_, hraw, ?_⟩
    by_cases hm3 : (most : Int) < 3
    · repeat' (first | (with_reducible first | refine Wa ?_ | refine Wb ?_ | refine Wc ?_ | refine Wd ?_ | refine We ?_ | refine Wf ?_ | refine Wg ?_ | refine Wh ?_ | refine Wi ?_ | refine Wj ?_ | refine Wk (by decide) ?_ | refine Wl ?_ | refine Wm ?_ | refine Wn ?_) | refine CallG.mk _ (p52) ?_ | refine CallG.mk _ (leaf_a nm) ?_ | ((with_reducible first | refine Wo (fun K hK => ?_) | refine Wp ?_ | refine Wq ?_ | refine Wr ?_); (try simp only [go_sem, List.forall_mem_nil, ↓guard_ite, ↓pick_ite, seval, encT_eq, inR_i64, hm3, d5.1, hnm, decide_eq_true_eq, decide_eq_false_iff_not, Int.ofNat_lt]); (repeat with_reducible refine And.intro (by first | omega | (with_reducible first | exact lens_encT | exact lens_encL | exact lens_encB | exact lens_encP) | (simp; done) | (simp only [List.length_take, List.length_map, List.length_append, maxLen_eq]; omega)) ?_); (try (with_reducible refine hK _ ?_; clear hK K)); (try with_reducible refine ite_conj ?_)))
      simp only [go_sem, List.forall_mem_nil, ↓guard_ite, ↓pick_ite, seval, FinQ, AS.result, resAll, resOne, tupV]
      simp only [AV.tup.injEq, AV.agg.injEq, AV.one.injEq, AC.st.injEq, SV.int.injEq, SV.str.injEq, SV.bool.injEq, SV.list.injEq, List.cons.injEq, Option.some.injEq, true_and, and_true, eq_self, encT_eq, Tm.args_mk, Tm.name_mk, List.map_cons, List.map_nil, List.map_append, Tm.size, Tm.sizes]
      omega
    · have h5 : x5 < 2 := by omega
      repeat' (first | (with_reducible first | refine Wa ?_ | refine Wb ?_ | refine Wc ?_ | refine Wd ?_ | refine We ?_ | refine Wf ?_ | refine Wg ?_ | refine Wh ?_ | refine Wi ?_ | refine Wj ?_ | refine Wk (by decide) ?_ | refine Wl ?_ | refine Wm ?_ | refine Wn ?_) | refine CallG.mk _ (p5) ?_ | refine CallG.mk _ (p52) ?_ | refine CallG.mk _ (leaf_a nm) ?_ | ((with_reducible first | refine Wo (fun K hK => ?_) | refine Wp ?_ | refine Wq ?_ | refine Wr ?_); (try simp only [go_sem, List.forall_mem_nil, ↓guard_ite, ↓pick_ite, seval, encT_eq, inR_i64, hm3, h5, d5.1, hnm, decide_eq_true_eq, decide_eq_false_iff_not, Int.ofNat_lt]); (repeat with_reducible refine And.intro (by first | omega | (with_reducible first | exact lens_encT | exact lens_encL | exact lens_encB | exact lens_encP) | (simp; done) | (simp only [List.length_take, List.length_map, List.length_append, maxLen_eq]; omega)) ?_); (try (with_reducible refine hK _ ?_; clear hK K)); (try with_reducible refine ite_conj ?_)))
      simp only [go_sem, List.forall_mem_nil, ↓guard_ite, ↓pick_ite, seval, FinQ, AS.result, resAll, resOne, tupV]
      simp only [AV.tup.injEq, AV.agg.injEq, AV.one.injEq, AC.st.injEq, SV.int.injEq, SV.str.injEq, SV.bool.injEq, SV.list.injEq, List.cons.injEq, Option.some.injEq, true_and, and_true, eq_self, encT_eq, Tm.args_mk, Tm.name_mk, List.map_cons, List.map_nil, List.map_append, Tm.size, Tm.sizes]
      omega
  · have hm3 : ¬ (most : Int) < 3 := by omega
    have h5 : ¬ x5 < 2 := by omega
    by_cases h0 : x52 = 0
    · obtain ⟨t, ht, hs, hc1, hg1⟩ := ih (most - 1) (by omega) (at_ + 1) (by omega) (by omega)
      unfold MadeG at ht
      rw [show (((at_ + 1 : Nat) : Int)) = (at_ : Int) + 1 by omega, show (((most - 1 : Nat) : Int)) = (most : Int) - 1 by omega] at ht
      refine ⟨.mk ⟨#[104]⟩ [t], ?_, by simp only [Tm.size, Tm.sizes]; omega, chk_knot (by decide) (by decide) (by simp [hc1]), ground_mk (by decide) (by simp [hg1])⟩
      unfold MadeG
      subst h0
      refine ac_R_Ground (Nat.le_of_ble_eq_true rfl) fun C hC => ?_
      unfold ir_R_Ground
      repeat' (first | (with_reducible first | refine Wa ?_ | refine Wb ?_ | refine Wc ?_ | refine Wd ?_ | refine We ?_ | refine Wf ?_ | refine Wg ?_ | refine Wh ?_ | refine Wi ?_ | refine Wj ?_ | refine Wk (by decide) ?_ | refine Wl ?_ | refine Wm ?_ | refine Wn ?_) | refine CallG.mk _ (hraw) ?_ | refine CallG.mk _ (p5) ?_ | refine CallG.mk _ (p52) ?_ | refine CallG.mk _ (ht) ?_ | ((with_reducible first | refine Wo (fun K hK => ?_) | refine Wp ?_ | refine Wq ?_ | refine Wr ?_); (try simp only [go_sem, List.forall_mem_nil, ↓guard_ite, ↓pick_ite, seval, encT_eq, inR_i64, hm3, h5, d5.1, decide_eq_true_eq, decide_eq_false_iff_not, Int.ofNat_lt]); (repeat with_reducible refine And.intro (by first | omega | (with_reducible first | exact lens_encT | exact lens_encL | exact lens_encB | exact lens_encP) | (simp; done) | (simp only [List.length_take, List.length_map, List.length_append, maxLen_eq]; omega)) ?_); (try (with_reducible refine hK _ ?_; clear hK K)); (try with_reducible refine ite_conj ?_)))
      simp only [go_sem, List.forall_mem_nil, ↓guard_ite, ↓pick_ite, seval, FinQ, AS.result, resAll, resOne, tupV]
      simp only [AV.tup.injEq, AV.agg.injEq, AV.one.injEq, AC.st.injEq, SV.int.injEq, SV.str.injEq, SV.bool.injEq, SV.list.injEq, List.cons.injEq, Option.some.injEq, true_and, and_true, eq_self, encT_eq, Tm.args_mk, Tm.name_mk, List.map_cons, List.map_nil, List.map_append, Tm.size, Tm.sizes]
      omega
    have d2 := tdiv_range (x := (most : Int)) (n := 2) (by omega) (by omega)
    have e2 : (most : Int) / 2 = ((most / 2 : Nat) : Int) := by omega
    obtain ⟨t, ht, hs, hc1, hg1⟩ := ih (most / 2) (by omega) (at_ + 1) (by omega) (by omega)
    obtain ⟨u, hu, hs', hc2, hg2⟩ := ih (most / 2) (by omega) (at_ + 1 + t.size) (by omega) (by omega)
    refine ⟨.mk ⟨#[102]⟩ [t, u], ?_, by simp only [Tm.size, Tm.sizes]; omega, chk_knot (by decide) (by decide) (by simp [hc1, hc2]), ground_mk (by decide) (by simp [hg1, hg2])⟩
    unfold MadeG at ht hu ⊢
    rw [show (((at_ + 1 : Nat) : Int)) = (at_ : Int) + 1 by omega] at ht
    refine ac_R_Ground (Nat.le_of_ble_eq_true rfl) fun C hC => ?_
    unfold ir_R_Ground
    repeat' (first | (with_reducible first | refine Wa ?_ | refine Wb ?_ | refine Wc ?_ | refine Wd ?_ | refine We ?_ | refine Wf ?_ | refine Wg ?_ | refine Wh ?_ | refine Wi ?_ | refine Wj ?_ | refine Wk (by decide) ?_ | refine Wl ?_ | refine Wm ?_ | refine Wn ?_) | refine CallG.mk _ (hraw) ?_ | refine CallG.mk _ (p5) ?_ | refine CallG.mk _ (p52) ?_ | refine CallG.mk _ (ht) ?_ | refine CallG.mk _ (hu) ?_ | ((with_reducible first | refine Wo (fun K hK => ?_) | refine Wp ?_ | refine Wq ?_ | refine Wr ?_); (try simp only [go_sem, List.forall_mem_nil, ↓guard_ite, ↓pick_ite, seval, encT_eq, inR_i64, hm3, h5, d5.1, h0, d2.1, e2, decide_eq_true_eq, decide_eq_false_iff_not, Int.ofNat_lt]); (repeat with_reducible refine And.intro (by first | omega | (with_reducible first | exact lens_encT | exact lens_encL | exact lens_encB | exact lens_encP) | (simp; done) | (simp only [List.length_take, List.length_map, List.length_append, maxLen_eq]; omega)) ?_); (try (with_reducible refine hK _ ?_; clear hK K)); (try with_reducible refine ite_conj ?_)))
    simp only [go_sem, List.forall_mem_nil, ↓guard_ite, ↓pick_ite, seval, FinQ, AS.result, resAll, resOne, tupV]
    simp only [AV.tup.injEq, AV.agg.injEq, AV.one.injEq, AC.st.injEq, SV.int.injEq, SV.str.injEq, SV.bool.injEq, SV.list.injEq, List.cons.injEq, Option.some.injEq, true_and, and_true, eq_self, encT_eq, Tm.args_mk, Tm.name_mk, List.map_cons, List.map_nil, List.map_append, Tm.size, Tm.sizes]
    omega
end Go.Proofs.Ytpajlfdhmjgpnaa
