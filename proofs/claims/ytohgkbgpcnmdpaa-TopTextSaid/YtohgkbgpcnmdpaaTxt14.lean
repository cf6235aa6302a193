/-
  Part 14 of the texts: BRawT; PText; PPut; IrTText. Conditions: none.
-/
import Derived.Test.YtohgkbgpcnmdpaaTxt13
namespace Go.Proofs.Ytohgkbgpcnmdpaa
open Go Go.RowKit
set_option linter.unusedVariables false
set_option linter.unusedSimpArgs false
set_option maxHeartbeats 800000

def pickI (c n : Int) : Int := (if c < 0 then -(c + 1) else c) % n
theorem pickI_range (c n : Int) (hn : 1 ≤ n) : 0 ≤ pickI c n ∧ pickI c n < n := ⟨Int.emod_nonneg _ (by omega), Int.emod_lt_of_pos _ (by omega)⟩
theorem tmod_range {x n : Int} (hx : 0 ≤ x) (hn : 1 ≤ n) : x.tmod n = x % n ∧ 0 ≤ x % n ∧ x % n < n ∧ x % n ≤ x := by
  rw [Int.tmod_eq_emod_of_nonneg hx]
  refine ⟨rfl, Int.emod_nonneg _ (by omega), Int.emod_lt_of_pos _ (by omega), ?_⟩
  by_cases h : x < n
  · rw [Int.emod_eq_of_lt hx h]; exact Int.le_refl _
  · have := Int.emod_lt_of_pos x (show 0 < n by omega); omega
theorem tdiv_range {x n : Int} (hx : 0 ≤ x) (hn : 1 ≤ n) : x.tdiv n = x / n ∧ 0 ≤ x / n ∧ x / n ≤ x := by
  rw [Int.tdiv_eq_ediv_of_nonneg hx]
  exact ⟨rfl, Int.ediv_nonneg hx (by omega), Int.ediv_le_self _ hx⟩
theorem pick_a (c n : Int) (hc : inR .i64 c) (hn : 1 ≤ n) : ACalls Try.prog 11 [aInt c, aInt n] (aInt (pickI c n)) := by
  rw [inR_i64] at hc
  refine ac_R_Pick (Nat.le_of_ble_eq_true rfl) fun C hC => ?_
  unfold ir_R_Pick
  repeat' (first | (with_reducible first | refine Wa ?_ | refine Wb ?_ | refine Wc ?_ | refine Wd ?_ | refine We ?_ | refine Wf ?_ | refine Wg ?_ | refine Wh ?_ | refine Wi ?_ | refine Wj ?_ | refine Wk (by decide) ?_ | refine Wl ?_ | refine Wm ?_ | refine Wn ?_) | ((with_reducible first | refine Wo (fun K hK => ?_) | refine Wq ?_ | refine Wr ?_); (try simp only [go_sem, List.forall_mem_nil, ↓guard_ite, ↓pick_ite, seval, encT_eq, inR_i64]); (repeat with_reducible refine And.intro (by first | omega | (with_reducible first | exact lens_encT | exact lens_encL | exact lens_encB | exact lens_encP) | (simp; done) | (simp only [List.length_take, List.length_map, List.length_append, maxLen_eq]; omega)) ?_); (try (with_reducible refine hK _ ?_; clear hK K))))
  with_reducible refine Wp ?_
  simp only [go_sem, List.forall_mem_nil, ↓guard_ite, ↓pick_ite, seval, true_implies, false_implies, implies_true, decide_eq_true_eq, decide_eq_false_iff_not, Int.ofNat_lt]
  (try with_reducible refine ite_conj ?_)
  refine ⟨fun h0 => ?_, fun h0 => ?_⟩
  · have h1 := tmod_range (x := 0 - (c + 1)) (n := n) (by omega) hn
    repeat' (first | (with_reducible first | refine Wa ?_ | refine Wb ?_ | refine Wc ?_ | refine Wd ?_ | refine We ?_ | refine Wf ?_ | refine Wg ?_ | refine Wh ?_ | refine Wi ?_ | refine Wj ?_ | refine Wk (by decide) ?_ | refine Wl ?_ | refine Wm ?_ | refine Wn ?_) | ((with_reducible first | refine Wo (fun K hK => ?_) | refine Wq ?_ | refine Wr ?_); (try simp only [go_sem, List.forall_mem_nil, ↓guard_ite, ↓pick_ite, seval, encT_eq, inR_i64, h1.1]); (repeat with_reducible refine And.intro (by first | omega | (with_reducible first | exact lens_encT | exact lens_encL | exact lens_encB | exact lens_encP) | (simp; done) | (simp only [List.length_take, List.length_map, List.length_append, maxLen_eq]; omega)) ?_); (try (with_reducible refine hK _ ?_; clear hK K))))
    simp only [go_sem, List.forall_mem_nil, ↓guard_ite, ↓pick_ite, seval, FinQ, AS.result, resAll, resOne, tupV]
    unfold pickI
    rw [if_pos h0]
    congr 5
    omega
  · have h1 := tmod_range (x := c) (n := n) (by omega) hn
    repeat' (first | (with_reducible first | refine Wa ?_ | refine Wb ?_ | refine Wc ?_ | refine Wd ?_ | refine We ?_ | refine Wf ?_ | refine Wg ?_ | refine Wh ?_ | refine Wi ?_ | refine Wj ?_ | refine Wk (by decide) ?_ | refine Wl ?_ | refine Wm ?_ | refine Wn ?_) | ((with_reducible first | refine Wo (fun K hK => ?_) | refine Wq ?_ | refine Wr ?_); (try simp only [go_sem, List.forall_mem_nil, ↓guard_ite, ↓pick_ite, seval, encT_eq, inR_i64, h1.1]); (repeat with_reducible refine And.intro (by first | omega | (with_reducible first | exact lens_encT | exact lens_encL | exact lens_encB | exact lens_encP) | (simp; done) | (simp only [List.length_take, List.length_map, List.length_append, maxLen_eq]; omega)) ?_); (try (with_reducible refine hK _ ?_; clear hK K))))
    simp only [go_sem, List.forall_mem_nil, ↓guard_ite, ↓pick_ite, seval, FinQ, AS.result, resAll, resOne, tupV]
    unfold pickI
    rw [if_neg h0]

def rawI (l : List Int) (i : Nat) : Int := if l.length = 0 then i * 31 else pickI (l.getD (i % l.length) 0) 1000003 + ((i / l.length : Nat) : Int) * 7919
theorem rawI_range (l : List Int) (i : Nat) : 0 ≤ rawI l i ∧ rawI l i ≤ 1000003 + i * 7919 := by
  unfold rawI
  split
  · omega
  · have := pickI_range (l.getD (i % l.length) 0) 1000003 (by omega)
    have h2 : i / l.length ≤ i := Nat.div_le_self _ _
    generalize i / l.length = q at *
    omega
theorem raw_a (l : List Int) (i : Nat) (hi : i ≤ 1000000) (hl : ∀ n ∈ l, inR .i64 n) (hm : l.length ≤ maxLen) : ACalls Try.prog 38 [aInts l, aInt i] (aInt (rawI l i)) := by
  rw [maxLen_eq] at hm
  refine ac_R_Raw (Nat.le_of_ble_eq_true rfl) fun C hC => ?_
  unfold ir_R_Raw
  repeat' (first | (with_reducible first | refine Wa ?_ | refine Wb ?_ | refine Wc ?_ | refine Wd ?_ | refine We ?_ | refine Wf ?_ | refine Wg ?_ | refine Wh ?_ | refine Wi ?_ | refine Wj ?_ | refine Wk (by decide) ?_ | refine Wl ?_ | refine Wm ?_ | refine Wn ?_) | ((with_reducible first | refine Wo (fun K hK => ?_) | refine Wq ?_ | refine Wr ?_); (try simp only [go_sem, List.forall_mem_nil, ↓guard_ite, ↓pick_ite, seval, encT_eq, inR_i64]); (repeat with_reducible refine And.intro (by first | omega | (with_reducible first | exact lens_encT | exact lens_encL | exact lens_encB | exact lens_encP) | (simp; done) | (simp only [List.length_take, List.length_map, List.length_append, maxLen_eq]; omega)) ?_); (try (with_reducible refine hK _ ?_; clear hK K))))
  with_reducible refine Wp ?_
  simp only [go_sem, List.forall_mem_nil, ↓guard_ite, ↓pick_ite, seval, true_implies, false_implies, implies_true, decide_eq_true_eq, decide_eq_false_iff_not, Int.ofNat_lt]
  (try with_reducible refine ite_conj ?_)
  refine ⟨fun h0 => ?_, fun h0 => ?_⟩
  · repeat' (first | (with_reducible first | refine Wa ?_ | refine Wb ?_ | refine Wc ?_ | refine Wd ?_ | refine We ?_ | refine Wf ?_ | refine Wg ?_ | refine Wh ?_ | refine Wi ?_ | refine Wj ?_ | refine Wk (by decide) ?_ | refine Wl ?_ | refine Wm ?_ | refine Wn ?_) | ((with_reducible first | refine Wo (fun K hK => ?_) | refine Wq ?_ | refine Wr ?_); (try simp only [go_sem, List.forall_mem_nil, ↓guard_ite, ↓pick_ite, seval, encT_eq, inR_i64]); (repeat with_reducible refine And.intro (by first | omega | (with_reducible first | exact lens_encT | exact lens_encL | exact lens_encB | exact lens_encP) | (simp; done) | (simp only [List.length_take, List.length_map, List.length_append, maxLen_eq]; omega)) ?_); (try (with_reducible refine hK _ ?_; clear hK K))))
    simp only [go_sem, List.forall_mem_nil, ↓guard_ite, ↓pick_ite, seval, FinQ, AS.result, resAll, resOne, tupV]
    unfold rawI
    rw [if_pos (by omega)]
  · have h1 := tmod_range (x := (i : Int)) (n := (l.length : Int)) (by omega) (by omega)
    have h2 := tdiv_range (x := (i : Int)) (n := (l.length : Int)) (by omega) (by omega)
    have hlt : i % l.length < l.length := Nat.mod_lt _ (by omega)
    obtain ⟨a, ha⟩ := get_lt hlt
    have e1 : ((i : Int) % (l.length : Int)) = ((i % l.length : Nat) : Int) := by omega
    have e2 : ((i : Int) / (l.length : Int)) = ((i / l.length : Nat) : Int) := by omega
    have h3 : i / l.length ≤ i := Nat.div_le_self _ _
    repeat' (first | (with_reducible first | refine Wa ?_ | refine Wb ?_ | refine Wc ?_ | refine Wd ?_ | refine We ?_ | refine Wf ?_ | refine Wg ?_ | refine Wh ?_ | refine Wi ?_ | refine Wj ?_ | refine Wk (by decide) ?_ | refine Wl ?_ | refine Wm ?_ | refine Wn ?_) | ((with_reducible first | refine Wo (fun K hK => ?_) | refine Wq ?_ | refine Wr ?_); (try simp only [go_sem, List.forall_mem_nil, ↓guard_ite, ↓pick_ite, seval, encT_eq, inR_i64, h1.1, h2.1, e1, e2, ha]); (repeat with_reducible refine And.intro (by first | omega | (with_reducible first | exact lens_encT | exact lens_encL | exact lens_encB | exact lens_encP) | (simp; done) | (simp only [List.length_take, List.length_map, List.length_append, maxLen_eq]; omega)) ?_); (try (with_reducible refine hK _ ?_; clear hK K))))
    refine ⟨_, pick_a a 1000003 (hl a (mem_of_get ha)) (by omega), ?_⟩
    have hp := pickI_range a 1000003 (by omega)
    repeat' (first | (with_reducible first | refine Wa ?_ | refine Wb ?_ | refine Wc ?_ | refine Wd ?_ | refine We ?_ | refine Wf ?_ | refine Wg ?_ | refine Wh ?_ | refine Wi ?_ | refine Wj ?_ | refine Wk (by decide) ?_ | refine Wl ?_ | refine Wm ?_ | refine Wn ?_) | ((with_reducible first | refine Wo (fun K hK => ?_) | refine Wq ?_ | refine Wr ?_); (try simp only [go_sem, List.forall_mem_nil, ↓guard_ite, ↓pick_ite, seval, encT_eq, inR_i64, h1.1, h2.1, e1, e2]); (repeat with_reducible refine And.intro (by first | omega | (with_reducible first | exact lens_encT | exact lens_encL | exact lens_encB | exact lens_encP) | (simp; done) | (simp only [List.length_take, List.length_map, List.length_append, maxLen_eq]; omega)) ?_); (try (with_reducible refine hK _ ?_; clear hK K))))
    simp only [go_sem, List.forall_mem_nil, ↓guard_ite, ↓pick_ite, seval, FinQ, AS.result, resAll, resOne, tupV]
    unfold rawI
    rw [if_neg (by omega), List.getD_eq_getElem?_getD, ha]
    rfl

theorem leaf_a (s : ByteArray) : ACalls Try.prog 22 [aStr s] (aTm (.mk s [])) := by
  refine ac_R_Leaf (Nat.le_of_ble_eq_true rfl) fun C hC => ?_
  unfold ir_R_Leaf
  repeat' (first | (with_reducible first | refine Wa ?_ | refine Wb ?_ | refine Wc ?_ | refine Wd ?_ | refine We ?_ | refine Wf ?_ | refine Wg ?_ | refine Wh ?_ | refine Wi ?_ | refine Wj ?_ | refine Wk (by decide) ?_ | refine Wl ?_ | refine Wm ?_ | refine Wn ?_) | ((with_reducible first | refine Wo (fun K hK => ?_) | refine Wq ?_ | refine Wr ?_); (try simp only [go_sem, List.forall_mem_nil, ↓guard_ite, ↓pick_ite, seval, encT_eq, inR_i64]); (repeat with_reducible refine And.intro (by first | omega | (with_reducible first | exact lens_encT | exact lens_encL | exact lens_encB | exact lens_encP) | (simp; done) | (simp only [List.length_take, List.length_map, List.length_append, maxLen_eq]; omega)) ?_); (try (with_reducible refine hK _ ?_; clear hK K))))
  simp only [go_sem, List.forall_mem_nil, ↓guard_ite, ↓pick_ite, seval, FinQ, AS.result, resAll, resOne, tupV]
  rfl

theorem chk_knot {n : ByteArray} {xs : List Tm} (h1 : nameOk n = true) (h2 : isVar n = false) (hx : ∀ x ∈ xs, x.chk = 0) : (Tm.mk n xs).chk = 0 := by
  have h0 : chkOne (Tm.mk n xs) = 0 := by
    unfold chkOne
    rw [Tm.name_mk, if_pos h1, if_neg (by rw [h2]; simp)]
  rw [Tm.chk_eq, if_pos h0, Tm.args_mk]
  induction xs with
  | nil => rfl
  | cons x xs ih =>
    simp only [Tm.chkL]
    rw [if_pos (hx x (by simp))]
    refine ih (fun y hy => hx y (by simp [hy])) ?_
    unfold chkOne
    rw [Tm.name_mk, if_pos h1, if_neg (by rw [h2]; simp)]
def MadeAt (l : List Int) (at_ : Nat) (most vars : Int) (t : Tm) : Prop :=
  ACalls Try.prog 29 [aInts l, aInt at_, aInt most, aInt vars] (.tup [aTm t, aInt ((at_ + t.size : Nat) : Int)])
theorem grow_a (l : List Int) (hl : ∀ n ∈ l, inR .i64 n) (hm : l.length ≤ maxLen) (vars : Int) (hv : 1 ≤ vars ∧ vars ≤ 4) : ∀ (most : Nat) (at_ : Nat), most ≤ 1000 → at_ + 2 * most ≤ 900000 → ∃ t : Tm, MadeAt l at_ most vars t ∧ t.size + 1 ≤ max 2 (2 * most) ∧ t.chk = 0 := by
  intro most
  induction most using Nat.strongRecOn with
  | _ most ih =>
  intro at_ h1000 hat
  have hraw := raw_a l at_ (by omega) hl hm
  have hr := rawI_range l at_
  generalize rawI l at_ = c at hraw hr
  have d5 := tdiv_range (x := c) (n := 5) (by omega) (by omega)
  have d15 := tdiv_range (x := c) (n := 15) (by omega) (by omega)
  have p5 := pick_a c 5 (by rw [inR_i64]; omega) (by omega)
  have q5 := pickI_range c 5 (by omega)
  have p53 := pick_a (c / 5) 3 (by rw [inR_i64]; omega) (by omega)
  have q53 := pickI_range (c / 5) 3 (by omega)
  have p54 := pick_a (c / 5) 4 (by rw [inR_i64]; omega) (by omega)
  have q54 := pickI_range (c / 5) 4 (by omega)
  have p15 := pick_a (c / 15) vars (by rw [inR_i64]; omega) (by omega)
  have q15 := pickI_range (c / 15) vars (by omega)
  have p153 := pick_a (c / 15) 3 (by rw [inR_i64]; omega) (by omega)
  have q153 := pickI_range (c / 15) 3 (by omega)
  generalize pickI c 5 = x5 at p5 q5
  generalize pickI (c / 5) 3 = x53 at p53 q53
  generalize pickI (c / 5) 4 = x54 at p54 q54
  generalize pickI (c / 15) vars = x15 at p15 q15
  generalize pickI (c / 15) 3 = x153 at p153 q153
  have hv0 : vars > 0 := by omega
  by_cases hleaf : (most : Int) < 3 ∨ x5 < 2
  · by_cases hvar : 0 < x53
    · obtain ⟨nm, hnm, hch⟩ : ∃ nm, [([.str ⟨#[88]⟩] : List SV), [.str ⟨#[89]⟩], [.str ⟨#[90]⟩], [.str ⟨#[85]⟩]][x15.toNat]? = some [.str nm] ∧ (Tm.mk nm []).chk = 0 := by
        have : x15.toNat = 0 ∨ x15.toNat = 1 ∨ x15.toNat = 2 ∨ x15.toNat = 3 := by omega
        rcases this with h | h | h | h <;> rw [h] <;> first | exact ⟨_, rfl, by decide⟩ | exact ⟨_, rfl, by decide, by decide⟩
      refine ⟨.mk nm [], ?_, by simp only [Tm.size, Tm.sizes]; omega, hch⟩
      unfold MadeAt
      refine ac_R_Grow (Nat.le_of_ble_eq_true rfl) fun C hC => ?_
      unfold ir_R_Grow
      repeat' (first | (with_reducible first | refine Wa ?_ | refine Wb ?_ | refine Wc ?_ | refine Wd ?_ | refine We ?_ | refine Wf ?_ | refine Wg ?_ | refine Wh ?_ | refine Wi ?_ | refine Wj ?_ | refine Wk (by decide) ?_ | refine Wl ?_ | refine Wm ?_ | refine Wn ?_) | ((with_reducible first | refine Wo (fun K hK => ?_) | refine Wq ?_ | refine Wr ?_); (try simp only [go_sem, List.forall_mem_nil, ↓guard_ite, ↓pick_ite, seval, encT_eq, inR_i64]); (repeat with_reducible refine And.intro (by first | omega | (with_reducible first | exact lens_encT | exact lens_encL | exact lens_encB | exact lens_encP) | (simp; done) | (simp only [List.length_take, List.length_map, List.length_append, maxLen_eq]; omega)) ?_); (try (with_reducible refine hK _ ?_; clear hK K))))
      refine ⟨_, hraw, ?_⟩
      by_cases hm3 : (most : Int) < 3
      · repeat' (first | (with_reducible first | refine Wa ?_ | refine Wb ?_ | refine Wc ?_ | refine Wd ?_ | refine We ?_ | refine Wf ?_ | refine Wg ?_ | refine Wh ?_ | refine Wi ?_ | refine Wj ?_ | refine Wk (by decide) ?_ | refine Wl ?_ | refine Wm ?_ | refine Wn ?_) | ((with_reducible first | refine Wo (fun K hK => ?_) | refine Wq ?_ | refine Wr ?_); (try simp only [go_sem, List.forall_mem_nil, ↓guard_ite, ↓pick_ite, seval, encT_eq, inR_i64, hm3]); (repeat with_reducible refine And.intro (by first | omega | (with_reducible first | exact lens_encT | exact lens_encL | exact lens_encB | exact lens_encP) | (simp; done) | (simp only [List.length_take, List.length_map, List.length_append, maxLen_eq]; omega)) ?_); (try (with_reducible refine hK _ ?_; clear hK K))))
        with_reducible refine Wp ?_
        simp only [go_sem, List.forall_mem_nil, ↓guard_ite, ↓pick_ite, seval, true_implies, false_implies, implies_true, decide_eq_true_eq, decide_eq_false_iff_not, Int.ofNat_lt]
        (try with_reducible refine ite_conj ?_)
        repeat' (first | (with_reducible first | refine Wa ?_ | refine Wb ?_ | refine Wc ?_ | refine Wd ?_ | refine We ?_ | refine Wf ?_ | refine Wg ?_ | refine Wh ?_ | refine Wi ?_ | refine Wj ?_ | refine Wk (by decide) ?_ | refine Wl ?_ | refine Wm ?_ | refine Wn ?_) | ((with_reducible first | refine Wo (fun K hK => ?_) | refine Wq ?_ | refine Wr ?_); (try simp only [go_sem, List.forall_mem_nil, ↓guard_ite, ↓pick_ite, seval, encT_eq, inR_i64, hv0, d5.1]); (repeat with_reducible refine And.intro (by first | omega | (with_reducible first | exact lens_encT | exact lens_encL | exact lens_encB | exact lens_encP) | (simp; done) | (simp only [List.length_take, List.length_map, List.length_append, maxLen_eq]; omega)) ?_); (try (with_reducible refine hK _ ?_; clear hK K))))
        refine ⟨_, p53, ?_⟩
        repeat' (first | (with_reducible first | refine Wa ?_ | refine Wb ?_ | refine Wc ?_ | refine Wd ?_ | refine We ?_ | refine Wf ?_ | refine Wg ?_ | refine Wh ?_ | refine Wi ?_ | refine Wj ?_ | refine Wk (by decide) ?_ | refine Wl ?_ | refine Wm ?_ | refine Wn ?_) | ((with_reducible first | refine Wo (fun K hK => ?_) | refine Wq ?_ | refine Wr ?_); (try simp only [go_sem, List.forall_mem_nil, ↓guard_ite, ↓pick_ite, seval, encT_eq, inR_i64, hv0, d5.1, hvar]); (repeat with_reducible refine And.intro (by first | omega | (with_reducible first | exact lens_encT | exact lens_encL | exact lens_encB | exact lens_encP) | (simp; done) | (simp only [List.length_take, List.length_map, List.length_append, maxLen_eq]; omega)) ?_); (try (with_reducible refine hK _ ?_; clear hK K))))
        with_reducible refine Wp ?_
        simp only [go_sem, List.forall_mem_nil, ↓guard_ite, ↓pick_ite, seval, true_implies, false_implies, implies_true, decide_eq_true_eq, decide_eq_false_iff_not, Int.ofNat_lt]
        (try with_reducible refine ite_conj ?_)
        repeat' (first | (with_reducible first | refine Wa ?_ | refine Wb ?_ | refine Wc ?_ | refine Wd ?_ | refine We ?_ | refine Wf ?_ | refine Wg ?_ | refine Wh ?_ | refine Wi ?_ | refine Wj ?_ | refine Wk (by decide) ?_ | refine Wl ?_ | refine Wm ?_ | refine Wn ?_) | ((with_reducible first | refine Wo (fun K hK => ?_) | refine Wq ?_ | refine Wr ?_); (try simp only [go_sem, List.forall_mem_nil, ↓guard_ite, ↓pick_ite, seval, encT_eq, inR_i64, d15.1]); (repeat with_reducible refine And.intro (by first | omega | (with_reducible first | exact lens_encT | exact lens_encL | exact lens_encB | exact lens_encP) | (simp; done) | (simp only [List.length_take, List.length_map, List.length_append, maxLen_eq]; omega)) ?_); (try (with_reducible refine hK _ ?_; clear hK K))))
        refine ⟨_, p15, ?_⟩
        repeat' (first | (with_reducible first | refine Wa ?_ | refine Wb ?_ | refine Wc ?_ | refine Wd ?_ | refine We ?_ | refine Wf ?_ | refine Wg ?_ | refine Wh ?_ | refine Wi ?_ | refine Wj ?_ | refine Wk (by decide) ?_ | refine Wl ?_ | refine Wm ?_ | refine Wn ?_) | ((with_reducible first | refine Wo (fun K hK => ?_) | refine Wq ?_ | refine Wr ?_); (try simp only [go_sem, List.forall_mem_nil, ↓guard_ite, ↓pick_ite, seval, encT_eq, inR_i64, hnm, q15.1]); (repeat with_reducible refine And.intro (by first | omega | (with_reducible first | exact lens_encT | exact lens_encL | exact lens_encB | exact lens_encP) | (simp; done) | (simp only [List.length_take, List.length_map, List.length_append, maxLen_eq]; omega)) ?_); (try (with_reducible refine hK _ ?_; clear hK K))))
        refine ⟨_, leaf_a nm, ?_⟩
        repeat' (first | (with_reducible first | refine Wa ?_ | refine Wb ?_ | refine Wc ?_ | refine Wd ?_ | refine We ?_ | refine Wf ?_ | refine Wg ?_ | refine Wh ?_ | refine Wi ?_ | refine Wj ?_ | refine Wk (by decide) ?_ | refine Wl ?_ | refine Wm ?_ | refine Wn ?_) | ((with_reducible first | refine Wo (fun K hK => ?_) | refine Wq ?_ | refine Wr ?_); (try simp only [go_sem, List.forall_mem_nil, ↓guard_ite, ↓pick_ite, seval, encT_eq, inR_i64]); (repeat with_reducible refine And.intro (by first | omega | (with_reducible first | exact lens_encT | exact lens_encL | exact lens_encB | exact lens_encP) | (simp; done) | (simp only [List.length_take, List.length_map, List.length_append, maxLen_eq]; omega)) ?_); (try (with_reducible refine hK _ ?_; clear hK K))))
        simp only [go_sem, List.forall_mem_nil, ↓guard_ite, ↓pick_ite, seval, FinQ, AS.result, resAll, resOne, tupV]
        simp only [AV.tup.injEq, AV.agg.injEq, AV.one.injEq, AC.st.injEq, SV.int.injEq, SV.str.injEq, SV.bool.injEq, SV.list.injEq, List.cons.injEq, Option.some.injEq, true_and, and_true, eq_self, encT_eq, Tm.args_mk, Tm.name_mk, List.map_cons, List.map_nil, List.map_append, Tm.size, Tm.sizes]
        omega
      · have h5 : x5 < 2 := by omega
        repeat' (first | (with_reducible first | refine Wa ?_ | refine Wb ?_ | refine Wc ?_ | refine Wd ?_ | refine We ?_ | refine Wf ?_ | refine Wg ?_ | refine Wh ?_ | refine Wi ?_ | refine Wj ?_ | refine Wk (by decide) ?_ | refine Wl ?_ | refine Wm ?_ | refine Wn ?_) | refine CallG.mk _ (p5) ?_ | ((with_reducible first | refine Wo (fun K hK => ?_) | refine Wq ?_ | refine Wr ?_); (try simp only [go_sem, List.forall_mem_nil, ↓guard_ite, ↓pick_ite, seval, encT_eq, inR_i64, hm3, h5]); (repeat with_reducible refine And.intro (by first | omega | (with_reducible first | exact lens_encT | exact lens_encL | exact lens_encB | exact lens_encP) | (simp; done) | (simp only [List.length_take, List.length_map, List.length_append, maxLen_eq]; omega)) ?_); (try (with_reducible refine hK _ ?_; clear hK K))))
        with_reducible refine Wp ?_
        simp only [go_sem, List.forall_mem_nil, ↓guard_ite, ↓pick_ite, seval, true_implies, false_implies, implies_true, decide_eq_true_eq, decide_eq_false_iff_not, Int.ofNat_lt]
        (try with_reducible refine ite_conj ?_)
        repeat' (first | (with_reducible first | refine Wa ?_ | refine Wb ?_ | refine Wc ?_ | refine Wd ?_ | refine We ?_ | refine Wf ?_ | refine Wg ?_ | refine Wh ?_ | refine Wi ?_ | refine Wj ?_ | refine Wk (by decide) ?_ | refine Wl ?_ | refine Wm ?_ | refine Wn ?_) | ((with_reducible first | refine Wo (fun K hK => ?_) | refine Wq ?_ | refine Wr ?_); (try simp only [go_sem, List.forall_mem_nil, ↓guard_ite, ↓pick_ite, seval, encT_eq, inR_i64, hv0, d5.1]); (repeat with_reducible refine And.intro (by first | omega | (with_reducible first | exact lens_encT | exact lens_encL | exact lens_encB | exact lens_encP) | (simp; done) | (simp only [List.length_take, List.length_map, List.length_append, maxLen_eq]; omega)) ?_); (try (with_reducible refine hK _ ?_; clear hK K))))
        refine ⟨_, p53, ?_⟩
        repeat' (first | (with_reducible first | refine Wa ?_ | refine Wb ?_ | refine Wc ?_ | refine Wd ?_ | refine We ?_ | refine Wf ?_ | refine Wg ?_ | refine Wh ?_ | refine Wi ?_ | refine Wj ?_ | refine Wk (by decide) ?_ | refine Wl ?_ | refine Wm ?_ | refine Wn ?_) | ((with_reducible first | refine Wo (fun K hK => ?_) | refine Wq ?_ | refine Wr ?_); (try simp only [go_sem, List.forall_mem_nil, ↓guard_ite, ↓pick_ite, seval, encT_eq, inR_i64, hv0, d5.1, hvar]); (repeat with_reducible refine And.intro (by first | omega | (with_reducible first | exact lens_encT | exact lens_encL | exact lens_encB | exact lens_encP) | (simp; done) | (simp only [List.length_take, List.length_map, List.length_append, maxLen_eq]; omega)) ?_); (try (with_reducible refine hK _ ?_; clear hK K))))
        with_reducible refine Wp ?_
        simp only [go_sem, List.forall_mem_nil, ↓guard_ite, ↓pick_ite, seval, true_implies, false_implies, implies_true, decide_eq_true_eq, decide_eq_false_iff_not, Int.ofNat_lt]
        (try with_reducible refine ite_conj ?_)
        repeat' (first | (with_reducible first | refine Wa ?_ | refine Wb ?_ | refine Wc ?_ | refine Wd ?_ | refine We ?_ | refine Wf ?_ | refine Wg ?_ | refine Wh ?_ | refine Wi ?_ | refine Wj ?_ | refine Wk (by decide) ?_ | refine Wl ?_ | refine Wm ?_ | refine Wn ?_) | ((with_reducible first | refine Wo (fun K hK => ?_) | refine Wq ?_ | refine Wr ?_); (try simp only [go_sem, List.forall_mem_nil, ↓guard_ite, ↓pick_ite, seval, encT_eq, inR_i64, d15.1]); (repeat with_reducible refine And.intro (by first | omega | (with_reducible first | exact lens_encT | exact lens_encL | exact lens_encB | exact lens_encP) | (simp; done) | (simp only [List.length_take, List.length_map, List.length_append, maxLen_eq]; omega)) ?_); (try (with_reducible refine hK _ ?_; clear hK K))))
        refine ⟨_, p15, ?_⟩
        repeat' (first | (with_reducible first | refine Wa ?_ | refine Wb ?_ | refine Wc ?_ | refine Wd ?_ | refine We ?_ | refine Wf ?_ | refine Wg ?_ | refine Wh ?_ | refine Wi ?_ | refine Wj ?_ | refine Wk (by decide) ?_ | refine Wl ?_ | refine Wm ?_ | refine Wn ?_) | ((with_reducible first | refine Wo (fun K hK => ?_) | refine Wq ?_ | refine Wr ?_); (try simp only [go_sem, List.forall_mem_nil, ↓guard_ite, ↓pick_ite, seval, encT_eq, inR_i64, hnm, q15.1]); (repeat with_reducible refine And.intro (by first | omega | (with_reducible first | exact lens_encT | exact lens_encL | exact lens_encB | exact lens_encP) | (simp; done) | (simp only [List.length_take, List.length_map, List.length_append, maxLen_eq]; omega)) ?_); (try (with_reducible refine hK _ ?_; clear hK K))))
        refine ⟨_, leaf_a nm, ?_⟩
        repeat' (first | (with_reducible first | refine Wa ?_ | refine Wb ?_ | refine Wc ?_ | refine Wd ?_ | refine We ?_ | refine Wf ?_ | refine Wg ?_ | refine Wh ?_ | refine Wi ?_ | refine Wj ?_ | refine Wk (by decide) ?_ | refine Wl ?_ | refine Wm ?_ | refine Wn ?_) | ((with_reducible first | refine Wo (fun K hK => ?_) | refine Wq ?_ | refine Wr ?_); (try simp only [go_sem, List.forall_mem_nil, ↓guard_ite, ↓pick_ite, seval, encT_eq, inR_i64]); (repeat with_reducible refine And.intro (by first | omega | (with_reducible first | exact lens_encT | exact lens_encL | exact lens_encB | exact lens_encP) | (simp; done) | (simp only [List.length_take, List.length_map, List.length_append, maxLen_eq]; omega)) ?_); (try (with_reducible refine hK _ ?_; clear hK K))))
        simp only [go_sem, List.forall_mem_nil, ↓guard_ite, ↓pick_ite, seval, FinQ, AS.result, resAll, resOne, tupV]
        simp only [AV.tup.injEq, AV.agg.injEq, AV.one.injEq, AC.st.injEq, SV.int.injEq, SV.str.injEq, SV.bool.injEq, SV.list.injEq, List.cons.injEq, Option.some.injEq, true_and, and_true, eq_self, encT_eq, Tm.args_mk, Tm.name_mk, List.map_cons, List.map_nil, List.map_append, Tm.size, Tm.sizes]
        omega
    · obtain ⟨nm, hnm, hch⟩ : ∃ nm, [([.str ⟨#[97]⟩] : List SV), [.str ⟨#[98]⟩], [.str ⟨#[99]⟩]][x153.toNat]? = some [.str nm] ∧ (Tm.mk nm []).chk = 0 := by
        have : x153.toNat = 0 ∨ x153.toNat = 1 ∨ x153.toNat = 2 := by omega
        rcases this with h | h | h <;> rw [h] <;> first | exact ⟨_, rfl, by decide⟩ | exact ⟨_, rfl, by decide, by decide⟩
      refine ⟨.mk nm [], ?_, by simp only [Tm.size, Tm.sizes]; omega, hch⟩
      unfold MadeAt
      refine ac_R_Grow (Nat.le_of_ble_eq_true rfl) fun C hC => ?_
      unfold ir_R_Grow
      repeat' (first | (with_reducible first | refine Wa ?_ | refine Wb ?_ | refine Wc ?_ | refine Wd ?_ | refine We ?_ | refine Wf ?_ | refine Wg ?_ | refine Wh ?_ | refine Wi ?_ | refine Wj ?_ | refine Wk (by decide) ?_ | refine Wl ?_ | refine Wm ?_ | refine Wn ?_) | ((with_reducible first | refine Wo (fun K hK => ?_) | refine Wq ?_ | refine Wr ?_); (try simp only [go_sem, List.forall_mem_nil, ↓guard_ite, ↓pick_ite, seval, encT_eq, inR_i64]); (repeat with_reducible refine And.intro (by first | omega | (with_reducible first | exact lens_encT | exact lens_encL | exact lens_encB | exact lens_encP) | (simp; done) | (simp only [List.length_take, List.length_map, List.length_append, maxLen_eq]; omega)) ?_); (try (with_reducible refine hK _ ?_; clear hK K))))
      refine ⟨_, hraw, ?_⟩
      by_cases hm3 : (most : Int) < 3
      · repeat' (first | (with_reducible first | refine Wa ?_ | refine Wb ?_ | refine Wc ?_ | refine Wd ?_ | refine We ?_ | refine Wf ?_ | refine Wg ?_ | refine Wh ?_ | refine Wi ?_ | refine Wj ?_ | refine Wk (by decide) ?_ | refine Wl ?_ | refine Wm ?_ | refine Wn ?_) | ((with_reducible first | refine Wo (fun K hK => ?_) | refine Wq ?_ | refine Wr ?_); (try simp only [go_sem, List.forall_mem_nil, ↓guard_ite, ↓pick_ite, seval, encT_eq, inR_i64, hm3]); (repeat with_reducible refine And.intro (by first | omega | (with_reducible first | exact lens_encT | exact lens_encL | exact lens_encB | exact lens_encP) | (simp; done) | (simp only [List.length_take, List.length_map, List.length_append, maxLen_eq]; omega)) ?_); (try (with_reducible refine hK _ ?_; clear hK K))))
        with_reducible refine Wp ?_
        simp only [go_sem, List.forall_mem_nil, ↓guard_ite, ↓pick_ite, seval, true_implies, false_implies, implies_true, decide_eq_true_eq, decide_eq_false_iff_not, Int.ofNat_lt]
        (try with_reducible refine ite_conj ?_)
        repeat' (first | (with_reducible first | refine Wa ?_ | refine Wb ?_ | refine Wc ?_ | refine Wd ?_ | refine We ?_ | refine Wf ?_ | refine Wg ?_ | refine Wh ?_ | refine Wi ?_ | refine Wj ?_ | refine Wk (by decide) ?_ | refine Wl ?_ | refine Wm ?_ | refine Wn ?_) | ((with_reducible first | refine Wo (fun K hK => ?_) | refine Wq ?_ | refine Wr ?_); (try simp only [go_sem, List.forall_mem_nil, ↓guard_ite, ↓pick_ite, seval, encT_eq, inR_i64, hv0, d5.1]); (repeat with_reducible refine And.intro (by first | omega | (with_reducible first | exact lens_encT | exact lens_encL | exact lens_encB | exact lens_encP) | (simp; done) | (simp only [List.length_take, List.length_map, List.length_append, maxLen_eq]; omega)) ?_); (try (with_reducible refine hK _ ?_; clear hK K))))
        refine ⟨_, p53, ?_⟩
        repeat' (first | (with_reducible first | refine Wa ?_ | refine Wb ?_ | refine Wc ?_ | refine Wd ?_ | refine We ?_ | refine Wf ?_ | refine Wg ?_ | refine Wh ?_ | refine Wi ?_ | refine Wj ?_ | refine Wk (by decide) ?_ | refine Wl ?_ | refine Wm ?_ | refine Wn ?_) | ((with_reducible first | refine Wo (fun K hK => ?_) | refine Wq ?_ | refine Wr ?_); (try simp only [go_sem, List.forall_mem_nil, ↓guard_ite, ↓pick_ite, seval, encT_eq, inR_i64, hv0, d5.1, hvar]); (repeat with_reducible refine And.intro (by first | omega | (with_reducible first | exact lens_encT | exact lens_encL | exact lens_encB | exact lens_encP) | (simp; done) | (simp only [List.length_take, List.length_map, List.length_append, maxLen_eq]; omega)) ?_); (try (with_reducible refine hK _ ?_; clear hK K))))
        with_reducible refine Wp ?_
        simp only [go_sem, List.forall_mem_nil, ↓guard_ite, ↓pick_ite, seval, true_implies, false_implies, implies_true, decide_eq_true_eq, decide_eq_false_iff_not, Int.ofNat_lt]
        (try with_reducible refine ite_conj ?_)
        repeat' (first | (with_reducible first | refine Wa ?_ | refine Wb ?_ | refine Wc ?_ | refine Wd ?_ | refine We ?_ | refine Wf ?_ | refine Wg ?_ | refine Wh ?_ | refine Wi ?_ | refine Wj ?_ | refine Wk (by decide) ?_ | refine Wl ?_ | refine Wm ?_ | refine Wn ?_) | ((with_reducible first | refine Wo (fun K hK => ?_) | refine Wq ?_ | refine Wr ?_); (try simp only [go_sem, List.forall_mem_nil, ↓guard_ite, ↓pick_ite, seval, encT_eq, inR_i64, d15.1]); (repeat with_reducible refine And.intro (by first | omega | (with_reducible first | exact lens_encT | exact lens_encL | exact lens_encB | exact lens_encP) | (simp; done) | (simp only [List.length_take, List.length_map, List.length_append, maxLen_eq]; omega)) ?_); (try (with_reducible refine hK _ ?_; clear hK K))))
        refine ⟨_, p153, ?_⟩
        repeat' (first | (with_reducible first | refine Wa ?_ | refine Wb ?_ | refine Wc ?_ | refine Wd ?_ | refine We ?_ | refine Wf ?_ | refine Wg ?_ | refine Wh ?_ | refine Wi ?_ | refine Wj ?_ | refine Wk (by decide) ?_ | refine Wl ?_ | refine Wm ?_ | refine Wn ?_) | ((with_reducible first | refine Wo (fun K hK => ?_) | refine Wq ?_ | refine Wr ?_); (try simp only [go_sem, List.forall_mem_nil, ↓guard_ite, ↓pick_ite, seval, encT_eq, inR_i64, hnm, q153.1]); (repeat with_reducible refine And.intro (by first | omega | (with_reducible first | exact lens_encT | exact lens_encL | exact lens_encB | exact lens_encP) | (simp; done) | (simp only [List.length_take, List.length_map, List.length_append, maxLen_eq]; omega)) ?_); (try (with_reducible refine hK _ ?_; clear hK K))))
        refine ⟨_, leaf_a nm, ?_⟩
        repeat' (first | (with_reducible first | refine Wa ?_ | refine Wb ?_ | refine Wc ?_ | refine Wd ?_ | refine We ?_ | refine Wf ?_ | refine Wg ?_ | refine Wh ?_ | refine Wi ?_ | refine Wj ?_ | refine Wk (by decide) ?_ | refine Wl ?_ | refine Wm ?_ | refine Wn ?_) | ((with_reducible first | refine Wo (fun K hK => ?_) | refine Wq ?_ | refine Wr ?_); (try simp only [go_sem, List.forall_mem_nil, ↓guard_ite, ↓pick_ite, seval, encT_eq, inR_i64]); (repeat with_reducible refine And.intro (by first | omega | (with_reducible first | exact lens_encT | exact lens_encL | exact lens_encB | exact lens_encP) | (simp; done) | (simp only [List.length_take, List.length_map, List.length_append, maxLen_eq]; omega)) ?_); (try (with_reducible refine hK _ ?_; clear hK K))))
        simp only [go_sem, List.forall_mem_nil, ↓guard_ite, ↓pick_ite, seval, FinQ, AS.result, resAll, resOne, tupV]
        simp only [AV.tup.injEq, AV.agg.injEq, AV.one.injEq, AC.st.injEq, SV.int.injEq, SV.str.injEq, SV.bool.injEq, SV.list.injEq, List.cons.injEq, Option.some.injEq, true_and, and_true, eq_self, encT_eq, Tm.args_mk, Tm.name_mk, List.map_cons, List.map_nil, List.map_append, Tm.size, Tm.sizes]
        omega
      · have h5 : x5 < 2 := by omega
        repeat' (first | (with_reducible first | refine Wa ?_ | refine Wb ?_ | refine Wc ?_ | refine Wd ?_ | refine We ?_ | refine Wf ?_ | refine Wg ?_ | refine Wh ?_ | refine Wi ?_ | refine Wj ?_ | refine Wk (by decide) ?_ | refine Wl ?_ | refine Wm ?_ | refine Wn ?_) | refine CallG.mk _ (p5) ?_ | ((with_reducible first | refine Wo (fun K hK => ?_) | refine Wq ?_ | refine Wr ?_); (try simp only [go_sem, List.forall_mem_nil, ↓guard_ite, ↓pick_ite, seval, encT_eq, inR_i64, hm3, h5]); (repeat with_reducible refine And.intro (by first | omega | (with_reducible first | exact lens_encT | exact lens_encL | exact lens_encB | exact lens_encP) | (simp; done) | (simp only [List.length_take, List.length_map, List.length_append, maxLen_eq]; omega)) ?_); (try (with_reducible refine hK _ ?_; clear hK K))))
        with_reducible refine Wp ?_
        simp only [go_sem, List.forall_mem_nil, ↓guard_ite, ↓pick_ite, seval, true_implies, false_implies, implies_true, decide_eq_true_eq, decide_eq_false_iff_not, Int.ofNat_lt]
        (try with_reducible refine ite_conj ?_)
        repeat' (first | (with_reducible first | refine Wa ?_ | refine Wb ?_ | refine Wc ?_ | refine Wd ?_ | refine We ?_ | refine Wf ?_ | refine Wg ?_ | refine Wh ?_ | refine Wi ?_ | refine Wj ?_ | refine Wk (by decide) ?_ | refine Wl ?_ | refine Wm ?_ | refine Wn ?_) | ((with_reducible first | refine Wo (fun K hK => ?_) | refine Wq ?_ | refine Wr ?_); (try simp only [go_sem, List.forall_mem_nil, ↓guard_ite, ↓pick_ite, seval, encT_eq, inR_i64, hv0, d5.1]); (repeat with_reducible refine And.intro (by first | omega | (with_reducible first | exact lens_encT | exact lens_encL | exact lens_encB | exact lens_encP) | (simp; done) | (simp only [List.length_take, List.length_map, List.length_append, maxLen_eq]; omega)) ?_); (try (with_reducible refine hK _ ?_; clear hK K))))
        refine ⟨_, p53, ?_⟩
        repeat' (first | (with_reducible first | refine Wa ?_ | refine Wb ?_ | refine Wc ?_ | refine Wd ?_ | refine We ?_ | refine Wf ?_ | refine Wg ?_ | refine Wh ?_ | refine Wi ?_ | refine Wj ?_ | refine Wk (by decide) ?_ | refine Wl ?_ | refine Wm ?_ | refine Wn ?_) | ((with_reducible first | refine Wo (fun K hK => ?_) | refine Wq ?_ | refine Wr ?_); (try simp only [go_sem, List.forall_mem_nil, ↓guard_ite, ↓pick_ite, seval, encT_eq, inR_i64, hv0, d5.1, hvar]); (repeat with_reducible refine And.intro (by first | omega | (with_reducible first | exact lens_encT | exact lens_encL | exact lens_encB | exact lens_encP) | (simp; done) | (simp only [List.length_take, List.length_map, List.length_append, maxLen_eq]; omega)) ?_); (try (with_reducible refine hK _ ?_; clear hK K))))
        with_reducible refine Wp ?_
        simp only [go_sem, List.forall_mem_nil, ↓guard_ite, ↓pick_ite, seval, true_implies, false_implies, implies_true, decide_eq_true_eq, decide_eq_false_iff_not, Int.ofNat_lt]
        (try with_reducible refine ite_conj ?_)
        repeat' (first | (with_reducible first | refine Wa ?_ | refine Wb ?_ | refine Wc ?_ | refine Wd ?_ | refine We ?_ | refine Wf ?_ | refine Wg ?_ | refine Wh ?_ | refine Wi ?_ | refine Wj ?_ | refine Wk (by decide) ?_ | refine Wl ?_ | refine Wm ?_ | refine Wn ?_) | ((with_reducible first | refine Wo (fun K hK => ?_) | refine Wq ?_ | refine Wr ?_); (try simp only [go_sem, List.forall_mem_nil, ↓guard_ite, ↓pick_ite, seval, encT_eq, inR_i64, d15.1]); (repeat with_reducible refine And.intro (by first | omega | (with_reducible first | exact lens_encT | exact lens_encL | exact lens_encB | exact lens_encP) | (simp; done) | (simp only [List.length_take, List.length_map, List.length_append, maxLen_eq]; omega)) ?_); (try (with_reducible refine hK _ ?_; clear hK K))))
        refine ⟨_, p153, ?_⟩
        repeat' (first | (with_reducible first | refine Wa ?_ | refine Wb ?_ | refine Wc ?_ | refine Wd ?_ | refine We ?_ | refine Wf ?_ | refine Wg ?_ | refine Wh ?_ | refine Wi ?_ | refine Wj ?_ | refine Wk (by decide) ?_ | refine Wl ?_ | refine Wm ?_ | refine Wn ?_) | ((with_reducible first | refine Wo (fun K hK => ?_) | refine Wq ?_ | refine Wr ?_); (try simp only [go_sem, List.forall_mem_nil, ↓guard_ite, ↓pick_ite, seval, encT_eq, inR_i64, hnm, q153.1]); (repeat with_reducible refine And.intro (by first | omega | (with_reducible first | exact lens_encT | exact lens_encL | exact lens_encB | exact lens_encP) | (simp; done) | (simp only [List.length_take, List.length_map, List.length_append, maxLen_eq]; omega)) ?_); (try (with_reducible refine hK _ ?_; clear hK K))))
        refine ⟨_, leaf_a nm, ?_⟩
        repeat' (first | (with_reducible first | refine Wa ?_ | refine Wb ?_ | refine Wc ?_ | refine Wd ?_ | refine We ?_ | refine Wf ?_ | refine Wg ?_ | refine Wh ?_ | refine Wi ?_ | refine Wj ?_ | refine Wk (by decide) ?_ | refine Wl ?_ | refine Wm ?_ | refine Wn ?_) | ((with_reducible first | refine Wo (fun K hK => ?_) | refine Wq ?_ | refine Wr ?_); (try simp only [go_sem, List.forall_mem_nil, ↓guard_ite, ↓pick_ite, seval, encT_eq, inR_i64]); (repeat with_reducible refine And.intro (by first | omega | (with_reducible first | exact lens_encT | exact lens_encL | exact lens_encB | exact lens_encP) | (simp; done) | (simp only [List.length_take, List.length_map, List.length_append, maxLen_eq]; omega)) ?_); (try (with_reducible refine hK _ ?_; clear hK K))))
        simp only [go_sem, List.forall_mem_nil, ↓guard_ite, ↓pick_ite, seval, FinQ, AS.result, resAll, resOne, tupV]
        simp only [AV.tup.injEq, AV.agg.injEq, AV.one.injEq, AC.st.injEq, SV.int.injEq, SV.str.injEq, SV.bool.injEq, SV.list.injEq, List.cons.injEq, Option.some.injEq, true_and, and_true, eq_self, encT_eq, Tm.args_mk, Tm.name_mk, List.map_cons, List.map_nil, List.map_append, Tm.size, Tm.sizes]
        omega
  · have hm3 : ¬ (most : Int) < 3 := by omega
    have h5 : ¬ x5 < 2 := by omega
    by_cases h0 : x54 = 0
    · obtain ⟨t, ht, hs, hc1⟩ := ih (most - 1) (by omega) (at_ + 1) (by omega) (by omega)
      unfold MadeAt at ht
      rw [show (((at_ + 1 : Nat) : Int)) = (at_ : Int) + 1 by omega, show (((most - 1 : Nat) : Int)) = (most : Int) - 1 by omega] at ht
      refine ⟨.mk ⟨#[104]⟩ [t], ?_, by simp only [Tm.size, Tm.sizes]; omega, chk_knot (by decide) (by decide) (by simp [hc1])⟩
      unfold MadeAt
      subst h0
      refine ac_R_Grow (Nat.le_of_ble_eq_true rfl) fun C hC => ?_
      unfold ir_R_Grow
      repeat' (first | (with_reducible first | refine Wa ?_ | refine Wb ?_ | refine Wc ?_ | refine Wd ?_ | refine We ?_ | refine Wf ?_ | refine Wg ?_ | refine Wh ?_ | refine Wi ?_ | refine Wj ?_ | refine Wk (by decide) ?_ | refine Wl ?_ | refine Wm ?_ | refine Wn ?_) | ((with_reducible first | refine Wo (fun K hK => ?_) | refine Wq ?_ | refine Wr ?_); (try simp only [go_sem, List.forall_mem_nil, ↓guard_ite, ↓pick_ite, seval, encT_eq, inR_i64]); (repeat with_reducible refine And.intro (by first | omega | (with_reducible first | exact lens_encT | exact lens_encL | exact lens_encB | exact lens_encP) | (simp; done) | (simp only [List.length_take, List.length_map, List.length_append, maxLen_eq]; omega)) ?_); (try (with_reducible refine hK _ ?_; clear hK K))))
      refine ⟨_, hraw, ?_⟩
      repeat' (first | (with_reducible first | refine Wa ?_ | refine Wb ?_ | refine Wc ?_ | refine Wd ?_ | refine We ?_ | refine Wf ?_ | refine Wg ?_ | refine Wh ?_ | refine Wi ?_ | refine Wj ?_ | refine Wk (by decide) ?_ | refine Wl ?_ | refine Wm ?_ | refine Wn ?_) | ((with_reducible first | refine Wo (fun K hK => ?_) | refine Wq ?_ | refine Wr ?_); (try simp only [go_sem, List.forall_mem_nil, ↓guard_ite, ↓pick_ite, seval, encT_eq, inR_i64, hm3]); (repeat with_reducible refine And.intro (by first | omega | (with_reducible first | exact lens_encT | exact lens_encL | exact lens_encB | exact lens_encP) | (simp; done) | (simp only [List.length_take, List.length_map, List.length_append, maxLen_eq]; omega)) ?_); (try (with_reducible refine hK _ ?_; clear hK K))))
      refine ⟨_, p5, ?_⟩
      repeat' (first | (with_reducible first | refine Wa ?_ | refine Wb ?_ | refine Wc ?_ | refine Wd ?_ | refine We ?_ | refine Wf ?_ | refine Wg ?_ | refine Wh ?_ | refine Wi ?_ | refine Wj ?_ | refine Wk (by decide) ?_ | refine Wl ?_ | refine Wm ?_ | refine Wn ?_) | ((with_reducible first | refine Wo (fun K hK => ?_) | refine Wq ?_ | refine Wr ?_); (try simp only [go_sem, List.forall_mem_nil, ↓guard_ite, ↓pick_ite, seval, encT_eq, inR_i64, h5]); (repeat with_reducible refine And.intro (by first | omega | (with_reducible first | exact lens_encT | exact lens_encL | exact lens_encB | exact lens_encP) | (simp; done) | (simp only [List.length_take, List.length_map, List.length_append, maxLen_eq]; omega)) ?_); (try (with_reducible refine hK _ ?_; clear hK K))))
      with_reducible refine Wp ?_
      simp only [go_sem, List.forall_mem_nil, ↓guard_ite, ↓pick_ite, seval, true_implies, false_implies, implies_true, decide_eq_true_eq, decide_eq_false_iff_not, Int.ofNat_lt]
      (try with_reducible refine ite_conj ?_)
      repeat' (first | (with_reducible first | refine Wa ?_ | refine Wb ?_ | refine Wc ?_ | refine Wd ?_ | refine We ?_ | refine Wf ?_ | refine Wg ?_ | refine Wh ?_ | refine Wi ?_ | refine Wj ?_ | refine Wk (by decide) ?_ | refine Wl ?_ | refine Wm ?_ | refine Wn ?_) | ((with_reducible first | refine Wo (fun K hK => ?_) | refine Wq ?_ | refine Wr ?_); (try simp only [go_sem, List.forall_mem_nil, ↓guard_ite, ↓pick_ite, seval, encT_eq, inR_i64, d5.1]); (repeat with_reducible refine And.intro (by first | omega | (with_reducible first | exact lens_encT | exact lens_encL | exact lens_encB | exact lens_encP) | (simp; done) | (simp only [List.length_take, List.length_map, List.length_append, maxLen_eq]; omega)) ?_); (try (with_reducible refine hK _ ?_; clear hK K))))
      refine ⟨_, p54, ?_⟩
      repeat' (first | (with_reducible first | refine Wa ?_ | refine Wb ?_ | refine Wc ?_ | refine Wd ?_ | refine We ?_ | refine Wf ?_ | refine Wg ?_ | refine Wh ?_ | refine Wi ?_ | refine Wj ?_ | refine Wk (by decide) ?_ | refine Wl ?_ | refine Wm ?_ | refine Wn ?_) | ((with_reducible first | refine Wo (fun K hK => ?_) | refine Wq ?_ | refine Wr ?_); (try simp only [go_sem, List.forall_mem_nil, ↓guard_ite, ↓pick_ite, seval, encT_eq, inR_i64]); (repeat with_reducible refine And.intro (by first | omega | (with_reducible first | exact lens_encT | exact lens_encL | exact lens_encB | exact lens_encP) | (simp; done) | (simp only [List.length_take, List.length_map, List.length_append, maxLen_eq]; omega)) ?_); (try (with_reducible refine hK _ ?_; clear hK K))))
      with_reducible refine Wp ?_
      simp only [go_sem, List.forall_mem_nil, ↓guard_ite, ↓pick_ite, seval, true_implies, false_implies, implies_true, decide_eq_true_eq, decide_eq_false_iff_not, Int.ofNat_lt]
      (try with_reducible refine ite_conj ?_)
      repeat' (first | (with_reducible first | refine Wa ?_ | refine Wb ?_ | refine Wc ?_ | refine Wd ?_ | refine We ?_ | refine Wf ?_ | refine Wg ?_ | refine Wh ?_ | refine Wi ?_ | refine Wj ?_ | refine Wk (by decide) ?_ | refine Wl ?_ | refine Wm ?_ | refine Wn ?_) | ((with_reducible first | refine Wo (fun K hK => ?_) | refine Wq ?_ | refine Wr ?_); (try simp only [go_sem, List.forall_mem_nil, ↓guard_ite, ↓pick_ite, seval, encT_eq, inR_i64]); (repeat with_reducible refine And.intro (by first | omega | (with_reducible first | exact lens_encT | exact lens_encL | exact lens_encB | exact lens_encP) | (simp; done) | (simp only [List.length_take, List.length_map, List.length_append, maxLen_eq]; omega)) ?_); (try (with_reducible refine hK _ ?_; clear hK K))))
      refine ⟨_, ht, ?_⟩
      repeat' (first | (with_reducible first | refine Wa ?_ | refine Wb ?_ | refine Wc ?_ | refine Wd ?_ | refine We ?_ | refine Wf ?_ | refine Wg ?_ | refine Wh ?_ | refine Wi ?_ | refine Wj ?_ | refine Wk (by decide) ?_ | refine Wl ?_ | refine Wm ?_ | refine Wn ?_) | ((with_reducible first | refine Wo (fun K hK => ?_) | refine Wq ?_ | refine Wr ?_); (try simp only [go_sem, List.forall_mem_nil, ↓guard_ite, ↓pick_ite, seval, encT_eq, inR_i64]); (repeat with_reducible refine And.intro (by first | omega | (with_reducible first | exact lens_encT | exact lens_encL | exact lens_encB | exact lens_encP) | (simp; done) | (simp only [List.length_take, List.length_map, List.length_append, maxLen_eq]; omega)) ?_); (try (with_reducible refine hK _ ?_; clear hK K))))
      simp only [go_sem, List.forall_mem_nil, ↓guard_ite, ↓pick_ite, seval, FinQ, AS.result, resAll, resOne, tupV]
      simp only [AV.tup.injEq, AV.agg.injEq, AV.one.injEq, AC.st.injEq, SV.int.injEq, SV.str.injEq, SV.bool.injEq, SV.list.injEq, List.cons.injEq, Option.some.injEq, true_and, and_true, eq_self, encT_eq, Tm.args_mk, Tm.name_mk, List.map_cons, List.map_nil, List.map_append, Tm.size, Tm.sizes]
      omega
    by_cases h1 : x54 = 1
    · obtain ⟨t, ht, hs, hc1⟩ := ih (most - 1) (by omega) (at_ + 1) (by omega) (by omega)
      unfold MadeAt at ht
      rw [show (((at_ + 1 : Nat) : Int)) = (at_ : Int) + 1 by omega, show (((most - 1 : Nat) : Int)) = (most : Int) - 1 by omega] at ht
      refine ⟨.mk ⟨#[107]⟩ [t], ?_, by simp only [Tm.size, Tm.sizes]; omega, chk_knot (by decide) (by decide) (by simp [hc1])⟩
      unfold MadeAt
      subst h1
      refine ac_R_Grow (Nat.le_of_ble_eq_true rfl) fun C hC => ?_
      unfold ir_R_Grow
      repeat' (first | (with_reducible first | refine Wa ?_ | refine Wb ?_ | refine Wc ?_ | refine Wd ?_ | refine We ?_ | refine Wf ?_ | refine Wg ?_ | refine Wh ?_ | refine Wi ?_ | refine Wj ?_ | refine Wk (by decide) ?_ | refine Wl ?_ | refine Wm ?_ | refine Wn ?_) | ((with_reducible first | refine Wo (fun K hK => ?_) | refine Wq ?_ | refine Wr ?_); (try simp only [go_sem, List.forall_mem_nil, ↓guard_ite, ↓pick_ite, seval, encT_eq, inR_i64]); (repeat with_reducible refine And.intro (by first | omega | (with_reducible first | exact lens_encT | exact lens_encL | exact lens_encB | exact lens_encP) | (simp; done) | (simp only [List.length_take, List.length_map, List.length_append, maxLen_eq]; omega)) ?_); (try (with_reducible refine hK _ ?_; clear hK K))))
      refine ⟨_, hraw, ?_⟩
      repeat' (first | (with_reducible first | refine Wa ?_ | refine Wb ?_ | refine Wc ?_ | refine Wd ?_ | refine We ?_ | refine Wf ?_ | refine Wg ?_ | refine Wh ?_ | refine Wi ?_ | refine Wj ?_ | refine Wk (by decide) ?_ | refine Wl ?_ | refine Wm ?_ | refine Wn ?_) | ((with_reducible first | refine Wo (fun K hK => ?_) | refine Wq ?_ | refine Wr ?_); (try simp only [go_sem, List.forall_mem_nil, ↓guard_ite, ↓pick_ite, seval, encT_eq, inR_i64, hm3]); (repeat with_reducible refine And.intro (by first | omega | (with_reducible first | exact lens_encT | exact lens_encL | exact lens_encB | exact lens_encP) | (simp; done) | (simp only [List.length_take, List.length_map, List.length_append, maxLen_eq]; omega)) ?_); (try (with_reducible refine hK _ ?_; clear hK K))))
      refine ⟨_, p5, ?_⟩
      repeat' (first | (with_reducible first | refine Wa ?_ | refine Wb ?_ | refine Wc ?_ | refine Wd ?_ | refine We ?_ | refine Wf ?_ | refine Wg ?_ | refine Wh ?_ | refine Wi ?_ | refine Wj ?_ | refine Wk (by decide) ?_ | refine Wl ?_ | refine Wm ?_ | refine Wn ?_) | ((with_reducible first | refine Wo (fun K hK => ?_) | refine Wq ?_ | refine Wr ?_); (try simp only [go_sem, List.forall_mem_nil, ↓guard_ite, ↓pick_ite, seval, encT_eq, inR_i64, h5]); (repeat with_reducible refine And.intro (by first | omega | (with_reducible first | exact lens_encT | exact lens_encL | exact lens_encB | exact lens_encP) | (simp; done) | (simp only [List.length_take, List.length_map, List.length_append, maxLen_eq]; omega)) ?_); (try (with_reducible refine hK _ ?_; clear hK K))))
      with_reducible refine Wp ?_
      simp only [go_sem, List.forall_mem_nil, ↓guard_ite, ↓pick_ite, seval, true_implies, false_implies, implies_true, decide_eq_true_eq, decide_eq_false_iff_not, Int.ofNat_lt]
      (try with_reducible refine ite_conj ?_)
      repeat' (first | (with_reducible first | refine Wa ?_ | refine Wb ?_ | refine Wc ?_ | refine Wd ?_ | refine We ?_ | refine Wf ?_ | refine Wg ?_ | refine Wh ?_ | refine Wi ?_ | refine Wj ?_ | refine Wk (by decide) ?_ | refine Wl ?_ | refine Wm ?_ | refine Wn ?_) | ((with_reducible first | refine Wo (fun K hK => ?_) | refine Wq ?_ | refine Wr ?_); (try simp only [go_sem, List.forall_mem_nil, ↓guard_ite, ↓pick_ite, seval, encT_eq, inR_i64, d5.1]); (repeat with_reducible refine And.intro (by first | omega | (with_reducible first | exact lens_encT | exact lens_encL | exact lens_encB | exact lens_encP) | (simp; done) | (simp only [List.length_take, List.length_map, List.length_append, maxLen_eq]; omega)) ?_); (try (with_reducible refine hK _ ?_; clear hK K))))
      refine ⟨_, p54, ?_⟩
      repeat' (first | (with_reducible first | refine Wa ?_ | refine Wb ?_ | refine Wc ?_ | refine Wd ?_ | refine We ?_ | refine Wf ?_ | refine Wg ?_ | refine Wh ?_ | refine Wi ?_ | refine Wj ?_ | refine Wk (by decide) ?_ | refine Wl ?_ | refine Wm ?_ | refine Wn ?_) | ((with_reducible first | refine Wo (fun K hK => ?_) | refine Wq ?_ | refine Wr ?_); (try simp only [go_sem, List.forall_mem_nil, ↓guard_ite, ↓pick_ite, seval, encT_eq, inR_i64]); (repeat with_reducible refine And.intro (by first | omega | (with_reducible first | exact lens_encT | exact lens_encL | exact lens_encB | exact lens_encP) | (simp; done) | (simp only [List.length_take, List.length_map, List.length_append, maxLen_eq]; omega)) ?_); (try (with_reducible refine hK _ ?_; clear hK K))))
      with_reducible refine Wp ?_
      simp only [go_sem, List.forall_mem_nil, ↓guard_ite, ↓pick_ite, seval, true_implies, false_implies, implies_true, decide_eq_true_eq, decide_eq_false_iff_not, Int.ofNat_lt]
      (try with_reducible refine ite_conj ?_)
      repeat' (first | (with_reducible first | refine Wa ?_ | refine Wb ?_ | refine Wc ?_ | refine Wd ?_ | refine We ?_ | refine Wf ?_ | refine Wg ?_ | refine Wh ?_ | refine Wi ?_ | refine Wj ?_ | refine Wk (by decide) ?_ | refine Wl ?_ | refine Wm ?_ | refine Wn ?_) | ((with_reducible first | refine Wo (fun K hK => ?_) | refine Wq ?_ | refine Wr ?_); (try simp only [go_sem, List.forall_mem_nil, ↓guard_ite, ↓pick_ite, seval, encT_eq, inR_i64]); (repeat with_reducible refine And.intro (by first | omega | (with_reducible first | exact lens_encT | exact lens_encL | exact lens_encB | exact lens_encP) | (simp; done) | (simp only [List.length_take, List.length_map, List.length_append, maxLen_eq]; omega)) ?_); (try (with_reducible refine hK _ ?_; clear hK K))))
      with_reducible refine Wp ?_
      simp only [go_sem, List.forall_mem_nil, ↓guard_ite, ↓pick_ite, seval, true_implies, false_implies, implies_true, decide_eq_true_eq, decide_eq_false_iff_not, Int.ofNat_lt]
      (try with_reducible refine ite_conj ?_)
      repeat' (first | (with_reducible first | refine Wa ?_ | refine Wb ?_ | refine Wc ?_ | refine Wd ?_ | refine We ?_ | refine Wf ?_ | refine Wg ?_ | refine Wh ?_ | refine Wi ?_ | refine Wj ?_ | refine Wk (by decide) ?_ | refine Wl ?_ | refine Wm ?_ | refine Wn ?_) | refine CallG.mk _ (ht) ?_ | ((with_reducible first | refine Wo (fun K hK => ?_) | refine Wq ?_ | refine Wr ?_); (try simp only [go_sem, List.forall_mem_nil, ↓guard_ite, ↓pick_ite, seval, encT_eq, inR_i64]); (repeat with_reducible refine And.intro (by first | omega | (with_reducible first | exact lens_encT | exact lens_encL | exact lens_encB | exact lens_encP) | (simp; done) | (simp only [List.length_take, List.length_map, List.length_append, maxLen_eq]; omega)) ?_); (try (with_reducible refine hK _ ?_; clear hK K))))
      simp only [go_sem, List.forall_mem_nil, ↓guard_ite, ↓pick_ite, seval, FinQ, AS.result, resAll, resOne, tupV]
      simp only [AV.tup.injEq, AV.agg.injEq, AV.one.injEq, AC.st.injEq, SV.int.injEq, SV.str.injEq, SV.bool.injEq, SV.list.injEq, List.cons.injEq, Option.some.injEq, true_and, and_true, eq_self, encT_eq, Tm.args_mk, Tm.name_mk, List.map_cons, List.map_nil, List.map_append, Tm.size, Tm.sizes]
      omega
    have d2 := tdiv_range (x := (most : Int)) (n := 2) (by omega) (by omega)
    have e2 : (most : Int) / 2 = ((most / 2 : Nat) : Int) := by omega
    obtain ⟨t, ht, hs, hc1⟩ := ih (most / 2) (by omega) (at_ + 1) (by omega) (by omega)
    obtain ⟨u, hu, hs', hc2⟩ := ih (most / 2) (by omega) (at_ + 1 + t.size) (by omega) (by omega)
    obtain ⟨nm, hnm, hok, hnv⟩ : ∃ nm, [([.str ⟨#[102]⟩] : List SV), [.str ⟨#[103]⟩]][(x54 - 2).toNat]? = some [.str nm] ∧ nameOk nm = true ∧ isVar nm = false := by
      have : (x54 - 2).toNat = 0 ∨ (x54 - 2).toNat = 1 := by omega
      rcases this with h | h <;> rw [h] <;> first | exact ⟨_, rfl, by decide⟩ | exact ⟨_, rfl, by decide, by decide⟩
    refine ⟨.mk nm [t, u], ?_, by simp only [Tm.size, Tm.sizes]; omega, chk_knot hok hnv (by simp [hc1, hc2])⟩
    unfold MadeAt at ht hu ⊢
    rw [show (((at_ + 1 : Nat) : Int)) = (at_ : Int) + 1 by omega] at ht
    refine ac_R_Grow (Nat.le_of_ble_eq_true rfl) fun C hC => ?_
    unfold ir_R_Grow
    repeat' (first | (with_reducible first | refine Wa ?_ | refine Wb ?_ | refine Wc ?_ | refine Wd ?_ | refine We ?_ | refine Wf ?_ | refine Wg ?_ | refine Wh ?_ | refine Wi ?_ | refine Wj ?_ | refine Wk (by decide) ?_ | refine Wl ?_ | refine Wm ?_ | refine Wn ?_) | ((with_reducible first | refine Wo (fun K hK => ?_) | refine Wq ?_ | refine Wr ?_); (try simp only [go_sem, List.forall_mem_nil, ↓guard_ite, ↓pick_ite, seval, encT_eq, inR_i64]); (repeat with_reducible refine And.intro (by first | omega | (with_reducible first | exact lens_encT | exact lens_encL | exact lens_encB | exact lens_encP) | (simp; done) | (simp only [List.length_take, List.length_map, List.length_append, maxLen_eq]; omega)) ?_); (try (with_reducible refine hK _ ?_; clear hK K))))
    refine ⟨_, hraw, ?_⟩
    repeat' (first | (with_reducible first | refine Wa ?_ | refine Wb ?_ | refine Wc ?_ | refine Wd ?_ | refine We ?_ | refine Wf ?_ | refine Wg ?_ | refine Wh ?_ | refine Wi ?_ | refine Wj ?_ | refine Wk (by decide) ?_ | refine Wl ?_ | refine Wm ?_ | refine Wn ?_) | ((with_reducible first | refine Wo (fun K hK => ?_) | refine Wq ?_ | refine Wr ?_); (try simp only [go_sem, List.forall_mem_nil, ↓guard_ite, ↓pick_ite, seval, encT_eq, inR_i64, hm3]); (repeat with_reducible refine And.intro (by first | omega | (with_reducible first | exact lens_encT | exact lens_encL | exact lens_encB | exact lens_encP) | (simp; done) | (simp only [List.length_take, List.length_map, List.length_append, maxLen_eq]; omega)) ?_); (try (with_reducible refine hK _ ?_; clear hK K))))
    refine ⟨_, p5, ?_⟩
    repeat' (first | (with_reducible first | refine Wa ?_ | refine Wb ?_ | refine Wc ?_ | refine Wd ?_ | refine We ?_ | refine Wf ?_ | refine Wg ?_ | refine Wh ?_ | refine Wi ?_ | refine Wj ?_ | refine Wk (by decide) ?_ | refine Wl ?_ | refine Wm ?_ | refine Wn ?_) | ((with_reducible first | refine Wo (fun K hK => ?_) | refine Wq ?_ | refine Wr ?_); (try simp only [go_sem, List.forall_mem_nil, ↓guard_ite, ↓pick_ite, seval, encT_eq, inR_i64, h5]); (repeat with_reducible refine And.intro (by first | omega | (with_reducible first | exact lens_encT | exact lens_encL | exact lens_encB | exact lens_encP) | (simp; done) | (simp only [List.length_take, List.length_map, List.length_append, maxLen_eq]; omega)) ?_); (try (with_reducible refine hK _ ?_; clear hK K))))
    with_reducible refine Wp ?_
    simp only [go_sem, List.forall_mem_nil, ↓guard_ite, ↓pick_ite, seval, true_implies, false_implies, implies_true, decide_eq_true_eq, decide_eq_false_iff_not, Int.ofNat_lt]
    (try with_reducible refine ite_conj ?_)
    repeat' (first | (with_reducible first | refine Wa ?_ | refine Wb ?_ | refine Wc ?_ | refine Wd ?_ | refine We ?_ | refine Wf ?_ | refine Wg ?_ | refine Wh ?_ | refine Wi ?_ | refine Wj ?_ | refine Wk (by decide) ?_ | refine Wl ?_ | refine Wm ?_ | refine Wn ?_) | ((with_reducible first | refine Wo (fun K hK => ?_) | refine Wq ?_ | refine Wr ?_); (try simp only [go_sem, List.forall_mem_nil, ↓guard_ite, ↓pick_ite, seval, encT_eq, inR_i64, d5.1]); (repeat with_reducible refine And.intro (by first | omega | (with_reducible first | exact lens_encT | exact lens_encL | exact lens_encB | exact lens_encP) | (simp; done) | (simp only [List.length_take, List.length_map, List.length_append, maxLen_eq]; omega)) ?_); (try (with_reducible refine hK _ ?_; clear hK K))))
    refine ⟨_, p54, ?_⟩
    repeat' (first | (with_reducible first | refine Wa ?_ | refine Wb ?_ | refine Wc ?_ | refine Wd ?_ | refine We ?_ | refine Wf ?_ | refine Wg ?_ | refine Wh ?_ | refine Wi ?_ | refine Wj ?_ | refine Wk (by decide) ?_ | refine Wl ?_ | refine Wm ?_ | refine Wn ?_) | ((with_reducible first | refine Wo (fun K hK => ?_) | refine Wq ?_ | refine Wr ?_); (try simp only [go_sem, List.forall_mem_nil, ↓guard_ite, ↓pick_ite, seval, encT_eq, inR_i64]); (repeat with_reducible refine And.intro (by first | omega | (with_reducible first | exact lens_encT | exact lens_encL | exact lens_encB | exact lens_encP) | (simp; done) | (simp only [List.length_take, List.length_map, List.length_append, maxLen_eq]; omega)) ?_); (try (with_reducible refine hK _ ?_; clear hK K))))
    with_reducible refine Wp ?_
    simp only [go_sem, List.forall_mem_nil, ↓guard_ite, ↓pick_ite, seval, true_implies, false_implies, implies_true, decide_eq_true_eq, decide_eq_false_iff_not, Int.ofNat_lt, h0]
    (try with_reducible refine ite_conj ?_)
    repeat' (first | (with_reducible first | refine Wa ?_ | refine Wb ?_ | refine Wc ?_ | refine Wd ?_ | refine We ?_ | refine Wf ?_ | refine Wg ?_ | refine Wh ?_ | refine Wi ?_ | refine Wj ?_ | refine Wk (by decide) ?_ | refine Wl ?_ | refine Wm ?_ | refine Wn ?_) | ((with_reducible first | refine Wo (fun K hK => ?_) | refine Wq ?_ | refine Wr ?_); (try simp only [go_sem, List.forall_mem_nil, ↓guard_ite, ↓pick_ite, seval, encT_eq, inR_i64]); (repeat with_reducible refine And.intro (by first | omega | (with_reducible first | exact lens_encT | exact lens_encL | exact lens_encB | exact lens_encP) | (simp; done) | (simp only [List.length_take, List.length_map, List.length_append, maxLen_eq]; omega)) ?_); (try (with_reducible refine hK _ ?_; clear hK K))))
    with_reducible refine Wp ?_
    simp only [go_sem, List.forall_mem_nil, ↓guard_ite, ↓pick_ite, seval, true_implies, false_implies, implies_true, decide_eq_true_eq, decide_eq_false_iff_not, Int.ofNat_lt, h1]
    (try with_reducible refine ite_conj ?_)
    repeat' (first | (with_reducible first | refine Wa ?_ | refine Wb ?_ | refine Wc ?_ | refine Wd ?_ | refine We ?_ | refine Wf ?_ | refine Wg ?_ | refine Wh ?_ | refine Wi ?_ | refine Wj ?_ | refine Wk (by decide) ?_ | refine Wl ?_ | refine Wm ?_ | refine Wn ?_) | refine CallG.mk _ (ht) ?_ | refine CallG.mk _ (hu) ?_ | refine CallG.mk _ (p54) ?_ | ((with_reducible first | refine Wo (fun K hK => ?_) | refine Wq ?_ | refine Wr ?_); (try simp only [go_sem, List.forall_mem_nil, ↓guard_ite, ↓pick_ite, seval, encT_eq, inR_i64, d2.1, e2, d5.1, hnm]); (repeat with_reducible refine And.intro (by first | omega | (with_reducible first | exact lens_encT | exact lens_encL | exact lens_encB | exact lens_encP) | (simp; done) | (simp only [List.length_take, List.length_map, List.length_append, maxLen_eq]; omega)) ?_); (try (with_reducible refine hK _ ?_; clear hK K))))
    simp only [go_sem, List.forall_mem_nil, ↓guard_ite, ↓pick_ite, seval, FinQ, AS.result, resAll, resOne, tupV]
    simp only [AV.tup.injEq, AV.agg.injEq, AV.one.injEq, AC.st.injEq, SV.int.injEq, SV.str.injEq, SV.bool.injEq, SV.list.injEq, List.cons.injEq, Option.some.injEq, true_and, and_true, eq_self, encT_eq, Tm.args_mk, Tm.name_mk, List.map_cons, List.map_nil, List.map_append, Tm.size, Tm.sizes]
    omega
theorem termOf_a (l : List Int) (hl : ∀ n ∈ l, inR .i64 n) (hm : l.length ≤ maxLen) (vars : Int) (hv : 1 ≤ vars ∧ vars ≤ 4) (most at_ : Nat) (h1 : most ≤ 1000) (h2 : at_ + 2 * most ≤ 900000) :
    ∃ t : Tm, ACalls Try.prog 10 [aInts l, aInt at_, aInt most, aInt vars] (aTm t) ∧ t.size + 1 ≤ max 2 (2 * most) ∧ t.chk = 0 := by
  obtain ⟨t, ht, hs, hc⟩ := grow_a l hl hm vars hv most at_ h1 h2
  refine ⟨t, ?_, hs, hc⟩
  unfold MadeAt at ht
  refine ac_R_TermOf (Nat.le_of_ble_eq_true rfl) fun C hC => ?_
  unfold ir_R_TermOf
  repeat' (first | (with_reducible first | refine Wa ?_ | refine Wb ?_ | refine Wc ?_ | refine Wd ?_ | refine We ?_ | refine Wf ?_ | refine Wg ?_ | refine Wh ?_ | refine Wi ?_ | refine Wj ?_ | refine Wk (by decide) ?_ | refine Wl ?_ | refine Wm ?_ | refine Wn ?_) | refine CallG.mk _ (ht) ?_ | ((with_reducible first | refine Wo (fun K hK => ?_) | refine Wq ?_ | refine Wr ?_); (try simp only [go_sem, List.forall_mem_nil, ↓guard_ite, ↓pick_ite, seval, encT_eq, inR_i64]); (repeat with_reducible refine And.intro (by first | omega | (with_reducible first | exact lens_encT | exact lens_encL | exact lens_encB | exact lens_encP) | (simp; done) | (simp only [List.length_take, List.length_map, List.length_append, maxLen_eq]; omega)) ?_); (try (with_reducible refine hK _ ?_; clear hK K))))
  simp only [go_sem, List.forall_mem_nil, ↓guard_ite, ↓pick_ite, seval, FinQ, AS.result, resAll, resOne, tupV]
end Go.Proofs.Ytohgkbgpcnmdpaa

namespace Go.Proofs.Ytohgkbgpcnmdpaa
open Go Go.RowKit
set_option linter.unusedVariables false

theorem data_app (a b : ByteArray) : (a ++ b).data.toList = a.data.toList ++ b.data.toList := by
  rw [ByteArray.data_append, Array.toList_append]
theorem byteAt_left {a b : ByteArray} {k : Nat} (h : k < a.size) : byteAt (a ++ b) k = byteAt a k := by
  unfold byteAt
  rw [data_app, List.getD_eq_getElem?_getD, List.getD_eq_getElem?_getD, List.getElem?_append_left (by simpa using h)]
theorem byteAt_right {a b : ByteArray} {k : Nat} : byteAt (a ++ b) (a.size + k) = byteAt b k := by
  unfold byteAt
  have hs : a.data.toList.length = a.size := rfl
  rw [data_app, List.getD_eq_getElem?_getD, List.getD_eq_getElem?_getD, List.getElem?_append_right (by omega), hs]
  congr 4
  omega
theorem bytes_of {a b : ByteArray} (h : a.data.toList = b.data.toList) : a = b := ByteArray.ext (Array.toList_inj.1 h)
theorem ext_left (a b : ByteArray) : (a ++ b).extract 0 a.size = a := by
  apply bytes_of
  rw [ByteArray.data_extract, Array.toList_extract, List.extract_eq_take_drop, data_app]
  have hs : a.data.toList.length = a.size := rfl
  rw [List.drop_zero, Nat.sub_zero, ← hs, List.take_left]
theorem ext_right (a b : ByteArray) : (a ++ b).extract a.size (a ++ b).size = b := by
  apply bytes_of
  rw [ByteArray.data_extract, Array.toList_extract, List.extract_eq_take_drop, data_app, ByteArray.size_append]
  have hs : a.data.toList.length = a.size := rfl
  have hb : b.data.toList.length = b.size := rfl
  rw [← hs, List.drop_left, Nat.add_sub_cancel_left, ← hb, List.take_length]
section
variable {s a b : ByteArray} {i : Nat}
theorem tail_fits (hi : i ≤ s.size) (h : tailS s i = a ++ b) : i + a.size + b.size = s.size := by
  have h1 := tail_size s i
  rw [h, ByteArray.size_append] at h1
  omega
theorem tail_head (hi : i ≤ s.size) (h : tailS s i = a ++ b) : s.extract i (i + a.size) = a := by
  have h1 := tail_fits hi h
  rw [← tail_take (by omega), h, ext_left]
theorem tail_next (hi : i ≤ s.size) (h : tailS s i = a ++ b) : tailS s (i + a.size) = b := by
  have h1 := tail_fits hi h
  rw [← tail_drop (by omega), h, ext_right]
theorem tail_byte (hi : i ≤ s.size) {k : Nat} (hk : k < (tailS s i).size) : byteAt s (i + k) = byteAt (tailS s i) k := by
  have h1 := tail_size s i
  exact (byteN_tail (s := s) (i := i) (k := k) (by omega)).symm
theorem name_letter {n : ByteArray} (h : nameOk n = true) {k : Nat} (hk : k < n.size) : letterI (byteAt n k) = true := by
  cases hl : letterI (byteAt n k) with
  | true => rfl
  | false =>
    have := lettersTo_no n k hk hl
    unfold nameOk at h
    rw [this, Bool.and_false] at h
    cases h
/-- Behind a text stands nothing, or no letter. -/
def Stops (r : ByteArray) : Prop := r.size = 0 ∨ (letterI (byteAt r 0) = false ∧ byteAt r 0 ≠ 40)
theorem name_end {n r : ByteArray} (hi : i ≤ s.size) (h : tailS s i = n ++ r) (hn : nameOk n = true) (hr : r.size = 0 ∨ letterI (byteAt r 0) = false) : lendA s i = i + n.size := by
  have hf := tail_fits hi h
  have hz : (tailS s i).size = n.size + r.size := by rw [h, ByteArray.size_append]
  have key : ∀ k, k ≤ n.size → lendA s i = lendA s (i + k) := by
    intro k
    induction k with
    | zero => intro _; rfl
    | succ k ih =>
      intro hk
      rw [ih (by omega), lendA_on (by omega) (by rw [tail_byte hi (by omega), h, byteAt_left (by omega)]; exact name_letter hn (by omega))]
      rfl
  rw [key n.size (Nat.le_refl _)]
  rcases hr with h0 | hl
  · exact lendA_end (by omega)
  · by_cases h0 : r.size = 0
    · exact lendA_end (by omega)
    · refine lendA_stop (by omega) ?_
      have := tail_byte (s := s) hi (k := n.size) (by omega)
      rw [this, h, show n.size = n.size + 0 by omega, byteAt_right, hl]
      simp
end
theorem stops_41 (r : ByteArray) : Stops (⟨#[41]⟩ ++ r) := .inr (by
  rw [byteAt_left (show 0 < (⟨#[41]⟩ : ByteArray).size by decide)]
  decide)
theorem sep_byte (m : Nat) (r : ByteArray) : byteAt (sep m ++ r) 0 = if m = 0 then 40 else 44 := by
  unfold sep
  split
  · rw [byteAt_left (by decide)]; rfl
  · rw [byteAt_left (by decide)]; rfl
theorem chkL_cons {a : Tm} {ys : List Tm} (h : Tm.chkL (a :: ys) = 0) : a.chk = 0 ∧ Tm.chkL ys = 0 := by
  rw [Tm.chkL] at h
  split at h
  · rename_i h0
    exact ⟨h0, h⟩
  · rename_i h0
    exact absurd h h0
theorem rd_text (s : ByteArray) : ∀ (f : Nat) (t : Tm) (i k : Nat) (r : ByteArray), i ≤ s.size → tailS s i = t.text ++ r → Stops r → t.chk = 0 → k + t.size ≤ 200 → 2 * (s.size - i) < f → rd s f i k = ⟨t, i + t.text.size, k + t.size, 0⟩ := by
  intro f
  induction f using Nat.strongRecOn with
  | _ f ih =>
  intro t i k r hi h hr hc hk hf
  obtain ⟨f, rfl⟩ : ∃ g, f = g + 1 := ⟨f - 1, by omega⟩
  obtain ⟨n, xs⟩ := t
  rw [Tm.chk_eq] at hc
  have hone : chkOne (.mk n xs) = 0 := by
    split at hc
    · assumption
    · exact hc
  rw [if_pos hone] at hc
  have hnm : nameOk n = true := by
    unfold chkOne at hone
    split at hone
    · assumption
    · cases hone
  have hns := chkOne_name hone
  have hsz := Tm.size_eq (.mk n xs)
  change Tm.chkL xs = 0 at hc
  change 1 ≤ n.size ∧ n.size ≤ 8 at hns
  change (Tm.mk n xs).size = 1 + Tm.sizes xs at hsz
  have htx := Tm.text_eq (.mk n xs)
  change (Tm.mk n xs).text = n ++ Tm.textsFrom 0 xs ++ (if xs.length = 0 then ⟨#[]⟩ else ⟨#[41]⟩) at htx
  cases xs with
  | nil =>
    have htn : (Tm.mk n []).text = n := by
      rw [htx, Tm.textsFrom, append_empty, if_pos (show ([] : List Tm).length = 0 from rfl), append_empty]
    rw [htn] at h ⊢
    have hl := name_end hi h hnm (hr.imp id And.left)
    have hx := tail_head hi h
    have hfit := tail_fits hi h
    have hstop : lendA s i = s.size ∨ byteAt s (lendA s i) ≠ 40 := by
      rw [hl]
      rcases hr with h0 | ⟨h1, h2⟩
      · left; omega
      · by_cases h0 : r.size = 0
        · left; omega
        · right
          rw [tail_byte hi (by rw [h, ByteArray.size_append]; omega), h, show n.size = n.size + 0 by omega, byteAt_right]
          exact h2
    rw [rd_leaf (by omega) (by rw [hl, hx]; exact hnm) (by omega) hstop, hl, hx, hsz]
    simp [Tm.sizes]
  | cons a ys =>
    have hvar : ¬ isVar n = true := by
      intro hv
      unfold chkOne at hone
      rw [if_pos (show nameOk (Tm.mk n (a :: ys)).name = true from hnm), if_pos (show isVar (Tm.mk n (a :: ys)).name = true ∧ 0 < (Tm.mk n (a :: ys)).args.length from ⟨hv, Nat.succ_pos _⟩)] at hone
      cases hone
    have htn : (Tm.mk n (a :: ys)).text = n ++ (Tm.textsFrom 0 (a :: ys) ++ ⟨#[41]⟩) := by
      rw [htx, if_neg (by simp), ByteArray.append_assoc]
    rw [htn, ByteArray.append_assoc] at h
    have hb0 : byteAt (Tm.textsFrom 0 (a :: ys) ++ ⟨#[41]⟩ ++ r) 0 = 40 := by
      rw [Tm.textsFrom, ByteArray.append_assoc, ByteArray.append_assoc, ByteArray.append_assoc, sep_byte, if_pos rfl]
    have hl := name_end hi h hnm (.inr (by rw [hb0]; decide))
    have hx := tail_head hi h
    have hfit := tail_fits hi h
    have hnx := tail_next hi h
    have hrz : 0 < (Tm.textsFrom 0 (a :: ys) ++ ⟨#[41]⟩ ++ r).size := by
      rw [ByteArray.size_append, ByteArray.size_append]
      have : (⟨#[41]⟩ : ByteArray).size = 1 := rfl
      omega
    have hstop : ¬ (lendA s i = s.size ∨ byteAt s (lendA s i) ≠ 40) := by
      rw [hl]
      rintro (h0 | h0)
      · omega
      · refine h0 ?_
        rw [tail_byte hi (by rw [h, ByteArray.size_append]; omega), h, show n.size = n.size + 0 by omega, byteAt_right]
        exact hb0
    rw [rd_args (by omega) (by rw [hl, hx]; exact hnm) (by omega) hstop (by rw [hl, hx]; exact hvar), hl, hx]
    have key : ∀ (ys : List Tm) (a : Tm) (g m j c : Nat) (acc : List Tm), g ≤ f → j ≤ s.size → tailS s j = Tm.textsFrom m (a :: ys) ++ ⟨#[41]⟩ ++ r → Tm.chkL (a :: ys) = 0 → c + Tm.sizes (a :: ys) ≤ 200 → 2 * (s.size - j) ≤ g →
        rdA s g n acc j c = ⟨.mk n (acc ++ a :: ys), j + (Tm.textsFrom m (a :: ys)).size + 1, c + Tm.sizes (a :: ys), 0⟩ := by
      intro ys
      induction ys with
      | nil =>
        intro a g m j c acc hg hj h hc hk hf
        obtain ⟨hc1, _⟩ := chkL_cons hc
        have htf : Tm.textsFrom m [a] = sep m ++ a.text := by rw [Tm.textsFrom, Tm.textsFrom, append_empty]
        rw [htf, ByteArray.append_assoc, ByteArray.append_assoc] at h
        have hs1 := sep_size m
        have hfit := tail_fits hj h
        have hnx := tail_next hj h
        rw [hs1] at hnx hfit
        have hsa : Tm.sizes [a] = a.size := by simp [Tm.sizes]
        rw [hsa] at hk ⊢
        obtain ⟨g, rfl⟩ : ∃ g', g = g' + 1 := ⟨g - 1, by omega⟩
        have hrd := ih g (by omega) a (j + 1) c _ (by omega) hnx (stops_41 r) hc1 (by omega) (by omega)
        have h41 : (⟨#[41]⟩ ++ r : ByteArray).size = 1 + r.size := by rw [ByteArray.size_append]; rfl
        rw [ByteArray.size_append, h41] at hfit
        have hat := tail_byte (s := s) (i := j + 1) (k := a.text.size) (by omega) (by rw [hnx, ByteArray.size_append, h41]; omega)
        rw [hnx, show a.text.size = a.text.size + 0 by omega, byteAt_right, byteAt_left (by decide)] at hat
        rw [rdA_close (by rw [hrd]) (by rw [hrd]; show ¬ j + 1 + a.text.size = s.size; omega) (by rw [hrd]; exact hat), hrd, htf, ByteArray.size_append, hs1]
        simp only [Rd.mk.injEq, true_and, and_true]
        omega
      | cons b bs ihb =>
        intro a g m j c acc hg hj h hc hk hf
        obtain ⟨hc1, hc2⟩ := chkL_cons hc
        have htf : Tm.textsFrom m (a :: b :: bs) = sep m ++ (a.text ++ Tm.textsFrom (m + 1) (b :: bs)) := by rw [Tm.textsFrom, ByteArray.append_assoc]
        rw [htf, ByteArray.append_assoc, ByteArray.append_assoc, ByteArray.append_assoc] at h
        have hs1 := sep_size m
        have hfit := tail_fits hj h
        have hnx := tail_next hj h
        rw [hs1] at hnx hfit
        have hsa : Tm.sizes (a :: b :: bs) = a.size + Tm.sizes (b :: bs) := by simp [Tm.sizes]
        rw [hsa] at hk ⊢
        obtain ⟨g, rfl⟩ : ∃ g', g = g' + 1 := ⟨g - 1, by omega⟩
        have hb44 : byteAt (Tm.textsFrom (m + 1) (b :: bs) ++ (⟨#[41]⟩ ++ r)) 0 = 44 := by
          rw [Tm.textsFrom, ByteArray.append_assoc, ByteArray.append_assoc, sep_byte, if_neg (by omega)]
        have hrz : 0 < (Tm.textsFrom (m + 1) (b :: bs) ++ (⟨#[41]⟩ ++ r)).size := by
          rw [ByteArray.size_append, ByteArray.size_append]
          have : (⟨#[41]⟩ : ByteArray).size = 1 := rfl
          omega
        have hrd := ih g (by omega) a (j + 1) c _ (by omega) hnx (.inr (by rw [hb44]; decide)) hc1 (by omega) (by omega)
        rw [ByteArray.size_append] at hfit
        have hat := tail_byte (s := s) (i := j + 1) (k := a.text.size) (by omega) (by rw [hnx, ByteArray.size_append]; omega)
        rw [hnx, show a.text.size = a.text.size + 0 by omega, byteAt_right, hb44] at hat
        have hnx2 := tail_next (by omega) hnx
        rw [rdA_on (by rw [hrd]) (by rw [hrd]; show ¬ j + 1 + a.text.size = s.size; omega) (by rw [hrd]; show ¬ byteAt s (j + 1 + (a.text.size)) = 41; rw [show a.text.size = a.text.size + 0 by omega, hat]; decide) (by rw [hrd]; exact hat), hrd]
        rw [ihb b g (m + 1) (j + 1 + a.text.size) (c + a.size) (acc ++ [a]) (by omega) (by omega) (by rw [hnx2, ByteArray.append_assoc]) hc2 (by omega) (by omega), htf, ByteArray.size_append, ByteArray.size_append, hs1, List.append_assoc]
        simp only [Rd.mk.injEq, true_and, and_true, List.cons_append, List.nil_append]
        omega
    have hlen : s.size = i + n.size + (Tm.textsFrom 0 (a :: ys) ++ ⟨#[41]⟩ ++ r).size := by omega
    rw [key ys a f 0 (i + n.size) (k + 1) [] (Nat.le_refl _) (by omega) hnx hc (by omega) (by omega), htn, hsz, ByteArray.size_append, ByteArray.size_append]
    have h1 : (⟨#[41]⟩ : ByteArray).size = 1 := rfl
    rw [h1]
    simp only [Rd.mk.injEq, true_and, and_true, List.nil_append]
    omega
/-- Reading what was written gives the term again. -/
theorem read_text {t : Tm} (h : t.may = 0) : readOf t.text = (t, 0) := by
  have hc := may_chk h
  have hz := may_size h
  have ht := may_text h
  have hrd : rdS t.text = ⟨t, 0 + t.text.size, 0 + t.size, 0⟩ := rd_text t.text _ t 0 0 ⟨#[]⟩ (by omega) (by rw [tail_zero, append_empty]) (.inl rfl) hc (by omega) (by omega)
  unfold readOf
  rw [if_neg (by omega), hrd, if_pos rfl]
  simp
end Go.Proofs.Ytohgkbgpcnmdpaa

namespace Go.Proofs.Ytohgkbgpcnmdpaa
open Go Go.RowKit
set_option linter.unusedVariables false

theorem chkL_all {xs : List Tm} : Tm.chkL xs = 0 ↔ ∀ a ∈ xs, a.chk = 0 := by
  induction xs with
  | nil => simp [Tm.chkL]
  | cons t ts ih =>
    rw [Tm.chkL]
    by_cases h : t.chk = 0
    · rw [if_pos h, ih]
      simp [h]
    · rw [if_neg h]
      simp [h]
theorem sizes_set {x a : Tm} : ∀ {xs : List Tm} {k : Nat}, xs[k]? = some a → Tm.sizes (xs.set k x) + a.size = Tm.sizes xs + x.size
  | [], k, h => by simp at h
  | t :: ts, 0, h => by
    simp only [List.getElem?_cons_zero, Option.some.injEq] at h
    subst h
    simp [Tm.sizes]
    omega
  | t :: ts, k + 1, h => by
    have := sizes_set (x := x) (xs := ts) (k := k) (by simpa using h)
    simp [Tm.sizes]
    omega
theorem at_cases {t y : Tm} {i : Int} {p : List Int} (h : t.at_ (i :: p) = some y) : ∃ (n : Nat) (a : Tm), i = n ∧ t.args[n]? = some a ∧ a.at_ p = some y := by
  obtain ⟨n, a, rfl, ha, _⟩ := Tm.at_some (t := t) (i := i) (is := p) (by rw [h]; simp)
  exact ⟨n, a, rfl, ha, by rw [Tm.at_yes ha] at h; exact h⟩
theorem put_get : ∀ (p : List Int) {t y : Tm}, t.at_ p = some y → t.put p y = t
  | [], t, y, h => by
    cases t
    rw [Tm.at_] at h
    cases h
    rfl
  | i :: p, t, y, h => by
    obtain ⟨n, a, rfl, ha, hy⟩ := at_cases h
    rw [Tm.put_yes ha, put_get p hy]
    cases t with
    | mk m xs =>
      show Tm.mk m (xs.set n a) = _
      congr 1
      exact List.ext_getElem? fun k => by
        by_cases hk : n = k
        · subst hk
          have hlt : n < xs.length := (List.getElem?_eq_some_iff.1 ha).1
          rw [List.getElem?_set_self hlt]
          exact ha.symm
        · rw [List.getElem?_set_ne hk]
theorem get_put {x : Tm} : ∀ (p : List Int) {t y : Tm}, t.at_ p = some y → (t.put p x).at_ p = some x
  | [], t, y, h => by
    cases t
    rfl
  | i :: p, t, y, h => by
    obtain ⟨n, a, rfl, ha, hy⟩ := at_cases h
    rw [Tm.put_yes ha]
    have hlt : n < t.args.length := (List.getElem?_eq_some_iff.1 ha).1
    rw [Tm.at_yes (a := a.put p x) (by show (t.args.set n _)[n]? = _; rw [List.getElem?_set_self hlt])]
    exact get_put p hy
theorem chk_parts {t : Tm} (h : t.chk = 0) : chkOne t = 0 ∧ ∀ a ∈ t.args, a.chk = 0 := by
  rw [Tm.chk_eq] at h
  split at h
  · rename_i h0
    exact ⟨h0, chkL_all.1 h⟩
  · rename_i h0
    exact absurd h h0
theorem at_chk : ∀ (p : List Int) {t y : Tm}, t.chk = 0 → t.at_ p = some y → y.chk = 0
  | [], t, y, hc, h => by
    rw [Tm.at_] at h
    cases h
    exact hc
  | i :: p, t, y, hc, h => by
    obtain ⟨n, a, rfl, ha, hy⟩ := at_cases h
    exact at_chk p ((chk_parts hc).2 a (List.mem_of_getElem? ha)) hy
theorem put_chk {x : Tm} (hx : x.chk = 0) : ∀ (p : List Int) {t y : Tm}, t.chk = 0 → t.at_ p = some y → (t.put p x).chk = 0
  | [], t, y, hc, h => by
    cases t
    exact hx
  | i :: p, t, y, hc, h => by
    obtain ⟨n, a, rfl, ha, hy⟩ := at_cases h
    obtain ⟨h1, h2⟩ := chk_parts hc
    rw [Tm.put_yes ha, Tm.chk_eq]
    have hone : chkOne (Tm.mk t.name (t.args.set n (a.put p x))) = chkOne t := by
      unfold chkOne
      show (if nameOk t.name = true then (if isVar t.name = true ∧ 0 < (t.args.set n (a.put p x)).length then 2 else 0) else 1) = _
      rw [List.length_set]
    rw [hone, if_pos h1]
    refine chkL_all.2 fun b hb => ?_
    rcases List.mem_or_eq_of_mem_set (show b ∈ t.args.set n (a.put p x) from hb) with hb | rfl
    · exact h2 b hb
    · exact put_chk hx p (h2 a (List.mem_of_getElem? ha)) hy
theorem put_size {x : Tm} : ∀ (p : List Int) {t y : Tm}, t.at_ p = some y → (t.put p x).size ≤ t.size + x.size
  | [], t, y, h => by
    cases t
    show x.size ≤ _
    omega
  | i :: p, t, y, h => by
    obtain ⟨n, a, rfl, ha, hy⟩ := at_cases h
    rw [Tm.put_yes ha, Tm.size_eq, Tm.size_eq t]
    have h1 := sizes_set (x := a.put p x) ha
    have h2 := put_size (x := x) p hy
    show 1 + Tm.sizes (t.args.set n (a.put p x)) ≤ _
    omega
mutual
theorem places_at : ∀ (t : Tm) (p : List Int), p ∈ t.places → ∃ y, t.at_ p = some y
  | .mk n xs, p, h => by
    rw [Tm.places, List.mem_cons] at h
    rcases h with rfl | h
    · exact ⟨_, by rw [Tm.at_]⟩
    · obtain ⟨k, a, q, ha, rfl, y, hy⟩ := placesFrom_at 0 xs p h
      exact ⟨y, by rw [Nat.zero_add, Tm.at_yes (show (Tm.mk n xs).args[k]? = some a from ha)]; exact hy⟩
theorem placesFrom_at : ∀ (m : Nat) (xs : List Tm) (p : List Int), p ∈ Tm.placesFrom m xs → ∃ (k : Nat) (a : Tm) (q : List Int), xs[k]? = some a ∧ p = ((m + k : Nat) : Int) :: q ∧ ∃ y, a.at_ q = some y
  | m, [], p, h => by cases h
  | m, t :: ts, p, h => by
    rw [Tm.placesFrom, List.mem_append, List.mem_map] at h
    rcases h with ⟨q, hq, rfl⟩ | h
    · exact ⟨0, t, q, rfl, rfl, places_at t q hq⟩
    · obtain ⟨k, a, q, ha, rfl, hy⟩ := placesFrom_at (m + 1) ts p h
      exact ⟨k + 1, a, q, by simpa using ha, by rw [show m + 1 + k = m + (k + 1) by omega], hy⟩
end
theorem may_of {t : Tm} (hc : t.chk = 0) (hs : t.size ≤ 200) : t.may = 0 := by
  unfold Tm.may
  rw [if_neg (by omega), hc]
end Go.Proofs.Ytohgkbgpcnmdpaa

namespace Go.Proofs.Ytohgkbgpcnmdpaa
open Go Go.RowKit
set_option maxRecDepth 100000

def ir_metaprunetop_TopText : IR :=
  (.seq
  (.ops
  [.mk (some 6) none (.mov (.c (.one (.st (.bool false)))))
  .no])
  (.seq
  (.seq
  (.ops
  [.mk (some 21) none (.mov (.t 0)) .no, .mk (some 22) none (.len false (.t 21)) .no, .mk (some 23) none (.bin .gtr (.t 22) (.c (.one (.st (.int .i64 256)))))
  .no])
  (.cond (.t 23)
  (.seq
  (.ops
  [.mk (some 6) none (.mov (.c (.one (.st (.bool true)))))
  .no])
  .ret)
  .skip))
  (.seq
  (.ops
  [.mk (some 24) none (.mov (.t 0)) .no, .mk (some 25) none (.mov (.t 1)) .no, .mk (some 26) none (.call 11
  [.t 25, .c (.one (.st (.int .i64 30)))])
  .no, .mk (some 27) none (.call 10
  [.t 24, .c (.one (.st (.int .i64 0))), .t 26, .c (.one (.st (.int .i64 4)))])
  .no, .mk (some 7) none
  (.alloc 24 [.st (.str (ByteArray.mk (#[]))), .full []]) .no, .mk none none (.store 2 (.t 7) (.t 27)) .no])
  (.seq
  (.ops
  [.mk (some 28) none (.mov (.t 0)) .no, .mk (some 29) none (.call 10
  [.t 28, .c (.one (.st (.int .i64 90))), .c (.one (.st (.int .i64 6))), .c (.one (.st (.int .i64 4)))])
  .no, .mk (some 8) none
  (.alloc 24 [.st (.str (ByteArray.mk (#[]))), .full []]) .no, .mk none none (.store 2 (.t 8) (.t 29)) .no])
  (.seq
  (.ops
  [.mk (some 31) none (.load true 2 (.t 7)) .no, .mk (some 32) none (.call 12 [.t 31]) .no, .mk (some 30) none (.mov (.t 32)) .no, .mk (some 33) none (.extract 0 (.t 30)) .no, .mk (some 34) none (.extract 1 (.t 30)) .no, .mk (some 9) none (.mov (.t 33)) .no, .mk (some 10) none (.mov (.t 34)) .no])
  (.seq
  (.ops
  [.mk (some 36) none (.mov (.t 9)) .no, .mk (some 37) none (.call 7 [.t 36]) .no, .mk (some 35) none (.mov (.t 37)) .no, .mk (some 38) none (.extract 0 (.t 35)) .no, .mk (some 39) none (.extract 1 (.t 35)) .no, .mk (some 11) none
  (.alloc 24 [.st (.str (ByteArray.mk (#[]))), .full []])
  .no, .mk none none (.store 2 (.t 11) (.t 38)) .no, .mk (some 12) none (.mov (.t 39)) .no])
  (.seq
  (.ops
  [.mk (some 41) none (.load true 2 (.t 7)) .no, .mk (some 42) none (.call 13 [.t 41]) .no, .mk (some 40) none (.mov (.t 42)) .no, .mk (some 43) none (.extract 0 (.t 40)) .no, .mk (some 44) none (.extract 1 (.t 40)) .no, .mk (some 13) none (.mov (.t 43)) .no, .mk (some 14) none (.mov (.t 44)) .no])
  (.seq
  (.seq
  (.ops
  [.mk (some 45) none (.mov (.t 10)) .no, .mk (some 46) none (.bin .neq (.t 45) (.c (.one (.st (.int .i64 0)))))
  .no, .mk (some 47) none (.mov (.t 46)) .no, .mk (some 48) (some (47, false)) (.mov (.t 12)) .no, .mk (some 49) (some (47, false)) (.bin .neq (.t 48) (.c (.one (.st (.int .i64 0)))))
  .no, .mk (some 50) none
  (.pick (.t 47) (.c (.one (.st (.bool true)))) (.t 49))
  .no, .mk (some 51) none (.mov (.t 50)) .no, .mk (some 52) (some (51, false)) (.mov (.t 14)) .no, .mk (some 53) (some (51, false)) (.bin .neq (.t 52) (.c (.one (.st (.int .i64 0)))))
  .no, .mk (some 54) none
  (.pick (.t 51) (.c (.one (.st (.bool true)))) (.t 53))
  .no, .mk (some 55) none (.mov (.t 54)) .no, .mk (some 56) (some (55, false)) (.load true 2 (.t 7)) .no, .mk (some 57) (some (55, false)) (.load true 2 (.t 11)) .no, .mk (some 58) (some (55, false)) (.call 14 [.t 56, .t 57])
  .no, .mk (some 59) (some (55, false)) (.un .not (.t 58)) .no, .mk (some 60) none
  (.pick (.t 55) (.c (.one (.st (.bool true)))) (.t 59))
  .no, .mk (some 61) none (.mov (.t 60)) .no, .mk (some 62) (some (61, false)) (.mov (.t 13)) .no, .mk (some 63) (some (61, false)) (.len false (.t 62)) .no, .mk (some 64) (some (61, false)) (.bin .eql (.t 63) (.c (.one (.st (.int .i64 0)))))
  .no, .mk (some 65) none
  (.pick (.t 61) (.c (.one (.st (.bool true)))) (.t 64))
  .no])
  (.cond (.t 65)
  (.seq
  (.ops
  [.mk (some 6) none (.mov (.c (.one (.st (.bool false)))))
  .no])
  .ret)
  .skip))
  (.seq
  (.ops
  [.mk (some 66) none (.mov (.t 13)) .no, .mk (some 67) none (.mov (.t 2)) .no, .mk (some 68) none (.mov (.t 13)) .no, .mk (some 69) none (.len false (.t 68)) .no, .mk (some 70) none (.call 11 [.t 67, .t 69])
  .no, .mk (some 71) none (.indexAddr 1 (.t 66) (.t 70))
  .no, .mk (some 72) none (.load false 1 (.t 71)) .no, .mk (some 15) none (.mov (.t 72)) .no])
  (.seq
  (.ops
  [.mk (some 74) none (.load true 2 (.t 7)) .no, .mk (some 75) none (.mov (.t 15)) .no, .mk (some 76) none (.call 15 [.t 74, .t 75])
  .no, .mk (some 73) none (.mov (.t 76)) .no, .mk (some 77) none (.extract 0 (.t 73)) .no, .mk (some 78) none (.extract 1 (.t 73)) .no, .mk (some 16) none
  (.alloc 24 [.st (.str (ByteArray.mk (#[]))), .full []])
  .no, .mk none none (.store 2 (.t 16) (.t 77))
  .no, .mk (some 10) none (.mov (.t 78)) .no])
  (.seq
  (.ops
  [.mk (some 80) none (.load true 2 (.t 7)) .no, .mk (some 81) none (.mov (.t 15)) .no, .mk (some 82) none (.load true 2 (.t 16)) .no, .mk (some 83) none (.call 16 [.t 80, .t 81, .t 82]) .no, .mk (some 79) none (.mov (.t 83)) .no, .mk (some 84) none (.extract 0 (.t 79)) .no, .mk (some 85) none (.extract 1 (.t 79)) .no, .mk (some 17) none
  (.alloc 24 [.st (.str (ByteArray.mk (#[]))), .full []])
  .no, .mk none none (.store 2 (.t 17) (.t 84))
  .no, .mk (some 12) none (.mov (.t 85)) .no])
  (.seq
  (.ops
  [.mk (some 87) none (.load true 2 (.t 7)) .no, .mk (some 88) none (.mov (.t 15)) .no, .mk (some 89) none (.load true 2 (.t 8)) .no, .mk (some 90) none (.call 16 [.t 87, .t 88, .t 89]) .no, .mk (some 86) none (.mov (.t 90)) .no, .mk (some 91) none (.extract 0 (.t 86)) .no, .mk (some 92) none (.extract 1 (.t 86)) .no, .mk (some 18) none
  (.alloc 24 [.st (.str (ByteArray.mk (#[]))), .full []])
  .no, .mk none none (.store 2 (.t 18) (.t 91))
  .no, .mk (some 14) none (.mov (.t 92)) .no])
  (.seq
  (.seq
  (.ops
  [.mk (some 93) none (.mov (.t 10)) .no, .mk (some 94) none (.bin .neq (.t 93) (.c (.one (.st (.int .i64 0)))))
  .no, .mk (some 95) none (.mov (.t 94)) .no, .mk (some 96) (some (95, false)) (.mov (.t 12)) .no, .mk (some 97) (some (95, false)) (.bin .neq (.t 96) (.c (.one (.st (.int .i64 0)))))
  .no, .mk (some 98) none
  (.pick (.t 95) (.c (.one (.st (.bool true)))) (.t 97))
  .no, .mk (some 99) none (.mov (.t 98)) .no, .mk (some 100) (some (99, false)) (.mov (.t 14)) .no, .mk (some 101) (some (99, false)) (.bin .neq (.t 100) (.c (.one (.st (.int .i64 0)))))
  .no, .mk (some 102) none
  (.pick (.t 99) (.c (.one (.st (.bool true)))) (.t 101))
  .no])
  (.cond (.t 102)
  (.seq
  (.ops
  [.mk (some 6) none (.mov (.c (.one (.st (.bool false)))))
  .no])
  .ret)
  .skip))
  (.seq
  (.ops
  [.mk (some 104) none (.load true 2 (.t 18)) .no, .mk (some 105) none (.mov (.t 15)) .no, .mk (some 106) none (.call 15 [.t 104, .t 105])
  .no, .mk (some 103) none (.mov (.t 106)) .no, .mk (some 107) none (.extract 0 (.t 103)) .no, .mk (some 108) none (.extract 1 (.t 103)) .no, .mk (some 19) none
  (.alloc 24 [.st (.str (ByteArray.mk (#[]))), .full []])
  .no, .mk none none (.store 2 (.t 19) (.t 107))
  .no, .mk (some 20) none (.mov (.t 108)) .no])
  (.seq
  (.ops
  [.mk (some 109) none (.mov (.t 20)) .no, .mk (some 110) none (.bin .eql (.t 109) (.c (.one (.st (.int .i64 0)))))
  .no, .mk (some 111) none (.mov (.t 110)) .no, .mk (some 112) (some (111, true)) (.load true 2 (.t 17))
  .no, .mk (some 113) (some (111, true)) (.load true 2 (.t 7))
  .no, .mk (some 114) (some (111, true)) (.call 14 [.t 112, .t 113]) .no, .mk (some 115) none
  (.pick (.t 111) (.t 114) (.c (.one (.st (.bool false)))))
  .no, .mk (some 116) none (.mov (.t 115)) .no, .mk (some 117) (some (116, true)) (.load true 2 (.t 19))
  .no, .mk (some 118) (some (116, true)) (.load true 2 (.t 8))
  .no, .mk (some 119) (some (116, true)) (.call 14 [.t 117, .t 118]) .no, .mk (some 120) none
  (.pick (.t 116) (.t 119) (.c (.one (.st (.bool false)))))
  .no, .mk (some 6) none (.mov (.t 120)) .no])
  .ret)))))))))))))))
theorem tr_metaprunetop_TopText : trCode Try.prog 121 [] (Try.f4.body.getD .skip) = some ir_metaprunetop_TopText := by kernel_rfl
theorem ac_metaprunetop_TopText {xs : List AV} {r : AV} (hn : xs.length ≤ 121) (h : ∀ C : Ctx, C.n = 121 → IWP Try.prog C [] ir_metaprunetop_TopText (FinQ [.t 6] r) (AS.start xs)) : ACalls Try.prog 4 xs r :=
  acalls_of Try.func4 rfl tr_metaprunetop_TopText rfl hn h
end Go.Proofs.Ytohgkbgpcnmdpaa
