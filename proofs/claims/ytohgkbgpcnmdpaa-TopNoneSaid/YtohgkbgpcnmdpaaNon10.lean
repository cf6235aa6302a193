/-
  Part 10 of the texts: BRawT; PNone. Conditions: none.
-/
import Derived.Test.YtohgkbgpcnmdpaaNon9
namespace Go.Proofs.Ytohgkbgpcnmdpaa
open Go Go.RowKit
set_option linter.unusedVariables false
set_option linter.unusedSimpArgs false
set_option maxHeartbeats 800000
def pickI (c n : Int) : Int := (if c < 0 then -(c + 1) else c) % n
theorem pickI_range (c n : Int) (hn : 1 ≤ n) : 0 ≤ pickI c n ∧ pickI c n < n := ⟨Int.emod_nonneg _ (by omega), Int.emod_lt_of_pos _ (by omega)⟩
theorem tmod_range {x n : Int} (hx : 0 ≤ x) (hn : 1 ≤ n) : x.tmod n = x % n ∧ 0 ≤ x % n ∧ x % n < n ∧ x % n ≤ x := by
  rw [Int.tmod_eq_emod_of_nonneg hx]
  refine ⟨rfl, Int.emod_nonneg _ (by omega), Int.emod_lt_of_pos _ (by omega), ?_⟩
  by_cases h : x < n
  · rw [Int.emod_eq_of_lt hx h]; exact Int.le_refl _
  · have := Int.emod_lt_of_pos x (show 0 < n by omega); omega
theorem tdiv_range {x n : Int} (hx : 0 ≤ x) (hn : 1 ≤ n) : x.tdiv n = x / n ∧ 0 ≤ x / n ∧ x / n ≤ x := by
  rw [Int.tdiv_eq_ediv_of_nonneg hx]
  exact ⟨rfl, Int.ediv_nonneg hx (by omega), Int.ediv_le_self _ hx⟩
theorem pick_a (c n : Int) (hc : inR .i64 c) (hn : 1 ≤ n) : ACalls Try.prog 11 [aInt c, aInt n] (aInt (pickI c n)) := by
  rw [inR_i64] at hc
  refine ac_R_Pick (Nat.le_of_ble_eq_true rfl) fun C hC => ?_
  unfold ir_R_Pick
  repeat' (first | (with_reducible first | refine Wa ?_ | refine Wb ?_ | refine Wc ?_ | refine Wd ?_ | refine We ?_ | refine Wf ?_ | refine Wg ?_ | refine Wh ?_ | refine Wi ?_ | refine Wj ?_ | refine Wk (by decide) ?_ | refine Wl ?_ | refine Wm ?_ | refine Wn ?_) | ((with_reducible first | refine Wo (fun K hK => ?_) | refine Wq ?_ | refine Wr ?_); (try simp only [go_sem, List.forall_mem_nil, ↓guard_ite, ↓pick_ite, seval, encT_eq, inR_i64]); (repeat with_reducible refine And.intro (by first | omega | (with_reducible first | exact lens_encT | exact lens_encL | exact lens_encB | exact lens_encP) | (simp; done) | (simp only [List.length_take, List.length_map, List.length_append, maxLen_eq]; omega)) ?_); (try (with_reducible refine hK _ ?_; clear hK K))))
  with_reducible refine Wp ?_
  simp only [go_sem, List.forall_mem_nil, ↓guard_ite, ↓pick_ite, seval, true_implies, false_implies, implies_true, decide_eq_true_eq, decide_eq_false_iff_not, Int.ofNat_lt]
  (try with_reducible refine ite_conj ?_)
  refine ⟨fun h0 => ?_, fun h0 => ?_⟩
  · have h1 := tmod_range (x := 0 - (c + 1)) (n := n) (by omega) hn
    repeat' (first | (with_reducible first | refine Wa ?_ | refine Wb ?_ | refine Wc ?_ | refine Wd ?_ | refine We ?_ | refine Wf ?_ | refine Wg ?_ | refine Wh ?_ | refine Wi ?_ | refine Wj ?_ | refine Wk (by decide) ?_ | refine Wl ?_ | refine Wm ?_ | refine Wn ?_) | ((with_reducible first | refine Wo (fun K hK => ?_) | refine Wq ?_ | refine Wr ?_); (try simp only [go_sem, List.forall_mem_nil, ↓guard_ite, ↓pick_ite, seval, encT_eq, inR_i64, h1.1]); (repeat with_reducible refine And.intro (by first | omega | (with_reducible first | exact lens_encT | exact lens_encL | exact lens_encB | exact lens_encP) | (simp; done) | (simp only [List.length_take, List.length_map, List.length_append, maxLen_eq]; omega)) ?_); (try (with_reducible refine hK _ ?_; clear hK K))))
    simp only [go_sem, List.forall_mem_nil, ↓guard_ite, ↓pick_ite, seval, FinQ, AS.result, resAll, resOne, tupV]
    unfold pickI
    rw [if_pos h0]
    congr 5
    omega
  · have h1 := tmod_range (x := c) (n := n) (by omega) hn
    repeat' (first | (with_reducible first | refine Wa ?_ | refine Wb ?_ | refine Wc ?_ | refine Wd ?_ | refine We ?_ | refine Wf ?_ | refine Wg ?_ | refine Wh ?_ | refine Wi ?_ | refine Wj ?_ | refine Wk (by decide) ?_ | refine Wl ?_ | refine Wm ?_ | refine Wn ?_) | ((with_reducible first | refine Wo (fun K hK => ?_) | refine Wq ?_ | refine Wr ?_); (try simp only [go_sem, List.forall_mem_nil, ↓guard_ite, ↓pick_ite, seval, encT_eq, inR_i64, h1.1]); (repeat with_reducible refine And.intro (by first | omega | (with_reducible first | exact lens_encT | exact lens_encL | exact lens_encB | exact lens_encP) | (simp; done) | (simp only [List.length_take, List.length_map, List.length_append, maxLen_eq]; omega)) ?_); (try (with_reducible refine hK _ ?_; clear hK K))))
    simp only [go_sem, List.forall_mem_nil, ↓guard_ite, ↓pick_ite, seval, FinQ, AS.result, resAll, resOne, tupV]
    unfold pickI
    rw [if_neg h0]
def rawI (l : List Int) (i : Nat) : Int := if l.length = 0 then i * 31 else pickI (l.getD (i % l.length) 0) 1000003 + ((i / l.length : Nat) : Int) * 7919
theorem rawI_range (l : List Int) (i : Nat) : 0 ≤ rawI l i ∧ rawI l i ≤ 1000003 + i * 7919 := by
  unfold rawI
  split
  · omega
  · have := pickI_range (l.getD (i % l.length) 0) 1000003 (by omega)
    have h2 : i / l.length ≤ i := Nat.div_le_self _ _
    generalize i / l.length = q at *
    omega
theorem raw_a (l : List Int) (i : Nat) (hi : i ≤ 1000000) (hl : ∀ n ∈ l, inR .i64 n) (hm : l.length ≤ maxLen) : ACalls Try.prog 38 [aInts l, aInt i] (aInt (rawI l i)) := by
  rw [maxLen_eq] at hm
  refine ac_R_Raw (Nat.le_of_ble_eq_true rfl) fun C hC => ?_
  unfold ir_R_Raw
  repeat' (first | (with_reducible first | refine Wa ?_ | refine Wb ?_ | refine Wc ?_ | refine Wd ?_ | refine We ?_ | refine Wf ?_ | refine Wg ?_ | refine Wh ?_ | refine Wi ?_ | refine Wj ?_ | refine Wk (by decide) ?_ | refine Wl ?_ | refine Wm ?_ | refine Wn ?_) | ((with_reducible first | refine Wo (fun K hK => ?_) | refine Wq ?_ | refine Wr ?_); (try simp only [go_sem, List.forall_mem_nil, ↓guard_ite, ↓pick_ite, seval, encT_eq, inR_i64]); (repeat with_reducible refine And.intro (by first | omega | (with_reducible first | exact lens_encT | exact lens_encL | exact lens_encB | exact lens_encP) | (simp; done) | (simp only [List.length_take, List.length_map, List.length_append, maxLen_eq]; omega)) ?_); (try (with_reducible refine hK _ ?_; clear hK K))))
  with_reducible refine Wp ?_
  simp only [go_sem, List.forall_mem_nil, ↓guard_ite, ↓pick_ite, seval, true_implies, false_implies, implies_true, decide_eq_true_eq, decide_eq_false_iff_not, Int.ofNat_lt]
  (try with_reducible refine ite_conj ?_)
  refine ⟨fun h0 => ?_, fun h0 => ?_⟩
  · repeat' (first | (with_reducible first | refine Wa ?_ | refine Wb ?_ | refine Wc ?_ | refine Wd ?_ | refine We ?_ | refine Wf ?_ | refine Wg ?_ | refine Wh ?_ | refine Wi ?_ | refine Wj ?_ | refine Wk (by decide) ?_ | refine Wl ?_ | refine Wm ?_ | refine Wn ?_) | ((with_reducible first | refine Wo (fun K hK => ?_) | refine Wq ?_ | refine Wr ?_); (try simp only [go_sem, List.forall_mem_nil, ↓guard_ite, ↓pick_ite, seval, encT_eq, inR_i64]); (repeat with_reducible refine And.intro (by first | omega | (with_reducible first | exact lens_encT | exact lens_encL | exact lens_encB | exact lens_encP) | (simp; done) | (simp only [List.length_take, List.length_map, List.length_append, maxLen_eq]; omega)) ?_); (try (with_reducible refine hK _ ?_; clear hK K))))
    simp only [go_sem, List.forall_mem_nil, ↓guard_ite, ↓pick_ite, seval, FinQ, AS.result, resAll, resOne, tupV]
    unfold rawI
    rw [if_pos (by omega)]
  · have h1 := tmod_range (x := (i : Int)) (n := (l.length : Int)) (by omega) (by omega)
    have h2 := tdiv_range (x := (i : Int)) (n := (l.length : Int)) (by omega) (by omega)
    have hlt : i % l.length < l.length := Nat.mod_lt _ (by omega)
    obtain ⟨a, ha⟩ := get_lt hlt
    have e1 : ((i : Int) % (l.length : Int)) = ((i % l.length : Nat) : Int) := by omega
    have e2 : ((i : Int) / (l.length : Int)) = ((i / l.length : Nat) : Int) := by omega
    have h3 : i / l.length ≤ i := Nat.div_le_self _ _
    repeat' (first | (with_reducible first | refine Wa ?_ | refine Wb ?_ | refine Wc ?_ | refine Wd ?_ | refine We ?_ | refine Wf ?_ | refine Wg ?_ | refine Wh ?_ | refine Wi ?_ | refine Wj ?_ | refine Wk (by decide) ?_ | refine Wl ?_ | refine Wm ?_ | refine Wn ?_) | ((with_reducible first | refine Wo (fun K hK => ?_) | refine Wq ?_ | refine Wr ?_); (try simp only [go_sem, List.forall_mem_nil, ↓guard_ite, ↓pick_ite, seval, encT_eq, inR_i64, h1.1, h2.1, e1, e2, ha]); (repeat with_reducible refine And.intro (by first | omega | (with_reducible first | exact lens_encT | exact lens_encL | exact lens_encB | exact lens_encP) | (simp; done) | (simp only [List.length_take, List.length_map, List.length_append, maxLen_eq]; omega)) ?_); (try (with_reducible refine hK _ ?_; clear hK K))))
    refine ⟨_, pick_a a 1000003 (hl a (mem_of_get ha)) (by omega), ?_⟩
    have hp := pickI_range a 1000003 (by omega)
    repeat' (first | (with_reducible first | refine Wa ?_ | refine Wb ?_ | refine Wc ?_ | refine Wd ?_ | refine We ?_ | refine Wf ?_ | refine Wg ?_ | refine Wh ?_ | refine Wi ?_ | refine Wj ?_ | refine Wk (by decide) ?_ | refine Wl ?_ | refine Wm ?_ | refine Wn ?_) | ((with_reducible first | refine Wo (fun K hK => ?_) | refine Wq ?_ | refine Wr ?_); (try simp only [go_sem, List.forall_mem_nil, ↓guard_ite, ↓pick_ite, seval, encT_eq, inR_i64, h1.1, h2.1, e1, e2]); (repeat with_reducible refine And.intro (by first | omega | (with_reducible first | exact lens_encT | exact lens_encL | exact lens_encB | exact lens_encP) | (simp; done) | (simp only [List.length_take, List.length_map, List.length_append, maxLen_eq]; omega)) ?_); (try (with_reducible refine hK _ ?_; clear hK K))))
    simp only [go_sem, List.forall_mem_nil, ↓guard_ite, ↓pick_ite, seval, FinQ, AS.result, resAll, resOne, tupV]
    unfold rawI
    rw [if_neg (by omega), List.getD_eq_getElem?_getD, ha]
    rfl
theorem leaf_a (s : ByteArray) : ACalls Try.prog 22 [aStr s] (aTm (.mk s [])) := by
  refine ac_R_Leaf (Nat.le_of_ble_eq_true rfl) fun C hC => ?_
  unfold ir_R_Leaf
  repeat' (first | (with_reducible first | refine Wa ?_ | refine Wb ?_ | refine Wc ?_ | refine Wd ?_ | refine We ?_ | refine Wf ?_ | refine Wg ?_ | refine Wh ?_ | refine Wi ?_ | refine Wj ?_ | refine Wk (by decide) ?_ | refine Wl ?_ | refine Wm ?_ | refine Wn ?_) | ((with_reducible first | refine Wo (fun K hK => ?_) | refine Wq ?_ | refine Wr ?_); (try simp only [go_sem, List.forall_mem_nil, ↓guard_ite, ↓pick_ite, seval, encT_eq, inR_i64]); (repeat with_reducible refine And.intro (by first | omega | (with_reducible first | exact lens_encT | exact lens_encL | exact lens_encB | exact lens_encP) | (simp; done) | (simp only [List.length_take, List.length_map, List.length_append, maxLen_eq]; omega)) ?_); (try (with_reducible refine hK _ ?_; clear hK K))))
  simp only [go_sem, List.forall_mem_nil, ↓guard_ite, ↓pick_ite, seval, FinQ, AS.result, resAll, resOne, tupV]
  rfl
theorem chk_knot {n : ByteArray} {xs : List Tm} (h1 : nameOk n = true) (h2 : isVar n = false) (hx : ∀ x ∈ xs, x.chk = 0) : (Tm.mk n xs).chk = 0 := by
  have h0 : chkOne (Tm.mk n xs) = 0 := by
    unfold chkOne
    rw [Tm.name_mk, if_pos h1, if_neg (by rw [h2]; simp)]
  rw [Tm.chk_eq, if_pos h0, Tm.args_mk]
  induction xs with
  | nil => rfl
  | cons x xs ih =>
    simp only [Tm.chkL]
    rw [if_pos (hx x (by simp))]
    refine ih (fun y hy => hx y (by simp [hy])) ?_
    unfold chkOne
    rw [Tm.name_mk, if_pos h1, if_neg (by rw [h2]; simp)]
def MadeAt (l : List Int) (at_ : Nat) (most vars : Int) (t : Tm) : Prop :=
  ACalls Try.prog 29 [aInts l, aInt at_, aInt most, aInt vars] (.tup [aTm t, aInt ((at_ + t.size : Nat) : Int)])
abbrev names11 : List ByteArray := [⟨#[88]⟩, ⟨#[89]⟩, ⟨#[90]⟩, ⟨#[85]⟩, ⟨#[97]⟩, ⟨#[98]⟩, ⟨#[99]⟩, ⟨#[102]⟩, ⟨#[103]⟩, ⟨#[104]⟩, ⟨#[107]⟩]
def NamesIn (vars : Int) (t : Tm) : Prop := ∀ k ∈ t.knots, k.name ∈ names11 ∧ (vars = 1 → isVar k.name = true → k.name = ⟨#[88]⟩)
theorem knL_mem {k : Tm} : ∀ {xs : List Tm}, k ∈ Tm.knotsL xs → ∃ x ∈ xs, k ∈ x.knots
  | [], h => by cases h
  | x :: xs, h => by
    rw [Tm.knotsL, List.mem_append] at h
    rcases h with h | h
    · exact ⟨x, by simp, h⟩
    · obtain ⟨y, hy, hk⟩ := knL_mem h
      exact ⟨y, by simp [hy], hk⟩
theorem namesIn_mk {vars : Int} {n : ByteArray} {xs : List Tm} (hn : n ∈ names11) (hv : isVar n = true → vars = 1 → n = ⟨#[88]⟩) (hx : ∀ x ∈ xs, NamesIn vars x) : NamesIn vars (.mk n xs) := by
  intro k hk
  rw [Tm.knots] at hk
  rcases List.mem_cons.1 hk with rfl | hk
  · exact ⟨hn, fun h1 h2 => hv h2 h1⟩
  · obtain ⟨x, hx', hk⟩ := knL_mem hk
    exact hx x hx' k hk
mutual
def Tm.lvs : Tm → Nat
  | .mk _ xs => (if xs.isEmpty then 1 else 0) + Tm.lvsL xs
def Tm.lvsL : List Tm → Nat
  | [] => 0
  | t :: ts => t.lvs + Tm.lvsL ts
end
def leafB (m : Nat) : Nat := if m < 3 then 1 else if m < 6 then 2 else if m < 10 then 4 else m
theorem leafB_pos (m : Nat) : 1 ≤ leafB m := by unfold leafB; split <;> (try split) <;> (try split) <;> omega
theorem leafB_one {m : Nat} (h : 3 ≤ m) : leafB (m - 1) ≤ leafB m := by unfold leafB; (repeat' split) <;> omega
theorem leafB_two {m : Nat} (h : 3 ≤ m) : leafB (m / 2) + leafB (m / 2) ≤ leafB m := by unfold leafB; (repeat' split) <;> omega
def NoU (t : Tm) : Prop := ∀ k ∈ t.knots, k.name ≠ ⟨#[85]⟩
theorem noU_mk {n : ByteArray} {xs : List Tm} (hn : n ≠ ⟨#[85]⟩) (hx : ∀ x ∈ xs, NoU x) : NoU (.mk n xs) := by
  intro k hk
  rw [Tm.knots] at hk
  rcases List.mem_cons.1 hk with rfl | hk
  · exact hn
  · obtain ⟨x, hx', hk⟩ := knL_mem hk
    exact hx x hx' k hk
theorem grow_w (l : List Int) (hl : ∀ n ∈ l, inR .i64 n) (hm : l.length ≤ maxLen) (vars : Int) (hv : 1 ≤ vars ∧ vars ≤ 4) : ∀ (most : Nat) (at_ : Nat), most ≤ 1000 → at_ + 2 * most ≤ 900000 → ∃ t : Tm, MadeAt l at_ most vars t ∧ t.size + 1 ≤ max 2 (2 * most) ∧ t.chk = 0 ∧ NamesIn vars t ∧ (t.lvs ≤ leafB most ∧ (vars = 3 → NoU t)) := by
  intro most
  induction most using Nat.strongRecOn with
  | _ most ih =>
  intro at_ h1000 hat
  have hraw := raw_a l at_ (by omega) hl hm
  have hr := rawI_range l at_
  generalize rawI l at_ = c at hraw hr
  have d5 := tdiv_range (x := c) (n := 5) (by omega) (by omega)
  have d15 := tdiv_range (x := c) (n := 15) (by omega) (by omega)
  have p5 := pick_a c 5 (by rw [inR_i64]; omega) (by omega)
  have q5 := pickI_range c 5 (by omega)
  have p53 := pick_a (c / 5) 3 (by rw [inR_i64]; omega) (by omega)
  have q53 := pickI_range (c / 5) 3 (by omega)
  have p54 := pick_a (c / 5) 4 (by rw [inR_i64]; omega) (by omega)
  have q54 := pickI_range (c / 5) 4 (by omega)
  have p15 := pick_a (c / 15) vars (by rw [inR_i64]; omega) (by omega)
  have q15 := pickI_range (c / 15) vars (by omega)
  have p153 := pick_a (c / 15) 3 (by rw [inR_i64]; omega) (by omega)
  have q153 := pickI_range (c / 15) 3 (by omega)
  generalize pickI c 5 = x5 at p5 q5
  generalize pickI (c / 5) 3 = x53 at p53 q53
  generalize pickI (c / 5) 4 = x54 at p54 q54
  generalize pickI (c / 15) vars = x15 at p15 q15
  generalize pickI (c / 15) 3 = x153 at p153 q153
  have hv0 : vars > 0 := by omega
  by_cases hleaf : (most : Int) < 3 ∨ x5 < 2
  · by_cases hvar : 0 < x53
    · obtain ⟨nm, hnm, hch, hX0, hX, hXU⟩ : ∃ nm, [([.str ⟨#[88]⟩] : List SV), [.str ⟨#[89]⟩], [.str ⟨#[90]⟩], [.str ⟨#[85]⟩]][x15.toNat]? = some [.str nm] ∧ (Tm.mk nm []).chk = 0 ∧ nm ∈ names11 ∧ (vars = 1 → nm = ⟨#[88]⟩) ∧ (vars = 3 → nm ≠ ⟨#[85]⟩) := by
        have : x15.toNat = 0 ∨ x15.toNat = 1 ∨ x15.toNat = 2 ∨ x15.toNat = 3 := by omega
        rcases this with h | h | h | h <;> rw [h] <;> first | exact ⟨_, rfl, by decide, by simp [names11], fun _ => rfl, fun _ => by decide⟩ | exact ⟨_, rfl, by decide, by simp [names11], fun h1 => by omega, fun _ => by decide⟩ | exact ⟨_, rfl, by decide, by simp [names11], fun h1 => by omega, fun h1 => by omega⟩
      refine ⟨.mk nm [], ?_, by simp only [Tm.size, Tm.sizes]; omega, hch, namesIn_mk hX0 (fun _ h1 => hX h1) (by simp), (by have := leafB_pos most; simp [Tm.lvs, Tm.lvsL]; omega), fun h3 => noU_mk (hXU h3) (by simp)⟩
      unfold MadeAt
      refine ac_R_Grow (Nat.le_of_ble_eq_true rfl) fun C hC => ?_
      unfold ir_R_Grow
      repeat' (first | (with_reducible first | refine Wa ?_ | refine Wb ?_ | refine Wc ?_ | refine Wd ?_ | refine We ?_ | refine Wf ?_ | refine Wg ?_ | refine Wh ?_ | refine Wi ?_ | refine Wj ?_ | refine Wk (by decide) ?_ | refine Wl ?_ | refine Wm ?_ | refine Wn ?_) | ((with_reducible first | refine Wo (fun K hK => ?_) | refine Wq ?_ | refine Wr ?_); (try simp only [go_sem, List.forall_mem_nil, ↓guard_ite, ↓pick_ite, seval, encT_eq, inR_i64]); (repeat with_reducible refine And.intro (by first | omega | (with_reducible first | exact lens_encT | exact lens_encL | exact lens_encB | exact lens_encP) | (simp; done) | (simp only [List.length_take, List.length_map, List.length_append, maxLen_eq]; omega)) ?_); (try (with_reducible refine hK _ ?_; clear hK K))))
      refine ⟨_, hraw, ?_⟩
      by_cases hm3 : (most : Int) < 3
      · repeat' (first | (with_reducible first | refine Wa ?_ | refine Wb ?_ | refine Wc ?_ | refine Wd ?_ | refine We ?_ | refine Wf ?_ | refine Wg ?_ | refine Wh ?_ | refine Wi ?_ | refine Wj ?_ | refine Wk (by decide) ?_ | refine Wl ?_ | refine Wm ?_ | refine Wn ?_) | ((with_reducible first | refine Wo (fun K hK => ?_) | refine Wq ?_ | refine Wr ?_); (try simp only [go_sem, List.forall_mem_nil, ↓guard_ite, ↓pick_ite, seval, encT_eq, inR_i64, hm3]); (repeat with_reducible refine And.intro (by first | omega | (with_reducible first | exact lens_encT | exact lens_encL | exact lens_encB | exact lens_encP) | (simp; done) | (simp only [List.length_take, List.length_map, List.length_append, maxLen_eq]; omega)) ?_); (try (with_reducible refine hK _ ?_; clear hK K))))
        with_reducible refine Wp ?_
        simp only [go_sem, List.forall_mem_nil, ↓guard_ite, ↓pick_ite, seval, true_implies, false_implies, implies_true, decide_eq_true_eq, decide_eq_false_iff_not, Int.ofNat_lt]
        (try with_reducible refine ite_conj ?_)
        repeat' (first | (with_reducible first | refine Wa ?_ | refine Wb ?_ | refine Wc ?_ | refine Wd ?_ | refine We ?_ | refine Wf ?_ | refine Wg ?_ | refine Wh ?_ | refine Wi ?_ | refine Wj ?_ | refine Wk (by decide) ?_ | refine Wl ?_ | refine Wm ?_ | refine Wn ?_) | ((with_reducible first | refine Wo (fun K hK => ?_) | refine Wq ?_ | refine Wr ?_); (try simp only [go_sem, List.forall_mem_nil, ↓guard_ite, ↓pick_ite, seval, encT_eq, inR_i64, hv0, d5.1]); (repeat with_reducible refine And.intro (by first | omega | (with_reducible first | exact lens_encT | exact lens_encL | exact lens_encB | exact lens_encP) | (simp; done) | (simp only [List.length_take, List.length_map, List.length_append, maxLen_eq]; omega)) ?_); (try (with_reducible refine hK _ ?_; clear hK K))))
        refine ⟨_, p53, ?_⟩
        repeat' (first | (with_reducible first | refine Wa ?_ | refine Wb ?_ | refine Wc ?_ | refine Wd ?_ | refine We ?_ | refine Wf ?_ | refine Wg ?_ | refine Wh ?_ | refine Wi ?_ | refine Wj ?_ | refine Wk (by decide) ?_ | refine Wl ?_ | refine Wm ?_ | refine Wn ?_) | ((with_reducible first | refine Wo (fun K hK => ?_) | refine Wq ?_ | refine Wr ?_); (try simp only [go_sem, List.forall_mem_nil, ↓guard_ite, ↓pick_ite, seval, encT_eq, inR_i64, hv0, d5.1, hvar]); (repeat with_reducible refine And.intro (by first | omega | (with_reducible first | exact lens_encT | exact lens_encL | exact lens_encB | exact lens_encP) | (simp; done) | (simp only [List.length_take, List.length_map, List.length_append, maxLen_eq]; omega)) ?_); (try (with_reducible refine hK _ ?_; clear hK K))))
        with_reducible refine Wp ?_
        simp only [go_sem, List.forall_mem_nil, ↓guard_ite, ↓pick_ite, seval, true_implies, false_implies, implies_true, decide_eq_true_eq, decide_eq_false_iff_not, Int.ofNat_lt]
        (try with_reducible refine ite_conj ?_)
        repeat' (first | (with_reducible first | refine Wa ?_ | refine Wb ?_ | refine Wc ?_ | refine Wd ?_ | refine We ?_ | refine Wf ?_ | refine Wg ?_ | refine Wh ?_ | refine Wi ?_ | refine Wj ?_ | refine Wk (by decide) ?_ | refine Wl ?_ | refine Wm ?_ | refine Wn ?_) | ((with_reducible first | refine Wo (fun K hK => ?_) | refine Wq ?_ | refine Wr ?_); (try simp only [go_sem, List.forall_mem_nil, ↓guard_ite, ↓pick_ite, seval, encT_eq, inR_i64, d15.1]); (repeat with_reducible refine And.intro (by first | omega | (with_reducible first | exact lens_encT | exact lens_encL | exact lens_encB | exact lens_encP) | (simp; done) | (simp only [List.length_take, List.length_map, List.length_append, maxLen_eq]; omega)) ?_); (try (with_reducible refine hK _ ?_; clear hK K))))
        refine ⟨_, p15, ?_⟩
        repeat' (first | (with_reducible first | refine Wa ?_ | refine Wb ?_ | refine Wc ?_ | refine Wd ?_ | refine We ?_ | refine Wf ?_ | refine Wg ?_ | refine Wh ?_ | refine Wi ?_ | refine Wj ?_ | refine Wk (by decide) ?_ | refine Wl ?_ | refine Wm ?_ | refine Wn ?_) | ((with_reducible first | refine Wo (fun K hK => ?_) | refine Wq ?_ | refine Wr ?_); (try simp only [go_sem, List.forall_mem_nil, ↓guard_ite, ↓pick_ite, seval, encT_eq, inR_i64, hnm, q15.1]); (repeat with_reducible refine And.intro (by first | omega | (with_reducible first | exact lens_encT | exact lens_encL | exact lens_encB | exact lens_encP) | (simp; done) | (simp only [List.length_take, List.length_map, List.length_append, maxLen_eq]; omega)) ?_); (try (with_reducible refine hK _ ?_; clear hK K))))
        refine ⟨_, leaf_a nm, ?_⟩
        repeat' (first | (with_reducible first | refine Wa ?_ | refine Wb ?_ | refine Wc ?_ | refine Wd ?_ | refine We ?_ | refine Wf ?_ | refine Wg ?_ | refine Wh ?_ | refine Wi ?_ | refine Wj ?_ | refine Wk (by decide) ?_ | refine Wl ?_ | refine Wm ?_ | refine Wn ?_) | ((with_reducible first | refine Wo (fun K hK => ?_) | refine Wq ?_ | refine Wr ?_); (try simp only [go_sem, List.forall_mem_nil, ↓guard_ite, ↓pick_ite, seval, encT_eq, inR_i64]); (repeat with_reducible refine And.intro (by first | omega | (with_reducible first | exact lens_encT | exact lens_encL | exact lens_encB | exact lens_encP) | (simp; done) | (simp only [List.length_take, List.length_map, List.length_append, maxLen_eq]; omega)) ?_); (try (with_reducible refine hK _ ?_; clear hK K))))
        simp only [go_sem, List.forall_mem_nil, ↓guard_ite, ↓pick_ite, seval, FinQ, AS.result, resAll, resOne, tupV]
        simp only [AV.tup.injEq, AV.agg.injEq, AV.one.injEq, AC.st.injEq, SV.int.injEq, SV.str.injEq, SV.bool.injEq, SV.list.injEq, List.cons.injEq, Option.some.injEq, true_and, and_true, eq_self, encT_eq, Tm.args_mk, Tm.name_mk, List.map_cons, List.map_nil, List.map_append, Tm.size, Tm.sizes]
        omega
      · have h5 : x5 < 2 := by omega
        repeat' (first | (with_reducible first | refine Wa ?_ | refine Wb ?_ | refine Wc ?_ | refine Wd ?_ | refine We ?_ | refine Wf ?_ | refine Wg ?_ | refine Wh ?_ | refine Wi ?_ | refine Wj ?_ | refine Wk (by decide) ?_ | refine Wl ?_ | refine Wm ?_ | refine Wn ?_) | refine CallG.mk _ (p5) ?_ | ((with_reducible first | refine Wo (fun K hK => ?_) | refine Wq ?_ | refine Wr ?_); (try simp only [go_sem, List.forall_mem_nil, ↓guard_ite, ↓pick_ite, seval, encT_eq, inR_i64, hm3, h5]); (repeat with_reducible refine And.intro (by first | omega | (with_reducible first | exact lens_encT | exact lens_encL | exact lens_encB | exact lens_encP) | (simp; done) | (simp only [List.length_take, List.length_map, List.length_append, maxLen_eq]; omega)) ?_); (try (with_reducible refine hK _ ?_; clear hK K))))
        with_reducible refine Wp ?_
        simp only [go_sem, List.forall_mem_nil, ↓guard_ite, ↓pick_ite, seval, true_implies, false_implies, implies_true, decide_eq_true_eq, decide_eq_false_iff_not, Int.ofNat_lt]
        (try with_reducible refine ite_conj ?_)
        repeat' (first | (with_reducible first | refine Wa ?_ | refine Wb ?_ | refine Wc ?_ | refine Wd ?_ | refine We ?_ | refine Wf ?_ | refine Wg ?_ | refine Wh ?_ | refine Wi ?_ | refine Wj ?_ | refine Wk (by decide) ?_ | refine Wl ?_ | refine Wm ?_ | refine Wn ?_) | ((with_reducible first | refine Wo (fun K hK => ?_) | refine Wq ?_ | refine Wr ?_); (try simp only [go_sem, List.forall_mem_nil, ↓guard_ite, ↓pick_ite, seval, encT_eq, inR_i64, hv0, d5.1]); (repeat with_reducible refine And.intro (by first | omega | (with_reducible first | exact lens_encT | exact lens_encL | exact lens_encB | exact lens_encP) | (simp; done) | (simp only [List.length_take, List.length_map, List.length_append, maxLen_eq]; omega)) ?_); (try (with_reducible refine hK _ ?_; clear hK K))))
        refine ⟨_, p53, ?_⟩
        repeat' (first | (with_reducible first | refine Wa ?_ | refine Wb ?_ | refine Wc ?_ | refine Wd ?_ | refine We ?_ | refine Wf ?_ | refine Wg ?_ | refine Wh ?_ | refine Wi ?_ | refine Wj ?_ | refine Wk (by decide) ?_ | refine Wl ?_ | refine Wm ?_ | refine Wn ?_) | ((with_reducible first | refine Wo (fun K hK => ?_) | refine Wq ?_ | refine Wr ?_); (try simp only [go_sem, List.forall_mem_nil, ↓guard_ite, ↓pick_ite, seval, encT_eq, inR_i64, hv0, d5.1, hvar]); (repeat with_reducible refine And.intro (by first | omega | (with_reducible first | exact lens_encT | exact lens_encL | exact lens_encB | exact lens_encP) | (simp; done) | (simp only [List.length_take, List.length_map, List.length_append, maxLen_eq]; omega)) ?_); (try (with_reducible refine hK _ ?_; clear hK K))))
        with_reducible refine Wp ?_
        simp only [go_sem, List.forall_mem_nil, ↓guard_ite, ↓pick_ite, seval, true_implies, false_implies, implies_true, decide_eq_true_eq, decide_eq_false_iff_not, Int.ofNat_lt]
        (try with_reducible refine ite_conj ?_)
        repeat' (first | (with_reducible first | refine Wa ?_ | refine Wb ?_ | refine Wc ?_ | refine Wd ?_ | refine We ?_ | refine Wf ?_ | refine Wg ?_ | refine Wh ?_ | refine Wi ?_ | refine Wj ?_ | refine Wk (by decide) ?_ | refine Wl ?_ | refine Wm ?_ | refine Wn ?_) | ((with_reducible first | refine Wo (fun K hK => ?_) | refine Wq ?_ | refine Wr ?_); (try simp only [go_sem, List.forall_mem_nil, ↓guard_ite, ↓pick_ite, seval, encT_eq, inR_i64, d15.1]); (repeat with_reducible refine And.intro (by first | omega | (with_reducible first | exact lens_encT | exact lens_encL | exact lens_encB | exact lens_encP) | (simp; done) | (simp only [List.length_take, List.length_map, List.length_append, maxLen_eq]; omega)) ?_); (try (with_reducible refine hK _ ?_; clear hK K))))
        refine ⟨_, p15, ?_⟩
        repeat' (first | (with_reducible first | refine Wa ?_ | refine Wb ?_ | refine Wc ?_ | refine Wd ?_ | refine We ?_ | refine Wf ?_ | refine Wg ?_ | refine Wh ?_ | refine Wi ?_ | refine Wj ?_ | refine Wk (by decide) ?_ | refine Wl ?_ | refine Wm ?_ | refine Wn ?_) | ((with_reducible first | refine Wo (fun K hK => ?_) | refine Wq ?_ | refine Wr ?_); (try simp only [go_sem, List.forall_mem_nil, ↓guard_ite, ↓pick_ite, seval, encT_eq, inR_i64, hnm, q15.1]); (repeat with_reducible refine And.intro (by first | omega | (with_reducible first | exact lens_encT | exact lens_encL | exact lens_encB | exact lens_encP) | (simp; done) | (simp only [List.length_take, List.length_map, List.length_append, maxLen_eq]; omega)) ?_); (try (with_reducible refine hK _ ?_; clear hK K))))
        refine ⟨_, leaf_a nm, ?_⟩
        repeat' (first | (with_reducible first | refine Wa ?_ | refine Wb ?_ | refine Wc ?_ | refine Wd ?_ | refine We ?_ | refine Wf ?_ | refine Wg ?_ | refine Wh ?_ | refine Wi ?_ | refine Wj ?_ | refine Wk (by decide) ?_ | refine Wl ?_ | refine Wm ?_ | refine Wn ?_) | ((with_reducible first | refine Wo (fun K hK => ?_) | refine Wq ?_ | refine Wr ?_); (try simp only [go_sem, List.forall_mem_nil, ↓guard_ite, ↓pick_ite, seval, encT_eq, inR_i64]); (repeat with_reducible refine And.intro (by first | omega | (with_reducible first | exact lens_encT | exact lens_encL | exact lens_encB | exact lens_encP) | (simp; done) | (simp only [List.length_take, List.length_map, List.length_append, maxLen_eq]; omega)) ?_); (try (with_reducible refine hK _ ?_; clear hK K))))
        simp only [go_sem, List.forall_mem_nil, ↓guard_ite, ↓pick_ite, seval, FinQ, AS.result, resAll, resOne, tupV]
        simp only [AV.tup.injEq, AV.agg.injEq, AV.one.injEq, AC.st.injEq, SV.int.injEq, SV.str.injEq, SV.bool.injEq, SV.list.injEq, List.cons.injEq, Option.some.injEq, true_and, and_true, eq_self, encT_eq, Tm.args_mk, Tm.name_mk, List.map_cons, List.map_nil, List.map_append, Tm.size, Tm.sizes]
        omega
    · obtain ⟨nm, hnm, hch, hX0, hX⟩ : ∃ nm, [([.str ⟨#[97]⟩] : List SV), [.str ⟨#[98]⟩], [.str ⟨#[99]⟩]][x153.toNat]? = some [.str nm] ∧ (Tm.mk nm []).chk = 0 ∧ nm ∈ names11 ∧ isVar nm = false := by
        have : x153.toNat = 0 ∨ x153.toNat = 1 ∨ x153.toNat = 2 := by omega
        rcases this with h | h | h <;> rw [h] <;> exact ⟨_, rfl, by decide, by simp [names11], by decide⟩
      refine ⟨.mk nm [], ?_, by simp only [Tm.size, Tm.sizes]; omega, hch, namesIn_mk hX0 (fun h => by rw [hX] at h; cases h) (by simp), (by have := leafB_pos most; simp [Tm.lvs, Tm.lvsL]; omega), fun h3 => noU_mk (fun e => by rw [e] at hX; exact absurd hX (by decide)) (by simp)⟩
      unfold MadeAt
      refine ac_R_Grow (Nat.le_of_ble_eq_true rfl) fun C hC => ?_
      unfold ir_R_Grow
      repeat' (first | (with_reducible first | refine Wa ?_ | refine Wb ?_ | refine Wc ?_ | refine Wd ?_ | refine We ?_ | refine Wf ?_ | refine Wg ?_ | refine Wh ?_ | refine Wi ?_ | refine Wj ?_ | refine Wk (by decide) ?_ | refine Wl ?_ | refine Wm ?_ | refine Wn ?_) | ((with_reducible first | refine Wo (fun K hK => ?_) | refine Wq ?_ | refine Wr ?_); (try simp only [go_sem, List.forall_mem_nil, ↓guard_ite, ↓pick_ite, seval, encT_eq, inR_i64]); (repeat with_reducible refine And.intro (by first | omega | (with_reducible first | exact lens_encT | exact lens_encL | exact lens_encB | exact lens_encP) | (simp; done) | (simp only [List.length_take, List.length_map, List.length_append, maxLen_eq]; omega)) ?_); (try (with_reducible refine hK _ ?_; clear hK K))))
      refine ⟨_, hraw, ?_⟩
      by_cases hm3 : (most : Int) < 3
      · repeat' (first | (with_reducible first | refine Wa ?_ | refine Wb ?_ | refine Wc ?_ | refine Wd ?_ | refine We ?_ | refine Wf ?_ | refine Wg ?_ | refine Wh ?_ | refine Wi ?_ | refine Wj ?_ | refine Wk (by decide) ?_ | refine Wl ?_ | refine Wm ?_ | refine Wn ?_) | ((with_reducible first | refine Wo (fun K hK => ?_) | refine Wq ?_ | refine Wr ?_); (try simp only [go_sem, List.forall_mem_nil, ↓guard_ite, ↓pick_ite, seval, encT_eq, inR_i64, hm3]); (repeat with_reducible refine And.intro (by first | omega | (with_reducible first | exact lens_encT | exact lens_encL | exact lens_encB | exact lens_encP) | (simp; done) | (simp only [List.length_take, List.length_map, List.length_append, maxLen_eq]; omega)) ?_); (try (with_reducible refine hK _ ?_; clear hK K))))
        with_reducible refine Wp ?_
        simp only [go_sem, List.forall_mem_nil, ↓guard_ite, ↓pick_ite, seval, true_implies, false_implies, implies_true, decide_eq_true_eq, decide_eq_false_iff_not, Int.ofNat_lt]
        (try with_reducible refine ite_conj ?_)
        repeat' (first | (with_reducible first | refine Wa ?_ | refine Wb ?_ | refine Wc ?_ | refine Wd ?_ | refine We ?_ | refine Wf ?_ | refine Wg ?_ | refine Wh ?_ | refine Wi ?_ | refine Wj ?_ | refine Wk (by decide) ?_ | refine Wl ?_ | refine Wm ?_ | refine Wn ?_) | ((with_reducible first | refine Wo (fun K hK => ?_) | refine Wq ?_ | refine Wr ?_); (try simp only [go_sem, List.forall_mem_nil, ↓guard_ite, ↓pick_ite, seval, encT_eq, inR_i64, hv0, d5.1]); (repeat with_reducible refine And.intro (by first | omega | (with_reducible first | exact lens_encT | exact lens_encL | exact lens_encB | exact lens_encP) | (simp; done) | (simp only [List.length_take, List.length_map, List.length_append, maxLen_eq]; omega)) ?_); (try (with_reducible refine hK _ ?_; clear hK K))))
        refine ⟨_, p53, ?_⟩
        repeat' (first | (with_reducible first | refine Wa ?_ | refine Wb ?_ | refine Wc ?_ | refine Wd ?_ | refine We ?_ | refine Wf ?_ | refine Wg ?_ | refine Wh ?_ | refine Wi ?_ | refine Wj ?_ | refine Wk (by decide) ?_ | refine Wl ?_ | refine Wm ?_ | refine Wn ?_) | ((with_reducible first | refine Wo (fun K hK => ?_) | refine Wq ?_ | refine Wr ?_); (try simp only [go_sem, List.forall_mem_nil, ↓guard_ite, ↓pick_ite, seval, encT_eq, inR_i64, hv0, d5.1, hvar]); (repeat with_reducible refine And.intro (by first | omega | (with_reducible first | exact lens_encT | exact lens_encL | exact lens_encB | exact lens_encP) | (simp; done) | (simp only [List.length_take, List.length_map, List.length_append, maxLen_eq]; omega)) ?_); (try (with_reducible refine hK _ ?_; clear hK K))))
        with_reducible refine Wp ?_
        simp only [go_sem, List.forall_mem_nil, ↓guard_ite, ↓pick_ite, seval, true_implies, false_implies, implies_true, decide_eq_true_eq, decide_eq_false_iff_not, Int.ofNat_lt]
        (try with_reducible refine ite_conj ?_)
        repeat' (first | (with_reducible first | refine Wa ?_ | refine Wb ?_ | refine Wc ?_ | refine Wd ?_ | refine We ?_ | refine Wf ?_ | refine Wg ?_ | refine Wh ?_ | refine Wi ?_ | refine Wj ?_ | refine Wk (by decide) ?_ | refine Wl ?_ | refine Wm ?_ | refine Wn ?_) | ((with_reducible first | refine Wo (fun K hK => ?_) | refine Wq ?_ | refine Wr ?_); (try simp only [go_sem, List.forall_mem_nil, ↓guard_ite, ↓pick_ite, seval, encT_eq, inR_i64, d15.1]); (repeat with_reducible refine And.intro (by first | omega | (with_reducible first | exact lens_encT | exact lens_encL | exact lens_encB | exact lens_encP) | (simp; done) | (simp only [List.length_take, List.length_map, List.length_append, maxLen_eq]; omega)) ?_); (try (with_reducible refine hK _ ?_; clear hK K))))
        refine ⟨_, p153, ?_⟩
        repeat' (first | (with_reducible first | refine Wa ?_ | refine Wb ?_ | refine Wc ?_ | refine Wd ?_ | refine We ?_ | refine Wf ?_ | refine Wg ?_ | refine Wh ?_ | refine Wi ?_ | refine Wj ?_ | refine Wk (by decide) ?_ | refine Wl ?_ | refine Wm ?_ | refine Wn ?_) | ((with_reducible first | refine Wo (fun K hK => ?_) | refine Wq ?_ | refine Wr ?_); (try simp only [go_sem, List.forall_mem_nil, ↓guard_ite, ↓pick_ite, seval, encT_eq, inR_i64, hnm, q153.1]); (repeat with_reducible refine And.intro (by first | omega | (with_reducible first | exact lens_encT | exact lens_encL | exact lens_encB | exact lens_encP) | (simp; done) | (simp only [List.length_take, List.length_map, List.length_append, maxLen_eq]; omega)) ?_); (try (with_reducible refine hK _ ?_; clear hK K))))
        refine ⟨_, leaf_a nm, ?_⟩
        repeat' (first | (with_reducible first | refine Wa ?_ | refine Wb ?_ | refine Wc ?_ | refine Wd ?_ | refine We ?_ | refine Wf ?_ | refine Wg ?_ | refine Wh ?_ | refine Wi ?_ | refine Wj ?_ | refine Wk (by decide) ?_ | refine Wl ?_ | refine Wm ?_ | refine Wn ?_) | ((with_reducible first | refine Wo (fun K hK => ?_) | refine Wq ?_ | refine Wr ?_); (try simp only [go_sem, List.forall_mem_nil, ↓guard_ite, ↓pick_ite, seval, encT_eq, inR_i64]); (repeat with_reducible refine And.intro (by first | omega | (with_reducible first | exact lens_encT | exact lens_encL | exact lens_encB | exact lens_encP) | (simp; done) | (simp only [List.length_take, List.length_map, List.length_append, maxLen_eq]; omega)) ?_); (try (with_reducible refine hK _ ?_; clear hK K))))
        simp only [go_sem, List.forall_mem_nil, ↓guard_ite, ↓pick_ite, seval, FinQ, AS.result, resAll, resOne, tupV]
        simp only [AV.tup.injEq, AV.agg.injEq, AV.one.injEq, AC.st.injEq, SV.int.injEq, SV.str.injEq, SV.bool.injEq, SV.list.injEq, List.cons.injEq, Option.some.injEq, true_and, and_true, eq_self, encT_eq, Tm.args_mk, Tm.name_mk, List.map_cons, List.map_nil, List.map_append, Tm.size, Tm.sizes]
        omega
      · have h5 : x5 < 2 := by omega
        repeat' (first | (with_reducible first | refine Wa ?_ | refine Wb ?_ | refine Wc ?_ | refine Wd ?_ | refine We ?_ | refine Wf ?_ | refine Wg ?_ | refine Wh ?_ | refine Wi ?_ | refine Wj ?_ | refine Wk (by decide) ?_ | refine Wl ?_ | refine Wm ?_ | refine Wn ?_) | refine CallG.mk _ (p5) ?_ | ((with_reducible first | refine Wo (fun K hK => ?_) | refine Wq ?_ | refine Wr ?_); (try simp only [go_sem, List.forall_mem_nil, ↓guard_ite, ↓pick_ite, seval, encT_eq, inR_i64, hm3, h5]); (repeat with_reducible refine And.intro (by first | omega | (with_reducible first | exact lens_encT | exact lens_encL | exact lens_encB | exact lens_encP) | (simp; done) | (simp only [List.length_take, List.length_map, List.length_append, maxLen_eq]; omega)) ?_); (try (with_reducible refine hK _ ?_; clear hK K))))
        with_reducible refine Wp ?_
        simp only [go_sem, List.forall_mem_nil, ↓guard_ite, ↓pick_ite, seval, true_implies, false_implies, implies_true, decide_eq_true_eq, decide_eq_false_iff_not, Int.ofNat_lt]
        (try with_reducible refine ite_conj ?_)
        repeat' (first | (with_reducible first | refine Wa ?_ | refine Wb ?_ | refine Wc ?_ | refine Wd ?_ | refine We ?_ | refine Wf ?_ | refine Wg ?_ | refine Wh ?_ | refine Wi ?_ | refine Wj ?_ | refine Wk (by decide) ?_ | refine Wl ?_ | refine Wm ?_ | refine Wn ?_) | ((with_reducible first | refine Wo (fun K hK => ?_) | refine Wq ?_ | refine Wr ?_); (try simp only [go_sem, List.forall_mem_nil, ↓guard_ite, ↓pick_ite, seval, encT_eq, inR_i64, hv0, d5.1]); (repeat with_reducible refine And.intro (by first | omega | (with_reducible first | exact lens_encT | exact lens_encL | exact lens_encB | exact lens_encP) | (simp; done) | (simp only [List.length_take, List.length_map, List.length_append, maxLen_eq]; omega)) ?_); (try (with_reducible refine hK _ ?_; clear hK K))))
        refine ⟨_, p53, ?_⟩
        repeat' (first | (with_reducible first | refine Wa ?_ | refine Wb ?_ | refine Wc ?_ | refine Wd ?_ | refine We ?_ | refine Wf ?_ | refine Wg ?_ | refine Wh ?_ | refine Wi ?_ | refine Wj ?_ | refine Wk (by decide) ?_ | refine Wl ?_ | refine Wm ?_ | refine Wn ?_) | ((with_reducible first | refine Wo (fun K hK => ?_) | refine Wq ?_ | refine Wr ?_); (try simp only [go_sem, List.forall_mem_nil, ↓guard_ite, ↓pick_ite, seval, encT_eq, inR_i64, hv0, d5.1, hvar]); (repeat with_reducible refine And.intro (by first | omega | (with_reducible first | exact lens_encT | exact lens_encL | exact lens_encB | exact lens_encP) | (simp; done) | (simp only [List.length_take, List.length_map, List.length_append, maxLen_eq]; omega)) ?_); (try (with_reducible refine hK _ ?_; clear hK K))))
        with_reducible refine Wp ?_
        simp only [go_sem, List.forall_mem_nil, ↓guard_ite, ↓pick_ite, seval, true_implies, false_implies, implies_true, decide_eq_true_eq, decide_eq_false_iff_not, Int.ofNat_lt]
        (try with_reducible refine ite_conj ?_)
        repeat' (first | (with_reducible first | refine Wa ?_ | refine Wb ?_ | refine Wc ?_ | refine Wd ?_ | refine We ?_ | refine Wf ?_ | refine Wg ?_ | refine Wh ?_ | refine Wi ?_ | refine Wj ?_ | refine Wk (by decide) ?_ | refine Wl ?_ | refine Wm ?_ | refine Wn ?_) | ((with_reducible first | refine Wo (fun K hK => ?_) | refine Wq ?_ | refine Wr ?_); (try simp only [go_sem, List.forall_mem_nil, ↓guard_ite, ↓pick_ite, seval, encT_eq, inR_i64, d15.1]); (repeat with_reducible refine And.intro (by first | omega | (with_reducible first | exact lens_encT | exact lens_encL | exact lens_encB | exact lens_encP) | (simp; done) | (simp only [List.length_take, List.length_map, List.length_append, maxLen_eq]; omega)) ?_); (try (with_reducible refine hK _ ?_; clear hK K))))
        refine ⟨_, p153, ?_⟩
        repeat' (first | (with_reducible first | refine Wa ?_ | refine Wb ?_ | refine Wc ?_ | refine Wd ?_ | refine We ?_ | refine Wf ?_ | refine Wg ?_ | refine Wh ?_ | refine Wi ?_ | refine Wj ?_ | refine Wk (by decide) ?_ | refine Wl ?_ | refine Wm ?_ | refine Wn ?_) | ((with_reducible first | refine Wo (fun K hK => ?_) | refine Wq ?_ | refine Wr ?_); (try simp only [go_sem, List.forall_mem_nil, ↓guard_ite, ↓pick_ite, seval, encT_eq, inR_i64, hnm, q153.1]); (repeat with_reducible refine And.intro (by first | omega | (with_reducible first | exact lens_encT | exact lens_encL | exact lens_encB | exact lens_encP) | (simp; done) | (simp only [List.length_take, List.length_map, List.length_append, maxLen_eq]; omega)) ?_); (try (with_reducible refine hK _ ?_; clear hK K))))
        refine ⟨_, leaf_a nm, ?_⟩
        repeat' (first | (with_reducible first | refine Wa ?_ | refine Wb ?_ | refine Wc ?_ | refine Wd ?_ | refine We ?_ | refine Wf ?_ | refine Wg ?_ | refine Wh ?_ | refine Wi ?_ | refine Wj ?_ | refine Wk (by decide) ?_ | refine Wl ?_ | refine Wm ?_ | refine Wn ?_) | ((with_reducible first | refine Wo (fun K hK => ?_) | refine Wq ?_ | refine Wr ?_); (try simp only [go_sem, List.forall_mem_nil, ↓guard_ite, ↓pick_ite, seval, encT_eq, inR_i64]); (repeat with_reducible refine And.intro (by first | omega | (with_reducible first | exact lens_encT | exact lens_encL | exact lens_encB | exact lens_encP) | (simp; done) | (simp only [List.length_take, List.length_map, List.length_append, maxLen_eq]; omega)) ?_); (try (with_reducible refine hK _ ?_; clear hK K))))
        simp only [go_sem, List.forall_mem_nil, ↓guard_ite, ↓pick_ite, seval, FinQ, AS.result, resAll, resOne, tupV]
        simp only [AV.tup.injEq, AV.agg.injEq, AV.one.injEq, AC.st.injEq, SV.int.injEq, SV.str.injEq, SV.bool.injEq, SV.list.injEq, List.cons.injEq, Option.some.injEq, true_and, and_true, eq_self, encT_eq, Tm.args_mk, Tm.name_mk, List.map_cons, List.map_nil, List.map_append, Tm.size, Tm.sizes]
        omega
  · have hm3 : ¬ (most : Int) < 3 := by omega
    have h5 : ¬ x5 < 2 := by omega
    by_cases h0 : x54 = 0
    · obtain ⟨t, ht, hs, hc1, hX1, hL1, hU1⟩ := ih (most - 1) (by omega) (at_ + 1) (by omega) (by omega)
      unfold MadeAt at ht
      rw [show (((at_ + 1 : Nat) : Int)) = (at_ : Int) + 1 by omega, show (((most - 1 : Nat) : Int)) = (most : Int) - 1 by omega] at ht
      refine ⟨.mk ⟨#[104]⟩ [t], ?_, by simp only [Tm.size, Tm.sizes]; omega, chk_knot (by decide) (by decide) (by simp [hc1]), namesIn_mk (by simp [names11]) (fun h => absurd h (by decide)) (by simp [hX1]), (by have := leafB_one (m := most) (by omega); simp [Tm.lvs, Tm.lvsL]; omega), fun h3 => noU_mk (by decide) (by simp [hU1 h3])⟩
      unfold MadeAt
      subst h0
      refine ac_R_Grow (Nat.le_of_ble_eq_true rfl) fun C hC => ?_
      unfold ir_R_Grow
      repeat' (first | (with_reducible first | refine Wa ?_ | refine Wb ?_ | refine Wc ?_ | refine Wd ?_ | refine We ?_ | refine Wf ?_ | refine Wg ?_ | refine Wh ?_ | refine Wi ?_ | refine Wj ?_ | refine Wk (by decide) ?_ | refine Wl ?_ | refine Wm ?_ | refine Wn ?_) | ((with_reducible first | refine Wo (fun K hK => ?_) | refine Wq ?_ | refine Wr ?_); (try simp only [go_sem, List.forall_mem_nil, ↓guard_ite, ↓pick_ite, seval, encT_eq, inR_i64]); (repeat with_reducible refine And.intro (by first | omega | (with_reducible first | exact lens_encT | exact lens_encL | exact lens_encB | exact lens_encP) | (simp; done) | (simp only [List.length_take, List.length_map, List.length_append, maxLen_eq]; omega)) ?_); (try (with_reducible refine hK _ ?_; clear hK K))))
      refine ⟨_, hraw, ?_⟩
      repeat' (first | (with_reducible first | refine Wa ?_ | refine Wb ?_ | refine Wc ?_ | refine Wd ?_ | refine We ?_ | refine Wf ?_ | refine Wg ?_ | refine Wh ?_ | refine Wi ?_ | refine Wj ?_ | refine Wk (by decide) ?_ | refine Wl ?_ | refine Wm ?_ | refine Wn ?_) | ((with_reducible first | refine Wo (fun K hK => ?_) | refine Wq ?_ | refine Wr ?_); (try simp only [go_sem, List.forall_mem_nil, ↓guard_ite, ↓pick_ite, seval, encT_eq, inR_i64, hm3]); (repeat with_reducible refine And.intro (by first | omega | (with_reducible first | exact lens_encT | exact lens_encL | exact lens_encB | exact lens_encP) | (simp; done) | (simp only [List.length_take, List.length_map, List.length_append, maxLen_eq]; omega)) ?_); (try (with_reducible refine hK _ ?_; clear hK K))))
      refine ⟨_, p5, ?_⟩
      repeat' (first | (with_reducible first | refine Wa ?_ | refine Wb ?_ | refine Wc ?_ | refine Wd ?_ | refine We ?_ | refine Wf ?_ | refine Wg ?_ | refine Wh ?_ | refine Wi ?_ | refine Wj ?_ | refine Wk (by decide) ?_ | refine Wl ?_ | refine Wm ?_ | refine Wn ?_) | ((with_reducible first | refine Wo (fun K hK => ?_) | refine Wq ?_ | refine Wr ?_); (try simp only [go_sem, List.forall_mem_nil, ↓guard_ite, ↓pick_ite, seval, encT_eq, inR_i64, h5]); (repeat with_reducible refine And.intro (by first | omega | (with_reducible first | exact lens_encT | exact lens_encL | exact lens_encB | exact lens_encP) | (simp; done) | (simp only [List.length_take, List.length_map, List.length_append, maxLen_eq]; omega)) ?_); (try (with_reducible refine hK _ ?_; clear hK K))))
      with_reducible refine Wp ?_
      simp only [go_sem, List.forall_mem_nil, ↓guard_ite, ↓pick_ite, seval, true_implies, false_implies, implies_true, decide_eq_true_eq, decide_eq_false_iff_not, Int.ofNat_lt]
      (try with_reducible refine ite_conj ?_)
      repeat' (first | (with_reducible first | refine Wa ?_ | refine Wb ?_ | refine Wc ?_ | refine Wd ?_ | refine We ?_ | refine Wf ?_ | refine Wg ?_ | refine Wh ?_ | refine Wi ?_ | refine Wj ?_ | refine Wk (by decide) ?_ | refine Wl ?_ | refine Wm ?_ | refine Wn ?_) | ((with_reducible first | refine Wo (fun K hK => ?_) | refine Wq ?_ | refine Wr ?_); (try simp only [go_sem, List.forall_mem_nil, ↓guard_ite, ↓pick_ite, seval, encT_eq, inR_i64, d5.1]); (repeat with_reducible refine And.intro (by first | omega | (with_reducible first | exact lens_encT | exact lens_encL | exact lens_encB | exact lens_encP) | (simp; done) | (simp only [List.length_take, List.length_map, List.length_append, maxLen_eq]; omega)) ?_); (try (with_reducible refine hK _ ?_; clear hK K))))
      refine ⟨_, p54, ?_⟩
      repeat' (first | (with_reducible first | refine Wa ?_ | refine Wb ?_ | refine Wc ?_ | refine Wd ?_ | refine We ?_ | refine Wf ?_ | refine Wg ?_ | refine Wh ?_ | refine Wi ?_ | refine Wj ?_ | refine Wk (by decide) ?_ | refine Wl ?_ | refine Wm ?_ | refine Wn ?_) | ((with_reducible first | refine Wo (fun K hK => ?_) | refine Wq ?_ | refine Wr ?_); (try simp only [go_sem, List.forall_mem_nil, ↓guard_ite, ↓pick_ite, seval, encT_eq, inR_i64]); (repeat with_reducible refine And.intro (by first | omega | (with_reducible first | exact lens_encT | exact lens_encL | exact lens_encB | exact lens_encP) | (simp; done) | (simp only [List.length_take, List.length_map, List.length_append, maxLen_eq]; omega)) ?_); (try (with_reducible refine hK _ ?_; clear hK K))))
      with_reducible refine Wp ?_
      simp only [go_sem, List.forall_mem_nil, ↓guard_ite, ↓pick_ite, seval, true_implies, false_implies, implies_true, decide_eq_true_eq, decide_eq_false_iff_not, Int.ofNat_lt]
      (try with_reducible refine ite_conj ?_)
      repeat' (first | (with_reducible first | refine Wa ?_ | refine Wb ?_ | refine Wc ?_ | refine Wd ?_ | refine We ?_ | refine Wf ?_ | refine Wg ?_ | refine Wh ?_ | refine Wi ?_ | refine Wj ?_ | refine Wk (by decide) ?_ | refine Wl ?_ | refine Wm ?_ | refine Wn ?_) | ((with_reducible first | refine Wo (fun K hK => ?_) | refine Wq ?_ | refine Wr ?_); (try simp only [go_sem, List.forall_mem_nil, ↓guard_ite, ↓pick_ite, seval, encT_eq, inR_i64]); (repeat with_reducible refine And.intro (by first | omega | (with_reducible first | exact lens_encT | exact lens_encL | exact lens_encB | exact lens_encP) | (simp; done) | (simp only [List.length_take, List.length_map, List.length_append, maxLen_eq]; omega)) ?_); (try (with_reducible refine hK _ ?_; clear hK K))))
      refine ⟨_, ht, ?_⟩
      repeat' (first | (with_reducible first | refine Wa ?_ | refine Wb ?_ | refine Wc ?_ | refine Wd ?_ | refine We ?_ | refine Wf ?_ | refine Wg ?_ | refine Wh ?_ | refine Wi ?_ | refine Wj ?_ | refine Wk (by decide) ?_ | refine Wl ?_ | refine Wm ?_ | refine Wn ?_) | ((with_reducible first | refine Wo (fun K hK => ?_) | refine Wq ?_ | refine Wr ?_); (try simp only [go_sem, List.forall_mem_nil, ↓guard_ite, ↓pick_ite, seval, encT_eq, inR_i64]); (repeat with_reducible refine And.intro (by first | omega | (with_reducible first | exact lens_encT | exact lens_encL | exact lens_encB | exact lens_encP) | (simp; done) | (simp only [List.length_take, List.length_map, List.length_append, maxLen_eq]; omega)) ?_); (try (with_reducible refine hK _ ?_; clear hK K))))
      simp only [go_sem, List.forall_mem_nil, ↓guard_ite, ↓pick_ite, seval, FinQ, AS.result, resAll, resOne, tupV]
      simp only [AV.tup.injEq, AV.agg.injEq, AV.one.injEq, AC.st.injEq, SV.int.injEq, SV.str.injEq, SV.bool.injEq, SV.list.injEq, List.cons.injEq, Option.some.injEq, true_and, and_true, eq_self, encT_eq, Tm.args_mk, Tm.name_mk, List.map_cons, List.map_nil, List.map_append, Tm.size, Tm.sizes]
      omega
    by_cases h1 : x54 = 1
    · obtain ⟨t, ht, hs, hc1, hX1, hL1, hU1⟩ := ih (most - 1) (by omega) (at_ + 1) (by omega) (by omega)
      unfold MadeAt at ht
      rw [show (((at_ + 1 : Nat) : Int)) = (at_ : Int) + 1 by omega, show (((most - 1 : Nat) : Int)) = (most : Int) - 1 by omega] at ht
      refine ⟨.mk ⟨#[107]⟩ [t], ?_, by simp only [Tm.size, Tm.sizes]; omega, chk_knot (by decide) (by decide) (by simp [hc1]), namesIn_mk (by simp [names11]) (fun h => absurd h (by decide)) (by simp [hX1]), (by have := leafB_one (m := most) (by omega); simp [Tm.lvs, Tm.lvsL]; omega), fun h3 => noU_mk (by decide) (by simp [hU1 h3])⟩
      unfold MadeAt
      subst h1
      refine ac_R_Grow (Nat.le_of_ble_eq_true rfl) fun C hC => ?_
      unfold ir_R_Grow
      repeat' (first | (with_reducible first | refine Wa ?_ | refine Wb ?_ | refine Wc ?_ | refine Wd ?_ | refine We ?_ | refine Wf ?_ | refine Wg ?_ | refine Wh ?_ | refine Wi ?_ | refine Wj ?_ | refine Wk (by decide) ?_ | refine Wl ?_ | refine Wm ?_ | refine Wn ?_) | ((with_reducible first | refine Wo (fun K hK => ?_) | refine Wq ?_ | refine Wr ?_); (try simp only [go_sem, List.forall_mem_nil, ↓guard_ite, ↓pick_ite, seval, encT_eq, inR_i64]); (repeat with_reducible refine And.intro (by first | omega | (with_reducible first | exact lens_encT | exact lens_encL | exact lens_encB | exact lens_encP) | (simp; done) | (simp only [List.length_take, List.length_map, List.length_append, maxLen_eq]; omega)) ?_); (try (with_reducible refine hK _ ?_; clear hK K))))
      refine ⟨_, hraw, ?_⟩
      repeat' (first | (with_reducible first | refine Wa ?_ | refine Wb ?_ | refine Wc ?_ | refine Wd ?_ | refine We ?_ | refine Wf ?_ | refine Wg ?_ | refine Wh ?_ | refine Wi ?_ | refine Wj ?_ | refine Wk (by decide) ?_ | refine Wl ?_ | refine Wm ?_ | refine Wn ?_) | ((with_reducible first | refine Wo (fun K hK => ?_) | refine Wq ?_ | refine Wr ?_); (try simp only [go_sem, List.forall_mem_nil, ↓guard_ite, ↓pick_ite, seval, encT_eq, inR_i64, hm3]); (repeat with_reducible refine And.intro (by first | omega | (with_reducible first | exact lens_encT | exact lens_encL | exact lens_encB | exact lens_encP) | (simp; done) | (simp only [List.length_take, List.length_map, List.length_append, maxLen_eq]; omega)) ?_); (try (with_reducible refine hK _ ?_; clear hK K))))
      refine ⟨_, p5, ?_⟩
      repeat' (first | (with_reducible first | refine Wa ?_ | refine Wb ?_ | refine Wc ?_ | refine Wd ?_ | refine We ?_ | refine Wf ?_ | refine Wg ?_ | refine Wh ?_ | refine Wi ?_ | refine Wj ?_ | refine Wk (by decide) ?_ | refine Wl ?_ | refine Wm ?_ | refine Wn ?_) | ((with_reducible first | refine Wo (fun K hK => ?_) | refine Wq ?_ | refine Wr ?_); (try simp only [go_sem, List.forall_mem_nil, ↓guard_ite, ↓pick_ite, seval, encT_eq, inR_i64, h5]); (repeat with_reducible refine And.intro (by first | omega | (with_reducible first | exact lens_encT | exact lens_encL | exact lens_encB | exact lens_encP) | (simp; done) | (simp only [List.length_take, List.length_map, List.length_append, maxLen_eq]; omega)) ?_); (try (with_reducible refine hK _ ?_; clear hK K))))
      with_reducible refine Wp ?_
      simp only [go_sem, List.forall_mem_nil, ↓guard_ite, ↓pick_ite, seval, true_implies, false_implies, implies_true, decide_eq_true_eq, decide_eq_false_iff_not, Int.ofNat_lt]
      (try with_reducible refine ite_conj ?_)
      repeat' (first | (with_reducible first | refine Wa ?_ | refine Wb ?_ | refine Wc ?_ | refine Wd ?_ | refine We ?_ | refine Wf ?_ | refine Wg ?_ | refine Wh ?_ | refine Wi ?_ | refine Wj ?_ | refine Wk (by decide) ?_ | refine Wl ?_ | refine Wm ?_ | refine Wn ?_) | ((with_reducible first | refine Wo (fun K hK => ?_) | refine Wq ?_ | refine Wr ?_); (try simp only [go_sem, List.forall_mem_nil, ↓guard_ite, ↓pick_ite, seval, encT_eq, inR_i64, d5.1]); (repeat with_reducible refine And.intro (by first | omega | (with_reducible first | exact lens_encT | exact lens_encL | exact lens_encB | exact lens_encP) | (simp; done) | (simp only [List.length_take, List.length_map, List.length_append, maxLen_eq]; omega)) ?_); (try (with_reducible refine hK _ ?_; clear hK K))))
      refine ⟨_, p54, ?_⟩
      repeat' (first | (with_reducible first | refine Wa ?_ | refine Wb ?_ | refine Wc ?_ | refine Wd ?_ | refine We ?_ | refine Wf ?_ | refine Wg ?_ | refine Wh ?_ | refine Wi ?_ | refine Wj ?_ | refine Wk (by decide) ?_ | refine Wl ?_ | refine Wm ?_ | refine Wn ?_) | ((with_reducible first | refine Wo (fun K hK => ?_) | refine Wq ?_ | refine Wr ?_); (try simp only [go_sem, List.forall_mem_nil, ↓guard_ite, ↓pick_ite, seval, encT_eq, inR_i64]); (repeat with_reducible refine And.intro (by first | omega | (with_reducible first | exact lens_encT | exact lens_encL | exact lens_encB | exact lens_encP) | (simp; done) | (simp only [List.length_take, List.length_map, List.length_append, maxLen_eq]; omega)) ?_); (try (with_reducible refine hK _ ?_; clear hK K))))
      with_reducible refine Wp ?_
      simp only [go_sem, List.forall_mem_nil, ↓guard_ite, ↓pick_ite, seval, true_implies, false_implies, implies_true, decide_eq_true_eq, decide_eq_false_iff_not, Int.ofNat_lt]
      (try with_reducible refine ite_conj ?_)
      repeat' (first | (with_reducible first | refine Wa ?_ | refine Wb ?_ | refine Wc ?_ | refine Wd ?_ | refine We ?_ | refine Wf ?_ | refine Wg ?_ | refine Wh ?_ | refine Wi ?_ | refine Wj ?_ | refine Wk (by decide) ?_ | refine Wl ?_ | refine Wm ?_ | refine Wn ?_) | ((with_reducible first | refine Wo (fun K hK => ?_) | refine Wq ?_ | refine Wr ?_); (try simp only [go_sem, List.forall_mem_nil, ↓guard_ite, ↓pick_ite, seval, encT_eq, inR_i64]); (repeat with_reducible refine And.intro (by first | omega | (with_reducible first | exact lens_encT | exact lens_encL | exact lens_encB | exact lens_encP) | (simp; done) | (simp only [List.length_take, List.length_map, List.length_append, maxLen_eq]; omega)) ?_); (try (with_reducible refine hK _ ?_; clear hK K))))
      with_reducible refine Wp ?_
      simp only [go_sem, List.forall_mem_nil, ↓guard_ite, ↓pick_ite, seval, true_implies, false_implies, implies_true, decide_eq_true_eq, decide_eq_false_iff_not, Int.ofNat_lt]
      (try with_reducible refine ite_conj ?_)
      repeat' (first | (with_reducible first | refine Wa ?_ | refine Wb ?_ | refine Wc ?_ | refine Wd ?_ | refine We ?_ | refine Wf ?_ | refine Wg ?_ | refine Wh ?_ | refine Wi ?_ | refine Wj ?_ | refine Wk (by decide) ?_ | refine Wl ?_ | refine Wm ?_ | refine Wn ?_) | refine CallG.mk _ (ht) ?_ | ((with_reducible first | refine Wo (fun K hK => ?_) | refine Wq ?_ | refine Wr ?_); (try simp only [go_sem, List.forall_mem_nil, ↓guard_ite, ↓pick_ite, seval, encT_eq, inR_i64]); (repeat with_reducible refine And.intro (by first | omega | (with_reducible first | exact lens_encT | exact lens_encL | exact lens_encB | exact lens_encP) | (simp; done) | (simp only [List.length_take, List.length_map, List.length_append, maxLen_eq]; omega)) ?_); (try (with_reducible refine hK _ ?_; clear hK K))))
      simp only [go_sem, List.forall_mem_nil, ↓guard_ite, ↓pick_ite, seval, FinQ, AS.result, resAll, resOne, tupV]
      simp only [AV.tup.injEq, AV.agg.injEq, AV.one.injEq, AC.st.injEq, SV.int.injEq, SV.str.injEq, SV.bool.injEq, SV.list.injEq, List.cons.injEq, Option.some.injEq, true_and, and_true, eq_self, encT_eq, Tm.args_mk, Tm.name_mk, List.map_cons, List.map_nil, List.map_append, Tm.size, Tm.sizes]
      omega
    have d2 := tdiv_range (x := (most : Int)) (n := 2) (by omega) (by omega)
    have e2 : (most : Int) / 2 = ((most / 2 : Nat) : Int) := by omega
    obtain ⟨t, ht, hs, hc1, hX1, hL1, hU1⟩ := ih (most / 2) (by omega) (at_ + 1) (by omega) (by omega)
    obtain ⟨u, hu, hs', hc2, hX2, hL2, hU2⟩ := ih (most / 2) (by omega) (at_ + 1 + t.size) (by omega) (by omega)
    obtain ⟨nm, hnm, hok, hnv, hin⟩ : ∃ nm, [([.str ⟨#[102]⟩] : List SV), [.str ⟨#[103]⟩]][(x54 - 2).toNat]? = some [.str nm] ∧ nameOk nm = true ∧ isVar nm = false ∧ nm ∈ names11 := by
      have : (x54 - 2).toNat = 0 ∨ (x54 - 2).toNat = 1 := by omega
      rcases this with h | h <;> rw [h] <;> exact ⟨_, rfl, by decide, by decide, by simp [names11]⟩
    refine ⟨.mk nm [t, u], ?_, by simp only [Tm.size, Tm.sizes]; omega, chk_knot hok hnv (by simp [hc1, hc2]), namesIn_mk hin (fun h => by rw [hnv] at h; cases h) (by simp [hX1, hX2]), (by have := leafB_two (m := most) (by omega); simp [Tm.lvs, Tm.lvsL]; omega), fun h3 => noU_mk (fun e => by rw [e] at hnv; exact absurd hnv (by decide)) (by simp [hU1 h3, hU2 h3])⟩
    unfold MadeAt at ht hu ⊢
    rw [show (((at_ + 1 : Nat) : Int)) = (at_ : Int) + 1 by omega] at ht
    refine ac_R_Grow (Nat.le_of_ble_eq_true rfl) fun C hC => ?_
    unfold ir_R_Grow
    repeat' (first | (with_reducible first | refine Wa ?_ | refine Wb ?_ | refine Wc ?_ | refine Wd ?_ | refine We ?_ | refine Wf ?_ | refine Wg ?_ | refine Wh ?_ | refine Wi ?_ | refine Wj ?_ | refine Wk (by decide) ?_ | refine Wl ?_ | refine Wm ?_ | refine Wn ?_) | ((with_reducible first | refine Wo (fun K hK => ?_) | refine Wq ?_ | refine Wr ?_); (try simp only [go_sem, List.forall_mem_nil, ↓guard_ite, ↓pick_ite, seval, encT_eq, inR_i64]); (repeat with_reducible refine And.intro (by first | omega | (with_reducible first | exact lens_encT | exact lens_encL | exact lens_encB | exact lens_encP) | (simp; done) | (simp only [List.length_take, List.length_map, List.length_append, maxLen_eq]; omega)) ?_); (try (with_reducible refine hK _ ?_; clear hK K))))
    refine ⟨_, hraw, ?_⟩
    repeat' (first | (with_reducible first | refine Wa ?_ | refine Wb ?_ | refine Wc ?_ | refine Wd ?_ | refine We ?_ | refine Wf ?_ | refine Wg ?_ | refine Wh ?_ | refine Wi ?_ | refine Wj ?_ | refine Wk (by decide) ?_ | refine Wl ?_ | refine Wm ?_ | refine Wn ?_) | ((with_reducible first | refine Wo (fun K hK => ?_) | refine Wq ?_ | refine Wr ?_); (try simp only [go_sem, List.forall_mem_nil, ↓guard_ite, ↓pick_ite, seval, encT_eq, inR_i64, hm3]); (repeat with_reducible refine And.intro (by first | omega | (with_reducible first | exact lens_encT | exact lens_encL | exact lens_encB | exact lens_encP) | (simp; done) | (simp only [List.length_take, List.length_map, List.length_append, maxLen_eq]; omega)) ?_); (try (with_reducible refine hK _ ?_; clear hK K))))
    refine ⟨_, p5, ?_⟩
    repeat' (first | (with_reducible first | refine Wa ?_ | refine Wb ?_ | refine Wc ?_ | refine Wd ?_ | refine We ?_ | refine Wf ?_ | refine Wg ?_ | refine Wh ?_ | refine Wi ?_ | refine Wj ?_ | refine Wk (by decide) ?_ | refine Wl ?_ | refine Wm ?_ | refine Wn ?_) | ((with_reducible first | refine Wo (fun K hK => ?_) | refine Wq ?_ | refine Wr ?_); (try simp only [go_sem, List.forall_mem_nil, ↓guard_ite, ↓pick_ite, seval, encT_eq, inR_i64, h5]); (repeat with_reducible refine And.intro (by first | omega | (with_reducible first | exact lens_encT | exact lens_encL | exact lens_encB | exact lens_encP) | (simp; done) | (simp only [List.length_take, List.length_map, List.length_append, maxLen_eq]; omega)) ?_); (try (with_reducible refine hK _ ?_; clear hK K))))
    with_reducible refine Wp ?_
    simp only [go_sem, List.forall_mem_nil, ↓guard_ite, ↓pick_ite, seval, true_implies, false_implies, implies_true, decide_eq_true_eq, decide_eq_false_iff_not, Int.ofNat_lt]
    (try with_reducible refine ite_conj ?_)
    repeat' (first | (with_reducible first | refine Wa ?_ | refine Wb ?_ | refine Wc ?_ | refine Wd ?_ | refine We ?_ | refine Wf ?_ | refine Wg ?_ | refine Wh ?_ | refine Wi ?_ | refine Wj ?_ | refine Wk (by decide) ?_ | refine Wl ?_ | refine Wm ?_ | refine Wn ?_) | ((with_reducible first | refine Wo (fun K hK => ?_) | refine Wq ?_ | refine Wr ?_); (try simp only [go_sem, List.forall_mem_nil, ↓guard_ite, ↓pick_ite, seval, encT_eq, inR_i64, d5.1]); (repeat with_reducible refine And.intro (by first | omega | (with_reducible first | exact lens_encT | exact lens_encL | exact lens_encB | exact lens_encP) | (simp; done) | (simp only [List.length_take, List.length_map, List.length_append, maxLen_eq]; omega)) ?_); (try (with_reducible refine hK _ ?_; clear hK K))))
    refine ⟨_, p54, ?_⟩
    repeat' (first | (with_reducible first | refine Wa ?_ | refine Wb ?_ | refine Wc ?_ | refine Wd ?_ | refine We ?_ | refine Wf ?_ | refine Wg ?_ | refine Wh ?_ | refine Wi ?_ | refine Wj ?_ | refine Wk (by decide) ?_ | refine Wl ?_ | refine Wm ?_ | refine Wn ?_) | ((with_reducible first | refine Wo (fun K hK => ?_) | refine Wq ?_ | refine Wr ?_); (try simp only [go_sem, List.forall_mem_nil, ↓guard_ite, ↓pick_ite, seval, encT_eq, inR_i64]); (repeat with_reducible refine And.intro (by first | omega | (with_reducible first | exact lens_encT | exact lens_encL | exact lens_encB | exact lens_encP) | (simp; done) | (simp only [List.length_take, List.length_map, List.length_append, maxLen_eq]; omega)) ?_); (try (with_reducible refine hK _ ?_; clear hK K))))
    with_reducible refine Wp ?_
    simp only [go_sem, List.forall_mem_nil, ↓guard_ite, ↓pick_ite, seval, true_implies, false_implies, implies_true, decide_eq_true_eq, decide_eq_false_iff_not, Int.ofNat_lt, h0]
    (try with_reducible refine ite_conj ?_)
    repeat' (first | (with_reducible first | refine Wa ?_ | refine Wb ?_ | refine Wc ?_ | refine Wd ?_ | refine We ?_ | refine Wf ?_ | refine Wg ?_ | refine Wh ?_ | refine Wi ?_ | refine Wj ?_ | refine Wk (by decide) ?_ | refine Wl ?_ | refine Wm ?_ | refine Wn ?_) | ((with_reducible first | refine Wo (fun K hK => ?_) | refine Wq ?_ | refine Wr ?_); (try simp only [go_sem, List.forall_mem_nil, ↓guard_ite, ↓pick_ite, seval, encT_eq, inR_i64]); (repeat with_reducible refine And.intro (by first | omega | (with_reducible first | exact lens_encT | exact lens_encL | exact lens_encB | exact lens_encP) | (simp; done) | (simp only [List.length_take, List.length_map, List.length_append, maxLen_eq]; omega)) ?_); (try (with_reducible refine hK _ ?_; clear hK K))))
    with_reducible refine Wp ?_
    simp only [go_sem, List.forall_mem_nil, ↓guard_ite, ↓pick_ite, seval, true_implies, false_implies, implies_true, decide_eq_true_eq, decide_eq_false_iff_not, Int.ofNat_lt, h1]
    (try with_reducible refine ite_conj ?_)
    repeat' (first | (with_reducible first | refine Wa ?_ | refine Wb ?_ | refine Wc ?_ | refine Wd ?_ | refine We ?_ | refine Wf ?_ | refine Wg ?_ | refine Wh ?_ | refine Wi ?_ | refine Wj ?_ | refine Wk (by decide) ?_ | refine Wl ?_ | refine Wm ?_ | refine Wn ?_) | refine CallG.mk _ (ht) ?_ | refine CallG.mk _ (hu) ?_ | refine CallG.mk _ (p54) ?_ | ((with_reducible first | refine Wo (fun K hK => ?_) | refine Wq ?_ | refine Wr ?_); (try simp only [go_sem, List.forall_mem_nil, ↓guard_ite, ↓pick_ite, seval, encT_eq, inR_i64, d2.1, e2, d5.1, hnm]); (repeat with_reducible refine And.intro (by first | omega | (with_reducible first | exact lens_encT | exact lens_encL | exact lens_encB | exact lens_encP) | (simp; done) | (simp only [List.length_take, List.length_map, List.length_append, maxLen_eq]; omega)) ?_); (try (with_reducible refine hK _ ?_; clear hK K))))
    simp only [go_sem, List.forall_mem_nil, ↓guard_ite, ↓pick_ite, seval, FinQ, AS.result, resAll, resOne, tupV]
    simp only [AV.tup.injEq, AV.agg.injEq, AV.one.injEq, AC.st.injEq, SV.int.injEq, SV.str.injEq, SV.bool.injEq, SV.list.injEq, List.cons.injEq, Option.some.injEq, true_and, and_true, eq_self, encT_eq, Tm.args_mk, Tm.name_mk, List.map_cons, List.map_nil, List.map_append, Tm.size, Tm.sizes]
    omega
theorem grow_v (l : List Int) (hl : ∀ n ∈ l, inR .i64 n) (hm : l.length ≤ maxLen) (vars : Int) (hv : 1 ≤ vars ∧ vars ≤ 4) (most at_ : Nat) (h1 : most ≤ 1000) (h2 : at_ + 2 * most ≤ 900000) : ∃ t : Tm, MadeAt l at_ most vars t ∧ t.size + 1 ≤ max 2 (2 * most) ∧ t.chk = 0 ∧ NamesIn vars t := by
  obtain ⟨t, a, b, c, d, _⟩ := grow_w l hl hm vars hv most at_ h1 h2
  exact ⟨t, a, b, c, d⟩
theorem grow_a (l : List Int) (hl : ∀ n ∈ l, inR .i64 n) (hm : l.length ≤ maxLen) (vars : Int) (hv : 1 ≤ vars ∧ vars ≤ 4) (most at_ : Nat) (h1 : most ≤ 1000) (h2 : at_ + 2 * most ≤ 900000) : ∃ t : Tm, MadeAt l at_ most vars t ∧ t.size + 1 ≤ max 2 (2 * most) ∧ t.chk = 0 := by
  obtain ⟨t, a, b, c, _⟩ := grow_v l hl hm vars hv most at_ h1 h2
  exact ⟨t, a, b, c⟩
theorem termOf_a (l : List Int) (hl : ∀ n ∈ l, inR .i64 n) (hm : l.length ≤ maxLen) (vars : Int) (hv : 1 ≤ vars ∧ vars ≤ 4) (most at_ : Nat) (h1 : most ≤ 1000) (h2 : at_ + 2 * most ≤ 900000) :
    ∃ t : Tm, ACalls Try.prog 10 [aInts l, aInt at_, aInt most, aInt vars] (aTm t) ∧ t.size + 1 ≤ max 2 (2 * most) ∧ t.chk = 0 := by
  obtain ⟨t, ht, hs, hc⟩ := grow_a l hl hm vars hv most at_ h1 h2
  refine ⟨t, ?_, hs, hc⟩
  unfold MadeAt at ht
  refine ac_R_TermOf (Nat.le_of_ble_eq_true rfl) fun C hC => ?_
  unfold ir_R_TermOf
  repeat' (first | (with_reducible first | refine Wa ?_ | refine Wb ?_ | refine Wc ?_ | refine Wd ?_ | refine We ?_ | refine Wf ?_ | refine Wg ?_ | refine Wh ?_ | refine Wi ?_ | refine Wj ?_ | refine Wk (by decide) ?_ | refine Wl ?_ | refine Wm ?_ | refine Wn ?_) | refine CallG.mk _ (ht) ?_ | ((with_reducible first | refine Wo (fun K hK => ?_) | refine Wq ?_ | refine Wr ?_); (try simp only [go_sem, List.forall_mem_nil, ↓guard_ite, ↓pick_ite, seval, encT_eq, inR_i64]); (repeat with_reducible refine And.intro (by first | omega | (with_reducible first | exact lens_encT | exact lens_encL | exact lens_encB | exact lens_encP) | (simp; done) | (simp only [List.length_take, List.length_map, List.length_append, maxLen_eq]; omega)) ?_); (try (with_reducible refine hK _ ?_; clear hK K))))
  simp only [go_sem, List.forall_mem_nil, ↓guard_ite, ↓pick_ite, seval, FinQ, AS.result, resAll, resOne, tupV]
end Go.Proofs.Ytohgkbgpcnmdpaa

namespace Go.Proofs.Ytohgkbgpcnmdpaa
open Go Go.RowKit
set_option linter.unusedVariables false
theorem on_more {s s' : List Bd} {x : ByteArray} {t : Tm} (hn : Named s) (hn' : Named s') (hx : ∀ b ∈ s, b.1 ≠ x)
    (hm : ∀ b, b ∈ s' ↔ (∃ c ∈ s, b = (c.1, c.2.on [(x, t)])) ∨ b = (x, t)) {u : Tm} : u.on s' = (u.on s).on [(x, t)] ∨ u.args ≠ [] := by
  by_cases h0 : u.args = []
  · left
    rw [tm_leaf h0]
    generalize u.name = y
    cases hl : lookup s y with
    | some v =>
      have hmem := (lookup_iff hn).1 hl
      rw [Tm.on_leaf (t := vT y) hl rfl, Tm.on_leaf (t := vT y) ((lookup_iff hn').2 ((hm _).2 (.inl ⟨_, hmem, rfl⟩))) rfl]
    | none =>
      have e : (vT y).on s = vT y := by rw [Tm.on_knot (t := vT y) (.inl hl)]; rfl
      rw [e]
      by_cases hy : x = y
      · subst hy
        rw [Tm.on_leaf (t := vT x) (s := s') ((lookup_iff hn').2 ((hm _).2 (.inr rfl))) rfl, Tm.on_leaf (t := vT x) (x := t) (by show lookup [(x, t)] x = some t; simp [lookup]) rfl]
      · have h1 : lookup s' y = none := lookup_none fun b hb e => by
          rcases (hm b).1 hb with ⟨c, hc, rfl⟩ | rfl
          · exact lookup_dom hl c hc e
          · exact hy e
        have h2 : lookup [(x, t)] y = none := lookup_none fun b hb e => by
          rw [List.mem_singleton] at hb
          subst hb
          exact hy e
        rw [Tm.on_knot (t := vT y) (.inl h1), Tm.on_knot (t := vT y) (.inl h2)]
        rfl
  · exact .inr h0
theorem on_more' {s s' : List Bd} {x : ByteArray} {t : Tm} (hn : Named s) (hn' : Named s') (hx : ∀ b ∈ s, b.1 ≠ x)
    (hm : ∀ b, b ∈ s' ↔ (∃ c ∈ s, b = (c.1, c.2.on [(x, t)])) ∨ b = (x, t)) (u : Tm) : u.on s' = (u.on s).on [(x, t)] := by
  induction hN : SizeOf.sizeOf u using Nat.strongRecOn generalizing u with
  | _ N ih =>
  subst hN
  rcases on_more hn hn' hx hm (u := u) with h | h
  · exact h
  · rw [on_args h, on_args h, on_args (t := Tm.mk u.name (u.args.map (Tm.on s))) (by rw [Tm.args_mk]; simpa using h), Tm.args_mk, List.map_map]
    congr 1
    exact List.map_congr_left fun a ha => ih _ (Tm.lt_of_arg ha) a rfl
theorem size_lvs {s : List Bd} {M : Nat} (u : Tm) (h : ∀ y v, occ y u = true → lookup s y = some v → v.size ≤ M) : (u.on s).size ≤ u.size + u.lvs * M := by
  induction hN : SizeOf.sizeOf u using Nat.strongRecOn generalizing u with
  | _ N ih =>
  subst hN
  by_cases h0 : u.args = []
  · have hlv : u.lvs = 1 := by
      cases u with
      | mk n xs =>
        change xs = [] at h0
        subst h0
        rfl
    rw [hlv]
    cases hl : lookup s u.name with
    | some v =>
      rw [Tm.on_leaf hl h0]
      have := h u.name v (occ_iff.2 (.inl rfl)) hl
      omega
    | none =>
      rw [Tm.on_knot (.inl hl), h0, Tm.size_eq u, h0]
      show (Tm.mk u.name []).size ≤ _
      simp [Tm.size, Tm.sizes]
  · have key : ∀ xs : List Tm, (∀ a ∈ xs, (a.on s).size ≤ a.size + a.lvs * M) → Tm.sizes (xs.map (Tm.on s)) ≤ Tm.sizes xs + Tm.lvsL xs * M := by
      intro xs
      induction xs with
      | nil => intro _; simp [Tm.sizes]
      | cons x xs ihx =>
        intro hx
        have h1 := hx x (by simp)
        have h2 := ihx fun a ha => hx a (by simp [ha])
        simp only [List.map_cons, Tm.sizes, Tm.lvsL, Nat.add_mul]
        omega
    have h1 := key u.args fun a ha => ih _ (Tm.lt_of_arg ha) a (fun y v hy => h y v (occ_arg ha hy)) rfl
    have hlv : Tm.lvsL u.args ≤ u.lvs := by
      cases u with
      | mk n xs =>
        show Tm.lvsL xs ≤ _
        rw [Tm.lvs]
        omega
    have h2 := Nat.mul_le_mul_right M hlv
    rw [on_args h0, Tm.size_eq (.mk _ _), Tm.size_eq u, Tm.args_mk]
    omega
structure Knots (K : List Tm) : Prop where
  arg : ∀ u ∈ K, ∀ a ∈ u.args, a ∈ K
  chk : ∀ u ∈ K, u.chk = 0
  siz : ∀ u ∈ K, u.size ≤ 17
  lvs : ∀ u ∈ K, u.lvs ≤ 4
  noU : ∀ u ∈ K, ∀ y, occ y u = true → isVar y = true → y ∈ ([⟨#[88]⟩, ⟨#[89]⟩, ⟨#[90]⟩] : List ByteArray)
def Free (s : List Bd) (u : Tm) : Prop := ∀ c ∈ s, c.1 ≠ u.name
structure Shared (K : List Tm) (s : List Bd) (l : List Pr) : Prop where
  val : ∀ b ∈ s, ∃ u ∈ K, Free s u ∧ b.2 = u.on s
  pr : ∀ p ∈ l, (∃ u ∈ K, p.1.on s = u.on s) ∧ ∃ v ∈ K, p.2.on s = v.on s
  nam : ∀ b ∈ s, b.1 ∈ ([⟨#[88]⟩, ⟨#[89]⟩, ⟨#[90]⟩] : List ByteArray)
section
variable {K : List Tm} (hK : Knots K) {s : List Bd} {l : List Pr}
include hK
theorem Shared.norm (h : Shared K s l) (hn : Named s) {u : Tm} (hu : u ∈ K) (hv : ∀ b ∈ s, isVar b.1 = true) : ∃ w ∈ K, Free s w ∧ w.on s = u.on s := by
  by_cases hf : ∀ c ∈ s, c.1 ≠ u.name
  · exact ⟨u, hu, hf, rfl⟩
  · obtain ⟨c, hc, he⟩ : ∃ c ∈ s, c.1 = u.name := by
      simpa [Classical.not_forall] using hf
    have h0 := (Tm.chk_args (hK.chk u hu)).1 (by rw [← he]; exact hv c hc)
    obtain ⟨w, hw, hf, e⟩ := h.val c hc
    refine ⟨w, hw, hf, ?_⟩
    rw [Tm.on_leaf (x := c.2) ((lookup_iff hn).2 (by rw [← he]; exact hc)) h0, e]
theorem Shared.small (h : Shared K s l) (hn : Named s) (hv : ∀ b ∈ s, isVar b.1 = true) : ∀ b ∈ s, b.2.size ≤ 357 := by
  have step : ∀ M, ∀ b ∈ s, 17 + 4 * M < b.2.size → ∃ c ∈ s, c.2.size < b.2.size ∧ M < c.2.size := by
    intro M b hb hz
    obtain ⟨u, hu, hf, e⟩ := h.val b hb
    refine Classical.byContradiction fun hno => ?_
    have hle : ∀ y v, occ y u = true → lookup s y = some v → v.size ≤ M := fun y v hy hl => by
      refine Classical.byContradiction fun hgt => hno ?_
      have hmem := (lookup_iff hn).1 hl
      refine ⟨_, hmem, ?_, by show M < v.size; omega⟩
      have h1 := (occ_size (θ := s) (hv _ hmem) (hK.chk u hu) hy).2 (fun e => hf _ hmem e.symm)
      rw [Tm.on_leaf (t := vT y) hl rfl, ← e] at h1
      exact h1
    have h1 := size_lvs u hle
    have h2 := hK.siz u hu
    have h3 := Nat.mul_le_mul_right M (hK.lvs u hu)
    rw [← e] at h1
    omega
  intro b hb
  refine Classical.byContradiction fun hz => ?_
  obtain ⟨c, hc, c1, c2⟩ := step 85 b hb (by omega)
  obtain ⟨d, hd, d1, d2⟩ := step 17 c hc (by omega)
  obtain ⟨f, hf, f1, f2⟩ := step 0 d hd (by omega)
  have ne : ∀ {p q : Bd}, p ∈ s → q ∈ s → p.2.size < q.2.size → p.1 ≠ q.1 := fun {p q} hp hq hlt e => by
    have h1 := (lookup_iff hn).2 (show (p.1, p.2) ∈ s from hp)
    have h2 := (lookup_iff hn).2 (show (q.1, q.2) ∈ s from hq)
    rw [e, h2] at h1
    injection h1 with h1
    rw [h1] at hlt
    omega
  have hnd : [b.1, c.1, d.1, f.1].Nodup := by
    have n1 := (ne hc hb c1).symm
    have n2 := (ne hd hb (by omega)).symm
    have n3 := (ne hf hb (by omega)).symm
    have n4 := (ne hd hc d1).symm
    have n5 := (ne hf hc (by omega)).symm
    have n6 := (ne hf hd f1).symm
    simp [n1, n2, n3, n4, n5, n6]
  have := nodup_sub hnd (m := [⟨#[88]⟩, ⟨#[89]⟩, ⟨#[90]⟩]) (by
    intro y hy
    simp only [List.mem_cons, List.not_mem_nil, or_false] at hy
    rcases hy with rfl | rfl | rfl | rfl
    · exact h.nam b hb
    · exact h.nam c hc
    · exact h.nam d hd
    · exact h.nam f hf)
  simp at this
theorem Shared.fits (h : Shared K s l) (hn : Named s) (hv : ∀ b ∈ s, isVar b.1 = true) {u : Tm} (hu : u ∈ K) : (u.on s).size ≤ 2000 := by
  have hs := h.small hK hn hv
  have h1 := size_lvs (s := s) (M := 357) u fun y v hy hl => by
    have hmem := (lookup_iff hn).1 hl
    exact hs _ hmem
  have h2 := hK.siz u hu
  have h3 := Nat.mul_le_mul_right 357 (hK.lvs u hu)
  omega
def bindS (s : List Bd) (x : ByteArray) (t : Tm) : List Bd := sortB (s.map (fun b => (b.1, b.2.on [(x, t)])) ++ [(x, t)])
omit hK in
theorem bindS_mem {x : ByteArray} {t : Tm} (b : Bd) : b ∈ bindS s x t ↔ (∃ c ∈ s, b = (c.1, c.2.on [(x, t)])) ∨ b = (x, t) := by
  unfold bindS
  rw [sortB_mem, List.mem_append, List.mem_map, List.mem_singleton]
  constructor
  · rintro (⟨c, hc, rfl⟩ | h)
    · exact .inl ⟨c, hc, rfl⟩
    · exact .inr h
  · rintro (⟨c, hc, rfl⟩ | h)
    · exact .inl ⟨c, hc, rfl⟩
    · exact .inr h
omit hK in
theorem bindS_named {x : ByteArray} {t : Tm} (hn : Named s) (hx : ∀ b ∈ s, b.1 ≠ x) : Named (bindS s x t) := by
  refine ordered_named (sortB_ordered ?_)
  unfold Named at hn ⊢
  rw [List.map_append, List.map_map, List.nodup_append]
  refine ⟨hn, by simp, fun a ha b hb e => ?_⟩
  obtain ⟨c, hc, rfl⟩ := List.mem_map.1 ha
  simp only [List.map_cons, List.map_nil, List.mem_singleton] at hb
  exact hx c hc (e.trans hb)
theorem Shared.bind (h : Shared K s l) (hn : Named s) (hv : ∀ b ∈ s, isVar b.1 = true) {x : ByteArray} {t v w : Tm} (hxv : isVar x = true) (hx : ∀ b ∈ s, b.1 ≠ x) (hw : w ∈ K) (hwx : w.on s = vT x) (hvK : v ∈ K) (hvt : v.on s = t) (ho : occ x t = false) : Shared K (bindS s x t) l ∧ Named (bindS s x t) ∧ ∀ u : Tm, u.on (bindS s x t) = (u.on s).on [(x, t)] := by
  have hn' := bindS_named (t := t) hn hx
  have hon := on_more' hn hn' hx (fun b => bindS_mem b)
  have hself : t.on [(x, t)] = t := on_id fun b hb => by
    rw [List.mem_singleton] at hb
    subst hb
    exact ho
  have isx : ∀ {u : Tm}, u ∈ K → Free s u → u.name = x → u.on s = vT x := fun {u} hu hf e => by
    have h0 := (Tm.chk_args (hK.chk u hu)).1 (by rw [e]; exact hxv)
    rw [Tm.on_knot (.inl (lookup_none hf)), h0, e]
    rfl
  obtain ⟨v', hv', hf', e'⟩ := h.norm hK hn hvK hv
  rw [hvt] at e'
  have hv'x : v'.name ≠ x := fun e => by
    have := isx hv' hf' e
    rw [e'] at this
    rw [this] at ho
    have : occ x (vT x) = true := occ_iff.2 (.inl rfl)
    rw [this] at ho
    cases ho
  have free' : ∀ {u : Tm}, Free s u → u.name ≠ x → Free (bindS s x t) u := fun {u} hf hne c hc => by
    rcases (bindS_mem c).1 hc with ⟨d, hd, rfl⟩ | rfl
    · exact hf d hd
    · exact fun e => hne e.symm
  have hvx : t = v'.on (bindS s x t) := by rw [hon, e', hself]
  have hxn : x ∈ ([⟨#[88]⟩, ⟨#[89]⟩, ⟨#[90]⟩] : List ByteArray) := by
    obtain ⟨w', hw', hfw, ew⟩ := h.norm hK hn hw hv
    rw [hwx] at ew
    rw [Tm.on_knot (.inl (lookup_none hfw))] at ew
    injection ew with e1 e2
    exact hK.noU w' hw' x (occ_iff.2 (.inl e1)) hxv
  refine ⟨⟨fun b hb => ?_, fun p hp => ?_, fun b hb => ?_⟩, hn', hon⟩
  · rcases (bindS_mem b).1 hb with ⟨c, hc, rfl⟩ | rfl
    · obtain ⟨u, hu, hf, e⟩ := h.val c hc
      by_cases hux : u.name = x
      · refine ⟨v', hv', free' hf' hv'x, ?_⟩
        show c.2.on [(x, t)] = _
        rw [e, isx hu hf hux, Tm.on_leaf (t := vT x) (x := t) (by show lookup [(x, t)] x = some t; simp [lookup]) rfl]
        exact hvx
      · exact ⟨u, hu, free' hf hux, by show c.2.on [(x, t)] = _; rw [hon, e]⟩
    · exact ⟨v', hv', free' hf' hv'x, hvx⟩
  · obtain ⟨⟨u1, k1, e1⟩, u2, k2, e2⟩ := h.pr p hp
    exact ⟨⟨u1, k1, by rw [hon, hon, e1]⟩, u2, k2, by rw [hon, hon, e2]⟩
  · rcases (bindS_mem b).1 hb with ⟨c, hc, rfl⟩ | rfl
    · exact h.nam c hc
    · exact hxn
theorem Shared.step {U : List ByteArray} {C : Nat} {p : Pr} (g : UGood U C s (p :: l)) (h : Shared K s (p :: l)) : stepU s p ≠ .err 8 ∧ ∀ s' ps, stepU s p = .go s' ps → Shared K s' (ps ++ l) := by
  have hn := ordered_named g.ord
  obtain ⟨⟨u1, k1, e1⟩, u2, k2, e2⟩ := h.pr p (by simp)
  obtain ⟨hc1, hc2⟩ := g.lchk p (by simp)
  have hU := g.lU p (by simp)
  obtain ⟨a1, a2, a3⟩ := onU g hc1 fun y => (hU y).1
  obtain ⟨b1, b2, b3⟩ := onU g hc2 fun y => (hU y).2
  have ht : Shared K s l := ⟨h.val, fun q hq => h.pr q (by simp [hq]), h.nam⟩
  have f1 := h.fits hK hn g.var k1
  have f2 := h.fits hK hn g.var k2
  rw [← e1] at f1
  rw [← e2] at f2
  have nameNo : ∀ {t : Tm}, NoDom s t → ∀ b ∈ s, b.1 ≠ t.name := fun {t} hnd b hb e => (occ_no (hnd b hb)).1 e.symm
  have bind : ∀ {a t w v : Tm}, isVar a.name = true → a.chk = 0 → NoDom s a → w ∈ K → a = w.on s → v ∈ K → t = v.on s → bindV s a.name t ≠ .err 8 ∧ ∀ s' ps, bindV s a.name t = .go s' ps → Shared K s' (ps ++ l) := by
    intro a t w v hav hac hnd hw ew hvK ev
    have hal := tm_leaf ((Tm.chk_args hac).1 hav)
    unfold bindV
    by_cases ho : occ a.name t = true
    · rw [if_pos ho]
      exact ⟨by simp, fun s' ps hh => by cases hh⟩
    · rw [if_neg ho]
      obtain ⟨q1, q2, q3⟩ := ht.bind hK hn g.var hav (nameNo hnd) hw (by rw [← ew]; exact hal) hvK ev.symm (by simpa using ho)
      have hv' : ∀ b ∈ bindS s a.name t, isVar b.1 = true := fun b hb => by
        rcases (bindS_mem b).1 hb with ⟨c, hc, rfl⟩ | rfl
        · exact g.var c hc
        · exact hav
      have hall : (s.all fun b => decide ((b.2.on [(a.name, t)]).size ≤ 2000)) = true := List.all_eq_true.2 fun b hb => decide_eq_true (by
        obtain ⟨u, hu, _, e⟩ := ht.val b hb
        rw [e, ← q3]
        exact q1.fits hK q2 hv' hu)
      rw [if_pos hall]
      refine ⟨by simp, fun s' ps hh => ?_⟩
      cases hh
      exact q1
  unfold stepU
  rw [if_neg (by omega)]
  split
  · refine ⟨by simp, fun s' ps hh => ?_⟩
    cases hh
    exact ht
  split
  · rename_i hv
    exact bind hv a1 a2 k1 e1 k2 e2
  split
  · rename_i hv
    exact bind hv b1 b2 k2 e2 k1 e1
  rename_i hv1 hv2
  split
  · refine ⟨by simp, fun s' ps hh => ?_⟩
    cases hh
    refine ⟨h.val, fun q hq => ?_, h.nam⟩
    rcases List.mem_append.1 hq with hq | hq
    · -- an argument of a knot's value is a knot's value
      have arg : ∀ {q w : Tm} {u : Tm}, u ∈ K → q = u.on s → NoDom s q → ¬ isVar q.name = true → w ∈ q.args → ∃ z ∈ K, w.on s = z.on s := by
        intro q w u hu e hnd hqv hw
        obtain ⟨z, hz, hf, ez⟩ := h.norm hK hn hu g.var
        rw [← e] at ez
        have hid : w.on s = w := on_id fun b hb => (occ_no (hnd b hb)).2 w hw
        rw [← ez, Tm.on_knot (.inl (lookup_none hf)), Tm.args_mk] at hw
        obtain ⟨c, hc, rfl⟩ := List.mem_map.1 hw
        exact ⟨c, hK.arg z hz c hc, hid⟩
      exact ⟨arg k1 e1 a2 hv1 (zip_mem hq).1, arg k2 e2 b2 hv2 (zip_mem hq).2⟩
    · exact h.pr q (by simp [hq])
  · exact ⟨by simp, fun s' ps hh => by cases hh⟩
theorem none_full {U : List ByteArray} {C : Nat} {n : Nat} {r : List Bd × Int} (hr : UEnds n s l r) : UGood U C s l → Shared K s l → r.2 ≠ 8 := by
  induction hr with
  | nil => intro _ _ h; cases h
  | @err s p l e he =>
    intro g h h8
    change e = 8 at h8
    subst h8
    exact (h.step hK g).1 he
  | @go s p l s' ps n r hst hr ih =>
    intro g h
    exact ih (step_good g hst).1 ((h.step hK g).2 _ _ hst)
end
end Go.Proofs.Ytohgkbgpcnmdpaa
