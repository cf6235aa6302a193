/-
  Part 14 of the texts: BSubst2; PRew; PThen; PCompose; PMatch2; PRules; IrBoth; BBoth; BEnds. Conditions: none.
-/
import Derived.Test.YtkekmeiiikkabaaRewE13
namespace Go.Proofs.Ytkekmeiiikkabaa
open Go Go.RowKit
set_option linter.unusedVariables false
set_option linter.unusedSimpArgs false
set_option maxHeartbeats 400000

/-- The reference's substitution. -/
theorem onR_a (s : List Bd) (t : Tm) (hz : t.size ≤ 1000000) : ACalls Try.prog 64 [aBds s, aTm t] (aTm (t.on s)) := by
  induction h : SizeOf.sizeOf t using Nat.strongRecOn generalizing t with
  | _ N ih =>
  subst h
  have hs := Tm.size_eq t
  have hkn := Tm.length_le t.args
  by_cases hleaf : (∃ x, lookup s t.name = some x) ∧ t.args = []
  · obtain ⟨⟨x, hx⟩, h0⟩ := hleaf
    have h0' : (t.args.length : Int) = 0 := by rw [h0]; rfl
    rw [Tm.on_leaf hx h0]
    refine ac_R_on (Nat.le_of_ble_eq_true rfl) fun C hC => ?_
    unfold ir_R_on
    repeat' (first | (with_reducible first | refine Wa ?_ | refine Wb ?_ | refine Wc ?_ | refine Wd ?_ | refine We ?_ | refine Wf ?_ | refine Wg ?_ | refine Wh ?_ | refine Wi ?_ | refine Wj ?_ | refine Wk (by decide) ?_ | refine Wl ?_ | refine Wm ?_ | refine Wn ?_) | refine CallG.mk _ (for_a s t.name) ?_ | ((with_reducible first | refine Wo (fun K hK => ?_) | refine Wq ?_ | refine Wr ?_); (try simp only [go_sem, List.forall_mem_nil, ↓guard_ite, ↓pick_ite, seval, encT_eq, inR_i64, hx, h0', Option.isSome_some]); (repeat with_reducible refine And.intro (by first | omega | (with_reducible first | exact lens_encT | exact lens_encL | exact lens_encB | exact lens_encP) | (simp; done) | (simp only [List.length_take, List.length_map, List.length_append, maxLen_eq]; omega)) ?_); (try (with_reducible refine hK _ ?_; clear hK K))))
    with_reducible refine Wp ?_
    simp only [go_sem, List.forall_mem_nil, ↓guard_ite, ↓pick_ite, seval, true_implies, false_implies, implies_true, decide_eq_true_eq, decide_eq_false_iff_not, Int.ofNat_lt]
    (try with_reducible refine ite_conj ?_)
    repeat' (first | (with_reducible first | refine Wa ?_ | refine Wb ?_ | refine Wc ?_ | refine Wd ?_ | refine We ?_ | refine Wf ?_ | refine Wg ?_ | refine Wh ?_ | refine Wi ?_ | refine Wj ?_ | refine Wk (by decide) ?_ | refine Wl ?_ | refine Wm ?_ | refine Wn ?_) | ((with_reducible first | refine Wo (fun K hK => ?_) | refine Wq ?_ | refine Wr ?_); (try simp only [go_sem, List.forall_mem_nil, ↓guard_ite, ↓pick_ite, seval, encT_eq, inR_i64]); (repeat with_reducible refine And.intro (by first | omega | (with_reducible first | exact lens_encT | exact lens_encL | exact lens_encB | exact lens_encP) | (simp; done) | (simp only [List.length_take, List.length_map, List.length_append, maxLen_eq]; omega)) ?_); (try (with_reducible refine hK _ ?_; clear hK K))))
    simp only [go_sem, List.forall_mem_nil, ↓guard_ite, ↓pick_ite, seval, FinQ, AS.result, resAll, resOne, tupV]
  · have hon : t.on s = .mk t.name (t.args.map (Tm.on s)) := Tm.on_knot (by
      cases hl : lookup s t.name with
      | none => exact .inl rfl
      | some x => exact .inr fun h0 => hleaf ⟨⟨x, hl⟩, h0⟩)
    rw [hon]
    refine ac_R_on (Nat.le_of_ble_eq_true rfl) fun C hC => ?_
    unfold ir_R_on
    repeat' (first | (with_reducible first | refine Wa ?_ | refine Wb ?_ | refine Wc ?_ | refine Wd ?_ | refine We ?_ | refine Wf ?_ | refine Wg ?_ | refine Wh ?_ | refine Wi ?_ | refine Wj ?_ | refine Wk (by decide) ?_ | refine Wl ?_ | refine Wm ?_ | refine Wn ?_) | ((with_reducible first | refine Wo (fun K hK => ?_) | refine Wq ?_ | refine Wr ?_); (try simp only [go_sem, List.forall_mem_nil, ↓guard_ite, ↓pick_ite, seval, encT_eq, inR_i64]); (repeat with_reducible refine And.intro (by first | omega | (with_reducible first | exact lens_encT | exact lens_encL | exact lens_encB | exact lens_encP) | (simp; done) | (simp only [List.length_take, List.length_map, List.length_append, maxLen_eq]; omega)) ?_); (try (with_reducible refine hK _ ?_; clear hK K))))
    refine ⟨_, for_a s t.name, ?_⟩
    cases hl : lookup s t.name
    case' none =>
      repeat' (first | (with_reducible first | refine Wa ?_ | refine Wb ?_ | refine Wc ?_ | refine Wd ?_ | refine We ?_ | refine Wf ?_ | refine Wg ?_ | refine Wh ?_ | refine Wi ?_ | refine Wj ?_ | refine Wk (by decide) ?_ | refine Wl ?_ | refine Wm ?_ | refine Wn ?_) | ((with_reducible first | refine Wo (fun K hK => ?_) | refine Wq ?_ | refine Wr ?_); (try simp only [go_sem, List.forall_mem_nil, ↓guard_ite, ↓pick_ite, seval, encT_eq, inR_i64, hl, Option.isSome_none]); (repeat with_reducible refine And.intro (by first | omega | (with_reducible first | exact lens_encT | exact lens_encL | exact lens_encB | exact lens_encP) | (simp; done) | (simp only [List.length_take, List.length_map, List.length_append, maxLen_eq]; omega)) ?_); (try (with_reducible refine hK _ ?_; clear hK K))))
      with_reducible refine Wp ?_
      simp only [go_sem, List.forall_mem_nil, ↓guard_ite, ↓pick_ite, seval, true_implies, false_implies, implies_true, decide_eq_true_eq, decide_eq_false_iff_not, Int.ofNat_lt]
      (try with_reducible refine ite_conj ?_)
      repeat' (first | (with_reducible first | refine Wa ?_ | refine Wb ?_ | refine Wc ?_ | refine Wd ?_ | refine We ?_ | refine Wf ?_ | refine Wg ?_ | refine Wh ?_ | refine Wi ?_ | refine Wj ?_ | refine Wk (by decide) ?_ | refine Wl ?_ | refine Wm ?_ | refine Wn ?_) | ((with_reducible first | refine Wo (fun K hK => ?_) | refine Wq ?_ | refine Wr ?_); (try simp only [go_sem, List.forall_mem_nil, ↓guard_ite, ↓pick_ite, seval, encT_eq, inR_i64]); (repeat with_reducible refine And.intro (by first | omega | (with_reducible first | exact lens_encT | exact lens_encL | exact lens_encB | exact lens_encP) | (simp; done) | (simp only [List.length_take, List.length_map, List.length_append, maxLen_eq]; omega)) ?_); (try (with_reducible refine hK _ ?_; clear hK K))))
    case' some x =>
      have h0' : ¬ (t.args.length : Int) = 0 := fun h => hleaf ⟨⟨_, hl⟩, List.eq_nil_of_length_eq_zero (by omega)⟩
      repeat' (first | (with_reducible first | refine Wa ?_ | refine Wb ?_ | refine Wc ?_ | refine Wd ?_ | refine We ?_ | refine Wf ?_ | refine Wg ?_ | refine Wh ?_ | refine Wi ?_ | refine Wj ?_ | refine Wk (by decide) ?_ | refine Wl ?_ | refine Wm ?_ | refine Wn ?_) | ((with_reducible first | refine Wo (fun K hK => ?_) | refine Wq ?_ | refine Wr ?_); (try simp only [go_sem, List.forall_mem_nil, ↓guard_ite, ↓pick_ite, seval, encT_eq, inR_i64, hl, h0', Option.isSome_some]); (repeat with_reducible refine And.intro (by first | omega | (with_reducible first | exact lens_encT | exact lens_encL | exact lens_encB | exact lens_encP) | (simp; done) | (simp only [List.length_take, List.length_map, List.length_append, maxLen_eq]; omega)) ?_); (try (with_reducible refine hK _ ?_; clear hK K))))
      with_reducible refine Wp ?_
      simp only [go_sem, List.forall_mem_nil, ↓guard_ite, ↓pick_ite, seval, true_implies, false_implies, implies_true, decide_eq_true_eq, decide_eq_false_iff_not, Int.ofNat_lt]
      (try with_reducible refine ite_conj ?_)
      repeat' (first | (with_reducible first | refine Wa ?_ | refine Wb ?_ | refine Wc ?_ | refine Wd ?_ | refine We ?_ | refine Wf ?_ | refine Wg ?_ | refine Wh ?_ | refine Wi ?_ | refine Wj ?_ | refine Wk (by decide) ?_ | refine Wl ?_ | refine Wm ?_ | refine Wn ?_) | ((with_reducible first | refine Wo (fun K hK => ?_) | refine Wq ?_ | refine Wr ?_); (try simp only [go_sem, List.forall_mem_nil, ↓guard_ite, ↓pick_ite, seval, encT_eq, inR_i64]); (repeat with_reducible refine And.intro (by first | omega | (with_reducible first | exact lens_encT | exact lens_encL | exact lens_encB | exact lens_encP) | (simp; done) | (simp only [List.length_take, List.length_map, List.length_append, maxLen_eq]; omega)) ?_); (try (with_reducible refine hK _ ?_; clear hK K))))
    all_goals
      refine IWP.ghost (Ghost.ownC 7 1 44 25 2 (xs := ([] : List Tm).map encT) rfl rfl rfl lens_encT) ?_
      refine IWP.loop (fun m x => ∃ k, k ≤ t.args.length ∧ m = t.args.length - k ∧ x.env 0 = aBds s ∧ x.env 3 = .one (.ptr 3 1 0 0) ∧ x.env 4 = .one (.ptr 4 1 0 0) ∧ x.env 7 = .one (.ptr 7 1 0 0) ∧ x.S 3 = some (.box 25 [.st (.str t.name), .st (.list (t.args.map encT))]) ∧ x.S 4 = some (.box 25 [.st (.str ⟨#[]⟩), .full []]) ∧ x.S 7 = some (.box 25 [.st (.str t.name), .row 44 k]) ∧ x.S 44 = some (.arow 25 2 (((t.args.take k).map (Tm.on s)).map encT)) ∧ x.env 8 = aInt k)
        t.args.length ⟨0, Nat.zero_le _, rfl, rfl, rfl, rfl, rfl, rfl, rfl, rfl, rfl, rfl⟩ ?_
      rintro m ⟨env, S⟩ ⟨k, hk, rfl, e0, e3, e4, e7, s3, s4, s7, s44, e8⟩
      simp only at e0 e3 e4 e7 s3 s4 s7 s44 e8
      have hlk : (t.args.take k).length = k := by rw [List.length_take]; omega
      by_cases hlt : (k : Int) < t.args.length
      · obtain ⟨a, ha⟩ := get_lt (show k < t.args.length by omega)
        repeat' (first | (with_reducible first | refine Wa ?_ | refine Wb ?_ | refine Wc ?_ | refine Wd ?_ | refine We ?_ | refine Wf ?_ | refine Wg ?_ | refine Wh ?_ | refine Wi ?_ | refine Wj ?_ | refine Wk (by decide) ?_ | refine Wl ?_ | refine Wm ?_ | refine Wn ?_) | ((with_reducible first | refine Wo (fun K hK => ?_) | refine Wq ?_ | refine Wr ?_); (try simp only [go_sem, List.forall_mem_nil, ↓guard_ite, ↓pick_ite, seval, encT_eq, inR_i64, e0, e3, e4, e7, s3, s4, s7, s44, e8, hlt]); (repeat with_reducible refine And.intro (by first | omega | (with_reducible first | exact lens_encT | exact lens_encL | exact lens_encB | exact lens_encP) | (simp; done) | (simp only [List.length_take, List.length_map, List.length_append, maxLen_eq]; omega)) ?_); (try (with_reducible refine hK _ ?_; clear hK K))))
        with_reducible refine Wp ?_
        simp only [go_sem, List.forall_mem_nil, ↓guard_ite, ↓pick_ite, seval, true_implies, false_implies, implies_true, decide_eq_true_eq, decide_eq_false_iff_not, Int.ofNat_lt, hlt]
        (try with_reducible refine ite_conj ?_)
        repeat' (first | (with_reducible first | refine Wa ?_ | refine Wb ?_ | refine Wc ?_ | refine Wd ?_ | refine We ?_ | refine Wf ?_ | refine Wg ?_ | refine Wh ?_ | refine Wi ?_ | refine Wj ?_ | refine Wk (by decide) ?_ | refine Wl ?_ | refine Wm ?_ | refine Wn ?_) | refine CallG.mk _ (ih _ (Tm.lt_of_arg (mem_of_get ha)) a (by have := Tm.size_mem (mem_of_get ha); omega) rfl) ?_ | ((with_reducible first | refine Wo (fun K hK => ?_) | refine Wq ?_ | refine Wr ?_); (try simp only [go_sem, List.forall_mem_nil, ↓guard_ite, ↓pick_ite, seval, encT_eq, inR_i64, e0, e3, e4, e7, s3, s4, s7, s44, e8, ha, hlk]); (repeat with_reducible refine And.intro (by first | omega | (with_reducible first | exact lens_encT | exact lens_encL | exact lens_encB | exact lens_encP) | (simp; done) | (simp only [List.length_take, List.length_map, List.length_append, maxLen_eq]; omega)) ?_); (try (with_reducible refine hK _ ?_; clear hK K))))
        refine then_normal ⟨t.args.length - (k + 1), by omega, k + 1, by omega, rfl, ?_⟩
        simp only [go_sem, List.forall_mem_nil, ↓guard_ite, ↓pick_ite, seval, encT_eq, inR_i64, e0, e3, e4, e7, s3, s4, s7, s44, e8]
        exact ⟨by rw [take_snoc ha]; simp [encT_eq], by congr 3⟩
      · repeat' (first | (with_reducible first | refine Wa ?_ | refine Wb ?_ | refine Wc ?_ | refine Wd ?_ | refine We ?_ | refine Wf ?_ | refine Wg ?_ | refine Wh ?_ | refine Wi ?_ | refine Wj ?_ | refine Wk (by decide) ?_ | refine Wl ?_ | refine Wm ?_ | refine Wn ?_) | ((with_reducible first | refine Wo (fun K hK => ?_) | refine Wq ?_ | refine Wr ?_); (try simp only [go_sem, List.forall_mem_nil, ↓guard_ite, ↓pick_ite, seval, encT_eq, inR_i64, e0, e3, e4, e7, s3, s4, s7, s44, e8, hlt]); (repeat with_reducible refine And.intro (by first | omega | (with_reducible first | exact lens_encT | exact lens_encL | exact lens_encB | exact lens_encP) | (simp; done) | (simp only [List.length_take, List.length_map, List.length_append, maxLen_eq]; omega)) ?_); (try (with_reducible refine hK _ ?_; clear hK K))))
        with_reducible refine Wp ?_
        simp only [go_sem, List.forall_mem_nil, ↓guard_ite, ↓pick_ite, seval, true_implies, false_implies, implies_true, decide_eq_true_eq, decide_eq_false_iff_not, Int.ofNat_lt, hlt]
        (try with_reducible refine ite_conj ?_)
        have hall : t.args.take k = t.args := List.take_of_length_le (by omega)
        rw [hall] at hlk s44
        repeat' (first | (with_reducible first | refine Wa ?_ | refine Wb ?_ | refine Wc ?_ | refine Wd ?_ | refine We ?_ | refine Wf ?_ | refine Wg ?_ | refine Wh ?_ | refine Wi ?_ | refine Wj ?_ | refine Wk (by decide) ?_ | refine Wl ?_ | refine Wm ?_ | refine Wn ?_) | ((with_reducible first | refine Wo (fun K hK => ?_) | refine Wq ?_ | refine Wr ?_); (try simp only [go_sem, List.forall_mem_nil, ↓guard_ite, ↓pick_ite, seval, encT_eq, inR_i64, e0, e3, e4, e7, s3, s4, s7, s44, e8, hlk]); (repeat with_reducible refine And.intro (by first | omega | (with_reducible first | exact lens_encT | exact lens_encL | exact lens_encB | exact lens_encP) | (simp; done) | (simp only [List.length_take, List.length_map, List.length_append, maxLen_eq]; omega)) ?_); (try (with_reducible refine hK _ ?_; clear hK K))))
        simp only [go_sem, List.forall_mem_nil, ↓guard_ite, ↓pick_ite, seval, FinQ, AS.result, resAll, resOne, tupV, e4, s44, hlk]
        rfl

/-- How great it would be. -/
theorem grown_a (s : List Bd) (t : Tm) (m : Int) (h0 : 0 ≤ m) (h1 : m ≤ 9223372036854775806) : ACalls Try.prog 63 [aBds s, aTm t, aInt m] (aInt (capTo (t.on s).size m)) := by
  induction h : SizeOf.sizeOf t using Nat.strongRecOn generalizing t m with
  | _ N ih =>
  subst h
  by_cases hleaf : (∃ x, lookup s t.name = some x) ∧ t.args = []
  · obtain ⟨⟨x, hx⟩, ha0⟩ := hleaf
    have h0' : (t.args.length : Int) = 0 := by rw [ha0]; rfl
    rw [Tm.on_leaf hx ha0]
    refine ac_R_grown (Nat.le_of_ble_eq_true rfl) fun C hC => ?_
    unfold ir_R_grown
    repeat' (first | (with_reducible first | refine Wa ?_ | refine Wb ?_ | refine Wc ?_ | refine Wd ?_ | refine We ?_ | refine Wf ?_ | refine Wg ?_ | refine Wh ?_ | refine Wi ?_ | refine Wj ?_ | refine Wk (by decide) ?_ | refine Wl ?_ | refine Wm ?_ | refine Wn ?_) | refine CallG.mk _ (for_a s t.name) ?_ | ((with_reducible first | refine Wo (fun K hK => ?_) | refine Wq ?_ | refine Wr ?_); (try simp only [go_sem, List.forall_mem_nil, ↓guard_ite, ↓pick_ite, seval, encT_eq, inR_i64, hx, h0', Option.isSome_some]); (repeat with_reducible refine And.intro (by first | omega | (with_reducible first | exact lens_encT | exact lens_encL | exact lens_encB | exact lens_encP) | (simp; done) | (simp only [List.length_take, List.length_map, List.length_append, maxLen_eq]; omega)) ?_); (try (with_reducible refine hK _ ?_; clear hK K))))
    with_reducible refine Wp ?_
    simp only [go_sem, List.forall_mem_nil, ↓guard_ite, ↓pick_ite, seval, true_implies, false_implies, implies_true, decide_eq_true_eq, decide_eq_false_iff_not, Int.ofNat_lt]
    (try with_reducible refine ite_conj ?_)
    repeat' (first | (with_reducible first | refine Wa ?_ | refine Wb ?_ | refine Wc ?_ | refine Wd ?_ | refine We ?_ | refine Wf ?_ | refine Wg ?_ | refine Wh ?_ | refine Wi ?_ | refine Wj ?_ | refine Wk (by decide) ?_ | refine Wl ?_ | refine Wm ?_ | refine Wn ?_) | refine CallG.mk _ (sizeR_a x m h0 h1) ?_ | ((with_reducible first | refine Wo (fun K hK => ?_) | refine Wq ?_ | refine Wr ?_); (try simp only [go_sem, List.forall_mem_nil, ↓guard_ite, ↓pick_ite, seval, encT_eq, inR_i64]); (repeat with_reducible refine And.intro (by first | omega | (with_reducible first | exact lens_encT | exact lens_encL | exact lens_encB | exact lens_encP) | (simp; done) | (simp only [List.length_take, List.length_map, List.length_append, maxLen_eq]; omega)) ?_); (try (with_reducible refine hK _ ?_; clear hK K))))
    simp only [go_sem, List.forall_mem_nil, ↓guard_ite, ↓pick_ite, seval, FinQ, AS.result, resAll, resOne, tupV]
  · have hon : t.on s = .mk t.name (t.args.map (Tm.on s)) := Tm.on_knot (by
      cases hl : lookup s t.name with
      | none => exact .inl rfl
      | some x => exact .inr fun h0 => hleaf ⟨⟨x, hl⟩, h0⟩)
    have hs : (t.on s).size = 1 + Tm.sizes (t.args.map (Tm.on s)) := by rw [hon]; rfl
    refine ac_R_grown (Nat.le_of_ble_eq_true rfl) fun C hC => ?_
    unfold ir_R_grown
    refine IWP.learn 1 (by omega) fun hkn => ?_
    have hkn := known_tm hkn
    repeat' (first | (with_reducible first | refine Wa ?_ | refine Wb ?_ | refine Wc ?_ | refine Wd ?_ | refine We ?_ | refine Wf ?_ | refine Wg ?_ | refine Wh ?_ | refine Wi ?_ | refine Wj ?_ | refine Wk (by decide) ?_ | refine Wl ?_ | refine Wm ?_ | refine Wn ?_) | ((with_reducible first | refine Wo (fun K hK => ?_) | refine Wq ?_ | refine Wr ?_); (try simp only [go_sem, List.forall_mem_nil, ↓guard_ite, ↓pick_ite, seval, encT_eq, inR_i64]); (repeat with_reducible refine And.intro (by first | omega | (with_reducible first | exact lens_encT | exact lens_encL | exact lens_encB | exact lens_encP) | (simp; done) | (simp only [List.length_take, List.length_map, List.length_append, maxLen_eq]; omega)) ?_); (try (with_reducible refine hK _ ?_; clear hK K))))
    refine ⟨_, for_a s t.name, ?_⟩
    cases hl : lookup s t.name
    case' none =>
      repeat' (first | (with_reducible first | refine Wa ?_ | refine Wb ?_ | refine Wc ?_ | refine Wd ?_ | refine We ?_ | refine Wf ?_ | refine Wg ?_ | refine Wh ?_ | refine Wi ?_ | refine Wj ?_ | refine Wk (by decide) ?_ | refine Wl ?_ | refine Wm ?_ | refine Wn ?_) | ((with_reducible first | refine Wo (fun K hK => ?_) | refine Wq ?_ | refine Wr ?_); (try simp only [go_sem, List.forall_mem_nil, ↓guard_ite, ↓pick_ite, seval, encT_eq, inR_i64, hl, Option.isSome_none]); (repeat with_reducible refine And.intro (by first | omega | (with_reducible first | exact lens_encT | exact lens_encL | exact lens_encB | exact lens_encP) | (simp; done) | (simp only [List.length_take, List.length_map, List.length_append, maxLen_eq]; omega)) ?_); (try (with_reducible refine hK _ ?_; clear hK K))))
      with_reducible refine Wp ?_
      simp only [go_sem, List.forall_mem_nil, ↓guard_ite, ↓pick_ite, seval, true_implies, false_implies, implies_true, decide_eq_true_eq, decide_eq_false_iff_not, Int.ofNat_lt]
      (try with_reducible refine ite_conj ?_)
      repeat' (first | (with_reducible first | refine Wa ?_ | refine Wb ?_ | refine Wc ?_ | refine Wd ?_ | refine We ?_ | refine Wf ?_ | refine Wg ?_ | refine Wh ?_ | refine Wi ?_ | refine Wj ?_ | refine Wk (by decide) ?_ | refine Wl ?_ | refine Wm ?_ | refine Wn ?_) | ((with_reducible first | refine Wo (fun K hK => ?_) | refine Wq ?_ | refine Wr ?_); (try simp only [go_sem, List.forall_mem_nil, ↓guard_ite, ↓pick_ite, seval, encT_eq, inR_i64]); (repeat with_reducible refine And.intro (by first | omega | (with_reducible first | exact lens_encT | exact lens_encL | exact lens_encB | exact lens_encP) | (simp; done) | (simp only [List.length_take, List.length_map, List.length_append, maxLen_eq]; omega)) ?_); (try (with_reducible refine hK _ ?_; clear hK K))))
    case' some x =>
      have h0' : ¬ (t.args.length : Int) = 0 := fun h => hleaf ⟨⟨_, hl⟩, List.eq_nil_of_length_eq_zero (by omega)⟩
      repeat' (first | (with_reducible first | refine Wa ?_ | refine Wb ?_ | refine Wc ?_ | refine Wd ?_ | refine We ?_ | refine Wf ?_ | refine Wg ?_ | refine Wh ?_ | refine Wi ?_ | refine Wj ?_ | refine Wk (by decide) ?_ | refine Wl ?_ | refine Wm ?_ | refine Wn ?_) | ((with_reducible first | refine Wo (fun K hK => ?_) | refine Wq ?_ | refine Wr ?_); (try simp only [go_sem, List.forall_mem_nil, ↓guard_ite, ↓pick_ite, seval, encT_eq, inR_i64, hl, h0', Option.isSome_some]); (repeat with_reducible refine And.intro (by first | omega | (with_reducible first | exact lens_encT | exact lens_encL | exact lens_encB | exact lens_encP) | (simp; done) | (simp only [List.length_take, List.length_map, List.length_append, maxLen_eq]; omega)) ?_); (try (with_reducible refine hK _ ?_; clear hK K))))
      with_reducible refine Wp ?_
      simp only [go_sem, List.forall_mem_nil, ↓guard_ite, ↓pick_ite, seval, true_implies, false_implies, implies_true, decide_eq_true_eq, decide_eq_false_iff_not, Int.ofNat_lt]
      (try with_reducible refine ite_conj ?_)
      repeat' (first | (with_reducible first | refine Wa ?_ | refine Wb ?_ | refine Wc ?_ | refine Wd ?_ | refine We ?_ | refine Wf ?_ | refine Wg ?_ | refine Wh ?_ | refine Wi ?_ | refine Wj ?_ | refine Wk (by decide) ?_ | refine Wl ?_ | refine Wm ?_ | refine Wn ?_) | ((with_reducible first | refine Wo (fun K hK => ?_) | refine Wq ?_ | refine Wr ?_); (try simp only [go_sem, List.forall_mem_nil, ↓guard_ite, ↓pick_ite, seval, encT_eq, inR_i64]); (repeat with_reducible refine And.intro (by first | omega | (with_reducible first | exact lens_encT | exact lens_encL | exact lens_encB | exact lens_encP) | (simp; done) | (simp only [List.length_take, List.length_map, List.length_append, maxLen_eq]; omega)) ?_); (try (with_reducible refine hK _ ?_; clear hK K))))
    all_goals
      refine IWP.loop (fun n x => ∃ k, k ≤ t.args.length ∧ n = t.args.length - k ∧ x.env 9 = aInt (capTo (1 + Tm.sizes ((t.args.take k).map (Tm.on s))) m) ∧ x.env 0 = aBds s ∧ x.env 2 = aInt m ∧ x.env 4 = .one (.ptr 4 1 0 0) ∧ x.env 10 = aInt k ∧ x.S 4 = some (.box 25 [.st (.str t.name), .st (.list (t.args.map encT))])) t.args.length ⟨0, Nat.zero_le _, rfl, by
        simp only [go_sem, List.forall_mem_nil, ↓guard_ite, ↓pick_ite, seval, encT_eq, inR_i64]
        rw [capTo]
        have z0 : Tm.sizes [] = 0 := rfl
        congr 3
        split <;> omega, rfl, rfl, rfl, rfl, rfl⟩ ?_
      rintro n ⟨env, S⟩ ⟨k, hk, rfl, e9, e0, e2, e4, e10, s4⟩
      simp only at e9 e0 e2 e4 e10 s4
      have z4 := capTo_le (1 + Tm.sizes ((t.args.take k).map (Tm.on s))) m h0
      have zle : 1 + Tm.sizes ((t.args.take k).map (Tm.on s)) ≤ (t.on s).size := by
        rw [hs, List.map_take]
        have := Tm.sizes_take_le (t.args.map (Tm.on s)) k
        omega
      by_cases hlt : (k : Int) < t.args.length
      · obtain ⟨a, ha⟩ := get_lt (show k < t.args.length by omega)
        have ha' : (t.args.map (Tm.on s))[k]? = some (a.on s) := by rw [List.getElem?_map, ha]; rfl
        have z1 := Tm.sizes_take ha'
        rw [← List.map_take, ← List.map_take] at z1
        by_cases hb : m < capTo (1 + Tm.sizes ((t.args.take k).map (Tm.on s))) m
        · have hb' : ¬ capTo (1 + Tm.sizes ((t.args.take k).map (Tm.on s))) m ≤ m := by omega
          repeat' (first | (with_reducible first | refine Wa ?_ | refine Wb ?_ | refine Wc ?_ | refine Wd ?_ | refine We ?_ | refine Wf ?_ | refine Wg ?_ | refine Wh ?_ | refine Wi ?_ | refine Wj ?_ | refine Wk (by decide) ?_ | refine Wl ?_ | refine Wm ?_ | refine Wn ?_) | ((with_reducible first | refine Wo (fun K hK => ?_) | refine Wq ?_ | refine Wr ?_); (try simp only [go_sem, List.forall_mem_nil, ↓guard_ite, ↓pick_ite, seval, encT_eq, inR_i64, e9, e0, e2, e4, e10, s4, hlt, hb']); (repeat with_reducible refine And.intro (by first | omega | (with_reducible first | exact lens_encT | exact lens_encL | exact lens_encB | exact lens_encP) | (simp; done) | (simp only [List.length_take, List.length_map, List.length_append, maxLen_eq]; omega)) ?_); (try (with_reducible refine hK _ ?_; clear hK K))))
          with_reducible refine Wp ?_
          simp only [go_sem, List.forall_mem_nil, ↓guard_ite, ↓pick_ite, seval, true_implies, false_implies, implies_true, decide_eq_true_eq, decide_eq_false_iff_not, Int.ofNat_lt, hb']
          (try with_reducible refine ite_conj ?_)
          repeat' (first | (with_reducible first | refine Wa ?_ | refine Wb ?_ | refine Wc ?_ | refine Wd ?_ | refine We ?_ | refine Wf ?_ | refine Wg ?_ | refine Wh ?_ | refine Wi ?_ | refine Wj ?_ | refine Wk (by decide) ?_ | refine Wl ?_ | refine Wm ?_ | refine Wn ?_) | ((with_reducible first | refine Wo (fun K hK => ?_) | refine Wq ?_ | refine Wr ?_); (try simp only [go_sem, List.forall_mem_nil, ↓guard_ite, ↓pick_ite, seval, encT_eq, inR_i64, e9, e2]); (repeat with_reducible refine And.intro (by first | omega | (with_reducible first | exact lens_encT | exact lens_encL | exact lens_encB | exact lens_encP) | (simp; done) | (simp only [List.length_take, List.length_map, List.length_append, maxLen_eq]; omega)) ?_); (try (with_reducible refine hK _ ?_; clear hK K))))
          with_reducible refine Wp ?_
          simp only [go_sem, List.forall_mem_nil, ↓guard_ite, ↓pick_ite, seval, true_implies, false_implies, implies_true, decide_eq_true_eq, decide_eq_false_iff_not, Int.ofNat_lt, hb]
          (try with_reducible refine ite_conj ?_)
          repeat' (first | (with_reducible first | refine Wa ?_ | refine Wb ?_ | refine Wc ?_ | refine Wd ?_ | refine We ?_ | refine Wf ?_ | refine Wg ?_ | refine Wh ?_ | refine Wi ?_ | refine Wj ?_ | refine Wk (by decide) ?_ | refine Wl ?_ | refine Wm ?_ | refine Wn ?_) | ((with_reducible first | refine Wo (fun K hK => ?_) | refine Wq ?_ | refine Wr ?_); (try simp only [go_sem, List.forall_mem_nil, ↓guard_ite, ↓pick_ite, seval, encT_eq, inR_i64, e2]); (repeat with_reducible refine And.intro (by first | omega | (with_reducible first | exact lens_encT | exact lens_encL | exact lens_encB | exact lens_encP) | (simp; done) | (simp only [List.length_take, List.length_map, List.length_append, maxLen_eq]; omega)) ?_); (try (with_reducible refine hK _ ?_; clear hK K))))
          simp only [go_sem, List.forall_mem_nil, ↓guard_ite, ↓pick_ite, seval, FinQ, AS.result, resAll, resOne, tupV]
          rw [capTo_over hb zle]
        · have hb' : capTo (1 + Tm.sizes ((t.args.take k).map (Tm.on s))) m ≤ m := by omega
          obtain ⟨b1, b2⟩ := capTo_in hb
          repeat' (first | (with_reducible first | refine Wa ?_ | refine Wb ?_ | refine Wc ?_ | refine Wd ?_ | refine We ?_ | refine Wf ?_ | refine Wg ?_ | refine Wh ?_ | refine Wi ?_ | refine Wj ?_ | refine Wk (by decide) ?_ | refine Wl ?_ | refine Wm ?_ | refine Wn ?_) | ((with_reducible first | refine Wo (fun K hK => ?_) | refine Wq ?_ | refine Wr ?_); (try simp only [go_sem, List.forall_mem_nil, ↓guard_ite, ↓pick_ite, seval, encT_eq, inR_i64, e9, e0, e2, e4, e10, s4, hlt, hb']); (repeat with_reducible refine And.intro (by first | omega | (with_reducible first | exact lens_encT | exact lens_encL | exact lens_encB | exact lens_encP) | (simp; done) | (simp only [List.length_take, List.length_map, List.length_append, maxLen_eq]; omega)) ?_); (try (with_reducible refine hK _ ?_; clear hK K))))
          with_reducible refine Wp ?_
          simp only [go_sem, List.forall_mem_nil, ↓guard_ite, ↓pick_ite, seval, true_implies, false_implies, implies_true, decide_eq_true_eq, decide_eq_false_iff_not, Int.ofNat_lt, hb']
          (try with_reducible refine ite_conj ?_)
          repeat' (first | (with_reducible first | refine Wa ?_ | refine Wb ?_ | refine Wc ?_ | refine Wd ?_ | refine We ?_ | refine Wf ?_ | refine Wg ?_ | refine Wh ?_ | refine Wi ?_ | refine Wj ?_ | refine Wk (by decide) ?_ | refine Wl ?_ | refine Wm ?_ | refine Wn ?_) | ((with_reducible first | refine Wo (fun K hK => ?_) | refine Wq ?_ | refine Wr ?_); (try simp only [go_sem, List.forall_mem_nil, ↓guard_ite, ↓pick_ite, seval, encT_eq, inR_i64, e9, e0, e2, e4, e10, s4, ha]); (repeat with_reducible refine And.intro (by first | omega | (with_reducible first | exact lens_encT | exact lens_encL | exact lens_encB | exact lens_encP) | (simp; done) | (simp only [List.length_take, List.length_map, List.length_append, maxLen_eq]; omega)) ?_); (try (with_reducible refine hK _ ?_; clear hK K))))
          refine ⟨_, ih _ (Tm.lt_of_arg (mem_of_get ha)) a (m - capTo (1 + Tm.sizes ((t.args.take k).map (Tm.on s))) m) (by omega) (by omega) rfl, ?_⟩
          have z5 := capTo_le (a.on s).size (m - capTo (1 + Tm.sizes ((t.args.take k).map (Tm.on s))) m) (by omega)
          repeat' (first | (with_reducible first | refine Wa ?_ | refine Wb ?_ | refine Wc ?_ | refine Wd ?_ | refine We ?_ | refine Wf ?_ | refine Wg ?_ | refine Wh ?_ | refine Wi ?_ | refine Wj ?_ | refine Wk (by decide) ?_ | refine Wl ?_ | refine Wm ?_ | refine Wn ?_) | ((with_reducible first | refine Wo (fun K hK => ?_) | refine Wq ?_ | refine Wr ?_); (try simp only [go_sem, List.forall_mem_nil, ↓guard_ite, ↓pick_ite, seval, encT_eq, inR_i64, e9, e0, e2, e4, e10, s4]); (repeat with_reducible refine And.intro (by first | omega | (with_reducible first | exact lens_encT | exact lens_encL | exact lens_encB | exact lens_encP) | (simp; done) | (simp only [List.length_take, List.length_map, List.length_append, maxLen_eq]; omega)) ?_); (try (with_reducible refine hK _ ?_; clear hK K))))
          refine then_normal ⟨t.args.length - (k + 1), by omega, k + 1, by omega, rfl, ?_⟩
          simp only [go_sem, List.forall_mem_nil, ↓guard_ite, ↓pick_ite, seval, encT_eq, inR_i64, e9, e0, e2, e4, e10, s4]
          exact ⟨by rw [b1, capTo_step b2, z1]; congr 4; omega, by congr 3⟩
      · repeat' (first | (with_reducible first | refine Wa ?_ | refine Wb ?_ | refine Wc ?_ | refine Wd ?_ | refine We ?_ | refine Wf ?_ | refine Wg ?_ | refine Wh ?_ | refine Wi ?_ | refine Wj ?_ | refine Wk (by decide) ?_ | refine Wl ?_ | refine Wm ?_ | refine Wn ?_) | ((with_reducible first | refine Wo (fun K hK => ?_) | refine Wq ?_ | refine Wr ?_); (try simp only [go_sem, List.forall_mem_nil, ↓guard_ite, ↓pick_ite, seval, encT_eq, inR_i64, e9, e0, e2, e4, e10, s4, hlt]); (repeat with_reducible refine And.intro (by first | omega | (with_reducible first | exact lens_encT | exact lens_encL | exact lens_encB | exact lens_encP) | (simp; done) | (simp only [List.length_take, List.length_map, List.length_append, maxLen_eq]; omega)) ?_); (try (with_reducible refine hK _ ?_; clear hK K))))
        with_reducible refine Wp ?_
        simp only [go_sem, List.forall_mem_nil, ↓guard_ite, ↓pick_ite, seval, true_implies, false_implies, implies_true, decide_eq_true_eq, decide_eq_false_iff_not, Int.ofNat_lt]
        (try with_reducible refine ite_conj ?_)
        have hfull : 1 + Tm.sizes ((t.args.take k).map (Tm.on s)) = (t.on s).size := by rw [List.take_of_length_le (by omega), hs]
        rw [hfull] at e9 z4
        repeat' (first | (with_reducible first | refine Wa ?_ | refine Wb ?_ | refine Wc ?_ | refine Wd ?_ | refine We ?_ | refine Wf ?_ | refine Wg ?_ | refine Wh ?_ | refine Wi ?_ | refine Wj ?_ | refine Wk (by decide) ?_ | refine Wl ?_ | refine Wm ?_ | refine Wn ?_) | ((with_reducible first | refine Wo (fun K hK => ?_) | refine Wq ?_ | refine Wr ?_); (try simp only [go_sem, List.forall_mem_nil, ↓guard_ite, ↓pick_ite, seval, encT_eq, inR_i64, e9, e2]); (repeat with_reducible refine And.intro (by first | omega | (with_reducible first | exact lens_encT | exact lens_encL | exact lens_encB | exact lens_encP) | (simp; done) | (simp only [List.length_take, List.length_map, List.length_append, maxLen_eq]; omega)) ?_); (try (with_reducible refine hK _ ?_; clear hK K))))
        by_cases hb : m < capTo (t.on s).size m
        · with_reducible refine Wp ?_
          simp only [go_sem, List.forall_mem_nil, ↓guard_ite, ↓pick_ite, seval, true_implies, false_implies, implies_true, decide_eq_true_eq, decide_eq_false_iff_not, Int.ofNat_lt, hb]
          (try with_reducible refine ite_conj ?_)
          repeat' (first | (with_reducible first | refine Wa ?_ | refine Wb ?_ | refine Wc ?_ | refine Wd ?_ | refine We ?_ | refine Wf ?_ | refine Wg ?_ | refine Wh ?_ | refine Wi ?_ | refine Wj ?_ | refine Wk (by decide) ?_ | refine Wl ?_ | refine Wm ?_ | refine Wn ?_) | ((with_reducible first | refine Wo (fun K hK => ?_) | refine Wq ?_ | refine Wr ?_); (try simp only [go_sem, List.forall_mem_nil, ↓guard_ite, ↓pick_ite, seval, encT_eq, inR_i64, e2]); (repeat with_reducible refine And.intro (by first | omega | (with_reducible first | exact lens_encT | exact lens_encL | exact lens_encB | exact lens_encP) | (simp; done) | (simp only [List.length_take, List.length_map, List.length_append, maxLen_eq]; omega)) ?_); (try (with_reducible refine hK _ ?_; clear hK K))))
          simp only [go_sem, List.forall_mem_nil, ↓guard_ite, ↓pick_ite, seval, FinQ, AS.result, resAll, resOne, tupV]
          rw [capTo_over hb (Nat.le_refl _)]
        · with_reducible refine Wp ?_
          simp only [go_sem, List.forall_mem_nil, ↓guard_ite, ↓pick_ite, seval, true_implies, false_implies, implies_true, decide_eq_true_eq, decide_eq_false_iff_not, Int.ofNat_lt, hb]
          (try with_reducible refine ite_conj ?_)
          repeat' (first | (with_reducible first | refine Wa ?_ | refine Wb ?_ | refine Wc ?_ | refine Wd ?_ | refine We ?_ | refine Wf ?_ | refine Wg ?_ | refine Wh ?_ | refine Wi ?_ | refine Wj ?_ | refine Wk (by decide) ?_ | refine Wl ?_ | refine Wm ?_ | refine Wn ?_) | ((with_reducible first | refine Wo (fun K hK => ?_) | refine Wq ?_ | refine Wr ?_); (try simp only [go_sem, List.forall_mem_nil, ↓guard_ite, ↓pick_ite, seval, encT_eq, inR_i64, e9]); (repeat with_reducible refine And.intro (by first | omega | (with_reducible first | exact lens_encT | exact lens_encL | exact lens_encB | exact lens_encP) | (simp; done) | (simp only [List.length_take, List.length_map, List.length_append, maxLen_eq]; omega)) ?_); (try (with_reducible refine hK _ ?_; clear hK K))))
          simp only [go_sem, List.forall_mem_nil, ↓guard_ite, ↓pick_ite, seval, FinQ, AS.result, resAll, resOne, tupV, e9]

def onTo (s : List Bd) (t : Tm) : Tm × Bool := if (t.on s).size ≤ 2000 then (t.on s, true) else (Tm.nil, false)
theorem onRef_a (s : List Bd) (t : Tm) (hz : t.size ≤ 1000000) : ACalls Try.prog 48 [aBds s, aTm t] (.tup [aTm (onTo s t).1, aBool (onTo s t).2]) := by
  by_cases hb : (2000 : Int) < capTo (t.on s).size 2000
  · have e : onTo s t = (Tm.nil, false) := by
      unfold onTo
      rw [if_neg]
      intro h
      unfold capTo at hb
      split at hb <;> omega
    rw [e]
    refine ac_R_On (Nat.le_of_ble_eq_true rfl) fun C hC => ?_
    unfold ir_R_On
    repeat' (first | (with_reducible first | refine Wa ?_ | refine Wb ?_ | refine Wc ?_ | refine Wd ?_ | refine We ?_ | refine Wf ?_ | refine Wg ?_ | refine Wh ?_ | refine Wi ?_ | refine Wj ?_ | refine Wk (by decide) ?_ | refine Wl ?_ | refine Wm ?_ | refine Wn ?_) | refine CallG.mk _ (grown_a s t 2000 (by omega) (by omega)) ?_ | ((with_reducible first | refine Wo (fun K hK => ?_) | refine Wq ?_ | refine Wr ?_); (try simp only [go_sem, List.forall_mem_nil, ↓guard_ite, ↓pick_ite, seval, encT_eq, inR_i64, hb]); (repeat with_reducible refine And.intro (by first | omega | (with_reducible first | exact lens_encT | exact lens_encL | exact lens_encB | exact lens_encP) | (simp; done) | (simp only [List.length_take, List.length_map, List.length_append, maxLen_eq]; omega)) ?_); (try (with_reducible refine hK _ ?_; clear hK K))))
    with_reducible refine Wp ?_
    simp only [go_sem, List.forall_mem_nil, ↓guard_ite, ↓pick_ite, seval, true_implies, false_implies, implies_true, decide_eq_true_eq, decide_eq_false_iff_not, Int.ofNat_lt, hb]
    (try with_reducible refine ite_conj ?_)
    repeat' (first | (with_reducible first | refine Wa ?_ | refine Wb ?_ | refine Wc ?_ | refine Wd ?_ | refine We ?_ | refine Wf ?_ | refine Wg ?_ | refine Wh ?_ | refine Wi ?_ | refine Wj ?_ | refine Wk (by decide) ?_ | refine Wl ?_ | refine Wm ?_ | refine Wn ?_) | ((with_reducible first | refine Wo (fun K hK => ?_) | refine Wq ?_ | refine Wr ?_); (try simp only [go_sem, List.forall_mem_nil, ↓guard_ite, ↓pick_ite, seval, encT_eq, inR_i64]); (repeat with_reducible refine And.intro (by first | omega | (with_reducible first | exact lens_encT | exact lens_encL | exact lens_encB | exact lens_encP) | (simp; done) | (simp only [List.length_take, List.length_map, List.length_append, maxLen_eq]; omega)) ?_); (try (with_reducible refine hK _ ?_; clear hK K))))
    simp only [go_sem, List.forall_mem_nil, ↓guard_ite, ↓pick_ite, seval, FinQ, AS.result, resAll, resOne, tupV]
    rfl
  · have e : onTo s t = (t.on s, true) := by
      unfold onTo
      rw [if_pos]
      have := (capTo_in hb).2
      omega
    rw [e]
    refine ac_R_On (Nat.le_of_ble_eq_true rfl) fun C hC => ?_
    unfold ir_R_On
    repeat' (first | (with_reducible first | refine Wa ?_ | refine Wb ?_ | refine Wc ?_ | refine Wd ?_ | refine We ?_ | refine Wf ?_ | refine Wg ?_ | refine Wh ?_ | refine Wi ?_ | refine Wj ?_ | refine Wk (by decide) ?_ | refine Wl ?_ | refine Wm ?_ | refine Wn ?_) | refine CallG.mk _ (grown_a s t 2000 (by omega) (by omega)) ?_ | ((with_reducible first | refine Wo (fun K hK => ?_) | refine Wq ?_ | refine Wr ?_); (try simp only [go_sem, List.forall_mem_nil, ↓guard_ite, ↓pick_ite, seval, encT_eq, inR_i64, hb]); (repeat with_reducible refine And.intro (by first | omega | (with_reducible first | exact lens_encT | exact lens_encL | exact lens_encB | exact lens_encP) | (simp; done) | (simp only [List.length_take, List.length_map, List.length_append, maxLen_eq]; omega)) ?_); (try (with_reducible refine hK _ ?_; clear hK K))))
    with_reducible refine Wp ?_
    simp only [go_sem, List.forall_mem_nil, ↓guard_ite, ↓pick_ite, seval, true_implies, false_implies, implies_true, decide_eq_true_eq, decide_eq_false_iff_not, Int.ofNat_lt, hb]
    (try with_reducible refine ite_conj ?_)
    repeat' (first | (with_reducible first | refine Wa ?_ | refine Wb ?_ | refine Wc ?_ | refine Wd ?_ | refine We ?_ | refine Wf ?_ | refine Wg ?_ | refine Wh ?_ | refine Wi ?_ | refine Wj ?_ | refine Wk (by decide) ?_ | refine Wl ?_ | refine Wm ?_ | refine Wn ?_) | refine CallG.mk _ (onR_a s t hz) ?_ | ((with_reducible first | refine Wo (fun K hK => ?_) | refine Wq ?_ | refine Wr ?_); (try simp only [go_sem, List.forall_mem_nil, ↓guard_ite, ↓pick_ite, seval, encT_eq, inR_i64]); (repeat with_reducible refine And.intro (by first | omega | (with_reducible first | exact lens_encT | exact lens_encL | exact lens_encB | exact lens_encP) | (simp; done) | (simp only [List.length_take, List.length_map, List.length_append, maxLen_eq]; omega)) ?_); (try (with_reducible refine hK _ ?_; clear hK K))))
    simp only [go_sem, List.forall_mem_nil, ↓guard_ite, ↓pick_ite, seval, FinQ, AS.result, resAll, resOne, tupV]
end Go.Proofs.Ytkekmeiiikkabaa

namespace Go.Proofs.Ytkekmeiiikkabaa
open Go
set_option linter.unusedVariables false

/-! ### places -/
/-- What stands at a place. -/
def Tm.atP : Tm → List Int → Option Tm
  | t, [] => some t
  | t, i :: p => if i < 0 then none else match t.args[i.toNat]? with
    | some a => a.atP p
    | none => none
/-- The term with x there. -/
def Tm.putP : Tm → List Int → Tm → Tm
  | t, [], x => x
  | t, i :: p, x => match t.args[i.toNat]? with
    | some a => .mk t.name (t.args.set i.toNat (a.putP p x))
    | none => t
theorem Tm.atP_nil (t : Tm) : t.atP [] = some t := by cases t; rfl
theorem Tm.putP_nil (t x : Tm) : t.putP [] x = x := by cases t; rfl
theorem Tm.atP_cons (t : Tm) (i : Int) (p : List Int) : t.atP (i :: p) = if i < 0 then none else match t.args[i.toNat]? with
    | some a => a.atP p
    | none => none := by cases t; rfl
theorem Tm.putP_cons (t : Tm) (i : Int) (p : List Int) (x : Tm) : t.putP (i :: p) x = match t.args[i.toNat]? with
    | some a => .mk t.name (t.args.set i.toNat (a.putP p x))
    | none => t := by cases t; rfl
theorem Tm.atP_at {t a : Tm} {k : Nat} (h : t.args[k]? = some a) (p : List Int) : t.atP ((k : Int) :: p) = a.atP p := by
  rw [Tm.atP_cons, if_neg (by omega), Int.toNat_natCast, h]
theorem Tm.putP_at {t a : Tm} {k : Nat} (h : t.args[k]? = some a) (p : List Int) (x : Tm) : t.putP ((k : Int) :: p) x = .mk t.name (t.args.set k (a.putP p x)) := by
  rw [Tm.putP_cons, Int.toNat_natCast, h]
/-- The first place where T holds. -/
def atT (T : Tm → Bool) (t : Tm) (p : List Int) : Bool := match t.atP p with
  | some x => T x
  | none => false
mutual
def Tm.findP (T : Tm → Bool) : Tm → Option (List Int)
  | .mk n xs => if T (.mk n xs) = true then some [] else Tm.findPL T 0 xs
def Tm.findPL (T : Tm → Bool) : Nat → List Tm → Option (List Int)
  | _, [] => none
  | k, x :: xs => match x.findP T with
    | some p => some ((k : Int) :: p)
    | none => Tm.findPL T (k + 1) xs
end
mutual
theorem Tm.places_find (T : Tm → Bool) : ∀ t : Tm, t.places.find? (atT T t) = t.findP T
  | .mk n xs => by
    rw [Tm.places, Tm.findP, List.find?_cons]
    by_cases h : T (.mk n xs) = true
    · rw [show atT T (.mk n xs) [] = true from h, if_pos h]
    · rw [show atT T (.mk n xs) [] = false by
        rw [← Bool.not_eq_true]
        exact h, if_neg h]
      exact Tm.placesFrom_find T n xs 0 xs (by simp)
theorem Tm.placesFrom_find (T : Tm → Bool) (n : ByteArray) (all : List Tm) : ∀ (k : Nat) (xs : List Tm), all.drop k = xs → (Tm.placesFrom k xs).find? (atT T (.mk n all)) = Tm.findPL T k xs
  | _, [], _ => rfl
  | k, x :: xs, h => by
    have hk : all[k]? = some x := by
      have := congrArg (fun l => l[0]?) h
      simpa using this
    rw [Tm.placesFrom, Tm.findPL, List.find?_append, List.find?_map]
    have e : (atT T (.mk n all) ∘ fun p => (k : Int) :: p) = atT T x := by
      funext p
      show atT T (.mk n all) ((k : Int) :: p) = atT T x p
      unfold atT
      rw [Tm.atP_at (t := .mk n all) hk]
    rw [e, Tm.places_find T x, Tm.placesFrom_find T n all (k + 1) xs (by rw [← List.tail_drop, h]; rfl)]
    cases x.findP T <;> rfl
end
mutual
theorem Tm.findP_at (T : Tm → Bool) : ∀ (t : Tm) (p : List Int), t.findP T = some p → ∃ x, t.atP p = some x ∧ T x = true ∧ x ∈ t.knots
  | .mk n xs, p, h => by
    rw [Tm.findP] at h
    split at h
    · rename_i ht
      cases h
      exact ⟨_, rfl, ht, by rw [Tm.knots]; exact List.mem_cons_self⟩
    · obtain ⟨x, h1, h2, h3⟩ := Tm.findPL_at T n xs 0 xs p (by simp) h
      exact ⟨x, h1, h2, by rw [Tm.knots]; exact List.mem_cons_of_mem _ h3⟩
theorem Tm.findPL_at (T : Tm → Bool) (n : ByteArray) (all : List Tm) : ∀ (k : Nat) (xs : List Tm) (p : List Int), all.drop k = xs → Tm.findPL T k xs = some p → ∃ x, (Tm.mk n all).atP p = some x ∧ T x = true ∧ x ∈ Tm.knotsL xs
  | _, [], p, _, h => by cases h
  | k, x :: xs, p, h, hf => by
    have hk : all[k]? = some x := by
      have := congrArg (fun l => l[0]?) h
      simpa using this
    rw [Tm.findPL] at hf
    split at hf
    · rename_i q hq
      cases hf
      obtain ⟨y, h1, h2, h3⟩ := Tm.findP_at T x q hq
      exact ⟨y, by rw [Tm.atP_at (t := .mk n all) hk]; exact h1, h2, by rw [Tm.knotsL]; exact List.mem_append_left _ h3⟩
    · obtain ⟨y, h1, h2, h3⟩ := Tm.findPL_at T n all (k + 1) xs p (by rw [← List.tail_drop, h]; rfl) hf
      exact ⟨y, h1, h2, by rw [Tm.knotsL]; exact List.mem_append_right _ h3⟩
end
/-! ### rules -/
def fitR (R : List Pr) (t : Tm) : Bool := R.any fun r => isCase r.1 t
/-- What the first rule from number `from` on makes of a term, and what is wrong with that; none: none fits. -/
def rootFrom (R : List Pr) (t : Tm) : List Pr → Option (Tm × Int)
  | [] => none
  | r :: l => if isCase r.1 t = true then (if (onTo (caseOf r.1 t) r.2).2 = true then some ((onTo (caseOf r.1 t) r.2).1, 0) else some (Tm.nil, 8)) else rootFrom R t l
def rootS (R : List Pr) (t : Tm) : Option (Tm × Int) := rootFrom R t R
theorem rootFrom_none (R : List Pr) (t : Tm) : ∀ l : List Pr, rootFrom R t l = none ↔ l.any (fun r => isCase r.1 t) = false
  | [] => by simp [rootFrom]
  | r :: l => by
    rw [rootFrom, List.any_cons, Bool.or_eq_false_iff, ← rootFrom_none R t l]
    by_cases h : isCase r.1 t = true
    · rw [if_pos h, h]
      split <;> simp
    · rw [if_neg h]
      simp only [Bool.not_eq_true] at h
      simp [h]
theorem rootS_none {R : List Pr} {t : Tm} : rootS R t = none ↔ fitR R t = false := rootFrom_none R t R
theorem rootS_err {R : List Pr} {t x : Tm} {e : Int} : ∀ {l : List Pr}, rootFrom R t l = some (x, e) → (e = 0 ∨ e = 8) ∧ x.size ≤ 2000 ∧ (e = 8 → x = Tm.nil)
  | [], h => by cases h
  | r :: l, h => by
    rw [rootFrom] at h
    split at h
    · split at h
      · cases h
        refine ⟨.inl rfl, ?_, by simp⟩
        unfold onTo
        split
        · assumption
        · decide
      · cases h
        exact ⟨.inr rfl, by decide, fun _ => rfl⟩
    · exact rootS_err h
mutual
/-- One step at the first place below which nothing fits; what is wrong with it. -/
def Tm.inn (R : List Pr) : Tm → Option (Tm × Int)
  | .mk n xs => match Tm.innL R xs with
    | some (ys, e) => some (.mk n ys, e)
    | none => rootS R (.mk n xs)
def Tm.innL (R : List Pr) : List Tm → Option (List Tm × Int)
  | [] => none
  | x :: xs => match Tm.inn R x with
    | some (y, e) => some (y :: xs, e)
    | none => match Tm.innL R xs with
      | some (ys, e) => some (x :: ys, e)
      | none => none
end
mutual
/-- One step at the first place that fits. -/
def Tm.out (R : List Pr) : Tm → Option (Tm × Int)
  | .mk n xs => match rootS R (.mk n xs) with
    | some r => some r
    | none => match Tm.outL R xs with
      | some (ys, e) => some (.mk n ys, e)
      | none => none
def Tm.outL (R : List Pr) : List Tm → Option (List Tm × Int)
  | [] => none
  | x :: xs => match Tm.out R x with
    | some (y, e) => some (y :: xs, e)
    | none => match Tm.outL R xs with
      | some (ys, e) => some (x :: ys, e)
      | none => none
end
theorem Tm.inn_eq (R : List Pr) (t : Tm) : t.inn R = match Tm.innL R t.args with
    | some (ys, e) => some (.mk t.name ys, e)
    | none => rootS R t := by cases t; rfl
theorem Tm.out_eq (R : List Pr) (t : Tm) : t.out R = match rootS R t with
    | some r => some r
    | none => match Tm.outL R t.args with
      | some (ys, e) => some (.mk t.name ys, e)
      | none => none := by cases t; rfl
/-- Does a rule fit anywhere within? -/
def redL (R : List Pr) (xs : List Tm) : Bool := (Tm.knotsL xs).any (fitR R)
def redI (R : List Pr) (x : Tm) : Bool := fitR R x && !redL R x.args
mutual
theorem Tm.inn_none (R : List Pr) : ∀ t : Tm, t.inn R = none ↔ t.knots.any (fitR R) = false
  | .mk n xs => by
    rw [Tm.inn, Tm.knots, List.any_cons, Bool.or_eq_false_iff, ← Tm.innL_none R xs]
    cases Tm.innL R xs with
    | none => simp [rootS_none]
    | some r => simp
theorem Tm.innL_none (R : List Pr) : ∀ xs : List Tm, Tm.innL R xs = none ↔ (Tm.knotsL xs).any (fitR R) = false
  | [] => by simp [Tm.innL, Tm.knotsL]
  | x :: xs => by
    rw [Tm.innL, Tm.knotsL, List.any_append, Bool.or_eq_false_iff, ← Tm.innL_none R xs, ← Tm.inn_none R x]
    cases Tm.inn R x with
    | some r => simp
    | none => cases Tm.innL R xs <;> simp
end
def stepAt (R : List Pr) (t : Tm) : Option (List Int) → Option (Tm × Int)
  | none => none
  | some p => match t.atP p with
    | none => none
    | some x => (rootS R x).map fun r => (t.putP p r.1, r.2)
mutual
theorem Tm.inn_find (R : List Pr) : ∀ t : Tm, t.inn R = stepAt R t (t.findP (redI R))
  | .mk n xs => by
    rw [Tm.inn, Tm.findP]
    by_cases h : redI R (.mk n xs) = true
    · rw [if_pos h]
      unfold redI at h
      rw [Bool.and_eq_true, Bool.not_eq_true'] at h
      rw [(Tm.innL_none R xs).2 h.2]
      simp only [stepAt, Tm.atP]
      cases rootS R (.mk n xs) <;> simp [Tm.putP]
    · rw [if_neg h]
      have key := Tm.innL_find R n xs 0 xs (by simp)
      cases hi : Tm.innL R xs with
      | some r =>
        rw [← key, hi]
        simp
      | none =>
        rw [hi] at key
        rw [← key]
        have h1 := (Tm.innL_none R xs).1 hi
        show rootS R (.mk n xs) = none
        rw [rootS_none, ← Bool.not_eq_true]
        intro hf
        exact h (by unfold redI; rw [hf, show redL R (Tm.mk n xs).args = false from h1]; rfl)
theorem Tm.innL_find (R : List Pr) (n : ByteArray) (all : List Tm) : ∀ (k : Nat) (xs : List Tm), all.drop k = xs → (match Tm.innL R xs with
      | some r => some (Tm.mk n (all.take k ++ r.1), r.2)
      | none => none) = stepAt R (.mk n all) (Tm.findPL (redI R) k xs)
  | _, [], _ => rfl
  | k, x :: xs, h => by
    have hk : all[k]? = some x := by
      have := congrArg (fun l => l[0]?) h
      simpa using this
    have hlt : k < all.length := (List.getElem?_eq_some_iff.1 hk).1
    have hd : all.drop (k + 1) = xs := by rw [← List.tail_drop, h]; rfl
    rw [Tm.innL, Tm.findPL, Tm.inn_find R x]
    cases hp : x.findP (redI R) with
    | some p =>
      simp only [stepAt]
      rw [Tm.atP_at (t := .mk n all) hk]
      cases hx : x.atP p with
      | none =>
        obtain ⟨y, hy, _⟩ := Tm.findP_at _ x p hp
        rw [hx] at hy
        cases hy
      | some y =>
        cases hr : rootS R y with
        | none =>
          obtain ⟨y', hy, h1, _⟩ := Tm.findP_at _ x p hp
          rw [hx] at hy
          cases hy
          unfold redI at h1
          rw [Bool.and_eq_true] at h1
          rw [rootS_none.1 hr] at h1
          exact absurd h1.1 (by simp)
        | some r =>
          simp only [Option.map_some, hr]
          rw [Tm.putP_at (t := .mk n all) hk]
          simp only [Tm.name_mk, Tm.args_mk]
          rw [List.set_eq_take_append_cons_drop, if_pos hlt, hd]
    | none =>
      have key := Tm.innL_find R n all (k + 1) xs hd
      simp only [stepAt] at key ⊢
      rw [← key]
      cases Tm.innL R xs with
      | none => rfl
      | some r =>
        simp only
        rw [List.take_add_one, hk]
        simp
end
mutual
theorem Tm.out_find (R : List Pr) : ∀ t : Tm, t.out R = stepAt R t (t.findP (fitR R))
  | .mk n xs => by
    rw [Tm.out, Tm.findP]
    by_cases h : fitR R (.mk n xs) = true
    · rw [if_pos h]
      simp only [stepAt, Tm.atP]
      cases hr : rootS R (.mk n xs) with
      | none =>
        rw [rootS_none.1 hr] at h
        cases h
      | some r => simp [Tm.putP]
    · rw [if_neg h, ← Tm.outL_find R n xs 0 xs (by simp), rootS_none.2 (by simpa using h)]
      cases Tm.outL R xs <;> simp
theorem Tm.outL_find (R : List Pr) (n : ByteArray) (all : List Tm) : ∀ (k : Nat) (xs : List Tm), all.drop k = xs → (match Tm.outL R xs with
      | some r => some (Tm.mk n (all.take k ++ r.1), r.2)
      | none => none) = stepAt R (.mk n all) (Tm.findPL (fitR R) k xs)
  | _, [], _ => rfl
  | k, x :: xs, h => by
    have hk : all[k]? = some x := by
      have := congrArg (fun l => l[0]?) h
      simpa using this
    have hlt : k < all.length := (List.getElem?_eq_some_iff.1 hk).1
    have hd : all.drop (k + 1) = xs := by rw [← List.tail_drop, h]; rfl
    rw [Tm.outL, Tm.findPL, Tm.out_find R x]
    cases hp : x.findP (fitR R) with
    | some p =>
      simp only [stepAt]
      rw [Tm.atP_at (t := .mk n all) hk]
      cases hx : x.atP p with
      | none =>
        obtain ⟨y, hy, _⟩ := Tm.findP_at _ x p hp
        rw [hx] at hy
        cases hy
      | some y =>
        cases hr : rootS R y with
        | none =>
          obtain ⟨y', hy, h1, _⟩ := Tm.findP_at _ x p hp
          rw [hx] at hy
          cases hy
          rw [rootS_none.1 hr] at h1
          cases h1
        | some r =>
          simp only [Option.map_some, hr]
          rw [Tm.putP_at (t := .mk n all) hk]
          simp only [Tm.name_mk, Tm.args_mk]
          rw [List.set_eq_take_append_cons_drop, if_pos hlt, hd]
    | none =>
      have key := Tm.outL_find R n all (k + 1) xs hd
      simp only [stepAt] at key ⊢
      rw [← key]
      cases Tm.outL R xs with
      | none => rfl
      | some r =>
        simp only
        rw [List.take_add_one, hk]
        simp
end
/-! ### to the end -/
/-- What a term becomes at last (k steps at most from here on; n were made). -/
def endR (step : Tm → Option (Tm × Int)) : Nat → Int → Tm → Tm × Int × Int
  | 0, n, t => match step t with
    | none => (t, n, 0)
    | some _ => (Tm.nil, 0, 9)
  | k + 1, n, t => match step t with
    | none => (t, n, 0)
    | some (x, e) => if e ≠ 0 then (Tm.nil, 0, e) else if 2000 < x.size then (Tm.nil, 0, 8) else endR step k (n + 1) x
end Go.Proofs.Ytkekmeiiikkabaa

namespace Go.Proofs.Ytkekmeiiikkabaa
open Go Go.RowKit
set_option linter.unusedVariables false

end Go.Proofs.Ytkekmeiiikkabaa

namespace Go.Proofs.Ytkekmeiiikkabaa
open Go Go.RowKit
set_option linter.unusedVariables false

/-! ### what stands for a name -/
/-! ### doing one behind the other -/
/-- A list of bindings as it should be. -/
structure OkB (s : List Bd) : Prop where
  ord : Ordered s
  var : ∀ b ∈ s, isVar b.1 = true
  nam : ∀ b ∈ s, nameOk b.1 = true
  chk : ∀ b ∈ s, b.2.chk = 0
theorem chk_parts {t : Tm} (h : t.chk = 0) : chkOne t = 0 := by
  rw [Tm.chk_eq] at h
  by_cases h1 : chkOne t = 0
  · exact h1
  · rw [if_neg h1] at h; exact h
theorem chk_make {n : ByteArray} {xs ys : List Tm} (h : (Tm.mk n xs).chk = 0) (hl : ys.length = xs.length) (hy : ∀ y ∈ ys, y.chk = 0) : (Tm.mk n ys).chk = 0 := by
  have h1 : chkOne (Tm.mk n ys) = 0 := by
    have := chk_parts h
    unfold chkOne at this ⊢
    rw [Tm.name_mk, Tm.args_mk] at this ⊢
    rw [hl]; exact this
  rw [Tm.chk_eq, if_pos h1, Tm.args_mk]
  clear h h1 hl
  induction ys with
  | nil => rfl
  | cons x ys ih =>
    simp only [Tm.chkL]
    rw [if_pos (hy x (by simp))]
    exact ih fun y h => hy y (by simp [h])
theorem chk_sub {s : List Bd} (hs : ∀ b ∈ s, b.2.chk = 0) {t : Tm} (hc : t.chk = 0) : (t.on s).chk = 0 := by
  induction hN : SizeOf.sizeOf t using Nat.strongRecOn generalizing t with
  | _ N ih =>
  subst hN
  obtain ⟨c1, c2⟩ := Tm.chk_args hc
  by_cases hleaf : (∃ x, lookup s t.name = some x) ∧ t.args = []
  · obtain ⟨⟨x, hx⟩, h0⟩ := hleaf
    rw [Tm.on_leaf hx h0]
    obtain ⟨b, hb, _, rfl⟩ := lookup_mem hx
    exact hs b hb
  · have hon : t.on s = .mk t.name (t.args.map (Tm.on s)) := Tm.on_knot (by
      cases hl : lookup s t.name with
      | none => exact .inl rfl
      | some x => exact .inr fun h0 => hleaf ⟨⟨x, hl⟩, h0⟩)
    rw [hon]
    refine chk_make (xs := t.args) (by cases t; exact hc) (by simp) fun y hy => ?_
    obtain ⟨c, hc', rfl⟩ := List.mem_map.1 hy
    exact ih _ (Tm.lt_of_arg hc') (c2 c hc') rfl
end Go.Proofs.Ytkekmeiiikkabaa

namespace Go.Proofs.Ytkekmeiiikkabaa
open Go Go.RowKit
set_option linter.unusedVariables false

/-- m binds what l binds. -/
def MtExt (l m : List Bd) : Prop := ∀ n x, lookup l n = some x → lookup m n = some x
theorem MtExt.trans {a b c : List Bd} (h : MtExt a b) (k : MtExt b c) : MtExt a c := fun n x e => k n x (h n x e)
def GoodB (b : Bd) : Prop := isVar b.1 = true ∧ nameOk b.1 = true ∧ b.2.chk = 0
theorem nameOk_of {t : Tm} (h : t.chk = 0) : nameOk t.name = true := by
  have := chk_parts h
  unfold chkOne at this
  split at this
  · assumption
  · cases this
mutual
theorem mt_good : ∀ (p : Tm), p.chk = 0 → ∀ (t : Tm), t.chk = 0 → ∀ (l : List Bd), (∀ b ∈ l, GoodB b) → ∀ b ∈ (p.mt t l).1, GoodB b
  | .mk n xs, hc, t, ht, l, hl => by
    obtain ⟨c1, c2⟩ := Tm.chk_args hc
    simp only [Tm.name_mk, Tm.args_mk] at c1 c2
    rw [Tm.mt]
    split
    · rename_i hv
      split
      · exact hl
      · intro b hb
        rcases List.mem_append.1 hb with hb | hb
        · exact hl b hb
        · rw [List.mem_singleton] at hb
          subst hb
          exact ⟨hv, nameOk_of hc, ht⟩
    · split
      · exact mtL_good xs c2 t.args (Tm.chk_args ht).2 l hl
      · exact hl
theorem mtL_good : ∀ (xs : List Tm), (∀ x ∈ xs, x.chk = 0) → ∀ (ys : List Tm), (∀ y ∈ ys, y.chk = 0) → ∀ (l : List Bd), (∀ b ∈ l, GoodB b) → ∀ b ∈ (Tm.mtL xs ys l).1, GoodB b
  | [], _, ys, _, l, hl => by rw [Tm.mtL_nil]; exact hl
  | x :: xs, _, [], _, l, hl => by rw [Tm.mtL]; exact hl; simp
  | x :: xs, hc, y :: ys, hy, l, hl => by
    rw [Tm.mtL]
    have h1 := mt_good x (hc x (by simp)) y (hy y (by simp)) l hl
    split
    · exact mtL_good xs (fun a ha => hc a (by simp [ha])) ys (fun a ha => hy a (by simp [ha])) _ h1
    · exact h1
end
section
variable {p t : Tm}
theorem case_ok (hp : p.chk = 0) (ht : t.chk = 0) : OkB (caseOf p t) := by
  unfold caseOf
  have hg := mt_good p hp t ht [] (by simp)
  split
  · exact ⟨sortB_ordered (mt_named p t), fun b hb => (hg b (sortB_mem.1 hb)).1, fun b hb => (hg b (sortB_mem.1 hb)).2.1, fun b hb => (hg b (sortB_mem.1 hb)).2.2⟩
  · exact ⟨List.Pairwise.nil, by simp, by simp, by simp⟩
theorem case_len_le : (caseOf p t).length ≤ p.size := by
  unfold caseOf
  split
  · rw [sortB_length]; exact mt_len p t
  · simp
end
end Go.Proofs.Ytkekmeiiikkabaa

namespace Go.Proofs.Ytkekmeiiikkabaa
open Go
set_option linter.unusedVariables false

/-- The first thing that is wrong. -/
def errL {α : Type} (f : α → Int) : List α → Int
  | [] => 0
  | x :: xs => if f x = 0 then errL f xs else f x
theorem errL_append {α : Type} (f : α → Int) : ∀ xs ys : List α, errL f (xs ++ ys) = if errL f xs = 0 then errL f ys else errL f xs
  | [], ys => rfl
  | x :: xs, ys => by
    by_cases h : f x = 0
    · have e1 : errL f (x :: (xs ++ ys)) = errL f (xs ++ ys) := if_pos h
      have e2 : errL f (x :: xs) = errL f xs := if_pos h
      rw [List.cons_append, e1, e2, errL_append f xs ys]
    · have e1 : errL f (x :: (xs ++ ys)) = f x := if_neg h
      have e2 : errL f (x :: xs) = f x := if_neg h
      rw [List.cons_append, e1, e2, if_neg h]
theorem errL_get {α : Type} {f : α → Int} {xs : List α} {k : Nat} {a : α} (h : xs[k]? = some a) (h0 : errL f (xs.take k) = 0) : (f a = 0 → errL f (xs.take (k + 1)) = 0) ∧ (f a ≠ 0 → errL f xs = f a) := by
  refine ⟨fun ha => ?_, fun ha => ?_⟩
  · rw [take_snoc h, errL_append, if_pos h0]
    simp [errL, ha]
  · have e : xs = xs.take k ++ a :: xs.drop (k + 1) := by
      rw [← drop_get h, List.take_append_drop]
    rw [e, errL_append, if_pos h0]
    simp [errL, ha]
theorem errL_zero {α : Type} {f : α → Int} : ∀ {xs : List α}, errL f xs = 0 → ∀ x ∈ xs, f x = 0
  | [], _, x, h => by cases h
  | y :: ys, h0, x, hx => by
    rw [errL] at h0
    by_cases hy : f y = 0
    · rw [if_pos hy] at h0
      rcases List.mem_cons.1 hx with rfl | hx
      · exact hy
      · exact errL_zero h0 x hx
    · rw [if_neg hy] at h0
      exact absurd h0 hy
def openR (r : Pr) : Bool := r.2.varsOf.any fun v => !isIn v r.1.varsOf
def ruleErr (r : Pr) : Int := if twoMay r.1 r.2 = 0 then (if isVar r.1.name = true then 2 else if openR r = true then 15 else 0) else twoMay r.1 r.2
def rulesMay (R : List Pr) : Int := if 40 < R.length then 3 else errL ruleErr R
structure GoodRules (R : List Pr) : Prop where
  len : R.length ≤ 40
  left : ∀ r ∈ R, r.1.may = 0
  right : ∀ r ∈ R, r.2.may = 0
  head : ∀ r ∈ R, isVar r.1.name = false
  vars : ∀ r ∈ R, ∀ v ∈ r.2.varsOf, v ∈ r.1.varsOf
theorem ruleErr_zero {r : Pr} (h : ruleErr r = 0) : r.1.may = 0 ∧ r.2.may = 0 ∧ isVar r.1.name = false ∧ openR r = false := by
  unfold ruleErr at h
  by_cases h1 : twoMay r.1 r.2 = 0
  · rw [if_pos h1] at h
    by_cases h2 : isVar r.1.name = true
    · rw [if_pos h2] at h; cases h
    · rw [if_neg h2] at h
      by_cases h3 : openR r = true
      · rw [if_pos h3] at h; cases h
      · unfold twoMay at h1
        by_cases h4 : r.1.may = 0
        · rw [if_pos h4] at h1
          exact ⟨h4, h1, by simpa using h2, by simpa using h3⟩
        · rw [if_neg h4] at h1
          exact absurd h1 h4
  · rw [if_neg h1] at h
    exact absurd h h1
theorem goodRules {R : List Pr} (h : rulesMay R = 0) : GoodRules R := by
  unfold rulesMay at h
  by_cases h0 : 40 < R.length
  · rw [if_pos h0] at h; cases h
  · rw [if_neg h0] at h
    have key := fun r hr => ruleErr_zero (errL_zero h r hr)
    refine ⟨by omega, fun r hr => (key r hr).1, fun r hr => (key r hr).2.1, fun r hr => (key r hr).2.2.1, fun r hr v hv => ?_⟩
    have := (key r hr).2.2.2
    unfold openR at this
    rw [List.any_eq_false] at this
    have := this v hv
    simp only [Bool.not_eq_true', Bool.not_eq_false] at this
    exact isIn_iff.1 this
def argsR (R : List Pr) (t : Tm) : Int := if rulesMay R = 0 then t.may else rulesMay R
/-- The first rule that fits, from a place in the row on; what it makes; what is wrong. -/
def rootK (t : Tm) : Nat → List Pr → Tm × Int × Int
  | _, [] => (Tm.nil, -1, 0)
  | k, r :: l => if isCase r.1 t = true then ((onTo (caseOf r.1 t) r.2).1, (k : Int), if (onTo (caseOf r.1 t) r.2).2 = true then 0 else 8) else rootK t (k + 1) l
theorem onTo_no {s : List Bd} {t : Tm} (h : ¬ (onTo s t).2 = true) : (onTo s t).1 = Tm.nil := by
  unfold onTo at *
  split
  · rename_i h1
    rw [if_pos h1] at h
    exact absurd rfl h
  · rfl
theorem rootK_eq (R : List Pr) (t : Tm) : ∀ (l : List Pr) (k : Nat), match rootFrom R t l with
    | none => rootK t k l = (Tm.nil, -1, 0)
    | some (x, e) => ∃ i : Nat, rootK t k l = (x, (i : Int), e)
  | [], k => rfl
  | r :: l, k => by
    rw [rootFrom, rootK]
    by_cases h : isCase r.1 t = true
    · rw [if_pos h, if_pos h]
      by_cases h2 : (onTo (caseOf r.1 t) r.2).2 = true
      · rw [if_pos h2, if_pos h2]
        exact ⟨k, rfl⟩
      · rw [if_neg h2, if_neg h2]
        exact ⟨k, by rw [onTo_no h2]⟩
    · rw [if_neg h, if_neg h]
      exact rootK_eq R t l (k + 1)
theorem innL_at {R : List Pr} : ∀ {xs : List Tm} {k : Nat} {a y : Tm} {e : Int}, xs[k]? = some a → (∀ b ∈ xs.take k, b.inn R = none) → a.inn R = some (y, e) → Tm.innL R xs = some (xs.set k y, e)
  | [], k, a, y, e, h, _, _ => by simp at h
  | x :: xs, 0, a, y, e, h, _, hy => by
    simp at h
    subst h
    rw [Tm.innL, hy]
    rfl
  | x :: xs, k + 1, a, y, e, h, hn, hy => by
    rw [Tm.innL, hn x (by simp), innL_at (xs := xs) (k := k) (by simpa using h) (fun b hb => hn b (by rw [List.take_succ_cons]; exact List.mem_cons_of_mem _ hb)) hy]
    rfl
theorem innL_all {R : List Pr} : ∀ {xs : List Tm}, (∀ b ∈ xs, b.inn R = none) → Tm.innL R xs = none
  | [], _ => rfl
  | x :: xs, h => by rw [Tm.innL, h x (by simp), innL_all (fun b hb => h b (List.mem_cons_of_mem _ hb))]
theorem outL_at {R : List Pr} : ∀ {xs : List Tm} {k : Nat} {a y : Tm} {e : Int}, xs[k]? = some a → (∀ b ∈ xs.take k, b.out R = none) → a.out R = some (y, e) → Tm.outL R xs = some (xs.set k y, e)
  | [], k, a, y, e, h, _, _ => by simp at h
  | x :: xs, 0, a, y, e, h, _, hy => by
    simp at h
    subst h
    rw [Tm.outL, hy]
    rfl
  | x :: xs, k + 1, a, y, e, h, hn, hy => by
    rw [Tm.outL, hn x (by simp), outL_at (xs := xs) (k := k) (by simpa using h) (fun b hb => hn b (by rw [List.take_succ_cons]; exact List.mem_cons_of_mem _ hb)) hy]
    rfl
theorem outL_all {R : List Pr} : ∀ {xs : List Tm}, (∀ b ∈ xs, b.out R = none) → Tm.outL R xs = none
  | [], _ => rfl
  | x :: xs, h => by rw [Tm.outL, h x (by simp), outL_all (fun b hb => h b (List.mem_cons_of_mem _ hb))]
/-! ### what comes out may be, and is not too great -/
theorem rootS_chk {R : List Pr} (hR : GoodRules R) {t x : Tm} {e : Int} (ht : t.chk = 0) : ∀ {l : List Pr}, (∀ r ∈ l, r ∈ R) → rootFrom R t l = some (x, e) → x.chk = 0 ∨ e = 8
  | [], _, h => by cases h
  | r :: l, hl, h => by
    rw [rootFrom] at h
    have hr := hl r (by simp)
    split at h
    · rename_i hc
      split at h
      · rename_i h2
        cases h
        left
        have e1 : (onTo (caseOf r.1 t) r.2).1 = r.2.on (caseOf r.1 t) := by
          unfold onTo at h2 ⊢
          split
          · rfl
          · rename_i h3
            rw [if_neg h3] at h2
            cases h2
        rw [e1]
        exact chk_sub (case_ok (Tm.may_chk (hR.left r hr)).1 ht).chk (Tm.may_chk (hR.right r hr)).1
      · cases h
        exact .inr rfl
    · exact rootS_chk hR ht (fun r hr => hl r (List.mem_cons_of_mem _ hr)) h
theorem chk_set {n : ByteArray} {xs : List Tm} {k : Nat} {y : Tm} (h : (Tm.mk n xs).chk = 0) (hk : k < xs.length) (hy : y.chk = 0) : (Tm.mk n (xs.set k y)).chk = 0 := by
  refine chk_make h (by simp) fun z hz => ?_
  rcases List.mem_or_eq_of_mem_set hz with hz | rfl
  · exact (Tm.chk_args h).2 z hz
  · exact hy
theorem sizes_set : ∀ {xs : List Tm} {k : Nat} {a : Tm} (y : Tm), xs[k]? = some a → Tm.sizes (xs.set k y) + a.size = Tm.sizes xs + y.size
  | [], k, a, y, h => by simp at h
  | x :: xs, 0, a, y, h => by
    simp at h
    subst h
    simp only [List.set_cons_zero, Tm.sizes]
    omega
  | x :: xs, k + 1, a, y, h => by
    have := sizes_set (xs := xs) (k := k) y (by simpa using h)
    simp only [List.set_cons_succ, Tm.sizes]
    omega
mutual
theorem inn_good {R : List Pr} (hR : GoodRules R) : ∀ {t x : Tm} {e : Int}, t.chk = 0 → t.inn R = some (x, e) → (e = 0 ∨ e = 8) ∧ (e = 0 → x.chk = 0) ∧ x.size ≤ t.size + 2000
  | .mk n xs, x, e, hc, h => by
    rw [Tm.inn] at h
    split at h
    · rename_i ys e' hy
      cases h
      obtain ⟨k, a, y, h1, h2, h3, h4, h5, h6⟩ := innL_good (xs := xs) hR (fun b hb => (Tm.chk_args hc).2 b hb) hy
      subst h2
      have h7 := sizes_set y h1
      have hk := lt_of_get h1
      refine ⟨h4, fun he => chk_set hc hk (h5 he), ?_⟩
      have z1 : (Tm.mk n (xs.set k y)).size = 1 + Tm.sizes (xs.set k y) := rfl
      have z2 : (Tm.mk n xs).size = 1 + Tm.sizes xs := rfl
      omega
    · obtain ⟨h1, h2, h3⟩ := rootS_err h
      refine ⟨h1, fun he => (rootS_chk hR hc (fun r hr => hr) h).resolve_right (by omega), by omega⟩
theorem innL_good {R : List Pr} (hR : GoodRules R) : ∀ {xs ys : List Tm} {e : Int}, (∀ b ∈ xs, b.chk = 0) → Tm.innL R xs = some (ys, e) → ∃ k a y, xs[k]? = some a ∧ ys = xs.set k y ∧ a.inn R = some (y, e) ∧ (e = 0 ∨ e = 8) ∧ (e = 0 → y.chk = 0) ∧ y.size ≤ a.size + 2000
  | [], ys, e, _, h => by cases h
  | x :: xs, ys, e, hc, h => by
    rw [Tm.innL] at h
    split at h
    · rename_i y e' hy
      cases h
      obtain ⟨q1, q2, q3⟩ := inn_good hR (hc x (by simp)) hy
      exact ⟨0, x, y, rfl, rfl, hy, q1, q2, q3⟩
    · split at h
      · rename_i ys' e' hy
        cases h
        obtain ⟨k, a, y, h1, h2, h3, h4⟩ := innL_good hR (fun b hb => hc b (List.mem_cons_of_mem _ hb)) hy
        exact ⟨k + 1, a, y, by simpa using h1, by rw [h2]; rfl, h3, h4⟩
      · cases h
end
mutual
theorem out_good {R : List Pr} (hR : GoodRules R) : ∀ {t x : Tm} {e : Int}, t.chk = 0 → t.out R = some (x, e) → (e = 0 ∨ e = 8) ∧ (e = 0 → x.chk = 0) ∧ x.size ≤ t.size + 2000
  | .mk n xs, x, e, hc, h => by
    rw [Tm.out] at h
    split at h
    · rename_i r hr
      obtain ⟨x', e'⟩ := r
      cases h
      obtain ⟨h1, h2, h3⟩ := rootS_err hr
      refine ⟨h1, fun he => (rootS_chk hR hc (fun r hr => hr) hr).resolve_right (by omega), by omega⟩
    · split at h
      · rename_i ys e' hy
        cases h
        obtain ⟨k, a, y, h1, h2, h3, h4, h5, h6⟩ := outL_good (xs := xs) hR (fun b hb => (Tm.chk_args hc).2 b hb) hy
        subst h2
        have h7 := sizes_set y h1
        have hk := lt_of_get h1
        refine ⟨h4, fun he => chk_set hc hk (h5 he), ?_⟩
        have z1 : (Tm.mk n (xs.set k y)).size = 1 + Tm.sizes (xs.set k y) := rfl
        have z2 : (Tm.mk n xs).size = 1 + Tm.sizes xs := rfl
        omega
      · cases h
theorem outL_good {R : List Pr} (hR : GoodRules R) : ∀ {xs ys : List Tm} {e : Int}, (∀ b ∈ xs, b.chk = 0) → Tm.outL R xs = some (ys, e) → ∃ k a y, xs[k]? = some a ∧ ys = xs.set k y ∧ a.out R = some (y, e) ∧ (e = 0 ∨ e = 8) ∧ (e = 0 → y.chk = 0) ∧ y.size ≤ a.size + 2000
  | [], ys, e, _, h => by cases h
  | x :: xs, ys, e, hc, h => by
    rw [Tm.outL] at h
    split at h
    · rename_i y e' hy
      cases h
      obtain ⟨q1, q2, q3⟩ := out_good hR (hc x (by simp)) hy
      exact ⟨0, x, y, rfl, rfl, hy, q1, q2, q3⟩
    · split at h
      · rename_i ys' e' hy
        cases h
        obtain ⟨k, a, y, h1, h2, h3, h4⟩ := outL_good hR (fun b hb => hc b (List.mem_cons_of_mem _ hb)) hy
        exact ⟨k + 1, a, y, by simpa using h1, by rw [h2]; rfl, h3, h4⟩
      · cases h
end
end Go.Proofs.Ytkekmeiiikkabaa

namespace Go.Proofs.Ytkekmeiiikkabaa
open Go Go.RowKit
set_option maxRecDepth 100000

def ir_match_Both : IR :=
  (.seq
  (.ops
  [.mk (some 2) none (.box 25 (.t 0)) .no, .mk (some 3) none (.box 25 (.t 1)) .no, .mk (some 4) none (.mov (.c (.one (.st (.int .i64 0)))))
  .no])
  (.seq
  (.seq
  (.ops
  [.mk (some 6) none (.load true 2 (.t 2)) .no, .mk (some 7) none (.call 44 [.t 6]) .no, .mk (some 5) none (.mov (.t 7)) .no])
  (.seq
  (.ops
  [.mk (some 8) none (.mov (.t 5)) .no, .mk (some 9) none (.bin .neq (.t 8) (.c (.one (.st (.int .i64 0)))))
  .no])
  (.cond (.t 9)
  (.seq
  (.ops
  [.mk (some 10) none (.mov (.t 5)) .no, .mk (some 4) none (.mov (.t 10)) .no])
  .ret)
  .skip)))
  (.seq
  (.ops
  [.mk (some 11) none (.load true 2 (.t 3)) .no, .mk (some 12) none (.call 44 [.t 11]) .no, .mk (some 4) none (.mov (.t 12)) .no])
  .ret)))
theorem tr_match_Both : trCode Try.prog 13 [] (Try.f32.body.getD .skip) = some ir_match_Both := by kernel_rfl
theorem ac_match_Both {xs : List AV} {r : AV} (hn : xs.length ≤ 13) (h : ∀ C : Ctx, C.n = 13 → IWP Try.prog C [] ir_match_Both (FinQ [.t 4] r) (AS.start xs)) : ACalls Try.prog 32 xs r :=
  acalls_of Try.func32 rfl tr_match_Both rfl hn h
end Go.Proofs.Ytkekmeiiikkabaa

namespace Go.Proofs.Ytkekmeiiikkabaa
open Go Go.RowKit
set_option linter.unusedVariables false
set_option linter.unusedSimpArgs false
set_option maxHeartbeats 800000

theorem both_a (a b : Tm) : ACalls Try.prog 32 [aTm a, aTm b] (aInt (twoMay a b)) := by
  refine ac_match_Both (Nat.le_of_ble_eq_true rfl) fun C hC => ?_
  unfold ir_match_Both
  repeat' (first | (with_reducible first | refine Wa ?_ | refine Wb ?_ | refine Wc ?_ | refine Wd ?_ | refine We ?_ | refine Wf ?_ | refine Wg ?_ | refine Wh ?_ | refine Wi ?_ | refine Wj ?_ | refine Wk (by decide) ?_ | refine Wl ?_ | refine Wm ?_ | refine Wn ?_) | ((with_reducible first | refine Wo (fun K hK => ?_) | refine Wp ?_ | refine Wq ?_ | refine Wr ?_); (try simp only [go_sem, List.forall_mem_nil, ↓guard_ite, ↓pick_ite, seval, encT_eq, inR_i64, decide_eq_true_eq, decide_eq_false_iff_not, Int.ofNat_lt]); (repeat with_reducible refine And.intro (by first | omega | (with_reducible first | exact lens_encT | exact lens_encL | exact lens_encB | exact lens_encP) | (simp; done) | (simp only [List.length_take, List.length_map, List.length_append, maxLen_eq]; omega)) ?_); (try (with_reducible refine hK _ ?_; clear hK K)); (try with_reducible refine ite_conj ?_)))
  refine ⟨_, checkT_a a, ?_⟩
  by_cases h : a.may = 0
  · repeat' (first | (with_reducible first | refine Wa ?_ | refine Wb ?_ | refine Wc ?_ | refine Wd ?_ | refine We ?_ | refine Wf ?_ | refine Wg ?_ | refine Wh ?_ | refine Wi ?_ | refine Wj ?_ | refine Wk (by decide) ?_ | refine Wl ?_ | refine Wm ?_ | refine Wn ?_) | refine CallG.mk _ (checkT_a b) ?_ | ((with_reducible first | refine Wo (fun K hK => ?_) | refine Wp ?_ | refine Wq ?_ | refine Wr ?_); (try simp only [go_sem, List.forall_mem_nil, ↓guard_ite, ↓pick_ite, seval, encT_eq, inR_i64, h, decide_eq_true_eq, decide_eq_false_iff_not, Int.ofNat_lt]); (repeat with_reducible refine And.intro (by first | omega | (with_reducible first | exact lens_encT | exact lens_encL | exact lens_encB | exact lens_encP) | (simp; done) | (simp only [List.length_take, List.length_map, List.length_append, maxLen_eq]; omega)) ?_); (try (with_reducible refine hK _ ?_; clear hK K)); (try with_reducible refine ite_conj ?_)))
    simp only [go_sem, List.forall_mem_nil, ↓guard_ite, ↓pick_ite, seval, FinQ, AS.result, resAll, resOne, tupV]
    unfold twoMay
    rw [if_pos h]
  · repeat' (first | (with_reducible first | refine Wa ?_ | refine Wb ?_ | refine Wc ?_ | refine Wd ?_ | refine We ?_ | refine Wf ?_ | refine Wg ?_ | refine Wh ?_ | refine Wi ?_ | refine Wj ?_ | refine Wk (by decide) ?_ | refine Wl ?_ | refine Wm ?_ | refine Wn ?_) | ((with_reducible first | refine Wo (fun K hK => ?_) | refine Wp ?_ | refine Wq ?_ | refine Wr ?_); (try simp only [go_sem, List.forall_mem_nil, ↓guard_ite, ↓pick_ite, seval, encT_eq, inR_i64, h, decide_eq_true_eq, decide_eq_false_iff_not, Int.ofNat_lt]); (repeat with_reducible refine And.intro (by first | omega | (with_reducible first | exact lens_encT | exact lens_encL | exact lens_encB | exact lens_encP) | (simp; done) | (simp only [List.length_take, List.length_map, List.length_append, maxLen_eq]; omega)) ?_); (try (with_reducible refine hK _ ?_; clear hK K)); (try with_reducible refine ite_conj ?_)))
    simp only [go_sem, List.forall_mem_nil, ↓guard_ite, ↓pick_ite, seval, FinQ, AS.result, resAll, resOne, tupV]
    unfold twoMay
    rw [if_neg h]
end Go.Proofs.Ytkekmeiiikkabaa

namespace Go.Proofs.Ytkekmeiiikkabaa
open Go Go.RowKit
set_option linter.unusedVariables false

theorem purgeS {ds : List Nat} (hds : ∀ d ∈ ds, d < 1000) {x : Option ABlk} (hb : ∀ b, x = some b → b.high = true) : x.map (ABlk.purge ds) = x := by
  cases h : x with
  | none => rfl
  | some b => rw [Option.map_some, ABlk.purge_high hds (hb b h)]
theorem lowS_is {S S1 : AStore} {a0 : Nat} {b : ABlk} (hS : Clean S) (ha : 1000 ≤ a0) (h1 : S1 a0 = some b) (h2 : ∀ i, 1000 ≤ i → i ≠ a0 → S1 i = S i) : lowS S1 = updE S a0 (some b) := by
  funext i
  show (if i < 1000 then none else S1 i) = _
  by_cases e : i = a0
  · subst e
    rw [if_neg (by omega), updE_same, h1]
  · rw [updE_ne _ e]
    by_cases hi : i < 1000
    · rw [if_pos hi, clean_none hS hi]
    · rw [if_neg hi, h2 i (by omega) e]
theorem highs_is {S S1 : AStore} {a0 : Nat} {b : ABlk} (hS : Clean S) (hb : b.high = true) (h1 : S1 a0 = some b) (h2 : ∀ i, 1000 ≤ i → i ≠ a0 → S1 i = S i) : ∀ i c, 1000 ≤ i → S1 i = some c → c.high = true := fun i c hi hc => by
  by_cases e : i = a0
  · subst e
    rw [h1] at hc
    cases hc
    exact hb
  · rw [h2 i hi e] at hc
    exact (hS i c hc).2
/-- The end of a call that has turned one block of its caller. -/
theorem finS_one {C : Ctx} {rs : List RV} {r : AV} {e : AX} {s : AS} {S : AStore} {a0 : Nat} {b : ABlk} (r0 : AV) (hS : Clean S) (ha : 1000 ≤ a0) (hb : b.high = true) (he : match e with | .normal => True | .ret => True | _ => False)
    (h1 : (resAll s rs).map tupV = some r0) (h2 : outV s.S r0 = some r) (h3 : s.S a0 = some b) (h4 : ∀ i, 1000 ≤ i → i ≠ a0 → s.S i = S i) : FinS C rs r (updE S a0 (some b)) e s :=
  finS_low he r0 h1 h2 (highs_is hS hb h3 h4) (lowS_is hS ha h3 h4) (clean_upd hS ha hb)

theorem oneTo_same (i a0 : Nat) : oneTo i a0 i = a0 := by simp [oneTo]
end Go.Proofs.Ytkekmeiiikkabaa
