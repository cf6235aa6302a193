/-
  Part 14 of the texts: BSubst2; BEnds. Conditions: none.
-/
import Derived.Test.YtohgkbgpcnmdpaaRob13
namespace Go.Proofs.Ytohgkbgpcnmdpaa
open Go Go.RowKit
set_option linter.unusedVariables false
set_option linter.unusedSimpArgs false
set_option maxHeartbeats 400000
theorem onR_a (s : List Bd) (t : Tm) (hz : t.size ≤ 1000000) : ACalls Try.prog 40 [aBds s, aTm t] (aTm (t.on s)) := by
  induction h : SizeOf.sizeOf t using Nat.strongRecOn generalizing t with
  | _ N ih =>
  subst h
  have hs := Tm.size_eq t
  have hkn := Tm.length_le t.args
  by_cases hleaf : (∃ x, lookup s t.name = some x) ∧ t.args = []
  · obtain ⟨⟨x, hx⟩, h0⟩ := hleaf
    have h0' : (t.args.length : Int) = 0 := by rw [h0]; rfl
    rw [Tm.on_leaf hx h0]
    refine ac_R_on (Nat.le_of_ble_eq_true rfl) fun C hC => ?_
    unfold ir_R_on
    repeat' (first | (with_reducible first | refine Wa ?_ | refine Wb ?_ | refine Wc ?_ | refine Wd ?_ | refine We ?_ | refine Wf ?_ | refine Wg ?_ | refine Wh ?_ | refine Wi ?_ | refine Wj ?_ | refine Wk (by decide) ?_ | refine Wl ?_ | refine Wm ?_ | refine Wn ?_) | refine CallG.mk _ (for_a s t.name) ?_ | ((with_reducible first | refine Wo (fun K hK => ?_) | refine Wq ?_ | refine Wr ?_); (try simp only [go_sem, List.forall_mem_nil, ↓guard_ite, ↓pick_ite, seval, encT_eq, inR_i64, hx, h0', Option.isSome_some]); (repeat with_reducible refine And.intro (by first | omega | (with_reducible first | exact lens_encT | exact lens_encL | exact lens_encB | exact lens_encP) | (simp; done) | (simp only [List.length_take, List.length_map, List.length_append, maxLen_eq]; omega)) ?_); (try (with_reducible refine hK _ ?_; clear hK K))))
    with_reducible refine Wp ?_
    simp only [go_sem, List.forall_mem_nil, ↓guard_ite, ↓pick_ite, seval, true_implies, false_implies, implies_true, decide_eq_true_eq, decide_eq_false_iff_not, Int.ofNat_lt]
    (try with_reducible refine ite_conj ?_)
    repeat' (first | (with_reducible first | refine Wa ?_ | refine Wb ?_ | refine Wc ?_ | refine Wd ?_ | refine We ?_ | refine Wf ?_ | refine Wg ?_ | refine Wh ?_ | refine Wi ?_ | refine Wj ?_ | refine Wk (by decide) ?_ | refine Wl ?_ | refine Wm ?_ | refine Wn ?_) | ((with_reducible first | refine Wo (fun K hK => ?_) | refine Wq ?_ | refine Wr ?_); (try simp only [go_sem, List.forall_mem_nil, ↓guard_ite, ↓pick_ite, seval, encT_eq, inR_i64]); (repeat with_reducible refine And.intro (by first | omega | (with_reducible first | exact lens_encT | exact lens_encL | exact lens_encB | exact lens_encP) | (simp; done) | (simp only [List.length_take, List.length_map, List.length_append, maxLen_eq]; omega)) ?_); (try (with_reducible refine hK _ ?_; clear hK K))))
    simp only [go_sem, List.forall_mem_nil, ↓guard_ite, ↓pick_ite, seval, FinQ, AS.result, resAll, resOne, tupV]
  · have hon : t.on s = .mk t.name (t.args.map (Tm.on s)) := Tm.on_knot (by
      cases hl : lookup s t.name with
      | none => exact .inl rfl
      | some x => exact .inr fun h0 => hleaf ⟨⟨x, hl⟩, h0⟩)
    rw [hon]
    refine ac_R_on (Nat.le_of_ble_eq_true rfl) fun C hC => ?_
    unfold ir_R_on
    repeat' (first | (with_reducible first | refine Wa ?_ | refine Wb ?_ | refine Wc ?_ | refine Wd ?_ | refine We ?_ | refine Wf ?_ | refine Wg ?_ | refine Wh ?_ | refine Wi ?_ | refine Wj ?_ | refine Wk (by decide) ?_ | refine Wl ?_ | refine Wm ?_ | refine Wn ?_) | ((with_reducible first | refine Wo (fun K hK => ?_) | refine Wq ?_ | refine Wr ?_); (try simp only [go_sem, List.forall_mem_nil, ↓guard_ite, ↓pick_ite, seval, encT_eq, inR_i64]); (repeat with_reducible refine And.intro (by first | omega | (with_reducible first | exact lens_encT | exact lens_encL | exact lens_encB | exact lens_encP) | (simp; done) | (simp only [List.length_take, List.length_map, List.length_append, maxLen_eq]; omega)) ?_); (try (with_reducible refine hK _ ?_; clear hK K))))
    refine ⟨_, for_a s t.name, ?_⟩
    cases hl : lookup s t.name
    case' none =>
      repeat' (first | (with_reducible first | refine Wa ?_ | refine Wb ?_ | refine Wc ?_ | refine Wd ?_ | refine We ?_ | refine Wf ?_ | refine Wg ?_ | refine Wh ?_ | refine Wi ?_ | refine Wj ?_ | refine Wk (by decide) ?_ | refine Wl ?_ | refine Wm ?_ | refine Wn ?_) | ((with_reducible first | refine Wo (fun K hK => ?_) | refine Wq ?_ | refine Wr ?_); (try simp only [go_sem, List.forall_mem_nil, ↓guard_ite, ↓pick_ite, seval, encT_eq, inR_i64, hl, Option.isSome_none]); (repeat with_reducible refine And.intro (by first | omega | (with_reducible first | exact lens_encT | exact lens_encL | exact lens_encB | exact lens_encP) | (simp; done) | (simp only [List.length_take, List.length_map, List.length_append, maxLen_eq]; omega)) ?_); (try (with_reducible refine hK _ ?_; clear hK K))))
      with_reducible refine Wp ?_
      simp only [go_sem, List.forall_mem_nil, ↓guard_ite, ↓pick_ite, seval, true_implies, false_implies, implies_true, decide_eq_true_eq, decide_eq_false_iff_not, Int.ofNat_lt]
      (try with_reducible refine ite_conj ?_)
      repeat' (first | (with_reducible first | refine Wa ?_ | refine Wb ?_ | refine Wc ?_ | refine Wd ?_ | refine We ?_ | refine Wf ?_ | refine Wg ?_ | refine Wh ?_ | refine Wi ?_ | refine Wj ?_ | refine Wk (by decide) ?_ | refine Wl ?_ | refine Wm ?_ | refine Wn ?_) | ((with_reducible first | refine Wo (fun K hK => ?_) | refine Wq ?_ | refine Wr ?_); (try simp only [go_sem, List.forall_mem_nil, ↓guard_ite, ↓pick_ite, seval, encT_eq, inR_i64]); (repeat with_reducible refine And.intro (by first | omega | (with_reducible first | exact lens_encT | exact lens_encL | exact lens_encB | exact lens_encP) | (simp; done) | (simp only [List.length_take, List.length_map, List.length_append, maxLen_eq]; omega)) ?_); (try (with_reducible refine hK _ ?_; clear hK K))))
    case' some x =>
      have h0' : ¬ (t.args.length : Int) = 0 := fun h => hleaf ⟨⟨_, hl⟩, List.eq_nil_of_length_eq_zero (by omega)⟩
      repeat' (first | (with_reducible first | refine Wa ?_ | refine Wb ?_ | refine Wc ?_ | refine Wd ?_ | refine We ?_ | refine Wf ?_ | refine Wg ?_ | refine Wh ?_ | refine Wi ?_ | refine Wj ?_ | refine Wk (by decide) ?_ | refine Wl ?_ | refine Wm ?_ | refine Wn ?_) | ((with_reducible first | refine Wo (fun K hK => ?_) | refine Wq ?_ | refine Wr ?_); (try simp only [go_sem, List.forall_mem_nil, ↓guard_ite, ↓pick_ite, seval, encT_eq, inR_i64, hl, h0', Option.isSome_some]); (repeat with_reducible refine And.intro (by first | omega | (with_reducible first | exact lens_encT | exact lens_encL | exact lens_encB | exact lens_encP) | (simp; done) | (simp only [List.length_take, List.length_map, List.length_append, maxLen_eq]; omega)) ?_); (try (with_reducible refine hK _ ?_; clear hK K))))
      with_reducible refine Wp ?_
      simp only [go_sem, List.forall_mem_nil, ↓guard_ite, ↓pick_ite, seval, true_implies, false_implies, implies_true, decide_eq_true_eq, decide_eq_false_iff_not, Int.ofNat_lt]
      (try with_reducible refine ite_conj ?_)
      repeat' (first | (with_reducible first | refine Wa ?_ | refine Wb ?_ | refine Wc ?_ | refine Wd ?_ | refine We ?_ | refine Wf ?_ | refine Wg ?_ | refine Wh ?_ | refine Wi ?_ | refine Wj ?_ | refine Wk (by decide) ?_ | refine Wl ?_ | refine Wm ?_ | refine Wn ?_) | ((with_reducible first | refine Wo (fun K hK => ?_) | refine Wq ?_ | refine Wr ?_); (try simp only [go_sem, List.forall_mem_nil, ↓guard_ite, ↓pick_ite, seval, encT_eq, inR_i64]); (repeat with_reducible refine And.intro (by first | omega | (with_reducible first | exact lens_encT | exact lens_encL | exact lens_encB | exact lens_encP) | (simp; done) | (simp only [List.length_take, List.length_map, List.length_append, maxLen_eq]; omega)) ?_); (try (with_reducible refine hK _ ?_; clear hK K))))
    all_goals
      refine IWP.ghost (Ghost.ownC 7 1 44 24 2 (xs := ([] : List Tm).map encT) rfl rfl rfl lens_encT) ?_
      refine IWP.loop (fun m x => ∃ k, k ≤ t.args.length ∧ m = t.args.length - k ∧ x.env 0 = aBds s ∧ x.env 3 = .one (.ptr 3 1 0 0) ∧ x.env 4 = .one (.ptr 4 1 0 0) ∧ x.env 7 = .one (.ptr 7 1 0 0) ∧ x.S 3 = some (.box 24 [.st (.str t.name), .st (.list (t.args.map encT))]) ∧ x.S 4 = some (.box 24 [.st (.str ⟨#[]⟩), .full []]) ∧ x.S 7 = some (.box 24 [.st (.str t.name), .row 44 k]) ∧ x.S 44 = some (.arow 24 2 (((t.args.take k).map (Tm.on s)).map encT)) ∧ x.env 8 = aInt k)
        t.args.length ⟨0, Nat.zero_le _, rfl, rfl, rfl, rfl, rfl, rfl, rfl, rfl, rfl, rfl⟩ ?_
      rintro m ⟨env, S⟩ ⟨k, hk, rfl, e0, e3, e4, e7, s3, s4, s7, s44, e8⟩
      simp only at e0 e3 e4 e7 s3 s4 s7 s44 e8
      have hlk : (t.args.take k).length = k := by rw [List.length_take]; omega
      by_cases hlt : (k : Int) < t.args.length
      · obtain ⟨a, ha⟩ := get_lt (show k < t.args.length by omega)
        repeat' (first | (with_reducible first | refine Wa ?_ | refine Wb ?_ | refine Wc ?_ | refine Wd ?_ | refine We ?_ | refine Wf ?_ | refine Wg ?_ | refine Wh ?_ | refine Wi ?_ | refine Wj ?_ | refine Wk (by decide) ?_ | refine Wl ?_ | refine Wm ?_ | refine Wn ?_) | ((with_reducible first | refine Wo (fun K hK => ?_) | refine Wq ?_ | refine Wr ?_); (try simp only [go_sem, List.forall_mem_nil, ↓guard_ite, ↓pick_ite, seval, encT_eq, inR_i64, e0, e3, e4, e7, s3, s4, s7, s44, e8, hlt]); (repeat with_reducible refine And.intro (by first | omega | (with_reducible first | exact lens_encT | exact lens_encL | exact lens_encB | exact lens_encP) | (simp; done) | (simp only [List.length_take, List.length_map, List.length_append, maxLen_eq]; omega)) ?_); (try (with_reducible refine hK _ ?_; clear hK K))))
        with_reducible refine Wp ?_
        simp only [go_sem, List.forall_mem_nil, ↓guard_ite, ↓pick_ite, seval, true_implies, false_implies, implies_true, decide_eq_true_eq, decide_eq_false_iff_not, Int.ofNat_lt, hlt]
        (try with_reducible refine ite_conj ?_)
        repeat' (first | (with_reducible first | refine Wa ?_ | refine Wb ?_ | refine Wc ?_ | refine Wd ?_ | refine We ?_ | refine Wf ?_ | refine Wg ?_ | refine Wh ?_ | refine Wi ?_ | refine Wj ?_ | refine Wk (by decide) ?_ | refine Wl ?_ | refine Wm ?_ | refine Wn ?_) | refine CallG.mk _ (ih _ (Tm.lt_of_arg (mem_of_get ha)) a (by have := Tm.size_mem (mem_of_get ha); omega) rfl) ?_ | ((with_reducible first | refine Wo (fun K hK => ?_) | refine Wq ?_ | refine Wr ?_); (try simp only [go_sem, List.forall_mem_nil, ↓guard_ite, ↓pick_ite, seval, encT_eq, inR_i64, e0, e3, e4, e7, s3, s4, s7, s44, e8, ha, hlk]); (repeat with_reducible refine And.intro (by first | omega | (with_reducible first | exact lens_encT | exact lens_encL | exact lens_encB | exact lens_encP) | (simp; done) | (simp only [List.length_take, List.length_map, List.length_append, maxLen_eq]; omega)) ?_); (try (with_reducible refine hK _ ?_; clear hK K))))
        refine then_normal ⟨t.args.length - (k + 1), by omega, k + 1, by omega, rfl, ?_⟩
        simp only [go_sem, List.forall_mem_nil, ↓guard_ite, ↓pick_ite, seval, encT_eq, inR_i64, e0, e3, e4, e7, s3, s4, s7, s44, e8]
        exact ⟨by rw [take_snoc ha]; simp [encT_eq], by congr 3⟩
      · repeat' (first | (with_reducible first | refine Wa ?_ | refine Wb ?_ | refine Wc ?_ | refine Wd ?_ | refine We ?_ | refine Wf ?_ | refine Wg ?_ | refine Wh ?_ | refine Wi ?_ | refine Wj ?_ | refine Wk (by decide) ?_ | refine Wl ?_ | refine Wm ?_ | refine Wn ?_) | ((with_reducible first | refine Wo (fun K hK => ?_) | refine Wq ?_ | refine Wr ?_); (try simp only [go_sem, List.forall_mem_nil, ↓guard_ite, ↓pick_ite, seval, encT_eq, inR_i64, e0, e3, e4, e7, s3, s4, s7, s44, e8, hlt]); (repeat with_reducible refine And.intro (by first | omega | (with_reducible first | exact lens_encT | exact lens_encL | exact lens_encB | exact lens_encP) | (simp; done) | (simp only [List.length_take, List.length_map, List.length_append, maxLen_eq]; omega)) ?_); (try (with_reducible refine hK _ ?_; clear hK K))))
        with_reducible refine Wp ?_
        simp only [go_sem, List.forall_mem_nil, ↓guard_ite, ↓pick_ite, seval, true_implies, false_implies, implies_true, decide_eq_true_eq, decide_eq_false_iff_not, Int.ofNat_lt, hlt]
        (try with_reducible refine ite_conj ?_)
        have hall : t.args.take k = t.args := List.take_of_length_le (by omega)
        rw [hall] at hlk s44
        repeat' (first | (with_reducible first | refine Wa ?_ | refine Wb ?_ | refine Wc ?_ | refine Wd ?_ | refine We ?_ | refine Wf ?_ | refine Wg ?_ | refine Wh ?_ | refine Wi ?_ | refine Wj ?_ | refine Wk (by decide) ?_ | refine Wl ?_ | refine Wm ?_ | refine Wn ?_) | ((with_reducible first | refine Wo (fun K hK => ?_) | refine Wq ?_ | refine Wr ?_); (try simp only [go_sem, List.forall_mem_nil, ↓guard_ite, ↓pick_ite, seval, encT_eq, inR_i64, e0, e3, e4, e7, s3, s4, s7, s44, e8, hlk]); (repeat with_reducible refine And.intro (by first | omega | (with_reducible first | exact lens_encT | exact lens_encL | exact lens_encB | exact lens_encP) | (simp; done) | (simp only [List.length_take, List.length_map, List.length_append, maxLen_eq]; omega)) ?_); (try (with_reducible refine hK _ ?_; clear hK K))))
        simp only [go_sem, List.forall_mem_nil, ↓guard_ite, ↓pick_ite, seval, FinQ, AS.result, resAll, resOne, tupV, e4, s44, hlk]
        rfl
theorem grown_a (s : List Bd) (t : Tm) (m : Int) (h0 : 0 ≤ m) (h1 : m ≤ 9223372036854775806) : ACalls Try.prog 39 [aBds s, aTm t, aInt m] (aInt (capTo (t.on s).size m)) := by
  induction h : SizeOf.sizeOf t using Nat.strongRecOn generalizing t m with
  | _ N ih =>
  subst h
  by_cases hleaf : (∃ x, lookup s t.name = some x) ∧ t.args = []
  · obtain ⟨⟨x, hx⟩, ha0⟩ := hleaf
    have h0' : (t.args.length : Int) = 0 := by rw [ha0]; rfl
    rw [Tm.on_leaf hx ha0]
    refine ac_R_grown (Nat.le_of_ble_eq_true rfl) fun C hC => ?_
    unfold ir_R_grown
    repeat' (first | (with_reducible first | refine Wa ?_ | refine Wb ?_ | refine Wc ?_ | refine Wd ?_ | refine We ?_ | refine Wf ?_ | refine Wg ?_ | refine Wh ?_ | refine Wi ?_ | refine Wj ?_ | refine Wk (by decide) ?_ | refine Wl ?_ | refine Wm ?_ | refine Wn ?_) | refine CallG.mk _ (for_a s t.name) ?_ | ((with_reducible first | refine Wo (fun K hK => ?_) | refine Wq ?_ | refine Wr ?_); (try simp only [go_sem, List.forall_mem_nil, ↓guard_ite, ↓pick_ite, seval, encT_eq, inR_i64, hx, h0', Option.isSome_some]); (repeat with_reducible refine And.intro (by first | omega | (with_reducible first | exact lens_encT | exact lens_encL | exact lens_encB | exact lens_encP) | (simp; done) | (simp only [List.length_take, List.length_map, List.length_append, maxLen_eq]; omega)) ?_); (try (with_reducible refine hK _ ?_; clear hK K))))
    with_reducible refine Wp ?_
    simp only [go_sem, List.forall_mem_nil, ↓guard_ite, ↓pick_ite, seval, true_implies, false_implies, implies_true, decide_eq_true_eq, decide_eq_false_iff_not, Int.ofNat_lt]
    (try with_reducible refine ite_conj ?_)
    repeat' (first | (with_reducible first | refine Wa ?_ | refine Wb ?_ | refine Wc ?_ | refine Wd ?_ | refine We ?_ | refine Wf ?_ | refine Wg ?_ | refine Wh ?_ | refine Wi ?_ | refine Wj ?_ | refine Wk (by decide) ?_ | refine Wl ?_ | refine Wm ?_ | refine Wn ?_) | refine CallG.mk _ (sizeR_a x m h0 h1) ?_ | ((with_reducible first | refine Wo (fun K hK => ?_) | refine Wq ?_ | refine Wr ?_); (try simp only [go_sem, List.forall_mem_nil, ↓guard_ite, ↓pick_ite, seval, encT_eq, inR_i64]); (repeat with_reducible refine And.intro (by first | omega | (with_reducible first | exact lens_encT | exact lens_encL | exact lens_encB | exact lens_encP) | (simp; done) | (simp only [List.length_take, List.length_map, List.length_append, maxLen_eq]; omega)) ?_); (try (with_reducible refine hK _ ?_; clear hK K))))
    simp only [go_sem, List.forall_mem_nil, ↓guard_ite, ↓pick_ite, seval, FinQ, AS.result, resAll, resOne, tupV]
  · have hon : t.on s = .mk t.name (t.args.map (Tm.on s)) := Tm.on_knot (by
      cases hl : lookup s t.name with
      | none => exact .inl rfl
      | some x => exact .inr fun h0 => hleaf ⟨⟨x, hl⟩, h0⟩)
    have hs : (t.on s).size = 1 + Tm.sizes (t.args.map (Tm.on s)) := by rw [hon]; rfl
    refine ac_R_grown (Nat.le_of_ble_eq_true rfl) fun C hC => ?_
    unfold ir_R_grown
    refine IWP.learn 1 (by omega) fun hkn => ?_
    have hkn := known_tm hkn
    repeat' (first | (with_reducible first | refine Wa ?_ | refine Wb ?_ | refine Wc ?_ | refine Wd ?_ | refine We ?_ | refine Wf ?_ | refine Wg ?_ | refine Wh ?_ | refine Wi ?_ | refine Wj ?_ | refine Wk (by decide) ?_ | refine Wl ?_ | refine Wm ?_ | refine Wn ?_) | ((with_reducible first | refine Wo (fun K hK => ?_) | refine Wq ?_ | refine Wr ?_); (try simp only [go_sem, List.forall_mem_nil, ↓guard_ite, ↓pick_ite, seval, encT_eq, inR_i64]); (repeat with_reducible refine And.intro (by first | omega | (with_reducible first | exact lens_encT | exact lens_encL | exact lens_encB | exact lens_encP) | (simp; done) | (simp only [List.length_take, List.length_map, List.length_append, maxLen_eq]; omega)) ?_); (try (with_reducible refine hK _ ?_; clear hK K))))
    refine ⟨_, for_a s t.name, ?_⟩
    cases hl : lookup s t.name
    case' none =>
      repeat' (first | (with_reducible first | refine Wa ?_ | refine Wb ?_ | refine Wc ?_ | refine Wd ?_ | refine We ?_ | refine Wf ?_ | refine Wg ?_ | refine Wh ?_ | refine Wi ?_ | refine Wj ?_ | refine Wk (by decide) ?_ | refine Wl ?_ | refine Wm ?_ | refine Wn ?_) | ((with_reducible first | refine Wo (fun K hK => ?_) | refine Wq ?_ | refine Wr ?_); (try simp only [go_sem, List.forall_mem_nil, ↓guard_ite, ↓pick_ite, seval, encT_eq, inR_i64, hl, Option.isSome_none]); (repeat with_reducible refine And.intro (by first | omega | (with_reducible first | exact lens_encT | exact lens_encL | exact lens_encB | exact lens_encP) | (simp; done) | (simp only [List.length_take, List.length_map, List.length_append, maxLen_eq]; omega)) ?_); (try (with_reducible refine hK _ ?_; clear hK K))))
      with_reducible refine Wp ?_
      simp only [go_sem, List.forall_mem_nil, ↓guard_ite, ↓pick_ite, seval, true_implies, false_implies, implies_true, decide_eq_true_eq, decide_eq_false_iff_not, Int.ofNat_lt]
      (try with_reducible refine ite_conj ?_)
      repeat' (first | (with_reducible first | refine Wa ?_ | refine Wb ?_ | refine Wc ?_ | refine Wd ?_ | refine We ?_ | refine Wf ?_ | refine Wg ?_ | refine Wh ?_ | refine Wi ?_ | refine Wj ?_ | refine Wk (by decide) ?_ | refine Wl ?_ | refine Wm ?_ | refine Wn ?_) | ((with_reducible first | refine Wo (fun K hK => ?_) | refine Wq ?_ | refine Wr ?_); (try simp only [go_sem, List.forall_mem_nil, ↓guard_ite, ↓pick_ite, seval, encT_eq, inR_i64]); (repeat with_reducible refine And.intro (by first | omega | (with_reducible first | exact lens_encT | exact lens_encL | exact lens_encB | exact lens_encP) | (simp; done) | (simp only [List.length_take, List.length_map, List.length_append, maxLen_eq]; omega)) ?_); (try (with_reducible refine hK _ ?_; clear hK K))))
    case' some x =>
      have h0' : ¬ (t.args.length : Int) = 0 := fun h => hleaf ⟨⟨_, hl⟩, List.eq_nil_of_length_eq_zero (by omega)⟩
      repeat' (first | (with_reducible first | refine Wa ?_ | refine Wb ?_ | refine Wc ?_ | refine Wd ?_ | refine We ?_ | refine Wf ?_ | refine Wg ?_ | refine Wh ?_ | refine Wi ?_ | refine Wj ?_ | refine Wk (by decide) ?_ | refine Wl ?_ | refine Wm ?_ | refine Wn ?_) | ((with_reducible first | refine Wo (fun K hK => ?_) | refine Wq ?_ | refine Wr ?_); (try simp only [go_sem, List.forall_mem_nil, ↓guard_ite, ↓pick_ite, seval, encT_eq, inR_i64, hl, h0', Option.isSome_some]); (repeat with_reducible refine And.intro (by first | omega | (with_reducible first | exact lens_encT | exact lens_encL | exact lens_encB | exact lens_encP) | (simp; done) | (simp only [List.length_take, List.length_map, List.length_append, maxLen_eq]; omega)) ?_); (try (with_reducible refine hK _ ?_; clear hK K))))
      with_reducible refine Wp ?_
      simp only [go_sem, List.forall_mem_nil, ↓guard_ite, ↓pick_ite, seval, true_implies, false_implies, implies_true, decide_eq_true_eq, decide_eq_false_iff_not, Int.ofNat_lt]
      (try with_reducible refine ite_conj ?_)
      repeat' (first | (with_reducible first | refine Wa ?_ | refine Wb ?_ | refine Wc ?_ | refine Wd ?_ | refine We ?_ | refine Wf ?_ | refine Wg ?_ | refine Wh ?_ | refine Wi ?_ | refine Wj ?_ | refine Wk (by decide) ?_ | refine Wl ?_ | refine Wm ?_ | refine Wn ?_) | ((with_reducible first | refine Wo (fun K hK => ?_) | refine Wq ?_ | refine Wr ?_); (try simp only [go_sem, List.forall_mem_nil, ↓guard_ite, ↓pick_ite, seval, encT_eq, inR_i64]); (repeat with_reducible refine And.intro (by first | omega | (with_reducible first | exact lens_encT | exact lens_encL | exact lens_encB | exact lens_encP) | (simp; done) | (simp only [List.length_take, List.length_map, List.length_append, maxLen_eq]; omega)) ?_); (try (with_reducible refine hK _ ?_; clear hK K))))
    all_goals
      refine IWP.loop (fun n x => ∃ k, k ≤ t.args.length ∧ n = t.args.length - k ∧ x.env 9 = aInt (capTo (1 + Tm.sizes ((t.args.take k).map (Tm.on s))) m) ∧ x.env 0 = aBds s ∧ x.env 2 = aInt m ∧ x.env 4 = .one (.ptr 4 1 0 0) ∧ x.env 10 = aInt k ∧ x.S 4 = some (.box 24 [.st (.str t.name), .st (.list (t.args.map encT))])) t.args.length ⟨0, Nat.zero_le _, rfl, by
        simp only [go_sem, List.forall_mem_nil, ↓guard_ite, ↓pick_ite, seval, encT_eq, inR_i64]
        rw [capTo]
        have z0 : Tm.sizes [] = 0 := rfl
        congr 3
        split <;> omega, rfl, rfl, rfl, rfl, rfl⟩ ?_
      rintro n ⟨env, S⟩ ⟨k, hk, rfl, e9, e0, e2, e4, e10, s4⟩
      simp only at e9 e0 e2 e4 e10 s4
      have z4 := capTo_le (1 + Tm.sizes ((t.args.take k).map (Tm.on s))) m h0
      have zle : 1 + Tm.sizes ((t.args.take k).map (Tm.on s)) ≤ (t.on s).size := by
        rw [hs, List.map_take]
        have := Tm.sizes_take_le (t.args.map (Tm.on s)) k
        omega
      by_cases hlt : (k : Int) < t.args.length
      · obtain ⟨a, ha⟩ := get_lt (show k < t.args.length by omega)
        have ha' : (t.args.map (Tm.on s))[k]? = some (a.on s) := by rw [List.getElem?_map, ha]; rfl
        have z1 := Tm.sizes_take ha'
        rw [← List.map_take, ← List.map_take] at z1
        by_cases hb : m < capTo (1 + Tm.sizes ((t.args.take k).map (Tm.on s))) m
        · have hb' : ¬ capTo (1 + Tm.sizes ((t.args.take k).map (Tm.on s))) m ≤ m := by omega
          repeat' (first | (with_reducible first | refine Wa ?_ | refine Wb ?_ | refine Wc ?_ | refine Wd ?_ | refine We ?_ | refine Wf ?_ | refine Wg ?_ | refine Wh ?_ | refine Wi ?_ | refine Wj ?_ | refine Wk (by decide) ?_ | refine Wl ?_ | refine Wm ?_ | refine Wn ?_) | ((with_reducible first | refine Wo (fun K hK => ?_) | refine Wq ?_ | refine Wr ?_); (try simp only [go_sem, List.forall_mem_nil, ↓guard_ite, ↓pick_ite, seval, encT_eq, inR_i64, e9, e0, e2, e4, e10, s4, hlt, hb']); (repeat with_reducible refine And.intro (by first | omega | (with_reducible first | exact lens_encT | exact lens_encL | exact lens_encB | exact lens_encP) | (simp; done) | (simp only [List.length_take, List.length_map, List.length_append, maxLen_eq]; omega)) ?_); (try (with_reducible refine hK _ ?_; clear hK K))))
          with_reducible refine Wp ?_
          simp only [go_sem, List.forall_mem_nil, ↓guard_ite, ↓pick_ite, seval, true_implies, false_implies, implies_true, decide_eq_true_eq, decide_eq_false_iff_not, Int.ofNat_lt, hb']
          (try with_reducible refine ite_conj ?_)
          repeat' (first | (with_reducible first | refine Wa ?_ | refine Wb ?_ | refine Wc ?_ | refine Wd ?_ | refine We ?_ | refine Wf ?_ | refine Wg ?_ | refine Wh ?_ | refine Wi ?_ | refine Wj ?_ | refine Wk (by decide) ?_ | refine Wl ?_ | refine Wm ?_ | refine Wn ?_) | ((with_reducible first | refine Wo (fun K hK => ?_) | refine Wq ?_ | refine Wr ?_); (try simp only [go_sem, List.forall_mem_nil, ↓guard_ite, ↓pick_ite, seval, encT_eq, inR_i64, e9, e2]); (repeat with_reducible refine And.intro (by first | omega | (with_reducible first | exact lens_encT | exact lens_encL | exact lens_encB | exact lens_encP) | (simp; done) | (simp only [List.length_take, List.length_map, List.length_append, maxLen_eq]; omega)) ?_); (try (with_reducible refine hK _ ?_; clear hK K))))
          with_reducible refine Wp ?_
          simp only [go_sem, List.forall_mem_nil, ↓guard_ite, ↓pick_ite, seval, true_implies, false_implies, implies_true, decide_eq_true_eq, decide_eq_false_iff_not, Int.ofNat_lt, hb]
          (try with_reducible refine ite_conj ?_)
          repeat' (first | (with_reducible first | refine Wa ?_ | refine Wb ?_ | refine Wc ?_ | refine Wd ?_ | refine We ?_ | refine Wf ?_ | refine Wg ?_ | refine Wh ?_ | refine Wi ?_ | refine Wj ?_ | refine Wk (by decide) ?_ | refine Wl ?_ | refine Wm ?_ | refine Wn ?_) | ((with_reducible first | refine Wo (fun K hK => ?_) | refine Wq ?_ | refine Wr ?_); (try simp only [go_sem, List.forall_mem_nil, ↓guard_ite, ↓pick_ite, seval, encT_eq, inR_i64, e2]); (repeat with_reducible refine And.intro (by first | omega | (with_reducible first | exact lens_encT | exact lens_encL | exact lens_encB | exact lens_encP) | (simp; done) | (simp only [List.length_take, List.length_map, List.length_append, maxLen_eq]; omega)) ?_); (try (with_reducible refine hK _ ?_; clear hK K))))
          simp only [go_sem, List.forall_mem_nil, ↓guard_ite, ↓pick_ite, seval, FinQ, AS.result, resAll, resOne, tupV]
          rw [capTo_over hb zle]
        · have hb' : capTo (1 + Tm.sizes ((t.args.take k).map (Tm.on s))) m ≤ m := by omega
          obtain ⟨b1, b2⟩ := capTo_in hb
          repeat' (first | (with_reducible first | refine Wa ?_ | refine Wb ?_ | refine Wc ?_ | refine Wd ?_ | refine We ?_ | refine Wf ?_ | refine Wg ?_ | refine Wh ?_ | refine Wi ?_ | refine Wj ?_ | refine Wk (by decide) ?_ | refine Wl ?_ | refine Wm ?_ | refine Wn ?_) | ((with_reducible first | refine Wo (fun K hK => ?_) | refine Wq ?_ | refine Wr ?_); (try simp only [go_sem, List.forall_mem_nil, ↓guard_ite, ↓pick_ite, seval, encT_eq, inR_i64, e9, e0, e2, e4, e10, s4, hlt, hb']); (repeat with_reducible refine And.intro (by first | omega | (with_reducible first | exact lens_encT | exact lens_encL | exact lens_encB | exact lens_encP) | (simp; done) | (simp only [List.length_take, List.length_map, List.length_append, maxLen_eq]; omega)) ?_); (try (with_reducible refine hK _ ?_; clear hK K))))
          with_reducible refine Wp ?_
          simp only [go_sem, List.forall_mem_nil, ↓guard_ite, ↓pick_ite, seval, true_implies, false_implies, implies_true, decide_eq_true_eq, decide_eq_false_iff_not, Int.ofNat_lt, hb']
          (try with_reducible refine ite_conj ?_)
          repeat' (first | (with_reducible first | refine Wa ?_ | refine Wb ?_ | refine Wc ?_ | refine Wd ?_ | refine We ?_ | refine Wf ?_ | refine Wg ?_ | refine Wh ?_ | refine Wi ?_ | refine Wj ?_ | refine Wk (by decide) ?_ | refine Wl ?_ | refine Wm ?_ | refine Wn ?_) | ((with_reducible first | refine Wo (fun K hK => ?_) | refine Wq ?_ | refine Wr ?_); (try simp only [go_sem, List.forall_mem_nil, ↓guard_ite, ↓pick_ite, seval, encT_eq, inR_i64, e9, e0, e2, e4, e10, s4, ha]); (repeat with_reducible refine And.intro (by first | omega | (with_reducible first | exact lens_encT | exact lens_encL | exact lens_encB | exact lens_encP) | (simp; done) | (simp only [List.length_take, List.length_map, List.length_append, maxLen_eq]; omega)) ?_); (try (with_reducible refine hK _ ?_; clear hK K))))
          refine ⟨_, ih _ (Tm.lt_of_arg (mem_of_get ha)) a (m - capTo (1 + Tm.sizes ((t.args.take k).map (Tm.on s))) m) (by omega) (by omega) rfl, ?_⟩
          have z5 := capTo_le (a.on s).size (m - capTo (1 + Tm.sizes ((t.args.take k).map (Tm.on s))) m) (by omega)
          repeat' (first | (with_reducible first | refine Wa ?_ | refine Wb ?_ | refine Wc ?_ | refine Wd ?_ | refine We ?_ | refine Wf ?_ | refine Wg ?_ | refine Wh ?_ | refine Wi ?_ | refine Wj ?_ | refine Wk (by decide) ?_ | refine Wl ?_ | refine Wm ?_ | refine Wn ?_) | ((with_reducible first | refine Wo (fun K hK => ?_) | refine Wq ?_ | refine Wr ?_); (try simp only [go_sem, List.forall_mem_nil, ↓guard_ite, ↓pick_ite, seval, encT_eq, inR_i64, e9, e0, e2, e4, e10, s4]); (repeat with_reducible refine And.intro (by first | omega | (with_reducible first | exact lens_encT | exact lens_encL | exact lens_encB | exact lens_encP) | (simp; done) | (simp only [List.length_take, List.length_map, List.length_append, maxLen_eq]; omega)) ?_); (try (with_reducible refine hK _ ?_; clear hK K))))
          refine then_normal ⟨t.args.length - (k + 1), by omega, k + 1, by omega, rfl, ?_⟩
          simp only [go_sem, List.forall_mem_nil, ↓guard_ite, ↓pick_ite, seval, encT_eq, inR_i64, e9, e0, e2, e4, e10, s4]
          exact ⟨by rw [b1, capTo_step b2, z1]; congr 4; omega, by congr 3⟩
      · repeat' (first | (with_reducible first | refine Wa ?_ | refine Wb ?_ | refine Wc ?_ | refine Wd ?_ | refine We ?_ | refine Wf ?_ | refine Wg ?_ | refine Wh ?_ | refine Wi ?_ | refine Wj ?_ | refine Wk (by decide) ?_ | refine Wl ?_ | refine Wm ?_ | refine Wn ?_) | ((with_reducible first | refine Wo (fun K hK => ?_) | refine Wq ?_ | refine Wr ?_); (try simp only [go_sem, List.forall_mem_nil, ↓guard_ite, ↓pick_ite, seval, encT_eq, inR_i64, e9, e0, e2, e4, e10, s4, hlt]); (repeat with_reducible refine And.intro (by first | omega | (with_reducible first | exact lens_encT | exact lens_encL | exact lens_encB | exact lens_encP) | (simp; done) | (simp only [List.length_take, List.length_map, List.length_append, maxLen_eq]; omega)) ?_); (try (with_reducible refine hK _ ?_; clear hK K))))
        with_reducible refine Wp ?_
        simp only [go_sem, List.forall_mem_nil, ↓guard_ite, ↓pick_ite, seval, true_implies, false_implies, implies_true, decide_eq_true_eq, decide_eq_false_iff_not, Int.ofNat_lt]
        (try with_reducible refine ite_conj ?_)
        have hfull : 1 + Tm.sizes ((t.args.take k).map (Tm.on s)) = (t.on s).size := by rw [List.take_of_length_le (by omega), hs]
        rw [hfull] at e9 z4
        repeat' (first | (with_reducible first | refine Wa ?_ | refine Wb ?_ | refine Wc ?_ | refine Wd ?_ | refine We ?_ | refine Wf ?_ | refine Wg ?_ | refine Wh ?_ | refine Wi ?_ | refine Wj ?_ | refine Wk (by decide) ?_ | refine Wl ?_ | refine Wm ?_ | refine Wn ?_) | ((with_reducible first | refine Wo (fun K hK => ?_) | refine Wq ?_ | refine Wr ?_); (try simp only [go_sem, List.forall_mem_nil, ↓guard_ite, ↓pick_ite, seval, encT_eq, inR_i64, e9, e2]); (repeat with_reducible refine And.intro (by first | omega | (with_reducible first | exact lens_encT | exact lens_encL | exact lens_encB | exact lens_encP) | (simp; done) | (simp only [List.length_take, List.length_map, List.length_append, maxLen_eq]; omega)) ?_); (try (with_reducible refine hK _ ?_; clear hK K))))
        by_cases hb : m < capTo (t.on s).size m
        · with_reducible refine Wp ?_
          simp only [go_sem, List.forall_mem_nil, ↓guard_ite, ↓pick_ite, seval, true_implies, false_implies, implies_true, decide_eq_true_eq, decide_eq_false_iff_not, Int.ofNat_lt, hb]
          (try with_reducible refine ite_conj ?_)
          repeat' (first | (with_reducible first | refine Wa ?_ | refine Wb ?_ | refine Wc ?_ | refine Wd ?_ | refine We ?_ | refine Wf ?_ | refine Wg ?_ | refine Wh ?_ | refine Wi ?_ | refine Wj ?_ | refine Wk (by decide) ?_ | refine Wl ?_ | refine Wm ?_ | refine Wn ?_) | ((with_reducible first | refine Wo (fun K hK => ?_) | refine Wq ?_ | refine Wr ?_); (try simp only [go_sem, List.forall_mem_nil, ↓guard_ite, ↓pick_ite, seval, encT_eq, inR_i64, e2]); (repeat with_reducible refine And.intro (by first | omega | (with_reducible first | exact lens_encT | exact lens_encL | exact lens_encB | exact lens_encP) | (simp; done) | (simp only [List.length_take, List.length_map, List.length_append, maxLen_eq]; omega)) ?_); (try (with_reducible refine hK _ ?_; clear hK K))))
          simp only [go_sem, List.forall_mem_nil, ↓guard_ite, ↓pick_ite, seval, FinQ, AS.result, resAll, resOne, tupV]
          rw [capTo_over hb (Nat.le_refl _)]
        · with_reducible refine Wp ?_
          simp only [go_sem, List.forall_mem_nil, ↓guard_ite, ↓pick_ite, seval, true_implies, false_implies, implies_true, decide_eq_true_eq, decide_eq_false_iff_not, Int.ofNat_lt, hb]
          (try with_reducible refine ite_conj ?_)
          repeat' (first | (with_reducible first | refine Wa ?_ | refine Wb ?_ | refine Wc ?_ | refine Wd ?_ | refine We ?_ | refine Wf ?_ | refine Wg ?_ | refine Wh ?_ | refine Wi ?_ | refine Wj ?_ | refine Wk (by decide) ?_ | refine Wl ?_ | refine Wm ?_ | refine Wn ?_) | ((with_reducible first | refine Wo (fun K hK => ?_) | refine Wq ?_ | refine Wr ?_); (try simp only [go_sem, List.forall_mem_nil, ↓guard_ite, ↓pick_ite, seval, encT_eq, inR_i64, e9]); (repeat with_reducible refine And.intro (by first | omega | (with_reducible first | exact lens_encT | exact lens_encL | exact lens_encB | exact lens_encP) | (simp; done) | (simp only [List.length_take, List.length_map, List.length_append, maxLen_eq]; omega)) ?_); (try (with_reducible refine hK _ ?_; clear hK K))))
          simp only [go_sem, List.forall_mem_nil, ↓guard_ite, ↓pick_ite, seval, FinQ, AS.result, resAll, resOne, tupV, e9]
def onTo (s : List Bd) (t : Tm) : Tm × Bool := if (t.on s).size ≤ 2000 then (t.on s, true) else (Tm.nil, false)
theorem onRef_a (s : List Bd) (t : Tm) (hz : t.size ≤ 1000000) : ACalls Try.prog 20 [aBds s, aTm t] (.tup [aTm (onTo s t).1, aBool (onTo s t).2]) := by
  by_cases hb : (2000 : Int) < capTo (t.on s).size 2000
  · have e : onTo s t = (Tm.nil, false) := by
      unfold onTo
      rw [if_neg]
      intro h
      unfold capTo at hb
      split at hb <;> omega
    rw [e]
    refine ac_R_On (Nat.le_of_ble_eq_true rfl) fun C hC => ?_
    unfold ir_R_On
    repeat' (first | (with_reducible first | refine Wa ?_ | refine Wb ?_ | refine Wc ?_ | refine Wd ?_ | refine We ?_ | refine Wf ?_ | refine Wg ?_ | refine Wh ?_ | refine Wi ?_ | refine Wj ?_ | refine Wk (by decide) ?_ | refine Wl ?_ | refine Wm ?_ | refine Wn ?_) | refine CallG.mk _ (grown_a s t 2000 (by omega) (by omega)) ?_ | ((with_reducible first | refine Wo (fun K hK => ?_) | refine Wq ?_ | refine Wr ?_); (try simp only [go_sem, List.forall_mem_nil, ↓guard_ite, ↓pick_ite, seval, encT_eq, inR_i64, hb]); (repeat with_reducible refine And.intro (by first | omega | (with_reducible first | exact lens_encT | exact lens_encL | exact lens_encB | exact lens_encP) | (simp; done) | (simp only [List.length_take, List.length_map, List.length_append, maxLen_eq]; omega)) ?_); (try (with_reducible refine hK _ ?_; clear hK K))))
    with_reducible refine Wp ?_
    simp only [go_sem, List.forall_mem_nil, ↓guard_ite, ↓pick_ite, seval, true_implies, false_implies, implies_true, decide_eq_true_eq, decide_eq_false_iff_not, Int.ofNat_lt, hb]
    (try with_reducible refine ite_conj ?_)
    repeat' (first | (with_reducible first | refine Wa ?_ | refine Wb ?_ | refine Wc ?_ | refine Wd ?_ | refine We ?_ | refine Wf ?_ | refine Wg ?_ | refine Wh ?_ | refine Wi ?_ | refine Wj ?_ | refine Wk (by decide) ?_ | refine Wl ?_ | refine Wm ?_ | refine Wn ?_) | ((with_reducible first | refine Wo (fun K hK => ?_) | refine Wq ?_ | refine Wr ?_); (try simp only [go_sem, List.forall_mem_nil, ↓guard_ite, ↓pick_ite, seval, encT_eq, inR_i64]); (repeat with_reducible refine And.intro (by first | omega | (with_reducible first | exact lens_encT | exact lens_encL | exact lens_encB | exact lens_encP) | (simp; done) | (simp only [List.length_take, List.length_map, List.length_append, maxLen_eq]; omega)) ?_); (try (with_reducible refine hK _ ?_; clear hK K))))
    simp only [go_sem, List.forall_mem_nil, ↓guard_ite, ↓pick_ite, seval, FinQ, AS.result, resAll, resOne, tupV]
    rfl
  · have e : onTo s t = (t.on s, true) := by
      unfold onTo
      rw [if_pos]
      have := (capTo_in hb).2
      omega
    rw [e]
    refine ac_R_On (Nat.le_of_ble_eq_true rfl) fun C hC => ?_
    unfold ir_R_On
    repeat' (first | (with_reducible first | refine Wa ?_ | refine Wb ?_ | refine Wc ?_ | refine Wd ?_ | refine We ?_ | refine Wf ?_ | refine Wg ?_ | refine Wh ?_ | refine Wi ?_ | refine Wj ?_ | refine Wk (by decide) ?_ | refine Wl ?_ | refine Wm ?_ | refine Wn ?_) | refine CallG.mk _ (grown_a s t 2000 (by omega) (by omega)) ?_ | ((with_reducible first | refine Wo (fun K hK => ?_) | refine Wq ?_ | refine Wr ?_); (try simp only [go_sem, List.forall_mem_nil, ↓guard_ite, ↓pick_ite, seval, encT_eq, inR_i64, hb]); (repeat with_reducible refine And.intro (by first | omega | (with_reducible first | exact lens_encT | exact lens_encL | exact lens_encB | exact lens_encP) | (simp; done) | (simp only [List.length_take, List.length_map, List.length_append, maxLen_eq]; omega)) ?_); (try (with_reducible refine hK _ ?_; clear hK K))))
    with_reducible refine Wp ?_
    simp only [go_sem, List.forall_mem_nil, ↓guard_ite, ↓pick_ite, seval, true_implies, false_implies, implies_true, decide_eq_true_eq, decide_eq_false_iff_not, Int.ofNat_lt, hb]
    (try with_reducible refine ite_conj ?_)
    repeat' (first | (with_reducible first | refine Wa ?_ | refine Wb ?_ | refine Wc ?_ | refine Wd ?_ | refine We ?_ | refine Wf ?_ | refine Wg ?_ | refine Wh ?_ | refine Wi ?_ | refine Wj ?_ | refine Wk (by decide) ?_ | refine Wl ?_ | refine Wm ?_ | refine Wn ?_) | refine CallG.mk _ (onR_a s t hz) ?_ | ((with_reducible first | refine Wo (fun K hK => ?_) | refine Wq ?_ | refine Wr ?_); (try simp only [go_sem, List.forall_mem_nil, ↓guard_ite, ↓pick_ite, seval, encT_eq, inR_i64]); (repeat with_reducible refine And.intro (by first | omega | (with_reducible first | exact lens_encT | exact lens_encL | exact lens_encB | exact lens_encP) | (simp; done) | (simp only [List.length_take, List.length_map, List.length_append, maxLen_eq]; omega)) ?_); (try (with_reducible refine hK _ ?_; clear hK K))))
    simp only [go_sem, List.forall_mem_nil, ↓guard_ite, ↓pick_ite, seval, FinQ, AS.result, resAll, resOne, tupV]
end Go.Proofs.Ytohgkbgpcnmdpaa

namespace Go.Proofs.Ytohgkbgpcnmdpaa
open Go Go.RowKit
set_option linter.unusedVariables false
theorem purgeS {ds : List Nat} (hds : ∀ d ∈ ds, d < 1000) {x : Option ABlk} (hb : ∀ b, x = some b → b.high = true) : x.map (ABlk.purge ds) = x := by
  cases h : x with
  | none => rfl
  | some b => rw [Option.map_some, ABlk.purge_high hds (hb b h)]
theorem lowS_is {S S1 : AStore} {a0 : Nat} {b : ABlk} (hS : Clean S) (ha : 1000 ≤ a0) (h1 : S1 a0 = some b) (h2 : ∀ i, 1000 ≤ i → i ≠ a0 → S1 i = S i) : lowS S1 = updE S a0 (some b) := by
  funext i
  show (if i < 1000 then none else S1 i) = _
  by_cases e : i = a0
  · subst e
    rw [if_neg (by omega), updE_same, h1]
  · rw [updE_ne _ e]
    by_cases hi : i < 1000
    · rw [if_pos hi, clean_none hS hi]
    · rw [if_neg hi, h2 i (by omega) e]
theorem highs_is {S S1 : AStore} {a0 : Nat} {b : ABlk} (hS : Clean S) (hb : b.high = true) (h1 : S1 a0 = some b) (h2 : ∀ i, 1000 ≤ i → i ≠ a0 → S1 i = S i) : ∀ i c, 1000 ≤ i → S1 i = some c → c.high = true := fun i c hi hc => by
  by_cases e : i = a0
  · subst e
    rw [h1] at hc
    cases hc
    exact hb
  · rw [h2 i hi e] at hc
    exact (hS i c hc).2
theorem finS_one {C : Ctx} {rs : List RV} {r : AV} {e : AX} {s : AS} {S : AStore} {a0 : Nat} {b : ABlk} (r0 : AV) (hS : Clean S) (ha : 1000 ≤ a0) (hb : b.high = true) (he : match e with | .normal => True | .ret => True | _ => False)
    (h1 : (resAll s rs).map tupV = some r0) (h2 : outV s.S r0 = some r) (h3 : s.S a0 = some b) (h4 : ∀ i, 1000 ≤ i → i ≠ a0 → s.S i = S i) : FinS C rs r (updE S a0 (some b)) e s :=
  finS_low he r0 h1 h2 (highs_is hS hb h3 h4) (lowS_is hS ha h3 h4) (clean_upd hS ha hb)
end Go.Proofs.Ytohgkbgpcnmdpaa
