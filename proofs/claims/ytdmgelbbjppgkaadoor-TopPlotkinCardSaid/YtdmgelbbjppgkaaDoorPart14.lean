/-
  Part 14 of the texts: BVars; PPair; PGen; IrBoth; BBoth; IrGen. Conditions: none.
-/
import Derived.Test.YtdmgelbbjppgkaaDoorPart13
import Derived.Lib.ItoaNum
namespace Go.Proofs.YtdmgelbbjppgkaaDoor
open Go Go.RowKit
set_option linter.unusedVariables false
set_option linter.unusedSimpArgs false
set_option maxHeartbeats 400000

theorem lens_encS {ts : List ByteArray} : ∀ x ∈ ts.map encS, x.length = 1 := by
  intro x hx
  obtain ⟨a, _, rfl⟩ := List.mem_map.1 hx
  rfl
/-- The reference's variables of a term. -/
theorem varsOf_a (t : Tm) (hz : t.size ≤ 1000000) : ACalls Tryd.prog 36 [aTm t] (aStrs t.varsOf) := by
  have hl := Tm.knots_length t
  refine ac_R_VarsOf (Nat.le_of_ble_eq_true rfl) fun C hC => ?_
  unfold ir_R_VarsOf
  repeat' (first | (with_reducible first | refine Wa ?_ | refine Wb ?_ | refine Wc ?_ | refine Wd ?_ | refine We ?_ | refine Wf ?_ | refine Wg ?_ | refine Wh ?_ | refine Wi ?_ | refine Wj ?_ | refine Wk (by decide) ?_ | refine Wl ?_ | refine Wm ?_ | refine Wn ?_) | refine CallG.mk _ (knots_a t hz) ?_ | ((with_reducible first | refine Wo (fun K hK => ?_) | refine Wq ?_ | refine Wr ?_); (try simp only [go_sem, List.forall_mem_nil, ↓guard_ite, ↓pick_ite, seval, encT_eq, inR_i64]); (repeat with_reducible refine And.intro (by first | omega | (with_reducible first | exact lens_encT | exact lens_encL | exact lens_encB | exact lens_encP) | (simp; done) | (simp only [List.length_take, List.length_map, List.length_append, maxLen_eq]; omega)) ?_); (try (with_reducible refine hK _ ?_; clear hK K))))
  refine IWP.ghost (Ghost.own 4 37 9 1 (xs := ([] : List ByteArray).map encS) rfl rfl lens_encS (by omega)) ?_
  refine IWP.loopD [] (fun m s => ∃ k, k ≤ t.knots.length ∧ m = t.knots.length - k ∧ s.env 3 = aTms t.knots ∧ s.env 4 = .one (.row 37 (addVars [] (t.knots.take k)).length) ∧ s.S 37 = some (.arow 9 1 ((addVars [] (t.knots.take k)).map encS)) ∧ s.env 5 = aInt k)
    t.knots.length ⟨0, Nat.zero_le _, rfl, rfl, rfl, rfl, rfl⟩ ?_
  rintro m ⟨env, S⟩ ⟨k, hk, rfl, e3, e4, s37, e5⟩
  simp only at e3 e4 s37 e5
  have hlen := addVars_length (t.knots.take k) []
  rw [List.length_take, List.length_nil] at hlen
  by_cases hlt : (k : Int) < t.knots.length
  · obtain ⟨a, ha⟩ := get_lt (show k < t.knots.length by omega)
    repeat' (first | (with_reducible first | refine Wa ?_ | refine Wb ?_ | refine Wc ?_ | refine Wd ?_ | refine We ?_ | refine Wf ?_ | refine Wg ?_ | refine Wh ?_ | refine Wi ?_ | refine Wj ?_ | refine Wk (by decide) ?_ | refine Wl ?_ | refine Wm ?_ | refine Wn ?_) | ((with_reducible first | refine Wo (fun K hK => ?_) | refine Wq ?_ | refine Wr ?_); (try simp only [go_sem, List.forall_mem_nil, ↓guard_ite, ↓pick_ite, seval, encT_eq, inR_i64, e3, e4, s37, e5, hlt]); (repeat with_reducible refine And.intro (by first | omega | (with_reducible first | exact lens_encT | exact lens_encL | exact lens_encB | exact lens_encP) | (simp; done) | (simp only [List.length_take, List.length_map, List.length_append, maxLen_eq]; omega)) ?_); (try (with_reducible refine hK _ ?_; clear hK K))))
    with_reducible refine Wp ?_
    simp only [go_sem, List.forall_mem_nil, ↓guard_ite, ↓pick_ite, seval, true_implies, false_implies, implies_true, decide_eq_true_eq, decide_eq_false_iff_not, Int.ofNat_lt, hlt]
    (try with_reducible refine ite_conj ?_)
    repeat' (first | (with_reducible first | refine Wa ?_ | refine Wb ?_ | refine Wc ?_ | refine Wd ?_ | refine We ?_ | refine Wf ?_ | refine Wg ?_ | refine Wh ?_ | refine Wi ?_ | refine Wj ?_ | refine Wk (by decide) ?_ | refine Wl ?_ | refine Wm ?_ | refine Wn ?_) | ((with_reducible first | refine Wo (fun K hK => ?_) | refine Wq ?_ | refine Wr ?_); (try simp only [go_sem, List.forall_mem_nil, ↓guard_ite, ↓pick_ite, seval, encT_eq, inR_i64, e3, e4, s37, e5, ha]); (repeat with_reducible refine And.intro (by first | omega | (with_reducible first | exact lens_encT | exact lens_encL | exact lens_encB | exact lens_encP) | (simp; done) | (simp only [List.length_take, List.length_map, List.length_append, maxLen_eq]; omega)) ?_); (try (with_reducible refine hK _ ?_; clear hK K))))
    refine ⟨_, isVar_a _, ?_⟩
    have hstep : addVars [] (t.knots.take (k + 1)) = addVar (addVars [] (t.knots.take k)) a.name := by rw [take_snoc ha, addVars_snoc]
    cases hv : isVar a.name with
    | false =>
      rw [addVar_no hv] at hstep
      repeat' (first | (with_reducible first | refine Wa ?_ | refine Wb ?_ | refine Wc ?_ | refine Wd ?_ | refine We ?_ | refine Wf ?_ | refine Wg ?_ | refine Wh ?_ | refine Wi ?_ | refine Wj ?_ | refine Wk (by decide) ?_ | refine Wl ?_ | refine Wm ?_ | refine Wn ?_) | ((with_reducible first | refine Wo (fun K hK => ?_) | refine Wq ?_ | refine Wr ?_); (try simp only [go_sem, List.forall_mem_nil, ↓guard_ite, ↓pick_ite, seval, encT_eq, inR_i64, e3, e4, s37, e5, ha]); (repeat with_reducible refine And.intro (by first | omega | (with_reducible first | exact lens_encT | exact lens_encL | exact lens_encB | exact lens_encP) | (simp; done) | (simp only [List.length_take, List.length_map, List.length_append, maxLen_eq]; omega)) ?_); (try (with_reducible refine hK _ ?_; clear hK K))))
      with_reducible refine Wp ?_
      simp only [go_sem, List.forall_mem_nil, ↓guard_ite, ↓pick_ite, seval, true_implies, false_implies, implies_true, decide_eq_true_eq, decide_eq_false_iff_not, Int.ofNat_lt]
      (try with_reducible refine ite_conj ?_)
      repeat' (first | (with_reducible first | refine Wa ?_ | refine Wb ?_ | refine Wc ?_ | refine Wd ?_ | refine We ?_ | refine Wf ?_ | refine Wg ?_ | refine Wh ?_ | refine Wi ?_ | refine Wj ?_ | refine Wk (by decide) ?_ | refine Wl ?_ | refine Wm ?_ | refine Wn ?_) | ((with_reducible first | refine Wo (fun K hK => ?_) | refine Wq ?_ | refine Wr ?_); (try simp only [go_sem, List.forall_mem_nil, ↓guard_ite, ↓pick_ite, seval, encT_eq, inR_i64, e3, e4, s37, e5]); (repeat with_reducible refine And.intro (by first | omega | (with_reducible first | exact lens_encT | exact lens_encL | exact lens_encB | exact lens_encP) | (simp; done) | (simp only [List.length_take, List.length_map, List.length_append, maxLen_eq]; omega)) ?_); (try (with_reducible refine hK _ ?_; clear hK K))))
      refine then_normal ⟨t.knots.length - (k + 1), by omega, k + 1, by omega, rfl, ?_⟩
      simp only [go_sem, List.forall_mem_nil, ↓guard_ite, ↓pick_ite, seval, AS.drop, dropS, AC.clears, AC.clear, AC.highs, AC.high, Bool.not_false, Bool.true_and, Bool.and_self, AV.purge, AV.purges, AC.purge, ABlk.purge, List.contains_cons, List.contains_nil, Nat.reduceBEq, Bool.or_self, Bool.or_false, Bool.false_or, Bool.or_true, encT_eq, inR_i64, e3, e4, s37, e5, hstep]
      congr 3
    | true =>
      repeat' (first | (with_reducible first | refine Wa ?_ | refine Wb ?_ | refine Wc ?_ | refine Wd ?_ | refine We ?_ | refine Wf ?_ | refine Wg ?_ | refine Wh ?_ | refine Wi ?_ | refine Wj ?_ | refine Wk (by decide) ?_ | refine Wl ?_ | refine Wm ?_ | refine Wn ?_) | ((with_reducible first | refine Wo (fun K hK => ?_) | refine Wq ?_ | refine Wr ?_); (try simp only [go_sem, List.forall_mem_nil, ↓guard_ite, ↓pick_ite, seval, encT_eq, inR_i64, e3, e4, s37, e5, ha]); (repeat with_reducible refine And.intro (by first | omega | (with_reducible first | exact lens_encT | exact lens_encL | exact lens_encB | exact lens_encP) | (simp; done) | (simp only [List.length_take, List.length_map, List.length_append, maxLen_eq]; omega)) ?_); (try (with_reducible refine hK _ ?_; clear hK K))))
      refine ⟨_, in_a _ _, ?_⟩
      cases hi : isIn a.name (addVars [] (t.knots.take k)) with
      | true =>
        rw [addVar_in hi] at hstep
        repeat' (first | (with_reducible first | refine Wa ?_ | refine Wb ?_ | refine Wc ?_ | refine Wd ?_ | refine We ?_ | refine Wf ?_ | refine Wg ?_ | refine Wh ?_ | refine Wi ?_ | refine Wj ?_ | refine Wk (by decide) ?_ | refine Wl ?_ | refine Wm ?_ | refine Wn ?_) | ((with_reducible first | refine Wo (fun K hK => ?_) | refine Wq ?_ | refine Wr ?_); (try simp only [go_sem, List.forall_mem_nil, ↓guard_ite, ↓pick_ite, seval, encT_eq, inR_i64, e3, e4, s37, e5]); (repeat with_reducible refine And.intro (by first | omega | (with_reducible first | exact lens_encT | exact lens_encL | exact lens_encB | exact lens_encP) | (simp; done) | (simp only [List.length_take, List.length_map, List.length_append, maxLen_eq]; omega)) ?_); (try (with_reducible refine hK _ ?_; clear hK K))))
        with_reducible refine Wp ?_
        simp only [go_sem, List.forall_mem_nil, ↓guard_ite, ↓pick_ite, seval, true_implies, false_implies, implies_true, decide_eq_true_eq, decide_eq_false_iff_not, Int.ofNat_lt]
        (try with_reducible refine ite_conj ?_)
        repeat' (first | (with_reducible first | refine Wa ?_ | refine Wb ?_ | refine Wc ?_ | refine Wd ?_ | refine We ?_ | refine Wf ?_ | refine Wg ?_ | refine Wh ?_ | refine Wi ?_ | refine Wj ?_ | refine Wk (by decide) ?_ | refine Wl ?_ | refine Wm ?_ | refine Wn ?_) | ((with_reducible first | refine Wo (fun K hK => ?_) | refine Wq ?_ | refine Wr ?_); (try simp only [go_sem, List.forall_mem_nil, ↓guard_ite, ↓pick_ite, seval, encT_eq, inR_i64, e3, e4, s37, e5]); (repeat with_reducible refine And.intro (by first | omega | (with_reducible first | exact lens_encT | exact lens_encL | exact lens_encB | exact lens_encP) | (simp; done) | (simp only [List.length_take, List.length_map, List.length_append, maxLen_eq]; omega)) ?_); (try (with_reducible refine hK _ ?_; clear hK K))))
        refine then_normal ⟨t.knots.length - (k + 1), by omega, k + 1, by omega, rfl, ?_⟩
        simp only [go_sem, List.forall_mem_nil, ↓guard_ite, ↓pick_ite, seval, AS.drop, dropS, AC.clears, AC.clear, AC.highs, AC.high, Bool.not_false, Bool.true_and, Bool.and_self, AV.purge, AV.purges, AC.purge, ABlk.purge, List.contains_cons, List.contains_nil, Nat.reduceBEq, Bool.or_self, Bool.or_false, Bool.false_or, Bool.or_true, encT_eq, inR_i64, e3, e4, s37, e5, hstep]
        congr 3
      | false =>
        rw [addVar_yes hv hi] at hstep
        repeat' (first | (with_reducible first | refine Wa ?_ | refine Wb ?_ | refine Wc ?_ | refine Wd ?_ | refine We ?_ | refine Wf ?_ | refine Wg ?_ | refine Wh ?_ | refine Wi ?_ | refine Wj ?_ | refine Wk (by decide) ?_ | refine Wl ?_ | refine Wm ?_ | refine Wn ?_) | ((with_reducible first | refine Wo (fun K hK => ?_) | refine Wq ?_ | refine Wr ?_); (try simp only [go_sem, List.forall_mem_nil, ↓guard_ite, ↓pick_ite, seval, encT_eq, inR_i64, e3, e4, s37, e5]); (repeat with_reducible refine And.intro (by first | omega | (with_reducible first | exact lens_encT | exact lens_encL | exact lens_encB | exact lens_encP) | (simp; done) | (simp only [List.length_take, List.length_map, List.length_append, maxLen_eq]; omega)) ?_); (try (with_reducible refine hK _ ?_; clear hK K))))
        with_reducible refine Wp ?_
        simp only [go_sem, List.forall_mem_nil, ↓guard_ite, ↓pick_ite, seval, true_implies, false_implies, implies_true, decide_eq_true_eq, decide_eq_false_iff_not, Int.ofNat_lt]
        (try with_reducible refine ite_conj ?_)
        repeat' (first | (with_reducible first | refine Wa ?_ | refine Wb ?_ | refine Wc ?_ | refine Wd ?_ | refine We ?_ | refine Wf ?_ | refine Wg ?_ | refine Wh ?_ | refine Wi ?_ | refine Wj ?_ | refine Wk (by decide) ?_ | refine Wl ?_ | refine Wm ?_ | refine Wn ?_) | ((with_reducible first | refine Wo (fun K hK => ?_) | refine Wq ?_ | refine Wr ?_); (try simp only [go_sem, List.forall_mem_nil, ↓guard_ite, ↓pick_ite, seval, encT_eq, inR_i64, e3, e4, s37, e5, ha]); (repeat with_reducible refine And.intro (by first | omega | (with_reducible first | exact lens_encT | exact lens_encL | exact lens_encB | exact lens_encP) | (simp; done) | (simp only [List.length_take, List.length_map, List.length_append, maxLen_eq]; omega)) ?_); (try (with_reducible refine hK _ ?_; clear hK K))))
        refine then_normal ⟨t.knots.length - (k + 1), by omega, k + 1, by omega, rfl, ?_⟩
        simp only [go_sem, List.forall_mem_nil, ↓guard_ite, ↓pick_ite, seval, AS.drop, dropS, AC.clears, AC.clear, AC.highs, AC.high, Bool.not_false, Bool.true_and, Bool.and_self, AV.purge, AV.purges, AC.purge, ABlk.purge, List.contains_cons, List.contains_nil, Nat.reduceBEq, Bool.or_self, Bool.or_false, Bool.false_or, Bool.or_true, encT_eq, inR_i64, e3, e4, s37, e5, hstep]
        exact ⟨by rw [List.map_append]; rfl, by congr 3⟩
  · repeat' (first | (with_reducible first | refine Wa ?_ | refine Wb ?_ | refine Wc ?_ | refine Wd ?_ | refine We ?_ | refine Wf ?_ | refine Wg ?_ | refine Wh ?_ | refine Wi ?_ | refine Wj ?_ | refine Wk (by decide) ?_ | refine Wl ?_ | refine Wm ?_ | refine Wn ?_) | ((with_reducible first | refine Wo (fun K hK => ?_) | refine Wq ?_ | refine Wr ?_); (try simp only [go_sem, List.forall_mem_nil, ↓guard_ite, ↓pick_ite, seval, encT_eq, inR_i64, e3, e4, s37, e5, hlt]); (repeat with_reducible refine And.intro (by first | omega | (with_reducible first | exact lens_encT | exact lens_encL | exact lens_encB | exact lens_encP) | (simp; done) | (simp only [List.length_take, List.length_map, List.length_append, maxLen_eq]; omega)) ?_); (try (with_reducible refine hK _ ?_; clear hK K))))
    with_reducible refine Wp ?_
    simp only [go_sem, List.forall_mem_nil, ↓guard_ite, ↓pick_ite, seval, true_implies, false_implies, implies_true, decide_eq_true_eq, decide_eq_false_iff_not, Int.ofNat_lt, hlt]
    (try with_reducible refine ite_conj ?_)
    repeat' (first | (with_reducible first | refine Wa ?_ | refine Wb ?_ | refine Wc ?_ | refine Wd ?_ | refine We ?_ | refine Wf ?_ | refine Wg ?_ | refine Wh ?_ | refine Wi ?_ | refine Wj ?_ | refine Wk (by decide) ?_ | refine Wl ?_ | refine Wm ?_ | refine Wn ?_) | ((with_reducible first | refine Wo (fun K hK => ?_) | refine Wq ?_ | refine Wr ?_); (try simp only [go_sem, List.forall_mem_nil, ↓guard_ite, ↓pick_ite, seval, encT_eq, inR_i64, e4, s37]); (repeat with_reducible refine And.intro (by first | omega | (with_reducible first | exact lens_encT | exact lens_encL | exact lens_encB | exact lens_encP) | (simp; done) | (simp only [List.length_take, List.length_map, List.length_append, maxLen_eq]; omega)) ?_); (try (with_reducible refine hK _ ?_; clear hK K))))
    simp only [go_sem, List.forall_mem_nil, ↓guard_ite, ↓pick_ite, seval, FinQ, AS.result, resAll, resOne, tupV, e4, s37]
    rw [List.take_of_length_le (by omega)]
    rfl

/-! ### the program's: with a row in hand -/
theorem updE_twice {α : Type} (f : Nat → α) (i : Nat) (a b : α) : updE (updE f i a) i b = updE f i b := by
  funext k
  unfold updE
  split <;> rfl
theorem updE_comm {α : Type} (f : Nat → α) {i j : Nat} (h : ¬ i = j) (a b : α) : updE (updE f i a) j b = updE (updE f j b) i a := by
  funext k
  unfold updE
  split
  · rename_i e
    subst e
    rw [if_neg (fun e => h e.symm)]
  · rfl
theorem updE_self {α : Type} {f : Nat → α} {i : Nat} {a : α} (h : f i = a) : updE f i a = f := by
  funext k
  unfold updE
  split
  · rename_i e
    rw [e, h]
  · rfl
/-- A term in memory of its own. -/
theorem copy_a (t : Tm) (hz : t.size ≤ 1000000) : ACalls Tryd.prog 30 [aTm t] (aTm t) := by
  induction h : SizeOf.sizeOf t using Nat.strongRecOn generalizing t with
  | _ N ih =>
  subst h
  have hs := Tm.size_eq t
  have hkn := Tm.length_le t.args
  refine ac_term_Copy (Nat.le_of_ble_eq_true rfl) fun C hC => ?_
  unfold ir_term_Copy
  repeat' (first | (with_reducible first | refine Wa ?_ | refine Wb ?_ | refine Wc ?_ | refine Wd ?_ | refine We ?_ | refine Wf ?_ | refine Wg ?_ | refine Wh ?_ | refine Wi ?_ | refine Wj ?_ | refine Wk (by decide) ?_ | refine Wl ?_ | refine Wm ?_ | refine Wn ?_) | ((with_reducible first | refine Wo (fun K hK => ?_) | refine Wq ?_ | refine Wr ?_); (try simp only [go_sem, List.forall_mem_nil, ↓guard_ite, ↓pick_ite, seval, encT_eq, inR_i64]); (repeat with_reducible refine And.intro (by first | omega | (with_reducible first | exact lens_encT | exact lens_encL | exact lens_encB | exact lens_encP) | (simp; done) | (simp only [List.length_take, List.length_map, List.length_append, maxLen_eq]; omega)) ?_); (try (with_reducible refine hK _ ?_; clear hK K))))
  refine IWP.ghost (Ghost.ownC 3 1 21 24 2 (xs := ([] : List Tm).map encT) rfl rfl rfl lens_encT) ?_
  refine IWP.loopD [5] (fun m s => ∃ k, k ≤ t.args.length ∧ m = t.args.length - k ∧ s.env 2 = .one (.ptr 2 1 0 0) ∧ s.env 3 = .one (.ptr 3 1 0 0) ∧ s.S 2 = some (.box 24 [.st (.str ⟨#[]⟩), .full []]) ∧ s.S 3 = some (.box 24 [.st (.str t.name), .row 21 k]) ∧ s.S 21 = some (.arow 24 2 ((t.args.take k).map encT)) ∧ s.env 10 = .one (.st (.list (t.args.map encT))) ∧ s.env 11 = aInt t.args.length ∧ s.env 12 = aInt k ∧ s.S 5 = none)
    t.args.length ⟨0, Nat.zero_le _, rfl, rfl, rfl, rfl, rfl, rfl, rfl, rfl, rfl, rfl⟩ ?_
  rintro m ⟨env, S⟩ ⟨k, hk, rfl, e2, e3, s2, s3, s21, e10, e11, e12, s5⟩
  simp only at e2 e3 s2 s3 s21 e10 e11 e12 s5
  have hlk : (t.args.take k).length = k := by rw [List.length_take]; omega
  by_cases hlt : (k : Int) < t.args.length
  · obtain ⟨a, ha⟩ := get_lt (show k < t.args.length by omega)
    repeat' (first | (with_reducible first | refine Wa ?_ | refine Wb ?_ | refine Wc ?_ | refine Wd ?_ | refine We ?_ | refine Wf ?_ | refine Wg ?_ | refine Wh ?_ | refine Wi ?_ | refine Wj ?_ | refine Wk (by decide) ?_ | refine Wl ?_ | refine Wm ?_ | refine Wn ?_) | ((with_reducible first | refine Wo (fun K hK => ?_) | refine Wq ?_ | refine Wr ?_); (try simp only [go_sem, List.forall_mem_nil, ↓guard_ite, ↓pick_ite, seval, encT_eq, inR_i64, e2, e3, s2, s3, s21, e10, e11, e12, s5, hlt]); (repeat with_reducible refine And.intro (by first | omega | (with_reducible first | exact lens_encT | exact lens_encL | exact lens_encB | exact lens_encP) | (simp; done) | (simp only [List.length_take, List.length_map, List.length_append, maxLen_eq]; omega)) ?_); (try (with_reducible refine hK _ ?_; clear hK K))))
    with_reducible refine Wp ?_
    simp only [go_sem, List.forall_mem_nil, ↓guard_ite, ↓pick_ite, seval, true_implies, false_implies, implies_true, decide_eq_true_eq, decide_eq_false_iff_not, Int.ofNat_lt, e10, e11, e12, hlt]
    (try with_reducible refine ite_conj ?_)
    repeat' (first | (with_reducible first | refine Wa ?_ | refine Wb ?_ | refine Wc ?_ | refine Wd ?_ | refine We ?_ | refine Wf ?_ | refine Wg ?_ | refine Wh ?_ | refine Wi ?_ | refine Wj ?_ | refine Wk (by decide) ?_ | refine Wl ?_ | refine Wm ?_ | refine Wn ?_) | refine CallG.mk _ (ih _ (Tm.lt_of_arg (mem_of_get ha)) a (by have := Tm.size_mem (mem_of_get ha); omega) rfl) ?_ | ((with_reducible first | refine Wo (fun K hK => ?_) | refine Wq ?_ | refine Wr ?_); (try simp only [go_sem, List.forall_mem_nil, ↓guard_ite, ↓pick_ite, seval, encT_eq, inR_i64, e2, e3, s2, s3, s21, e10, e11, e12, s5, ha, hlk]); (repeat with_reducible refine And.intro (by first | omega | (with_reducible first | exact lens_encT | exact lens_encL | exact lens_encB | exact lens_encP) | (simp; done) | (simp only [List.length_take, List.length_map, List.length_append, maxLen_eq]; omega)) ?_); (try (with_reducible refine hK _ ?_; clear hK K))))
    refine then_normal ⟨t.args.length - (k + 1), by omega, k + 1, by omega, rfl, ?_⟩
    simp only [go_sem, List.forall_mem_nil, ↓guard_ite, ↓pick_ite, seval, AS.drop, dropS, AC.clears, AC.clear, AC.highs, AC.high, Bool.not_false, Bool.true_and, Bool.and_self, AV.purge, AV.purges, AC.purge, ABlk.purge, List.contains_cons, List.contains_nil, Nat.reduceBEq, Bool.or_self, Bool.or_false, Bool.false_or, Bool.or_true, encT_eq, inR_i64, e2, e3, s2, s3, s21, e10, e11, e12, s5]
    exact ⟨by rw [take_snoc ha]; simp [encT_eq], by congr 3⟩
  · repeat' (first | (with_reducible first | refine Wa ?_ | refine Wb ?_ | refine Wc ?_ | refine Wd ?_ | refine We ?_ | refine Wf ?_ | refine Wg ?_ | refine Wh ?_ | refine Wi ?_ | refine Wj ?_ | refine Wk (by decide) ?_ | refine Wl ?_ | refine Wm ?_ | refine Wn ?_) | ((with_reducible first | refine Wo (fun K hK => ?_) | refine Wq ?_ | refine Wr ?_); (try simp only [go_sem, List.forall_mem_nil, ↓guard_ite, ↓pick_ite, seval, encT_eq, inR_i64, e2, e3, s2, s3, s21, e10, e11, e12, s5, hlt]); (repeat with_reducible refine And.intro (by first | omega | (with_reducible first | exact lens_encT | exact lens_encL | exact lens_encB | exact lens_encP) | (simp; done) | (simp only [List.length_take, List.length_map, List.length_append, maxLen_eq]; omega)) ?_); (try (with_reducible refine hK _ ?_; clear hK K))))
    with_reducible refine Wp ?_
    simp only [go_sem, List.forall_mem_nil, ↓guard_ite, ↓pick_ite, seval, true_implies, false_implies, implies_true, decide_eq_true_eq, decide_eq_false_iff_not, Int.ofNat_lt, e10, e11, e12, hlt]
    (try with_reducible refine ite_conj ?_)
    repeat' (first | (with_reducible first | refine Wa ?_ | refine Wb ?_ | refine Wc ?_ | refine Wd ?_ | refine We ?_ | refine Wf ?_ | refine Wg ?_ | refine Wh ?_ | refine Wi ?_ | refine Wj ?_ | refine Wk (by decide) ?_ | refine Wl ?_ | refine Wm ?_ | refine Wn ?_) | ((with_reducible first | refine Wo (fun K hK => ?_) | refine Wq ?_ | refine Wr ?_); (try simp only [go_sem, List.forall_mem_nil, ↓guard_ite, ↓pick_ite, seval, encT_eq, inR_i64, e2, e3, s2, s3, s21, e10, e11, e12, s5]); (repeat with_reducible refine And.intro (by first | omega | (with_reducible first | exact lens_encT | exact lens_encL | exact lens_encB | exact lens_encP) | (simp; done) | (simp only [List.length_take, List.length_map, List.length_append, maxLen_eq]; omega)) ?_); (try (with_reducible refine hK _ ?_; clear hK K))))
    have hall : t.args.take k = t.args := List.take_of_length_le (by omega)
    rw [hall] at hlk s21
    simp only [go_sem, List.forall_mem_nil, ↓guard_ite, ↓pick_ite, seval, FinQ, AS.result, resAll, resOne, tupV, e2, s2, s21, hlk]
end Go.Proofs.YtdmgelbbjppgkaaDoor

namespace Go.Proofs.YtdmgelbbjppgkaaDoor
open Go Go.RowKit
set_option linter.unusedVariables false

abbrev Pr := Tm × Tm
def encP (p : Pr) : List SV := [.str p.1.name, .list (p.1.args.map encT), .str p.2.name, .list (p.2.args.map encT)]
abbrev aPrs (l : List Pr) : AV := .one (.st (.list (l.map encP)))
abbrev aPr (p : Pr) : AV := .agg [.st (.str p.1.name), .st (.list (p.1.args.map encT)), .st (.str p.2.name), .st (.list (p.2.args.map encT))]
theorem lens_encP {ts : List Pr} : ∀ x ∈ ts.map encP, x.length = 4 := by
  intro x hx
  obtain ⟨a, _, rfl⟩ := List.mem_map.1 hx
  rfl

end Go.Proofs.YtdmgelbbjppgkaaDoor

namespace Go.Proofs.YtdmgelbbjppgkaaDoor
open Go Go.RowKit
set_option linter.unusedVariables false

/-! ### names made of numbers -/
def digV (l : List UInt8) : Nat := l.foldl (fun v d => v * 10 + (d.toNat - 48)) 0
theorem digV_snoc (l : List UInt8) (d : UInt8) : digV (l ++ [d]) = digV l * 10 + (d.toNat - 48) := by unfold digV; rw [List.foldl_append]; rfl
theorem dig_one {k : Nat} (h : k < 10) : (UInt8.ofNat (48 + k)).toNat - 48 = k := by
  rw [UInt8.toNat_ofNat_of_lt' (by show _ < 256; omega)]
  omega
theorem digV_dec (u : Nat) : digV (Lib.decDigits u) = u := by
  induction u using Nat.strongRecOn with
  | _ u ih =>
    by_cases h : u < 10
    · rw [Lib.decDigits, dif_pos h]
      show 0 * 10 + _ = u
      rw [dig_one h]
      omega
    · rw [Lib.decDigits, dif_neg h, digV_snoc, ih _ (by omega), dig_one (Nat.mod_lt _ (by omega))]
      omega
/-- A number's digits. -/
def decS (n : Nat) : ByteArray := ⟨(Lib.decDigits n).toArray⟩
theorem decS_inj {m n : Nat} (h : decS m = decS n) : m = n := by
  have h1 : Lib.decDigits m = Lib.decDigits n := by
    have := congrArg (fun b : ByteArray => b.data.toList) h
    simpa [decS] using this
  have h2 := congrArg digV h1
  rwa [digV_dec, digV_dec] at h2
theorem decS_small {n : Nat} (h : n < 10) : decS n = ⟨#[UInt8.ofNat (48 + n)]⟩ := by unfold decS; rw [Lib.decDigits, dif_pos h]
theorem decS_big {n : Nat} (h : ¬ n < 10) : decS n = decS (n / 10) ++ decS (n % 10) := by
  rw [decS_small (n := n % 10) (Nat.mod_lt _ (by omega))]
  unfold decS
  conv => lhs; rw [Lib.decDigits, dif_neg h]
  apply ByteArray.ext
  simp
/-- The k-th of the names Z1, Z2, .. -/
def zName (k : Nat) : ByteArray := ⟨#[90]⟩ ++ decS (k + 1)
def zLeaf (k : Nat) : Tm := .mk (zName k) []
theorem zName_list (k : Nat) : (zName k).data.toList = 90 :: Lib.decDigits (k + 1) := by
  unfold zName decS
  simp
theorem zName_inj {m n : Nat} (h : zName m = zName n) : m = n := by
  have h1 := congrArg (fun b : ByteArray => b.data.toList) h
  simp only [zName_list] at h1
  have h2 := congrArg digV (List.cons.inj h1).2
  rw [digV_dec, digV_dec] at h2
  omega
theorem nDig_le {u k : Nat} (h : u < 10 ^ k) (hk : 1 ≤ k) : Lib.nDigits u ≤ k := by
  induction k generalizing u with
  | zero => omega
  | succ k ih =>
    by_cases h1 : u < 10
    · rw [Lib.nDigits_small h1]; omega
    · rw [Lib.nDigits_big h1]
      have : 1 ≤ k := by
        rcases Nat.eq_zero_or_pos k with h0 | h0
        · subst h0; rw [Nat.zero_add, Nat.pow_one] at h; omega
        · exact h0
      have := ih (u := u / 10) (by rw [Nat.pow_succ] at h; omega) this
      omega
theorem decS_size (n : Nat) : (decS n).size = Lib.nDigits n := by
  show (Lib.decDigits n).toArray.size = _
  rw [List.size_toArray, Lib.decDigits_length]
theorem decS_size_le {n : Nat} (h : n < 1000000) : (decS n).size ≤ 6 := by rw [decS_size]; exact nDig_le (k := 6) (by omega) (by omega)
theorem digits_letters (u : Nat) : ∀ d ∈ Lib.decDigits u, 48 ≤ d.toNat ∧ d.toNat ≤ 57 := by
  induction u using Nat.strongRecOn with
  | _ u ih =>
    by_cases h : u < 10
    · rw [Lib.decDigits, dif_pos h]
      intro d hd
      rw [List.mem_singleton] at hd
      subst hd
      rw [UInt8.toNat_ofNat_of_lt' (by show _ < 256; omega)]
      omega
    · rw [Lib.decDigits, dif_neg h]
      intro d hd
      rcases List.mem_append.1 hd with hd | hd
      · exact ih _ (by omega) d hd
      · rw [List.mem_singleton] at hd
        subst hd
        rw [UInt8.toNat_ofNat_of_lt' (by show _ < 256; omega)]
        omega
theorem zName_at (k : Nat) : byteAt (zName k) 0 = 90 := by
  unfold byteAt
  rw [zName_list]
  rfl
theorem zName_size (k : Nat) : (zName k).size = 1 + Lib.nDigits (k + 1) := by
  have : (zName k).size = (zName k).data.toList.length := by
    show (zName k).data.size = _
    rw [Array.length_toList]
  rw [this, zName_list, List.length_cons, Lib.decDigits_length]
  omega
theorem zName_var (k : Nat) : isVar (zName k) = true := by
  unfold isVar
  rw [zName_at, zName_size, decide_eq_true (by omega)]
  rfl
theorem zName_ok {k : Nat} (h : k + 1 < 1000000) : nameOk (zName k) = true := by
  have h6 := nDig_le (u := k + 1) (k := 6) (by omega) (by omega)
  unfold nameOk
  rw [zName_at, zName_size, decide_eq_true (show 1 ≤ 1 + Lib.nDigits (k + 1) by omega), decide_eq_true (show 1 + Lib.nDigits (k + 1) ≤ 8 by omega)]
  have : lettersTo (zName k) (1 + Lib.nDigits (k + 1)) = true := by
    unfold lettersTo
    rw [zName_list]
    refine List.all_eq_true.2 fun c hc => ?_
    have hc := List.mem_of_mem_take hc
    rcases List.mem_cons.1 hc with rfl | hc
    · decide
    · have := digits_letters _ c hc
      unfold letterI
      rw [decide_eq_true (show 48 ≤ (c.toNat : Int) ∧ (c.toNat : Int) ≤ 57 by omega), Bool.or_true]
  rw [this]
  decide
theorem zLeaf_chk {k : Nat} (h : k + 1 < 1000000) : (zLeaf k).chk = 0 := leaf_chk (zName_ok h)

/-! ### the least generalization -/
theorem pair_beq {p : Pr} {a b : Tm} (h : (p.1.beq a && p.2.beq b) = true) : p = (a, b) := by
  rw [Bool.and_eq_true] at h
  cases p
  exact Prod.ext ((Tm.beq_iff _ _).1 h.1) ((Tm.beq_iff _ _).1 h.2)
/-- Where a pair stands (how many there are, if nowhere). -/
def posP : List Pr → Tm → Tm → Nat
  | [], _, _ => 0
  | p :: l, a, b => if (p.1.beq a && p.2.beq b) = true then 0 else posP l a b + 1
def addP (l : List Pr) (a b : Tm) : List Pr := if posP l a b < l.length then l else l ++ [(a, b)]
def headEq (n : ByteArray) (xs : List Tm) (b : Tm) : Prop := isVar n = false ∧ n = b.name ∧ xs.length = b.args.length
instance (n : ByteArray) (xs : List Tm) (b : Tm) : Decidable (headEq n xs b) := by unfold headEq; infer_instance
mutual
def Tm.lg : Tm → Tm → List Pr → Tm × List Pr
  | .mk n xs, b, l => if headEq n xs b then (.mk n (Tm.lgL xs b.args l).1, (Tm.lgL xs b.args l).2) else (zLeaf (posP l (.mk n xs) b), addP l (.mk n xs) b)
def Tm.lgL : List Tm → List Tm → List Pr → List Tm × List Pr
  | x :: xs, y :: ys, l => ((x.lg y l).1 :: (Tm.lgL xs ys (x.lg y l).2).1, (Tm.lgL xs ys (x.lg y l).2).2)
  | _, _, l => ([], l)
end
theorem lg_knot {a b : Tm} {l : List Pr} (h : headEq a.name a.args b) : a.lg b l = (.mk a.name (Tm.lgL a.args b.args l).1, (Tm.lgL a.args b.args l).2) := by
  cases a with
  | mk n xs =>
    have h : headEq n xs b := h
    rw [Tm.lg, if_pos h]
    rfl
theorem lg_new {a b : Tm} {l : List Pr} (h : ¬ headEq a.name a.args b) : a.lg b l = (zLeaf (posP l a b), addP l a b) := by
  cases a with
  | mk n xs =>
    have h : ¬ headEq n xs b := h
    rw [Tm.lg, if_neg h]
theorem lgL_append : ∀ (xs ys xs' ys' : List Tm) (l : List Pr), xs.length = ys.length → Tm.lgL (xs ++ xs') (ys ++ ys') l = ((Tm.lgL xs ys l).1 ++ (Tm.lgL xs' ys' (Tm.lgL xs ys l).2).1, (Tm.lgL xs' ys' (Tm.lgL xs ys l).2).2)
  | [], [], xs', ys', l, _ => by simp [Tm.lgL]
  | x :: xs, y :: ys, xs', ys', l, h => by
    simp only [List.cons_append, Tm.lgL]
    rw [lgL_append xs ys xs' ys' _ (by simpa using h)]
  | [], y :: ys, _, _, _, h => by simp at h
  | x :: xs, [], _, _, _, h => by simp at h
theorem lgL_take {xs ys : List Tm} {k : Nat} {x y : Tm} {l : List Pr} (hl : xs.length = ys.length) (hx : xs[k]? = some x) (hy : ys[k]? = some y) :
    Tm.lgL (xs.take (k + 1)) (ys.take (k + 1)) l = ((Tm.lgL (xs.take k) (ys.take k) l).1 ++ [(x.lg y (Tm.lgL (xs.take k) (ys.take k) l).2).1], (x.lg y (Tm.lgL (xs.take k) (ys.take k) l).2).2) := by
  rw [take_snoc hx, take_snoc hy, lgL_append _ _ _ _ _ (by simp [hl])]
  simp [Tm.lgL]
theorem lgL_len : ∀ (xs ys : List Tm) (l : List Pr), xs.length = ys.length → (Tm.lgL xs ys l).1.length = xs.length
  | [], [], l, _ => rfl
  | x :: xs, y :: ys, l, h => by simp only [Tm.lgL, List.length_cons]; rw [lgL_len xs ys _ (by simpa using h)]
  | [], y :: ys, _, h => by simp at h
  | x :: xs, [], _, h => by simp at h
theorem posP_le (l : List Pr) (a b : Tm) : posP l a b ≤ l.length := by
  induction l with
  | nil => exact Nat.le_refl _
  | cons p l ih => rw [posP]; split <;> simp; omega
theorem posP_get : ∀ {l : List Pr} {a b : Tm}, posP l a b < l.length → l[posP l a b]? = some (a, b)
  | p :: l, a, b, h => by
    rw [posP] at h ⊢
    by_cases e : (p.1.beq a && p.2.beq b) = true
    · rw [if_pos e]
      rw [pair_beq e]
      rfl
    · rw [if_neg e] at h ⊢
      rw [List.getElem?_cons_succ]
      exact posP_get (by simpa using h)
  | [], a, b, h => by simp [posP] at h
theorem posP_append {l m : List Pr} {a b : Tm} (h : posP l a b < l.length) : posP (l ++ m) a b = posP l a b := by
  induction l with
  | nil => simp [posP] at h
  | cons p l ih =>
    rw [posP] at h
    rw [List.cons_append, posP, posP]
    by_cases e : (p.1.beq a && p.2.beq b) = true
    · rw [if_pos e, if_pos e]
    · rw [if_neg e] at h
      rw [if_neg e, if_neg e, ih (by simpa using h)]
theorem posP_none {l m : List Pr} {a b : Tm} (h : ¬ posP l a b < l.length) : posP (l ++ m) a b = l.length + posP m a b := by
  induction l with
  | nil => simp
  | cons p l ih =>
    rw [posP] at h
    rw [List.cons_append, posP]
    by_cases e : (p.1.beq a && p.2.beq b) = true
    · rw [if_pos e] at h; simp at h
    · rw [if_neg e] at h
      rw [if_neg e, ih (by simpa using h), List.length_cons]
      omega
theorem posP_not {l : List Pr} {a b : Tm} (h : ¬ posP l a b < l.length) : posP l a b = l.length := by have := posP_le l a b; omega
/-- m goes on from l. -/
def Goes (l m : List Pr) : Prop := ∃ r, m = l ++ r
theorem Goes.refl (l : List Pr) : Goes l l := ⟨[], by simp⟩
theorem Goes.trans {a b c : List Pr} (h : Goes a b) (k : Goes b c) : Goes a c := by
  obtain ⟨r, rfl⟩ := h
  obtain ⟨q, rfl⟩ := k
  exact ⟨r ++ q, by simp⟩
theorem goes_add (l : List Pr) (a b : Tm) : Goes l (addP l a b) := by
  unfold addP
  split
  · exact Goes.refl l
  · exact ⟨_, rfl⟩
mutual
theorem lg_goes : ∀ (a b : Tm) (l : List Pr), Goes l (a.lg b l).2
  | .mk n xs, b, l => by
    rw [Tm.lg]
    split
    · exact lgL_goes xs b.args l
    · exact goes_add l _ b
theorem lgL_goes : ∀ (xs ys : List Tm) (l : List Pr), Goes l (Tm.lgL xs ys l).2
  | x :: xs, y :: ys, l => by
    simp only [Tm.lgL]
    exact (lg_goes x y l).trans (lgL_goes xs ys _)
  | [], ys, l => by simp only [Tm.lgL]; exact Goes.refl l
  | x :: xs, [], l => by simp only [Tm.lgL]; exact Goes.refl l
end
theorem addP_len (l : List Pr) (a b : Tm) : (addP l a b).length ≤ l.length + 1 := by unfold addP; split <;> simp
mutual
theorem lg_len : ∀ (a b : Tm) (l : List Pr), (a.lg b l).2.length ≤ l.length + a.size
  | .mk n xs, b, l => by
    rw [Tm.lg, Tm.size]
    split
    · have := lgL_lens xs b.args l
      show (Tm.lgL xs b.args l).2.length ≤ _
      omega
    · have := addP_len l (.mk n xs) b
      show (addP l (.mk n xs) b).length ≤ _
      omega
theorem lgL_lens : ∀ (xs ys : List Tm) (l : List Pr), (Tm.lgL xs ys l).2.length ≤ l.length + Tm.sizes xs
  | x :: xs, y :: ys, l => by
    simp only [Tm.lgL, Tm.sizes]
    have h1 := lg_len x y l
    have h2 := lgL_lens xs ys (x.lg y l).2
    omega
  | [], ys, l => by simp only [Tm.lgL, Tm.sizes]; omega
  | x :: xs, [], l => by simp only [Tm.lgL]; omega
end
/-- Each pair is of parts of the two. -/
structure PairOk (q : Tm → Prop) (q' : Tm → Prop) (l : List Pr) : Prop where
  all : ∀ p ∈ l, q p.1 ∧ q' p.2
mutual
theorem lg_pairs {q q' : Tm → Prop} (hq : ∀ t, q t → ∀ x ∈ t.args, q x) (hq' : ∀ t, q' t → ∀ x ∈ t.args, q' x) : ∀ (a b : Tm) (l : List Pr), q a → q' b → PairOk q q' l → PairOk q q' (a.lg b l).2
  | .mk n xs, b, l, ha, hb, hl => by
    rw [Tm.lg]
    split
    · exact lgL_pairs hq hq' xs b.args l (hq _ ha) (hq' _ hb) hl
    · show PairOk q q' (addP l (.mk n xs) b)
      unfold addP
      split
      · exact hl
      · refine ⟨fun p hp => ?_⟩
        rcases List.mem_append.1 hp with hp | hp
        · exact hl.all p hp
        · rw [List.mem_singleton.1 hp]; exact ⟨ha, hb⟩
theorem lgL_pairs {q q' : Tm → Prop} (hq : ∀ t, q t → ∀ x ∈ t.args, q x) (hq' : ∀ t, q' t → ∀ x ∈ t.args, q' x) : ∀ (xs ys : List Tm) (l : List Pr), (∀ x ∈ xs, q x) → (∀ y ∈ ys, q' y) → PairOk q q' l → PairOk q q' (Tm.lgL xs ys l).2
  | x :: xs, y :: ys, l, hx, hy, hl => by
    simp only [Tm.lgL]
    exact lgL_pairs hq hq' xs ys _ (fun a ha => hx a (by simp [ha])) (fun a ha => hy a (by simp [ha])) (lg_pairs hq hq' x y l (hx x (by simp)) (hy y (by simp)) hl)
  | [], ys, l, _, _, hl => by simp only [Tm.lgL]; exact hl
  | x :: xs, [], l, _, _, hl => by simp only [Tm.lgL]; exact hl
end
end Go.Proofs.YtdmgelbbjppgkaaDoor

namespace Go.Proofs.YtdmgelbbjppgkaaDoor
open Go Go.RowKit
set_option maxRecDepth 100000

def ir_match_Both : IR :=
  (.seq
  (.ops
  [.mk (some 2) none (.box 24 (.t 0)) .no, .mk (some 3) none (.box 24 (.t 1)) .no, .mk (some 4) none (.mov (.c (.one (.st (.int .i64 0)))))
  .no])
  (.seq
  (.seq
  (.ops
  [.mk (some 6) none (.load true 2 (.t 2)) .no, .mk (some 7) none (.call 39 [.t 6]) .no, .mk (some 5) none (.mov (.t 7)) .no])
  (.seq
  (.ops
  [.mk (some 8) none (.mov (.t 5)) .no, .mk (some 9) none (.bin .neq (.t 8) (.c (.one (.st (.int .i64 0)))))
  .no])
  (.cond (.t 9)
  (.seq
  (.ops
  [.mk (some 10) none (.mov (.t 5)) .no, .mk (some 4) none (.mov (.t 10)) .no])
  .ret)
  .skip)))
  (.seq
  (.ops
  [.mk (some 11) none (.load true 2 (.t 3)) .no, .mk (some 12) none (.call 39 [.t 11]) .no, .mk (some 4) none (.mov (.t 12)) .no])
  .ret)))
theorem tr_match_Both : trCode Tryd.prog 13 [] (Tryd.f27.body.getD .skip) = some ir_match_Both := by kernel_rfl
theorem ac_match_Both {xs : List AV} {r : AV} (hn : xs.length ≤ 13) (h : ∀ C : Ctx, C.n = 13 → IWP Tryd.prog C [] ir_match_Both (FinQ [.t 4] r) (AS.start xs)) : ACalls Tryd.prog 27 xs r :=
  acalls_of Tryd.func27 rfl tr_match_Both rfl hn h
theorem acS_match_Both {xs : List AV} {S S' : AStore} {r : AV} (hn : xs.length ≤ 13) (h : Clean S → ∀ C : Ctx, C.n = 13 → IWP Tryd.prog C [] ir_match_Both (FinS C [.t 4] r S') (AS.startS xs S)) : ACallsS Tryd.prog 27 xs S r S' :=
  acallsS_of Tryd.func27 rfl tr_match_Both rfl hn h

end Go.Proofs.YtdmgelbbjppgkaaDoor

namespace Go.Proofs.YtdmgelbbjppgkaaDoor
open Go Go.RowKit
set_option linter.unusedVariables false
set_option linter.unusedSimpArgs false
set_option maxHeartbeats 800000

theorem both_a (a b : Tm) : ACalls Tryd.prog 27 [aTm a, aTm b] (aInt (twoMay a b)) := by
  refine ac_match_Both (Nat.le_of_ble_eq_true rfl) fun C hC => ?_
  unfold ir_match_Both
  repeat' (first | (with_reducible first | refine Wa ?_ | refine Wb ?_ | refine Wc ?_ | refine Wd ?_ | refine We ?_ | refine Wf ?_ | refine Wg ?_ | refine Wh ?_ | refine Wi ?_ | refine Wj ?_ | refine Wk (by decide) ?_ | refine Wl ?_ | refine Wm ?_ | refine Wn ?_) | ((with_reducible first | refine Wo (fun K hK => ?_) | refine Wp ?_ | refine Wq ?_ | refine Wr ?_); (try simp only [go_sem, List.forall_mem_nil, ↓guard_ite, ↓pick_ite, seval, encT_eq, inR_i64, decide_eq_true_eq, decide_eq_false_iff_not, Int.ofNat_lt]); (repeat with_reducible refine And.intro (by first | omega | (with_reducible first | exact lens_encT | exact lens_encL | exact lens_encB | exact lens_encP) | (simp; done) | (simp only [List.length_take, List.length_map, List.length_append, maxLen_eq]; omega)) ?_); (try (with_reducible refine hK _ ?_; clear hK K)); (try with_reducible refine ite_conj ?_)))
  refine ⟨_, checkT_a a, ?_⟩
  by_cases h : a.may = 0
  · repeat' (first | (with_reducible first | refine Wa ?_ | refine Wb ?_ | refine Wc ?_ | refine Wd ?_ | refine We ?_ | refine Wf ?_ | refine Wg ?_ | refine Wh ?_ | refine Wi ?_ | refine Wj ?_ | refine Wk (by decide) ?_ | refine Wl ?_ | refine Wm ?_ | refine Wn ?_) | refine CallG.mk _ (checkT_a b) ?_ | ((with_reducible first | refine Wo (fun K hK => ?_) | refine Wp ?_ | refine Wq ?_ | refine Wr ?_); (try simp only [go_sem, List.forall_mem_nil, ↓guard_ite, ↓pick_ite, seval, encT_eq, inR_i64, h, decide_eq_true_eq, decide_eq_false_iff_not, Int.ofNat_lt]); (repeat with_reducible refine And.intro (by first | omega | (with_reducible first | exact lens_encT | exact lens_encL | exact lens_encB | exact lens_encP) | (simp; done) | (simp only [List.length_take, List.length_map, List.length_append, maxLen_eq]; omega)) ?_); (try (with_reducible refine hK _ ?_; clear hK K)); (try with_reducible refine ite_conj ?_)))
    simp only [go_sem, List.forall_mem_nil, ↓guard_ite, ↓pick_ite, seval, FinQ, AS.result, resAll, resOne, tupV]
    unfold twoMay
    rw [if_pos h]
  · repeat' (first | (with_reducible first | refine Wa ?_ | refine Wb ?_ | refine Wc ?_ | refine Wd ?_ | refine We ?_ | refine Wf ?_ | refine Wg ?_ | refine Wh ?_ | refine Wi ?_ | refine Wj ?_ | refine Wk (by decide) ?_ | refine Wl ?_ | refine Wm ?_ | refine Wn ?_) | ((with_reducible first | refine Wo (fun K hK => ?_) | refine Wp ?_ | refine Wq ?_ | refine Wr ?_); (try simp only [go_sem, List.forall_mem_nil, ↓guard_ite, ↓pick_ite, seval, encT_eq, inR_i64, h, decide_eq_true_eq, decide_eq_false_iff_not, Int.ofNat_lt]); (repeat with_reducible refine And.intro (by first | omega | (with_reducible first | exact lens_encT | exact lens_encL | exact lens_encB | exact lens_encP) | (simp; done) | (simp only [List.length_take, List.length_map, List.length_append, maxLen_eq]; omega)) ?_); (try (with_reducible refine hK _ ?_; clear hK K)); (try with_reducible refine ite_conj ?_)))
    simp only [go_sem, List.forall_mem_nil, ↓guard_ite, ↓pick_ite, seval, FinQ, AS.result, resAll, resOne, tupV]
    unfold twoMay
    rw [if_neg h]
theorem twoMay_zero {a b : Tm} (h : twoMay a b = 0) : a.may = 0 ∧ b.may = 0 := by
  unfold twoMay at h
  split at h
  · rename_i h1
    exact ⟨h1, h⟩
  · rename_i h1
    exact absurd h h1
end Go.Proofs.YtdmgelbbjppgkaaDoor

namespace Go.Proofs.YtdmgelbbjppgkaaDoor
open Go Go.RowKit
set_option maxRecDepth 100000

def ir_general_name : IR :=
  (.seq
  (.ops
  [.mk (some 2) none (.mov (.c (.one (.st (.str (ByteArray.mk (#[])))))))
  .no])
  (.seq
  (.ops
  [.mk (some 3) none (.mov (.t 0)) .no, .mk (some 4) none (.bin .add (.t 3) (.c (.one (.st (.int .i64 1)))))
  .no, .mk (some 5) none (.call 49 [.t 4]) .no, .mk (some 6) none (.bin .add (.c (.one (.st (.str (ByteArray.mk (#[90])))))) (.t 5))
  .no, .mk (some 2) none (.mov (.t 6)) .no])
  .ret))
theorem tr_general_name : trCode Tryd.prog 7 [] (Tryd.f29.body.getD .skip) = some ir_general_name := by kernel_rfl
theorem ac_general_name {xs : List AV} {r : AV} (hn : xs.length ≤ 7) (h : ∀ C : Ctx, C.n = 7 → IWP Tryd.prog C [] ir_general_name (FinQ [.t 2] r) (AS.start xs)) : ACalls Tryd.prog 29 xs r :=
  acalls_of Tryd.func29 rfl tr_general_name rfl hn h
theorem acS_general_name {xs : List AV} {S S' : AStore} {r : AV} (hn : xs.length ≤ 7) (h : Clean S → ∀ C : Ctx, C.n = 7 → IWP Tryd.prog C [] ir_general_name (FinS C [.t 2] r S') (AS.startS xs S)) : ACallsS Tryd.prog 29 xs S r S' :=
  acallsS_of Tryd.func29 rfl tr_general_name rfl hn h

def ir_metaprune_general_maker_of : IR :=
  (.seq
  (.ops
  [.mk (some 4) none (.box 24 (.t 1)) .no, .mk (some 5) none (.box 24 (.t 2)) .no, .mk (some 6) none
  (.alloc 24 [.st (.str (ByteArray.mk (#[]))), .full []])
  .no])
  (.seq
  (.seq
  (.ops
  [.mk (some 11) none (.fieldAddr 0 (.t 4)) .no, .mk (some 12) none (.load false 1 (.t 11)) .no, .mk (some 13) none (.call 47 [.t 12]) .no, .mk (some 14) none (.un .not (.t 13)) .no, .mk (some 15) none (.mov (.t 14)) .no, .mk (some 16) (some (15, true)) (.fieldAddr 0 (.t 4)) .no, .mk (some 17) (some (15, true)) (.load false 1 (.t 16))
  .no, .mk (some 18) (some (15, true)) (.fieldAddr 0 (.t 5)) .no, .mk (some 19) (some (15, true)) (.load false 1 (.t 18))
  .no, .mk (some 20) (some (15, true)) (.bin .eql (.t 17) (.t 19)) .no, .mk (some 21) none
  (.pick (.t 15) (.t 20) (.c (.one (.st (.bool false)))))
  .no, .mk (some 22) none (.mov (.t 21)) .no, .mk (some 23) (some (22, true)) (.fieldAddr 1 (.t 4)) .no, .mk (some 24) (some (22, true)) (.load false 1 (.t 23))
  .no, .mk (some 25) (some (22, true)) (.len false (.t 24)) .no, .mk (some 26) (some (22, true)) (.fieldAddr 1 (.t 5)) .no, .mk (some 27) (some (22, true)) (.load false 1 (.t 26))
  .no, .mk (some 28) (some (22, true)) (.len false (.t 27)) .no, .mk (some 29) (some (22, true)) (.bin .eql (.t 25) (.t 28)) .no, .mk (some 30) none
  (.pick (.t 22) (.t 29) (.c (.one (.st (.bool false)))))
  .no])
  (.cond (.t 30)
  (.seq
  (.ops
  [.mk (some 31) none (.fieldAddr 0 (.t 4)) .no, .mk (some 32) none (.load false 1 (.t 31)) .no, .mk (some 33) none
  (.build [.st (.str (ByteArray.mk (#[]))), .full []]
  [(0, 1, .t 32)])
  .no, .mk (some 7) none
  (.alloc 24 [.st (.str (ByteArray.mk (#[]))), .full []])
  .no, .mk none none (.store 2 (.t 7) (.t 33))
  .no])
  (.seq
  (.seq
  (.ops
  [.mk (some 34) none (.fieldAddr 1 (.t 4)) .no, .mk (some 35) none (.load false 1 (.t 34)) .no, .mk (some 36) none (.len false (.t 35)) .no, .mk (some 37) none (.mov (.c (.one (.st (.int .i64 0)))))
  .no])
  (.block 0
  (.loop
  (.seq
  (.ops
  [.mk (some 38) none (.bin .lss (.t 37) (.t 36))
  .no])
  (.seq (.cond (.t 38) .skip (.exit 0))
  (.seq
  (.block 1
  (.seq
  (.ops
  [.mk (some 39) none (.mov (.t 37)) .no, .mk (some 8) none (.mov (.t 39)) .no])
  (.ops
  [.mk (some 40) none (.fieldAddr 1 (.t 7))
  (.onb 7), .mk (some 41) none (.load false 1 (.t 40))
  (.onb 7), .mk (some 42) none (.mov (.t 0)) .no, .mk (some 43) none (.fieldAddr 1 (.t 4)) .no, .mk (some 44) none (.load false 1 (.t 43))
  .no, .mk (some 45) none (.mov (.t 8)) .no, .mk (some 46) none
  (.indexAddr 2 (.t 44) (.t 45)) .no, .mk (some 47) none (.load true 2 (.t 46))
  .no, .mk (some 48) none (.fieldAddr 1 (.t 5)) .no, .mk (some 49) none (.load false 1 (.t 48))
  .no, .mk (some 50) none (.mov (.t 8)) .no, .mk (some 51) none
  (.indexAddr 2 (.t 49) (.t 50)) .no, .mk (some 52) none (.load true 2 (.t 51))
  .no, .mk (some 53) none
  (.callS 28 [.t 42, .t 47, .t 52])
  (.keeps [7, 7]), .mk (some 54) none (.buildSlice false 24 2 [.t 53])
  .no, .mk (some 55) none
  (.append false 24 2 40 (.t 41) (.t 54)) .no, .mk (some 56) none (.fieldAddr 1 (.t 7)) .no, .mk none none (.store 1 (.t 56) (.t 55))
  .no])))
  (.ops
  [.mk (some 57) none (.bin .add (.t 37) (.c (.one (.st (.int .i64 1)))))
  .no, .mk (some 37) none (.mov (.t 57)) .no])))))))
  (.seq
  (.ops
  [.mk (some 58) none (.load true 2 (.t 7)) .no, .mk none none (.store 2 (.t 6) (.t 58))
  .no])
  .ret)))
  .skip))
  (.seq
  (.seq
  (.ops
  [.mk (some 59) none (.mov (.t 0)) .no, .mk (some 60) none (.nilCheck (.t 59)) .no, .mk (some 61) none (.fieldAddr 0 (.t 60)) .no, .mk (some 62) none (.load false 1 (.t 61)) .no, .mk (some 63) none (.len false (.t 62)) .no, .mk (some 64) none (.mov (.c (.one (.st (.int .i64 0)))))
  .no])
  (.block 2
  (.loop
  (.seq
  (.ops
  [.mk (some 65) none (.bin .lss (.t 64) (.t 63))
  .no])
  (.seq (.cond (.t 65) .skip (.exit 2))
  (.seq
  (.block 3
  (.seq
  (.ops
  [.mk (some 66) none (.mov (.t 64)) .no, .mk (some 67) none (.indexAddr 4 (.t 62) (.t 64))
  .no, .mk (some 68) none (.load true 4 (.t 67)) .no, .mk (some 10) none
  (.alloc 34
  [.st (.str (ByteArray.mk (#[]))), .full [], .st (.str (ByteArray.mk (#[]))), .full []])
  .no, .mk (some 9) none (.mov (.t 66)) .no, .mk none none (.store 4 (.t 10) (.t 68))
  .no])
  (.seq
  (.ops
  [.mk (some 69) none (.fieldAddr 0 (.t 10)) .no, .mk (some 70) none (.load true 2 (.t 69)) .no, .mk (some 71) none (.load true 2 (.t 4)) .no, .mk (some 72) none (.call 48 [.t 70, .t 71])
  .no, .mk (some 73) none (.mov (.t 72)) .no, .mk (some 74) (some (73, true)) (.fieldAddr 2 (.t 10))
  .no, .mk (some 75) (some (73, true)) (.load true 2 (.t 74))
  .no, .mk (some 76) (some (73, true)) (.load true 2 (.t 5))
  .no, .mk (some 77) (some (73, true)) (.call 48 [.t 75, .t 76]) .no, .mk (some 78) none
  (.pick (.t 73) (.t 77) (.c (.one (.st (.bool false)))))
  .no])
  (.cond (.t 78)
  (.seq
  (.ops
  [.mk (some 79) none (.mov (.t 9)) .no, .mk (some 80) none (.call 29 [.t 79]) .no, .mk (some 81) none
  (.build [.st (.str (ByteArray.mk (#[]))), .full []]
  [(0, 1, .t 80)])
  .no, .mk none none (.store 2 (.t 6) (.t 81))
  .no])
  .ret)
  .skip))))
  (.ops
  [.mk (some 82) none (.bin .add (.t 64) (.c (.one (.st (.int .i64 1)))))
  .no, .mk (some 64) none (.mov (.t 82)) .no])))))))
  (.seq
  (.ops
  [.mk (some 83) none (.mov (.t 0)) .no, .mk (some 84) none (.mov (.t 0)) .no, .mk (some 85) none (.nilCheck (.t 84)) .no, .mk (some 86) none (.fieldAddr 0 (.t 85)) .no, .mk (some 87) none (.load false 1 (.t 86)) .no, .mk (some 88) none (.load true 2 (.t 4)) .no, .mk (some 89) none (.load true 2 (.t 5)) .no, .mk (some 90) none
  (.build
  [.st (.str (ByteArray.mk (#[]))), .full [], .st (.str (ByteArray.mk (#[]))), .full []]
  [(0, 2, .t 88), (2, 2, .t 89)])
  .no, .mk (some 91) none (.buildSlice false 34 4 [.t 90]) .no, .mk (some 92) none (.append false 34 4 80 (.t 87) (.t 91))
  .no, .mk (some 93) none (.nilCheck (.t 83)) .no, .mk (some 94) none (.fieldAddr 0 (.t 93)) .no, .mk none none (.store 1 (.t 94) (.t 92))
  .no])
  (.seq
  (.ops
  [.mk (some 95) none (.mov (.t 0)) .no, .mk (some 96) none (.nilCheck (.t 95)) .no, .mk (some 97) none (.fieldAddr 0 (.t 96)) .no, .mk (some 98) none (.load false 1 (.t 97)) .no, .mk (some 99) none (.len false (.t 98)) .no, .mk (some 100) none (.bin .sub (.t 99) (.c (.one (.st (.int .i64 1)))))
  .no, .mk (some 101) none (.call 29 [.t 100]) .no, .mk (some 102) none
  (.build [.st (.str (ByteArray.mk (#[]))), .full []]
  [(0, 1, .t 101)])
  .no, .mk none none (.store 2 (.t 6) (.t 102))
  .no])
  .ret)))))
theorem tr_metaprune_general_maker_of : trCode Tryd.prog 103 [53] (Tryd.f28.body.getD .skip) = some ir_metaprune_general_maker_of := by kernel_rfl
theorem ac_metaprune_general_maker_of {xs : List AV} {r : AV} (hn : xs.length ≤ 103) (h : ∀ C : Ctx, C.n = 103 → IWP Tryd.prog C [53] ir_metaprune_general_maker_of (FinQ [.cell 6 true 2] r) (AS.start xs)) : ACalls Tryd.prog 28 xs r :=
  acalls_of Tryd.func28 rfl tr_metaprune_general_maker_of rfl hn h
theorem acS_metaprune_general_maker_of {xs : List AV} {S S' : AStore} {r : AV} (hn : xs.length ≤ 103) (h : Clean S → ∀ C : Ctx, C.n = 103 → IWP Tryd.prog C [53] ir_metaprune_general_maker_of (FinS C [.cell 6 true 2] r S') (AS.startS xs S)) : ACallsS Tryd.prog 28 xs S r S' :=
  acallsS_of Tryd.func28 rfl tr_metaprune_general_maker_of rfl hn h

def ir_general_General : IR :=
  (.seq
  (.ops
  [.mk (some 2) none (.box 24 (.t 0)) .no, .mk (some 3) none (.box 24 (.t 1)) .no, .mk (some 4) none
  (.alloc 24 [.st (.str (ByteArray.mk (#[]))), .full []])
  .no, .mk (some 5) none (.mov (.c (.one (.full [])))) .no, .mk (some 6) none (.mov (.c (.one (.full [])))) .no, .mk (some 7) none (.mov (.c (.one (.st (.int .i64 0)))))
  .no])
  (.seq
  (.seq
  (.ops
  [.mk (some 12) none (.load true 2 (.t 2)) .no, .mk (some 13) none (.load true 2 (.t 3)) .no, .mk (some 14) none (.call 27 [.t 12, .t 13])
  .no, .mk (some 8) none (.mov (.t 14)) .no])
  (.seq
  (.ops
  [.mk (some 15) none (.mov (.t 8)) .no, .mk (some 16) none (.bin .neq (.t 15) (.c (.one (.st (.int .i64 0)))))
  .no])
  (.cond (.t 16)
  (.seq
  (.ops
  [.mk (some 17) none
  (.build [.st (.str (ByteArray.mk (#[]))), .full []] [])
  .no, .mk (some 18) none (.mov (.t 8)) .no, .mk none none (.store 2 (.t 4) (.t 17))
  .no, .mk (some 5) none (.mov (.c (.one (.full [])))) .no, .mk (some 6) none (.mov (.c (.one (.full [])))) .no, .mk (some 7) none (.mov (.t 18)) .no])
  .ret)
  .skip)))
  (.seq
  (.ops
  [.mk (some 19) none (.build [.full []] []) .no, .mk (some 20) none (.box 64 (.t 19)) .no, .mk (some 9) none (.mov (.t 20)) .no])
  (.seq
  (.ops
  [.mk (some 21) none (.mov (.t 9)) .no, .mk (some 22) none (.load true 2 (.t 2)) .no, .mk (some 23) none (.load true 2 (.t 3)) .no, .mk (some 24) none
  (.callS 28 [.t 21, .t 22, .t 23]) .no, .mk none none (.store 2 (.t 4) (.t 24))
  .no])
  (.seq
  (.seq
  (.ops
  [.mk (some 25) none (.mov (.t 9)) .no, .mk (some 26) none (.nilCheck (.t 25)) .no, .mk (some 27) none (.fieldAddr 0 (.t 26)) .no, .mk (some 28) none (.load false 1 (.t 27)) .no, .mk (some 29) none (.len false (.t 28)) .no, .mk (some 30) none (.mov (.c (.one (.st (.int .i64 0)))))
  .no])
  (.block 0
  (.loop
  (.seq
  (.ops
  [.mk (some 31) none (.bin .lss (.t 30) (.t 29))
  .no])
  (.seq (.cond (.t 31) .skip (.exit 0))
  (.seq
  (.block 1
  (.seq
  (.ops
  [.mk (some 32) none (.mov (.t 30)) .no, .mk (some 33) none (.indexAddr 4 (.t 28) (.t 30))
  .no, .mk (some 34) none (.load true 4 (.t 33))
  .no, .mk (some 11) none
  (.alloc 34
  [.st (.str (ByteArray.mk (#[]))), .full [], .st (.str (ByteArray.mk (#[]))), .full []])
  .no, .mk (some 10) none (.mov (.t 32)) .no, .mk none none (.store 4 (.t 11) (.t 34))
  .no])
  (.seq
  (.ops
  [.mk (some 35) none (.mov (.t 5)) .no, .mk (some 36) none (.mov (.t 10)) .no, .mk (some 37) none (.call 29 [.t 36]) .no, .mk (some 38) none (.fieldAddr 0 (.t 11)) .no, .mk (some 39) none (.load true 2 (.t 38))
  .no, .mk (some 40) none (.call 30 [.t 39]) .no, .mk (some 41) none
  (.build
  [.st (.str (ByteArray.mk (#[]))), .st (.str (ByteArray.mk (#[]))), .full []]
  [(0, 1, .t 37), (1, 2, .t 40)])
  .no, .mk (some 42) none (.buildSlice false 36 3 [.t 41])
  .no, .mk (some 43) none
  (.append true 36 3 56 (.t 35) (.t 42)) .no, .mk (some 5) none (.mov (.t 43)) .no])
  (.ops
  [.mk (some 44) none (.mov (.t 6)) .no, .mk (some 45) none (.mov (.t 10)) .no, .mk (some 46) none (.call 29 [.t 45]) .no, .mk (some 47) none (.fieldAddr 2 (.t 11)) .no, .mk (some 48) none (.load true 2 (.t 47))
  .no, .mk (some 49) none (.call 30 [.t 48]) .no, .mk (some 50) none
  (.build
  [.st (.str (ByteArray.mk (#[]))), .st (.str (ByteArray.mk (#[]))), .full []]
  [(0, 1, .t 46), (1, 2, .t 49)])
  .no, .mk (some 51) none (.buildSlice false 36 3 [.t 50])
  .no, .mk (some 52) none
  (.append true 36 3 56 (.t 44) (.t 51)) .no, .mk (some 6) none (.mov (.t 52)) .no]))))
  (.ops
  [.mk (some 53) none (.bin .add (.t 30) (.c (.one (.st (.int .i64 1)))))
  .no, .mk (some 30) none (.mov (.t 53)) .no])))))))
  (.seq
  (.ops
  [.mk (some 54) none (.load true 2 (.t 4)) (.onb 4), .mk (some 55) none (.mov (.t 5)) .no, .mk (some 56) none (.callS 31 [.t 55]) (.keeps [4]), .mk (some 57) none (.mov (.t 6)) .no, .mk (some 58) none (.callS 31 [.t 57]) (.keeps [4]), .mk none none (.store 2 (.t 4) (.t 54))
  .no, .mk (some 5) none (.mov (.t 56)) .no, .mk (some 6) none (.mov (.t 58)) .no, .mk (some 7) none (.mov (.c (.one (.st (.int .i64 0)))))
  .no])
  .ret))))))
theorem tr_general_General : trCode Tryd.prog 59 [24, 43, 52, 56, 58] (Tryd.f10.body.getD .skip) = some ir_general_General := by kernel_rfl
theorem ac_general_General {xs : List AV} {r : AV} (hn : xs.length ≤ 59) (h : ∀ C : Ctx, C.n = 59 → IWP Tryd.prog C [24, 43, 52, 56, 58] ir_general_General (FinQ [.cell 4 true 2, .t 5, .t 6, .t 7] r) (AS.start xs)) : ACalls Tryd.prog 10 xs r :=
  acalls_of Tryd.func10 rfl tr_general_General rfl hn h
theorem acS_general_General {xs : List AV} {S S' : AStore} {r : AV} (hn : xs.length ≤ 59) (h : Clean S → ∀ C : Ctx, C.n = 59 → IWP Tryd.prog C [24, 43, 52, 56, 58] ir_general_General (FinS C [.cell 4 true 2, .t 5, .t 6, .t 7] r S') (AS.startS xs S)) : ACallsS Tryd.prog 10 xs S r S' :=
  acallsS_of Tryd.func10 rfl tr_general_General rfl hn h

def ir_R_Dec : IR :=
  (.seq
  (.ops
  [.mk (some 2) none (.mov (.c (.one (.st (.str (ByteArray.mk (#[])))))))
  .no])
  (.seq
  (.seq
  (.ops
  [.mk (some 3) none (.mov (.t 0)) .no, .mk (some 4) none (.bin .lss (.t 3) (.c (.one (.st (.int .i64 10)))))
  .no])
  (.cond (.t 4)
  (.seq
  (.ops
  [.mk (some 5) none (.mov (.t 0)) .no, .mk (some 6) none (.bin .add (.c (.one (.st (.int .i64 48)))) (.t 5))
  .no, .mk (some 7) none (.conv .u8 (.t 6)) .no, .mk (some 8) none (.buildFlat [.t 7]) .no, .mk (some 9) none (.strOf (.t 8)) .no, .mk (some 2) none (.mov (.t 9)) .no])
  .ret)
  .skip))
  (.seq
  (.ops
  [.mk (some 10) none (.mov (.t 0)) .no, .mk (some 11) none (.bin .quo (.t 10) (.c (.one (.st (.int .i64 10)))))
  .no, .mk (some 12) none (.call 9 [.t 11]) .no, .mk (some 13) none (.mov (.t 0)) .no, .mk (some 14) none (.bin .rem (.t 13) (.c (.one (.st (.int .i64 10)))))
  .no, .mk (some 15) none (.call 9 [.t 14]) .no, .mk (some 16) none (.bin .add (.t 12) (.t 15))
  .no, .mk (some 2) none (.mov (.t 16)) .no])
  .ret)))
theorem tr_R_Dec : trCode Tryd.prog 17 [] (Tryd.f9.body.getD .skip) = some ir_R_Dec := by kernel_rfl
theorem ac_R_Dec {xs : List AV} {r : AV} (hn : xs.length ≤ 17) (h : ∀ C : Ctx, C.n = 17 → IWP Tryd.prog C [] ir_R_Dec (FinQ [.t 2] r) (AS.start xs)) : ACalls Tryd.prog 9 xs r :=
  acalls_of Tryd.func9 rfl tr_R_Dec rfl hn h
theorem acS_R_Dec {xs : List AV} {S S' : AStore} {r : AV} (hn : xs.length ≤ 17) (h : Clean S → ∀ C : Ctx, C.n = 17 → IWP Tryd.prog C [] ir_R_Dec (FinS C [.t 2] r S') (AS.startS xs S)) : ACallsS Tryd.prog 9 xs S r S' :=
  acallsS_of Tryd.func9 rfl tr_R_Dec rfl hn h

def ir_R_least : IR :=
  (.seq
  (.ops
  [.mk (some 3) none (.box 24 (.t 0)) .no, .mk (some 4) none (.box 24 (.t 1)) .no, .mk (some 6) none
  (.alloc 24 [.st (.str (ByteArray.mk (#[]))), .full []])
  .no, .mk (some 7) none (.mov (.c (.one (.full [])))) .no])
  (.seq
  (.seq
  (.ops
  [.mk (some 13) none (.fieldAddr 0 (.t 3)) .no, .mk (some 14) none (.load false 1 (.t 13)) .no, .mk (some 15) none (.call 35 [.t 14]) .no, .mk (some 16) none (.un .not (.t 15)) .no, .mk (some 17) none (.mov (.t 16)) .no, .mk (some 18) (some (17, true)) (.fieldAddr 0 (.t 3)) .no, .mk (some 19) (some (17, true)) (.load false 1 (.t 18))
  .no, .mk (some 20) (some (17, true)) (.fieldAddr 0 (.t 4)) .no, .mk (some 21) (some (17, true)) (.load false 1 (.t 20))
  .no, .mk (some 22) (some (17, true)) (.bin .eql (.t 19) (.t 21)) .no, .mk (some 23) none
  (.pick (.t 17) (.t 22) (.c (.one (.st (.bool false)))))
  .no, .mk (some 24) none (.mov (.t 23)) .no, .mk (some 25) (some (24, true)) (.fieldAddr 1 (.t 3)) .no, .mk (some 26) (some (24, true)) (.load false 1 (.t 25))
  .no, .mk (some 27) (some (24, true)) (.len false (.t 26)) .no, .mk (some 28) (some (24, true)) (.fieldAddr 1 (.t 4)) .no, .mk (some 29) (some (24, true)) (.load false 1 (.t 28))
  .no, .mk (some 30) (some (24, true)) (.len false (.t 29)) .no, .mk (some 31) (some (24, true)) (.bin .eql (.t 27) (.t 30)) .no, .mk (some 32) none
  (.pick (.t 24) (.t 31) (.c (.one (.st (.bool false)))))
  .no])
  (.cond (.t 32)
  (.seq
  (.ops
  [.mk (some 33) none (.fieldAddr 0 (.t 3)) .no, .mk (some 34) none (.load false 1 (.t 33)) .no, .mk (some 35) none
  (.build [.st (.str (ByteArray.mk (#[]))), .full []]
  [(0, 1, .t 34)])
  .no, .mk (some 8) none
  (.alloc 24 [.st (.str (ByteArray.mk (#[]))), .full []])
  .no, .mk none none (.store 2 (.t 8) (.t 35))
  .no])
  (.seq
  (.seq
  (.ops
  [.mk (some 9) none (.mov (.c (.one (.st (.int .i64 0)))))
  .no])
  (.block 0
  (.loop
  (.seq
  (.seq
  (.ops
  [.mk (some 36) none (.mov (.t 9)) .no, .mk (some 37) none (.fieldAddr 1 (.t 3)) .no, .mk (some 38) none (.load false 1 (.t 37)) .no, .mk (some 39) none (.len false (.t 38)) .no, .mk (some 40) none (.bin .lss (.t 36) (.t 39)) .no])
  (.cond (.t 40) .skip (.exit 0)))
  (.seq
  (.block 1
  (.seq
  (.ops
  [.mk (some 44) none (.fieldAddr 1 (.t 3)) .no, .mk (some 45) none (.load false 1 (.t 44))
  .no, .mk (some 46) none (.mov (.t 9)) .no, .mk (some 47) none (.indexAddr 2 (.t 45) (.t 46))
  .no, .mk (some 48) none (.load true 2 (.t 47))
  .no, .mk (some 49) none (.fieldAddr 1 (.t 4)) .no, .mk (some 50) none (.load false 1 (.t 49))
  .no, .mk (some 51) none (.mov (.t 9)) .no, .mk (some 52) none (.indexAddr 2 (.t 50) (.t 51))
  .no, .mk (some 53) none (.load true 2 (.t 52))
  .no, .mk (some 54) none (.mov (.t 2)) .no, .mk (some 55) none
  (.callW 26 [.t 48, .t 53, .t 54])
  .no, .mk (some 43) none (.mov (.t 55)) .no, .mk (some 56) none (.extract 0 (.t 43)) .no, .mk (some 57) none (.extract 1 (.t 43)) .no, .mk (some 10) none
  (.alloc 24 [.st (.str (ByteArray.mk (#[]))), .full []])
  .no, .mk none none (.store 2 (.t 10) (.t 56))
  .no, .mk (some 11) none (.mov (.t 57)) .no])
  (.seq
  (.ops
  [.mk (some 58) none (.mov (.t 11)) .no, .mk (some 2) none (.mov (.t 58)) .no])
  (.ops
  [.mk (some 59) none (.fieldAddr 1 (.t 8)) .no, .mk (some 60) none (.load false 1 (.t 59))
  .no, .mk (some 61) none (.load true 2 (.t 10))
  .no, .mk (some 62) none (.buildSlice false 24 2 [.t 61])
  .no, .mk (some 63) none
  (.append false 24 2 40 (.t 60) (.t 62)) .no, .mk (some 64) none (.fieldAddr 1 (.t 8)) .no, .mk none none (.store 1 (.t 64) (.t 63))
  .no]))))
  (.ops
  [.mk (some 41) none (.mov (.t 9)) .no, .mk (some 42) none (.bin .add (.t 41) (.c (.one (.st (.int .i64 1)))))
  .no, .mk (some 9) none (.mov (.t 42)) .no]))))))
  (.seq
  (.ops
  [.mk (some 65) none (.load true 2 (.t 8)) .no, .mk (some 66) none (.mov (.t 2)) .no, .mk none none (.store 2 (.t 6) (.t 65))
  .no, .mk (some 7) none (.mov (.t 66)) .no])
  .ret)))
  .skip))
  (.seq
  (.ops
  [.mk (some 12) none (.mov (.c (.one (.st (.int .i64 0)))))
  .no])
  (.seq
  (.block 2
  (.loop
  (.seq
  (.seq
  (.ops
  [.mk (some 67) none (.mov (.t 12)) .no, .mk (some 68) none (.mov (.t 2)) .no, .mk (some 69) none (.len false (.t 68)) .no, .mk (some 70) none (.bin .lss (.t 67) (.t 69))
  .no, .mk (some 71) none (.mov (.t 70)) .no, .mk (some 72) (some (71, true)) (.mov (.t 2)) .no, .mk (some 73) (some (71, true)) (.mov (.t 12)) .no, .mk (some 74) (some (71, true))
  (.indexAddr 4 (.t 72) (.t 73)) .no, .mk (some 75) (some (71, true)) (.fieldAddr 0 (.t 74))
  .no, .mk (some 76) (some (71, true)) (.load true 2 (.t 75))
  .no, .mk (some 77) (some (71, true)) (.load true 2 (.t 3))
  .no, .mk (some 78) (some (71, true)) (.call 24 [.t 76, .t 77]) .no, .mk (some 79) (some (71, true)) (.mov (.t 78)) .no, .mk (some 80) (some (79, true)) (.mov (.t 2)) .no, .mk (some 81) (some (79, true)) (.mov (.t 12)) .no, .mk (some 82) (some (79, true))
  (.indexAddr 4 (.t 80) (.t 81)) .no, .mk (some 83) (some (79, true)) (.fieldAddr 2 (.t 82))
  .no, .mk (some 84) (some (79, true)) (.load true 2 (.t 83))
  .no, .mk (some 85) (some (79, true)) (.load true 2 (.t 4))
  .no, .mk (some 86) (some (79, true)) (.call 24 [.t 84, .t 85]) .no, .mk (some 87) (some (71, true))
  (.pick (.t 79) (.t 86) (.c (.one (.st (.bool false)))))
  .no, .mk (some 88) (some (71, true)) (.un .not (.t 87))
  .no, .mk (some 89) none
  (.pick (.t 71) (.t 88) (.c (.one (.st (.bool false)))))
  .no])
  (.cond (.t 89) .skip (.exit 2)))
  (.block 3
  (.ops
  [.mk (some 90) none (.mov (.t 12)) .no, .mk (some 91) none (.bin .add (.t 90) (.c (.one (.st (.int .i64 1)))))
  .no, .mk (some 12) none (.mov (.t 91)) .no])))))
  (.seq
  (.seq
  (.ops
  [.mk (some 92) none (.mov (.t 12)) .no, .mk (some 93) none (.mov (.t 2)) .no, .mk (some 94) none (.len false (.t 93)) .no, .mk (some 95) none (.bin .eql (.t 92) (.t 94))
  .no])
  (.cond (.t 95)
  (.ops
  [.mk (some 96) none (.mov (.t 2)) .no, .mk (some 97) none (.load true 2 (.t 3)) .no, .mk (some 98) none (.load true 2 (.t 4)) .no, .mk (some 99) none
  (.build
  [.st (.str (ByteArray.mk (#[]))), .full [], .st (.str (ByteArray.mk (#[]))), .full []]
  [(0, 2, .t 97), (2, 2, .t 98)])
  .no, .mk (some 100) none (.buildSlice false 34 4 [.t 99])
  .no, .mk (some 101) none
  (.append false 34 4 80 (.t 96) (.t 100)) .no, .mk (some 2) none (.mov (.t 101)) .no])
  .skip))
  (.seq
  (.ops
  [.mk (some 102) none (.mov (.t 12)) .no, .mk (some 103) none (.bin .add (.t 102) (.c (.one (.st (.int .i64 1)))))
  .no, .mk (some 104) none (.call 9 [.t 103]) .no, .mk (some 105) none (.bin .add (.c (.one (.st (.str (ByteArray.mk (#[90])))))) (.t 104))
  .no, .mk (some 106) none
  (.build [.st (.str (ByteArray.mk (#[]))), .full []]
  [(0, 1, .t 105)])
  .no, .mk (some 107) none (.mov (.t 2)) .no, .mk none none (.store 2 (.t 6) (.t 106))
  .no, .mk (some 7) none (.mov (.t 107)) .no])
  .ret))))))
theorem tr_R_least : trCode Tryd.prog 108 [50000055] (Tryd.f26.body.getD .skip) = some ir_R_least := by kernel_rfl
theorem ac_R_least {xs : List AV} {r : AV} (hn : xs.length ≤ 108) (h : ∀ C : Ctx, C.n = 108 → IWP Tryd.prog C [50000055] ir_R_least (FinQ [.cell 6 true 2, .t 7] r) (AS.start xs)) : ACalls Tryd.prog 26 xs r :=
  acalls_of Tryd.func26 rfl tr_R_least rfl hn h
theorem acS_R_least {xs : List AV} {S S' : AStore} {r : AV} (hn : xs.length ≤ 108) (h : Clean S → ∀ C : Ctx, C.n = 108 → IWP Tryd.prog C [50000055] ir_R_least (FinS C [.cell 6 true 2, .t 7] r S') (AS.startS xs S)) : ACallsS Tryd.prog 26 xs S r S' :=
  acallsS_of Tryd.func26 rfl tr_R_least rfl hn h

def ir_R_GeneralOf : IR :=
  (.seq
  (.ops
  [.mk (some 2) none (.box 24 (.t 0)) .no, .mk (some 3) none (.box 24 (.t 1)) .no, .mk (some 4) none
  (.alloc 24 [.st (.str (ByteArray.mk (#[]))), .full []])
  .no, .mk (some 5) none (.mov (.c (.one (.full [])))) .no])
  (.seq
  (.ops
  [.mk (some 6) none (.load true 2 (.t 2)) .no, .mk (some 7) none (.load true 2 (.t 3)) .no, .mk (some 8) none
  (.callS 26
  [.t 6, .t 7, .c (.one (.full []))])
  .no, .mk (some 9) none (.extract 0 (.t 8)) .no, .mk (some 10) none (.extract 1 (.t 8)) .no, .mk none none (.store 2 (.t 4) (.t 9))
  .no, .mk (some 5) none (.mov (.t 10)) .no])
  .ret))
theorem tr_R_GeneralOf : trCode Tryd.prog 11 [8] (Tryd.f8.body.getD .skip) = some ir_R_GeneralOf := by kernel_rfl
theorem ac_R_GeneralOf {xs : List AV} {r : AV} (hn : xs.length ≤ 11) (h : ∀ C : Ctx, C.n = 11 → IWP Tryd.prog C [8] ir_R_GeneralOf (FinQ [.cell 4 true 2, .t 5] r) (AS.start xs)) : ACalls Tryd.prog 8 xs r :=
  acalls_of Tryd.func8 rfl tr_R_GeneralOf rfl hn h
theorem acS_R_GeneralOf {xs : List AV} {S S' : AStore} {r : AV} (hn : xs.length ≤ 11) (h : Clean S → ∀ C : Ctx, C.n = 11 → IWP Tryd.prog C [8] ir_R_GeneralOf (FinS C [.cell 4 true 2, .t 5] r S') (AS.startS xs S)) : ACallsS Tryd.prog 8 xs S r S' :=
  acallsS_of Tryd.func8 rfl tr_R_GeneralOf rfl hn h

end Go.Proofs.YtdmgelbbjppgkaaDoor
