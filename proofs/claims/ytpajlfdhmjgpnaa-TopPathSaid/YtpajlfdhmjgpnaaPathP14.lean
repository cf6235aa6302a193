/-
  Part 14 of the texts: BVars; PWeight; PPath. Conditions: none.
-/
import Derived.Test.YtpajlfdhmjgpnaaPathP13
namespace Go.Proofs.Ytpajlfdhmjgpnaa
open Go Go.RowKit
set_option linter.unusedVariables false
set_option linter.unusedSimpArgs false
set_option maxHeartbeats 400000

theorem lens_encS {ts : List ByteArray} : ∀ x ∈ ts.map encS, x.length = 1 := by
  intro x hx
  obtain ⟨a, _, rfl⟩ := List.mem_map.1 hx
  rfl
/-- The reference's variables of a term. -/
theorem varsOf_a (t : Tm) (hz : t.size ≤ 1000000) : ACalls Try.prog 27 [aTm t] (aStrs t.varsOf) := by
  have hl := Tm.knots_length t
  refine ac_R_VarsOf (Nat.le_of_ble_eq_true rfl) fun C hC => ?_
  unfold ir_R_VarsOf
  repeat' (first | (with_reducible first | refine Wa ?_ | refine Wb ?_ | refine Wc ?_ | refine Wd ?_ | refine We ?_ | refine Wf ?_ | refine Wg ?_ | refine Wh ?_ | refine Wi ?_ | refine Wj ?_ | refine Wk (by decide) ?_ | refine Wl ?_ | refine Wm ?_ | refine Wn ?_) | refine CallG.mk _ (knots_a t hz) ?_ | ((with_reducible first | refine Wo (fun K hK => ?_) | refine Wq ?_ | refine Wr ?_); (try simp only [go_sem, List.forall_mem_nil, ↓guard_ite, ↓pick_ite, seval, encT_eq, inR_i64]); (repeat with_reducible refine And.intro (by first | omega | (with_reducible first | exact lens_encT | exact lens_encL | exact lens_encB | exact lens_encP) | (simp; done) | (simp only [List.length_take, List.length_map, List.length_append, maxLen_eq]; omega)) ?_); (try (with_reducible refine hK _ ?_; clear hK K))))
  refine IWP.ghost (Ghost.own 4 37 9 1 (xs := ([] : List ByteArray).map encS) rfl rfl lens_encS (by omega)) ?_
  refine IWP.loopD [] (fun m s => ∃ k, k ≤ t.knots.length ∧ m = t.knots.length - k ∧ s.env 3 = aTms t.knots ∧ s.env 4 = .one (.row 37 (addVars [] (t.knots.take k)).length) ∧ s.S 37 = some (.arow 9 1 ((addVars [] (t.knots.take k)).map encS)) ∧ s.env 5 = aInt k)
    t.knots.length ⟨0, Nat.zero_le _, rfl, rfl, rfl, rfl, rfl⟩ ?_
  rintro m ⟨env, S⟩ ⟨k, hk, rfl, e3, e4, s37, e5⟩
  simp only at e3 e4 s37 e5
  have hlen := addVars_length (t.knots.take k) []
  rw [List.length_take, List.length_nil] at hlen
  by_cases hlt : (k : Int) < t.knots.length
  · obtain ⟨a, ha⟩ := get_lt (show k < t.knots.length by omega)
    repeat' (first | (with_reducible first | refine Wa ?_ | refine Wb ?_ | refine Wc ?_ | refine Wd ?_ | refine We ?_ | refine Wf ?_ | refine Wg ?_ | refine Wh ?_ | refine Wi ?_ | refine Wj ?_ | refine Wk (by decide) ?_ | refine Wl ?_ | refine Wm ?_ | refine Wn ?_) | ((with_reducible first | refine Wo (fun K hK => ?_) | refine Wq ?_ | refine Wr ?_); (try simp only [go_sem, List.forall_mem_nil, ↓guard_ite, ↓pick_ite, seval, encT_eq, inR_i64, e3, e4, s37, e5, hlt]); (repeat with_reducible refine And.intro (by first | omega | (with_reducible first | exact lens_encT | exact lens_encL | exact lens_encB | exact lens_encP) | (simp; done) | (simp only [List.length_take, List.length_map, List.length_append, maxLen_eq]; omega)) ?_); (try (with_reducible refine hK _ ?_; clear hK K))))
    with_reducible refine Wp ?_
    simp only [go_sem, List.forall_mem_nil, ↓guard_ite, ↓pick_ite, seval, true_implies, false_implies, implies_true, decide_eq_true_eq, decide_eq_false_iff_not, Int.ofNat_lt, hlt]
    (try with_reducible refine ite_conj ?_)
    repeat' (first | (with_reducible first | refine Wa ?_ | refine Wb ?_ | refine Wc ?_ | refine Wd ?_ | refine We ?_ | refine Wf ?_ | refine Wg ?_ | refine Wh ?_ | refine Wi ?_ | refine Wj ?_ | refine Wk (by decide) ?_ | refine Wl ?_ | refine Wm ?_ | refine Wn ?_) | ((with_reducible first | refine Wo (fun K hK => ?_) | refine Wq ?_ | refine Wr ?_); (try simp only [go_sem, List.forall_mem_nil, ↓guard_ite, ↓pick_ite, seval, encT_eq, inR_i64, e3, e4, s37, e5, ha]); (repeat with_reducible refine And.intro (by first | omega | (with_reducible first | exact lens_encT | exact lens_encL | exact lens_encB | exact lens_encP) | (simp; done) | (simp only [List.length_take, List.length_map, List.length_append, maxLen_eq]; omega)) ?_); (try (with_reducible refine hK _ ?_; clear hK K))))
    refine ⟨_, isVar_a _, ?_⟩
    have hstep : addVars [] (t.knots.take (k + 1)) = addVar (addVars [] (t.knots.take k)) a.name := by rw [take_snoc ha, addVars_snoc]
    cases hv : isVar a.name with
    | false =>
      rw [addVar_no hv] at hstep
      repeat' (first | (with_reducible first | refine Wa ?_ | refine Wb ?_ | refine Wc ?_ | refine Wd ?_ | refine We ?_ | refine Wf ?_ | refine Wg ?_ | refine Wh ?_ | refine Wi ?_ | refine Wj ?_ | refine Wk (by decide) ?_ | refine Wl ?_ | refine Wm ?_ | refine Wn ?_) | ((with_reducible first | refine Wo (fun K hK => ?_) | refine Wq ?_ | refine Wr ?_); (try simp only [go_sem, List.forall_mem_nil, ↓guard_ite, ↓pick_ite, seval, encT_eq, inR_i64, e3, e4, s37, e5, ha]); (repeat with_reducible refine And.intro (by first | omega | (with_reducible first | exact lens_encT | exact lens_encL | exact lens_encB | exact lens_encP) | (simp; done) | (simp only [List.length_take, List.length_map, List.length_append, maxLen_eq]; omega)) ?_); (try (with_reducible refine hK _ ?_; clear hK K))))
      with_reducible refine Wp ?_
      simp only [go_sem, List.forall_mem_nil, ↓guard_ite, ↓pick_ite, seval, true_implies, false_implies, implies_true, decide_eq_true_eq, decide_eq_false_iff_not, Int.ofNat_lt]
      (try with_reducible refine ite_conj ?_)
      repeat' (first | (with_reducible first | refine Wa ?_ | refine Wb ?_ | refine Wc ?_ | refine Wd ?_ | refine We ?_ | refine Wf ?_ | refine Wg ?_ | refine Wh ?_ | refine Wi ?_ | refine Wj ?_ | refine Wk (by decide) ?_ | refine Wl ?_ | refine Wm ?_ | refine Wn ?_) | ((with_reducible first | refine Wo (fun K hK => ?_) | refine Wq ?_ | refine Wr ?_); (try simp only [go_sem, List.forall_mem_nil, ↓guard_ite, ↓pick_ite, seval, encT_eq, inR_i64, e3, e4, s37, e5]); (repeat with_reducible refine And.intro (by first | omega | (with_reducible first | exact lens_encT | exact lens_encL | exact lens_encB | exact lens_encP) | (simp; done) | (simp only [List.length_take, List.length_map, List.length_append, maxLen_eq]; omega)) ?_); (try (with_reducible refine hK _ ?_; clear hK K))))
      refine then_normal ⟨t.knots.length - (k + 1), by omega, k + 1, by omega, rfl, ?_⟩
      simp only [go_sem, List.forall_mem_nil, ↓guard_ite, ↓pick_ite, seval, AS.drop, dropS, AC.clears, AC.clear, AC.highs, AC.high, Bool.not_false, Bool.true_and, Bool.and_self, AV.purge, AV.purges, AC.purge, ABlk.purge, List.contains_cons, List.contains_nil, Nat.reduceBEq, Bool.or_self, Bool.or_false, Bool.false_or, Bool.or_true, encT_eq, inR_i64, e3, e4, s37, e5, hstep]
      congr 3
    | true =>
      repeat' (first | (with_reducible first | refine Wa ?_ | refine Wb ?_ | refine Wc ?_ | refine Wd ?_ | refine We ?_ | refine Wf ?_ | refine Wg ?_ | refine Wh ?_ | refine Wi ?_ | refine Wj ?_ | refine Wk (by decide) ?_ | refine Wl ?_ | refine Wm ?_ | refine Wn ?_) | ((with_reducible first | refine Wo (fun K hK => ?_) | refine Wq ?_ | refine Wr ?_); (try simp only [go_sem, List.forall_mem_nil, ↓guard_ite, ↓pick_ite, seval, encT_eq, inR_i64, e3, e4, s37, e5, ha]); (repeat with_reducible refine And.intro (by first | omega | (with_reducible first | exact lens_encT | exact lens_encL | exact lens_encB | exact lens_encP) | (simp; done) | (simp only [List.length_take, List.length_map, List.length_append, maxLen_eq]; omega)) ?_); (try (with_reducible refine hK _ ?_; clear hK K))))
      refine ⟨_, in_a _ _, ?_⟩
      cases hi : isIn a.name (addVars [] (t.knots.take k)) with
      | true =>
        rw [addVar_in hi] at hstep
        repeat' (first | (with_reducible first | refine Wa ?_ | refine Wb ?_ | refine Wc ?_ | refine Wd ?_ | refine We ?_ | refine Wf ?_ | refine Wg ?_ | refine Wh ?_ | refine Wi ?_ | refine Wj ?_ | refine Wk (by decide) ?_ | refine Wl ?_ | refine Wm ?_ | refine Wn ?_) | ((with_reducible first | refine Wo (fun K hK => ?_) | refine Wq ?_ | refine Wr ?_); (try simp only [go_sem, List.forall_mem_nil, ↓guard_ite, ↓pick_ite, seval, encT_eq, inR_i64, e3, e4, s37, e5]); (repeat with_reducible refine And.intro (by first | omega | (with_reducible first | exact lens_encT | exact lens_encL | exact lens_encB | exact lens_encP) | (simp; done) | (simp only [List.length_take, List.length_map, List.length_append, maxLen_eq]; omega)) ?_); (try (with_reducible refine hK _ ?_; clear hK K))))
        with_reducible refine Wp ?_
        simp only [go_sem, List.forall_mem_nil, ↓guard_ite, ↓pick_ite, seval, true_implies, false_implies, implies_true, decide_eq_true_eq, decide_eq_false_iff_not, Int.ofNat_lt]
        (try with_reducible refine ite_conj ?_)
        repeat' (first | (with_reducible first | refine Wa ?_ | refine Wb ?_ | refine Wc ?_ | refine Wd ?_ | refine We ?_ | refine Wf ?_ | refine Wg ?_ | refine Wh ?_ | refine Wi ?_ | refine Wj ?_ | refine Wk (by decide) ?_ | refine Wl ?_ | refine Wm ?_ | refine Wn ?_) | ((with_reducible first | refine Wo (fun K hK => ?_) | refine Wq ?_ | refine Wr ?_); (try simp only [go_sem, List.forall_mem_nil, ↓guard_ite, ↓pick_ite, seval, encT_eq, inR_i64, e3, e4, s37, e5]); (repeat with_reducible refine And.intro (by first | omega | (with_reducible first | exact lens_encT | exact lens_encL | exact lens_encB | exact lens_encP) | (simp; done) | (simp only [List.length_take, List.length_map, List.length_append, maxLen_eq]; omega)) ?_); (try (with_reducible refine hK _ ?_; clear hK K))))
        refine then_normal ⟨t.knots.length - (k + 1), by omega, k + 1, by omega, rfl, ?_⟩
        simp only [go_sem, List.forall_mem_nil, ↓guard_ite, ↓pick_ite, seval, AS.drop, dropS, AC.clears, AC.clear, AC.highs, AC.high, Bool.not_false, Bool.true_and, Bool.and_self, AV.purge, AV.purges, AC.purge, ABlk.purge, List.contains_cons, List.contains_nil, Nat.reduceBEq, Bool.or_self, Bool.or_false, Bool.false_or, Bool.or_true, encT_eq, inR_i64, e3, e4, s37, e5, hstep]
        congr 3
      | false =>
        rw [addVar_yes hv hi] at hstep
        repeat' (first | (with_reducible first | refine Wa ?_ | refine Wb ?_ | refine Wc ?_ | refine Wd ?_ | refine We ?_ | refine Wf ?_ | refine Wg ?_ | refine Wh ?_ | refine Wi ?_ | refine Wj ?_ | refine Wk (by decide) ?_ | refine Wl ?_ | refine Wm ?_ | refine Wn ?_) | ((with_reducible first | refine Wo (fun K hK => ?_) | refine Wq ?_ | refine Wr ?_); (try simp only [go_sem, List.forall_mem_nil, ↓guard_ite, ↓pick_ite, seval, encT_eq, inR_i64, e3, e4, s37, e5]); (repeat with_reducible refine And.intro (by first | omega | (with_reducible first | exact lens_encT | exact lens_encL | exact lens_encB | exact lens_encP) | (simp; done) | (simp only [List.length_take, List.length_map, List.length_append, maxLen_eq]; omega)) ?_); (try (with_reducible refine hK _ ?_; clear hK K))))
        with_reducible refine Wp ?_
        simp only [go_sem, List.forall_mem_nil, ↓guard_ite, ↓pick_ite, seval, true_implies, false_implies, implies_true, decide_eq_true_eq, decide_eq_false_iff_not, Int.ofNat_lt]
        (try with_reducible refine ite_conj ?_)
        repeat' (first | (with_reducible first | refine Wa ?_ | refine Wb ?_ | refine Wc ?_ | refine Wd ?_ | refine We ?_ | refine Wf ?_ | refine Wg ?_ | refine Wh ?_ | refine Wi ?_ | refine Wj ?_ | refine Wk (by decide) ?_ | refine Wl ?_ | refine Wm ?_ | refine Wn ?_) | ((with_reducible first | refine Wo (fun K hK => ?_) | refine Wq ?_ | refine Wr ?_); (try simp only [go_sem, List.forall_mem_nil, ↓guard_ite, ↓pick_ite, seval, encT_eq, inR_i64, e3, e4, s37, e5, ha]); (repeat with_reducible refine And.intro (by first | omega | (with_reducible first | exact lens_encT | exact lens_encL | exact lens_encB | exact lens_encP) | (simp; done) | (simp only [List.length_take, List.length_map, List.length_append, maxLen_eq]; omega)) ?_); (try (with_reducible refine hK _ ?_; clear hK K))))
        refine then_normal ⟨t.knots.length - (k + 1), by omega, k + 1, by omega, rfl, ?_⟩
        simp only [go_sem, List.forall_mem_nil, ↓guard_ite, ↓pick_ite, seval, AS.drop, dropS, AC.clears, AC.clear, AC.highs, AC.high, Bool.not_false, Bool.true_and, Bool.and_self, AV.purge, AV.purges, AC.purge, ABlk.purge, List.contains_cons, List.contains_nil, Nat.reduceBEq, Bool.or_self, Bool.or_false, Bool.false_or, Bool.or_true, encT_eq, inR_i64, e3, e4, s37, e5, hstep]
        exact ⟨by rw [List.map_append]; rfl, by congr 3⟩
  · repeat' (first | (with_reducible first | refine Wa ?_ | refine Wb ?_ | refine Wc ?_ | refine Wd ?_ | refine We ?_ | refine Wf ?_ | refine Wg ?_ | refine Wh ?_ | refine Wi ?_ | refine Wj ?_ | refine Wk (by decide) ?_ | refine Wl ?_ | refine Wm ?_ | refine Wn ?_) | ((with_reducible first | refine Wo (fun K hK => ?_) | refine Wq ?_ | refine Wr ?_); (try simp only [go_sem, List.forall_mem_nil, ↓guard_ite, ↓pick_ite, seval, encT_eq, inR_i64, e3, e4, s37, e5, hlt]); (repeat with_reducible refine And.intro (by first | omega | (with_reducible first | exact lens_encT | exact lens_encL | exact lens_encB | exact lens_encP) | (simp; done) | (simp only [List.length_take, List.length_map, List.length_append, maxLen_eq]; omega)) ?_); (try (with_reducible refine hK _ ?_; clear hK K))))
    with_reducible refine Wp ?_
    simp only [go_sem, List.forall_mem_nil, ↓guard_ite, ↓pick_ite, seval, true_implies, false_implies, implies_true, decide_eq_true_eq, decide_eq_false_iff_not, Int.ofNat_lt, hlt]
    (try with_reducible refine ite_conj ?_)
    repeat' (first | (with_reducible first | refine Wa ?_ | refine Wb ?_ | refine Wc ?_ | refine Wd ?_ | refine We ?_ | refine Wf ?_ | refine Wg ?_ | refine Wh ?_ | refine Wi ?_ | refine Wj ?_ | refine Wk (by decide) ?_ | refine Wl ?_ | refine Wm ?_ | refine Wn ?_) | ((with_reducible first | refine Wo (fun K hK => ?_) | refine Wq ?_ | refine Wr ?_); (try simp only [go_sem, List.forall_mem_nil, ↓guard_ite, ↓pick_ite, seval, encT_eq, inR_i64, e4, s37]); (repeat with_reducible refine And.intro (by first | omega | (with_reducible first | exact lens_encT | exact lens_encL | exact lens_encB | exact lens_encP) | (simp; done) | (simp only [List.length_take, List.length_map, List.length_append, maxLen_eq]; omega)) ?_); (try (with_reducible refine hK _ ?_; clear hK K))))
    simp only [go_sem, List.forall_mem_nil, ↓guard_ite, ↓pick_ite, seval, FinQ, AS.result, resAll, resOne, tupV, e4, s37]
    rw [List.take_of_length_le (by omega)]
    rfl

/-! ### the program's: with a row in hand -/
theorem updE_twice {α : Type} (f : Nat → α) (i : Nat) (a b : α) : updE (updE f i a) i b = updE f i b := by
  funext k
  unfold updE
  split <;> rfl
theorem updE_comm {α : Type} (f : Nat → α) {i j : Nat} (h : ¬ i = j) (a b : α) : updE (updE f i a) j b = updE (updE f j b) i a := by
  funext k
  unfold updE
  split
  · rename_i e
    subst e
    rw [if_neg (fun e => h e.symm)]
  · rfl
theorem updE_self {α : Type} {f : Nat → α} {i : Nat} {a : α} (h : f i = a) : updE f i a = f := by
  funext k
  unfold updE
  split
  · rename_i e
    rw [e, h]
  · rfl
/-- A term in memory of its own. -/
theorem copy_a (t : Tm) (hz : t.size ≤ 1000000) : ACalls Try.prog 65 [aTm t] (aTm t) := by
  induction h : SizeOf.sizeOf t using Nat.strongRecOn generalizing t with
  | _ N ih =>
  subst h
  have hs := Tm.size_eq t
  have hkn := Tm.length_le t.args
  refine ac_term_Copy (Nat.le_of_ble_eq_true rfl) fun C hC => ?_
  unfold ir_term_Copy
  repeat' (first | (with_reducible first | refine Wa ?_ | refine Wb ?_ | refine Wc ?_ | refine Wd ?_ | refine We ?_ | refine Wf ?_ | refine Wg ?_ | refine Wh ?_ | refine Wi ?_ | refine Wj ?_ | refine Wk (by decide) ?_ | refine Wl ?_ | refine Wm ?_ | refine Wn ?_) | ((with_reducible first | refine Wo (fun K hK => ?_) | refine Wq ?_ | refine Wr ?_); (try simp only [go_sem, List.forall_mem_nil, ↓guard_ite, ↓pick_ite, seval, encT_eq, inR_i64]); (repeat with_reducible refine And.intro (by first | omega | (with_reducible first | exact lens_encT | exact lens_encL | exact lens_encB | exact lens_encP) | (simp; done) | (simp only [List.length_take, List.length_map, List.length_append, maxLen_eq]; omega)) ?_); (try (with_reducible refine hK _ ?_; clear hK K))))
  refine IWP.ghost (Ghost.ownC 3 1 21 24 2 (xs := ([] : List Tm).map encT) rfl rfl rfl lens_encT) ?_
  refine IWP.loopD [5] (fun m s => ∃ k, k ≤ t.args.length ∧ m = t.args.length - k ∧ s.env 2 = .one (.ptr 2 1 0 0) ∧ s.env 3 = .one (.ptr 3 1 0 0) ∧ s.S 2 = some (.box 24 [.st (.str ⟨#[]⟩), .full []]) ∧ s.S 3 = some (.box 24 [.st (.str t.name), .row 21 k]) ∧ s.S 21 = some (.arow 24 2 ((t.args.take k).map encT)) ∧ s.env 10 = .one (.st (.list (t.args.map encT))) ∧ s.env 11 = aInt t.args.length ∧ s.env 12 = aInt k ∧ s.S 5 = none)
    t.args.length ⟨0, Nat.zero_le _, rfl, rfl, rfl, rfl, rfl, rfl, rfl, rfl, rfl, rfl⟩ ?_
  rintro m ⟨env, S⟩ ⟨k, hk, rfl, e2, e3, s2, s3, s21, e10, e11, e12, s5⟩
  simp only at e2 e3 s2 s3 s21 e10 e11 e12 s5
  have hlk : (t.args.take k).length = k := by rw [List.length_take]; omega
  by_cases hlt : (k : Int) < t.args.length
  · obtain ⟨a, ha⟩ := get_lt (show k < t.args.length by omega)
    repeat' (first | (with_reducible first | refine Wa ?_ | refine Wb ?_ | refine Wc ?_ | refine Wd ?_ | refine We ?_ | refine Wf ?_ | refine Wg ?_ | refine Wh ?_ | refine Wi ?_ | refine Wj ?_ | refine Wk (by decide) ?_ | refine Wl ?_ | refine Wm ?_ | refine Wn ?_) | ((with_reducible first | refine Wo (fun K hK => ?_) | refine Wq ?_ | refine Wr ?_); (try simp only [go_sem, List.forall_mem_nil, ↓guard_ite, ↓pick_ite, seval, encT_eq, inR_i64, e2, e3, s2, s3, s21, e10, e11, e12, s5, hlt]); (repeat with_reducible refine And.intro (by first | omega | (with_reducible first | exact lens_encT | exact lens_encL | exact lens_encB | exact lens_encP) | (simp; done) | (simp only [List.length_take, List.length_map, List.length_append, maxLen_eq]; omega)) ?_); (try (with_reducible refine hK _ ?_; clear hK K))))
    with_reducible refine Wp ?_
    simp only [go_sem, List.forall_mem_nil, ↓guard_ite, ↓pick_ite, seval, true_implies, false_implies, implies_true, decide_eq_true_eq, decide_eq_false_iff_not, Int.ofNat_lt, e10, e11, e12, hlt]
    (try with_reducible refine ite_conj ?_)
    repeat' (first | (with_reducible first | refine Wa ?_ | refine Wb ?_ | refine Wc ?_ | refine Wd ?_ | refine We ?_ | refine Wf ?_ | refine Wg ?_ | refine Wh ?_ | refine Wi ?_ | refine Wj ?_ | refine Wk (by decide) ?_ | refine Wl ?_ | refine Wm ?_ | refine Wn ?_) | refine CallG.mk _ (ih _ (Tm.lt_of_arg (mem_of_get ha)) a (by have := Tm.size_mem (mem_of_get ha); omega) rfl) ?_ | ((with_reducible first | refine Wo (fun K hK => ?_) | refine Wq ?_ | refine Wr ?_); (try simp only [go_sem, List.forall_mem_nil, ↓guard_ite, ↓pick_ite, seval, encT_eq, inR_i64, e2, e3, s2, s3, s21, e10, e11, e12, s5, ha, hlk]); (repeat with_reducible refine And.intro (by first | omega | (with_reducible first | exact lens_encT | exact lens_encL | exact lens_encB | exact lens_encP) | (simp; done) | (simp only [List.length_take, List.length_map, List.length_append, maxLen_eq]; omega)) ?_); (try (with_reducible refine hK _ ?_; clear hK K))))
    refine then_normal ⟨t.args.length - (k + 1), by omega, k + 1, by omega, rfl, ?_⟩
    simp only [go_sem, List.forall_mem_nil, ↓guard_ite, ↓pick_ite, seval, AS.drop, dropS, AC.clears, AC.clear, AC.highs, AC.high, Bool.not_false, Bool.true_and, Bool.and_self, AV.purge, AV.purges, AC.purge, ABlk.purge, List.contains_cons, List.contains_nil, Nat.reduceBEq, Bool.or_self, Bool.or_false, Bool.false_or, Bool.or_true, encT_eq, inR_i64, e2, e3, s2, s3, s21, e10, e11, e12, s5]
    exact ⟨by rw [take_snoc ha]; simp [encT_eq], by congr 3⟩
  · repeat' (first | (with_reducible first | refine Wa ?_ | refine Wb ?_ | refine Wc ?_ | refine Wd ?_ | refine We ?_ | refine Wf ?_ | refine Wg ?_ | refine Wh ?_ | refine Wi ?_ | refine Wj ?_ | refine Wk (by decide) ?_ | refine Wl ?_ | refine Wm ?_ | refine Wn ?_) | ((with_reducible first | refine Wo (fun K hK => ?_) | refine Wq ?_ | refine Wr ?_); (try simp only [go_sem, List.forall_mem_nil, ↓guard_ite, ↓pick_ite, seval, encT_eq, inR_i64, e2, e3, s2, s3, s21, e10, e11, e12, s5, hlt]); (repeat with_reducible refine And.intro (by first | omega | (with_reducible first | exact lens_encT | exact lens_encL | exact lens_encB | exact lens_encP) | (simp; done) | (simp only [List.length_take, List.length_map, List.length_append, maxLen_eq]; omega)) ?_); (try (with_reducible refine hK _ ?_; clear hK K))))
    with_reducible refine Wp ?_
    simp only [go_sem, List.forall_mem_nil, ↓guard_ite, ↓pick_ite, seval, true_implies, false_implies, implies_true, decide_eq_true_eq, decide_eq_false_iff_not, Int.ofNat_lt, e10, e11, e12, hlt]
    (try with_reducible refine ite_conj ?_)
    repeat' (first | (with_reducible first | refine Wa ?_ | refine Wb ?_ | refine Wc ?_ | refine Wd ?_ | refine We ?_ | refine Wf ?_ | refine Wg ?_ | refine Wh ?_ | refine Wi ?_ | refine Wj ?_ | refine Wk (by decide) ?_ | refine Wl ?_ | refine Wm ?_ | refine Wn ?_) | ((with_reducible first | refine Wo (fun K hK => ?_) | refine Wq ?_ | refine Wr ?_); (try simp only [go_sem, List.forall_mem_nil, ↓guard_ite, ↓pick_ite, seval, encT_eq, inR_i64, e2, e3, s2, s3, s21, e10, e11, e12, s5]); (repeat with_reducible refine And.intro (by first | omega | (with_reducible first | exact lens_encT | exact lens_encL | exact lens_encB | exact lens_encP) | (simp; done) | (simp only [List.length_take, List.length_map, List.length_append, maxLen_eq]; omega)) ?_); (try (with_reducible refine hK _ ?_; clear hK K))))
    have hall : t.args.take k = t.args := List.take_of_length_le (by omega)
    rw [hall] at hlk s21
    simp only [go_sem, List.forall_mem_nil, ↓guard_ite, ↓pick_ite, seval, FinQ, AS.result, resAll, resOne, tupV, e2, s2, s21, hlk]
end Go.Proofs.Ytpajlfdhmjgpnaa

namespace Go.Proofs.Ytpajlfdhmjgpnaa
open Go Go.RowKit
set_option linter.unusedVariables false

/-! ### symbols by a row -/
def rankGo : List ByteArray → ByteArray → Int → Int
  | [], _, _ => -1
  | x :: xs, s, i => if x = s then i else rankGo xs s (i + 1)
/-- Where a symbol stands in a row; -1: nowhere. -/
def rankOf (row : List ByteArray) (s : ByteArray) : Int := rankGo row s 0
def cmpZ (x y : Int) : Int := if x < y then -1 else if y < x then 1 else 0
/-- By the row, then by names, then by how many are below. -/
def symI (row : List ByteArray) (a b : Tm) : Int :=
  if cmpZ (rankOf row a.name) (rankOf row b.name) ≠ 0 then cmpZ (rankOf row a.name) (rankOf row b.name) else if cmpI a.name b.name ≠ 0 then cmpI a.name b.name else cmpZ a.args.length b.args.length
theorem cmpZ_neg {x y : Int} : cmpZ x y < 0 ↔ x < y := by unfold cmpZ; split <;> (try split) <;> omega
theorem cmpZ_pos {x y : Int} : 0 < cmpZ x y ↔ y < x := by unfold cmpZ; split <;> (try split) <;> omega
theorem cmpZ_zero {x y : Int} : cmpZ x y = 0 ↔ x = y := by unfold cmpZ; split <;> (try split) <;> omega
theorem cmpI_lt {a b : ByteArray} : cmpI a b < 0 ↔ sLt a b = true := by
  unfold cmpI
  split
  · rename_i h; simp [h]
  · rename_i h
    split <;> simp [h]
theorem cmpI_eq {a b : ByteArray} : cmpI a b = 0 ↔ a = b := by
  unfold cmpI
  split
  · rename_i h
    constructor
    · intro h'; cases h'
    · intro e; subst e; rw [sLt_irrefl] at h; cases h
  · split <;> simp_all
theorem cmpI_gt {a b : ByteArray} : 0 < cmpI a b ↔ sLt b a = true := by
  unfold cmpI
  split
  · rename_i h
    rw [sLt_asymm h]
    simp
  · rename_i h
    split
    · rename_i e
      subst e
      rw [sLt_irrefl]
      simp
    · rename_i e
      rcases sLt_total a b with h1 | h1 | h1
      · exact absurd h1 h
      · exact absurd h1 e
      · simp [h1]
theorem symI_pos {row : List ByteArray} {a b : Tm} : 0 < symI row a b ↔ rankOf row b.name < rankOf row a.name ∨ (rankOf row a.name = rankOf row b.name ∧ (sLt b.name a.name = true ∨ (a.name = b.name ∧ b.args.length < a.args.length))) := by
  unfold symI
  rcases Int.lt_trichotomy (rankOf row a.name) (rankOf row b.name) with h | h | h
  · have h1 := cmpZ_neg.2 h
    rw [if_pos (by omega)]
    constructor
    · intro h2; omega
    · intro h2; omega
  · have h1 := cmpZ_zero.2 h
    rw [if_neg (by omega)]
    rcases sLt_total a.name b.name with h2 | h2 | h2
    · have h3 := cmpI_lt.2 h2
      rw [if_pos (by omega)]
      constructor
      · intro h4; omega
      · rintro (h4 | ⟨_, h4 | ⟨h4, _⟩⟩)
        · omega
        · rw [sLt_asymm h2] at h4; cases h4
        · rw [h4, sLt_irrefl] at h2; cases h2
    · have h3 := cmpI_eq.2 h2
      rw [if_neg (by omega), cmpZ_pos]
      constructor
      · intro h4; exact .inr ⟨h, .inr ⟨h2, by omega⟩⟩
      · rintro (h4 | ⟨_, h4 | ⟨_, h4⟩⟩)
        · omega
        · rw [h2, sLt_irrefl] at h4; cases h4
        · omega
    · have h3 := cmpI_gt.2 h2
      rw [if_pos (by omega)]
      exact ⟨fun _ => .inr ⟨h, .inl h2⟩, fun _ => h3⟩
  · have h1 := cmpZ_pos.2 h
    rw [if_pos (by omega)]
    exact ⟨fun _ => .inl h, fun _ => h1⟩
theorem symI_zero {row : List ByteArray} {a b : Tm} : symI row a b = 0 ↔ a.name = b.name ∧ a.args.length = b.args.length := by
  unfold symI
  constructor
  · intro h
    by_cases h1 : cmpZ (rankOf row a.name) (rankOf row b.name) ≠ 0
    · rw [if_pos h1] at h; exact absurd h h1
    rw [if_neg h1] at h
    by_cases h2 : cmpI a.name b.name ≠ 0
    · rw [if_pos h2] at h; exact absurd h h2
    rw [if_neg h2, cmpZ_zero] at h
    exact ⟨cmpI_eq.1 (by omega), by omega⟩
  · rintro ⟨h1, h2⟩
    rw [if_neg (by rw [h1, Classical.not_not]; exact cmpZ_zero.2 rfl), if_neg (by rw [Classical.not_not]; exact cmpI_eq.2 h1), h2]
    exact cmpZ_zero.2 rfl
theorem symI_neg {row : List ByteArray} {a b : Tm} : symI row a b < 0 ↔ 0 < symI row b a := by
  rw [symI_pos]
  have h1 := @symI_pos row a b
  have h0 := @symI_zero row a b
  constructor
  · intro h
    rcases Int.lt_trichotomy (rankOf row a.name) (rankOf row b.name) with h2 | h2 | h2
    · exact .inl h2
    · rcases sLt_total a.name b.name with h3 | h3 | h3
      · exact .inr ⟨h2.symm, .inl h3⟩
      · rcases Nat.lt_trichotomy a.args.length b.args.length with h4 | h4 | h4
        · exact .inr ⟨h2.symm, .inr ⟨h3.symm, h4⟩⟩
        · have := h0.2 ⟨h3, h4⟩; omega
        · have := h1.2 (.inr ⟨h2, .inr ⟨h3, h4⟩⟩); omega
      · have := h1.2 (.inr ⟨h2, .inl h3⟩); omega
    · have := h1.2 (.inl h2); omega
  · intro h
    have hn : ¬ 0 < symI row a b := fun h2 => by
      rcases h1.1 h2 with h3 | ⟨h3, h4 | ⟨h4, h5⟩⟩ <;> rcases h with h6 | ⟨h6, h7 | ⟨h7, h8⟩⟩
      · omega
      · omega
      · omega
      · omega
      · rw [sLt_asymm h4] at h7; cases h7
      · rw [h7, sLt_irrefl] at h4; cases h4
      · omega
      · rw [h4, sLt_irrefl] at h7; cases h7
      · omega
    have hz : ¬ symI row a b = 0 := fun h2 => by
      obtain ⟨e1, e2⟩ := h0.1 h2
      rcases h with h6 | ⟨h6, h7 | ⟨h7, h8⟩⟩
      · rw [e1] at h6; omega
      · rw [e1, sLt_irrefl] at h7; cases h7
      · omega
    omega
theorem symI_trans {row : List ByteArray} {a b c : Tm} (h : 0 < symI row a b) (k : 0 < symI row b c) : 0 < symI row a c := by
  rw [symI_pos] at h k ⊢
  rcases h with h1 | ⟨h1, h2 | ⟨h2, h3⟩⟩ <;> rcases k with k1 | ⟨k1, k2 | ⟨k2, k3⟩⟩
  · exact .inl (by omega)
  · exact .inl (by omega)
  · exact .inl (by omega)
  · exact .inl (by omega)
  · exact .inr ⟨by omega, .inl (sLt_trans k2 h2)⟩
  · exact .inr ⟨by omega, .inl (by rw [← k2]; exact h2)⟩
  · exact .inl (by omega)
  · exact .inr ⟨by omega, .inl (by rw [h2]; exact k2)⟩
  · exact .inr ⟨by omega, .inr ⟨h2.trans k2, by omega⟩⟩
theorem symI_congr {row : List ByteArray} {a a' b b' : Tm} (h1 : a.name = a'.name) (h2 : a.args.length = a'.args.length) (h3 : b.name = b'.name) (h4 : b.args.length = b'.args.length) : symI row a b = symI row a' b' := by
  unfold symI
  rw [h1, h2, h3, h4]

/-! ### how often -/
mutual
def Tm.occN (v : ByteArray) : Tm → Nat
  | .mk n xs => (if n = v then 1 else 0) + Tm.occNs v xs
def Tm.occNs (v : ByteArray) : List Tm → Nat
  | [] => 0
  | t :: ts => t.occN v + Tm.occNs v ts
end
theorem Tm.occN_eq (v : ByteArray) (t : Tm) : t.occN v = (if t.name = v then 1 else 0) + Tm.occNs v t.args := by cases t; rfl
/-- No variable stands more often in the second one. -/
def okV (a b : Tm) : Prop := ∀ v, isVar v = true → b.occN v ≤ a.occN v
theorem okV.trans {a b c : Tm} (h : okV a b) (k : okV b c) : okV a c := fun v hv => Nat.le_trans (k v hv) (h v hv)

/-! ### the order -/
/-- The first that differ: is the one above the other? -/
inductive Lex (R : Tm → Tm → Prop) : List Tm → List Tm → Prop
  | here {x y xs ys} : x ≠ y → R x y → xs.length = ys.length → Lex R (x :: xs) (y :: ys)
  | on {x xs ys} : Lex R xs ys → Lex R (x :: xs) (x :: ys)
def okVb (a b : Tm) : Bool := b.knots.all fun k => !isVar k.name || decide (b.occN k.name ≤ a.occN k.name)
mutual
/-- Is the one above the other by weights? -/
def Tm.wt (row : List ByteArray) : Tm → Tm → Bool
  | .mk n xs, b => okVb (.mk n xs) b && (if (Tm.mk n xs).size = b.size then (!isVar n && !isVar b.name && (if symI row (.mk n xs) b = 0 then Tm.wtL row xs b.args else decide (0 < symI row (.mk n xs) b))) else decide (b.size < (Tm.mk n xs).size))
def Tm.wtL (row : List ByteArray) : List Tm → List Tm → Bool
  | x :: xs, y :: ys => if x.beq y = true then Tm.wtL row xs ys else x.wt row y
  | _, _ => false
end
mutual
theorem occN_knots (v : ByteArray) : ∀ t : Tm, 0 < t.occN v → ∃ k ∈ t.knots, k.name = v
  | .mk n xs, h => by
    rw [Tm.occN] at h
    by_cases e : n = v
    · exact ⟨.mk n xs, by simp [Tm.knots], e⟩
    · rw [if_neg e] at h
      obtain ⟨k, hk, e2⟩ := occNs_knots v xs (by omega)
      exact ⟨k, by simp [Tm.knots, hk], e2⟩
theorem occNs_knots (v : ByteArray) : ∀ xs : List Tm, 0 < Tm.occNs v xs → ∃ k ∈ Tm.knotsL xs, k.name = v
  | [], h => by simp [Tm.occNs] at h
  | t :: ts, h => by
    rw [Tm.occNs] at h
    by_cases e : 0 < t.occN v
    · obtain ⟨k, hk, e2⟩ := occN_knots v t e
      exact ⟨k, by simp [Tm.knotsL, hk], e2⟩
    · obtain ⟨k, hk, e2⟩ := occNs_knots v ts (by omega)
      exact ⟨k, by simp [Tm.knotsL, hk], e2⟩
end
theorem okVb_iff {a b : Tm} : okVb a b = true ↔ okV a b := by
  unfold okVb okV
  rw [List.all_eq_true]
  constructor
  · intro h v hv
    by_cases h0 : 0 < b.occN v
    · obtain ⟨k, hk, rfl⟩ := occN_knots v b h0
      have := h k hk
      rw [hv] at this
      simpa using this
    · omega
  · intro h k hk
    cases hv : isVar k.name with
    | false => rfl
    | true => simpa using h _ hv
abbrev Wt (row : List ByteArray) (x y : Tm) : Prop := x.wt row y = true
theorem Lex.len {R : Tm → Tm → Prop} {xs ys : List Tm} (h : Lex R xs ys) : xs.length = ys.length := by
  induction h with
  | here _ _ h => simp [h]
  | on _ ih => simp [ih]
theorem wtL_iff {row : List ByteArray} : ∀ {xs ys : List Tm}, xs.length = ys.length → (Tm.wtL row xs ys = true ↔ Lex (Wt row) xs ys)
  | [], [], _ => by rw [Tm.wtL]; exact ⟨fun h => (by cases h), fun h => (by cases h)⟩; simp
  | x :: xs, y :: ys, hl => by
    have hl' : xs.length = ys.length := by simpa using hl
    rw [Tm.wtL]
    by_cases e : x = y
    · subst e
      rw [if_pos (Tm.beq_refl x), wtL_iff hl']
      refine ⟨.on, fun h => ?_⟩
      cases h with
      | here h _ _ => exact absurd rfl h
      | on h => exact h
    · rw [if_neg (fun h => e ((Tm.beq_iff x y).1 h))]
      refine ⟨fun h => .here e h hl', fun h => ?_⟩
      cases h with
      | here _ h _ => exact h
      | on _ => exact absurd rfl e
  | [], y :: ys, hl => by simp at hl
  | x :: xs, [], hl => by simp at hl
theorem wt_iff {row : List ByteArray} {a b : Tm} : Wt row a b ↔ okV a b ∧ (b.size < a.size ∨ (a.size = b.size ∧ isVar a.name = false ∧ isVar b.name = false ∧ (0 < symI row a b ∨ (symI row a b = 0 ∧ Lex (Wt row) a.args b.args)))) := by
  cases a with
  | mk n xs =>
    show Tm.wt row (.mk n xs) b = true ↔ _
    rw [Tm.wt, Bool.and_eq_true, okVb_iff, Tm.name_mk, Tm.args_mk]
    refine and_congr Iff.rfl ?_
    by_cases hz : (Tm.mk n xs).size = b.size
    · rw [if_pos hz, Bool.and_eq_true, Bool.and_eq_true, Bool.not_eq_true', Bool.not_eq_true']
      by_cases hs : symI row (.mk n xs) b = 0
      · rw [if_pos hs, wtL_iff (show xs.length = b.args.length from (symI_zero.1 hs).2)]
        constructor
        · rintro ⟨⟨h1, h2⟩, h3⟩; exact .inr ⟨hz, h1, h2, .inr ⟨hs, h3⟩⟩
        · rintro (h | ⟨_, h1, h2, h3 | ⟨_, h3⟩⟩)
          · omega
          · omega
          · exact ⟨⟨h1, h2⟩, h3⟩
      · rw [if_neg hs, decide_eq_true_eq]
        constructor
        · rintro ⟨⟨h1, h2⟩, h3⟩; exact .inr ⟨hz, h1, h2, .inl h3⟩
        · rintro (h | ⟨_, h1, h2, h3 | ⟨h3, _⟩⟩)
          · omega
          · exact ⟨⟨h1, h2⟩, h3⟩
          · exact absurd h3 hs
    · rw [if_neg hz, decide_eq_true_eq]
      constructor
      · exact .inl
      · rintro (h | ⟨h, _⟩)
        · exact h
        · exact absurd h hz

/-! ### a strict order -/
theorem Lex.irrefl {R : Tm → Tm → Prop} : ∀ {xs : List Tm}, ¬ Lex R xs xs
  | [], h => by cases h
  | x :: xs, h => by
    cases h with
    | here h _ _ => exact h rfl
    | on h => exact Lex.irrefl h
theorem Lex.trans {R : Tm → Tm → Prop} : ∀ {xs ys zs : List Tm}, (∀ x ∈ xs, ∀ y ∈ ys, ∀ z ∈ zs, R x y → R y z → R x z ∧ x ≠ z) → Lex R xs ys → Lex R ys zs → Lex R xs zs := by
  intro xs ys zs ht h k
  induction h generalizing zs with
  | here hne hr hl =>
    cases k with
    | here hne2 hr2 hl2 =>
      obtain ⟨h1, h2⟩ := ht _ (by simp) _ (by simp) _ (by simp) hr hr2
      exact .here h2 h1 (hl.trans hl2)
    | on k => exact .here hne hr (hl.trans k.len)
  | on h ih =>
    cases k with
    | here hne2 hr2 hl2 => exact .here hne2 hr2 (h.len.trans hl2)
    | on k => exact .on (ih (fun x hx y hy z hz => ht x (by simp [hx]) y (by simp [hy]) z (by simp [hz])) k)
theorem wt_irrefl {row : List ByteArray} (a : Tm) : ¬ Wt row a a := fun h => by
  rcases (wt_iff.1 h).2 with h1 | ⟨_, _, _, h1 | ⟨_, h1⟩⟩
  · omega
  · have := (symI_zero (row := row) (a := a) (b := a)).2 ⟨rfl, rfl⟩
    omega
  · exact Lex.irrefl h1
theorem wt_trans {row : List ByteArray} {a b c : Tm} (h : Wt row a b) (k : Wt row b c) : Wt row a c := by
  induction hN : SizeOf.sizeOf a using Nat.strongRecOn generalizing a b c with
  | _ N ih =>
  subst hN
  obtain ⟨h1, h2⟩ := wt_iff.1 h
  obtain ⟨k1, k2⟩ := wt_iff.1 k
  refine wt_iff.2 ⟨h1.trans k1, ?_⟩
  rcases h2 with h2 | ⟨h2, h3, h4, h5⟩
  · rcases k2 with k2 | ⟨k2, _⟩ <;> exact .inl (by omega)
  · rcases k2 with k2 | ⟨k2, k3, k4, k5⟩
    · exact .inl (by omega)
    · refine .inr ⟨h2.trans k2, h3, k4, ?_⟩
      rcases h5 with h5 | ⟨h5, h6⟩ <;> rcases k5 with k5 | ⟨k5, k6⟩
      · exact .inl (symI_trans h5 k5)
      · obtain ⟨e1, e2⟩ := symI_zero.1 k5
        exact .inl (by rw [symI_congr (a' := a) (b' := b) rfl rfl e1.symm e2.symm]; exact h5)
      · obtain ⟨e1, e2⟩ := symI_zero.1 h5
        exact .inl (by rw [symI_congr (a' := b) (b' := c) e1 e2 rfl rfl]; exact k5)
      · obtain ⟨e1, e2⟩ := symI_zero.1 h5
        obtain ⟨e3, e4⟩ := symI_zero.1 k5
        refine .inr ⟨symI_zero.2 ⟨e1.trans e3, e2.trans e4⟩, Lex.trans (fun x hx y _ z _ hxy hyz => ?_) h6 k6⟩
        have hxz := ih _ (Tm.lt_of_arg hx) hxy hyz rfl
        exact ⟨hxz, fun e => by subst e; exact wt_irrefl x hxz⟩
theorem wt_asymm {row : List ByteArray} {a b : Tm} (h : Wt row a b) : ¬ Wt row b a := fun k => wt_irrefl a (wt_trans h k)

/-! ### with bindings in it -/
def sumW (f g : Bd → Nat) : List Bd → Nat
  | [] => 0
  | b :: l => f b * g b + sumW f g l
theorem sumW_le {f f' g : Bd → Nat} : ∀ {l : List Bd}, (∀ b ∈ l, f b ≤ f' b) → sumW f g l ≤ sumW f' g l
  | [], _ => Nat.le_refl _
  | b :: l, h => by
    have h1 := Nat.mul_le_mul_right (g b) (h b (by simp))
    have h2 := sumW_le (f := f) (f' := f') (g := g) (l := l) fun c hc => h c (by simp [hc])
    simp only [sumW]
    omega
theorem sumW_add {f f' g : Bd → Nat} : ∀ {l : List Bd}, sumW (fun b => f b + f' b) g l = sumW f g l + sumW f' g l
  | [] => rfl
  | b :: l => by
    simp only [sumW]
    rw [sumW_add (l := l), Nat.add_mul]
    omega
theorem sumW_zero {f g : Bd → Nat} : ∀ {l : List Bd}, (∀ b ∈ l, f b = 0) → sumW f g l = 0
  | [], _ => rfl
  | b :: l, h => by
    simp only [sumW]
    rw [h b (by simp), sumW_zero fun c hc => h c (by simp [hc])]
    simp
/-- Just one is met. -/
theorem sumW_one {n : ByteArray} {x : Tm} {g : Bd → Nat} : ∀ {l : List Bd}, Named l → lookup l n = some x → sumW (fun b => if n = b.1 then 1 else 0) g l = g (n, x)
  | [], _, h => by rw [lookup_nil] at h; cases h
  | b :: l, hn, h => by
    unfold Named at hn
    rw [List.map_cons, List.nodup_cons] at hn
    rw [lookup_cons] at h
    simp only [sumW]
    by_cases e : b.1 = n
    · rw [if_pos e] at h
      rw [if_pos e.symm, sumW_zero fun c hc => if_neg fun e2 => hn.1 (by rw [e, e2]; exact List.mem_map_of_mem hc)]
      have : b = (n, x) := by cases b; cases h; cases e; rfl
      rw [this]
      simp
    · rw [if_neg e] at h
      rw [if_neg fun e2 => e e2.symm, sumW_one hn.2 h]
      simp
theorem not_dom {n : ByteArray} : ∀ {s : List Bd}, lookup s n = none → ∀ b ∈ s, n ≠ b.1
  | [], _, b, hb => by cases hb
  | c :: s, h, b, hb => by
    rw [lookup_cons] at h
    by_cases e : c.1 = n
    · rw [if_pos e] at h; cases h
    · rw [if_neg e] at h
      rcases List.mem_cons.1 hb with rfl | hb
      · exact fun e2 => e e2.symm
      · exact not_dom h b hb
theorem sumW_addg {f g g' : Bd → Nat} : ∀ {l : List Bd}, sumW f (fun b => g b + g' b) l = sumW f g l + sumW f g' l
  | [] => rfl
  | b :: l => by
    simp only [sumW]
    rw [sumW_addg (l := l), Nat.mul_add]
    omega
theorem sumW_congr {f g g' : Bd → Nat} : ∀ {l : List Bd}, (∀ b ∈ l, g b = g' b) → sumW f g l = sumW f g' l
  | [], _ => rfl
  | b :: l, h => by
    simp only [sumW]
    rw [h b (by simp), sumW_congr fun c hc => h c (by simp [hc])]
theorem sumW_ind {f : ByteArray → Nat} {v : ByteArray} : ∀ {l : List Bd}, Named l → sumW (fun b => f b.1) (fun b => if b.1 = v then 1 else 0) l = if (lookup l v).isSome then f v else 0
  | [], _ => rfl
  | b :: l, hn => by
    unfold Named at hn
    rw [List.map_cons, List.nodup_cons] at hn
    simp only [sumW]
    rw [sumW_ind hn.2, lookup_cons]
    by_cases e : b.1 = v
    · rw [if_pos e, if_pos e]
      have hl : lookup l v = none := lookup_none fun c hc e2 => hn.1 (by rw [e, ← e2]; exact List.mem_map_of_mem hc)
      rw [hl, ← e]
      simp
    · rw [if_neg e, if_neg e]
      simp
mutual
/-- Each knot counts what its name counts. -/
def Tm.meas (c : ByteArray → Nat) : Tm → Nat
  | .mk n xs => c n + Tm.measL c xs
def Tm.measL (c : ByteArray → Nat) : List Tm → Nat
  | [] => 0
  | t :: ts => t.meas c + Tm.measL c ts
end
mutual
theorem meas_size : ∀ t : Tm, t.meas (fun _ => 1) = t.size
  | .mk n xs => by rw [Tm.meas, Tm.size, meas_sizes xs]
theorem meas_sizes : ∀ xs : List Tm, Tm.measL (fun _ => 1) xs = Tm.sizes xs
  | [] => rfl
  | t :: ts => by rw [Tm.measL, Tm.sizes, meas_size t, meas_sizes ts]
end
mutual
theorem meas_occ (v : ByteArray) : ∀ t : Tm, t.meas (fun n => if n = v then 1 else 0) = t.occN v
  | .mk n xs => by rw [Tm.meas, Tm.occN, meas_occs v xs]
theorem meas_occs (v : ByteArray) : ∀ xs : List Tm, Tm.measL (fun n => if n = v then 1 else 0) xs = Tm.occNs v xs
  | [] => rfl
  | t :: ts => by rw [Tm.measL, Tm.occNs, meas_occ v t, meas_occs v ts]
end
mutual
theorem meas_on {s : List Bd} (ho : Named s) (hv : ∀ b ∈ s, isVar b.1 = true) (c : ByteArray → Nat) : ∀ t : Tm, t.chk = 0 → (t.on s).meas c + sumW (fun b => t.occN b.1) (fun b => c b.1) s = t.meas c + sumW (fun b => t.occN b.1) (fun b => b.2.meas c) s
  | .mk n xs, hc => by
    obtain ⟨c1, c2⟩ := Tm.chk_args hc
    simp only [Tm.name_mk, Tm.args_mk] at c1 c2
    have hocc : (fun b : Bd => (Tm.mk n xs).occN b.1) = fun b : Bd => (if n = b.1 then 1 else 0) + Tm.occNs b.1 xs := by
      funext b
      rw [Tm.occN]
    rw [hocc, sumW_add, sumW_add]
    cases hl : lookup s n with
    | some x =>
      obtain ⟨b, hb, e, _⟩ := lookup_mem hl
      have h0 := c1 (by rw [← e]; exact hv b hb)
      subst h0
      rw [Tm.on_leaf (t := .mk n []) hl rfl, sumW_one ho hl, sumW_one ho hl]
      simp only [Tm.occNs, Tm.meas, Tm.measL]
      rw [sumW_zero (fun _ _ => rfl), sumW_zero (fun _ _ => rfl)]
      omega
    | none =>
      have hon : (Tm.mk n xs).on s = .mk n (xs.map (Tm.on s)) := Tm.on_knot (t := .mk n xs) (.inl hl)
      have hd := not_dom hl
      rw [hon, sumW_zero (fun b hb => if_neg (hd b hb)), sumW_zero (fun b hb => if_neg (hd b hb)), Tm.meas, Tm.meas]
      have := measL_on ho hv c xs c2
      omega
theorem measL_on {s : List Bd} (ho : Named s) (hv : ∀ b ∈ s, isVar b.1 = true) (c : ByteArray → Nat) : ∀ xs : List Tm, (∀ x ∈ xs, x.chk = 0) → Tm.measL c (xs.map (Tm.on s)) + sumW (fun b => Tm.occNs b.1 xs) (fun b => c b.1) s = Tm.measL c xs + sumW (fun b => Tm.occNs b.1 xs) (fun b => b.2.meas c) s
  | [], _ => by
    simp only [Tm.occNs, Tm.measL, List.map_nil]
    rw [sumW_zero (fun _ _ => rfl), sumW_zero (fun _ _ => rfl)]
  | t :: ts, hc => by
    have h1 := meas_on ho hv c t (hc t (by simp))
    have h2 := measL_on ho hv c ts fun x hx => hc x (by simp [hx])
    simp only [Tm.occNs, Tm.measL, List.map_cons]
    rw [sumW_add, sumW_add]
    omega
end
section
variable {s : List Bd} {a b : Tm} {row : List ByteArray}
theorem size_on_le (hs : OkB s) (ha : a.chk = 0) (hb : b.chk = 0) (h : okV a b) : (b.on s).size + a.size ≤ (a.on s).size + b.size := by
  have hn := ordered_named hs.ord
  have h1 := meas_on hn hs.var (fun _ => 1) a ha
  have h2 := meas_on hn hs.var (fun _ => 1) b hb
  rw [meas_size, meas_size] at h1 h2
  have hsplit : ∀ f : Bd → Nat, sumW f (fun b => b.2.meas fun _ => 1) s = sumW f (fun b => b.2.size - 1) s + sumW f (fun _ => 1) s := fun f => by
    rw [← sumW_addg]
    exact sumW_congr fun c _ => by
      have := Tm.size_pos c.2
      rw [meas_size]
      omega
  rw [hsplit] at h1 h2
  have h3 := sumW_le (f := fun c => b.occN c.1) (f' := fun c => a.occN c.1) (g := fun c => c.2.size - 1) (l := s) fun c hc => h c.1 (hs.var c hc)
  omega
theorem okV_on (hs : OkB s) (ha : a.chk = 0) (hb : b.chk = 0) (h : okV a b) : okV (a.on s) (b.on s) := fun v hv => by
  have hn := ordered_named hs.ord
  have h1 := meas_on hn hs.var (fun n => if n = v then 1 else 0) a ha
  have h2 := meas_on hn hs.var (fun n => if n = v then 1 else 0) b hb
  rw [meas_occ, meas_occ, sumW_ind (f := fun n => a.occN n) hn] at h1
  rw [meas_occ, meas_occ, sumW_ind (f := fun n => b.occN n) hn] at h2
  have h3 := sumW_le (f := fun c => b.occN c.1) (f' := fun c => a.occN c.1) (g := fun c => c.2.meas fun n => if n = v then 1 else 0) (l := s) fun c hc => h c.1 (hs.var c hc)
  have h4 := h v hv
  split at h1 <;> split at h2 <;> first | omega | (rename_i q1 q2; exact absurd q1 q2) | (rename_i q1 q2; exact absurd q2 q1)
theorem Lex.map {R : Tm → Tm → Prop} {f : Tm → Tm} : ∀ {xs ys : List Tm}, (∀ x ∈ xs, ∀ y ∈ ys, R x y → R (f x) (f y) ∧ f x ≠ f y) → Lex R xs ys → Lex R (xs.map f) (ys.map f) := by
  intro xs ys h k
  induction k with
  | here hne hr hl =>
    obtain ⟨h1, h2⟩ := h _ (by simp) _ (by simp) hr
    exact .here h2 h1 (by simp [hl])
  | on k ih => exact .on (ih fun x hx y hy => h x (by simp [hx]) y (by simp [hy]))
/-- Stable under substitution. -/
theorem wt_on (hs : OkB s) (ha : a.chk = 0) (hb : b.chk = 0) (h : Wt row a b) : Wt row (a.on s) (b.on s) := by
  induction hN : SizeOf.sizeOf a using Nat.strongRecOn generalizing a b with
  | _ N ih =>
  subst hN
  obtain ⟨h1, h2⟩ := wt_iff.1 h
  have h3 := size_on_le hs ha hb h1
  refine wt_iff.2 ⟨okV_on hs ha hb h1, ?_⟩
  rcases h2 with h2 | ⟨h2, va, vb, h5⟩
  · exact .inl (by omega)
  · by_cases he : (a.on s).size = (b.on s).size
    · have ea : a.on s = .mk a.name (a.args.map (Tm.on s)) := Tm.on_knot (.inl (none_of hs va))
      have eb : b.on s = .mk b.name (b.args.map (Tm.on s)) := Tm.on_knot (.inl (none_of hs vb))
      refine .inr ⟨he, by rw [ea]; exact va, by rw [eb]; exact vb, ?_⟩
      have hsym : symI row (a.on s) (b.on s) = symI row a b := symI_congr (by rw [ea]; rfl) (by rw [ea, Tm.args_mk, List.length_map]) (by rw [eb]; rfl) (by rw [eb, Tm.args_mk, List.length_map])
      rw [hsym]
      rcases h5 with h5 | ⟨h5, h6⟩
      · exact .inl h5
      · refine .inr ⟨h5, ?_⟩
        rw [ea, eb, Tm.args_mk, Tm.args_mk]
        refine Lex.map (fun x hx y hy hxy => ?_) h6
        have := ih _ (Tm.lt_of_arg hx) ((Tm.chk_args ha).2 x hx) ((Tm.chk_args hb).2 y hy) hxy rfl
        exact ⟨this, fun e => by rw [e] at this; exact wt_irrefl _ this⟩
    · exact .inl (by omega)
theorem Tm.occNs_append (v : ByteArray) (xs ys : List Tm) : Tm.occNs v (xs ++ ys) = Tm.occNs v xs + Tm.occNs v ys := by
  induction xs with
  | nil => simp [Tm.occNs]
  | cons x xs ih => simp only [List.cons_append, Tm.occNs, ih]; omega
theorem Lex.at {R : Tm → Tm → Prop} {x y : Tm} (hne : x ≠ y) (h : R x y) : ∀ (xs ys : List Tm), Lex R (xs ++ x :: ys) (xs ++ y :: ys)
  | [], ys => .here hne h rfl
  | z :: xs, ys => .on (Lex.at hne h xs ys)
/-- Kept by contexts. -/
theorem wt_ctx {n : ByteArray} (hn : isVar n = false) (xs ys : List Tm) (h : Wt row a b) : Wt row (.mk n (xs ++ a :: ys)) (.mk n (xs ++ b :: ys)) := by
  have hne : a ≠ b := fun e => by subst e; exact wt_irrefl a h
  obtain ⟨h1, h2⟩ := wt_iff.1 h
  have hz : ∀ t : Tm, (Tm.mk n (xs ++ t :: ys)).size = 1 + Tm.sizes xs + t.size + Tm.sizes ys := fun t => by
    rw [Tm.size, Tm.sizes_append, Tm.sizes]
    omega
  refine wt_iff.2 ⟨fun v hv => ?_, ?_⟩
  · have := h1 v hv
    simp only [Tm.occN, Tm.occNs_append, Tm.occNs]
    omega
  · rw [hz, hz]
    by_cases he : a.size = b.size
    · refine .inr ⟨by omega, hn, hn, .inr ⟨symI_zero.2 ⟨rfl, by simp [Tm.args_mk]⟩, ?_⟩⟩
      exact Lex.at hne h xs ys
    · refine .inl ?_
      rcases h2 with h2 | ⟨h2, _⟩ <;> omega
/-- Above what is below it. -/
theorem wt_sub (row : List ByteArray) (n : ByteArray) (xs ys : List Tm) (a : Tm) : Wt row (.mk n (xs ++ a :: ys)) a := by
  refine wt_iff.2 ⟨fun v hv => ?_, .inl ?_⟩
  · simp only [Tm.occN, Tm.occNs_append, Tm.occNs]
    omega
  · rw [Tm.size, Tm.sizes_append, Tm.sizes]
    omega
/-- Without variables. -/
def Tm.ground (t : Tm) : Prop := ∀ k ∈ t.knots, isVar k.name = false
theorem ground_occ (h : a.ground) {v : ByteArray} (hv : isVar v = true) : a.occN v = 0 := by
  rcases Nat.eq_zero_or_pos (a.occN v) with h0 | h0
  · exact h0
  · obtain ⟨k, hk, rfl⟩ := occN_knots v a h0
    rw [h k hk] at hv
    cases hv
theorem knotsL_mem {x k : Tm} : ∀ {xs : List Tm}, x ∈ xs → k ∈ x.knots → k ∈ Tm.knotsL xs
  | y :: ys, hx, hk => by
    rw [Tm.knotsL, List.mem_append]
    rcases List.mem_cons.1 hx with rfl | hx
    · exact .inl hk
    · exact .inr (knotsL_mem hx hk)
theorem ground_parts (h : a.ground) : isVar a.name = false ∧ ∀ x ∈ a.args, x.ground := by
  refine ⟨h a (by rw [Tm.knots_eq]; simp), fun x hx k hk => h k ?_⟩
  rw [Tm.knots_eq, List.mem_cons]
  exact .inr (knotsL_mem hx hk)
theorem Lex.total {R : Tm → Tm → Prop} : ∀ {xs ys : List Tm}, xs.length = ys.length → xs ≠ ys → (∀ x ∈ xs, ∀ y ∈ ys, x ≠ y → R x y ∨ R y x) → Lex R xs ys ∨ Lex R ys xs
  | [], [], _, h, _ => absurd rfl h
  | x :: xs, y :: ys, hl, hne, h => by
    have hl' : xs.length = ys.length := by simpa using hl
    by_cases e : x = y
    · subst e
      rcases Lex.total hl' (fun e => hne (by rw [e])) (fun a ha b hb => h a (by simp [ha]) b (by simp [hb])) with k | k
      · exact .inl (.on k)
      · exact .inr (.on k)
    · rcases h x (by simp) y (by simp) e with k | k
      · exact .inl (.here e k hl')
      · exact .inr (.here (fun e2 => e e2.symm) k hl'.symm)
  | [], y :: ys, hl, _, _ => by simp at hl
  | x :: xs, [], hl, _, _ => by simp at hl
/-- Total on terms without variables. -/
theorem wt_total (ha : a.ground) (hb : b.ground) (hne : a ≠ b) : Wt row a b ∨ Wt row b a := by
  induction hN : SizeOf.sizeOf a using Nat.strongRecOn generalizing a b with
  | _ N ih =>
  subst hN
  have o1 : okV a b := fun v hv => by rw [ground_occ hb hv]; exact Nat.zero_le _
  have o2 : okV b a := fun v hv => by rw [ground_occ ha hv]; exact Nat.zero_le _
  obtain ⟨va, ga⟩ := ground_parts ha
  obtain ⟨vb, gb⟩ := ground_parts hb
  rcases Nat.lt_trichotomy a.size b.size with h | h | h
  · exact .inr (wt_iff.2 ⟨o2, .inl h⟩)
  · rcases Int.lt_trichotomy (symI row a b) 0 with h2 | h2 | h2
    · exact .inr (wt_iff.2 ⟨o2, .inr ⟨h.symm, vb, va, .inl (symI_neg.1 h2)⟩⟩)
    · obtain ⟨e1, e2⟩ := symI_zero.1 h2
      have hargs : a.args ≠ b.args := fun e => hne (Tm.eq_of e1 e)
      rcases Lex.total (R := Wt row) e2 hargs (fun x hx y hy hxy => ih _ (Tm.lt_of_arg hx) (ga x hx) (gb y hy) hxy rfl) with k | k
      · exact .inl (wt_iff.2 ⟨o1, .inr ⟨h, va, vb, .inr ⟨h2, k⟩⟩⟩)
      · exact .inr (wt_iff.2 ⟨o2, .inr ⟨h.symm, vb, va, .inr ⟨symI_zero.2 ⟨e1.symm, e2.symm⟩, k⟩⟩⟩)
    · exact .inl (wt_iff.2 ⟨o1, .inr ⟨h, va, vb, .inl h2⟩⟩)
  · exact .inl (wt_iff.2 ⟨o1, .inl h⟩)
end
end Go.Proofs.Ytpajlfdhmjgpnaa

namespace Go.Proofs.Ytpajlfdhmjgpnaa
open Go Go.RowKit
set_option linter.unusedVariables false

/-- Above by paths. -/
inductive Pa (row : List ByteArray) : Tm → Tm → Prop
  | is {a x : Tm} : isVar a.name = false → x ∈ a.args → Pa row a x
  | sub {a b x : Tm} : isVar a.name = false → x ∈ a.args → Pa row x b → Pa row a b
  | gt {a b : Tm} : isVar a.name = false → isVar b.name = false → 0 < symI row a b → (∀ y ∈ b.args, Pa row a y) → Pa row a b
  | lex {a b x y : Tm} {p xs ys : List Tm} : isVar a.name = false → isVar b.name = false → symI row a b = 0 → (∀ y ∈ b.args, Pa row a y) → a.args = p ++ x :: xs → b.args = p ++ y :: ys → x ≠ y → Pa row x y → Pa row a b

theorem Lex.split {R : Tm → Tm → Prop} {xs ys : List Tm} (h : Lex R xs ys) : ∃ p x y us vs, xs = p ++ x :: us ∧ ys = p ++ y :: vs ∧ x ≠ y ∧ R x y := by
  induction h with
  | here hne hr hl => exact ⟨[], _, _, _, _, rfl, rfl, hne, hr⟩
  | on k ih =>
    obtain ⟨p, x, y, us, vs, e1, e2, h1, h2⟩ := ih
    exact ⟨_ :: p, x, y, us, vs, by rw [e1]; rfl, by rw [e2]; rfl, h1, h2⟩
theorem Lex.at2 {R : Tm → Tm → Prop} {x y : Tm} (hne : x ≠ y) (h : R x y) {us vs : List Tm} (hl : us.length = vs.length) : ∀ p : List Tm, Lex R (p ++ x :: us) (p ++ y :: vs)
  | [] => .here hne h hl
  | z :: p => .on (Lex.at2 hne h hl p)

/-- What the program asks. -/
theorem pa_iff {row : List ByteArray} {a b : Tm} : Pa row a b ↔ isVar a.name = false ∧ ((∃ x ∈ a.args, x = b ∨ Pa row x b) ∨ (isVar b.name = false ∧ ¬ symI row a b < 0 ∧ (∀ y ∈ b.args, Pa row a y) ∧ (0 < symI row a b ∨ Lex (Pa row) a.args b.args))) := by
  constructor
  · intro h
    cases h with
    | is h1 h2 => exact ⟨h1, .inl ⟨_, h2, .inl rfl⟩⟩
    | sub h1 h2 h3 => exact ⟨h1, .inl ⟨_, h2, .inr h3⟩⟩
    | gt h1 h2 h3 h4 => exact ⟨h1, .inr ⟨h2, by omega, h4, .inl h3⟩⟩
    | lex h1 h2 h3 h4 e1 e2 hne h5 =>
      refine ⟨h1, .inr ⟨h2, by omega, h4, .inr ?_⟩⟩
      have hl := (symI_zero.1 h3).2
      rw [e1, e2] at hl ⊢
      exact Lex.at2 hne h5 (by simpa using hl) _
  · rintro ⟨h1, ⟨x, hx, rfl | h⟩ | ⟨h2, h3, h4, h5⟩⟩
    · exact .is h1 hx
    · exact .sub h1 hx h
    · by_cases h6 : 0 < symI row a b
      · exact .gt h1 h2 h6 h4
      · rcases h5 with h5 | h5
        · exact absurd h5 h6
        · obtain ⟨p, x, y, us, vs, e1, e2, hne, h7⟩ := h5.split
          exact .lex h1 h2 (by omega) h4 e1 e2 hne h7
variable {row : List ByteArray} {a b c : Tm}
theorem Pa.fn (h : Pa row a b) : isVar a.name = false := (pa_iff.1 h).1

theorem symI_le_trans (h : ¬ symI row a b < 0) (k : ¬ symI row b c < 0) : (0 < symI row a c) ∨ (symI row a b = 0 ∧ symI row b c = 0 ∧ symI row a c = 0) := by
  rcases Int.lt_trichotomy (symI row a b) 0 with h1 | h1 | h1
  · exact absurd h1 h
  · obtain ⟨e1, e2⟩ := symI_zero.1 h1
    have e : symI row a c = symI row b c := symI_congr e1 e2 rfl rfl
    rcases Int.lt_trichotomy (symI row b c) 0 with k1 | k1 | k1
    · exact absurd k1 k
    · exact .inr ⟨h1, k1, e.trans k1⟩
    · exact .inl (by omega)
  · rcases Int.lt_trichotomy (symI row b c) 0 with k1 | k1 | k1
    · exact absurd k1 k
    · obtain ⟨e1, e2⟩ := symI_zero.1 k1
      have e : symI row a b = symI row a c := symI_congr rfl rfl e1 e2
      exact .inl (by omega)
    · exact .inl (symI_trans h1 k1)
theorem Tm.lt_args {x : Tm} (h : x ∈ a.args) : SizeOf.sizeOf x < SizeOf.sizeOf a := Tm.lt_of_arg h

theorem pa_trans0 : ∀ N : Nat, ∀ a b c : Tm, SizeOf.sizeOf a + SizeOf.sizeOf b + SizeOf.sizeOf c < N → (Pa row a b → Pa row b c → Pa row a c) ∧ (a = c → Pa row a b → Pa row b c → False)
  | 0, _, _, _, h => absurd h (Nat.not_lt_zero _)
  | N + 1, a, b, c, hN => by
    have step : Pa row a b → Pa row b c → Pa row a c := fun h k => by
      have hv := h.fn
      have hw := k.fn
      obtain ⟨_, ⟨x, hx, hxb⟩ | ⟨_, hs, hall, hor⟩⟩ := pa_iff.1 h
      · have hlt := Tm.lt_args hx
        rcases hxb with rfl | hxb
        · exact .sub hv hx k
        · exact .sub hv hx ((pa_trans0 N x b c (by omega)).1 hxb k)
      · obtain ⟨_, ⟨y, hy, hyc⟩ | ⟨hvc, ks, kall, kor⟩⟩ := pa_iff.1 k
        · have hlt := Tm.lt_args hy
          rcases hyc with rfl | hyc
          · exact hall y hy
          · exact (pa_trans0 N a y c (by omega)).1 (hall y hy) hyc
        · have call : ∀ z ∈ c.args, Pa row a z := fun z hz => by
            have hlt := Tm.lt_args hz
            exact (pa_trans0 N a b z (by omega)).1 h (kall z hz)
          rcases symI_le_trans hs ks with hg | ⟨z1, z2, z3⟩
          · exact .gt hv hvc hg call
          · rcases hor with hor | hor
            · omega
            · rcases kor with kor | kor
              · omega
              · refine pa_iff.2 ⟨hv, .inr ⟨hvc, by omega, call, .inr ?_⟩⟩
                refine Lex.trans (fun x hx y hy z hz h1 h2 => ?_) hor kor
                have l1 := Tm.lt_args hx
                have l2 := Tm.lt_args hy
                have l3 := Tm.lt_args hz
                have := pa_trans0 N x y z (by omega)
                exact ⟨this.1 h1 h2, fun e => this.2 e h1 h2⟩
    refine ⟨step, fun e h k => ?_⟩
    subst e
    -- a above b above a: then a is above itself; look at how
    have hv := h.fn
    have haa := step h k
    obtain ⟨_, ⟨x, hx, hxb⟩ | ⟨_, hs, hall, hor⟩⟩ := pa_iff.1 h
    · have hlt := Tm.lt_args hx
      rcases hxb with rfl | hxb
      · obtain ⟨_, ⟨y, hy, hyc⟩ | ⟨_, ks, kall, kor⟩⟩ := pa_iff.1 k
        · have hl2 := Tm.lt_args hy
          rcases hyc with rfl | hyc
          · omega
          · exact (pa_trans0 N x y x (by omega)).2 rfl (.is k.fn hy) ((pa_trans0 N y a x (by omega)).1 hyc (.is hv hx))
        · exact (pa_trans0 N x x x (by omega)).2 rfl (kall x hx) (kall x hx)
      · have hxx : Pa row x a := (pa_trans0 N x b a (by omega)).1 hxb k
        have := Tm.lt_args hx
        exact (pa_trans0 N x b x (by omega)).2 rfl hxb ((pa_trans0 N b a x (by omega)).1 k (.is hv hx))
    · obtain ⟨_, ⟨y, hy, hyc⟩ | ⟨_, ks, kall, kor⟩⟩ := pa_iff.1 k
      · have hl2 := Tm.lt_args hy
        rcases hyc with rfl | hyc
        · exact (pa_trans0 N y y y (by omega)).2 rfl (hall y hy) (hall y hy)
        · exact (pa_trans0 N a y a (by omega)).2 rfl (hall y hy) hyc
      · rcases symI_le_trans hs ks with hg | ⟨z1, z2, z3⟩
        · have := (symI_zero (row := row) (a := a) (b := a)).2 ⟨rfl, rfl⟩
          omega
        · rcases hor with hor | hor
          · omega
          · rcases kor with kor | kor
            · omega
            · refine absurd (Lex.trans (fun x hx y hy z hz h1 h2 => ?_) hor kor) Lex.irrefl
              have l1 := Tm.lt_args hx
              have l2 := Tm.lt_args hy
              have l3 := Tm.lt_args hz
              have := pa_trans0 N x y z (by omega)
              exact ⟨this.1 h1 h2, fun e => this.2 e h1 h2⟩
theorem pa_trans (h : Pa row a b) (k : Pa row b c) : Pa row a c := (pa_trans0 _ a b c (Nat.lt_succ_self _)).1 h k
theorem pa_asymm (h : Pa row a b) : ¬ Pa row b a := fun k => (pa_trans0 _ a b a (Nat.lt_succ_self _)).2 rfl h k
theorem pa_irrefl (a : Tm) : ¬ Pa row a a := fun h => pa_asymm h h

/-- Above what is below it. -/
theorem pa_sub {n : ByteArray} (hn : isVar n = false) {xs : List Tm} {x : Tm} (h : x ∈ xs) : Pa row (.mk n xs) x := .is hn h
/-- Kept by contexts. -/
theorem pa_ctx {n : ByteArray} (hn : isVar n = false) (xs ys : List Tm) (h : Pa row a b) : Pa row (.mk n (xs ++ a :: ys)) (.mk n (xs ++ b :: ys)) := by
  have hne : a ≠ b := fun e => by subst e; exact pa_irrefl a h
  refine .lex hn hn (symI_zero.2 ⟨rfl, by simp [Tm.args_mk]⟩) (fun y hy => ?_) rfl rfl hne h
  rw [Tm.args_mk, List.mem_append, List.mem_cons] at hy
  rcases hy with hy | rfl | hy
  · exact .is hn (by rw [Tm.args_mk]; simp [hy])
  · exact .sub hn (by rw [Tm.args_mk]; simp) h
  · exact .is hn (by rw [Tm.args_mk]; simp [hy])
theorem symI_on (row : List ByteArray) (a b : Tm) (s : List Bd) : symI row (.mk a.name (a.args.map (Tm.on s))) (.mk b.name (b.args.map (Tm.on s))) = symI row a b :=
  symI_congr rfl (by rw [Tm.args_mk, List.length_map]) rfl (by rw [Tm.args_mk, List.length_map])
/-- Stable under substitution. -/
theorem pa_on {s : List Bd} (hs : OkB s) (h : Pa row a b) : Pa row (a.on s) (b.on s) := by
  have hk : ∀ {t : Tm}, isVar t.name = false → t.on s = .mk t.name (t.args.map (Tm.on s)) := fun ht => Tm.on_knot (.inl (none_of hs ht))
  induction h with
  | is h1 h2 =>
    rw [hk h1]
    exact .is h1 (by rw [Tm.args_mk]; exact List.mem_map_of_mem h2)
  | sub h1 h2 h3 ih =>
    rw [hk h1]
    exact .sub h1 (by rw [Tm.args_mk]; exact List.mem_map_of_mem h2) ih
  | @gt a b h1 h2 h3 h4 ih =>
    rw [hk h1] at ih ⊢
    rw [hk h2]
    refine .gt h1 h2 (by rw [symI_on]; exact h3) (fun y hy => ?_)
    rw [Tm.args_mk] at hy
    obtain ⟨y0, hy0, rfl⟩ := List.mem_map.1 hy
    exact ih y0 hy0
  | @lex a b x y p xs ys h1 h2 h3 h4 e1 e2 hne h5 ih ih2 =>
    rw [hk h1] at ih ⊢
    rw [hk h2]
    refine .lex (p := p.map (Tm.on s)) (xs := xs.map (Tm.on s)) (ys := ys.map (Tm.on s)) h1 h2 ((symI_on row a b s).trans h3) (fun y hy => ?_) (by rw [Tm.args_mk, e1]; simp) (by rw [Tm.args_mk, e2]; simp) (fun e => ?_) ih2
    · rw [Tm.args_mk] at hy
      obtain ⟨y0, hy0, rfl⟩ := List.mem_map.1 hy
      exact ih y0 hy0
    · rw [e] at ih2
      exact pa_irrefl _ ih2
/-- Total on terms without variables. -/
theorem pa_total0 : ∀ N : Nat, ∀ a b : Tm, SizeOf.sizeOf a + SizeOf.sizeOf b < N → a.ground → b.ground → a ≠ b → Pa row a b ∨ Pa row b a
  | 0, _, _, h => absurd h (Nat.not_lt_zero _)
  | N + 1, a, b, hN => fun ha hb hne => by
    obtain ⟨va, ga⟩ := ground_parts ha
    obtain ⟨vb, gb⟩ := ground_parts hb
    by_cases hx : ∃ x ∈ a.args, x = b ∨ Pa row x b
    · exact .inl (pa_iff.2 ⟨va, .inl hx⟩)
    by_cases hy : ∃ y ∈ b.args, y = a ∨ Pa row y a
    · exact .inr (pa_iff.2 ⟨vb, .inl hy⟩)
    have xall : ∀ x ∈ a.args, Pa row b x := fun x h => by
      have := Tm.lt_args h
      rcases pa_total0 N x b (by omega) (ga x h) hb (fun e => hx ⟨x, h, .inl e⟩) with k | k
      · exact absurd ⟨x, h, .inr k⟩ hx
      · exact k
    have yall : ∀ y ∈ b.args, Pa row a y := fun y h => by
      have := Tm.lt_args h
      rcases pa_total0 N y a (by omega) (gb y h) ha (fun e => hy ⟨y, h, .inl e⟩) with k | k
      · exact absurd ⟨y, h, .inr k⟩ hy
      · exact k
    rcases Int.lt_trichotomy (symI row a b) 0 with h2 | h2 | h2
    · exact .inr (.gt vb va (symI_neg.1 h2) xall)
    · obtain ⟨e1, e2⟩ := symI_zero.1 h2
      have h2' : symI row b a = 0 := symI_zero.2 ⟨e1.symm, e2.symm⟩
      have hargs : a.args ≠ b.args := fun e => hne (Tm.eq_of e1 e)
      rcases Lex.total (R := Pa row) e2 hargs (fun x hx y hy hxy => by
        have l1 := Tm.lt_args hx
        have l2 := Tm.lt_args hy
        exact pa_total0 N x y (by omega) (ga x hx) (gb y hy) hxy) with k | k
      · exact .inl (pa_iff.2 ⟨va, .inr ⟨vb, by omega, yall, .inr k⟩⟩)
      · exact .inr (pa_iff.2 ⟨vb, .inr ⟨va, by omega, xall, .inr k⟩⟩)
    · exact .inl (.gt va vb h2 yall)
theorem pa_total (ha : a.ground) (hb : b.ground) (hne : a ≠ b) : Pa row a b ∨ Pa row b a := pa_total0 _ a b (Nat.lt_succ_self _) ha hb hne
end Go.Proofs.Ytpajlfdhmjgpnaa
