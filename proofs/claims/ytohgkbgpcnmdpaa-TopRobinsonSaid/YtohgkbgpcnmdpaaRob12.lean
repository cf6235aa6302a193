/-
  Part 12 of the texts: BVars; IrSubst. Conditions: none.
-/
import Derived.Test.YtohgkbgpcnmdpaaRob11
namespace Go.Proofs.Ytohgkbgpcnmdpaa
open Go Go.RowKit
set_option linter.unusedVariables false
set_option linter.unusedSimpArgs false
set_option maxHeartbeats 400000
theorem lens_encS {ts : List ByteArray} : ∀ x ∈ ts.map encS, x.length = 1 := by
  intro x hx
  obtain ⟨a, _, rfl⟩ := List.mem_map.1 hx
  rfl
theorem updE_twice {α : Type} (f : Nat → α) (i : Nat) (a b : α) : updE (updE f i a) i b = updE f i b := by
  funext k
  unfold updE
  split <;> rfl
theorem updE_comm {α : Type} (f : Nat → α) {i j : Nat} (h : ¬ i = j) (a b : α) : updE (updE f i a) j b = updE (updE f j b) i a := by
  funext k
  unfold updE
  split
  · rename_i e
    subst e
    rw [if_neg (fun e => h e.symm)]
  · rfl
theorem vars_core (t : Tm) (hz : t.size ≤ 1000000)
    (ih : ∀ a ∈ t.args, ∀ (i : Nat) (l : List ByteArray) (S : AStore), 1000 ≤ i → l.length + a.size ≤ 3000000 → S i = some (.arow 9 1 (l.map encS)) →
      ACallsS Try.prog 60 [aTm a, .one (.row i l.length)] S (.one (.row i (addVars l a.knots).length)) (updE S i (some (.arow 9 1 ((addVars l a.knots).map encS)))))
    (C : Ctx) (hC : C.n = 34) (i : Nat) (hi : 20 < i) (l : List ByteArray) (hlz : l.length + t.size ≤ 3000000) (S : AStore) (hS : Clean S) (env : Nat → AV) (e0 : env 0 = aTm t) (e1 : env 1 = .one (.row i l.length))
    (Q : AX → AS → Prop) (hQ : ∀ env', env' 4 = .one (.row i (addVars l t.knots).length) → Q .ret ⟨env', updE (updE S 2 (some (.box 24 [.st (.str t.name), .st (.list (t.args.map encT))]))) i (some (.arow 9 1 ((addVars l t.knots).map encS)))⟩) :
    IWP Try.prog C [31] ir_term_vars Q ⟨env, updE S i (some (.arow 9 1 (l.map encS)))⟩ := by
  have hs := Tm.size_eq t
  have hk := Tm.knots_eq t
  have hc2 := clean_none hS (i := 2) (by omega)
  have hc6 := clean_none hS (i := 6) (by omega)
  have hi2 : ¬ 2 = i := by omega
  have hi6 : ¬ 6 = i := by omega
  have hi2' : ¬ i = 2 := by omega
  have hi6' : ¬ i = 6 := by omega
  unfold ir_term_vars
  have hlk : ∀ k, (addVars (addVar l t.name) (Tm.knotsL (t.args.take k))).length ≤ l.length + 1 + Tm.sizes (t.args.take k) := fun k => by
    have h1 := addVars_length (Tm.knotsL (t.args.take k)) (addVar l t.name)
    have h2 := addVar_length l t.name
    have h3 := Tm.knotsL_length (t.args.take k)
    omega
  repeat' (first | (with_reducible first | refine Wa ?_ | refine Wb ?_ | refine Wc ?_ | refine Wd ?_ | refine We ?_ | refine Wf ?_ | refine Wg ?_ | refine Wh ?_ | refine Wi ?_ | refine Wj ?_ | refine Wk (by decide) ?_ | refine Wl ?_ | refine Wm ?_ | refine Wn ?_) | ((with_reducible first | refine Wo (fun K hK => ?_) | refine Wq ?_ | refine Wr ?_); (try simp only [go_sem, List.forall_mem_nil, ↓guard_ite, ↓pick_ite, seval, encT_eq, inR_i64, e0, e1, hc2, hi2, hi6, hi2', hi6']); (repeat with_reducible refine And.intro (by first | omega | (with_reducible first | exact lens_encT | exact lens_encL | exact lens_encB | exact lens_encP) | (simp; done) | (simp only [List.length_take, List.length_map, List.length_append, maxLen_eq]; omega)) ?_); (try (with_reducible refine hK _ ?_; clear hK K))))
  refine ⟨_, variable_a _, ?_⟩
  rcases (show isVar t.name = false ∨ (isVar t.name = true ∧ isIn t.name l = true) ∨ (isVar t.name = true ∧ isIn t.name l = false) by cases isVar t.name <;> cases isIn t.name l <;> simp) with hv | ⟨hv, hin⟩ | ⟨hv, hin⟩
  case' inl =>
    have hl1 := addVar_no (l := l) hv
    repeat' (first | (with_reducible first | refine Wa ?_ | refine Wb ?_ | refine Wc ?_ | refine Wd ?_ | refine We ?_ | refine Wf ?_ | refine Wg ?_ | refine Wh ?_ | refine Wi ?_ | refine Wj ?_ | refine Wk (by decide) ?_ | refine Wl ?_ | refine Wm ?_ | refine Wn ?_) | ((with_reducible first | refine Wo (fun K hK => ?_) | refine Wq ?_ | refine Wr ?_); (try simp only [go_sem, List.forall_mem_nil, ↓guard_ite, ↓pick_ite, seval, encT_eq, inR_i64, e0, e1, hv, hi2, hi2']); (repeat with_reducible refine And.intro (by first | omega | (with_reducible first | exact lens_encT | exact lens_encL | exact lens_encB | exact lens_encP) | (simp; done) | (simp only [List.length_take, List.length_map, List.length_append, maxLen_eq]; omega)) ?_); (try (with_reducible refine hK _ ?_; clear hK K))))
    with_reducible refine Wp ?_
    simp only [go_sem, List.forall_mem_nil, ↓guard_ite, ↓pick_ite, seval, true_implies, false_implies, implies_true, decide_eq_true_eq, decide_eq_false_iff_not, Int.ofNat_lt, hv]
    (try with_reducible refine ite_conj ?_)
    repeat' (first | (with_reducible first | refine Wa ?_ | refine Wb ?_ | refine Wc ?_ | refine Wd ?_ | refine We ?_ | refine Wf ?_ | refine Wg ?_ | refine Wh ?_ | refine Wi ?_ | refine Wj ?_ | refine Wk (by decide) ?_ | refine Wl ?_ | refine Wm ?_ | refine Wn ?_) | ((with_reducible first | refine Wo (fun K hK => ?_) | refine Wq ?_ | refine Wr ?_); (try simp only [go_sem, List.forall_mem_nil, ↓guard_ite, ↓pick_ite, seval, encT_eq, inR_i64, e0, e1, hi2, hi2']); (repeat with_reducible refine And.intro (by first | omega | (with_reducible first | exact lens_encT | exact lens_encL | exact lens_encB | exact lens_encP) | (simp; done) | (simp only [List.length_take, List.length_map, List.length_append, maxLen_eq]; omega)) ?_); (try (with_reducible refine hK _ ?_; clear hK K))))
  case' inr.inl =>
    have hl1 := addVar_in (l := l) hin
    repeat' (first | (with_reducible first | refine Wa ?_ | refine Wb ?_ | refine Wc ?_ | refine Wd ?_ | refine We ?_ | refine Wf ?_ | refine Wg ?_ | refine Wh ?_ | refine Wi ?_ | refine Wj ?_ | refine Wk (by decide) ?_ | refine Wl ?_ | refine Wm ?_ | refine Wn ?_) | refine CallG.mk _ (contains_a _ _) ?_ | ((with_reducible first | refine Wo (fun K hK => ?_) | refine Wq ?_ | refine Wr ?_); (try simp only [go_sem, List.forall_mem_nil, ↓guard_ite, ↓pick_ite, seval, encT_eq, inR_i64, e0, e1, hv, hi2, hi2', hin]); (repeat with_reducible refine And.intro (by first | omega | (with_reducible first | exact lens_encT | exact lens_encL | exact lens_encB | exact lens_encP) | (simp; done) | (simp only [List.length_take, List.length_map, List.length_append, maxLen_eq]; omega)) ?_); (try (with_reducible refine hK _ ?_; clear hK K))))
    with_reducible refine Wp ?_
    simp only [go_sem, List.forall_mem_nil, ↓guard_ite, ↓pick_ite, seval, true_implies, false_implies, implies_true, decide_eq_true_eq, decide_eq_false_iff_not, Int.ofNat_lt, hv]
    (try with_reducible refine ite_conj ?_)
    repeat' (first | (with_reducible first | refine Wa ?_ | refine Wb ?_ | refine Wc ?_ | refine Wd ?_ | refine We ?_ | refine Wf ?_ | refine Wg ?_ | refine Wh ?_ | refine Wi ?_ | refine Wj ?_ | refine Wk (by decide) ?_ | refine Wl ?_ | refine Wm ?_ | refine Wn ?_) | ((with_reducible first | refine Wo (fun K hK => ?_) | refine Wq ?_ | refine Wr ?_); (try simp only [go_sem, List.forall_mem_nil, ↓guard_ite, ↓pick_ite, seval, encT_eq, inR_i64, e0, e1, hi2, hi2']); (repeat with_reducible refine And.intro (by first | omega | (with_reducible first | exact lens_encT | exact lens_encL | exact lens_encB | exact lens_encP) | (simp; done) | (simp only [List.length_take, List.length_map, List.length_append, maxLen_eq]; omega)) ?_); (try (with_reducible refine hK _ ?_; clear hK K))))
  case' inr.inr =>
    have hl1 := addVar_yes (l := l) hv hin
    repeat' (first | (with_reducible first | refine Wa ?_ | refine Wb ?_ | refine Wc ?_ | refine Wd ?_ | refine We ?_ | refine Wf ?_ | refine Wg ?_ | refine Wh ?_ | refine Wi ?_ | refine Wj ?_ | refine Wk (by decide) ?_ | refine Wl ?_ | refine Wm ?_ | refine Wn ?_) | refine CallG.mk _ (contains_a _ _) ?_ | ((with_reducible first | refine Wo (fun K hK => ?_) | refine Wq ?_ | refine Wr ?_); (try simp only [go_sem, List.forall_mem_nil, ↓guard_ite, ↓pick_ite, seval, encT_eq, inR_i64, e0, e1, hv, hi2, hi2', hin]); (repeat with_reducible refine And.intro (by first | omega | (with_reducible first | exact lens_encT | exact lens_encL | exact lens_encB | exact lens_encP) | (simp; done) | (simp only [List.length_take, List.length_map, List.length_append, maxLen_eq]; omega)) ?_); (try (with_reducible refine hK _ ?_; clear hK K))))
    with_reducible refine Wp ?_
    simp only [go_sem, List.forall_mem_nil, ↓guard_ite, ↓pick_ite, seval, true_implies, false_implies, implies_true, decide_eq_true_eq, decide_eq_false_iff_not, Int.ofNat_lt, hv]
    (try with_reducible refine ite_conj ?_)
    repeat' (first | (with_reducible first | refine Wa ?_ | refine Wb ?_ | refine Wc ?_ | refine Wd ?_ | refine We ?_ | refine Wf ?_ | refine Wg ?_ | refine Wh ?_ | refine Wi ?_ | refine Wj ?_ | refine Wk (by decide) ?_ | refine Wl ?_ | refine Wm ?_ | refine Wn ?_) | ((with_reducible first | refine Wo (fun K hK => ?_) | refine Wq ?_ | refine Wr ?_); (try simp only [go_sem, List.forall_mem_nil, ↓guard_ite, ↓pick_ite, seval, encT_eq, inR_i64, e0, e1, hi2, hi2']); (repeat with_reducible refine And.intro (by first | omega | (with_reducible first | exact lens_encT | exact lens_encL | exact lens_encB | exact lens_encP) | (simp; done) | (simp only [List.length_take, List.length_map, List.length_append, maxLen_eq]; omega)) ?_); (try (with_reducible refine hK _ ?_; clear hK K))))
  all_goals
    refine IWP.loopD [6] (fun m s => ∃ k, k ≤ t.args.length ∧ m = t.args.length - k ∧ s.env 1 = .one (.row i (addVars (addVar l t.name) (Tm.knotsL (t.args.take k))).length) ∧ s.env 23 = .one (.st (.list (t.args.map encT))) ∧ s.env 24 = aInt t.args.length ∧ s.env 25 = aInt k ∧ s.S = updE (updE S 2 (some (.box 24 [.st (.str t.name), .st (.list (t.args.map encT))]))) i (some (.arow 9 1 ((addVars (addVar l t.name) (Tm.knotsL (t.args.take k))).map encS)))) t.args.length ⟨0, Nat.zero_le _, rfl, ?_, rfl, rfl, rfl, ?_⟩ ?_
    · show _ = AV.one (.row i (addVar l t.name).length)
      rw [hl1]
      simp only [go_sem, List.forall_mem_nil, ↓guard_ite, ↓pick_ite, seval, encT_eq, inR_i64, e1]
    · show _ = updE (updE S 2 _) i (some (.arow 9 1 ((addVar l t.name).map encS)))
      rw [hl1]
      first
        | (simp only [updE_twice]; exact updE_comm _ hi2' _ _)
        | (simp only [updE_comm _ hi2', updE_twice, List.map_append]; rfl)
    rintro m ⟨env', S'⟩ ⟨k, hk', rfl, e1', e23, e24, e25, hS'⟩
    simp only at e1' e23 e24 e25 hS'
    have s6 : S' 6 = none := by rw [hS', updE_ne _ hi6, updE_ne _ (by omega), hc6]
    have si : S' i = some (.arow 9 1 ((addVars (addVar l t.name) (Tm.knotsL (t.args.take k))).map encS)) := by rw [hS', updE_same]
    have hlk' := hlk k
    have z3 := Tm.length_le t.args
    by_cases hlt : (k : Int) < t.args.length
    · obtain ⟨a, ha⟩ := get_lt (show k < t.args.length by omega)
      have z1 := Tm.sizes_take ha
      have z2 := Tm.sizes_take_le t.args (k + 1)
      repeat' (first | (with_reducible first | refine Wa ?_ | refine Wb ?_ | refine Wc ?_ | refine Wd ?_ | refine We ?_ | refine Wf ?_ | refine Wg ?_ | refine Wh ?_ | refine Wi ?_ | refine Wj ?_ | refine Wk (by decide) ?_ | refine Wl ?_ | refine Wm ?_ | refine Wn ?_) | ((with_reducible first | refine Wo (fun K hK => ?_) | refine Wq ?_ | refine Wr ?_); (try simp only [go_sem, List.forall_mem_nil, ↓guard_ite, ↓pick_ite, seval, encT_eq, inR_i64, e1', e23, e24, e25, s6, si, hlt]); (repeat with_reducible refine And.intro (by first | omega | (with_reducible first | exact lens_encT | exact lens_encL | exact lens_encB | exact lens_encP) | (simp; done) | (simp only [List.length_take, List.length_map, List.length_append, maxLen_eq]; omega)) ?_); (try (with_reducible refine hK _ ?_; clear hK K))))
      with_reducible refine Wp ?_
      simp only [go_sem, List.forall_mem_nil, ↓guard_ite, ↓pick_ite, seval, true_implies, false_implies, implies_true, decide_eq_true_eq, decide_eq_false_iff_not, Int.ofNat_lt, e1', e23, e24, e25, s6, si, hlt]
      (try with_reducible refine ite_conj ?_)
      repeat' (first | (with_reducible first | refine Wa ?_ | refine Wb ?_ | refine Wc ?_ | refine Wd ?_ | refine We ?_ | refine Wf ?_ | refine Wg ?_ | refine Wh ?_ | refine Wi ?_ | refine Wj ?_ | refine Wk (by decide) ?_ | refine Wl ?_ | refine Wm ?_ | refine Wn ?_) | ((with_reducible first | refine Wo (fun K hK => ?_) | refine Wq ?_ | refine Wr ?_); (try simp only [go_sem, List.forall_mem_nil, ↓guard_ite, ↓pick_ite, seval, encT_eq, inR_i64, e1', e23, e24, e25, s6, si, ha]); (repeat with_reducible refine And.intro (by first | omega | (with_reducible first | exact lens_encT | exact lens_encL | exact lens_encB | exact lens_encP) | (simp; done) | (simp only [List.length_take, List.length_map, List.length_append, maxLen_eq]; omega)) ?_); (try (with_reducible refine hK _ ?_; clear hK K))))
      have hni : ([6] : List Nat).contains i = false := by simp; omega
      refine ⟨_, _, ih a (mem_of_get ha) (up1 i) _ _ (up1_le i) (by omega) (by rw [upS_up, updE_ne _ hi6', updE_ne _ hi6', si]; rfl), ?_⟩
      repeat' (first | (with_reducible first | refine Wa ?_ | refine Wb ?_ | refine Wc ?_ | refine Wd ?_ | refine We ?_ | refine Wf ?_ | refine Wg ?_ | refine Wh ?_ | refine Wi ?_ | refine Wj ?_ | refine Wk (by decide) ?_ | refine Wl ?_ | refine Wm ?_ | refine Wn ?_) | ((with_reducible first | refine Wo (fun K hK => ?_) | refine Wq ?_ | refine Wr ?_); (try simp only [go_sem, List.forall_mem_nil, ↓guard_ite, ↓pick_ite, seval, encT_eq, inR_i64, e23, e24, e25]); (repeat with_reducible refine And.intro (by first | omega | (with_reducible first | exact lens_encT | exact lens_encL | exact lens_encB | exact lens_encP) | (simp; done) | (simp only [List.length_take, List.length_map, List.length_append, maxLen_eq]; omega)) ?_); (try (with_reducible refine hK _ ?_; clear hK K))))
      refine then_normal ⟨t.args.length - (k + 1), by omega, k + 1, by omega, rfl, ?_⟩
      have hib : (i == 6) = false := by simp; omega
      simp only [go_sem, List.forall_mem_nil, ↓guard_ite, ↓pick_ite, seval, AS.drop, AC.clears, AC.clear, AC.highs, AC.high, Bool.not_false, Bool.true_and, Bool.and_self, AV.purge, AV.purges, AC.purge, ABlk.purge, List.contains_cons, List.contains_nil, Nat.reduceBEq, Bool.or_self, Bool.or_false, Bool.false_or, Bool.or_true, encT_eq, inR_i64, e23, e24, hib]
      rw [Tm.knotsL_take ha, addVars_append]
      refine ⟨rfl, by congr 3, ?_⟩
      rw [dropS_out hni, dropS_in rfl, dropS_in rfl, hS', dropS_out hni, dropS_out rfl, dropS_clean (by decide) hS, updE_twice]
      rfl
    · repeat' (first | (with_reducible first | refine Wa ?_ | refine Wb ?_ | refine Wc ?_ | refine Wd ?_ | refine We ?_ | refine Wf ?_ | refine Wg ?_ | refine Wh ?_ | refine Wi ?_ | refine Wj ?_ | refine Wk (by decide) ?_ | refine Wl ?_ | refine Wm ?_ | refine Wn ?_) | ((with_reducible first | refine Wo (fun K hK => ?_) | refine Wq ?_ | refine Wr ?_); (try simp only [go_sem, List.forall_mem_nil, ↓guard_ite, ↓pick_ite, seval, encT_eq, inR_i64, e1', e23, e24, e25, hlt]); (repeat with_reducible refine And.intro (by first | omega | (with_reducible first | exact lens_encT | exact lens_encL | exact lens_encB | exact lens_encP) | (simp; done) | (simp only [List.length_take, List.length_map, List.length_append, maxLen_eq]; omega)) ?_); (try (with_reducible refine hK _ ?_; clear hK K))))
      with_reducible refine Wp ?_
      simp only [go_sem, List.forall_mem_nil, ↓guard_ite, ↓pick_ite, seval, true_implies, false_implies, implies_true, decide_eq_true_eq, decide_eq_false_iff_not, Int.ofNat_lt, e1', e23, e24, e25, hlt]
      (try with_reducible refine ite_conj ?_)
      repeat' (first | (with_reducible first | refine Wa ?_ | refine Wb ?_ | refine Wc ?_ | refine Wd ?_ | refine We ?_ | refine Wf ?_ | refine Wg ?_ | refine Wh ?_ | refine Wi ?_ | refine Wj ?_ | refine Wk (by decide) ?_ | refine Wl ?_ | refine Wm ?_ | refine Wn ?_) | ((with_reducible first | refine Wo (fun K hK => ?_) | refine Wq ?_ | refine Wr ?_); (try simp only [go_sem, List.forall_mem_nil, ↓guard_ite, ↓pick_ite, seval, encT_eq, inR_i64, e1']); (repeat with_reducible refine And.intro (by first | omega | (with_reducible first | exact lens_encT | exact lens_encL | exact lens_encB | exact lens_encP) | (simp; done) | (simp only [List.length_take, List.length_map, List.length_append, maxLen_eq]; omega)) ?_); (try (with_reducible refine hK _ ?_; clear hK K))))
      rw [hS']
      have hfin : addVars (addVar l t.name) (Tm.knotsL (t.args.take k)) = addVars l t.knots := by rw [List.take_of_length_le (by omega), hk]; rfl
      rw [hfin]
      refine hQ _ ?_
      simp only [go_sem, List.forall_mem_nil, ↓guard_ite, ↓pick_ite, seval, encT_eq, inR_i64]
theorem updE_self {α : Type} {f : Nat → α} {i : Nat} {a : α} (h : f i = a) : updE f i a = f := by
  funext k
  unfold updE
  split
  · rename_i e
    rw [e, h]
  · rfl
theorem vars_row (t : Tm) (hz : t.size ≤ 1000000) : ∀ (i : Nat) (l : List ByteArray) (S : AStore), 1000 ≤ i → l.length + t.size ≤ 3000000 → S i = some (.arow 9 1 (l.map encS)) →
      ACallsS Try.prog 60 [aTm t, .one (.row i l.length)] S (.one (.row i (addVars l t.knots).length)) (updE S i (some (.arow 9 1 ((addVars l t.knots).map encS)))) := by
  induction h : SizeOf.sizeOf t using Nat.strongRecOn generalizing t with
  | _ N ih =>
  subst h
  have hs := Tm.size_eq t
  intro i l S hi hl hSi
  refine acS_term_vars (Nat.le_of_ble_eq_true rfl) fun hS C hC => ?_
  have hcore := vars_core t hz (fun a ha => ih _ (Tm.lt_of_arg ha) a (by have := Tm.size_mem ha; omega) rfl) C hC i (by omega) l hl S hS (fun j => ([aTm t, .one (.row i l.length)][j]?).getD (.tup [])) rfl rfl
    (FinS C [.t 4] (.one (.row i (addVars l t.knots).length)) (updE S i (some (.arow 9 1 ((addVars l t.knots).map encS))))) ?_
  · rw [updE_self hSi] at hcore
    exact hcore
  · intro env' e4
    have hc' : Clean (updE S i (some (.arow 9 1 ((addVars l t.knots).map encS)))) := clean_upd hS hi rfl
    refine finS_at trivial ⟨_, Ghost.low (high_upd (high_updL (by omega) fun k c _ hk => (hS k c hk).2) rfl), ?_, ?_, hc'⟩
    · simp only [resAll, resOne, tupV, e4, AV.low, AV.high, AC.high, hi, decide_true, if_true, Option.map_some]
    · show lowS _ = _
      rw [lowS_high _ hi, lowS_low _ (by omega), lowS_clean hS]
theorem vars_nil (t : Tm) (hz : t.size ≤ 1000000) (a0 : Nat) (S : AStore) (ha : 1000 ≤ a0) (hSa : S a0 = none) :
      ACallsS Try.prog 60 [aTm t, .one (.full [])] S (.one (.row a0 (addVars [] t.knots).length)) (updE S a0 (some (.arow 9 1 ((addVars [] t.knots).map encS)))) := by
  have hs := Tm.size_eq t
  refine acS_term_vars (Nat.le_of_ble_eq_true rfl) fun hS C hC => ?_
  refine IWP.ghost (Ghost.own 1 21 9 1 (xs := ([] : List ByteArray).map encS) rfl (clean_none hS (by omega)) lens_encS (by omega)) ?_
  refine vars_core t hz (fun a ha => vars_row a (by have := Tm.size_mem ha; omega)) C hC 21 (by omega) [] (by simp; omega) S hS _ rfl rfl _ ?_
  intro env' e4
  have hb : ∀ i b, 1000 ≤ i → updE (updE S 2 (some (.box 24 [.st (.str t.name), .st (.list (t.args.map encT))]))) 21 (some (.arow 9 1 ((addVars [] t.knots).map encS))) i = some b → b.high = true := high_updL (by omega) (high_updL (by omega) fun k c _ hk => (hS k c hk).2)
  refine finS_at trivial ⟨_, Ghost.hand 21 a0 (b0 := .arow 9 1 ((addVars [] t.knots).map encS)) (by omega) ha (by show updE _ _ _ _ = _; rw [updE_ne _ (by omega), updE_ne _ (by omega), hSa]) (by simp only [updE_same]) rfl hb, ?_, ?_, clean_upd hS ha rfl⟩
  · simp only [resAll, resOne, tupV, e4, AV.hand, AV.ren, AC.ren, oneTo, if_true, AV.high, AC.high, ha, decide_true, Option.map_some]
  · show updE (lowS _) _ _ = _
    rw [lowS_low _ (by omega), lowS_low _ (by omega), lowS_clean hS]
theorem vars_a (t : Tm) (hz : t.size ≤ 1000000) : ACalls Try.prog 42 [aTm t] (aStrs t.varsOf) := by
  refine ac_term_Vars (Nat.le_of_ble_eq_true rfl) fun C hC => ?_
  unfold ir_term_Vars
  repeat' (first | (with_reducible first | refine Wa ?_ | refine Wb ?_ | refine Wc ?_ | refine Wd ?_ | refine We ?_ | refine Wf ?_ | refine Wg ?_ | refine Wh ?_ | refine Wi ?_ | refine Wj ?_ | refine Wk (by decide) ?_ | refine Wl ?_ | refine Wm ?_ | refine Wn ?_) | ((with_reducible first | refine Wo (fun K hK => ?_) | refine Wq ?_ | refine Wr ?_); (try simp only [go_sem, List.forall_mem_nil, ↓guard_ite, ↓pick_ite, seval, encT_eq, inR_i64]); (repeat with_reducible refine And.intro (by first | omega | (with_reducible first | exact lens_encT | exact lens_encL | exact lens_encB | exact lens_encP) | (simp; done) | (simp only [List.length_take, List.length_map, List.length_append, maxLen_eq]; omega)) ?_); (try (with_reducible refine hK _ ?_; clear hK K))))
  refine ⟨_, _, vars_nil t hz (up1 10) _ (up1_le 10) (by rw [upS_up]; rfl), ?_⟩
  repeat' (first | (with_reducible first | refine Wa ?_ | refine Wb ?_ | refine Wc ?_ | refine Wd ?_ | refine We ?_ | refine Wf ?_ | refine Wg ?_ | refine Wh ?_ | refine Wi ?_ | refine Wj ?_ | refine Wk (by decide) ?_ | refine Wl ?_ | refine Wm ?_ | refine Wn ?_) | ((with_reducible first | refine Wo (fun K hK => ?_) | refine Wq ?_ | refine Wr ?_); (try simp only [go_sem, List.forall_mem_nil, ↓guard_ite, ↓pick_ite, seval, encT_eq, inR_i64]); (repeat with_reducible refine And.intro (by first | omega | (with_reducible first | exact lens_encT | exact lens_encL | exact lens_encB | exact lens_encP) | (simp; done) | (simp only [List.length_take, List.length_map, List.length_append, maxLen_eq]; omega)) ?_); (try (with_reducible refine hK _ ?_; clear hK K))))
  simp only [go_sem, List.forall_mem_nil, ↓guard_ite, ↓pick_ite, seval, FinQ, AS.result, resAll, resOne, tupV]
  rfl
end Go.Proofs.Ytohgkbgpcnmdpaa

namespace Go.Proofs.Ytohgkbgpcnmdpaa
open Go Go.RowKit
set_option maxRecDepth 100000
def ir_R_For : IR :=
  (.seq
  (.ops
  [.mk (some 4) none
  (.alloc 24 [.st (.str (ByteArray.mk (#[]))), .full []]) .no, .mk (some 5) none (.mov (.c (.one (.st (.bool false)))))
  .no])
  (.seq
  (.seq
  (.ops
  [.mk (some 6) none (.mov (.c (.one (.st (.int .i64 0)))))
  .no])
  (.block 0
  (.loop
  (.seq
  (.seq
  (.ops
  [.mk (some 7) none (.mov (.t 6)) .no, .mk (some 8) none (.mov (.t 0)) .no, .mk (some 9) none (.len false (.t 8)) .no, .mk (some 10) none (.bin .lss (.t 7) (.t 9))
  .no])
  (.cond (.t 10) .skip (.exit 0)))
  (.seq
  (.block 1
  (.seq
  (.ops
  [.mk (some 13) none (.mov (.t 0)) .no, .mk (some 14) none (.mov (.t 6)) .no, .mk (some 15) none (.indexAddr 3 (.t 13) (.t 14))
  .no, .mk (some 16) none (.fieldAddr 0 (.t 15)) .no, .mk (some 17) none (.load false 1 (.t 16)) .no, .mk (some 18) none (.mov (.t 1)) .no, .mk (some 19) none (.bin .eql (.t 17) (.t 18))
  .no])
  (.cond (.t 19)
  (.seq
  (.ops
  [.mk (some 20) none (.mov (.t 0)) .no, .mk (some 21) none (.mov (.t 6)) .no, .mk (some 22) none (.indexAddr 3 (.t 20) (.t 21))
  .no, .mk (some 23) none (.fieldAddr 1 (.t 22)) .no, .mk (some 24) none (.load true 2 (.t 23)) .no, .mk none none (.store 2 (.t 4) (.t 24))
  .no, .mk (some 5) none (.mov (.c (.one (.st (.bool true)))))
  .no])
  .ret)
  .skip)))
  (.ops
  [.mk (some 11) none (.mov (.t 6)) .no, .mk (some 12) none (.bin .add (.t 11) (.c (.one (.st (.int .i64 1)))))
  .no, .mk (some 6) none (.mov (.t 12)) .no]))))))
  (.seq
  (.ops
  [.mk (some 25) none
  (.build [.st (.str (ByteArray.mk (#[]))), .full []] []) .no, .mk none none (.store 2 (.t 4) (.t 25)) .no, .mk (some 5) none (.mov (.c (.one (.st (.bool false)))))
  .no])
  .ret)))
theorem tr_R_For : trCode Try.prog 26 [] (Try.f59.body.getD .skip) = some ir_R_For := by kernel_rfl
theorem ac_R_For {xs : List AV} {r : AV} (hn : xs.length ≤ 26) (h : ∀ C : Ctx, C.n = 26 → IWP Try.prog C [] ir_R_For (FinQ [.cell 4 true 2, .t 5] r) (AS.start xs)) : ACalls Try.prog 59 xs r :=
  acalls_of Try.func59 rfl tr_R_For rfl hn h
def ir_R_grown : IR :=
  (.seq
  (.ops
  [.mk (some 4) none (.box 24 (.t 1)) .no, .mk (some 6) none (.mov (.c (.one (.st (.int .i64 0)))))
  .no])
  (.seq
  (.ops
  [.mk (some 12) none (.mov (.t 0)) .no, .mk (some 13) none (.fieldAddr 0 (.t 4)) .no, .mk (some 14) none (.load false 1 (.t 13)) .no, .mk (some 15) none (.call 59 [.t 12, .t 14]) .no, .mk (some 11) none (.mov (.t 15)) .no, .mk (some 16) none (.extract 0 (.t 11)) .no, .mk (some 17) none (.extract 1 (.t 11)) .no, .mk (some 7) none
  (.alloc 24 [.st (.str (ByteArray.mk (#[]))), .full []]) .no, .mk none none (.store 2 (.t 7) (.t 16)) .no, .mk (some 8) none (.mov (.t 17)) .no])
  (.seq
  (.seq
  (.ops
  [.mk (some 18) none (.mov (.t 8)) .no, .mk (some 19) none (.mov (.t 18)) .no, .mk (some 20) (some (19, true)) (.fieldAddr 1 (.t 4)) .no, .mk (some 21) (some (19, true)) (.load false 1 (.t 20)) .no, .mk (some 22) (some (19, true)) (.len false (.t 21)) .no, .mk (some 23) (some (19, true)) (.bin .eql (.t 22) (.c (.one (.st (.int .i64 0)))))
  .no, .mk (some 24) none
  (.pick (.t 19) (.t 23) (.c (.one (.st (.bool false)))))
  .no])
  (.cond (.t 24)
  (.seq
  (.ops
  [.mk (some 25) none (.load true 2 (.t 7)) .no, .mk (some 26) none (.mov (.t 2)) .no, .mk (some 27) none (.call 23 [.t 25, .t 26]) .no, .mk (some 6) none (.mov (.t 27)) .no])
  .ret)
  .skip))
  (.seq
  (.ops
  [.mk (some 9) none (.mov (.c (.one (.st (.int .i64 1)))))
  .no])
  (.seq
  (.seq
  (.ops
  [.mk (some 10) none (.mov (.c (.one (.st (.int .i64 0)))))
  .no])
  (.block 0
  (.loop
  (.seq
  (.seq
  (.ops
  [.mk (some 28) none (.mov (.t 10)) .no, .mk (some 29) none (.fieldAddr 1 (.t 4)) .no, .mk (some 30) none (.load false 1 (.t 29)) .no, .mk (some 31) none (.len false (.t 30)) .no, .mk (some 32) none (.bin .lss (.t 28) (.t 31))
  .no, .mk (some 33) none (.mov (.t 32)) .no, .mk (some 34) (some (33, true)) (.mov (.t 9)) .no, .mk (some 35) (some (33, true)) (.mov (.t 2)) .no, .mk (some 36) (some (33, true)) (.bin .leq (.t 34) (.t 35)) .no, .mk (some 37) none
  (.pick (.t 33) (.t 36) (.c (.one (.st (.bool false)))))
  .no])
  (.cond (.t 37) .skip (.exit 0)))
  (.seq
  (.block 1
  (.ops
  [.mk (some 40) none (.mov (.t 9)) .no, .mk (some 41) none (.mov (.t 0)) .no, .mk (some 42) none (.fieldAddr 1 (.t 4)) .no, .mk (some 43) none (.load false 1 (.t 42)) .no, .mk (some 44) none (.mov (.t 10)) .no, .mk (some 45) none (.indexAddr 2 (.t 43) (.t 44))
  .no, .mk (some 46) none (.load true 2 (.t 45)) .no, .mk (some 47) none (.mov (.t 2)) .no, .mk (some 48) none (.mov (.t 9)) .no, .mk (some 49) none (.bin .sub (.t 47) (.t 48))
  .no, .mk (some 50) none (.call 39 [.t 41, .t 46, .t 49]) .no, .mk (some 51) none (.bin .add (.t 40) (.t 50))
  .no, .mk (some 9) none (.mov (.t 51)) .no]))
  (.ops
  [.mk (some 38) none (.mov (.t 10)) .no, .mk (some 39) none (.bin .add (.t 38) (.c (.one (.st (.int .i64 1)))))
  .no, .mk (some 10) none (.mov (.t 39)) .no]))))))
  (.seq
  (.seq
  (.ops
  [.mk (some 52) none (.mov (.t 9)) .no, .mk (some 53) none (.mov (.t 2)) .no, .mk (some 54) none (.bin .gtr (.t 52) (.t 53))
  .no])
  (.cond (.t 54)
  (.seq
  (.ops
  [.mk (some 55) none (.mov (.t 2)) .no, .mk (some 56) none (.bin .add (.t 55) (.c (.one (.st (.int .i64 1)))))
  .no, .mk (some 6) none (.mov (.t 56)) .no])
  .ret)
  .skip))
  (.seq
  (.ops
  [.mk (some 57) none (.mov (.t 9)) .no, .mk (some 6) none (.mov (.t 57)) .no])
  .ret)))))))
theorem tr_R_grown : trCode Try.prog 58 [] (Try.f39.body.getD .skip) = some ir_R_grown := by kernel_rfl
theorem ac_R_grown {xs : List AV} {r : AV} (hn : xs.length ≤ 58) (h : ∀ C : Ctx, C.n = 58 → IWP Try.prog C [] ir_R_grown (FinQ [.t 6] r) (AS.start xs)) : ACalls Try.prog 39 xs r :=
  acalls_of Try.func39 rfl tr_R_grown rfl hn h
def ir_R_on : IR :=
  (.seq
  (.ops
  [.mk (some 3) none (.box 24 (.t 1)) .no, .mk (some 4) none
  (.alloc 24 [.st (.str (ByteArray.mk (#[]))), .full []]) .no])
  (.seq
  (.ops
  [.mk (some 10) none (.mov (.t 0)) .no, .mk (some 11) none (.fieldAddr 0 (.t 3)) .no, .mk (some 12) none (.load false 1 (.t 11)) .no, .mk (some 13) none (.call 59 [.t 10, .t 12]) .no, .mk (some 9) none (.mov (.t 13)) .no, .mk (some 14) none (.extract 0 (.t 9)) .no, .mk (some 15) none (.extract 1 (.t 9)) .no, .mk (some 5) none
  (.alloc 24 [.st (.str (ByteArray.mk (#[]))), .full []]) .no, .mk none none (.store 2 (.t 5) (.t 14)) .no, .mk (some 6) none (.mov (.t 15)) .no])
  (.seq
  (.seq
  (.ops
  [.mk (some 16) none (.mov (.t 6)) .no, .mk (some 17) none (.mov (.t 16)) .no, .mk (some 18) (some (17, true)) (.fieldAddr 1 (.t 3)) .no, .mk (some 19) (some (17, true)) (.load false 1 (.t 18)) .no, .mk (some 20) (some (17, true)) (.len false (.t 19)) .no, .mk (some 21) (some (17, true)) (.bin .eql (.t 20) (.c (.one (.st (.int .i64 0)))))
  .no, .mk (some 22) none
  (.pick (.t 17) (.t 21) (.c (.one (.st (.bool false)))))
  .no])
  (.cond (.t 22)
  (.seq
  (.ops
  [.mk (some 23) none (.load true 2 (.t 5)) .no, .mk none none (.store 2 (.t 4) (.t 23)) .no])
  .ret)
  .skip))
  (.seq
  (.ops
  [.mk (some 24) none (.fieldAddr 0 (.t 3)) .no, .mk (some 25) none (.load false 1 (.t 24)) .no, .mk (some 26) none
  (.build [.st (.str (ByteArray.mk (#[]))), .full []]
  [(0, 1, .t 25)])
  .no, .mk (some 7) none
  (.alloc 24 [.st (.str (ByteArray.mk (#[]))), .full []]) .no, .mk none none (.store 2 (.t 7) (.t 26)) .no])
  (.seq
  (.seq
  (.ops
  [.mk (some 8) none (.mov (.c (.one (.st (.int .i64 0)))))
  .no])
  (.block 0
  (.loop
  (.seq
  (.seq
  (.ops
  [.mk (some 27) none (.mov (.t 8)) .no, .mk (some 28) none (.fieldAddr 1 (.t 3)) .no, .mk (some 29) none (.load false 1 (.t 28)) .no, .mk (some 30) none (.len false (.t 29)) .no, .mk (some 31) none (.bin .lss (.t 27) (.t 30))
  .no])
  (.cond (.t 31) .skip (.exit 0)))
  (.seq
  (.block 1
  (.ops
  [.mk (some 34) none (.fieldAddr 1 (.t 7)) .no, .mk (some 35) none (.load false 1 (.t 34)) .no, .mk (some 36) none (.mov (.t 0)) .no, .mk (some 37) none (.fieldAddr 1 (.t 3)) .no, .mk (some 38) none (.load false 1 (.t 37)) .no, .mk (some 39) none (.mov (.t 8)) .no, .mk (some 40) none (.indexAddr 2 (.t 38) (.t 39))
  .no, .mk (some 41) none (.load true 2 (.t 40)) .no, .mk (some 42) none (.call 40 [.t 36, .t 41])
  .no, .mk (some 43) none (.buildSlice false 24 2 [.t 42]) .no, .mk (some 44) none (.append false 24 2 40 (.t 35) (.t 43))
  .no, .mk (some 45) none (.fieldAddr 1 (.t 7)) .no, .mk none none (.store 1 (.t 45) (.t 44))
  .no]))
  (.ops
  [.mk (some 32) none (.mov (.t 8)) .no, .mk (some 33) none (.bin .add (.t 32) (.c (.one (.st (.int .i64 1)))))
  .no, .mk (some 8) none (.mov (.t 33)) .no]))))))
  (.seq
  (.ops
  [.mk (some 46) none (.load true 2 (.t 7)) .no, .mk none none (.store 2 (.t 4) (.t 46)) .no])
  .ret))))))
theorem tr_R_on : trCode Try.prog 47 [] (Try.f40.body.getD .skip) = some ir_R_on := by kernel_rfl
theorem ac_R_on {xs : List AV} {r : AV} (hn : xs.length ≤ 47) (h : ∀ C : Ctx, C.n = 47 → IWP Try.prog C [] ir_R_on (FinQ [.cell 4 true 2] r) (AS.start xs)) : ACalls Try.prog 40 xs r :=
  acalls_of Try.func40 rfl tr_R_on rfl hn h
def ir_R_On : IR :=
  (.seq
  (.ops
  [.mk (some 3) none (.box 24 (.t 1)) .no, .mk (some 4) none
  (.alloc 24 [.st (.str (ByteArray.mk (#[]))), .full []]) .no, .mk (some 5) none (.mov (.c (.one (.st (.bool false)))))
  .no])
  (.seq
  (.seq
  (.ops
  [.mk (some 6) none (.mov (.t 0)) .no, .mk (some 7) none (.load true 2 (.t 3)) .no, .mk (some 8) none (.call 39
  [.t 6, .t 7, .c (.one (.st (.int .i64 2000)))])
  .no, .mk (some 9) none (.bin .gtr (.t 8) (.c (.one (.st (.int .i64 2000)))))
  .no])
  (.cond (.t 9)
  (.seq
  (.ops
  [.mk (some 10) none
  (.build [.st (.str (ByteArray.mk (#[]))), .full []] [])
  .no, .mk none none (.store 2 (.t 4) (.t 10)) .no, .mk (some 5) none (.mov (.c (.one (.st (.bool false)))))
  .no])
  .ret)
  .skip))
  (.seq
  (.ops
  [.mk (some 11) none (.mov (.t 0)) .no, .mk (some 12) none (.load true 2 (.t 3)) .no, .mk (some 13) none (.call 40 [.t 11, .t 12]) .no, .mk none none (.store 2 (.t 4) (.t 13)) .no, .mk (some 5) none (.mov (.c (.one (.st (.bool true)))))
  .no])
  .ret)))
theorem tr_R_On : trCode Try.prog 14 [] (Try.f20.body.getD .skip) = some ir_R_On := by kernel_rfl
theorem ac_R_On {xs : List AV} {r : AV} (hn : xs.length ≤ 14) (h : ∀ C : Ctx, C.n = 14 → IWP Try.prog C [] ir_R_On (FinQ [.cell 4 true 2, .t 5] r) (AS.start xs)) : ACalls Try.prog 20 xs r :=
  acalls_of Try.func20 rfl tr_R_On rfl hn h
def ir_subst_Check : IR :=
  (.seq
  (.ops
  [.mk (some 2) none (.mov (.c (.one (.st (.int .i64 0)))))
  .no])
  (.seq
  (.seq
  (.ops
  [.mk (some 6) none (.mov (.t 0)) .no, .mk (some 7) none (.len false (.t 6)) .no, .mk (some 8) none (.bin .gtr (.t 7) (.c (.one (.st (.int .i64 40)))))
  .no])
  (.cond (.t 8)
  (.seq
  (.ops
  [.mk (some 2) none (.mov (.c (.one (.st (.int .i64 3)))))
  .no])
  .ret)
  .skip))
  (.seq
  (.seq
  (.ops
  [.mk (some 9) none (.mov (.t 0)) .no, .mk (some 10) none (.len false (.t 9)) .no, .mk (some 11) none (.mov (.c (.one (.st (.int .i64 0)))))
  .no])
  (.block 0
  (.loop
  (.seq
  (.ops
  [.mk (some 12) none (.bin .lss (.t 11) (.t 10))
  .no])
  (.seq (.cond (.t 12) .skip (.exit 0))
  (.seq
  (.block 1
  (.seq
  (.ops
  [.mk (some 13) none (.mov (.t 11)) .no, .mk (some 14) none (.indexAddr 3 (.t 9) (.t 11))
  .no, .mk (some 15) none (.load true 3 (.t 14)) .no, .mk (some 4) none
  (.alloc 56
  [.st (.str (ByteArray.mk (#[]))), .st (.str (ByteArray.mk (#[]))),
  .full []])
  .no, .mk (some 3) none (.mov (.t 13)) .no, .mk none none (.store 3 (.t 4) (.t 15))
  .no])
  (.seq
  (.seq
  (.ops
  [.mk (some 16) none (.fieldAddr 0 (.t 4)) .no, .mk (some 17) none (.load false 1 (.t 16)) .no, .mk (some 18) none (.call 48 [.t 17]) .no, .mk (some 19) none (.un .not (.t 18)) .no, .mk (some 20) none (.mov (.t 19)) .no, .mk (some 21) (some (20, false)) (.fieldAddr 0 (.t 4)) .no, .mk (some 22) (some (20, false)) (.load false 1 (.t 21))
  .no, .mk (some 23) (some (20, false)) (.call 44 [.t 22]) .no, .mk (some 24) (some (20, false)) (.un .not (.t 23))
  .no, .mk (some 25) none
  (.pick (.t 20) (.c (.one (.st (.bool true)))) (.t 24))
  .no])
  (.cond (.t 25)
  (.seq
  (.ops
  [.mk (some 2) none (.mov (.c (.one (.st (.int .i64 1)))))
  .no])
  .ret)
  .skip))
  (.seq
  (.seq
  (.ops
  [.mk (some 26) none (.mov (.t 3)) .no, .mk (some 27) none (.bin .gtr (.t 26) (.c (.one (.st (.int .i64 0)))))
  .no, .mk (some 28) none (.mov (.t 27)) .no, .mk (some 29) (some (28, true)) (.fieldAddr 0 (.t 4)) .no, .mk (some 30) (some (28, true)) (.load false 1 (.t 29))
  .no, .mk (some 31) (some (28, true)) (.mov (.t 0)) .no, .mk (some 32) (some (28, true)) (.mov (.t 3)) .no, .mk (some 33) (some (28, true)) (.bin .sub (.t 32) (.c (.one (.st (.int .i64 1)))))
  .no, .mk (some 34) (some (28, true))
  (.indexAddr 3 (.t 31) (.t 33)) .no, .mk (some 35) (some (28, true)) (.fieldAddr 0 (.t 34))
  .no, .mk (some 36) (some (28, true)) (.load false 1 (.t 35))
  .no, .mk (some 37) (some (28, true)) (.bin .leq (.t 30) (.t 36)) .no, .mk (some 38) none
  (.pick (.t 28) (.t 37) (.c (.one (.st (.bool false)))))
  .no])
  (.cond (.t 38)
  (.seq
  (.ops
  [.mk (some 2) none (.mov (.c (.one (.st (.int .i64 14)))))
  .no])
  .ret)
  .skip))
  (.seq
  (.ops
  [.mk (some 39) none (.fieldAddr 1 (.t 4)) .no, .mk (some 40) none (.load true 2 (.t 39)) .no, .mk (some 41) none (.call 30 [.t 40]) .no, .mk (some 5) none (.mov (.t 41)) .no])
  (.seq
  (.ops
  [.mk (some 42) none (.mov (.t 5)) .no, .mk (some 43) none (.bin .neq (.t 42) (.c (.one (.st (.int .i64 0)))))
  .no])
  (.cond (.t 43)
  (.seq
  (.ops
  [.mk (some 44) none (.mov (.t 5)) .no, .mk (some 2) none (.mov (.t 44)) .no])
  .ret)
  .skip)))))))
  (.ops
  [.mk (some 45) none (.bin .add (.t 11) (.c (.one (.st (.int .i64 1)))))
  .no, .mk (some 11) none (.mov (.t 45)) .no])))))))
  (.seq
  (.ops
  [.mk (some 2) none (.mov (.c (.one (.st (.int .i64 0)))))
  .no])
  .ret))))
theorem tr_subst_Check : trCode Try.prog 46 [] (Try.f41.body.getD .skip) = some ir_subst_Check := by kernel_rfl
theorem ac_subst_Check {xs : List AV} {r : AV} (hn : xs.length ≤ 46) (h : ∀ C : Ctx, C.n = 46 → IWP Try.prog C [] ir_subst_Check (FinQ [.t 2] r) (AS.start xs)) : ACalls Try.prog 41 xs r :=
  acalls_of Try.func41 rfl tr_subst_Check rfl hn h
def ir_cmp_isNaN_string : IR :=
  (.seq
  (.ops
  [.mk (some 2) none (.mov (.c (.one (.st (.bool false)))))
  .no])
  (.seq
  (.ops
  [.mk (some 3) none (.mov (.t 0)) .no, .mk (some 4) none (.mov (.t 0)) .no, .mk (some 5) none (.bin .neq (.t 3) (.t 4)) .no, .mk (some 2) none (.mov (.t 5)) .no])
  .ret))
theorem tr_cmp_isNaN_string : trCode Try.prog 6 [] (Try.f71.body.getD .skip) = some ir_cmp_isNaN_string := by kernel_rfl
theorem ac_cmp_isNaN_string {xs : List AV} {r : AV} (hn : xs.length ≤ 6) (h : ∀ C : Ctx, C.n = 6 → IWP Try.prog C [] ir_cmp_isNaN_string (FinQ [.t 2] r) (AS.start xs)) : ACalls Try.prog 71 xs r :=
  acalls_of Try.func71 rfl tr_cmp_isNaN_string rfl hn h
def ir_cmp_Compare_string : IR :=
  (.seq
  (.ops
  [.mk (some 4) none (.mov (.c (.one (.st (.int .i64 0)))))
  .no])
  (.seq
  (.ops
  [.mk (some 7) none (.mov (.t 0)) .no, .mk (some 8) none (.call 71 [.t 7]) .no, .mk (some 5) none (.mov (.t 8)) .no])
  (.seq
  (.ops
  [.mk (some 9) none (.mov (.t 1)) .no, .mk (some 10) none (.call 71 [.t 9]) .no, .mk (some 6) none (.mov (.t 10)) .no])
  (.seq
  (.seq
  (.ops [.mk (some 11) none (.mov (.t 5)) .no])
  (.cond (.t 11)
  (.seq
  (.seq
  (.ops [.mk (some 12) none (.mov (.t 6)) .no])
  (.cond (.t 12)
  (.seq
  (.ops
  [.mk (some 4) none (.mov (.c (.one (.st (.int .i64 0)))))
  .no])
  .ret)
  .skip))
  (.seq
  (.ops
  [.mk (some 4) none (.mov (.c (.one (.st (.int .i64 (-1))))))
  .no])
  .ret))
  .skip))
  (.seq
  (.seq
  (.ops [.mk (some 13) none (.mov (.t 6)) .no])
  (.cond (.t 13)
  (.seq
  (.ops
  [.mk (some 4) none (.mov (.c (.one (.st (.int .i64 1)))))
  .no])
  .ret)
  .skip))
  (.seq
  (.seq
  (.ops
  [.mk (some 14) none (.mov (.t 0)) .no, .mk (some 15) none (.mov (.t 1)) .no, .mk (some 16) none (.bin .lss (.t 14) (.t 15))
  .no])
  (.cond (.t 16)
  (.seq
  (.ops
  [.mk (some 4) none (.mov (.c (.one (.st (.int .i64 (-1))))))
  .no])
  .ret)
  .skip))
  (.seq
  (.seq
  (.ops
  [.mk (some 17) none (.mov (.t 0)) .no, .mk (some 18) none (.mov (.t 1)) .no, .mk (some 19) none (.bin .gtr (.t 17) (.t 18))
  .no])
  (.cond (.t 19)
  (.seq
  (.ops
  [.mk (some 4) none (.mov (.c (.one (.st (.int .i64 1)))))
  .no])
  .ret)
  .skip))
  (.seq
  (.ops
  [.mk (some 4) none (.mov (.c (.one (.st (.int .i64 0)))))
  .no])
  .ret))))))))
theorem tr_cmp_Compare_string : trCode Try.prog 20 [] (Try.f63.body.getD .skip) = some ir_cmp_Compare_string := by kernel_rfl
theorem ac_cmp_Compare_string {xs : List AV} {r : AV} (hn : xs.length ≤ 20) (h : ∀ C : Ctx, C.n = 20 → IWP Try.prog C [] ir_cmp_Compare_string (FinQ [.t 4] r) (AS.start xs)) : ACalls Try.prog 63 xs r :=
  acalls_of Try.func63 rfl tr_cmp_Compare_string rfl hn h
def ir_subst_Find_1 : IR :=
  (.seq
  (.ops
  [.mk (some 2) none (.box 56 (.t 0)) .no, .mk (some 4) none (.mov (.c (.one (.st (.int .i64 0)))))
  .no])
  (.seq
  (.ops
  [.mk (some 5) none (.fieldAddr 0 (.t 2)) .no, .mk (some 6) none (.load false 1 (.t 5)) .no, .mk (some 7) none (.mov (.t 1)) .no, .mk (some 8) none (.call 63 [.t 6, .t 7]) .no, .mk (some 4) none (.mov (.t 8)) .no])
  .ret))
theorem tr_subst_Find_1 : trCode Try.prog 9 [] (Try.f62.body.getD .skip) = some ir_subst_Find_1 := by kernel_rfl
theorem ac_subst_Find_1 {xs : List AV} {r : AV} (hn : xs.length ≤ 9) (h : ∀ C : Ctx, C.n = 9 → IWP Try.prog C [] ir_subst_Find_1 (FinQ [.t 4] r) (AS.start xs)) : ACalls Try.prog 62 xs r :=
  acalls_of Try.func62 rfl tr_subst_Find_1 rfl hn h
def ir_slices_BinarySearchFunc_metaprune_api_Bind_metaprune_api_Bind_string : IR :=
  (.seq
  (.ops
  [.mk (some 6) none (.mov (.c (.one (.st (.int .i64 0)))))
  .no, .mk (some 7) none (.mov (.c (.one (.st (.bool false)))))
  .no])
  (.seq
  (.ops
  [.mk (some 12) none (.mov (.t 0)) .no, .mk (some 13) none (.len false (.t 12)) .no, .mk (some 8) none (.mov (.t 13)) .no])
  (.seq
  (.ops
  [.mk (some 14) none (.mov (.t 8)) .no, .mk (some 9) none (.mov (.c (.one (.st (.int .i64 0)))))
  .no, .mk (some 10) none (.mov (.t 14)) .no])
  (.seq
  (.block 0
  (.loop
  (.seq
  (.seq
  (.ops
  [.mk (some 15) none (.mov (.t 9)) .no, .mk (some 16) none (.mov (.t 10)) .no, .mk (some 17) none (.bin .lss (.t 15) (.t 16))
  .no])
  (.cond (.t 17) .skip (.exit 0)))
  (.block 1
  (.seq
  (.ops
  [.mk (some 18) none (.mov (.t 9)) .no, .mk (some 19) none (.mov (.t 10)) .no, .mk (some 20) none (.bin .add (.t 18) (.t 19))
  .no, .mk (some 21) none (.conv .u64 (.t 20)) .no, .mk (some 22) none (.bin .shr (.t 21) (.c (.one (.st (.int .u64 1)))))
  .no, .mk (some 23) none (.conv .i64 (.t 22)) .no, .mk (some 11) none (.mov (.t 23)) .no])
  (.seq
  (.ops
  [.mk (some 24) none (.mov (.t 2)) .no, .mk (some 25) none (.mov (.t 0)) .no, .mk (some 26) none (.mov (.t 11)) .no, .mk (some 27) none (.indexAddr 3 (.t 25) (.t 26))
  .no, .mk (some 28) none (.load true 3 (.t 27)) .no, .mk (some 29) none (.mov (.t 1)) .no, .mk (some 30) none
  (.callV (.t 24) [.t 28, .t 29]) .no, .mk (some 31) none (.bin .lss (.t 30) (.c (.one (.st (.int .i64 0)))))
  .no])
  (.cond (.t 31)
  (.ops
  [.mk (some 32) none (.mov (.t 11)) .no, .mk (some 33) none (.bin .add (.t 32) (.c (.one (.st (.int .i64 1)))))
  .no, .mk (some 9) none (.mov (.t 33)) .no])
  (.ops
  [.mk (some 34) none (.mov (.t 11)) .no, .mk (some 10) none (.mov (.t 34)) .no]))))))))
  (.seq
  (.ops
  [.mk (some 35) none (.mov (.t 9)) .no, .mk (some 36) none (.mov (.t 9)) .no, .mk (some 37) none (.mov (.t 8)) .no, .mk (some 38) none (.bin .lss (.t 36) (.t 37))
  .no, .mk (some 39) none (.mov (.t 38)) .no, .mk (some 40) (some (39, true)) (.mov (.t 2)) .no, .mk (some 41) (some (39, true)) (.mov (.t 0)) .no, .mk (some 42) (some (39, true)) (.mov (.t 9)) .no, .mk (some 43) (some (39, true)) (.indexAddr 3 (.t 41) (.t 42))
  .no, .mk (some 44) (some (39, true)) (.load true 3 (.t 43)) .no, .mk (some 45) (some (39, true)) (.mov (.t 1)) .no, .mk (some 46) (some (39, true))
  (.callV (.t 40) [.t 44, .t 45]) .no, .mk (some 47) (some (39, true)) (.bin .eql (.t 46) (.c (.one (.st (.int .i64 0)))))
  .no, .mk (some 48) none
  (.pick (.t 39) (.t 47) (.c (.one (.st (.bool false)))))
  .no, .mk (some 6) none (.mov (.t 35)) .no, .mk (some 7) none (.mov (.t 48)) .no])
  .ret)))))
theorem tr_slices_BinarySearchFunc_metaprune_api_Bind_metaprune_api_Bind_string : trCode Try.prog 49 [] (Try.f61.body.getD .skip) = some ir_slices_BinarySearchFunc_metaprune_api_Bind_metaprune_api_Bind_string := by kernel_rfl
theorem ac_slices_BinarySearchFunc_metaprune_api_Bind_metaprune_api_Bind_string {xs : List AV} {r : AV} (hn : xs.length ≤ 49) (h : ∀ C : Ctx, C.n = 49 → IWP Try.prog C [] ir_slices_BinarySearchFunc_metaprune_api_Bind_metaprune_api_Bind_string (FinQ [.t 6, .t 7] r) (AS.start xs)) : ACalls Try.prog 61 xs r :=
  acalls_of Try.func61 rfl tr_slices_BinarySearchFunc_metaprune_api_Bind_metaprune_api_Bind_string rfl hn h
def ir_subst_Find : IR :=
  (.seq
  (.ops
  [.mk (some 4) none
  (.alloc 24 [.st (.str (ByteArray.mk (#[]))), .full []]) .no, .mk (some 5) none (.mov (.c (.one (.st (.bool false)))))
  .no])
  (.seq
  (.ops
  [.mk (some 9) none (.mov (.t 0)) .no, .mk (some 10) none (.mov (.t 1)) .no, .mk (some 11) none (.call 61
  [.t 9, .t 10, .c (.one (.fn 62 []))])
  .no, .mk (some 8) none (.mov (.t 11)) .no, .mk (some 12) none (.extract 0 (.t 8)) .no, .mk (some 13) none (.extract 1 (.t 8)) .no, .mk (some 6) none (.mov (.t 12)) .no, .mk (some 7) none (.mov (.t 13)) .no])
  (.seq
  (.seq
  (.ops
  [.mk (some 14) none (.mov (.t 7)) .no, .mk (some 15) none (.un .not (.t 14)) .no])
  (.cond (.t 15)
  (.seq
  (.ops
  [.mk (some 16) none
  (.build [.st (.str (ByteArray.mk (#[]))), .full []] [])
  .no, .mk none none (.store 2 (.t 4) (.t 16)) .no, .mk (some 5) none (.mov (.c (.one (.st (.bool false)))))
  .no])
  .ret)
  .skip))
  (.seq
  (.ops
  [.mk (some 17) none (.mov (.t 0)) .no, .mk (some 18) none (.mov (.t 6)) .no, .mk (some 19) none (.indexAddr 3 (.t 17) (.t 18))
  .no, .mk (some 20) none (.fieldAddr 1 (.t 19)) .no, .mk (some 21) none (.load true 2 (.t 20)) .no, .mk none none (.store 2 (.t 4) (.t 21)) .no, .mk (some 5) none (.mov (.c (.one (.st (.bool true)))))
  .no])
  .ret))))
theorem tr_subst_Find : trCode Try.prog 22 [] (Try.f43.body.getD .skip) = some ir_subst_Find := by kernel_rfl
theorem ac_subst_Find {xs : List AV} {r : AV} (hn : xs.length ≤ 22) (h : ∀ C : Ctx, C.n = 22 → IWP Try.prog C [] ir_subst_Find (FinQ [.cell 4 true 2, .t 5] r) (AS.start xs)) : ACalls Try.prog 43 xs r :=
  acalls_of Try.func43 rfl tr_subst_Find rfl hn h
def ir_metaprune_subst_maker_copy : IR :=
  (.seq
  (.ops
  [.mk (some 4) none (.box 24 (.t 1)) .no, .mk (some 6) none
  (.alloc 24 [.st (.str (ByteArray.mk (#[]))), .full []]) .no])
  (.seq
  (.seq
  (.ops [.mk (some 12) none (.mov (.t 2)) .no])
  (.cond (.t 12)
  (.seq
  (.ops
  [.mk (some 14) none (.mov (.t 0)) .no, .mk (some 15) none (.nilCheck (.t 14)) .no, .mk (some 16) none (.fieldAddr 0 (.t 15)) .no, .mk (some 17) none (.load false 1 (.t 16)) .no, .mk (some 18) none (.fieldAddr 0 (.t 4)) .no, .mk (some 19) none (.load false 1 (.t 18)) .no, .mk (some 20) none (.call 43 [.t 17, .t 19]) .no, .mk (some 13) none (.mov (.t 20)) .no, .mk (some 21) none (.extract 0 (.t 13)) .no, .mk (some 22) none (.extract 1 (.t 13)) .no, .mk (some 7) none
  (.alloc 24 [.st (.str (ByteArray.mk (#[]))), .full []])
  .no, .mk none none (.store 2 (.t 7) (.t 21)) .no, .mk (some 8) none (.mov (.t 22)) .no])
  (.seq
  (.ops [.mk (some 23) none (.mov (.t 8)) .no])
  (.cond (.t 23)
  (.seq
  (.ops
  [.mk (some 24) none (.mov (.t 0)) .no, .mk (some 25) none (.load true 2 (.t 7)) .no, .mk (some 26) none
  (.callS 65
  [.t 24, .t 25, .c (.one (.st (.bool false)))])
  .no, .mk none none (.store 2 (.t 6) (.t 26)) .no])
  .ret)
  .skip)))
  .skip))
  (.seq
  (.seq
  (.ops
  [.mk (some 27) none (.mov (.t 0)) .no, .mk (some 28) none (.nilCheck (.t 27)) .no, .mk (some 29) none (.fieldAddr 1 (.t 28)) .no, .mk (some 30) none (.load false 1 (.t 29)) .no, .mk (some 31) none (.bin .sub (.t 30) (.c (.one (.st (.int .i64 1)))))
  .no, .mk (some 32) none (.nilCheck (.t 27)) .no, .mk (some 33) none (.fieldAddr 1 (.t 32)) .no, .mk none none (.store 1 (.t 33) (.t 31)) .no])
  (.seq
  (.ops
  [.mk (some 34) none (.mov (.t 0)) .no, .mk (some 35) none (.nilCheck (.t 34)) .no, .mk (some 36) none (.fieldAddr 1 (.t 35)) .no, .mk (some 37) none (.load false 1 (.t 36)) .no, .mk (some 38) none (.bin .lss (.t 37) (.c (.one (.st (.int .i64 0)))))
  .no])
  (.cond (.t 38)
  (.seq
  (.ops
  [.mk (some 39) none
  (.build [.st (.str (ByteArray.mk (#[]))), .full []] [])
  .no, .mk none none (.store 2 (.t 6) (.t 39)) .no])
  .ret)
  .skip)))
  (.seq
  (.ops
  [.mk (some 40) none (.fieldAddr 0 (.t 4)) .no, .mk (some 41) none (.load false 1 (.t 40)) .no, .mk (some 42) none
  (.build [.st (.str (ByteArray.mk (#[]))), .full []]
  [(0, 1, .t 41)])
  .no, .mk (some 9) none
  (.alloc 24 [.st (.str (ByteArray.mk (#[]))), .full []]) .no, .mk none none (.store 2 (.t 9) (.t 42)) .no])
  (.seq
  (.seq
  (.ops
  [.mk (some 43) none (.fieldAddr 1 (.t 4)) .no, .mk (some 44) none (.load false 1 (.t 43)) .no, .mk (some 45) none (.len false (.t 44)) .no, .mk (some 46) none (.mov (.c (.one (.st (.int .i64 0)))))
  .no])
  (.block 0
  (.loop
  (.seq
  (.ops
  [.mk (some 47) none (.bin .lss (.t 46) (.t 45))
  .no])
  (.seq (.cond (.t 47) .skip (.exit 0))
  (.seq
  (.block 1
  (.seq
  (.ops
  [.mk (some 48) none (.indexAddr 2 (.t 44) (.t 46))
  .no, .mk (some 49) none (.load true 2 (.t 48)) .no, .mk (some 11) none
  (.alloc 24 [.st (.str (ByteArray.mk (#[]))), .full []])
  .no, .mk none none (.store 2 (.t 11) (.t 49))
  .no])
  (.seq
  (.ops
  [.mk (some 50) none (.fieldAddr 1 (.t 9)) (.onb 9), .mk (some 51) none (.load false 1 (.t 50)) (.onb 9), .mk (some 52) none (.mov (.t 0)) .no, .mk (some 53) none (.load true 2 (.t 11)) .no, .mk (some 54) none (.mov (.t 2)) .no, .mk (some 55) none
  (.callS 65 [.t 52, .t 53, .t 54])
  (.keeps [9, 9]), .mk (some 56) none (.buildSlice false 24 2 [.t 55]) .no, .mk (some 57) none (.append false 24 2 40 (.t 51) (.t 56))
  .no, .mk (some 58) none (.fieldAddr 1 (.t 9)) .no, .mk none none (.store 1 (.t 58) (.t 57))
  .no])
  (.seq
  (.ops
  [.mk (some 59) none (.mov (.t 0)) .no, .mk (some 60) none (.nilCheck (.t 59)) .no, .mk (some 61) none (.fieldAddr 1 (.t 60)) .no, .mk (some 62) none (.load false 1 (.t 61)) .no, .mk (some 63) none (.bin .lss (.t 62) (.c (.one (.st (.int .i64 0)))))
  .no])
  (.cond (.t 63)
  (.seq
  (.ops
  [.mk (some 64) none
  (.build [.st (.str (ByteArray.mk (#[]))), .full []] [])
  .no, .mk none none (.store 2 (.t 6) (.t 64))
  .no])
  .ret)
  .skip)))))
  (.ops
  [.mk (some 65) none (.bin .add (.t 46) (.c (.one (.st (.int .i64 1)))))
  .no, .mk (some 46) none (.mov (.t 65)) .no])))))))
  (.seq
  (.ops
  [.mk (some 66) none (.load true 2 (.t 9)) .no, .mk none none (.store 2 (.t 6) (.t 66)) .no])
  .ret))))))
theorem tr_metaprune_subst_maker_copy : trCode Try.prog 67 [26, 55] (Try.f65.body.getD .skip) = some ir_metaprune_subst_maker_copy := by kernel_rfl
theorem acS_metaprune_subst_maker_copy {xs : List AV} {S S' : AStore} {r : AV} (hn : xs.length ≤ 67) (h : Clean S → ∀ C : Ctx, C.n = 67 → IWP Try.prog C [26, 55] ir_metaprune_subst_maker_copy (FinS C [.cell 6 true 2] r S') (AS.startS xs S)) : ACallsS Try.prog 65 xs S r S' :=
  acallsS_of Try.func65 rfl tr_metaprune_subst_maker_copy rfl hn h
def ir_subst_On : IR :=
  (.seq
  (.ops
  [.mk (some 3) none (.box 24 (.t 1)) .no, .mk (some 4) none
  (.alloc 24 [.st (.str (ByteArray.mk (#[]))), .full []]) .no, .mk (some 5) none (.mov (.c (.one (.st (.bool false)))))
  .no])
  (.seq
  (.ops
  [.mk (some 8) none (.mov (.t 0)) .no, .mk (some 9) none
  (.build [.full [], .st (.int .i64 0)]
  [(0, 1, .t 8), (1, 1, .c (.one (.st (.int .i64 2000))))])
  .no, .mk (some 10) none (.box 104 (.t 9)) .no, .mk (some 6) none (.mov (.t 10)) .no])
  (.seq
  (.ops
  [.mk (some 11) none (.mov (.t 6)) .no, .mk (some 12) none (.load true 2 (.t 3)) .no, .mk (some 13) none
  (.callS 65
  [.t 11, .t 12, .c (.one (.st (.bool true)))])
  .no, .mk (some 7) none
  (.alloc 24 [.st (.str (ByteArray.mk (#[]))), .full []]) .no, .mk none none (.store 2 (.t 7) (.t 13)) .no])
  (.seq
  (.ops
  [.mk (some 14) none (.load true 2 (.t 7)) .no, .mk (some 15) none (.mov (.t 6)) .no, .mk (some 16) none (.nilCheck (.t 15)) (.onb 10), .mk (some 17) none (.fieldAddr 1 (.t 16)) (.onb 10), .mk (some 18) none (.load false 1 (.t 17)) (.onb 10), .mk (some 19) none (.bin .geq (.t 18) (.c (.one (.st (.int .i64 0)))))
  .no, .mk none none (.store 2 (.t 4) (.t 14)) (.onb 4), .mk (some 5) none (.mov (.t 19)) .no])
  .ret))))
theorem tr_subst_On : trCode Try.prog 20 [13, 10060010] (Try.f46.body.getD .skip) = some ir_subst_On := by kernel_rfl
theorem ac_subst_On {xs : List AV} {r : AV} (hn : xs.length ≤ 20) (h : ∀ C : Ctx, C.n = 20 → IWP Try.prog C [13, 10060010] ir_subst_On (FinQ [.cell 4 true 2, .t 5] r) (AS.start xs)) : ACalls Try.prog 46 xs r :=
  acalls_of Try.func46 rfl tr_subst_On rfl hn h
def ir_subst_Apply : IR :=
  (.seq
  (.ops
  [.mk (some 3) none (.box 24 (.t 1)) .no, .mk (some 4) none
  (.alloc 24 [.st (.str (ByteArray.mk (#[]))), .full []]) .no, .mk (some 5) none (.mov (.c (.one (.st (.int .i64 0)))))
  .no])
  (.seq
  (.ops
  [.mk (some 9) none (.mov (.t 0)) .no, .mk (some 10) none (.call 41 [.t 9]) .no, .mk (some 6) none (.mov (.t 10)) .no])
  (.seq
  (.seq
  (.ops
  [.mk (some 11) none (.mov (.t 6)) .no, .mk (some 12) none (.bin .eql (.t 11) (.c (.one (.st (.int .i64 0)))))
  .no])
  (.cond (.t 12)
  (.ops
  [.mk (some 13) none (.load true 2 (.t 3)) .no, .mk (some 14) none (.call 30 [.t 13]) .no, .mk (some 6) none (.mov (.t 14)) .no])
  .skip))
  (.seq
  (.seq
  (.ops
  [.mk (some 15) none (.mov (.t 6)) .no, .mk (some 16) none (.bin .neq (.t 15) (.c (.one (.st (.int .i64 0)))))
  .no])
  (.cond (.t 16)
  (.seq
  (.ops
  [.mk (some 17) none
  (.build [.st (.str (ByteArray.mk (#[]))), .full []] [])
  .no, .mk (some 18) none (.mov (.t 6)) .no, .mk none none (.store 2 (.t 4) (.t 17)) .no, .mk (some 5) none (.mov (.t 18)) .no])
  .ret)
  .skip))
  (.seq
  (.ops
  [.mk (some 20) none (.mov (.t 0)) .no, .mk (some 21) none (.load true 2 (.t 3)) .no, .mk (some 22) none (.call 46 [.t 20, .t 21]) .no, .mk (some 19) none (.mov (.t 22)) .no, .mk (some 23) none (.extract 0 (.t 19)) .no, .mk (some 24) none (.extract 1 (.t 19)) .no, .mk (some 7) none
  (.alloc 24 [.st (.str (ByteArray.mk (#[]))), .full []])
  .no, .mk none none (.store 2 (.t 7) (.t 23)) .no, .mk (some 8) none (.mov (.t 24)) .no])
  (.seq
  (.seq
  (.ops
  [.mk (some 25) none (.mov (.t 8)) .no, .mk (some 26) none (.un .not (.t 25)) .no])
  (.cond (.t 26)
  (.seq
  (.ops
  [.mk (some 27) none
  (.build [.st (.str (ByteArray.mk (#[]))), .full []] [])
  .no, .mk none none (.store 2 (.t 4) (.t 27))
  .no, .mk (some 5) none (.mov (.c (.one (.st (.int .i64 8)))))
  .no])
  .ret)
  .skip))
  (.seq
  (.ops
  [.mk (some 28) none (.load true 2 (.t 7)) .no, .mk none none (.store 2 (.t 4) (.t 28)) .no, .mk (some 5) none (.mov (.c (.one (.st (.int .i64 0)))))
  .no])
  .ret)))))))
theorem tr_subst_Apply : trCode Try.prog 29 [] (Try.f25.body.getD .skip) = some ir_subst_Apply := by kernel_rfl
theorem ac_subst_Apply {xs : List AV} {r : AV} (hn : xs.length ≤ 29) (h : ∀ C : Ctx, C.n = 29 → IWP Try.prog C [] ir_subst_Apply (FinQ [.cell 4 true 2, .t 5] r) (AS.start xs)) : ACalls Try.prog 25 xs r :=
  acalls_of Try.func25 rfl tr_subst_Apply rfl hn h
def ir_subst_Kind : IR :=
  (.seq
  (.ops
  [.mk (some 2) none (.mov (.c (.one (.st (.bool false)))))
  .no, .mk (some 3) none (.mov (.c (.one (.st (.bool false)))))
  .no, .mk (some 4) none (.mov (.c (.one (.st (.int .i64 0)))))
  .no])
  (.seq
  (.seq
  (.ops
  [.mk (some 13) none (.mov (.t 0)) .no, .mk (some 14) none (.call 41 [.t 13]) .no, .mk (some 5) none (.mov (.t 14)) .no])
  (.seq
  (.ops
  [.mk (some 15) none (.mov (.t 5)) .no, .mk (some 16) none (.bin .neq (.t 15) (.c (.one (.st (.int .i64 0)))))
  .no])
  (.cond (.t 16)
  (.seq
  (.ops
  [.mk (some 17) none (.mov (.t 5)) .no, .mk (some 2) none (.mov (.c (.one (.st (.bool false)))))
  .no, .mk (some 3) none (.mov (.c (.one (.st (.bool false)))))
  .no, .mk (some 4) none (.mov (.t 17)) .no])
  .ret)
  .skip)))
  (.seq
  (.ops
  [.mk (some 2) none (.mov (.c (.one (.st (.bool true)))))
  .no, .mk (some 3) none (.mov (.c (.one (.st (.bool true)))))
  .no])
  (.seq
  (.ops
  [.mk (some 6) none (.mov (.c (.one (.full []))))
  .no])
  (.seq
  (.seq
  (.ops
  [.mk (some 18) none (.mov (.t 0)) .no, .mk (some 19) none (.len false (.t 18)) .no, .mk (some 20) none (.mov (.c (.one (.st (.int .i64 0)))))
  .no])
  (.block 0
  (.loop
  (.seq
  (.ops
  [.mk (some 21) none (.bin .lss (.t 20) (.t 19))
  .no])
  (.seq (.cond (.t 21) .skip (.exit 0))
  (.seq
  (.block 1
  (.seq
  (.ops
  [.mk (some 22) none (.indexAddr 3 (.t 18) (.t 20))
  .no, .mk (some 23) none (.load true 3 (.t 22)) .no, .mk (some 8) none
  (.alloc 56
  [.st (.str (ByteArray.mk (#[]))), .st (.str (ByteArray.mk (#[]))), .full []])
  .no, .mk none none (.store 3 (.t 8) (.t 23))
  .no])
  (.seq
  (.seq
  (.ops
  [.mk (some 24) none (.fieldAddr 1 (.t 8)) .no, .mk (some 25) none (.load true 2 (.t 24)) .no, .mk (some 26) none (.call 42 [.t 25]) .no, .mk (some 27) none (.len false (.t 26)) .no, .mk (some 28) none (.mov (.c (.one (.st (.int .i64 0)))))
  .no])
  (.block 2
  (.loop
  (.seq
  (.ops
  [.mk (some 29) none (.bin .lss (.t 28) (.t 27))
  .no])
  (.seq (.cond (.t 29) .skip (.exit 2))
  (.seq
  (.block 3
  (.seq
  (.ops
  [.mk (some 30) none
  (.indexAddr 1 (.t 26) (.t 28)) .no, .mk (some 31) none (.load false 1 (.t 30))
  .no, .mk (some 10) none (.mov (.t 31)) .no])
  (.seq
  (.ops
  [.mk (some 33) none (.mov (.t 0)) .no, .mk (some 34) none (.mov (.t 10)) .no, .mk (some 35) none (.call 43 [.t 33, .t 34])
  .no, .mk (some 32) none (.mov (.t 35)) .no, .mk (some 36) none (.extract 0 (.t 32)) .no, .mk (some 37) none (.extract 1 (.t 32)) .no, .mk (some 11) none
  (.alloc 24
  [.st (.str (ByteArray.mk (#[]))), .full []])
  .no, .mk none none (.store 2 (.t 11) (.t 36))
  .no, .mk (some 12) none (.mov (.t 37)) .no])
  (.seq
  (.ops
  [.mk (some 38) none (.mov (.t 12)) .no, .mk (some 39) none (.mov (.t 38)) .no, .mk (some 40) (some (39, true)) (.fieldAddr 0 (.t 11))
  .no, .mk (some 41) (some (39, true)) (.load false 1 (.t 40))
  .no, .mk (some 42) (some (39, true)) (.mov (.t 10))
  .no, .mk (some 43) (some (39, true)) (.bin .eql (.t 41) (.t 42)) .no, .mk (some 44) (some (39, true)) (.un .not (.t 43))
  .no, .mk (some 45) none
  (.pick (.t 39) (.t 44) (.c (.one (.st (.bool false)))))
  .no])
  (.cond (.t 45)
  (.ops
  [.mk (some 2) none (.mov (.c (.one (.st (.bool false)))))
  .no])
  .skip)))))
  (.ops
  [.mk (some 46) none (.bin .add (.t 28) (.c (.one (.st (.int .i64 1)))))
  .no, .mk (some 28) none (.mov (.t 46)) .no])))))))
  (.seq
  (.ops
  [.mk (some 47) none (.mov (.t 3)) .no, .mk (some 48) none (.mov (.t 47)) .no, .mk (some 49) (some (48, true)) (.fieldAddr 1 (.t 8))
  .no, .mk (some 50) (some (48, true)) (.fieldAddr 0 (.t 49))
  .no, .mk (some 51) (some (48, true)) (.load false 1 (.t 50))
  .no, .mk (some 52) (some (48, true)) (.call 44 [.t 51]) .no, .mk (some 53) none
  (.pick (.t 48) (.t 52) (.c (.one (.st (.bool false)))))
  .no, .mk (some 54) none (.mov (.t 53)) .no, .mk (some 55) (some (54, true)) (.mov (.t 6)) .no, .mk (some 56) (some (54, true)) (.fieldAddr 1 (.t 8))
  .no, .mk (some 57) (some (54, true)) (.fieldAddr 0 (.t 56))
  .no, .mk (some 58) (some (54, true)) (.load false 1 (.t 57))
  .no, .mk (some 59) (some (54, true)) (.call 45 [.t 55, .t 58]) .no, .mk (some 60) (some (54, true)) (.un .not (.t 59))
  .no, .mk (some 61) none
  (.pick (.t 54) (.t 60) (.c (.one (.st (.bool false)))))
  .no, .mk (some 3) none (.mov (.t 61)) .no])
  (.ops
  [.mk (some 62) none (.mov (.t 6)) .no, .mk (some 63) none (.fieldAddr 1 (.t 8)) .no, .mk (some 64) none (.fieldAddr 0 (.t 63)) .no, .mk (some 65) none (.load false 1 (.t 64)) .no, .mk (some 66) none (.buildFlat [.t 65]) .no, .mk (some 67) none
  (.append false 9 1 16 (.t 62) (.t 66)) .no, .mk (some 6) none (.mov (.t 67)) .no])))))
  (.ops
  [.mk (some 68) none (.bin .add (.t 20) (.c (.one (.st (.int .i64 1)))))
  .no, .mk (some 20) none (.mov (.t 68)) .no])))))))
  (.seq
  (.ops
  [.mk (some 69) none (.mov (.t 2)) .no, .mk (some 70) none (.mov (.t 3)) .no, .mk (some 2) none (.mov (.t 69)) .no, .mk (some 3) none (.mov (.t 70)) .no, .mk (some 4) none (.mov (.c (.one (.st (.int .i64 0)))))
  .no])
  .ret))))))
theorem tr_subst_Kind : trCode Try.prog 71 [] (Try.f24.body.getD .skip) = some ir_subst_Kind := by kernel_rfl
theorem ac_subst_Kind {xs : List AV} {r : AV} (hn : xs.length ≤ 71) (h : ∀ C : Ctx, C.n = 71 → IWP Try.prog C [] ir_subst_Kind (FinQ [.t 2, .t 3, .t 4] r) (AS.start xs)) : ACalls Try.prog 24 xs r :=
  acalls_of Try.func24 rfl tr_subst_Kind rfl hn h
end Go.Proofs.Ytohgkbgpcnmdpaa
