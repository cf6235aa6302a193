/-
  Part 23 of the texts: BMatch; BMatch2; BMatch3. Conditions: none.
-/
import Derived.Test.YtdmgelbbjppgkaaDoorPart22
namespace Go.Proofs.YtdmgelbbjppgkaaDoor
open Go Go.RowKit
set_option linter.unusedVariables false
set_option linter.unusedSimpArgs false
set_option maxHeartbeats 1000000

def entB (b : Bd) : KV × AV := (.s b.1, aTm b.2)
abbrev mapB (l : List Bd) : ABlk := .map none (l.map entB)
theorem mGet_mapB (l : List Bd) (n : ByteArray) : mGet (l.map entB) (.s n) = (lookup l n).map fun t => aTm t := by
  induction l with
  | nil => rfl
  | cons b l ih =>
    unfold lookup
    rw [List.map_cons, mGet, List.find?_cons]
    by_cases h : b.1 = n
    · have h1 : decide (b.1 = n) = true := decide_eq_true h
      rw [if_pos (show (entB b).1 = KV.s n from congrArg KV.s h)]
      simp only [h1]
      rfl
    · have h1 : decide (b.1 = n) = false := decide_eq_false h
      rw [if_neg (show ¬ (entB b).1 = KV.s n from fun e => h (KV.s.inj e)), ih]
      simp only [h1]
      rfl
theorem mPut_mapB {l : List Bd} {n : ByteArray} (h : lookup l n = none) (t : Tm) : mPut (l.map entB) (.s n) (aTm t) = (l ++ [(n, t)]).map entB := by
  rw [mPut_none (by rw [mGet_mapB, h]; rfl), List.map_append]
  rfl

theorem into_M (p : Tm) (hz : p.size ≤ 1000000) : ∀ (t : Tm) (a0 : Nat) (l : List Bd) (S : AStore), 1000 ≤ a0 → S a0 = some (mapB l) →
    ACallsS Tryd.prog 61 [aTm p, aTm t, .one (.mptr a0)] S (aBool (p.mt t l).2) (updE S a0 (some (mapB (p.mt t l).1))) := by
  induction h : SizeOf.sizeOf p using Nat.strongRecOn generalizing p with
  | _ N ih =>
  subst h
  intro t a0 l S ha0 hSa
  have hs := Tm.size_eq p
  have hln := Tm.length_le p.args
  refine acS_match_into (Nat.le_of_ble_eq_true rfl) fun hS C hC => ?_
  have n3 : S 3 = none := clean_none hS (by omega)
  have n4 : S 4 = none := clean_none hS (by omega)
  have n7 : S 7 = none := clean_none hS (by omega)
  have d3 : ¬ 3 = a0 := by omega
  have d4 : ¬ 4 = a0 := by omega
  have d7 : ¬ 7 = a0 := by omega
  have e3 : ¬ a0 = 3 := by omega
  have e4 : ¬ a0 = 4 := by omega
  have e7 : ¬ a0 = 7 := by omega
  unfold ir_match_into
  repeat' (first | (with_reducible first | refine Wa ?_ | refine Wb ?_ | refine Wc ?_ | refine Wd ?_ | refine We ?_ | refine Wf ?_ | refine Wg ?_ | refine Wh ?_ | refine Wi ?_ | refine Wj ?_ | refine Wk (by decide) ?_ | refine Wl ?_ | refine Wm ?_ | refine Wn ?_) | ((with_reducible first | refine Wo (fun K hK => ?_) | refine Wp ?_ | refine Wq ?_ | refine Wr ?_); (try simp only [go_sem, List.forall_mem_nil, ↓guard_ite, ↓pick_ite, seval, encT_eq, inR_i64, n3, n4, decide_eq_true_eq, decide_eq_false_iff_not, Int.ofNat_lt]); (repeat with_reducible refine And.intro (by first | omega | (with_reducible first | exact lens_encT | exact lens_encL | exact lens_encB | exact lens_encP) | (simp; done) | (simp only [List.length_take, List.length_map, List.length_append, maxLen_eq]; omega)) ?_); (try (with_reducible refine hK _ ?_; clear hK K)); (try with_reducible refine ite_conj ?_)))
  refine ⟨_, variable_a _, ?_⟩
  cases hv : isVar p.name with
  | true =>
    cases hl : lookup l p.name with
    | some x =>
      repeat' (first | (with_reducible first | refine Wa ?_ | refine Wb ?_ | refine Wc ?_ | refine Wd ?_ | refine We ?_ | refine Wf ?_ | refine Wg ?_ | refine Wh ?_ | refine Wi ?_ | refine Wj ?_ | refine Wk (by decide) ?_ | refine Wl ?_ | refine Wm ?_ | refine Wn ?_) | refine CallG.mk _ (same_a _ _) ?_ | ((with_reducible first | refine Wo (fun K hK => ?_) | refine Wp ?_ | refine Wq ?_ | refine Wr ?_); (try simp only [go_sem, List.forall_mem_nil, ↓guard_ite, ↓pick_ite, seval, encT_eq, inR_i64, hv, hSa, n3, n4, n7, d3, d4, d7, e3, e4, e7, mapOf, keyOf, KV.of, lookA, mGet_mapB, hl, decide_eq_true_eq, decide_eq_false_iff_not, Int.ofNat_lt]); (repeat with_reducible refine And.intro (by first | omega | (with_reducible first | exact lens_encT | exact lens_encL | exact lens_encB | exact lens_encP) | (simp; done) | (simp only [List.length_take, List.length_map, List.length_append, maxLen_eq]; omega)) ?_); (try (with_reducible refine hK _ ?_; clear hK K)); (try with_reducible refine ite_conj ?_)))
      rw [Tm.mt_old hv hl]
      refine finS_one (aBool (x.beq t)) hS ha0 rfl trivial rfl rfl (by simp only [go_sem, List.forall_mem_nil, ↓guard_ite, ↓pick_ite, seval, encT_eq, inR_i64, e3, e4, e7, hSa]) fun i hi hne => ?_
      have i3 : ¬ i = 3 := by omega
      have i4 : ¬ i = 4 := by omega
      have i7 : ¬ i = 7 := by omega
      simp only [go_sem, List.forall_mem_nil, ↓guard_ite, ↓pick_ite, seval, encT_eq, inR_i64, i3, i4, i7]
    | none =>
      repeat' (first | (with_reducible first | refine Wa ?_ | refine Wb ?_ | refine Wc ?_ | refine Wd ?_ | refine We ?_ | refine Wf ?_ | refine Wg ?_ | refine Wh ?_ | refine Wi ?_ | refine Wj ?_ | refine Wk (by decide) ?_ | refine Wl ?_ | refine Wm ?_ | refine Wn ?_) | ((with_reducible first | refine Wo (fun K hK => ?_) | refine Wp ?_ | refine Wq ?_ | refine Wr ?_); (try simp only [go_sem, List.forall_mem_nil, ↓guard_ite, ↓pick_ite, seval, encT_eq, inR_i64, hv, hSa, n3, n4, n7, d3, d4, d7, e3, e4, e7, mapOf, keyOf, KV.of, lookA, mGet_mapB, hl, mPut_mapB, decide_eq_true_eq, decide_eq_false_iff_not, Int.ofNat_lt]); (repeat with_reducible refine And.intro (by first | omega | (with_reducible first | exact lens_encT | exact lens_encL | exact lens_encB | exact lens_encP) | (simp; done) | (simp only [List.length_take, List.length_map, List.length_append, maxLen_eq]; omega)) ?_); (try (with_reducible refine hK _ ?_; clear hK K)); (try with_reducible refine ite_conj ?_)))
      rw [Tm.mt_new hv hl]
      refine finS_one (aBool true) hS ha0 rfl trivial rfl rfl (by simp only [go_sem, List.forall_mem_nil, ↓guard_ite, ↓pick_ite, seval, encT_eq, inR_i64, e3, e4, e7, hSa]) fun i hi hne => ?_
      have i3 : ¬ i = 3 := by omega
      have i4 : ¬ i = 4 := by omega
      have i7 : ¬ i = 7 := by omega
      simp only [go_sem, List.forall_mem_nil, ↓guard_ite, ↓pick_ite, seval, encT_eq, inR_i64, i3, i4, i7, hne]
  | false =>
    by_cases hn : p.name = t.name
    case neg =>
      have hc : ¬ (p.name = t.name ∧ p.args.length = t.args.length) := fun h => hn h.1
      repeat' (first | (with_reducible first | refine Wa ?_ | refine Wb ?_ | refine Wc ?_ | refine Wd ?_ | refine We ?_ | refine Wf ?_ | refine Wg ?_ | refine Wh ?_ | refine Wi ?_ | refine Wj ?_ | refine Wk (by decide) ?_ | refine Wl ?_ | refine Wm ?_ | refine Wn ?_) | ((with_reducible first | refine Wo (fun K hK => ?_) | refine Wp ?_ | refine Wq ?_ | refine Wr ?_); (try simp only [go_sem, List.forall_mem_nil, ↓guard_ite, ↓pick_ite, seval, encT_eq, inR_i64, hv, hSa, n3, n4, n7, d3, d4, d7, e3, e4, e7, hn, decide_eq_true_eq, decide_eq_false_iff_not, Int.ofNat_lt]); (repeat with_reducible refine And.intro (by first | omega | (with_reducible first | exact lens_encT | exact lens_encL | exact lens_encB | exact lens_encP) | (simp; done) | (simp only [List.length_take, List.length_map, List.length_append, maxLen_eq]; omega)) ?_); (try (with_reducible refine hK _ ?_; clear hK K)); (try with_reducible refine ite_conj ?_)))
      rw [Tm.mt_clash hv hc]
      refine finS_one (aBool false) hS ha0 rfl trivial rfl rfl (by simp only [go_sem, List.forall_mem_nil, ↓guard_ite, ↓pick_ite, seval, encT_eq, inR_i64, e3, e4, hSa]) fun i hi hne => ?_
      have i3 : ¬ i = 3 := by omega
      have i4 : ¬ i = 4 := by omega
      simp only [go_sem, List.forall_mem_nil, ↓guard_ite, ↓pick_ite, seval, encT_eq, inR_i64, i3, i4]
    by_cases hlen : p.args.length = t.args.length
    case neg =>
      have hc : ¬ (p.name = t.name ∧ p.args.length = t.args.length) := fun h => hlen h.2
      have hlen' : ¬ (p.args.length : Int) = t.args.length := by omega
      repeat' (first | (with_reducible first | refine Wa ?_ | refine Wb ?_ | refine Wc ?_ | refine Wd ?_ | refine We ?_ | refine Wf ?_ | refine Wg ?_ | refine Wh ?_ | refine Wi ?_ | refine Wj ?_ | refine Wk (by decide) ?_ | refine Wl ?_ | refine Wm ?_ | refine Wn ?_) | ((with_reducible first | refine Wo (fun K hK => ?_) | refine Wp ?_ | refine Wq ?_ | refine Wr ?_); (try simp only [go_sem, List.forall_mem_nil, ↓guard_ite, ↓pick_ite, seval, encT_eq, inR_i64, hv, hSa, n3, n4, n7, d3, d4, d7, e3, e4, e7, hn, hlen', decide_eq_true_eq, decide_eq_false_iff_not, Int.ofNat_lt]); (repeat with_reducible refine And.intro (by first | omega | (with_reducible first | exact lens_encT | exact lens_encL | exact lens_encB | exact lens_encP) | (simp; done) | (simp only [List.length_take, List.length_map, List.length_append, maxLen_eq]; omega)) ?_); (try (with_reducible refine hK _ ?_; clear hK K)); (try with_reducible refine ite_conj ?_)))
      rw [Tm.mt_clash hv hc]
      refine finS_one (aBool false) hS ha0 rfl trivial rfl rfl (by simp only [go_sem, List.forall_mem_nil, ↓guard_ite, ↓pick_ite, seval, encT_eq, inR_i64, e3, e4, hSa]) fun i hi hne => ?_
      have i3 : ¬ i = 3 := by omega
      have i4 : ¬ i = 4 := by omega
      simp only [go_sem, List.forall_mem_nil, ↓guard_ite, ↓pick_ite, seval, encT_eq, inR_i64, i3, i4]
    have hlen' : (p.args.length : Int) = t.args.length := by omega
    have hknot : p.mt t l = Tm.mtL p.args t.args l := Tm.mt_knot hv hn hlen
    repeat' (first | (with_reducible first | refine Wa ?_ | refine Wb ?_ | refine Wc ?_ | refine Wd ?_ | refine We ?_ | refine Wf ?_ | refine Wg ?_ | refine Wh ?_ | refine Wi ?_ | refine Wj ?_ | refine Wk (by decide) ?_ | refine Wl ?_ | refine Wm ?_ | refine Wn ?_) | ((with_reducible first | refine Wo (fun K hK => ?_) | refine Wp ?_ | refine Wq ?_ | refine Wr ?_); (try simp only [go_sem, List.forall_mem_nil, ↓guard_ite, ↓pick_ite, seval, encT_eq, inR_i64, hv, hSa, n3, n4, n7, d3, d4, d7, e3, e4, e7, hn, hlen', decide_eq_true_eq, decide_eq_false_iff_not, Int.ofNat_lt]); (repeat with_reducible refine And.intro (by first | omega | (with_reducible first | exact lens_encT | exact lens_encL | exact lens_encB | exact lens_encP) | (simp; done) | (simp only [List.length_take, List.length_map, List.length_append, maxLen_eq]; omega)) ?_); (try (with_reducible refine hK _ ?_; clear hK K)); (try with_reducible refine ite_conj ?_)))
    refine IWP.loop (fun m x => ∃ k, k ≤ p.args.length ∧ m = p.args.length - k ∧ (Tm.mtL (p.args.take k) (t.args.take k) l).2 = true ∧ x.env 2 = .one (.mptr a0) ∧ x.env 3 = .one (.ptr 3 1 0 0) ∧ x.env 4 = .one (.ptr 4 1 0 0) ∧ x.env 44 = aInt p.args.length ∧ x.env 45 = aInt k ∧
        x.S 3 = some (.box 24 [.st (.str t.name), .st (.list (p.args.map encT))]) ∧ x.S 4 = some (.box 24 [.st (.str t.name), .st (.list (t.args.map encT))]) ∧ x.S a0 = some (mapB (Tm.mtL (p.args.take k) (t.args.take k) l).1) ∧ ∀ i, 1000 ≤ i → i ≠ a0 → x.S i = S i)
      p.args.length ⟨0, Nat.zero_le _, rfl, by simp [Tm.mtL], rfl, rfl, rfl, by simp only [go_sem, List.forall_mem_nil, ↓guard_ite, ↓pick_ite, seval, encT_eq, inR_i64, hlen'], rfl, by simp only [go_sem, List.forall_mem_nil, ↓guard_ite, ↓pick_ite, seval, encT_eq, inR_i64, hn], rfl, by (simp only [go_sem, List.forall_mem_nil, ↓guard_ite, ↓pick_ite, seval, encT_eq, inR_i64, e3, e4, hSa]); simp [Tm.mtL], fun i hi hne => ?_⟩ ?_
    · have i3 : ¬ i = 3 := by omega
      have i4 : ¬ i = 4 := by omega
      simp only [go_sem, List.forall_mem_nil, ↓guard_ite, ↓pick_ite, seval, encT_eq, inR_i64, i3, i4]
    rintro m ⟨env, S1⟩ ⟨k, hk, rfl, hok, e2, e3', e4', e44, e45, s3, s4, sa, hrest⟩
    simp only at e2 e3' e4' e44 e45 s3 s4 sa hrest
    have hend : ∀ (b : Bool) (r : List Bd) (env : Nat → AV) (S2 : AStore), env 6 = aBool b → S2 a0 = some (mapB r) → (∀ i, 1000 ≤ i → i ≠ a0 → S2 i = S i) → FinS C [.t 6] (aBool b) (updE S a0 (some (mapB r))) .ret ⟨env, S2⟩ := fun b r env S2 h6 h1 h2 =>
      finS_one (aBool b) hS ha0 rfl trivial (by simp only [resAll, resOne, tupV, h6, Option.map_some]) rfl h1 h2
    by_cases hlt : (k : Int) < p.args.length
    · obtain ⟨a, ha⟩ := get_lt (show k < p.args.length by omega)
      obtain ⟨c, hc⟩ := get_lt (show k < t.args.length by omega)
      have hstep := Tm.mtL_take hlen ha hc hok
      repeat' (first | (with_reducible first | refine Wa ?_ | refine Wb ?_ | refine Wc ?_ | refine Wd ?_ | refine We ?_ | refine Wf ?_ | refine Wg ?_ | refine Wh ?_ | refine Wi ?_ | refine Wj ?_ | refine Wk (by decide) ?_ | refine Wl ?_ | refine Wm ?_ | refine Wn ?_) | ((with_reducible first | refine Wo (fun K hK => ?_) | refine Wp ?_ | refine Wq ?_ | refine Wr ?_); (try simp only [go_sem, List.forall_mem_nil, ↓guard_ite, ↓pick_ite, seval, encT_eq, inR_i64, e2, e3', e4', e44, e45, s3, s4, sa, hlt, ha, hc, decide_eq_true_eq, decide_eq_false_iff_not, Int.ofNat_lt]); (repeat with_reducible refine And.intro (by first | omega | (with_reducible first | exact lens_encT | exact lens_encL | exact lens_encB | exact lens_encP) | (simp; done) | (simp only [List.length_take, List.length_map, List.length_append, maxLen_eq]; omega)) ?_); (try (with_reducible refine hK _ ?_; clear hK K)); (try with_reducible refine ite_conj ?_)))
      refine ⟨_, _, ih _ (Tm.lt_of_arg (mem_of_get ha)) a (by have := Tm.size_mem (mem_of_get ha); omega) rfl c (up1 a0) (Tm.mtL (p.args.take k) (t.args.take k) l).1 (upS S1) (up1_le a0) (by rw [upS_up, sa]; rfl), ?_⟩
      rw [← hstep]
      cases hb : (Tm.mtL (p.args.take (k + 1)) (t.args.take (k + 1)) l).2 with
      | true =>
        repeat' (first | (with_reducible first | refine Wa ?_ | refine Wb ?_ | refine Wc ?_ | refine Wd ?_ | refine We ?_ | refine Wf ?_ | refine Wg ?_ | refine Wh ?_ | refine Wi ?_ | refine Wj ?_ | refine Wk (by decide) ?_ | refine Wl ?_ | refine Wm ?_ | refine Wn ?_) | ((with_reducible first | refine Wo (fun K hK => ?_) | refine Wp ?_ | refine Wq ?_ | refine Wr ?_); (try simp only [go_sem, List.forall_mem_nil, ↓guard_ite, ↓pick_ite, seval, encT_eq, inR_i64, hb, e2, e3', e4', e44, e45, s3, s4, decide_eq_true_eq, decide_eq_false_iff_not, Int.ofNat_lt]); (repeat with_reducible refine And.intro (by first | omega | (with_reducible first | exact lens_encT | exact lens_encL | exact lens_encB | exact lens_encP) | (simp; done) | (simp only [List.length_take, List.length_map, List.length_append, maxLen_eq]; omega)) ?_); (try (with_reducible refine hK _ ?_; clear hK K)); (try with_reducible refine ite_conj ?_)))
        refine then_normal ⟨p.args.length - (k + 1), by omega, k + 1, by omega, rfl, hb, ?_⟩
        simp only [go_sem, List.forall_mem_nil, ↓guard_ite, ↓pick_ite, seval, encT_eq, inR_i64, e2, e3', e4', e44, s3, s4, d3, d4]
        refine ⟨by congr 3, fun i hi hne => ?_⟩
        simp only [go_sem, List.forall_mem_nil, ↓guard_ite, ↓pick_ite, seval, encT_eq, inR_i64, hne]
        exact hrest i hi hne
      | false =>
        have hno := Tm.mtL_no hlen hb
        repeat' (first | (with_reducible first | refine Wa ?_ | refine Wb ?_ | refine Wc ?_ | refine Wd ?_ | refine We ?_ | refine Wf ?_ | refine Wg ?_ | refine Wh ?_ | refine Wi ?_ | refine Wj ?_ | refine Wk (by decide) ?_ | refine Wl ?_ | refine Wm ?_ | refine Wn ?_) | ((with_reducible first | refine Wo (fun K hK => ?_) | refine Wp ?_ | refine Wq ?_ | refine Wr ?_); (try simp only [go_sem, List.forall_mem_nil, ↓guard_ite, ↓pick_ite, seval, encT_eq, inR_i64, hb, e2, e3', e4', e44, e45, s3, s4, decide_eq_true_eq, decide_eq_false_iff_not, Int.ofNat_lt]); (repeat with_reducible refine And.intro (by first | omega | (with_reducible first | exact lens_encT | exact lens_encL | exact lens_encB | exact lens_encP) | (simp; done) | (simp only [List.length_take, List.length_map, List.length_append, maxLen_eq]; omega)) ?_); (try (with_reducible refine hK _ ?_; clear hK K)); (try with_reducible refine ite_conj ?_)))
        rw [hknot, hno]
        refine hend false _ _ _ rfl (by simp only [go_sem, List.forall_mem_nil, ↓guard_ite, ↓pick_ite, seval, encT_eq, inR_i64]) fun i hi hne => ?_
        simp only [go_sem, List.forall_mem_nil, ↓guard_ite, ↓pick_ite, seval, encT_eq, inR_i64, hne]
        exact hrest i hi hne
    · rw [List.take_of_length_le (by omega), List.take_of_length_le (by omega)] at hok sa
      repeat' (first | (with_reducible first | refine Wa ?_ | refine Wb ?_ | refine Wc ?_ | refine Wd ?_ | refine We ?_ | refine Wf ?_ | refine Wg ?_ | refine Wh ?_ | refine Wi ?_ | refine Wj ?_ | refine Wk (by decide) ?_ | refine Wl ?_ | refine Wm ?_ | refine Wn ?_) | ((with_reducible first | refine Wo (fun K hK => ?_) | refine Wp ?_ | refine Wq ?_ | refine Wr ?_); (try simp only [go_sem, List.forall_mem_nil, ↓guard_ite, ↓pick_ite, seval, encT_eq, inR_i64, e44, e45, hlt, decide_eq_true_eq, decide_eq_false_iff_not, Int.ofNat_lt]); (repeat with_reducible refine And.intro (by first | omega | (with_reducible first | exact lens_encT | exact lens_encL | exact lens_encB | exact lens_encP) | (simp; done) | (simp only [List.length_take, List.length_map, List.length_append, maxLen_eq]; omega)) ?_); (try (with_reducible refine hK _ ?_; clear hK K)); (try with_reducible refine ite_conj ?_)))
      rw [hknot, hok]
      exact hend true _ _ _ rfl sa hrest

theorem sortB_perm_eq {l m : List Bd} (h : l.Perm m) (hn : Named m) : sortB l = sortB m :=
  ordered_unique (sortB_ordered (named_perm h.symm hn)) (sortB_ordered hn) ((sortB_perm l).trans (h.trans (sortB_perm m).symm))

theorem case_a (p t : Tm) (hp : p.size ≤ 100000) (ht : t.size ≤ 1000000) : ACalls Tryd.prog 46 [aTm p, aTm t] (.tup [aBds (caseOf p t), aBool (isCase p t)]) := by
  have hnm := mt_named p t
  have hml := mt_len p t
  have hms := mt_size p t
  refine ac_match_Case (Nat.le_of_ble_eq_true rfl) fun C hC => ?_
  unfold ir_match_Case
  repeat' (first | (with_reducible first | refine Wa ?_ | refine Wb ?_ | refine Wc ?_ | refine Wd ?_ | refine We ?_ | refine Wf ?_ | refine Wg ?_ | refine Wh ?_ | refine Wi ?_ | refine Wj ?_ | refine Wk (by decide) ?_ | refine Wl ?_ | refine Wm ?_ | refine Wn ?_) | ((with_reducible first | refine Wo (fun K hK => ?_) | refine Wp ?_ | refine Wq ?_ | refine Wr ?_); (try simp only [go_sem, List.forall_mem_nil, ↓guard_ite, ↓pick_ite, seval, encT_eq, inR_i64, decide_eq_true_eq, decide_eq_false_iff_not, Int.ofNat_lt]); (repeat with_reducible refine And.intro (by first | omega | (with_reducible first | exact lens_encT | exact lens_encL | exact lens_encB | exact lens_encP) | (simp; done) | (simp only [List.length_take, List.length_map, List.length_append, maxLen_eq]; omega)) ?_); (try (with_reducible refine hK _ ?_; clear hK K)); (try with_reducible refine ite_conj ?_)))
  refine ⟨_, _, into_M p (by omega) t (up1 10) [] _ (up1_le 10) (by rw [upS_up]; rfl), ?_⟩
  cases hc : (p.mt t []).2 with
  | false =>
    repeat' (first | (with_reducible first | refine Wa ?_ | refine Wb ?_ | refine Wc ?_ | refine Wd ?_ | refine We ?_ | refine Wf ?_ | refine Wg ?_ | refine Wh ?_ | refine Wi ?_ | refine Wj ?_ | refine Wk (by decide) ?_ | refine Wl ?_ | refine Wm ?_ | refine Wn ?_) | ((with_reducible first | refine Wo (fun K hK => ?_) | refine Wp ?_ | refine Wq ?_ | refine Wr ?_); (try simp only [go_sem, List.forall_mem_nil, ↓guard_ite, ↓pick_ite, seval, encT_eq, inR_i64, hc, decide_eq_true_eq, decide_eq_false_iff_not, Int.ofNat_lt]); (repeat with_reducible refine And.intro (by first | omega | (with_reducible first | exact lens_encT | exact lens_encL | exact lens_encB | exact lens_encP) | (simp; done) | (simp only [List.length_take, List.length_map, List.length_append, maxLen_eq]; omega)) ?_); (try (with_reducible refine hK _ ?_; clear hK K)); (try with_reducible refine ite_conj ?_)))
    simp only [go_sem, List.forall_mem_nil, ↓guard_ite, ↓pick_ite, seval, FinQ, AS.result, resAll, resOne, tupV]
    unfold caseOf isCase
    rw [hc]
    rfl
  | true =>
    have hca : caseOf p t = sortB (p.mt t []).1 := by unfold caseOf; rw [if_pos hc]
    have his : isCase p t = true := hc
    repeat' (first | (with_reducible first | refine Wa ?_ | refine Wb ?_ | refine Wc ?_ | refine Wd ?_ | refine We ?_ | refine Wf ?_ | refine Wg ?_ | refine Wh ?_ | refine Wi ?_ | refine Wj ?_ | refine Wk (by decide) ?_ | refine Wl ?_ | refine Wm ?_ | refine Wn ?_) | ((with_reducible first | refine Wo (fun K hK => ?_) | refine Wp ?_ | refine Wq ?_ | refine Wr ?_); (try simp only [go_sem, List.forall_mem_nil, ↓guard_ite, ↓pick_ite, seval, encT_eq, inR_i64, hc, mapOf, decide_eq_true_eq, decide_eq_false_iff_not, Int.ofNat_lt]); (repeat with_reducible refine And.intro (by first | omega | (with_reducible first | exact lens_encT | exact lens_encL | exact lens_encB | exact lens_encP) | (simp; done) | (simp only [List.length_take, List.length_map, List.length_append, maxLen_eq]; omega)) ?_); (try (with_reducible refine hK _ ?_; clear hK K)); (try with_reducible refine ite_conj ?_)))
    rw [hca, his]
    generalize (p.mt t []).1 = l at *
    refine IWP.ghost (Ghost.ownM 7 500 36 3 (by rfl) (by rfl) (by rw [hC]; decide)) ?_
    refine IWP.loopD [9] (fun m x => ∃ seen : List Nat, seen.Nodup ∧ (∀ j ∈ seen, j < l.length) ∧ m = l.length - seen.length ∧ x.env 7 = .one (.row 500 seen.length) ∧ x.env 17 = .one (.ptr 17 1 0 0) ∧ x.S 10 = some (mapB l) ∧ x.S 17 = some (.iter (.mptr 10) l.length seen) ∧ x.S 500 = some (rowBd (met l seen)) ∧ x.S 9 = none) l.length ⟨[], List.nodup_nil, by simp, rfl, rfl, rfl, by simp only [go_sem, List.forall_mem_nil, ↓guard_ite, ↓pick_ite, seval, encT_eq, inR_i64], by simp only [go_sem, List.forall_mem_nil, ↓guard_ite, ↓pick_ite, seval, encT_eq, inR_i64], rfl, rfl⟩ ?_
    rintro m ⟨env, S⟩ ⟨seen, hnd, hlt, rfl, e7, e17, s10, s17, s500, s9⟩
    simp only at e7 e17 s10 s17 s500 s9
    have hsl := seen_len hnd hlt
    have hmt := met_len hlt
    repeat' (first | (with_reducible first | refine Wa ?_ | refine Wb ?_ | refine Wc ?_ | refine Wd ?_ | refine We ?_ | refine Wf ?_ | refine Wg ?_ | refine Wh ?_ | refine Wi ?_ | refine Wj ?_ | refine Wk (by decide) ?_ | refine Wl ?_ | refine Wm ?_ | refine Wn ?_) | ((with_reducible first | refine Wo (fun K hK => ?_) | refine Wp ?_ | refine Wq ?_ | refine Wr ?_); (try simp only [go_sem, List.forall_mem_nil, ↓guard_ite, ↓pick_ite, seval, encT_eq, inR_i64, e7, e17, s10, s17, iterOf, decide_eq_true_eq, decide_eq_false_iff_not, Int.ofNat_lt]); (repeat with_reducible refine And.intro (by first | omega | (with_reducible first | exact lens_encT | exact lens_encL | exact lens_encB | exact lens_encP) | (simp; done) | (simp only [List.length_take, List.length_map, List.length_append, maxLen_eq]; omega)) ?_); (try (with_reducible refine hK _ ?_; clear hK K)); (try with_reducible refine ite_conj ?_)))
    refine ⟨fun hall => ?_, fun j x c hx hj hkv => ?_⟩
    · have hmp := met_perm hnd hlt hall
      have hl' : seen.length = l.length := by rw [← hmt]; exact hmp.length_eq
      refine hK _ ?_
      clear hK K
      refine Wb ?_
      refine Wa ?_
      with_reducible refine Wp ?_
      simp only [go_sem, List.forall_mem_nil, ↓guard_ite, ↓pick_ite, seval, true_implies, false_implies, implies_true, decide_eq_true_eq, decide_eq_false_iff_not, Int.ofNat_lt]
      (try with_reducible refine ite_conj ?_)
      repeat' (with_reducible first | refine Wb ?_ | refine Wc ?_ | refine Wd ?_ | refine We ?_ | refine Wg ?_ | refine Wh ?_ | refine Wi ?_ | refine Wj ?_ | refine Wk (by decide) ?_ | refine Wl ?_ | refine Wm ?_ | refine Wn ?_)
      refine IWP.mid (fun x => x.env 4 = .one (.row 500 l.length) ∧ x.env 5 = aBool true ∧ x.S 500 = some (rowBd (sortB l))) ?_ ?_
      · have hs := sort_M (met l seen) (named_perm hmp.symm hnm) (by omega) (up1 500) (up1_le 500) (upS S) (by rw [upS_up, s500]; rfl)
        rw [hmt, hl', sortB_perm_eq hmp hnm] at hs
        rw [hl'] at e7
        repeat' (first | (with_reducible first | refine Wa ?_ | refine Wb ?_ | refine Wc ?_ | refine Wd ?_ | refine We ?_ | refine Wf ?_ | refine Wg ?_ | refine Wh ?_ | refine Wi ?_ | refine Wj ?_ | refine Wk (by decide) ?_ | refine Wl ?_ | refine Wm ?_ | refine Wn ?_) | ((with_reducible first | refine Wo (fun K hK => ?_) | refine Wq ?_ | refine Wr ?_); (try simp only [go_sem, List.forall_mem_nil, ↓guard_ite, ↓pick_ite, seval, encT_eq, inR_i64, e7]); (repeat with_reducible refine And.intro (by first | omega | (with_reducible first | exact lens_encT | exact lens_encL | exact lens_encB | exact lens_encP) | (simp; done) | (simp only [List.length_take, List.length_map, List.length_append, maxLen_eq]; omega)) ?_); (try (with_reducible refine hK _ ?_; clear hK K))))
        refine ⟨_, _, hs, ?_⟩
        repeat' (first | (with_reducible first | refine Wa ?_ | refine Wb ?_ | refine Wc ?_ | refine Wd ?_ | refine We ?_ | refine Wf ?_ | refine Wg ?_ | refine Wh ?_ | refine Wi ?_ | refine Wj ?_ | refine Wk (by decide) ?_ | refine Wl ?_ | refine Wm ?_ | refine Wn ?_) | ((with_reducible first | refine Wo (fun K hK => ?_) | refine Wq ?_ | refine Wr ?_); (try simp only [go_sem, List.forall_mem_nil, ↓guard_ite, ↓pick_ite, seval, encT_eq, inR_i64, e7]); (repeat with_reducible refine And.intro (by first | omega | (with_reducible first | exact lens_encT | exact lens_encL | exact lens_encB | exact lens_encP) | (simp; done) | (simp only [List.length_take, List.length_map, List.length_append, maxLen_eq]; omega)) ?_); (try (with_reducible refine hK _ ?_; clear hK K))))
        refine ⟨rfl, ?_⟩
        simp only [go_sem, List.forall_mem_nil, ↓guard_ite, ↓pick_ite, seval, encT_eq, inR_i64]
      rintro ⟨env, S⟩ ⟨e4, e5, s500⟩
      simp only at e4 e5 s500
      refine IWP.ghost (Ghost.share (id := 500) s500) ?_
      repeat' (first | (with_reducible first | refine Wa ?_ | refine Wb ?_ | refine Wc ?_ | refine Wd ?_ | refine We ?_ | refine Wf ?_ | refine Wg ?_ | refine Wh ?_ | refine Wi ?_ | refine Wj ?_ | refine Wk (by decide) ?_ | refine Wl ?_ | refine Wm ?_ | refine Wn ?_) | ((with_reducible first | refine Wo (fun K hK => ?_) | refine Wq ?_ | refine Wr ?_); (try simp only [go_sem, List.forall_mem_nil, ↓guard_ite, ↓pick_ite, seval, encT_eq, inR_i64]); (repeat with_reducible refine And.intro (by first | omega | (with_reducible first | exact lens_encT | exact lens_encL | exact lens_encB | exact lens_encP) | (simp; done) | (simp only [List.length_take, List.length_map, List.length_append, maxLen_eq]; omega)) ?_); (try (with_reducible refine hK _ ?_; clear hK K))))
      simp only [go_sem, List.forall_mem_nil, ↓guard_ite, ↓pick_ite, seval, FinQ, AS.result, resAll, resOne, tupV, e4, e5, sortB_length]
    · rw [Option.map_eq_some_iff] at hx
      obtain ⟨b, hb, rfl⟩ := hx
      have hbz := hms b (mem_of_get hb)
      have hjl : j < l.length := by
        rcases Nat.lt_or_ge j l.length with h | h
        · exact h
        · rw [List.getElem?_eq_none h] at hb; cases hb
      have hcv : c = .str b.1 := by
        have : some (SV.str b.1) = some c := hkv
        cases this
        rfl
      subst hcv
      have hnd' : (seen ++ [j]).Nodup := by
        rw [List.nodup_append]
        exact ⟨hnd, by simp, fun a ha b hb e => hj (by rw [List.mem_singleton.1 hb] at e; rw [← e]; exact ha)⟩
      have hlt' : ∀ i ∈ seen ++ [j], i < l.length := fun i hi => by
        rcases List.mem_append.1 hi with h | h
        · exact hlt i h
        · rw [List.mem_singleton.1 h]; exact hjl
      have hsl' := seen_len hnd' hlt'
      rw [List.length_append, List.length_singleton] at hsl'
      refine hK _ ?_
      clear hK K
      refine Wb ?_
      repeat' (first | (with_reducible first | refine Wa ?_ | refine Wb ?_ | refine Wc ?_ | refine Wd ?_ | refine We ?_ | refine Wf ?_ | refine Wg ?_ | refine Wh ?_ | refine Wi ?_ | refine Wj ?_ | refine Wk (by decide) ?_ | refine Wl ?_ | refine Wm ?_ | refine Wn ?_) | refine CallG.mk _ (copy_a b.2 (by omega)) ?_ | ((with_reducible first | refine Wo (fun K hK => ?_) | refine Wp ?_ | refine Wq ?_ | refine Wr ?_); (try simp only [go_sem, List.forall_mem_nil, ↓guard_ite, ↓pick_ite, seval, encT_eq, inR_i64, e7, e17, s10, s17, s500, s9, iterOf, List.getLast?_concat, hb, entB, KV.sv, hmt, encB, decide_eq_true_eq, decide_eq_false_iff_not, Int.ofNat_lt]); (repeat with_reducible refine And.intro (by first | omega | (with_reducible first | exact lens_encT | exact lens_encL | exact lens_encB | exact lens_encP) | (simp; done) | (simp only [List.length_take, List.length_map, List.length_append, maxLen_eq]; omega)) ?_); (try (with_reducible refine hK _ ?_; clear hK K)); (try with_reducible refine ite_conj ?_)))
      refine then_normal ⟨l.length - (seen.length + 1), by omega, seen ++ [j], hnd', hlt', by rw [List.length_append, List.length_singleton], ?_⟩
      rw [met_snoc hb]
      simp only [go_sem, List.forall_mem_nil, ↓guard_ite, ↓pick_ite, seval, AS.drop, dropS, AC.clears, AC.clear, AC.highs, AC.high, Bool.not_false, Bool.true_and, Bool.and_self, AV.purge, AV.purges, AC.purge, ABlk.purge, List.contains_cons, List.contains_nil, Nat.reduceBEq, Bool.or_self, Bool.or_false, Bool.false_or, Bool.or_true, encT_eq, inR_i64, e7, e17, s10, s500]
      show ABlk.mrow _ _ ((met l seen).map encB ++ [encB b]) = rowBd _
      rw [rowBd, List.map_append]
      rfl
end Go.Proofs.YtdmgelbbjppgkaaDoor

namespace Go.Proofs.YtdmgelbbjppgkaaDoor
open Go Go.RowKit
set_option linter.unusedVariables false
set_option linter.unusedSimpArgs false
set_option maxHeartbeats 1000000

abbrev arowB (l : List Bd) : ABlk := .arow 36 3 (l.map encB)
/-- What the document's matching hands back, where its row is the block i. -/
def mtV (i : Nat) (p t : Tm) (l : List Bd) : AV := if (isVar p.name || (p.mt t l).2) = true then .one (.row i (p.mt t l).1.length) else .one (.full [])
theorem mtV_yes {i : Nat} {p t : Tm} {l : List Bd} (h : (p.mt t l).2 = true) : mtV i p t l = .one (.row i (p.mt t l).1.length) := by unfold mtV; rw [h, Bool.or_true, if_pos rfl]
theorem mtV_var {i : Nat} {p t : Tm} {l : List Bd} (h : isVar p.name = true) : mtV i p t l = .one (.row i (p.mt t l).1.length) := by unfold mtV; rw [h, Bool.true_or, if_pos rfl]
theorem mtV_no {i : Nat} {p t : Tm} {l : List Bd} (hv : isVar p.name = false) (h : (p.mt t l).2 = false) : mtV i p t l = .one (.full []) := by unfold mtV; rw [h, hv]; rfl
theorem lowS_one {S S1 : AStore} {a0 : Nat} {b : ABlk} (hS : Clean S) (ha : 1000 ≤ a0) (h1 : S1 a0 = some b) (h2 : ∀ i, 100 ≤ i → i ≠ a0 → S1 i = S i) : lowS S1 = updE S a0 (some b) := lowS_is hS ha h1 fun i hi hne => h2 i (by omega) hne
mutual
theorem Tm.knots_size : ∀ (t c : Tm), c ∈ t.knots → c.size ≤ t.size
  | .mk n xs, c, h => by
    rw [Tm.knots, List.mem_cons] at h
    rcases h with rfl | h
    · exact Nat.le_refl _
    · have := Tm.knotsL_size xs c h
      rw [Tm.size]
      omega
theorem Tm.knotsL_size : ∀ (xs : List Tm) (c : Tm), c ∈ Tm.knotsL xs → c.size ≤ Tm.sizes xs
  | [], c, h => by simp [Tm.knotsL] at h
  | t :: ts, c, h => by
    rw [Tm.knotsL, List.mem_append] at h
    rw [Tm.sizes]
    rcases h with h | h
    · have := Tm.knots_size t c h
      omega
    · have := Tm.knotsL_size ts c h
      omega
end
end Go.Proofs.YtdmgelbbjppgkaaDoor

namespace Go.Proofs.YtdmgelbbjppgkaaDoor
open Go Go.RowKit
set_option linter.unusedVariables false
set_option linter.unusedSimpArgs false
set_option maxHeartbeats 1000000

theorem match_a (p t : Tm) : ACalls Tryd.prog 23 [aTm p, aTm t] (.tup [aBds (if twoMay p t = 0 then caseOf p t else []), aBool (decide (twoMay p t = 0) && isCase p t), aInt (twoMay p t)]) := by
  refine ac_match_Match (Nat.le_of_ble_eq_true rfl) fun C hC => ?_
  unfold ir_match_Match
  by_cases h : twoMay p t = 0
  · obtain ⟨h1, h2⟩ := twoMay_zero h
    have z1 := (Tm.may_chk h1).2
    have z2 := (Tm.may_chk h2).2
    repeat' (first | (with_reducible first | refine Wa ?_ | refine Wb ?_ | refine Wc ?_ | refine Wd ?_ | refine We ?_ | refine Wf ?_ | refine Wg ?_ | refine Wh ?_ | refine Wi ?_ | refine Wj ?_ | refine Wk (by decide) ?_ | refine Wl ?_ | refine Wm ?_ | refine Wn ?_) | refine CallG.mk _ (both_a p t) ?_ | refine CallG.mk _ (case_a p t (by omega) (by omega)) ?_ | ((with_reducible first | refine Wo (fun K hK => ?_) | refine Wp ?_ | refine Wq ?_ | refine Wr ?_); (try simp only [go_sem, List.forall_mem_nil, ↓guard_ite, ↓pick_ite, seval, encT_eq, inR_i64, h, decide_eq_true_eq, decide_eq_false_iff_not, Int.ofNat_lt]); (repeat with_reducible refine And.intro (by first | omega | (with_reducible first | exact lens_encT | exact lens_encL | exact lens_encB | exact lens_encP) | (simp; done) | (simp only [List.length_take, List.length_map, List.length_append, maxLen_eq]; omega)) ?_); (try (with_reducible refine hK _ ?_; clear hK K)); (try with_reducible refine ite_conj ?_)))
    simp only [go_sem, List.forall_mem_nil, ↓guard_ite, ↓pick_ite, seval, FinQ, AS.result, resAll, resOne, tupV, h]
    try rfl
  · repeat' (first | (with_reducible first | refine Wa ?_ | refine Wb ?_ | refine Wc ?_ | refine Wd ?_ | refine We ?_ | refine Wf ?_ | refine Wg ?_ | refine Wh ?_ | refine Wi ?_ | refine Wj ?_ | refine Wk (by decide) ?_ | refine Wl ?_ | refine Wm ?_ | refine Wn ?_) | refine CallG.mk _ (both_a p t) ?_ | ((with_reducible first | refine Wo (fun K hK => ?_) | refine Wp ?_ | refine Wq ?_ | refine Wr ?_); (try simp only [go_sem, List.forall_mem_nil, ↓guard_ite, ↓pick_ite, seval, encT_eq, inR_i64, h, decide_eq_true_eq, decide_eq_false_iff_not, Int.ofNat_lt]); (repeat with_reducible refine And.intro (by first | omega | (with_reducible first | exact lens_encT | exact lens_encL | exact lens_encB | exact lens_encP) | (simp; done) | (simp only [List.length_take, List.length_map, List.length_append, maxLen_eq]; omega)) ?_); (try (with_reducible refine hK _ ?_; clear hK K)); (try with_reducible refine ite_conj ?_)))
    simp only [go_sem, List.forall_mem_nil, ↓guard_ite, ↓pick_ite, seval, FinQ, AS.result, resAll, resOne, tupV, h]
    rfl
theorem variant_a (a b : Tm) : ACalls Tryd.prog 25 [aTm a, aTm b] (.tup [aBool (decide (twoMay a b = 0) && (isCase a b && isCase b a)), aInt (twoMay a b)]) := by
  refine ac_match_Variant (Nat.le_of_ble_eq_true rfl) fun C hC => ?_
  unfold ir_match_Variant
  by_cases h : twoMay a b = 0
  · obtain ⟨h1, h2⟩ := twoMay_zero h
    have z1 := (Tm.may_chk h1).2
    have z2 := (Tm.may_chk h2).2
    cases k1 : isCase a b <;> cases k2 : isCase b a
    all_goals
      repeat' (first | (with_reducible first | refine Wa ?_ | refine Wb ?_ | refine Wc ?_ | refine Wd ?_ | refine We ?_ | refine Wf ?_ | refine Wg ?_ | refine Wh ?_ | refine Wi ?_ | refine Wj ?_ | refine Wk (by decide) ?_ | refine Wl ?_ | refine Wm ?_ | refine Wn ?_) | refine CallG.mk _ (both_a a b) ?_ | refine CallG.mk _ (case_a a b (by omega) (by omega)) ?_ | refine CallG.mk _ (case_a b a (by omega) (by omega)) ?_ | ((with_reducible first | refine Wo (fun K hK => ?_) | refine Wp ?_ | refine Wq ?_ | refine Wr ?_); (try simp only [go_sem, List.forall_mem_nil, ↓guard_ite, ↓pick_ite, seval, encT_eq, inR_i64, h, k1, k2, decide_eq_true_eq, decide_eq_false_iff_not, Int.ofNat_lt]); (repeat with_reducible refine And.intro (by first | omega | (with_reducible first | exact lens_encT | exact lens_encL | exact lens_encB | exact lens_encP) | (simp; done) | (simp only [List.length_take, List.length_map, List.length_append, maxLen_eq]; omega)) ?_); (try (with_reducible refine hK _ ?_; clear hK K)); (try with_reducible refine ite_conj ?_)))
      simp only [go_sem, List.forall_mem_nil, ↓guard_ite, ↓pick_ite, seval, FinQ, AS.result, resAll, resOne, tupV, h]
      try rfl
  · repeat' (first | (with_reducible first | refine Wa ?_ | refine Wb ?_ | refine Wc ?_ | refine Wd ?_ | refine We ?_ | refine Wf ?_ | refine Wg ?_ | refine Wh ?_ | refine Wi ?_ | refine Wj ?_ | refine Wk (by decide) ?_ | refine Wl ?_ | refine Wm ?_ | refine Wn ?_) | refine CallG.mk _ (both_a a b) ?_ | ((with_reducible first | refine Wo (fun K hK => ?_) | refine Wp ?_ | refine Wq ?_ | refine Wr ?_); (try simp only [go_sem, List.forall_mem_nil, ↓guard_ite, ↓pick_ite, seval, encT_eq, inR_i64, h, decide_eq_true_eq, decide_eq_false_iff_not, Int.ofNat_lt]); (repeat with_reducible refine And.intro (by first | omega | (with_reducible first | exact lens_encT | exact lens_encL | exact lens_encB | exact lens_encP) | (simp; done) | (simp only [List.length_take, List.length_map, List.length_append, maxLen_eq]; omega)) ?_); (try (with_reducible refine hK _ ?_; clear hK K)); (try with_reducible refine ite_conj ?_)))
    simp only [go_sem, List.forall_mem_nil, ↓guard_ite, ↓pick_ite, seval, FinQ, AS.result, resAll, resOne, tupV, h]
    try rfl
end Go.Proofs.YtdmgelbbjppgkaaDoor
