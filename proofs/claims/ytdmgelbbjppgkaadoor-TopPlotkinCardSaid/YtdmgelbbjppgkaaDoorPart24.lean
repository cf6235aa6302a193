/-
  Part 24 of the texts: BMaker; BApplyY; TopPlotkin. Conditions: none.
-/
import Derived.Test.YtdmgelbbjppgkaaDoorPart23
namespace Go.Proofs.YtdmgelbbjppgkaaDoor
open Go Go.RowKit
set_option linter.unusedVariables false
set_option linter.unusedSimpArgs false
set_option maxHeartbeats 800000

/-- A term copied while so many knots are left: the term, and what is left; too great: nothing, and -1. -/
def fitIn (u : Tm) (left : Int) : Tm × Int := if (u.size : Int) ≤ left then (u, left - u.size) else (Tm.nil, -1)
def turned (s : List Bd) (turn : Bool) (t : Tm) : Tm := if turn then t.on s else t
abbrev mkBlk (s : List Bd) (left : Int) : ABlk := .box 90 [.st (.list (s.map encB)), .st (.int .i64 left)]
theorem fitIn_yes {u : Tm} {left : Int} (h : (u.size : Int) ≤ left) : fitIn u left = (u, left - u.size) := if_pos h
theorem fitIn_no {u : Tm} {left : Int} (h : ¬ (u.size : Int) ≤ left) : fitIn u left = (Tm.nil, -1) := if_neg h
theorem copy_core (s : List Bd) (h40 : s.length ≤ 100000) (ho : Ordered s) (turn : Bool) (f : Tm → Tm) (t : Tm) (hl : turn = true → lookup s t.name = none)
    (ih : ∀ a ∈ t.args, ∀ (a0 : Nat) (left : Int) (S : AStore), 1000 ≤ a0 → 0 ≤ left → left ≤ 1000000 → S a0 = some (mkBlk s left) →
      ACallsS Tryd.prog 60 [.one (.ptr a0 1 0 0), aTm a, aBool turn] S (aTm (fitIn (f a) left).1) (updE S a0 (some (mkBlk s (fitIn (f a) left).2))))
    (a0 : Nat) (left : Int) (S : AStore) (ha0 : 1000 ≤ a0) (h0 : 0 ≤ left) (h1 : left ≤ 1000000) (hSa : S a0 = some (mkBlk s left)) :
    ACallsS Tryd.prog 60 [.one (.ptr a0 1 0 0), aTm t, aBool turn] S (aTm (fitIn (.mk t.name (t.args.map f)) left).1) (updE S a0 (some (mkBlk s (fitIn (.mk t.name (t.args.map f)) left).2))) := by
  refine acS_metaprune_subst_maker_copy (Nat.le_of_ble_eq_true rfl) fun hS C hC => ?_
  have hu : (Tm.mk t.name (t.args.map f)).size = 1 + Tm.sizes (t.args.map f) := rfl
  have hlen := Tm.length_le (t.args.map f)
  rw [List.length_map] at hlen
  have n4 : S 4 = none := clean_none hS (by omega)
  have n6 : S 6 = none := clean_none hS (by omega)
  have n7 : S 7 = none := clean_none hS (by omega)
  have n9 : S 9 = none := clean_none hS (by omega)
  have n11 : S 11 = none := clean_none hS (by omega)
  have n900 : S 900 = none := clean_none hS (by omega)
  have d4 : ¬ 4 = a0 := by omega
  have d6 : ¬ 6 = a0 := by omega
  have d7 : ¬ 7 = a0 := by omega
  have d9 : ¬ 9 = a0 := by omega
  have d11 : ¬ 11 = a0 := by omega
  have d900 : ¬ 900 = a0 := by omega
  have e4 : ¬ a0 = 4 := by omega
  have e6 : ¬ a0 = 6 := by omega
  have e7 : ¬ a0 = 7 := by omega
  have e9 : ¬ a0 = 9 := by omega
  have e11 : ¬ a0 = 11 := by omega
  have e900 : ¬ a0 = 900 := by omega
  unfold ir_metaprune_subst_maker_copy
  cases turn
  case' false =>
    repeat' (first | (with_reducible first | refine Wa ?_ | refine Wb ?_ | refine Wc ?_ | refine Wd ?_ | refine We ?_ | refine Wf ?_ | refine Wg ?_ | refine Wh ?_ | refine Wi ?_ | refine Wj ?_ | refine Wk (by decide) ?_ | refine Wl ?_ | refine Wm ?_ | refine Wn ?_) | ((with_reducible first | refine Wo (fun K hK => ?_) | refine Wq ?_ | refine Wr ?_); (try simp only [go_sem, List.forall_mem_nil, ↓guard_ite, ↓pick_ite, seval, encT_eq, inR_i64, hSa, n4, n6, n7, d4, d6, d7, e4, e6, e7]); (repeat with_reducible refine And.intro (by first | omega | (with_reducible first | exact lens_encT | exact lens_encL | exact lens_encB | exact lens_encP) | (simp; done) | (simp only [List.length_take, List.length_map, List.length_append, maxLen_eq]; omega)) ?_); (try (with_reducible refine hK _ ?_; clear hK K))))
    with_reducible refine Wp ?_
    simp only [go_sem, List.forall_mem_nil, ↓guard_ite, ↓pick_ite, seval, true_implies, false_implies, implies_true, decide_eq_true_eq, decide_eq_false_iff_not, Int.ofNat_lt]
    (try with_reducible refine ite_conj ?_)
    repeat' (first | (with_reducible first | refine Wa ?_ | refine Wb ?_ | refine Wc ?_ | refine Wd ?_ | refine We ?_ | refine Wf ?_ | refine Wg ?_ | refine Wh ?_ | refine Wi ?_ | refine Wj ?_ | refine Wk (by decide) ?_ | refine Wl ?_ | refine Wm ?_ | refine Wn ?_) | ((with_reducible first | refine Wo (fun K hK => ?_) | refine Wq ?_ | refine Wr ?_); (try simp only [go_sem, List.forall_mem_nil, ↓guard_ite, ↓pick_ite, seval, encT_eq, inR_i64, hSa, n4, n6, n7, n9, d4, d6, d7, d9, e4, e6, e7, e9]); (repeat with_reducible refine And.intro (by first | omega | (with_reducible first | exact lens_encT | exact lens_encL | exact lens_encB | exact lens_encP) | (simp; done) | (simp only [List.length_take, List.length_map, List.length_append, maxLen_eq]; omega)) ?_); (try (with_reducible refine hK _ ?_; clear hK K))))
  case' true =>
    have hln := hl rfl
    repeat' (first | (with_reducible first | refine Wa ?_ | refine Wb ?_ | refine Wc ?_ | refine Wd ?_ | refine We ?_ | refine Wf ?_ | refine Wg ?_ | refine Wh ?_ | refine Wi ?_ | refine Wj ?_ | refine Wk (by decide) ?_ | refine Wl ?_ | refine Wm ?_ | refine Wn ?_) | ((with_reducible first | refine Wo (fun K hK => ?_) | refine Wq ?_ | refine Wr ?_); (try simp only [go_sem, List.forall_mem_nil, ↓guard_ite, ↓pick_ite, seval, encT_eq, inR_i64, hSa, n4, n6, n7, d4, d6, d7, e4, e6, e7]); (repeat with_reducible refine And.intro (by first | omega | (with_reducible first | exact lens_encT | exact lens_encL | exact lens_encB | exact lens_encP) | (simp; done) | (simp only [List.length_take, List.length_map, List.length_append, maxLen_eq]; omega)) ?_); (try (with_reducible refine hK _ ?_; clear hK K))))
    with_reducible refine Wp ?_
    simp only [go_sem, List.forall_mem_nil, ↓guard_ite, ↓pick_ite, seval, true_implies, false_implies, implies_true, decide_eq_true_eq, decide_eq_false_iff_not, Int.ofNat_lt]
    (try with_reducible refine ite_conj ?_)
    repeat' (first | (with_reducible first | refine Wa ?_ | refine Wb ?_ | refine Wc ?_ | refine Wd ?_ | refine We ?_ | refine Wf ?_ | refine Wg ?_ | refine Wh ?_ | refine Wi ?_ | refine Wj ?_ | refine Wk (by decide) ?_ | refine Wl ?_ | refine Wm ?_ | refine Wn ?_) | refine CallG.mk _ (find_a s h40 ho t.name) ?_ | ((with_reducible first | refine Wo (fun K hK => ?_) | refine Wq ?_ | refine Wr ?_); (try simp only [go_sem, List.forall_mem_nil, ↓guard_ite, ↓pick_ite, seval, encT_eq, inR_i64, hSa, n4, n6, n7, d4, d6, d7, e4, e6, e7, hln]); (repeat with_reducible refine And.intro (by first | omega | (with_reducible first | exact lens_encT | exact lens_encL | exact lens_encB | exact lens_encP) | (simp; done) | (simp only [List.length_take, List.length_map, List.length_append, maxLen_eq]; omega)) ?_); (try (with_reducible refine hK _ ?_; clear hK K))))
    with_reducible refine Wp ?_
    simp only [go_sem, List.forall_mem_nil, ↓guard_ite, ↓pick_ite, seval, true_implies, false_implies, implies_true, decide_eq_true_eq, decide_eq_false_iff_not, Int.ofNat_lt]
    (try with_reducible refine ite_conj ?_)
    repeat' (first | (with_reducible first | refine Wa ?_ | refine Wb ?_ | refine Wc ?_ | refine Wd ?_ | refine We ?_ | refine Wf ?_ | refine Wg ?_ | refine Wh ?_ | refine Wi ?_ | refine Wj ?_ | refine Wk (by decide) ?_ | refine Wl ?_ | refine Wm ?_ | refine Wn ?_) | ((with_reducible first | refine Wo (fun K hK => ?_) | refine Wq ?_ | refine Wr ?_); (try simp only [go_sem, List.forall_mem_nil, ↓guard_ite, ↓pick_ite, seval, encT_eq, inR_i64, hSa, n4, n6, n7, n9, d4, d6, d7, d9, e4, e6, e7, e9]); (repeat with_reducible refine And.intro (by first | omega | (with_reducible first | exact lens_encT | exact lens_encL | exact lens_encB | exact lens_encP) | (simp; done) | (simp only [List.length_take, List.length_map, List.length_append, maxLen_eq]; omega)) ?_); (try (with_reducible refine hK _ ?_; clear hK K))))
  all_goals
    by_cases hz : left = 0
    · subst hz
      have hno : ¬ ((Tm.mk t.name (t.args.map f)).size : Int) ≤ 0 := by rw [hu]; omega
      rw [fitIn_no hno]
      with_reducible refine Wp ?_
      simp only [go_sem, List.forall_mem_nil, ↓guard_ite, ↓pick_ite, seval, true_implies, false_implies, implies_true, decide_eq_true_eq, decide_eq_false_iff_not, Int.ofNat_lt]
      (try with_reducible refine ite_conj ?_)
      repeat' (first | (with_reducible first | refine Wa ?_ | refine Wb ?_ | refine Wc ?_ | refine Wd ?_ | refine We ?_ | refine Wf ?_ | refine Wg ?_ | refine Wh ?_ | refine Wi ?_ | refine Wj ?_ | refine Wk (by decide) ?_ | refine Wl ?_ | refine Wm ?_ | refine Wn ?_) | ((with_reducible first | refine Wo (fun K hK => ?_) | refine Wq ?_ | refine Wr ?_); (try simp only [go_sem, List.forall_mem_nil, ↓guard_ite, ↓pick_ite, seval, encT_eq, inR_i64, hSa, n4, n6, n7, n9, d4, d6, d7, d9, e4, e6, e7, e9]); (repeat with_reducible refine And.intro (by first | omega | (with_reducible first | exact lens_encT | exact lens_encL | exact lens_encB | exact lens_encP) | (simp; done) | (simp only [List.length_take, List.length_map, List.length_append, maxLen_eq]; omega)) ?_); (try (with_reducible refine hK _ ?_; clear hK K))))
      refine finS_one (.agg [.st (.str ⟨#[]⟩), .full []]) hS ha0 rfl trivial ?_ ?_ ?_ fun i hi hne => ?_
      · simp only [go_sem, List.forall_mem_nil, ↓guard_ite, ↓pick_ite, seval, encT_eq, inR_i64, resAll, resOne, tupV, e4, e6, e7, e9, d4, d6, d7, d9]
      · simp only [go_sem, List.forall_mem_nil, ↓guard_ite, ↓pick_ite, seval, encT_eq, inR_i64, Tm.nil]
        rfl
      · simp only [go_sem, List.forall_mem_nil, ↓guard_ite, ↓pick_ite, seval, encT_eq, inR_i64, e4, e6, e7, e9]
      · have i4 : ¬ i = 4 := by omega
        have i6 : ¬ i = 6 := by omega
        have i7 : ¬ i = 7 := by omega
        simp only [go_sem, List.forall_mem_nil, ↓guard_ite, ↓pick_ite, seval, encT_eq, inR_i64, i4, i6, i7, hne]
    have hz' : ¬ left - 1 < 0 := by omega
    with_reducible refine Wp ?_
    simp only [go_sem, List.forall_mem_nil, ↓guard_ite, ↓pick_ite, seval, true_implies, false_implies, implies_true, decide_eq_true_eq, decide_eq_false_iff_not, Int.ofNat_lt, hz']
    (try with_reducible refine ite_conj ?_)
    repeat' (first | (with_reducible first | refine Wa ?_ | refine Wb ?_ | refine Wc ?_ | refine Wd ?_ | refine We ?_ | refine Wf ?_ | refine Wg ?_ | refine Wh ?_ | refine Wi ?_ | refine Wj ?_ | refine Wk (by decide) ?_ | refine Wl ?_ | refine Wm ?_ | refine Wn ?_) | ((with_reducible first | refine Wo (fun K hK => ?_) | refine Wq ?_ | refine Wr ?_); (try simp only [go_sem, List.forall_mem_nil, ↓guard_ite, ↓pick_ite, seval, encT_eq, inR_i64, hSa, n4, n6, n7, n9, d4, d6, d7, d9, e4, e6, e7, e9]); (repeat with_reducible refine And.intro (by first | omega | (with_reducible first | exact lens_encT | exact lens_encL | exact lens_encB | exact lens_encP) | (simp; done) | (simp only [List.length_take, List.length_map, List.length_append, maxLen_eq]; omega)) ?_); (try (with_reducible refine hK _ ?_; clear hK K))))
    refine IWP.ghost (Ghost.ownC 9 1 900 24 2 (xs := ([] : List Tm).map encT) (by simp only [go_sem, List.forall_mem_nil, ↓guard_ite, ↓pick_ite, seval, encT_eq, inR_i64, d9, d4, d6, d7, e9]; rfl) rfl (by simp only [go_sem, List.forall_mem_nil, ↓guard_ite, ↓pick_ite, seval, encT_eq, inR_i64, n900, d900]) lens_encT) ?_
    refine IWP.loopD [11] (fun m x => ∃ k, k ≤ t.args.length ∧ m = t.args.length - k ∧ (Tm.sizes ((t.args.take k).map f) : Int) ≤ left - 1 ∧ x.env 0 = .one (.ptr a0 1 0 0) ∧ x.env 2 = aBool _ ∧ x.env 6 = .one (.ptr 6 1 0 0) ∧ x.env 9 = .one (.ptr 9 1 0 0) ∧ x.env 44 = .one (.st (.list (t.args.map encT))) ∧ x.env 45 = aInt t.args.length ∧ x.env 46 = aInt k ∧
        x.S 6 = some (.box 24 [.st (.str ⟨#[]⟩), .full []]) ∧ x.S 9 = some (.box 24 [.st (.str t.name), .row 900 k]) ∧ x.S 900 = some (.arow 24 2 (((t.args.take k).map f).map encT)) ∧ x.S 11 = none ∧ x.S a0 = some (mkBlk s (left - 1 - Tm.sizes ((t.args.take k).map f))) ∧ ∀ i, 1000 ≤ i → i ≠ a0 → x.S i = S i)
      t.args.length ⟨0, Nat.zero_le _, rfl, by show (0 : Int) ≤ _; omega, rfl, rfl, rfl, rfl, rfl, rfl, rfl, by simp only [go_sem, List.forall_mem_nil, ↓guard_ite, ↓pick_ite, seval, encT_eq, inR_i64, d6, d4, d7, d9, e6], by (simp only [go_sem, List.forall_mem_nil, ↓guard_ite, ↓pick_ite, seval, encT_eq, inR_i64, d9]); rfl, by simp only [go_sem, List.forall_mem_nil, ↓guard_ite, ↓pick_ite, seval, encT_eq, inR_i64, e9], by simp only [go_sem, List.forall_mem_nil, ↓guard_ite, ↓pick_ite, seval, encT_eq, inR_i64, n11, d11], by (simp only [go_sem, List.forall_mem_nil, ↓guard_ite, ↓pick_ite, seval, encT_eq, inR_i64, e9, e900]); simp [Tm.sizes], fun i hi hne => ?_⟩ ?_
    · have i4 : ¬ i = 4 := by omega
      have i6 : ¬ i = 6 := by omega
      have i7 : ¬ i = 7 := by omega
      have i9 : ¬ i = 9 := by omega
      have i900 : ¬ i = 900 := by omega
      simp only [go_sem, List.forall_mem_nil, ↓guard_ite, ↓pick_ite, seval, encT_eq, inR_i64, i4, i6, i7, i9, i900, hne]
    rintro m ⟨env, S1⟩ ⟨k, hk, rfl, hsz, e0, e2, e6', e9', e44, e45, e46, s6, s9, s900, s11, sa, hrest⟩
    simp only at e0 e2 e6' e9' e44 e45 e46 s6 s9 s900 s11 sa hrest
    have hlk : (t.args.take k).length = k := by rw [List.length_take]; omega
    have hle := Tm.sizes_take_le (t.args.map f) k
    rw [← List.map_take] at hle
    have hkl := Tm.length_le ((t.args.take k).map f)
    rw [List.length_map, hlk] at hkl
    by_cases hlt : (k : Int) < t.args.length
    · obtain ⟨a, ha⟩ := get_lt (show k < t.args.length by omega)
      have ha' : (t.args.map f)[k]? = some (f a) := by rw [List.getElem?_map, ha]; rfl
      have z1 := Tm.sizes_take ha'
      have z2 := Tm.sizes_take_le (t.args.map f) (k + 1)
      rw [← List.map_take, ← List.map_take] at z1
      rw [← List.map_take] at z2
      repeat' (first | (with_reducible first | refine Wa ?_ | refine Wb ?_ | refine Wc ?_ | refine Wd ?_ | refine We ?_ | refine Wf ?_ | refine Wg ?_ | refine Wh ?_ | refine Wi ?_ | refine Wj ?_ | refine Wk (by decide) ?_ | refine Wl ?_ | refine Wm ?_ | refine Wn ?_) | ((with_reducible first | refine Wo (fun K hK => ?_) | refine Wq ?_ | refine Wr ?_); (try simp only [go_sem, List.forall_mem_nil, ↓guard_ite, ↓pick_ite, seval, encT_eq, inR_i64, e0, e2, e6', e9', e44, e45, e46, s6, s9, s900, s11, sa, hlt]); (repeat with_reducible refine And.intro (by first | omega | (with_reducible first | exact lens_encT | exact lens_encL | exact lens_encB | exact lens_encP) | (simp; done) | (simp only [List.length_take, List.length_map, List.length_append, maxLen_eq]; omega)) ?_); (try (with_reducible refine hK _ ?_; clear hK K))))
      with_reducible refine Wp ?_
      simp only [go_sem, List.forall_mem_nil, ↓guard_ite, ↓pick_ite, seval, true_implies, false_implies, implies_true, decide_eq_true_eq, decide_eq_false_iff_not, Int.ofNat_lt, hlt]
      (try with_reducible refine ite_conj ?_)
      repeat' (first | (with_reducible first | refine Wa ?_ | refine Wb ?_ | refine Wc ?_ | refine Wd ?_ | refine We ?_ | refine Wf ?_ | refine Wg ?_ | refine Wh ?_ | refine Wi ?_ | refine Wj ?_ | refine Wk (by decide) ?_ | refine Wl ?_ | refine Wm ?_ | refine Wn ?_) | ((with_reducible first | refine Wo (fun K hK => ?_) | refine Wq ?_ | refine Wr ?_); (try simp only [go_sem, List.forall_mem_nil, ↓guard_ite, ↓pick_ite, seval, encT_eq, inR_i64, e0, e2, e6', e9', e44, e45, e46, s6, s9, s900, s11, sa, d11, d9, e11, ha]); (repeat with_reducible refine And.intro (by first | omega | (with_reducible first | exact lens_encT | exact lens_encL | exact lens_encB | exact lens_encP) | (simp; done) | (simp only [List.length_take, List.length_map, List.length_append, maxLen_eq]; omega)) ?_); (try (with_reducible refine hK _ ?_; clear hK K))))
      have hcall := ih a (mem_of_get ha) (up1 a0) (left - 1 - Tm.sizes ((t.args.take k).map f)) (upS (updE (updE S1 11 (some (.box 24 [.st (.str ⟨#[]⟩), .full []]))) 11 (some (.box 24 [.st (.str a.name), .st (.list (a.args.map encT))])))) (up1_le a0) (by omega) (by omega) (by rw [upS_up, updE_ne _ e11, updE_ne _ e11, sa]; rfl)
      by_cases hfit : ((f a).size : Int) ≤ left - 1 - Tm.sizes ((t.args.take k).map f)
      · rw [fitIn_yes hfit] at hcall
        refine ⟨_, _, hcall, ?_⟩
        have hge : ¬ left - 1 - Tm.sizes ((t.args.take k).map f) - (f a).size < 0 := by omega
        repeat' (first | (with_reducible first | refine Wa ?_ | refine Wb ?_ | refine Wc ?_ | refine Wd ?_ | refine We ?_ | refine Wf ?_ | refine Wg ?_ | refine Wh ?_ | refine Wi ?_ | refine Wj ?_ | refine Wk (by decide) ?_ | refine Wl ?_ | refine Wm ?_ | refine Wn ?_) | ((with_reducible first | refine Wo (fun K hK => ?_) | refine Wq ?_ | refine Wr ?_); (try simp only [go_sem, List.forall_mem_nil, ↓guard_ite, ↓pick_ite, seval, encT_eq, inR_i64, e0, e2, e6', e9', e44, e45, e46, s6, s9, s900, s11, d11, d9, e11, e9, e900, d900, hlk]); (repeat with_reducible refine And.intro (by first | omega | (with_reducible first | exact lens_encT | exact lens_encL | exact lens_encB | exact lens_encP) | (simp; done) | (simp only [List.length_take, List.length_map, List.length_append, maxLen_eq]; omega)) ?_); (try (with_reducible refine hK _ ?_; clear hK K))))
        with_reducible refine Wp ?_
        simp only [go_sem, List.forall_mem_nil, ↓guard_ite, ↓pick_ite, seval, true_implies, false_implies, implies_true, decide_eq_true_eq, decide_eq_false_iff_not, Int.ofNat_lt, hge]
        (try with_reducible refine ite_conj ?_)
        repeat' (first | (with_reducible first | refine Wa ?_ | refine Wb ?_ | refine Wc ?_ | refine Wd ?_ | refine We ?_ | refine Wf ?_ | refine Wg ?_ | refine Wh ?_ | refine Wi ?_ | refine Wj ?_ | refine Wk (by decide) ?_ | refine Wl ?_ | refine Wm ?_ | refine Wn ?_) | ((with_reducible first | refine Wo (fun K hK => ?_) | refine Wq ?_ | refine Wr ?_); (try simp only [go_sem, List.forall_mem_nil, ↓guard_ite, ↓pick_ite, seval, encT_eq, inR_i64, e0, e2, e6', e9', e44, e45, e46, s6, s9, s900, s11, d11, d9, e11]); (repeat with_reducible refine And.intro (by first | omega | (with_reducible first | exact lens_encT | exact lens_encL | exact lens_encB | exact lens_encP) | (simp; done) | (simp only [List.length_take, List.length_map, List.length_append, maxLen_eq]; omega)) ?_); (try (with_reducible refine hK _ ?_; clear hK K))))
        refine then_normal ⟨t.args.length - (k + 1), by omega, k + 1, by omega, rfl, ?_⟩
        have hib : (a0 == 11) = false := by simp; omega
        have hzz : ((Tm.sizes ((t.args.take (k + 1)).map f) : Nat) : Int) = Tm.sizes ((t.args.take k).map f) + (f a).size := by omega
        refine ⟨by omega, ?_⟩
        simp only [go_sem, List.forall_mem_nil, ↓guard_ite, ↓pick_ite, seval, AS.drop, dropS, AC.clears, AC.clear, AC.highs, AC.high, Bool.not_false, Bool.true_and, Bool.and_self, AV.purge, AV.purges, AC.purge, ABlk.purge, List.contains_cons, List.contains_nil, Nat.reduceBEq, Bool.or_self, Bool.or_false, Bool.false_or, Bool.or_true, encT_eq, inR_i64, e0, e2, e6', e9', e44, e45, s6, s9, s900, d11, d9, e11, e9, e900, d900, d6, hib]
        refine ⟨by congr 3, by rw [take_snoc ha, List.map_append, List.map_append, List.map_cons, List.map_nil, List.map_cons, List.map_nil, encT_eq], ?_, fun i hi hne => ?_⟩
        · congr 5
          omega
        · have i9 : ¬ i = 9 := by omega
          have i11 : ¬ i = 11 := by omega
          have i900 : ¬ i = 900 := by omega
          have i11b : (i == 11) = false := by simp; omega
          simp only [go_sem, List.forall_mem_nil, ↓guard_ite, ↓pick_ite, seval, AS.drop, dropS, AC.clears, AC.clear, AC.highs, AC.high, Bool.not_false, Bool.true_and, Bool.and_self, AV.purge, AV.purges, AC.purge, ABlk.purge, List.contains_cons, List.contains_nil, Nat.reduceBEq, Bool.or_self, Bool.or_false, Bool.false_or, Bool.or_true, encT_eq, inR_i64, i9, i11, i11b, i900, hne]
          rw [hrest i hi hne]
          exact purgeS (by decide) fun b hb => (hS i b hb).2
      · have hno : ¬ ((Tm.mk t.name (t.args.map f)).size : Int) ≤ left := by rw [hu]; omega
        rw [fitIn_no hfit] at hcall
        refine ⟨_, _, hcall, ?_⟩
        repeat' (first | (with_reducible first | refine Wa ?_ | refine Wb ?_ | refine Wc ?_ | refine Wd ?_ | refine We ?_ | refine Wf ?_ | refine Wg ?_ | refine Wh ?_ | refine Wi ?_ | refine Wj ?_ | refine Wk (by decide) ?_ | refine Wl ?_ | refine Wm ?_ | refine Wn ?_) | ((with_reducible first | refine Wo (fun K hK => ?_) | refine Wq ?_ | refine Wr ?_); (try simp only [go_sem, List.forall_mem_nil, ↓guard_ite, ↓pick_ite, seval, encT_eq, inR_i64, e0, e2, e6', e9', e44, e45, e46, s6, s9, s900, s11, d11, d9, e11, e9, e900, d900, hlk]); (repeat with_reducible refine And.intro (by first | omega | (with_reducible first | exact lens_encT | exact lens_encL | exact lens_encB | exact lens_encP) | (simp; done) | (simp only [List.length_take, List.length_map, List.length_append, maxLen_eq]; omega)) ?_); (try (with_reducible refine hK _ ?_; clear hK K))))
        with_reducible refine Wp ?_
        simp only [go_sem, List.forall_mem_nil, ↓guard_ite, ↓pick_ite, seval, true_implies, false_implies, implies_true, decide_eq_true_eq, decide_eq_false_iff_not, Int.ofNat_lt]
        (try with_reducible refine ite_conj ?_)
        repeat' (first | (with_reducible first | refine Wa ?_ | refine Wb ?_ | refine Wc ?_ | refine Wd ?_ | refine We ?_ | refine Wf ?_ | refine Wg ?_ | refine Wh ?_ | refine Wi ?_ | refine Wj ?_ | refine Wk (by decide) ?_ | refine Wl ?_ | refine Wm ?_ | refine Wn ?_) | ((with_reducible first | refine Wo (fun K hK => ?_) | refine Wq ?_ | refine Wr ?_); (try simp only [go_sem, List.forall_mem_nil, ↓guard_ite, ↓pick_ite, seval, encT_eq, inR_i64, e0, e2, e6', e9', e44, e45, e46, s6, s9, s900, s11, d11, d9, e11, e6, d6, d900, e900]); (repeat with_reducible refine And.intro (by first | omega | (with_reducible first | exact lens_encT | exact lens_encL | exact lens_encB | exact lens_encP) | (simp; done) | (simp only [List.length_take, List.length_map, List.length_append, maxLen_eq]; omega)) ?_); (try (with_reducible refine hK _ ?_; clear hK K))))
        rw [fitIn_no hno]
        refine finS_one (.agg [.st (.str ⟨#[]⟩), .full []]) hS ha0 rfl trivial ?_ ?_ ?_ fun i hi hne => ?_
        · simp only [go_sem, List.forall_mem_nil, ↓guard_ite, ↓pick_ite, seval, encT_eq, inR_i64, resAll, resOne, tupV, e6', s6, e6, e9, e11, e900, d6, d9, d11, d900]
        · simp only [go_sem, List.forall_mem_nil, ↓guard_ite, ↓pick_ite, seval, encT_eq, inR_i64, Tm.nil]
          rfl
        · simp only [go_sem, List.forall_mem_nil, ↓guard_ite, ↓pick_ite, seval, encT_eq, inR_i64, e6, e9, e11, e900]
        · have i6 : ¬ i = 6 := by omega
          have i9 : ¬ i = 9 := by omega
          have i11 : ¬ i = 11 := by omega
          have i900 : ¬ i = 900 := by omega
          simp only [go_sem, List.forall_mem_nil, ↓guard_ite, ↓pick_ite, seval, encT_eq, inR_i64, i6, i9, i11, i900, hne]
          exact hrest i hi hne
    · have hall : t.args.take k = t.args := List.take_of_length_le (by omega)
      rw [hall] at hlk s900 hsz sa
      have hyes : ((Tm.mk t.name (t.args.map f)).size : Int) ≤ left := by rw [hu]; omega
      repeat' (first | (with_reducible first | refine Wa ?_ | refine Wb ?_ | refine Wc ?_ | refine Wd ?_ | refine We ?_ | refine Wf ?_ | refine Wg ?_ | refine Wh ?_ | refine Wi ?_ | refine Wj ?_ | refine Wk (by decide) ?_ | refine Wl ?_ | refine Wm ?_ | refine Wn ?_) | ((with_reducible first | refine Wo (fun K hK => ?_) | refine Wq ?_ | refine Wr ?_); (try simp only [go_sem, List.forall_mem_nil, ↓guard_ite, ↓pick_ite, seval, encT_eq, inR_i64, e0, e2, e6', e9', e44, e45, e46, s6, s9, s900, s11, sa, hlt]); (repeat with_reducible refine And.intro (by first | omega | (with_reducible first | exact lens_encT | exact lens_encL | exact lens_encB | exact lens_encP) | (simp; done) | (simp only [List.length_take, List.length_map, List.length_append, maxLen_eq]; omega)) ?_); (try (with_reducible refine hK _ ?_; clear hK K))))
      with_reducible refine Wp ?_
      simp only [go_sem, List.forall_mem_nil, ↓guard_ite, ↓pick_ite, seval, true_implies, false_implies, implies_true, decide_eq_true_eq, decide_eq_false_iff_not, Int.ofNat_lt, hlt]
      (try with_reducible refine ite_conj ?_)
      repeat' (first | (with_reducible first | refine Wa ?_ | refine Wb ?_ | refine Wc ?_ | refine Wd ?_ | refine We ?_ | refine Wf ?_ | refine Wg ?_ | refine Wh ?_ | refine Wi ?_ | refine Wj ?_ | refine Wk (by decide) ?_ | refine Wl ?_ | refine Wm ?_ | refine Wn ?_) | ((with_reducible first | refine Wo (fun K hK => ?_) | refine Wq ?_ | refine Wr ?_); (try simp only [go_sem, List.forall_mem_nil, ↓guard_ite, ↓pick_ite, seval, encT_eq, inR_i64, e0, e2, e6', e9', e44, e45, e46, s6, s9, s900, s11, sa, d6]); (repeat with_reducible refine And.intro (by first | omega | (with_reducible first | exact lens_encT | exact lens_encL | exact lens_encB | exact lens_encP) | (simp; done) | (simp only [List.length_take, List.length_map, List.length_append, maxLen_eq]; omega)) ?_); (try (with_reducible refine hK _ ?_; clear hK K))))
      rw [fitIn_yes hyes]
      refine finS_one (.agg [.st (.str t.name), .row 900 k]) hS ha0 rfl trivial ?_ ?_ ?_ fun i hi hne => ?_
      · simp only [go_sem, List.forall_mem_nil, ↓guard_ite, ↓pick_ite, seval, encT_eq, inR_i64, resAll, resOne, tupV, e6', s6]
      · simp only [go_sem, List.forall_mem_nil, ↓guard_ite, ↓pick_ite, seval, encT_eq, inR_i64, s900, hlk]
        rfl
      · simp only [go_sem, List.forall_mem_nil, ↓guard_ite, ↓pick_ite, seval, encT_eq, inR_i64, e6, sa, hu]
        rw [show left - 1 - (Tm.sizes (t.args.map f) : Int) = left - ((1 + Tm.sizes (t.args.map f) : Nat) : Int) by omega]
      · have i6 : ¬ i = 6 := by omega
        simp only [go_sem, List.forall_mem_nil, ↓guard_ite, ↓pick_ite, seval, encT_eq, inR_i64, i6]
        exact hrest i hi hne

/-- Copied, nothing put in. -/
theorem copyF_a (s : List Bd) (h40 : s.length ≤ 100000) (ho : Ordered s) (t : Tm) : ∀ (a0 : Nat) (left : Int) (S : AStore), 1000 ≤ a0 → 0 ≤ left → left ≤ 1000000 → S a0 = some (mkBlk s left) →
    ACallsS Tryd.prog 60 [.one (.ptr a0 1 0 0), aTm t, aBool false] S (aTm (fitIn t left).1) (updE S a0 (some (mkBlk s (fitIn t left).2))) := by
  induction h : SizeOf.sizeOf t using Nat.strongRecOn generalizing t with
  | _ N ih =>
  subst h
  intro a0 left S h1 h2 h3 h4
  have := copy_core s h40 ho false id t (fun h => by cases h) (fun a ha => ih _ (Tm.lt_of_arg ha) a rfl) a0 left S h1 h2 h3 h4
  rw [List.map_id, Tm.eta] at this
  exact this
theorem copyT_a (s : List Bd) (h40 : s.length ≤ 100000) (ho : Ordered s) (t : Tm) (hv : ∀ b ∈ s, isVar b.1 = true) (hchk : t.chk = 0) : ∀ (a0 : Nat) (left : Int) (S : AStore), 1000 ≤ a0 → 0 ≤ left → left ≤ 1000000 → S a0 = some (mkBlk s left) →
    ACallsS Tryd.prog 60 [.one (.ptr a0 1 0 0), aTm t, aBool true] S (aTm (fitIn (t.on s) left).1) (updE S a0 (some (mkBlk s (fitIn (t.on s) left).2))) := by
  induction h : SizeOf.sizeOf t using Nat.strongRecOn generalizing t with
  | _ N ih =>
  subst h
  intro a0 left S ha0 h0 h1 hSa
  obtain ⟨c1, c2⟩ := Tm.chk_args hchk
  cases hl : lookup s t.name with
  | none =>
    have := copy_core s h40 ho true (Tm.on s) t (fun _ => hl) (fun a ha => ih _ (Tm.lt_of_arg ha) a (c2 a ha) rfl) a0 left S ha0 h0 h1 hSa
    rw [← Tm.on_knot (.inl hl)] at this
    exact this
  | some x =>
    obtain ⟨b, hb, hbn, _⟩ := lookup_mem hl
    have hargs := c1 (by rw [← hbn]; exact hv b hb)
    rw [Tm.on_leaf hl hargs]
    refine acS_metaprune_subst_maker_copy (Nat.le_of_ble_eq_true rfl) fun hS C hC => ?_
    have n4 : S 4 = none := clean_none hS (by omega)
    have n6 : S 6 = none := clean_none hS (by omega)
    have n7 : S 7 = none := clean_none hS (by omega)
    have e4 : ¬ a0 = 4 := by omega
    have e6 : ¬ a0 = 6 := by omega
    have e7 : ¬ a0 = 7 := by omega
    have d4 : ¬ 4 = a0 := by omega
    have d6 : ¬ 6 = a0 := by omega
    have d7 : ¬ 7 = a0 := by omega
    unfold ir_metaprune_subst_maker_copy
    repeat' (first | (with_reducible first | refine Wa ?_ | refine Wb ?_ | refine Wc ?_ | refine Wd ?_ | refine We ?_ | refine Wf ?_ | refine Wg ?_ | refine Wh ?_ | refine Wi ?_ | refine Wj ?_ | refine Wk (by decide) ?_ | refine Wl ?_ | refine Wm ?_ | refine Wn ?_) | ((with_reducible first | refine Wo (fun K hK => ?_) | refine Wq ?_ | refine Wr ?_); (try simp only [go_sem, List.forall_mem_nil, ↓guard_ite, ↓pick_ite, seval, encT_eq, inR_i64, hSa, n4, n6, n7, d4, d6, d7, e4, e6, e7]); (repeat with_reducible refine And.intro (by first | omega | (with_reducible first | exact lens_encT | exact lens_encL | exact lens_encB | exact lens_encP) | (simp; done) | (simp only [List.length_take, List.length_map, List.length_append, maxLen_eq]; omega)) ?_); (try (with_reducible refine hK _ ?_; clear hK K))))
    with_reducible refine Wp ?_
    simp only [go_sem, List.forall_mem_nil, ↓guard_ite, ↓pick_ite, seval, true_implies, false_implies, implies_true, decide_eq_true_eq, decide_eq_false_iff_not, Int.ofNat_lt]
    (try with_reducible refine ite_conj ?_)
    repeat' (first | (with_reducible first | refine Wa ?_ | refine Wb ?_ | refine Wc ?_ | refine Wd ?_ | refine We ?_ | refine Wf ?_ | refine Wg ?_ | refine Wh ?_ | refine Wi ?_ | refine Wj ?_ | refine Wk (by decide) ?_ | refine Wl ?_ | refine Wm ?_ | refine Wn ?_) | refine CallG.mk _ (find_a s h40 ho t.name) ?_ | ((with_reducible first | refine Wo (fun K hK => ?_) | refine Wq ?_ | refine Wr ?_); (try simp only [go_sem, List.forall_mem_nil, ↓guard_ite, ↓pick_ite, seval, encT_eq, inR_i64, hSa, n4, n6, n7, d4, d6, d7, e4, e6, e7, hl]); (repeat with_reducible refine And.intro (by first | omega | (with_reducible first | exact lens_encT | exact lens_encL | exact lens_encB | exact lens_encP) | (simp; done) | (simp only [List.length_take, List.length_map, List.length_append, maxLen_eq]; omega)) ?_); (try (with_reducible refine hK _ ?_; clear hK K))))
    with_reducible refine Wp ?_
    simp only [go_sem, List.forall_mem_nil, ↓guard_ite, ↓pick_ite, seval, true_implies, false_implies, implies_true, decide_eq_true_eq, decide_eq_false_iff_not, Int.ofNat_lt]
    (try with_reducible refine ite_conj ?_)
    repeat' (first | (with_reducible first | refine Wa ?_ | refine Wb ?_ | refine Wc ?_ | refine Wd ?_ | refine We ?_ | refine Wf ?_ | refine Wg ?_ | refine Wh ?_ | refine Wi ?_ | refine Wj ?_ | refine Wk (by decide) ?_ | refine Wl ?_ | refine Wm ?_ | refine Wn ?_) | ((with_reducible first | refine Wo (fun K hK => ?_) | refine Wq ?_ | refine Wr ?_); (try simp only [go_sem, List.forall_mem_nil, ↓guard_ite, ↓pick_ite, seval, encT_eq, inR_i64, hSa, n4, n6, n7, d4, d6, d7, e4, e6, e7]); (repeat with_reducible refine And.intro (by first | omega | (with_reducible first | exact lens_encT | exact lens_encL | exact lens_encB | exact lens_encP) | (simp; done) | (simp only [List.length_take, List.length_map, List.length_append, maxLen_eq]; omega)) ?_); (try (with_reducible refine hK _ ?_; clear hK K))))
    have hcall := fun S' h => copyF_a s h40 ho x (up1 a0) left S' (up1_le a0) h0 h1 h
    refine ⟨_, _, hcall _ (by rw [upS_up]; (simp only [go_sem, List.forall_mem_nil, ↓guard_ite, ↓pick_ite, seval, encT_eq, inR_i64, e4, e6, e7, hSa])), ?_⟩
    repeat' (first | (with_reducible first | refine Wa ?_ | refine Wb ?_ | refine Wc ?_ | refine Wd ?_ | refine We ?_ | refine Wf ?_ | refine Wg ?_ | refine Wh ?_ | refine Wi ?_ | refine Wj ?_ | refine Wk (by decide) ?_ | refine Wl ?_ | refine Wm ?_ | refine Wn ?_) | ((with_reducible first | refine Wo (fun K hK => ?_) | refine Wq ?_ | refine Wr ?_); (try simp only [go_sem, List.forall_mem_nil, ↓guard_ite, ↓pick_ite, seval, encT_eq, inR_i64, e4, e6, e7, d4, d6, d7]); (repeat with_reducible refine And.intro (by first | omega | (with_reducible first | exact lens_encT | exact lens_encL | exact lens_encB | exact lens_encP) | (simp; done) | (simp only [List.length_take, List.length_map, List.length_append, maxLen_eq]; omega)) ?_); (try (with_reducible refine hK _ ?_; clear hK K))))
    refine finS_one (aTm (fitIn x left).1) hS ha0 rfl trivial ?_ ?_ ?_ fun i hi hne => ?_
    · simp only [go_sem, List.forall_mem_nil, ↓guard_ite, ↓pick_ite, seval, encT_eq, inR_i64, resAll, resOne, tupV, e4, e6, e7, d4, d6, d7]
    · simp only [go_sem, List.forall_mem_nil, ↓guard_ite, ↓pick_ite, seval, encT_eq, inR_i64]
    · simp only [go_sem, List.forall_mem_nil, ↓guard_ite, ↓pick_ite, seval, encT_eq, inR_i64, e4, e6, e7]
    · have i4 : ¬ i = 4 := by omega
      have i6 : ¬ i = 6 := by omega
      have i7 : ¬ i = 7 := by omega
      simp only [go_sem, List.forall_mem_nil, ↓guard_ite, ↓pick_ite, seval, encT_eq, inR_i64, i4, i6, i7, hne]

/-- A term with bindings in it; too great: nothing. -/
theorem onP_a (s : List Bd) (h40 : s.length ≤ 100000) (ho : Ordered s) (t : Tm) (hv : ∀ b ∈ s, isVar b.1 = true) (hchk : t.chk = 0) : ACalls Tryd.prog 45 [aBds s, aTm t] (.tup [aTm (onTo s t).1, aBool (onTo s t).2]) := by
  refine ac_subst_On (Nat.le_of_ble_eq_true rfl) fun C hC => ?_
  unfold ir_subst_On
  repeat' (first | (with_reducible first | refine Wa ?_ | refine Wb ?_ | refine Wc ?_ | refine Wd ?_ | refine We ?_ | refine Wf ?_ | refine Wg ?_ | refine Wh ?_ | refine Wi ?_ | refine Wj ?_ | refine Wk (by decide) ?_ | refine Wl ?_ | refine Wm ?_ | refine Wn ?_) | ((with_reducible first | refine Wo (fun K hK => ?_) | refine Wq ?_ | refine Wr ?_); (try simp only [go_sem, List.forall_mem_nil, ↓guard_ite, ↓pick_ite, seval, encT_eq, inR_i64]); (repeat with_reducible refine And.intro (by first | omega | (with_reducible first | exact lens_encT | exact lens_encL | exact lens_encB | exact lens_encP) | (simp; done) | (simp only [List.length_take, List.length_map, List.length_append, maxLen_eq]; omega)) ?_); (try (with_reducible refine hK _ ?_; clear hK K))))
  have hcall := fun S' h => copyT_a s h40 ho t hv hchk (up1 10) 2000 S' (up1_le 10) (by omega) (by omega) h
  refine ⟨_, _, hcall _ (by rw [upS_up]; rfl), ?_⟩
  by_cases hfit : ((t.on s).size : Int) ≤ 2000
  · have e : onTo s t = (t.on s, true) := by
      unfold onTo
      rw [if_pos (by omega)]
    rw [fitIn_yes hfit]
    have hge : (0 : Int) ≤ 2000 - (t.on s).size := by omega
    repeat' (first | (with_reducible first | refine Wa ?_ | refine Wb ?_ | refine Wc ?_ | refine Wd ?_ | refine We ?_ | refine Wf ?_ | refine Wg ?_ | refine Wh ?_ | refine Wi ?_ | refine Wj ?_ | refine Wk (by decide) ?_ | refine Wl ?_ | refine Wm ?_ | refine Wn ?_) | ((with_reducible first | refine Wo (fun K hK => ?_) | refine Wq ?_ | refine Wr ?_); (try simp only [go_sem, List.forall_mem_nil, ↓guard_ite, ↓pick_ite, seval, encT_eq, inR_i64, hge]); (repeat with_reducible refine And.intro (by first | omega | (with_reducible first | exact lens_encT | exact lens_encL | exact lens_encB | exact lens_encP) | (simp; done) | (simp only [List.length_take, List.length_map, List.length_append, maxLen_eq]; omega)) ?_); (try (with_reducible refine hK _ ?_; clear hK K))))
    rw [e]
    simp only [go_sem, List.forall_mem_nil, ↓guard_ite, ↓pick_ite, seval, FinQ, AS.result, resAll, resOne, tupV]
  · have e : onTo s t = (Tm.nil, false) := by
      unfold onTo
      rw [if_neg (by omega)]
    rw [fitIn_no hfit]
    repeat' (first | (with_reducible first | refine Wa ?_ | refine Wb ?_ | refine Wc ?_ | refine Wd ?_ | refine We ?_ | refine Wf ?_ | refine Wg ?_ | refine Wh ?_ | refine Wi ?_ | refine Wj ?_ | refine Wk (by decide) ?_ | refine Wl ?_ | refine Wm ?_ | refine Wn ?_) | ((with_reducible first | refine Wo (fun K hK => ?_) | refine Wq ?_ | refine Wr ?_); (try simp only [go_sem, List.forall_mem_nil, ↓guard_ite, ↓pick_ite, seval, encT_eq, inR_i64]); (repeat with_reducible refine And.intro (by first | omega | (with_reducible first | exact lens_encT | exact lens_encL | exact lens_encB | exact lens_encP) | (simp; done) | (simp only [List.length_take, List.length_map, List.length_append, maxLen_eq]; omega)) ?_); (try (with_reducible refine hK _ ?_; clear hK K))))
    rw [e]
    simp only [go_sem, List.forall_mem_nil, ↓guard_ite, ↓pick_ite, seval, FinQ, AS.result, resAll, resOne, tupV]
def applyTo (s : List Bd) (t : Tm) : Tm × Int := if bindsMay s = 0 then (if t.may = 0 then (if (t.on s).size ≤ 2000 then (t.on s, 0) else (Tm.nil, 8)) else (Tm.nil, t.may)) else (Tm.nil, bindsMay s)
theorem applyP_a (s : List Bd) (t : Tm) : ACalls Tryd.prog 22 [aBds s, aTm t] (.tup [aTm (applyTo s t).1, aInt (applyTo s t).2]) := by
  unfold applyTo
  by_cases hb : bindsMay s = 0
  · obtain ⟨hg, h40⟩ := bindsMay_good hb
    by_cases ht : t.may = 0
    · obtain ⟨hchk, hz⟩ := Tm.may_chk ht
      have hon := onP_a s (by omega) hg.ord t (fun b hb => (hg.ok b hb).2.1) hchk
      unfold onTo at hon
      by_cases hfit : (t.on s).size ≤ 2000
      · rw [if_pos hfit] at hon
        rw [if_pos hb, if_pos ht, if_pos hfit]
        refine ac_subst_Apply (Nat.le_of_ble_eq_true rfl) fun C hC => ?_
        unfold ir_subst_Apply
        repeat' (first | (with_reducible first | refine Wa ?_ | refine Wb ?_ | refine Wc ?_ | refine Wd ?_ | refine We ?_ | refine Wf ?_ | refine Wg ?_ | refine Wh ?_ | refine Wi ?_ | refine Wj ?_ | refine Wk (by decide) ?_ | refine Wl ?_ | refine Wm ?_ | refine Wn ?_) | refine CallG.mk _ (bindsCheck_a s) ?_ | ((with_reducible first | refine Wo (fun K hK => ?_) | refine Wq ?_ | refine Wr ?_); (try simp only [go_sem, List.forall_mem_nil, ↓guard_ite, ↓pick_ite, seval, encT_eq, inR_i64, hb]); (repeat with_reducible refine And.intro (by first | omega | (with_reducible first | exact lens_encT | exact lens_encL | exact lens_encB | exact lens_encP) | (simp; done) | (simp only [List.length_take, List.length_map, List.length_append, maxLen_eq]; omega)) ?_); (try (with_reducible refine hK _ ?_; clear hK K))))
        with_reducible refine Wp ?_
        simp only [go_sem, List.forall_mem_nil, ↓guard_ite, ↓pick_ite, seval, true_implies, false_implies, implies_true, decide_eq_true_eq, decide_eq_false_iff_not, Int.ofNat_lt]
        (try with_reducible refine ite_conj ?_)
        repeat' (first | (with_reducible first | refine Wa ?_ | refine Wb ?_ | refine Wc ?_ | refine Wd ?_ | refine We ?_ | refine Wf ?_ | refine Wg ?_ | refine Wh ?_ | refine Wi ?_ | refine Wj ?_ | refine Wk (by decide) ?_ | refine Wl ?_ | refine Wm ?_ | refine Wn ?_) | refine CallG.mk _ (checkT_a t) ?_ | ((with_reducible first | refine Wo (fun K hK => ?_) | refine Wq ?_ | refine Wr ?_); (try simp only [go_sem, List.forall_mem_nil, ↓guard_ite, ↓pick_ite, seval, encT_eq, inR_i64, ht]); (repeat with_reducible refine And.intro (by first | omega | (with_reducible first | exact lens_encT | exact lens_encL | exact lens_encB | exact lens_encP) | (simp; done) | (simp only [List.length_take, List.length_map, List.length_append, maxLen_eq]; omega)) ?_); (try (with_reducible refine hK _ ?_; clear hK K))))
        with_reducible refine Wp ?_
        simp only [go_sem, List.forall_mem_nil, ↓guard_ite, ↓pick_ite, seval, true_implies, false_implies, implies_true, decide_eq_true_eq, decide_eq_false_iff_not, Int.ofNat_lt]
        (try with_reducible refine ite_conj ?_)
        repeat' (first | (with_reducible first | refine Wa ?_ | refine Wb ?_ | refine Wc ?_ | refine Wd ?_ | refine We ?_ | refine Wf ?_ | refine Wg ?_ | refine Wh ?_ | refine Wi ?_ | refine Wj ?_ | refine Wk (by decide) ?_ | refine Wl ?_ | refine Wm ?_ | refine Wn ?_) | refine CallG.mk _ (hon) ?_ | ((with_reducible first | refine Wo (fun K hK => ?_) | refine Wq ?_ | refine Wr ?_); (try simp only [go_sem, List.forall_mem_nil, ↓guard_ite, ↓pick_ite, seval, encT_eq, inR_i64]); (repeat with_reducible refine And.intro (by first | omega | (with_reducible first | exact lens_encT | exact lens_encL | exact lens_encB | exact lens_encP) | (simp; done) | (simp only [List.length_take, List.length_map, List.length_append, maxLen_eq]; omega)) ?_); (try (with_reducible refine hK _ ?_; clear hK K))))
        with_reducible refine Wp ?_
        simp only [go_sem, List.forall_mem_nil, ↓guard_ite, ↓pick_ite, seval, true_implies, false_implies, implies_true, decide_eq_true_eq, decide_eq_false_iff_not, Int.ofNat_lt]
        (try with_reducible refine ite_conj ?_)
        repeat' (first | (with_reducible first | refine Wa ?_ | refine Wb ?_ | refine Wc ?_ | refine Wd ?_ | refine We ?_ | refine Wf ?_ | refine Wg ?_ | refine Wh ?_ | refine Wi ?_ | refine Wj ?_ | refine Wk (by decide) ?_ | refine Wl ?_ | refine Wm ?_ | refine Wn ?_) | ((with_reducible first | refine Wo (fun K hK => ?_) | refine Wq ?_ | refine Wr ?_); (try simp only [go_sem, List.forall_mem_nil, ↓guard_ite, ↓pick_ite, seval, encT_eq, inR_i64]); (repeat with_reducible refine And.intro (by first | omega | (with_reducible first | exact lens_encT | exact lens_encL | exact lens_encB | exact lens_encP) | (simp; done) | (simp only [List.length_take, List.length_map, List.length_append, maxLen_eq]; omega)) ?_); (try (with_reducible refine hK _ ?_; clear hK K))))
        simp only [go_sem, List.forall_mem_nil, ↓guard_ite, ↓pick_ite, seval, FinQ, AS.result, resAll, resOne, tupV]
      · rw [if_neg hfit] at hon
        rw [if_pos hb, if_pos ht, if_neg hfit]
        refine ac_subst_Apply (Nat.le_of_ble_eq_true rfl) fun C hC => ?_
        unfold ir_subst_Apply
        repeat' (first | (with_reducible first | refine Wa ?_ | refine Wb ?_ | refine Wc ?_ | refine Wd ?_ | refine We ?_ | refine Wf ?_ | refine Wg ?_ | refine Wh ?_ | refine Wi ?_ | refine Wj ?_ | refine Wk (by decide) ?_ | refine Wl ?_ | refine Wm ?_ | refine Wn ?_) | refine CallG.mk _ (bindsCheck_a s) ?_ | ((with_reducible first | refine Wo (fun K hK => ?_) | refine Wq ?_ | refine Wr ?_); (try simp only [go_sem, List.forall_mem_nil, ↓guard_ite, ↓pick_ite, seval, encT_eq, inR_i64, hb]); (repeat with_reducible refine And.intro (by first | omega | (with_reducible first | exact lens_encT | exact lens_encL | exact lens_encB | exact lens_encP) | (simp; done) | (simp only [List.length_take, List.length_map, List.length_append, maxLen_eq]; omega)) ?_); (try (with_reducible refine hK _ ?_; clear hK K))))
        with_reducible refine Wp ?_
        simp only [go_sem, List.forall_mem_nil, ↓guard_ite, ↓pick_ite, seval, true_implies, false_implies, implies_true, decide_eq_true_eq, decide_eq_false_iff_not, Int.ofNat_lt]
        (try with_reducible refine ite_conj ?_)
        repeat' (first | (with_reducible first | refine Wa ?_ | refine Wb ?_ | refine Wc ?_ | refine Wd ?_ | refine We ?_ | refine Wf ?_ | refine Wg ?_ | refine Wh ?_ | refine Wi ?_ | refine Wj ?_ | refine Wk (by decide) ?_ | refine Wl ?_ | refine Wm ?_ | refine Wn ?_) | refine CallG.mk _ (checkT_a t) ?_ | ((with_reducible first | refine Wo (fun K hK => ?_) | refine Wq ?_ | refine Wr ?_); (try simp only [go_sem, List.forall_mem_nil, ↓guard_ite, ↓pick_ite, seval, encT_eq, inR_i64, ht]); (repeat with_reducible refine And.intro (by first | omega | (with_reducible first | exact lens_encT | exact lens_encL | exact lens_encB | exact lens_encP) | (simp; done) | (simp only [List.length_take, List.length_map, List.length_append, maxLen_eq]; omega)) ?_); (try (with_reducible refine hK _ ?_; clear hK K))))
        with_reducible refine Wp ?_
        simp only [go_sem, List.forall_mem_nil, ↓guard_ite, ↓pick_ite, seval, true_implies, false_implies, implies_true, decide_eq_true_eq, decide_eq_false_iff_not, Int.ofNat_lt]
        (try with_reducible refine ite_conj ?_)
        repeat' (first | (with_reducible first | refine Wa ?_ | refine Wb ?_ | refine Wc ?_ | refine Wd ?_ | refine We ?_ | refine Wf ?_ | refine Wg ?_ | refine Wh ?_ | refine Wi ?_ | refine Wj ?_ | refine Wk (by decide) ?_ | refine Wl ?_ | refine Wm ?_ | refine Wn ?_) | refine CallG.mk _ (hon) ?_ | ((with_reducible first | refine Wo (fun K hK => ?_) | refine Wq ?_ | refine Wr ?_); (try simp only [go_sem, List.forall_mem_nil, ↓guard_ite, ↓pick_ite, seval, encT_eq, inR_i64]); (repeat with_reducible refine And.intro (by first | omega | (with_reducible first | exact lens_encT | exact lens_encL | exact lens_encB | exact lens_encP) | (simp; done) | (simp only [List.length_take, List.length_map, List.length_append, maxLen_eq]; omega)) ?_); (try (with_reducible refine hK _ ?_; clear hK K))))
        with_reducible refine Wp ?_
        simp only [go_sem, List.forall_mem_nil, ↓guard_ite, ↓pick_ite, seval, true_implies, false_implies, implies_true, decide_eq_true_eq, decide_eq_false_iff_not, Int.ofNat_lt]
        (try with_reducible refine ite_conj ?_)
        repeat' (first | (with_reducible first | refine Wa ?_ | refine Wb ?_ | refine Wc ?_ | refine Wd ?_ | refine We ?_ | refine Wf ?_ | refine Wg ?_ | refine Wh ?_ | refine Wi ?_ | refine Wj ?_ | refine Wk (by decide) ?_ | refine Wl ?_ | refine Wm ?_ | refine Wn ?_) | ((with_reducible first | refine Wo (fun K hK => ?_) | refine Wq ?_ | refine Wr ?_); (try simp only [go_sem, List.forall_mem_nil, ↓guard_ite, ↓pick_ite, seval, encT_eq, inR_i64]); (repeat with_reducible refine And.intro (by first | omega | (with_reducible first | exact lens_encT | exact lens_encL | exact lens_encB | exact lens_encP) | (simp; done) | (simp only [List.length_take, List.length_map, List.length_append, maxLen_eq]; omega)) ?_); (try (with_reducible refine hK _ ?_; clear hK K))))
        simp only [go_sem, List.forall_mem_nil, ↓guard_ite, ↓pick_ite, seval, FinQ, AS.result, resAll, resOne, tupV]
        rfl
    · rw [if_pos hb, if_neg ht]
      refine ac_subst_Apply (Nat.le_of_ble_eq_true rfl) fun C hC => ?_
      unfold ir_subst_Apply
      repeat' (first | (with_reducible first | refine Wa ?_ | refine Wb ?_ | refine Wc ?_ | refine Wd ?_ | refine We ?_ | refine Wf ?_ | refine Wg ?_ | refine Wh ?_ | refine Wi ?_ | refine Wj ?_ | refine Wk (by decide) ?_ | refine Wl ?_ | refine Wm ?_ | refine Wn ?_) | refine CallG.mk _ (bindsCheck_a s) ?_ | ((with_reducible first | refine Wo (fun K hK => ?_) | refine Wq ?_ | refine Wr ?_); (try simp only [go_sem, List.forall_mem_nil, ↓guard_ite, ↓pick_ite, seval, encT_eq, inR_i64, hb]); (repeat with_reducible refine And.intro (by first | omega | (with_reducible first | exact lens_encT | exact lens_encL | exact lens_encB | exact lens_encP) | (simp; done) | (simp only [List.length_take, List.length_map, List.length_append, maxLen_eq]; omega)) ?_); (try (with_reducible refine hK _ ?_; clear hK K))))
      with_reducible refine Wp ?_
      simp only [go_sem, List.forall_mem_nil, ↓guard_ite, ↓pick_ite, seval, true_implies, false_implies, implies_true, decide_eq_true_eq, decide_eq_false_iff_not, Int.ofNat_lt]
      (try with_reducible refine ite_conj ?_)
      repeat' (first | (with_reducible first | refine Wa ?_ | refine Wb ?_ | refine Wc ?_ | refine Wd ?_ | refine We ?_ | refine Wf ?_ | refine Wg ?_ | refine Wh ?_ | refine Wi ?_ | refine Wj ?_ | refine Wk (by decide) ?_ | refine Wl ?_ | refine Wm ?_ | refine Wn ?_) | refine CallG.mk _ (checkT_a t) ?_ | ((with_reducible first | refine Wo (fun K hK => ?_) | refine Wq ?_ | refine Wr ?_); (try simp only [go_sem, List.forall_mem_nil, ↓guard_ite, ↓pick_ite, seval, encT_eq, inR_i64, ht]); (repeat with_reducible refine And.intro (by first | omega | (with_reducible first | exact lens_encT | exact lens_encL | exact lens_encB | exact lens_encP) | (simp; done) | (simp only [List.length_take, List.length_map, List.length_append, maxLen_eq]; omega)) ?_); (try (with_reducible refine hK _ ?_; clear hK K))))
      with_reducible refine Wp ?_
      simp only [go_sem, List.forall_mem_nil, ↓guard_ite, ↓pick_ite, seval, true_implies, false_implies, implies_true, decide_eq_true_eq, decide_eq_false_iff_not, Int.ofNat_lt, ht]
      (try with_reducible refine ite_conj ?_)
      repeat' (first | (with_reducible first | refine Wa ?_ | refine Wb ?_ | refine Wc ?_ | refine Wd ?_ | refine We ?_ | refine Wf ?_ | refine Wg ?_ | refine Wh ?_ | refine Wi ?_ | refine Wj ?_ | refine Wk (by decide) ?_ | refine Wl ?_ | refine Wm ?_ | refine Wn ?_) | ((with_reducible first | refine Wo (fun K hK => ?_) | refine Wq ?_ | refine Wr ?_); (try simp only [go_sem, List.forall_mem_nil, ↓guard_ite, ↓pick_ite, seval, encT_eq, inR_i64]); (repeat with_reducible refine And.intro (by first | omega | (with_reducible first | exact lens_encT | exact lens_encL | exact lens_encB | exact lens_encP) | (simp; done) | (simp only [List.length_take, List.length_map, List.length_append, maxLen_eq]; omega)) ?_); (try (with_reducible refine hK _ ?_; clear hK K))))
      simp only [go_sem, List.forall_mem_nil, ↓guard_ite, ↓pick_ite, seval, FinQ, AS.result, resAll, resOne, tupV]
      rfl
  · rw [if_neg hb]
    refine ac_subst_Apply (Nat.le_of_ble_eq_true rfl) fun C hC => ?_
    unfold ir_subst_Apply
    repeat' (first | (with_reducible first | refine Wa ?_ | refine Wb ?_ | refine Wc ?_ | refine Wd ?_ | refine We ?_ | refine Wf ?_ | refine Wg ?_ | refine Wh ?_ | refine Wi ?_ | refine Wj ?_ | refine Wk (by decide) ?_ | refine Wl ?_ | refine Wm ?_ | refine Wn ?_) | refine CallG.mk _ (bindsCheck_a s) ?_ | ((with_reducible first | refine Wo (fun K hK => ?_) | refine Wq ?_ | refine Wr ?_); (try simp only [go_sem, List.forall_mem_nil, ↓guard_ite, ↓pick_ite, seval, encT_eq, inR_i64, hb]); (repeat with_reducible refine And.intro (by first | omega | (with_reducible first | exact lens_encT | exact lens_encL | exact lens_encB | exact lens_encP) | (simp; done) | (simp only [List.length_take, List.length_map, List.length_append, maxLen_eq]; omega)) ?_); (try (with_reducible refine hK _ ?_; clear hK K))))
    with_reducible refine Wp ?_
    simp only [go_sem, List.forall_mem_nil, ↓guard_ite, ↓pick_ite, seval, true_implies, false_implies, implies_true, decide_eq_true_eq, decide_eq_false_iff_not, Int.ofNat_lt, hb]
    (try with_reducible refine ite_conj ?_)
    repeat' (first | (with_reducible first | refine Wa ?_ | refine Wb ?_ | refine Wc ?_ | refine Wd ?_ | refine We ?_ | refine Wf ?_ | refine Wg ?_ | refine Wh ?_ | refine Wi ?_ | refine Wj ?_ | refine Wk (by decide) ?_ | refine Wl ?_ | refine Wm ?_ | refine Wn ?_) | ((with_reducible first | refine Wo (fun K hK => ?_) | refine Wq ?_ | refine Wr ?_); (try simp only [go_sem, List.forall_mem_nil, ↓guard_ite, ↓pick_ite, seval, encT_eq, inR_i64, hb]); (repeat with_reducible refine And.intro (by first | omega | (with_reducible first | exact lens_encT | exact lens_encL | exact lens_encB | exact lens_encP) | (simp; done) | (simp only [List.length_take, List.length_map, List.length_append, maxLen_eq]; omega)) ?_); (try (with_reducible refine hK _ ?_; clear hK K))))
    with_reducible refine Wp ?_
    simp only [go_sem, List.forall_mem_nil, ↓guard_ite, ↓pick_ite, seval, true_implies, false_implies, implies_true, decide_eq_true_eq, decide_eq_false_iff_not, Int.ofNat_lt, hb]
    (try with_reducible refine ite_conj ?_)
    repeat' (first | (with_reducible first | refine Wa ?_ | refine Wb ?_ | refine Wc ?_ | refine Wd ?_ | refine We ?_ | refine Wf ?_ | refine Wg ?_ | refine Wh ?_ | refine Wi ?_ | refine Wj ?_ | refine Wk (by decide) ?_ | refine Wl ?_ | refine Wm ?_ | refine Wn ?_) | ((with_reducible first | refine Wo (fun K hK => ?_) | refine Wq ?_ | refine Wr ?_); (try simp only [go_sem, List.forall_mem_nil, ↓guard_ite, ↓pick_ite, seval, encT_eq, inR_i64]); (repeat with_reducible refine And.intro (by first | omega | (with_reducible first | exact lens_encT | exact lens_encL | exact lens_encB | exact lens_encP) | (simp; done) | (simp only [List.length_take, List.length_map, List.length_append, maxLen_eq]; omega)) ?_); (try (with_reducible refine hK _ ?_; clear hK K))))
    simp only [go_sem, List.forall_mem_nil, ↓guard_ite, ↓pick_ite, seval, FinQ, AS.result, resAll, resOne, tupV]
    rfl
end Go.Proofs.YtdmgelbbjppgkaaDoor

namespace Go.Proofs.YtdmgelbbjppgkaaDoor
open Go Go.RowKit
set_option linter.unusedVariables false

theorem applyTo_yes {s : List Bd} {t : Tm} (hs : bindsMay s = 0) (ht : t.may = 0) (hz : (t.on s).size ≤ 2000) : applyTo s t = (t.on s, 0) := by
  unfold applyTo
  rw [if_pos hs, if_pos ht, if_pos hz]
end Go.Proofs.YtdmgelbbjppgkaaDoor

namespace Go.Proofs.YtdmgelbbjppgkaaDoor
open Go Go.RowKit
set_option linter.unusedVariables false
set_option linter.unusedSimpArgs false
set_option maxHeartbeats 800000

set_option maxRecDepth 100000 in
theorem topPlotkin_a (l : List Int) (m1 : Int) (hl : ∀ n ∈ l, inR .i64 n) (hm : l.length ≤ maxLen) (h1 : inR .i64 m1) : ACalls Tryd.prog 5 [aInts l, aInt m1] (aBool true) := by
  have r1 := pickI_range m1 14 (by omega)
  have p1 := pick_a m1 14 h1 (by omega)
  obtain ⟨k1, e1⟩ : ∃ k : Nat, pickI m1 14 = k := ⟨(pickI m1 14).toNat, by omega⟩
  rw [e1] at p1 r1
  obtain ⟨p, ht, zt, kp⟩ := termOf_a l hl hm 3 (by omega) k1 0 (by omega) (by omega)
  obtain ⟨s, hs, os, _, zs⟩ := bindsFrom_a l hl hm 3 (by omega) 30 5 (by omega) (by omega)
  obtain ⟨r, hr, or_, _, zr⟩ := bindsFrom_a l hl hm 3 (by omega) 70 5 (by omega) (by omega)
  have hz := size_sub (M := 9) (by omega) (fun b hb => by have := zs b hb; omega) p
  have hz' := size_sub (M := 9) (by omega) (fun b hb => by have := zr b hb; omega) p
  have ho := onRef_a s p (by omega)
  have ho' := onRef_a r p (by omega)
  rw [show onTo s p = (p.on s, true) by unfold onTo; rw [if_pos (by omega)]] at ho
  rw [show onTo r p = (p.on r, true) by unfold onTo; rw [if_pos (by omega)]] at ho'
  have ka : (p.on s).chk = 0 := chk_sub os.chk kp
  have kb : (p.on r).chk = 0 := chk_sub or_.chk kp
  have hleast : isCase p (genT (p.on s) (p.on r)) = true := gen_least kp os.var or_.var
  generalize p.on s = a at *
  generalize p.on r = b at *
  have s1 := sizeR_a a 200 (by omega) (by omega)
  have s2 := sizeR_a b 200 (by omega) (by omega)
  refine ac_metaprunetop_TopPlotkin (Nat.le_of_ble_eq_true rfl) fun C hC => ?_
  unfold ir_metaprunetop_TopPlotkin
  by_cases h256 : (256 : Int) < l.length
  · repeat' (first | (with_reducible first | refine Wa ?_ | refine Wb ?_ | refine Wc ?_ | refine Wd ?_ | refine We ?_ | refine Wf ?_ | refine Wg ?_ | refine Wh ?_ | refine Wi ?_ | refine Wj ?_ | refine Wk (by decide) ?_ | refine Wl ?_ | refine Wm ?_ | refine Wn ?_) | ((with_reducible first | refine Wo (fun K hK => ?_) | refine Wp ?_ | refine Wq ?_ | refine Wr ?_); (try simp only [go_sem, List.forall_mem_nil, ↓guard_ite, ↓pick_ite, seval, encT_eq, inR_i64, h256, decide_eq_true_eq, decide_eq_false_iff_not, Int.ofNat_lt]); (repeat with_reducible refine And.intro (by first | omega | (with_reducible first | exact lens_encT | exact lens_encL | exact lens_encB | exact lens_encP) | (simp; done) | (simp only [List.length_take, List.length_map, List.length_append, maxLen_eq]; omega)) ?_); (try (with_reducible refine hK _ ?_; clear hK K)); (try with_reducible refine ite_conj ?_)))
    simp only [go_sem, List.forall_mem_nil, ↓guard_ite, ↓pick_ite, seval, FinQ, AS.result, resAll, resOne, tupV]
  by_cases za : a.size ≤ 200
  case neg =>
    have hc : (200 : Int) < capTo a.size 200 := by unfold capTo; split <;> omega
    repeat' (first | (with_reducible first | refine Wa ?_ | refine Wb ?_ | refine Wc ?_ | refine Wd ?_ | refine We ?_ | refine Wf ?_ | refine Wg ?_ | refine Wh ?_ | refine Wi ?_ | refine Wj ?_ | refine Wk (by decide) ?_ | refine Wl ?_ | refine Wm ?_ | refine Wn ?_) | refine CallG.mk _ (p1) ?_ | refine CallG.mk _ (ht) ?_ | refine CallG.mk _ (hs) ?_ | refine CallG.mk _ (ho) ?_ | refine CallG.mk _ (hr) ?_ | refine CallG.mk _ (ho') ?_ | refine CallG.mk _ (s1) ?_ | ((with_reducible first | refine Wo (fun K hK => ?_) | refine Wp ?_ | refine Wq ?_ | refine Wr ?_); (try simp only [go_sem, List.forall_mem_nil, ↓guard_ite, ↓pick_ite, seval, encT_eq, inR_i64, h256, hc, decide_eq_true_eq, decide_eq_false_iff_not, Int.ofNat_lt]); (repeat with_reducible refine And.intro (by first | omega | (with_reducible first | exact lens_encT | exact lens_encL | exact lens_encB | exact lens_encP) | (simp; done) | (simp only [List.length_take, List.length_map, List.length_append, maxLen_eq]; omega)) ?_); (try (with_reducible refine hK _ ?_; clear hK K)); (try with_reducible refine ite_conj ?_)))
    simp only [go_sem, List.forall_mem_nil, ↓guard_ite, ↓pick_ite, seval, FinQ, AS.result, resAll, resOne, tupV]
  have hc : ¬ (200 : Int) < capTo a.size 200 := by unfold capTo; split <;> omega
  by_cases zb : b.size ≤ 200
  case neg =>
    have hd : (200 : Int) < capTo b.size 200 := by unfold capTo; split <;> omega
    repeat' (first | (with_reducible first | refine Wa ?_ | refine Wb ?_ | refine Wc ?_ | refine Wd ?_ | refine We ?_ | refine Wf ?_ | refine Wg ?_ | refine Wh ?_ | refine Wi ?_ | refine Wj ?_ | refine Wk (by decide) ?_ | refine Wl ?_ | refine Wm ?_ | refine Wn ?_) | refine CallG.mk _ (p1) ?_ | refine CallG.mk _ (ht) ?_ | refine CallG.mk _ (hs) ?_ | refine CallG.mk _ (ho) ?_ | refine CallG.mk _ (hr) ?_ | refine CallG.mk _ (ho') ?_ | refine CallG.mk _ (s1) ?_ | refine CallG.mk _ (s2) ?_ | ((with_reducible first | refine Wo (fun K hK => ?_) | refine Wp ?_ | refine Wq ?_ | refine Wr ?_); (try simp only [go_sem, List.forall_mem_nil, ↓guard_ite, ↓pick_ite, seval, encT_eq, inR_i64, h256, hc, hd, decide_eq_true_eq, decide_eq_false_iff_not, Int.ofNat_lt]); (repeat with_reducible refine And.intro (by first | omega | (with_reducible first | exact lens_encT | exact lens_encL | exact lens_encB | exact lens_encP) | (simp; done) | (simp only [List.length_take, List.length_map, List.length_append, maxLen_eq]; omega)) ?_); (try (with_reducible refine hK _ ?_; clear hK K)); (try with_reducible refine ite_conj ?_)))
    simp only [go_sem, List.forall_mem_nil, ↓guard_ite, ↓pick_ite, seval, FinQ, AS.result, resAll, resOne, tupV]
  have hd : ¬ (200 : Int) < capTo b.size 200 := by unfold capTo; split <;> omega
  have am := may_of ka za
  have bm := may_of kb zb
  have pm := may_of kp (show p.size ≤ 200 by omega)
  have c1 := general_yes a b am bm
  have hT : lgT a b = genT a b := rfl
  have hL : lgB Prod.fst a b = sortB (zBinds Prod.fst 0 (genP a b)) := rfl
  have hR : lgB Prod.snd a b = sortB (zBinds Prod.snd 0 (genP a b)) := rfl
  rw [hT, hL, hR] at c1
  have kt := gen_chk (b := b) ka (by omega)
  have zt2 : (genT a b).size ≤ 200 := Nat.le_trans (lg_size a b []) za
  have tm := may_of kt zt2
  have onL : (genT a b).on (sortB (zBinds Prod.fst 0 (genP a b))) = a := gen_on Prod.fst (.inl fun _ _ => rfl) a b
  have onR : (genT a b).on (sortB (zBinds Prod.snd 0 (genP a b))) = b := gen_on Prod.snd (.inr fun _ _ => rfl) a b
  have okL := gen_binds_ok Prod.fst (.inl fun _ _ => rfl) ka kb (by omega)
  have okR := gen_binds_ok Prod.snd (.inr fun _ _ => rfl) ka kb (by omega)
  have hvar := gen_variant ka kb (by omega) (by omega)
  have two0 : ∀ x y : Tm, x.may = 0 → y.may = 0 → twoMay x y = 0 := fun x y h k => by unfold twoMay; rw [if_pos h]; exact k
  have m1 := match_a p (genT a b)
  rw [if_pos (two0 _ _ pm tm), two0 _ _ pm tm, hleast, show (decide ((0 : Int) = 0) && true) = true from rfl] at m1
  have m2 := match_a b a
  rw [if_pos (two0 _ _ bm am), two0 _ _ bm am, show (decide ((0 : Int) = 0) && isCase b a) = isCase b a by simp] at m2
  have m3 := variant_a (genT a b) b
  rw [two0 _ _ tm bm, show (decide ((0 : Int) = 0) && (isCase (genT a b) b && isCase b (genT a b))) = isCase b a by rw [← hvar]; simp] at m3
  have sT := sameR_a (genT a b) (genT a b)
  rw [Tm.beq_refl] at sT
  have sA := sameR_a a a
  rw [Tm.beq_refl] at sA
  have sB := sameR_a b b
  rw [Tm.beq_refl] at sB
  have a1 := applyP_a (sortB (zBinds Prod.fst 0 (genP a b))) (genT a b)
  have a2 := applyP_a (sortB (zBinds Prod.snd 0 (genP a b))) (genT a b)
  have hlen1 : (sortB (zBinds Prod.fst 0 (genP a b))).length = (genP a b).length := by rw [sortB_length, zBinds_len]
  have hlen2 : (sortB (zBinds Prod.snd 0 (genP a b))).length = (genP a b).length := by rw [sortB_length, zBinds_len]
  have hsz : ∀ q ∈ genP a b, q.1.size ≤ 200 ∧ q.2.size ≤ 200 := (lg_pairs (q := fun t => t.size ≤ 200) (q' := fun t => t.size ≤ 200) (fun t h x hx => by
    have := Tm.size_mem hx
    have := Tm.size_eq t
    omega) (fun t h x hx => by
    have := Tm.size_mem hx
    have := Tm.size_eq t
    omega) a b [] za zb ⟨by simp⟩).all
  by_cases h40 : (genP a b).length ≤ 40
  · have b1 : bindsMay (sortB (zBinds Prod.fst 0 (genP a b))) = 0 := bindsMay_ok okL (by omega) fun c hc => by
      obtain ⟨i, q, _, _, hq, rfl⟩ := zBinds_mem Prod.fst (sortB_mem.1 hc)
      exact (hsz q hq).1
    have b2 : bindsMay (sortB (zBinds Prod.snd 0 (genP a b))) = 0 := bindsMay_ok okR (by omega) fun c hc => by
      obtain ⟨i, q, _, _, hq, rfl⟩ := zBinds_mem Prod.snd (sortB_mem.1 hc)
      exact (hsz q hq).2
    rw [applyTo_yes b1 tm (by rw [onL]; omega), onL] at a1
    rw [applyTo_yes b2 tm (by rw [onR]; omega), onR] at a2
    generalize isCase b a = w at *
    clear onL onR okL okR hvar hT hL hR hsz hlen1 hlen2 h40 b1 b2 kt zt2 tm
    generalize sortB (zBinds Prod.fst 0 (genP a b)) = Lb at *
    generalize sortB (zBinds Prod.snd 0 (genP a b)) = Rb at *
    generalize genT a b = T at *
    cases w
    all_goals
      repeat' (first | (with_reducible first | refine Wa ?_ | refine Wb ?_ | refine Wc ?_ | refine Wd ?_ | refine We ?_ | refine Wf ?_ | refine Wg ?_ | refine Wh ?_ | refine Wi ?_ | refine Wj ?_ | refine Wk (by decide) ?_ | refine Wl ?_ | refine Wm ?_ | refine Wn ?_) | refine CallG.mk _ (p1) ?_ | refine CallG.mk _ (ht) ?_ | refine CallG.mk _ (hs) ?_ | refine CallG.mk _ (ho) ?_ | refine CallG.mk _ (hr) ?_ | refine CallG.mk _ (ho') ?_ | refine CallG.mk _ (s1) ?_ | refine CallG.mk _ (s2) ?_ | refine CallG.mk _ (c1) ?_ | refine CallG.mk _ (a1) ?_ | refine CallG.mk _ (a2) ?_ | refine CallG.mk _ (m1) ?_ | refine CallG.mk _ (sA) ?_ | refine CallG.mk _ (sB) ?_ | refine CallG.mk _ (m2) ?_ | refine CallG.mk _ (m3) ?_ | ((with_reducible first | refine Wo (fun K hK => ?_) | refine Wp ?_ | refine Wq ?_ | refine Wr ?_); (try simp only [go_sem, List.forall_mem_nil, ↓guard_ite, ↓pick_ite, seval, encT_eq, inR_i64, h256, hc, hd, decide_eq_true_eq, decide_eq_false_iff_not, Int.ofNat_lt]); (repeat with_reducible refine And.intro (by first | omega | (with_reducible first | exact lens_encT | exact lens_encL | exact lens_encB | exact lens_encP) | (simp; done) | (simp only [List.length_take, List.length_map, List.length_append, maxLen_eq]; omega)) ?_); (try (with_reducible refine hK _ ?_; clear hK K)); (try with_reducible refine ite_conj ?_)))
      simp only [go_sem, List.forall_mem_nil, ↓guard_ite, ↓pick_ite, seval, FinQ, AS.result, resAll, resOne, tupV]
  · have b1 : bindsMay (sortB (zBinds Prod.fst 0 (genP a b))) = 3 := by unfold bindsMay; rw [if_pos (by omega)]
    have b2 : bindsMay (sortB (zBinds Prod.snd 0 (genP a b))) = 3 := by unfold bindsMay; rw [if_pos (by omega)]
    have e1 : applyTo (sortB (zBinds Prod.fst 0 (genP a b))) (genT a b) = (Tm.nil, 3) := by unfold applyTo; rw [if_neg (by rw [b1]; decide), b1]
    have e2 : applyTo (sortB (zBinds Prod.snd 0 (genP a b))) (genT a b) = (Tm.nil, 3) := by unfold applyTo; rw [if_neg (by rw [b2]; decide), b2]
    rw [e1] at a1
    rw [e2] at a2
    have hbig : (40 : Int) < ((sortB (zBinds Prod.fst 0 (genP a b))).length : Nat) := by omega
    clear onL onR okL okR hvar hT hL hR hsz hlen1 hlen2 h40 b1 b2 e1 e2 kt zt2 tm
    generalize sortB (zBinds Prod.fst 0 (genP a b)) = Lb at *
    generalize sortB (zBinds Prod.snd 0 (genP a b)) = Rb at *
    generalize genT a b = T at *
    repeat' (first | (with_reducible first | refine Wa ?_ | refine Wb ?_ | refine Wc ?_ | refine Wd ?_ | refine We ?_ | refine Wf ?_ | refine Wg ?_ | refine Wh ?_ | refine Wi ?_ | refine Wj ?_ | refine Wk (by decide) ?_ | refine Wl ?_ | refine Wm ?_ | refine Wn ?_) | refine CallG.mk _ (p1) ?_ | refine CallG.mk _ (ht) ?_ | refine CallG.mk _ (hs) ?_ | refine CallG.mk _ (ho) ?_ | refine CallG.mk _ (hr) ?_ | refine CallG.mk _ (ho') ?_ | refine CallG.mk _ (s1) ?_ | refine CallG.mk _ (s2) ?_ | refine CallG.mk _ (c1) ?_ | refine CallG.mk _ (a1) ?_ | refine CallG.mk _ (a2) ?_ | refine CallG.mk _ (m1) ?_ | refine CallG.mk _ (sT) ?_ | ((with_reducible first | refine Wo (fun K hK => ?_) | refine Wp ?_ | refine Wq ?_ | refine Wr ?_); (try simp only [go_sem, List.forall_mem_nil, ↓guard_ite, ↓pick_ite, seval, encT_eq, inR_i64, h256, hc, hd, hbig, decide_eq_true_eq, decide_eq_false_iff_not, Int.ofNat_lt]); (repeat with_reducible refine And.intro (by first | omega | (with_reducible first | exact lens_encT | exact lens_encL | exact lens_encB | exact lens_encP) | (simp; done) | (simp only [List.length_take, List.length_map, List.length_append, maxLen_eq]; omega)) ?_); (try (with_reducible refine hK _ ?_; clear hK K)); (try with_reducible refine ite_conj ?_)))
    simp only [go_sem, List.forall_mem_nil, ↓guard_ite, ↓pick_ite, seval, FinQ, AS.result, resAll, resOne, tupV]
end Go.Proofs.YtdmgelbbjppgkaaDoor
