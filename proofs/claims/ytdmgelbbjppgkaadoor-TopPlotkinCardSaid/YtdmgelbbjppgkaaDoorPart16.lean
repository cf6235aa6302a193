/-
  Part 16 of the texts: BGen; BRowBd; IrSortM; IrSubst. Conditions: none.
-/
import Derived.Test.YtdmgelbbjppgkaaDoorPart15
namespace Go.Proofs.YtdmgelbbjppgkaaDoor
open Go Go.RowKit
set_option linter.unusedVariables false
set_option linter.unusedSimpArgs false
set_option maxHeartbeats 1000000

abbrev boxM (i n : Nat) : ABlk := .box 64 [.row i n]
abbrev arowP (l : List Pr) : ABlk := .arow 34 4 (l.map encP)
theorem posP_step {l : List Pr} {a b : Tm} {k : Nat} {p : Pr} (hk : l[k]? = some p) (h : posP l a b = k + posP (l.drop k) a b) : ((p.1.beq a && p.2.beq b) = true → posP l a b = k) ∧ ((p.1.beq a && p.2.beq b) = false → posP l a b = k + 1 + posP (l.drop (k + 1)) a b) := by
  rw [drop_get hk, posP] at h
  constructor
  · intro e; rw [if_pos e] at h; omega
  · intro e; rw [if_neg (by rw [e]; simp)] at h; omega

theorem of_M (a : Tm) (hz : a.size ≤ 1000000) : ∀ (b : Tm) (a0 r : Nat) (l : List Pr) (S : AStore), 1000 ≤ a0 → 1000 ≤ r → ¬ r = a0 → l.length + a.size ≤ 900000 → S a0 = some (boxM r l.length) → S r = some (arowP l) →
    ACallsS Tryd.prog 28 [.one (.ptr a0 1 0 0), aTm a, aTm b] S (aTm (a.lg b l).1) (updE (updE S a0 (some (boxM r (a.lg b l).2.length))) r (some (arowP (a.lg b l).2))) := by
  induction h : SizeOf.sizeOf a using Nat.strongRecOn generalizing a with
  | _ N ih =>
  subst h
  intro b a0 r l S ha0 hr0 hra hl hSa hSr
  have hs := Tm.size_eq a
  have hln := Tm.length_le a.args
  refine acS_metaprune_general_maker_of (Nat.le_of_ble_eq_true rfl) fun hS C hC => ?_
  have n4 : S 4 = none := clean_none hS (by omega)
  have n5 : S 5 = none := clean_none hS (by omega)
  have n6 : S 6 = none := clean_none hS (by omega)
  have n7 : S 7 = none := clean_none hS (by omega)
  have n10 : S 10 = none := clean_none hS (by omega)
  have n900 : S 900 = none := clean_none hS (by omega)
  have d4 : ¬ 4 = a0 := by omega
  have d5 : ¬ 5 = a0 := by omega
  have d6 : ¬ 6 = a0 := by omega
  have d7 : ¬ 7 = a0 := by omega
  have d10 : ¬ 10 = a0 := by omega
  have d900 : ¬ 900 = a0 := by omega
  have e4 : ¬ a0 = 4 := by omega
  have e5 : ¬ a0 = 5 := by omega
  have e6 : ¬ a0 = 6 := by omega
  have e7 : ¬ a0 = 7 := by omega
  have e10 : ¬ a0 = 10 := by omega
  have e900 : ¬ a0 = 900 := by omega
  have f4 : ¬ 4 = r := by omega
  have f5 : ¬ 5 = r := by omega
  have f6 : ¬ 6 = r := by omega
  have f7 : ¬ 7 = r := by omega
  have f10 : ¬ 10 = r := by omega
  have f900 : ¬ 900 = r := by omega
  have g4 : ¬ r = 4 := by omega
  have g5 : ¬ r = 5 := by omega
  have g6 : ¬ r = 6 := by omega
  have g7 : ¬ r = 7 := by omega
  have g10 : ¬ r = 10 := by omega
  have g900 : ¬ r = 900 := by omega
  have har : ¬ a0 = r := fun e => hra e.symm
  have hbm : ∀ n, (boxM r n).high = true := fun n => by simp [ABlk.high, AC.highs, AC.high, hr0]
  unfold ir_metaprune_general_maker_of
  repeat' (first | (with_reducible first | refine Wa ?_ | refine Wb ?_ | refine Wc ?_ | refine Wd ?_ | refine We ?_ | refine Wf ?_ | refine Wg ?_ | refine Wh ?_ | refine Wi ?_ | refine Wj ?_ | refine Wk (by decide) ?_ | refine Wl ?_ | refine Wm ?_ | refine Wn ?_) | ((with_reducible first | refine Wo (fun K hK => ?_) | refine Wp ?_ | refine Wq ?_ | refine Wr ?_); (try simp only [go_sem, List.forall_mem_nil, ↓guard_ite, ↓pick_ite, seval, encT_eq, inR_i64, n4, n5, n6, decide_eq_true_eq, decide_eq_false_iff_not, Int.ofNat_lt]); (repeat with_reducible refine And.intro (by first | omega | (with_reducible first | exact lens_encT | exact lens_encL | exact lens_encB | exact lens_encP) | (simp; done) | (simp only [List.length_take, List.length_map, List.length_append, maxLen_eq]; omega)) ?_); (try (with_reducible refine hK _ ?_; clear hK K)); (try with_reducible refine ite_conj ?_)))
  refine ⟨_, variable_a _, ?_⟩
  by_cases hhead : headEq a.name a.args b
  · obtain ⟨hv, hn, hlen⟩ := id hhead
    have hlen' : (a.args.length : Int) = b.args.length := by omega
    have hlg := lg_knot (l := l) hhead
    have hvb : isVar b.name = false := by rw [← hn]; exact hv
    repeat' (first | (with_reducible first | refine Wa ?_ | refine Wb ?_ | refine Wc ?_ | refine Wd ?_ | refine We ?_ | refine Wf ?_ | refine Wg ?_ | refine Wh ?_ | refine Wi ?_ | refine Wj ?_ | refine Wk (by decide) ?_ | refine Wl ?_ | refine Wm ?_ | refine Wn ?_) | ((with_reducible first | refine Wo (fun K hK => ?_) | refine Wp ?_ | refine Wq ?_ | refine Wr ?_); (try simp only [go_sem, List.forall_mem_nil, ↓guard_ite, ↓pick_ite, seval, encT_eq, inR_i64, hv, hvb, hn, hlen', n4, n5, n6, n7, decide_eq_true_eq, decide_eq_false_iff_not, Int.ofNat_lt]); (repeat with_reducible refine And.intro (by first | omega | (with_reducible first | exact lens_encT | exact lens_encL | exact lens_encB | exact lens_encP) | (simp; done) | (simp only [List.length_take, List.length_map, List.length_append, maxLen_eq]; omega)) ?_); (try (with_reducible refine hK _ ?_; clear hK K)); (try with_reducible refine ite_conj ?_)))
    refine IWP.ghost (Ghost.ownC 7 1 900 24 2 (xs := ([] : List Tm).map encT) (by rfl) (by rfl) (by simp only [go_sem, List.forall_mem_nil, ↓guard_ite, ↓pick_ite, seval, encT_eq, inR_i64, n900]) lens_encT) ?_
    refine IWP.loop (fun m x => ∃ k, k ≤ a.args.length ∧ m = a.args.length - k ∧ x.env 0 = .one (.ptr a0 1 0 0) ∧ x.env 4 = .one (.ptr 4 1 0 0) ∧ x.env 5 = .one (.ptr 5 1 0 0) ∧ x.env 6 = .one (.ptr 6 1 0 0) ∧ x.env 7 = .one (.ptr 7 1 0 0) ∧ x.env 36 = aInt a.args.length ∧ x.env 37 = aInt k ∧
        x.S 4 = some (.box 24 [.st (.str b.name), .st (.list (a.args.map encT))]) ∧ x.S 5 = some (.box 24 [.st (.str b.name), .st (.list (b.args.map encT))]) ∧ x.S 6 = some (.box 24 [.st (.str ⟨#[]⟩), .full []]) ∧ x.S 7 = some (.box 24 [.st (.str b.name), .row 900 k]) ∧ x.S 900 = some (.arow 24 2 ((Tm.lgL (a.args.take k) (b.args.take k) l).1.map encT)) ∧
        x.S a0 = some (boxM r (Tm.lgL (a.args.take k) (b.args.take k) l).2.length) ∧ x.S r = some (arowP (Tm.lgL (a.args.take k) (b.args.take k) l).2) ∧ ∀ i, 1000 ≤ i → i ≠ a0 → i ≠ r → x.S i = S i)
      a.args.length ⟨0, Nat.zero_le _, rfl, rfl, rfl, rfl, rfl, rfl, by simp only [go_sem, List.forall_mem_nil, ↓guard_ite, ↓pick_ite, seval, encT_eq, inR_i64, hlen'], rfl, by simp only [go_sem, List.forall_mem_nil, ↓guard_ite, ↓pick_ite, seval, encT_eq, inR_i64, hn], by simp only [go_sem, List.forall_mem_nil, ↓guard_ite, ↓pick_ite, seval, encT_eq, inR_i64], by simp only [go_sem, List.forall_mem_nil, ↓guard_ite, ↓pick_ite, seval, encT_eq, inR_i64], by (simp only [go_sem, List.forall_mem_nil, ↓guard_ite, ↓pick_ite, seval, encT_eq, inR_i64, hn]; rfl), rfl, by (simp only [go_sem, List.forall_mem_nil, ↓guard_ite, ↓pick_ite, seval, encT_eq, inR_i64, e4, e5, e6, e7, e900, hSa]; rfl), by (simp only [go_sem, List.forall_mem_nil, ↓guard_ite, ↓pick_ite, seval, encT_eq, inR_i64, g4, g5, g6, g7, g900, hSr]; rfl), fun i hi hne1 hne2 => ?_⟩ ?_
    · have i4 : ¬ i = 4 := by omega
      have i5 : ¬ i = 5 := by omega
      have i6 : ¬ i = 6 := by omega
      have i7 : ¬ i = 7 := by omega
      have i900 : ¬ i = 900 := by omega
      simp only [go_sem, List.forall_mem_nil, ↓guard_ite, ↓pick_ite, seval, encT_eq, inR_i64, i4, i5, i6, i7, i900]
    rintro m ⟨env, S1⟩ ⟨k, hk, rfl, e0, v4, v5, v6, v7, v36, v37, s4, s5, s6, s7, s900, sa, sr, hrest⟩
    simp only at e0 v4 v5 v6 v7 v36 v37 s4 s5 s6 s7 s900 sa sr hrest
    have hll : (a.args.take k).length = (b.args.take k).length := by simp [hlen]
    have hlk : (Tm.lgL (a.args.take k) (b.args.take k) l).1.length = k := by rw [lgL_len _ _ _ hll, List.length_take]; omega
    have hpl := lgL_lens (a.args.take k) (b.args.take k) l
    by_cases hlt : (k : Int) < a.args.length
    · obtain ⟨x, hx⟩ := get_lt (show k < a.args.length by omega)
      obtain ⟨y, hy⟩ := get_lt (show k < b.args.length by omega)
      have z1 := Tm.sizes_take hx
      have z2 := Tm.sizes_take_le a.args (k + 1)
      have hstep := lgL_take (l := l) hlen hx hy
      repeat' (first | (with_reducible first | refine Wa ?_ | refine Wb ?_ | refine Wc ?_ | refine Wd ?_ | refine We ?_ | refine Wf ?_ | refine Wg ?_ | refine Wh ?_ | refine Wi ?_ | refine Wj ?_ | refine Wk (by decide) ?_ | refine Wl ?_ | refine Wm ?_ | refine Wn ?_) | ((with_reducible first | refine Wo (fun K hK => ?_) | refine Wp ?_ | refine Wq ?_ | refine Wr ?_); (try simp only [go_sem, List.forall_mem_nil, ↓guard_ite, ↓pick_ite, seval, encT_eq, inR_i64, e0, v4, v5, v6, v7, v36, v37, s4, s5, s6, s7, s900, hlt, hx, hy, decide_eq_true_eq, decide_eq_false_iff_not, Int.ofNat_lt]); (repeat with_reducible refine And.intro (by first | omega | (with_reducible first | exact lens_encT | exact lens_encL | exact lens_encB | exact lens_encP) | (simp; done) | (simp only [List.length_take, List.length_map, List.length_append, maxLen_eq]; omega)) ?_); (try (with_reducible refine hK _ ?_; clear hK K)); (try with_reducible refine ite_conj ?_)))
      refine ⟨_, _, ih _ (Tm.lt_of_arg (mem_of_get hx)) x (by omega) rfl y (up1 a0) (up1 r) (Tm.lgL (a.args.take k) (b.args.take k) l).2 (upS S1) (up1_le a0) (up1_le r) (fun e => hra (Nat.add_right_cancel e)) (by omega) (by rw [upS_up, sa]; rfl) (by rw [upS_up, sr]; rfl), ?_⟩
      repeat' (first | (with_reducible first | refine Wa ?_ | refine Wb ?_ | refine Wc ?_ | refine Wd ?_ | refine We ?_ | refine Wf ?_ | refine Wg ?_ | refine Wh ?_ | refine Wi ?_ | refine Wj ?_ | refine Wk (by decide) ?_ | refine Wl ?_ | refine Wm ?_ | refine Wn ?_) | ((with_reducible first | refine Wo (fun K hK => ?_) | refine Wp ?_ | refine Wq ?_ | refine Wr ?_); (try simp only [go_sem, List.forall_mem_nil, ↓guard_ite, ↓pick_ite, seval, encT_eq, inR_i64, e0, v4, v5, v6, v7, v36, v37, s4, s5, s6, s7, s900, d4, d5, d6, d7, d900, f4, f5, f6, f7, f900, e4, e5, e6, e7, e900, g4, g5, g6, g7, g900, hlk, decide_eq_true_eq, decide_eq_false_iff_not, Int.ofNat_lt]); (repeat with_reducible refine And.intro (by first | omega | (with_reducible first | exact lens_encT | exact lens_encL | exact lens_encB | exact lens_encP) | (simp; done) | (simp only [List.length_take, List.length_map, List.length_append, maxLen_eq]; omega)) ?_); (try (with_reducible refine hK _ ?_; clear hK K)); (try with_reducible refine ite_conj ?_)))
      refine then_normal ⟨a.args.length - (k + 1), by omega, k + 1, by omega, rfl, ?_⟩
      rw [hstep]
      simp only [go_sem, List.forall_mem_nil, ↓guard_ite, ↓pick_ite, seval, encT_eq, inR_i64, e0, v4, v5, v6, v7, v36, v37, s4, s5, s6, s7, s900, d4, d5, d6, d7, d900, f4, f5, f6, f7, f900, e4, e5, e6, e7, e900, g4, g5, g6, g7, g900, har, hra]
      refine ⟨by congr 3, ?_, fun i hi hne1 hne2 => ?_⟩
      · rw [List.map_append, List.map_cons, List.map_nil, encT_eq]
      · have i7 : ¬ i = 7 := by omega
        have i900 : ¬ i = 900 := by omega
        simp only [go_sem, List.forall_mem_nil, ↓guard_ite, ↓pick_ite, seval, encT_eq, inR_i64, i7, i900, hne1, hne2]
        exact hrest i hi hne1 hne2
    · rw [List.take_of_length_le (by omega), List.take_of_length_le (by omega)] at sa sr s900 hlk
      repeat' (first | (with_reducible first | refine Wa ?_ | refine Wb ?_ | refine Wc ?_ | refine Wd ?_ | refine We ?_ | refine Wf ?_ | refine Wg ?_ | refine Wh ?_ | refine Wi ?_ | refine Wj ?_ | refine Wk (by decide) ?_ | refine Wl ?_ | refine Wm ?_ | refine Wn ?_) | ((with_reducible first | refine Wo (fun K hK => ?_) | refine Wp ?_ | refine Wq ?_ | refine Wr ?_); (try simp only [go_sem, List.forall_mem_nil, ↓guard_ite, ↓pick_ite, seval, encT_eq, inR_i64, e0, v4, v5, v6, v7, v36, v37, s6, s7, hlt, decide_eq_true_eq, decide_eq_false_iff_not, Int.ofNat_lt]); (repeat with_reducible refine And.intro (by first | omega | (with_reducible first | exact lens_encT | exact lens_encL | exact lens_encB | exact lens_encP) | (simp; done) | (simp only [List.length_take, List.length_map, List.length_append, maxLen_eq]; omega)) ?_); (try (with_reducible refine hK _ ?_; clear hK K)); (try with_reducible refine ite_conj ?_)))
      rw [hlg]
      refine finS_two (.agg [.st (.str b.name), .row 900 k]) hS ha0 hr0 hra (hbm _) rfl trivial ?_ ?_ ?_ ?_ fun i hi hne1 hne2 => ?_
      · simp only [go_sem, List.forall_mem_nil, ↓guard_ite, ↓pick_ite, seval, encT_eq, inR_i64, resAll, resOne, tupV, v6, s6]
      · simp only [go_sem, List.forall_mem_nil, ↓guard_ite, ↓pick_ite, seval, encT_eq, inR_i64, s900, hlk, hn]
        rfl
      · simp only [go_sem, List.forall_mem_nil, ↓guard_ite, ↓pick_ite, seval, encT_eq, inR_i64, e6, sa]
      · simp only [go_sem, List.forall_mem_nil, ↓guard_ite, ↓pick_ite, seval, encT_eq, inR_i64, g6, sr]
      · have i6 : ¬ i = 6 := by omega
        simp only [go_sem, List.forall_mem_nil, ↓guard_ite, ↓pick_ite, seval, encT_eq, inR_i64, i6]
        exact hrest i hi hne1 hne2
  · have hnew := lg_new (l := l) hhead
    have h3 : isVar a.name = true ∨ (isVar a.name = false ∧ ¬ a.name = b.name) ∨ (isVar a.name = false ∧ a.name = b.name ∧ ¬ (a.args.length : Int) = b.args.length) := by
      cases hv : isVar a.name with
      | true => exact .inl rfl
      | false =>
        by_cases hn : a.name = b.name
        · exact .inr (.inr ⟨rfl, hn, fun e => hhead ⟨hv, hn, by omega⟩⟩)
        · exact .inr (.inl ⟨rfl, hn⟩)
    rcases h3 with hv | ⟨hv, hn⟩ | ⟨hv, hn, hlen'⟩
    case' inl =>
      repeat' (first | (with_reducible first | refine Wa ?_ | refine Wb ?_ | refine Wc ?_ | refine Wd ?_ | refine We ?_ | refine Wf ?_ | refine Wg ?_ | refine Wh ?_ | refine Wi ?_ | refine Wj ?_ | refine Wk (by decide) ?_ | refine Wl ?_ | refine Wm ?_ | refine Wn ?_) | ((with_reducible first | refine Wo (fun K hK => ?_) | refine Wp ?_ | refine Wq ?_ | refine Wr ?_); (try simp only [go_sem, List.forall_mem_nil, ↓guard_ite, ↓pick_ite, seval, encT_eq, inR_i64, hv, n4, n5, n6, hSa, hSr, e4, e5, e6, g4, g5, g6, decide_eq_true_eq, decide_eq_false_iff_not, Int.ofNat_lt]); (repeat with_reducible refine And.intro (by first | omega | (with_reducible first | exact lens_encT | exact lens_encL | exact lens_encB | exact lens_encP) | (simp; done) | (simp only [List.length_take, List.length_map, List.length_append, maxLen_eq]; omega)) ?_); (try (with_reducible refine hK _ ?_; clear hK K)); (try with_reducible refine ite_conj ?_)))
    case' inr.inl =>
      repeat' (first | (with_reducible first | refine Wa ?_ | refine Wb ?_ | refine Wc ?_ | refine Wd ?_ | refine We ?_ | refine Wf ?_ | refine Wg ?_ | refine Wh ?_ | refine Wi ?_ | refine Wj ?_ | refine Wk (by decide) ?_ | refine Wl ?_ | refine Wm ?_ | refine Wn ?_) | ((with_reducible first | refine Wo (fun K hK => ?_) | refine Wp ?_ | refine Wq ?_ | refine Wr ?_); (try simp only [go_sem, List.forall_mem_nil, ↓guard_ite, ↓pick_ite, seval, encT_eq, inR_i64, hv, hn, n4, n5, n6, hSa, hSr, e4, e5, e6, g4, g5, g6, decide_eq_true_eq, decide_eq_false_iff_not, Int.ofNat_lt]); (repeat with_reducible refine And.intro (by first | omega | (with_reducible first | exact lens_encT | exact lens_encL | exact lens_encB | exact lens_encP) | (simp; done) | (simp only [List.length_take, List.length_map, List.length_append, maxLen_eq]; omega)) ?_); (try (with_reducible refine hK _ ?_; clear hK K)); (try with_reducible refine ite_conj ?_)))
    case' inr.inr =>
      have hvb : isVar b.name = false := by rw [← hn]; exact hv
      repeat' (first | (with_reducible first | refine Wa ?_ | refine Wb ?_ | refine Wc ?_ | refine Wd ?_ | refine We ?_ | refine Wf ?_ | refine Wg ?_ | refine Wh ?_ | refine Wi ?_ | refine Wj ?_ | refine Wk (by decide) ?_ | refine Wl ?_ | refine Wm ?_ | refine Wn ?_) | ((with_reducible first | refine Wo (fun K hK => ?_) | refine Wp ?_ | refine Wq ?_ | refine Wr ?_); (try simp only [go_sem, List.forall_mem_nil, ↓guard_ite, ↓pick_ite, seval, encT_eq, inR_i64, hv, hvb, hn, hlen', n4, n5, n6, hSa, hSr, e4, e5, e6, g4, g5, g6, decide_eq_true_eq, decide_eq_false_iff_not, Int.ofNat_lt]); (repeat with_reducible refine And.intro (by first | omega | (with_reducible first | exact lens_encT | exact lens_encL | exact lens_encB | exact lens_encP) | (simp; done) | (simp only [List.length_take, List.length_map, List.length_append, maxLen_eq]; omega)) ?_); (try (with_reducible refine hK _ ?_; clear hK K)); (try with_reducible refine ite_conj ?_)))
    all_goals
      refine IWP.loopD [10] (fun m x => ∃ k, k ≤ l.length ∧ m = l.length - k ∧ posP l a b = k + posP (l.drop k) a b ∧ x.env 0 = .one (.ptr a0 1 0 0) ∧ x.env 4 = .one (.ptr 4 1 0 0) ∧ x.env 5 = .one (.ptr 5 1 0 0) ∧ x.env 6 = .one (.ptr 6 1 0 0) ∧ x.env 62 = .one (.row r l.length) ∧ x.env 63 = aInt l.length ∧ x.env 64 = aInt k ∧
          x.S 4 = some (.box 24 [.st (.str a.name), .st (.list (a.args.map encT))]) ∧ x.S 5 = some (.box 24 [.st (.str b.name), .st (.list (b.args.map encT))]) ∧ x.S 6 = some (.box 24 [.st (.str ⟨#[]⟩), .full []]) ∧ x.S 10 = none ∧ x.S a0 = some (boxM r l.length) ∧ x.S r = some (arowP l) ∧ ∀ i, 1000 ≤ i → i ≠ a0 → i ≠ r → x.S i = S i)
        l.length ⟨0, Nat.zero_le _, rfl, by rw [List.drop_zero, Nat.zero_add], rfl, rfl, rfl, rfl, rfl, rfl, rfl, by (simp only [go_sem, List.forall_mem_nil, ↓guard_ite, ↓pick_ite, seval, encT_eq, inR_i64]; try simp only [hn]), by simp only [go_sem, List.forall_mem_nil, ↓guard_ite, ↓pick_ite, seval, encT_eq, inR_i64], by simp only [go_sem, List.forall_mem_nil, ↓guard_ite, ↓pick_ite, seval, encT_eq, inR_i64], by simp only [go_sem, List.forall_mem_nil, ↓guard_ite, ↓pick_ite, seval, encT_eq, inR_i64, n10, d10], by (simp only [go_sem, List.forall_mem_nil, ↓guard_ite, ↓pick_ite, seval, encT_eq, inR_i64, e4, e5, e6, hSa]), by (simp only [go_sem, List.forall_mem_nil, ↓guard_ite, ↓pick_ite, seval, encT_eq, inR_i64, g4, g5, g6, hSr]), fun i hi hne1 hne2 => ?_⟩ ?_
      · have i4 : ¬ i = 4 := by omega
        have i5 : ¬ i = 5 := by omega
        have i6 : ¬ i = 6 := by omega
        simp only [go_sem, List.forall_mem_nil, ↓guard_ite, ↓pick_ite, seval, encT_eq, inR_i64, i4, i5, i6]
      rintro m ⟨env, S1⟩ ⟨k, hk, rfl, hpos, e0, v4, v5, v6, v62, v63, v64, s4, s5, s6, s10, sa, sr, hrest⟩
      simp only at e0 v4 v5 v6 v62 v63 v64 s4 s5 s6 s10 sa sr hrest
      by_cases hlt : (k : Int) < l.length
      · obtain ⟨p, hp⟩ := get_lt (show k < l.length by omega)
        obtain ⟨hp1, hp2⟩ := posP_step hp hpos
        repeat' (first | (with_reducible first | refine Wa ?_ | refine Wb ?_ | refine Wc ?_ | refine Wd ?_ | refine We ?_ | refine Wf ?_ | refine Wg ?_ | refine Wh ?_ | refine Wi ?_ | refine Wj ?_ | refine Wk (by decide) ?_ | refine Wl ?_ | refine Wm ?_ | refine Wn ?_) | ((with_reducible first | refine Wo (fun K hK => ?_) | refine Wp ?_ | refine Wq ?_ | refine Wr ?_); (try simp only [go_sem, List.forall_mem_nil, ↓guard_ite, ↓pick_ite, seval, encT_eq, inR_i64, e0, v4, v5, v6, v62, v63, v64, s4, s5, s6, s10, sr, hlt, hp, encP, d10, f10, e10, g10, decide_eq_true_eq, decide_eq_false_iff_not, Int.ofNat_lt]); (repeat with_reducible refine And.intro (by first | omega | (with_reducible first | exact lens_encT | exact lens_encL | exact lens_encB | exact lens_encP) | (simp; done) | (simp only [List.length_take, List.length_map, List.length_append, maxLen_eq]; omega)) ?_); (try (with_reducible refine hK _ ?_; clear hK K)); (try with_reducible refine ite_conj ?_)))
        refine ⟨_, same_a p.1 a, ?_⟩
        cases h1 : p.1.beq a with
        | true =>
          repeat' (first | (with_reducible first | refine Wa ?_ | refine Wb ?_ | refine Wc ?_ | refine Wd ?_ | refine We ?_ | refine Wf ?_ | refine Wg ?_ | refine Wh ?_ | refine Wi ?_ | refine Wj ?_ | refine Wk (by decide) ?_ | refine Wl ?_ | refine Wm ?_ | refine Wn ?_) | ((with_reducible first | refine Wo (fun K hK => ?_) | refine Wp ?_ | refine Wq ?_ | refine Wr ?_); (try simp only [go_sem, List.forall_mem_nil, ↓guard_ite, ↓pick_ite, seval, encT_eq, inR_i64, h1, e0, v4, v5, v6, v62, v63, v64, s4, s5, s6, s10, sr, decide_eq_true_eq, decide_eq_false_iff_not, Int.ofNat_lt]); (repeat with_reducible refine And.intro (by first | omega | (with_reducible first | exact lens_encT | exact lens_encL | exact lens_encB | exact lens_encP) | (simp; done) | (simp only [List.length_take, List.length_map, List.length_append, maxLen_eq]; omega)) ?_); (try (with_reducible refine hK _ ?_; clear hK K)); (try with_reducible refine ite_conj ?_)))
          refine ⟨_, same_a p.2 b, ?_⟩
          cases h2 : p.2.beq b with
          | true =>
            have hpk := hp1 (by rw [h1, h2]; rfl)
            repeat' (first | (with_reducible first | refine Wa ?_ | refine Wb ?_ | refine Wc ?_ | refine Wd ?_ | refine We ?_ | refine Wf ?_ | refine Wg ?_ | refine Wh ?_ | refine Wi ?_ | refine Wj ?_ | refine Wk (by decide) ?_ | refine Wl ?_ | refine Wm ?_ | refine Wn ?_) | refine CallG.mk _ (genName_a k (by omega)) ?_ | ((with_reducible first | refine Wo (fun K hK => ?_) | refine Wp ?_ | refine Wq ?_ | refine Wr ?_); (try simp only [go_sem, List.forall_mem_nil, ↓guard_ite, ↓pick_ite, seval, encT_eq, inR_i64, h1, h2, e0, v4, v5, v6, v62, v63, v64, s4, s5, s6, s10, sr, decide_eq_true_eq, decide_eq_false_iff_not, Int.ofNat_lt]); (repeat with_reducible refine And.intro (by first | omega | (with_reducible first | exact lens_encT | exact lens_encL | exact lens_encB | exact lens_encP) | (simp; done) | (simp only [List.length_take, List.length_map, List.length_append, maxLen_eq]; omega)) ?_); (try (with_reducible refine hK _ ?_; clear hK K)); (try with_reducible refine ite_conj ?_)))
            rw [hnew, hpk, show addP l a b = l by unfold addP; rw [hpk, if_pos (by omega)]]
            refine finS_two (.agg [.st (.str (zName k)), .full []]) hS ha0 hr0 hra (hbm _) rfl trivial ?_ ?_ ?_ ?_ fun i hi hne1 hne2 => ?_
            · simp only [go_sem, List.forall_mem_nil, ↓guard_ite, ↓pick_ite, seval, encT_eq, inR_i64, resAll, resOne, tupV, v6, s6]
            · simp only [go_sem, List.forall_mem_nil, ↓guard_ite, ↓pick_ite, seval, encT_eq, inR_i64]
              rfl
            · simp only [go_sem, List.forall_mem_nil, ↓guard_ite, ↓pick_ite, seval, encT_eq, inR_i64, e6, e10, sa]
            · simp only [go_sem, List.forall_mem_nil, ↓guard_ite, ↓pick_ite, seval, encT_eq, inR_i64, g6, g10, sr]
            · have i6 : ¬ i = 6 := by omega
              have i10 : ¬ i = 10 := by omega
              simp only [go_sem, List.forall_mem_nil, ↓guard_ite, ↓pick_ite, seval, encT_eq, inR_i64, i6, i10]
              exact hrest i hi hne1 hne2
          | false =>
            have hpk := hp2 (by rw [h1, h2]; rfl)
            repeat' (first | (with_reducible first | refine Wa ?_ | refine Wb ?_ | refine Wc ?_ | refine Wd ?_ | refine We ?_ | refine Wf ?_ | refine Wg ?_ | refine Wh ?_ | refine Wi ?_ | refine Wj ?_ | refine Wk (by decide) ?_ | refine Wl ?_ | refine Wm ?_ | refine Wn ?_) | ((with_reducible first | refine Wo (fun K hK => ?_) | refine Wp ?_ | refine Wq ?_ | refine Wr ?_); (try simp only [go_sem, List.forall_mem_nil, ↓guard_ite, ↓pick_ite, seval, encT_eq, inR_i64, h1, h2, e0, v4, v5, v6, v62, v63, v64, s4, s5, s6, s10, sr, decide_eq_true_eq, decide_eq_false_iff_not, Int.ofNat_lt]); (repeat with_reducible refine And.intro (by first | omega | (with_reducible first | exact lens_encT | exact lens_encL | exact lens_encB | exact lens_encP) | (simp; done) | (simp only [List.length_take, List.length_map, List.length_append, maxLen_eq]; omega)) ?_); (try (with_reducible refine hK _ ?_; clear hK K)); (try with_reducible refine ite_conj ?_)))
            refine then_normal ⟨l.length - (k + 1), by omega, k + 1, by omega, rfl, hpk, ?_⟩
            have hib : (a0 == 10) = false := by simp; omega
            have hjb : (r == 10) = false := by simp; omega
            simp only [go_sem, List.forall_mem_nil, ↓guard_ite, ↓pick_ite, seval, AS.drop, dropS, AC.clears, AC.clear, AC.highs, AC.high, Bool.not_false, Bool.true_and, Bool.and_self, AV.purge, AV.purges, AC.purge, ABlk.purge, List.contains_cons, List.contains_nil, Nat.reduceBEq, Bool.or_self, Bool.or_false, Bool.false_or, Bool.or_true, encT_eq, inR_i64, e0, v4, v5, v6, v62, v63, v64, s4, s5, s6, s10, sa, sr, hib, hjb, e10, g10]
            refine ⟨by congr 3, fun i hi hne1 hne2 => ?_⟩
            have i10 : ¬ i = 10 := by omega
            have i10b : (i == 10) = false := by simp; omega
            simp only [go_sem, List.forall_mem_nil, ↓guard_ite, ↓pick_ite, seval, AS.drop, dropS, AC.clears, AC.clear, AC.highs, AC.high, Bool.not_false, Bool.true_and, Bool.and_self, AV.purge, AV.purges, AC.purge, ABlk.purge, List.contains_cons, List.contains_nil, Nat.reduceBEq, Bool.or_self, Bool.or_false, Bool.false_or, Bool.or_true, encT_eq, inR_i64, i10, i10b]
            rw [hrest i hi hne1 hne2]
            exact purgeS (by decide) fun b hb => (hS i b hb).2
        | false =>
          have hpk := hp2 (by rw [h1]; rfl)
          repeat' (first | (with_reducible first | refine Wa ?_ | refine Wb ?_ | refine Wc ?_ | refine Wd ?_ | refine We ?_ | refine Wf ?_ | refine Wg ?_ | refine Wh ?_ | refine Wi ?_ | refine Wj ?_ | refine Wk (by decide) ?_ | refine Wl ?_ | refine Wm ?_ | refine Wn ?_) | ((with_reducible first | refine Wo (fun K hK => ?_) | refine Wp ?_ | refine Wq ?_ | refine Wr ?_); (try simp only [go_sem, List.forall_mem_nil, ↓guard_ite, ↓pick_ite, seval, encT_eq, inR_i64, h1, e0, v4, v5, v6, v62, v63, v64, s4, s5, s6, s10, sr, decide_eq_true_eq, decide_eq_false_iff_not, Int.ofNat_lt]); (repeat with_reducible refine And.intro (by first | omega | (with_reducible first | exact lens_encT | exact lens_encL | exact lens_encB | exact lens_encP) | (simp; done) | (simp only [List.length_take, List.length_map, List.length_append, maxLen_eq]; omega)) ?_); (try (with_reducible refine hK _ ?_; clear hK K)); (try with_reducible refine ite_conj ?_)))
          refine then_normal ⟨l.length - (k + 1), by omega, k + 1, by omega, rfl, hpk, ?_⟩
          have hib : (a0 == 10) = false := by simp; omega
          have hjb : (r == 10) = false := by simp; omega
          simp only [go_sem, List.forall_mem_nil, ↓guard_ite, ↓pick_ite, seval, AS.drop, dropS, AC.clears, AC.clear, AC.highs, AC.high, Bool.not_false, Bool.true_and, Bool.and_self, AV.purge, AV.purges, AC.purge, ABlk.purge, List.contains_cons, List.contains_nil, Nat.reduceBEq, Bool.or_self, Bool.or_false, Bool.false_or, Bool.or_true, encT_eq, inR_i64, e0, v4, v5, v6, v62, v63, v64, s4, s5, s6, s10, sa, sr, hib, hjb, e10, g10]
          refine ⟨by congr 3, fun i hi hne1 hne2 => ?_⟩
          have i10 : ¬ i = 10 := by omega
          have i10b : (i == 10) = false := by simp; omega
          simp only [go_sem, List.forall_mem_nil, ↓guard_ite, ↓pick_ite, seval, AS.drop, dropS, AC.clears, AC.clear, AC.highs, AC.high, Bool.not_false, Bool.true_and, Bool.and_self, AV.purge, AV.purges, AC.purge, ABlk.purge, List.contains_cons, List.contains_nil, Nat.reduceBEq, Bool.or_self, Bool.or_false, Bool.false_or, Bool.or_true, encT_eq, inR_i64, i10, i10b]
          rw [hrest i hi hne1 hne2]
          exact purgeS (by decide) fun b hb => (hS i b hb).2
      · have hpn : posP l a b = l.length := by
          rw [List.drop_of_length_le (by omega)] at hpos
          simp only [posP] at hpos
          omega
        have hsub : ((l.length + 1 : Nat) : Int) - 1 = l.length := by omega
        have hadd : addP l a b = l ++ [(a, b)] := by unfold addP; rw [hpn, if_neg (by omega)]
        repeat' (first | (with_reducible first | refine Wa ?_ | refine Wb ?_ | refine Wc ?_ | refine Wd ?_ | refine We ?_ | refine Wf ?_ | refine Wg ?_ | refine Wh ?_ | refine Wi ?_ | refine Wj ?_ | refine Wk (by decide) ?_ | refine Wl ?_ | refine Wm ?_ | refine Wn ?_) | ((with_reducible first | refine Wo (fun K hK => ?_) | refine Wp ?_ | refine Wq ?_ | refine Wr ?_); (try simp only [go_sem, List.forall_mem_nil, ↓guard_ite, ↓pick_ite, seval, encT_eq, inR_i64, e0, v4, v5, v6, v62, v63, v64, s4, s5, s6, s10, sa, sr, hlt, har, hra, decide_eq_true_eq, decide_eq_false_iff_not, Int.ofNat_lt]); (repeat with_reducible refine And.intro (by first | omega | (with_reducible first | exact lens_encT | exact lens_encL | exact lens_encB | exact lens_encP) | (simp; done) | (simp only [List.length_take, List.length_map, List.length_append, maxLen_eq]; omega)) ?_); (try (with_reducible refine hK _ ?_; clear hK K)); (try with_reducible refine ite_conj ?_)))
        rw [hsub]
        refine ⟨_, genName_a l.length (by omega), ?_⟩
        repeat' (first | (with_reducible first | refine Wa ?_ | refine Wb ?_ | refine Wc ?_ | refine Wd ?_ | refine We ?_ | refine Wf ?_ | refine Wg ?_ | refine Wh ?_ | refine Wi ?_ | refine Wj ?_ | refine Wk (by decide) ?_ | refine Wl ?_ | refine Wm ?_ | refine Wn ?_) | ((with_reducible first | refine Wo (fun K hK => ?_) | refine Wp ?_ | refine Wq ?_ | refine Wr ?_); (try simp only [go_sem, List.forall_mem_nil, ↓guard_ite, ↓pick_ite, seval, encT_eq, inR_i64, e0, v4, v5, v6, v62, v63, v64, s4, s5, s6, s10, sa, sr, hlt, har, hra, d6, f6, e6, g6, decide_eq_true_eq, decide_eq_false_iff_not, Int.ofNat_lt]); (repeat with_reducible refine And.intro (by first | omega | (with_reducible first | exact lens_encT | exact lens_encL | exact lens_encB | exact lens_encP) | (simp; done) | (simp only [List.length_take, List.length_map, List.length_append, maxLen_eq]; omega)) ?_); (try (with_reducible refine hK _ ?_; clear hK K)); (try with_reducible refine ite_conj ?_)))
        rw [hnew, hpn, hadd]
        refine finS_two (.agg [.st (.str (zName l.length)), .full []]) hS ha0 hr0 hra (hbm _) rfl trivial ?_ ?_ ?_ ?_ fun i hi hne1 hne2 => ?_
        · simp only [go_sem, List.forall_mem_nil, ↓guard_ite, ↓pick_ite, seval, encT_eq, inR_i64, resAll, resOne, tupV, v6, s6, d6, f6]
        · simp only [go_sem, List.forall_mem_nil, ↓guard_ite, ↓pick_ite, seval, encT_eq, inR_i64]
          rfl
        · simp only [go_sem, List.forall_mem_nil, ↓guard_ite, ↓pick_ite, seval, encT_eq, inR_i64, e6, har, hra, List.length_append, List.length_singleton]
        · simp only [go_sem, List.forall_mem_nil, ↓guard_ite, ↓pick_ite, seval, encT_eq, inR_i64, g6, har, hra]
          rw [arowP, List.map_append]
          rfl
        · have i6 : ¬ i = 6 := by omega
          simp only [go_sem, List.forall_mem_nil, ↓guard_ite, ↓pick_ite, seval, encT_eq, inR_i64, i6, hne1, hne2]
          exact hrest i hi hne1 hne2
end Go.Proofs.YtdmgelbbjppgkaaDoor

namespace Go.Proofs.YtdmgelbbjppgkaaDoor
open Go Go.RowKit
set_option linter.unusedVariables false

abbrev rowBd (l : List Bd) : ABlk := .mrow 36 3 (l.map encB)
end Go.Proofs.YtdmgelbbjppgkaaDoor

namespace Go.Proofs.YtdmgelbbjppgkaaDoor
open Go Go.RowKit
set_option maxRecDepth 100000

def ir_subst_SortM : IR :=
  (.seq
  (.ops
  [.mk (some 2) none (.mov (.c (.one (.full [])))) .no])
  (.seq
  (.ops
  [.mk (some 3) none (.mov (.t 0)) .no, .mk (some 4) none
  (.callS 50 [.t 3, .c (.one (.fn 51 []))])
  .no])
  (.seq
  (.ops
  [.mk (some 5) none (.mov (.t 0)) .no, .mk (some 2) none (.mov (.t 5)) .no])
  .ret)))
theorem tr_subst_SortM : trCode Tryd.prog 6 [4] (Tryd.f31.body.getD .skip) = some ir_subst_SortM := by kernel_rfl
theorem ac_subst_SortM {xs : List AV} {r : AV} (hn : xs.length ≤ 6) (h : ∀ C : Ctx, C.n = 6 → IWP Tryd.prog C [4] ir_subst_SortM (FinQ [.t 2] r) (AS.start xs)) : ACalls Tryd.prog 31 xs r :=
  acalls_of Tryd.func31 rfl tr_subst_SortM rfl hn h
theorem acS_subst_SortM {xs : List AV} {S S' : AStore} {r : AV} (hn : xs.length ≤ 6) (h : Clean S → ∀ C : Ctx, C.n = 6 → IWP Tryd.prog C [4] ir_subst_SortM (FinS C [.t 2] r S') (AS.startS xs S)) : ACallsS Tryd.prog 31 xs S r S' :=
  acallsS_of Tryd.func31 rfl tr_subst_SortM rfl hn h

end Go.Proofs.YtdmgelbbjppgkaaDoor

namespace Go.Proofs.YtdmgelbbjppgkaaDoor
open Go Go.RowKit
set_option maxRecDepth 100000

def ir_R_For : IR :=
  (.seq
  (.ops
  [.mk (some 4) none
  (.alloc 24 [.st (.str (ByteArray.mk (#[]))), .full []])
  .no, .mk (some 5) none (.mov (.c (.one (.st (.bool false)))))
  .no])
  (.seq
  (.seq
  (.ops
  [.mk (some 6) none (.mov (.c (.one (.st (.int .i64 0)))))
  .no])
  (.block 0
  (.loop
  (.seq
  (.seq
  (.ops
  [.mk (some 7) none (.mov (.t 6)) .no, .mk (some 8) none (.mov (.t 0)) .no, .mk (some 9) none (.len false (.t 8)) .no, .mk (some 10) none (.bin .lss (.t 7) (.t 9))
  .no])
  (.cond (.t 10) .skip (.exit 0)))
  (.seq
  (.block 1
  (.seq
  (.ops
  [.mk (some 13) none (.mov (.t 0)) .no, .mk (some 14) none (.mov (.t 6)) .no, .mk (some 15) none (.indexAddr 3 (.t 13) (.t 14))
  .no, .mk (some 16) none (.fieldAddr 0 (.t 15)) .no, .mk (some 17) none (.load false 1 (.t 16)) .no, .mk (some 18) none (.mov (.t 1)) .no, .mk (some 19) none (.bin .eql (.t 17) (.t 18))
  .no])
  (.cond (.t 19)
  (.seq
  (.ops
  [.mk (some 20) none (.mov (.t 0)) .no, .mk (some 21) none (.mov (.t 6)) .no, .mk (some 22) none (.indexAddr 3 (.t 20) (.t 21))
  .no, .mk (some 23) none (.fieldAddr 1 (.t 22)) .no, .mk (some 24) none (.load true 2 (.t 23)) .no, .mk none none (.store 2 (.t 4) (.t 24))
  .no, .mk (some 5) none (.mov (.c (.one (.st (.bool true)))))
  .no])
  .ret)
  .skip)))
  (.ops
  [.mk (some 11) none (.mov (.t 6)) .no, .mk (some 12) none (.bin .add (.t 11) (.c (.one (.st (.int .i64 1)))))
  .no, .mk (some 6) none (.mov (.t 12)) .no]))))))
  (.seq
  (.ops
  [.mk (some 25) none
  (.build [.st (.str (ByteArray.mk (#[]))), .full []] [])
  .no, .mk none none (.store 2 (.t 4) (.t 25))
  .no, .mk (some 5) none (.mov (.c (.one (.st (.bool false)))))
  .no])
  .ret)))
theorem tr_R_For : trCode Tryd.prog 26 [] (Tryd.f54.body.getD .skip) = some ir_R_For := by kernel_rfl
theorem ac_R_For {xs : List AV} {r : AV} (hn : xs.length ≤ 26) (h : ∀ C : Ctx, C.n = 26 → IWP Tryd.prog C [] ir_R_For (FinQ [.cell 4 true 2, .t 5] r) (AS.start xs)) : ACalls Tryd.prog 54 xs r :=
  acalls_of Tryd.func54 rfl tr_R_For rfl hn h
theorem acS_R_For {xs : List AV} {S S' : AStore} {r : AV} (hn : xs.length ≤ 26) (h : Clean S → ∀ C : Ctx, C.n = 26 → IWP Tryd.prog C [] ir_R_For (FinS C [.cell 4 true 2, .t 5] r S') (AS.startS xs S)) : ACallsS Tryd.prog 54 xs S r S' :=
  acallsS_of Tryd.func54 rfl tr_R_For rfl hn h

def ir_R_grown : IR :=
  (.seq
  (.ops
  [.mk (some 4) none (.box 24 (.t 1)) .no, .mk (some 6) none (.mov (.c (.one (.st (.int .i64 0)))))
  .no])
  (.seq
  (.ops
  [.mk (some 12) none (.mov (.t 0)) .no, .mk (some 13) none (.fieldAddr 0 (.t 4)) .no, .mk (some 14) none (.load false 1 (.t 13)) .no, .mk (some 15) none (.call 54 [.t 12, .t 14])
  .no, .mk (some 11) none (.mov (.t 15)) .no, .mk (some 16) none (.extract 0 (.t 11)) .no, .mk (some 17) none (.extract 1 (.t 11)) .no, .mk (some 7) none
  (.alloc 24 [.st (.str (ByteArray.mk (#[]))), .full []])
  .no, .mk none none (.store 2 (.t 7) (.t 16))
  .no, .mk (some 8) none (.mov (.t 17)) .no])
  (.seq
  (.seq
  (.ops
  [.mk (some 18) none (.mov (.t 8)) .no, .mk (some 19) none (.mov (.t 18)) .no, .mk (some 20) (some (19, true)) (.fieldAddr 1 (.t 4)) .no, .mk (some 21) (some (19, true)) (.load false 1 (.t 20))
  .no, .mk (some 22) (some (19, true)) (.len false (.t 21)) .no, .mk (some 23) (some (19, true)) (.bin .eql (.t 22) (.c (.one (.st (.int .i64 0)))))
  .no, .mk (some 24) none
  (.pick (.t 19) (.t 23) (.c (.one (.st (.bool false)))))
  .no])
  (.cond (.t 24)
  (.seq
  (.ops
  [.mk (some 25) none (.load true 2 (.t 7)) .no, .mk (some 26) none (.mov (.t 2)) .no, .mk (some 27) none (.call 21 [.t 25, .t 26])
  .no, .mk (some 6) none (.mov (.t 27)) .no])
  .ret)
  .skip))
  (.seq
  (.ops
  [.mk (some 9) none (.mov (.c (.one (.st (.int .i64 1)))))
  .no])
  (.seq
  (.seq
  (.ops
  [.mk (some 10) none (.mov (.c (.one (.st (.int .i64 0)))))
  .no])
  (.block 0
  (.loop
  (.seq
  (.seq
  (.ops
  [.mk (some 28) none (.mov (.t 10)) .no, .mk (some 29) none (.fieldAddr 1 (.t 4)) .no, .mk (some 30) none (.load false 1 (.t 29)) .no, .mk (some 31) none (.len false (.t 30)) .no, .mk (some 32) none (.bin .lss (.t 28) (.t 31))
  .no, .mk (some 33) none (.mov (.t 32)) .no, .mk (some 34) (some (33, true)) (.mov (.t 9)) .no, .mk (some 35) (some (33, true)) (.mov (.t 2)) .no, .mk (some 36) (some (33, true)) (.bin .leq (.t 34) (.t 35)) .no, .mk (some 37) none
  (.pick (.t 33) (.t 36) (.c (.one (.st (.bool false)))))
  .no])
  (.cond (.t 37) .skip (.exit 0)))
  (.seq
  (.block 1
  (.ops
  [.mk (some 40) none (.mov (.t 9)) .no, .mk (some 41) none (.mov (.t 0)) .no, .mk (some 42) none (.fieldAddr 1 (.t 4)) .no, .mk (some 43) none (.load false 1 (.t 42)) .no, .mk (some 44) none (.mov (.t 10)) .no, .mk (some 45) none (.indexAddr 2 (.t 43) (.t 44))
  .no, .mk (some 46) none (.load true 2 (.t 45)) .no, .mk (some 47) none (.mov (.t 2)) .no, .mk (some 48) none (.mov (.t 9)) .no, .mk (some 49) none (.bin .sub (.t 47) (.t 48)) .no, .mk (some 50) none (.call 42 [.t 41, .t 46, .t 49])
  .no, .mk (some 51) none (.bin .add (.t 40) (.t 50)) .no, .mk (some 9) none (.mov (.t 51)) .no]))
  (.ops
  [.mk (some 38) none (.mov (.t 10)) .no, .mk (some 39) none (.bin .add (.t 38) (.c (.one (.st (.int .i64 1)))))
  .no, .mk (some 10) none (.mov (.t 39)) .no]))))))
  (.seq
  (.seq
  (.ops
  [.mk (some 52) none (.mov (.t 9)) .no, .mk (some 53) none (.mov (.t 2)) .no, .mk (some 54) none (.bin .gtr (.t 52) (.t 53))
  .no])
  (.cond (.t 54)
  (.seq
  (.ops
  [.mk (some 55) none (.mov (.t 2)) .no, .mk (some 56) none (.bin .add (.t 55) (.c (.one (.st (.int .i64 1)))))
  .no, .mk (some 6) none (.mov (.t 56)) .no])
  .ret)
  .skip))
  (.seq
  (.ops
  [.mk (some 57) none (.mov (.t 9)) .no, .mk (some 6) none (.mov (.t 57)) .no])
  .ret)))))))
theorem tr_R_grown : trCode Tryd.prog 58 [] (Tryd.f42.body.getD .skip) = some ir_R_grown := by kernel_rfl
theorem ac_R_grown {xs : List AV} {r : AV} (hn : xs.length ≤ 58) (h : ∀ C : Ctx, C.n = 58 → IWP Tryd.prog C [] ir_R_grown (FinQ [.t 6] r) (AS.start xs)) : ACalls Tryd.prog 42 xs r :=
  acalls_of Tryd.func42 rfl tr_R_grown rfl hn h
theorem acS_R_grown {xs : List AV} {S S' : AStore} {r : AV} (hn : xs.length ≤ 58) (h : Clean S → ∀ C : Ctx, C.n = 58 → IWP Tryd.prog C [] ir_R_grown (FinS C [.t 6] r S') (AS.startS xs S)) : ACallsS Tryd.prog 42 xs S r S' :=
  acallsS_of Tryd.func42 rfl tr_R_grown rfl hn h

def ir_R_on : IR :=
  (.seq
  (.ops
  [.mk (some 3) none (.box 24 (.t 1)) .no, .mk (some 4) none
  (.alloc 24 [.st (.str (ByteArray.mk (#[]))), .full []])
  .no])
  (.seq
  (.ops
  [.mk (some 10) none (.mov (.t 0)) .no, .mk (some 11) none (.fieldAddr 0 (.t 3)) .no, .mk (some 12) none (.load false 1 (.t 11)) .no, .mk (some 13) none (.call 54 [.t 10, .t 12])
  .no, .mk (some 9) none (.mov (.t 13)) .no, .mk (some 14) none (.extract 0 (.t 9)) .no, .mk (some 15) none (.extract 1 (.t 9)) .no, .mk (some 5) none
  (.alloc 24 [.st (.str (ByteArray.mk (#[]))), .full []])
  .no, .mk none none (.store 2 (.t 5) (.t 14))
  .no, .mk (some 6) none (.mov (.t 15)) .no])
  (.seq
  (.seq
  (.ops
  [.mk (some 16) none (.mov (.t 6)) .no, .mk (some 17) none (.mov (.t 16)) .no, .mk (some 18) (some (17, true)) (.fieldAddr 1 (.t 3)) .no, .mk (some 19) (some (17, true)) (.load false 1 (.t 18))
  .no, .mk (some 20) (some (17, true)) (.len false (.t 19)) .no, .mk (some 21) (some (17, true)) (.bin .eql (.t 20) (.c (.one (.st (.int .i64 0)))))
  .no, .mk (some 22) none
  (.pick (.t 17) (.t 21) (.c (.one (.st (.bool false)))))
  .no])
  (.cond (.t 22)
  (.seq
  (.ops
  [.mk (some 23) none (.load true 2 (.t 5)) .no, .mk none none (.store 2 (.t 4) (.t 23))
  .no])
  .ret)
  .skip))
  (.seq
  (.ops
  [.mk (some 24) none (.fieldAddr 0 (.t 3)) .no, .mk (some 25) none (.load false 1 (.t 24)) .no, .mk (some 26) none
  (.build [.st (.str (ByteArray.mk (#[]))), .full []]
  [(0, 1, .t 25)])
  .no, .mk (some 7) none
  (.alloc 24 [.st (.str (ByteArray.mk (#[]))), .full []])
  .no, .mk none none (.store 2 (.t 7) (.t 26))
  .no])
  (.seq
  (.seq
  (.ops
  [.mk (some 8) none (.mov (.c (.one (.st (.int .i64 0)))))
  .no])
  (.block 0
  (.loop
  (.seq
  (.seq
  (.ops
  [.mk (some 27) none (.mov (.t 8)) .no, .mk (some 28) none (.fieldAddr 1 (.t 3)) .no, .mk (some 29) none (.load false 1 (.t 28)) .no, .mk (some 30) none (.len false (.t 29)) .no, .mk (some 31) none (.bin .lss (.t 27) (.t 30))
  .no])
  (.cond (.t 31) .skip (.exit 0)))
  (.seq
  (.block 1
  (.ops
  [.mk (some 34) none (.fieldAddr 1 (.t 7)) .no, .mk (some 35) none (.load false 1 (.t 34)) .no, .mk (some 36) none (.mov (.t 0)) .no, .mk (some 37) none (.fieldAddr 1 (.t 3)) .no, .mk (some 38) none (.load false 1 (.t 37)) .no, .mk (some 39) none (.mov (.t 8)) .no, .mk (some 40) none (.indexAddr 2 (.t 38) (.t 39))
  .no, .mk (some 41) none (.load true 2 (.t 40)) .no, .mk (some 42) none (.call 38 [.t 36, .t 41])
  .no, .mk (some 43) none (.buildSlice false 24 2 [.t 42])
  .no, .mk (some 44) none
  (.append false 24 2 40 (.t 35) (.t 43)) .no, .mk (some 45) none (.fieldAddr 1 (.t 7)) .no, .mk none none (.store 1 (.t 45) (.t 44))
  .no]))
  (.ops
  [.mk (some 32) none (.mov (.t 8)) .no, .mk (some 33) none (.bin .add (.t 32) (.c (.one (.st (.int .i64 1)))))
  .no, .mk (some 8) none (.mov (.t 33)) .no]))))))
  (.seq
  (.ops
  [.mk (some 46) none (.load true 2 (.t 7)) .no, .mk none none (.store 2 (.t 4) (.t 46))
  .no])
  .ret))))))
theorem tr_R_on : trCode Tryd.prog 47 [] (Tryd.f38.body.getD .skip) = some ir_R_on := by kernel_rfl
theorem ac_R_on {xs : List AV} {r : AV} (hn : xs.length ≤ 47) (h : ∀ C : Ctx, C.n = 47 → IWP Tryd.prog C [] ir_R_on (FinQ [.cell 4 true 2] r) (AS.start xs)) : ACalls Tryd.prog 38 xs r :=
  acalls_of Tryd.func38 rfl tr_R_on rfl hn h
theorem acS_R_on {xs : List AV} {S S' : AStore} {r : AV} (hn : xs.length ≤ 47) (h : Clean S → ∀ C : Ctx, C.n = 47 → IWP Tryd.prog C [] ir_R_on (FinS C [.cell 4 true 2] r S') (AS.startS xs S)) : ACallsS Tryd.prog 38 xs S r S' :=
  acallsS_of Tryd.func38 rfl tr_R_on rfl hn h

def ir_R_On : IR :=
  (.seq
  (.ops
  [.mk (some 3) none (.box 24 (.t 1)) .no, .mk (some 4) none
  (.alloc 24 [.st (.str (ByteArray.mk (#[]))), .full []])
  .no, .mk (some 5) none (.mov (.c (.one (.st (.bool false)))))
  .no])
  (.seq
  (.seq
  (.ops
  [.mk (some 6) none (.mov (.t 0)) .no, .mk (some 7) none (.load true 2 (.t 3)) .no, .mk (some 8) none (.call 42
  [.t 6, .t 7, .c (.one (.st (.int .i64 2000)))])
  .no, .mk (some 9) none (.bin .gtr (.t 8) (.c (.one (.st (.int .i64 2000)))))
  .no])
  (.cond (.t 9)
  (.seq
  (.ops
  [.mk (some 10) none
  (.build [.st (.str (ByteArray.mk (#[]))), .full []] [])
  .no, .mk none none (.store 2 (.t 4) (.t 10))
  .no, .mk (some 5) none (.mov (.c (.one (.st (.bool false)))))
  .no])
  .ret)
  .skip))
  (.seq
  (.ops
  [.mk (some 11) none (.mov (.t 0)) .no, .mk (some 12) none (.load true 2 (.t 3)) .no, .mk (some 13) none (.call 38 [.t 11, .t 12])
  .no, .mk none none (.store 2 (.t 4) (.t 13))
  .no, .mk (some 5) none (.mov (.c (.one (.st (.bool true)))))
  .no])
  .ret)))
theorem tr_R_On : trCode Tryd.prog 14 [] (Tryd.f19.body.getD .skip) = some ir_R_On := by kernel_rfl
theorem ac_R_On {xs : List AV} {r : AV} (hn : xs.length ≤ 14) (h : ∀ C : Ctx, C.n = 14 → IWP Tryd.prog C [] ir_R_On (FinQ [.cell 4 true 2, .t 5] r) (AS.start xs)) : ACalls Tryd.prog 19 xs r :=
  acalls_of Tryd.func19 rfl tr_R_On rfl hn h
theorem acS_R_On {xs : List AV} {S S' : AStore} {r : AV} (hn : xs.length ≤ 14) (h : Clean S → ∀ C : Ctx, C.n = 14 → IWP Tryd.prog C [] ir_R_On (FinS C [.cell 4 true 2, .t 5] r S') (AS.startS xs S)) : ACallsS Tryd.prog 19 xs S r S' :=
  acallsS_of Tryd.func19 rfl tr_R_On rfl hn h

def ir_subst_Check : IR :=
  (.seq
  (.ops
  [.mk (some 2) none (.mov (.c (.one (.st (.int .i64 0)))))
  .no])
  (.seq
  (.seq
  (.ops
  [.mk (some 6) none (.mov (.t 0)) .no, .mk (some 7) none (.len false (.t 6)) .no, .mk (some 8) none (.bin .gtr (.t 7) (.c (.one (.st (.int .i64 40)))))
  .no])
  (.cond (.t 8)
  (.seq
  (.ops
  [.mk (some 2) none (.mov (.c (.one (.st (.int .i64 3)))))
  .no])
  .ret)
  .skip))
  (.seq
  (.seq
  (.ops
  [.mk (some 9) none (.mov (.t 0)) .no, .mk (some 10) none (.len false (.t 9)) .no, .mk (some 11) none (.mov (.c (.one (.st (.int .i64 0)))))
  .no])
  (.block 0
  (.loop
  (.seq
  (.ops
  [.mk (some 12) none (.bin .lss (.t 11) (.t 10))
  .no])
  (.seq (.cond (.t 12) .skip (.exit 0))
  (.seq
  (.block 1
  (.seq
  (.ops
  [.mk (some 13) none (.mov (.t 11)) .no, .mk (some 14) none (.indexAddr 3 (.t 9) (.t 11))
  .no, .mk (some 15) none (.load true 3 (.t 14)) .no, .mk (some 4) none
  (.alloc 36
  [.st (.str (ByteArray.mk (#[]))), .st (.str (ByteArray.mk (#[]))), .full []])
  .no, .mk (some 3) none (.mov (.t 13)) .no, .mk none none (.store 3 (.t 4) (.t 15))
  .no])
  (.seq
  (.seq
  (.ops
  [.mk (some 16) none (.fieldAddr 0 (.t 4)) .no, .mk (some 17) none (.load false 1 (.t 16))
  .no, .mk (some 18) none (.call 59 [.t 17]) .no, .mk (some 19) none (.un .not (.t 18)) .no, .mk (some 20) none (.mov (.t 19)) .no, .mk (some 21) (some (20, false)) (.fieldAddr 0 (.t 4))
  .no, .mk (some 22) (some (20, false)) (.load false 1 (.t 21))
  .no, .mk (some 23) (some (20, false)) (.call 47 [.t 22])
  .no, .mk (some 24) (some (20, false)) (.un .not (.t 23))
  .no, .mk (some 25) none
  (.pick (.t 20) (.c (.one (.st (.bool true)))) (.t 24))
  .no])
  (.cond (.t 25)
  (.seq
  (.ops
  [.mk (some 2) none (.mov (.c (.one (.st (.int .i64 1)))))
  .no])
  .ret)
  .skip))
  (.seq
  (.seq
  (.ops
  [.mk (some 26) none (.mov (.t 3)) .no, .mk (some 27) none (.bin .gtr (.t 26) (.c (.one (.st (.int .i64 0)))))
  .no, .mk (some 28) none (.mov (.t 27)) .no, .mk (some 29) (some (28, true)) (.fieldAddr 0 (.t 4))
  .no, .mk (some 30) (some (28, true)) (.load false 1 (.t 29))
  .no, .mk (some 31) (some (28, true)) (.mov (.t 0))
  .no, .mk (some 32) (some (28, true)) (.mov (.t 3))
  .no, .mk (some 33) (some (28, true)) (.bin .sub (.t 32) (.c (.one (.st (.int .i64 1)))))
  .no, .mk (some 34) (some (28, true))
  (.indexAddr 3 (.t 31) (.t 33)) .no, .mk (some 35) (some (28, true)) (.fieldAddr 0 (.t 34))
  .no, .mk (some 36) (some (28, true)) (.load false 1 (.t 35))
  .no, .mk (some 37) (some (28, true)) (.bin .leq (.t 30) (.t 36)) .no, .mk (some 38) none
  (.pick (.t 28) (.t 37) (.c (.one (.st (.bool false)))))
  .no])
  (.cond (.t 38)
  (.seq
  (.ops
  [.mk (some 2) none (.mov (.c (.one (.st (.int .i64 14)))))
  .no])
  .ret)
  .skip))
  (.seq
  (.ops
  [.mk (some 39) none (.fieldAddr 1 (.t 4)) .no, .mk (some 40) none (.load true 2 (.t 39))
  .no, .mk (some 41) none (.call 39 [.t 40]) .no, .mk (some 5) none (.mov (.t 41)) .no])
  (.seq
  (.ops
  [.mk (some 42) none (.mov (.t 5)) .no, .mk (some 43) none (.bin .neq (.t 42) (.c (.one (.st (.int .i64 0)))))
  .no])
  (.cond (.t 43)
  (.seq
  (.ops
  [.mk (some 44) none (.mov (.t 5)) .no, .mk (some 2) none (.mov (.t 44)) .no])
  .ret)
  .skip)))))))
  (.ops
  [.mk (some 45) none (.bin .add (.t 11) (.c (.one (.st (.int .i64 1)))))
  .no, .mk (some 11) none (.mov (.t 45)) .no])))))))
  (.seq
  (.ops
  [.mk (some 2) none (.mov (.c (.one (.st (.int .i64 0)))))
  .no])
  .ret))))
theorem tr_subst_Check : trCode Tryd.prog 46 [] (Tryd.f44.body.getD .skip) = some ir_subst_Check := by kernel_rfl
theorem ac_subst_Check {xs : List AV} {r : AV} (hn : xs.length ≤ 46) (h : ∀ C : Ctx, C.n = 46 → IWP Tryd.prog C [] ir_subst_Check (FinQ [.t 2] r) (AS.start xs)) : ACalls Tryd.prog 44 xs r :=
  acalls_of Tryd.func44 rfl tr_subst_Check rfl hn h
theorem acS_subst_Check {xs : List AV} {S S' : AStore} {r : AV} (hn : xs.length ≤ 46) (h : Clean S → ∀ C : Ctx, C.n = 46 → IWP Tryd.prog C [] ir_subst_Check (FinS C [.t 2] r S') (AS.startS xs S)) : ACallsS Tryd.prog 44 xs S r S' :=
  acallsS_of Tryd.func44 rfl tr_subst_Check rfl hn h

def ir_cmp_isNaN_string : IR :=
  (.seq
  (.ops
  [.mk (some 2) none (.mov (.c (.one (.st (.bool false)))))
  .no])
  (.seq
  (.ops
  [.mk (some 3) none (.mov (.t 0)) .no, .mk (some 4) none (.mov (.t 0)) .no, .mk (some 5) none (.bin .neq (.t 3) (.t 4))
  .no, .mk (some 2) none (.mov (.t 5)) .no])
  .ret))
theorem tr_cmp_isNaN_string : trCode Tryd.prog 6 [] (Tryd.f66.body.getD .skip) = some ir_cmp_isNaN_string := by kernel_rfl
theorem ac_cmp_isNaN_string {xs : List AV} {r : AV} (hn : xs.length ≤ 6) (h : ∀ C : Ctx, C.n = 6 → IWP Tryd.prog C [] ir_cmp_isNaN_string (FinQ [.t 2] r) (AS.start xs)) : ACalls Tryd.prog 66 xs r :=
  acalls_of Tryd.func66 rfl tr_cmp_isNaN_string rfl hn h
theorem acS_cmp_isNaN_string {xs : List AV} {S S' : AStore} {r : AV} (hn : xs.length ≤ 6) (h : Clean S → ∀ C : Ctx, C.n = 6 → IWP Tryd.prog C [] ir_cmp_isNaN_string (FinS C [.t 2] r S') (AS.startS xs S)) : ACallsS Tryd.prog 66 xs S r S' :=
  acallsS_of Tryd.func66 rfl tr_cmp_isNaN_string rfl hn h

def ir_cmp_Compare_string : IR :=
  (.seq
  (.ops
  [.mk (some 4) none (.mov (.c (.one (.st (.int .i64 0)))))
  .no])
  (.seq
  (.ops
  [.mk (some 7) none (.mov (.t 0)) .no, .mk (some 8) none (.call 66 [.t 7]) .no, .mk (some 5) none (.mov (.t 8)) .no])
  (.seq
  (.ops
  [.mk (some 9) none (.mov (.t 1)) .no, .mk (some 10) none (.call 66 [.t 9]) .no, .mk (some 6) none (.mov (.t 10)) .no])
  (.seq
  (.seq
  (.ops
  [.mk (some 11) none (.mov (.t 5)) .no])
  (.cond (.t 11)
  (.seq
  (.seq
  (.ops
  [.mk (some 12) none (.mov (.t 6)) .no])
  (.cond (.t 12)
  (.seq
  (.ops
  [.mk (some 4) none (.mov (.c (.one (.st (.int .i64 0)))))
  .no])
  .ret)
  .skip))
  (.seq
  (.ops
  [.mk (some 4) none (.mov (.c (.one (.st (.int .i64 (-1))))))
  .no])
  .ret))
  .skip))
  (.seq
  (.seq
  (.ops
  [.mk (some 13) none (.mov (.t 6)) .no])
  (.cond (.t 13)
  (.seq
  (.ops
  [.mk (some 4) none (.mov (.c (.one (.st (.int .i64 1)))))
  .no])
  .ret)
  .skip))
  (.seq
  (.seq
  (.ops
  [.mk (some 14) none (.mov (.t 0)) .no, .mk (some 15) none (.mov (.t 1)) .no, .mk (some 16) none (.bin .lss (.t 14) (.t 15))
  .no])
  (.cond (.t 16)
  (.seq
  (.ops
  [.mk (some 4) none (.mov (.c (.one (.st (.int .i64 (-1))))))
  .no])
  .ret)
  .skip))
  (.seq
  (.seq
  (.ops
  [.mk (some 17) none (.mov (.t 0)) .no, .mk (some 18) none (.mov (.t 1)) .no, .mk (some 19) none (.bin .gtr (.t 17) (.t 18))
  .no])
  (.cond (.t 19)
  (.seq
  (.ops
  [.mk (some 4) none (.mov (.c (.one (.st (.int .i64 1)))))
  .no])
  .ret)
  .skip))
  (.seq
  (.ops
  [.mk (some 4) none (.mov (.c (.one (.st (.int .i64 0)))))
  .no])
  .ret))))))))
theorem tr_cmp_Compare_string : trCode Tryd.prog 20 [] (Tryd.f52.body.getD .skip) = some ir_cmp_Compare_string := by kernel_rfl
theorem ac_cmp_Compare_string {xs : List AV} {r : AV} (hn : xs.length ≤ 20) (h : ∀ C : Ctx, C.n = 20 → IWP Tryd.prog C [] ir_cmp_Compare_string (FinQ [.t 4] r) (AS.start xs)) : ACalls Tryd.prog 52 xs r :=
  acalls_of Tryd.func52 rfl tr_cmp_Compare_string rfl hn h
theorem acS_cmp_Compare_string {xs : List AV} {S S' : AStore} {r : AV} (hn : xs.length ≤ 20) (h : Clean S → ∀ C : Ctx, C.n = 20 → IWP Tryd.prog C [] ir_cmp_Compare_string (FinS C [.t 4] r S') (AS.startS xs S)) : ACallsS Tryd.prog 52 xs S r S' :=
  acallsS_of Tryd.func52 rfl tr_cmp_Compare_string rfl hn h

def ir_subst_Find_1 : IR :=
  (.seq
  (.ops
  [.mk (some 2) none (.box 36 (.t 0)) .no, .mk (some 4) none (.mov (.c (.one (.st (.int .i64 0)))))
  .no])
  (.seq
  (.ops
  [.mk (some 5) none (.fieldAddr 0 (.t 2)) .no, .mk (some 6) none (.load false 1 (.t 5)) .no, .mk (some 7) none (.mov (.t 1)) .no, .mk (some 8) none (.call 52 [.t 6, .t 7])
  .no, .mk (some 4) none (.mov (.t 8)) .no])
  .ret))
theorem tr_subst_Find_1 : trCode Tryd.prog 9 [] (Tryd.f81.body.getD .skip) = some ir_subst_Find_1 := by kernel_rfl
theorem ac_subst_Find_1 {xs : List AV} {r : AV} (hn : xs.length ≤ 9) (h : ∀ C : Ctx, C.n = 9 → IWP Tryd.prog C [] ir_subst_Find_1 (FinQ [.t 4] r) (AS.start xs)) : ACalls Tryd.prog 81 xs r :=
  acalls_of Tryd.func81 rfl tr_subst_Find_1 rfl hn h
theorem acS_subst_Find_1 {xs : List AV} {S S' : AStore} {r : AV} (hn : xs.length ≤ 9) (h : Clean S → ∀ C : Ctx, C.n = 9 → IWP Tryd.prog C [] ir_subst_Find_1 (FinS C [.t 4] r S') (AS.startS xs S)) : ACallsS Tryd.prog 81 xs S r S' :=
  acallsS_of Tryd.func81 rfl tr_subst_Find_1 rfl hn h

def ir_slices_BinarySearchFunc_metaprune_api_Bind_metaprune_api_Bind_string : IR :=
  (.seq
  (.ops
  [.mk (some 6) none (.mov (.c (.one (.st (.int .i64 0)))))
  .no, .mk (some 7) none (.mov (.c (.one (.st (.bool false)))))
  .no])
  (.seq
  (.ops
  [.mk (some 12) none (.mov (.t 0)) .no, .mk (some 13) none (.len false (.t 12)) .no, .mk (some 8) none (.mov (.t 13)) .no])
  (.seq
  (.ops
  [.mk (some 14) none (.mov (.t 8)) .no, .mk (some 9) none (.mov (.c (.one (.st (.int .i64 0)))))
  .no, .mk (some 10) none (.mov (.t 14)) .no])
  (.seq
  (.block 0
  (.loop
  (.seq
  (.seq
  (.ops
  [.mk (some 15) none (.mov (.t 9)) .no, .mk (some 16) none (.mov (.t 10)) .no, .mk (some 17) none (.bin .lss (.t 15) (.t 16))
  .no])
  (.cond (.t 17) .skip (.exit 0)))
  (.block 1
  (.seq
  (.ops
  [.mk (some 18) none (.mov (.t 9)) .no, .mk (some 19) none (.mov (.t 10)) .no, .mk (some 20) none (.bin .add (.t 18) (.t 19))
  .no, .mk (some 21) none (.conv .u64 (.t 20)) .no, .mk (some 22) none (.bin .shr (.t 21) (.c (.one (.st (.int .u64 1)))))
  .no, .mk (some 23) none (.conv .i64 (.t 22)) .no, .mk (some 11) none (.mov (.t 23)) .no])
  (.seq
  (.ops
  [.mk (some 24) none (.mov (.t 2)) .no, .mk (some 25) none (.mov (.t 0)) .no, .mk (some 26) none (.mov (.t 11)) .no, .mk (some 27) none (.indexAddr 3 (.t 25) (.t 26))
  .no, .mk (some 28) none (.load true 3 (.t 27)) .no, .mk (some 29) none (.mov (.t 1)) .no, .mk (some 30) none
  (.callV (.t 24) [.t 28, .t 29])
  .no, .mk (some 31) none (.bin .lss (.t 30) (.c (.one (.st (.int .i64 0)))))
  .no])
  (.cond (.t 31)
  (.ops
  [.mk (some 32) none (.mov (.t 11)) .no, .mk (some 33) none (.bin .add (.t 32) (.c (.one (.st (.int .i64 1)))))
  .no, .mk (some 9) none (.mov (.t 33)) .no])
  (.ops
  [.mk (some 34) none (.mov (.t 11)) .no, .mk (some 10) none (.mov (.t 34)) .no]))))))))
  (.seq
  (.ops
  [.mk (some 35) none (.mov (.t 9)) .no, .mk (some 36) none (.mov (.t 9)) .no, .mk (some 37) none (.mov (.t 8)) .no, .mk (some 38) none (.bin .lss (.t 36) (.t 37))
  .no, .mk (some 39) none (.mov (.t 38)) .no, .mk (some 40) (some (39, true)) (.mov (.t 2)) .no, .mk (some 41) (some (39, true)) (.mov (.t 0)) .no, .mk (some 42) (some (39, true)) (.mov (.t 9)) .no, .mk (some 43) (some (39, true))
  (.indexAddr 3 (.t 41) (.t 42)) .no, .mk (some 44) (some (39, true)) (.load true 3 (.t 43))
  .no, .mk (some 45) (some (39, true)) (.mov (.t 1)) .no, .mk (some 46) (some (39, true))
  (.callV (.t 40) [.t 44, .t 45]) .no, .mk (some 47) (some (39, true)) (.bin .eql (.t 46) (.c (.one (.st (.int .i64 0)))))
  .no, .mk (some 48) none
  (.pick (.t 39) (.t 47) (.c (.one (.st (.bool false)))))
  .no, .mk (some 6) none (.mov (.t 35)) .no, .mk (some 7) none (.mov (.t 48)) .no])
  .ret)))))
theorem tr_slices_BinarySearchFunc_metaprune_api_Bind_metaprune_api_Bind_string : trCode Tryd.prog 49 [] (Tryd.f80.body.getD .skip) = some ir_slices_BinarySearchFunc_metaprune_api_Bind_metaprune_api_Bind_string := by kernel_rfl
theorem ac_slices_BinarySearchFunc_metaprune_api_Bind_metaprune_api_Bind_string {xs : List AV} {r : AV} (hn : xs.length ≤ 49) (h : ∀ C : Ctx, C.n = 49 → IWP Tryd.prog C [] ir_slices_BinarySearchFunc_metaprune_api_Bind_metaprune_api_Bind_string (FinQ [.t 6, .t 7] r) (AS.start xs)) : ACalls Tryd.prog 80 xs r :=
  acalls_of Tryd.func80 rfl tr_slices_BinarySearchFunc_metaprune_api_Bind_metaprune_api_Bind_string rfl hn h
theorem acS_slices_BinarySearchFunc_metaprune_api_Bind_metaprune_api_Bind_string {xs : List AV} {S S' : AStore} {r : AV} (hn : xs.length ≤ 49) (h : Clean S → ∀ C : Ctx, C.n = 49 → IWP Tryd.prog C [] ir_slices_BinarySearchFunc_metaprune_api_Bind_metaprune_api_Bind_string (FinS C [.t 6, .t 7] r S') (AS.startS xs S)) : ACallsS Tryd.prog 80 xs S r S' :=
  acallsS_of Tryd.func80 rfl tr_slices_BinarySearchFunc_metaprune_api_Bind_metaprune_api_Bind_string rfl hn h

def ir_subst_Find : IR :=
  (.seq
  (.ops
  [.mk (some 4) none
  (.alloc 24 [.st (.str (ByteArray.mk (#[]))), .full []])
  .no, .mk (some 5) none (.mov (.c (.one (.st (.bool false)))))
  .no])
  (.seq
  (.ops
  [.mk (some 9) none (.mov (.t 0)) .no, .mk (some 10) none (.mov (.t 1)) .no, .mk (some 11) none (.call 80
  [.t 9, .t 10, .c (.one (.fn 81 []))])
  .no, .mk (some 8) none (.mov (.t 11)) .no, .mk (some 12) none (.extract 0 (.t 8)) .no, .mk (some 13) none (.extract 1 (.t 8)) .no, .mk (some 6) none (.mov (.t 12)) .no, .mk (some 7) none (.mov (.t 13)) .no])
  (.seq
  (.seq
  (.ops
  [.mk (some 14) none (.mov (.t 7)) .no, .mk (some 15) none (.un .not (.t 14)) .no])
  (.cond (.t 15)
  (.seq
  (.ops
  [.mk (some 16) none
  (.build [.st (.str (ByteArray.mk (#[]))), .full []] [])
  .no, .mk none none (.store 2 (.t 4) (.t 16))
  .no, .mk (some 5) none (.mov (.c (.one (.st (.bool false)))))
  .no])
  .ret)
  .skip))
  (.seq
  (.ops
  [.mk (some 17) none (.mov (.t 0)) .no, .mk (some 18) none (.mov (.t 6)) .no, .mk (some 19) none (.indexAddr 3 (.t 17) (.t 18))
  .no, .mk (some 20) none (.fieldAddr 1 (.t 19)) .no, .mk (some 21) none (.load true 2 (.t 20)) .no, .mk none none (.store 2 (.t 4) (.t 21))
  .no, .mk (some 5) none (.mov (.c (.one (.st (.bool true)))))
  .no])
  .ret))))
theorem tr_subst_Find : trCode Tryd.prog 22 [] (Tryd.f68.body.getD .skip) = some ir_subst_Find := by kernel_rfl
theorem ac_subst_Find {xs : List AV} {r : AV} (hn : xs.length ≤ 22) (h : ∀ C : Ctx, C.n = 22 → IWP Tryd.prog C [] ir_subst_Find (FinQ [.cell 4 true 2, .t 5] r) (AS.start xs)) : ACalls Tryd.prog 68 xs r :=
  acalls_of Tryd.func68 rfl tr_subst_Find rfl hn h
theorem acS_subst_Find {xs : List AV} {S S' : AStore} {r : AV} (hn : xs.length ≤ 22) (h : Clean S → ∀ C : Ctx, C.n = 22 → IWP Tryd.prog C [] ir_subst_Find (FinS C [.cell 4 true 2, .t 5] r S') (AS.startS xs S)) : ACallsS Tryd.prog 68 xs S r S' :=
  acallsS_of Tryd.func68 rfl tr_subst_Find rfl hn h

def ir_metaprune_subst_maker_copy : IR :=
  (.seq
  (.ops
  [.mk (some 4) none (.box 24 (.t 1)) .no, .mk (some 6) none
  (.alloc 24 [.st (.str (ByteArray.mk (#[]))), .full []])
  .no])
  (.seq
  (.seq
  (.ops
  [.mk (some 12) none (.mov (.t 2)) .no])
  (.cond (.t 12)
  (.seq
  (.ops
  [.mk (some 14) none (.mov (.t 0)) .no, .mk (some 15) none (.nilCheck (.t 14)) .no, .mk (some 16) none (.fieldAddr 0 (.t 15)) .no, .mk (some 17) none (.load false 1 (.t 16)) .no, .mk (some 18) none (.fieldAddr 0 (.t 4)) .no, .mk (some 19) none (.load false 1 (.t 18)) .no, .mk (some 20) none (.call 68 [.t 17, .t 19])
  .no, .mk (some 13) none (.mov (.t 20)) .no, .mk (some 21) none (.extract 0 (.t 13)) .no, .mk (some 22) none (.extract 1 (.t 13)) .no, .mk (some 7) none
  (.alloc 24 [.st (.str (ByteArray.mk (#[]))), .full []])
  .no, .mk none none (.store 2 (.t 7) (.t 21))
  .no, .mk (some 8) none (.mov (.t 22)) .no])
  (.seq
  (.ops
  [.mk (some 23) none (.mov (.t 8)) .no])
  (.cond (.t 23)
  (.seq
  (.ops
  [.mk (some 24) none (.mov (.t 0)) .no, .mk (some 25) none (.load true 2 (.t 7)) .no, .mk (some 26) none
  (.callS 60
  [.t 24, .t 25, .c (.one (.st (.bool false)))])
  .no, .mk none none (.store 2 (.t 6) (.t 26))
  .no])
  .ret)
  .skip)))
  .skip))
  (.seq
  (.seq
  (.ops
  [.mk (some 27) none (.mov (.t 0)) .no, .mk (some 28) none (.nilCheck (.t 27)) .no, .mk (some 29) none (.fieldAddr 1 (.t 28)) .no, .mk (some 30) none (.load false 1 (.t 29)) .no, .mk (some 31) none (.bin .sub (.t 30) (.c (.one (.st (.int .i64 1)))))
  .no, .mk (some 32) none (.nilCheck (.t 27)) .no, .mk (some 33) none (.fieldAddr 1 (.t 32)) .no, .mk none none (.store 1 (.t 33) (.t 31))
  .no])
  (.seq
  (.ops
  [.mk (some 34) none (.mov (.t 0)) .no, .mk (some 35) none (.nilCheck (.t 34)) .no, .mk (some 36) none (.fieldAddr 1 (.t 35)) .no, .mk (some 37) none (.load false 1 (.t 36)) .no, .mk (some 38) none (.bin .lss (.t 37) (.c (.one (.st (.int .i64 0)))))
  .no])
  (.cond (.t 38)
  (.seq
  (.ops
  [.mk (some 39) none
  (.build [.st (.str (ByteArray.mk (#[]))), .full []] [])
  .no, .mk none none (.store 2 (.t 6) (.t 39))
  .no])
  .ret)
  .skip)))
  (.seq
  (.ops
  [.mk (some 40) none (.fieldAddr 0 (.t 4)) .no, .mk (some 41) none (.load false 1 (.t 40)) .no, .mk (some 42) none
  (.build [.st (.str (ByteArray.mk (#[]))), .full []]
  [(0, 1, .t 41)])
  .no, .mk (some 9) none
  (.alloc 24 [.st (.str (ByteArray.mk (#[]))), .full []])
  .no, .mk none none (.store 2 (.t 9) (.t 42))
  .no])
  (.seq
  (.seq
  (.ops
  [.mk (some 43) none (.fieldAddr 1 (.t 4)) .no, .mk (some 44) none (.load false 1 (.t 43)) .no, .mk (some 45) none (.len false (.t 44)) .no, .mk (some 46) none (.mov (.c (.one (.st (.int .i64 0)))))
  .no])
  (.block 0
  (.loop
  (.seq
  (.ops
  [.mk (some 47) none (.bin .lss (.t 46) (.t 45))
  .no])
  (.seq (.cond (.t 47) .skip (.exit 0))
  (.seq
  (.block 1
  (.seq
  (.ops
  [.mk (some 48) none (.indexAddr 2 (.t 44) (.t 46))
  .no, .mk (some 49) none (.load true 2 (.t 48))
  .no, .mk (some 11) none
  (.alloc 24 [.st (.str (ByteArray.mk (#[]))), .full []])
  .no, .mk none none (.store 2 (.t 11) (.t 49))
  .no])
  (.seq
  (.ops
  [.mk (some 50) none (.fieldAddr 1 (.t 9))
  (.onb 9), .mk (some 51) none (.load false 1 (.t 50))
  (.onb 9), .mk (some 52) none (.mov (.t 0)) .no, .mk (some 53) none (.load true 2 (.t 11))
  .no, .mk (some 54) none (.mov (.t 2)) .no, .mk (some 55) none
  (.callS 60 [.t 52, .t 53, .t 54])
  (.keeps [9, 9]), .mk (some 56) none (.buildSlice false 24 2 [.t 55])
  .no, .mk (some 57) none
  (.append false 24 2 40 (.t 51) (.t 56)) .no, .mk (some 58) none (.fieldAddr 1 (.t 9)) .no, .mk none none (.store 1 (.t 58) (.t 57))
  .no])
  (.seq
  (.ops
  [.mk (some 59) none (.mov (.t 0)) .no, .mk (some 60) none (.nilCheck (.t 59)) .no, .mk (some 61) none (.fieldAddr 1 (.t 60))
  .no, .mk (some 62) none (.load false 1 (.t 61))
  .no, .mk (some 63) none (.bin .lss (.t 62) (.c (.one (.st (.int .i64 0)))))
  .no])
  (.cond (.t 63)
  (.seq
  (.ops
  [.mk (some 64) none
  (.build
  [.st (.str (ByteArray.mk (#[]))), .full []] [])
  .no, .mk none none (.store 2 (.t 6) (.t 64))
  .no])
  .ret)
  .skip)))))
  (.ops
  [.mk (some 65) none (.bin .add (.t 46) (.c (.one (.st (.int .i64 1)))))
  .no, .mk (some 46) none (.mov (.t 65)) .no])))))))
  (.seq
  (.ops
  [.mk (some 66) none (.load true 2 (.t 9)) .no, .mk none none (.store 2 (.t 6) (.t 66))
  .no])
  .ret))))))
theorem tr_metaprune_subst_maker_copy : trCode Tryd.prog 67 [26, 55] (Tryd.f60.body.getD .skip) = some ir_metaprune_subst_maker_copy := by kernel_rfl
theorem ac_metaprune_subst_maker_copy {xs : List AV} {r : AV} (hn : xs.length ≤ 67) (h : ∀ C : Ctx, C.n = 67 → IWP Tryd.prog C [26, 55] ir_metaprune_subst_maker_copy (FinQ [.cell 6 true 2] r) (AS.start xs)) : ACalls Tryd.prog 60 xs r :=
  acalls_of Tryd.func60 rfl tr_metaprune_subst_maker_copy rfl hn h
theorem acS_metaprune_subst_maker_copy {xs : List AV} {S S' : AStore} {r : AV} (hn : xs.length ≤ 67) (h : Clean S → ∀ C : Ctx, C.n = 67 → IWP Tryd.prog C [26, 55] ir_metaprune_subst_maker_copy (FinS C [.cell 6 true 2] r S') (AS.startS xs S)) : ACallsS Tryd.prog 60 xs S r S' :=
  acallsS_of Tryd.func60 rfl tr_metaprune_subst_maker_copy rfl hn h

def ir_subst_On : IR :=
  (.seq
  (.ops
  [.mk (some 3) none (.box 24 (.t 1)) .no, .mk (some 4) none
  (.alloc 24 [.st (.str (ByteArray.mk (#[]))), .full []])
  .no, .mk (some 5) none (.mov (.c (.one (.st (.bool false)))))
  .no])
  (.seq
  (.ops
  [.mk (some 8) none (.mov (.t 0)) .no, .mk (some 9) none
  (.build [.full [], .st (.int .i64 0)]
  [(0, 1, .t 8),
  (1, 1, .c (.one (.st (.int .i64 2000))))])
  .no, .mk (some 10) none (.box 90 (.t 9)) .no, .mk (some 6) none (.mov (.t 10)) .no])
  (.seq
  (.ops
  [.mk (some 11) none (.mov (.t 6)) .no, .mk (some 12) none (.load true 2 (.t 3)) .no, .mk (some 13) none
  (.callS 60
  [.t 11, .t 12, .c (.one (.st (.bool true)))])
  .no, .mk (some 7) none
  (.alloc 24 [.st (.str (ByteArray.mk (#[]))), .full []])
  .no, .mk none none (.store 2 (.t 7) (.t 13))
  .no])
  (.seq
  (.ops
  [.mk (some 14) none (.load true 2 (.t 7)) .no, .mk (some 15) none (.mov (.t 6)) .no, .mk (some 16) none (.nilCheck (.t 15)) (.onb 10), .mk (some 17) none (.fieldAddr 1 (.t 16)) (.onb 10), .mk (some 18) none (.load false 1 (.t 17)) (.onb 10), .mk (some 19) none (.bin .geq (.t 18) (.c (.one (.st (.int .i64 0)))))
  .no, .mk none none (.store 2 (.t 4) (.t 14))
  (.onb 4), .mk (some 5) none (.mov (.t 19)) .no])
  .ret))))
theorem tr_subst_On : trCode Tryd.prog 20 [13, 10060010] (Tryd.f45.body.getD .skip) = some ir_subst_On := by kernel_rfl
theorem ac_subst_On {xs : List AV} {r : AV} (hn : xs.length ≤ 20) (h : ∀ C : Ctx, C.n = 20 → IWP Tryd.prog C [13, 10060010] ir_subst_On (FinQ [.cell 4 true 2, .t 5] r) (AS.start xs)) : ACalls Tryd.prog 45 xs r :=
  acalls_of Tryd.func45 rfl tr_subst_On rfl hn h
theorem acS_subst_On {xs : List AV} {S S' : AStore} {r : AV} (hn : xs.length ≤ 20) (h : Clean S → ∀ C : Ctx, C.n = 20 → IWP Tryd.prog C [13, 10060010] ir_subst_On (FinS C [.cell 4 true 2, .t 5] r S') (AS.startS xs S)) : ACallsS Tryd.prog 45 xs S r S' :=
  acallsS_of Tryd.func45 rfl tr_subst_On rfl hn h

def ir_subst_Apply : IR :=
  (.seq
  (.ops
  [.mk (some 3) none (.box 24 (.t 1)) .no, .mk (some 4) none
  (.alloc 24 [.st (.str (ByteArray.mk (#[]))), .full []])
  .no, .mk (some 5) none (.mov (.c (.one (.st (.int .i64 0)))))
  .no])
  (.seq
  (.ops
  [.mk (some 9) none (.mov (.t 0)) .no, .mk (some 10) none (.call 44 [.t 9]) .no, .mk (some 6) none (.mov (.t 10)) .no])
  (.seq
  (.seq
  (.ops
  [.mk (some 11) none (.mov (.t 6)) .no, .mk (some 12) none (.bin .eql (.t 11) (.c (.one (.st (.int .i64 0)))))
  .no])
  (.cond (.t 12)
  (.ops
  [.mk (some 13) none (.load true 2 (.t 3)) .no, .mk (some 14) none (.call 39 [.t 13]) .no, .mk (some 6) none (.mov (.t 14)) .no])
  .skip))
  (.seq
  (.seq
  (.ops
  [.mk (some 15) none (.mov (.t 6)) .no, .mk (some 16) none (.bin .neq (.t 15) (.c (.one (.st (.int .i64 0)))))
  .no])
  (.cond (.t 16)
  (.seq
  (.ops
  [.mk (some 17) none
  (.build [.st (.str (ByteArray.mk (#[]))), .full []] [])
  .no, .mk (some 18) none (.mov (.t 6)) .no, .mk none none (.store 2 (.t 4) (.t 17))
  .no, .mk (some 5) none (.mov (.t 18)) .no])
  .ret)
  .skip))
  (.seq
  (.ops
  [.mk (some 20) none (.mov (.t 0)) .no, .mk (some 21) none (.load true 2 (.t 3)) .no, .mk (some 22) none (.call 45 [.t 20, .t 21])
  .no, .mk (some 19) none (.mov (.t 22)) .no, .mk (some 23) none (.extract 0 (.t 19)) .no, .mk (some 24) none (.extract 1 (.t 19)) .no, .mk (some 7) none
  (.alloc 24 [.st (.str (ByteArray.mk (#[]))), .full []])
  .no, .mk none none (.store 2 (.t 7) (.t 23))
  .no, .mk (some 8) none (.mov (.t 24)) .no])
  (.seq
  (.seq
  (.ops
  [.mk (some 25) none (.mov (.t 8)) .no, .mk (some 26) none (.un .not (.t 25)) .no])
  (.cond (.t 26)
  (.seq
  (.ops
  [.mk (some 27) none
  (.build [.st (.str (ByteArray.mk (#[]))), .full []] [])
  .no, .mk none none (.store 2 (.t 4) (.t 27))
  .no, .mk (some 5) none (.mov (.c (.one (.st (.int .i64 8)))))
  .no])
  .ret)
  .skip))
  (.seq
  (.ops
  [.mk (some 28) none (.load true 2 (.t 7)) .no, .mk none none (.store 2 (.t 4) (.t 28))
  .no, .mk (some 5) none (.mov (.c (.one (.st (.int .i64 0)))))
  .no])
  .ret)))))))
theorem tr_subst_Apply : trCode Tryd.prog 29 [] (Tryd.f22.body.getD .skip) = some ir_subst_Apply := by kernel_rfl
theorem ac_subst_Apply {xs : List AV} {r : AV} (hn : xs.length ≤ 29) (h : ∀ C : Ctx, C.n = 29 → IWP Tryd.prog C [] ir_subst_Apply (FinQ [.cell 4 true 2, .t 5] r) (AS.start xs)) : ACalls Tryd.prog 22 xs r :=
  acalls_of Tryd.func22 rfl tr_subst_Apply rfl hn h
theorem acS_subst_Apply {xs : List AV} {S S' : AStore} {r : AV} (hn : xs.length ≤ 29) (h : Clean S → ∀ C : Ctx, C.n = 29 → IWP Tryd.prog C [] ir_subst_Apply (FinS C [.cell 4 true 2, .t 5] r S') (AS.startS xs S)) : ACallsS Tryd.prog 22 xs S r S' :=
  acallsS_of Tryd.func22 rfl tr_subst_Apply rfl hn h

end Go.Proofs.YtdmgelbbjppgkaaDoor
