/-
  Terms without what is bound: one step, by the program.
  Conditions: none.
-/
import Derived.Test.YtelmgldeghmkbaaBCombR
namespace Go.Proofs.Ytelmgldeghmkbaa
open Go Go.RowKit
set_option linter.unusedVariables false
set_option linter.unusedSimpArgs false
set_option maxHeartbeats 2000000

/-- The i-th from a row's end, where the row is read alone. -/
theorem at_S2 (ws : List Tm) (i : Nat) (x : Tm) (hi : i < ws.length) (hx : ws[ws.length - 1 - i]? = some x) (hl : ws.length ≤ 1000000) (b r c : Nat) (hb : 1000 ≤ b) (hr : 1000 ≤ r) (hc : 1000 ≤ c) (S : AStore)
    (sb : S b = some (.box 23 [.row r ws.length])) (sr : S r = some (.arow 25 2 (ws.map encT))) (sc : S c = some (.box 3 [.st (.int .i64 ws.length)])) :
    ACallsS Try.prog 34 [aInt i, .one (.ptr b 1 0 0), .one (.ptr c 1 0 0)] S (aTm x) S := by
  refine acS_comb_step_1 (Nat.le_of_ble_eq_true rfl) fun hS C hC => ?_
  unfold ir_comb_step_1
  have s4 : S 4 = none := clean_none hS (by omega)
  have b4 : ¬ b = 4 := by omega
  have r4 : ¬ r = 4 := by omega
  have c4 : ¬ c = 4 := by omega
  have hto : ((ws.length : Int) - 1 - i).toNat = ws.length - 1 - i := by omega
  have h0 : 0 ≤ (ws.length : Int) - 1 - i := by omega
  have hlt : ws.length - 1 - i < ws.length := by omega
  repeat' (first | (with_reducible first | refine Wa ?_ | refine Wb ?_ | refine Wc ?_ | refine Wd ?_ | refine We ?_ | refine Wf ?_ | refine Wg ?_ | refine Wh ?_ | refine Wi ?_ | refine Wj ?_ | refine Wk (by decide) ?_ | refine Wl ?_ | refine Wm ?_ | refine Wn ?_) | ((with_reducible first | refine Wo (fun K hK => ?_) | refine Wp ?_ | refine Wq ?_ | refine Wr ?_); (try simp only [go_sem, List.forall_mem_nil, ↓guard_ite, ↓pick_ite, seval, encT_eq, inR_i64, s4, sb, sr, sc, b4, r4, c4, hto, h0, hlt, hx, decide_eq_true_eq, decide_eq_false_iff_not, Int.ofNat_lt]); (repeat with_reducible refine And.intro (by first | omega | with_reducible exact lens_encT | with_reducible exact lens_encL | (simp; done) | (simp only [List.length_take, List.length_map, List.length_append, maxLen_eq]; omega)) ?_); (try (with_reducible refine hK _ ?_; clear hK K)); (try with_reducible refine ite_conj ?_)))
  refine finS_same (aTm x) hS trivial ?_ ?_ fun j hj => ?_
  · rfl
  · rfl
  · have j4 : ¬ j = 4 := by omega
    simp only [updE, j4, if_false]
theorem rev_at {ws : List Tm} {i : Nat} {x : Tm} (h : ws.reverse[i]? = some x) : i < ws.length ∧ ws[ws.length - 1 - i]? = some x := by
  have hi : i < ws.length := by
    have := (List.getElem?_eq_some_iff.1 h).1
    simpa using this
  rw [List.getElem?_reverse hi] at h
  exact ⟨hi, h⟩
/-- The closure's call, where the row is written to. -/
theorem at_up {ws : List Tm} {i r : Nat} {j : Int} {x : Tm} {S : AStore} (hj : j = i) (h : ws.reverse[i]? = some x) (hl : ws.length ≤ 1000000)
    (s4 : S 4 = some (.box 23 [.row r ws.length])) (sr : S r = some (.mrow 25 2 (ws.map encT))) (s6 : S 6 = some (.box 3 [.st (.int .i64 ws.length)])) :
    ACallsS Try.prog 34 [aInt j, .one (.ptr (up1 4) 1 0 0), .one (.ptr (up1 6) 1 0 0)] (upS S) (aTm x) (upS S) := by
  subst hj
  obtain ⟨h1, h2⟩ := rev_at h
  exact at_S ws i x h1 h2 hl (up1 4) (up1 r) (up1 6) (up1_le 4) (up1_le r) (up1_le 6) (upS S) (by rw [upS_up, s4]; rfl) (by rw [upS_up, sr]; rfl) (by rw [upS_up, s6]; rfl)
/-- The same, where the row is read alone. -/
theorem at_up2 {ws : List Tm} {i r : Nat} {j : Int} {x : Tm} {S : AStore} (hj : j = i) (h : ws.reverse[i]? = some x) (hl : ws.length ≤ 1000000)
    (s4 : S 4 = some (.box 23 [.row r ws.length])) (sr : S r = some (.arow 25 2 (ws.map encT))) (s6 : S 6 = some (.box 3 [.st (.int .i64 ws.length)])) :
    ACallsS Try.prog 34 [aInt j, .one (.ptr (up1 4) 1 0 0), .one (.ptr (up1 6) 1 0 0)] (upS S) (aTm x) (upS S) := by
  subst hj
  obtain ⟨h1, h2⟩ := rev_at h
  exact at_S2 ws i x h1 h2 hl (up1 4) (up1 r) (up1 6) (up1_le 4) (up1_le r) (up1_le 6) (upS S) (by rw [upS_up, s4]; rfl) (by rw [upS_up, sr]; rfl) (by rw [upS_up, s6]; rfl)
theorem clone_up {ws : List Tm} {S : AStore} (h0 : 0 < ws.length) (hl : ws.length ≤ 1000000) (sr : S 27 = some (.arow 25 2 (ws.map encT))) (s21 : S 21 = none) :
    ACallsS Try.prog 35 [.one (.row (up1 27) ws.length)] (upS S) (.one (.row (up1 21) ws.length)) (updE (upS S) (up1 21) (some (.mrow 25 2 (ws.map encT)))) :=
  clone_S ws h0 hl (up1 27) (up1 21) (up1_le 27) (up1_le 21) (upS S) (by rw [upS_up, sr]; rfl) (by rw [upS_up, s21]; rfl)
theorem last_get (ws : List Tm) (z : List SV) : (ws.map encT ++ [z])[ws.length]? = some z := by
  rw [List.getElem?_append_right (by simp)]
  simp
theorem last_set (ws : List Tm) (z y : List SV) : (ws.map encT ++ [z]).set ws.length y = ws.map encT ++ [y] := by
  rw [List.set_append_right _ _ (by simp)]
  simp
theorem set_rev {ws : List Tm} {i : Nat} {y : Tm} (hi : i < ws.length) : (ws.set (ws.length - 1 - i) y).reverse = ws.reverse.set i y := by
  apply List.ext_getElem?
  intro j
  by_cases hj : j < ws.length
  · rw [List.getElem?_reverse (by simpa using hj), List.length_set]
    by_cases hji : j = i
    · subst hji
      rw [List.getElem?_set_self (by omega), List.getElem?_set_self (by simpa using hi)]
    · rw [List.getElem?_set_ne (by omega), List.getElem?_set_ne (by omega), List.getElem?_reverse hj]
  · rw [List.getElem?_eq_none (by simp; omega), List.getElem?_eq_none (by simp; omega)]
theorem step_len {t h : Tm} {ws : List Tm} (hf : t.fm = true) (hr : t.rw_ = h.rw_ ++ ws.reverse) : ws.length ≤ t.size := by
  have h1 := Tm.rw_size hf
  have h2 := congrArg List.length hr
  simp only [List.length_append, List.length_reverse] at h2
  omega
theorem stepC_a (t : Tm) (hf : t.fm = true) (hz : t.size ≤ 1000000) : ACalls Try.prog 22 [aTm t] t.stepR := by
  induction h : t.size using Nat.strongRecOn generalizing t with
  | _ N ih =>
  subst h
  unfold Tm.stepR
  refine ac_comb_step (Nat.le_of_ble_eq_true rfl) fun C hC => ?_
  unfold ir_comb_step
  repeat' (first | (with_reducible first | refine Wa ?_ | refine Wb ?_ | refine Wc ?_ | refine Wd ?_ | refine We ?_ | refine Wf ?_ | refine Wg ?_ | refine Wh ?_ | refine Wi ?_ | refine Wj ?_ | refine Wk (by decide) ?_ | refine Wl ?_ | refine Wm ?_ | refine Wn ?_) | ((with_reducible first | refine Wo (fun K hK => ?_) | refine Wp ?_ | refine Wq ?_ | refine Wr ?_); (try simp only [go_sem, List.forall_mem_nil, ↓guard_ite, ↓pick_ite, seval, encT_eq, inR_i64, decide_eq_true_eq, decide_eq_false_iff_not, Int.ofNat_lt]); (repeat with_reducible refine And.intro (by first | omega | with_reducible exact lens_encT | with_reducible exact lens_encL | (simp; done) | (simp only [List.length_take, List.length_map, List.length_append, maxLen_eq]; omega)) ?_); (try (with_reducible refine hK _ ?_; clear hK K)); (try with_reducible refine ite_conj ?_)))
  refine IWP.loop (fun n s => ∃ (h' : Tm) (ws : List Tm), n = h'.size ∧ h'.fm = true ∧ t.rw_ = h'.rw_ ++ ws.reverse ∧ t.hd = h'.hd ∧ s.env 1 = .one (.ptr 1 1 0 0) ∧ s.env 2 = .one (.ptr 2 1 0 0) ∧ s.env 4 = .one (.ptr 4 1 0 0) ∧ s.env 5 = .one (.ptr 5 1 0 0)
      ∧ s.S 1 = some (.box 25 [.st (.str t.name), .st (.list (t.args.map encT))]) ∧ s.S 2 = some (.box 25 [.st (.str ⟨#[]⟩), .full []]) ∧ s.S 5 = some (.box 25 [.st (.str h'.name), .st (.list (h'.args.map encT))])
      ∧ ((ws = [] ∧ s.S 4 = some (.box 23 [.full []]) ∧ s.S 27 = none) ∨ (0 < ws.length ∧ s.S 4 = some (.box 23 [.row 27 ws.length]) ∧ s.S 27 = some (.mrow 25 2 (ws.map encT)))) ∧ s.S 6 = none ∧ s.S 8 = none ∧ s.S 11 = none ∧ s.S 21 = none) t.size
    ⟨t, [], rfl, hf, by simp, rfl, rfl, rfl, rfl, rfl, rfl, rfl, rfl, Or.inl ⟨rfl, rfl, rfl⟩, rfl, rfl, rfl, rfl⟩ ?_
  rintro n ⟨env, S⟩ ⟨h', ws, rfl, hf', hr, hd', e1, e2, e4, e5, s1, s2, s5, hw, s6, s8, s11, s21⟩
  simp only at e1 e2 e4 e5 s1 s2 s5 hw s6 s8 s11 s21
  have hlen := step_len hf hr
  rcases Tm.fm_cases hf' with h0 | ⟨f, x, hn, hfx, ff, fx⟩
  case inr =>
    have hfm : f ∈ h'.args := by rw [hfx]; simp
    have sf := Tm.size_mem hfm
    have ss := Tm.size_eq h'
    rw [Tm.rw_ap hfx] at hr
    rw [Tm.hd_ap hfx] at hd'
    rcases hw with ⟨rfl, s4, s27⟩ | ⟨hw0, s4, s27⟩
    · repeat' (first | (with_reducible first | refine Wa ?_ | refine Wb ?_ | refine Wc ?_ | refine Wd ?_ | refine We ?_ | refine Wf ?_ | refine Wg ?_ | refine Wh ?_ | refine Wi ?_ | refine Wj ?_ | refine Wk (by decide) ?_ | refine Wl ?_ | refine Wm ?_ | refine Wn ?_) | ((with_reducible first | refine Wo (fun K hK => ?_) | refine Wp ?_ | refine Wq ?_ | refine Wr ?_); (try simp only [go_sem, List.forall_mem_nil, ↓guard_ite, ↓pick_ite, seval, encT_eq, inR_i64, e1, e2, e4, e5, s1, s2, s5, s4, s27, s6, s8, s11, s21, hfx, Int.cast_ofNat_Int, decide_eq_true_eq, decide_eq_false_iff_not, Int.ofNat_lt]); (repeat with_reducible refine And.intro (by first | omega | with_reducible exact lens_encT | with_reducible exact lens_encL | (simp; done) | (simp only [List.length_take, List.length_map, List.length_append, maxLen_eq]; omega)) ?_); (try (with_reducible refine hK _ ?_; clear hK K)); (try with_reducible refine ite_conj ?_)))
      refine then_normal ⟨f.size, by omega, f, [x], rfl, ff, by simpa using hr, hd', ?_⟩
      simp only [go_sem, List.forall_mem_nil, ↓guard_ite, ↓pick_ite, seval, encT_eq, inR_i64, e1, e2, e4, e5, s1, s2, s5, s4, s27, s6, s8, s11, s21]
      simp [encT_eq]
    · have g1 := last_get ws [.str ⟨#[]⟩, .list []]
      have g2 := last_set ws [.str ⟨#[]⟩, .list []] [.str x.name, .list (x.args.map encT)]
      repeat' (first | (with_reducible first | refine Wa ?_ | refine Wb ?_ | refine Wc ?_ | refine Wd ?_ | refine We ?_ | refine Wf ?_ | refine Wg ?_ | refine Wh ?_ | refine Wi ?_ | refine Wj ?_ | refine Wk (by decide) ?_ | refine Wl ?_ | refine Wm ?_ | refine Wn ?_) | ((with_reducible first | refine Wo (fun K hK => ?_) | refine Wp ?_ | refine Wq ?_ | refine Wr ?_); (try simp only [go_sem, List.forall_mem_nil, ↓guard_ite, ↓pick_ite, seval, encT_eq, inR_i64, e1, e2, e4, e5, s1, s2, s5, s4, s27, s6, s8, s11, s21, hfx, Int.cast_ofNat_Int, g1, g2, decide_eq_true_eq, decide_eq_false_iff_not, Int.ofNat_lt]); (repeat with_reducible refine And.intro (by first | omega | with_reducible exact lens_encT | with_reducible exact lens_encL | (simp; done) | (simp only [List.length_take, List.length_map, List.length_append, maxLen_eq]; omega)) ?_); (try (with_reducible refine hK _ ?_; clear hK K)); (try with_reducible refine ite_conj ?_)))
      refine then_normal ⟨f.size, by omega, f, ws ++ [x], rfl, ff, by simpa using hr, hd', ?_⟩
      simp only [go_sem, List.forall_mem_nil, ↓guard_ite, ↓pick_ite, seval, encT_eq, inR_i64, e1, e2, e4, e5, s1, s2, s5, s4, s27, s6, s8, s11, s21]
      exact Or.inr ⟨by omega, by simp [encT_eq]⟩
  case inl =>
  rw [Tm.rw_leaf h0, List.nil_append] at hr
  rw [Tm.hd_leaf h0] at hd'
  rcases red_cases h'.name ws.reverse with ⟨q1, q2, x, r, q3, q4⟩ | ⟨q1, q2, x, b, r, q3, q4⟩ | ⟨q1, q2, a, b, c, r, q3, q4⟩ | ⟨q4, q5⟩
  · rw [List.length_reverse] at q2
    have p0 : 0 < (ws.length : Int) := by omega
    have p1 : 1 < (ws.length : Int) ∨ True := Or.inr trivial
    rcases hw with ⟨rfl, s4, s27⟩ | ⟨hw0, s4, s27⟩
    · simp at p0
    · skip
      have hst := Tm.step_red (t := t) (by rw [hd', hr]; exact q4)
      rw [hst, hr]
      have g0 : ws.reverse[0]? = some x := by rw [q3]; rfl
      repeat' (first | (with_reducible first | refine Wa ?_ | refine Wb ?_ | refine Wc ?_ | refine Wd ?_ | refine We ?_ | refine Wf ?_ | refine Wg ?_ | refine Wh ?_ | refine Wi ?_ | refine Wj ?_ | refine Wk (by decide) ?_ | refine Wl ?_ | refine Wm ?_ | refine Wn ?_) | (first | refine ⟨by kernel_rfl, _, _, at_up (ws := ws) (i := 0) (r := 27) rfl g0 (by omega) (by simp [updE, s4]) (by simp [updE, s27]) (by simp [updE]), ?_⟩ | refine ⟨_, _, at_up (ws := ws) (i := 0) (r := 27) rfl g0 (by omega) (by simp [updE, s4]) (by simp [updE, s27]) (by simp [updE]), ?_⟩) | ((with_reducible first | refine Wo (fun K hK => ?_) | refine Wp ?_ | refine Wq ?_ | refine Wr ?_); (try simp only [go_sem, List.forall_mem_nil, ↓guard_ite, ↓pick_ite, seval, encT_eq, inR_i64, e1, e2, e4, e5, s1, s2, s5, s4, s27, s6, s8, s11, s21, Int.cast_ofNat_Int, h0, AS.caps, q1, p0, ik, is_, decide_eq_true_eq, decide_eq_false_iff_not, Int.ofNat_lt]); (repeat with_reducible refine And.intro (by first | omega | with_reducible exact lens_encT | with_reducible exact lens_encL | (simp; done) | (simp only [List.length_take, List.length_map, List.length_append, maxLen_eq]; omega)) ?_); (try (with_reducible refine hK _ ?_; clear hK K)); (try with_reducible refine ite_conj ?_)))
      refine IWP.loop (fun n s => ∃ k, 1 ≤ k ∧ k ≤ ws.length ∧ n = ws.length - k ∧ s.env 2 = .one (.ptr 2 1 0 0) ∧ s.env 4 = .one (.ptr 4 1 0 0) ∧ s.env 6 = .one (.ptr 6 1 0 0) ∧ s.env 7 = .one (.fn 34 [.ptr 4 1 0 0, .ptr 6 1 0 0]) ∧ s.env 8 = .one (.ptr 8 1 0 0) ∧ s.S 2 = some (.box 25 [.st (.str ⟨#[]⟩), .full []]) ∧ s.S 4 = some (.box 23 [.row 27 ws.length]) ∧ s.S 27 = some (.mrow 25 2 (ws.map encT)) ∧ s.S 6 = some (.box 3 [.st (.int .i64 ws.length)])
          ∧ s.S 8 = some (.box 25 [.st (.str (aps (x) ((ws.reverse.take k).drop 1)).name), .st (.list ((aps (x) ((ws.reverse.take k).drop 1)).args.map encT))]) ∧ s.env 14 = aInt k) (ws.length - 1)
        ⟨1, Nat.le_refl _, by omega, rfl, by simp only [go_sem, List.forall_mem_nil, ↓guard_ite, ↓pick_ite, seval, encT_eq, inR_i64, e2], by simp only [go_sem, List.forall_mem_nil, ↓guard_ite, ↓pick_ite, seval, encT_eq, inR_i64, e4], rfl, rfl, rfl, by simp only [go_sem, List.forall_mem_nil, ↓guard_ite, ↓pick_ite, seval, encT_eq, inR_i64, s2], by simp only [go_sem, List.forall_mem_nil, ↓guard_ite, ↓pick_ite, seval, encT_eq, inR_i64, s4], by simp only [go_sem, List.forall_mem_nil, ↓guard_ite, ↓pick_ite, seval, encT_eq, inR_i64, s27], rfl, by rw [show (ws.reverse.take 1).drop 1 = [] from by simp]; rfl, rfl⟩ ?_
      rintro n ⟨env', S'⟩ ⟨k, hk0, hk, rfl, f2, f4, f6, f7, f8, t2, t4, t27, t6, t8, f14⟩
      simp only at f2 f4 f6 f7 f8 t2 t4 t27 t6 t8 f14
      by_cases hlt : (k : Int) < ws.length
      · obtain ⟨z, hz'⟩ := get_lt (show k < ws.reverse.length by rw [List.length_reverse]; omega)
        repeat' (first | (with_reducible first | refine Wa ?_ | refine Wb ?_ | refine Wc ?_ | refine Wd ?_ | refine We ?_ | refine Wf ?_ | refine Wg ?_ | refine Wh ?_ | refine Wi ?_ | refine Wj ?_ | refine Wk (by decide) ?_ | refine Wl ?_ | refine Wm ?_ | refine Wn ?_) | (first | refine ⟨by kernel_rfl, _, _, at_up (ws := ws) (i := k) (r := 27) rfl hz' (by omega) (by simp [updE, t4]) (by simp [updE, t27]) (by simp [updE, t6]), ?_⟩ | refine ⟨_, _, at_up (ws := ws) (i := k) (r := 27) rfl hz' (by omega) (by simp [updE, t4]) (by simp [updE, t27]) (by simp [updE, t6]), ?_⟩) | refine CallG.mk _ (apC_a (aps (x) ((ws.reverse.take k).drop 1)) z) ?_ | ((with_reducible first | refine Wo (fun K hK => ?_) | refine Wp ?_ | refine Wq ?_ | refine Wr ?_); (try simp only [go_sem, List.forall_mem_nil, ↓guard_ite, ↓pick_ite, seval, encT_eq, inR_i64, f2, f4, f6, f7, f8, t2, t4, t27, t6, t8, f14, hlt, decide_eq_true_eq, decide_eq_false_iff_not, Int.ofNat_lt]); (repeat with_reducible refine And.intro (by first | omega | with_reducible exact lens_encT | with_reducible exact lens_encL | (simp; done) | (simp only [List.length_take, List.length_map, List.length_append, maxLen_eq]; omega)) ?_); (try (with_reducible refine hK _ ?_; clear hK K)); (try with_reducible refine ite_conj ?_)))
        refine then_normal ⟨ws.length - (k + 1), by omega, k + 1, by omega, by omega, rfl, ?_⟩
        simp only [go_sem, List.forall_mem_nil, ↓guard_ite, ↓pick_ite, seval, encT_eq, inR_i64, f2, f4, f6, f7, f8, t2, t4, t27, t6, t8, f14]
        exact ⟨by rw [drop_take_snoc hk0 hz', aps_snoc], by congr 3⟩
      · rw [List.take_of_length_le (by rw [List.length_reverse]; omega)] at t8
        repeat' (first | (with_reducible first | refine Wa ?_ | refine Wb ?_ | refine Wc ?_ | refine Wd ?_ | refine We ?_ | refine Wf ?_ | refine Wg ?_ | refine Wh ?_ | refine Wi ?_ | refine Wj ?_ | refine Wk (by decide) ?_ | refine Wl ?_ | refine Wm ?_ | refine Wn ?_) | ((with_reducible first | refine Wo (fun K hK => ?_) | refine Wp ?_ | refine Wq ?_ | refine Wr ?_); (try simp only [go_sem, List.forall_mem_nil, ↓guard_ite, ↓pick_ite, seval, encT_eq, inR_i64, f2, f4, f6, f7, f8, t2, t4, t27, t6, t8, f14, hlt, decide_eq_true_eq, decide_eq_false_iff_not, Int.ofNat_lt]); (repeat with_reducible refine And.intro (by first | omega | with_reducible exact lens_encT | with_reducible exact lens_encL | (simp; done) | (simp only [List.length_take, List.length_map, List.length_append, maxLen_eq]; omega)) ?_); (try (with_reducible refine hK _ ?_; clear hK K)); (try with_reducible refine ite_conj ?_)))
        simp only [go_sem, List.forall_mem_nil, ↓guard_ite, ↓pick_ite, seval, FinQ, AS.result, resAll, resOne, tupV, f2]
  · rw [List.length_reverse] at q2
    have p0 : 0 < (ws.length : Int) := by omega
    have p1 : 1 < (ws.length : Int) ∨ True := Or.inr trivial
    rcases hw with ⟨rfl, s4, s27⟩ | ⟨hw0, s4, s27⟩
    · simp at p0
    · skip
      have p1 : 1 < (ws.length : Int) := by omega
      have hst := Tm.step_red (t := t) (by rw [hd', hr]; exact q4)
      rw [hst, hr]
      have g0 : ws.reverse[0]? = some x := by rw [q3]; rfl
      repeat' (first | (with_reducible first | refine Wa ?_ | refine Wb ?_ | refine Wc ?_ | refine Wd ?_ | refine We ?_ | refine Wf ?_ | refine Wg ?_ | refine Wh ?_ | refine Wi ?_ | refine Wj ?_ | refine Wk (by decide) ?_ | refine Wl ?_ | refine Wm ?_ | refine Wn ?_) | (first | refine ⟨by kernel_rfl, _, _, at_up (ws := ws) (i := 0) (r := 27) rfl g0 (by omega) (by simp [updE, s4]) (by simp [updE, s27]) (by simp [updE]), ?_⟩ | refine ⟨_, _, at_up (ws := ws) (i := 0) (r := 27) rfl g0 (by omega) (by simp [updE, s4]) (by simp [updE, s27]) (by simp [updE]), ?_⟩) | ((with_reducible first | refine Wo (fun K hK => ?_) | refine Wp ?_ | refine Wq ?_ | refine Wr ?_); (try simp only [go_sem, List.forall_mem_nil, ↓guard_ite, ↓pick_ite, seval, encT_eq, inR_i64, e1, e2, e4, e5, s1, s2, s5, s4, s27, s6, s8, s11, s21, Int.cast_ofNat_Int, h0, AS.caps, q1, p0, p1, ki, ks, decide_eq_true_eq, decide_eq_false_iff_not, Int.ofNat_lt]); (repeat with_reducible refine And.intro (by first | omega | with_reducible exact lens_encT | with_reducible exact lens_encL | (simp; done) | (simp only [List.length_take, List.length_map, List.length_append, maxLen_eq]; omega)) ?_); (try (with_reducible refine hK _ ?_; clear hK K)); (try with_reducible refine ite_conj ?_)))
      refine IWP.loop (fun n s => ∃ k, 2 ≤ k ∧ k ≤ ws.length ∧ n = ws.length - k ∧ s.env 2 = .one (.ptr 2 1 0 0) ∧ s.env 4 = .one (.ptr 4 1 0 0) ∧ s.env 6 = .one (.ptr 6 1 0 0) ∧ s.env 7 = .one (.fn 34 [.ptr 4 1 0 0, .ptr 6 1 0 0]) ∧ s.env 8 = .one (.ptr 8 1 0 0) ∧ s.S 2 = some (.box 25 [.st (.str ⟨#[]⟩), .full []]) ∧ s.S 4 = some (.box 23 [.row 27 ws.length]) ∧ s.S 27 = some (.mrow 25 2 (ws.map encT)) ∧ s.S 6 = some (.box 3 [.st (.int .i64 ws.length)])
          ∧ s.S 8 = some (.box 25 [.st (.str (aps (x) ((ws.reverse.take k).drop 2)).name), .st (.list ((aps (x) ((ws.reverse.take k).drop 2)).args.map encT))]) ∧ s.env 14 = aInt k) (ws.length - 2)
        ⟨2, Nat.le_refl _, by omega, rfl, by simp only [go_sem, List.forall_mem_nil, ↓guard_ite, ↓pick_ite, seval, encT_eq, inR_i64, e2], by simp only [go_sem, List.forall_mem_nil, ↓guard_ite, ↓pick_ite, seval, encT_eq, inR_i64, e4], rfl, rfl, rfl, by simp only [go_sem, List.forall_mem_nil, ↓guard_ite, ↓pick_ite, seval, encT_eq, inR_i64, s2], by simp only [go_sem, List.forall_mem_nil, ↓guard_ite, ↓pick_ite, seval, encT_eq, inR_i64, s4], by simp only [go_sem, List.forall_mem_nil, ↓guard_ite, ↓pick_ite, seval, encT_eq, inR_i64, s27], rfl, by rw [show (ws.reverse.take 2).drop 2 = [] from by simp]; rfl, rfl⟩ ?_
      rintro n ⟨env', S'⟩ ⟨k, hk0, hk, rfl, f2, f4, f6, f7, f8, t2, t4, t27, t6, t8, f14⟩
      simp only at f2 f4 f6 f7 f8 t2 t4 t27 t6 t8 f14
      by_cases hlt : (k : Int) < ws.length
      · obtain ⟨z, hz'⟩ := get_lt (show k < ws.reverse.length by rw [List.length_reverse]; omega)
        repeat' (first | (with_reducible first | refine Wa ?_ | refine Wb ?_ | refine Wc ?_ | refine Wd ?_ | refine We ?_ | refine Wf ?_ | refine Wg ?_ | refine Wh ?_ | refine Wi ?_ | refine Wj ?_ | refine Wk (by decide) ?_ | refine Wl ?_ | refine Wm ?_ | refine Wn ?_) | (first | refine ⟨by kernel_rfl, _, _, at_up (ws := ws) (i := k) (r := 27) rfl hz' (by omega) (by simp [updE, t4]) (by simp [updE, t27]) (by simp [updE, t6]), ?_⟩ | refine ⟨_, _, at_up (ws := ws) (i := k) (r := 27) rfl hz' (by omega) (by simp [updE, t4]) (by simp [updE, t27]) (by simp [updE, t6]), ?_⟩) | refine CallG.mk _ (apC_a (aps (x) ((ws.reverse.take k).drop 2)) z) ?_ | ((with_reducible first | refine Wo (fun K hK => ?_) | refine Wp ?_ | refine Wq ?_ | refine Wr ?_); (try simp only [go_sem, List.forall_mem_nil, ↓guard_ite, ↓pick_ite, seval, encT_eq, inR_i64, f2, f4, f6, f7, f8, t2, t4, t27, t6, t8, f14, hlt, decide_eq_true_eq, decide_eq_false_iff_not, Int.ofNat_lt]); (repeat with_reducible refine And.intro (by first | omega | with_reducible exact lens_encT | with_reducible exact lens_encL | (simp; done) | (simp only [List.length_take, List.length_map, List.length_append, maxLen_eq]; omega)) ?_); (try (with_reducible refine hK _ ?_; clear hK K)); (try with_reducible refine ite_conj ?_)))
        refine then_normal ⟨ws.length - (k + 1), by omega, k + 1, by omega, by omega, rfl, ?_⟩
        simp only [go_sem, List.forall_mem_nil, ↓guard_ite, ↓pick_ite, seval, encT_eq, inR_i64, f2, f4, f6, f7, f8, t2, t4, t27, t6, t8, f14]
        exact ⟨by rw [drop_take_snoc hk0 hz', aps_snoc], by congr 3⟩
      · rw [List.take_of_length_le (by rw [List.length_reverse]; omega)] at t8
        repeat' (first | (with_reducible first | refine Wa ?_ | refine Wb ?_ | refine Wc ?_ | refine Wd ?_ | refine We ?_ | refine Wf ?_ | refine Wg ?_ | refine Wh ?_ | refine Wi ?_ | refine Wj ?_ | refine Wk (by decide) ?_ | refine Wl ?_ | refine Wm ?_ | refine Wn ?_) | ((with_reducible first | refine Wo (fun K hK => ?_) | refine Wp ?_ | refine Wq ?_ | refine Wr ?_); (try simp only [go_sem, List.forall_mem_nil, ↓guard_ite, ↓pick_ite, seval, encT_eq, inR_i64, f2, f4, f6, f7, f8, t2, t4, t27, t6, t8, f14, hlt, decide_eq_true_eq, decide_eq_false_iff_not, Int.ofNat_lt]); (repeat with_reducible refine And.intro (by first | omega | with_reducible exact lens_encT | with_reducible exact lens_encL | (simp; done) | (simp only [List.length_take, List.length_map, List.length_append, maxLen_eq]; omega)) ?_); (try (with_reducible refine hK _ ?_; clear hK K)); (try with_reducible refine ite_conj ?_)))
        simp only [go_sem, List.forall_mem_nil, ↓guard_ite, ↓pick_ite, seval, FinQ, AS.result, resAll, resOne, tupV, f2]
  · rw [List.length_reverse] at q2
    have p0 : 0 < (ws.length : Int) := by omega
    have p1 : 1 < (ws.length : Int) ∨ True := Or.inr trivial
    rcases hw with ⟨rfl, s4, s27⟩ | ⟨hw0, s4, s27⟩
    · simp at p0
    · skip
      have p1 : 1 < (ws.length : Int) := by omega
      have p2 : 2 < (ws.length : Int) := by omega
      have hst := Tm.step_red (t := t) (by rw [hd', hr]; exact q4)
      rw [hst, hr]
      have g0 : ws.reverse[0]? = some a := by rw [q3]; rfl
      have g1 : ws.reverse[1]? = some b := by rw [q3]; rfl
      have g2 : ws.reverse[2]? = some c := by rw [q3]; rfl
      repeat' (first | (with_reducible first | refine Wa ?_ | refine Wb ?_ | refine Wc ?_ | refine Wd ?_ | refine We ?_ | refine Wf ?_ | refine Wg ?_ | refine Wh ?_ | refine Wi ?_ | refine Wj ?_ | refine Wk (by decide) ?_ | refine Wl ?_ | refine Wm ?_ | refine Wn ?_) | (first | refine ⟨by kernel_rfl, _, _, at_up (ws := ws) (i := 0) (r := 27) rfl g0 (by omega) (by simp [updE, s4]) (by simp [updE, s27]) (by simp [updE]), ?_⟩ | refine ⟨_, _, at_up (ws := ws) (i := 0) (r := 27) rfl g0 (by omega) (by simp [updE, s4]) (by simp [updE, s27]) (by simp [updE]), ?_⟩) | (first | refine ⟨by kernel_rfl, _, _, at_up (ws := ws) (i := 2) (r := 27) rfl g2 (by omega) (by simp [updE, s4]) (by simp [updE, s27]) (by simp [updE]), ?_⟩ | refine ⟨_, _, at_up (ws := ws) (i := 2) (r := 27) rfl g2 (by omega) (by simp [updE, s4]) (by simp [updE, s27]) (by simp [updE]), ?_⟩) | refine CallG.mk _ (apC_a a c) ?_ | (first | refine ⟨by kernel_rfl, _, _, at_up (ws := ws) (i := 1) (r := 27) rfl g1 (by omega) (by simp [updE, s4]) (by simp [updE, s27]) (by simp [updE]), ?_⟩ | refine ⟨_, _, at_up (ws := ws) (i := 1) (r := 27) rfl g1 (by omega) (by simp [updE, s4]) (by simp [updE, s27]) (by simp [updE]), ?_⟩) | refine CallG.mk _ (apC_a b c) ?_ | refine CallG.mk _ (apC_a (ap2 a c) (ap2 b c)) ?_ | ((with_reducible first | refine Wo (fun K hK => ?_) | refine Wp ?_ | refine Wq ?_ | refine Wr ?_); (try simp only [go_sem, List.forall_mem_nil, ↓guard_ite, ↓pick_ite, seval, encT_eq, inR_i64, e1, e2, e4, e5, s1, s2, s5, s4, s27, s6, s8, s11, s21, Int.cast_ofNat_Int, h0, AS.caps, q1, p0, p1, p2, si, sk, decide_eq_true_eq, decide_eq_false_iff_not, Int.ofNat_lt]); (repeat with_reducible refine And.intro (by first | omega | with_reducible exact lens_encT | with_reducible exact lens_encL | (simp; done) | (simp only [List.length_take, List.length_map, List.length_append, maxLen_eq]; omega)) ?_); (try (with_reducible refine hK _ ?_; clear hK K)); (try with_reducible refine ite_conj ?_)))
      refine IWP.loop (fun n s => ∃ k, 3 ≤ k ∧ k ≤ ws.length ∧ n = ws.length - k ∧ s.env 2 = .one (.ptr 2 1 0 0) ∧ s.env 4 = .one (.ptr 4 1 0 0) ∧ s.env 6 = .one (.ptr 6 1 0 0) ∧ s.env 7 = .one (.fn 34 [.ptr 4 1 0 0, .ptr 6 1 0 0]) ∧ s.env 8 = .one (.ptr 8 1 0 0) ∧ s.S 2 = some (.box 25 [.st (.str ⟨#[]⟩), .full []]) ∧ s.S 4 = some (.box 23 [.row 27 ws.length]) ∧ s.S 27 = some (.mrow 25 2 (ws.map encT)) ∧ s.S 6 = some (.box 3 [.st (.int .i64 ws.length)])
          ∧ s.S 8 = some (.box 25 [.st (.str (aps (ap2 (ap2 a c) (ap2 b c)) ((ws.reverse.take k).drop 3)).name), .st (.list ((aps (ap2 (ap2 a c) (ap2 b c)) ((ws.reverse.take k).drop 3)).args.map encT))]) ∧ s.env 14 = aInt k) (ws.length - 3)
        ⟨3, Nat.le_refl _, by omega, rfl, by simp only [go_sem, List.forall_mem_nil, ↓guard_ite, ↓pick_ite, seval, encT_eq, inR_i64, e2], by simp only [go_sem, List.forall_mem_nil, ↓guard_ite, ↓pick_ite, seval, encT_eq, inR_i64, e4], rfl, rfl, rfl, by simp only [go_sem, List.forall_mem_nil, ↓guard_ite, ↓pick_ite, seval, encT_eq, inR_i64, s2], by simp only [go_sem, List.forall_mem_nil, ↓guard_ite, ↓pick_ite, seval, encT_eq, inR_i64, s4], by simp only [go_sem, List.forall_mem_nil, ↓guard_ite, ↓pick_ite, seval, encT_eq, inR_i64, s27], rfl, by rw [show (ws.reverse.take 3).drop 3 = [] from by simp]; rfl, rfl⟩ ?_
      rintro n ⟨env', S'⟩ ⟨k, hk0, hk, rfl, f2, f4, f6, f7, f8, t2, t4, t27, t6, t8, f14⟩
      simp only at f2 f4 f6 f7 f8 t2 t4 t27 t6 t8 f14
      by_cases hlt : (k : Int) < ws.length
      · obtain ⟨z, hz'⟩ := get_lt (show k < ws.reverse.length by rw [List.length_reverse]; omega)
        repeat' (first | (with_reducible first | refine Wa ?_ | refine Wb ?_ | refine Wc ?_ | refine Wd ?_ | refine We ?_ | refine Wf ?_ | refine Wg ?_ | refine Wh ?_ | refine Wi ?_ | refine Wj ?_ | refine Wk (by decide) ?_ | refine Wl ?_ | refine Wm ?_ | refine Wn ?_) | (first | refine ⟨by kernel_rfl, _, _, at_up (ws := ws) (i := k) (r := 27) rfl hz' (by omega) (by simp [updE, t4]) (by simp [updE, t27]) (by simp [updE, t6]), ?_⟩ | refine ⟨_, _, at_up (ws := ws) (i := k) (r := 27) rfl hz' (by omega) (by simp [updE, t4]) (by simp [updE, t27]) (by simp [updE, t6]), ?_⟩) | refine CallG.mk _ (apC_a (aps (ap2 (ap2 a c) (ap2 b c)) ((ws.reverse.take k).drop 3)) z) ?_ | ((with_reducible first | refine Wo (fun K hK => ?_) | refine Wp ?_ | refine Wq ?_ | refine Wr ?_); (try simp only [go_sem, List.forall_mem_nil, ↓guard_ite, ↓pick_ite, seval, encT_eq, inR_i64, f2, f4, f6, f7, f8, t2, t4, t27, t6, t8, f14, hlt, decide_eq_true_eq, decide_eq_false_iff_not, Int.ofNat_lt]); (repeat with_reducible refine And.intro (by first | omega | with_reducible exact lens_encT | with_reducible exact lens_encL | (simp; done) | (simp only [List.length_take, List.length_map, List.length_append, maxLen_eq]; omega)) ?_); (try (with_reducible refine hK _ ?_; clear hK K)); (try with_reducible refine ite_conj ?_)))
        refine then_normal ⟨ws.length - (k + 1), by omega, k + 1, by omega, by omega, rfl, ?_⟩
        simp only [go_sem, List.forall_mem_nil, ↓guard_ite, ↓pick_ite, seval, encT_eq, inR_i64, f2, f4, f6, f7, f8, t2, t4, t27, t6, t8, f14]
        exact ⟨by rw [drop_take_snoc hk0 hz', aps_snoc], by congr 3⟩
      · rw [List.take_of_length_le (by rw [List.length_reverse]; omega)] at t8
        repeat' (first | (with_reducible first | refine Wa ?_ | refine Wb ?_ | refine Wc ?_ | refine Wd ?_ | refine We ?_ | refine Wf ?_ | refine Wg ?_ | refine Wh ?_ | refine Wi ?_ | refine Wj ?_ | refine Wk (by decide) ?_ | refine Wl ?_ | refine Wm ?_ | refine Wn ?_) | ((with_reducible first | refine Wo (fun K hK => ?_) | refine Wp ?_ | refine Wq ?_ | refine Wr ?_); (try simp only [go_sem, List.forall_mem_nil, ↓guard_ite, ↓pick_ite, seval, encT_eq, inR_i64, f2, f4, f6, f7, f8, t2, t4, t27, t6, t8, f14, hlt, decide_eq_true_eq, decide_eq_false_iff_not, Int.ofNat_lt]); (repeat with_reducible refine And.intro (by first | omega | with_reducible exact lens_encT | with_reducible exact lens_encL | (simp; done) | (simp only [List.length_take, List.length_map, List.length_append, maxLen_eq]; omega)) ?_); (try (with_reducible refine hK _ ?_; clear hK K)); (try with_reducible refine ite_conj ?_)))
        simp only [go_sem, List.forall_mem_nil, ↓guard_ite, ↓pick_ite, seval, FinQ, AS.result, resAll, resOne, tupV, f2]
  · skip
    have hq : (h'.name = ⟨#[105]⟩ ∧ ¬ 0 < (ws.length : Int) ∧ True) ∨ (h'.name = ⟨#[107]⟩ ∧ ¬ 1 < (ws.length : Int) ∧ True) ∨ (h'.name = ⟨#[115]⟩ ∧ ¬ 2 < (ws.length : Int) ∧ True) ∨ (¬ h'.name = ⟨#[105]⟩ ∧ ¬ h'.name = ⟨#[107]⟩ ∧ ¬ h'.name = ⟨#[115]⟩) := by
      rw [List.length_reverse] at q5
      rcases q5 with ⟨a, b⟩ | ⟨a, b⟩ | ⟨a, b⟩ | h
      · exact Or.inl ⟨a, by omega, trivial⟩
      · exact Or.inr (Or.inl ⟨a, by omega, trivial⟩)
      · exact Or.inr (Or.inr (Or.inl ⟨a, by omega, trivial⟩))
      · exact Or.inr (Or.inr (Or.inr h))
    rcases hw with ⟨rfl, s4, s27⟩ | ⟨hw0, s4, s27⟩
    · skip
      have hst := Tm.step_in hf (by rw [hd', hr]; exact q4)
      rw [hr] at hst
      rw [hst]
      rcases hq with ⟨q1, q6, q7⟩ | ⟨q1, q6, q7⟩ | ⟨q1, q6, q7⟩ | ⟨q1, q6, q7⟩
      all_goals
        repeat' (first | (with_reducible first | refine Wa ?_ | refine Wb ?_ | refine Wc ?_ | refine Wd ?_ | refine We ?_ | refine Wf ?_ | refine Wg ?_ | refine Wh ?_ | refine Wi ?_ | refine Wj ?_ | refine Wk (by decide) ?_ | refine Wl ?_ | refine Wm ?_ | refine Wn ?_) | ((with_reducible first | refine Wo (fun K hK => ?_) | refine Wp ?_ | refine Wq ?_ | refine Wr ?_); (try simp only [go_sem, List.forall_mem_nil, ↓guard_ite, ↓pick_ite, seval, encT_eq, inR_i64, e1, e2, e4, e5, s1, s2, s5, s4, s27, s6, s8, s11, s21, Int.cast_ofNat_Int, h0, AS.caps, q1, q6, q7, ik, is_, ki, ks, si, sk, decide_eq_true_eq, decide_eq_false_iff_not, Int.ofNat_lt]); (repeat with_reducible refine And.intro (by first | omega | with_reducible exact lens_encT | with_reducible exact lens_encL | (simp; done) | (simp only [List.length_take, List.length_map, List.length_append, maxLen_eq]; omega)) ?_); (try (with_reducible refine hK _ ?_; clear hK K)); (try with_reducible refine ite_conj ?_)))
        refine IWP.loop (fun n s => s.env 1 = .one (.ptr 1 1 0 0) ∧ s.env 2 = .one (.ptr 2 1 0 0) ∧ s.S 1 = some (.box 25 [.st (.str t.name), .st (.list (t.args.map encT))]) ∧ s.S 2 = some (.box 25 [.st (.str ⟨#[]⟩), .full []]) ∧ s.env 36 = aInt 0 ∧ s.env 37 = aInt 0) 0
          ⟨by simp only [go_sem, List.forall_mem_nil, ↓guard_ite, ↓pick_ite, seval, encT_eq, inR_i64, e1], by simp only [go_sem, List.forall_mem_nil, ↓guard_ite, ↓pick_ite, seval, encT_eq, inR_i64, e2], by simp only [go_sem, List.forall_mem_nil, ↓guard_ite, ↓pick_ite, seval, encT_eq, inR_i64, s1], by simp only [go_sem, List.forall_mem_nil, ↓guard_ite, ↓pick_ite, seval, encT_eq, inR_i64, s2], rfl, rfl⟩ ?_
        rintro n ⟨env', S'⟩ ⟨f1, f2, t1, t2, f36, f37⟩
        simp only at f1 f2 t1 t2 f36 f37
        repeat' (first | (with_reducible first | refine Wa ?_ | refine Wb ?_ | refine Wc ?_ | refine Wd ?_ | refine We ?_ | refine Wf ?_ | refine Wg ?_ | refine Wh ?_ | refine Wi ?_ | refine Wj ?_ | refine Wk (by decide) ?_ | refine Wl ?_ | refine Wm ?_ | refine Wn ?_) | ((with_reducible first | refine Wo (fun K hK => ?_) | refine Wp ?_ | refine Wq ?_ | refine Wr ?_); (try simp only [go_sem, List.forall_mem_nil, ↓guard_ite, ↓pick_ite, seval, encT_eq, inR_i64, f1, f2, t1, t2, f36, f37, decide_eq_true_eq, decide_eq_false_iff_not, Int.ofNat_lt]); (repeat with_reducible refine And.intro (by first | omega | with_reducible exact lens_encT | with_reducible exact lens_encL | (simp; done) | (simp only [List.length_take, List.length_map, List.length_append, maxLen_eq]; omega)) ?_); (try (with_reducible refine hK _ ?_; clear hK K)); (try with_reducible refine ite_conj ?_)))
        simp only [go_sem, List.forall_mem_nil, ↓guard_ite, ↓pick_ite, seval, FinQ, AS.result, resAll, resOne, tupV, f2]
        rfl
    · skip
      have hst := Tm.step_in hf (by rw [hd', hr]; exact q4)
      rw [hr, hd'] at hst
      have hfm : ∀ x ∈ ws.reverse, x.fm = true := fun x hx => Tm.rw_fm hf x (by rw [hr]; exact hx)
      have hsz : ∀ x ∈ ws.reverse, x.size < t.size := fun x hx => Tm.rw_lt hf (by rw [hr]; exact hx)
      rcases hq with ⟨q1, q6, q7⟩ | ⟨q1, q6, q7⟩ | ⟨q1, q6, q7⟩ | ⟨q1, q6, q7⟩
      all_goals
        repeat' (first | (with_reducible first | refine Wa ?_ | refine Wb ?_ | refine Wc ?_ | refine Wd ?_ | refine We ?_ | refine Wf ?_ | refine Wg ?_ | refine Wh ?_ | refine Wi ?_ | refine Wj ?_ | refine Wk (by decide) ?_ | refine Wl ?_ | refine Wm ?_ | refine Wn ?_) | ((with_reducible first | refine Wo (fun K hK => ?_) | refine Wp ?_ | refine Wq ?_ | refine Wr ?_); (try simp only [go_sem, List.forall_mem_nil, ↓guard_ite, ↓pick_ite, seval, encT_eq, inR_i64, e1, e2, e4, e5, s1, s2, s5, s4, s27, s6, s8, s11, s21, Int.cast_ofNat_Int, h0, AS.caps, q1, q6, q7, ik, is_, ki, ks, si, sk, decide_eq_true_eq, decide_eq_false_iff_not, Int.ofNat_lt]); (repeat with_reducible refine And.intro (by first | omega | with_reducible exact lens_encT | with_reducible exact lens_encL | (simp; done) | (simp only [List.length_take, List.length_map, List.length_append, maxLen_eq]; omega)) ?_); (try (with_reducible refine hK _ ?_; clear hK K)); (try with_reducible refine ite_conj ?_)))
        refine IWP.loopD [11] (fun n s => ∃ i, i ≤ ws.length ∧ n = ws.length - i ∧ firstBy Tm.step (ws.reverse.take i) = none ∧ s.env 1 = .one (.ptr 1 1 0 0) ∧ s.env 2 = .one (.ptr 2 1 0 0) ∧ s.env 4 = .one (.ptr 4 1 0 0) ∧ s.env 5 = .one (.ptr 5 1 0 0) ∧ s.env 6 = .one (.ptr 6 1 0 0) ∧ s.env 7 = .one (.fn 34 [.ptr 4 1 0 0, .ptr 6 1 0 0]) ∧ s.env 8 = .one (.ptr 8 1 0 0)
            ∧ s.S 1 = some (.box 25 [.st (.str t.name), .st (.list (t.args.map encT))]) ∧ s.S 2 = some (.box 25 [.st (.str ⟨#[]⟩), .full []]) ∧ s.S 5 = some (.box 25 [.st (.str h'.name), .st (.list (h'.args.map encT))]) ∧ s.S 4 = some (.box 23 [.row 27 ws.length]) ∧ s.S 27 = some (.mrow 25 2 (ws.map encT)) ∧ s.S 6 = some (.box 3 [.st (.int .i64 ws.length)]) ∧ s.S 8 = some (.box 25 [.st (.str ⟨#[]⟩), .full []]) ∧ s.S 11 = none ∧ s.S 21 = none ∧ s.env 36 = aInt ws.length ∧ s.env 37 = aInt i) ws.length
          ⟨0, Nat.zero_le _, rfl, rfl, by simp only [go_sem, List.forall_mem_nil, ↓guard_ite, ↓pick_ite, seval, encT_eq, inR_i64, e1], by simp only [go_sem, List.forall_mem_nil, ↓guard_ite, ↓pick_ite, seval, encT_eq, inR_i64, e2], by simp only [go_sem, List.forall_mem_nil, ↓guard_ite, ↓pick_ite, seval, encT_eq, inR_i64, e4], by simp only [go_sem, List.forall_mem_nil, ↓guard_ite, ↓pick_ite, seval, encT_eq, inR_i64, e5], rfl, rfl, rfl, by simp only [go_sem, List.forall_mem_nil, ↓guard_ite, ↓pick_ite, seval, encT_eq, inR_i64, s1], by simp only [go_sem, List.forall_mem_nil, ↓guard_ite, ↓pick_ite, seval, encT_eq, inR_i64, s2], by first | (simp only [go_sem, List.forall_mem_nil, ↓guard_ite, ↓pick_ite, seval, encT_eq, inR_i64, s5]; done) | (simp only [go_sem, List.forall_mem_nil, ↓guard_ite, ↓pick_ite, seval, encT_eq, inR_i64, s5, q1, h0]), by simp only [go_sem, List.forall_mem_nil, ↓guard_ite, ↓pick_ite, seval, encT_eq, inR_i64, s4], by simp only [go_sem, List.forall_mem_nil, ↓guard_ite, ↓pick_ite, seval, encT_eq, inR_i64, s27], rfl, rfl, by simp only [go_sem, List.forall_mem_nil, ↓guard_ite, ↓pick_ite, seval, encT_eq, inR_i64, s11], by simp only [go_sem, List.forall_mem_nil, ↓guard_ite, ↓pick_ite, seval, encT_eq, inR_i64, s21], rfl, rfl⟩ ?_
        rintro n ⟨env', S'⟩ ⟨i, hi, rfl, hp, f1, f2, f4, f5, f6, f7, f8, t1, t2, t5, t4, t27, t6, t8, t11, t21, f36, f37⟩
        simp only at f1 f2 f4 f5 f6 f7 f8 t1 t2 t5 t4 t27 t6 t8 t11 t21 f36 f37
        by_cases hlt : (i : Int) < ws.length
        · obtain ⟨z, hz'⟩ := get_lt (show i < ws.reverse.length by rw [List.length_reverse]; omega)
          have hzm := mem_of_get hz'
          have zs := hsz z hzm
          have ihz := ih z.size zs z (hfm z hzm) (by omega) rfl
          unfold Tm.stepR at ihz
          cases ho : z.step with
          | none =>
            rw [ho] at ihz
            repeat' (first | (with_reducible first | refine Wa ?_ | refine Wb ?_ | refine Wc ?_ | refine Wd ?_ | refine We ?_ | refine Wf ?_ | refine Wg ?_ | refine Wh ?_ | refine Wi ?_ | refine Wj ?_ | refine Wk (by decide) ?_ | refine Wl ?_ | refine Wm ?_ | refine Wn ?_) | (first | refine ⟨by kernel_rfl, _, _, at_up (ws := ws) (i := i) (r := 27) rfl hz' (by omega) (by simp [updE, t4]) (by simp [updE, t27]) (by simp [updE, t6]), ?_⟩ | refine ⟨_, _, at_up (ws := ws) (i := i) (r := 27) rfl hz' (by omega) (by simp [updE, t4]) (by simp [updE, t27]) (by simp [updE, t6]), ?_⟩) | refine CallG.mk _ (ihz) ?_ | ((with_reducible first | refine Wo (fun K hK => ?_) | refine Wp ?_ | refine Wq ?_ | refine Wr ?_); (try simp only [go_sem, List.forall_mem_nil, ↓guard_ite, ↓pick_ite, seval, encT_eq, inR_i64, f1, f2, f4, f5, f6, f7, f8, t1, t2, t5, t4, t27, t6, t8, t11, t21, f36, f37, hlt, decide_eq_true_eq, decide_eq_false_iff_not, Int.ofNat_lt]); (repeat with_reducible refine And.intro (by first | omega | with_reducible exact lens_encT | with_reducible exact lens_encL | (simp; done) | (simp only [List.length_take, List.length_map, List.length_append, maxLen_eq]; omega)) ?_); (try (with_reducible refine hK _ ?_; clear hK K)); (try with_reducible refine ite_conj ?_)))
            refine then_normal ⟨ws.length - (i + 1), by omega, i + 1, by omega, rfl, ?_⟩
            simp only [go_sem, List.forall_mem_nil, ↓guard_ite, ↓pick_ite, seval, AS.drop, dropS, AC.clears, AC.clear, AC.highs, AC.high, Bool.not_false, Bool.true_and, Bool.and_self, AV.purge, AV.purges, AC.purge, ABlk.purge, List.contains_cons, List.contains_nil, Nat.reduceBEq, Bool.or_self, Bool.or_false, Bool.false_or, Bool.or_true, encT_eq, inR_i64, f1, f2, f4, f5, f6, f7, f8, t1, t2, t5, t4, t27, t6, t8, t11, t21, f36, f37]
            exact ⟨firstBy_none hz' hp ho, by congr 3⟩
          | some y =>
            rw [ho] at ihz
            rw [hst, firstBy_some hz' hp ho]
            obtain ⟨hil, hx⟩ := rev_at hz'
            have hto : ((ws.length : Int) - 1 - i).toNat = ws.length - 1 - i := by omega
            have hge : 0 ≤ (ws.length : Int) - 1 - i := by omega
            have hlt2 : ws.length - 1 - i < ws.length := by omega
            refine IWP.ghost (Ghost.share (id := 27) t27) ?_
            repeat' (first | (with_reducible first | refine Wa ?_ | refine Wb ?_ | refine Wc ?_ | refine Wd ?_ | refine We ?_ | refine Wf ?_ | refine Wg ?_ | refine Wh ?_ | refine Wi ?_ | refine Wj ?_ | refine Wk (by decide) ?_ | refine Wl ?_ | refine Wm ?_ | refine Wn ?_) | (first | refine ⟨by kernel_rfl, _, _, at_up2 (ws := ws) (i := i) (r := 27) rfl hz' (by omega) (by simp [updE, t4]) (by simp [updE]) (by simp [updE, t6]), ?_⟩ | refine ⟨_, _, at_up2 (ws := ws) (i := i) (r := 27) rfl hz' (by omega) (by simp [updE, t4]) (by simp [updE]) (by simp [updE, t6]), ?_⟩) | refine CallG.mk _ (ihz) ?_ | ((with_reducible first | refine Wo (fun K hK => ?_) | refine Wp ?_ | refine Wq ?_ | refine Wr ?_); (try simp only [go_sem, List.forall_mem_nil, ↓guard_ite, ↓pick_ite, seval, encT_eq, inR_i64, f1, f2, f4, f5, f6, f7, f8, t1, t2, t5, t4, t6, t8, t11, t21, f36, f37, hlt, decide_eq_true_eq, decide_eq_false_iff_not, Int.ofNat_lt]); (repeat with_reducible refine And.intro (by first | omega | with_reducible exact lens_encT | with_reducible exact lens_encL | (simp; done) | (simp only [List.length_take, List.length_map, List.length_append, maxLen_eq]; omega)) ?_); (try (with_reducible refine hK _ ?_; clear hK K)); (try with_reducible refine ite_conj ?_)))
            refine ⟨_, _, clone_up (ws := ws) hw0 (by omega) (by simp [updE]) (by simp [updE, t21]), ?_⟩
            repeat' (first | (with_reducible first | refine Wa ?_ | refine Wb ?_ | refine Wc ?_ | refine Wd ?_ | refine We ?_ | refine Wf ?_ | refine Wg ?_ | refine Wh ?_ | refine Wi ?_ | refine Wj ?_ | refine Wk (by decide) ?_ | refine Wl ?_ | refine Wm ?_ | refine Wn ?_) | ((with_reducible first | refine Wo (fun K hK => ?_) | refine Wp ?_ | refine Wq ?_ | refine Wr ?_); (try simp only [go_sem, List.forall_mem_nil, ↓guard_ite, ↓pick_ite, seval, encT_eq, inR_i64, f1, f2, f4, f5, f6, f7, f8, t1, t2, t5, t4, t6, t8, t11, t21, f36, f37, hto, hge, hlt2, hx, decide_eq_true_eq, decide_eq_false_iff_not, Int.ofNat_lt]); (repeat with_reducible refine And.intro (by first | omega | with_reducible exact lens_encT | with_reducible exact lens_encL | (simp; done) | (simp only [List.length_take, List.length_map, List.length_append, maxLen_eq]; omega)) ?_); (try (with_reducible refine hK _ ?_; clear hK K)); (try with_reducible refine ite_conj ?_)))
            refine IWP.loop (fun n s => ∃ k, k ≤ ws.length ∧ n = ws.length - k ∧ s.env 2 = .one (.ptr 2 1 0 0) ∧ s.env 4 = .one (.ptr 4 1 0 0) ∧ s.env 6 = .one (.ptr 6 1 0 0) ∧ s.env 7 = .one (.fn 34 [.ptr 4 1 0 0, .ptr 6 1 0 0]) ∧ s.env 8 = .one (.ptr 8 1 0 0) ∧ s.S 2 = some (.box 25 [.st (.str ⟨#[]⟩), .full []]) ∧ s.S 4 = some (.box 23 [.row 21 ws.length]) ∧ s.S 21 = some (.mrow 25 2 ((ws.set (ws.length - 1 - i) y).map encT)) ∧ s.S 6 = some (.box 3 [.st (.int .i64 ws.length)])
                ∧ s.S 8 = some (.box 25 [.st (.str (aps h' ((ws.reverse.set i y).take k)).name), .st (.list ((aps h' ((ws.reverse.set i y).take k)).args.map encT))]) ∧ s.env 58 = aInt ws.length ∧ s.env 59 = aInt k) ws.length
              ⟨0, Nat.zero_le _, rfl, by simp only [go_sem, List.forall_mem_nil, ↓guard_ite, ↓pick_ite, seval, encT_eq, inR_i64, f2], by simp only [go_sem, List.forall_mem_nil, ↓guard_ite, ↓pick_ite, seval, encT_eq, inR_i64, f4], by simp only [go_sem, List.forall_mem_nil, ↓guard_ite, ↓pick_ite, seval, encT_eq, inR_i64, f6], by simp only [go_sem, List.forall_mem_nil, ↓guard_ite, ↓pick_ite, seval, encT_eq, inR_i64, f7], by simp only [go_sem, List.forall_mem_nil, ↓guard_ite, ↓pick_ite, seval, encT_eq, inR_i64, f8], by simp only [go_sem, List.forall_mem_nil, ↓guard_ite, ↓pick_ite, seval, encT_eq, inR_i64, t2], by simp only [go_sem, List.forall_mem_nil, ↓guard_ite, ↓pick_ite, seval, encT_eq, inR_i64], by simp only [go_sem, List.forall_mem_nil, ↓guard_ite, ↓pick_ite, seval, encT_eq, inR_i64]; simp [List.map_set, encT_eq], by simp only [go_sem, List.forall_mem_nil, ↓guard_ite, ↓pick_ite, seval, encT_eq, inR_i64, t6], by simp only [go_sem, List.forall_mem_nil, ↓guard_ite, ↓pick_ite, seval, encT_eq, inR_i64, t5]; rfl, by simp only [go_sem, List.forall_mem_nil, ↓guard_ite, ↓pick_ite, seval, encT_eq, inR_i64, t6], rfl⟩ ?_
            rintro n ⟨env2, S2⟩ ⟨k, hk, rfl, r2, r4, r6, r7, r8, u2, u4, u21, u6, u8, r58, r59⟩
            simp only at r2 r4 r6 r7 r8 u2 u4 u21 u6 u8 r58 r59
            by_cases hlt' : (k : Int) < ws.length
            · obtain ⟨z2, hz2⟩ := get_lt (show k < (ws.reverse.set i y).length by rw [List.length_set, List.length_reverse]; omega)
              have hz3 := hz2
              rw [← set_rev hil] at hz3
              repeat' (first | (with_reducible first | refine Wa ?_ | refine Wb ?_ | refine Wc ?_ | refine Wd ?_ | refine We ?_ | refine Wf ?_ | refine Wg ?_ | refine Wh ?_ | refine Wi ?_ | refine Wj ?_ | refine Wk (by decide) ?_ | refine Wl ?_ | refine Wm ?_ | refine Wn ?_) | (first | refine ⟨by kernel_rfl, _, _, at_up (ws := ws.set (ws.length - 1 - i) y) (i := k) (r := 21) rfl hz3 (by rw [List.length_set]; omega) (by simp [updE, u4]) (by simp [updE, u21]) (by simp [updE, u6]), ?_⟩ | refine ⟨_, _, at_up (ws := ws.set (ws.length - 1 - i) y) (i := k) (r := 21) rfl hz3 (by rw [List.length_set]; omega) (by simp [updE, u4]) (by simp [updE, u21]) (by simp [updE, u6]), ?_⟩) | refine CallG.mk _ (apC_a (aps h' ((ws.reverse.set i y).take k)) z2) ?_ | ((with_reducible first | refine Wo (fun K hK => ?_) | refine Wp ?_ | refine Wq ?_ | refine Wr ?_); (try simp only [go_sem, List.forall_mem_nil, ↓guard_ite, ↓pick_ite, seval, encT_eq, inR_i64, r2, r4, r6, r7, r8, u2, u4, u21, u6, u8, r58, r59, hlt', decide_eq_true_eq, decide_eq_false_iff_not, Int.ofNat_lt]); (repeat with_reducible refine And.intro (by first | omega | with_reducible exact lens_encT | with_reducible exact lens_encL | (simp; done) | (simp only [List.length_take, List.length_map, List.length_append, maxLen_eq]; omega)) ?_); (try (with_reducible refine hK _ ?_; clear hK K)); (try with_reducible refine ite_conj ?_)))
              refine then_normal ⟨ws.length - (k + 1), by omega, k + 1, by omega, rfl, ?_⟩
              simp only [go_sem, List.forall_mem_nil, ↓guard_ite, ↓pick_ite, seval, encT_eq, inR_i64, r2, r4, r6, r7, r8, u2, u4, u21, u6, u8, r58, r59]
              exact ⟨by rw [take_snoc hz2, aps_snoc], by congr 3⟩
            · rw [List.take_of_length_le (by rw [List.length_set, List.length_reverse]; omega)] at u8
              repeat' (first | (with_reducible first | refine Wa ?_ | refine Wb ?_ | refine Wc ?_ | refine Wd ?_ | refine We ?_ | refine Wf ?_ | refine Wg ?_ | refine Wh ?_ | refine Wi ?_ | refine Wj ?_ | refine Wk (by decide) ?_ | refine Wl ?_ | refine Wm ?_ | refine Wn ?_) | ((with_reducible first | refine Wo (fun K hK => ?_) | refine Wp ?_ | refine Wq ?_ | refine Wr ?_); (try simp only [go_sem, List.forall_mem_nil, ↓guard_ite, ↓pick_ite, seval, encT_eq, inR_i64, r2, r4, r6, r7, r8, u2, u4, u21, u6, u8, r58, r59, hlt', decide_eq_true_eq, decide_eq_false_iff_not, Int.ofNat_lt]); (repeat with_reducible refine And.intro (by first | omega | with_reducible exact lens_encT | with_reducible exact lens_encL | (simp; done) | (simp only [List.length_take, List.length_map, List.length_append, maxLen_eq]; omega)) ?_); (try (with_reducible refine hK _ ?_; clear hK K)); (try with_reducible refine ite_conj ?_)))
              simp only [go_sem, List.forall_mem_nil, ↓guard_ite, ↓pick_ite, seval, FinQ, AS.result, resAll, resOne, tupV, r2]
        · rw [List.take_of_length_le (by rw [List.length_reverse]; omega)] at hp
          rw [hst, hp]
          repeat' (first | (with_reducible first | refine Wa ?_ | refine Wb ?_ | refine Wc ?_ | refine Wd ?_ | refine We ?_ | refine Wf ?_ | refine Wg ?_ | refine Wh ?_ | refine Wi ?_ | refine Wj ?_ | refine Wk (by decide) ?_ | refine Wl ?_ | refine Wm ?_ | refine Wn ?_) | ((with_reducible first | refine Wo (fun K hK => ?_) | refine Wp ?_ | refine Wq ?_ | refine Wr ?_); (try simp only [go_sem, List.forall_mem_nil, ↓guard_ite, ↓pick_ite, seval, encT_eq, inR_i64, f1, f2, f4, f5, f6, f7, f8, t1, t2, t5, t4, t27, t6, t8, t11, t21, f36, f37, hlt, decide_eq_true_eq, decide_eq_false_iff_not, Int.ofNat_lt]); (repeat with_reducible refine And.intro (by first | omega | with_reducible exact lens_encT | with_reducible exact lens_encL | (simp; done) | (simp only [List.length_take, List.length_map, List.length_append, maxLen_eq]; omega)) ?_); (try (with_reducible refine hK _ ?_; clear hK K)); (try with_reducible refine ite_conj ?_)))
          simp only [go_sem, List.forall_mem_nil, ↓guard_ite, ↓pick_ite, seval, FinQ, AS.result, resAll, resOne, tupV, f2]
end Go.Proofs.Ytelmgldeghmkbaa
