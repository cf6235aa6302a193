/-
  Terms without what is bound: many steps, and the law CombRuns.
  Conditions: none.
-/
import Derived.Test.YtelmgldeghmkbaaBCombP
namespace Go.Proofs.Ytelmgldeghmkbaa
open Go Go.RowKit
set_option linter.unusedVariables false
set_option linter.unusedSimpArgs false
set_option maxHeartbeats 4000000

abbrev aRunT (r : Tm × Int × Int) : AV := .tup [aTm r.1, aInt r.2.1, aInt r.2.2]
theorem Tm.run_err : ∀ (left : Nat) (n : Int) (t : Tm), (Tm.run left n t).2.2 ≠ 0 → (Tm.run left n t).1 = .mk ⟨#[]⟩ [] := by
  intro left
  induction left with
  | zero =>
    intro n t h
    cases ho : t.step with
    | none => rw [Tm.run_none ho] at h; exact absurd rfl h
    | some x => rw [Tm.run_zero ho]
  | succ left ih =>
    intro n t h
    cases ho : t.step with
    | none => rw [Tm.run_none ho] at h; exact absurd rfl h
    | some x =>
      rw [Tm.run_succ ho] at h ⊢
      split at h
      · rename_i hx
        rw [if_pos hx]
      · rename_i hx
        rw [if_neg hx]
        exact ih _ _ h
def cErr (t : Tm) (most : Int) : Int := if combMay t = 0 then (if most < 0 ∨ 400 < most then 10 else 0) else combMay t
def cRun (t : Tm) (most : Int) : Tm × Int × Int := if cErr t most = 0 then Tm.run most.toNat 0 t else (.mk ⟨#[]⟩ [], 0, cErr t most)
theorem combMay_ok {t : Tm} (h : combMay t = 0) : t.fm = true ∧ t.size ≤ 200 := by
  unfold combMay at h
  split at h
  · rename_i h1
    refine ⟨?_, may_size h1⟩
    cases hf : t.fm with
    | true => rfl
    | false => rw [hf] at h; cases h
  · rename_i h1
    exact absurd h h1
theorem combRun_a (t : Tm) (most : Int) : ACalls Try.prog 10 [aTm t, aInt most] (aRunT (cRun t most)) := by
  unfold cRun
  by_cases hc : combMay t = 0
  case neg =>
    have e : cErr t most = combMay t := by unfold cErr; rw [if_neg hc]
    rw [e, if_neg hc]
    refine ac_comb_Run (Nat.le_of_ble_eq_true rfl) fun C hC => ?_
    unfold ir_comb_Run
    repeat' (first | (with_reducible first | refine Wa ?_ | refine Wb ?_ | refine Wc ?_ | refine Wd ?_ | refine We ?_ | refine Wf ?_ | refine Wg ?_ | refine Wh ?_ | refine Wi ?_ | refine Wj ?_ | refine Wk (by decide) ?_ | refine Wl ?_ | refine Wm ?_ | refine Wn ?_) | refine CallG.mk _ (combCheck_a t) ?_ | ((with_reducible first | refine Wo (fun K hK => ?_) | refine Wp ?_ | refine Wq ?_ | refine Wr ?_); (try simp only [go_sem, List.forall_mem_nil, ↓guard_ite, ↓pick_ite, seval, encT_eq, inR_i64, hc, decide_eq_true_eq, decide_eq_false_iff_not, Int.ofNat_lt]); (repeat with_reducible refine And.intro (by first | omega | with_reducible exact lens_encT | with_reducible exact lens_encL | (simp; done) | (simp only [List.length_take, List.length_map, List.length_append, maxLen_eq]; omega)) ?_); (try (with_reducible refine hK _ ?_; clear hK K)); (try with_reducible refine ite_conj ?_)))
    simp only [go_sem, List.forall_mem_nil, ↓guard_ite, ↓pick_ite, seval, FinQ, AS.result, resAll, resOne, tupV]
    rfl
  case pos =>
  obtain ⟨hf, hz⟩ := combMay_ok hc
  by_cases h0 : most < 0
  · have e : cErr t most = 10 := by unfold cErr; rw [if_pos hc, if_pos (Or.inl h0)]
    rw [e]
    refine ac_comb_Run (Nat.le_of_ble_eq_true rfl) fun C hC => ?_
    unfold ir_comb_Run
    repeat' (first | (with_reducible first | refine Wa ?_ | refine Wb ?_ | refine Wc ?_ | refine Wd ?_ | refine We ?_ | refine Wf ?_ | refine Wg ?_ | refine Wh ?_ | refine Wi ?_ | refine Wj ?_ | refine Wk (by decide) ?_ | refine Wl ?_ | refine Wm ?_ | refine Wn ?_) | refine CallG.mk _ (combCheck_a t) ?_ | ((with_reducible first | refine Wo (fun K hK => ?_) | refine Wp ?_ | refine Wq ?_ | refine Wr ?_); (try simp only [go_sem, List.forall_mem_nil, ↓guard_ite, ↓pick_ite, seval, encT_eq, inR_i64, hc, h0, decide_eq_true_eq, decide_eq_false_iff_not, Int.ofNat_lt]); (repeat with_reducible refine And.intro (by first | omega | with_reducible exact lens_encT | with_reducible exact lens_encL | (simp; done) | (simp only [List.length_take, List.length_map, List.length_append, maxLen_eq]; omega)) ?_); (try (with_reducible refine hK _ ?_; clear hK K)); (try with_reducible refine ite_conj ?_)))
    simp only [go_sem, List.forall_mem_nil, ↓guard_ite, ↓pick_ite, seval, FinQ, AS.result, resAll, resOne, tupV]
    rfl
  by_cases h4 : 400 < most
  · have e : cErr t most = 10 := by unfold cErr; rw [if_pos hc, if_pos (Or.inr h4)]
    rw [e]
    refine ac_comb_Run (Nat.le_of_ble_eq_true rfl) fun C hC => ?_
    unfold ir_comb_Run
    repeat' (first | (with_reducible first | refine Wa ?_ | refine Wb ?_ | refine Wc ?_ | refine Wd ?_ | refine We ?_ | refine Wf ?_ | refine Wg ?_ | refine Wh ?_ | refine Wi ?_ | refine Wj ?_ | refine Wk (by decide) ?_ | refine Wl ?_ | refine Wm ?_ | refine Wn ?_) | refine CallG.mk _ (combCheck_a t) ?_ | ((with_reducible first | refine Wo (fun K hK => ?_) | refine Wp ?_ | refine Wq ?_ | refine Wr ?_); (try simp only [go_sem, List.forall_mem_nil, ↓guard_ite, ↓pick_ite, seval, encT_eq, inR_i64, hc, h0, h4, decide_eq_true_eq, decide_eq_false_iff_not, Int.ofNat_lt]); (repeat with_reducible refine And.intro (by first | omega | with_reducible exact lens_encT | with_reducible exact lens_encL | (simp; done) | (simp only [List.length_take, List.length_map, List.length_append, maxLen_eq]; omega)) ?_); (try (with_reducible refine hK _ ?_; clear hK K)); (try with_reducible refine ite_conj ?_)))
    simp only [go_sem, List.forall_mem_nil, ↓guard_ite, ↓pick_ite, seval, FinQ, AS.result, resAll, resOne, tupV]
    rfl
  have e : cErr t most = 0 := by unfold cErr; rw [if_pos hc, if_neg (by omega)]
  rw [if_pos e]
  obtain ⟨m, rfl⟩ : ∃ m : Nat, most = m := ⟨most.toNat, by omega⟩
  rw [Int.toNat_natCast]
  refine ac_comb_Run (Nat.le_of_ble_eq_true rfl) fun C hC => ?_
  unfold ir_comb_Run
  repeat' (first | (with_reducible first | refine Wa ?_ | refine Wb ?_ | refine Wc ?_ | refine Wd ?_ | refine We ?_ | refine Wf ?_ | refine Wg ?_ | refine Wh ?_ | refine Wi ?_ | refine Wj ?_ | refine Wk (by decide) ?_ | refine Wl ?_ | refine Wm ?_ | refine Wn ?_) | refine CallG.mk _ (combCheck_a t) ?_ | ((with_reducible first | refine Wo (fun K hK => ?_) | refine Wp ?_ | refine Wq ?_ | refine Wr ?_); (try simp only [go_sem, List.forall_mem_nil, ↓guard_ite, ↓pick_ite, seval, encT_eq, inR_i64, hc, h0, h4, decide_eq_true_eq, decide_eq_false_iff_not, Int.ofNat_lt]); (repeat with_reducible refine And.intro (by first | omega | with_reducible exact lens_encT | with_reducible exact lens_encL | (simp; done) | (simp only [List.length_take, List.length_map, List.length_append, maxLen_eq]; omega)) ?_); (try (with_reducible refine hK _ ?_; clear hK K)); (try with_reducible refine ite_conj ?_)))
  refine IWP.loopD [9] (fun n s => ∃ (k : Nat) (t' : Tm), k ≤ m ∧ n = m - k ∧ Tm.run (m - k) k t' = Tm.run m 0 t ∧ t'.fm = true ∧ t'.size ≤ 2000 ∧ s.env 1 = aInt m ∧ s.env 2 = .one (.ptr 2 1 0 0) ∧ s.env 4 = .one (.ptr 4 1 0 0) ∧ s.S 2 = some (.box 25 [.st (.str t'.name), .st (.list (t'.args.map encT))]) ∧ s.S 4 = some (.box 25 [.st (.str ⟨#[]⟩), .full []]) ∧ s.env 8 = aInt k ∧ s.S 9 = none) m
    ⟨0, t, Nat.zero_le _, rfl, rfl, hf, by omega, rfl, rfl, rfl, rfl, rfl, rfl, rfl⟩ ?_
  rintro n ⟨env, S⟩ ⟨k, t', hk, rfl, hR, hf', hz', e1, e2, e4, s2, s4, e8, s9⟩
  simp only at e1 e2 e4 s2 s4 e8 s9
  have hO := stepC_a t' hf' (by omega)
  unfold Tm.stepR at hO
  rw [← hR]
  cases ho : t'.step with
  | none =>
    rw [ho] at hO
    rw [Tm.run_none ho]
    repeat' (first | (with_reducible first | refine Wa ?_ | refine Wb ?_ | refine Wc ?_ | refine Wd ?_ | refine We ?_ | refine Wf ?_ | refine Wg ?_ | refine Wh ?_ | refine Wi ?_ | refine Wj ?_ | refine Wk (by decide) ?_ | refine Wl ?_ | refine Wm ?_ | refine Wn ?_) | refine CallG.mk _ (hO) ?_ | refine CallG.mk _ (copy_a t' (by omega)) ?_ | ((with_reducible first | refine Wo (fun K hK => ?_) | refine Wp ?_ | refine Wq ?_ | refine Wr ?_); (try simp only [go_sem, List.forall_mem_nil, ↓guard_ite, ↓pick_ite, seval, encT_eq, inR_i64, e1, e2, e4, s2, s4, e8, s9, decide_eq_true_eq, decide_eq_false_iff_not, Int.ofNat_lt]); (repeat with_reducible refine And.intro (by first | omega | with_reducible exact lens_encT | with_reducible exact lens_encL | (simp; done) | (simp only [List.length_take, List.length_map, List.length_append, maxLen_eq]; omega)) ?_); (try (with_reducible refine hK _ ?_; clear hK K)); (try with_reducible refine ite_conj ?_)))
    simp only [go_sem, List.forall_mem_nil, ↓guard_ite, ↓pick_ite, seval, FinQ, AS.result, resAll, resOne, tupV, e4]
  | some y =>
    rw [ho] at hO
    obtain ⟨fy, sy⟩ := Tm.step_all _ t' y (Nat.lt_succ_self _) hf' ho
    rcases Nat.lt_or_ge k m with hkm | hkm
    · have hne : ¬ (k : Int) = m := by omega
      obtain ⟨l, hl⟩ : ∃ l, m - k = l + 1 := ⟨m - k - 1, by omega⟩
      rw [hl, Tm.run_succ ho]
      rw [hl, Tm.run_succ ho] at hR
      by_cases hbig : 2000 < y.size
      · rw [if_pos hbig]
        have hbig' : (2000 : Int) < y.size := by omega
        repeat' (first | (with_reducible first | refine Wa ?_ | refine Wb ?_ | refine Wc ?_ | refine Wd ?_ | refine We ?_ | refine Wf ?_ | refine Wg ?_ | refine Wh ?_ | refine Wi ?_ | refine Wj ?_ | refine Wk (by decide) ?_ | refine Wl ?_ | refine Wm ?_ | refine Wn ?_) | refine CallG.mk _ (hO) ?_ | refine CallG.mk _ (tsize_a y (by omega)) ?_ | ((with_reducible first | refine Wo (fun K hK => ?_) | refine Wp ?_ | refine Wq ?_ | refine Wr ?_); (try simp only [go_sem, List.forall_mem_nil, ↓guard_ite, ↓pick_ite, seval, encT_eq, inR_i64, e1, e2, e4, s2, s4, e8, s9, hne, hbig', decide_eq_true_eq, decide_eq_false_iff_not, Int.ofNat_lt]); (repeat with_reducible refine And.intro (by first | omega | with_reducible exact lens_encT | with_reducible exact lens_encL | (simp; done) | (simp only [List.length_take, List.length_map, List.length_append, maxLen_eq]; omega)) ?_); (try (with_reducible refine hK _ ?_; clear hK K)); (try with_reducible refine ite_conj ?_)))
        simp only [go_sem, List.forall_mem_nil, ↓guard_ite, ↓pick_ite, seval, FinQ, AS.result, resAll, resOne, tupV, e4]
        rfl
      · rw [if_neg hbig] at hR ⊢
        have hbig' : ¬ (2000 : Int) < y.size := by omega
        repeat' (first | (with_reducible first | refine Wa ?_ | refine Wb ?_ | refine Wc ?_ | refine Wd ?_ | refine We ?_ | refine Wf ?_ | refine Wg ?_ | refine Wh ?_ | refine Wi ?_ | refine Wj ?_ | refine Wk (by decide) ?_ | refine Wl ?_ | refine Wm ?_ | refine Wn ?_) | refine CallG.mk _ (hO) ?_ | refine CallG.mk _ (tsize_a y (by omega)) ?_ | ((with_reducible first | refine Wo (fun K hK => ?_) | refine Wp ?_ | refine Wq ?_ | refine Wr ?_); (try simp only [go_sem, List.forall_mem_nil, ↓guard_ite, ↓pick_ite, seval, encT_eq, inR_i64, e1, e2, e4, s2, s4, e8, s9, hne, hbig', decide_eq_true_eq, decide_eq_false_iff_not, Int.ofNat_lt]); (repeat with_reducible refine And.intro (by first | omega | with_reducible exact lens_encT | with_reducible exact lens_encL | (simp; done) | (simp only [List.length_take, List.length_map, List.length_append, maxLen_eq]; omega)) ?_); (try (with_reducible refine hK _ ?_; clear hK K)); (try with_reducible refine ite_conj ?_)))
        refine then_normal ⟨m - (k + 1), by omega, k + 1, y, by omega, rfl, ?_, fy, by omega, ?_⟩
        · rw [show m - (k + 1) = l by omega]
          congr 1
        · simp only [go_sem, List.forall_mem_nil, ↓guard_ite, ↓pick_ite, seval, AS.drop, dropS, AC.clears, AC.clear, AC.highs, AC.high, Bool.not_false, Bool.true_and, Bool.and_self, AV.purge, AV.purges, AC.purge, ABlk.purge, List.contains_cons, List.contains_nil, Nat.reduceBEq, Bool.or_self, Bool.or_false, Bool.false_or, Bool.or_true, encT_eq, inR_i64, e1, e2, e4, s2, s4, e8, s9]
          congr 3
    · have hkm' : k = m := by omega
      subst hkm'
      rw [Nat.sub_self, Tm.run_zero ho]
      repeat' (first | (with_reducible first | refine Wa ?_ | refine Wb ?_ | refine Wc ?_ | refine Wd ?_ | refine We ?_ | refine Wf ?_ | refine Wg ?_ | refine Wh ?_ | refine Wi ?_ | refine Wj ?_ | refine Wk (by decide) ?_ | refine Wl ?_ | refine Wm ?_ | refine Wn ?_) | refine CallG.mk _ (hO) ?_ | ((with_reducible first | refine Wo (fun K hK => ?_) | refine Wp ?_ | refine Wq ?_ | refine Wr ?_); (try simp only [go_sem, List.forall_mem_nil, ↓guard_ite, ↓pick_ite, seval, encT_eq, inR_i64, e1, e2, e4, s2, s4, e8, s9, decide_eq_true_eq, decide_eq_false_iff_not, Int.ofNat_lt]); (repeat with_reducible refine And.intro (by first | omega | with_reducible exact lens_encT | with_reducible exact lens_encL | (simp; done) | (simp only [List.length_take, List.length_map, List.length_append, maxLen_eq]; omega)) ?_); (try (with_reducible refine hK _ ?_; clear hK K)); (try with_reducible refine ite_conj ?_)))
      simp only [go_sem, List.forall_mem_nil, ↓guard_ite, ↓pick_ite, seval, FinQ, AS.result, resAll, resOne, tupV, e4]
      rfl
theorem cRun_bad {t : Tm} {most e : Int} (h : cErr t most = e) (h0 : ¬ e = 0) : cRun t most = (.mk ⟨#[]⟩ [], 0, e) := by
  unfold cRun
  rw [h, if_neg h0]
theorem term2_nil (e : Int) : term2 (.mk ⟨#[]⟩ []) e (.mk ⟨#[]⟩ []) e = true := term2_self _ e e (fun _ => rfl) rfl
end Go.Proofs.Ytelmgldeghmkbaa
