/-
  Part 17 of the texts: BRew; PEnds; BRewE; IrPlace. Conditions: none.
-/
import Derived.Test.YtkekmeiiikkabaaRewE16
namespace Go.Proofs.Ytkekmeiiikkabaa
open Go Go.RowKit
set_option linter.unusedVariables false
set_option linter.unusedSimpArgs false
set_option maxHeartbeats 1000000

/-- The library's copy of a row: one that may be written. -/
theorem cloneT_N (l : List Tm) (h0 : 0 < l.length) (hl : l.length ≤ 1000000) : ACallsN Try.prog 57 [aTms l] 25 2 (l.map encT) true := by
  unfold ACallsN
  rw [List.length_map]
  refine acS_slices_Clone_metaprune_api_Term_metaprune_api_Term (Nat.le_of_ble_eq_true rfl) fun hS C hC => ?_
  unfold ir_slices_Clone_metaprune_api_Term_metaprune_api_Term
  have h0' : ¬ l.length = 0 := by omega
  have hb : l.length * 40 ≤ 140737488355328 := by omega
  repeat' (first | (with_reducible first | refine Wa ?_ | refine Wb ?_ | refine Wc ?_ | refine Wd ?_ | refine We ?_ | refine Wf ?_ | refine Wg ?_ | refine Wh ?_ | refine Wi ?_ | refine Wj ?_ | refine Wk (by decide) ?_ | refine Wl ?_ | refine Wm ?_ | refine Wn ?_) | ((with_reducible first | refine Wo (fun K hK => ?_) | refine Wp ?_ | refine Wq ?_ | refine Wr ?_); (try simp only [go_sem, List.forall_mem_nil, ↓guard_ite, ↓pick_ite, seval, encT_eq, inR_i64, h0', hb, decide_eq_true_eq, decide_eq_false_iff_not, Int.ofNat_lt]); (repeat with_reducible refine And.intro (by first | omega | (with_reducible first | exact lens_encT | exact lens_encL | exact lens_encB | exact lens_encP) | (simp; done) | (simp only [List.length_take, List.length_map, List.length_append, maxLen_eq]; omega)) ?_); (try (with_reducible refine hK _ ?_; clear hK K)); (try with_reducible refine ite_conj ?_)))
  exact finN (mu := true) trivial 7 (by decide) rfl (fun i hi => by show updE _ _ _ _ = _; rw [updE_ne _ (by omega)]; rfl) rfl
def rootV (r : Tm × Int × Int) : AV := .tup [aTm r.1, aInt r.2.1, aInt r.2.2]
theorem root_a {R : List Pr} (hR : GoodRules R) (t : Tm) (hc : t.chk = 0) (hz : t.size ≤ 1000000) (f : Nat) (hf : f ≤ R.length) : ACalls Try.prog 51 [aPrs R, aTm t, aInt f] (rootV (rootK t f (R.drop f))) := by
  unfold rootV
  have h40 := hR.len
  refine ac_rewrite_Root (Nat.le_of_ble_eq_true rfl) fun C hC => ?_
  unfold ir_rewrite_Root
  repeat' (first | (with_reducible first | refine Wa ?_ | refine Wb ?_ | refine Wc ?_ | refine Wd ?_ | refine We ?_ | refine Wf ?_ | refine Wg ?_ | refine Wh ?_ | refine Wi ?_ | refine Wj ?_ | refine Wk (by decide) ?_ | refine Wl ?_ | refine Wm ?_ | refine Wn ?_) | ((with_reducible first | refine Wo (fun K hK => ?_) | refine Wp ?_ | refine Wq ?_ | refine Wr ?_); (try simp only [go_sem, List.forall_mem_nil, ↓guard_ite, ↓pick_ite, seval, encT_eq, inR_i64, decide_eq_true_eq, decide_eq_false_iff_not, Int.ofNat_lt]); (repeat with_reducible refine And.intro (by first | omega | (with_reducible first | exact lens_encT | exact lens_encL | exact lens_encB | exact lens_encP) | (simp; done) | (simp only [List.length_take, List.length_map, List.length_append, maxLen_eq]; omega)) ?_); (try (with_reducible refine hK _ ?_; clear hK K)); (try with_reducible refine ite_conj ?_)))
  refine IWP.loop (fun m s => ∃ k, k ≤ R.length ∧ m = R.length - k ∧ rootK t f (R.drop f) = rootK t k (R.drop k) ∧ s.env 0 = aPrs R ∧ s.env 4 = .one (.ptr 4 1 0 0) ∧ s.env 6 = .one (.ptr 6 1 0 0) ∧ s.S 4 = some (.box 25 [.st (.str t.name), .st (.list (t.args.map encT))]) ∧ s.S 6 = some (.box 25 [.st (.str ⟨#[]⟩), .full []]) ∧ s.S 12 = none ∧ s.env 9 = aInt k) (R.length - f) ⟨f, hf, rfl, rfl, rfl, rfl, rfl, rfl, rfl, rfl, rfl⟩ ?_
  rintro m ⟨env, S⟩ ⟨k, hk, rfl, hrk, e0, e4, e6, s4, s6, s12, e9⟩
  simp only at e0 e4 e6 s4 s6 s12 e9
  rw [hrk]
  by_cases hlt : (k : Int) < R.length
  · obtain ⟨r, hr⟩ := get_lt (show k < R.length by omega)
    have hmem := mem_of_get hr
    have c1 := Tm.may_chk (hR.left r hmem)
    have c2 := Tm.may_chk (hR.right r hmem)
    have hok := case_ok c1.1 hc
    have hd := drop_get hr
    rw [hd, rootK]
    by_cases hcase : isCase r.1 t = true
    · rw [if_pos hcase]
      have hon := onP_a (caseOf r.1 t) (by have := case_len_le (p := r.1) (t := t); omega) hok.ord r.2 hok.var c2.1
      by_cases hon2 : (onTo (caseOf r.1 t) r.2).2 = true
      · repeat' (first | (with_reducible first | refine Wa ?_ | refine Wb ?_ | refine Wc ?_ | refine Wd ?_ | refine We ?_ | refine Wf ?_ | refine Wg ?_ | refine Wh ?_ | refine Wi ?_ | refine Wj ?_ | refine Wk (by decide) ?_ | refine Wl ?_ | refine Wm ?_ | refine Wn ?_) | refine CallG.mk _ (case_a r.1 t (by omega) hz) ?_ | refine CallG.mk _ (hon) ?_ | ((with_reducible first | refine Wo (fun K hK => ?_) | refine Wp ?_ | refine Wq ?_ | refine Wr ?_); (try simp only [go_sem, List.forall_mem_nil, ↓guard_ite, ↓pick_ite, seval, encT_eq, inR_i64, e0, e4, e6, s4, s6, s12, e9, hlt, hr, encP, hcase, hon2, decide_eq_true_eq, decide_eq_false_iff_not, Int.ofNat_lt]); (repeat with_reducible refine And.intro (by first | omega | (with_reducible first | exact lens_encT | exact lens_encL | exact lens_encB | exact lens_encP) | (simp; done) | (simp only [List.length_take, List.length_map, List.length_append, maxLen_eq]; omega)) ?_); (try (with_reducible refine hK _ ?_; clear hK K)); (try with_reducible refine ite_conj ?_)))
        simp only [go_sem, List.forall_mem_nil, ↓guard_ite, ↓pick_ite, seval, FinQ, AS.result, resAll, resOne, tupV, e6, s6, hon2]
      · have hnil := onTo_no hon2
        simp only [Bool.not_eq_true] at hon2
        repeat' (first | (with_reducible first | refine Wa ?_ | refine Wb ?_ | refine Wc ?_ | refine Wd ?_ | refine We ?_ | refine Wf ?_ | refine Wg ?_ | refine Wh ?_ | refine Wi ?_ | refine Wj ?_ | refine Wk (by decide) ?_ | refine Wl ?_ | refine Wm ?_ | refine Wn ?_) | refine CallG.mk _ (case_a r.1 t (by omega) hz) ?_ | refine CallG.mk _ (hon) ?_ | ((with_reducible first | refine Wo (fun K hK => ?_) | refine Wp ?_ | refine Wq ?_ | refine Wr ?_); (try simp only [go_sem, List.forall_mem_nil, ↓guard_ite, ↓pick_ite, seval, encT_eq, inR_i64, e0, e4, e6, s4, s6, s12, e9, hlt, hr, encP, hcase, hon2, decide_eq_true_eq, decide_eq_false_iff_not, Int.ofNat_lt]); (repeat with_reducible refine And.intro (by first | omega | (with_reducible first | exact lens_encT | exact lens_encL | exact lens_encB | exact lens_encP) | (simp; done) | (simp only [List.length_take, List.length_map, List.length_append, maxLen_eq]; omega)) ?_); (try (with_reducible refine hK _ ?_; clear hK K)); (try with_reducible refine ite_conj ?_)))
        simp only [go_sem, List.forall_mem_nil, ↓guard_ite, ↓pick_ite, seval, FinQ, AS.result, resAll, resOne, tupV, e6, s6, hon2, hnil]
        rfl
    · rw [if_neg hcase]
      repeat' (first | (with_reducible first | refine Wa ?_ | refine Wb ?_ | refine Wc ?_ | refine Wd ?_ | refine We ?_ | refine Wf ?_ | refine Wg ?_ | refine Wh ?_ | refine Wi ?_ | refine Wj ?_ | refine Wk (by decide) ?_ | refine Wl ?_ | refine Wm ?_ | refine Wn ?_) | refine CallG.mk _ (case_a r.1 t (by omega) hz) ?_ | ((with_reducible first | refine Wo (fun K hK => ?_) | refine Wp ?_ | refine Wq ?_ | refine Wr ?_); (try simp only [go_sem, List.forall_mem_nil, ↓guard_ite, ↓pick_ite, seval, encT_eq, inR_i64, e0, e4, e6, s4, s6, s12, e9, hlt, hr, encP, hcase, decide_eq_true_eq, decide_eq_false_iff_not, Int.ofNat_lt]); (repeat with_reducible refine And.intro (by first | omega | (with_reducible first | exact lens_encT | exact lens_encL | exact lens_encB | exact lens_encP) | (simp; done) | (simp only [List.length_take, List.length_map, List.length_append, maxLen_eq]; omega)) ?_); (try (with_reducible refine hK _ ?_; clear hK K)); (try with_reducible refine ite_conj ?_)))
      refine then_normal ⟨R.length - (k + 1), by omega, k + 1, by omega, rfl, ?_, ?_⟩
      · rfl
      · simp only [go_sem, List.forall_mem_nil, ↓guard_ite, ↓pick_ite, seval, encT_eq, inR_i64, e0, e4, e6, s4, s6, s12, e9]
        congr 3
  · have hd : R.drop k = [] := List.drop_of_length_le (by omega)
    rw [hd]
    repeat' (first | (with_reducible first | refine Wa ?_ | refine Wb ?_ | refine Wc ?_ | refine Wd ?_ | refine We ?_ | refine Wf ?_ | refine Wg ?_ | refine Wh ?_ | refine Wi ?_ | refine Wj ?_ | refine Wk (by decide) ?_ | refine Wl ?_ | refine Wm ?_ | refine Wn ?_) | ((with_reducible first | refine Wo (fun K hK => ?_) | refine Wp ?_ | refine Wq ?_ | refine Wr ?_); (try simp only [go_sem, List.forall_mem_nil, ↓guard_ite, ↓pick_ite, seval, encT_eq, inR_i64, e0, e4, e6, s4, s6, s12, e9, hlt, decide_eq_true_eq, decide_eq_false_iff_not, Int.ofNat_lt]); (repeat with_reducible refine And.intro (by first | omega | (with_reducible first | exact lens_encT | exact lens_encL | exact lens_encB | exact lens_encP) | (simp; done) | (simp only [List.length_take, List.length_map, List.length_append, maxLen_eq]; omega)) ?_); (try (with_reducible refine hK _ ?_; clear hK K)); (try with_reducible refine ite_conj ?_)))
    simp only [go_sem, List.forall_mem_nil, ↓guard_ite, ↓pick_ite, seval, FinQ, AS.result, resAll, resOne, tupV, e6, s6]
    rfl
def stepV (t : Tm) (r : Option (Tm × Int)) : AV := match r with
  | none => .tup [aTm t, aBool false, aInt 0]
  | some (x, e) => .tup [aTm x, aBool true, aInt e]
theorem root0 {R : List Pr} {t : Tm} (h : rootS R t = none) : rootV (rootK t 0 (R.drop 0)) = .tup [aTm Tm.nil, aInt (-1), aInt 0] := by
  have := rootK_eq R t R 0
  unfold rootS at h
  rw [h] at this
  rw [List.drop_zero, rootV, this]
theorem root1 {R : List Pr} {t x : Tm} {e : Int} (h : rootS R t = some (x, e)) : ∃ i : Nat, rootV (rootK t 0 (R.drop 0)) = .tup [aTm x, aInt i, aInt e] := by
  have := rootK_eq R t R 0
  unfold rootS at h
  rw [h] at this
  obtain ⟨i, hi⟩ := this
  exact ⟨i, by rw [List.drop_zero, rootV, hi]⟩
theorem innermost_a {R : List Pr} (hR : GoodRules R) (t : Tm) (hc : t.chk = 0) (hz : t.size ≤ 1000000) : ACalls Try.prog 56 [aPrs R, aTm t] (stepV Tm.nil (t.inn R)) := by
  induction h : SizeOf.sizeOf t using Nat.strongRecOn generalizing t with
  | _ N ih =>
  subst h
  have hs := Tm.size_eq t
  have hln := Tm.length_le t.args
  refine ac_rewrite_innermost (Nat.le_of_ble_eq_true rfl) fun C hC => ?_
  unfold ir_rewrite_innermost
  repeat' (first | (with_reducible first | refine Wa ?_ | refine Wb ?_ | refine Wc ?_ | refine Wd ?_ | refine We ?_ | refine Wf ?_ | refine Wg ?_ | refine Wh ?_ | refine Wi ?_ | refine Wj ?_ | refine Wk (by decide) ?_ | refine Wl ?_ | refine Wm ?_ | refine Wn ?_) | ((with_reducible first | refine Wo (fun K hK => ?_) | refine Wp ?_ | refine Wq ?_ | refine Wr ?_); (try simp only [go_sem, List.forall_mem_nil, ↓guard_ite, ↓pick_ite, seval, encT_eq, inR_i64, decide_eq_true_eq, decide_eq_false_iff_not, Int.ofNat_lt]); (repeat with_reducible refine And.intro (by first | omega | (with_reducible first | exact lens_encT | exact lens_encL | exact lens_encB | exact lens_encP) | (simp; done) | (simp only [List.length_take, List.length_map, List.length_append, maxLen_eq]; omega)) ?_); (try (with_reducible refine hK _ ?_; clear hK K)); (try with_reducible refine ite_conj ?_)))
  refine IWP.loopD [8] (fun m s => ∃ k, k ≤ t.args.length ∧ m = t.args.length - k ∧ (∀ b ∈ t.args.take k, b.inn R = none) ∧ s.env 0 = aPrs R ∧ s.env 3 = .one (.ptr 3 1 0 0) ∧ s.env 4 = .one (.ptr 4 1 0 0) ∧ s.S 3 = some (.box 25 [.st (.str t.name), .st (.list (t.args.map encT))]) ∧ s.S 4 = some (.box 25 [.st (.str ⟨#[]⟩), .full []]) ∧ s.S 8 = none ∧ s.S 11 = none ∧ s.S 12 = none ∧ s.S 41 = none ∧ s.env 17 = aInt t.args.length ∧ s.env 18 = aInt k)
    t.args.length ⟨0, Nat.zero_le _, rfl, by simp, rfl, rfl, rfl, rfl, rfl, rfl, rfl, rfl, rfl, rfl, rfl⟩ ?_
  rintro m ⟨env, S⟩ ⟨k, hk, rfl, hno, e0, e3, e4, s3, s4, s8, s11, s12, s41, e17, e18⟩
  simp only at e0 e3 e4 s3 s4 s8 s11 s12 s41 e17 e18
  by_cases hlt : (k : Int) < t.args.length
  · obtain ⟨a, ha⟩ := get_lt (show k < t.args.length by omega)
    have hmem := mem_of_get ha
    have hcon := ih _ (Tm.lt_of_arg hmem) a ((Tm.chk_args hc).2 a hmem) (by have := Tm.size_mem hmem; omega) rfl
    cases hi : a.inn R with
    | none =>
      rw [hi] at hcon
      unfold stepV at hcon
      repeat' (first | (with_reducible first | refine Wa ?_ | refine Wb ?_ | refine Wc ?_ | refine Wd ?_ | refine We ?_ | refine Wf ?_ | refine Wg ?_ | refine Wh ?_ | refine Wi ?_ | refine Wj ?_ | refine Wk (by decide) ?_ | refine Wl ?_ | refine Wm ?_ | refine Wn ?_) | refine CallG.mk _ (hcon) ?_ | ((with_reducible first | refine Wo (fun K hK => ?_) | refine Wp ?_ | refine Wq ?_ | refine Wr ?_); (try simp only [go_sem, List.forall_mem_nil, ↓guard_ite, ↓pick_ite, seval, encT_eq, inR_i64, e0, e3, e4, s3, s4, s8, s11, s12, s41, e17, e18, hlt, ha, decide_eq_true_eq, decide_eq_false_iff_not, Int.ofNat_lt]); (repeat with_reducible refine And.intro (by first | omega | (with_reducible first | exact lens_encT | exact lens_encL | exact lens_encB | exact lens_encP) | (simp; done) | (simp only [List.length_take, List.length_map, List.length_append, maxLen_eq]; omega)) ?_); (try (with_reducible refine hK _ ?_; clear hK K)); (try with_reducible refine ite_conj ?_)))
      refine then_normal ⟨t.args.length - (k + 1), by omega, k + 1, by omega, rfl, ?_, ?_⟩
      · intro b hb
        rw [take_snoc ha] at hb
        rcases List.mem_append.1 hb with hb | hb
        · exact hno b hb
        · rw [List.mem_singleton.1 hb]
          exact hi
      · simp only [go_sem, List.forall_mem_nil, ↓guard_ite, ↓pick_ite, seval, AS.drop, dropS, AC.clears, AC.clear, AC.highs, AC.high, Bool.not_false, Bool.true_and, Bool.and_self, AV.purge, AV.purges, AC.purge, ABlk.purge, List.contains_cons, List.contains_nil, Nat.reduceBEq, Bool.or_self, Bool.or_false, Bool.false_or, Bool.or_true, encT_eq, inR_i64, e0, e3, e4, s3, s4, s8, s11, s12, s41, e17, e18]
        congr 3
    | some r =>
      obtain ⟨y, e⟩ := r
      rw [hi] at hcon
      unfold stepV at hcon
      have hin : t.inn R = some (.mk t.name (t.args.set k y), e) := by
        rw [Tm.inn_eq, innL_at ha hno hi]
      rw [hin]
      unfold stepV
      by_cases he : e = 0
      all_goals
        repeat' (first | (with_reducible first | refine Wa ?_ | refine Wb ?_ | refine Wc ?_ | refine Wd ?_ | refine We ?_ | refine Wf ?_ | refine Wg ?_ | refine Wh ?_ | refine Wi ?_ | refine Wj ?_ | refine Wk (by decide) ?_ | refine Wl ?_ | refine Wm ?_ | refine Wn ?_) | refine CallG.mk _ (hcon) ?_ | ((with_reducible first | refine Wo (fun K hK => ?_) | refine Wp ?_ | refine Wq ?_ | refine Wr ?_); (try simp only [go_sem, List.forall_mem_nil, ↓guard_ite, ↓pick_ite, seval, encT_eq, inR_i64, e0, e3, e4, s3, s4, s8, s11, s12, s41, e17, e18, hlt, ha, he, decide_eq_true_eq, decide_eq_false_iff_not, Int.ofNat_lt]); (repeat with_reducible refine And.intro (by first | omega | (with_reducible first | exact lens_encT | exact lens_encL | exact lens_encB | exact lens_encP) | (simp; done) | (simp only [List.length_take, List.length_map, List.length_append, maxLen_eq]; omega)) ?_); (try (with_reducible refine hK _ ?_; clear hK K)); (try with_reducible refine ite_conj ?_)))
        refine ⟨_, _, _, _, cloneT_N t.args (by omega) (by omega), by simp [updE, s41], ?_⟩
        refine Wr ?_
        simp only [go_sem, List.forall_mem_nil, ↓guard_ite, ↓pick_ite, seval, encT_eq, inR_i64, e0, e3, e4, s3, s4, s8, s11, s12, s41, e17, e18, hlt, ha, he]
        refine hK _ ?_
        clear hK K
        refine Wb ?_
        refine IWP.mid (fun x => x.env 4 = .one (.ptr 4 1 0 0) ∧ x.env 11 = .one (.ptr 11 1 0 0) ∧ x.env 9 = aBool true ∧ x.env 10 = aInt e ∧ x.S 4 = some (.box 25 [.st (.str ⟨#[]⟩), .full []]) ∧ x.S 11 = some (.box 25 [.st (.str t.name), .row 41 t.args.length]) ∧ x.S 41 = some (.mrow 25 2 ((t.args.set k y).map encT))) ?_ ?_
        · repeat' (first | (with_reducible first | refine Wa ?_ | refine Wb ?_ | refine Wc ?_ | refine Wd ?_ | refine We ?_ | refine Wf ?_ | refine Wg ?_ | refine Wh ?_ | refine Wi ?_ | refine Wj ?_ | refine Wk (by decide) ?_ | refine Wl ?_ | refine Wm ?_ | refine Wn ?_) | ((with_reducible first | refine Wo (fun K hK => ?_) | refine Wp ?_ | refine Wq ?_ | refine Wr ?_); (try simp only [go_sem, List.forall_mem_nil, ↓guard_ite, ↓pick_ite, seval, encT_eq, inR_i64, e0, e3, e4, s3, s4, s8, s11, s12, s41, e17, e18, hlt, ha, he, decide_eq_true_eq, decide_eq_false_iff_not, Int.ofNat_lt]); (repeat with_reducible refine And.intro (by first | omega | (with_reducible first | exact lens_encT | exact lens_encL | exact lens_encB | exact lens_encP) | (simp; done) | (simp only [List.length_take, List.length_map, List.length_append, maxLen_eq]; omega)) ?_); (try (with_reducible refine hK _ ?_; clear hK K)); (try with_reducible refine ite_conj ?_)))
          refine ⟨rfl, ?_⟩
          simp only [go_sem, List.forall_mem_nil, ↓guard_ite, ↓pick_ite, seval, encT_eq, inR_i64, e0, e3, e4, s3, s4, s8, s11, s12, s41, e17, e18, hlt, ha, he]
          rw [List.map_set, encT_eq]
        rintro ⟨env, S⟩ ⟨e4, e11, e9, e10, s4, s11, s41⟩
        simp only at e4 e11 e9 e10 s4 s11 s41
        refine IWP.ghost (Ghost.share (id := 41) s41) ?_
        have hl1 : (t.args.set k y).length = t.args.length := by simp
        repeat' (first | (with_reducible first | refine Wa ?_ | refine Wb ?_ | refine Wc ?_ | refine Wd ?_ | refine We ?_ | refine Wf ?_ | refine Wg ?_ | refine Wh ?_ | refine Wi ?_ | refine Wj ?_ | refine Wk (by decide) ?_ | refine Wl ?_ | refine Wm ?_ | refine Wn ?_) | ((with_reducible first | refine Wo (fun K hK => ?_) | refine Wp ?_ | refine Wq ?_ | refine Wr ?_); (try simp only [go_sem, List.forall_mem_nil, ↓guard_ite, ↓pick_ite, seval, encT_eq, inR_i64, e4, e11, e9, e10, s4, s11, hl1, decide_eq_true_eq, decide_eq_false_iff_not, Int.ofNat_lt]); (repeat with_reducible refine And.intro (by first | omega | (with_reducible first | exact lens_encT | exact lens_encL | exact lens_encB | exact lens_encP) | (simp; done) | (simp only [List.length_take, List.length_map, List.length_append, maxLen_eq]; omega)) ?_); (try (with_reducible refine hK _ ?_; clear hK K)); (try with_reducible refine ite_conj ?_)))
        simp only [go_sem, List.forall_mem_nil, ↓guard_ite, ↓pick_ite, seval, FinQ, AS.result, resAll, resOne, tupV, e4, s4, hl1]
        first | rfl | (rw [he]; rfl)
  · rw [List.take_of_length_le (by omega)] at hno
    have hin : t.inn R = rootS R t := by rw [Tm.inn_eq, innL_all hno]
    rw [hin]
    have hroot := root_a hR t hc hz 0 (by omega)
    cases hr : rootS R t with
    | none =>
      rw [root0 hr] at hroot
      unfold stepV
      repeat' (first | (with_reducible first | refine Wa ?_ | refine Wb ?_ | refine Wc ?_ | refine Wd ?_ | refine We ?_ | refine Wf ?_ | refine Wg ?_ | refine Wh ?_ | refine Wi ?_ | refine Wj ?_ | refine Wk (by decide) ?_ | refine Wl ?_ | refine Wm ?_ | refine Wn ?_) | refine CallG.mk _ (hroot) ?_ | ((with_reducible first | refine Wo (fun K hK => ?_) | refine Wp ?_ | refine Wq ?_ | refine Wr ?_); (try simp only [go_sem, List.forall_mem_nil, ↓guard_ite, ↓pick_ite, seval, encT_eq, inR_i64, e0, e3, e4, s3, s4, s8, s11, s12, s41, e17, e18, hlt, decide_eq_true_eq, decide_eq_false_iff_not, Int.ofNat_lt]); (repeat with_reducible refine And.intro (by first | omega | (with_reducible first | exact lens_encT | exact lens_encL | exact lens_encB | exact lens_encP) | (simp; done) | (simp only [List.length_take, List.length_map, List.length_append, maxLen_eq]; omega)) ?_); (try (with_reducible refine hK _ ?_; clear hK K)); (try with_reducible refine ite_conj ?_)))
      simp only [go_sem, List.forall_mem_nil, ↓guard_ite, ↓pick_ite, seval, FinQ, AS.result, resAll, resOne, tupV, e4, s4]
    | some r =>
      obtain ⟨x, e⟩ := r
      obtain ⟨i, hi⟩ := root1 hr
      rw [hi] at hroot
      unfold stepV
      repeat' (first | (with_reducible first | refine Wa ?_ | refine Wb ?_ | refine Wc ?_ | refine Wd ?_ | refine We ?_ | refine Wf ?_ | refine Wg ?_ | refine Wh ?_ | refine Wi ?_ | refine Wj ?_ | refine Wk (by decide) ?_ | refine Wl ?_ | refine Wm ?_ | refine Wn ?_) | refine CallG.mk _ (hroot) ?_ | ((with_reducible first | refine Wo (fun K hK => ?_) | refine Wp ?_ | refine Wq ?_ | refine Wr ?_); (try simp only [go_sem, List.forall_mem_nil, ↓guard_ite, ↓pick_ite, seval, encT_eq, inR_i64, e0, e3, e4, s3, s4, s8, s11, s12, s41, e17, e18, hlt, decide_eq_true_eq, decide_eq_false_iff_not, Int.ofNat_lt]); (repeat with_reducible refine And.intro (by first | omega | (with_reducible first | exact lens_encT | exact lens_encL | exact lens_encB | exact lens_encP) | (simp; done) | (simp only [List.length_take, List.length_map, List.length_append, maxLen_eq]; omega)) ?_); (try (with_reducible refine hK _ ?_; clear hK K)); (try with_reducible refine ite_conj ?_)))
      simp only [go_sem, List.forall_mem_nil, ↓guard_ite, ↓pick_ite, seval, FinQ, AS.result, resAll, resOne, tupV, e4, s4]
theorem outermost_a {R : List Pr} (hR : GoodRules R) (t : Tm) (hc : t.chk = 0) (hz : t.size ≤ 1000000) : ACalls Try.prog 42 [aPrs R, aTm t] (stepV t (t.out R)) := by
  induction h : SizeOf.sizeOf t using Nat.strongRecOn generalizing t with
  | _ N ih =>
  subst h
  have hs := Tm.size_eq t
  have hln := Tm.length_le t.args
  have hroot := root_a hR t hc hz 0 (by omega)
  cases hr : rootS R t with
  | some r =>
    obtain ⟨x, e⟩ := r
    obtain ⟨i, hi⟩ := root1 hr
    rw [hi] at hroot
    rw [Tm.out_eq, hr]
    unfold stepV
    refine ac_rewrite_outermost (Nat.le_of_ble_eq_true rfl) fun C hC => ?_
    unfold ir_rewrite_outermost
    repeat' (first | (with_reducible first | refine Wa ?_ | refine Wb ?_ | refine Wc ?_ | refine Wd ?_ | refine We ?_ | refine Wf ?_ | refine Wg ?_ | refine Wh ?_ | refine Wi ?_ | refine Wj ?_ | refine Wk (by decide) ?_ | refine Wl ?_ | refine Wm ?_ | refine Wn ?_) | refine CallG.mk _ (hroot) ?_ | ((with_reducible first | refine Wo (fun K hK => ?_) | refine Wp ?_ | refine Wq ?_ | refine Wr ?_); (try simp only [go_sem, List.forall_mem_nil, ↓guard_ite, ↓pick_ite, seval, encT_eq, inR_i64, decide_eq_true_eq, decide_eq_false_iff_not, Int.ofNat_lt]); (repeat with_reducible refine And.intro (by first | omega | (with_reducible first | exact lens_encT | exact lens_encL | exact lens_encB | exact lens_encP) | (simp; done) | (simp only [List.length_take, List.length_map, List.length_append, maxLen_eq]; omega)) ?_); (try (with_reducible refine hK _ ?_; clear hK K)); (try with_reducible refine ite_conj ?_)))
    simp only [go_sem, List.forall_mem_nil, ↓guard_ite, ↓pick_ite, seval, FinQ, AS.result, resAll, resOne, tupV]
  | none =>
  rw [root0 hr] at hroot
  have hout : t.out R = match Tm.outL R t.args with
    | some (ys, e) => some (.mk t.name ys, e)
    | none => none := by
    rw [Tm.out_eq]
    simp only [hr]
    cases Tm.outL R t.args <;> rfl
  rw [hout]
  refine ac_rewrite_outermost (Nat.le_of_ble_eq_true rfl) fun C hC => ?_
  unfold ir_rewrite_outermost
  repeat' (first | (with_reducible first | refine Wa ?_ | refine Wb ?_ | refine Wc ?_ | refine Wd ?_ | refine We ?_ | refine Wf ?_ | refine Wg ?_ | refine Wh ?_ | refine Wi ?_ | refine Wj ?_ | refine Wk (by decide) ?_ | refine Wl ?_ | refine Wm ?_ | refine Wn ?_) | refine CallG.mk _ (hroot) ?_ | ((with_reducible first | refine Wo (fun K hK => ?_) | refine Wp ?_ | refine Wq ?_ | refine Wr ?_); (try simp only [go_sem, List.forall_mem_nil, ↓guard_ite, ↓pick_ite, seval, encT_eq, inR_i64, decide_eq_true_eq, decide_eq_false_iff_not, Int.ofNat_lt]); (repeat with_reducible refine And.intro (by first | omega | (with_reducible first | exact lens_encT | exact lens_encL | exact lens_encB | exact lens_encP) | (simp; done) | (simp only [List.length_take, List.length_map, List.length_append, maxLen_eq]; omega)) ?_); (try (with_reducible refine hK _ ?_; clear hK K)); (try with_reducible refine ite_conj ?_)))
  refine IWP.loopD [11] (fun m s => ∃ k, k ≤ t.args.length ∧ m = t.args.length - k ∧ (∀ b ∈ t.args.take k, b.out R = none) ∧ s.env 0 = aPrs R ∧ s.env 3 = .one (.ptr 3 1 0 0) ∧ s.env 4 = .one (.ptr 4 1 0 0) ∧ s.S 3 = some (.box 25 [.st (.str t.name), .st (.list (t.args.map encT))]) ∧ s.S 4 = some (.box 25 [.st (.str ⟨#[]⟩), .full []]) ∧ s.S 11 = none ∧ s.S 14 = none ∧ s.S 58 = none ∧ s.env 34 = aInt t.args.length ∧ s.env 35 = aInt k)
    t.args.length ⟨0, Nat.zero_le _, rfl, by simp, rfl, rfl, rfl, rfl, rfl, rfl, rfl, rfl, rfl, rfl⟩ ?_
  rintro m ⟨env, S⟩ ⟨k, hk, rfl, hno, e0, e3, e4, s3, s4, s11, s14, s58, e34, e35⟩
  simp only at e0 e3 e4 s3 s4 s11 s14 s58 e34 e35
  by_cases hlt : (k : Int) < t.args.length
  · obtain ⟨a, ha⟩ := get_lt (show k < t.args.length by omega)
    have hmem := mem_of_get ha
    have hcon := ih _ (Tm.lt_of_arg hmem) a ((Tm.chk_args hc).2 a hmem) (by have := Tm.size_mem hmem; omega) rfl
    cases hi : a.out R with
    | none =>
      rw [hi] at hcon
      unfold stepV at hcon
      repeat' (first | (with_reducible first | refine Wa ?_ | refine Wb ?_ | refine Wc ?_ | refine Wd ?_ | refine We ?_ | refine Wf ?_ | refine Wg ?_ | refine Wh ?_ | refine Wi ?_ | refine Wj ?_ | refine Wk (by decide) ?_ | refine Wl ?_ | refine Wm ?_ | refine Wn ?_) | refine CallG.mk _ (hcon) ?_ | ((with_reducible first | refine Wo (fun K hK => ?_) | refine Wp ?_ | refine Wq ?_ | refine Wr ?_); (try simp only [go_sem, List.forall_mem_nil, ↓guard_ite, ↓pick_ite, seval, encT_eq, inR_i64, e0, e3, e4, s3, s4, s11, s14, s58, e34, e35, hlt, ha, decide_eq_true_eq, decide_eq_false_iff_not, Int.ofNat_lt]); (repeat with_reducible refine And.intro (by first | omega | (with_reducible first | exact lens_encT | exact lens_encL | exact lens_encB | exact lens_encP) | (simp; done) | (simp only [List.length_take, List.length_map, List.length_append, maxLen_eq]; omega)) ?_); (try (with_reducible refine hK _ ?_; clear hK K)); (try with_reducible refine ite_conj ?_)))
      refine then_normal ⟨t.args.length - (k + 1), by omega, k + 1, by omega, rfl, ?_, ?_⟩
      · intro b hb
        rw [take_snoc ha] at hb
        rcases List.mem_append.1 hb with hb | hb
        · exact hno b hb
        · rw [List.mem_singleton.1 hb]
          exact hi
      · simp only [go_sem, List.forall_mem_nil, ↓guard_ite, ↓pick_ite, seval, AS.drop, dropS, AC.clears, AC.clear, AC.highs, AC.high, Bool.not_false, Bool.true_and, Bool.and_self, AV.purge, AV.purges, AC.purge, ABlk.purge, List.contains_cons, List.contains_nil, Nat.reduceBEq, Bool.or_self, Bool.or_false, Bool.false_or, Bool.or_true, encT_eq, inR_i64, e0, e3, e4, s3, s4, s11, s14, s58, e34, e35]
        congr 3
    | some r =>
      obtain ⟨y, e⟩ := r
      rw [hi] at hcon
      unfold stepV at hcon
      rw [outL_at ha hno hi]
      unfold stepV
      by_cases he : e = 0
      all_goals
        repeat' (first | (with_reducible first | refine Wa ?_ | refine Wb ?_ | refine Wc ?_ | refine Wd ?_ | refine We ?_ | refine Wf ?_ | refine Wg ?_ | refine Wh ?_ | refine Wi ?_ | refine Wj ?_ | refine Wk (by decide) ?_ | refine Wl ?_ | refine Wm ?_ | refine Wn ?_) | refine CallG.mk _ (hcon) ?_ | ((with_reducible first | refine Wo (fun K hK => ?_) | refine Wp ?_ | refine Wq ?_ | refine Wr ?_); (try simp only [go_sem, List.forall_mem_nil, ↓guard_ite, ↓pick_ite, seval, encT_eq, inR_i64, e0, e3, e4, s3, s4, s11, s14, s58, e34, e35, hlt, ha, he, decide_eq_true_eq, decide_eq_false_iff_not, Int.ofNat_lt]); (repeat with_reducible refine And.intro (by first | omega | (with_reducible first | exact lens_encT | exact lens_encL | exact lens_encB | exact lens_encP) | (simp; done) | (simp only [List.length_take, List.length_map, List.length_append, maxLen_eq]; omega)) ?_); (try (with_reducible refine hK _ ?_; clear hK K)); (try with_reducible refine ite_conj ?_)))
        refine ⟨_, _, _, _, cloneT_N t.args (by omega) (by omega), by simp [updE, s58], ?_⟩
        refine Wr ?_
        simp only [go_sem, List.forall_mem_nil, ↓guard_ite, ↓pick_ite, seval, encT_eq, inR_i64, e0, e3, e4, s3, s4, s11, s14, s58, e34, e35, hlt, ha, he]
        refine hK _ ?_
        clear hK K
        refine Wb ?_
        refine IWP.mid (fun x => x.env 4 = .one (.ptr 4 1 0 0) ∧ x.env 14 = .one (.ptr 14 1 0 0) ∧ x.env 12 = aBool true ∧ x.env 13 = aInt e ∧ x.S 4 = some (.box 25 [.st (.str ⟨#[]⟩), .full []]) ∧ x.S 14 = some (.box 25 [.st (.str t.name), .row 58 t.args.length]) ∧ x.S 58 = some (.mrow 25 2 ((t.args.set k y).map encT))) ?_ ?_
        · repeat' (first | (with_reducible first | refine Wa ?_ | refine Wb ?_ | refine Wc ?_ | refine Wd ?_ | refine We ?_ | refine Wf ?_ | refine Wg ?_ | refine Wh ?_ | refine Wi ?_ | refine Wj ?_ | refine Wk (by decide) ?_ | refine Wl ?_ | refine Wm ?_ | refine Wn ?_) | ((with_reducible first | refine Wo (fun K hK => ?_) | refine Wp ?_ | refine Wq ?_ | refine Wr ?_); (try simp only [go_sem, List.forall_mem_nil, ↓guard_ite, ↓pick_ite, seval, encT_eq, inR_i64, e0, e3, e4, s3, s4, s11, s14, s58, e34, e35, hlt, ha, he, decide_eq_true_eq, decide_eq_false_iff_not, Int.ofNat_lt]); (repeat with_reducible refine And.intro (by first | omega | (with_reducible first | exact lens_encT | exact lens_encL | exact lens_encB | exact lens_encP) | (simp; done) | (simp only [List.length_take, List.length_map, List.length_append, maxLen_eq]; omega)) ?_); (try (with_reducible refine hK _ ?_; clear hK K)); (try with_reducible refine ite_conj ?_)))
          refine ⟨rfl, ?_⟩
          simp only [go_sem, List.forall_mem_nil, ↓guard_ite, ↓pick_ite, seval, encT_eq, inR_i64, e0, e3, e4, s3, s4, s11, s14, s58, e34, e35, hlt, ha, he]
          rw [List.map_set, encT_eq]
        rintro ⟨env, S⟩ ⟨e4, e14, e12, e13, s4, s14, s58⟩
        simp only at e4 e14 e12 e13 s4 s14 s58
        refine IWP.ghost (Ghost.share (id := 58) s58) ?_
        have hl1 : (t.args.set k y).length = t.args.length := by simp
        repeat' (first | (with_reducible first | refine Wa ?_ | refine Wb ?_ | refine Wc ?_ | refine Wd ?_ | refine We ?_ | refine Wf ?_ | refine Wg ?_ | refine Wh ?_ | refine Wi ?_ | refine Wj ?_ | refine Wk (by decide) ?_ | refine Wl ?_ | refine Wm ?_ | refine Wn ?_) | ((with_reducible first | refine Wo (fun K hK => ?_) | refine Wp ?_ | refine Wq ?_ | refine Wr ?_); (try simp only [go_sem, List.forall_mem_nil, ↓guard_ite, ↓pick_ite, seval, encT_eq, inR_i64, e4, e14, e12, e13, s4, s14, hl1, decide_eq_true_eq, decide_eq_false_iff_not, Int.ofNat_lt]); (repeat with_reducible refine And.intro (by first | omega | (with_reducible first | exact lens_encT | exact lens_encL | exact lens_encB | exact lens_encP) | (simp; done) | (simp only [List.length_take, List.length_map, List.length_append, maxLen_eq]; omega)) ?_); (try (with_reducible refine hK _ ?_; clear hK K)); (try with_reducible refine ite_conj ?_)))
        simp only [go_sem, List.forall_mem_nil, ↓guard_ite, ↓pick_ite, seval, FinQ, AS.result, resAll, resOne, tupV, e4, s4, hl1]
        first | rfl | (rw [he]; rfl)
  · rw [List.take_of_length_le (by omega)] at hno
    rw [outL_all hno]
    unfold stepV
    repeat' (first | (with_reducible first | refine Wa ?_ | refine Wb ?_ | refine Wc ?_ | refine Wd ?_ | refine We ?_ | refine Wf ?_ | refine Wg ?_ | refine Wh ?_ | refine Wi ?_ | refine Wj ?_ | refine Wk (by decide) ?_ | refine Wl ?_ | refine Wm ?_ | refine Wn ?_) | ((with_reducible first | refine Wo (fun K hK => ?_) | refine Wp ?_ | refine Wq ?_ | refine Wr ?_); (try simp only [go_sem, List.forall_mem_nil, ↓guard_ite, ↓pick_ite, seval, encT_eq, inR_i64, e0, e3, e4, s3, s4, s11, s14, s58, e34, e35, hlt, decide_eq_true_eq, decide_eq_false_iff_not, Int.ofNat_lt]); (repeat with_reducible refine And.intro (by first | omega | (with_reducible first | exact lens_encT | exact lens_encL | exact lens_encB | exact lens_encP) | (simp; done) | (simp only [List.length_take, List.length_map, List.length_append, maxLen_eq]; omega)) ?_); (try (with_reducible refine hK _ ?_; clear hK K)); (try with_reducible refine ite_conj ?_)))
    simp only [go_sem, List.forall_mem_nil, ↓guard_ite, ↓pick_ite, seval, FinQ, AS.result, resAll, resOne, tupV, e4, s4]
end Go.Proofs.Ytkekmeiiikkabaa

namespace Go.Proofs.Ytkekmeiiikkabaa
open Go
set_option linter.unusedVariables false

mutual
theorem places_at : ∀ (t : Tm) (p : List Int), p ∈ t.places → ∃ x, t.atP p = some x ∧ x ∈ t.knots
  | .mk n xs, p, h => by
    rw [Tm.places] at h
    rcases List.mem_cons.1 h with rfl | h
    · exact ⟨_, rfl, by rw [Tm.knots]; exact List.mem_cons_self⟩
    · obtain ⟨x, h1, h2⟩ := placesFrom_at n xs 0 xs p (by simp) h
      exact ⟨x, h1, by rw [Tm.knots]; exact List.mem_cons_of_mem _ h2⟩
theorem placesFrom_at (n : ByteArray) (all : List Tm) : ∀ (k : Nat) (xs : List Tm) (p : List Int), all.drop k = xs → p ∈ Tm.placesFrom k xs → ∃ x, (Tm.mk n all).atP p = some x ∧ x ∈ Tm.knotsL xs
  | _, [], p, _, h => by simp [Tm.placesFrom] at h
  | k, x :: xs, p, hd, h => by
    have hk : all[k]? = some x := by
      have := congrArg (fun l => l[0]?) hd
      simpa using this
    rw [Tm.placesFrom] at h
    rcases List.mem_append.1 h with h | h
    · obtain ⟨q, hq, rfl⟩ := List.mem_map.1 h
      obtain ⟨y, h1, h2⟩ := places_at x q hq
      exact ⟨y, by rw [Tm.atP_at (t := .mk n all) hk]; exact h1, by rw [Tm.knotsL]; exact List.mem_append_left _ h2⟩
    · obtain ⟨y, h1, h2⟩ := placesFrom_at n all (k + 1) xs p (by rw [← List.tail_drop, hd]; rfl) h
      exact ⟨y, h1, by rw [Tm.knotsL]; exact List.mem_append_right _ h2⟩
end
mutual
theorem knot_size : ∀ (t x : Tm), x ∈ t.knots → x.size ≤ t.size
  | .mk n xs, x, h => by
    rw [Tm.knots] at h
    rcases List.mem_cons.1 h with rfl | h
    · exact Nat.le_refl _
    · have := knotL_size xs x h
      simp only [Tm.size]
      omega
theorem knotL_size : ∀ (xs : List Tm) (x : Tm), x ∈ Tm.knotsL xs → x.size ≤ Tm.sizes xs
  | [], x, h => by simp [Tm.knotsL] at h
  | y :: ys, x, h => by
    rw [Tm.knotsL] at h
    simp only [Tm.sizes]
    rcases List.mem_append.1 h with h | h
    · have := knot_size y x h; omega
    · have := knotL_size ys x h; omega
end
/-- One step, from within or from without. -/
def stepB (inner : Bool) (R : List Pr) (t : Tm) : Option (Tm × Int) := if inner = true then t.inn R else t.out R
def testB (inner : Bool) (R : List Pr) : Tm → Bool := if inner = true then redI R else fitR R
theorem stepB_find (inner : Bool) (R : List Pr) (t : Tm) : stepB inner R t = stepAt R t (t.findP (testB inner R)) := by
  cases inner with
  | true => exact Tm.inn_find R t
  | false => exact Tm.out_find R t
theorem stepB_good {inner : Bool} {R : List Pr} (hR : GoodRules R) {t x : Tm} {e : Int} (hc : t.chk = 0) (h : stepB inner R t = some (x, e)) : (e = 0 ∨ e = 8) ∧ (e = 0 → x.chk = 0) ∧ x.size ≤ t.size + 2000 := by
  cases inner with
  | true => exact inn_good hR hc h
  | false => exact out_good hR hc h
theorem testB_fit {inner : Bool} {R : List Pr} {x : Tm} (h : testB inner R x = true) : fitR R x = true := by
  cases inner with
  | true =>
    unfold testB redI at h
    simp only [if_true, Bool.and_eq_true] at h
    exact h.1
  | false => exact h
theorem endR_err {step : Tm → Option (Tm × Int)} : ∀ (k : Nat) (n : Int) (t : Tm), (endR step k n t).2.2 ≠ 0 → endR step k n t = (Tm.nil, 0, (endR step k n t).2.2)
  | 0, n, t, h => by
    unfold endR at h ⊢
    split at h
    · exact absurd rfl h
    · rfl
  | k + 1, n, t, h => by
    rw [endR] at h ⊢
    split at h
    · exact absurd rfl h
    · rename_i x e hs
      by_cases he : e ≠ 0
      · rw [if_pos he] at h ⊢
      · rw [if_neg he] at h ⊢
        by_cases hz : 2000 < x.size
        · rw [if_pos hz] at h ⊢
        · rw [if_neg hz] at h ⊢
          exact endR_err k (n + 1) x h
/-- Do two terms become the same at last, by steps from within? -/
def metOf (R : List Pr) (most : Nat) (a b : Tm) : Bool × Int :=
  let x := endR (Tm.inn R) most 0 a
  let y := endR (Tm.inn R) most 0 b
  if x.2.2 ≠ 0 then (false, x.2.2) else if y.2.2 ≠ 0 then (false, y.2.2) else (x.1.beq y.1, 0)
end Go.Proofs.Ytkekmeiiikkabaa

namespace Go.Proofs.Ytkekmeiiikkabaa
open Go Go.RowKit
set_option linter.unusedVariables false
set_option linter.unusedSimpArgs false
set_option maxHeartbeats 1000000

def endV (r : Tm × Int × Int) : AV := .tup [aTm r.1, aInt r.2.1, aInt r.2.2]
abbrev boxTt (t : Tm) : ABlk := .box 25 [.st (.str t.name), .st (.list (t.args.map encT))]
abbrev boxT0 : ABlk := .box 25 [.st (.str ⟨#[]⟩), .full []]
theorem endR_none {step : Tm → Option (Tm × Int)} {t : Tm} (h : step t = none) (k : Nat) (n : Int) : endR step k n t = (t, n, 0) := by
  cases k <;> (unfold endR; rw [h])
theorem endR_zero {step : Tm → Option (Tm × Int)} {t : Tm} {r : Tm × Int} (h : step t = some r) (n : Int) : endR step 0 n t = (Tm.nil, 0, 9) := by
  unfold endR
  rw [h]
theorem endR_bad {step : Tm → Option (Tm × Int)} {t x : Tm} {e : Int} (h : step t = some (x, e)) (he : e ≠ 0) (k : Nat) (n : Int) : endR step (k + 1) n t = (Tm.nil, 0, e) := by
  rw [endR, h]
  exact if_pos he
theorem endR_great {step : Tm → Option (Tm × Int)} {t x : Tm} (h : step t = some (x, 0)) (hz : 2000 < x.size) (k : Nat) (n : Int) : endR step (k + 1) n t = (Tm.nil, 0, 8) := by
  rw [endR, h]
  simp only [ne_eq, not_true_eq_false, if_false]
  exact if_pos hz
theorem endR_on {step : Tm → Option (Tm × Int)} {t x : Tm} (h : step t = some (x, 0)) (hz : ¬ 2000 < x.size) (k : Nat) (n : Int) : endR step (k + 1) n t = endR step k (n + 1) x := by
  rw [endR, h]
  simp only [ne_eq, not_true_eq_false, if_false]
  exact if_neg hz
theorem last_a {R : List Pr} (hR : GoodRules R) (t0 : Tm) (hc0 : t0.chk = 0) (hz0 : t0.size ≤ 900000) (most : Nat) (hm : most ≤ 1000000) : ACalls Try.prog 40 [aPrs R, aTm t0, aInt most] (endV (endR (Tm.inn R) most 0 t0)) := by
  unfold endV
  refine ac_rewrite_Last (Nat.le_of_ble_eq_true rfl) fun C hC => ?_
  unfold ir_rewrite_Last
  repeat' (first | (with_reducible first | refine Wa ?_ | refine Wb ?_ | refine Wc ?_ | refine Wd ?_ | refine We ?_ | refine Wf ?_ | refine Wg ?_ | refine Wh ?_ | refine Wi ?_ | refine Wj ?_ | refine Wk (by decide) ?_ | refine Wl ?_ | refine Wm ?_ | refine Wn ?_) | refine CallG.mk _ (copy_a t0 (by omega)) ?_ | ((with_reducible first | refine Wo (fun K hK => ?_) | refine Wp ?_ | refine Wq ?_ | refine Wr ?_); (try simp only [go_sem, List.forall_mem_nil, ↓guard_ite, ↓pick_ite, seval, encT_eq, inR_i64, decide_eq_true_eq, decide_eq_false_iff_not, Int.ofNat_lt]); (repeat with_reducible refine And.intro (by first | omega | (with_reducible first | exact lens_encT | exact lens_encL | exact lens_encB | exact lens_encP) | (simp; done) | (simp only [List.length_take, List.length_map, List.length_append, maxLen_eq]; omega)) ?_); (try (with_reducible refine hK _ ?_; clear hK K)); (try with_reducible refine ite_conj ?_)))
  refine IWP.loopD [10] (fun m s => ∃ (n : Nat) (t : Tm), n ≤ most ∧ m = most - n ∧ endR (Tm.inn R) most 0 t0 = endR (Tm.inn R) (most - n) n t ∧ t.chk = 0 ∧ t.size ≤ 900000 ∧ s.env 0 = aPrs R ∧ s.env 2 = aInt most ∧ s.env 4 = .one (.ptr 4 1 0 0) ∧ s.env 6 = .one (.ptr 6 1 0 0) ∧ s.env 9 = aInt n ∧ s.S 4 = some (boxTt t) ∧ s.S 6 = some boxT0 ∧ s.S 10 = none)
    most ⟨0, t0, by omega, by omega, rfl, hc0, hz0, rfl, rfl, rfl, rfl, rfl, rfl, rfl, rfl⟩ ?_
  rintro m ⟨env, S⟩ ⟨n, t, hn, rfl, hend, hc, hz, e0, e2, e4, e6, e9, s4, s6, s10⟩
  simp only at e0 e2 e4 e6 e9 s4 s6 s10
  rw [hend]
  have hcon := innermost_a hR t hc (by omega)
  cases hs : t.inn R with
  | none =>
    rw [hs] at hcon
    unfold stepV at hcon
    rw [endR_none hs]
    repeat' (first | (with_reducible first | refine Wa ?_ | refine Wb ?_ | refine Wc ?_ | refine Wd ?_ | refine We ?_ | refine Wf ?_ | refine Wg ?_ | refine Wh ?_ | refine Wi ?_ | refine Wj ?_ | refine Wk (by decide) ?_ | refine Wl ?_ | refine Wm ?_ | refine Wn ?_) | refine CallG.mk _ (hcon) ?_ | ((with_reducible first | refine Wo (fun K hK => ?_) | refine Wp ?_ | refine Wq ?_ | refine Wr ?_); (try simp only [go_sem, List.forall_mem_nil, ↓guard_ite, ↓pick_ite, seval, encT_eq, inR_i64, e0, e2, e4, e6, e9, s4, s6, s10, decide_eq_true_eq, decide_eq_false_iff_not, Int.ofNat_lt]); (repeat with_reducible refine And.intro (by first | omega | (with_reducible first | exact lens_encT | exact lens_encL | exact lens_encB | exact lens_encP) | (simp; done) | (simp only [List.length_take, List.length_map, List.length_append, maxLen_eq]; omega)) ?_); (try (with_reducible refine hK _ ?_; clear hK K)); (try with_reducible refine ite_conj ?_)))
    simp only [go_sem, List.forall_mem_nil, ↓guard_ite, ↓pick_ite, seval, FinQ, AS.result, resAll, resOne, tupV, e6, s6]
  | some r =>
    obtain ⟨x, e⟩ := r
    rw [hs] at hcon
    unfold stepV at hcon
    obtain ⟨g1, g2, g3⟩ := inn_good hR hc hs
    by_cases hmost : n = most
    · have hmi : (n : Int) = most := by omega
      rw [show most - n = 0 by omega, endR_zero hs]
      repeat' (first | (with_reducible first | refine Wa ?_ | refine Wb ?_ | refine Wc ?_ | refine Wd ?_ | refine We ?_ | refine Wf ?_ | refine Wg ?_ | refine Wh ?_ | refine Wi ?_ | refine Wj ?_ | refine Wk (by decide) ?_ | refine Wl ?_ | refine Wm ?_ | refine Wn ?_) | refine CallG.mk _ (hcon) ?_ | ((with_reducible first | refine Wo (fun K hK => ?_) | refine Wp ?_ | refine Wq ?_ | refine Wr ?_); (try simp only [go_sem, List.forall_mem_nil, ↓guard_ite, ↓pick_ite, seval, encT_eq, inR_i64, e0, e2, e4, e6, e9, s4, s6, s10, hmi, decide_eq_true_eq, decide_eq_false_iff_not, Int.ofNat_lt]); (repeat with_reducible refine And.intro (by first | omega | (with_reducible first | exact lens_encT | exact lens_encL | exact lens_encB | exact lens_encP) | (simp; done) | (simp only [List.length_take, List.length_map, List.length_append, maxLen_eq]; omega)) ?_); (try (with_reducible refine hK _ ?_; clear hK K)); (try with_reducible refine ite_conj ?_)))
      simp only [go_sem, List.forall_mem_nil, ↓guard_ite, ↓pick_ite, seval, FinQ, AS.result, resAll, resOne, tupV, e6, s6]
      rfl
    have hmi : ¬ (n : Int) = most := by omega
    obtain ⟨k, hk⟩ : ∃ k, most - n = k + 1 := ⟨most - n - 1, by omega⟩
    rw [hk]
    by_cases he : e = 0
    case neg =>
      rw [endR_bad hs he]
      repeat' (first | (with_reducible first | refine Wa ?_ | refine Wb ?_ | refine Wc ?_ | refine Wd ?_ | refine We ?_ | refine Wf ?_ | refine Wg ?_ | refine Wh ?_ | refine Wi ?_ | refine Wj ?_ | refine Wk (by decide) ?_ | refine Wl ?_ | refine Wm ?_ | refine Wn ?_) | refine CallG.mk _ (hcon) ?_ | ((with_reducible first | refine Wo (fun K hK => ?_) | refine Wp ?_ | refine Wq ?_ | refine Wr ?_); (try simp only [go_sem, List.forall_mem_nil, ↓guard_ite, ↓pick_ite, seval, encT_eq, inR_i64, e0, e2, e4, e6, e9, s4, s6, s10, hmi, he, decide_eq_true_eq, decide_eq_false_iff_not, Int.ofNat_lt]); (repeat with_reducible refine And.intro (by first | omega | (with_reducible first | exact lens_encT | exact lens_encL | exact lens_encB | exact lens_encP) | (simp; done) | (simp only [List.length_take, List.length_map, List.length_append, maxLen_eq]; omega)) ?_); (try (with_reducible refine hK _ ?_; clear hK K)); (try with_reducible refine ite_conj ?_)))
      simp only [go_sem, List.forall_mem_nil, ↓guard_ite, ↓pick_ite, seval, FinQ, AS.result, resAll, resOne, tupV, e6, s6]
      rfl
    case pos =>
    subst he
    have hsz := sizeP_a x (by omega)
    by_cases hgr : (2000 : Int) < x.size
    · rw [endR_great hs (by omega)]
      repeat' (first | (with_reducible first | refine Wa ?_ | refine Wb ?_ | refine Wc ?_ | refine Wd ?_ | refine We ?_ | refine Wf ?_ | refine Wg ?_ | refine Wh ?_ | refine Wi ?_ | refine Wj ?_ | refine Wk (by decide) ?_ | refine Wl ?_ | refine Wm ?_ | refine Wn ?_) | refine CallG.mk _ (hcon) ?_ | refine CallG.mk _ (hsz) ?_ | ((with_reducible first | refine Wo (fun K hK => ?_) | refine Wp ?_ | refine Wq ?_ | refine Wr ?_); (try simp only [go_sem, List.forall_mem_nil, ↓guard_ite, ↓pick_ite, seval, encT_eq, inR_i64, e0, e2, e4, e6, e9, s4, s6, s10, hmi, hgr, decide_eq_true_eq, decide_eq_false_iff_not, Int.ofNat_lt]); (repeat with_reducible refine And.intro (by first | omega | (with_reducible first | exact lens_encT | exact lens_encL | exact lens_encB | exact lens_encP) | (simp; done) | (simp only [List.length_take, List.length_map, List.length_append, maxLen_eq]; omega)) ?_); (try (with_reducible refine hK _ ?_; clear hK K)); (try with_reducible refine ite_conj ?_)))
      simp only [go_sem, List.forall_mem_nil, ↓guard_ite, ↓pick_ite, seval, FinQ, AS.result, resAll, resOne, tupV, e6, s6]
      rfl
    · repeat' (first | (with_reducible first | refine Wa ?_ | refine Wb ?_ | refine Wc ?_ | refine Wd ?_ | refine We ?_ | refine Wf ?_ | refine Wg ?_ | refine Wh ?_ | refine Wi ?_ | refine Wj ?_ | refine Wk (by decide) ?_ | refine Wl ?_ | refine Wm ?_ | refine Wn ?_) | refine CallG.mk _ (hcon) ?_ | refine CallG.mk _ (hsz) ?_ | ((with_reducible first | refine Wo (fun K hK => ?_) | refine Wp ?_ | refine Wq ?_ | refine Wr ?_); (try simp only [go_sem, List.forall_mem_nil, ↓guard_ite, ↓pick_ite, seval, encT_eq, inR_i64, e0, e2, e4, e6, e9, s4, s6, s10, hmi, hgr, decide_eq_true_eq, decide_eq_false_iff_not, Int.ofNat_lt]); (repeat with_reducible refine And.intro (by first | omega | (with_reducible first | exact lens_encT | exact lens_encL | exact lens_encB | exact lens_encP) | (simp; done) | (simp only [List.length_take, List.length_map, List.length_append, maxLen_eq]; omega)) ?_); (try (with_reducible refine hK _ ?_; clear hK K)); (try with_reducible refine ite_conj ?_)))
      refine then_normal ⟨most - (n + 1), by omega, n + 1, x, by omega, rfl, ?_, g2 rfl, by omega, ?_⟩
      · rw [show most - (n + 1) = k by omega]
        exact endR_on hs (by omega) k n
      · simp only [go_sem, List.forall_mem_nil, ↓guard_ite, ↓pick_ite, seval, AS.drop, dropS, AC.clears, AC.clear, AC.highs, AC.high, Bool.not_false, Bool.true_and, Bool.and_self, AV.purge, AV.purges, AC.purge, ABlk.purge, List.contains_cons, List.contains_nil, Nat.reduceBEq, Bool.or_self, Bool.or_false, Bool.false_or, Bool.or_true, encT_eq, inR_i64, e0, e2, e4, e6, e9, s4, s6, s10]
        congr 3
/-- The program's way from within, with all questions ahead. -/
def innerOf (R : List Pr) (t : Tm) (m : Int) : Tm × Int × Int := if argsR R t = 0 then (if fuelMay m = 0 then endR (Tm.inn R) m.toNat 0 t else (Tm.nil, 0, fuelMay m)) else (Tm.nil, 0, argsR R t)
def outerOf (R : List Pr) (t : Tm) (m : Int) : Tm × Int × Int := if argsR R t = 0 then (if fuelMay m = 0 then endR (Tm.out R) m.toNat 0 t else (Tm.nil, 0, fuelMay m)) else (Tm.nil, 0, argsR R t)
theorem args_good {R : List Pr} {t : Tm} (h : argsR R t = 0) : GoodRules R ∧ t.chk = 0 ∧ t.size ≤ 200 := by
  unfold argsR at h
  by_cases h0 : rulesMay R = 0
  · rw [if_pos h0] at h
    exact ⟨goodRules h0, Tm.may_chk h⟩
  · rw [if_neg h0] at h
    exact absurd h h0
theorem fuelMay_zero {m : Int} (h : fuelMay m = 0) : 0 ≤ m ∧ m ≤ 400 := by
  unfold fuelMay at h
  split at h
  · cases h
  · omega
theorem inner_a (R : List Pr) (t : Tm) (m : Int) : ACalls Try.prog 17 [aPrs R, aTm t, aInt m] (endV (innerOf R t m)) := by
  unfold innerOf
  refine ac_rewrite_Inner (Nat.le_of_ble_eq_true rfl) fun C hC => ?_
  unfold ir_rewrite_Inner
  by_cases ha : argsR R t = 0
  case neg =>
    rw [if_neg ha]
    unfold endV
    repeat' (first | (with_reducible first | refine Wa ?_ | refine Wb ?_ | refine Wc ?_ | refine Wd ?_ | refine We ?_ | refine Wf ?_ | refine Wg ?_ | refine Wh ?_ | refine Wi ?_ | refine Wj ?_ | refine Wk (by decide) ?_ | refine Wl ?_ | refine Wm ?_ | refine Wn ?_) | refine CallG.mk _ (rewArgs_a R t) ?_ | ((with_reducible first | refine Wo (fun K hK => ?_) | refine Wp ?_ | refine Wq ?_ | refine Wr ?_); (try simp only [go_sem, List.forall_mem_nil, ↓guard_ite, ↓pick_ite, seval, encT_eq, inR_i64, ha, decide_eq_true_eq, decide_eq_false_iff_not, Int.ofNat_lt]); (repeat with_reducible refine And.intro (by first | omega | (with_reducible first | exact lens_encT | exact lens_encL | exact lens_encB | exact lens_encP) | (simp; done) | (simp only [List.length_take, List.length_map, List.length_append, maxLen_eq]; omega)) ?_); (try (with_reducible refine hK _ ?_; clear hK K)); (try with_reducible refine ite_conj ?_)))
    simp only [go_sem, List.forall_mem_nil, ↓guard_ite, ↓pick_ite, seval, FinQ, AS.result, resAll, resOne, tupV]
    rfl
  case pos =>
  rw [if_pos ha]
  by_cases hf : fuelMay m = 0
  case neg =>
    rw [if_neg hf]
    unfold endV
    repeat' (first | (with_reducible first | refine Wa ?_ | refine Wb ?_ | refine Wc ?_ | refine Wd ?_ | refine We ?_ | refine Wf ?_ | refine Wg ?_ | refine Wh ?_ | refine Wi ?_ | refine Wj ?_ | refine Wk (by decide) ?_ | refine Wl ?_ | refine Wm ?_ | refine Wn ?_) | refine CallG.mk _ (rewArgs_a R t) ?_ | refine CallG.mk _ (fuel_a m) ?_ | ((with_reducible first | refine Wo (fun K hK => ?_) | refine Wp ?_ | refine Wq ?_ | refine Wr ?_); (try simp only [go_sem, List.forall_mem_nil, ↓guard_ite, ↓pick_ite, seval, encT_eq, inR_i64, ha, hf, decide_eq_true_eq, decide_eq_false_iff_not, Int.ofNat_lt]); (repeat with_reducible refine And.intro (by first | omega | (with_reducible first | exact lens_encT | exact lens_encL | exact lens_encB | exact lens_encP) | (simp; done) | (simp only [List.length_take, List.length_map, List.length_append, maxLen_eq]; omega)) ?_); (try (with_reducible refine hK _ ?_; clear hK K)); (try with_reducible refine ite_conj ?_)))
    simp only [go_sem, List.forall_mem_nil, ↓guard_ite, ↓pick_ite, seval, FinQ, AS.result, resAll, resOne, tupV]
    rfl
  case pos =>
  rw [if_pos hf]
  obtain ⟨hR, hc, hz⟩ := args_good ha
  obtain ⟨m0, m1⟩ := fuelMay_zero hf
  obtain ⟨n, rfl⟩ : ∃ n : Nat, m = n := ⟨m.toNat, by omega⟩
  rw [Int.toNat_natCast]
  have hl := last_a hR t hc (by omega) n (by omega)
  unfold endV at hl ⊢
  by_cases he : (endR (Tm.inn R) n 0 t).2.2 = 0
  · repeat' (first | (with_reducible first | refine Wa ?_ | refine Wb ?_ | refine Wc ?_ | refine Wd ?_ | refine We ?_ | refine Wf ?_ | refine Wg ?_ | refine Wh ?_ | refine Wi ?_ | refine Wj ?_ | refine Wk (by decide) ?_ | refine Wl ?_ | refine Wm ?_ | refine Wn ?_) | refine CallG.mk _ (rewArgs_a R t) ?_ | refine CallG.mk _ (fuel_a n) ?_ | refine CallG.mk _ (hl) ?_ | ((with_reducible first | refine Wo (fun K hK => ?_) | refine Wp ?_ | refine Wq ?_ | refine Wr ?_); (try simp only [go_sem, List.forall_mem_nil, ↓guard_ite, ↓pick_ite, seval, encT_eq, inR_i64, ha, hf, he, decide_eq_true_eq, decide_eq_false_iff_not, Int.ofNat_lt]); (repeat with_reducible refine And.intro (by first | omega | (with_reducible first | exact lens_encT | exact lens_encL | exact lens_encB | exact lens_encP) | (simp; done) | (simp only [List.length_take, List.length_map, List.length_append, maxLen_eq]; omega)) ?_); (try (with_reducible refine hK _ ?_; clear hK K)); (try with_reducible refine ite_conj ?_)))
    simp only [go_sem, List.forall_mem_nil, ↓guard_ite, ↓pick_ite, seval, FinQ, AS.result, resAll, resOne, tupV]
  · have hbad := endR_err n 0 t he
    generalize endR (Tm.inn R) n 0 t = r at hl he hbad ⊢
    rw [hbad]
    dsimp only
    repeat' (first | (with_reducible first | refine Wa ?_ | refine Wb ?_ | refine Wc ?_ | refine Wd ?_ | refine We ?_ | refine Wf ?_ | refine Wg ?_ | refine Wh ?_ | refine Wi ?_ | refine Wj ?_ | refine Wk (by decide) ?_ | refine Wl ?_ | refine Wm ?_ | refine Wn ?_) | refine CallG.mk _ (rewArgs_a R t) ?_ | refine CallG.mk _ (fuel_a n) ?_ | refine CallG.mk _ (hl) ?_ | ((with_reducible first | refine Wo (fun K hK => ?_) | refine Wp ?_ | refine Wq ?_ | refine Wr ?_); (try simp only [go_sem, List.forall_mem_nil, ↓guard_ite, ↓pick_ite, seval, encT_eq, inR_i64, ha, hf, he, decide_eq_true_eq, decide_eq_false_iff_not, Int.ofNat_lt]); (repeat with_reducible refine And.intro (by first | omega | (with_reducible first | exact lens_encT | exact lens_encL | exact lens_encB | exact lens_encP) | (simp; done) | (simp only [List.length_take, List.length_map, List.length_append, maxLen_eq]; omega)) ?_); (try (with_reducible refine hK _ ?_; clear hK K)); (try with_reducible refine ite_conj ?_)))
    simp only [go_sem, List.forall_mem_nil, ↓guard_ite, ↓pick_ite, seval, FinQ, AS.result, resAll, resOne, tupV]
    rfl
theorem outer_a (R : List Pr) (t0 : Tm) (m : Int) : ACalls Try.prog 18 [aPrs R, aTm t0, aInt m] (endV (outerOf R t0 m)) := by
  unfold outerOf
  refine ac_rewrite_Outer (Nat.le_of_ble_eq_true rfl) fun C hC => ?_
  unfold ir_rewrite_Outer
  by_cases ha : argsR R t0 = 0
  case neg =>
    rw [if_neg ha]
    unfold endV
    repeat' (first | (with_reducible first | refine Wa ?_ | refine Wb ?_ | refine Wc ?_ | refine Wd ?_ | refine We ?_ | refine Wf ?_ | refine Wg ?_ | refine Wh ?_ | refine Wi ?_ | refine Wj ?_ | refine Wk (by decide) ?_ | refine Wl ?_ | refine Wm ?_ | refine Wn ?_) | refine CallG.mk _ (rewArgs_a R t0) ?_ | ((with_reducible first | refine Wo (fun K hK => ?_) | refine Wp ?_ | refine Wq ?_ | refine Wr ?_); (try simp only [go_sem, List.forall_mem_nil, ↓guard_ite, ↓pick_ite, seval, encT_eq, inR_i64, ha, decide_eq_true_eq, decide_eq_false_iff_not, Int.ofNat_lt]); (repeat with_reducible refine And.intro (by first | omega | (with_reducible first | exact lens_encT | exact lens_encL | exact lens_encB | exact lens_encP) | (simp; done) | (simp only [List.length_take, List.length_map, List.length_append, maxLen_eq]; omega)) ?_); (try (with_reducible refine hK _ ?_; clear hK K)); (try with_reducible refine ite_conj ?_)))
    simp only [go_sem, List.forall_mem_nil, ↓guard_ite, ↓pick_ite, seval, FinQ, AS.result, resAll, resOne, tupV]
    rfl
  case pos =>
  rw [if_pos ha]
  by_cases hf : fuelMay m = 0
  case neg =>
    rw [if_neg hf]
    unfold endV
    repeat' (first | (with_reducible first | refine Wa ?_ | refine Wb ?_ | refine Wc ?_ | refine Wd ?_ | refine We ?_ | refine Wf ?_ | refine Wg ?_ | refine Wh ?_ | refine Wi ?_ | refine Wj ?_ | refine Wk (by decide) ?_ | refine Wl ?_ | refine Wm ?_ | refine Wn ?_) | refine CallG.mk _ (rewArgs_a R t0) ?_ | refine CallG.mk _ (fuel_a m) ?_ | ((with_reducible first | refine Wo (fun K hK => ?_) | refine Wp ?_ | refine Wq ?_ | refine Wr ?_); (try simp only [go_sem, List.forall_mem_nil, ↓guard_ite, ↓pick_ite, seval, encT_eq, inR_i64, ha, hf, decide_eq_true_eq, decide_eq_false_iff_not, Int.ofNat_lt]); (repeat with_reducible refine And.intro (by first | omega | (with_reducible first | exact lens_encT | exact lens_encL | exact lens_encB | exact lens_encP) | (simp; done) | (simp only [List.length_take, List.length_map, List.length_append, maxLen_eq]; omega)) ?_); (try (with_reducible refine hK _ ?_; clear hK K)); (try with_reducible refine ite_conj ?_)))
    simp only [go_sem, List.forall_mem_nil, ↓guard_ite, ↓pick_ite, seval, FinQ, AS.result, resAll, resOne, tupV]
    rfl
  case pos =>
  rw [if_pos hf]
  obtain ⟨hR, hc0, hz0⟩ := args_good ha
  obtain ⟨m0, m1⟩ := fuelMay_zero hf
  obtain ⟨most, rfl⟩ : ∃ n : Nat, m = n := ⟨m.toNat, by omega⟩
  rw [Int.toNat_natCast]
  unfold endV
  repeat' (first | (with_reducible first | refine Wa ?_ | refine Wb ?_ | refine Wc ?_ | refine Wd ?_ | refine We ?_ | refine Wf ?_ | refine Wg ?_ | refine Wh ?_ | refine Wi ?_ | refine Wj ?_ | refine Wk (by decide) ?_ | refine Wl ?_ | refine Wm ?_ | refine Wn ?_) | refine CallG.mk _ (rewArgs_a R t0) ?_ | refine CallG.mk _ (fuel_a most) ?_ | refine CallG.mk _ (copy_a t0 (by omega)) ?_ | ((with_reducible first | refine Wo (fun K hK => ?_) | refine Wp ?_ | refine Wq ?_ | refine Wr ?_); (try simp only [go_sem, List.forall_mem_nil, ↓guard_ite, ↓pick_ite, seval, encT_eq, inR_i64, ha, hf, decide_eq_true_eq, decide_eq_false_iff_not, Int.ofNat_lt]); (repeat with_reducible refine And.intro (by first | omega | (with_reducible first | exact lens_encT | exact lens_encL | exact lens_encB | exact lens_encP) | (simp; done) | (simp only [List.length_take, List.length_map, List.length_append, maxLen_eq]; omega)) ?_); (try (with_reducible refine hK _ ?_; clear hK K)); (try with_reducible refine ite_conj ?_)))
  refine IWP.loopD [11] (fun m s => ∃ (n : Nat) (t : Tm), n ≤ most ∧ m = most - n ∧ endR (Tm.out R) most 0 t0 = endR (Tm.out R) (most - n) n t ∧ t.chk = 0 ∧ t.size ≤ 900000 ∧ s.env 0 = aPrs R ∧ s.env 2 = aInt most ∧ s.env 4 = .one (.ptr 4 1 0 0) ∧ s.env 6 = .one (.ptr 6 1 0 0) ∧ s.env 10 = aInt n ∧ s.S 4 = some (boxTt t) ∧ s.S 6 = some boxT0 ∧ s.S 11 = none)
    most ⟨0, t0, by omega, by omega, rfl, hc0, by omega, rfl, rfl, rfl, rfl, rfl, rfl, rfl, rfl⟩ ?_
  rintro m ⟨env, S⟩ ⟨n, t, hn, rfl, hend, hc, hz, e0, e2, e4, e6, e10, s4, s6, s11⟩
  simp only at e0 e2 e4 e6 e10 s4 s6 s11
  rw [hend]
  have hcon := outermost_a hR t hc (by omega)
  cases hs : t.out R with
  | none =>
    rw [hs] at hcon
    unfold stepV at hcon
    rw [endR_none hs]
    repeat' (first | (with_reducible first | refine Wa ?_ | refine Wb ?_ | refine Wc ?_ | refine Wd ?_ | refine We ?_ | refine Wf ?_ | refine Wg ?_ | refine Wh ?_ | refine Wi ?_ | refine Wj ?_ | refine Wk (by decide) ?_ | refine Wl ?_ | refine Wm ?_ | refine Wn ?_) | refine CallG.mk _ (hcon) ?_ | ((with_reducible first | refine Wo (fun K hK => ?_) | refine Wp ?_ | refine Wq ?_ | refine Wr ?_); (try simp only [go_sem, List.forall_mem_nil, ↓guard_ite, ↓pick_ite, seval, encT_eq, inR_i64, e0, e2, e4, e6, e10, s4, s6, s11, decide_eq_true_eq, decide_eq_false_iff_not, Int.ofNat_lt]); (repeat with_reducible refine And.intro (by first | omega | (with_reducible first | exact lens_encT | exact lens_encL | exact lens_encB | exact lens_encP) | (simp; done) | (simp only [List.length_take, List.length_map, List.length_append, maxLen_eq]; omega)) ?_); (try (with_reducible refine hK _ ?_; clear hK K)); (try with_reducible refine ite_conj ?_)))
    simp only [go_sem, List.forall_mem_nil, ↓guard_ite, ↓pick_ite, seval, FinQ, AS.result, resAll, resOne, tupV, e6, s6]
  | some r =>
    obtain ⟨x, e⟩ := r
    rw [hs] at hcon
    unfold stepV at hcon
    obtain ⟨g1, g2, g3⟩ := out_good hR hc hs
    by_cases hmost : n = most
    · have hmi : (n : Int) = most := by omega
      rw [show most - n = 0 by omega, endR_zero hs]
      repeat' (first | (with_reducible first | refine Wa ?_ | refine Wb ?_ | refine Wc ?_ | refine Wd ?_ | refine We ?_ | refine Wf ?_ | refine Wg ?_ | refine Wh ?_ | refine Wi ?_ | refine Wj ?_ | refine Wk (by decide) ?_ | refine Wl ?_ | refine Wm ?_ | refine Wn ?_) | refine CallG.mk _ (hcon) ?_ | ((with_reducible first | refine Wo (fun K hK => ?_) | refine Wp ?_ | refine Wq ?_ | refine Wr ?_); (try simp only [go_sem, List.forall_mem_nil, ↓guard_ite, ↓pick_ite, seval, encT_eq, inR_i64, e0, e2, e4, e6, e10, s4, s6, s11, hmi, decide_eq_true_eq, decide_eq_false_iff_not, Int.ofNat_lt]); (repeat with_reducible refine And.intro (by first | omega | (with_reducible first | exact lens_encT | exact lens_encL | exact lens_encB | exact lens_encP) | (simp; done) | (simp only [List.length_take, List.length_map, List.length_append, maxLen_eq]; omega)) ?_); (try (with_reducible refine hK _ ?_; clear hK K)); (try with_reducible refine ite_conj ?_)))
      simp only [go_sem, List.forall_mem_nil, ↓guard_ite, ↓pick_ite, seval, FinQ, AS.result, resAll, resOne, tupV, e6, s6]
      rfl
    have hmi : ¬ (n : Int) = most := by omega
    obtain ⟨k, hk⟩ : ∃ k, most - n = k + 1 := ⟨most - n - 1, by omega⟩
    rw [hk]
    by_cases he : e = 0
    case neg =>
      rw [endR_bad hs he]
      repeat' (first | (with_reducible first | refine Wa ?_ | refine Wb ?_ | refine Wc ?_ | refine Wd ?_ | refine We ?_ | refine Wf ?_ | refine Wg ?_ | refine Wh ?_ | refine Wi ?_ | refine Wj ?_ | refine Wk (by decide) ?_ | refine Wl ?_ | refine Wm ?_ | refine Wn ?_) | refine CallG.mk _ (hcon) ?_ | ((with_reducible first | refine Wo (fun K hK => ?_) | refine Wp ?_ | refine Wq ?_ | refine Wr ?_); (try simp only [go_sem, List.forall_mem_nil, ↓guard_ite, ↓pick_ite, seval, encT_eq, inR_i64, e0, e2, e4, e6, e10, s4, s6, s11, hmi, he, decide_eq_true_eq, decide_eq_false_iff_not, Int.ofNat_lt]); (repeat with_reducible refine And.intro (by first | omega | (with_reducible first | exact lens_encT | exact lens_encL | exact lens_encB | exact lens_encP) | (simp; done) | (simp only [List.length_take, List.length_map, List.length_append, maxLen_eq]; omega)) ?_); (try (with_reducible refine hK _ ?_; clear hK K)); (try with_reducible refine ite_conj ?_)))
      simp only [go_sem, List.forall_mem_nil, ↓guard_ite, ↓pick_ite, seval, FinQ, AS.result, resAll, resOne, tupV, e6, s6]
      rfl
    case pos =>
    subst he
    have hsz := sizeP_a x (by omega)
    by_cases hgr : (2000 : Int) < x.size
    · rw [endR_great hs (by omega)]
      repeat' (first | (with_reducible first | refine Wa ?_ | refine Wb ?_ | refine Wc ?_ | refine Wd ?_ | refine We ?_ | refine Wf ?_ | refine Wg ?_ | refine Wh ?_ | refine Wi ?_ | refine Wj ?_ | refine Wk (by decide) ?_ | refine Wl ?_ | refine Wm ?_ | refine Wn ?_) | refine CallG.mk _ (hcon) ?_ | refine CallG.mk _ (copy_a x (by omega)) ?_ | refine CallG.mk _ (hsz) ?_ | ((with_reducible first | refine Wo (fun K hK => ?_) | refine Wp ?_ | refine Wq ?_ | refine Wr ?_); (try simp only [go_sem, List.forall_mem_nil, ↓guard_ite, ↓pick_ite, seval, encT_eq, inR_i64, e0, e2, e4, e6, e10, s4, s6, s11, hmi, hgr, decide_eq_true_eq, decide_eq_false_iff_not, Int.ofNat_lt]); (repeat with_reducible refine And.intro (by first | omega | (with_reducible first | exact lens_encT | exact lens_encL | exact lens_encB | exact lens_encP) | (simp; done) | (simp only [List.length_take, List.length_map, List.length_append, maxLen_eq]; omega)) ?_); (try (with_reducible refine hK _ ?_; clear hK K)); (try with_reducible refine ite_conj ?_)))
      simp only [go_sem, List.forall_mem_nil, ↓guard_ite, ↓pick_ite, seval, FinQ, AS.result, resAll, resOne, tupV, e6, s6]
      rfl
    · repeat' (first | (with_reducible first | refine Wa ?_ | refine Wb ?_ | refine Wc ?_ | refine Wd ?_ | refine We ?_ | refine Wf ?_ | refine Wg ?_ | refine Wh ?_ | refine Wi ?_ | refine Wj ?_ | refine Wk (by decide) ?_ | refine Wl ?_ | refine Wm ?_ | refine Wn ?_) | refine CallG.mk _ (hcon) ?_ | refine CallG.mk _ (copy_a x (by omega)) ?_ | refine CallG.mk _ (hsz) ?_ | ((with_reducible first | refine Wo (fun K hK => ?_) | refine Wp ?_ | refine Wq ?_ | refine Wr ?_); (try simp only [go_sem, List.forall_mem_nil, ↓guard_ite, ↓pick_ite, seval, encT_eq, inR_i64, e0, e2, e4, e6, e10, s4, s6, s11, hmi, hgr, decide_eq_true_eq, decide_eq_false_iff_not, Int.ofNat_lt]); (repeat with_reducible refine And.intro (by first | omega | (with_reducible first | exact lens_encT | exact lens_encL | exact lens_encB | exact lens_encP) | (simp; done) | (simp only [List.length_take, List.length_map, List.length_append, maxLen_eq]; omega)) ?_); (try (with_reducible refine hK _ ?_; clear hK K)); (try with_reducible refine ite_conj ?_)))
      refine then_normal ⟨most - (n + 1), by omega, n + 1, x, by omega, rfl, ?_, g2 rfl, by omega, ?_⟩
      · rw [show most - (n + 1) = k by omega]
        exact endR_on hs (by omega) k n
      · simp only [go_sem, List.forall_mem_nil, ↓guard_ite, ↓pick_ite, seval, AS.drop, dropS, AC.clears, AC.clear, AC.highs, AC.high, Bool.not_false, Bool.true_and, Bool.and_self, AV.purge, AV.purges, AC.purge, ABlk.purge, List.contains_cons, List.contains_nil, Nat.reduceBEq, Bool.or_self, Bool.or_false, Bool.false_or, Bool.or_true, encT_eq, inR_i64, e0, e2, e4, e6, e10, s4, s6, s11]
        congr 3
theorem met_a {R : List Pr} (hR : GoodRules R) (a b : Tm) (ha : a.chk = 0) (hb : b.chk = 0) (za : a.size ≤ 900000) (zb : b.size ≤ 900000) (most : Nat) (hm : most ≤ 1000000) : ACalls Try.prog 45 [aPrs R, aTm a, aTm b, aInt most] (.tup [aBool (metOf R most a b).1, aInt (metOf R most a b).2]) := by
  have l1 := last_a hR a ha za most hm
  have l2 := last_a hR b hb zb most hm
  have hmet : metOf R most a b = if (endR (Tm.inn R) most 0 a).2.2 ≠ 0 then (false, (endR (Tm.inn R) most 0 a).2.2) else if (endR (Tm.inn R) most 0 b).2.2 ≠ 0 then (false, (endR (Tm.inn R) most 0 b).2.2) else ((endR (Tm.inn R) most 0 a).1.beq (endR (Tm.inn R) most 0 b).1, 0) := rfl
  rw [hmet]
  unfold endV at l1 l2
  generalize endR (Tm.inn R) most 0 a = x at *
  generalize endR (Tm.inn R) most 0 b = y at *
  clear hmet
  refine ac_rewrite_Met (Nat.le_of_ble_eq_true rfl) fun C hC => ?_
  unfold ir_rewrite_Met
  by_cases h1 : x.2.2 = 0
  case neg =>
    rw [if_pos h1]
    repeat' (first | (with_reducible first | refine Wa ?_ | refine Wb ?_ | refine Wc ?_ | refine Wd ?_ | refine We ?_ | refine Wf ?_ | refine Wg ?_ | refine Wh ?_ | refine Wi ?_ | refine Wj ?_ | refine Wk (by decide) ?_ | refine Wl ?_ | refine Wm ?_ | refine Wn ?_) | refine CallG.mk _ (l1) ?_ | ((with_reducible first | refine Wo (fun K hK => ?_) | refine Wp ?_ | refine Wq ?_ | refine Wr ?_); (try simp only [go_sem, List.forall_mem_nil, ↓guard_ite, ↓pick_ite, seval, encT_eq, inR_i64, h1, decide_eq_true_eq, decide_eq_false_iff_not, Int.ofNat_lt]); (repeat with_reducible refine And.intro (by first | omega | (with_reducible first | exact lens_encT | exact lens_encL | exact lens_encB | exact lens_encP) | (simp; done) | (simp only [List.length_take, List.length_map, List.length_append, maxLen_eq]; omega)) ?_); (try (with_reducible refine hK _ ?_; clear hK K)); (try with_reducible refine ite_conj ?_)))
    simp only [go_sem, List.forall_mem_nil, ↓guard_ite, ↓pick_ite, seval, FinQ, AS.result, resAll, resOne, tupV]
  case pos =>
  rw [if_neg (fun h => h h1)]
  by_cases h2 : y.2.2 = 0
  case neg =>
    rw [if_pos h2]
    repeat' (first | (with_reducible first | refine Wa ?_ | refine Wb ?_ | refine Wc ?_ | refine Wd ?_ | refine We ?_ | refine Wf ?_ | refine Wg ?_ | refine Wh ?_ | refine Wi ?_ | refine Wj ?_ | refine Wk (by decide) ?_ | refine Wl ?_ | refine Wm ?_ | refine Wn ?_) | refine CallG.mk _ (l1) ?_ | refine CallG.mk _ (l2) ?_ | ((with_reducible first | refine Wo (fun K hK => ?_) | refine Wp ?_ | refine Wq ?_ | refine Wr ?_); (try simp only [go_sem, List.forall_mem_nil, ↓guard_ite, ↓pick_ite, seval, encT_eq, inR_i64, h1, h2, decide_eq_true_eq, decide_eq_false_iff_not, Int.ofNat_lt]); (repeat with_reducible refine And.intro (by first | omega | (with_reducible first | exact lens_encT | exact lens_encL | exact lens_encB | exact lens_encP) | (simp; done) | (simp only [List.length_take, List.length_map, List.length_append, maxLen_eq]; omega)) ?_); (try (with_reducible refine hK _ ?_; clear hK K)); (try with_reducible refine ite_conj ?_)))
    simp only [go_sem, List.forall_mem_nil, ↓guard_ite, ↓pick_ite, seval, FinQ, AS.result, resAll, resOne, tupV]
  case pos =>
  rw [if_neg (fun h => h h2)]
  repeat' (first | (with_reducible first | refine Wa ?_ | refine Wb ?_ | refine Wc ?_ | refine Wd ?_ | refine We ?_ | refine Wf ?_ | refine Wg ?_ | refine Wh ?_ | refine Wi ?_ | refine Wj ?_ | refine Wk (by decide) ?_ | refine Wl ?_ | refine Wm ?_ | refine Wn ?_) | refine CallG.mk _ (l1) ?_ | refine CallG.mk _ (l2) ?_ | refine CallG.mk _ (same_a x.1 y.1) ?_ | ((with_reducible first | refine Wo (fun K hK => ?_) | refine Wp ?_ | refine Wq ?_ | refine Wr ?_); (try simp only [go_sem, List.forall_mem_nil, ↓guard_ite, ↓pick_ite, seval, encT_eq, inR_i64, h1, h2, decide_eq_true_eq, decide_eq_false_iff_not, Int.ofNat_lt]); (repeat with_reducible refine And.intro (by first | omega | (with_reducible first | exact lens_encT | exact lens_encL | exact lens_encB | exact lens_encP) | (simp; done) | (simp only [List.length_take, List.length_map, List.length_append, maxLen_eq]; omega)) ?_); (try (with_reducible refine hK _ ?_; clear hK K)); (try with_reducible refine ite_conj ?_)))
  simp only [go_sem, List.forall_mem_nil, ↓guard_ite, ↓pick_ite, seval, FinQ, AS.result, resAll, resOne, tupV]
def meetOf (R : List Pr) (a b : Tm) (m : Int) : Bool × Int := if argsR R a = 0 then (if b.may = 0 then (if fuelMay m = 0 then metOf R m.toNat a b else (false, fuelMay m)) else (false, b.may)) else (false, argsR R a)
theorem meet_a (R : List Pr) (a b : Tm) (m : Int) : ACalls Try.prog 19 [aPrs R, aTm a, aTm b, aInt m] (.tup [aBool (meetOf R a b m).1, aInt (meetOf R a b m).2]) := by
  unfold meetOf
  refine ac_rewrite_Meet (Nat.le_of_ble_eq_true rfl) fun C hC => ?_
  unfold ir_rewrite_Meet
  by_cases ha : argsR R a = 0
  case neg =>
    rw [if_neg ha]
    repeat' (first | (with_reducible first | refine Wa ?_ | refine Wb ?_ | refine Wc ?_ | refine Wd ?_ | refine We ?_ | refine Wf ?_ | refine Wg ?_ | refine Wh ?_ | refine Wi ?_ | refine Wj ?_ | refine Wk (by decide) ?_ | refine Wl ?_ | refine Wm ?_ | refine Wn ?_) | refine CallG.mk _ (rewArgs_a R a) ?_ | ((with_reducible first | refine Wo (fun K hK => ?_) | refine Wp ?_ | refine Wq ?_ | refine Wr ?_); (try simp only [go_sem, List.forall_mem_nil, ↓guard_ite, ↓pick_ite, seval, encT_eq, inR_i64, ha, decide_eq_true_eq, decide_eq_false_iff_not, Int.ofNat_lt]); (repeat with_reducible refine And.intro (by first | omega | (with_reducible first | exact lens_encT | exact lens_encL | exact lens_encB | exact lens_encP) | (simp; done) | (simp only [List.length_take, List.length_map, List.length_append, maxLen_eq]; omega)) ?_); (try (with_reducible refine hK _ ?_; clear hK K)); (try with_reducible refine ite_conj ?_)))
    simp only [go_sem, List.forall_mem_nil, ↓guard_ite, ↓pick_ite, seval, FinQ, AS.result, resAll, resOne, tupV]
  case pos =>
  rw [if_pos ha]
  by_cases hb : b.may = 0
  case neg =>
    rw [if_neg hb]
    repeat' (first | (with_reducible first | refine Wa ?_ | refine Wb ?_ | refine Wc ?_ | refine Wd ?_ | refine We ?_ | refine Wf ?_ | refine Wg ?_ | refine Wh ?_ | refine Wi ?_ | refine Wj ?_ | refine Wk (by decide) ?_ | refine Wl ?_ | refine Wm ?_ | refine Wn ?_) | refine CallG.mk _ (rewArgs_a R a) ?_ | refine CallG.mk _ (checkT_a b) ?_ | ((with_reducible first | refine Wo (fun K hK => ?_) | refine Wp ?_ | refine Wq ?_ | refine Wr ?_); (try simp only [go_sem, List.forall_mem_nil, ↓guard_ite, ↓pick_ite, seval, encT_eq, inR_i64, ha, hb, decide_eq_true_eq, decide_eq_false_iff_not, Int.ofNat_lt]); (repeat with_reducible refine And.intro (by first | omega | (with_reducible first | exact lens_encT | exact lens_encL | exact lens_encB | exact lens_encP) | (simp; done) | (simp only [List.length_take, List.length_map, List.length_append, maxLen_eq]; omega)) ?_); (try (with_reducible refine hK _ ?_; clear hK K)); (try with_reducible refine ite_conj ?_)))
    simp only [go_sem, List.forall_mem_nil, ↓guard_ite, ↓pick_ite, seval, FinQ, AS.result, resAll, resOne, tupV]
  case pos =>
  rw [if_pos hb]
  by_cases hf : fuelMay m = 0
  case neg =>
    rw [if_neg hf]
    repeat' (first | (with_reducible first | refine Wa ?_ | refine Wb ?_ | refine Wc ?_ | refine Wd ?_ | refine We ?_ | refine Wf ?_ | refine Wg ?_ | refine Wh ?_ | refine Wi ?_ | refine Wj ?_ | refine Wk (by decide) ?_ | refine Wl ?_ | refine Wm ?_ | refine Wn ?_) | refine CallG.mk _ (rewArgs_a R a) ?_ | refine CallG.mk _ (checkT_a b) ?_ | refine CallG.mk _ (fuel_a m) ?_ | ((with_reducible first | refine Wo (fun K hK => ?_) | refine Wp ?_ | refine Wq ?_ | refine Wr ?_); (try simp only [go_sem, List.forall_mem_nil, ↓guard_ite, ↓pick_ite, seval, encT_eq, inR_i64, ha, hb, hf, decide_eq_true_eq, decide_eq_false_iff_not, Int.ofNat_lt]); (repeat with_reducible refine And.intro (by first | omega | (with_reducible first | exact lens_encT | exact lens_encL | exact lens_encB | exact lens_encP) | (simp; done) | (simp only [List.length_take, List.length_map, List.length_append, maxLen_eq]; omega)) ?_); (try (with_reducible refine hK _ ?_; clear hK K)); (try with_reducible refine ite_conj ?_)))
    simp only [go_sem, List.forall_mem_nil, ↓guard_ite, ↓pick_ite, seval, FinQ, AS.result, resAll, resOne, tupV]
  case pos =>
  rw [if_pos hf]
  obtain ⟨hR, hc, hz⟩ := args_good ha
  obtain ⟨hcb, hzb⟩ := Tm.may_chk hb
  obtain ⟨m0, m1⟩ := fuelMay_zero hf
  obtain ⟨n, rfl⟩ : ∃ n : Nat, m = n := ⟨m.toNat, by omega⟩
  rw [Int.toNat_natCast]
  have hmet := met_a hR a b hc hcb (by omega) (by omega) n (by omega)
  repeat' (first | (with_reducible first | refine Wa ?_ | refine Wb ?_ | refine Wc ?_ | refine Wd ?_ | refine We ?_ | refine Wf ?_ | refine Wg ?_ | refine Wh ?_ | refine Wi ?_ | refine Wj ?_ | refine Wk (by decide) ?_ | refine Wl ?_ | refine Wm ?_ | refine Wn ?_) | refine CallG.mk _ (rewArgs_a R a) ?_ | refine CallG.mk _ (checkT_a b) ?_ | refine CallG.mk _ (fuel_a n) ?_ | refine CallG.mk _ (hmet) ?_ | ((with_reducible first | refine Wo (fun K hK => ?_) | refine Wp ?_ | refine Wq ?_ | refine Wr ?_); (try simp only [go_sem, List.forall_mem_nil, ↓guard_ite, ↓pick_ite, seval, encT_eq, inR_i64, ha, hb, hf, decide_eq_true_eq, decide_eq_false_iff_not, Int.ofNat_lt]); (repeat with_reducible refine And.intro (by first | omega | (with_reducible first | exact lens_encT | exact lens_encL | exact lens_encB | exact lens_encP) | (simp; done) | (simp only [List.length_take, List.length_map, List.length_append, maxLen_eq]; omega)) ?_); (try (with_reducible refine hK _ ?_; clear hK K)); (try with_reducible refine ite_conj ?_)))
  simp only [go_sem, List.forall_mem_nil, ↓guard_ite, ↓pick_ite, seval, FinQ, AS.result, resAll, resOne, tupV]
end Go.Proofs.Ytkekmeiiikkabaa

namespace Go.Proofs.Ytkekmeiiikkabaa
open Go Go.RowKit
set_option maxRecDepth 100000

def ir_R_AtOf : IR :=
  (.seq
  (.ops
  [.mk (some 2) none (.box 25 (.t 0)) .no, .mk (some 4) none
  (.alloc 25 [.st (.str (ByteArray.mk (#[]))), .full []]) .no, .mk (some 5) none (.mov (.c (.one (.st (.bool false)))))
  .no])
  (.seq
  (.seq
  (.ops
  [.mk (some 6) none (.mov (.t 1)) .no, .mk (some 7) none (.len false (.t 6)) .no, .mk (some 8) none (.bin .eql (.t 7) (.c (.one (.st (.int .i64 0)))))
  .no])
  (.cond (.t 8)
  (.seq
  (.ops
  [.mk (some 9) none (.load true 2 (.t 2)) .no, .mk none none (.store 2 (.t 4) (.t 9)) .no, .mk (some 5) none (.mov (.c (.one (.st (.bool true)))))
  .no])
  .ret)
  .skip))
  (.seq
  (.seq
  (.ops
  [.mk (some 10) none (.mov (.t 1)) .no, .mk (some 11) none
  (.indexAddr 1 (.t 10) (.c (.one (.st (.int .i64 0)))))
  .no, .mk (some 12) none (.load false 1 (.t 11)) .no, .mk (some 13) none (.bin .lss (.t 12) (.c (.one (.st (.int .i64 0)))))
  .no, .mk (some 14) none (.mov (.t 13)) .no, .mk (some 15) (some (14, false)) (.mov (.t 1)) .no, .mk (some 16) (some (14, false))
  (.indexAddr 1 (.t 15) (.c (.one (.st (.int .i64 0)))))
  .no, .mk (some 17) (some (14, false)) (.load false 1 (.t 16)) .no, .mk (some 18) (some (14, false)) (.fieldAddr 1 (.t 2)) .no, .mk (some 19) (some (14, false)) (.load false 1 (.t 18)) .no, .mk (some 20) (some (14, false)) (.len false (.t 19)) .no, .mk (some 21) (some (14, false)) (.bin .geq (.t 17) (.t 20))
  .no, .mk (some 22) none
  (.pick (.t 14) (.c (.one (.st (.bool true)))) (.t 21))
  .no])
  (.cond (.t 22)
  (.seq
  (.ops
  [.mk (some 23) none
  (.build [.st (.str (ByteArray.mk (#[]))), .full []] [])
  .no, .mk none none (.store 2 (.t 4) (.t 23)) .no, .mk (some 5) none (.mov (.c (.one (.st (.bool false)))))
  .no])
  .ret)
  .skip))
  (.seq
  (.ops
  [.mk (some 24) none (.fieldAddr 1 (.t 2)) .no, .mk (some 25) none (.load false 1 (.t 24)) .no, .mk (some 26) none (.mov (.t 1)) .no, .mk (some 27) none
  (.indexAddr 1 (.t 26) (.c (.one (.st (.int .i64 0)))))
  .no, .mk (some 28) none (.load false 1 (.t 27)) .no, .mk (some 29) none (.indexAddr 2 (.t 25) (.t 28))
  .no, .mk (some 30) none (.load true 2 (.t 29)) .no, .mk (some 31) none (.mov (.t 1)) .no, .mk (some 32) none
  (.sliceL 1 (.t 31)
  (some (.c (.one (.st (.int .i64 1))))) none)
  .no, .mk (some 33) none (.call 27 [.t 30, .t 32]) .no, .mk (some 34) none (.extract 0 (.t 33)) .no, .mk (some 35) none (.extract 1 (.t 33)) .no, .mk none none (.store 2 (.t 4) (.t 34)) .no, .mk (some 5) none (.mov (.t 35)) .no])
  .ret))))
theorem tr_R_AtOf : trCode Try.prog 36 [] (Try.f27.body.getD .skip) = some ir_R_AtOf := by kernel_rfl
theorem ac_R_AtOf {xs : List AV} {r : AV} (hn : xs.length ≤ 36) (h : ∀ C : Ctx, C.n = 36 → IWP Try.prog C [] ir_R_AtOf (FinQ [.cell 4 true 2, .t 5] r) (AS.start xs)) : ACalls Try.prog 27 xs r :=
  acalls_of Try.func27 rfl tr_R_AtOf rfl hn h
def ir_R_PutOf : IR :=
  (.seq
  (.ops
  [.mk (some 3) none (.box 25 (.t 0)) .no, .mk (some 5) none (.box 25 (.t 2)) .no, .mk (some 6) none
  (.alloc 25 [.st (.str (ByteArray.mk (#[]))), .full []]) .no])
  (.seq
  (.seq
  (.ops
  [.mk (some 9) none (.mov (.t 1)) .no, .mk (some 10) none (.len false (.t 9)) .no, .mk (some 11) none (.bin .eql (.t 10) (.c (.one (.st (.int .i64 0)))))
  .no])
  (.cond (.t 11)
  (.seq
  (.ops
  [.mk (some 12) none (.load true 2 (.t 5)) .no, .mk none none (.store 2 (.t 6) (.t 12)) .no])
  .ret)
  .skip))
  (.seq
  (.ops
  [.mk (some 13) none (.fieldAddr 0 (.t 3)) .no, .mk (some 14) none (.load false 1 (.t 13)) .no, .mk (some 15) none
  (.build [.st (.str (ByteArray.mk (#[]))), .full []]
  [(0, 1, .t 14)])
  .no, .mk (some 7) none
  (.alloc 25 [.st (.str (ByteArray.mk (#[]))), .full []]) .no, .mk none none (.store 2 (.t 7) (.t 15)) .no])
  (.seq
  (.seq
  (.ops
  [.mk (some 8) none (.mov (.c (.one (.st (.int .i64 0)))))
  .no])
  (.block 0
  (.loop
  (.seq
  (.seq
  (.ops
  [.mk (some 16) none (.mov (.t 8)) .no, .mk (some 17) none (.fieldAddr 1 (.t 3)) .no, .mk (some 18) none (.load false 1 (.t 17)) .no, .mk (some 19) none (.len false (.t 18)) .no, .mk (some 20) none (.bin .lss (.t 16) (.t 19))
  .no])
  (.cond (.t 20) .skip (.exit 0)))
  (.seq
  (.block 1
  (.seq
  (.ops
  [.mk (some 23) none (.mov (.t 8)) .no, .mk (some 24) none (.mov (.t 1)) .no, .mk (some 25) none
  (.indexAddr 1 (.t 24) (.c (.one (.st (.int .i64 0)))))
  .no, .mk (some 26) none (.load false 1 (.t 25)) .no, .mk (some 27) none (.bin .eql (.t 23) (.t 26))
  .no])
  (.cond (.t 27)
  (.ops
  [.mk (some 28) none (.fieldAddr 1 (.t 7)) .no, .mk (some 29) none (.load false 1 (.t 28)) .no, .mk (some 30) none (.fieldAddr 1 (.t 3)) .no, .mk (some 31) none (.load false 1 (.t 30)) .no, .mk (some 32) none (.mov (.t 8)) .no, .mk (some 33) none (.indexAddr 2 (.t 31) (.t 32))
  .no, .mk (some 34) none (.load true 2 (.t 33)) .no, .mk (some 35) none (.mov (.t 1)) .no, .mk (some 36) none
  (.sliceL 1 (.t 35)
  (some (.c (.one (.st (.int .i64 1))))) none)
  .no, .mk (some 37) none (.load true 2 (.t 5)) .no, .mk (some 38) none (.call 29 [.t 34, .t 36, .t 37]) .no, .mk (some 39) none (.buildSlice false 25 2 [.t 38]) .no, .mk (some 40) none (.append false 25 2 40 (.t 29) (.t 39))
  .no, .mk (some 41) none (.fieldAddr 1 (.t 7)) .no, .mk none none (.store 1 (.t 41) (.t 40))
  .no])
  (.ops
  [.mk (some 42) none (.fieldAddr 1 (.t 7)) .no, .mk (some 43) none (.load false 1 (.t 42)) .no, .mk (some 44) none (.fieldAddr 1 (.t 3)) .no, .mk (some 45) none (.load false 1 (.t 44)) .no, .mk (some 46) none (.mov (.t 8)) .no, .mk (some 47) none (.indexAddr 2 (.t 45) (.t 46))
  .no, .mk (some 48) none (.load true 2 (.t 47)) .no, .mk (some 49) none (.buildSlice false 25 2 [.t 48]) .no, .mk (some 50) none (.append false 25 2 40 (.t 43) (.t 49))
  .no, .mk (some 51) none (.fieldAddr 1 (.t 7)) .no, .mk none none (.store 1 (.t 51) (.t 50))
  .no]))))
  (.ops
  [.mk (some 21) none (.mov (.t 8)) .no, .mk (some 22) none (.bin .add (.t 21) (.c (.one (.st (.int .i64 1)))))
  .no, .mk (some 8) none (.mov (.t 22)) .no]))))))
  (.seq
  (.ops
  [.mk (some 52) none (.load true 2 (.t 7)) .no, .mk none none (.store 2 (.t 6) (.t 52)) .no])
  .ret)))))
theorem tr_R_PutOf : trCode Try.prog 53 [] (Try.f29.body.getD .skip) = some ir_R_PutOf := by kernel_rfl
theorem ac_R_PutOf {xs : List AV} {r : AV} (hn : xs.length ≤ 53) (h : ∀ C : Ctx, C.n = 53 → IWP Try.prog C [] ir_R_PutOf (FinQ [.cell 6 true 2] r) (AS.start xs)) : ACalls Try.prog 29 xs r :=
  acalls_of Try.func29 rfl tr_R_PutOf rfl hn h
def ir_R_PlacesOf : IR :=
  (.seq
  (.ops
  [.mk (some 1) none (.box 25 (.t 0)) .no, .mk (some 2) none (.mov (.c (.one (.full []))))
  .no])
  (.seq
  (.ops
  [.mk (some 7) none
  (.buildSlice false 55 1 [.c (.one (.full []))]) .no, .mk (some 3) none (.mov (.t 7)) .no])
  (.seq
  (.seq
  (.ops
  [.mk (some 4) none (.mov (.c (.one (.st (.int .i64 0)))))
  .no])
  (.block 0
  (.loop
  (.seq
  (.seq
  (.ops
  [.mk (some 8) none (.mov (.t 4)) .no, .mk (some 9) none (.fieldAddr 1 (.t 1)) .no, .mk (some 10) none (.load false 1 (.t 9)) .no, .mk (some 11) none (.len false (.t 10)) .no, .mk (some 12) none (.bin .lss (.t 8) (.t 11))
  .no])
  (.cond (.t 12) .skip (.exit 0)))
  (.seq
  (.block 1
  (.seq
  (.ops
  [.mk (some 15) none (.fieldAddr 1 (.t 1)) .no, .mk (some 16) none (.load false 1 (.t 15)) .no, .mk (some 17) none (.mov (.t 4)) .no, .mk (some 18) none (.indexAddr 2 (.t 16) (.t 17))
  .no, .mk (some 19) none (.load true 2 (.t 18)) .no, .mk (some 20) none (.call 26 [.t 19]) .no, .mk (some 5) none (.mov (.t 20)) .no])
  (.seq
  (.ops
  [.mk (some 6) none (.mov (.c (.one (.st (.int .i64 0)))))
  .no])
  (.block 2
  (.loop
  (.seq
  (.seq
  (.ops
  [.mk (some 21) none (.mov (.t 6)) .no, .mk (some 22) none (.mov (.t 5)) .no, .mk (some 23) none (.len false (.t 22)) .no, .mk (some 24) none (.bin .lss (.t 21) (.t 23))
  .no])
  (.cond (.t 24) .skip (.exit 2)))
  (.seq
  (.block 3
  (.ops
  [.mk (some 27) none (.mov (.t 3)) .no, .mk (some 28) none (.mov (.t 4)) .no, .mk (some 29) none (.buildFlat [.t 28]) .no, .mk (some 30) none (.mov (.t 5)) .no, .mk (some 31) none (.mov (.t 6)) .no, .mk (some 32) none (.indexAddr 1 (.t 30) (.t 31))
  .no, .mk (some 33) none (.load false 1 (.t 32)) .no, .mk (some 34) none
  (.append false 3 1 8 (.t 29) (.t 33)) .no, .mk (some 35) none (.buildSlice false 55 1 [.t 34])
  .no, .mk (some 36) none
  (.append false 55 1 24 (.t 27) (.t 35)) .no, .mk (some 3) none (.mov (.t 36)) .no]))
  (.ops
  [.mk (some 25) none (.mov (.t 6)) .no, .mk (some 26) none (.bin .add (.t 25) (.c (.one (.st (.int .i64 1)))))
  .no, .mk (some 6) none (.mov (.t 26)) .no]))))))))
  (.ops
  [.mk (some 13) none (.mov (.t 4)) .no, .mk (some 14) none (.bin .add (.t 13) (.c (.one (.st (.int .i64 1)))))
  .no, .mk (some 4) none (.mov (.t 14)) .no]))))))
  (.seq
  (.ops
  [.mk (some 37) none (.mov (.t 3)) .no, .mk (some 2) none (.mov (.t 37)) .no])
  .ret))))
theorem tr_R_PlacesOf : trCode Try.prog 38 [] (Try.f26.body.getD .skip) = some ir_R_PlacesOf := by kernel_rfl
theorem ac_R_PlacesOf {xs : List AV} {r : AV} (hn : xs.length ≤ 38) (h : ∀ C : Ctx, C.n = 38 → IWP Try.prog C [] ir_R_PlacesOf (FinQ [.t 2] r) (AS.start xs)) : ACalls Try.prog 26 xs r :=
  acalls_of Try.func26 rfl tr_R_PlacesOf rfl hn h
end Go.Proofs.Ytkekmeiiikkabaa
