/-
  Part 19 of the texts: BGen2; BGen3. Conditions: none.
-/
import Derived.Test.YtdmgelbbjppgkaaDoorPart18
namespace Go.Proofs.YtdmgelbbjppgkaaDoor
open Go Go.RowKit
set_option linter.unusedVariables false
set_option linter.unusedSimpArgs false
set_option maxHeartbeats 1000000

/-- What comes out for two terms that may be. -/
def lgT (a b : Tm) : Tm := (a.lg b []).1
def lgP (a b : Tm) : List Pr := (a.lg b []).2
def lgB (f : Pr → Tm) (a b : Tm) : List Bd := sortB (zBinds f 0 (lgP a b))
theorem lgP_len (a b : Tm) : (lgP a b).length ≤ a.size := by have := lg_len a b []; simpa [lgP] using this
def smallT (t : Tm) : Prop := t.size ≤ 200 ∧ t.chk = 0
theorem smallT_args {t : Tm} (h : smallT t) : ∀ x ∈ t.args, smallT x := fun x hx => ⟨by
  have := Tm.size_mem hx
  have := Tm.size_eq t
  have := h.1
  omega, (Tm.chk_args h.2).2 x hx⟩
theorem lgP_small {a b : Tm} (ha : a.may = 0) (hb : b.may = 0) : ∀ p ∈ lgP a b, smallT p.1 ∧ smallT p.2 := by
  obtain ⟨a1, a2⟩ := Tm.may_chk ha
  obtain ⟨b1, b2⟩ := Tm.may_chk hb
  exact (lg_pairs (q := smallT) (q' := smallT) (fun t h => smallT_args h) (fun t h => smallT_args h) a b [] ⟨a2, a1⟩ ⟨b2, b1⟩ ⟨by simp⟩).all

theorem general_yes (a b : Tm) (ha : a.may = 0) (hb : b.may = 0) : ACalls Tryd.prog 10 [aTm a, aTm b] (.tup [aTm (lgT a b), aBds (lgB Prod.fst a b), aBds (lgB Prod.snd a b), aInt 0]) := by
  have h0 : twoMay a b = 0 := by unfold twoMay; rw [if_pos ha]; exact hb
  have za := (Tm.may_chk ha).2
  have zl := lgP_len a b
  have hsm := lgP_small ha hb
  have hn1 := zBinds_named Prod.fst (lgP a b) 0
  have hn2 := zBinds_named Prod.snd (lgP a b) 0
  have hz1 := zBinds_len Prod.fst (lgP a b) 0
  have hz2 := zBinds_len Prod.snd (lgP a b) 0
  unfold lgB
  refine ac_general_General (Nat.le_of_ble_eq_true rfl) fun C hC => ?_
  unfold ir_general_General
  repeat' (first | (with_reducible first | refine Wa ?_ | refine Wb ?_ | refine Wc ?_ | refine Wd ?_ | refine We ?_ | refine Wf ?_ | refine Wg ?_ | refine Wh ?_ | refine Wi ?_ | refine Wj ?_ | refine Wk (by decide) ?_ | refine Wl ?_ | refine Wm ?_ | refine Wn ?_) | ((with_reducible first | refine Wo (fun K hK => ?_) | refine Wp ?_ | refine Wq ?_ | refine Wr ?_); (try simp only [go_sem, List.forall_mem_nil, ↓guard_ite, ↓pick_ite, seval, encT_eq, inR_i64, decide_eq_true_eq, decide_eq_false_iff_not, Int.ofNat_lt]); (repeat with_reducible refine And.intro (by first | omega | (with_reducible first | exact lens_encT | exact lens_encL | exact lens_encB | exact lens_encP) | (simp; done) | (simp only [List.length_take, List.length_map, List.length_append, maxLen_eq]; omega)) ?_); (try (with_reducible refine hK _ ?_; clear hK K)); (try with_reducible refine ite_conj ?_)))
  refine ⟨_, both_a a b, ?_⟩
  repeat' (first | (with_reducible first | refine Wa ?_ | refine Wb ?_ | refine Wc ?_ | refine Wd ?_ | refine We ?_ | refine Wf ?_ | refine Wg ?_ | refine Wh ?_ | refine Wi ?_ | refine Wj ?_ | refine Wk (by decide) ?_ | refine Wl ?_ | refine Wm ?_ | refine Wn ?_) | ((with_reducible first | refine Wo (fun K hK => ?_) | refine Wq ?_ | refine Wr ?_); (try simp only [go_sem, List.forall_mem_nil, ↓guard_ite, ↓pick_ite, seval, encT_eq, inR_i64, h0]); (repeat with_reducible refine And.intro (by first | omega | (with_reducible first | exact lens_encT | exact lens_encL | exact lens_encB | exact lens_encP) | (simp; done) | (simp only [List.length_take, List.length_map, List.length_append, maxLen_eq]; omega)) ?_); (try (with_reducible refine hK _ ?_; clear hK K))))
  with_reducible refine Wp ?_
  simp only [go_sem, List.forall_mem_nil, ↓guard_ite, ↓pick_ite, seval, true_implies, false_implies, implies_true, decide_eq_true_eq, decide_eq_false_iff_not, Int.ofNat_lt, h0]
  (try with_reducible refine ite_conj ?_)
  repeat' (with_reducible first | refine Wb ?_ | refine Wc ?_ | refine Wd ?_ | refine We ?_ | refine Wg ?_ | refine Wh ?_ | refine Wi ?_ | refine Wj ?_ | refine Wk (by decide) ?_ | refine Wl ?_ | refine Wm ?_ | refine Wn ?_)
  refine IWP.mid (fun x => x.env 2 = .one (.ptr 2 1 0 0) ∧ x.env 3 = .one (.ptr 3 1 0 0) ∧ x.env 4 = .one (.ptr 4 1 0 0) ∧ x.env 5 = .one (.full []) ∧ x.env 6 = .one (.full []) ∧ x.env 9 = .one (.ptr 20 1 0 0) ∧ x.S 2 = some (.box 24 [.st (.str a.name), .st (.list (a.args.map encT))]) ∧ x.S 3 = some (.box 24 [.st (.str b.name), .st (.list (b.args.map encT))]) ∧ x.S 4 = some (.box 24 [.st (.str ⟨#[]⟩), .full []]) ∧ x.S 20 = some (.box 64 [.full []]) ∧ x.S 11 = none ∧ x.S 500 = none ∧ x.S 501 = none ∧ x.S 900 = none) ?_ ?_
  · repeat' (first | (with_reducible first | refine Wa ?_ | refine Wb ?_ | refine Wc ?_ | refine Wd ?_ | refine We ?_ | refine Wf ?_ | refine Wg ?_ | refine Wh ?_ | refine Wi ?_ | refine Wj ?_ | refine Wk (by decide) ?_ | refine Wl ?_ | refine Wm ?_ | refine Wn ?_) | ((with_reducible first | refine Wo (fun K hK => ?_) | refine Wp ?_ | refine Wq ?_ | refine Wr ?_); (try simp only [go_sem, List.forall_mem_nil, ↓guard_ite, ↓pick_ite, seval, encT_eq, inR_i64, decide_eq_true_eq, decide_eq_false_iff_not, Int.ofNat_lt]); (repeat with_reducible refine And.intro (by first | omega | (with_reducible first | exact lens_encT | exact lens_encL | exact lens_encB | exact lens_encP) | (simp; done) | (simp only [List.length_take, List.length_map, List.length_append, maxLen_eq]; omega)) ?_); (try (with_reducible refine hK _ ?_; clear hK K)); (try with_reducible refine ite_conj ?_)))
    refine ⟨rfl, ?_⟩
    simp only [go_sem, List.forall_mem_nil, ↓guard_ite, ↓pick_ite, seval, encT_eq, inR_i64]
  rintro ⟨env, S⟩ ⟨e2, e3, e4, e5, e6, e9, s2, s3, s4, s20, s11, s500, s501, s900⟩
  simp only at e2 e3 e4 e5 e6 e9 s2 s3 s4 s20 s11 s500 s501 s900
  refine IWP.ghost (Ghost.ownC 20 0 900 34 4 (xs := []) s20 rfl s900 (by simp)) ?_
  refine IWP.ghost (Ghost.ownM 5 500 36 3 e5 (by simp only [go_sem, List.forall_mem_nil, ↓guard_ite, ↓pick_ite, seval, encT_eq, inR_i64, s500]) (by rw [hC]; decide)) ?_
  refine IWP.ghost (Ghost.ownM 6 501 36 3 (by simp only [go_sem, List.forall_mem_nil, ↓guard_ite, ↓pick_ite, seval, encT_eq, inR_i64, e6]) (by simp only [go_sem, List.forall_mem_nil, ↓guard_ite, ↓pick_ite, seval, encT_eq, inR_i64, s501]) (by rw [hC]; decide)) ?_
  repeat' (first | (with_reducible first | refine Wa ?_ | refine Wb ?_ | refine Wc ?_ | refine Wd ?_ | refine We ?_ | refine Wf ?_ | refine Wg ?_ | refine Wh ?_ | refine Wi ?_ | refine Wj ?_ | refine Wk (by decide) ?_ | refine Wl ?_ | refine Wm ?_ | refine Wn ?_) | ((with_reducible first | refine Wo (fun K hK => ?_) | refine Wp ?_ | refine Wq ?_ | refine Wr ?_); (try simp only [go_sem, List.forall_mem_nil, ↓guard_ite, ↓pick_ite, seval, encT_eq, inR_i64, e2, e3, e4, e9, s2, s3, s4, decide_eq_true_eq, decide_eq_false_iff_not, Int.ofNat_lt]); (repeat with_reducible refine And.intro (by first | omega | (with_reducible first | exact lens_encT | exact lens_encL | exact lens_encB | exact lens_encP) | (simp; done) | (simp only [List.length_take, List.length_map, List.length_append, maxLen_eq]; omega)) ?_); (try (with_reducible refine hK _ ?_; clear hK K)); (try with_reducible refine ite_conj ?_)))
  refine ⟨_, _, of_M a (by omega) b (up1 20) (up1 900) [] _ (up1_le 20) (up1_le 900) (by decide) (by simp; omega) (by rw [upS_up]; rfl) (by rw [upS_up]; rfl), ?_⟩
  have hT : (a.lg b []).1 = lgT a b := rfl
  have hP : (a.lg b []).2 = lgP a b := rfl
  rw [hT, hP]
  generalize lgT a b = T at *
  generalize lgP a b = l at *
  repeat' (first | (with_reducible first | refine Wa ?_ | refine Wb ?_ | refine Wc ?_ | refine Wd ?_ | refine We ?_ | refine Wf ?_ | refine Wg ?_ | refine Wh ?_ | refine Wi ?_ | refine Wj ?_ | refine Wk (by decide) ?_ | refine Wl ?_ | refine Wm ?_ | refine Wn ?_) | ((with_reducible first | refine Wo (fun K hK => ?_) | refine Wp ?_ | refine Wq ?_ | refine Wr ?_); (try simp only [go_sem, List.forall_mem_nil, ↓guard_ite, ↓pick_ite, seval, encT_eq, inR_i64, e2, e3, e4, e9, s2, s3, s4, decide_eq_true_eq, decide_eq_false_iff_not, Int.ofNat_lt]); (repeat with_reducible refine And.intro (by first | omega | (with_reducible first | exact lens_encT | exact lens_encL | exact lens_encB | exact lens_encP) | (simp; done) | (simp only [List.length_take, List.length_map, List.length_append, maxLen_eq]; omega)) ?_); (try (with_reducible refine hK _ ?_; clear hK K)); (try with_reducible refine ite_conj ?_)))
  refine IWP.loopD [11] (fun m x => ∃ k, k ≤ l.length ∧ m = l.length - k ∧ x.env 4 = .one (.ptr 4 1 0 0) ∧ x.env 5 = .one (.row 500 k) ∧ x.env 6 = .one (.row 501 k) ∧ x.env 28 = .one (.row 900 l.length) ∧ x.env 29 = aInt l.length ∧ x.env 30 = aInt k ∧ x.S 4 = some (.box 24 [.st (.str T.name), .st (.list (T.args.map encT))]) ∧ x.S 900 = some (arowP l) ∧ x.S 500 = some (rowBd (zBinds Prod.fst 0 (l.take k))) ∧ x.S 501 = some (rowBd (zBinds Prod.snd 0 (l.take k))) ∧ x.S 11 = none) l.length ⟨0, Nat.zero_le _, rfl, by simp only [go_sem, List.forall_mem_nil, ↓guard_ite, ↓pick_ite, seval, encT_eq, inR_i64, e4], rfl, rfl, rfl, rfl, rfl, by simp only [go_sem, List.forall_mem_nil, ↓guard_ite, ↓pick_ite, seval, encT_eq, inR_i64], by simp only [go_sem, List.forall_mem_nil, ↓guard_ite, ↓pick_ite, seval, encT_eq, inR_i64], rfl, rfl, by simp only [go_sem, List.forall_mem_nil, ↓guard_ite, ↓pick_ite, seval, encT_eq, inR_i64, s11]⟩ ?_
  rintro m ⟨env, S⟩ ⟨k, hk, rfl, e4, e5, e6, e28, e29, e30, s4, s900, s500, s501, s11⟩
  simp only at e4 e5 e6 e28 e29 e30 s4 s900 s500 s501 s11
  have q1 := zBinds_len Prod.fst (l.take k) 0
  have q2 := zBinds_len Prod.snd (l.take k) 0
  have hlk : (l.take k).length = k := by rw [List.length_take]; omega
  rw [hlk] at q1 q2
  by_cases hlt : (k : Int) < l.length
  · obtain ⟨p, hp⟩ := get_lt (show k < l.length by omega)
    obtain ⟨zp1, zp2⟩ := hsm p (mem_of_get hp)
    repeat' (first | (with_reducible first | refine Wa ?_ | refine Wb ?_ | refine Wc ?_ | refine Wd ?_ | refine We ?_ | refine Wf ?_ | refine Wg ?_ | refine Wh ?_ | refine Wi ?_ | refine Wj ?_ | refine Wk (by decide) ?_ | refine Wl ?_ | refine Wm ?_ | refine Wn ?_) | refine CallG.mk _ (genName_a k (by omega)) ?_ | refine CallG.mk _ (copy_a p.1 (by have := zp1.1; omega)) ?_ | refine CallG.mk _ (copy_a p.2 (by have := zp2.1; omega)) ?_ | ((with_reducible first | refine Wo (fun K hK => ?_) | refine Wp ?_ | refine Wq ?_ | refine Wr ?_); (try simp only [go_sem, List.forall_mem_nil, ↓guard_ite, ↓pick_ite, seval, encT_eq, inR_i64, e4, e5, e6, e28, e29, e30, s4, s900, s500, s501, s11, hlt, hp, encP, encB, q1, q2, decide_eq_true_eq, decide_eq_false_iff_not, Int.ofNat_lt]); (repeat with_reducible refine And.intro (by first | omega | (with_reducible first | exact lens_encT | exact lens_encL | exact lens_encB | exact lens_encP) | (simp; done) | (simp only [List.length_take, List.length_map, List.length_append, maxLen_eq]; omega)) ?_); (try (with_reducible refine hK _ ?_; clear hK K)); (try with_reducible refine ite_conj ?_)))
    refine then_normal ⟨l.length - (k + 1), by omega, k + 1, by omega, rfl, ?_⟩
    rw [take_snoc hp, zBinds_snoc, zBinds_snoc, hlk, Nat.zero_add]
    simp only [go_sem, List.forall_mem_nil, ↓guard_ite, ↓pick_ite, seval, AS.drop, dropS, AC.clears, AC.clear, AC.highs, AC.high, Bool.not_false, Bool.true_and, Bool.and_self, AV.purge, AV.purges, AC.purge, ABlk.purge, List.contains_cons, List.contains_nil, Nat.reduceBEq, Bool.or_self, Bool.or_false, Bool.false_or, Bool.or_true, encT_eq, inR_i64, e4, e5, e6, e28, e29, e30, s4, s900, s500, s501, s11]
    refine ⟨by congr 3, ?_, ?_⟩
    · rw [rowBd, List.map_append]
      rfl
    · rw [rowBd, List.map_append]
      rfl
  · rw [List.take_of_length_le (by omega)] at s500 s501 q1 q2
    obtain rfl : k = l.length := by omega
    repeat' (first | (with_reducible first | refine Wa ?_ | refine Wb ?_ | refine Wc ?_ | refine Wd ?_ | refine We ?_ | refine Wf ?_ | refine Wg ?_ | refine Wh ?_ | refine Wi ?_ | refine Wj ?_ | refine Wk (by decide) ?_ | refine Wl ?_ | refine Wm ?_ | refine Wn ?_) | ((with_reducible first | refine Wo (fun K hK => ?_) | refine Wq ?_ | refine Wr ?_); (try simp only [go_sem, List.forall_mem_nil, ↓guard_ite, ↓pick_ite, seval, encT_eq, inR_i64, e28, e29, e30, hlt]); (repeat with_reducible refine And.intro (by first | omega | (with_reducible first | exact lens_encT | exact lens_encL | exact lens_encB | exact lens_encP) | (simp; done) | (simp only [List.length_take, List.length_map, List.length_append, maxLen_eq]; omega)) ?_); (try (with_reducible refine hK _ ?_; clear hK K))))
    with_reducible refine Wp ?_
    simp only [go_sem, List.forall_mem_nil, ↓guard_ite, ↓pick_ite, seval, true_implies, false_implies, implies_true, decide_eq_true_eq, decide_eq_false_iff_not, Int.ofNat_lt, hlt]
    (try with_reducible refine ite_conj ?_)
    repeat' (with_reducible first | refine Wb ?_ | refine Wc ?_ | refine Wd ?_ | refine We ?_ | refine Wg ?_ | refine Wh ?_ | refine Wi ?_ | refine Wj ?_ | refine Wk (by decide) ?_ | refine Wl ?_ | refine Wm ?_ | refine Wn ?_)
    have hs1 := sort_M (zBinds Prod.fst 0 l) hn1 (by omega) (up1 500) (up1_le 500) (upS S) (by rw [upS_up, s500]; rfl)
    rw [q1] at hs1
    refine IWP.mid (fun x => x.env 4 = .one (.ptr 4 1 0 0) ∧ x.env 5 = .one (.row 500 l.length) ∧ x.env 6 = .one (.row 501 l.length) ∧ x.env 7 = aInt 0 ∧ x.S 4 = some (.box 24 [.st (.str T.name), .st (.list (T.args.map encT))]) ∧ x.S 500 = some (rowBd (sortB (zBinds Prod.fst 0 l))) ∧ x.S 501 = some (rowBd (sortB (zBinds Prod.snd 0 l)))) ?_ ?_
    · repeat' (first | (with_reducible first | refine Wa ?_ | refine Wb ?_ | refine Wc ?_ | refine Wd ?_ | refine We ?_ | refine Wf ?_ | refine Wg ?_ | refine Wh ?_ | refine Wi ?_ | refine Wj ?_ | refine Wk (by decide) ?_ | refine Wl ?_ | refine Wm ?_ | refine Wn ?_) | ((with_reducible first | refine Wo (fun K hK => ?_) | refine Wq ?_ | refine Wr ?_); (try simp only [go_sem, List.forall_mem_nil, ↓guard_ite, ↓pick_ite, seval, encT_eq, inR_i64, e4, e5, e6, s4]); (repeat with_reducible refine And.intro (by first | omega | (with_reducible first | exact lens_encT | exact lens_encL | exact lens_encB | exact lens_encP) | (simp; done) | (simp only [List.length_take, List.length_map, List.length_append, maxLen_eq]; omega)) ?_); (try (with_reducible refine hK _ ?_; clear hK K))))
      refine ⟨_, _, hs1, ?_⟩
      repeat' (first | (with_reducible first | refine Wa ?_ | refine Wb ?_ | refine Wc ?_ | refine Wd ?_ | refine We ?_ | refine Wf ?_ | refine Wg ?_ | refine Wh ?_ | refine Wi ?_ | refine Wj ?_ | refine Wk (by decide) ?_ | refine Wl ?_ | refine Wm ?_ | refine Wn ?_) | ((with_reducible first | refine Wo (fun K hK => ?_) | refine Wq ?_ | refine Wr ?_); (try simp only [go_sem, List.forall_mem_nil, ↓guard_ite, ↓pick_ite, seval, encT_eq, inR_i64, e4, e5, e6, s4]); (repeat with_reducible refine And.intro (by first | omega | (with_reducible first | exact lens_encT | exact lens_encL | exact lens_encB | exact lens_encP) | (simp; done) | (simp only [List.length_take, List.length_map, List.length_append, maxLen_eq]; omega)) ?_); (try (with_reducible refine hK _ ?_; clear hK K))))
      have hs2 := fun S h => sort_M (zBinds Prod.snd 0 l) hn2 (by omega) (up1 501) (up1_le 501) S h
      rw [q2] at hs2
      refine ⟨_, _, hs2 _ (by rw [upS_up]; simp only [go_sem, List.forall_mem_nil, ↓guard_ite, ↓pick_ite, seval, encT_eq, inR_i64, s501]), ?_⟩
      repeat' (first | (with_reducible first | refine Wa ?_ | refine Wb ?_ | refine Wc ?_ | refine Wd ?_ | refine We ?_ | refine Wf ?_ | refine Wg ?_ | refine Wh ?_ | refine Wi ?_ | refine Wj ?_ | refine Wk (by decide) ?_ | refine Wl ?_ | refine Wm ?_ | refine Wn ?_) | ((with_reducible first | refine Wo (fun K hK => ?_) | refine Wq ?_ | refine Wr ?_); (try simp only [go_sem, List.forall_mem_nil, ↓guard_ite, ↓pick_ite, seval, encT_eq, inR_i64, e4, e5, e6, s4]); (repeat with_reducible refine And.intro (by first | omega | (with_reducible first | exact lens_encT | exact lens_encL | exact lens_encB | exact lens_encP) | (simp; done) | (simp only [List.length_take, List.length_map, List.length_append, maxLen_eq]; omega)) ?_); (try (with_reducible refine hK _ ?_; clear hK K))))
      refine ⟨rfl, ?_⟩
      simp only [go_sem, List.forall_mem_nil, ↓guard_ite, ↓pick_ite, seval, encT_eq, inR_i64, e4, e5, e6, s4]
    rintro ⟨env, S⟩ ⟨e4, e5, e6, e7, s4, s500, s501⟩
    simp only at e4 e5 e6 e7 s4 s500 s501
    refine IWP.ghost (Ghost.share (id := 500) s500) ?_
    refine IWP.ghost (Ghost.share (id := 501) (e := 36) (wd := 3) (xs := (sortB (zBinds Prod.snd 0 l)).map encB) (by simp only [go_sem, List.forall_mem_nil, ↓guard_ite, ↓pick_ite, seval, encT_eq, inR_i64, s501])) ?_
    repeat' (first | (with_reducible first | refine Wa ?_ | refine Wb ?_ | refine Wc ?_ | refine Wd ?_ | refine We ?_ | refine Wf ?_ | refine Wg ?_ | refine Wh ?_ | refine Wi ?_ | refine Wj ?_ | refine Wk (by decide) ?_ | refine Wl ?_ | refine Wm ?_ | refine Wn ?_) | ((with_reducible first | refine Wo (fun K hK => ?_) | refine Wq ?_ | refine Wr ?_); (try simp only [go_sem, List.forall_mem_nil, ↓guard_ite, ↓pick_ite, seval, encT_eq, inR_i64]); (repeat with_reducible refine And.intro (by first | omega | (with_reducible first | exact lens_encT | exact lens_encL | exact lens_encB | exact lens_encP) | (simp; done) | (simp only [List.length_take, List.length_map, List.length_append, maxLen_eq]; omega)) ?_); (try (with_reducible refine hK _ ?_; clear hK K))))
    simp only [go_sem, List.forall_mem_nil, ↓guard_ite, ↓pick_ite, seval, FinQ, AS.result, resAll, resOne, tupV, e4, e5, e6, e7, s4, sortB_length, q1, q2]
theorem general_no (a b : Tm) (h0 : twoMay a b ≠ 0) : ACalls Tryd.prog 10 [aTm a, aTm b] (.tup [aTm Tm.nil, aBds [], aBds [], aInt (twoMay a b)]) := by
  refine ac_general_General (Nat.le_of_ble_eq_true rfl) fun C hC => ?_
  unfold ir_general_General
  repeat' (first | (with_reducible first | refine Wa ?_ | refine Wb ?_ | refine Wc ?_ | refine Wd ?_ | refine We ?_ | refine Wf ?_ | refine Wg ?_ | refine Wh ?_ | refine Wi ?_ | refine Wj ?_ | refine Wk (by decide) ?_ | refine Wl ?_ | refine Wm ?_ | refine Wn ?_) | refine CallG.mk _ (both_a a b) ?_ | ((with_reducible first | refine Wo (fun K hK => ?_) | refine Wp ?_ | refine Wq ?_ | refine Wr ?_); (try simp only [go_sem, List.forall_mem_nil, ↓guard_ite, ↓pick_ite, seval, encT_eq, inR_i64, h0, decide_eq_true_eq, decide_eq_false_iff_not, Int.ofNat_lt]); (repeat with_reducible refine And.intro (by first | omega | (with_reducible first | exact lens_encT | exact lens_encL | exact lens_encB | exact lens_encP) | (simp; done) | (simp only [List.length_take, List.length_map, List.length_append, maxLen_eq]; omega)) ?_); (try (with_reducible refine hK _ ?_; clear hK K)); (try with_reducible refine ite_conj ?_)))
  simp only [go_sem, List.forall_mem_nil, ↓guard_ite, ↓pick_ite, seval, FinQ, AS.result, resAll, resOne, tupV]
  rfl
end Go.Proofs.YtdmgelbbjppgkaaDoor

namespace Go.Proofs.YtdmgelbbjppgkaaDoor
open Go Go.RowKit
set_option linter.unusedVariables false
set_option linter.unusedSimpArgs false
set_option maxHeartbeats 1000000

theorem least_core (a : Tm) (hz : a.size ≤ 1000000)
    (ih : ∀ x ∈ a.args, ∀ (y : Tm) (i : Nat) (l : List Pr) (S : AStore), 1000 ≤ i → l.length + x.size ≤ 900000 → S i = some (arowP l) →
      ACallsS Tryd.prog 26 [aTm x, aTm y, .one (.row i l.length)] S (.tup [aTm (x.lg y l).1, .one (.row i (x.lg y l).2.length)]) (updE S i (some (arowP (x.lg y l).2))))
    (C : Ctx) (hC : C.n = 108) (b : Tm) (i : Nat) (hi : 900 < i) (l : List Pr) (hl : l.length + a.size ≤ 900000) (S : AStore) (hS : ∀ j, j ≤ 900 → S j = none) (hSh : ∀ j b, 1000 ≤ j → S j = some b → b.high = true) (si : S i = some (arowP l)) (env : Nat → AV) (e0 : env 0 = aTm a) (e1 : env 1 = aTm b) (e2 : env 2 = .one (.row i l.length))
    (Q : AX → AS → Prop) (hQ : ∀ env' S' c, env' 7 = .one (.row i (a.lg b l).2.length) → env' 6 = .one (.ptr 6 1 0 0) → S' 6 = some (.box 24 [.st (.str (a.lg b l).1.name), c]) → stC S' c = some (.list ((a.lg b l).1.args.map encT)) → S' i = some (arowP (a.lg b l).2) → (∀ j, 1000 ≤ j → j ≠ i → S' j = S j) → Q .ret ⟨env', S'⟩) :
    IWP Tryd.prog C [50000055] ir_R_least Q ⟨env, S⟩ := by
  have hs := Tm.size_eq a
  have hln := Tm.length_le a.args
  have n3 : S 3 = none := hS 3 (by omega)
  have n4 : S 4 = none := hS 4 (by omega)
  have n6 : S 6 = none := hS 6 (by omega)
  have n8 : S 8 = none := hS 8 (by omega)
  have n10 : S 10 = none := hS 10 (by omega)
  have n900 : S 900 = none := hS 900 (by omega)
  have d3 : ¬ 3 = i := by omega
  have d4 : ¬ 4 = i := by omega
  have d6 : ¬ 6 = i := by omega
  have d8 : ¬ 8 = i := by omega
  have d10 : ¬ 10 = i := by omega
  have d900 : ¬ 900 = i := by omega
  have f3 : ¬ i = 3 := by omega
  have f4 : ¬ i = 4 := by omega
  have f6 : ¬ i = 6 := by omega
  have f8 : ¬ i = 8 := by omega
  have f10 : ¬ i = 10 := by omega
  have f900 : ¬ i = 900 := by omega
  unfold ir_R_least
  repeat' (first | (with_reducible first | refine Wa ?_ | refine Wb ?_ | refine Wc ?_ | refine Wd ?_ | refine We ?_ | refine Wf ?_ | refine Wg ?_ | refine Wh ?_ | refine Wi ?_ | refine Wj ?_ | refine Wk (by decide) ?_ | refine Wl ?_ | refine Wm ?_ | refine Wn ?_) | ((with_reducible first | refine Wo (fun K hK => ?_) | refine Wp ?_ | refine Wq ?_ | refine Wr ?_); (try simp only [go_sem, List.forall_mem_nil, ↓guard_ite, ↓pick_ite, seval, encT_eq, inR_i64, n3, n4, n6, e0, e1, e2, decide_eq_true_eq, decide_eq_false_iff_not, Int.ofNat_lt]); (repeat with_reducible refine And.intro (by first | omega | (with_reducible first | exact lens_encT | exact lens_encL | exact lens_encB | exact lens_encP) | (simp; done) | (simp only [List.length_take, List.length_map, List.length_append, maxLen_eq]; omega)) ?_); (try (with_reducible refine hK _ ?_; clear hK K)); (try with_reducible refine ite_conj ?_)))
  refine ⟨_, isVar_a _, ?_⟩
  by_cases hhead : headEq a.name a.args b
  · obtain ⟨hv, hn, hlen⟩ := id hhead
    have hlen' : (a.args.length : Int) = b.args.length := by omega
    have hlg := lg_knot (l := l) hhead
    have hvb : isVar b.name = false := by rw [← hn]; exact hv
    repeat' (first | (with_reducible first | refine Wa ?_ | refine Wb ?_ | refine Wc ?_ | refine Wd ?_ | refine We ?_ | refine Wf ?_ | refine Wg ?_ | refine Wh ?_ | refine Wi ?_ | refine Wj ?_ | refine Wk (by decide) ?_ | refine Wl ?_ | refine Wm ?_ | refine Wn ?_) | ((with_reducible first | refine Wo (fun K hK => ?_) | refine Wp ?_ | refine Wq ?_ | refine Wr ?_); (try simp only [go_sem, List.forall_mem_nil, ↓guard_ite, ↓pick_ite, seval, encT_eq, inR_i64, hv, hvb, hn, hlen', n3, n4, n6, n8, e0, e1, e2, decide_eq_true_eq, decide_eq_false_iff_not, Int.ofNat_lt]); (repeat with_reducible refine And.intro (by first | omega | (with_reducible first | exact lens_encT | exact lens_encL | exact lens_encB | exact lens_encP) | (simp; done) | (simp only [List.length_take, List.length_map, List.length_append, maxLen_eq]; omega)) ?_); (try (with_reducible refine hK _ ?_; clear hK K)); (try with_reducible refine ite_conj ?_)))
    refine IWP.ghost (Ghost.ownC 8 1 900 24 2 (xs := ([] : List Tm).map encT) (by rfl) (by rfl) (by simp only [go_sem, List.forall_mem_nil, ↓guard_ite, ↓pick_ite, seval, encT_eq, inR_i64, n900]) lens_encT) ?_
    refine IWP.loopD [10] (fun m x => ∃ k, k ≤ a.args.length ∧ m = a.args.length - k ∧ x.env 2 = .one (.row i (Tm.lgL (a.args.take k) (b.args.take k) l).2.length) ∧ x.env 3 = .one (.ptr 3 1 0 0) ∧ x.env 4 = .one (.ptr 4 1 0 0) ∧ x.env 6 = .one (.ptr 6 1 0 0) ∧ x.env 8 = .one (.ptr 8 1 0 0) ∧ x.env 9 = aInt k ∧
        x.S 3 = some (.box 24 [.st (.str b.name), .st (.list (a.args.map encT))]) ∧ x.S 4 = some (.box 24 [.st (.str b.name), .st (.list (b.args.map encT))]) ∧ x.S 6 = some (.box 24 [.st (.str ⟨#[]⟩), .full []]) ∧ x.S 8 = some (.box 24 [.st (.str b.name), .row 900 k]) ∧ x.S 900 = some (.arow 24 2 ((Tm.lgL (a.args.take k) (b.args.take k) l).1.map encT)) ∧ x.S 10 = none ∧
        x.S i = some (arowP (Tm.lgL (a.args.take k) (b.args.take k) l).2) ∧ ∀ j, 1000 ≤ j → j ≠ i → x.S j = S j)
      a.args.length ⟨0, Nat.zero_le _, rfl, by (simp only [go_sem, List.forall_mem_nil, ↓guard_ite, ↓pick_ite, seval, encT_eq, inR_i64, e2]; rfl), rfl, rfl, rfl, rfl, rfl, by simp only [go_sem, List.forall_mem_nil, ↓guard_ite, ↓pick_ite, seval, encT_eq, inR_i64, hn], by simp only [go_sem, List.forall_mem_nil, ↓guard_ite, ↓pick_ite, seval, encT_eq, inR_i64], by simp only [go_sem, List.forall_mem_nil, ↓guard_ite, ↓pick_ite, seval, encT_eq, inR_i64], by (simp only [go_sem, List.forall_mem_nil, ↓guard_ite, ↓pick_ite, seval, encT_eq, inR_i64, hn]; rfl), rfl, by simp only [go_sem, List.forall_mem_nil, ↓guard_ite, ↓pick_ite, seval, encT_eq, inR_i64, n10, d10], by (simp only [go_sem, List.forall_mem_nil, ↓guard_ite, ↓pick_ite, seval, encT_eq, inR_i64, f3, f4, f6, f8, f900, si]; rfl), fun j hj hne => ?_⟩ ?_
    · have j3 : ¬ j = 3 := by omega
      have j4 : ¬ j = 4 := by omega
      have j6 : ¬ j = 6 := by omega
      have j8 : ¬ j = 8 := by omega
      have j900 : ¬ j = 900 := by omega
      simp only [go_sem, List.forall_mem_nil, ↓guard_ite, ↓pick_ite, seval, encT_eq, inR_i64, j3, j4, j6, j8, j900]
    rintro m ⟨env, S1⟩ ⟨k, hk, rfl, v2, v3, v4, v6, v8, v9, s3, s4, s6, s8, s900, s10, si, hrest⟩
    simp only at v2 v3 v4 v6 v8 v9 s3 s4 s6 s8 s900 s10 si hrest
    have hll : (a.args.take k).length = (b.args.take k).length := by simp [hlen]
    have hlk : (Tm.lgL (a.args.take k) (b.args.take k) l).1.length = k := by rw [lgL_len _ _ _ hll, List.length_take]; omega
    have hpl := lgL_lens (a.args.take k) (b.args.take k) l
    by_cases hlt : (k : Int) < a.args.length
    · obtain ⟨x, hx⟩ := get_lt (show k < a.args.length by omega)
      obtain ⟨y, hy⟩ := get_lt (show k < b.args.length by omega)
      have z1 := Tm.sizes_take hx
      have z2 := Tm.sizes_take_le a.args (k + 1)
      have hstep := lgL_take (l := l) hlen hx hy
      have hlt' : (k : Int) < b.args.length := by omega
      repeat' (first | (with_reducible first | refine Wa ?_ | refine Wb ?_ | refine Wc ?_ | refine Wd ?_ | refine We ?_ | refine Wf ?_ | refine Wg ?_ | refine Wh ?_ | refine Wi ?_ | refine Wj ?_ | refine Wk (by decide) ?_ | refine Wl ?_ | refine Wm ?_ | refine Wn ?_) | ((with_reducible first | refine Wo (fun K hK => ?_) | refine Wp ?_ | refine Wq ?_ | refine Wr ?_); (try simp only [go_sem, List.forall_mem_nil, ↓guard_ite, ↓pick_ite, seval, encT_eq, inR_i64, v2, v3, v4, v6, v8, v9, s3, s4, s6, s8, s900, s10, si, hlt, hlt', hx, hy, hlen', decide_eq_true_eq, decide_eq_false_iff_not, Int.ofNat_lt]); (repeat with_reducible refine And.intro (by first | omega | (with_reducible first | exact lens_encT | exact lens_encL | exact lens_encB | exact lens_encP) | (simp; done) | (simp only [List.length_take, List.length_map, List.length_append, maxLen_eq]; omega)) ?_); (try (with_reducible refine hK _ ?_; clear hK K)); (try with_reducible refine ite_conj ?_)))
      refine ⟨.tup [aTm (x.lg y (Tm.lgL (a.args.take k) (b.args.take k) l).2).1, .one (.row (up1 i) (x.lg y (Tm.lgL (a.args.take k) (b.args.take k) l).2).2.length)], [(i, arowP (Tm.lgL (a.args.take k) (b.args.take k) l).2, arowP (x.lg y (Tm.lgL (a.args.take k) (b.args.take k) l).2).2)], hold_one (by simp only [go_sem, List.forall_mem_nil, ↓guard_ite, ↓pick_ite, seval, encT_eq, inR_i64, si]), fun T hT => ?_, ?_⟩
      · show ACallsS _ _ _ _ _ (upS (updE T i (some _)))
        rw [upS_set]
        exact ih x (mem_of_get hx) y (up1 i) (Tm.lgL (a.args.take k) (b.args.take k) l).2 (upS T) (up1_le i) (by omega) (by rw [upS_up, hold_at hT]; rfl)
      repeat' (first | (with_reducible first | refine Wa ?_ | refine Wb ?_ | refine Wc ?_ | refine Wd ?_ | refine We ?_ | refine Wf ?_ | refine Wg ?_ | refine Wh ?_ | refine Wi ?_ | refine Wj ?_ | refine Wk (by decide) ?_ | refine Wl ?_ | refine Wm ?_ | refine Wn ?_) | ((with_reducible first | refine Wo (fun K hK => ?_) | refine Wp ?_ | refine Wq ?_ | refine Wr ?_); (try simp only [go_sem, List.forall_mem_nil, ↓guard_ite, ↓pick_ite, seval, encT_eq, inR_i64, v2, v3, v4, v6, v8, v9, s3, s4, s6, s8, s900, s10, d3, d4, d6, d8, d10, d900, f3, f4, f6, f8, f10, f900, hlk, decide_eq_true_eq, decide_eq_false_iff_not, Int.ofNat_lt]); (repeat with_reducible refine And.intro (by first | omega | (with_reducible first | exact lens_encT | exact lens_encL | exact lens_encB | exact lens_encP) | (simp; done) | (simp only [List.length_take, List.length_map, List.length_append, maxLen_eq]; omega)) ?_); (try (with_reducible refine hK _ ?_; clear hK K)); (try with_reducible refine ite_conj ?_)))
      refine then_normal ⟨a.args.length - (k + 1), by omega, k + 1, by omega, rfl, ?_⟩
      rw [hstep]
      have hib : (i == 10) = false := by simp; omega
      simp only [go_sem, List.forall_mem_nil, ↓guard_ite, ↓pick_ite, seval, AS.drop, dropS, AC.clears, AC.clear, AC.highs, AC.high, Bool.not_false, Bool.true_and, Bool.and_self, AV.purge, AV.purges, AC.purge, ABlk.purge, List.contains_cons, List.contains_nil, Nat.reduceBEq, Bool.or_self, Bool.or_false, Bool.false_or, Bool.or_true, encT_eq, inR_i64, v2, v3, v4, v6, v8, v9, s3, s4, s6, s8, s900, s10, d3, d4, d6, d8, d10, d900, f3, f4, f6, f8, f10, f900, hib]
      refine ⟨by congr 3, ?_, fun j hj hne => ?_⟩
      · rw [List.map_append, List.map_cons, List.map_nil, encT_eq]
      · have j8 : ¬ j = 8 := by omega
        have j10 : ¬ j = 10 := by omega
        have j10b : (j == 10) = false := by simp; omega
        have j900 : ¬ j = 900 := by omega
        simp only [go_sem, List.forall_mem_nil, ↓guard_ite, ↓pick_ite, seval, AS.drop, dropS, AC.clears, AC.clear, AC.highs, AC.high, Bool.not_false, Bool.true_and, Bool.and_self, AV.purge, AV.purges, AC.purge, ABlk.purge, List.contains_cons, List.contains_nil, Nat.reduceBEq, Bool.or_self, Bool.or_false, Bool.false_or, Bool.or_true, encT_eq, inR_i64, j8, j10, j10b, j900, hne]
        rw [hrest j hj hne]
        exact purgeS (by decide) fun b hb => hSh j b hj hb
    · rw [List.take_of_length_le (by omega), List.take_of_length_le (by omega)] at si s900 hlk v2
      have hlt' : ¬ (k : Int) < b.args.length := by omega
      repeat' (first | (with_reducible first | refine Wa ?_ | refine Wb ?_ | refine Wc ?_ | refine Wd ?_ | refine We ?_ | refine Wf ?_ | refine Wg ?_ | refine Wh ?_ | refine Wi ?_ | refine Wj ?_ | refine Wk (by decide) ?_ | refine Wl ?_ | refine Wm ?_ | refine Wn ?_) | ((with_reducible first | refine Wo (fun K hK => ?_) | refine Wp ?_ | refine Wq ?_ | refine Wr ?_); (try simp only [go_sem, List.forall_mem_nil, ↓guard_ite, ↓pick_ite, seval, encT_eq, inR_i64, v2, v3, v4, v6, v8, v9, s3, s6, s8, hlt, hlt', hlen', decide_eq_true_eq, decide_eq_false_iff_not, Int.ofNat_lt]); (repeat with_reducible refine And.intro (by first | omega | (with_reducible first | exact lens_encT | exact lens_encL | exact lens_encB | exact lens_encP) | (simp; done) | (simp only [List.length_take, List.length_map, List.length_append, maxLen_eq]; omega)) ?_); (try (with_reducible refine hK _ ?_; clear hK K)); (try with_reducible refine ite_conj ?_)))
      refine hQ _ _ (.row 900 k) ?_ ?_ ?_ ?_ ?_ fun j hj hne => ?_
      · rw [hlg]
        simp only [go_sem, List.forall_mem_nil, ↓guard_ite, ↓pick_ite, seval, encT_eq, inR_i64, v2]
      · simp only [go_sem, List.forall_mem_nil, ↓guard_ite, ↓pick_ite, seval, encT_eq, inR_i64, v6]
      · rw [hlg]
        simp only [go_sem, List.forall_mem_nil, ↓guard_ite, ↓pick_ite, seval, encT_eq, inR_i64, v6, hn]
      · rw [hlg]
        simp only [go_sem, List.forall_mem_nil, ↓guard_ite, ↓pick_ite, seval, encT_eq, inR_i64, s900, hlk]
      · rw [hlg]
        simp only [go_sem, List.forall_mem_nil, ↓guard_ite, ↓pick_ite, seval, encT_eq, inR_i64, f6, si]
      · have j6 : ¬ j = 6 := by omega
        simp only [go_sem, List.forall_mem_nil, ↓guard_ite, ↓pick_ite, seval, encT_eq, inR_i64, j6]
        exact hrest j hj hne
  · have hnew := lg_new (l := l) hhead
    have h3 : isVar a.name = true ∨ (isVar a.name = false ∧ ¬ a.name = b.name) ∨ (isVar a.name = false ∧ a.name = b.name ∧ ¬ (a.args.length : Int) = b.args.length) := by
      cases hv : isVar a.name with
      | true => exact .inl rfl
      | false =>
        by_cases hn : a.name = b.name
        · exact .inr (.inr ⟨rfl, hn, fun e => hhead ⟨hv, hn, by omega⟩⟩)
        · exact .inr (.inl ⟨rfl, hn⟩)
    rcases h3 with hv | ⟨hv, hn⟩ | ⟨hv, hn, hlen'⟩
    case' inl =>
      repeat' (first | (with_reducible first | refine Wa ?_ | refine Wb ?_ | refine Wc ?_ | refine Wd ?_ | refine We ?_ | refine Wf ?_ | refine Wg ?_ | refine Wh ?_ | refine Wi ?_ | refine Wj ?_ | refine Wk (by decide) ?_ | refine Wl ?_ | refine Wm ?_ | refine Wn ?_) | ((with_reducible first | refine Wo (fun K hK => ?_) | refine Wp ?_ | refine Wq ?_ | refine Wr ?_); (try simp only [go_sem, List.forall_mem_nil, ↓guard_ite, ↓pick_ite, seval, encT_eq, inR_i64, hv, n3, n4, n6, e0, e1, e2, decide_eq_true_eq, decide_eq_false_iff_not, Int.ofNat_lt]); (repeat with_reducible refine And.intro (by first | omega | (with_reducible first | exact lens_encT | exact lens_encL | exact lens_encB | exact lens_encP) | (simp; done) | (simp only [List.length_take, List.length_map, List.length_append, maxLen_eq]; omega)) ?_); (try (with_reducible refine hK _ ?_; clear hK K)); (try with_reducible refine ite_conj ?_)))
    case' inr.inl =>
      repeat' (first | (with_reducible first | refine Wa ?_ | refine Wb ?_ | refine Wc ?_ | refine Wd ?_ | refine We ?_ | refine Wf ?_ | refine Wg ?_ | refine Wh ?_ | refine Wi ?_ | refine Wj ?_ | refine Wk (by decide) ?_ | refine Wl ?_ | refine Wm ?_ | refine Wn ?_) | ((with_reducible first | refine Wo (fun K hK => ?_) | refine Wp ?_ | refine Wq ?_ | refine Wr ?_); (try simp only [go_sem, List.forall_mem_nil, ↓guard_ite, ↓pick_ite, seval, encT_eq, inR_i64, hv, hn, n3, n4, n6, e0, e1, e2, decide_eq_true_eq, decide_eq_false_iff_not, Int.ofNat_lt]); (repeat with_reducible refine And.intro (by first | omega | (with_reducible first | exact lens_encT | exact lens_encL | exact lens_encB | exact lens_encP) | (simp; done) | (simp only [List.length_take, List.length_map, List.length_append, maxLen_eq]; omega)) ?_); (try (with_reducible refine hK _ ?_; clear hK K)); (try with_reducible refine ite_conj ?_)))
    case' inr.inr =>
      have hvb : isVar b.name = false := by rw [← hn]; exact hv
      repeat' (first | (with_reducible first | refine Wa ?_ | refine Wb ?_ | refine Wc ?_ | refine Wd ?_ | refine We ?_ | refine Wf ?_ | refine Wg ?_ | refine Wh ?_ | refine Wi ?_ | refine Wj ?_ | refine Wk (by decide) ?_ | refine Wl ?_ | refine Wm ?_ | refine Wn ?_) | ((with_reducible first | refine Wo (fun K hK => ?_) | refine Wp ?_ | refine Wq ?_ | refine Wr ?_); (try simp only [go_sem, List.forall_mem_nil, ↓guard_ite, ↓pick_ite, seval, encT_eq, inR_i64, hv, hvb, hn, hlen', n3, n4, n6, e0, e1, e2, decide_eq_true_eq, decide_eq_false_iff_not, Int.ofNat_lt]); (repeat with_reducible refine And.intro (by first | omega | (with_reducible first | exact lens_encT | exact lens_encL | exact lens_encB | exact lens_encP) | (simp; done) | (simp only [List.length_take, List.length_map, List.length_append, maxLen_eq]; omega)) ?_); (try (with_reducible refine hK _ ?_; clear hK K)); (try with_reducible refine ite_conj ?_)))
    all_goals
      refine IWP.loop (fun m x => ∃ k, k ≤ l.length ∧ m = l.length - k ∧ posP l a b = k + posP (l.drop k) a b ∧ x.env 2 = .one (.row i l.length) ∧ x.env 3 = .one (.ptr 3 1 0 0) ∧ x.env 4 = .one (.ptr 4 1 0 0) ∧ x.env 6 = .one (.ptr 6 1 0 0) ∧ x.env 12 = aInt k ∧
          x.S 3 = some (.box 24 [.st (.str a.name), .st (.list (a.args.map encT))]) ∧ x.S 4 = some (.box 24 [.st (.str b.name), .st (.list (b.args.map encT))]) ∧ x.S 6 = some (.box 24 [.st (.str ⟨#[]⟩), .full []]) ∧ x.S i = some (arowP l) ∧ ∀ j, 1000 ≤ j → j ≠ i → x.S j = S j)
        l.length ⟨0, Nat.zero_le _, rfl, by rw [List.drop_zero, Nat.zero_add], by simp only [go_sem, List.forall_mem_nil, ↓guard_ite, ↓pick_ite, seval, encT_eq, inR_i64, e2], rfl, rfl, rfl, rfl, by (simp only [go_sem, List.forall_mem_nil, ↓guard_ite, ↓pick_ite, seval, encT_eq, inR_i64]; try simp only [hn]), by simp only [go_sem, List.forall_mem_nil, ↓guard_ite, ↓pick_ite, seval, encT_eq, inR_i64], by simp only [go_sem, List.forall_mem_nil, ↓guard_ite, ↓pick_ite, seval, encT_eq, inR_i64], by (simp only [go_sem, List.forall_mem_nil, ↓guard_ite, ↓pick_ite, seval, encT_eq, inR_i64, f3, f4, f6, si]), fun j hj hne => ?_⟩ ?_
      · have j3 : ¬ j = 3 := by omega
        have j4 : ¬ j = 4 := by omega
        have j6 : ¬ j = 6 := by omega
        simp only [go_sem, List.forall_mem_nil, ↓guard_ite, ↓pick_ite, seval, encT_eq, inR_i64, j3, j4, j6]
      rintro m ⟨env, S1⟩ ⟨k, hk, rfl, hpos, v2, v3, v4, v6, v12, s3, s4, s6, si, hrest⟩
      simp only at v2 v3 v4 v6 v12 s3 s4 s6 si hrest
      have hposl := posP_le l a b
      by_cases hlt : (k : Int) < l.length
      · obtain ⟨p, hp⟩ := get_lt (show k < l.length by omega)
        obtain ⟨hp1, hp2⟩ := posP_step hp hpos
        have hstop : (k : Int) = l.length ↔ False := ⟨fun e => by omega, False.elim⟩
        repeat' (first | (with_reducible first | refine Wa ?_ | refine Wb ?_ | refine Wc ?_ | refine Wd ?_ | refine We ?_ | refine Wf ?_ | refine Wg ?_ | refine Wh ?_ | refine Wi ?_ | refine Wj ?_ | refine Wk (by decide) ?_ | refine Wl ?_ | refine Wm ?_ | refine Wn ?_) | ((with_reducible first | refine Wo (fun K hK => ?_) | refine Wp ?_ | refine Wq ?_ | refine Wr ?_); (try simp only [go_sem, List.forall_mem_nil, ↓guard_ite, ↓pick_ite, seval, encT_eq, inR_i64, v2, v3, v4, v6, v12, s3, s4, s6, si, hlt, hp, encP, decide_eq_true_eq, decide_eq_false_iff_not, Int.ofNat_lt]); (repeat with_reducible refine And.intro (by first | omega | (with_reducible first | exact lens_encT | exact lens_encL | exact lens_encB | exact lens_encP) | (simp; done) | (simp only [List.length_take, List.length_map, List.length_append, maxLen_eq]; omega)) ?_); (try (with_reducible refine hK _ ?_; clear hK K)); (try with_reducible refine ite_conj ?_)))
        refine ⟨_, sameR_a p.1 a, ?_⟩
        cases h1 : p.1.beq a with
        | true =>
          repeat' (first | (with_reducible first | refine Wa ?_ | refine Wb ?_ | refine Wc ?_ | refine Wd ?_ | refine We ?_ | refine Wf ?_ | refine Wg ?_ | refine Wh ?_ | refine Wi ?_ | refine Wj ?_ | refine Wk (by decide) ?_ | refine Wl ?_ | refine Wm ?_ | refine Wn ?_) | ((with_reducible first | refine Wo (fun K hK => ?_) | refine Wp ?_ | refine Wq ?_ | refine Wr ?_); (try simp only [go_sem, List.forall_mem_nil, ↓guard_ite, ↓pick_ite, seval, encT_eq, inR_i64, h1, v2, v3, v4, v6, v12, s3, s4, s6, si, hlt, hp, encP, decide_eq_true_eq, decide_eq_false_iff_not, Int.ofNat_lt]); (repeat with_reducible refine And.intro (by first | omega | (with_reducible first | exact lens_encT | exact lens_encL | exact lens_encB | exact lens_encP) | (simp; done) | (simp only [List.length_take, List.length_map, List.length_append, maxLen_eq]; omega)) ?_); (try (with_reducible refine hK _ ?_; clear hK K)); (try with_reducible refine ite_conj ?_)))
          refine ⟨_, sameR_a p.2 b, ?_⟩
          cases h2 : p.2.beq b with
          | true =>
            have hpk := hp1 (by rw [h1, h2]; rfl)
            have hdec := decR_a (k + 1) (by omega)
            have hsz := decS_size_le (n := k + 1) (by omega)
            have hz1 : (⟨#[90]⟩ : ByteArray).size = 1 := rfl
            rw [show (((k + 1 : Nat) : Int)) = (k : Int) + 1 by omega] at hdec
            have hne0 : ¬ (k : Int) = l.length := by omega
            repeat' (first | (with_reducible first | refine Wa ?_ | refine Wb ?_ | refine Wc ?_ | refine Wd ?_ | refine We ?_ | refine Wf ?_ | refine Wg ?_ | refine Wh ?_ | refine Wi ?_ | refine Wj ?_ | refine Wk (by decide) ?_ | refine Wl ?_ | refine Wm ?_ | refine Wn ?_) | refine CallG.mk _ (hdec) ?_ | ((with_reducible first | refine Wo (fun K hK => ?_) | refine Wp ?_ | refine Wq ?_ | refine Wr ?_); (try simp only [go_sem, List.forall_mem_nil, ↓guard_ite, ↓pick_ite, seval, encT_eq, inR_i64, h1, h2, v2, v3, v4, v6, v12, s3, s4, s6, si, hlt, hne0, hz1, decide_eq_true_eq, decide_eq_false_iff_not, Int.ofNat_lt]); (repeat with_reducible refine And.intro (by first | omega | (with_reducible first | exact lens_encT | exact lens_encL | exact lens_encB | exact lens_encP) | (simp; done) | (simp only [List.length_take, List.length_map, List.length_append, maxLen_eq]; omega)) ?_); (try (with_reducible refine hK _ ?_; clear hK K)); (try with_reducible refine ite_conj ?_)))
            have hadd : addP l a b = l := by unfold addP; rw [hpk, if_pos (by omega)]
            refine hQ _ _ (.full []) ?_ ?_ ?_ ?_ ?_ fun j hj hne => ?_
            · rw [hnew, hadd]
              simp only [go_sem, List.forall_mem_nil, ↓guard_ite, ↓pick_ite, seval, encT_eq, inR_i64, v2]
            · simp only [go_sem, List.forall_mem_nil, ↓guard_ite, ↓pick_ite, seval, encT_eq, inR_i64, v6]
            · rw [hnew, hpk]
              simp only [go_sem, List.forall_mem_nil, ↓guard_ite, ↓pick_ite, seval, encT_eq, inR_i64, v6]
              rfl
            · rw [hnew]
              rfl
            · rw [hnew, hadd]
              simp only [go_sem, List.forall_mem_nil, ↓guard_ite, ↓pick_ite, seval, encT_eq, inR_i64, f6, si]
            · have j6 : ¬ j = 6 := by omega
              simp only [go_sem, List.forall_mem_nil, ↓guard_ite, ↓pick_ite, seval, encT_eq, inR_i64, j6]
              exact hrest j hj hne
          | false =>
            have hpk := hp2 (by rw [h1, h2]; rfl)
            repeat' (first | (with_reducible first | refine Wa ?_ | refine Wb ?_ | refine Wc ?_ | refine Wd ?_ | refine We ?_ | refine Wf ?_ | refine Wg ?_ | refine Wh ?_ | refine Wi ?_ | refine Wj ?_ | refine Wk (by decide) ?_ | refine Wl ?_ | refine Wm ?_ | refine Wn ?_) | ((with_reducible first | refine Wo (fun K hK => ?_) | refine Wp ?_ | refine Wq ?_ | refine Wr ?_); (try simp only [go_sem, List.forall_mem_nil, ↓guard_ite, ↓pick_ite, seval, encT_eq, inR_i64, h1, h2, v2, v3, v4, v6, v12, s3, s4, s6, si, decide_eq_true_eq, decide_eq_false_iff_not, Int.ofNat_lt]); (repeat with_reducible refine And.intro (by first | omega | (with_reducible first | exact lens_encT | exact lens_encL | exact lens_encB | exact lens_encP) | (simp; done) | (simp only [List.length_take, List.length_map, List.length_append, maxLen_eq]; omega)) ?_); (try (with_reducible refine hK _ ?_; clear hK K)); (try with_reducible refine ite_conj ?_)))
            refine then_normal ⟨l.length - (k + 1), by omega, k + 1, by omega, rfl, hpk, ?_⟩
            simp only [go_sem, List.forall_mem_nil, ↓guard_ite, ↓pick_ite, seval, encT_eq, inR_i64, v2, v3, v4, v6, v12, s3, s4, s6, si]
            exact ⟨by congr 3, hrest⟩
        | false =>
          have hpk := hp2 (by rw [h1]; rfl)
          repeat' (first | (with_reducible first | refine Wa ?_ | refine Wb ?_ | refine Wc ?_ | refine Wd ?_ | refine We ?_ | refine Wf ?_ | refine Wg ?_ | refine Wh ?_ | refine Wi ?_ | refine Wj ?_ | refine Wk (by decide) ?_ | refine Wl ?_ | refine Wm ?_ | refine Wn ?_) | ((with_reducible first | refine Wo (fun K hK => ?_) | refine Wp ?_ | refine Wq ?_ | refine Wr ?_); (try simp only [go_sem, List.forall_mem_nil, ↓guard_ite, ↓pick_ite, seval, encT_eq, inR_i64, h1, v2, v3, v4, v6, v12, s3, s4, s6, si, decide_eq_true_eq, decide_eq_false_iff_not, Int.ofNat_lt]); (repeat with_reducible refine And.intro (by first | omega | (with_reducible first | exact lens_encT | exact lens_encL | exact lens_encB | exact lens_encP) | (simp; done) | (simp only [List.length_take, List.length_map, List.length_append, maxLen_eq]; omega)) ?_); (try (with_reducible refine hK _ ?_; clear hK K)); (try with_reducible refine ite_conj ?_)))
          refine then_normal ⟨l.length - (k + 1), by omega, k + 1, by omega, rfl, hpk, ?_⟩
          simp only [go_sem, List.forall_mem_nil, ↓guard_ite, ↓pick_ite, seval, encT_eq, inR_i64, v2, v3, v4, v6, v12, s3, s4, s6, si]
          exact ⟨by congr 3, hrest⟩
      · have hpn : posP l a b = l.length := by
          rw [List.drop_of_length_le (by omega)] at hpos
          simp only [posP] at hpos
          omega
        have hadd : addP l a b = l ++ [(a, b)] := by unfold addP; rw [hpn, if_neg (by omega)]
        obtain rfl : k = l.length := by omega
        have hdec := decR_a (l.length + 1) (by omega)
        have hsz := decS_size_le (n := l.length + 1) (by omega)
        have hz1 : (⟨#[90]⟩ : ByteArray).size = 1 := rfl
        rw [show (((l.length + 1 : Nat) : Int)) = (l.length : Int) + 1 by omega] at hdec
        repeat' (first | (with_reducible first | refine Wa ?_ | refine Wb ?_ | refine Wc ?_ | refine Wd ?_ | refine We ?_ | refine Wf ?_ | refine Wg ?_ | refine Wh ?_ | refine Wi ?_ | refine Wj ?_ | refine Wk (by decide) ?_ | refine Wl ?_ | refine Wm ?_ | refine Wn ?_) | refine CallG.mk _ (hdec) ?_ | ((with_reducible first | refine Wo (fun K hK => ?_) | refine Wp ?_ | refine Wq ?_ | refine Wr ?_); (try simp only [go_sem, List.forall_mem_nil, ↓guard_ite, ↓pick_ite, seval, encT_eq, inR_i64, v2, v3, v4, v6, v12, s3, s4, s6, si, hlt, hz1, d6, f6, decide_eq_true_eq, decide_eq_false_iff_not, Int.ofNat_lt]); (repeat with_reducible refine And.intro (by first | omega | (with_reducible first | exact lens_encT | exact lens_encL | exact lens_encB | exact lens_encP) | (simp; done) | (simp only [List.length_take, List.length_map, List.length_append, maxLen_eq]; omega)) ?_); (try (with_reducible refine hK _ ?_; clear hK K)); (try with_reducible refine ite_conj ?_)))
        refine hQ _ _ (.full []) ?_ ?_ ?_ ?_ ?_ fun j hj hne => ?_
        · rw [hnew, hadd]
          simp only [go_sem, List.forall_mem_nil, ↓guard_ite, ↓pick_ite, seval, encT_eq, inR_i64, v2, List.length_append, List.length_singleton]
        · simp only [go_sem, List.forall_mem_nil, ↓guard_ite, ↓pick_ite, seval, encT_eq, inR_i64, v6]
        · rw [hnew, hpn]
          simp only [go_sem, List.forall_mem_nil, ↓guard_ite, ↓pick_ite, seval, encT_eq, inR_i64, v6]
          rfl
        · rw [hnew]
          rfl
        · rw [hnew, hadd]
          simp only [go_sem, List.forall_mem_nil, ↓guard_ite, ↓pick_ite, seval, encT_eq, inR_i64, f6]
          rw [arowP, List.map_append]
          rfl
        · have j6 : ¬ j = 6 := by omega
          simp only [go_sem, List.forall_mem_nil, ↓guard_ite, ↓pick_ite, seval, encT_eq, inR_i64, j6, hne]
          exact hrest j hj hne
/-- With a row of the caller's. -/
theorem least_row (a : Tm) (hz : a.size ≤ 1000000) : ∀ (b : Tm) (i : Nat) (l : List Pr) (S : AStore), 1000 ≤ i → l.length + a.size ≤ 900000 → S i = some (arowP l) →
      ACallsS Tryd.prog 26 [aTm a, aTm b, .one (.row i l.length)] S (.tup [aTm (a.lg b l).1, .one (.row i (a.lg b l).2.length)]) (updE S i (some (arowP (a.lg b l).2))) := by
  induction h : SizeOf.sizeOf a using Nat.strongRecOn generalizing a with
  | _ N ih =>
  subst h
  have hs := Tm.size_eq a
  intro b i l S hi hl hSi
  refine acS_R_least (Nat.le_of_ble_eq_true rfl) fun hS C hC => ?_
  refine least_core a hz (fun x hx => ih _ (Tm.lt_of_arg hx) x (by have := Tm.size_mem hx; omega) rfl) C hC b i (by omega) l hl S (fun j hj => clean_none hS (by omega)) (fun j b _ hb => (hS j b hb).2) hSi _ rfl rfl rfl _ ?_
  intro env' S' c h7 h6 s6 hc si hrest
  have hi6 : ¬ i = 6 := by omega
  refine finS_ghost (Ghost.settleC 6 1 (ty := 24) s6 rfl hc) ?_
  have hgo : ∀ (B : Option ABlk) j, 1000 ≤ j → j ≠ i → updE S' 6 B j = S j := fun B j hj hne => by
    rw [updE_ne _ (by omega)]
    exact hrest j hj hne
  have hsi : ∀ B : Option ABlk, updE S' 6 B i = some (arowP (a.lg b l).2) := fun B => by rw [updE_ne _ hi6]; exact si
  refine finS_high trivial ?_ ?_ (highs_is hS rfl (hsi _) (hgo _)) (lowS_is hS hi (hsi _) (hgo _)) (clean_upd hS hi rfl)
  · simp only [resAll, resOne, tupV, h6, h7, AS.set, updE_same, Option.map_some]
    rfl
  · simp [AV.high, AV.highs, AC.highs, AC.high, hi]
/-- With nothing in hand; the row is given to the caller under the name a0. -/
theorem least_nil (a b : Tm) (hz : a.size ≤ 100000) (a0 : Nat) (S : AStore) (ha : 1000 ≤ a0) (hSa : S a0 = none) :
      ACallsS Tryd.prog 26 [aTm a, aTm b, .one (.full [])] S (.tup [aTm (a.lg b []).1, .one (.row a0 (a.lg b []).2.length)]) (updE S a0 (some (arowP (a.lg b []).2))) := by
  refine acS_R_least (Nat.le_of_ble_eq_true rfl) fun hS C hC => ?_
  refine IWP.ghost (Ghost.own 2 901 34 4 (xs := ([] : List Pr).map encP) rfl (clean_none hS (by omega)) lens_encP (by omega)) ?_
  have hup : ∀ j, j ≠ 901 → (updE S 901 (some (.arow 34 4 (([] : List Pr).map encP)))) j = S j := fun j hj => updE_ne _ hj _
  refine least_core a (by omega) (fun x hx => least_row x (by have := Tm.size_mem hx; have := Tm.size_eq a; omega)) C hC b 901 (by omega) [] (by simp; omega) _ (fun j hj => (hup j (by omega)).trans (clean_none hS (by omega))) (fun j b hj hb => (hS j b (by rw [← hup j (by omega)]; exact hb)).2) (updE_same _ _ _) _ rfl rfl rfl _ ?_
  intro env' S' c h7 h6 s6 hc si hrest
  refine finS_ghost (Ghost.settleC 6 1 (ty := 24) s6 rfl hc) ?_
  have hgo : ∀ (B : Option ABlk) j, 1000 ≤ j → updE S' 6 B j = S j := fun B j hj => by
    rw [updE_ne _ (by omega), hrest j hj (by omega)]
    exact hup j (by omega)
  have e : (AV.tup [aTm (a.lg b []).1, .one (.row a0 (a.lg b []).2.length)]) = (AV.tup [aTm (a.lg b []).1, .one (.row 901 (a.lg b []).2.length)]).ren (oneTo 901 a0) := by
    simp only [AV.ren, AV.rens, AC.ren, AC.rens, oneTo_same]
  rw [e]
  have s901 : ∀ B : Option ABlk, updE S' 6 B 901 = some (arowP (a.lg b []).2) := fun B => by
    rw [updE_ne _ (by omega)]
    exact si
  suffices key : ∀ B : ABlk, B = .box 24 [.st (.str (a.lg b []).1.name), .st (.list ((a.lg b []).1.args.map encT))] → FinS C [.cell 6 true 2, .t 7] ((AV.tup [aTm (a.lg b []).1, .one (.row 901 (a.lg b []).2.length)]).ren (oneTo 901 a0)) (updE S a0 (some (arowP (a.lg b []).2))) .ret ⟨env', updE S' 6 (some B)⟩ from key _ rfl
  intro B hB
  refine finS_hand (s := ⟨env', updE S' 6 (some B)⟩) trivial 901 a0 _ (by omega) ha ((hgo (some B) a0 ha).trans hSa) (b0 := arowP (a.lg b []).2) (s901 (some B)) rfl (fun j b hj hb => (hS j b ((hgo (some B) j hj).symm.trans hb)).2) ?_ ?_ ?_ (clean_upd hS ha rfl)
  · subst hB
    simp only [resAll, resOne, tupV, h6, h7, updE_same, Option.map_some]
    rfl
  · rw [← e]
    simp [AV.high, AV.highs, AC.highs, AC.high, ha]
  · congr 1
    funext j
    show (if j < 1000 then none else updE S' 6 (some B) j) = S j
    by_cases hj : j < 1000
    · rw [if_pos hj, clean_none hS hj]
    · rw [if_neg hj, hgo (some B) j (by omega)]
theorem generalOf_a (a b : Tm) (hz : a.size ≤ 100000) : ACalls Tryd.prog 8 [aTm a, aTm b] (.tup [aTm (lgT a b), aPrs (lgP a b)]) := by
  refine ac_R_GeneralOf (Nat.le_of_ble_eq_true rfl) fun C hC => ?_
  unfold ir_R_GeneralOf
  repeat' (first | (with_reducible first | refine Wa ?_ | refine Wb ?_ | refine Wc ?_ | refine Wd ?_ | refine We ?_ | refine Wf ?_ | refine Wg ?_ | refine Wh ?_ | refine Wi ?_ | refine Wj ?_ | refine Wk (by decide) ?_ | refine Wl ?_ | refine Wm ?_ | refine Wn ?_) | ((with_reducible first | refine Wo (fun K hK => ?_) | refine Wp ?_ | refine Wq ?_ | refine Wr ?_); (try simp only [go_sem, List.forall_mem_nil, ↓guard_ite, ↓pick_ite, seval, encT_eq, inR_i64, decide_eq_true_eq, decide_eq_false_iff_not, Int.ofNat_lt]); (repeat with_reducible refine And.intro (by first | omega | (with_reducible first | exact lens_encT | exact lens_encL | exact lens_encB | exact lens_encP) | (simp; done) | (simp only [List.length_take, List.length_map, List.length_append, maxLen_eq]; omega)) ?_); (try (with_reducible refine hK _ ?_; clear hK K)); (try with_reducible refine ite_conj ?_)))
  refine ⟨_, _, least_nil a b hz (up1 900) _ (up1_le 900) (by rw [upS_up]; rfl), ?_⟩
  repeat' (first | (with_reducible first | refine Wa ?_ | refine Wb ?_ | refine Wc ?_ | refine Wd ?_ | refine We ?_ | refine Wf ?_ | refine Wg ?_ | refine Wh ?_ | refine Wi ?_ | refine Wj ?_ | refine Wk (by decide) ?_ | refine Wl ?_ | refine Wm ?_ | refine Wn ?_) | ((with_reducible first | refine Wo (fun K hK => ?_) | refine Wp ?_ | refine Wq ?_ | refine Wr ?_); (try simp only [go_sem, List.forall_mem_nil, ↓guard_ite, ↓pick_ite, seval, encT_eq, inR_i64, decide_eq_true_eq, decide_eq_false_iff_not, Int.ofNat_lt]); (repeat with_reducible refine And.intro (by first | omega | (with_reducible first | exact lens_encT | exact lens_encL | exact lens_encB | exact lens_encP) | (simp; done) | (simp only [List.length_take, List.length_map, List.length_append, maxLen_eq]; omega)) ?_); (try (with_reducible refine hK _ ?_; clear hK K)); (try with_reducible refine ite_conj ?_)))
  simp only [go_sem, List.forall_mem_nil, ↓guard_ite, ↓pick_ite, seval, FinQ, AS.result, resAll, resOne, tupV]
  rfl
end Go.Proofs.YtdmgelbbjppgkaaDoor
