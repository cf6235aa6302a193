/-
  Part 19 of the texts: BGen2; IrRawT. Conditions: none.
-/
import Derived.Test.YtdmgelbbjppgkaaDoorPart18
namespace Go.Proofs.YtdmgelbbjppgkaaDoor
open Go Go.RowKit
set_option linter.unusedVariables false
set_option linter.unusedSimpArgs false
set_option maxHeartbeats 1000000

/-- What comes out for two terms that may be. -/
def lgT (a b : Tm) : Tm := (a.lg b []).1
def lgP (a b : Tm) : List Pr := (a.lg b []).2
def lgB (f : Pr → Tm) (a b : Tm) : List Bd := sortB (zBinds f 0 (lgP a b))
theorem lgP_len (a b : Tm) : (lgP a b).length ≤ a.size := by have := lg_len a b []; simpa [lgP] using this
def smallT (t : Tm) : Prop := t.size ≤ 200 ∧ t.chk = 0
theorem smallT_args {t : Tm} (h : smallT t) : ∀ x ∈ t.args, smallT x := fun x hx => ⟨by
  have := Tm.size_mem hx
  have := Tm.size_eq t
  have := h.1
  omega, (Tm.chk_args h.2).2 x hx⟩
theorem lgP_small {a b : Tm} (ha : a.may = 0) (hb : b.may = 0) : ∀ p ∈ lgP a b, smallT p.1 ∧ smallT p.2 := by
  obtain ⟨a1, a2⟩ := Tm.may_chk ha
  obtain ⟨b1, b2⟩ := Tm.may_chk hb
  exact (lg_pairs (q := smallT) (q' := smallT) (fun t h => smallT_args h) (fun t h => smallT_args h) a b [] ⟨a2, a1⟩ ⟨b2, b1⟩ ⟨by simp⟩).all

theorem general_yes (a b : Tm) (ha : a.may = 0) (hb : b.may = 0) : ACalls Tryd.prog 10 [aTm a, aTm b] (.tup [aTm (lgT a b), aBds (lgB Prod.fst a b), aBds (lgB Prod.snd a b), aInt 0]) := by
  have h0 : twoMay a b = 0 := by unfold twoMay; rw [if_pos ha]; exact hb
  have za := (Tm.may_chk ha).2
  have zl := lgP_len a b
  have hsm := lgP_small ha hb
  have hn1 := zBinds_named Prod.fst (lgP a b) 0
  have hn2 := zBinds_named Prod.snd (lgP a b) 0
  have hz1 := zBinds_len Prod.fst (lgP a b) 0
  have hz2 := zBinds_len Prod.snd (lgP a b) 0
  unfold lgB
  refine ac_general_General (Nat.le_of_ble_eq_true rfl) fun C hC => ?_
  unfold ir_general_General
  repeat' (first | (with_reducible first | refine Wa ?_ | refine Wb ?_ | refine Wc ?_ | refine Wd ?_ | refine We ?_ | refine Wf ?_ | refine Wg ?_ | refine Wh ?_ | refine Wi ?_ | refine Wj ?_ | refine Wk (by decide) ?_ | refine Wl ?_ | refine Wm ?_ | refine Wn ?_) | ((with_reducible first | refine Wo (fun K hK => ?_) | refine Wp ?_ | refine Wq ?_ | refine Wr ?_); (try simp only [go_sem, List.forall_mem_nil, ↓guard_ite, ↓pick_ite, seval, encT_eq, inR_i64, decide_eq_true_eq, decide_eq_false_iff_not, Int.ofNat_lt]); (repeat with_reducible refine And.intro (by first | omega | (with_reducible first | exact lens_encT | exact lens_encL | exact lens_encB | exact lens_encP) | (simp; done) | (simp only [List.length_take, List.length_map, List.length_append, maxLen_eq]; omega)) ?_); (try (with_reducible refine hK _ ?_; clear hK K)); (try with_reducible refine ite_conj ?_)))
  refine ⟨_, both_a a b, ?_⟩
  repeat' (first | (with_reducible first | refine Wa ?_ | refine Wb ?_ | refine Wc ?_ | refine Wd ?_ | refine We ?_ | refine Wf ?_ | refine Wg ?_ | refine Wh ?_ | refine Wi ?_ | refine Wj ?_ | refine Wk (by decide) ?_ | refine Wl ?_ | refine Wm ?_ | refine Wn ?_) | ((with_reducible first | refine Wo (fun K hK => ?_) | refine Wq ?_ | refine Wr ?_); (try simp only [go_sem, List.forall_mem_nil, ↓guard_ite, ↓pick_ite, seval, encT_eq, inR_i64, h0]); (repeat with_reducible refine And.intro (by first | omega | (with_reducible first | exact lens_encT | exact lens_encL | exact lens_encB | exact lens_encP) | (simp; done) | (simp only [List.length_take, List.length_map, List.length_append, maxLen_eq]; omega)) ?_); (try (with_reducible refine hK _ ?_; clear hK K))))
  with_reducible refine Wp ?_
  simp only [go_sem, List.forall_mem_nil, ↓guard_ite, ↓pick_ite, seval, true_implies, false_implies, implies_true, decide_eq_true_eq, decide_eq_false_iff_not, Int.ofNat_lt, h0]
  (try with_reducible refine ite_conj ?_)
  repeat' (with_reducible first | refine Wb ?_ | refine Wc ?_ | refine Wd ?_ | refine We ?_ | refine Wg ?_ | refine Wh ?_ | refine Wi ?_ | refine Wj ?_ | refine Wk (by decide) ?_ | refine Wl ?_ | refine Wm ?_ | refine Wn ?_)
  refine IWP.mid (fun x => x.env 2 = .one (.ptr 2 1 0 0) ∧ x.env 3 = .one (.ptr 3 1 0 0) ∧ x.env 4 = .one (.ptr 4 1 0 0) ∧ x.env 5 = .one (.full []) ∧ x.env 6 = .one (.full []) ∧ x.env 9 = .one (.ptr 20 1 0 0) ∧ x.S 2 = some (.box 24 [.st (.str a.name), .st (.list (a.args.map encT))]) ∧ x.S 3 = some (.box 24 [.st (.str b.name), .st (.list (b.args.map encT))]) ∧ x.S 4 = some (.box 24 [.st (.str ⟨#[]⟩), .full []]) ∧ x.S 20 = some (.box 64 [.full []]) ∧ x.S 11 = none ∧ x.S 500 = none ∧ x.S 501 = none ∧ x.S 900 = none) ?_ ?_
  · repeat' (first | (with_reducible first | refine Wa ?_ | refine Wb ?_ | refine Wc ?_ | refine Wd ?_ | refine We ?_ | refine Wf ?_ | refine Wg ?_ | refine Wh ?_ | refine Wi ?_ | refine Wj ?_ | refine Wk (by decide) ?_ | refine Wl ?_ | refine Wm ?_ | refine Wn ?_) | ((with_reducible first | refine Wo (fun K hK => ?_) | refine Wp ?_ | refine Wq ?_ | refine Wr ?_); (try simp only [go_sem, List.forall_mem_nil, ↓guard_ite, ↓pick_ite, seval, encT_eq, inR_i64, decide_eq_true_eq, decide_eq_false_iff_not, Int.ofNat_lt]); (repeat with_reducible refine And.intro (by first | omega | (with_reducible first | exact lens_encT | exact lens_encL | exact lens_encB | exact lens_encP) | (simp; done) | (simp only [List.length_take, List.length_map, List.length_append, maxLen_eq]; omega)) ?_); (try (with_reducible refine hK _ ?_; clear hK K)); (try with_reducible refine ite_conj ?_)))
    refine ⟨rfl, ?_⟩
    simp only [go_sem, List.forall_mem_nil, ↓guard_ite, ↓pick_ite, seval, encT_eq, inR_i64]
  rintro ⟨env, S⟩ ⟨e2, e3, e4, e5, e6, e9, s2, s3, s4, s20, s11, s500, s501, s900⟩
  simp only at e2 e3 e4 e5 e6 e9 s2 s3 s4 s20 s11 s500 s501 s900
  refine IWP.ghost (Ghost.ownC 20 0 900 34 4 (xs := []) s20 rfl s900 (by simp)) ?_
  refine IWP.ghost (Ghost.ownM 5 500 36 3 e5 (by simp only [go_sem, List.forall_mem_nil, ↓guard_ite, ↓pick_ite, seval, encT_eq, inR_i64, s500]) (by rw [hC]; decide)) ?_
  refine IWP.ghost (Ghost.ownM 6 501 36 3 (by simp only [go_sem, List.forall_mem_nil, ↓guard_ite, ↓pick_ite, seval, encT_eq, inR_i64, e6]) (by simp only [go_sem, List.forall_mem_nil, ↓guard_ite, ↓pick_ite, seval, encT_eq, inR_i64, s501]) (by rw [hC]; decide)) ?_
  repeat' (first | (with_reducible first | refine Wa ?_ | refine Wb ?_ | refine Wc ?_ | refine Wd ?_ | refine We ?_ | refine Wf ?_ | refine Wg ?_ | refine Wh ?_ | refine Wi ?_ | refine Wj ?_ | refine Wk (by decide) ?_ | refine Wl ?_ | refine Wm ?_ | refine Wn ?_) | ((with_reducible first | refine Wo (fun K hK => ?_) | refine Wp ?_ | refine Wq ?_ | refine Wr ?_); (try simp only [go_sem, List.forall_mem_nil, ↓guard_ite, ↓pick_ite, seval, encT_eq, inR_i64, e2, e3, e4, e9, s2, s3, s4, decide_eq_true_eq, decide_eq_false_iff_not, Int.ofNat_lt]); (repeat with_reducible refine And.intro (by first | omega | (with_reducible first | exact lens_encT | exact lens_encL | exact lens_encB | exact lens_encP) | (simp; done) | (simp only [List.length_take, List.length_map, List.length_append, maxLen_eq]; omega)) ?_); (try (with_reducible refine hK _ ?_; clear hK K)); (try with_reducible refine ite_conj ?_)))
  refine ⟨_, _, of_M a (by omega) b (up1 20) (up1 900) [] _ (up1_le 20) (up1_le 900) (by decide) (by simp; omega) (by rw [upS_up]; rfl) (by rw [upS_up]; rfl), ?_⟩
  have hT : (a.lg b []).1 = lgT a b := rfl
  have hP : (a.lg b []).2 = lgP a b := rfl
  rw [hT, hP]
  generalize lgT a b = T at *
  generalize lgP a b = l at *
  repeat' (first | (with_reducible first | refine Wa ?_ | refine Wb ?_ | refine Wc ?_ | refine Wd ?_ | refine We ?_ | refine Wf ?_ | refine Wg ?_ | refine Wh ?_ | refine Wi ?_ | refine Wj ?_ | refine Wk (by decide) ?_ | refine Wl ?_ | refine Wm ?_ | refine Wn ?_) | ((with_reducible first | refine Wo (fun K hK => ?_) | refine Wp ?_ | refine Wq ?_ | refine Wr ?_); (try simp only [go_sem, List.forall_mem_nil, ↓guard_ite, ↓pick_ite, seval, encT_eq, inR_i64, e2, e3, e4, e9, s2, s3, s4, decide_eq_true_eq, decide_eq_false_iff_not, Int.ofNat_lt]); (repeat with_reducible refine And.intro (by first | omega | (with_reducible first | exact lens_encT | exact lens_encL | exact lens_encB | exact lens_encP) | (simp; done) | (simp only [List.length_take, List.length_map, List.length_append, maxLen_eq]; omega)) ?_); (try (with_reducible refine hK _ ?_; clear hK K)); (try with_reducible refine ite_conj ?_)))
  refine IWP.loopD [11] (fun m x => ∃ k, k ≤ l.length ∧ m = l.length - k ∧ x.env 4 = .one (.ptr 4 1 0 0) ∧ x.env 5 = .one (.row 500 k) ∧ x.env 6 = .one (.row 501 k) ∧ x.env 28 = .one (.row 900 l.length) ∧ x.env 29 = aInt l.length ∧ x.env 30 = aInt k ∧ x.S 4 = some (.box 24 [.st (.str T.name), .st (.list (T.args.map encT))]) ∧ x.S 900 = some (arowP l) ∧ x.S 500 = some (rowBd (zBinds Prod.fst 0 (l.take k))) ∧ x.S 501 = some (rowBd (zBinds Prod.snd 0 (l.take k))) ∧ x.S 11 = none) l.length ⟨0, Nat.zero_le _, rfl, by simp only [go_sem, List.forall_mem_nil, ↓guard_ite, ↓pick_ite, seval, encT_eq, inR_i64, e4], rfl, rfl, rfl, rfl, rfl, by simp only [go_sem, List.forall_mem_nil, ↓guard_ite, ↓pick_ite, seval, encT_eq, inR_i64], by simp only [go_sem, List.forall_mem_nil, ↓guard_ite, ↓pick_ite, seval, encT_eq, inR_i64], rfl, rfl, by simp only [go_sem, List.forall_mem_nil, ↓guard_ite, ↓pick_ite, seval, encT_eq, inR_i64, s11]⟩ ?_
  rintro m ⟨env, S⟩ ⟨k, hk, rfl, e4, e5, e6, e28, e29, e30, s4, s900, s500, s501, s11⟩
  simp only at e4 e5 e6 e28 e29 e30 s4 s900 s500 s501 s11
  have q1 := zBinds_len Prod.fst (l.take k) 0
  have q2 := zBinds_len Prod.snd (l.take k) 0
  have hlk : (l.take k).length = k := by rw [List.length_take]; omega
  rw [hlk] at q1 q2
  by_cases hlt : (k : Int) < l.length
  · obtain ⟨p, hp⟩ := get_lt (show k < l.length by omega)
    obtain ⟨zp1, zp2⟩ := hsm p (mem_of_get hp)
    repeat' (first | (with_reducible first | refine Wa ?_ | refine Wb ?_ | refine Wc ?_ | refine Wd ?_ | refine We ?_ | refine Wf ?_ | refine Wg ?_ | refine Wh ?_ | refine Wi ?_ | refine Wj ?_ | refine Wk (by decide) ?_ | refine Wl ?_ | refine Wm ?_ | refine Wn ?_) | refine CallG.mk _ (genName_a k (by omega)) ?_ | refine CallG.mk _ (copy_a p.1 (by have := zp1.1; omega)) ?_ | refine CallG.mk _ (copy_a p.2 (by have := zp2.1; omega)) ?_ | ((with_reducible first | refine Wo (fun K hK => ?_) | refine Wp ?_ | refine Wq ?_ | refine Wr ?_); (try simp only [go_sem, List.forall_mem_nil, ↓guard_ite, ↓pick_ite, seval, encT_eq, inR_i64, e4, e5, e6, e28, e29, e30, s4, s900, s500, s501, s11, hlt, hp, encP, encB, q1, q2, decide_eq_true_eq, decide_eq_false_iff_not, Int.ofNat_lt]); (repeat with_reducible refine And.intro (by first | omega | (with_reducible first | exact lens_encT | exact lens_encL | exact lens_encB | exact lens_encP) | (simp; done) | (simp only [List.length_take, List.length_map, List.length_append, maxLen_eq]; omega)) ?_); (try (with_reducible refine hK _ ?_; clear hK K)); (try with_reducible refine ite_conj ?_)))
    refine then_normal ⟨l.length - (k + 1), by omega, k + 1, by omega, rfl, ?_⟩
    rw [take_snoc hp, zBinds_snoc, zBinds_snoc, hlk, Nat.zero_add]
    simp only [go_sem, List.forall_mem_nil, ↓guard_ite, ↓pick_ite, seval, AS.drop, dropS, AC.clears, AC.clear, AC.highs, AC.high, Bool.not_false, Bool.true_and, Bool.and_self, AV.purge, AV.purges, AC.purge, ABlk.purge, List.contains_cons, List.contains_nil, Nat.reduceBEq, Bool.or_self, Bool.or_false, Bool.false_or, Bool.or_true, encT_eq, inR_i64, e4, e5, e6, e28, e29, e30, s4, s900, s500, s501, s11]
    refine ⟨by congr 3, ?_, ?_⟩
    · rw [rowBd, List.map_append]
      rfl
    · rw [rowBd, List.map_append]
      rfl
  · rw [List.take_of_length_le (by omega)] at s500 s501 q1 q2
    obtain rfl : k = l.length := by omega
    repeat' (first | (with_reducible first | refine Wa ?_ | refine Wb ?_ | refine Wc ?_ | refine Wd ?_ | refine We ?_ | refine Wf ?_ | refine Wg ?_ | refine Wh ?_ | refine Wi ?_ | refine Wj ?_ | refine Wk (by decide) ?_ | refine Wl ?_ | refine Wm ?_ | refine Wn ?_) | ((with_reducible first | refine Wo (fun K hK => ?_) | refine Wq ?_ | refine Wr ?_); (try simp only [go_sem, List.forall_mem_nil, ↓guard_ite, ↓pick_ite, seval, encT_eq, inR_i64, e28, e29, e30, hlt]); (repeat with_reducible refine And.intro (by first | omega | (with_reducible first | exact lens_encT | exact lens_encL | exact lens_encB | exact lens_encP) | (simp; done) | (simp only [List.length_take, List.length_map, List.length_append, maxLen_eq]; omega)) ?_); (try (with_reducible refine hK _ ?_; clear hK K))))
    with_reducible refine Wp ?_
    simp only [go_sem, List.forall_mem_nil, ↓guard_ite, ↓pick_ite, seval, true_implies, false_implies, implies_true, decide_eq_true_eq, decide_eq_false_iff_not, Int.ofNat_lt, hlt]
    (try with_reducible refine ite_conj ?_)
    repeat' (with_reducible first | refine Wb ?_ | refine Wc ?_ | refine Wd ?_ | refine We ?_ | refine Wg ?_ | refine Wh ?_ | refine Wi ?_ | refine Wj ?_ | refine Wk (by decide) ?_ | refine Wl ?_ | refine Wm ?_ | refine Wn ?_)
    have hs1 := sort_M (zBinds Prod.fst 0 l) hn1 (by omega) (up1 500) (up1_le 500) (upS S) (by rw [upS_up, s500]; rfl)
    rw [q1] at hs1
    refine IWP.mid (fun x => x.env 4 = .one (.ptr 4 1 0 0) ∧ x.env 5 = .one (.row 500 l.length) ∧ x.env 6 = .one (.row 501 l.length) ∧ x.env 7 = aInt 0 ∧ x.S 4 = some (.box 24 [.st (.str T.name), .st (.list (T.args.map encT))]) ∧ x.S 500 = some (rowBd (sortB (zBinds Prod.fst 0 l))) ∧ x.S 501 = some (rowBd (sortB (zBinds Prod.snd 0 l)))) ?_ ?_
    · repeat' (first | (with_reducible first | refine Wa ?_ | refine Wb ?_ | refine Wc ?_ | refine Wd ?_ | refine We ?_ | refine Wf ?_ | refine Wg ?_ | refine Wh ?_ | refine Wi ?_ | refine Wj ?_ | refine Wk (by decide) ?_ | refine Wl ?_ | refine Wm ?_ | refine Wn ?_) | ((with_reducible first | refine Wo (fun K hK => ?_) | refine Wq ?_ | refine Wr ?_); (try simp only [go_sem, List.forall_mem_nil, ↓guard_ite, ↓pick_ite, seval, encT_eq, inR_i64, e4, e5, e6, s4]); (repeat with_reducible refine And.intro (by first | omega | (with_reducible first | exact lens_encT | exact lens_encL | exact lens_encB | exact lens_encP) | (simp; done) | (simp only [List.length_take, List.length_map, List.length_append, maxLen_eq]; omega)) ?_); (try (with_reducible refine hK _ ?_; clear hK K))))
      refine ⟨_, _, hs1, ?_⟩
      repeat' (first | (with_reducible first | refine Wa ?_ | refine Wb ?_ | refine Wc ?_ | refine Wd ?_ | refine We ?_ | refine Wf ?_ | refine Wg ?_ | refine Wh ?_ | refine Wi ?_ | refine Wj ?_ | refine Wk (by decide) ?_ | refine Wl ?_ | refine Wm ?_ | refine Wn ?_) | ((with_reducible first | refine Wo (fun K hK => ?_) | refine Wq ?_ | refine Wr ?_); (try simp only [go_sem, List.forall_mem_nil, ↓guard_ite, ↓pick_ite, seval, encT_eq, inR_i64, e4, e5, e6, s4]); (repeat with_reducible refine And.intro (by first | omega | (with_reducible first | exact lens_encT | exact lens_encL | exact lens_encB | exact lens_encP) | (simp; done) | (simp only [List.length_take, List.length_map, List.length_append, maxLen_eq]; omega)) ?_); (try (with_reducible refine hK _ ?_; clear hK K))))
      have hs2 := fun S h => sort_M (zBinds Prod.snd 0 l) hn2 (by omega) (up1 501) (up1_le 501) S h
      rw [q2] at hs2
      refine ⟨_, _, hs2 _ (by rw [upS_up]; simp only [go_sem, List.forall_mem_nil, ↓guard_ite, ↓pick_ite, seval, encT_eq, inR_i64, s501]), ?_⟩
      repeat' (first | (with_reducible first | refine Wa ?_ | refine Wb ?_ | refine Wc ?_ | refine Wd ?_ | refine We ?_ | refine Wf ?_ | refine Wg ?_ | refine Wh ?_ | refine Wi ?_ | refine Wj ?_ | refine Wk (by decide) ?_ | refine Wl ?_ | refine Wm ?_ | refine Wn ?_) | ((with_reducible first | refine Wo (fun K hK => ?_) | refine Wq ?_ | refine Wr ?_); (try simp only [go_sem, List.forall_mem_nil, ↓guard_ite, ↓pick_ite, seval, encT_eq, inR_i64, e4, e5, e6, s4]); (repeat with_reducible refine And.intro (by first | omega | (with_reducible first | exact lens_encT | exact lens_encL | exact lens_encB | exact lens_encP) | (simp; done) | (simp only [List.length_take, List.length_map, List.length_append, maxLen_eq]; omega)) ?_); (try (with_reducible refine hK _ ?_; clear hK K))))
      refine ⟨rfl, ?_⟩
      simp only [go_sem, List.forall_mem_nil, ↓guard_ite, ↓pick_ite, seval, encT_eq, inR_i64, e4, e5, e6, s4]
    rintro ⟨env, S⟩ ⟨e4, e5, e6, e7, s4, s500, s501⟩
    simp only at e4 e5 e6 e7 s4 s500 s501
    refine IWP.ghost (Ghost.share (id := 500) s500) ?_
    refine IWP.ghost (Ghost.share (id := 501) (e := 36) (wd := 3) (xs := (sortB (zBinds Prod.snd 0 l)).map encB) (by simp only [go_sem, List.forall_mem_nil, ↓guard_ite, ↓pick_ite, seval, encT_eq, inR_i64, s501])) ?_
    repeat' (first | (with_reducible first | refine Wa ?_ | refine Wb ?_ | refine Wc ?_ | refine Wd ?_ | refine We ?_ | refine Wf ?_ | refine Wg ?_ | refine Wh ?_ | refine Wi ?_ | refine Wj ?_ | refine Wk (by decide) ?_ | refine Wl ?_ | refine Wm ?_ | refine Wn ?_) | ((with_reducible first | refine Wo (fun K hK => ?_) | refine Wq ?_ | refine Wr ?_); (try simp only [go_sem, List.forall_mem_nil, ↓guard_ite, ↓pick_ite, seval, encT_eq, inR_i64]); (repeat with_reducible refine And.intro (by first | omega | (with_reducible first | exact lens_encT | exact lens_encL | exact lens_encB | exact lens_encP) | (simp; done) | (simp only [List.length_take, List.length_map, List.length_append, maxLen_eq]; omega)) ?_); (try (with_reducible refine hK _ ?_; clear hK K))))
    simp only [go_sem, List.forall_mem_nil, ↓guard_ite, ↓pick_ite, seval, FinQ, AS.result, resAll, resOne, tupV, e4, e5, e6, e7, s4, sortB_length, q1, q2]
theorem general_no (a b : Tm) (h0 : twoMay a b ≠ 0) : ACalls Tryd.prog 10 [aTm a, aTm b] (.tup [aTm Tm.nil, aBds [], aBds [], aInt (twoMay a b)]) := by
  refine ac_general_General (Nat.le_of_ble_eq_true rfl) fun C hC => ?_
  unfold ir_general_General
  repeat' (first | (with_reducible first | refine Wa ?_ | refine Wb ?_ | refine Wc ?_ | refine Wd ?_ | refine We ?_ | refine Wf ?_ | refine Wg ?_ | refine Wh ?_ | refine Wi ?_ | refine Wj ?_ | refine Wk (by decide) ?_ | refine Wl ?_ | refine Wm ?_ | refine Wn ?_) | refine CallG.mk _ (both_a a b) ?_ | ((with_reducible first | refine Wo (fun K hK => ?_) | refine Wp ?_ | refine Wq ?_ | refine Wr ?_); (try simp only [go_sem, List.forall_mem_nil, ↓guard_ite, ↓pick_ite, seval, encT_eq, inR_i64, h0, decide_eq_true_eq, decide_eq_false_iff_not, Int.ofNat_lt]); (repeat with_reducible refine And.intro (by first | omega | (with_reducible first | exact lens_encT | exact lens_encL | exact lens_encB | exact lens_encP) | (simp; done) | (simp only [List.length_take, List.length_map, List.length_append, maxLen_eq]; omega)) ?_); (try (with_reducible refine hK _ ?_; clear hK K)); (try with_reducible refine ite_conj ?_)))
  simp only [go_sem, List.forall_mem_nil, ↓guard_ite, ↓pick_ite, seval, FinQ, AS.result, resAll, resOne, tupV]
  rfl
end Go.Proofs.YtdmgelbbjppgkaaDoor

namespace Go.Proofs.YtdmgelbbjppgkaaDoor
open Go Go.RowKit
set_option maxRecDepth 100000

def ir_R_Pick : IR :=
  (.seq
  (.ops
  [.mk (some 4) none (.mov (.c (.one (.st (.int .i64 0)))))
  .no])
  (.seq
  (.seq
  (.ops
  [.mk (some 5) none (.mov (.t 0)) .no, .mk (some 6) none (.bin .lss (.t 5) (.c (.one (.st (.int .i64 0)))))
  .no])
  (.cond (.t 6)
  (.ops
  [.mk (some 7) none (.mov (.t 0)) .no, .mk (some 8) none (.bin .add (.t 7) (.c (.one (.st (.int .i64 1)))))
  .no, .mk (some 9) none (.un .neg (.t 8)) .no, .mk (some 0) none (.mov (.t 9)) .no])
  .skip))
  (.seq
  (.ops
  [.mk (some 10) none (.mov (.t 0)) .no, .mk (some 11) none (.mov (.t 1)) .no, .mk (some 12) none (.bin .rem (.t 10) (.t 11))
  .no, .mk (some 4) none (.mov (.t 12)) .no])
  .ret)))
theorem tr_R_Pick : trCode Tryd.prog 13 [] (Tryd.f18.body.getD .skip) = some ir_R_Pick := by kernel_rfl
theorem ac_R_Pick {xs : List AV} {r : AV} (hn : xs.length ≤ 13) (h : ∀ C : Ctx, C.n = 13 → IWP Tryd.prog C [] ir_R_Pick (FinQ [.t 4] r) (AS.start xs)) : ACalls Tryd.prog 18 xs r :=
  acalls_of Tryd.func18 rfl tr_R_Pick rfl hn h
theorem acS_R_Pick {xs : List AV} {S S' : AStore} {r : AV} (hn : xs.length ≤ 13) (h : Clean S → ∀ C : Ctx, C.n = 13 → IWP Tryd.prog C [] ir_R_Pick (FinS C [.t 4] r S') (AS.startS xs S)) : ACallsS Tryd.prog 18 xs S r S' :=
  acallsS_of Tryd.func18 rfl tr_R_Pick rfl hn h

def ir_R_Raw : IR :=
  (.seq
  (.ops
  [.mk (some 4) none (.mov (.c (.one (.st (.int .i64 0)))))
  .no])
  (.seq
  (.seq
  (.ops
  [.mk (some 5) none (.mov (.t 0)) .no, .mk (some 6) none (.len false (.t 5)) .no, .mk (some 7) none (.bin .eql (.t 6) (.c (.one (.st (.int .i64 0)))))
  .no])
  (.cond (.t 7)
  (.seq
  (.ops
  [.mk (some 8) none (.mov (.t 1)) .no, .mk (some 9) none (.bin .mul (.t 8) (.c (.one (.st (.int .i64 31)))))
  .no, .mk (some 4) none (.mov (.t 9)) .no])
  .ret)
  .skip))
  (.seq
  (.ops
  [.mk (some 10) none (.mov (.t 0)) .no, .mk (some 11) none (.mov (.t 1)) .no, .mk (some 12) none (.mov (.t 0)) .no, .mk (some 13) none (.len false (.t 12)) .no, .mk (some 14) none (.bin .rem (.t 11) (.t 13))
  .no, .mk (some 15) none (.indexAddr 1 (.t 10) (.t 14))
  .no, .mk (some 16) none (.load false 1 (.t 15)) .no, .mk (some 17) none (.call 18
  [.t 16, .c (.one (.st (.int .i64 1000003)))])
  .no, .mk (some 18) none (.mov (.t 1)) .no, .mk (some 19) none (.mov (.t 0)) .no, .mk (some 20) none (.len false (.t 19)) .no, .mk (some 21) none (.bin .quo (.t 18) (.t 20))
  .no, .mk (some 22) none (.bin .mul (.t 21) (.c (.one (.st (.int .i64 7919)))))
  .no, .mk (some 23) none (.bin .add (.t 17) (.t 22))
  .no, .mk (some 4) none (.mov (.t 23)) .no])
  .ret)))
theorem tr_R_Raw : trCode Tryd.prog 24 [] (Tryd.f43.body.getD .skip) = some ir_R_Raw := by kernel_rfl
theorem ac_R_Raw {xs : List AV} {r : AV} (hn : xs.length ≤ 24) (h : ∀ C : Ctx, C.n = 24 → IWP Tryd.prog C [] ir_R_Raw (FinQ [.t 4] r) (AS.start xs)) : ACalls Tryd.prog 43 xs r :=
  acalls_of Tryd.func43 rfl tr_R_Raw rfl hn h
theorem acS_R_Raw {xs : List AV} {S S' : AStore} {r : AV} (hn : xs.length ≤ 24) (h : Clean S → ∀ C : Ctx, C.n = 24 → IWP Tryd.prog C [] ir_R_Raw (FinS C [.t 4] r S') (AS.startS xs S)) : ACallsS Tryd.prog 43 xs S r S' :=
  acallsS_of Tryd.func43 rfl tr_R_Raw rfl hn h

def ir_R_Leaf : IR :=
  (.seq
  (.ops
  [.mk (some 2) none
  (.alloc 24 [.st (.str (ByteArray.mk (#[]))), .full []])
  .no])
  (.seq
  (.ops
  [.mk (some 3) none (.mov (.t 0)) .no, .mk (some 4) none
  (.build [.st (.str (ByteArray.mk (#[]))), .full []]
  [(0, 1, .t 3)])
  .no, .mk none none (.store 2 (.t 2) (.t 4))
  .no])
  .ret))
theorem tr_R_Leaf : trCode Tryd.prog 5 [] (Tryd.f58.body.getD .skip) = some ir_R_Leaf := by kernel_rfl
theorem ac_R_Leaf {xs : List AV} {r : AV} (hn : xs.length ≤ 5) (h : ∀ C : Ctx, C.n = 5 → IWP Tryd.prog C [] ir_R_Leaf (FinQ [.cell 2 true 2] r) (AS.start xs)) : ACalls Tryd.prog 58 xs r :=
  acalls_of Tryd.func58 rfl tr_R_Leaf rfl hn h
theorem acS_R_Leaf {xs : List AV} {S S' : AStore} {r : AV} (hn : xs.length ≤ 5) (h : Clean S → ∀ C : Ctx, C.n = 5 → IWP Tryd.prog C [] ir_R_Leaf (FinS C [.cell 2 true 2] r S') (AS.startS xs S)) : ACallsS Tryd.prog 58 xs S r S' :=
  acallsS_of Tryd.func58 rfl tr_R_Leaf rfl hn h

def ir_R_Grow : IR :=
  (.seq
  (.ops
  [.mk (some 8) none
  (.alloc 24 [.st (.str (ByteArray.mk (#[]))), .full []])
  .no, .mk (some 9) none (.mov (.c (.one (.st (.int .i64 0)))))
  .no])
  (.seq
  (.ops
  [.mk (some 18) none (.mov (.t 0)) .no, .mk (some 19) none (.mov (.t 1)) .no, .mk (some 20) none (.call 43 [.t 18, .t 19])
  .no, .mk (some 10) none (.mov (.t 20)) .no])
  (.seq
  (.ops
  [.mk (some 21) none (.mov (.t 1)) .no, .mk (some 22) none (.bin .add (.t 21) (.c (.one (.st (.int .i64 1)))))
  .no, .mk (some 1) none (.mov (.t 22)) .no])
  (.seq
  (.seq
  (.ops
  [.mk (some 23) none (.mov (.t 2)) .no, .mk (some 24) none (.bin .lss (.t 23) (.c (.one (.st (.int .i64 3)))))
  .no, .mk (some 25) none (.mov (.t 24)) .no, .mk (some 26) (some (25, false)) (.mov (.t 10)) .no, .mk (some 27) (some (25, false)) (.call 18
  [.t 26, .c (.one (.st (.int .i64 5)))])
  .no, .mk (some 28) (some (25, false)) (.bin .lss (.t 27) (.c (.one (.st (.int .i64 2)))))
  .no, .mk (some 29) none
  (.pick (.t 25) (.c (.one (.st (.bool true)))) (.t 28))
  .no])
  (.cond (.t 29)
  (.seq
  (.seq
  (.ops
  [.mk (some 30) none (.mov (.t 3)) .no, .mk (some 31) none (.bin .gtr (.t 30) (.c (.one (.st (.int .i64 0)))))
  .no, .mk (some 32) none (.mov (.t 31)) .no, .mk (some 33) (some (32, true)) (.mov (.t 10)) .no, .mk (some 34) (some (32, true)) (.bin .quo (.t 33) (.c (.one (.st (.int .i64 5)))))
  .no, .mk (some 35) (some (32, true)) (.call 18
  [.t 34, .c (.one (.st (.int .i64 3)))])
  .no, .mk (some 36) (some (32, true)) (.bin .gtr (.t 35) (.c (.one (.st (.int .i64 0)))))
  .no, .mk (some 37) none
  (.pick (.t 32) (.t 36) (.c (.one (.st (.bool false)))))
  .no])
  (.cond (.t 37)
  (.seq
  (.ops
  [.mk (some 38) none
  (.buildFlat
  [.c (.one (.st (.str (ByteArray.mk (#[88]))))), .c (.one (.st (.str (ByteArray.mk (#[89]))))), .c (.one (.st (.str (ByteArray.mk (#[90]))))), .c (.one (.st (.str (ByteArray.mk (#[85])))))])
  .no, .mk (some 39) none (.mov (.t 10)) .no, .mk (some 40) none (.bin .quo (.t 39) (.c (.one (.st (.int .i64 15)))))
  .no, .mk (some 41) none (.mov (.t 3)) .no, .mk (some 42) none (.call 18 [.t 40, .t 41])
  .no, .mk (some 43) none (.indexAddr 1 (.t 38) (.t 42))
  .no, .mk (some 44) none (.load false 1 (.t 43)) .no, .mk (some 45) none (.call 58 [.t 44]) .no, .mk (some 46) none (.mov (.t 1)) .no, .mk none none (.store 2 (.t 8) (.t 45))
  .no, .mk (some 9) none (.mov (.t 46)) .no])
  .ret)
  .skip))
  (.seq
  (.ops
  [.mk (some 47) none
  (.buildFlat
  [.c (.one (.st (.str (ByteArray.mk (#[97]))))), .c (.one (.st (.str (ByteArray.mk (#[98]))))), .c (.one (.st (.str (ByteArray.mk (#[99])))))])
  .no, .mk (some 48) none (.mov (.t 10)) .no, .mk (some 49) none (.bin .quo (.t 48) (.c (.one (.st (.int .i64 15)))))
  .no, .mk (some 50) none (.call 18
  [.t 49, .c (.one (.st (.int .i64 3)))])
  .no, .mk (some 51) none (.indexAddr 1 (.t 47) (.t 50))
  .no, .mk (some 52) none (.load false 1 (.t 51)) .no, .mk (some 53) none (.call 58 [.t 52]) .no, .mk (some 54) none (.mov (.t 1)) .no, .mk none none (.store 2 (.t 8) (.t 53))
  .no, .mk (some 9) none (.mov (.t 54)) .no])
  .ret))
  .skip))
  (.seq
  (.seq
  (.ops
  [.mk (some 55) none (.mov (.t 10)) .no, .mk (some 56) none (.bin .quo (.t 55) (.c (.one (.st (.int .i64 5)))))
  .no, .mk (some 57) none (.call 18
  [.t 56, .c (.one (.st (.int .i64 4)))])
  .no])
  (.block 0
  (.seq
  (.ops
  [.mk (some 59) none (.bin .eql (.t 57) (.c (.one (.st (.int .i64 0)))))
  .no, .mk (some 58) none (.mov (.t 59)) .no])
  (.cond (.t 58)
  (.seq
  (.ops
  [.mk (some 61) none (.mov (.t 0)) .no, .mk (some 62) none (.mov (.t 1)) .no, .mk (some 63) none (.mov (.t 2)) .no, .mk (some 64) none (.bin .sub (.t 63) (.c (.one (.st (.int .i64 1)))))
  .no, .mk (some 65) none (.mov (.t 3)) .no, .mk (some 66) none (.call 41
  [.t 61, .t 62, .t 64, .t 65])
  .no, .mk (some 60) none (.mov (.t 66)) .no, .mk (some 67) none (.extract 0 (.t 60)) .no, .mk (some 68) none (.extract 1 (.t 60)) .no, .mk (some 11) none
  (.alloc 24 [.st (.str (ByteArray.mk (#[]))), .full []])
  .no, .mk none none (.store 2 (.t 11) (.t 67))
  .no, .mk (some 12) none (.mov (.t 68)) .no])
  (.seq
  (.ops
  [.mk (some 69) none (.load true 2 (.t 11)) .no, .mk (some 70) none (.buildSlice false 24 2 [.t 69])
  .no, .mk (some 71) none
  (.build [.st (.str (ByteArray.mk (#[]))), .full []]
  [(0, 1, .c (.one (.st (.str (ByteArray.mk (#[104])))))),
  (1, 1, .t 70)])
  .no, .mk (some 72) none (.mov (.t 12)) .no, .mk none none (.store 2 (.t 8) (.t 71))
  .no, .mk (some 9) none (.mov (.t 72)) .no])
  .ret))
  (.seq
  (.ops
  [.mk (some 74) none (.bin .eql (.t 57) (.c (.one (.st (.int .i64 1)))))
  .no, .mk (some 73) none (.mov (.t 74)) .no])
  (.cond (.t 73)
  (.seq
  (.ops
  [.mk (some 76) none (.mov (.t 0)) .no, .mk (some 77) none (.mov (.t 1)) .no, .mk (some 78) none (.mov (.t 2)) .no, .mk (some 79) none (.bin .sub (.t 78) (.c (.one (.st (.int .i64 1)))))
  .no, .mk (some 80) none (.mov (.t 3)) .no, .mk (some 81) none (.call 41
  [.t 76, .t 77, .t 79, .t 80])
  .no, .mk (some 75) none (.mov (.t 81)) .no, .mk (some 82) none (.extract 0 (.t 75)) .no, .mk (some 83) none (.extract 1 (.t 75)) .no, .mk (some 13) none
  (.alloc 24 [.st (.str (ByteArray.mk (#[]))), .full []])
  .no, .mk none none (.store 2 (.t 13) (.t 82))
  .no, .mk (some 14) none (.mov (.t 83)) .no])
  (.seq
  (.ops
  [.mk (some 84) none (.load true 2 (.t 13))
  .no, .mk (some 85) none (.buildSlice false 24 2 [.t 84])
  .no, .mk (some 86) none
  (.build [.st (.str (ByteArray.mk (#[]))), .full []]
  [(0, 1, .c (.one (.st (.str (ByteArray.mk (#[107])))))),
  (1, 1, .t 85)])
  .no, .mk (some 87) none (.mov (.t 14)) .no, .mk none none (.store 2 (.t 8) (.t 86))
  .no, .mk (some 9) none (.mov (.t 87)) .no])
  .ret))
  .skip))))))
  (.seq
  (.ops
  [.mk (some 89) none (.mov (.t 0)) .no, .mk (some 90) none (.mov (.t 1)) .no, .mk (some 91) none (.mov (.t 2)) .no, .mk (some 92) none (.bin .quo (.t 91) (.c (.one (.st (.int .i64 2)))))
  .no, .mk (some 93) none (.mov (.t 3)) .no, .mk (some 94) none (.call 41 [.t 89, .t 90, .t 92, .t 93])
  .no, .mk (some 88) none (.mov (.t 94)) .no, .mk (some 95) none (.extract 0 (.t 88)) .no, .mk (some 96) none (.extract 1 (.t 88)) .no, .mk (some 15) none
  (.alloc 24 [.st (.str (ByteArray.mk (#[]))), .full []])
  .no, .mk none none (.store 2 (.t 15) (.t 95))
  .no, .mk (some 16) none (.mov (.t 96)) .no])
  (.seq
  (.ops
  [.mk (some 98) none (.mov (.t 0)) .no, .mk (some 99) none (.mov (.t 16)) .no, .mk (some 100) none (.mov (.t 2)) .no, .mk (some 101) none (.bin .quo (.t 100) (.c (.one (.st (.int .i64 2)))))
  .no, .mk (some 102) none (.mov (.t 3)) .no, .mk (some 103) none (.call 41
  [.t 98, .t 99, .t 101, .t 102])
  .no, .mk (some 97) none (.mov (.t 103)) .no, .mk (some 104) none (.extract 0 (.t 97)) .no, .mk (some 105) none (.extract 1 (.t 97)) .no, .mk (some 17) none
  (.alloc 24 [.st (.str (ByteArray.mk (#[]))), .full []])
  .no, .mk none none (.store 2 (.t 17) (.t 104))
  .no, .mk (some 16) none (.mov (.t 105)) .no])
  (.seq
  (.ops
  [.mk (some 106) none
  (.buildFlat
  [.c (.one (.st (.str (ByteArray.mk (#[102]))))), .c (.one (.st (.str (ByteArray.mk (#[103])))))])
  .no, .mk (some 107) none (.mov (.t 10)) .no, .mk (some 108) none (.bin .quo (.t 107) (.c (.one (.st (.int .i64 5)))))
  .no, .mk (some 109) none (.call 18
  [.t 108, .c (.one (.st (.int .i64 4)))])
  .no, .mk (some 110) none (.bin .sub (.t 109) (.c (.one (.st (.int .i64 2)))))
  .no, .mk (some 111) none (.indexAddr 1 (.t 106) (.t 110))
  .no, .mk (some 112) none (.load false 1 (.t 111)) .no, .mk (some 113) none (.load true 2 (.t 15)) .no, .mk (some 114) none (.load true 2 (.t 17)) .no, .mk (some 115) none
  (.buildSlice false 24 2 [.t 113, .t 114]) .no, .mk (some 116) none
  (.build [.st (.str (ByteArray.mk (#[]))), .full []]
  [(0, 1, .t 112), (1, 1, .t 115)])
  .no, .mk (some 117) none (.mov (.t 16)) .no, .mk none none (.store 2 (.t 8) (.t 116))
  .no, .mk (some 9) none (.mov (.t 117)) .no])
  .ret))))))))
theorem tr_R_Grow : trCode Tryd.prog 118 [] (Tryd.f41.body.getD .skip) = some ir_R_Grow := by kernel_rfl
theorem ac_R_Grow {xs : List AV} {r : AV} (hn : xs.length ≤ 118) (h : ∀ C : Ctx, C.n = 118 → IWP Tryd.prog C [] ir_R_Grow (FinQ [.cell 8 true 2, .t 9] r) (AS.start xs)) : ACalls Tryd.prog 41 xs r :=
  acalls_of Tryd.func41 rfl tr_R_Grow rfl hn h
theorem acS_R_Grow {xs : List AV} {S S' : AStore} {r : AV} (hn : xs.length ≤ 118) (h : Clean S → ∀ C : Ctx, C.n = 118 → IWP Tryd.prog C [] ir_R_Grow (FinS C [.cell 8 true 2, .t 9] r S') (AS.startS xs S)) : ACallsS Tryd.prog 41 xs S r S' :=
  acallsS_of Tryd.func41 rfl tr_R_Grow rfl hn h

def ir_R_TermOf : IR :=
  (.seq
  (.ops
  [.mk (some 8) none
  (.alloc 24 [.st (.str (ByteArray.mk (#[]))), .full []])
  .no])
  (.seq
  (.ops
  [.mk (some 12) none (.mov (.t 0)) .no, .mk (some 13) none (.mov (.t 1)) .no, .mk (some 14) none (.mov (.t 2)) .no, .mk (some 15) none (.mov (.t 3)) .no, .mk (some 16) none (.call 41 [.t 12, .t 13, .t 14, .t 15])
  .no, .mk (some 11) none (.mov (.t 16)) .no, .mk (some 17) none (.extract 0 (.t 11)) .no, .mk (some 18) none (.extract 1 (.t 11)) .no, .mk (some 9) none
  (.alloc 24 [.st (.str (ByteArray.mk (#[]))), .full []])
  .no, .mk none none (.store 2 (.t 9) (.t 17))
  .no, .mk (some 10) none (.mov (.t 18)) .no])
  (.seq
  (.ops
  [.mk (some 19) none (.load true 2 (.t 9)) .no, .mk none none (.store 2 (.t 8) (.t 19))
  .no])
  .ret)))
theorem tr_R_TermOf : trCode Tryd.prog 20 [] (Tryd.f17.body.getD .skip) = some ir_R_TermOf := by kernel_rfl
theorem ac_R_TermOf {xs : List AV} {r : AV} (hn : xs.length ≤ 20) (h : ∀ C : Ctx, C.n = 20 → IWP Tryd.prog C [] ir_R_TermOf (FinQ [.cell 8 true 2] r) (AS.start xs)) : ACalls Tryd.prog 17 xs r :=
  acalls_of Tryd.func17 rfl tr_R_TermOf rfl hn h
theorem acS_R_TermOf {xs : List AV} {S S' : AStore} {r : AV} (hn : xs.length ≤ 20) (h : Clean S → ∀ C : Ctx, C.n = 20 → IWP Tryd.prog C [] ir_R_TermOf (FinS C [.cell 8 true 2] r S') (AS.startS xs S)) : ACallsS Tryd.prog 17 xs S r S' :=
  acallsS_of Tryd.func17 rfl tr_R_TermOf rfl hn h

end Go.Proofs.YtdmgelbbjppgkaaDoor
