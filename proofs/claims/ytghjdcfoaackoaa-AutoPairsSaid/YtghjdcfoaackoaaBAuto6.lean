/-
  Automata: in which states a term may end; the walk of the law AutoPairs.
  Conditions: none.
-/
import Derived.Test.YtghjdcfoaackoaaBAuto5
namespace Go.Proofs.Ytghjdcfoaackoaa
open Go Go.RowKit
set_option linter.unusedVariables false
set_option linter.unusedSimpArgs false
set_option maxHeartbeats 2000000

theorem allIn_take : ∀ {bs : List (List Bool)} {ss : List Int} {j : Nat} {b : List Bool} {s : Int}, bs[j]? = some b → ss[j]? = some s → allIn (bs.take (j + 1)) (ss.take (j + 1)) = (allIn (bs.take j) (ss.take j) && b.getD s.toNat false)
  | b0 :: bs, s0 :: ss, 0, b, s, hb, hs => by
    simp at hb hs
    subst hb hs
    simp [allIn]
  | b0 :: bs, s0 :: ss, j + 1, b, s, hb, hs => by
    simp only [List.take_succ_cons, allIn]
    rw [allIn_take (by simpa using hb) (by simpa using hs), Bool.and_assoc]
  | [], _, _, _, _, hb, _ => by simp at hb
  | _ :: _, [], _, _, _, _, hs => by simp at hs
theorem allIn_len : ∀ {bs : List (List Bool)} {ss : List Int}, ¬ ss.length = bs.length → allIn bs ss = false
  | [], [], h => absurd rfl h
  | [], _ :: _, _ => rfl
  | _ :: _, [], _ => rfl
  | b :: bs, s :: ss, h => by
    rw [allIn, allIn_len (fun e => h (by simp [e]))]
    simp
theorem getB {l : List Bool} {i : Nat} (h : i < l.length) : ∃ b, l[i]? = some b ∧ l.getD i false = b := by
  refine ⟨l[i], List.getElem?_eq_getElem h, ?_⟩
  rw [List.getD_eq_getElem?_getD, List.getElem?_eq_getElem h]
  rfl
theorem ending_a (a : Au) (ga : a.Good) (hs64 : a.states ≤ 64) (hm : a.moves.length ≤ 100000) (n : ByteArray) (below : List (List Bool)) (hb : ∀ l ∈ below, l.length = a.states.toNat) (hbl : below.length ≤ 1000000) :
    ACalls Try.prog 18 [aAu a, aStr n, aBss below] (aBools (a.ending n below)) := by
  have hst := ga.states
  refine ac_R_Ending (Nat.le_of_ble_eq_true rfl) fun C hC => ?_
  unfold ir_R_Ending
  repeat' (first | (with_reducible first | refine Wa ?_ | refine Wb ?_ | refine Wc ?_ | refine Wd ?_ | refine We ?_ | refine Wf ?_ | refine Wg ?_ | refine Wh ?_ | refine Wi ?_ | refine Wj ?_ | refine Wk (by decide) ?_ | refine Wl ?_ | refine Wm ?_ | refine Wn ?_) | ((with_reducible first | refine Wo (fun K hK => ?_) | refine Wp ?_ | refine Wq ?_ | refine Wr ?_); (try simp only [go_sem, List.forall_mem_nil, ↓guard_ite, ↓pick_ite, seval, encT_eq, inR_i64, decide_eq_true_eq, decide_eq_false_iff_not, Int.ofNat_lt]); (repeat with_reducible refine And.intro (by first | omega | with_reducible exact lens_encT | with_reducible exact lens_encL | (simp; done) | (simp only [List.length_take, List.length_map, List.length_append, maxLen_eq]; omega)) ?_); (try (with_reducible refine hK _ ?_; clear hK K)); (try with_reducible refine ite_conj ?_)))
  refine IWP.loopD [9] (fun q s => ∃ k, k ≤ a.moves.length ∧ q = a.moves.length - k ∧ s.env 1 = aStr n ∧ s.env 2 = aBss below ∧ s.env 3 = .one (.ptr 3 1 0 0) ∧ s.S 3 = some (boxAu a) ∧ s.env 7 = .one (.row 14 a.states.toNat) ∧ s.S 14 = some (.mrow 4 1 (((a.moves.take k).foldl (addMv n below) (List.replicate a.states.toNat false)).map encB)) ∧ s.env 8 = aInt k ∧ s.S 9 = none) a.moves.length
    ⟨0, Nat.zero_le _, rfl, rfl, rfl, rfl, rfl, by simp [updE], by simp [updE], rfl, rfl⟩ ?_
  rintro q ⟨env, St⟩ ⟨k, hk, rfl, e1, e2, e3, s3, e7, s7, e8, s9⟩
  simp only at e1 e2 e3 s3 e7 s7 e8 s9
  unfold boxAu at s3
  by_cases hlt : (k : Int) < a.moves.length
  · obtain ⟨m, hmk⟩ := get_lt (show k < a.moves.length by omega)
    have hmm := mem_of_get hmk
    have hto := ga.to_ m hmm
    have hfold : (a.moves.take (k + 1)).foldl (addMv n below) (List.replicate a.states.toNat false) = addMv n below ((a.moves.take k).foldl (addMv n below) (List.replicate a.states.toNat false)) m := by
      rw [take_snoc hmk, List.foldl_append]
      rfl
    have hfl := fold_length n below (a.moves.take k) (List.replicate a.states.toNat false)
    rw [List.length_replicate] at hfl
    generalize (a.moves.take k).foldl (addMv n below) (List.replicate a.states.toNat false) = L at *
    by_cases g1 : m.name = n
    case neg =>
      have hf : m.fits n below = false := by simp [Mv.fits, g1]
      repeat' (first | (with_reducible first | refine Wa ?_ | refine Wb ?_ | refine Wc ?_ | refine Wd ?_ | refine We ?_ | refine Wf ?_ | refine Wg ?_ | refine Wh ?_ | refine Wi ?_ | refine Wj ?_ | refine Wk (by decide) ?_ | refine Wl ?_ | refine Wm ?_ | refine Wn ?_) | ((with_reducible first | refine Wo (fun K hK => ?_) | refine Wp ?_ | refine Wq ?_ | refine Wr ?_); (try simp only [go_sem, List.forall_mem_nil, ↓guard_ite, ↓pick_ite, seval, encT_eq, inR_i64, e1, e2, e3, s3, e7, s7, e8, s9, hlt, hmk, encMv, g1, decide_eq_true_eq, decide_eq_false_iff_not, Int.ofNat_lt]); (repeat with_reducible refine And.intro (by first | omega | with_reducible exact lens_encT | with_reducible exact lens_encL | (simp; done) | (simp only [List.length_take, List.length_map, List.length_append, maxLen_eq]; omega)) ?_); (try (with_reducible refine hK _ ?_; clear hK K)); (try with_reducible refine ite_conj ?_)))
      refine then_normal ⟨a.moves.length - (k + 1), by omega, k + 1, by omega, rfl, ?_⟩
      simp only [go_sem, List.forall_mem_nil, ↓guard_ite, ↓pick_ite, seval, AS.drop, dropS, AC.clears, AC.clear, AC.highs, AC.high, Bool.not_false, Bool.true_and, Bool.and_self, AV.purge, AV.purges, AC.purge, ABlk.purge, List.contains_cons, List.contains_nil, Nat.reduceBEq, Bool.or_self, Bool.or_false, Bool.false_or, Bool.or_true, encT_eq, inR_i64, e1, e2, e3, s3, e7, s7, e8, s9, boxAu]
      simp [hfold, addMv, hf]
    case pos =>
    by_cases g2 : (m.frm.length : Int) = below.length
    case neg =>
      have hf : m.fits n below = false := by
        unfold Mv.fits
        rw [allIn_len (by omega)]
        simp
      repeat' (first | (with_reducible first | refine Wa ?_ | refine Wb ?_ | refine Wc ?_ | refine Wd ?_ | refine We ?_ | refine Wf ?_ | refine Wg ?_ | refine Wh ?_ | refine Wi ?_ | refine Wj ?_ | refine Wk (by decide) ?_ | refine Wl ?_ | refine Wm ?_ | refine Wn ?_) | ((with_reducible first | refine Wo (fun K hK => ?_) | refine Wp ?_ | refine Wq ?_ | refine Wr ?_); (try simp only [go_sem, List.forall_mem_nil, ↓guard_ite, ↓pick_ite, seval, encT_eq, inR_i64, e1, e2, e3, s3, e7, s7, e8, s9, hlt, hmk, encMv, g1, g2, decide_eq_true_eq, decide_eq_false_iff_not, Int.ofNat_lt]); (repeat with_reducible refine And.intro (by first | omega | with_reducible exact lens_encT | with_reducible exact lens_encL | (simp; done) | (simp only [List.length_take, List.length_map, List.length_append, maxLen_eq]; omega)) ?_); (try (with_reducible refine hK _ ?_; clear hK K)); (try with_reducible refine ite_conj ?_)))
      refine then_normal ⟨a.moves.length - (k + 1), by omega, k + 1, by omega, rfl, ?_⟩
      simp only [go_sem, List.forall_mem_nil, ↓guard_ite, ↓pick_ite, seval, AS.drop, dropS, AC.clears, AC.clear, AC.highs, AC.high, Bool.not_false, Bool.true_and, Bool.and_self, AV.purge, AV.purges, AC.purge, ABlk.purge, List.contains_cons, List.contains_nil, Nat.reduceBEq, Bool.or_self, Bool.or_false, Bool.false_or, Bool.or_true, encT_eq, inR_i64, e1, e2, e3, s3, e7, s7, e8, s9, boxAu]
      simp [hfold, addMv, hf]
    case pos =>
    have g2' : m.frm.length = below.length := by omega
    repeat' (first | (with_reducible first | refine Wa ?_ | refine Wb ?_ | refine Wc ?_ | refine Wd ?_ | refine We ?_ | refine Wf ?_ | refine Wg ?_ | refine Wh ?_ | refine Wi ?_ | refine Wj ?_ | refine Wk (by decide) ?_ | refine Wl ?_ | refine Wm ?_ | refine Wn ?_) | ((with_reducible first | refine Wo (fun K hK => ?_) | refine Wp ?_ | refine Wq ?_ | refine Wr ?_); (try simp only [go_sem, List.forall_mem_nil, ↓guard_ite, ↓pick_ite, seval, encT_eq, inR_i64, e1, e2, e3, s3, e7, s7, e8, s9, hlt, hmk, encMv, g1, g2, decide_eq_true_eq, decide_eq_false_iff_not, Int.ofNat_lt]); (repeat with_reducible refine And.intro (by first | omega | with_reducible exact lens_encT | with_reducible exact lens_encL | (simp; done) | (simp only [List.length_take, List.length_map, List.length_append, maxLen_eq]; omega)) ?_); (try (with_reducible refine hK _ ?_; clear hK K)); (try with_reducible refine ite_conj ?_)))
    refine IWP.loop (fun q s => ∃ j, j ≤ below.length ∧ q = below.length - j ∧ s.env 1 = aStr n ∧ s.env 2 = aBss below ∧ s.env 3 = .one (.ptr 3 1 0 0) ∧ s.S 3 = some (boxAu a) ∧ s.env 7 = .one (.row 14 a.states.toNat) ∧ s.S 14 = some (.mrow 4 1 (L.map encB)) ∧ s.env 8 = aInt k ∧ s.env 9 = .one (.ptr 9 1 0 0) ∧ s.S 9 = some (.box 38 [.st (.str m.name), .st (.list (m.frm.map encI)), .st (.int .i64 m.to_)]) ∧ s.env 10 = aBool (allIn (below.take j) (m.frm.take j)) ∧ s.env 11 = aInt j) below.length
      ⟨0, Nat.zero_le _, rfl, by simp [updE, e1], by simp [updE, e2], by simp [updE, e3], by simp [updE, boxAu, s3], by simp [updE, e7], by simp [updE, s7], by simp [updE, e8], by simp [updE], by simp [updE, g1], by simp [updE, allIn], by simp [updE]⟩ ?_
    rintro q ⟨env2, S2⟩ ⟨j, hj, rfl, f1, f2, f3, t3, f7, t7, f8, f9, t9, f10, f11⟩
    simp only at f1 f2 f3 t3 f7 t7 f8 f9 t9 f10 f11
    unfold boxAu at t3
    by_cases hjl : (j : Int) < below.length
    · obtain ⟨bl, hbj⟩ := get_lt (show j < below.length by omega)
      obtain ⟨x, hx⟩ := get_lt (show j < m.frm.length by omega)
      have qx := ga.frm m hmm x (mem_of_get hx)
      have hbll := hb bl (mem_of_get hbj)
      obtain ⟨y, hy, hyd⟩ := getB (show x.toNat < bl.length by omega)
      have hst2 := allIn_take hbj hx
      rw [hyd] at hst2
      generalize allIn (below.take j) (m.frm.take j) = ok at f10 hst2
      cases ok with
      | true =>
        repeat' (first | (with_reducible first | refine Wa ?_ | refine Wb ?_ | refine Wc ?_ | refine Wd ?_ | refine We ?_ | refine Wf ?_ | refine Wg ?_ | refine Wh ?_ | refine Wi ?_ | refine Wj ?_ | refine Wk (by decide) ?_ | refine Wl ?_ | refine Wm ?_ | refine Wn ?_) | ((with_reducible first | refine Wo (fun K hK => ?_) | refine Wp ?_ | refine Wq ?_ | refine Wr ?_); (try simp only [go_sem, List.forall_mem_nil, ↓guard_ite, ↓pick_ite, seval, encT_eq, inR_i64, f1, f2, f3, t3, f7, t7, f8, f9, t9, f10, f11, hjl, hbj, hx, hy, decide_eq_true_eq, decide_eq_false_iff_not, Int.ofNat_lt]); (repeat with_reducible refine And.intro (by first | omega | with_reducible exact lens_encT | with_reducible exact lens_encL | (simp; done) | (simp only [List.length_take, List.length_map, List.length_append, maxLen_eq]; omega)) ?_); (try (with_reducible refine hK _ ?_; clear hK K)); (try with_reducible refine ite_conj ?_)))
        refine then_normal ⟨below.length - (j + 1), by omega, j + 1, by omega, rfl, ?_⟩
        simp only [go_sem, List.forall_mem_nil, ↓guard_ite, ↓pick_ite, seval, encT_eq, inR_i64, f1, f2, f3, t3, f7, t7, f8, f9, t9, f10, f11, boxAu]
        simp [hst2]
      | false =>
        repeat' (first | (with_reducible first | refine Wa ?_ | refine Wb ?_ | refine Wc ?_ | refine Wd ?_ | refine We ?_ | refine Wf ?_ | refine Wg ?_ | refine Wh ?_ | refine Wi ?_ | refine Wj ?_ | refine Wk (by decide) ?_ | refine Wl ?_ | refine Wm ?_ | refine Wn ?_) | ((with_reducible first | refine Wo (fun K hK => ?_) | refine Wp ?_ | refine Wq ?_ | refine Wr ?_); (try simp only [go_sem, List.forall_mem_nil, ↓guard_ite, ↓pick_ite, seval, encT_eq, inR_i64, f1, f2, f3, t3, f7, t7, f8, f9, t9, f10, f11, hjl, hbj, hx, hy, decide_eq_true_eq, decide_eq_false_iff_not, Int.ofNat_lt]); (repeat with_reducible refine And.intro (by first | omega | with_reducible exact lens_encT | with_reducible exact lens_encL | (simp; done) | (simp only [List.length_take, List.length_map, List.length_append, maxLen_eq]; omega)) ?_); (try (with_reducible refine hK _ ?_; clear hK K)); (try with_reducible refine ite_conj ?_)))
        refine then_normal ⟨below.length - (j + 1), by omega, j + 1, by omega, rfl, ?_⟩
        simp only [go_sem, List.forall_mem_nil, ↓guard_ite, ↓pick_ite, seval, encT_eq, inR_i64, f1, f2, f3, t3, f7, t7, f8, f9, t9, f10, f11, boxAu]
        simp [hst2]
    · rw [List.take_of_length_le (l := below) (i := j) (by omega), List.take_of_length_le (l := m.frm) (i := j) (by omega)] at f10
      have hf : m.fits n below = allIn below m.frm := by simp [Mv.fits, g1]
      have hoo := getB (show m.to_.toNat < L.length by omega)
      obtain ⟨z, hz, _⟩ := hoo
      by_cases g3 : allIn below m.frm = true
      · rw [g3] at f10 hf
        repeat' (first | (with_reducible first | refine Wa ?_ | refine Wb ?_ | refine Wc ?_ | refine Wd ?_ | refine We ?_ | refine Wf ?_ | refine Wg ?_ | refine Wh ?_ | refine Wi ?_ | refine Wj ?_ | refine Wk (by decide) ?_ | refine Wl ?_ | refine Wm ?_ | refine Wn ?_) | ((with_reducible first | refine Wo (fun K hK => ?_) | refine Wp ?_ | refine Wq ?_ | refine Wr ?_); (try simp only [go_sem, List.forall_mem_nil, ↓guard_ite, ↓pick_ite, seval, encT_eq, inR_i64, f1, f2, f3, t3, f7, t7, f8, f9, t9, f10, f11, hjl, hz, hfl, decide_eq_true_eq, decide_eq_false_iff_not, Int.ofNat_lt]); (repeat with_reducible refine And.intro (by first | omega | with_reducible exact lens_encT | with_reducible exact lens_encL | (simp; done) | (simp only [List.length_take, List.length_map, List.length_append, maxLen_eq]; omega)) ?_); (try (with_reducible refine hK _ ?_; clear hK K)); (try with_reducible refine ite_conj ?_)))
        refine then_normal ⟨a.moves.length - (k + 1), by omega, k + 1, by omega, rfl, ?_⟩
        simp only [go_sem, List.forall_mem_nil, ↓guard_ite, ↓pick_ite, seval, AS.drop, dropS, AC.clears, AC.clear, AC.highs, AC.high, Bool.not_false, Bool.true_and, Bool.and_self, AV.purge, AV.purges, AC.purge, ABlk.purge, List.contains_cons, List.contains_nil, Nat.reduceBEq, Bool.or_self, Bool.or_false, Bool.false_or, Bool.or_true, encT_eq, inR_i64, f1, f2, f3, t3, f7, t7, f8, f9, t9, f10, f11, boxAu]
        simp [hfold, addMv, hf]
      · have g3' : allIn below m.frm = false := by simpa using g3
        rw [g3'] at f10 hf
        repeat' (first | (with_reducible first | refine Wa ?_ | refine Wb ?_ | refine Wc ?_ | refine Wd ?_ | refine We ?_ | refine Wf ?_ | refine Wg ?_ | refine Wh ?_ | refine Wi ?_ | refine Wj ?_ | refine Wk (by decide) ?_ | refine Wl ?_ | refine Wm ?_ | refine Wn ?_) | ((with_reducible first | refine Wo (fun K hK => ?_) | refine Wp ?_ | refine Wq ?_ | refine Wr ?_); (try simp only [go_sem, List.forall_mem_nil, ↓guard_ite, ↓pick_ite, seval, encT_eq, inR_i64, f1, f2, f3, t3, f7, t7, f8, f9, t9, f10, f11, hjl, decide_eq_true_eq, decide_eq_false_iff_not, Int.ofNat_lt]); (repeat with_reducible refine And.intro (by first | omega | with_reducible exact lens_encT | with_reducible exact lens_encL | (simp; done) | (simp only [List.length_take, List.length_map, List.length_append, maxLen_eq]; omega)) ?_); (try (with_reducible refine hK _ ?_; clear hK K)); (try with_reducible refine ite_conj ?_)))
        refine then_normal ⟨a.moves.length - (k + 1), by omega, k + 1, by omega, rfl, ?_⟩
        simp only [go_sem, List.forall_mem_nil, ↓guard_ite, ↓pick_ite, seval, AS.drop, dropS, AC.clears, AC.clear, AC.highs, AC.high, Bool.not_false, Bool.true_and, Bool.and_self, AV.purge, AV.purges, AC.purge, ABlk.purge, List.contains_cons, List.contains_nil, Nat.reduceBEq, Bool.or_self, Bool.or_false, Bool.false_or, Bool.or_true, encT_eq, inR_i64, f1, f2, f3, t3, f7, t7, f8, f9, t9, f10, f11, boxAu]
        simp [hfold, addMv, hf]
  · rw [List.take_of_length_le (l := a.moves) (i := k) (by omega)] at s7
    have hle : a.ending n below = a.moves.foldl (addMv n below) (List.replicate a.states.toNat false) := rfl
    rw [← hle] at s7
    have hll := a.ending_length n below
    refine IWP.ghost (Ghost.share (C := C) (id := 14) s7) ?_
    repeat' (first | (with_reducible first | refine Wa ?_ | refine Wb ?_ | refine Wc ?_ | refine Wd ?_ | refine We ?_ | refine Wf ?_ | refine Wg ?_ | refine Wh ?_ | refine Wi ?_ | refine Wj ?_ | refine Wk (by decide) ?_ | refine Wl ?_ | refine Wm ?_ | refine Wn ?_) | ((with_reducible first | refine Wo (fun K hK => ?_) | refine Wp ?_ | refine Wq ?_ | refine Wr ?_); (try simp only [go_sem, List.forall_mem_nil, ↓guard_ite, ↓pick_ite, seval, encT_eq, inR_i64, e1, e2, e3, s3, e7, s7, e8, s9, hlt, decide_eq_true_eq, decide_eq_false_iff_not, Int.ofNat_lt]); (repeat with_reducible refine And.intro (by first | omega | with_reducible exact lens_encT | with_reducible exact lens_encL | (simp; done) | (simp only [List.length_take, List.length_map, List.length_append, maxLen_eq]; omega)) ?_); (try (with_reducible refine hK _ ?_; clear hK K)); (try with_reducible refine ite_conj ?_)))
    simp only [go_sem, List.forall_mem_nil, ↓guard_ite, ↓pick_ite, seval, FinQ, AS.result, resAll, resOne, tupV, e7, hll]
end Go.Proofs.Ytghjdcfoaackoaa
