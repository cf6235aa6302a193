/-
  Automata: the walk of the law AutoPairs.
  Conditions: none.
-/
import Derived.Test.YtghjdcfoaackoaaBAuto6
namespace Go.Proofs.Ytghjdcfoaackoaa
open Go Go.RowKit
set_option linter.unusedVariables false
set_option linter.unusedSimpArgs false
set_option maxHeartbeats 2000000

theorem endsIn_a (a : Au) (ga : a.Good) (hs64 : a.states ≤ 64) (hm : a.moves.length ≤ 100000) (t : Tm) (hz : t.size ≤ 1000000) : ACalls Try.prog 15 [aAu a, aTm t] (aBools (a.ends t)) := by
  induction h : SizeOf.sizeOf t using Nat.strongRecOn generalizing t with
  | _ N ih =>
  subst h
  have hs := Tm.size_eq t
  have hkn := Tm.length_le t.args
  refine ac_R_EndsIn (Nat.le_of_ble_eq_true rfl) fun C hC => ?_
  unfold ir_R_EndsIn
  repeat' (first | (with_reducible first | refine Wa ?_ | refine Wb ?_ | refine Wc ?_ | refine Wd ?_ | refine We ?_ | refine Wf ?_ | refine Wg ?_ | refine Wh ?_ | refine Wi ?_ | refine Wj ?_ | refine Wk (by decide) ?_ | refine Wl ?_ | refine Wm ?_ | refine Wn ?_) | ((with_reducible first | refine Wo (fun K hK => ?_) | refine Wp ?_ | refine Wq ?_ | refine Wr ?_); (try simp only [go_sem, List.forall_mem_nil, ↓guard_ite, ↓pick_ite, seval, encT_eq, inR_i64, decide_eq_true_eq, decide_eq_false_iff_not, Int.ofNat_lt]); (repeat with_reducible refine And.intro (by first | omega | with_reducible exact lens_encT | with_reducible exact lens_encL | (simp; done) | (simp only [List.length_take, List.length_map, List.length_append, maxLen_eq]; omega)) ?_); (try (with_reducible refine hK _ ?_; clear hK K)); (try with_reducible refine ite_conj ?_)))
  refine IWP.ghost (Ghost.own (C := C) 5 50 43 1 (xs := ([] : List (List Bool)).map encBs) rfl rfl lens_encBs (by omega)) ?_
  refine IWP.loopD [] (fun q s => ∃ k, k ≤ t.args.length ∧ q = t.args.length - k ∧ s.env 2 = .one (.ptr 2 1 0 0) ∧ s.S 2 = some (boxAu a) ∧ s.env 3 = .one (.ptr 3 1 0 0) ∧ s.S 3 = some (.box 28 [.st (.str t.name), .st (.list (t.args.map encT))]) ∧ s.env 5 = .one (.row 50 k) ∧ s.S 50 = some (.arow 43 1 (((t.args.take k).map a.ends).map encBs)) ∧ s.env 6 = aInt k) t.args.length
    ⟨0, Nat.zero_le _, rfl, rfl, rfl, rfl, rfl, rfl, rfl, rfl⟩ ?_
  rintro q ⟨env, St⟩ ⟨k, hk, rfl, e2, s2, e3, s3, e5, s50, e6⟩
  simp only at e2 s2 e3 s3 e5 s50 e6
  unfold boxAu at s2
  by_cases hlt : (k : Int) < t.args.length
  · obtain ⟨x, hx⟩ := get_lt (show k < t.args.length by omega)
    have hxm := mem_of_get hx
    have hsz := Tm.size_mem hxm
    have hkl : ((t.args.take k).map a.ends).length = k := by
      rw [List.length_map, List.length_take]
      omega
    repeat' (first | (with_reducible first | refine Wa ?_ | refine Wb ?_ | refine Wc ?_ | refine Wd ?_ | refine We ?_ | refine Wf ?_ | refine Wg ?_ | refine Wh ?_ | refine Wi ?_ | refine Wj ?_ | refine Wk (by decide) ?_ | refine Wl ?_ | refine Wm ?_ | refine Wn ?_) | refine CallG.mk _ (ih _ (Tm.lt_of_arg hxm) x (by omega) rfl) ?_ | ((with_reducible first | refine Wo (fun K hK => ?_) | refine Wp ?_ | refine Wq ?_ | refine Wr ?_); (try simp only [go_sem, List.forall_mem_nil, ↓guard_ite, ↓pick_ite, seval, encT_eq, inR_i64, e2, s2, e3, s3, e5, s50, e6, hlt, hx, hkl, decide_eq_true_eq, decide_eq_false_iff_not, Int.ofNat_lt]); (repeat with_reducible refine And.intro (by first | omega | with_reducible exact lens_encT | with_reducible exact lens_encL | (simp; done) | (simp only [List.length_take, List.length_map, List.length_append, maxLen_eq]; omega)) ?_); (try (with_reducible refine hK _ ?_; clear hK K)); (try with_reducible refine ite_conj ?_)))
    refine then_normal ⟨t.args.length - (k + 1), by omega, k + 1, by omega, rfl, ?_⟩
    simp only [go_sem, List.forall_mem_nil, ↓guard_ite, ↓pick_ite, seval, AS.drop, dropS, AC.clears, AC.clear, AC.highs, AC.high, Bool.not_false, Bool.true_and, Bool.and_self, AV.purge, AV.purges, AC.purge, ABlk.purge, List.contains_cons, List.contains_nil, Nat.reduceBEq, Bool.or_self, Bool.or_false, Bool.false_or, Bool.or_true, encT_eq, inR_i64, e2, s2, e3, s3, e5, s50, e6, boxAu]
    rw [take_snoc hx]
    simp
    try omega
  · rw [List.take_of_length_le (l := t.args) (i := k) (by omega)] at s50
    have hkl : (t.args.map a.ends).length = t.args.length := List.length_map _
    have hke : k = t.args.length := by omega
    have hE := ending_a a ga hs64 hm t.name (t.args.map a.ends) (fun l hl => by
      obtain ⟨y, _, rfl⟩ := List.mem_map.1 hl
      exact a.ends_length y) (by omega)
    repeat' (first | (with_reducible first | refine Wa ?_ | refine Wb ?_ | refine Wc ?_ | refine Wd ?_ | refine We ?_ | refine Wf ?_ | refine Wg ?_ | refine Wh ?_ | refine Wi ?_ | refine Wj ?_ | refine Wk (by decide) ?_ | refine Wl ?_ | refine Wm ?_ | refine Wn ?_) | refine CallG.mk _ (hE) ?_ | ((with_reducible first | refine Wo (fun K hK => ?_) | refine Wp ?_ | refine Wq ?_ | refine Wr ?_); (try simp only [go_sem, List.forall_mem_nil, ↓guard_ite, ↓pick_ite, seval, encT_eq, inR_i64, e2, s2, e3, s3, e5, s50, e6, hlt, hke, hkl, Nat.lt_irrefl, decide_eq_true_eq, decide_eq_false_iff_not, Int.ofNat_lt]); (repeat with_reducible refine And.intro (by first | omega | with_reducible exact lens_encT | with_reducible exact lens_encL | (simp; done) | (simp only [List.length_take, List.length_map, List.length_append, maxLen_eq]; omega)) ?_); (try (with_reducible refine hK _ ?_; clear hK K)); (try with_reducible refine ite_conj ?_)))
    simp only [go_sem, List.forall_mem_nil, ↓guard_ite, ↓pick_ite, seval, FinQ, AS.result, resAll, resOne, tupV]
    rw [Au.ends_eq, Au.endsL_eq]
theorem lasts_a (a : Au) (l : List Bool) (hl : ∀ s ∈ a.last, 0 ≤ s ∧ s.toNat < l.length) : ACalls Try.prog 14 [aAu a, aBools l] (aBool (a.last.any fun s => l.getD s.toNat false)) := by
  refine ac_R_Lasts (Nat.le_of_ble_eq_true rfl) fun C hC => ?_
  unfold ir_R_Lasts
  refine IWP.learn 0 (by omega) fun hkn => ?_
  obtain ⟨kM, kL, kF⟩ := known_au hkn
  repeat' (first | (with_reducible first | refine Wa ?_ | refine Wb ?_ | refine Wc ?_ | refine Wd ?_ | refine We ?_ | refine Wf ?_ | refine Wg ?_ | refine Wh ?_ | refine Wi ?_ | refine Wj ?_ | refine Wk (by decide) ?_ | refine Wl ?_ | refine Wm ?_ | refine Wn ?_) | ((with_reducible first | refine Wo (fun K hK => ?_) | refine Wp ?_ | refine Wq ?_ | refine Wr ?_); (try simp only [go_sem, List.forall_mem_nil, ↓guard_ite, ↓pick_ite, seval, encT_eq, inR_i64, decide_eq_true_eq, decide_eq_false_iff_not, Int.ofNat_lt]); (repeat with_reducible refine And.intro (by first | omega | with_reducible exact lens_encT | with_reducible exact lens_encL | (simp; done) | (simp only [List.length_take, List.length_map, List.length_append, maxLen_eq]; omega)) ?_); (try (with_reducible refine hK _ ?_; clear hK K)); (try with_reducible refine ite_conj ?_)))
  refine IWP.loop (fun q s => ∃ k, k ≤ a.last.length ∧ q = a.last.length - k ∧ s.env 1 = aBools l ∧ s.env 2 = .one (.ptr 2 1 0 0) ∧ s.S 2 = some (boxAu a) ∧ s.env 5 = aInt k ∧ (a.last.take k).any (fun s => l.getD s.toNat false) = false) a.last.length ⟨0, Nat.zero_le _, rfl, rfl, rfl, rfl, rfl, rfl⟩ ?_
  rintro q ⟨env, St⟩ ⟨k, hk, rfl, e1, e2, s2, e5, hno⟩
  simp only at e1 e2 s2 e5
  unfold boxAu at s2
  by_cases hlt : (k : Int) < a.last.length
  · obtain ⟨x, hx⟩ := get_lt (show k < a.last.length by omega)
    have qx := hl x (mem_of_get hx)
    obtain ⟨y, hy, hyd⟩ := getB qx.2
    have hst := any_takeB (p := fun s : Int => l.getD s.toNat false) hx hno
    rw [hyd] at hst
    cases y with
    | true =>
      have hr := any_yes (p := fun s : Int => l.getD s.toNat false) (k := k + 1) hst
      repeat' (first | (with_reducible first | refine Wa ?_ | refine Wb ?_ | refine Wc ?_ | refine Wd ?_ | refine We ?_ | refine Wf ?_ | refine Wg ?_ | refine Wh ?_ | refine Wi ?_ | refine Wj ?_ | refine Wk (by decide) ?_ | refine Wl ?_ | refine Wm ?_ | refine Wn ?_) | ((with_reducible first | refine Wo (fun K hK => ?_) | refine Wp ?_ | refine Wq ?_ | refine Wr ?_); (try simp only [go_sem, List.forall_mem_nil, ↓guard_ite, ↓pick_ite, seval, encT_eq, inR_i64, e1, e2, s2, e5, hlt, hx, hy, decide_eq_true_eq, decide_eq_false_iff_not, Int.ofNat_lt]); (repeat with_reducible refine And.intro (by first | omega | with_reducible exact lens_encT | with_reducible exact lens_encL | (simp; done) | (simp only [List.length_take, List.length_map, List.length_append, maxLen_eq]; omega)) ?_); (try (with_reducible refine hK _ ?_; clear hK K)); (try with_reducible refine ite_conj ?_)))
      simp only [go_sem, List.forall_mem_nil, ↓guard_ite, ↓pick_ite, seval, FinQ, AS.result, resAll, resOne, tupV, hr]
    | false =>
      repeat' (first | (with_reducible first | refine Wa ?_ | refine Wb ?_ | refine Wc ?_ | refine Wd ?_ | refine We ?_ | refine Wf ?_ | refine Wg ?_ | refine Wh ?_ | refine Wi ?_ | refine Wj ?_ | refine Wk (by decide) ?_ | refine Wl ?_ | refine Wm ?_ | refine Wn ?_) | ((with_reducible first | refine Wo (fun K hK => ?_) | refine Wp ?_ | refine Wq ?_ | refine Wr ?_); (try simp only [go_sem, List.forall_mem_nil, ↓guard_ite, ↓pick_ite, seval, encT_eq, inR_i64, e1, e2, s2, e5, hlt, hx, hy, decide_eq_true_eq, decide_eq_false_iff_not, Int.ofNat_lt]); (repeat with_reducible refine And.intro (by first | omega | with_reducible exact lens_encT | with_reducible exact lens_encL | (simp; done) | (simp only [List.length_take, List.length_map, List.length_append, maxLen_eq]; omega)) ?_); (try (with_reducible refine hK _ ?_; clear hK K)); (try with_reducible refine ite_conj ?_)))
      refine then_normal ⟨a.last.length - (k + 1), by omega, k + 1, by omega, rfl, ?_⟩
      simp only [go_sem, List.forall_mem_nil, ↓guard_ite, ↓pick_ite, seval, encT_eq, inR_i64, e1, e2, s2, e5, boxAu]
      exact ⟨by congr 3, hst⟩
  · rw [List.take_of_length_le (l := a.last) (i := k) (by omega)] at hno
    repeat' (first | (with_reducible first | refine Wa ?_ | refine Wb ?_ | refine Wc ?_ | refine Wd ?_ | refine We ?_ | refine Wf ?_ | refine Wg ?_ | refine Wh ?_ | refine Wi ?_ | refine Wj ?_ | refine Wk (by decide) ?_ | refine Wl ?_ | refine Wm ?_ | refine Wn ?_) | ((with_reducible first | refine Wo (fun K hK => ?_) | refine Wp ?_ | refine Wq ?_ | refine Wr ?_); (try simp only [go_sem, List.forall_mem_nil, ↓guard_ite, ↓pick_ite, seval, encT_eq, inR_i64, e1, e2, s2, e5, hlt, decide_eq_true_eq, decide_eq_false_iff_not, Int.ofNat_lt]); (repeat with_reducible refine And.intro (by first | omega | with_reducible exact lens_encT | with_reducible exact lens_encL | (simp; done) | (simp only [List.length_take, List.length_map, List.length_append, maxLen_eq]; omega)) ?_); (try (with_reducible refine hK _ ?_; clear hK K)); (try with_reducible refine ite_conj ?_)))
    simp only [go_sem, List.forall_mem_nil, ↓guard_ite, ↓pick_ite, seval, FinQ, AS.result, resAll, resOne, tupV, hno]
theorem acceptsOf_a (a : Au) (ga : a.Good) (hs64 : a.states ≤ 64) (hm : a.moves.length ≤ 100000) (t : Tm) (hz : t.size ≤ 1000000) : ACalls Try.prog 9 [aAu a, aTm t] (aBool (a.acc t)) := by
  have hL := lasts_a a (a.ends t) (fun s hs => by
    have := ga.last s hs
    rw [a.ends_length]
    omega)
  refine ac_R_AcceptsOf (Nat.le_of_ble_eq_true rfl) fun C hC => ?_
  unfold ir_R_AcceptsOf
  repeat' (first | (with_reducible first | refine Wa ?_ | refine Wb ?_ | refine Wc ?_ | refine Wd ?_ | refine We ?_ | refine Wf ?_ | refine Wg ?_ | refine Wh ?_ | refine Wi ?_ | refine Wj ?_ | refine Wk (by decide) ?_ | refine Wl ?_ | refine Wm ?_ | refine Wn ?_) | refine CallG.mk _ (endsIn_a a ga hs64 hm t hz) ?_ | refine CallG.mk _ (hL) ?_ | ((with_reducible first | refine Wo (fun K hK => ?_) | refine Wp ?_ | refine Wq ?_ | refine Wr ?_); (try simp only [go_sem, List.forall_mem_nil, ↓guard_ite, ↓pick_ite, seval, encT_eq, inR_i64, decide_eq_true_eq, decide_eq_false_iff_not, Int.ofNat_lt]); (repeat with_reducible refine And.intro (by first | omega | with_reducible exact lens_encT | with_reducible exact lens_encL | (simp; done) | (simp only [List.length_take, List.length_map, List.length_append, maxLen_eq]; omega)) ?_); (try (with_reducible refine hK _ ?_; clear hK K)); (try with_reducible refine ite_conj ?_)))
  simp only [go_sem, List.forall_mem_nil, ↓guard_ite, ↓pick_ite, seval, FinQ, AS.result, resAll, resOne, tupV]
  rfl
set_option maxRecDepth 100000 in
theorem autoPairs_a (a b : Au) (t : Tm) : ACalls Try.prog 3 [aAu a, aAu b, aTm t] (aBool true) := by
  have c100 : 100 < capTo t.size 100 ↔ 100 < (t.size : Int) := by unfold capTo; split <;> omega
  by_cases q1 : a.huge = true
  · refine ac_L_AutoPairs (Nat.le_of_ble_eq_true rfl) fun C hC => ?_
    unfold ir_L_AutoPairs
    repeat' (first | (with_reducible first | refine Wa ?_ | refine Wb ?_ | refine Wc ?_ | refine Wd ?_ | refine We ?_ | refine Wf ?_ | refine Wg ?_ | refine Wh ?_ | refine Wi ?_ | refine Wj ?_ | refine Wk (by decide) ?_ | refine Wl ?_ | refine Wm ?_ | refine Wn ?_) | refine CallG.mk _ (hugeAuto_a a) ?_ | ((with_reducible first | refine Wo (fun K hK => ?_) | refine Wp ?_ | refine Wq ?_ | refine Wr ?_); (try simp only [go_sem, List.forall_mem_nil, ↓guard_ite, ↓pick_ite, seval, encT_eq, inR_i64, q1, decide_eq_true_eq, decide_eq_false_iff_not, Int.ofNat_lt]); (repeat with_reducible refine And.intro (by first | omega | with_reducible exact lens_encT | with_reducible exact lens_encL | (simp; done) | (simp only [List.length_take, List.length_map, List.length_append, maxLen_eq]; omega)) ?_); (try (with_reducible refine hK _ ?_; clear hK K)); (try with_reducible refine ite_conj ?_)))
    simp only [go_sem, List.forall_mem_nil, ↓guard_ite, ↓pick_ite, seval, FinQ, AS.result, resAll, resOne, tupV]
  by_cases q2 : b.huge = true
  · refine ac_L_AutoPairs (Nat.le_of_ble_eq_true rfl) fun C hC => ?_
    unfold ir_L_AutoPairs
    repeat' (first | (with_reducible first | refine Wa ?_ | refine Wb ?_ | refine Wc ?_ | refine Wd ?_ | refine We ?_ | refine Wf ?_ | refine Wg ?_ | refine Wh ?_ | refine Wi ?_ | refine Wj ?_ | refine Wk (by decide) ?_ | refine Wl ?_ | refine Wm ?_ | refine Wn ?_) | refine CallG.mk _ (hugeAuto_a a) ?_ | refine CallG.mk _ (hugeAuto_a b) ?_ | ((with_reducible first | refine Wo (fun K hK => ?_) | refine Wp ?_ | refine Wq ?_ | refine Wr ?_); (try simp only [go_sem, List.forall_mem_nil, ↓guard_ite, ↓pick_ite, seval, encT_eq, inR_i64, q1, q2, decide_eq_true_eq, decide_eq_false_iff_not, Int.ofNat_lt]); (repeat with_reducible refine And.intro (by first | omega | with_reducible exact lens_encT | with_reducible exact lens_encL | (simp; done) | (simp only [List.length_take, List.length_map, List.length_append, maxLen_eq]; omega)) ?_); (try (with_reducible refine hK _ ?_; clear hK K)); (try with_reducible refine ite_conj ?_)))
    simp only [go_sem, List.forall_mem_nil, ↓guard_ite, ↓pick_ite, seval, FinQ, AS.result, resAll, resOne, tupV]
  by_cases q3 : 100 < (t.size : Int)
  · refine ac_L_AutoPairs (Nat.le_of_ble_eq_true rfl) fun C hC => ?_
    unfold ir_L_AutoPairs
    repeat' (first | (with_reducible first | refine Wa ?_ | refine Wb ?_ | refine Wc ?_ | refine Wd ?_ | refine We ?_ | refine Wf ?_ | refine Wg ?_ | refine Wh ?_ | refine Wi ?_ | refine Wj ?_ | refine Wk (by decide) ?_ | refine Wl ?_ | refine Wm ?_ | refine Wn ?_) | refine CallG.mk _ (hugeAuto_a a) ?_ | refine CallG.mk _ (hugeAuto_a b) ?_ | refine CallG.mk _ (sizeR_a t 100 (by decide) (by decide)) ?_ | ((with_reducible first | refine Wo (fun K hK => ?_) | refine Wp ?_ | refine Wq ?_ | refine Wr ?_); (try simp only [go_sem, List.forall_mem_nil, ↓guard_ite, ↓pick_ite, seval, encT_eq, inR_i64, q1, q2, c100, q3, decide_eq_true_eq, decide_eq_false_iff_not, Int.ofNat_lt]); (repeat with_reducible refine And.intro (by first | omega | with_reducible exact lens_encT | with_reducible exact lens_encL | (simp; done) | (simp only [List.length_take, List.length_map, List.length_append, maxLen_eq]; omega)) ?_); (try (with_reducible refine hK _ ?_; clear hK K)); (try with_reducible refine ite_conj ?_)))
    simp only [go_sem, List.forall_mem_nil, ↓guard_ite, ↓pick_ite, seval, FinQ, AS.result, resAll, resOne, tupV]
  have hla : a.last.length ≤ 100 ∧ b.last.length ≤ 100 := by
    simp only [Au.huge, Bool.or_eq_true, decide_eq_true_eq, not_or] at q1 q2
    omega
  by_cases ha : a.may 8 40 = 0
  case neg =>
    have he : pairErr a b = a.may 8 40 := by
      unfold pairErr
      rw [if_neg ha]
    have hB := both_err a b (by rw [he]; exact ha)
    have hE := either_err a b (by rw [he]; exact ha)
    rw [he] at hB hE
    refine ac_L_AutoPairs (Nat.le_of_ble_eq_true rfl) fun C hC => ?_
    unfold ir_L_AutoPairs
    repeat' (first | (with_reducible first | refine Wa ?_ | refine Wb ?_ | refine Wc ?_ | refine Wd ?_ | refine We ?_ | refine Wf ?_ | refine Wg ?_ | refine Wh ?_ | refine Wi ?_ | refine Wj ?_ | refine Wk (by decide) ?_ | refine Wl ?_ | refine Wm ?_ | refine Wn ?_) | refine CallG.mk _ (hugeAuto_a a) ?_ | refine CallG.mk _ (hugeAuto_a b) ?_ | refine CallG.mk _ (sizeR_a t 100 (by decide) (by decide)) ?_ | refine CallG.mk _ (autoMay_a a 8 40) ?_ | refine CallG.mk _ (hB) ?_ | refine CallG.mk _ (hE) ?_ | ((with_reducible first | refine Wo (fun K hK => ?_) | refine Wp ?_ | refine Wq ?_ | refine Wr ?_); (try simp only [go_sem, List.forall_mem_nil, ↓guard_ite, ↓pick_ite, seval, encT_eq, inR_i64, q1, q2, c100, q3, ha, nilAu, decide_eq_true_eq, decide_eq_false_iff_not, Int.ofNat_lt]); (repeat with_reducible refine And.intro (by first | omega | with_reducible exact lens_encT | with_reducible exact lens_encL | (simp; done) | (simp only [List.length_take, List.length_map, List.length_append, maxLen_eq]; omega)) ?_); (try (with_reducible refine hK _ ?_; clear hK K)); (try with_reducible refine ite_conj ?_)))
    simp only [go_sem, List.forall_mem_nil, ↓guard_ite, ↓pick_ite, seval, FinQ, AS.result, resAll, resOne, tupV]
  case pos =>
  by_cases hb : b.may 8 40 = 0
  case neg =>
    have he : pairErr a b = b.may 8 40 := by
      unfold pairErr
      rw [if_pos ha]
    have hB := both_err a b (by rw [he]; exact hb)
    have hE := either_err a b (by rw [he]; exact hb)
    rw [he] at hB hE
    refine ac_L_AutoPairs (Nat.le_of_ble_eq_true rfl) fun C hC => ?_
    unfold ir_L_AutoPairs
    repeat' (first | (with_reducible first | refine Wa ?_ | refine Wb ?_ | refine Wc ?_ | refine Wd ?_ | refine We ?_ | refine Wf ?_ | refine Wg ?_ | refine Wh ?_ | refine Wi ?_ | refine Wj ?_ | refine Wk (by decide) ?_ | refine Wl ?_ | refine Wm ?_ | refine Wn ?_) | refine CallG.mk _ (hugeAuto_a a) ?_ | refine CallG.mk _ (hugeAuto_a b) ?_ | refine CallG.mk _ (sizeR_a t 100 (by decide) (by decide)) ?_ | refine CallG.mk _ (autoMay_a a 8 40) ?_ | refine CallG.mk _ (autoMay_a b 8 40) ?_ | refine CallG.mk _ (hB) ?_ | refine CallG.mk _ (hE) ?_ | ((with_reducible first | refine Wo (fun K hK => ?_) | refine Wp ?_ | refine Wq ?_ | refine Wr ?_); (try simp only [go_sem, List.forall_mem_nil, ↓guard_ite, ↓pick_ite, seval, encT_eq, inR_i64, q1, q2, c100, q3, ha, hb, nilAu, decide_eq_true_eq, decide_eq_false_iff_not, Int.ofNat_lt]); (repeat with_reducible refine And.intro (by first | omega | with_reducible exact lens_encT | with_reducible exact lens_encL | (simp; done) | (simp only [List.length_take, List.length_map, List.length_append, maxLen_eq]; omega)) ?_); (try (with_reducible refine hK _ ?_; clear hK K)); (try with_reducible refine ite_conj ?_)))
    simp only [go_sem, List.forall_mem_nil, ↓guard_ite, ↓pick_ite, seval, FinQ, AS.result, resAll, resOne, tupV]
  case pos =>
  have ga := Au.may_good ha
  have gb := Au.may_good hb
  obtain ⟨a1, _, _⟩ := Au.may_ok.1 ha
  obtain ⟨b1, _, _⟩ := Au.may_ok.1 hb
  have hx := both_may ha hb
  have hy := either_may ha hb
  have gx := Au.may_good hx
  have gy := Au.may_good hy
  obtain ⟨x1, _, _⟩ := Au.may_ok.1 hx
  obtain ⟨y1, _, _⟩ := Au.may_ok.1 hy
  have hB := both_a a b ha hb hla.1 hla.2
  have hE := either_a a b ha hb hla.1 hla.2
  have eB := both_acc ga gb t
  have eE := either_acc ga gb t
  have lB : ¬ (100000 : Int) < (a.both b).last.length := by
    have h1 : (a.both b).last.length = a.last.length * b.last.length := bothLast_length _ _ _
    have h2 : a.last.length * b.last.length ≤ 100 * b.last.length := Nat.mul_le_mul_right _ hla.1
    omega
  have lE : ¬ (100000 : Int) < (a.either b).last.length := by
    have h1 : (a.either b).last.length = a.last.length + b.last.length := by simp [Au.either]
    omega
  generalize a.both b = x at *
  generalize a.either b = y at *
  have cA := acceptsOf_a a ga (by omega) (by omega) t (by omega)
  have cB := acceptsOf_a b gb (by omega) (by omega) t (by omega)
  have cX := acceptsOf_a x gx (by omega) (by omega) t (by omega)
  have cY := acceptsOf_a y gy (by omega) (by omega) t (by omega)
  rw [eB] at cX
  rw [eE] at cY
  cases hp : a.acc t <;> cases hq : b.acc t <;> rw [hp] at cA cX cY <;> rw [hq] at cB cX cY
  all_goals
    simp only [Bool.and_self, Bool.and_true, Bool.true_and, Bool.and_false, Bool.false_and, Bool.or_self, Bool.or_true, Bool.true_or, Bool.or_false, Bool.false_or] at cX cY
    refine ac_L_AutoPairs (Nat.le_of_ble_eq_true rfl) fun C hC => ?_
    unfold ir_L_AutoPairs
    repeat' (first | (with_reducible first | refine Wa ?_ | refine Wb ?_ | refine Wc ?_ | refine Wd ?_ | refine We ?_ | refine Wf ?_ | refine Wg ?_ | refine Wh ?_ | refine Wi ?_ | refine Wj ?_ | refine Wk (by decide) ?_ | refine Wl ?_ | refine Wm ?_ | refine Wn ?_) | refine CallG.mk _ (hugeAuto_a a) ?_ | refine CallG.mk _ (hugeAuto_a b) ?_ | refine CallG.mk _ (sizeR_a t 100 (by decide) (by decide)) ?_ | refine CallG.mk _ (autoMay_a a 8 40) ?_ | refine CallG.mk _ (autoMay_a b 8 40) ?_ | refine CallG.mk _ (autoMay_a x 64 1600) ?_ | refine CallG.mk _ (autoMay_a y 64 1600) ?_ | refine CallG.mk _ (hB) ?_ | refine CallG.mk _ (hE) ?_ | refine CallG.mk _ (cA) ?_ | refine CallG.mk _ (cB) ?_ | refine CallG.mk _ (cX) ?_ | refine CallG.mk _ (cY) ?_ | ((with_reducible first | refine Wo (fun K hK => ?_) | refine Wp ?_ | refine Wq ?_ | refine Wr ?_); (try simp only [go_sem, List.forall_mem_nil, ↓guard_ite, ↓pick_ite, seval, encT_eq, inR_i64, q1, q2, c100, q3, ha, hb, hx, hy, lB, lE, decide_eq_true_eq, decide_eq_false_iff_not, Int.ofNat_lt]); (repeat with_reducible refine And.intro (by first | omega | with_reducible exact lens_encT | with_reducible exact lens_encL | (simp; done) | (simp only [List.length_take, List.length_map, List.length_append, maxLen_eq]; omega)) ?_); (try (with_reducible refine hK _ ?_; clear hK K)); (try with_reducible refine ite_conj ?_)))
    simp only [go_sem, List.forall_mem_nil, ↓guard_ite, ↓pick_ite, seval, FinQ, AS.result, resAll, resOne, tupV]
end Go.Proofs.Ytghjdcfoaackoaa
