/-
  Part 21 of the texts: BMadeB; IrGMade; BSubst2. Conditions: none.
-/
import Derived.Test.YtdmgelbbjppgkaaDoorPart20
namespace Go.Proofs.YtdmgelbbjppgkaaDoor
open Go Go.RowKit
set_option linter.unusedVariables false
set_option linter.unusedSimpArgs false
set_option maxHeartbeats 800000

def nmB (i : Nat) : ByteArray := [(⟨#[85]⟩ : ByteArray), ⟨#[88]⟩, ⟨#[89]⟩, ⟨#[90]⟩].getD i ⟨#[]⟩
theorem bindsFrom_a (l : List Int) (hl : ∀ n ∈ l, inR .i64 n) (hm : l.length ≤ maxLen) (vars : Int) (hv : 1 ≤ vars ∧ vars ≤ 4) (at_ most : Nat) (hat : at_ ≤ 1000) (h12 : most ≤ 100) : ∃ bs : List Bd, ACalls Tryd.prog 20 [aInts l, aInt at_, aInt most, aInt vars] (aBds bs) ∧ OkB bs ∧ bs.length ≤ 4 ∧ ∀ b ∈ bs, b.2.size + 1 ≤ max 2 (2 * most) := by
  have hT : ∀ i : Nat, ∃ t : Tm, i < 4 → ACalls Tryd.prog 17 [aInts l, aInt ((at_ : Int) + 4 + 7 * i), aInt most, aInt vars] (aTm t) ∧ t.size + 1 ≤ max 2 (2 * most) ∧ t.chk = 0 := fun i => by
    by_cases hi : i < 4
    · obtain ⟨t, ht, hz, hc⟩ := termOf_a l hl hm vars hv most (at_ + 4 + 7 * i) (by omega) (by omega)
      refine ⟨t, fun _ => ⟨?_, hz, hc⟩⟩
      rw [show (((at_ + 4 + 7 * i : Nat) : Int)) = (at_ : Int) + 4 + 7 * i by omega] at ht
      exact ht
    · exact ⟨Tm.nil, fun h => absurd h hi⟩
  obtain ⟨T, hT⟩ := Classical.skolem.1 hT
  obtain ⟨B, hB⟩ : ∃ B : Nat → List Bd, B = fun k => ((List.range k).filter fun i => decide (0 < pickI (rawI l (at_ + i)) 4)).map fun i => (nmB i, T i) := ⟨_, rfl⟩
  have hB0 : B 0 = [] := by rw [hB]; rfl
  have hBy : ∀ k, 0 < pickI (rawI l (at_ + k)) 4 → B (k + 1) = B k ++ [(nmB k, T k)] := fun k h => by
    rw [hB]
    simp only [List.range_succ, List.filter_append, List.map_append]
    rw [List.filter_cons_of_pos (by simpa using h)]
    rfl
  have hBn : ∀ k, ¬ 0 < pickI (rawI l (at_ + k)) 4 → B (k + 1) = B k := fun k h => by
    rw [hB]
    simp only [List.range_succ, List.filter_append, List.map_append]
    rw [List.filter_cons_of_neg (by simpa using h), List.filter_nil, List.map_nil, List.append_nil]
  have hBl : ∀ k, (B k).length ≤ k := fun k => by
    rw [hB]
    simp only [List.length_map]
    exact Nat.le_trans (List.length_filter_le _ _) (by simp)
  have hB4 : OkB (B 4) ∧ ∀ b ∈ B 4, b.2.size + 1 ≤ max 2 (2 * most) := by
    have hmem : ∀ b ∈ B 4, ∃ i, i < 4 ∧ b = (nmB i, T i) := fun b hb => by
      rw [hB] at hb
      obtain ⟨i, hi, rfl⟩ := List.mem_map.1 hb
      exact ⟨i, List.mem_range.1 (List.mem_filter.1 hi).1, rfl⟩
    have hnm : ∀ i, i < 4 → isVar (nmB i) = true ∧ nameOk (nmB i) = true := by decide +kernel
    refine ⟨⟨?_, fun b hb => ?_, fun b hb => ?_, fun b hb => ?_⟩, fun b hb => ?_⟩
    · rw [hB]
      refine List.pairwise_map.2 (List.Pairwise.sublist List.filter_sublist ?_)
      have hp : ∀ i, i < 4 → ∀ j, j < 4 → i < j → sLt (nmB i) (nmB j) = true := by decide +kernel
      exact (List.pairwise_lt_range (n := 4)).imp_of_mem fun hi hj hij => hp _ (List.mem_range.1 hi) _ (List.mem_range.1 hj) hij
    · obtain ⟨i, hi, rfl⟩ := hmem b hb
      exact (hnm i hi).1
    · obtain ⟨i, hi, rfl⟩ := hmem b hb
      exact (hnm i hi).2
    · obtain ⟨i, hi, rfl⟩ := hmem b hb
      exact (hT i hi).2.2
    · obtain ⟨i, hi, rfl⟩ := hmem b hb
      exact (hT i hi).2.1
  clear hB
  refine ⟨B 4, ?_, hB4.1, hBl 4, hB4.2⟩
  have hT := fun i hi => (hT i hi).1
  refine ac_R_BindsFrom (Nat.le_of_ble_eq_true rfl) fun C hC => ?_
  unfold ir_R_BindsFrom
  repeat' (first | (with_reducible first | refine Wa ?_ | refine Wb ?_ | refine Wc ?_ | refine Wd ?_ | refine We ?_ | refine Wf ?_ | refine Wg ?_ | refine Wh ?_ | refine Wi ?_ | refine Wj ?_ | refine Wk (by decide) ?_ | refine Wl ?_ | refine Wm ?_ | refine Wn ?_) | ((with_reducible first | refine Wo (fun K hK => ?_) | refine Wp ?_ | refine Wq ?_ | refine Wr ?_); (try simp only [go_sem, List.forall_mem_nil, ↓guard_ite, ↓pick_ite, seval, encT_eq, inR_i64, decide_eq_true_eq, decide_eq_false_iff_not, Int.ofNat_lt]); (repeat with_reducible refine And.intro (by first | omega | (with_reducible first | exact lens_encT | exact lens_encL | exact lens_encB | exact lens_encP) | (simp; done) | (simp only [List.length_take, List.length_map, List.length_append, maxLen_eq]; omega)) ?_); (try (with_reducible refine hK _ ?_; clear hK K)); (try with_reducible refine ite_conj ?_)))
  refine IWP.ghost (Ghost.own 9 900 36 3 (xs := []) rfl rfl (by simp) (by rw [hC]; decide)) ?_
  refine IWP.loop (fun m x => ∃ k, k ≤ 4 ∧ m = 4 - k ∧ x.env 0 = aInts l ∧ x.env 1 = aInt at_ ∧ x.env 2 = aInt most ∧ x.env 3 = aInt vars ∧ x.env 9 = .one (.row 900 (B k).length) ∧ x.env 10 = .one (.full [[.str ⟨#[85]⟩], [.str ⟨#[88]⟩], [.str ⟨#[89]⟩], [.str ⟨#[90]⟩]]) ∧ x.env 11 = aInt k ∧ x.S 900 = some (.arow 36 3 ((B k).map encB))) 4 ⟨0, Nat.zero_le _, rfl, rfl, rfl, rfl, rfl, by rw [hB0]; rfl, rfl, rfl, by rw [hB0]; rfl⟩ ?_
  rintro m ⟨env, S⟩ ⟨k, hk, rfl, e0, e1, e2, e3, e9, e10, e11, s900⟩
  simp only at e0 e1 e2 e3 e9 e10 e11 s900
  have hbl := hBl k
  by_cases hlt : (k : Int) < 4
  · have hraw := raw_a l (at_ + k) (by omega) hl hm
    have hrr := rawI_range l (at_ + k)
    have hpick := pick_a (rawI l (at_ + k)) 4 (by rw [inR_i64]; omega) (by omega)
    have htk := hT k (by omega)
    rw [show (((at_ + k : Nat) : Int)) = (at_ : Int) + k by omega] at hraw
    have hnm : [([.str ⟨#[85]⟩] : List SV), [.str ⟨#[88]⟩], [.str ⟨#[89]⟩], [.str ⟨#[90]⟩]][k]? = some [.str (nmB k)] := by
      match k, (show k < 4 by omega) with
      | 0, _ => rfl
      | 1, _ => rfl
      | 2, _ => rfl
      | 3, _ => rfl
    by_cases hc : 0 < pickI (rawI l (at_ + k)) 4
    · repeat' (first | (with_reducible first | refine Wa ?_ | refine Wb ?_ | refine Wc ?_ | refine Wd ?_ | refine We ?_ | refine Wf ?_ | refine Wg ?_ | refine Wh ?_ | refine Wi ?_ | refine Wj ?_ | refine Wk (by decide) ?_ | refine Wl ?_ | refine Wm ?_ | refine Wn ?_) | refine CallG.mk _ (hraw) ?_ | refine CallG.mk _ (hpick) ?_ | refine CallG.mk _ (htk) ?_ | ((with_reducible first | refine Wo (fun K hK => ?_) | refine Wp ?_ | refine Wq ?_ | refine Wr ?_); (try simp only [go_sem, List.forall_mem_nil, ↓guard_ite, ↓pick_ite, seval, encT_eq, inR_i64, e0, e1, e2, e3, e9, e10, e11, s900, hlt, hc, hnm, decide_eq_true_eq, decide_eq_false_iff_not, Int.ofNat_lt]); (repeat with_reducible refine And.intro (by first | omega | (with_reducible first | exact lens_encT | exact lens_encL | exact lens_encB | exact lens_encP) | (simp; done) | (simp only [List.length_take, List.length_map, List.length_append, maxLen_eq]; omega)) ?_); (try (with_reducible refine hK _ ?_; clear hK K)); (try with_reducible refine ite_conj ?_)))
      refine then_normal ⟨4 - (k + 1), by omega, k + 1, by omega, rfl, ?_⟩
      rw [hBy k hc]
      simp only [go_sem, List.forall_mem_nil, ↓guard_ite, ↓pick_ite, seval, encT_eq, inR_i64, e0, e1, e2, e3, e9, e10, e11, s900]
      refine ⟨by congr 3, ?_⟩
      rw [List.map_append]
      rfl
    · repeat' (first | (with_reducible first | refine Wa ?_ | refine Wb ?_ | refine Wc ?_ | refine Wd ?_ | refine We ?_ | refine Wf ?_ | refine Wg ?_ | refine Wh ?_ | refine Wi ?_ | refine Wj ?_ | refine Wk (by decide) ?_ | refine Wl ?_ | refine Wm ?_ | refine Wn ?_) | refine CallG.mk _ (hraw) ?_ | refine CallG.mk _ (hpick) ?_ | ((with_reducible first | refine Wo (fun K hK => ?_) | refine Wp ?_ | refine Wq ?_ | refine Wr ?_); (try simp only [go_sem, List.forall_mem_nil, ↓guard_ite, ↓pick_ite, seval, encT_eq, inR_i64, e0, e1, e2, e3, e9, e10, e11, s900, hlt, hc, hnm, decide_eq_true_eq, decide_eq_false_iff_not, Int.ofNat_lt]); (repeat with_reducible refine And.intro (by first | omega | (with_reducible first | exact lens_encT | exact lens_encL | exact lens_encB | exact lens_encP) | (simp; done) | (simp only [List.length_take, List.length_map, List.length_append, maxLen_eq]; omega)) ?_); (try (with_reducible refine hK _ ?_; clear hK K)); (try with_reducible refine ite_conj ?_)))
      refine then_normal ⟨4 - (k + 1), by omega, k + 1, by omega, rfl, ?_⟩
      rw [hBn k hc]
      simp only [go_sem, List.forall_mem_nil, ↓guard_ite, ↓pick_ite, seval, encT_eq, inR_i64, e0, e1, e2, e3, e9, e10, e11, s900]
      congr 3
  · obtain rfl : k = 4 := by omega
    repeat' (first | (with_reducible first | refine Wa ?_ | refine Wb ?_ | refine Wc ?_ | refine Wd ?_ | refine We ?_ | refine Wf ?_ | refine Wg ?_ | refine Wh ?_ | refine Wi ?_ | refine Wj ?_ | refine Wk (by decide) ?_ | refine Wl ?_ | refine Wm ?_ | refine Wn ?_) | ((with_reducible first | refine Wo (fun K hK => ?_) | refine Wp ?_ | refine Wq ?_ | refine Wr ?_); (try simp only [go_sem, List.forall_mem_nil, ↓guard_ite, ↓pick_ite, seval, encT_eq, inR_i64, e0, e1, e9, e11, s900, hlt, decide_eq_true_eq, decide_eq_false_iff_not, Int.ofNat_lt]); (repeat with_reducible refine And.intro (by first | omega | (with_reducible first | exact lens_encT | exact lens_encL | exact lens_encB | exact lens_encP) | (simp; done) | (simp only [List.length_take, List.length_map, List.length_append, maxLen_eq]; omega)) ?_); (try (with_reducible refine hK _ ?_; clear hK K)); (try with_reducible refine ite_conj ?_)))
    simp only [go_sem, List.forall_mem_nil, ↓guard_ite, ↓pick_ite, seval, FinQ, AS.result, resAll, resOne, tupV, s900]
theorem may_of {t : Tm} (hc : t.chk = 0) (hz : t.size ≤ 200) : t.may = 0 := by
  unfold Tm.may
  rw [if_neg (by omega)]
  exact hc
end Go.Proofs.YtdmgelbbjppgkaaDoor

namespace Go.Proofs.YtdmgelbbjppgkaaDoor
open Go Go.RowKit
set_option maxRecDepth 100000

def ir_L_GeneralMade : IR :=
  (.seq
  (.ops
  [.mk (some 4) none (.mov (.c (.one (.st (.bool false)))))
  .no])
  (.seq
  (.seq
  (.ops
  [.mk (some 10) none (.mov (.t 0)) .no, .mk (some 11) none (.len false (.t 10)) .no, .mk (some 12) none (.bin .gtr (.t 11) (.c (.one (.st (.int .i64 256)))))
  .no])
  (.cond (.t 12)
  (.seq
  (.ops
  [.mk (some 4) none (.mov (.c (.one (.st (.bool true)))))
  .no])
  .ret)
  .skip))
  (.seq
  (.ops
  [.mk (some 13) none (.mov (.t 0)) .no, .mk (some 14) none (.mov (.t 1)) .no, .mk (some 15) none (.call 18
  [.t 14, .c (.one (.st (.int .i64 14)))])
  .no, .mk (some 16) none (.call 17
  [.t 13, .c (.one (.st (.int .i64 0))), .t 15, .c (.one (.st (.int .i64 3)))])
  .no, .mk (some 5) none
  (.alloc 24 [.st (.str (ByteArray.mk (#[]))), .full []])
  .no, .mk none none (.store 2 (.t 5) (.t 16))
  .no])
  (.seq
  (.ops
  [.mk (some 18) none (.mov (.t 0)) .no, .mk (some 19) none (.call 20
  [.t 18, .c (.one (.st (.int .i64 30))), .c (.one (.st (.int .i64 5))), .c (.one (.st (.int .i64 3)))])
  .no, .mk (some 20) none (.load true 2 (.t 5)) .no, .mk (some 21) none (.call 19 [.t 19, .t 20])
  .no, .mk (some 17) none (.mov (.t 21)) .no, .mk (some 22) none (.extract 0 (.t 17)) .no, .mk (some 23) none (.extract 1 (.t 17)) .no, .mk (some 6) none
  (.alloc 24 [.st (.str (ByteArray.mk (#[]))), .full []])
  .no, .mk none none (.store 2 (.t 6) (.t 22))
  .no, .mk (some 7) none (.mov (.t 23)) .no])
  (.seq
  (.ops
  [.mk (some 25) none (.mov (.t 0)) .no, .mk (some 26) none (.call 20
  [.t 25, .c (.one (.st (.int .i64 70))), .c (.one (.st (.int .i64 5))), .c (.one (.st (.int .i64 3)))])
  .no, .mk (some 27) none (.load true 2 (.t 5)) .no, .mk (some 28) none (.call 19 [.t 26, .t 27])
  .no, .mk (some 24) none (.mov (.t 28)) .no, .mk (some 29) none (.extract 0 (.t 24)) .no, .mk (some 30) none (.extract 1 (.t 24)) .no, .mk (some 8) none
  (.alloc 24 [.st (.str (ByteArray.mk (#[]))), .full []])
  .no, .mk none none (.store 2 (.t 8) (.t 29))
  .no, .mk (some 9) none (.mov (.t 30)) .no])
  (.seq
  (.ops
  [.mk (some 31) none (.mov (.t 7)) .no, .mk (some 32) none (.un .not (.t 31)) .no, .mk (some 33) none (.mov (.t 32)) .no, .mk (some 34) (some (33, false)) (.mov (.t 9)) .no, .mk (some 35) (some (33, false)) (.un .not (.t 34))
  .no, .mk (some 36) none
  (.pick (.t 33) (.c (.one (.st (.bool true)))) (.t 35))
  .no, .mk (some 37) none (.mov (.t 36)) .no, .mk (some 38) (some (37, false)) (.load true 2 (.t 6))
  .no, .mk (some 39) (some (37, false)) (.load true 2 (.t 8))
  .no, .mk (some 40) (some (37, false)) (.call 3 [.t 38, .t 39])
  .no, .mk (some 41) none
  (.pick (.t 37) (.c (.one (.st (.bool true)))) (.t 40))
  .no, .mk (some 4) none (.mov (.t 41)) .no])
  .ret))))))
theorem tr_L_GeneralMade : trCode Tryd.prog 42 [] (Tryd.f4.body.getD .skip) = some ir_L_GeneralMade := by kernel_rfl
theorem ac_L_GeneralMade {xs : List AV} {r : AV} (hn : xs.length ≤ 42) (h : ∀ C : Ctx, C.n = 42 → IWP Tryd.prog C [] ir_L_GeneralMade (FinQ [.t 4] r) (AS.start xs)) : ACalls Tryd.prog 4 xs r :=
  acalls_of Tryd.func4 rfl tr_L_GeneralMade rfl hn h
theorem acS_L_GeneralMade {xs : List AV} {S S' : AStore} {r : AV} (hn : xs.length ≤ 42) (h : Clean S → ∀ C : Ctx, C.n = 42 → IWP Tryd.prog C [] ir_L_GeneralMade (FinS C [.t 4] r S') (AS.startS xs S)) : ACallsS Tryd.prog 4 xs S r S' :=
  acallsS_of Tryd.func4 rfl tr_L_GeneralMade rfl hn h

def ir_metaprunetop_TopPlotkin : IR :=
  (.seq
  (.ops
  [.mk (some 4) none (.mov (.c (.one (.st (.bool false)))))
  .no])
  (.seq
  (.seq
  (.ops
  [.mk (some 23) none (.mov (.t 0)) .no, .mk (some 24) none (.len false (.t 23)) .no, .mk (some 25) none (.bin .gtr (.t 24) (.c (.one (.st (.int .i64 256)))))
  .no])
  (.cond (.t 25)
  (.seq
  (.ops
  [.mk (some 4) none (.mov (.c (.one (.st (.bool true)))))
  .no])
  .ret)
  .skip))
  (.seq
  (.ops
  [.mk (some 26) none (.mov (.t 0)) .no, .mk (some 27) none (.mov (.t 1)) .no, .mk (some 28) none (.call 18
  [.t 27, .c (.one (.st (.int .i64 14)))])
  .no, .mk (some 29) none (.call 17
  [.t 26, .c (.one (.st (.int .i64 0))), .t 28, .c (.one (.st (.int .i64 3)))])
  .no, .mk (some 5) none
  (.alloc 24 [.st (.str (ByteArray.mk (#[]))), .full []])
  .no, .mk none none (.store 2 (.t 5) (.t 29))
  .no])
  (.seq
  (.ops
  [.mk (some 31) none (.mov (.t 0)) .no, .mk (some 32) none (.call 20
  [.t 31, .c (.one (.st (.int .i64 30))), .c (.one (.st (.int .i64 5))), .c (.one (.st (.int .i64 3)))])
  .no, .mk (some 33) none (.load true 2 (.t 5)) .no, .mk (some 34) none (.call 19 [.t 32, .t 33])
  .no, .mk (some 30) none (.mov (.t 34)) .no, .mk (some 35) none (.extract 0 (.t 30)) .no, .mk (some 36) none (.extract 1 (.t 30)) .no, .mk (some 6) none
  (.alloc 24 [.st (.str (ByteArray.mk (#[]))), .full []])
  .no, .mk none none (.store 2 (.t 6) (.t 35))
  .no, .mk (some 7) none (.mov (.t 36)) .no])
  (.seq
  (.ops
  [.mk (some 38) none (.mov (.t 0)) .no, .mk (some 39) none (.call 20
  [.t 38, .c (.one (.st (.int .i64 70))), .c (.one (.st (.int .i64 5))), .c (.one (.st (.int .i64 3)))])
  .no, .mk (some 40) none (.load true 2 (.t 5)) .no, .mk (some 41) none (.call 19 [.t 39, .t 40])
  .no, .mk (some 37) none (.mov (.t 41)) .no, .mk (some 42) none (.extract 0 (.t 37)) .no, .mk (some 43) none (.extract 1 (.t 37)) .no, .mk (some 8) none
  (.alloc 24 [.st (.str (ByteArray.mk (#[]))), .full []])
  .no, .mk none none (.store 2 (.t 8) (.t 42))
  .no, .mk (some 9) none (.mov (.t 43)) .no])
  (.seq
  (.seq
  (.ops
  [.mk (some 44) none (.mov (.t 7)) .no, .mk (some 45) none (.un .not (.t 44)) .no, .mk (some 46) none (.mov (.t 45)) .no, .mk (some 47) (some (46, false)) (.mov (.t 9)) .no, .mk (some 48) (some (46, false)) (.un .not (.t 47))
  .no, .mk (some 49) none
  (.pick (.t 46) (.c (.one (.st (.bool true)))) (.t 48))
  .no, .mk (some 50) none (.mov (.t 49)) .no, .mk (some 51) (some (50, false)) (.load true 2 (.t 6))
  .no, .mk (some 52) (some (50, false)) (.call 21
  [.t 51, .c (.one (.st (.int .i64 200)))])
  .no, .mk (some 53) (some (50, false)) (.bin .gtr (.t 52) (.c (.one (.st (.int .i64 200)))))
  .no, .mk (some 54) none
  (.pick (.t 50) (.c (.one (.st (.bool true)))) (.t 53))
  .no, .mk (some 55) none (.mov (.t 54)) .no, .mk (some 56) (some (55, false)) (.load true 2 (.t 8))
  .no, .mk (some 57) (some (55, false)) (.call 21
  [.t 56, .c (.one (.st (.int .i64 200)))])
  .no, .mk (some 58) (some (55, false)) (.bin .gtr (.t 57) (.c (.one (.st (.int .i64 200)))))
  .no, .mk (some 59) none
  (.pick (.t 55) (.c (.one (.st (.bool true)))) (.t 58))
  .no])
  (.cond (.t 59)
  (.seq
  (.ops
  [.mk (some 4) none (.mov (.c (.one (.st (.bool true)))))
  .no])
  .ret)
  .skip))
  (.seq
  (.ops
  [.mk (some 61) none (.load true 2 (.t 6)) .no, .mk (some 62) none (.load true 2 (.t 8)) .no, .mk (some 63) none (.call 10 [.t 61, .t 62])
  .no, .mk (some 60) none (.mov (.t 63)) .no, .mk (some 64) none (.extract 0 (.t 60)) .no, .mk (some 65) none (.extract 1 (.t 60)) .no, .mk (some 66) none (.extract 2 (.t 60)) .no, .mk (some 67) none (.extract 3 (.t 60)) .no, .mk (some 10) none
  (.alloc 24 [.st (.str (ByteArray.mk (#[]))), .full []])
  .no, .mk none none (.store 2 (.t 10) (.t 64))
  .no, .mk (some 11) none (.mov (.t 65)) .no, .mk (some 12) none (.mov (.t 66)) .no, .mk (some 13) none (.mov (.t 67)) .no])
  (.seq
  (.seq
  (.ops
  [.mk (some 68) none (.mov (.t 13)) .no, .mk (some 69) none (.bin .neq (.t 68) (.c (.one (.st (.int .i64 0)))))
  .no])
  (.cond (.t 69)
  (.seq
  (.ops
  [.mk (some 4) none (.mov (.c (.one (.st (.bool false)))))
  .no])
  .ret)
  .skip))
  (.seq
  (.ops
  [.mk (some 71) none (.mov (.t 11)) .no, .mk (some 72) none (.load true 2 (.t 10)) .no, .mk (some 73) none (.call 22 [.t 71, .t 72])
  .no, .mk (some 70) none (.mov (.t 73)) .no, .mk (some 74) none (.extract 0 (.t 70)) .no, .mk (some 75) none (.extract 1 (.t 70)) .no, .mk (some 14) none
  (.alloc 24 [.st (.str (ByteArray.mk (#[]))), .full []])
  .no, .mk none none (.store 2 (.t 14) (.t 74))
  .no, .mk (some 13) none (.mov (.t 75)) .no])
  (.seq
  (.ops
  [.mk (some 77) none (.mov (.t 12)) .no, .mk (some 78) none (.load true 2 (.t 10)) .no, .mk (some 79) none (.call 22 [.t 77, .t 78])
  .no, .mk (some 76) none (.mov (.t 79)) .no, .mk (some 80) none (.extract 0 (.t 76)) .no, .mk (some 81) none (.extract 1 (.t 76)) .no, .mk (some 15) none
  (.alloc 24 [.st (.str (ByteArray.mk (#[]))), .full []])
  .no, .mk none none (.store 2 (.t 15) (.t 80))
  .no, .mk (some 16) none (.mov (.t 81)) .no])
  (.seq
  (.ops
  [.mk (some 83) none (.load true 2 (.t 5)) .no, .mk (some 84) none (.load true 2 (.t 10)) .no, .mk (some 85) none (.call 23 [.t 83, .t 84])
  .no, .mk (some 82) none (.mov (.t 85)) .no, .mk (some 86) none (.extract 0 (.t 82)) .no, .mk (some 87) none (.extract 1 (.t 82)) .no, .mk (some 88) none (.extract 2 (.t 82)) .no, .mk (some 17) none (.mov (.t 86)) .no, .mk (some 18) none (.mov (.t 87)) .no, .mk (some 19) none (.mov (.t 88)) .no])
  (.seq
  (.seq
  (.ops
  [.mk (some 89) none (.mov (.t 16)) .no, .mk (some 90) none (.bin .neq (.t 89) (.c (.one (.st (.int .i64 0)))))
  .no, .mk (some 91) none (.mov (.t 90)) .no, .mk (some 92) (some (91, false)) (.mov (.t 19))
  .no, .mk (some 93) (some (91, false)) (.bin .neq (.t 92) (.c (.one (.st (.int .i64 0)))))
  .no, .mk (some 94) none
  (.pick (.t 91) (.c (.one (.st (.bool true)))) (.t 93))
  .no, .mk (some 95) none (.mov (.t 94)) .no, .mk (some 96) (some (95, false)) (.mov (.t 13))
  .no, .mk (some 97) (some (95, false)) (.bin .neq (.t 96) (.c (.one (.st (.int .i64 0)))))
  .no, .mk (some 98) none
  (.pick (.t 95) (.c (.one (.st (.bool true)))) (.t 97))
  .no, .mk (some 99) none (.mov (.t 98)) .no, .mk (some 100) (some (99, false)) (.load true 2 (.t 14))
  .no, .mk (some 101) (some (99, false)) (.load true 2 (.t 6))
  .no, .mk (some 102) (some (99, false)) (.call 24 [.t 100, .t 101]) .no, .mk (some 103) (some (99, false)) (.un .not (.t 102))
  .no, .mk (some 104) none
  (.pick (.t 99) (.c (.one (.st (.bool true)))) (.t 103))
  .no, .mk (some 105) none (.mov (.t 104)) .no, .mk (some 106) (some (105, false)) (.load true 2 (.t 15))
  .no, .mk (some 107) (some (105, false)) (.load true 2 (.t 8))
  .no, .mk (some 108) (some (105, false)) (.call 24 [.t 106, .t 107]) .no, .mk (some 109) (some (105, false)) (.un .not (.t 108))
  .no, .mk (some 110) none
  (.pick (.t 105) (.c (.one (.st (.bool true)))) (.t 109))
  .no, .mk (some 111) none (.mov (.t 110)) .no, .mk (some 112) (some (111, false)) (.mov (.t 18))
  .no, .mk (some 113) (some (111, false)) (.un .not (.t 112))
  .no, .mk (some 114) none
  (.pick (.t 111) (.c (.one (.st (.bool true)))) (.t 113))
  .no])
  (.cond (.t 114)
  (.seq
  (.ops
  [.mk (some 115) none (.mov (.t 11)) .no, .mk (some 116) none (.len false (.t 115))
  .no, .mk (some 117) none (.bin .gtr (.t 116) (.c (.one (.st (.int .i64 40)))))
  .no, .mk (some 118) none (.mov (.t 117)) .no, .mk (some 119) (some (118, true)) (.load true 2 (.t 10))
  .no, .mk (some 120) (some (118, true)) (.load true 2 (.t 10))
  .no, .mk (some 121) (some (118, true)) (.call 24 [.t 119, .t 120]) .no, .mk (some 122) none
  (.pick (.t 118) (.t 121) (.c (.one (.st (.bool false)))))
  .no, .mk (some 123) none (.mov (.t 122)) .no, .mk (some 124) (some (123, true)) (.mov (.t 18))
  .no, .mk (some 125) none
  (.pick (.t 123) (.t 124) (.c (.one (.st (.bool false)))))
  .no, .mk (some 4) none (.mov (.t 125)) .no])
  .ret)
  .skip))
  (.seq
  (.ops
  [.mk (some 127) none (.load true 2 (.t 8))
  .no, .mk (some 128) none (.load true 2 (.t 6))
  .no, .mk (some 129) none (.call 23 [.t 127, .t 128])
  .no, .mk (some 126) none (.mov (.t 129)) .no, .mk (some 130) none (.extract 0 (.t 126)) .no, .mk (some 131) none (.extract 1 (.t 126)) .no, .mk (some 132) none (.extract 2 (.t 126)) .no, .mk (some 20) none (.mov (.t 130)) .no, .mk (some 21) none (.mov (.t 131)) .no, .mk (some 13) none (.mov (.t 132)) .no])
  (.seq
  (.ops
  [.mk (some 134) none (.load true 2 (.t 10))
  .no, .mk (some 135) none (.load true 2 (.t 8))
  .no, .mk (some 136) none (.call 25 [.t 134, .t 135])
  .no, .mk (some 133) none (.mov (.t 136)) .no, .mk (some 137) none (.extract 0 (.t 133)) .no, .mk (some 138) none (.extract 1 (.t 133)) .no, .mk (some 22) none (.mov (.t 137)) .no, .mk (some 16) none (.mov (.t 138)) .no])
  (.seq
  (.ops
  [.mk (some 139) none (.mov (.t 13)) .no, .mk (some 140) none (.bin .eql (.t 139) (.c (.one (.st (.int .i64 0)))))
  .no, .mk (some 141) none (.mov (.t 140)) .no, .mk (some 142) (some (141, true)) (.mov (.t 16))
  .no, .mk (some 143) (some (141, true)) (.bin .eql (.t 142) (.c (.one (.st (.int .i64 0)))))
  .no, .mk (some 144) none
  (.pick (.t 141) (.t 143) (.c (.one (.st (.bool false)))))
  .no, .mk (some 145) none (.mov (.t 144)) .no, .mk (some 146) (some (145, true)) (.mov (.t 21))
  .no, .mk (some 147) (some (145, true)) (.mov (.t 22))
  .no, .mk (some 148) (some (145, true))
  (.eqB false (.t 146) (.t 147)) .no, .mk (some 149) none
  (.pick (.t 145) (.t 148) (.c (.one (.st (.bool false)))))
  .no, .mk (some 4) none (.mov (.t 149)) .no])
  .ret)))))))))))))))
theorem tr_metaprunetop_TopPlotkin : trCode Tryd.prog 150 [] (Tryd.f5.body.getD .skip) = some ir_metaprunetop_TopPlotkin := by kernel_rfl
theorem ac_metaprunetop_TopPlotkin {xs : List AV} {r : AV} (hn : xs.length ≤ 150) (h : ∀ C : Ctx, C.n = 150 → IWP Tryd.prog C [] ir_metaprunetop_TopPlotkin (FinQ [.t 4] r) (AS.start xs)) : ACalls Tryd.prog 5 xs r :=
  acalls_of Tryd.func5 rfl tr_metaprunetop_TopPlotkin rfl hn h
theorem acS_metaprunetop_TopPlotkin {xs : List AV} {S S' : AStore} {r : AV} (hn : xs.length ≤ 150) (h : Clean S → ∀ C : Ctx, C.n = 150 → IWP Tryd.prog C [] ir_metaprunetop_TopPlotkin (FinS C [.t 4] r S') (AS.startS xs S)) : ACallsS Tryd.prog 5 xs S r S' :=
  acallsS_of Tryd.func5 rfl tr_metaprunetop_TopPlotkin rfl hn h

end Go.Proofs.YtdmgelbbjppgkaaDoor

namespace Go.Proofs.YtdmgelbbjppgkaaDoor
open Go Go.RowKit
set_option linter.unusedVariables false
set_option linter.unusedSimpArgs false
set_option maxHeartbeats 400000

/-- The reference's substitution. -/
theorem onR_a (s : List Bd) (t : Tm) (hz : t.size ≤ 1000000) : ACalls Tryd.prog 38 [aBds s, aTm t] (aTm (t.on s)) := by
  induction h : SizeOf.sizeOf t using Nat.strongRecOn generalizing t with
  | _ N ih =>
  subst h
  have hs := Tm.size_eq t
  have hkn := Tm.length_le t.args
  by_cases hleaf : (∃ x, lookup s t.name = some x) ∧ t.args = []
  · obtain ⟨⟨x, hx⟩, h0⟩ := hleaf
    have h0' : (t.args.length : Int) = 0 := by rw [h0]; rfl
    rw [Tm.on_leaf hx h0]
    refine ac_R_on (Nat.le_of_ble_eq_true rfl) fun C hC => ?_
    unfold ir_R_on
    repeat' (first | (with_reducible first | refine Wa ?_ | refine Wb ?_ | refine Wc ?_ | refine Wd ?_ | refine We ?_ | refine Wf ?_ | refine Wg ?_ | refine Wh ?_ | refine Wi ?_ | refine Wj ?_ | refine Wk (by decide) ?_ | refine Wl ?_ | refine Wm ?_ | refine Wn ?_) | refine CallG.mk _ (for_a s t.name) ?_ | ((with_reducible first | refine Wo (fun K hK => ?_) | refine Wq ?_ | refine Wr ?_); (try simp only [go_sem, List.forall_mem_nil, ↓guard_ite, ↓pick_ite, seval, encT_eq, inR_i64, hx, h0', Option.isSome_some]); (repeat with_reducible refine And.intro (by first | omega | (with_reducible first | exact lens_encT | exact lens_encL | exact lens_encB | exact lens_encP) | (simp; done) | (simp only [List.length_take, List.length_map, List.length_append, maxLen_eq]; omega)) ?_); (try (with_reducible refine hK _ ?_; clear hK K))))
    with_reducible refine Wp ?_
    simp only [go_sem, List.forall_mem_nil, ↓guard_ite, ↓pick_ite, seval, true_implies, false_implies, implies_true, decide_eq_true_eq, decide_eq_false_iff_not, Int.ofNat_lt]
    (try with_reducible refine ite_conj ?_)
    repeat' (first | (with_reducible first | refine Wa ?_ | refine Wb ?_ | refine Wc ?_ | refine Wd ?_ | refine We ?_ | refine Wf ?_ | refine Wg ?_ | refine Wh ?_ | refine Wi ?_ | refine Wj ?_ | refine Wk (by decide) ?_ | refine Wl ?_ | refine Wm ?_ | refine Wn ?_) | ((with_reducible first | refine Wo (fun K hK => ?_) | refine Wq ?_ | refine Wr ?_); (try simp only [go_sem, List.forall_mem_nil, ↓guard_ite, ↓pick_ite, seval, encT_eq, inR_i64]); (repeat with_reducible refine And.intro (by first | omega | (with_reducible first | exact lens_encT | exact lens_encL | exact lens_encB | exact lens_encP) | (simp; done) | (simp only [List.length_take, List.length_map, List.length_append, maxLen_eq]; omega)) ?_); (try (with_reducible refine hK _ ?_; clear hK K))))
    simp only [go_sem, List.forall_mem_nil, ↓guard_ite, ↓pick_ite, seval, FinQ, AS.result, resAll, resOne, tupV]
  · have hon : t.on s = .mk t.name (t.args.map (Tm.on s)) := Tm.on_knot (by
      cases hl : lookup s t.name with
      | none => exact .inl rfl
      | some x => exact .inr fun h0 => hleaf ⟨⟨x, hl⟩, h0⟩)
    rw [hon]
    refine ac_R_on (Nat.le_of_ble_eq_true rfl) fun C hC => ?_
    unfold ir_R_on
    repeat' (first | (with_reducible first | refine Wa ?_ | refine Wb ?_ | refine Wc ?_ | refine Wd ?_ | refine We ?_ | refine Wf ?_ | refine Wg ?_ | refine Wh ?_ | refine Wi ?_ | refine Wj ?_ | refine Wk (by decide) ?_ | refine Wl ?_ | refine Wm ?_ | refine Wn ?_) | ((with_reducible first | refine Wo (fun K hK => ?_) | refine Wq ?_ | refine Wr ?_); (try simp only [go_sem, List.forall_mem_nil, ↓guard_ite, ↓pick_ite, seval, encT_eq, inR_i64]); (repeat with_reducible refine And.intro (by first | omega | (with_reducible first | exact lens_encT | exact lens_encL | exact lens_encB | exact lens_encP) | (simp; done) | (simp only [List.length_take, List.length_map, List.length_append, maxLen_eq]; omega)) ?_); (try (with_reducible refine hK _ ?_; clear hK K))))
    refine ⟨_, for_a s t.name, ?_⟩
    cases hl : lookup s t.name
    case' none =>
      repeat' (first | (with_reducible first | refine Wa ?_ | refine Wb ?_ | refine Wc ?_ | refine Wd ?_ | refine We ?_ | refine Wf ?_ | refine Wg ?_ | refine Wh ?_ | refine Wi ?_ | refine Wj ?_ | refine Wk (by decide) ?_ | refine Wl ?_ | refine Wm ?_ | refine Wn ?_) | ((with_reducible first | refine Wo (fun K hK => ?_) | refine Wq ?_ | refine Wr ?_); (try simp only [go_sem, List.forall_mem_nil, ↓guard_ite, ↓pick_ite, seval, encT_eq, inR_i64, hl, Option.isSome_none]); (repeat with_reducible refine And.intro (by first | omega | (with_reducible first | exact lens_encT | exact lens_encL | exact lens_encB | exact lens_encP) | (simp; done) | (simp only [List.length_take, List.length_map, List.length_append, maxLen_eq]; omega)) ?_); (try (with_reducible refine hK _ ?_; clear hK K))))
      with_reducible refine Wp ?_
      simp only [go_sem, List.forall_mem_nil, ↓guard_ite, ↓pick_ite, seval, true_implies, false_implies, implies_true, decide_eq_true_eq, decide_eq_false_iff_not, Int.ofNat_lt]
      (try with_reducible refine ite_conj ?_)
      repeat' (first | (with_reducible first | refine Wa ?_ | refine Wb ?_ | refine Wc ?_ | refine Wd ?_ | refine We ?_ | refine Wf ?_ | refine Wg ?_ | refine Wh ?_ | refine Wi ?_ | refine Wj ?_ | refine Wk (by decide) ?_ | refine Wl ?_ | refine Wm ?_ | refine Wn ?_) | ((with_reducible first | refine Wo (fun K hK => ?_) | refine Wq ?_ | refine Wr ?_); (try simp only [go_sem, List.forall_mem_nil, ↓guard_ite, ↓pick_ite, seval, encT_eq, inR_i64]); (repeat with_reducible refine And.intro (by first | omega | (with_reducible first | exact lens_encT | exact lens_encL | exact lens_encB | exact lens_encP) | (simp; done) | (simp only [List.length_take, List.length_map, List.length_append, maxLen_eq]; omega)) ?_); (try (with_reducible refine hK _ ?_; clear hK K))))
    case' some x =>
      have h0' : ¬ (t.args.length : Int) = 0 := fun h => hleaf ⟨⟨_, hl⟩, List.eq_nil_of_length_eq_zero (by omega)⟩
      repeat' (first | (with_reducible first | refine Wa ?_ | refine Wb ?_ | refine Wc ?_ | refine Wd ?_ | refine We ?_ | refine Wf ?_ | refine Wg ?_ | refine Wh ?_ | refine Wi ?_ | refine Wj ?_ | refine Wk (by decide) ?_ | refine Wl ?_ | refine Wm ?_ | refine Wn ?_) | ((with_reducible first | refine Wo (fun K hK => ?_) | refine Wq ?_ | refine Wr ?_); (try simp only [go_sem, List.forall_mem_nil, ↓guard_ite, ↓pick_ite, seval, encT_eq, inR_i64, hl, h0', Option.isSome_some]); (repeat with_reducible refine And.intro (by first | omega | (with_reducible first | exact lens_encT | exact lens_encL | exact lens_encB | exact lens_encP) | (simp; done) | (simp only [List.length_take, List.length_map, List.length_append, maxLen_eq]; omega)) ?_); (try (with_reducible refine hK _ ?_; clear hK K))))
      with_reducible refine Wp ?_
      simp only [go_sem, List.forall_mem_nil, ↓guard_ite, ↓pick_ite, seval, true_implies, false_implies, implies_true, decide_eq_true_eq, decide_eq_false_iff_not, Int.ofNat_lt]
      (try with_reducible refine ite_conj ?_)
      repeat' (first | (with_reducible first | refine Wa ?_ | refine Wb ?_ | refine Wc ?_ | refine Wd ?_ | refine We ?_ | refine Wf ?_ | refine Wg ?_ | refine Wh ?_ | refine Wi ?_ | refine Wj ?_ | refine Wk (by decide) ?_ | refine Wl ?_ | refine Wm ?_ | refine Wn ?_) | ((with_reducible first | refine Wo (fun K hK => ?_) | refine Wq ?_ | refine Wr ?_); (try simp only [go_sem, List.forall_mem_nil, ↓guard_ite, ↓pick_ite, seval, encT_eq, inR_i64]); (repeat with_reducible refine And.intro (by first | omega | (with_reducible first | exact lens_encT | exact lens_encL | exact lens_encB | exact lens_encP) | (simp; done) | (simp only [List.length_take, List.length_map, List.length_append, maxLen_eq]; omega)) ?_); (try (with_reducible refine hK _ ?_; clear hK K))))
    all_goals
      refine IWP.ghost (Ghost.ownC 7 1 44 24 2 (xs := ([] : List Tm).map encT) rfl rfl rfl lens_encT) ?_
      refine IWP.loop (fun m x => ∃ k, k ≤ t.args.length ∧ m = t.args.length - k ∧ x.env 0 = aBds s ∧ x.env 3 = .one (.ptr 3 1 0 0) ∧ x.env 4 = .one (.ptr 4 1 0 0) ∧ x.env 7 = .one (.ptr 7 1 0 0) ∧ x.S 3 = some (.box 24 [.st (.str t.name), .st (.list (t.args.map encT))]) ∧ x.S 4 = some (.box 24 [.st (.str ⟨#[]⟩), .full []]) ∧ x.S 7 = some (.box 24 [.st (.str t.name), .row 44 k]) ∧ x.S 44 = some (.arow 24 2 (((t.args.take k).map (Tm.on s)).map encT)) ∧ x.env 8 = aInt k)
        t.args.length ⟨0, Nat.zero_le _, rfl, rfl, rfl, rfl, rfl, rfl, rfl, rfl, rfl, rfl⟩ ?_
      rintro m ⟨env, S⟩ ⟨k, hk, rfl, e0, e3, e4, e7, s3, s4, s7, s44, e8⟩
      simp only at e0 e3 e4 e7 s3 s4 s7 s44 e8
      have hlk : (t.args.take k).length = k := by rw [List.length_take]; omega
      by_cases hlt : (k : Int) < t.args.length
      · obtain ⟨a, ha⟩ := get_lt (show k < t.args.length by omega)
        repeat' (first | (with_reducible first | refine Wa ?_ | refine Wb ?_ | refine Wc ?_ | refine Wd ?_ | refine We ?_ | refine Wf ?_ | refine Wg ?_ | refine Wh ?_ | refine Wi ?_ | refine Wj ?_ | refine Wk (by decide) ?_ | refine Wl ?_ | refine Wm ?_ | refine Wn ?_) | ((with_reducible first | refine Wo (fun K hK => ?_) | refine Wq ?_ | refine Wr ?_); (try simp only [go_sem, List.forall_mem_nil, ↓guard_ite, ↓pick_ite, seval, encT_eq, inR_i64, e0, e3, e4, e7, s3, s4, s7, s44, e8, hlt]); (repeat with_reducible refine And.intro (by first | omega | (with_reducible first | exact lens_encT | exact lens_encL | exact lens_encB | exact lens_encP) | (simp; done) | (simp only [List.length_take, List.length_map, List.length_append, maxLen_eq]; omega)) ?_); (try (with_reducible refine hK _ ?_; clear hK K))))
        with_reducible refine Wp ?_
        simp only [go_sem, List.forall_mem_nil, ↓guard_ite, ↓pick_ite, seval, true_implies, false_implies, implies_true, decide_eq_true_eq, decide_eq_false_iff_not, Int.ofNat_lt, hlt]
        (try with_reducible refine ite_conj ?_)
        repeat' (first | (with_reducible first | refine Wa ?_ | refine Wb ?_ | refine Wc ?_ | refine Wd ?_ | refine We ?_ | refine Wf ?_ | refine Wg ?_ | refine Wh ?_ | refine Wi ?_ | refine Wj ?_ | refine Wk (by decide) ?_ | refine Wl ?_ | refine Wm ?_ | refine Wn ?_) | refine CallG.mk _ (ih _ (Tm.lt_of_arg (mem_of_get ha)) a (by have := Tm.size_mem (mem_of_get ha); omega) rfl) ?_ | ((with_reducible first | refine Wo (fun K hK => ?_) | refine Wq ?_ | refine Wr ?_); (try simp only [go_sem, List.forall_mem_nil, ↓guard_ite, ↓pick_ite, seval, encT_eq, inR_i64, e0, e3, e4, e7, s3, s4, s7, s44, e8, ha, hlk]); (repeat with_reducible refine And.intro (by first | omega | (with_reducible first | exact lens_encT | exact lens_encL | exact lens_encB | exact lens_encP) | (simp; done) | (simp only [List.length_take, List.length_map, List.length_append, maxLen_eq]; omega)) ?_); (try (with_reducible refine hK _ ?_; clear hK K))))
        refine then_normal ⟨t.args.length - (k + 1), by omega, k + 1, by omega, rfl, ?_⟩
        simp only [go_sem, List.forall_mem_nil, ↓guard_ite, ↓pick_ite, seval, encT_eq, inR_i64, e0, e3, e4, e7, s3, s4, s7, s44, e8]
        exact ⟨by rw [take_snoc ha]; simp [encT_eq], by congr 3⟩
      · repeat' (first | (with_reducible first | refine Wa ?_ | refine Wb ?_ | refine Wc ?_ | refine Wd ?_ | refine We ?_ | refine Wf ?_ | refine Wg ?_ | refine Wh ?_ | refine Wi ?_ | refine Wj ?_ | refine Wk (by decide) ?_ | refine Wl ?_ | refine Wm ?_ | refine Wn ?_) | ((with_reducible first | refine Wo (fun K hK => ?_) | refine Wq ?_ | refine Wr ?_); (try simp only [go_sem, List.forall_mem_nil, ↓guard_ite, ↓pick_ite, seval, encT_eq, inR_i64, e0, e3, e4, e7, s3, s4, s7, s44, e8, hlt]); (repeat with_reducible refine And.intro (by first | omega | (with_reducible first | exact lens_encT | exact lens_encL | exact lens_encB | exact lens_encP) | (simp; done) | (simp only [List.length_take, List.length_map, List.length_append, maxLen_eq]; omega)) ?_); (try (with_reducible refine hK _ ?_; clear hK K))))
        with_reducible refine Wp ?_
        simp only [go_sem, List.forall_mem_nil, ↓guard_ite, ↓pick_ite, seval, true_implies, false_implies, implies_true, decide_eq_true_eq, decide_eq_false_iff_not, Int.ofNat_lt, hlt]
        (try with_reducible refine ite_conj ?_)
        have hall : t.args.take k = t.args := List.take_of_length_le (by omega)
        rw [hall] at hlk s44
        repeat' (first | (with_reducible first | refine Wa ?_ | refine Wb ?_ | refine Wc ?_ | refine Wd ?_ | refine We ?_ | refine Wf ?_ | refine Wg ?_ | refine Wh ?_ | refine Wi ?_ | refine Wj ?_ | refine Wk (by decide) ?_ | refine Wl ?_ | refine Wm ?_ | refine Wn ?_) | ((with_reducible first | refine Wo (fun K hK => ?_) | refine Wq ?_ | refine Wr ?_); (try simp only [go_sem, List.forall_mem_nil, ↓guard_ite, ↓pick_ite, seval, encT_eq, inR_i64, e0, e3, e4, e7, s3, s4, s7, s44, e8, hlk]); (repeat with_reducible refine And.intro (by first | omega | (with_reducible first | exact lens_encT | exact lens_encL | exact lens_encB | exact lens_encP) | (simp; done) | (simp only [List.length_take, List.length_map, List.length_append, maxLen_eq]; omega)) ?_); (try (with_reducible refine hK _ ?_; clear hK K))))
        simp only [go_sem, List.forall_mem_nil, ↓guard_ite, ↓pick_ite, seval, FinQ, AS.result, resAll, resOne, tupV, e4, s44, hlk]
        rfl

/-- How great it would be. -/
theorem grown_a (s : List Bd) (t : Tm) (m : Int) (h0 : 0 ≤ m) (h1 : m ≤ 9223372036854775806) : ACalls Tryd.prog 42 [aBds s, aTm t, aInt m] (aInt (capTo (t.on s).size m)) := by
  induction h : SizeOf.sizeOf t using Nat.strongRecOn generalizing t m with
  | _ N ih =>
  subst h
  by_cases hleaf : (∃ x, lookup s t.name = some x) ∧ t.args = []
  · obtain ⟨⟨x, hx⟩, ha0⟩ := hleaf
    have h0' : (t.args.length : Int) = 0 := by rw [ha0]; rfl
    rw [Tm.on_leaf hx ha0]
    refine ac_R_grown (Nat.le_of_ble_eq_true rfl) fun C hC => ?_
    unfold ir_R_grown
    repeat' (first | (with_reducible first | refine Wa ?_ | refine Wb ?_ | refine Wc ?_ | refine Wd ?_ | refine We ?_ | refine Wf ?_ | refine Wg ?_ | refine Wh ?_ | refine Wi ?_ | refine Wj ?_ | refine Wk (by decide) ?_ | refine Wl ?_ | refine Wm ?_ | refine Wn ?_) | refine CallG.mk _ (for_a s t.name) ?_ | ((with_reducible first | refine Wo (fun K hK => ?_) | refine Wq ?_ | refine Wr ?_); (try simp only [go_sem, List.forall_mem_nil, ↓guard_ite, ↓pick_ite, seval, encT_eq, inR_i64, hx, h0', Option.isSome_some]); (repeat with_reducible refine And.intro (by first | omega | (with_reducible first | exact lens_encT | exact lens_encL | exact lens_encB | exact lens_encP) | (simp; done) | (simp only [List.length_take, List.length_map, List.length_append, maxLen_eq]; omega)) ?_); (try (with_reducible refine hK _ ?_; clear hK K))))
    with_reducible refine Wp ?_
    simp only [go_sem, List.forall_mem_nil, ↓guard_ite, ↓pick_ite, seval, true_implies, false_implies, implies_true, decide_eq_true_eq, decide_eq_false_iff_not, Int.ofNat_lt]
    (try with_reducible refine ite_conj ?_)
    repeat' (first | (with_reducible first | refine Wa ?_ | refine Wb ?_ | refine Wc ?_ | refine Wd ?_ | refine We ?_ | refine Wf ?_ | refine Wg ?_ | refine Wh ?_ | refine Wi ?_ | refine Wj ?_ | refine Wk (by decide) ?_ | refine Wl ?_ | refine Wm ?_ | refine Wn ?_) | refine CallG.mk _ (sizeR_a x m h0 h1) ?_ | ((with_reducible first | refine Wo (fun K hK => ?_) | refine Wq ?_ | refine Wr ?_); (try simp only [go_sem, List.forall_mem_nil, ↓guard_ite, ↓pick_ite, seval, encT_eq, inR_i64]); (repeat with_reducible refine And.intro (by first | omega | (with_reducible first | exact lens_encT | exact lens_encL | exact lens_encB | exact lens_encP) | (simp; done) | (simp only [List.length_take, List.length_map, List.length_append, maxLen_eq]; omega)) ?_); (try (with_reducible refine hK _ ?_; clear hK K))))
    simp only [go_sem, List.forall_mem_nil, ↓guard_ite, ↓pick_ite, seval, FinQ, AS.result, resAll, resOne, tupV]
  · have hon : t.on s = .mk t.name (t.args.map (Tm.on s)) := Tm.on_knot (by
      cases hl : lookup s t.name with
      | none => exact .inl rfl
      | some x => exact .inr fun h0 => hleaf ⟨⟨x, hl⟩, h0⟩)
    have hs : (t.on s).size = 1 + Tm.sizes (t.args.map (Tm.on s)) := by rw [hon]; rfl
    refine ac_R_grown (Nat.le_of_ble_eq_true rfl) fun C hC => ?_
    unfold ir_R_grown
    refine IWP.learn 1 (by omega) fun hkn => ?_
    have hkn := known_tm hkn
    repeat' (first | (with_reducible first | refine Wa ?_ | refine Wb ?_ | refine Wc ?_ | refine Wd ?_ | refine We ?_ | refine Wf ?_ | refine Wg ?_ | refine Wh ?_ | refine Wi ?_ | refine Wj ?_ | refine Wk (by decide) ?_ | refine Wl ?_ | refine Wm ?_ | refine Wn ?_) | ((with_reducible first | refine Wo (fun K hK => ?_) | refine Wq ?_ | refine Wr ?_); (try simp only [go_sem, List.forall_mem_nil, ↓guard_ite, ↓pick_ite, seval, encT_eq, inR_i64]); (repeat with_reducible refine And.intro (by first | omega | (with_reducible first | exact lens_encT | exact lens_encL | exact lens_encB | exact lens_encP) | (simp; done) | (simp only [List.length_take, List.length_map, List.length_append, maxLen_eq]; omega)) ?_); (try (with_reducible refine hK _ ?_; clear hK K))))
    refine ⟨_, for_a s t.name, ?_⟩
    cases hl : lookup s t.name
    case' none =>
      repeat' (first | (with_reducible first | refine Wa ?_ | refine Wb ?_ | refine Wc ?_ | refine Wd ?_ | refine We ?_ | refine Wf ?_ | refine Wg ?_ | refine Wh ?_ | refine Wi ?_ | refine Wj ?_ | refine Wk (by decide) ?_ | refine Wl ?_ | refine Wm ?_ | refine Wn ?_) | ((with_reducible first | refine Wo (fun K hK => ?_) | refine Wq ?_ | refine Wr ?_); (try simp only [go_sem, List.forall_mem_nil, ↓guard_ite, ↓pick_ite, seval, encT_eq, inR_i64, hl, Option.isSome_none]); (repeat with_reducible refine And.intro (by first | omega | (with_reducible first | exact lens_encT | exact lens_encL | exact lens_encB | exact lens_encP) | (simp; done) | (simp only [List.length_take, List.length_map, List.length_append, maxLen_eq]; omega)) ?_); (try (with_reducible refine hK _ ?_; clear hK K))))
      with_reducible refine Wp ?_
      simp only [go_sem, List.forall_mem_nil, ↓guard_ite, ↓pick_ite, seval, true_implies, false_implies, implies_true, decide_eq_true_eq, decide_eq_false_iff_not, Int.ofNat_lt]
      (try with_reducible refine ite_conj ?_)
      repeat' (first | (with_reducible first | refine Wa ?_ | refine Wb ?_ | refine Wc ?_ | refine Wd ?_ | refine We ?_ | refine Wf ?_ | refine Wg ?_ | refine Wh ?_ | refine Wi ?_ | refine Wj ?_ | refine Wk (by decide) ?_ | refine Wl ?_ | refine Wm ?_ | refine Wn ?_) | ((with_reducible first | refine Wo (fun K hK => ?_) | refine Wq ?_ | refine Wr ?_); (try simp only [go_sem, List.forall_mem_nil, ↓guard_ite, ↓pick_ite, seval, encT_eq, inR_i64]); (repeat with_reducible refine And.intro (by first | omega | (with_reducible first | exact lens_encT | exact lens_encL | exact lens_encB | exact lens_encP) | (simp; done) | (simp only [List.length_take, List.length_map, List.length_append, maxLen_eq]; omega)) ?_); (try (with_reducible refine hK _ ?_; clear hK K))))
    case' some x =>
      have h0' : ¬ (t.args.length : Int) = 0 := fun h => hleaf ⟨⟨_, hl⟩, List.eq_nil_of_length_eq_zero (by omega)⟩
      repeat' (first | (with_reducible first | refine Wa ?_ | refine Wb ?_ | refine Wc ?_ | refine Wd ?_ | refine We ?_ | refine Wf ?_ | refine Wg ?_ | refine Wh ?_ | refine Wi ?_ | refine Wj ?_ | refine Wk (by decide) ?_ | refine Wl ?_ | refine Wm ?_ | refine Wn ?_) | ((with_reducible first | refine Wo (fun K hK => ?_) | refine Wq ?_ | refine Wr ?_); (try simp only [go_sem, List.forall_mem_nil, ↓guard_ite, ↓pick_ite, seval, encT_eq, inR_i64, hl, h0', Option.isSome_some]); (repeat with_reducible refine And.intro (by first | omega | (with_reducible first | exact lens_encT | exact lens_encL | exact lens_encB | exact lens_encP) | (simp; done) | (simp only [List.length_take, List.length_map, List.length_append, maxLen_eq]; omega)) ?_); (try (with_reducible refine hK _ ?_; clear hK K))))
      with_reducible refine Wp ?_
      simp only [go_sem, List.forall_mem_nil, ↓guard_ite, ↓pick_ite, seval, true_implies, false_implies, implies_true, decide_eq_true_eq, decide_eq_false_iff_not, Int.ofNat_lt]
      (try with_reducible refine ite_conj ?_)
      repeat' (first | (with_reducible first | refine Wa ?_ | refine Wb ?_ | refine Wc ?_ | refine Wd ?_ | refine We ?_ | refine Wf ?_ | refine Wg ?_ | refine Wh ?_ | refine Wi ?_ | refine Wj ?_ | refine Wk (by decide) ?_ | refine Wl ?_ | refine Wm ?_ | refine Wn ?_) | ((with_reducible first | refine Wo (fun K hK => ?_) | refine Wq ?_ | refine Wr ?_); (try simp only [go_sem, List.forall_mem_nil, ↓guard_ite, ↓pick_ite, seval, encT_eq, inR_i64]); (repeat with_reducible refine And.intro (by first | omega | (with_reducible first | exact lens_encT | exact lens_encL | exact lens_encB | exact lens_encP) | (simp; done) | (simp only [List.length_take, List.length_map, List.length_append, maxLen_eq]; omega)) ?_); (try (with_reducible refine hK _ ?_; clear hK K))))
    all_goals
      refine IWP.loop (fun n x => ∃ k, k ≤ t.args.length ∧ n = t.args.length - k ∧ x.env 9 = aInt (capTo (1 + Tm.sizes ((t.args.take k).map (Tm.on s))) m) ∧ x.env 0 = aBds s ∧ x.env 2 = aInt m ∧ x.env 4 = .one (.ptr 4 1 0 0) ∧ x.env 10 = aInt k ∧ x.S 4 = some (.box 24 [.st (.str t.name), .st (.list (t.args.map encT))])) t.args.length ⟨0, Nat.zero_le _, rfl, by
        simp only [go_sem, List.forall_mem_nil, ↓guard_ite, ↓pick_ite, seval, encT_eq, inR_i64]
        rw [capTo]
        have z0 : Tm.sizes [] = 0 := rfl
        congr 3
        split <;> omega, rfl, rfl, rfl, rfl, rfl⟩ ?_
      rintro n ⟨env, S⟩ ⟨k, hk, rfl, e9, e0, e2, e4, e10, s4⟩
      simp only at e9 e0 e2 e4 e10 s4
      have z4 := capTo_le (1 + Tm.sizes ((t.args.take k).map (Tm.on s))) m h0
      have zle : 1 + Tm.sizes ((t.args.take k).map (Tm.on s)) ≤ (t.on s).size := by
        rw [hs, List.map_take]
        have := Tm.sizes_take_le (t.args.map (Tm.on s)) k
        omega
      by_cases hlt : (k : Int) < t.args.length
      · obtain ⟨a, ha⟩ := get_lt (show k < t.args.length by omega)
        have ha' : (t.args.map (Tm.on s))[k]? = some (a.on s) := by rw [List.getElem?_map, ha]; rfl
        have z1 := Tm.sizes_take ha'
        rw [← List.map_take, ← List.map_take] at z1
        by_cases hb : m < capTo (1 + Tm.sizes ((t.args.take k).map (Tm.on s))) m
        · have hb' : ¬ capTo (1 + Tm.sizes ((t.args.take k).map (Tm.on s))) m ≤ m := by omega
          repeat' (first | (with_reducible first | refine Wa ?_ | refine Wb ?_ | refine Wc ?_ | refine Wd ?_ | refine We ?_ | refine Wf ?_ | refine Wg ?_ | refine Wh ?_ | refine Wi ?_ | refine Wj ?_ | refine Wk (by decide) ?_ | refine Wl ?_ | refine Wm ?_ | refine Wn ?_) | ((with_reducible first | refine Wo (fun K hK => ?_) | refine Wq ?_ | refine Wr ?_); (try simp only [go_sem, List.forall_mem_nil, ↓guard_ite, ↓pick_ite, seval, encT_eq, inR_i64, e9, e0, e2, e4, e10, s4, hlt, hb']); (repeat with_reducible refine And.intro (by first | omega | (with_reducible first | exact lens_encT | exact lens_encL | exact lens_encB | exact lens_encP) | (simp; done) | (simp only [List.length_take, List.length_map, List.length_append, maxLen_eq]; omega)) ?_); (try (with_reducible refine hK _ ?_; clear hK K))))
          with_reducible refine Wp ?_
          simp only [go_sem, List.forall_mem_nil, ↓guard_ite, ↓pick_ite, seval, true_implies, false_implies, implies_true, decide_eq_true_eq, decide_eq_false_iff_not, Int.ofNat_lt, hb']
          (try with_reducible refine ite_conj ?_)
          repeat' (first | (with_reducible first | refine Wa ?_ | refine Wb ?_ | refine Wc ?_ | refine Wd ?_ | refine We ?_ | refine Wf ?_ | refine Wg ?_ | refine Wh ?_ | refine Wi ?_ | refine Wj ?_ | refine Wk (by decide) ?_ | refine Wl ?_ | refine Wm ?_ | refine Wn ?_) | ((with_reducible first | refine Wo (fun K hK => ?_) | refine Wq ?_ | refine Wr ?_); (try simp only [go_sem, List.forall_mem_nil, ↓guard_ite, ↓pick_ite, seval, encT_eq, inR_i64, e9, e2]); (repeat with_reducible refine And.intro (by first | omega | (with_reducible first | exact lens_encT | exact lens_encL | exact lens_encB | exact lens_encP) | (simp; done) | (simp only [List.length_take, List.length_map, List.length_append, maxLen_eq]; omega)) ?_); (try (with_reducible refine hK _ ?_; clear hK K))))
          with_reducible refine Wp ?_
          simp only [go_sem, List.forall_mem_nil, ↓guard_ite, ↓pick_ite, seval, true_implies, false_implies, implies_true, decide_eq_true_eq, decide_eq_false_iff_not, Int.ofNat_lt, hb]
          (try with_reducible refine ite_conj ?_)
          repeat' (first | (with_reducible first | refine Wa ?_ | refine Wb ?_ | refine Wc ?_ | refine Wd ?_ | refine We ?_ | refine Wf ?_ | refine Wg ?_ | refine Wh ?_ | refine Wi ?_ | refine Wj ?_ | refine Wk (by decide) ?_ | refine Wl ?_ | refine Wm ?_ | refine Wn ?_) | ((with_reducible first | refine Wo (fun K hK => ?_) | refine Wq ?_ | refine Wr ?_); (try simp only [go_sem, List.forall_mem_nil, ↓guard_ite, ↓pick_ite, seval, encT_eq, inR_i64, e2]); (repeat with_reducible refine And.intro (by first | omega | (with_reducible first | exact lens_encT | exact lens_encL | exact lens_encB | exact lens_encP) | (simp; done) | (simp only [List.length_take, List.length_map, List.length_append, maxLen_eq]; omega)) ?_); (try (with_reducible refine hK _ ?_; clear hK K))))
          simp only [go_sem, List.forall_mem_nil, ↓guard_ite, ↓pick_ite, seval, FinQ, AS.result, resAll, resOne, tupV]
          rw [capTo_over hb zle]
        · have hb' : capTo (1 + Tm.sizes ((t.args.take k).map (Tm.on s))) m ≤ m := by omega
          obtain ⟨b1, b2⟩ := capTo_in hb
          repeat' (first | (with_reducible first | refine Wa ?_ | refine Wb ?_ | refine Wc ?_ | refine Wd ?_ | refine We ?_ | refine Wf ?_ | refine Wg ?_ | refine Wh ?_ | refine Wi ?_ | refine Wj ?_ | refine Wk (by decide) ?_ | refine Wl ?_ | refine Wm ?_ | refine Wn ?_) | ((with_reducible first | refine Wo (fun K hK => ?_) | refine Wq ?_ | refine Wr ?_); (try simp only [go_sem, List.forall_mem_nil, ↓guard_ite, ↓pick_ite, seval, encT_eq, inR_i64, e9, e0, e2, e4, e10, s4, hlt, hb']); (repeat with_reducible refine And.intro (by first | omega | (with_reducible first | exact lens_encT | exact lens_encL | exact lens_encB | exact lens_encP) | (simp; done) | (simp only [List.length_take, List.length_map, List.length_append, maxLen_eq]; omega)) ?_); (try (with_reducible refine hK _ ?_; clear hK K))))
          with_reducible refine Wp ?_
          simp only [go_sem, List.forall_mem_nil, ↓guard_ite, ↓pick_ite, seval, true_implies, false_implies, implies_true, decide_eq_true_eq, decide_eq_false_iff_not, Int.ofNat_lt, hb']
          (try with_reducible refine ite_conj ?_)
          repeat' (first | (with_reducible first | refine Wa ?_ | refine Wb ?_ | refine Wc ?_ | refine Wd ?_ | refine We ?_ | refine Wf ?_ | refine Wg ?_ | refine Wh ?_ | refine Wi ?_ | refine Wj ?_ | refine Wk (by decide) ?_ | refine Wl ?_ | refine Wm ?_ | refine Wn ?_) | ((with_reducible first | refine Wo (fun K hK => ?_) | refine Wq ?_ | refine Wr ?_); (try simp only [go_sem, List.forall_mem_nil, ↓guard_ite, ↓pick_ite, seval, encT_eq, inR_i64, e9, e0, e2, e4, e10, s4, ha]); (repeat with_reducible refine And.intro (by first | omega | (with_reducible first | exact lens_encT | exact lens_encL | exact lens_encB | exact lens_encP) | (simp; done) | (simp only [List.length_take, List.length_map, List.length_append, maxLen_eq]; omega)) ?_); (try (with_reducible refine hK _ ?_; clear hK K))))
          refine ⟨_, ih _ (Tm.lt_of_arg (mem_of_get ha)) a (m - capTo (1 + Tm.sizes ((t.args.take k).map (Tm.on s))) m) (by omega) (by omega) rfl, ?_⟩
          have z5 := capTo_le (a.on s).size (m - capTo (1 + Tm.sizes ((t.args.take k).map (Tm.on s))) m) (by omega)
          repeat' (first | (with_reducible first | refine Wa ?_ | refine Wb ?_ | refine Wc ?_ | refine Wd ?_ | refine We ?_ | refine Wf ?_ | refine Wg ?_ | refine Wh ?_ | refine Wi ?_ | refine Wj ?_ | refine Wk (by decide) ?_ | refine Wl ?_ | refine Wm ?_ | refine Wn ?_) | ((with_reducible first | refine Wo (fun K hK => ?_) | refine Wq ?_ | refine Wr ?_); (try simp only [go_sem, List.forall_mem_nil, ↓guard_ite, ↓pick_ite, seval, encT_eq, inR_i64, e9, e0, e2, e4, e10, s4]); (repeat with_reducible refine And.intro (by first | omega | (with_reducible first | exact lens_encT | exact lens_encL | exact lens_encB | exact lens_encP) | (simp; done) | (simp only [List.length_take, List.length_map, List.length_append, maxLen_eq]; omega)) ?_); (try (with_reducible refine hK _ ?_; clear hK K))))
          refine then_normal ⟨t.args.length - (k + 1), by omega, k + 1, by omega, rfl, ?_⟩
          simp only [go_sem, List.forall_mem_nil, ↓guard_ite, ↓pick_ite, seval, encT_eq, inR_i64, e9, e0, e2, e4, e10, s4]
          exact ⟨by rw [b1, capTo_step b2, z1]; congr 4; omega, by congr 3⟩
      · repeat' (first | (with_reducible first | refine Wa ?_ | refine Wb ?_ | refine Wc ?_ | refine Wd ?_ | refine We ?_ | refine Wf ?_ | refine Wg ?_ | refine Wh ?_ | refine Wi ?_ | refine Wj ?_ | refine Wk (by decide) ?_ | refine Wl ?_ | refine Wm ?_ | refine Wn ?_) | ((with_reducible first | refine Wo (fun K hK => ?_) | refine Wq ?_ | refine Wr ?_); (try simp only [go_sem, List.forall_mem_nil, ↓guard_ite, ↓pick_ite, seval, encT_eq, inR_i64, e9, e0, e2, e4, e10, s4, hlt]); (repeat with_reducible refine And.intro (by first | omega | (with_reducible first | exact lens_encT | exact lens_encL | exact lens_encB | exact lens_encP) | (simp; done) | (simp only [List.length_take, List.length_map, List.length_append, maxLen_eq]; omega)) ?_); (try (with_reducible refine hK _ ?_; clear hK K))))
        with_reducible refine Wp ?_
        simp only [go_sem, List.forall_mem_nil, ↓guard_ite, ↓pick_ite, seval, true_implies, false_implies, implies_true, decide_eq_true_eq, decide_eq_false_iff_not, Int.ofNat_lt]
        (try with_reducible refine ite_conj ?_)
        have hfull : 1 + Tm.sizes ((t.args.take k).map (Tm.on s)) = (t.on s).size := by rw [List.take_of_length_le (by omega), hs]
        rw [hfull] at e9 z4
        repeat' (first | (with_reducible first | refine Wa ?_ | refine Wb ?_ | refine Wc ?_ | refine Wd ?_ | refine We ?_ | refine Wf ?_ | refine Wg ?_ | refine Wh ?_ | refine Wi ?_ | refine Wj ?_ | refine Wk (by decide) ?_ | refine Wl ?_ | refine Wm ?_ | refine Wn ?_) | ((with_reducible first | refine Wo (fun K hK => ?_) | refine Wq ?_ | refine Wr ?_); (try simp only [go_sem, List.forall_mem_nil, ↓guard_ite, ↓pick_ite, seval, encT_eq, inR_i64, e9, e2]); (repeat with_reducible refine And.intro (by first | omega | (with_reducible first | exact lens_encT | exact lens_encL | exact lens_encB | exact lens_encP) | (simp; done) | (simp only [List.length_take, List.length_map, List.length_append, maxLen_eq]; omega)) ?_); (try (with_reducible refine hK _ ?_; clear hK K))))
        by_cases hb : m < capTo (t.on s).size m
        · with_reducible refine Wp ?_
          simp only [go_sem, List.forall_mem_nil, ↓guard_ite, ↓pick_ite, seval, true_implies, false_implies, implies_true, decide_eq_true_eq, decide_eq_false_iff_not, Int.ofNat_lt, hb]
          (try with_reducible refine ite_conj ?_)
          repeat' (first | (with_reducible first | refine Wa ?_ | refine Wb ?_ | refine Wc ?_ | refine Wd ?_ | refine We ?_ | refine Wf ?_ | refine Wg ?_ | refine Wh ?_ | refine Wi ?_ | refine Wj ?_ | refine Wk (by decide) ?_ | refine Wl ?_ | refine Wm ?_ | refine Wn ?_) | ((with_reducible first | refine Wo (fun K hK => ?_) | refine Wq ?_ | refine Wr ?_); (try simp only [go_sem, List.forall_mem_nil, ↓guard_ite, ↓pick_ite, seval, encT_eq, inR_i64, e2]); (repeat with_reducible refine And.intro (by first | omega | (with_reducible first | exact lens_encT | exact lens_encL | exact lens_encB | exact lens_encP) | (simp; done) | (simp only [List.length_take, List.length_map, List.length_append, maxLen_eq]; omega)) ?_); (try (with_reducible refine hK _ ?_; clear hK K))))
          simp only [go_sem, List.forall_mem_nil, ↓guard_ite, ↓pick_ite, seval, FinQ, AS.result, resAll, resOne, tupV]
          rw [capTo_over hb (Nat.le_refl _)]
        · with_reducible refine Wp ?_
          simp only [go_sem, List.forall_mem_nil, ↓guard_ite, ↓pick_ite, seval, true_implies, false_implies, implies_true, decide_eq_true_eq, decide_eq_false_iff_not, Int.ofNat_lt, hb]
          (try with_reducible refine ite_conj ?_)
          repeat' (first | (with_reducible first | refine Wa ?_ | refine Wb ?_ | refine Wc ?_ | refine Wd ?_ | refine We ?_ | refine Wf ?_ | refine Wg ?_ | refine Wh ?_ | refine Wi ?_ | refine Wj ?_ | refine Wk (by decide) ?_ | refine Wl ?_ | refine Wm ?_ | refine Wn ?_) | ((with_reducible first | refine Wo (fun K hK => ?_) | refine Wq ?_ | refine Wr ?_); (try simp only [go_sem, List.forall_mem_nil, ↓guard_ite, ↓pick_ite, seval, encT_eq, inR_i64, e9]); (repeat with_reducible refine And.intro (by first | omega | (with_reducible first | exact lens_encT | exact lens_encL | exact lens_encB | exact lens_encP) | (simp; done) | (simp only [List.length_take, List.length_map, List.length_append, maxLen_eq]; omega)) ?_); (try (with_reducible refine hK _ ?_; clear hK K))))
          simp only [go_sem, List.forall_mem_nil, ↓guard_ite, ↓pick_ite, seval, FinQ, AS.result, resAll, resOne, tupV, e9]

def onTo (s : List Bd) (t : Tm) : Tm × Bool := if (t.on s).size ≤ 2000 then (t.on s, true) else (Tm.nil, false)
theorem onRef_a (s : List Bd) (t : Tm) (hz : t.size ≤ 1000000) : ACalls Tryd.prog 19 [aBds s, aTm t] (.tup [aTm (onTo s t).1, aBool (onTo s t).2]) := by
  by_cases hb : (2000 : Int) < capTo (t.on s).size 2000
  · have e : onTo s t = (Tm.nil, false) := by
      unfold onTo
      rw [if_neg]
      intro h
      unfold capTo at hb
      split at hb <;> omega
    rw [e]
    refine ac_R_On (Nat.le_of_ble_eq_true rfl) fun C hC => ?_
    unfold ir_R_On
    repeat' (first | (with_reducible first | refine Wa ?_ | refine Wb ?_ | refine Wc ?_ | refine Wd ?_ | refine We ?_ | refine Wf ?_ | refine Wg ?_ | refine Wh ?_ | refine Wi ?_ | refine Wj ?_ | refine Wk (by decide) ?_ | refine Wl ?_ | refine Wm ?_ | refine Wn ?_) | refine CallG.mk _ (grown_a s t 2000 (by omega) (by omega)) ?_ | ((with_reducible first | refine Wo (fun K hK => ?_) | refine Wq ?_ | refine Wr ?_); (try simp only [go_sem, List.forall_mem_nil, ↓guard_ite, ↓pick_ite, seval, encT_eq, inR_i64, hb]); (repeat with_reducible refine And.intro (by first | omega | (with_reducible first | exact lens_encT | exact lens_encL | exact lens_encB | exact lens_encP) | (simp; done) | (simp only [List.length_take, List.length_map, List.length_append, maxLen_eq]; omega)) ?_); (try (with_reducible refine hK _ ?_; clear hK K))))
    with_reducible refine Wp ?_
    simp only [go_sem, List.forall_mem_nil, ↓guard_ite, ↓pick_ite, seval, true_implies, false_implies, implies_true, decide_eq_true_eq, decide_eq_false_iff_not, Int.ofNat_lt, hb]
    (try with_reducible refine ite_conj ?_)
    repeat' (first | (with_reducible first | refine Wa ?_ | refine Wb ?_ | refine Wc ?_ | refine Wd ?_ | refine We ?_ | refine Wf ?_ | refine Wg ?_ | refine Wh ?_ | refine Wi ?_ | refine Wj ?_ | refine Wk (by decide) ?_ | refine Wl ?_ | refine Wm ?_ | refine Wn ?_) | ((with_reducible first | refine Wo (fun K hK => ?_) | refine Wq ?_ | refine Wr ?_); (try simp only [go_sem, List.forall_mem_nil, ↓guard_ite, ↓pick_ite, seval, encT_eq, inR_i64]); (repeat with_reducible refine And.intro (by first | omega | (with_reducible first | exact lens_encT | exact lens_encL | exact lens_encB | exact lens_encP) | (simp; done) | (simp only [List.length_take, List.length_map, List.length_append, maxLen_eq]; omega)) ?_); (try (with_reducible refine hK _ ?_; clear hK K))))
    simp only [go_sem, List.forall_mem_nil, ↓guard_ite, ↓pick_ite, seval, FinQ, AS.result, resAll, resOne, tupV]
    rfl
  · have e : onTo s t = (t.on s, true) := by
      unfold onTo
      rw [if_pos]
      have := (capTo_in hb).2
      omega
    rw [e]
    refine ac_R_On (Nat.le_of_ble_eq_true rfl) fun C hC => ?_
    unfold ir_R_On
    repeat' (first | (with_reducible first | refine Wa ?_ | refine Wb ?_ | refine Wc ?_ | refine Wd ?_ | refine We ?_ | refine Wf ?_ | refine Wg ?_ | refine Wh ?_ | refine Wi ?_ | refine Wj ?_ | refine Wk (by decide) ?_ | refine Wl ?_ | refine Wm ?_ | refine Wn ?_) | refine CallG.mk _ (grown_a s t 2000 (by omega) (by omega)) ?_ | ((with_reducible first | refine Wo (fun K hK => ?_) | refine Wq ?_ | refine Wr ?_); (try simp only [go_sem, List.forall_mem_nil, ↓guard_ite, ↓pick_ite, seval, encT_eq, inR_i64, hb]); (repeat with_reducible refine And.intro (by first | omega | (with_reducible first | exact lens_encT | exact lens_encL | exact lens_encB | exact lens_encP) | (simp; done) | (simp only [List.length_take, List.length_map, List.length_append, maxLen_eq]; omega)) ?_); (try (with_reducible refine hK _ ?_; clear hK K))))
    with_reducible refine Wp ?_
    simp only [go_sem, List.forall_mem_nil, ↓guard_ite, ↓pick_ite, seval, true_implies, false_implies, implies_true, decide_eq_true_eq, decide_eq_false_iff_not, Int.ofNat_lt, hb]
    (try with_reducible refine ite_conj ?_)
    repeat' (first | (with_reducible first | refine Wa ?_ | refine Wb ?_ | refine Wc ?_ | refine Wd ?_ | refine We ?_ | refine Wf ?_ | refine Wg ?_ | refine Wh ?_ | refine Wi ?_ | refine Wj ?_ | refine Wk (by decide) ?_ | refine Wl ?_ | refine Wm ?_ | refine Wn ?_) | refine CallG.mk _ (onR_a s t hz) ?_ | ((with_reducible first | refine Wo (fun K hK => ?_) | refine Wq ?_ | refine Wr ?_); (try simp only [go_sem, List.forall_mem_nil, ↓guard_ite, ↓pick_ite, seval, encT_eq, inR_i64]); (repeat with_reducible refine And.intro (by first | omega | (with_reducible first | exact lens_encT | exact lens_encL | exact lens_encB | exact lens_encP) | (simp; done) | (simp only [List.length_take, List.length_map, List.length_append, maxLen_eq]; omega)) ?_); (try (with_reducible refine hK _ ?_; clear hK K))))
    simp only [go_sem, List.forall_mem_nil, ↓guard_ite, ↓pick_ite, seval, FinQ, AS.result, resAll, resOne, tupV]
end Go.Proofs.YtdmgelbbjppgkaaDoor
