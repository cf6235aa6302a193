/-
  Proved: for two instances of one term made of raw numbers, the law GeneralSays holds: the law GeneralMade returns true; as a tied card. Conditions: none.
-/
import Derived.Test.YtdmgelbbjppgkaaDoorPart23
import Derived.Test.YtdmgelbbjppgkaaDoorRows
import Derived.ProofKit
import Derived.OpenShut
import Derived.JoinedCond
import Derived.Deep.Slices
import Derived.Test.YtdmgelbbjppgkaaDoorTie
import Derived.Test.YtdmgelbbjppgkaaDoorCards
import Derived.LaidMore
import Derived.MakeChecks
import Derived.Stop.Joined
import Derived.Lib.LaidTab
import Derived.Lib.ItoaNum
import Derived.LaidLaws
namespace Go.Proofs.YtdmgelbbjppgkaaDoor
open Go Go.RowKit
set_option linter.unusedVariables false
set_option linter.unusedSimpArgs false
set_option maxHeartbeats 800000

def nmB (i : Nat) : ByteArray := [(⟨#[85]⟩ : ByteArray), ⟨#[88]⟩, ⟨#[89]⟩, ⟨#[90]⟩].getD i ⟨#[]⟩
theorem bindsFrom_a (l : List Int) (hl : ∀ n ∈ l, inR .i64 n) (hm : l.length ≤ maxLen) (vars : Int) (hv : 1 ≤ vars ∧ vars ≤ 4) (at_ most : Nat) (hat : at_ ≤ 1000) (h12 : most ≤ 100) : ∃ bs : List Bd, ACalls Tryd.prog 20 [aInts l, aInt at_, aInt most, aInt vars] (aBds bs) ∧ OkB bs ∧ bs.length ≤ 4 ∧ ∀ b ∈ bs, b.2.size + 1 ≤ max 2 (2 * most) := by
  have hT : ∀ i : Nat, ∃ t : Tm, i < 4 → ACalls Tryd.prog 17 [aInts l, aInt ((at_ : Int) + 4 + 7 * i), aInt most, aInt vars] (aTm t) ∧ t.size + 1 ≤ max 2 (2 * most) ∧ t.chk = 0 := fun i => by
    by_cases hi : i < 4
    · obtain ⟨t, ht, hz, hc⟩ := termOf_a l hl hm vars hv most (at_ + 4 + 7 * i) (by omega) (by omega)
      refine ⟨t, fun _ => ⟨?_, hz, hc⟩⟩
      rw [show (((at_ + 4 + 7 * i : Nat) : Int)) = (at_ : Int) + 4 + 7 * i by omega] at ht
      exact ht
    · exact ⟨Tm.nil, fun h => absurd h hi⟩
  obtain ⟨T, hT⟩ := Classical.skolem.1 hT
  obtain ⟨B, hB⟩ : ∃ B : Nat → List Bd, B = fun k => ((List.range k).filter fun i => decide (0 < pickI (rawI l (at_ + i)) 4)).map fun i => (nmB i, T i) := ⟨_, rfl⟩
  have hB0 : B 0 = [] := by rw [hB]; rfl
  have hBy : ∀ k, 0 < pickI (rawI l (at_ + k)) 4 → B (k + 1) = B k ++ [(nmB k, T k)] := fun k h => by
    rw [hB]
    simp only [List.range_succ, List.filter_append, List.map_append]
    rw [List.filter_cons_of_pos (by simpa using h)]
    rfl
  have hBn : ∀ k, ¬ 0 < pickI (rawI l (at_ + k)) 4 → B (k + 1) = B k := fun k h => by
    rw [hB]
    simp only [List.range_succ, List.filter_append, List.map_append]
    rw [List.filter_cons_of_neg (by simpa using h), List.filter_nil, List.map_nil, List.append_nil]
  have hBl : ∀ k, (B k).length ≤ k := fun k => by
    rw [hB]
    simp only [List.length_map]
    exact Nat.le_trans (List.length_filter_le _ _) (by simp)
  have hB4 : OkB (B 4) ∧ ∀ b ∈ B 4, b.2.size + 1 ≤ max 2 (2 * most) := by
    have hmem : ∀ b ∈ B 4, ∃ i, i < 4 ∧ b = (nmB i, T i) := fun b hb => by
      rw [hB] at hb
      obtain ⟨i, hi, rfl⟩ := List.mem_map.1 hb
      exact ⟨i, List.mem_range.1 (List.mem_filter.1 hi).1, rfl⟩
    have hnm : ∀ i, i < 4 → isVar (nmB i) = true ∧ nameOk (nmB i) = true := by decide +kernel
    refine ⟨⟨?_, fun b hb => ?_, fun b hb => ?_, fun b hb => ?_⟩, fun b hb => ?_⟩
    · rw [hB]
      refine List.pairwise_map.2 (List.Pairwise.sublist List.filter_sublist ?_)
      have hp : ∀ i, i < 4 → ∀ j, j < 4 → i < j → sLt (nmB i) (nmB j) = true := by decide +kernel
      exact (List.pairwise_lt_range (n := 4)).imp_of_mem fun hi hj hij => hp _ (List.mem_range.1 hi) _ (List.mem_range.1 hj) hij
    · obtain ⟨i, hi, rfl⟩ := hmem b hb
      exact (hnm i hi).1
    · obtain ⟨i, hi, rfl⟩ := hmem b hb
      exact (hnm i hi).2
    · obtain ⟨i, hi, rfl⟩ := hmem b hb
      exact (hT i hi).2.2
    · obtain ⟨i, hi, rfl⟩ := hmem b hb
      exact (hT i hi).2.1
  clear hB
  refine ⟨B 4, ?_, hB4.1, hBl 4, hB4.2⟩
  have hT := fun i hi => (hT i hi).1
  refine ac_R_BindsFrom (Nat.le_of_ble_eq_true rfl) fun C hC => ?_
  unfold ir_R_BindsFrom
  repeat' (first | (with_reducible first | refine Wa ?_ | refine Wb ?_ | refine Wc ?_ | refine Wd ?_ | refine We ?_ | refine Wf ?_ | refine Wg ?_ | refine Wh ?_ | refine Wi ?_ | refine Wj ?_ | refine Wk (by decide) ?_ | refine Wl ?_ | refine Wm ?_ | refine Wn ?_) | ((with_reducible first | refine Wo (fun K hK => ?_) | refine Wp ?_ | refine Wq ?_ | refine Wr ?_); (try simp only [go_sem, List.forall_mem_nil, ↓guard_ite, ↓pick_ite, seval, encT_eq, inR_i64, decide_eq_true_eq, decide_eq_false_iff_not, Int.ofNat_lt]); (repeat with_reducible refine And.intro (by first | omega | (with_reducible first | exact lens_encT | exact lens_encL | exact lens_encB | exact lens_encP) | (simp; done) | (simp only [List.length_take, List.length_map, List.length_append, maxLen_eq]; omega)) ?_); (try (with_reducible refine hK _ ?_; clear hK K)); (try with_reducible refine ite_conj ?_)))
  refine IWP.ghost (Ghost.own 9 900 36 3 (xs := []) rfl rfl (by simp) (by rw [hC]; decide)) ?_
  refine IWP.loop (fun m x => ∃ k, k ≤ 4 ∧ m = 4 - k ∧ x.env 0 = aInts l ∧ x.env 1 = aInt at_ ∧ x.env 2 = aInt most ∧ x.env 3 = aInt vars ∧ x.env 9 = .one (.row 900 (B k).length) ∧ x.env 10 = .one (.full [[.str ⟨#[85]⟩], [.str ⟨#[88]⟩], [.str ⟨#[89]⟩], [.str ⟨#[90]⟩]]) ∧ x.env 11 = aInt k ∧ x.S 900 = some (.arow 36 3 ((B k).map encB))) 4 ⟨0, Nat.zero_le _, rfl, rfl, rfl, rfl, rfl, by rw [hB0]; rfl, rfl, rfl, by rw [hB0]; rfl⟩ ?_
  rintro m ⟨env, S⟩ ⟨k, hk, rfl, e0, e1, e2, e3, e9, e10, e11, s900⟩
  simp only at e0 e1 e2 e3 e9 e10 e11 s900
  have hbl := hBl k
  by_cases hlt : (k : Int) < 4
  · have hraw := raw_a l (at_ + k) (by omega) hl hm
    have hrr := rawI_range l (at_ + k)
    have hpick := pick_a (rawI l (at_ + k)) 4 (by rw [inR_i64]; omega) (by omega)
    have htk := hT k (by omega)
    rw [show (((at_ + k : Nat) : Int)) = (at_ : Int) + k by omega] at hraw
    have hnm : [([.str ⟨#[85]⟩] : List SV), [.str ⟨#[88]⟩], [.str ⟨#[89]⟩], [.str ⟨#[90]⟩]][k]? = some [.str (nmB k)] := by
      match k, (show k < 4 by omega) with
      | 0, _ => rfl
      | 1, _ => rfl
      | 2, _ => rfl
      | 3, _ => rfl
    by_cases hc : 0 < pickI (rawI l (at_ + k)) 4
    · repeat' (first | (with_reducible first | refine Wa ?_ | refine Wb ?_ | refine Wc ?_ | refine Wd ?_ | refine We ?_ | refine Wf ?_ | refine Wg ?_ | refine Wh ?_ | refine Wi ?_ | refine Wj ?_ | refine Wk (by decide) ?_ | refine Wl ?_ | refine Wm ?_ | refine Wn ?_) | refine CallG.mk _ (hraw) ?_ | refine CallG.mk _ (hpick) ?_ | refine CallG.mk _ (htk) ?_ | ((with_reducible first | refine Wo (fun K hK => ?_) | refine Wp ?_ | refine Wq ?_ | refine Wr ?_); (try simp only [go_sem, List.forall_mem_nil, ↓guard_ite, ↓pick_ite, seval, encT_eq, inR_i64, e0, e1, e2, e3, e9, e10, e11, s900, hlt, hc, hnm, decide_eq_true_eq, decide_eq_false_iff_not, Int.ofNat_lt]); (repeat with_reducible refine And.intro (by first | omega | (with_reducible first | exact lens_encT | exact lens_encL | exact lens_encB | exact lens_encP) | (simp; done) | (simp only [List.length_take, List.length_map, List.length_append, maxLen_eq]; omega)) ?_); (try (with_reducible refine hK _ ?_; clear hK K)); (try with_reducible refine ite_conj ?_)))
      refine then_normal ⟨4 - (k + 1), by omega, k + 1, by omega, rfl, ?_⟩
      rw [hBy k hc]
      simp only [go_sem, List.forall_mem_nil, ↓guard_ite, ↓pick_ite, seval, encT_eq, inR_i64, e0, e1, e2, e3, e9, e10, e11, s900]
      refine ⟨by congr 3, ?_⟩
      rw [List.map_append]
      rfl
    · repeat' (first | (with_reducible first | refine Wa ?_ | refine Wb ?_ | refine Wc ?_ | refine Wd ?_ | refine We ?_ | refine Wf ?_ | refine Wg ?_ | refine Wh ?_ | refine Wi ?_ | refine Wj ?_ | refine Wk (by decide) ?_ | refine Wl ?_ | refine Wm ?_ | refine Wn ?_) | refine CallG.mk _ (hraw) ?_ | refine CallG.mk _ (hpick) ?_ | ((with_reducible first | refine Wo (fun K hK => ?_) | refine Wp ?_ | refine Wq ?_ | refine Wr ?_); (try simp only [go_sem, List.forall_mem_nil, ↓guard_ite, ↓pick_ite, seval, encT_eq, inR_i64, e0, e1, e2, e3, e9, e10, e11, s900, hlt, hc, hnm, decide_eq_true_eq, decide_eq_false_iff_not, Int.ofNat_lt]); (repeat with_reducible refine And.intro (by first | omega | (with_reducible first | exact lens_encT | exact lens_encL | exact lens_encB | exact lens_encP) | (simp; done) | (simp only [List.length_take, List.length_map, List.length_append, maxLen_eq]; omega)) ?_); (try (with_reducible refine hK _ ?_; clear hK K)); (try with_reducible refine ite_conj ?_)))
      refine then_normal ⟨4 - (k + 1), by omega, k + 1, by omega, rfl, ?_⟩
      rw [hBn k hc]
      simp only [go_sem, List.forall_mem_nil, ↓guard_ite, ↓pick_ite, seval, encT_eq, inR_i64, e0, e1, e2, e3, e9, e10, e11, s900]
      congr 3
  · obtain rfl : k = 4 := by omega
    repeat' (first | (with_reducible first | refine Wa ?_ | refine Wb ?_ | refine Wc ?_ | refine Wd ?_ | refine We ?_ | refine Wf ?_ | refine Wg ?_ | refine Wh ?_ | refine Wi ?_ | refine Wj ?_ | refine Wk (by decide) ?_ | refine Wl ?_ | refine Wm ?_ | refine Wn ?_) | ((with_reducible first | refine Wo (fun K hK => ?_) | refine Wp ?_ | refine Wq ?_ | refine Wr ?_); (try simp only [go_sem, List.forall_mem_nil, ↓guard_ite, ↓pick_ite, seval, encT_eq, inR_i64, e0, e1, e9, e11, s900, hlt, decide_eq_true_eq, decide_eq_false_iff_not, Int.ofNat_lt]); (repeat with_reducible refine And.intro (by first | omega | (with_reducible first | exact lens_encT | exact lens_encL | exact lens_encB | exact lens_encP) | (simp; done) | (simp only [List.length_take, List.length_map, List.length_append, maxLen_eq]; omega)) ?_); (try (with_reducible refine hK _ ?_; clear hK K)); (try with_reducible refine ite_conj ?_)))
    simp only [go_sem, List.forall_mem_nil, ↓guard_ite, ↓pick_ite, seval, FinQ, AS.result, resAll, resOne, tupV, s900]
theorem may_of {t : Tm} (hc : t.chk = 0) (hz : t.size ≤ 200) : t.may = 0 := by
  unfold Tm.may
  rw [if_neg (by omega)]
  exact hc
end Go.Proofs.YtdmgelbbjppgkaaDoor

namespace Go.Proofs.YtdmgelbbjppgkaaDoor
open Go Go.RowKit
set_option maxRecDepth 100000

def ir_L_GeneralMade : IR :=
  (.seq
  (.ops
  [.mk (some 4) none (.mov (.c (.one (.st (.bool false)))))
  .no])
  (.seq
  (.seq
  (.ops
  [.mk (some 10) none (.mov (.t 0)) .no, .mk (some 11) none (.len false (.t 10)) .no, .mk (some 12) none (.bin .gtr (.t 11) (.c (.one (.st (.int .i64 256)))))
  .no])
  (.cond (.t 12)
  (.seq
  (.ops
  [.mk (some 4) none (.mov (.c (.one (.st (.bool true)))))
  .no])
  .ret)
  .skip))
  (.seq
  (.ops
  [.mk (some 13) none (.mov (.t 0)) .no, .mk (some 14) none (.mov (.t 1)) .no, .mk (some 15) none (.call 18
  [.t 14, .c (.one (.st (.int .i64 14)))])
  .no, .mk (some 16) none (.call 17
  [.t 13, .c (.one (.st (.int .i64 0))), .t 15, .c (.one (.st (.int .i64 3)))])
  .no, .mk (some 5) none
  (.alloc 24 [.st (.str (ByteArray.mk (#[]))), .full []])
  .no, .mk none none (.store 2 (.t 5) (.t 16))
  .no])
  (.seq
  (.ops
  [.mk (some 18) none (.mov (.t 0)) .no, .mk (some 19) none (.call 20
  [.t 18, .c (.one (.st (.int .i64 30))), .c (.one (.st (.int .i64 5))), .c (.one (.st (.int .i64 3)))])
  .no, .mk (some 20) none (.load true 2 (.t 5)) .no, .mk (some 21) none (.call 19 [.t 19, .t 20])
  .no, .mk (some 17) none (.mov (.t 21)) .no, .mk (some 22) none (.extract 0 (.t 17)) .no, .mk (some 23) none (.extract 1 (.t 17)) .no, .mk (some 6) none
  (.alloc 24 [.st (.str (ByteArray.mk (#[]))), .full []])
  .no, .mk none none (.store 2 (.t 6) (.t 22))
  .no, .mk (some 7) none (.mov (.t 23)) .no])
  (.seq
  (.ops
  [.mk (some 25) none (.mov (.t 0)) .no, .mk (some 26) none (.call 20
  [.t 25, .c (.one (.st (.int .i64 70))), .c (.one (.st (.int .i64 5))), .c (.one (.st (.int .i64 3)))])
  .no, .mk (some 27) none (.load true 2 (.t 5)) .no, .mk (some 28) none (.call 19 [.t 26, .t 27])
  .no, .mk (some 24) none (.mov (.t 28)) .no, .mk (some 29) none (.extract 0 (.t 24)) .no, .mk (some 30) none (.extract 1 (.t 24)) .no, .mk (some 8) none
  (.alloc 24 [.st (.str (ByteArray.mk (#[]))), .full []])
  .no, .mk none none (.store 2 (.t 8) (.t 29))
  .no, .mk (some 9) none (.mov (.t 30)) .no])
  (.seq
  (.ops
  [.mk (some 31) none (.mov (.t 7)) .no, .mk (some 32) none (.un .not (.t 31)) .no, .mk (some 33) none (.mov (.t 32)) .no, .mk (some 34) (some (33, false)) (.mov (.t 9)) .no, .mk (some 35) (some (33, false)) (.un .not (.t 34))
  .no, .mk (some 36) none
  (.pick (.t 33) (.c (.one (.st (.bool true)))) (.t 35))
  .no, .mk (some 37) none (.mov (.t 36)) .no, .mk (some 38) (some (37, false)) (.load true 2 (.t 6))
  .no, .mk (some 39) (some (37, false)) (.load true 2 (.t 8))
  .no, .mk (some 40) (some (37, false)) (.call 3 [.t 38, .t 39])
  .no, .mk (some 41) none
  (.pick (.t 37) (.c (.one (.st (.bool true)))) (.t 40))
  .no, .mk (some 4) none (.mov (.t 41)) .no])
  .ret))))))
theorem tr_L_GeneralMade : trCode Tryd.prog 42 [] (Tryd.f4.body.getD .skip) = some ir_L_GeneralMade := by kernel_rfl
theorem ac_L_GeneralMade {xs : List AV} {r : AV} (hn : xs.length ≤ 42) (h : ∀ C : Ctx, C.n = 42 → IWP Tryd.prog C [] ir_L_GeneralMade (FinQ [.t 4] r) (AS.start xs)) : ACalls Tryd.prog 4 xs r :=
  acalls_of Tryd.func4 rfl tr_L_GeneralMade rfl hn h
theorem acS_L_GeneralMade {xs : List AV} {S S' : AStore} {r : AV} (hn : xs.length ≤ 42) (h : Clean S → ∀ C : Ctx, C.n = 42 → IWP Tryd.prog C [] ir_L_GeneralMade (FinS C [.t 4] r S') (AS.startS xs S)) : ACallsS Tryd.prog 4 xs S r S' :=
  acallsS_of Tryd.func4 rfl tr_L_GeneralMade rfl hn h

def ir_metaprunetop_TopPlotkin : IR :=
  (.seq
  (.ops
  [.mk (some 4) none (.mov (.c (.one (.st (.bool false)))))
  .no])
  (.seq
  (.seq
  (.ops
  [.mk (some 23) none (.mov (.t 0)) .no, .mk (some 24) none (.len false (.t 23)) .no, .mk (some 25) none (.bin .gtr (.t 24) (.c (.one (.st (.int .i64 256)))))
  .no])
  (.cond (.t 25)
  (.seq
  (.ops
  [.mk (some 4) none (.mov (.c (.one (.st (.bool true)))))
  .no])
  .ret)
  .skip))
  (.seq
  (.ops
  [.mk (some 26) none (.mov (.t 0)) .no, .mk (some 27) none (.mov (.t 1)) .no, .mk (some 28) none (.call 18
  [.t 27, .c (.one (.st (.int .i64 14)))])
  .no, .mk (some 29) none (.call 17
  [.t 26, .c (.one (.st (.int .i64 0))), .t 28, .c (.one (.st (.int .i64 3)))])
  .no, .mk (some 5) none
  (.alloc 24 [.st (.str (ByteArray.mk (#[]))), .full []])
  .no, .mk none none (.store 2 (.t 5) (.t 29))
  .no])
  (.seq
  (.ops
  [.mk (some 31) none (.mov (.t 0)) .no, .mk (some 32) none (.call 20
  [.t 31, .c (.one (.st (.int .i64 30))), .c (.one (.st (.int .i64 5))), .c (.one (.st (.int .i64 3)))])
  .no, .mk (some 33) none (.load true 2 (.t 5)) .no, .mk (some 34) none (.call 19 [.t 32, .t 33])
  .no, .mk (some 30) none (.mov (.t 34)) .no, .mk (some 35) none (.extract 0 (.t 30)) .no, .mk (some 36) none (.extract 1 (.t 30)) .no, .mk (some 6) none
  (.alloc 24 [.st (.str (ByteArray.mk (#[]))), .full []])
  .no, .mk none none (.store 2 (.t 6) (.t 35))
  .no, .mk (some 7) none (.mov (.t 36)) .no])
  (.seq
  (.ops
  [.mk (some 38) none (.mov (.t 0)) .no, .mk (some 39) none (.call 20
  [.t 38, .c (.one (.st (.int .i64 70))), .c (.one (.st (.int .i64 5))), .c (.one (.st (.int .i64 3)))])
  .no, .mk (some 40) none (.load true 2 (.t 5)) .no, .mk (some 41) none (.call 19 [.t 39, .t 40])
  .no, .mk (some 37) none (.mov (.t 41)) .no, .mk (some 42) none (.extract 0 (.t 37)) .no, .mk (some 43) none (.extract 1 (.t 37)) .no, .mk (some 8) none
  (.alloc 24 [.st (.str (ByteArray.mk (#[]))), .full []])
  .no, .mk none none (.store 2 (.t 8) (.t 42))
  .no, .mk (some 9) none (.mov (.t 43)) .no])
  (.seq
  (.seq
  (.ops
  [.mk (some 44) none (.mov (.t 7)) .no, .mk (some 45) none (.un .not (.t 44)) .no, .mk (some 46) none (.mov (.t 45)) .no, .mk (some 47) (some (46, false)) (.mov (.t 9)) .no, .mk (some 48) (some (46, false)) (.un .not (.t 47))
  .no, .mk (some 49) none
  (.pick (.t 46) (.c (.one (.st (.bool true)))) (.t 48))
  .no, .mk (some 50) none (.mov (.t 49)) .no, .mk (some 51) (some (50, false)) (.load true 2 (.t 6))
  .no, .mk (some 52) (some (50, false)) (.call 21
  [.t 51, .c (.one (.st (.int .i64 200)))])
  .no, .mk (some 53) (some (50, false)) (.bin .gtr (.t 52) (.c (.one (.st (.int .i64 200)))))
  .no, .mk (some 54) none
  (.pick (.t 50) (.c (.one (.st (.bool true)))) (.t 53))
  .no, .mk (some 55) none (.mov (.t 54)) .no, .mk (some 56) (some (55, false)) (.load true 2 (.t 8))
  .no, .mk (some 57) (some (55, false)) (.call 21
  [.t 56, .c (.one (.st (.int .i64 200)))])
  .no, .mk (some 58) (some (55, false)) (.bin .gtr (.t 57) (.c (.one (.st (.int .i64 200)))))
  .no, .mk (some 59) none
  (.pick (.t 55) (.c (.one (.st (.bool true)))) (.t 58))
  .no])
  (.cond (.t 59)
  (.seq
  (.ops
  [.mk (some 4) none (.mov (.c (.one (.st (.bool true)))))
  .no])
  .ret)
  .skip))
  (.seq
  (.ops
  [.mk (some 61) none (.load true 2 (.t 6)) .no, .mk (some 62) none (.load true 2 (.t 8)) .no, .mk (some 63) none (.call 10 [.t 61, .t 62])
  .no, .mk (some 60) none (.mov (.t 63)) .no, .mk (some 64) none (.extract 0 (.t 60)) .no, .mk (some 65) none (.extract 1 (.t 60)) .no, .mk (some 66) none (.extract 2 (.t 60)) .no, .mk (some 67) none (.extract 3 (.t 60)) .no, .mk (some 10) none
  (.alloc 24 [.st (.str (ByteArray.mk (#[]))), .full []])
  .no, .mk none none (.store 2 (.t 10) (.t 64))
  .no, .mk (some 11) none (.mov (.t 65)) .no, .mk (some 12) none (.mov (.t 66)) .no, .mk (some 13) none (.mov (.t 67)) .no])
  (.seq
  (.seq
  (.ops
  [.mk (some 68) none (.mov (.t 13)) .no, .mk (some 69) none (.bin .neq (.t 68) (.c (.one (.st (.int .i64 0)))))
  .no])
  (.cond (.t 69)
  (.seq
  (.ops
  [.mk (some 4) none (.mov (.c (.one (.st (.bool false)))))
  .no])
  .ret)
  .skip))
  (.seq
  (.ops
  [.mk (some 71) none (.mov (.t 11)) .no, .mk (some 72) none (.load true 2 (.t 10)) .no, .mk (some 73) none (.call 22 [.t 71, .t 72])
  .no, .mk (some 70) none (.mov (.t 73)) .no, .mk (some 74) none (.extract 0 (.t 70)) .no, .mk (some 75) none (.extract 1 (.t 70)) .no, .mk (some 14) none
  (.alloc 24 [.st (.str (ByteArray.mk (#[]))), .full []])
  .no, .mk none none (.store 2 (.t 14) (.t 74))
  .no, .mk (some 13) none (.mov (.t 75)) .no])
  (.seq
  (.ops
  [.mk (some 77) none (.mov (.t 12)) .no, .mk (some 78) none (.load true 2 (.t 10)) .no, .mk (some 79) none (.call 22 [.t 77, .t 78])
  .no, .mk (some 76) none (.mov (.t 79)) .no, .mk (some 80) none (.extract 0 (.t 76)) .no, .mk (some 81) none (.extract 1 (.t 76)) .no, .mk (some 15) none
  (.alloc 24 [.st (.str (ByteArray.mk (#[]))), .full []])
  .no, .mk none none (.store 2 (.t 15) (.t 80))
  .no, .mk (some 16) none (.mov (.t 81)) .no])
  (.seq
  (.ops
  [.mk (some 83) none (.load true 2 (.t 5)) .no, .mk (some 84) none (.load true 2 (.t 10)) .no, .mk (some 85) none (.call 23 [.t 83, .t 84])
  .no, .mk (some 82) none (.mov (.t 85)) .no, .mk (some 86) none (.extract 0 (.t 82)) .no, .mk (some 87) none (.extract 1 (.t 82)) .no, .mk (some 88) none (.extract 2 (.t 82)) .no, .mk (some 17) none (.mov (.t 86)) .no, .mk (some 18) none (.mov (.t 87)) .no, .mk (some 19) none (.mov (.t 88)) .no])
  (.seq
  (.seq
  (.ops
  [.mk (some 89) none (.mov (.t 16)) .no, .mk (some 90) none (.bin .neq (.t 89) (.c (.one (.st (.int .i64 0)))))
  .no, .mk (some 91) none (.mov (.t 90)) .no, .mk (some 92) (some (91, false)) (.mov (.t 19))
  .no, .mk (some 93) (some (91, false)) (.bin .neq (.t 92) (.c (.one (.st (.int .i64 0)))))
  .no, .mk (some 94) none
  (.pick (.t 91) (.c (.one (.st (.bool true)))) (.t 93))
  .no, .mk (some 95) none (.mov (.t 94)) .no, .mk (some 96) (some (95, false)) (.mov (.t 13))
  .no, .mk (some 97) (some (95, false)) (.bin .neq (.t 96) (.c (.one (.st (.int .i64 0)))))
  .no, .mk (some 98) none
  (.pick (.t 95) (.c (.one (.st (.bool true)))) (.t 97))
  .no, .mk (some 99) none (.mov (.t 98)) .no, .mk (some 100) (some (99, false)) (.load true 2 (.t 14))
  .no, .mk (some 101) (some (99, false)) (.load true 2 (.t 6))
  .no, .mk (some 102) (some (99, false)) (.call 24 [.t 100, .t 101]) .no, .mk (some 103) (some (99, false)) (.un .not (.t 102))
  .no, .mk (some 104) none
  (.pick (.t 99) (.c (.one (.st (.bool true)))) (.t 103))
  .no, .mk (some 105) none (.mov (.t 104)) .no, .mk (some 106) (some (105, false)) (.load true 2 (.t 15))
  .no, .mk (some 107) (some (105, false)) (.load true 2 (.t 8))
  .no, .mk (some 108) (some (105, false)) (.call 24 [.t 106, .t 107]) .no, .mk (some 109) (some (105, false)) (.un .not (.t 108))
  .no, .mk (some 110) none
  (.pick (.t 105) (.c (.one (.st (.bool true)))) (.t 109))
  .no, .mk (some 111) none (.mov (.t 110)) .no, .mk (some 112) (some (111, false)) (.mov (.t 18))
  .no, .mk (some 113) (some (111, false)) (.un .not (.t 112))
  .no, .mk (some 114) none
  (.pick (.t 111) (.c (.one (.st (.bool true)))) (.t 113))
  .no])
  (.cond (.t 114)
  (.seq
  (.ops
  [.mk (some 115) none (.mov (.t 11)) .no, .mk (some 116) none (.len false (.t 115))
  .no, .mk (some 117) none (.bin .gtr (.t 116) (.c (.one (.st (.int .i64 40)))))
  .no, .mk (some 118) none (.mov (.t 117)) .no, .mk (some 119) (some (118, true)) (.load true 2 (.t 10))
  .no, .mk (some 120) (some (118, true)) (.load true 2 (.t 10))
  .no, .mk (some 121) (some (118, true)) (.call 24 [.t 119, .t 120]) .no, .mk (some 122) none
  (.pick (.t 118) (.t 121) (.c (.one (.st (.bool false)))))
  .no, .mk (some 123) none (.mov (.t 122)) .no, .mk (some 124) (some (123, true)) (.mov (.t 18))
  .no, .mk (some 125) none
  (.pick (.t 123) (.t 124) (.c (.one (.st (.bool false)))))
  .no, .mk (some 4) none (.mov (.t 125)) .no])
  .ret)
  .skip))
  (.seq
  (.ops
  [.mk (some 127) none (.load true 2 (.t 8))
  .no, .mk (some 128) none (.load true 2 (.t 6))
  .no, .mk (some 129) none (.call 23 [.t 127, .t 128])
  .no, .mk (some 126) none (.mov (.t 129)) .no, .mk (some 130) none (.extract 0 (.t 126)) .no, .mk (some 131) none (.extract 1 (.t 126)) .no, .mk (some 132) none (.extract 2 (.t 126)) .no, .mk (some 20) none (.mov (.t 130)) .no, .mk (some 21) none (.mov (.t 131)) .no, .mk (some 13) none (.mov (.t 132)) .no])
  (.seq
  (.ops
  [.mk (some 134) none (.load true 2 (.t 10))
  .no, .mk (some 135) none (.load true 2 (.t 8))
  .no, .mk (some 136) none (.call 25 [.t 134, .t 135])
  .no, .mk (some 133) none (.mov (.t 136)) .no, .mk (some 137) none (.extract 0 (.t 133)) .no, .mk (some 138) none (.extract 1 (.t 133)) .no, .mk (some 22) none (.mov (.t 137)) .no, .mk (some 16) none (.mov (.t 138)) .no])
  (.seq
  (.ops
  [.mk (some 139) none (.mov (.t 13)) .no, .mk (some 140) none (.bin .eql (.t 139) (.c (.one (.st (.int .i64 0)))))
  .no, .mk (some 141) none (.mov (.t 140)) .no, .mk (some 142) (some (141, true)) (.mov (.t 16))
  .no, .mk (some 143) (some (141, true)) (.bin .eql (.t 142) (.c (.one (.st (.int .i64 0)))))
  .no, .mk (some 144) none
  (.pick (.t 141) (.t 143) (.c (.one (.st (.bool false)))))
  .no, .mk (some 145) none (.mov (.t 144)) .no, .mk (some 146) (some (145, true)) (.mov (.t 21))
  .no, .mk (some 147) (some (145, true)) (.mov (.t 22))
  .no, .mk (some 148) (some (145, true))
  (.eqB false (.t 146) (.t 147)) .no, .mk (some 149) none
  (.pick (.t 145) (.t 148) (.c (.one (.st (.bool false)))))
  .no, .mk (some 4) none (.mov (.t 149)) .no])
  .ret)))))))))))))))
theorem tr_metaprunetop_TopPlotkin : trCode Tryd.prog 150 [] (Tryd.f5.body.getD .skip) = some ir_metaprunetop_TopPlotkin := by kernel_rfl
theorem ac_metaprunetop_TopPlotkin {xs : List AV} {r : AV} (hn : xs.length ≤ 150) (h : ∀ C : Ctx, C.n = 150 → IWP Tryd.prog C [] ir_metaprunetop_TopPlotkin (FinQ [.t 4] r) (AS.start xs)) : ACalls Tryd.prog 5 xs r :=
  acalls_of Tryd.func5 rfl tr_metaprunetop_TopPlotkin rfl hn h
theorem acS_metaprunetop_TopPlotkin {xs : List AV} {S S' : AStore} {r : AV} (hn : xs.length ≤ 150) (h : Clean S → ∀ C : Ctx, C.n = 150 → IWP Tryd.prog C [] ir_metaprunetop_TopPlotkin (FinS C [.t 4] r S') (AS.startS xs S)) : ACallsS Tryd.prog 5 xs S r S' :=
  acallsS_of Tryd.func5 rfl tr_metaprunetop_TopPlotkin rfl hn h

end Go.Proofs.YtdmgelbbjppgkaaDoor

namespace Go.Proofs.YtdmgelbbjppgkaaDoor
open Go Go.RowKit
set_option linter.unusedVariables false
set_option linter.unusedSimpArgs false
set_option maxHeartbeats 800000

theorem generalMade_a (l : List Int) (m1 : Int) (hl : ∀ n ∈ l, inR .i64 n) (hm : l.length ≤ maxLen) (h1 : inR .i64 m1) : ACalls Tryd.prog 4 [aInts l, aInt m1] (aBool true) := by
  have r1 := pickI_range m1 14 (by omega)
  have p1 := pick_a m1 14 h1 (by omega)
  obtain ⟨k1, e1⟩ : ∃ k : Nat, pickI m1 14 = k := ⟨(pickI m1 14).toNat, by omega⟩
  rw [e1] at p1 r1
  obtain ⟨t, ht, zt, _⟩ := termOf_a l hl hm 3 (by omega) k1 0 (by omega) (by omega)
  obtain ⟨s, hs, _, _, zs⟩ := bindsFrom_a l hl hm 3 (by omega) 30 5 (by omega) (by omega)
  obtain ⟨r, hr, _, _, zr⟩ := bindsFrom_a l hl hm 3 (by omega) 70 5 (by omega) (by omega)
  have hz := size_sub (M := 9) (by omega) (fun b hb => by have := zs b hb; omega) t
  have hz' := size_sub (M := 9) (by omega) (fun b hb => by have := zr b hb; omega) t
  have ho := onRef_a s t (by omega)
  have ho' := onRef_a r t (by omega)
  rw [show onTo s t = (t.on s, true) by unfold onTo; rw [if_pos (by omega)]] at ho
  rw [show onTo r t = (t.on r, true) by unfold onTo; rw [if_pos (by omega)]] at ho'
  refine ac_L_GeneralMade (Nat.le_of_ble_eq_true rfl) fun C hC => ?_
  unfold ir_L_GeneralMade
  by_cases h256 : (256 : Int) < l.length
  · repeat' (first | (with_reducible first | refine Wa ?_ | refine Wb ?_ | refine Wc ?_ | refine Wd ?_ | refine We ?_ | refine Wf ?_ | refine Wg ?_ | refine Wh ?_ | refine Wi ?_ | refine Wj ?_ | refine Wk (by decide) ?_ | refine Wl ?_ | refine Wm ?_ | refine Wn ?_) | ((with_reducible first | refine Wo (fun K hK => ?_) | refine Wp ?_ | refine Wq ?_ | refine Wr ?_); (try simp only [go_sem, List.forall_mem_nil, ↓guard_ite, ↓pick_ite, seval, encT_eq, inR_i64, h256, decide_eq_true_eq, decide_eq_false_iff_not, Int.ofNat_lt]); (repeat with_reducible refine And.intro (by first | omega | (with_reducible first | exact lens_encT | exact lens_encL | exact lens_encB | exact lens_encP) | (simp; done) | (simp only [List.length_take, List.length_map, List.length_append, maxLen_eq]; omega)) ?_); (try (with_reducible refine hK _ ?_; clear hK K)); (try with_reducible refine ite_conj ?_)))
    simp only [go_sem, List.forall_mem_nil, ↓guard_ite, ↓pick_ite, seval, FinQ, AS.result, resAll, resOne, tupV]
  · repeat' (first | (with_reducible first | refine Wa ?_ | refine Wb ?_ | refine Wc ?_ | refine Wd ?_ | refine We ?_ | refine Wf ?_ | refine Wg ?_ | refine Wh ?_ | refine Wi ?_ | refine Wj ?_ | refine Wk (by decide) ?_ | refine Wl ?_ | refine Wm ?_ | refine Wn ?_) | refine CallG.mk _ (p1) ?_ | refine CallG.mk _ (ht) ?_ | refine CallG.mk _ (hs) ?_ | refine CallG.mk _ (ho) ?_ | refine CallG.mk _ (hr) ?_ | refine CallG.mk _ (ho') ?_ | refine CallG.mk _ (generalSays_a (t.on s) (t.on r)) ?_ | ((with_reducible first | refine Wo (fun K hK => ?_) | refine Wp ?_ | refine Wq ?_ | refine Wr ?_); (try simp only [go_sem, List.forall_mem_nil, ↓guard_ite, ↓pick_ite, seval, encT_eq, inR_i64, h256, decide_eq_true_eq, decide_eq_false_iff_not, Int.ofNat_lt]); (repeat with_reducible refine And.intro (by first | omega | (with_reducible first | exact lens_encT | exact lens_encL | exact lens_encB | exact lens_encP) | (simp; done) | (simp only [List.length_take, List.length_map, List.length_append, maxLen_eq]; omega)) ?_); (try (with_reducible refine hK _ ?_; clear hK K)); (try with_reducible refine ite_conj ?_)))
    simp only [go_sem, List.forall_mem_nil, ↓guard_ite, ↓pick_ite, seval, FinQ, AS.result, resAll, resOne, tupV]
end Go.Proofs.YtdmgelbbjppgkaaDoor

namespace Go.Proofs.YtdmgelbbjppgkaaDoor
open Go Go.RowKit Go.ChangeShapes Go.WideShapes Go.ChangeAt
set_option maxHeartbeats 400000
set_option linter.unusedVariables false

/-! ### the row's post -/
section
variable {H : Type} {enc : TypeId × Value → H} {P : Program}
theorem trodAll_stays (hl : laidOutB P = true) : ∀ {ts : List TypeId} {vs : List Value} {ds : List (DataW H)} {ps : List MemPlace} {W W' : World} {sp : Nat → Bool},
    (∀ t ∈ ts, P.readableRec t = true ∧ t < P.types.size) → DataW.TrodAll enc P W 0 (fun _ => true) true ts vs ds ps → (∀ p ∈ ps, W.sameAt W' p) → (∀ p ∈ ps, sp p.block = true) → DataW.TrodAll enc P W' 0 sp true ts vs ds ps
  | [], [], [], _, _, _, _, _, h, _, _ => h
  | _ :: _, _ :: _, _ :: _, _, _, _, _, hT, ⟨p, q, h1, h2, e⟩, hsame, hs => ⟨p, q, WideElems.Trod_stays hl (hT _ (List.mem_cons.2 (Or.inl rfl))).1 (hT _ (List.mem_cons.2 (Or.inl rfl))).2 h1 (fun x hx => hsame x (by rw [e]; exact List.mem_append_left _ hx)) (fun x hx => hs x (by rw [e]; exact List.mem_append_left _ hx)),
      trodAll_stays hl (fun t ht => hT t (List.mem_cons.2 (Or.inr ht))) h2 (fun x hx => hsame x (by rw [e]; exact List.mem_append_right _ hx)) (fun x hx => hs x (by rw [e]; exact List.mem_append_right _ hx)), e⟩
  | [], _ :: _, _, _, _, _, _, _, h, _, _ => h.elim
  | [], [], _ :: _, _, _, _, _, _, h, _, _ => h.elim
  | _ :: _, [], _, _, _, _, _, _, h, _, _ => h.elim
  | _ :: _, _ :: _, [], _, _, _, _, _, h, _, _ => h.elim

/-- A law that answers true, and below whose start nothing has turned. -/
theorem law_post {f : Func} {s : ChangeSpec} {apart fresh handsOn : Bool} {W W' : World} {args : Array Value} {ds : List (DataW H)} {before : List MemPlace} {tb : TypeId}
    (hW : DataW.Whole enc P f.params.toList s.vars apart W args.toList ds [] before) (hv : s.vars = []) (hr : f.resultTypes = #[tb]) (htb : P.underlying tb = some .bool)
    (hres : (s.fn H (ds ++ [])).results = [.lit (.bool true)]) (hargs : (s.fn H (ds ++ [])).args = ds) (hvs : (s.fn H (ds ++ [])).vars = [])
    (hl : laidOutB P = true) (hT : (f.params.toList.all fun t => P.readableRec t && decide (t < P.types.size)) = true) (hb : Below W.heap.size W W') :
    s.post enc P f apart fresh handsOn false W args (.bool true) W' := by
  have hlt : ∀ p ∈ before, p.block < W.heap.size := fun p hp => hW.lt p hp
  have hT' : ∀ t ∈ f.params.toList, P.readableRec t = true ∧ t < P.types.size := fun t ht => by
    have := List.all_eq_true.1 hT t ht
    simpa using this
  obtain ⟨p, q, hA, hV, rfl, hz, hn⟩ := hW
  rw [hv] at hV
  obtain ⟨_, rfl⟩ := trodVars_none hV
  have hargs' : ∀ sp : Nat → Bool, (∀ x ∈ p, sp x.block = true) → DataW.TrodAll enc P W' 0 sp true f.params.toList args.toList ds p := fun sp hsp =>
    trodAll_stays hl hT' hA (fun x hx => hb.same (hlt x (by simpa using hx))) hsp
  have hres' : ∀ (b : Nat) (sp : Nat → Bool) (hd : Bool), DataW.TrodAll enc P W' b sp hd f.resultTypes.toList ((Value.bool true).resultList f.resultTypes.size) (s.fn H (ds ++ [])).results [] := fun b sp hd => by
    rw [hres, hr]
    exact trodAll_cons_mk (shut_bool htb true) trodAll_mk0
  refine ⟨ds, [], p ++ [], [], p, [], ⟨p, [], hA, by rw [hv]; exact rfl, rfl, hz, hn⟩, hres' _ _ _, by rw [hargs]; exact hargs' _ (fun x hx => by simpa using hlt x (by simpa using hx)), by rw [hv, hvs]; exact rfl,
    World.keptBut_mono (fun x hx => ⟨hx, Or.inr (by simpa using hx)⟩) (hb.frame (· ∈ p ++ [])), fun h => by cases h⟩

/-! ### opening what comes in: the store is all of memory -/
variable {W : World} {sp : Nat → Bool} {hd : Bool} {base : Nat}
def sto (W : World) : Sto := look W
theorem fit_sto (W : World) : Fit (sto W) W := fun _ _ h => h

theorem spot_none {W : World} {a : Addr} {v : Value} (h : W.cell? a = some v) : a.spot = none := by
  cases hs : a.spot with
  | none => rfl
  | some n =>
    unfold World.cell? at h
    split at h
    · simp [hs] at h
    · cases h
theorem choose_list {α : Type} {p : Nat → α → Prop} {n : Nat} (h : ∀ i, i < n → ∃ b, p i b) : ∃ xs : List α, xs.length = n ∧ ∀ i (h : i < xs.length), p i xs[i] := by
  induction n with
  | zero => exact ⟨[], rfl, fun i h => absurd h (by simp)⟩
  | succ m ih =>
    obtain ⟨xs, h1, h2⟩ := ih (fun i hi => h i (by omega))
    obtain ⟨b, h3⟩ := h m (by omega)
    refine ⟨xs ++ [b], by simp [h1], fun i hi => ?_⟩
    by_cases him : i < xs.length
    · rw [List.getElem_append_left him]
      exact h2 i him
    · have : i = xs.length := by simp at hi; omega
      subst this
      rw [show (xs ++ [b])[xs.length]'hi = b by simp, h1]
      exact h3
/-- A struct of two fields. -/
theorem trod_two {t : TypeId} {f0 f1 : Field} {k0 k1 : Nat} {fuel : Nat} {cs : List Value} {x : DataW H × List MemPlace} (hs : P.underlying t = some (.struct #[f0, f1])) (o0 : f0.offset = 0) (o1 : f1.offset = k0)
    (h0 : P.cellsOf f0.type = k0) (h1 : P.cellsOf f1.type = k1) (hC : P.cellsOf t = k0 + k1) (h : DataW.trod enc P W base sp hd fuel t cs = some x) :
    ∃ (a b : List Value) (y0 y1 : DataW H × List MemPlace) (n : Nat), fuel = n + 1 ∧ cs = a ++ b ∧ DataW.trod enc P W base sp hd n f0.type a = some y0 ∧ DataW.trod enc P W base sp hd n f1.type b = some y1 := by
  obtain ⟨ys, n, hn, _, hlen, hyl, hf⟩ := DataW.trod_struct hs h
  match ys, hyl with
  | [y0, y1], _ =>
  have g0 := hf 0 f0 rfl
  have g1 := hf 1 f1 rfl
  rw [o0, h0, List.drop_zero] at g0
  rw [o1, h1, List.take_of_length_le (by rw [List.length_drop]; omega)] at g1
  exact ⟨_, _, y0, y1, n, hn, (List.take_append_drop k0 cs).symm, g0, g1⟩
/-- A struct of three fields. -/
theorem trod_three {t : TypeId} {f0 f1 f2 : Field} {k0 k1 k2 : Nat} {fuel : Nat} {cs : List Value} {x : DataW H × List MemPlace} (hs : P.underlying t = some (.struct #[f0, f1, f2])) (o0 : f0.offset = 0) (o1 : f1.offset = k0) (o2 : f2.offset = k0 + k1)
    (h0 : P.cellsOf f0.type = k0) (h1 : P.cellsOf f1.type = k1) (h2 : P.cellsOf f2.type = k2) (hC : P.cellsOf t = k0 + k1 + k2) (h : DataW.trod enc P W base sp hd fuel t cs = some x) :
    ∃ (a b c : List Value) (y0 y1 y2 : DataW H × List MemPlace) (n : Nat), fuel = n + 1 ∧ cs = a ++ (b ++ c) ∧ DataW.trod enc P W base sp hd n f0.type a = some y0 ∧ DataW.trod enc P W base sp hd n f1.type b = some y1 ∧ DataW.trod enc P W base sp hd n f2.type c = some y2 := by
  obtain ⟨ys, n, hn, _, hlen, hyl, hf⟩ := DataW.trod_struct hs h
  match ys, hyl with
  | [y0, y1, y2], _ =>
  have g0 := hf 0 f0 rfl
  have g1 := hf 1 f1 rfl
  have g2 := hf 2 f2 rfl
  rw [o0, h0, List.drop_zero] at g0
  rw [o1, h1] at g1
  rw [o2, h2, List.take_of_length_le (by rw [List.length_drop]; omega), ← List.drop_drop] at g2
  exact ⟨_, _, _, y0, y1, y2, n, hn, by rw [List.take_append_drop, List.take_append_drop], g0, g1, g2⟩
/-- A slice, its elements opened by f. -/
theorem list_of_trod {α : Type} {e0 : α → List SV} {t e : TypeId} {k : Nat} {fuel : Nat} {cs : List Value} {x : DataW H × List MemPlace} (ht : P.underlying t = some (.slice e)) (hc : P.cellsOf e = k) (hlen : ∀ a, (e0 a).length = k) (hk : 0 < k)
    (f : ∀ (n : Nat) (cs : List Value) (y : DataW H × List MemPlace), n < fuel → DataW.trod enc P W base sp hd n e cs = some y → ∃ a : α, All2 (SRep (sto W)) cs (e0 a))
    (h : DataW.trod enc P W base sp hd fuel t cs = some x) : ∃ xs : List α, All2 (SRep (sto W)) cs [.list (xs.map e0)] := by
  rcases DataW.trod_slice ht h with ⟨rfl, _⟩ | ⟨a, len, cap, elems, rest, n, hfu, rfl, _, hb, hl, hm, hlen', hel, _, _⟩
  · exact ⟨[], .cons srep_nil .nil⟩
  · have key : ∀ i, i < len → ∃ (b : α), ∃ (cs' : List Value), cs'.length = k ∧ (∀ j u, cs'[j]? = some u → W.cell? ((a.add (i * k)).add j) = some u) ∧ All2 (SRep (sto W)) cs' (e0 b) := fun i hi => by
      have h1 := hel i hi
      rw [List.getElem?_eq_getElem (by omega)] at h1
      obtain ⟨cs', h2, h3⟩ := Option.bind_eq_some_iff.1 h1
      obtain ⟨_, h4, h5⟩ := World.cells?_some h2
      obtain ⟨b, hb⟩ := f n cs' _ (by omega) h3
      rw [hc] at h4 h5
      refine ⟨b, cs', h4, fun j u hj => ?_, hb⟩
      rw [h5 j (by have := (List.getElem?_eq_some_iff.1 hj).1; omega)]
      exact hj
    obtain ⟨xs, hxl, hxs⟩ : ∃ xs : List α, xs.length = len ∧ ∀ i (h : i < xs.length), ∃ cs' : List Value, cs'.length = k ∧ (∀ j u, cs'[j]? = some u → W.cell? ((a.add (i * k)).add j) = some u) ∧ All2 (SRep (sto W)) cs' (e0 xs[i]) := choose_list key
    have cell : ∀ m y j z, (xs.map e0)[m]? = some y → y[j]? = some z → ∃ v, W.cell? ⟨a.block, a.off + m * k + j, none⟩ = some v ∧ SRep (sto W) v z := fun m y j z hy hz => by
      rw [List.getElem?_map, Option.map_eq_some_iff] at hy
      obtain ⟨b, hb', rfl⟩ := hy
      obtain ⟨hm', hbe⟩ := List.getElem?_eq_some_iff.1 hb'
      obtain ⟨cs', c1, c2, c3⟩ := hxs m hm'
      rw [hbe] at c3
      obtain ⟨v, v1, v2⟩ := c3.get hz
      refine ⟨v, ?_, v2⟩
      have := c2 j v v1
      have hsp := spot_none this
      rw [← this]
      congr 1
      have h7 : ((a.add (m * k)).add j).block = a.block ∧ ((a.add (m * k)).add j).off = a.off + m * k + j := by
        unfold Addr.add
        split <;> split <;> simp_all
      generalize (a.add (m * k)).add j = q at *
      cases q
      simp_all
    refine ⟨xs, .cons (.list (b := a.block) (o := a.off) (w := k) (fun m j => (W.cell? ⟨a.block, a.off + m * k + j, none⟩).getD undef) (by simp [hxl]) hl hm (by simp) (fun h0 => ?_) (fun y hy => ?_) (fun m y j z hy hz => ?_) (fun m y j z hy hz => ?_)) .nil⟩
    · obtain ⟨cs', h1, h2, h3⟩ := hxs 0 (by omega)
      have h4 : W.cell? a = some (cs'[0]'(by omega)) := by
        have := h2 0 _ (List.getElem?_eq_getElem (by omega))
        simpa [Addr.add] using this
      have := spot_none h4
      cases a
      simp_all
    · obtain ⟨b, _, rfl⟩ := List.mem_map.1 hy
      exact hlen b
    · obtain ⟨v, v1, v2⟩ := cell m y j z hy hz
      show W.cell? _ = _
      rw [v1]; rfl
    · obtain ⟨v, v1, v2⟩ := cell m y j z hy hz
      rw [v1]; exact v2
theorem int_trod {t : TypeId} (ht : P.underlying t = some (.int .i64)) (fuel : Nat) (cs : List Value) (x : DataW H × List MemPlace) (h : DataW.trod enc P W base sp hd fuel t cs = some x) : ∃ n : Int, All2 (SRep (sto W)) cs (encI n) := by
  obtain ⟨n, rfl, _, hn⟩ := DataW.trod_int ht h
  exact ⟨n, .cons (.int (by rw [inR_i64]; simpa [Lit.wf, IntKind.min, IntKind.max, IntKind.signed, IntKind.bits] using hn)) .nil⟩
theorem str_trod {t : TypeId} (ht : P.underlying t = some .string) (fuel : Nat) (cs : List Value) (x : DataW H × List MemPlace) (h : DataW.trod enc P W base sp hd fuel t cs = some x) : ∃ s : ByteArray, All2 (SRep (sto W)) cs (encS s) := by
  obtain ⟨s, rfl, _, hs⟩ := DataW.trod_string ht h
  exact ⟨s, .cons (.str hs) .nil⟩

/-! ### arguments -/
theorem arg_int {t : TypeId} (ht : P.underlying t = some (.int .i64)) {r : Reach} {b0 : Nat} {v : Value} {d : DataW H} {p : List MemPlace} (hv : Value.okWide P W r b0 t v) (h : DataW.Trod enc P W base sp hd t v d p) : ∃ n : Int, VRep (sto W) noS noH v (aInt n) := by
  obtain ⟨n, rfl⟩ := okWide_int ht hv
  obtain ⟨fuel, hf⟩ := h
  obtain ⟨m, hm⟩ := int_trod ht fuel _ _ hf
  have : All2 (SRep (sto W)) [.int .i64 n] (encI m) := hm
  cases this with
  | cons h1 h2 => exact ⟨m, .one (.st h1)⟩
theorem arg_str {t : TypeId} (ht : P.underlying t = some .string) {r : Reach} {b0 : Nat} {v : Value} {d : DataW H} {p : List MemPlace} (hv : Value.okWide P W r b0 t v) (h : DataW.Trod enc P W base sp hd t v d p) : ∃ s : ByteArray, VRep (sto W) noS noH v (aStr s) := by
  obtain ⟨s, rfl⟩ := okWide_string ht hv
  obtain ⟨fuel, hf⟩ := h
  obtain ⟨s', hs⟩ := str_trod ht fuel _ _ hf
  have : All2 (SRep (sto W)) [.string s] (encS s') := hs
  cases this with
  | cons h1 h2 => exact ⟨s', .one (.st h1)⟩
/-- An argument that is a slice. -/
theorem arg_list {α : Type} {e0 : α → List SV} {t e : TypeId} {k : Nat} (ht : P.underlying t = some (.slice e)) (hc : P.cellsOf e = k) (hlen : ∀ a, (e0 a).length = k) (hk : 0 < k) {r : Reach} {b0 : Nat} {v : Value} {d : DataW H} {p : List MemPlace} (hv : Value.okWide P W r b0 t v)
    (f : ∀ (n : Nat) (cs : List Value) (y : DataW H × List MemPlace), DataW.trod enc P W base sp hd n e cs = some y → ∃ a : α, All2 (SRep (sto W)) cs (e0 a)) (h : DataW.Trod enc P W base sp hd t v d p) : ∃ xs : List α, VRep (sto W) noS noH v (.one (.st (.list (xs.map e0)))) := by
  obtain ⟨a, len, cap, rfl⟩ := okWide_slice ht hv
  obtain ⟨fuel, hf⟩ := h
  obtain ⟨xs, hxs⟩ := list_of_trod ht hc hlen hk (fun n cs y _ hy => f n cs y hy) hf
  have : All2 (SRep (sto W)) [.slice a len cap] [.list (xs.map e0)] := hxs
  cases this with
  | cons h1 h2 => exact ⟨xs, .one (.st h1)⟩
/-- An argument that is a struct. -/
theorem arg_struct {α : Type} {e0 : α → List SV} {t : TypeId} {fs : Array Field} (ht : P.underlying t = some (.struct fs)) {r : Reach} {b0 : Nat} {v : Value} {d : DataW H} {p : List MemPlace} (hv : Value.okWide P W r b0 t v)
    (f : ∀ (n : Nat) (cs : List Value) (y : DataW H × List MemPlace), DataW.trod enc P W base sp hd n t cs = some y → ∃ a : α, All2 (SRep (sto W)) cs (e0 a)) (h : DataW.Trod enc P W base sp hd t v d p) : ∃ a : α, VRep (sto W) noS noH v (.agg ((e0 a).map .st)) := by
  obtain ⟨cs, rfl, hsz⟩ := okWide_struct ht hv
  obtain ⟨fuel, hf⟩ := h
  obtain ⟨a, ha⟩ := f fuel _ _ hf
  exact ⟨a, .agg ((All2.mono (fun _ _ h => .st h) ha).map_right)⟩
end
theorem globIn_nil {σ : Sto} (h : globs = [] := by rfl) : GlobIn σ := fun x hx => by simp [h] at hx
theorem acalls_true {P : Program} {f : FuncId} {xs : List AV} {b : Bool} (h : ACalls P f xs (aBool b)) {σ : Sto} {w : World} {vs : List Value} (hg : GlobIn σ) (hf : Fit σ w) (hv : All2 (VRep σ noS noH) vs xs) :
    Calls P f vs.toArray w fun e w' => e = .returned (.bool b) ∧ Below w.heap.size w w' := (h σ w vs hg hf hv).mono fun e w' ⟨v, σ', he, hv, _, _, hb⟩ => by
  rw [vrep_bool hv] at he
  exact ⟨he, hb⟩
end Go.Proofs.YtdmgelbbjppgkaaDoor

namespace Go.Proofs.YtdmgelbbjppgkaaDoor
open Go Go.RowKit Go.ChangeShapes Go.WideShapes Go.ChangeAt
set_option maxHeartbeats 400000
set_option linter.unusedVariables false

/-- What one package-level variable of those that are laid reads as. -/
theorem laid_at {P : Program} {W : World} {x : String × DataW Unit} : ∀ {l : List (String × DataW Unit)} {ps : List MemPlace}, DataW.LaidVars P W l ps → x ∈ l → ∃ q, DataW.LaidVars P W [x] q
  | [], _, _, hx => by simp at hx
  | y :: l, ps, h, hx => by
    obtain ⟨n, d⟩ := y
    obtain ⟨g, t, cs, fuel, p, q, a1, a2, a3, a4, a5, a6⟩ := h
    rcases List.mem_cons.1 hx with rfl | hx
    · exact ⟨_, g, t, cs, fuel, p, [], a1, a2, a3, a4, rfl, rfl⟩
    · exact laid_at a5 hx
theorem size_sto {P : Program} {W : World} {n : String} {g : Nat} {cs : Array Value} (hg : P.globalNamed n = some g) (h : W.var? P n = some cs) : sto W ⟨g, cs.size, some 0⟩ = some .nilFunc := by
  unfold World.var? at h
  rw [hg] at h
  simp only [Option.bind_some] at h
  show look W _ = _
  unfold look
  simp only
  cases hb : W.heap[g]? with
  | none => rw [hb] at h; cases h
  | some o =>
    rw [hb] at h
    cases o <;> simp_all
theorem glob_tab {P : Program} {W : World} {name : String} {g : Nat} {t e : TypeId} {n : Nat} {k : IntKind} {zs : List Int} (hg : P.globalNamed name = some g) (hty : (P.globals[g]?).map (·.type) = some t) (ht : P.underlying t = some (.array n e)) (he : P.underlying e = some (.int k))
    (hce : P.cellsOf e = 1) (hct : P.cellsOf t = n) (hin : ∀ z ∈ zs, inR k z) {ps : List MemPlace} (h : DataW.LaidVars P W [(name, Lib.tabData k zs)] ps) : GlobAt (sto W) (g, zs.map fun z => .int k z) := by
  obtain ⟨g0, t0, cs0, f0, p0, q0, hg0, ht0, hv0, hd0, _, _⟩ := h
  obtain rfl := Option.some.inj (hg.symm.trans hg0)
  obtain rfl := Option.some.inj (hty.symm.trans ht0)
  have hc := Lib.cells_of_tab ht he hce hct hd0
  have hs : cs0.size = zs.length := by
    have := congrArg List.length hc
    simpa using this
  refine ⟨⟨fun j => (zs[j]?).elim .nilFunc (.int k), fun j a ha => ?_, fun j a ha => ?_⟩, ?_⟩
  · rw [List.getElem?_map, Option.map_eq_some_iff] at ha
    obtain ⟨z, hz, rfl⟩ := ha
    have h1 := World.var?_cell hg0 hv0 j
    have h2 : cs0[j]? = some (.int k z) := by
      have h3 := congrArg (fun l : List Value => l[j]?) hc
      simpa [hz] using h3
    show look W _ = _
    rw [look_none rfl, Nat.zero_add, h1, h2]
    simp only [hz, Option.elim]
  · rw [List.getElem?_map, Option.map_eq_some_iff] at ha
    obtain ⟨z, hz, rfl⟩ := ha
    simp only [hz, Option.elim]
    exact .int (hin z (List.mem_of_getElem? hz))
  · have := size_sto hg0 hv0
    rw [hs] at this
    simpa using this
theorem glob_err {P : Program} {W : World} {name nm : String} {d : DataW Unit} {g : Nat} {t : TypeId} {ms : Array (String × TypeId)} (hg : P.globalNamed name = some g) (hty : (P.globals[g]?).map (·.type) = some t) (ht : P.underlying t = some (.interface ms))
    {ps : List MemPlace} (h : DataW.LaidVars P W [(name, .iface nm d)] ps) : GlobAt (sto W) (g, [.err]) := by
  obtain ⟨g0, t0, cs0, f0, p0, q0, hg0, ht0, hv0, hd0, _, _⟩ := h
  obtain rfl := Option.some.inj (hg.symm.trans hg0)
  obtain rfl := Option.some.inj (hty.symm.trans ht0)
  obtain ⟨f1, u, v, hc, _, _⟩ := iface_of_trod ht hd0
  have hs : cs0.size = 1 := by
    have := congrArg List.length hc
    simpa using this
  refine ⟨⟨fun j => .iface u v, fun j a ha => ?_, fun j a ha => ?_⟩, ?_⟩
  · match j, ha with
    | 0, _ =>
      have h1 := World.var?_cell hg0 hv0 0
      have h2 : cs0[0]? = some (.iface u v) := by
        have h3 := congrArg (fun l : List Value => l[0]?) hc
        simpa using h3
      show look W _ = _
      rw [look_none rfl, Nat.zero_add, h1, h2]
    | j + 1, ha => simp at ha
  · match j, ha with
    | 0, ha =>
      cases ha
      exact .err
    | j + 1, ha => simp at ha
  · have := size_sto hg0 hv0
    rw [hs] at this
    simpa using this
theorem in_i64 {zs : List Int} (h : zs.all (fun z => decide (-9223372036854775808 ≤ z) && decide (z ≤ 9223372036854775807)) = true) : ∀ z ∈ zs, inR .i64 z := fun z hz => by
  have := List.all_eq_true.1 h z hz
  rw [inR_i64]
  simpa using this
theorem in_u64 {zs : List Int} (h : zs.all (fun z => decide (0 ≤ z) && decide (z ≤ 18446744073709551615)) = true) : ∀ z ∈ zs, inR .u64 z := fun z hz => by
  have := List.all_eq_true.1 h z hz
  simp only [Bool.and_eq_true, decide_eq_true_eq] at this
  simp [inR, IntKind.min, IntKind.max, IntKind.signed, IntKind.bits]
  omega
theorem glob_pow {W : World} {ps : List MemPlace} (h : DataW.LaidVars Tryd.prog W [("internal/strconv.uint64pow10", Rows.laid_internal_strconv_uint64pow10)] ps) : GlobAt (sto W) (0, pow10s) := glob_tab (k := .u64) (zs := Lib.pow10Tab) (by kernel_rfl) (by kernel_rfl) Tryd.underlying125 Tryd.underlying110 (by kernel_rfl) (by kernel_rfl) (in_u64 (by decide)) h
theorem laid_tail {P : Program} {W : World} {x : String × DataW Unit} {l : List (String × DataW Unit)} {ps : List MemPlace} (h : DataW.LaidVars P W (x :: l) ps) : ∃ q, DataW.LaidVars P W l q := by
  obtain ⟨_, _, _, _, _, q, _, _, _, _, h, _⟩ := h
  exact ⟨q, h⟩

end Go.Proofs.YtdmgelbbjppgkaaDoor

namespace Go.Proofs.YtdmgelbbjppgkaaDoor
open Go Go.RowKit Go.ChangeShapes Go.WideShapes Go.ChangeAt
set_option linter.unusedVariables false

theorem globIn_pow {W : World} {l : List (String × DataW Unit)} (hp : (l.all fun x => true) = true) (hin : ("internal/strconv.uint64pow10", Rows.laid_internal_strconv_uint64pow10) ∈ l) {ps : List MemPlace} (h : DataW.LaidVars Tryd.prog W l ps) : GlobIn (sto W) := by
  obtain ⟨_, h1⟩ := laid_at (x := ("internal/strconv.uint64pow10", Rows.laid_internal_strconv_uint64pow10)) h hin
  intro y hy
  simp only [globs, List.mem_cons, List.not_mem_nil, or_false] at hy
  subst hy
  exact glob_pow h1
end Go.Proofs.YtdmgelbbjppgkaaDoor

namespace Go.Proofs.YtdmgelbbjppgkaaDoor
open Go Go.RowKit Go.ChangeShapes Go.WideShapes Go.ChangeAt
set_option maxHeartbeats 400000
set_option linter.unusedVariables false

section
variable {H : Type} {enc : TypeId × Value → H} {W : World} {sp : Nat → Bool} {hd : Bool} {base : Nat}
set_option maxRecDepth 100000 in
theorem tm_trod : ∀ (fuel : Nat) (cs : List Value) (x : DataW H × List MemPlace), DataW.trod enc Tryd.prog W base sp hd fuel 24 cs = some x → ∃ t : Tm, All2 (SRep (sto W)) cs (encT t) := by
  intro fuel
  induction fuel using Nat.strongRecOn with
  | _ fuel ih =>
  intro cs x h
  obtain ⟨a, b, y0, y1, n, hn, rfl, h0, h1⟩ := trod_two Tryd.underlying24 rfl rfl (show Tryd.prog.cellsOf 9 = 1 by kernel_rfl) (show Tryd.prog.cellsOf 22 = 1 by kernel_rfl) (show Tryd.prog.cellsOf 24 = 2 by kernel_rfl) h
  obtain ⟨s, hs⟩ := str_trod Tryd.underlying9 _ _ _ h0
  obtain ⟨xs, hxs⟩ := list_of_trod (e0 := encT) Tryd.underlying22 (show Tryd.prog.cellsOf 24 = 2 by kernel_rfl) (fun a => by rw [encT_eq]; rfl) (by decide) (fun m cs y hm hy => ih m (by omega) cs y hy) h1
  exact ⟨.mk s xs, by rw [encT_eq]; exact hs.append hxs⟩
set_option maxRecDepth 100000 in
/-- An argument that is a term. -/
theorem arg_tm {r : Reach} {b0 : Nat} {v : Value} {d : DataW H} {p : List MemPlace} (hv : Value.okWide Tryd.prog W r b0 24 v) (h : DataW.Trod enc Tryd.prog W base sp hd 24 v d p) : ∃ t : Tm, VRep (sto W) noS noH v (aTm t) := by
  obtain ⟨t, ht⟩ := arg_struct Tryd.underlying24 hv tm_trod h
  exact ⟨t, by rw [encT_eq] at ht; exact ht⟩
set_option maxRecDepth 100000 in
/-- An argument that is a slice of ints. -/
theorem arg_ints {r : Reach} {b0 : Nat} {v : Value} {d : DataW H} {p : List MemPlace} (hv : Value.okWide Tryd.prog W r b0 47 v) (h : DataW.Trod enc Tryd.prog W base sp hd 47 v d p) : ∃ l : List Int, VRep (sto W) noS noH v (aInts l) :=
  arg_list (k := 1) Tryd.underlying47 (by kernel_rfl) (fun _ => rfl) (by decide) hv (int_trod Tryd.underlying3) h
end
end Go.Proofs.YtdmgelbbjppgkaaDoor

namespace Go.Proofs.YtdmgelbbjppgkaaDoor.generalMade
open Go Go.RowKit Go.ChangeShapes Go.WideShapes Go.ChangeAt
set_option linter.unusedVariables false

theorem globInG {W : World} (h : laidMetH Tryd.prog Rows.generalMadeRow.laid W) : GlobIn (sto W) := by
  rw [MakeChecks.laidMetH_plain _ _ _ (by kernel_rfl)] at h
  obtain ⟨ps, h, _, _⟩ := h
  exact globIn_pow (by kernel_rfl) (by simp [Rows.generalMadeRow]) h

theorem own : ownKnob Tryd.prog.godebug = none := by kernel_rfl
theorem laid : laidOutB Tryd.prog = true := by kernel_rfl

set_option maxRecDepth 100000 in
/-- What the walk gives. -/
theorem contract (H : Type) (enc : TypeId × Value → H) (W : World) (base : Nat) (args : Array Value) (ds gs : List (DataW H)) (before : List MemPlace) (hL : laidMetH Tryd.prog Rows.generalMadeRow.laid W)
    (hval : ∀ (j : Nat) t v, Tryd.f4.params[j]? = some t → args[j]? = some v → Value.okWide Tryd.prog W .any base t v)
    (hW : DataW.Whole enc Tryd.prog Tryd.f4.params.toList Rows.generalMadeSpec.vars false W args.toList ds gs before) :
    Calls Tryd.prog 4 args W fun e W' => ∃ v, e = .returned v ∧ Rows.generalMadeSpec.post enc Tryd.prog Tryd.f4 false true false false W args v W' := by
  have hG := globInG hL
  obtain ⟨p, q, hA0, hV, rfl, hfz, hnd⟩ := id hW
  obtain ⟨rfl, rfl⟩ := trodVars_none hV
  have hA : DataW.TrodAll enc Tryd.prog W 0 (fun _ => true) true Tryd.f4.params.toList args.toList ds p := hA0
  rw [Tryd.params4] at hA hval
  obtain ⟨v0, v1, d0, d1, p0, p1, hargs, rfl, rfl, h0, h1⟩ := trodAll_two hA
  obtain rfl : args = #[v0, v1] := by cases args; simp_all
  obtain ⟨l, r0⟩ := arg_ints (hval 0 47 v0 rfl rfl) h0
  obtain ⟨m1, r1⟩ := arg_int Tryd.underlying3 (hval 1 3 v1 rfl rfl) h1
  have k0 := known_ints r0.known
  refine (acalls_true (generalMade_a l m1 k0.2 k0.1 r1.known) hG (fit_sto W) (vs := [v0, v1]) (.cons r0 (.cons r1 .nil))).mono fun e W' ⟨he, hb⟩ => ⟨_, he, ?_⟩
  exact law_post hW rfl rfl Tryd.underlying4 rfl rfl rfl laid (by kernel_rfl) hb

theorem door_met (os : Os) (args : Array Value) : laidMetH Tryd.prog Rows.generalMadeRow.laid ((World.doorLaid Tryd.prog 400 os).forCall (fun _ _ => 0) ⟨#[], args, []⟩).memory :=
  laidMetH_of_parts3 (fuel := 8) (laidMet_of_run' 8 (by kernel_rfl) (by kernel_rfl)) (by kernel_rfl) (by kernel_rfl)

set_option maxRecDepth 100000 in
theorem lifted (os : Os) (started : os.Started) (H : Type) (enc : TypeId × Value → H) :
    ReturnsInHanded {} Tryd.checked os 4 .any (fun w args => (Rows.generalMadeSpec.pre enc Tryd.prog Tryd.f4 [] false w args ∧ laidMetH Tryd.prog Rows.generalMadeRow.laid w) ∧ sizedMet enc Tryd.prog Tryd.f4 (OpenSpec.ofChange Rows.generalMadeSpec) false w args)
      (Rows.generalMadeSpec.post enc Tryd.prog Tryd.f4 false true false false) := by
  refine returnsInHanded_of_change_and (C := Tryd.checked) (X := fun w _ => laidMetH Tryd.prog Rows.generalMadeRow.laid w) (fun _ _ _ hh h => h.of_heap hh) own started (by kernel_rfl) Tryd.func4
    (ChangeSpec.witness_shaped (enc := enc) (C := Tryd.checked) (os := os) (X := fun w _ => laidMetH Tryd.prog Rows.generalMadeRow.laid w) false (World.doorLaid Tryd.prog 400 os) #[.slice none 0 0, .int .i64 0] 8 rfl (World.shaped_of_RefB (by kernel_rfl) (by kernel_rfl)) (by kernel_rfl) (by kernel_rfl) (by kernel_rfl) (door_met os _)) ?_
  intro W base args ds gs before hval hW _ _ hL _
  exact contract H enc W base args ds gs before hL hval hW

theorem row_holds : Rows.GeneralMadeSaid :=
  OpenClaim.holds_of_wide 4 Tryd.f4 rfl rfl rfl rfl rfl rfl rfl ⟨rfl, rfl, rfl, rfl, rfl⟩ rfl rfl rfl rfl rfl (by kernel_rfl) Tryd.func4 (by kernel_rfl)
    (of_decide_eq_true (by kernel_rfl)) (by unfold Func.isWrapper; first | (rw [if_pos (by decide +kernel)]; kernel_rfl) | (rw [if_neg (by decide +kernel)]; exact ⟨rfl, rfl⟩))
    (fun os started H enc _ => lifted os started H enc)

theorem no_stand : (Tryd.f4.params.toList.all fun t => !Tryd.prog.wantsStandIn t) = true := by kernel_rfl
theorem proved : Rows.GeneralMadeCardSaid :=
  Claim7.holds_tied_plain_at .later [] [.data, .data, .data] true Rows.generalMadeCard.stood.harness Rows.generalMadeCard.stood.looks
    row_holds (fun _ h => by cases h) (by kernel_rfl) (fun _ h => by cases h) generalMade_row_tie rfl ⟨rfl, rfl⟩ (by kernel_rfl) rfl
    (fun f fn hf hfn => by
      obtain rfl : f = 4 := Option.some.inj ((show Tryd.prog.funcNamed "metaprune/metaprunelaw.GeneralMade" = some 4 by kernel_rfl).symm.trans hf) |>.symm
      obtain rfl : fn = Tryd.f4 := (Option.some.inj (Tryd.func4.symm.trans hfn)).symm
      exact ⟨by kernel_rfl, fun j t ht => by
        have h1 := List.all_eq_true.1 no_stand t (by rw [Array.mem_toList_iff]; exact Array.mem_of_getElem? ht)
        have h2 : Tryd.prog.wantsStandIn t = false := by simpa using h1
        exact h2⟩)
    (by kernel_rfl)
end Go.Proofs.YtdmgelbbjppgkaaDoor.generalMade
