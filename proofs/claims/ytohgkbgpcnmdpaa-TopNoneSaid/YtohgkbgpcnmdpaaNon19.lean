/-
  Proved: where unification fails, it fails for every instance: the law TopNone returns true. Conditions: none.
-/
import Derived.Test.YtohgkbgpcnmdpaaNon18
import Derived.Test.YtohgkbgpcnmdpaaRows
import Derived.ProofKit
import Derived.OpenShut
import Derived.JoinedCond
import Derived.Deep.Slices
namespace Go.Proofs.Ytohgkbgpcnmdpaa
open Go Go.RowKit
set_option linter.unusedVariables false
set_option linter.unusedSimpArgs false
set_option maxHeartbeats 1600000
abbrev nA : ByteArray := ⟨#[97]⟩
abbrev nB : ByteArray := ⟨#[98]⟩
abbrev nF : ByteArray := ⟨#[102]⟩
abbrev nX : ByteArray := ⟨#[88]⟩
abbrev nY : ByteArray := ⟨#[89]⟩
abbrev factL : Tm := .mk nF [.mk nA [], .mk nX []]
abbrev factR : Tm := .mk nF [.mk nY [], .mk nB []]
set_option maxRecDepth 100000 in
theorem factL_read : readOf ⟨#[102,40,97,44,88,41]⟩ = (factL, 0) := by kernel_rfl
set_option maxRecDepth 100000 in
theorem factR_read : readOf ⟨#[102,40,89,44,98,41]⟩ = (factR, 0) := by kernel_rfl
theorem fact_may : pairsMay [(factL, factR)] = 0 := by kernel_rfl
abbrev factS : List Bd := [(nX, .mk nB []), (nY, .mk nA [])]
theorem fact_ends : UEnds 3 [] [(factL, factR)] (factS, 0) := by
  refine .go (s' := []) (ps := [(.mk nA [], .mk nY []), (.mk nX [], .mk nB [])]) (by kernel_rfl) ?_
  refine .go (s' := [(nY, .mk nA [])]) (ps := []) (by kernel_rfl) ?_
  refine .go (s' := factS) (ps := []) (by kernel_rfl) ?_
  exact .nil
set_option maxRecDepth 20000 in
theorem fact_a : ACalls Try.prog 21 [] (aBool true) := by
  have h1 := parse_a ⟨#[102,40,97,44,88,41]⟩
  have h2 := parse_a ⟨#[102,40,89,44,98,41]⟩
  rw [factL_read] at h1
  rw [factR_read] at h2
  have h3 := unify_yes fact_may fact_ends
  unfold readV at h1 h2
  refine ac_metaprunetop_fact (Nat.le_of_ble_eq_true rfl) fun C hC => ?_
  unfold ir_metaprunetop_fact
  repeat' (first | (with_reducible first | refine Wa ?_ | refine Wb ?_ | refine Wc ?_ | refine Wd ?_ | refine We ?_ | refine Wf ?_ | refine Wg ?_ | refine Wh ?_ | refine Wi ?_ | refine Wj ?_ | refine Wk (by decide) ?_ | refine Wl ?_ | refine Wm ?_ | refine Wn ?_) | refine CallG.mk _ (h1) ?_ | refine CallG.mk _ (h2) ?_ | refine CallG.mk _ (h3) ?_ | ((with_reducible first | refine Wo (fun K hK => ?_) | refine Wp ?_ | refine Wq ?_ | refine Wr ?_); (try simp only [go_sem, List.forall_mem_nil, ↓guard_ite, ↓pick_ite, seval, encT_eq, inR_i64, encB, decide_eq_true_eq, decide_eq_false_iff_not, Int.ofNat_lt]); (repeat with_reducible refine And.intro (by first | omega | (with_reducible first | exact lens_encT | exact lens_encL | exact lens_encB | exact lens_encP) | (simp; done) | (simp only [List.length_take, List.length_map, List.length_append, maxLen_eq]; omega)) ?_); (try (with_reducible refine hK _ ?_; clear hK K)); (try with_reducible refine ite_conj ?_)))
  simp only [go_sem, List.forall_mem_nil, ↓guard_ite, ↓pick_ite, seval, FinQ, AS.result, resAll, resOne, tupV]
end Go.Proofs.Ytohgkbgpcnmdpaa

namespace Go.Proofs.Ytohgkbgpcnmdpaa
open Go Go.RowKit
set_option maxRecDepth 100000
def ir_R_BindsFrom : IR :=
  (.seq
  (.ops
  [.mk (some 8) none (.mov (.c (.one (.full []))))
  .no])
  (.seq
  (.ops
  [.mk (some 9) none (.mov (.c (.one (.full []))))
  .no])
  (.seq
  (.ops
  [.mk (some 12) none
  (.buildFlat
  [.c (.one (.st (.str (ByteArray.mk (#[85]))))), .c (.one (.st (.str (ByteArray.mk (#[88]))))), .c (.one (.st (.str (ByteArray.mk (#[89]))))), .c (.one (.st (.str (ByteArray.mk (#[90])))))])
  .no, .mk (some 10) none (.mov (.t 12)) .no])
  (.seq
  (.seq
  (.ops
  [.mk (some 11) none (.mov (.c (.one (.st (.int .i64 0)))))
  .no])
  (.block 0
  (.loop
  (.seq
  (.seq
  (.ops
  [.mk (some 13) none (.mov (.t 11)) .no, .mk (some 14) none (.bin .lss (.t 13) (.c (.one (.st (.int .i64 4)))))
  .no])
  (.cond (.t 14) .skip (.exit 0)))
  (.seq
  (.block 1
  (.seq
  (.ops
  [.mk (some 17) none (.mov (.t 0)) .no, .mk (some 18) none (.mov (.t 1)) .no, .mk (some 19) none (.mov (.t 11)) .no, .mk (some 20) none (.bin .add (.t 18) (.t 19))
  .no, .mk (some 21) none (.call 38 [.t 17, .t 20])
  .no, .mk (some 22) none (.call 11
  [.t 21, .c (.one (.st (.int .i64 4)))])
  .no, .mk (some 23) none (.bin .gtr (.t 22) (.c (.one (.st (.int .i64 0)))))
  .no])
  (.cond (.t 23)
  (.ops
  [.mk (some 24) none (.mov (.t 9)) .no, .mk (some 25) none (.mov (.t 10)) .no, .mk (some 26) none (.mov (.t 11)) .no, .mk (some 27) none (.indexAddr 1 (.t 25) (.t 26))
  .no, .mk (some 28) none (.load false 1 (.t 27)) .no, .mk (some 29) none (.mov (.t 0)) .no, .mk (some 30) none (.mov (.t 1)) .no, .mk (some 31) none (.bin .add (.t 30) (.c (.one (.st (.int .i64 4)))))
  .no, .mk (some 32) none (.mov (.t 11)) .no, .mk (some 33) none (.bin .mul (.c (.one (.st (.int .i64 7)))) (.t 32))
  .no, .mk (some 34) none (.bin .add (.t 31) (.t 33))
  .no, .mk (some 35) none (.mov (.t 2)) .no, .mk (some 36) none (.mov (.t 3)) .no, .mk (some 37) none (.call 10 [.t 29, .t 34, .t 35, .t 36])
  .no, .mk (some 38) none
  (.build
  [.st (.str (ByteArray.mk (#[]))), .st (.str (ByteArray.mk (#[]))), .full []]
  [(0, 1, .t 28), (1, 2, .t 37)])
  .no, .mk (some 39) none (.buildSlice false 56 3 [.t 38]) .no, .mk (some 40) none (.append false 56 3 56 (.t 24) (.t 39))
  .no, .mk (some 9) none (.mov (.t 40)) .no])
  .skip)))
  (.ops
  [.mk (some 15) none (.mov (.t 11)) .no, .mk (some 16) none (.bin .add (.t 15) (.c (.one (.st (.int .i64 1)))))
  .no, .mk (some 11) none (.mov (.t 16)) .no]))))))
  (.seq
  (.ops
  [.mk (some 41) none (.mov (.t 9)) .no, .mk (some 8) none (.mov (.t 41)) .no])
  .ret)))))
theorem tr_R_BindsFrom : trCode Try.prog 42 [] (Try.f19.body.getD .skip) = some ir_R_BindsFrom := by kernel_rfl
theorem ac_R_BindsFrom {xs : List AV} {r : AV} (hn : xs.length ≤ 42) (h : ∀ C : Ctx, C.n = 42 → IWP Try.prog C [] ir_R_BindsFrom (FinQ [.t 8] r) (AS.start xs)) : ACalls Try.prog 19 xs r :=
  acalls_of Try.func19 rfl tr_R_BindsFrom rfl hn h
end Go.Proofs.Ytohgkbgpcnmdpaa

namespace Go.Proofs.Ytohgkbgpcnmdpaa
open Go Go.RowKit
set_option linter.unusedVariables false
set_option linter.unusedSimpArgs false
set_option maxHeartbeats 800000
def nmB (i : Nat) : ByteArray := [(⟨#[85]⟩ : ByteArray), ⟨#[88]⟩, ⟨#[89]⟩, ⟨#[90]⟩].getD i ⟨#[]⟩
theorem bindsFrom_a (l : List Int) (hl : ∀ n ∈ l, inR .i64 n) (hm : l.length ≤ maxLen) (vars : Int) (hv : 1 ≤ vars ∧ vars ≤ 4) (at_ most : Nat) (hat : at_ ≤ 1000) (h12 : most ≤ 100) : ∃ bs : List Bd, ACalls Try.prog 19 [aInts l, aInt at_, aInt most, aInt vars] (aBds bs) ∧ OkB bs ∧ bs.length ≤ 4 ∧ ∀ b ∈ bs, b.2.size + 1 ≤ max 2 (2 * most) := by
  have hT : ∀ i : Nat, ∃ t : Tm, i < 4 → ACalls Try.prog 10 [aInts l, aInt ((at_ : Int) + 4 + 7 * i), aInt most, aInt vars] (aTm t) ∧ t.size + 1 ≤ max 2 (2 * most) ∧ t.chk = 0 := fun i => by
    by_cases hi : i < 4
    · obtain ⟨t, ht, hz, hc⟩ := termOf_a l hl hm vars hv most (at_ + 4 + 7 * i) (by omega) (by omega)
      refine ⟨t, fun _ => ⟨?_, hz, hc⟩⟩
      rw [show (((at_ + 4 + 7 * i : Nat) : Int)) = (at_ : Int) + 4 + 7 * i by omega] at ht
      exact ht
    · exact ⟨Tm.nil, fun h => absurd h hi⟩
  obtain ⟨T, hT⟩ := Classical.skolem.1 hT
  obtain ⟨B, hB⟩ : ∃ B : Nat → List Bd, B = fun k => ((List.range k).filter fun i => decide (0 < pickI (rawI l (at_ + i)) 4)).map fun i => (nmB i, T i) := ⟨_, rfl⟩
  have hB0 : B 0 = [] := by rw [hB]; rfl
  have hBy : ∀ k, 0 < pickI (rawI l (at_ + k)) 4 → B (k + 1) = B k ++ [(nmB k, T k)] := fun k h => by
    rw [hB]
    simp only [List.range_succ, List.filter_append, List.map_append]
    rw [List.filter_cons_of_pos (by simpa using h)]
    rfl
  have hBn : ∀ k, ¬ 0 < pickI (rawI l (at_ + k)) 4 → B (k + 1) = B k := fun k h => by
    rw [hB]
    simp only [List.range_succ, List.filter_append, List.map_append]
    rw [List.filter_cons_of_neg (by simpa using h), List.filter_nil, List.map_nil, List.append_nil]
  have hBl : ∀ k, (B k).length ≤ k := fun k => by
    rw [hB]
    simp only [List.length_map]
    exact Nat.le_trans (List.length_filter_le _ _) (by simp)
  have hB4 : OkB (B 4) ∧ ∀ b ∈ B 4, b.2.size + 1 ≤ max 2 (2 * most) := by
    have hmem : ∀ b ∈ B 4, ∃ i, i < 4 ∧ b = (nmB i, T i) := fun b hb => by
      rw [hB] at hb
      obtain ⟨i, hi, rfl⟩ := List.mem_map.1 hb
      exact ⟨i, List.mem_range.1 (List.mem_filter.1 hi).1, rfl⟩
    have hnm : ∀ i, i < 4 → isVar (nmB i) = true ∧ nameOk (nmB i) = true := by decide +kernel
    refine ⟨⟨?_, fun b hb => ?_, fun b hb => ?_, fun b hb => ?_⟩, fun b hb => ?_⟩
    · rw [hB]
      refine List.pairwise_map.2 (List.Pairwise.sublist List.filter_sublist ?_)
      have hp : ∀ i, i < 4 → ∀ j, j < 4 → i < j → sLt (nmB i) (nmB j) = true := by decide +kernel
      exact (List.pairwise_lt_range (n := 4)).imp_of_mem fun hi hj hij => hp _ (List.mem_range.1 hi) _ (List.mem_range.1 hj) hij
    · obtain ⟨i, hi, rfl⟩ := hmem b hb
      exact (hnm i hi).1
    · obtain ⟨i, hi, rfl⟩ := hmem b hb
      exact (hnm i hi).2
    · obtain ⟨i, hi, rfl⟩ := hmem b hb
      exact (hT i hi).2.2
    · obtain ⟨i, hi, rfl⟩ := hmem b hb
      exact (hT i hi).2.1
  clear hB
  refine ⟨B 4, ?_, hB4.1, hBl 4, hB4.2⟩
  have hT := fun i hi => (hT i hi).1
  refine ac_R_BindsFrom (Nat.le_of_ble_eq_true rfl) fun C hC => ?_
  unfold ir_R_BindsFrom
  repeat' (first | (with_reducible first | refine Wa ?_ | refine Wb ?_ | refine Wc ?_ | refine Wd ?_ | refine We ?_ | refine Wf ?_ | refine Wg ?_ | refine Wh ?_ | refine Wi ?_ | refine Wj ?_ | refine Wk (by decide) ?_ | refine Wl ?_ | refine Wm ?_ | refine Wn ?_) | ((with_reducible first | refine Wo (fun K hK => ?_) | refine Wp ?_ | refine Wq ?_ | refine Wr ?_); (try simp only [go_sem, List.forall_mem_nil, ↓guard_ite, ↓pick_ite, seval, encT_eq, inR_i64, decide_eq_true_eq, decide_eq_false_iff_not, Int.ofNat_lt]); (repeat with_reducible refine And.intro (by first | omega | (with_reducible first | exact lens_encT | exact lens_encL | exact lens_encB | exact lens_encP) | (simp; done) | (simp only [List.length_take, List.length_map, List.length_append, maxLen_eq]; omega)) ?_); (try (with_reducible refine hK _ ?_; clear hK K)); (try with_reducible refine ite_conj ?_)))
  refine IWP.ghost (Ghost.own 9 900 56 3 (xs := []) rfl rfl (by simp) (by rw [hC]; decide)) ?_
  refine IWP.loop (fun m x => ∃ k, k ≤ 4 ∧ m = 4 - k ∧ x.env 0 = aInts l ∧ x.env 1 = aInt at_ ∧ x.env 2 = aInt most ∧ x.env 3 = aInt vars ∧ x.env 9 = .one (.row 900 (B k).length) ∧ x.env 10 = .one (.full [[.str ⟨#[85]⟩], [.str ⟨#[88]⟩], [.str ⟨#[89]⟩], [.str ⟨#[90]⟩]]) ∧ x.env 11 = aInt k ∧ x.S 900 = some (.arow 56 3 ((B k).map encB))) 4 ⟨0, Nat.zero_le _, rfl, rfl, rfl, rfl, rfl, by rw [hB0]; rfl, rfl, rfl, by rw [hB0]; rfl⟩ ?_
  rintro m ⟨env, S⟩ ⟨k, hk, rfl, e0, e1, e2, e3, e9, e10, e11, s900⟩
  simp only at e0 e1 e2 e3 e9 e10 e11 s900
  have hbl := hBl k
  by_cases hlt : (k : Int) < 4
  · have hraw := raw_a l (at_ + k) (by omega) hl hm
    have hrr := rawI_range l (at_ + k)
    have hpick := pick_a (rawI l (at_ + k)) 4 (by rw [inR_i64]; omega) (by omega)
    have htk := hT k (by omega)
    rw [show (((at_ + k : Nat) : Int)) = (at_ : Int) + k by omega] at hraw
    have hnm : [([.str ⟨#[85]⟩] : List SV), [.str ⟨#[88]⟩], [.str ⟨#[89]⟩], [.str ⟨#[90]⟩]][k]? = some [.str (nmB k)] := by
      match k, (show k < 4 by omega) with
      | 0, _ => rfl
      | 1, _ => rfl
      | 2, _ => rfl
      | 3, _ => rfl
    by_cases hc : 0 < pickI (rawI l (at_ + k)) 4
    · repeat' (first | (with_reducible first | refine Wa ?_ | refine Wb ?_ | refine Wc ?_ | refine Wd ?_ | refine We ?_ | refine Wf ?_ | refine Wg ?_ | refine Wh ?_ | refine Wi ?_ | refine Wj ?_ | refine Wk (by decide) ?_ | refine Wl ?_ | refine Wm ?_ | refine Wn ?_) | refine CallG.mk _ (hraw) ?_ | refine CallG.mk _ (hpick) ?_ | refine CallG.mk _ (htk) ?_ | ((with_reducible first | refine Wo (fun K hK => ?_) | refine Wp ?_ | refine Wq ?_ | refine Wr ?_); (try simp only [go_sem, List.forall_mem_nil, ↓guard_ite, ↓pick_ite, seval, encT_eq, inR_i64, e0, e1, e2, e3, e9, e10, e11, s900, hlt, hc, hnm, decide_eq_true_eq, decide_eq_false_iff_not, Int.ofNat_lt]); (repeat with_reducible refine And.intro (by first | omega | (with_reducible first | exact lens_encT | exact lens_encL | exact lens_encB | exact lens_encP) | (simp; done) | (simp only [List.length_take, List.length_map, List.length_append, maxLen_eq]; omega)) ?_); (try (with_reducible refine hK _ ?_; clear hK K)); (try with_reducible refine ite_conj ?_)))
      refine then_normal ⟨4 - (k + 1), by omega, k + 1, by omega, rfl, ?_⟩
      rw [hBy k hc]
      simp only [go_sem, List.forall_mem_nil, ↓guard_ite, ↓pick_ite, seval, encT_eq, inR_i64, e0, e1, e2, e3, e9, e10, e11, s900]
      refine ⟨by congr 3, ?_⟩
      rw [List.map_append]
      rfl
    · repeat' (first | (with_reducible first | refine Wa ?_ | refine Wb ?_ | refine Wc ?_ | refine Wd ?_ | refine We ?_ | refine Wf ?_ | refine Wg ?_ | refine Wh ?_ | refine Wi ?_ | refine Wj ?_ | refine Wk (by decide) ?_ | refine Wl ?_ | refine Wm ?_ | refine Wn ?_) | refine CallG.mk _ (hraw) ?_ | refine CallG.mk _ (hpick) ?_ | ((with_reducible first | refine Wo (fun K hK => ?_) | refine Wp ?_ | refine Wq ?_ | refine Wr ?_); (try simp only [go_sem, List.forall_mem_nil, ↓guard_ite, ↓pick_ite, seval, encT_eq, inR_i64, e0, e1, e2, e3, e9, e10, e11, s900, hlt, hc, hnm, decide_eq_true_eq, decide_eq_false_iff_not, Int.ofNat_lt]); (repeat with_reducible refine And.intro (by first | omega | (with_reducible first | exact lens_encT | exact lens_encL | exact lens_encB | exact lens_encP) | (simp; done) | (simp only [List.length_take, List.length_map, List.length_append, maxLen_eq]; omega)) ?_); (try (with_reducible refine hK _ ?_; clear hK K)); (try with_reducible refine ite_conj ?_)))
      refine then_normal ⟨4 - (k + 1), by omega, k + 1, by omega, rfl, ?_⟩
      rw [hBn k hc]
      simp only [go_sem, List.forall_mem_nil, ↓guard_ite, ↓pick_ite, seval, encT_eq, inR_i64, e0, e1, e2, e3, e9, e10, e11, s900]
      congr 3
  · obtain rfl : k = 4 := by omega
    repeat' (first | (with_reducible first | refine Wa ?_ | refine Wb ?_ | refine Wc ?_ | refine Wd ?_ | refine We ?_ | refine Wf ?_ | refine Wg ?_ | refine Wh ?_ | refine Wi ?_ | refine Wj ?_ | refine Wk (by decide) ?_ | refine Wl ?_ | refine Wm ?_ | refine Wn ?_) | ((with_reducible first | refine Wo (fun K hK => ?_) | refine Wp ?_ | refine Wq ?_ | refine Wr ?_); (try simp only [go_sem, List.forall_mem_nil, ↓guard_ite, ↓pick_ite, seval, encT_eq, inR_i64, e0, e1, e9, e11, s900, hlt, decide_eq_true_eq, decide_eq_false_iff_not, Int.ofNat_lt]); (repeat with_reducible refine And.intro (by first | omega | (with_reducible first | exact lens_encT | exact lens_encL | exact lens_encB | exact lens_encP) | (simp; done) | (simp only [List.length_take, List.length_map, List.length_append, maxLen_eq]; omega)) ?_); (try (with_reducible refine hK _ ?_; clear hK K)); (try with_reducible refine ite_conj ?_)))
    simp only [go_sem, List.forall_mem_nil, ↓guard_ite, ↓pick_ite, seval, FinQ, AS.result, resAll, resOne, tupV, s900]
end Go.Proofs.Ytohgkbgpcnmdpaa

namespace Go.Proofs.Ytohgkbgpcnmdpaa
open Go Go.RowKit
set_option maxRecDepth 100000
def ir_R_PairsFrom : IR :=
  (.seq
  (.ops
  [.mk (some 8) none (.mov (.c (.one (.full []))))
  .no])
  (.seq
  (.ops
  [.mk (some 9) none (.mov (.c (.one (.full []))))
  .no])
  (.seq
  (.ops
  [.mk (some 10) none (.mov (.c (.one (.st (.int .i64 0)))))
  .no])
  (.seq
  (.seq
  (.ops
  [.mk (some 11) none (.mov (.c (.one (.st (.int .i64 0)))))
  .no])
  (.block 0
  (.loop
  (.seq
  (.seq
  (.ops
  [.mk (some 15) none (.mov (.t 11)) .no, .mk (some 16) none (.mov (.t 1)) .no, .mk (some 17) none (.bin .lss (.t 15) (.t 16))
  .no])
  (.cond (.t 17) .skip (.exit 0)))
  (.seq
  (.block 1
  (.seq
  (.ops
  [.mk (some 21) none (.mov (.t 0)) .no, .mk (some 22) none (.mov (.t 10)) .no, .mk (some 23) none (.mov (.t 2)) .no, .mk (some 24) none (.mov (.t 3)) .no, .mk (some 25) none (.call 29 [.t 21, .t 22, .t 23, .t 24])
  .no, .mk (some 20) none (.mov (.t 25)) .no, .mk (some 26) none (.extract 0 (.t 20)) .no, .mk (some 27) none (.extract 1 (.t 20)) .no, .mk (some 12) none
  (.alloc 24 [.st (.str (ByteArray.mk (#[]))), .full []])
  .no, .mk none none (.store 2 (.t 12) (.t 26))
  .no, .mk (some 13) none (.mov (.t 27)) .no])
  (.seq
  (.ops
  [.mk (some 29) none (.mov (.t 0)) .no, .mk (some 30) none (.mov (.t 13)) .no, .mk (some 31) none (.mov (.t 2)) .no, .mk (some 32) none (.mov (.t 3)) .no, .mk (some 33) none (.call 29 [.t 29, .t 30, .t 31, .t 32])
  .no, .mk (some 28) none (.mov (.t 33)) .no, .mk (some 34) none (.extract 0 (.t 28)) .no, .mk (some 35) none (.extract 1 (.t 28)) .no, .mk (some 14) none
  (.alloc 24 [.st (.str (ByteArray.mk (#[]))), .full []])
  .no, .mk none none (.store 2 (.t 14) (.t 34))
  .no, .mk (some 13) none (.mov (.t 35)) .no])
  (.seq
  (.ops
  [.mk (some 36) none (.mov (.t 13)) .no, .mk (some 10) none (.mov (.t 36)) .no])
  (.ops
  [.mk (some 37) none (.mov (.t 9)) .no, .mk (some 38) none (.load true 2 (.t 12)) .no, .mk (some 39) none (.load true 2 (.t 14)) .no, .mk (some 40) none
  (.build
  [.st (.str (ByteArray.mk (#[]))), .full [], .st (.str (ByteArray.mk (#[]))), .full []]
  [(0, 2, .t 38), (2, 2, .t 39)])
  .no, .mk (some 41) none (.buildSlice false 51 4 [.t 40]) .no, .mk (some 42) none (.append false 51 4 80 (.t 37) (.t 41))
  .no, .mk (some 9) none (.mov (.t 42)) .no])))))
  (.ops
  [.mk (some 18) none (.mov (.t 11)) .no, .mk (some 19) none (.bin .add (.t 18) (.c (.one (.st (.int .i64 1)))))
  .no, .mk (some 11) none (.mov (.t 19)) .no]))))))
  (.seq
  (.ops
  [.mk (some 43) none (.mov (.t 9)) .no, .mk (some 8) none (.mov (.t 43)) .no])
  .ret)))))
theorem tr_R_PairsFrom : trCode Try.prog 44 [] (Try.f17.body.getD .skip) = some ir_R_PairsFrom := by kernel_rfl
theorem ac_R_PairsFrom {xs : List AV} {r : AV} (hn : xs.length ≤ 44) (h : ∀ C : Ctx, C.n = 44 → IWP Try.prog C [] ir_R_PairsFrom (FinQ [.t 8] r) (AS.start xs)) : ACalls Try.prog 17 xs r :=
  acalls_of Try.func17 rfl tr_R_PairsFrom rfl hn h
def ir_metaprunetop_TopNone : IR :=
  (.seq
  (.ops
  [.mk (some 4) none (.mov (.c (.one (.st (.bool false)))))
  .no])
  (.seq
  (.seq
  (.ops
  [.mk (some 15) none (.mov (.t 0)) .no, .mk (some 16) none (.len false (.t 15)) .no, .mk (some 17) none (.bin .gtr (.t 16) (.c (.one (.st (.int .i64 256)))))
  .no])
  (.cond (.t 17)
  (.seq
  (.ops
  [.mk (some 4) none (.mov (.c (.one (.st (.bool true)))))
  .no])
  .ret)
  .skip))
  (.seq
  (.ops
  [.mk (some 18) none (.mov (.t 0)) .no, .mk (some 19) none (.mov (.t 1)) .no, .mk (some 20) none (.call 11
  [.t 19, .c (.one (.st (.int .i64 9)))])
  .no, .mk (some 21) none (.bin .add (.c (.one (.st (.int .i64 1)))) (.t 20))
  .no, .mk (some 22) none (.call 17
  [.t 18, .c (.one (.st (.int .i64 1))), .t 21, .c (.one (.st (.int .i64 3)))])
  .no, .mk (some 5) none (.mov (.t 22)) .no])
  (.seq
  (.ops
  [.mk (some 24) none (.mov (.t 5)) .no, .mk (some 25) none (.call 18 [.t 24]) .no, .mk (some 23) none (.mov (.t 25)) .no, .mk (some 26) none (.extract 0 (.t 23)) .no, .mk (some 27) none (.extract 1 (.t 23)) .no, .mk (some 6) none (.mov (.t 26)) .no, .mk (some 7) none (.mov (.t 27)) .no])
  (.seq
  (.ops
  [.mk (some 28) none (.mov (.t 0)) .no, .mk (some 29) none (.call 19
  [.t 28, .c (.one (.st (.int .i64 90))), .c (.one (.st (.int .i64 4))), .c (.one (.st (.int .i64 3)))])
  .no, .mk (some 8) none (.mov (.t 29)) .no])
  (.seq
  (.ops
  [.mk (some 31) none (.mov (.t 8)) .no, .mk (some 32) none (.mov (.t 5)) .no, .mk (some 33) none
  (.indexAddr 4 (.t 32) (.c (.one (.st (.int .i64 0)))))
  .no, .mk (some 34) none (.fieldAddr 0 (.t 33)) .no, .mk (some 35) none (.load true 2 (.t 34)) .no, .mk (some 36) none (.call 20 [.t 31, .t 35]) .no, .mk (some 30) none (.mov (.t 36)) .no, .mk (some 37) none (.extract 0 (.t 30)) .no, .mk (some 38) none (.extract 1 (.t 30)) .no, .mk (some 9) none
  (.alloc 24 [.st (.str (ByteArray.mk (#[]))), .full []])
  .no, .mk none none (.store 2 (.t 9) (.t 37)) .no, .mk (some 10) none (.mov (.t 38)) .no])
  (.seq
  (.ops
  [.mk (some 40) none (.mov (.t 8)) .no, .mk (some 41) none (.mov (.t 5)) .no, .mk (some 42) none
  (.indexAddr 4 (.t 41) (.c (.one (.st (.int .i64 0)))))
  .no, .mk (some 43) none (.fieldAddr 2 (.t 42)) .no, .mk (some 44) none (.load true 2 (.t 43)) .no, .mk (some 45) none (.call 20 [.t 40, .t 44])
  .no, .mk (some 39) none (.mov (.t 45)) .no, .mk (some 46) none (.extract 0 (.t 39)) .no, .mk (some 47) none (.extract 1 (.t 39)) .no, .mk (some 11) none
  (.alloc 24 [.st (.str (ByteArray.mk (#[]))), .full []])
  .no, .mk none none (.store 2 (.t 11) (.t 46)) .no, .mk (some 12) none (.mov (.t 47)) .no])
  (.seq
  (.seq
  (.ops
  [.mk (some 48) none (.mov (.t 10)) .no, .mk (some 49) none (.un .not (.t 48)) .no, .mk (some 50) none (.mov (.t 49)) .no, .mk (some 51) (some (50, false)) (.mov (.t 12)) .no, .mk (some 52) (some (50, false)) (.un .not (.t 51)) .no, .mk (some 53) none
  (.pick (.t 50) (.c (.one (.st (.bool true)))) (.t 52))
  .no])
  (.cond (.t 53)
  (.seq
  (.ops
  [.mk (some 4) none (.mov (.c (.one (.st (.bool true)))))
  .no])
  .ret)
  .skip))
  (.seq
  (.seq
  (.ops
  [.mk (some 54) none (.mov (.t 7)) .no, .mk (some 55) none (.bin .eql (.t 54) (.c (.one (.st (.int .i64 0)))))
  .no])
  (.cond (.t 55)
  (.seq
  (.ops
  [.mk (some 56) none (.call 21 []) .no, .mk (some 4) none (.mov (.t 56)) .no])
  .ret)
  .skip))
  (.seq
  (.ops
  [.mk (some 58) none (.load true 2 (.t 9)) .no, .mk (some 59) none (.load true 2 (.t 11)) .no, .mk (some 60) none
  (.build
  [.st (.str (ByteArray.mk (#[]))), .full [], .st (.str (ByteArray.mk (#[]))), .full []]
  [(0, 2, .t 58), (2, 2, .t 59)])
  .no, .mk (some 61) none (.buildSlice false 51 4 [.t 60]) .no, .mk (some 62) none (.call 18 [.t 61]) .no, .mk (some 57) none (.mov (.t 62)) .no, .mk (some 63) none (.extract 0 (.t 57)) .no, .mk (some 64) none (.extract 1 (.t 57)) .no, .mk (some 13) none (.mov (.t 63)) .no, .mk (some 14) none (.mov (.t 64)) .no])
  (.seq
  (.ops
  [.mk (some 65) none (.mov (.t 7)) .no, .mk (some 66) none (.bin .eql (.t 65) (.c (.one (.st (.int .i64 5)))))
  .no, .mk (some 67) none (.mov (.t 66)) .no, .mk (some 68) (some (67, false)) (.mov (.t 7)) .no, .mk (some 69) (some (67, false)) (.bin .eql (.t 68) (.c (.one (.st (.int .i64 6)))))
  .no, .mk (some 70) none
  (.pick (.t 67) (.c (.one (.st (.bool true)))) (.t 69))
  .no, .mk (some 71) none (.mov (.t 70)) .no, .mk (some 72) (some (71, true)) (.mov (.t 14)) .no, .mk (some 73) (some (71, true)) (.bin .neq (.t 72) (.c (.one (.st (.int .i64 0)))))
  .no, .mk (some 74) none
  (.pick (.t 71) (.t 73) (.c (.one (.st (.bool false)))))
  .no, .mk (some 75) none (.mov (.t 74)) .no, .mk (some 76) (some (75, true)) (.mov (.t 13)) .no, .mk (some 77) (some (75, true)) (.len false (.t 76)) .no, .mk (some 78) (some (75, true)) (.bin .eql (.t 77) (.c (.one (.st (.int .i64 0)))))
  .no, .mk (some 79) none
  (.pick (.t 75) (.t 78) (.c (.one (.st (.bool false)))))
  .no, .mk (some 80) none (.mov (.t 79)) .no, .mk (some 81) (some (80, true)) (.call 21 []) .no, .mk (some 82) none
  (.pick (.t 80) (.t 81) (.c (.one (.st (.bool false)))))
  .no, .mk (some 4) none (.mov (.t 82)) .no])
  .ret)))))))))))
theorem tr_metaprunetop_TopNone : trCode Try.prog 83 [] (Try.f5.body.getD .skip) = some ir_metaprunetop_TopNone := by kernel_rfl
theorem ac_metaprunetop_TopNone {xs : List AV} {r : AV} (hn : xs.length ≤ 83) (h : ∀ C : Ctx, C.n = 83 → IWP Try.prog C [] ir_metaprunetop_TopNone (FinQ [.t 4] r) (AS.start xs)) : ACalls Try.prog 5 xs r :=
  acalls_of Try.func5 rfl tr_metaprunetop_TopNone rfl hn h
end Go.Proofs.Ytohgkbgpcnmdpaa

namespace Go.Proofs.Ytohgkbgpcnmdpaa
open Go Go.RowKit
set_option linter.unusedVariables false
set_option linter.unusedSimpArgs false
set_option maxHeartbeats 1600000
theorem onePair_a (l : List Int) (hl : ∀ n ∈ l, inR .i64 n) (hm : l.length ≤ maxLen) (most : Nat) (h9 : most ≤ 9) (h1 : 1 ≤ most) : ∃ a b : Tm, MadeN a ∧ MadeN b ∧ ACalls Try.prog 17 [aInts l, aInt 1, aInt most, aInt 3] (aPrs [(a, b)]) := by
  obtain ⟨a, ha, s1, c1, n1, v1, u1⟩ := grow_w l hl hm 3 (by omega) most 0 (by omega) (by omega)
  obtain ⟨b, hb, s2, c2, n2, v2, u2⟩ := grow_w l hl hm 3 (by omega) most (0 + a.size) (by omega) (by omega)
  have hlv : leafB most ≤ 4 := by unfold leafB; (repeat' split) <;> omega
  refine ⟨a, b, ⟨c1, by omega, by omega, n1, u1 rfl⟩, ⟨c2, by omega, by omega, n2, u2 rfl⟩, ?_⟩
  unfold MadeAt at ha hb
  rw [Nat.zero_add] at ha hb
  refine ac_R_PairsFrom (Nat.le_of_ble_eq_true rfl) fun C hC => ?_
  unfold ir_R_PairsFrom
  repeat' (first | (with_reducible first | refine Wa ?_ | refine Wb ?_ | refine Wc ?_ | refine Wd ?_ | refine We ?_ | refine Wf ?_ | refine Wg ?_ | refine Wh ?_ | refine Wi ?_ | refine Wj ?_ | refine Wk (by decide) ?_ | refine Wl ?_ | refine Wm ?_ | refine Wn ?_) | ((with_reducible first | refine Wo (fun K hK => ?_) | refine Wp ?_ | refine Wq ?_ | refine Wr ?_); (try simp only [go_sem, List.forall_mem_nil, ↓guard_ite, ↓pick_ite, seval, encT_eq, inR_i64, decide_eq_true_eq, decide_eq_false_iff_not, Int.ofNat_lt]); (repeat with_reducible refine And.intro (by first | omega | (with_reducible first | exact lens_encT | exact lens_encL | exact lens_encB | exact lens_encP) | (simp; done) | (simp only [List.length_take, List.length_map, List.length_append, maxLen_eq]; omega)) ?_); (try (with_reducible refine hK _ ?_; clear hK K)); (try with_reducible refine ite_conj ?_)))
  refine IWP.ghost (Ghost.own 9 900 51 4 (xs := []) rfl rfl (by simp) (by rw [hC]; decide)) ?_
  refine IWP.loopD [12, 14] (fun m x => ∃ k, k ≤ 1 ∧ m = 1 - k ∧ x.env 0 = aInts l ∧ x.env 1 = aInt 1 ∧ x.env 2 = aInt most ∧ x.env 3 = aInt 3 ∧ x.env 9 = .one (.row 900 k) ∧ (k = 0 → x.env 10 = aInt 0) ∧ x.env 11 = aInt k ∧ x.S 900 = some (.arow 51 4 (([(a, b)].take k).map encP)) ∧ x.S 12 = none ∧ x.S 14 = none) 1 ⟨0, Nat.zero_le _, rfl, rfl, rfl, rfl, rfl, rfl, fun _ => rfl, rfl, rfl, rfl, rfl⟩ ?_
  rintro m ⟨env, S⟩ ⟨k, hk, rfl, e0, e1, e2, e3, e9, e10, e11, s900, s12, s14⟩
  simp only at e0 e1 e2 e3 e9 e10 e11 s900 s12 s14
  by_cases hlt : (k : Int) < 1
  · obtain rfl : k = 0 := by omega
    have e10 := e10 rfl
    have ha : ACalls Try.prog 29 [aInts l, aInt 0, aInt most, aInt 3] (.tup [aTm a, aInt (a.size : Int)]) := ha
    repeat' (first | (with_reducible first | refine Wa ?_ | refine Wb ?_ | refine Wc ?_ | refine Wd ?_ | refine We ?_ | refine Wf ?_ | refine Wg ?_ | refine Wh ?_ | refine Wi ?_ | refine Wj ?_ | refine Wk (by decide) ?_ | refine Wl ?_ | refine Wm ?_ | refine Wn ?_) | refine CallG.mk _ (ha) ?_ | refine CallG.mk _ (hb) ?_ | ((with_reducible first | refine Wo (fun K hK => ?_) | refine Wp ?_ | refine Wq ?_ | refine Wr ?_); (try simp only [go_sem, List.forall_mem_nil, ↓guard_ite, ↓pick_ite, seval, encT_eq, inR_i64, e0, e1, e2, e3, e9, e10, e11, s900, s12, s14, hlt, decide_eq_true_eq, decide_eq_false_iff_not, Int.ofNat_lt]); (repeat with_reducible refine And.intro (by first | omega | (with_reducible first | exact lens_encT | exact lens_encL | exact lens_encB | exact lens_encP) | (simp; done) | (simp only [List.length_take, List.length_map, List.length_append, maxLen_eq]; omega)) ?_); (try (with_reducible refine hK _ ?_; clear hK K)); (try with_reducible refine ite_conj ?_)))
    refine then_normal ⟨1 - (0 + 1), by omega, 0 + 1, by omega, rfl, ?_⟩
    simp only [go_sem, List.forall_mem_nil, ↓guard_ite, ↓pick_ite, seval, AS.drop, dropS, AC.clears, AC.clear, AC.highs, AC.high, Bool.not_false, Bool.true_and, Bool.and_self, AV.purge, AV.purges, AC.purge, ABlk.purge, List.contains_cons, List.contains_nil, Nat.reduceBEq, Bool.or_self, Bool.or_false, Bool.false_or, Bool.or_true, encT_eq, inR_i64, e0, e1, e2, e3, e9, e10, e11, s900, s12, s14]
    rfl
  · obtain rfl : k = 1 := by omega
    repeat' (first | (with_reducible first | refine Wa ?_ | refine Wb ?_ | refine Wc ?_ | refine Wd ?_ | refine We ?_ | refine Wf ?_ | refine Wg ?_ | refine Wh ?_ | refine Wi ?_ | refine Wj ?_ | refine Wk (by decide) ?_ | refine Wl ?_ | refine Wm ?_ | refine Wn ?_) | ((with_reducible first | refine Wo (fun K hK => ?_) | refine Wp ?_ | refine Wq ?_ | refine Wr ?_); (try simp only [go_sem, List.forall_mem_nil, ↓guard_ite, ↓pick_ite, seval, encT_eq, inR_i64, e0, e1, e9, e11, s900, hlt, decide_eq_true_eq, decide_eq_false_iff_not, Int.ofNat_lt]); (repeat with_reducible refine And.intro (by first | omega | (with_reducible first | exact lens_encT | exact lens_encL | exact lens_encB | exact lens_encP) | (simp; done) | (simp only [List.length_take, List.length_map, List.length_append, maxLen_eq]; omega)) ?_); (try (with_reducible refine hK _ ?_; clear hK K)); (try with_reducible refine ite_conj ?_)))
    simp only [go_sem, List.forall_mem_nil, ↓guard_ite, ↓pick_ite, seval, FinQ, AS.result, resAll, resOne, tupV, s900]
    rfl
theorem topNone_a (l : List Int) (most : Int) (hl : ∀ n ∈ l, inR .i64 n) (hm : l.length ≤ maxLen) (h1 : inR .i64 most) : ACalls Try.prog 5 [aInts l, aInt most] (aBool true) := by
  by_cases h0 : (256 : Int) < l.length
  · refine ac_metaprunetop_TopNone (Nat.le_of_ble_eq_true rfl) fun C hC => ?_
    unfold ir_metaprunetop_TopNone
    repeat' (first | (with_reducible first | refine Wa ?_ | refine Wb ?_ | refine Wc ?_ | refine Wd ?_ | refine We ?_ | refine Wf ?_ | refine Wg ?_ | refine Wh ?_ | refine Wi ?_ | refine Wj ?_ | refine Wk (by decide) ?_ | refine Wl ?_ | refine Wm ?_ | refine Wn ?_) | ((with_reducible first | refine Wo (fun K hK => ?_) | refine Wp ?_ | refine Wq ?_ | refine Wr ?_); (try simp only [go_sem, List.forall_mem_nil, ↓guard_ite, ↓pick_ite, seval, encT_eq, inR_i64, h0, decide_eq_true_eq, decide_eq_false_iff_not, Int.ofNat_lt]); (repeat with_reducible refine And.intro (by first | omega | (with_reducible first | exact lens_encT | exact lens_encL | exact lens_encB | exact lens_encP) | (simp; done) | (simp only [List.length_take, List.length_map, List.length_append, maxLen_eq]; omega)) ?_); (try (with_reducible refine hK _ ?_; clear hK K)); (try with_reducible refine ite_conj ?_)))
    simp only [go_sem, List.forall_mem_nil, ↓guard_ite, ↓pick_ite, seval, FinQ, AS.result, resAll, resOne, tupV]
  have p1 := pick_a most 9 h1 (by omega)
  have q1 := pickI_range most 9 (by omega)
  generalize pickI most 9 = m1 at p1 q1
  obtain ⟨n1, rfl⟩ : ∃ n : Nat, m1 = n := ⟨m1.toNat, by omega⟩
  obtain ⟨a, b, ha, hb, hpf⟩ := onePair_a l hl hm (1 + n1) (by omega) (by omega)
  rw [show (((1 + n1 : Nat) : Int)) = 1 + (n1 : Int) by omega] at hpf
  obtain ⟨s, hsf, hok, hsl, hsz⟩ := bindsFrom_a l hl hm 3 (by omega) 90 4 (by omega) (by omega)
  obtain ⟨hpm, n, r, hr, hkind, hnone⟩ := none_all ha hb
  have hu := unify_yes hpm hr
  have o1 := onRef_a s a (by have := ha.siz; omega)
  have o2 := onRef_a s b (by have := hb.siz; omega)
  refine ac_metaprunetop_TopNone (Nat.le_of_ble_eq_true rfl) fun C hC => ?_
  unfold ir_metaprunetop_TopNone
  by_cases z1 : (a.on s).size ≤ 2000
  case neg =>
    have e1 : onTo s a = (Tm.nil, false) := by unfold onTo; rw [if_neg z1]
    rw [e1] at o1
    repeat' (first | (with_reducible first | refine Wa ?_ | refine Wb ?_ | refine Wc ?_ | refine Wd ?_ | refine We ?_ | refine Wf ?_ | refine Wg ?_ | refine Wh ?_ | refine Wi ?_ | refine Wj ?_ | refine Wk (by decide) ?_ | refine Wl ?_ | refine Wm ?_ | refine Wn ?_) | refine CallG.mk _ (p1) ?_ | refine CallG.mk _ (hpf) ?_ | refine CallG.mk _ (hu) ?_ | refine CallG.mk _ (hsf) ?_ | refine CallG.mk _ (o1) ?_ | refine CallG.mk _ (o2) ?_ | ((with_reducible first | refine Wo (fun K hK => ?_) | refine Wp ?_ | refine Wq ?_ | refine Wr ?_); (try simp only [go_sem, List.forall_mem_nil, ↓guard_ite, ↓pick_ite, seval, encT_eq, inR_i64, h0, encP, decide_eq_true_eq, decide_eq_false_iff_not, Int.ofNat_lt]); (repeat with_reducible refine And.intro (by first | omega | (with_reducible first | exact lens_encT | exact lens_encL | exact lens_encB | exact lens_encP) | (simp; done) | (simp only [List.length_take, List.length_map, List.length_append, maxLen_eq]; omega)) ?_); (try (with_reducible refine hK _ ?_; clear hK K)); (try with_reducible refine ite_conj ?_)))
    simp only [go_sem, List.forall_mem_nil, ↓guard_ite, ↓pick_ite, seval, FinQ, AS.result, resAll, resOne, tupV]
  have e1 : onTo s a = (a.on s, true) := by unfold onTo; rw [if_pos z1]
  rw [e1] at o1
  by_cases z2 : (b.on s).size ≤ 2000
  case neg =>
    have e2 : onTo s b = (Tm.nil, false) := by unfold onTo; rw [if_neg z2]
    rw [e2] at o2
    repeat' (first | (with_reducible first | refine Wa ?_ | refine Wb ?_ | refine Wc ?_ | refine Wd ?_ | refine We ?_ | refine Wf ?_ | refine Wg ?_ | refine Wh ?_ | refine Wi ?_ | refine Wj ?_ | refine Wk (by decide) ?_ | refine Wl ?_ | refine Wm ?_ | refine Wn ?_) | refine CallG.mk _ (p1) ?_ | refine CallG.mk _ (hpf) ?_ | refine CallG.mk _ (hu) ?_ | refine CallG.mk _ (hsf) ?_ | refine CallG.mk _ (o1) ?_ | refine CallG.mk _ (o2) ?_ | ((with_reducible first | refine Wo (fun K hK => ?_) | refine Wp ?_ | refine Wq ?_ | refine Wr ?_); (try simp only [go_sem, List.forall_mem_nil, ↓guard_ite, ↓pick_ite, seval, encT_eq, inR_i64, h0, encP, decide_eq_true_eq, decide_eq_false_iff_not, Int.ofNat_lt]); (repeat with_reducible refine And.intro (by first | omega | (with_reducible first | exact lens_encT | exact lens_encL | exact lens_encB | exact lens_encP) | (simp; done) | (simp only [List.length_take, List.length_map, List.length_append, maxLen_eq]; omega)) ?_); (try (with_reducible refine hK _ ?_; clear hK K)); (try with_reducible refine ite_conj ?_)))
    simp only [go_sem, List.forall_mem_nil, ↓guard_ite, ↓pick_ite, seval, FinQ, AS.result, resAll, resOne, tupV]
  have e2 : onTo s b = (b.on s, true) := by unfold onTo; rw [if_pos z2]
  rw [e2] at o2
  by_cases hr0 : r.2 = 0
  · rw [hr0] at hu
    repeat' (first | (with_reducible first | refine Wa ?_ | refine Wb ?_ | refine Wc ?_ | refine Wd ?_ | refine We ?_ | refine Wf ?_ | refine Wg ?_ | refine Wh ?_ | refine Wi ?_ | refine Wj ?_ | refine Wk (by decide) ?_ | refine Wl ?_ | refine Wm ?_ | refine Wn ?_) | refine CallG.mk _ (p1) ?_ | refine CallG.mk _ (hpf) ?_ | refine CallG.mk _ (hu) ?_ | refine CallG.mk _ (hsf) ?_ | refine CallG.mk _ (o1) ?_ | refine CallG.mk _ (o2) ?_ | refine CallG.mk _ (fact_a) ?_ | ((with_reducible first | refine Wo (fun K hK => ?_) | refine Wp ?_ | refine Wq ?_ | refine Wr ?_); (try simp only [go_sem, List.forall_mem_nil, ↓guard_ite, ↓pick_ite, seval, encT_eq, inR_i64, h0, encP, decide_eq_true_eq, decide_eq_false_iff_not, Int.ofNat_lt]); (repeat with_reducible refine And.intro (by first | omega | (with_reducible first | exact lens_encT | exact lens_encL | exact lens_encB | exact lens_encP) | (simp; done) | (simp only [List.length_take, List.length_map, List.length_append, maxLen_eq]; omega)) ?_); (try (with_reducible refine hK _ ?_; clear hK K)); (try with_reducible refine ite_conj ?_)))
    simp only [go_sem, List.forall_mem_nil, ↓guard_ite, ↓pick_ite, seval, FinQ, AS.result, resAll, resOne, tupV]
  have h56 : r.2 = 5 ∨ r.2 = 6 := by omega
  have h2 : ∃ e : Int, e ≠ 0 ∧ ACalls Try.prog 18 [aPrs [(a.on s, b.on s)]] (.tup [aBds [], aInt e]) := by
    by_cases hp2 : pairsMay [(a.on s, b.on s)] = 0
    · obtain ⟨n', r', hr'⟩ := uends_start hp2
      obtain ⟨k1, k2⟩ := hnone hr0 s hok hp2 n' r' hr'
      have := unify_yes hp2 hr'
      rw [k2] at this
      exact ⟨r'.2, k1, this⟩
    · exact ⟨_, hp2, unify_no hp2⟩
  obtain ⟨e, he, hu2⟩ := h2
  rcases h56 with h5 | h5
  · rw [h5] at hu
    repeat' (first | (with_reducible first | refine Wa ?_ | refine Wb ?_ | refine Wc ?_ | refine Wd ?_ | refine We ?_ | refine Wf ?_ | refine Wg ?_ | refine Wh ?_ | refine Wi ?_ | refine Wj ?_ | refine Wk (by decide) ?_ | refine Wl ?_ | refine Wm ?_ | refine Wn ?_) | refine CallG.mk _ (p1) ?_ | refine CallG.mk _ (hpf) ?_ | refine CallG.mk _ (hu) ?_ | refine CallG.mk _ (hsf) ?_ | refine CallG.mk _ (o1) ?_ | refine CallG.mk _ (o2) ?_ | refine CallG.mk _ (hu2) ?_ | refine CallG.mk _ (fact_a) ?_ | ((with_reducible first | refine Wo (fun K hK => ?_) | refine Wp ?_ | refine Wq ?_ | refine Wr ?_); (try simp only [go_sem, List.forall_mem_nil, ↓guard_ite, ↓pick_ite, seval, encT_eq, inR_i64, h0, encP, he, decide_eq_true_eq, decide_eq_false_iff_not, Int.ofNat_lt]); (repeat with_reducible refine And.intro (by first | omega | (with_reducible first | exact lens_encT | exact lens_encL | exact lens_encB | exact lens_encP) | (simp; done) | (simp only [List.length_take, List.length_map, List.length_append, maxLen_eq]; omega)) ?_); (try (with_reducible refine hK _ ?_; clear hK K)); (try with_reducible refine ite_conj ?_)))
    simp only [go_sem, List.forall_mem_nil, ↓guard_ite, ↓pick_ite, seval, FinQ, AS.result, resAll, resOne, tupV]
  · rw [h5] at hu
    repeat' (first | (with_reducible first | refine Wa ?_ | refine Wb ?_ | refine Wc ?_ | refine Wd ?_ | refine We ?_ | refine Wf ?_ | refine Wg ?_ | refine Wh ?_ | refine Wi ?_ | refine Wj ?_ | refine Wk (by decide) ?_ | refine Wl ?_ | refine Wm ?_ | refine Wn ?_) | refine CallG.mk _ (p1) ?_ | refine CallG.mk _ (hpf) ?_ | refine CallG.mk _ (hu) ?_ | refine CallG.mk _ (hsf) ?_ | refine CallG.mk _ (o1) ?_ | refine CallG.mk _ (o2) ?_ | refine CallG.mk _ (hu2) ?_ | refine CallG.mk _ (fact_a) ?_ | ((with_reducible first | refine Wo (fun K hK => ?_) | refine Wp ?_ | refine Wq ?_ | refine Wr ?_); (try simp only [go_sem, List.forall_mem_nil, ↓guard_ite, ↓pick_ite, seval, encT_eq, inR_i64, h0, encP, he, decide_eq_true_eq, decide_eq_false_iff_not, Int.ofNat_lt]); (repeat with_reducible refine And.intro (by first | omega | (with_reducible first | exact lens_encT | exact lens_encL | exact lens_encB | exact lens_encP) | (simp; done) | (simp only [List.length_take, List.length_map, List.length_append, maxLen_eq]; omega)) ?_); (try (with_reducible refine hK _ ?_; clear hK K)); (try with_reducible refine ite_conj ?_)))
    simp only [go_sem, List.forall_mem_nil, ↓guard_ite, ↓pick_ite, seval, FinQ, AS.result, resAll, resOne, tupV]
end Go.Proofs.Ytohgkbgpcnmdpaa

namespace Go.Proofs.Ytohgkbgpcnmdpaa
open Go Go.RowKit Go.ChangeShapes Go.WideShapes Go.ChangeAt
set_option maxHeartbeats 400000
set_option linter.unusedVariables false
section
variable {H : Type} {enc : TypeId × Value → H} {P : Program}
theorem trodAll_stays (hl : laidOutB P = true) : ∀ {ts : List TypeId} {vs : List Value} {ds : List (DataW H)} {ps : List MemPlace} {W W' : World} {sp : Nat → Bool},
    (∀ t ∈ ts, P.readableRec t = true ∧ t < P.types.size) → DataW.TrodAll enc P W 0 (fun _ => true) true ts vs ds ps → (∀ p ∈ ps, W.sameAt W' p) → (∀ p ∈ ps, sp p.block = true) → DataW.TrodAll enc P W' 0 sp true ts vs ds ps
  | [], [], [], _, _, _, _, _, h, _, _ => h
  | _ :: _, _ :: _, _ :: _, _, _, _, _, hT, ⟨p, q, h1, h2, e⟩, hsame, hs => ⟨p, q, WideElems.Trod_stays hl (hT _ (List.mem_cons.2 (Or.inl rfl))).1 (hT _ (List.mem_cons.2 (Or.inl rfl))).2 h1 (fun x hx => hsame x (by rw [e]; exact List.mem_append_left _ hx)) (fun x hx => hs x (by rw [e]; exact List.mem_append_left _ hx)),
      trodAll_stays hl (fun t ht => hT t (List.mem_cons.2 (Or.inr ht))) h2 (fun x hx => hsame x (by rw [e]; exact List.mem_append_right _ hx)) (fun x hx => hs x (by rw [e]; exact List.mem_append_right _ hx)), e⟩
  | [], _ :: _, _, _, _, _, _, _, h, _, _ => h.elim
  | [], [], _ :: _, _, _, _, _, _, h, _, _ => h.elim
  | _ :: _, [], _, _, _, _, _, _, h, _, _ => h.elim
  | _ :: _, _ :: _, [], _, _, _, _, _, h, _, _ => h.elim
theorem law_post {f : Func} {s : ChangeSpec} {apart fresh handsOn : Bool} {W W' : World} {args : Array Value} {ds : List (DataW H)} {before : List MemPlace} {tb : TypeId}
    (hW : DataW.Whole enc P f.params.toList s.vars apart W args.toList ds [] before) (hv : s.vars = []) (hr : f.resultTypes = #[tb]) (htb : P.underlying tb = some .bool)
    (hres : (s.fn H (ds ++ [])).results = [.lit (.bool true)]) (hargs : (s.fn H (ds ++ [])).args = ds) (hvs : (s.fn H (ds ++ [])).vars = [])
    (hl : laidOutB P = true) (hT : (f.params.toList.all fun t => P.readableRec t && decide (t < P.types.size)) = true) (hb : Below W.heap.size W W') :
    s.post enc P f apart fresh handsOn false W args (.bool true) W' := by
  have hlt : ∀ p ∈ before, p.block < W.heap.size := fun p hp => hW.lt p hp
  have hT' : ∀ t ∈ f.params.toList, P.readableRec t = true ∧ t < P.types.size := fun t ht => by
    have := List.all_eq_true.1 hT t ht
    simpa using this
  obtain ⟨p, q, hA, hV, rfl, hz, hn⟩ := hW
  rw [hv] at hV
  obtain ⟨_, rfl⟩ := trodVars_none hV
  have hargs' : ∀ sp : Nat → Bool, (∀ x ∈ p, sp x.block = true) → DataW.TrodAll enc P W' 0 sp true f.params.toList args.toList ds p := fun sp hsp =>
    trodAll_stays hl hT' hA (fun x hx => hb.same (hlt x (by simpa using hx))) hsp
  have hres' : ∀ (b : Nat) (sp : Nat → Bool) (hd : Bool), DataW.TrodAll enc P W' b sp hd f.resultTypes.toList ((Value.bool true).resultList f.resultTypes.size) (s.fn H (ds ++ [])).results [] := fun b sp hd => by
    rw [hres, hr]
    exact trodAll_cons_mk (shut_bool htb true) trodAll_mk0
  refine ⟨ds, [], p ++ [], [], p, [], ⟨p, [], hA, by rw [hv]; exact rfl, rfl, hz, hn⟩, hres' _ _ _, by rw [hargs]; exact hargs' _ (fun x hx => by simpa using hlt x (by simpa using hx)), by rw [hv, hvs]; exact rfl,
    World.keptBut_mono (fun x hx => ⟨hx, Or.inr (by simpa using hx)⟩) (hb.frame (· ∈ p ++ [])), fun h => by cases h⟩
variable {W : World} {sp : Nat → Bool} {hd : Bool} {base : Nat}
def sto (W : World) : Sto := look W
theorem fit_sto (W : World) : Fit (sto W) W := fun _ _ h => h
theorem spot_none {W : World} {a : Addr} {v : Value} (h : W.cell? a = some v) : a.spot = none := by
  cases hs : a.spot with
  | none => rfl
  | some n =>
    unfold World.cell? at h
    split at h
    · simp [hs] at h
    · cases h
theorem choose_list {α : Type} {p : Nat → α → Prop} {n : Nat} (h : ∀ i, i < n → ∃ b, p i b) : ∃ xs : List α, xs.length = n ∧ ∀ i (h : i < xs.length), p i xs[i] := by
  induction n with
  | zero => exact ⟨[], rfl, fun i h => absurd h (by simp)⟩
  | succ m ih =>
    obtain ⟨xs, h1, h2⟩ := ih (fun i hi => h i (by omega))
    obtain ⟨b, h3⟩ := h m (by omega)
    refine ⟨xs ++ [b], by simp [h1], fun i hi => ?_⟩
    by_cases him : i < xs.length
    · rw [List.getElem_append_left him]
      exact h2 i him
    · have : i = xs.length := by simp at hi; omega
      subst this
      rw [show (xs ++ [b])[xs.length]'hi = b by simp, h1]
      exact h3
theorem list_of_trod {α : Type} {e0 : α → List SV} {t e : TypeId} {k : Nat} {fuel : Nat} {cs : List Value} {x : DataW H × List MemPlace} (ht : P.underlying t = some (.slice e)) (hc : P.cellsOf e = k) (hlen : ∀ a, (e0 a).length = k) (hk : 0 < k)
    (f : ∀ (n : Nat) (cs : List Value) (y : DataW H × List MemPlace), n < fuel → DataW.trod enc P W base sp hd n e cs = some y → ∃ a : α, All2 (SRep (sto W)) cs (e0 a))
    (h : DataW.trod enc P W base sp hd fuel t cs = some x) (hs : hardRows = true → k < 2 := by decide) : ∃ xs : List α, All2 (SRep (sto W)) cs [.list (xs.map e0)] := by
  rcases DataW.trod_slice ht h with ⟨rfl, _⟩ | ⟨a, len, cap, elems, rest, n, hfu, rfl, _, hb, hl, hm, hlen', hel, _, _⟩
  · exact ⟨[], .cons srep_nil .nil⟩
  · have key : ∀ i, i < len → ∃ (b : α), ∃ (cs' : List Value), cs'.length = k ∧ (∀ j u, cs'[j]? = some u → W.cell? ((a.add (i * k)).add j) = some u) ∧ All2 (SRep (sto W)) cs' (e0 b) := fun i hi => by
      have h1 := hel i hi
      rw [List.getElem?_eq_getElem (by omega)] at h1
      obtain ⟨cs', h2, h3⟩ := Option.bind_eq_some_iff.1 h1
      obtain ⟨_, h4, h5⟩ := World.cells?_some h2
      obtain ⟨b, hb⟩ := f n cs' _ (by omega) h3
      rw [hc] at h4 h5
      refine ⟨b, cs', h4, fun j u hj => ?_, hb⟩
      rw [h5 j (by have := (List.getElem?_eq_some_iff.1 hj).1; omega)]
      exact hj
    obtain ⟨xs, hxl, hxs⟩ : ∃ xs : List α, xs.length = len ∧ ∀ i (h : i < xs.length), ∃ cs' : List Value, cs'.length = k ∧ (∀ j u, cs'[j]? = some u → W.cell? ((a.add (i * k)).add j) = some u) ∧ All2 (SRep (sto W)) cs' (e0 xs[i]) := choose_list key
    have cell : ∀ m y j z, (xs.map e0)[m]? = some y → y[j]? = some z → ∃ v, W.cell? ⟨a.block, a.off + m * k + j, none⟩ = some v ∧ SRep (sto W) v z := fun m y j z hy hz => by
      rw [List.getElem?_map, Option.map_eq_some_iff] at hy
      obtain ⟨b, hb', rfl⟩ := hy
      obtain ⟨hm', hbe⟩ := List.getElem?_eq_some_iff.1 hb'
      obtain ⟨cs', c1, c2, c3⟩ := hxs m hm'
      rw [hbe] at c3
      obtain ⟨v, v1, v2⟩ := c3.get hz
      refine ⟨v, ?_, v2⟩
      have := c2 j v v1
      have hsp := spot_none this
      rw [← this]
      congr 1
      have h7 : ((a.add (m * k)).add j).block = a.block ∧ ((a.add (m * k)).add j).off = a.off + m * k + j := by
        unfold Addr.add
        split <;> split <;> simp_all
      generalize (a.add (m * k)).add j = q at *
      cases q
      simp_all
    refine ⟨xs, .cons (.list (b := a.block) (o := a.off) (w := k) (fun m j => (W.cell? ⟨a.block, a.off + m * k + j, none⟩).getD undef) (by simp [hxl]) hl hm (by simp) (fun h0 => ?_) (fun y hy => ?_) (fun q1 q2 _ => absurd (hs q1) (by omega)) (fun m y j z hy hz => ?_) (fun m y j z hy hz => ?_)) .nil⟩
    · obtain ⟨cs', h1, h2, h3⟩ := hxs 0 (by omega)
      have h4 : W.cell? a = some (cs'[0]'(by omega)) := by
        have := h2 0 _ (List.getElem?_eq_getElem (by omega))
        simpa [Addr.add] using this
      have := spot_none h4
      cases a
      simp_all
    · obtain ⟨b, _, rfl⟩ := List.mem_map.1 hy
      exact hlen b
    · obtain ⟨v, v1, v2⟩ := cell m y j z hy hz
      show W.cell? _ = _
      rw [v1]; rfl
    · obtain ⟨v, v1, v2⟩ := cell m y j z hy hz
      rw [v1]; exact v2
theorem int_trod {t : TypeId} (ht : P.underlying t = some (.int .i64)) (fuel : Nat) (cs : List Value) (x : DataW H × List MemPlace) (h : DataW.trod enc P W base sp hd fuel t cs = some x) : ∃ n : Int, All2 (SRep (sto W)) cs (encI n) := by
  obtain ⟨n, rfl, _, hn⟩ := DataW.trod_int ht h
  exact ⟨n, .cons (.int (by rw [inR_i64]; simpa [Lit.wf, IntKind.min, IntKind.max, IntKind.signed, IntKind.bits] using hn)) .nil⟩
theorem arg_int {t : TypeId} (ht : P.underlying t = some (.int .i64)) {r : Reach} {b0 : Nat} {v : Value} {d : DataW H} {p : List MemPlace} (hv : Value.okWide P W r b0 t v) (h : DataW.Trod enc P W base sp hd t v d p) : ∃ n : Int, VRep (sto W) noS noH v (aInt n) := by
  obtain ⟨n, rfl⟩ := okWide_int ht hv
  obtain ⟨fuel, hf⟩ := h
  obtain ⟨m, hm⟩ := int_trod ht fuel _ _ hf
  have : All2 (SRep (sto W)) [.int .i64 n] (encI m) := hm
  cases this with
  | cons h1 h2 => exact ⟨m, .one (.st h1)⟩
theorem arg_list {α : Type} {e0 : α → List SV} {t e : TypeId} {k : Nat} (ht : P.underlying t = some (.slice e)) (hc : P.cellsOf e = k) (hlen : ∀ a, (e0 a).length = k) (hk : 0 < k) {r : Reach} {b0 : Nat} {v : Value} {d : DataW H} {p : List MemPlace} (hv : Value.okWide P W r b0 t v)
    (f : ∀ (n : Nat) (cs : List Value) (y : DataW H × List MemPlace), DataW.trod enc P W base sp hd n e cs = some y → ∃ a : α, All2 (SRep (sto W)) cs (e0 a)) (h : DataW.Trod enc P W base sp hd t v d p) (hs : hardRows = true → k < 2 := by decide) : ∃ xs : List α, VRep (sto W) noS noH v (.one (.st (.list (xs.map e0)))) := by
  obtain ⟨a, len, cap, rfl⟩ := okWide_slice ht hv
  obtain ⟨fuel, hf⟩ := h
  obtain ⟨xs, hxs⟩ := list_of_trod ht hc hlen hk (fun n cs y _ hy => f n cs y hy) hf hs
  have : All2 (SRep (sto W)) [.slice a len cap] [.list (xs.map e0)] := hxs
  cases this with
  | cons h1 h2 => exact ⟨xs, .one (.st h1)⟩
end
theorem globIn_nil {σ : Sto} (h : globs = [] := by rfl) : GlobIn σ := fun x hx => by simp [h] at hx
theorem acalls_true {P : Program} {f : FuncId} {xs : List AV} {b : Bool} (h : ACalls P f xs (aBool b)) {σ : Sto} {w : World} {vs : List Value} (hg : GlobIn σ) (hf : Fit σ w) (hv : All2 (VRep σ noS noH) vs xs) :
    Calls P f vs.toArray w fun e w' => e = .returned (.bool b) ∧ Below w.heap.size w w' := (h σ w vs hg hf hv).mono fun e w' ⟨v, σ', he, hv, _, _, hb⟩ => by
  rw [vrep_bool hv] at he
  exact ⟨he, hb⟩
end Go.Proofs.Ytohgkbgpcnmdpaa

namespace Go.Proofs.Ytohgkbgpcnmdpaa
open Go Go.RowKit Go.ChangeShapes Go.WideShapes Go.ChangeAt
set_option maxHeartbeats 400000
set_option linter.unusedVariables false
section
variable {H : Type} {enc : TypeId × Value → H} {W : World} {sp : Nat → Bool} {hd : Bool} {base : Nat}
set_option maxRecDepth 100000 in
theorem arg_ints {r : Reach} {b0 : Nat} {v : Value} {d : DataW H} {p : List MemPlace} (hv : Value.okWide Try.prog W r b0 30 v) (h : DataW.Trod enc Try.prog W base sp hd 30 v d p) : ∃ l : List Int, VRep (sto W) noS noH v (aInts l) :=
  arg_list (k := 1) Try.underlying30 (by kernel_rfl) (fun _ => rfl) (by decide) hv (int_trod Try.underlying3) h
end
end Go.Proofs.Ytohgkbgpcnmdpaa

namespace Go.Proofs.Ytohgkbgpcnmdpaa.topNone
open Go Go.RowKit Go.ChangeShapes Go.WideShapes Go.ChangeAt
set_option linter.unusedVariables false
theorem own : ownKnob Try.prog.godebug = none := by kernel_rfl
theorem laid : laidOutB Try.prog = true := by kernel_rfl
set_option maxRecDepth 100000 in
theorem contract (H : Type) (enc : TypeId × Value → H) (W : World) (base : Nat) (args : Array Value) (ds gs : List (DataW H)) (before : List MemPlace)
    (hval : ∀ (j : Nat) t v, Try.f5.params[j]? = some t → args[j]? = some v → Value.okWide Try.prog W .any base t v)
    (hW : DataW.Whole enc Try.prog Try.f5.params.toList Rows.topNoneSpec.vars false W args.toList ds gs before) :
    Calls Try.prog 5 args W fun e W' => ∃ v, e = .returned v ∧ Rows.topNoneSpec.post enc Try.prog Try.f5 false true false false W args v W' := by
  obtain ⟨p, q, hA0, hV, rfl, hfz, hnd⟩ := id hW
  obtain ⟨rfl, rfl⟩ := trodVars_none hV
  have hA : DataW.TrodAll enc Try.prog W 0 (fun _ => true) true Try.f5.params.toList args.toList ds p := hA0
  rw [Try.params5] at hA hval
  obtain ⟨v0, v1, d0, d1, p0, p1, hargs, rfl, rfl, h0, h1⟩ := trodAll_two hA
  obtain rfl : args = #[v0, v1] := by cases args; simp_all
  obtain ⟨l, r0⟩ := arg_ints (hval 0 30 v0 rfl rfl) h0
  obtain ⟨m1, r1⟩ := arg_int Try.underlying3 (hval 1 3 v1 rfl rfl) h1
  have k0 := known_ints r0.known
  refine (acalls_true (topNone_a l m1 k0.2 k0.1 r1.known) globIn_nil (fit_sto W) (vs := [v0, v1]) (.cons r0 (.cons r1 .nil))).mono fun e W' ⟨he, hb⟩ => ⟨_, he, ?_⟩
  exact law_post hW rfl rfl Try.underlying4 rfl rfl rfl laid (by kernel_rfl) hb
set_option maxRecDepth 100000 in
theorem lifted (os : Os) (started : os.Started) (H : Type) (enc : TypeId × Value → H) :
    ReturnsInHanded {} Try.checked os 5 .any (Rows.topNoneSpec.pre6 enc Try.prog Try.f5 Rows.topNoneRow.domain false) (Rows.topNoneSpec.post enc Try.prog Try.f5 false true false false) := by
  refine returnsInHanded_of_change (C := Try.checked) own started (by kernel_rfl) Try.func5
    (ChangeSpec.witness6 (enc := enc) (C := Try.checked) false ⟨#[], #[.slice none 0 0, .int .i64 0], []⟩ 8 (by kernel_rfl) (by kernel_rfl) (by kernel_rfl) (by kernel_rfl)) ?_
  intro W base args ds gs before hval hW _ _
  exact contract H enc W base args ds gs before hval hW
theorem proved : Rows.TopNoneSaid :=
  OpenClaim.holds_of_wide 5 Try.f5 rfl rfl rfl rfl rfl rfl rfl ⟨rfl, rfl, rfl, rfl, rfl⟩ rfl rfl rfl rfl rfl (by kernel_rfl) Try.func5 (by kernel_rfl)
    (of_decide_eq_true (by kernel_rfl)) (by unfold Func.isWrapper; first | (rw [if_pos (by decide +kernel)]; kernel_rfl) | (rw [if_neg (by decide +kernel)]; exact ⟨rfl, rfl⟩))
    (fun os started H enc _ => lifted os started H enc)
end Go.Proofs.Ytohgkbgpcnmdpaa.topNone
