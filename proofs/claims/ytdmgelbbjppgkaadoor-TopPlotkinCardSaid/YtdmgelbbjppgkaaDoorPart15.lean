/-
  Part 15 of the texts: BItoa; IrSameT; BSameT; BEnds; PGen2; PCanon. Conditions: none.
-/
import Derived.Test.YtdmgelbbjppgkaaDoorPart14
import Derived.Lib.AppendIntMem
import Derived.Lib.ItoaLen
import Derived.Lib.ItoaMem
namespace Go.Proofs.YtdmgelbbjppgkaaDoor
open Go Go.RowKit
set_option linter.unusedVariables false
set_option linter.unusedSimpArgs false
set_option maxHeartbeats 1000000

theorem one_arg {σ : Sto} {vs : List Value} {x : AV} (h : All2 (VRep σ noS noH) vs [x]) : ∃ v, vs = [v] ∧ VRep σ noS noH v x := by
  cases h with
  | cons h1 h2 =>
    cases h2
    exact ⟨_, rfl, h1⟩
theorem itoa_a (n : Nat) (hn : n < 1000000) : ACalls Tryd.prog 49 [aInt n] (aStr (decS n)) := by
  intro σ w vs hG hF hv
  obtain ⟨v, rfl, h1⟩ := one_arg hv
  obtain ⟨rfl, hin⟩ := vrep_int h1
  have ht : Lib.TabIs Tryd.prog w "internal/strconv.uint64pow10" .u64 Lib.pow10Tab := hG.ints hF (g := 0) (by kernel_rfl) (by kernel_rfl)
  refine (Any.strconv_Itoa Tryd.laysM171 n (by omega) (by omega) w ht).mono fun e w' ⟨he, k, os, hw⟩ => ?_
  have hb : Below w.heap.size w w' := by
    rw [hw]
    exact Lib.below_grow _ _ (Nat.le_refl _) _ _
  have hd : (⟨(Lib.itoa (n : Int)).toArray⟩ : ByteArray) = decS n := by rw [Lib.itoa_nonneg]; rfl
  rw [hd] at he
  refine ⟨_, σ, he, .one (.st (.str ?_)), hF.below hb, Ext.refl _ _, hb⟩
  have := decS_size_le hn
  rw [maxLen_eq]
  omega
theorem decR_a (n : Nat) (hn : n < 1000000) : ACalls Tryd.prog 9 [aInt n] (aStr (decS n)) := by
  induction n using Nat.strongRecOn with
  | _ n ih =>
  refine ac_R_Dec (Nat.le_of_ble_eq_true rfl) fun C hC => ?_
  unfold ir_R_Dec
  by_cases h : (n : Int) < 10
  · have hb : bytesOf [[SV.int .u8 (48 + (n : Int))]] = some [48 + (n : Int)] := rfl
    have hr : inR .u8 (48 + (n : Int)) := by simp [inR, IntKind.min, IntKind.max, IntKind.signed, IntKind.bits]; omega
    have hs : strOfNums [48 + (n : Int)] = decS n := by
      rw [decS_small (by omega)]
      unfold strOfNums
      have e : (48 + (n : Int)).toNat = 48 + n := by omega
      simp only [List.map_cons, List.map_nil, e]
    repeat' (first | (with_reducible first | refine Wa ?_ | refine Wb ?_ | refine Wc ?_ | refine Wd ?_ | refine We ?_ | refine Wf ?_ | refine Wg ?_ | refine Wh ?_ | refine Wi ?_ | refine Wj ?_ | refine Wk (by decide) ?_ | refine Wl ?_ | refine Wm ?_ | refine Wn ?_) | ((with_reducible first | refine Wo (fun K hK => ?_) | refine Wp ?_ | refine Wq ?_ | refine Wr ?_); (try simp only [go_sem, List.forall_mem_nil, ↓guard_ite, ↓pick_ite, seval, encT_eq, inR_i64, h, hb, hr, hs, decide_eq_true_eq, decide_eq_false_iff_not, Int.ofNat_lt]); (repeat with_reducible refine And.intro (by first | omega | (with_reducible first | exact lens_encT | exact lens_encL | exact lens_encB | exact lens_encP) | (simp; done) | (simp only [List.length_take, List.length_map, List.length_append, maxLen_eq]; omega)) ?_); (try (with_reducible refine hK _ ?_; clear hK K)); (try with_reducible refine ite_conj ?_)))
    simp only [go_sem, List.forall_mem_nil, ↓guard_ite, ↓pick_ite, seval, FinQ, AS.result, resAll, resOne, tupV]
  · have q1 : (n : Int).tdiv 10 = ((n / 10 : Nat) : Int) := by rw [Int.tdiv_eq_ediv_of_nonneg (by omega)]; omega
    have q2 : (n : Int).tmod 10 = ((n % 10 : Nat) : Int) := by rw [Int.tmod_eq_emod_of_nonneg (by omega)]; omega
    have h1 := ih (n / 10) (by omega) (by omega)
    have h2 := ih (n % 10) (by omega) (by omega)
    have z1 := decS_size_le (n := n / 10) (by omega)
    have z2 := decS_size_le (n := n % 10) (by omega)
    repeat' (first | (with_reducible first | refine Wa ?_ | refine Wb ?_ | refine Wc ?_ | refine Wd ?_ | refine We ?_ | refine Wf ?_ | refine Wg ?_ | refine Wh ?_ | refine Wi ?_ | refine Wj ?_ | refine Wk (by decide) ?_ | refine Wl ?_ | refine Wm ?_ | refine Wn ?_) | refine CallG.mk _ (h1) ?_ | refine CallG.mk _ (h2) ?_ | ((with_reducible first | refine Wo (fun K hK => ?_) | refine Wp ?_ | refine Wq ?_ | refine Wr ?_); (try simp only [go_sem, List.forall_mem_nil, ↓guard_ite, ↓pick_ite, seval, encT_eq, inR_i64, h, q1, q2, decide_eq_true_eq, decide_eq_false_iff_not, Int.ofNat_lt]); (repeat with_reducible refine And.intro (by first | omega | (with_reducible first | exact lens_encT | exact lens_encL | exact lens_encB | exact lens_encP) | (simp; done) | (simp only [List.length_take, List.length_map, List.length_append, maxLen_eq]; omega)) ?_); (try (with_reducible refine hK _ ?_; clear hK K)); (try with_reducible refine ite_conj ?_)))
    simp only [go_sem, List.forall_mem_nil, ↓guard_ite, ↓pick_ite, seval, FinQ, AS.result, resAll, resOne, tupV]
    rw [decS_big (n := n) (by omega)]
theorem genName_a (k : Nat) (hk : k + 1 < 1000000) : ACalls Tryd.prog 29 [aInt k] (aStr (zName k)) := by
  have h := itoa_a (k + 1) hk
  rw [show (((k + 1 : Nat) : Int)) = (k : Int) + 1 by omega] at h
  have z := decS_size_le hk
  have z1 : (⟨#[90]⟩ : ByteArray).size = 1 := rfl
  refine ac_general_name (Nat.le_of_ble_eq_true rfl) fun C hC => ?_
  unfold ir_general_name
  repeat' (first | (with_reducible first | refine Wa ?_ | refine Wb ?_ | refine Wc ?_ | refine Wd ?_ | refine We ?_ | refine Wf ?_ | refine Wg ?_ | refine Wh ?_ | refine Wi ?_ | refine Wj ?_ | refine Wk (by decide) ?_ | refine Wl ?_ | refine Wm ?_ | refine Wn ?_) | refine CallG.mk _ (h) ?_ | ((with_reducible first | refine Wo (fun K hK => ?_) | refine Wp ?_ | refine Wq ?_ | refine Wr ?_); (try simp only [go_sem, List.forall_mem_nil, ↓guard_ite, ↓pick_ite, seval, encT_eq, inR_i64, z1, decide_eq_true_eq, decide_eq_false_iff_not, Int.ofNat_lt]); (repeat with_reducible refine And.intro (by first | omega | (with_reducible first | exact lens_encT | exact lens_encL | exact lens_encB | exact lens_encP) | (simp; done) | (simp only [List.length_take, List.length_map, List.length_append, maxLen_eq]; omega)) ?_); (try (with_reducible refine hK _ ?_; clear hK K)); (try with_reducible refine ite_conj ?_)))
  simp only [go_sem, List.forall_mem_nil, ↓guard_ite, ↓pick_ite, seval, FinQ, AS.result, resAll, resOne, tupV]
  rfl
end Go.Proofs.YtdmgelbbjppgkaaDoor

namespace Go.Proofs.YtdmgelbbjppgkaaDoor
open Go Go.RowKit
set_option maxRecDepth 100000

def ir_slices_EqualFunc_metaprune_api_Term_metaprune_api_Term_metaprune_api_Term_metaprune_api_Term : IR :=
  (.seq
  (.ops
  [.mk (some 6) none (.mov (.c (.one (.st (.bool false)))))
  .no])
  (.seq
  (.seq
  (.ops
  [.mk (some 10) none (.mov (.t 0)) .no, .mk (some 11) none (.len false (.t 10)) .no, .mk (some 12) none (.mov (.t 1)) .no, .mk (some 13) none (.len false (.t 12)) .no, .mk (some 14) none (.bin .neq (.t 11) (.t 13))
  .no])
  (.cond (.t 14)
  (.seq
  (.ops
  [.mk (some 6) none (.mov (.c (.one (.st (.bool false)))))
  .no])
  .ret)
  .skip))
  (.seq
  (.seq
  (.ops
  [.mk (some 15) none (.mov (.t 0)) .no, .mk (some 16) none (.len false (.t 15)) .no, .mk (some 17) none (.mov (.c (.one (.st (.int .i64 0)))))
  .no])
  (.block 0
  (.loop
  (.seq
  (.ops
  [.mk (some 18) none (.bin .lss (.t 17) (.t 16))
  .no])
  (.seq (.cond (.t 18) .skip (.exit 0))
  (.seq
  (.block 1
  (.seq
  (.ops
  [.mk (some 19) none (.mov (.t 17)) .no, .mk (some 20) none (.indexAddr 2 (.t 15) (.t 17))
  .no, .mk (some 21) none (.load true 2 (.t 20)) .no, .mk (some 8) none
  (.alloc 24 [.st (.str (ByteArray.mk (#[]))), .full []])
  .no, .mk (some 7) none (.mov (.t 19)) .no, .mk none none (.store 2 (.t 8) (.t 21))
  .no])
  (.seq
  (.ops
  [.mk (some 22) none (.mov (.t 1)) .no, .mk (some 23) none (.mov (.t 7)) .no, .mk (some 24) none (.indexAddr 2 (.t 22) (.t 23))
  .no, .mk (some 25) none (.load true 2 (.t 24)) .no, .mk (some 9) none
  (.alloc 24 [.st (.str (ByteArray.mk (#[]))), .full []])
  .no, .mk none none (.store 2 (.t 9) (.t 25))
  .no])
  (.seq
  (.ops
  [.mk (some 26) none (.mov (.t 2)) .no, .mk (some 27) none (.load true 2 (.t 8))
  .no, .mk (some 28) none (.load true 2 (.t 9))
  .no, .mk (some 29) none
  (.callV (.t 26) [.t 27, .t 28])
  .no, .mk (some 30) none (.un .not (.t 29))
  .no])
  (.cond (.t 30)
  (.seq
  (.ops
  [.mk (some 6) none (.mov (.c (.one (.st (.bool false)))))
  .no])
  .ret)
  .skip)))))
  (.ops
  [.mk (some 31) none (.bin .add (.t 17) (.c (.one (.st (.int .i64 1)))))
  .no, .mk (some 17) none (.mov (.t 31)) .no])))))))
  (.seq
  (.ops
  [.mk (some 6) none (.mov (.c (.one (.st (.bool true)))))
  .no])
  .ret))))
theorem tr_slices_EqualFunc_metaprune_api_Term_metaprune_api_Term_metaprune_api_Term_metaprune_api_Term : trCode Tryd.prog 32 [] (Tryd.f62.body.getD .skip) = some ir_slices_EqualFunc_metaprune_api_Term_metaprune_api_Term_metaprune_api_Term_metaprune_api_Term := by kernel_rfl
theorem ac_slices_EqualFunc_metaprune_api_Term_metaprune_api_Term_metaprune_api_Term_metaprune_api_Term {xs : List AV} {r : AV} (hn : xs.length ≤ 32) (h : ∀ C : Ctx, C.n = 32 → IWP Tryd.prog C [] ir_slices_EqualFunc_metaprune_api_Term_metaprune_api_Term_metaprune_api_Term_metaprune_api_Term (FinQ [.t 6] r) (AS.start xs)) : ACalls Tryd.prog 62 xs r :=
  acalls_of Tryd.func62 rfl tr_slices_EqualFunc_metaprune_api_Term_metaprune_api_Term_metaprune_api_Term_metaprune_api_Term rfl hn h
theorem acS_slices_EqualFunc_metaprune_api_Term_metaprune_api_Term_metaprune_api_Term_metaprune_api_Term {xs : List AV} {S S' : AStore} {r : AV} (hn : xs.length ≤ 32) (h : Clean S → ∀ C : Ctx, C.n = 32 → IWP Tryd.prog C [] ir_slices_EqualFunc_metaprune_api_Term_metaprune_api_Term_metaprune_api_Term_metaprune_api_Term (FinS C [.t 6] r S') (AS.startS xs S)) : ACallsS Tryd.prog 62 xs S r S' :=
  acallsS_of Tryd.func62 rfl tr_slices_EqualFunc_metaprune_api_Term_metaprune_api_Term_metaprune_api_Term_metaprune_api_Term rfl hn h

def ir_term_Same : IR :=
  (.seq
  (.ops
  [.mk (some 2) none (.box 24 (.t 0)) .no, .mk (some 3) none (.box 24 (.t 1)) .no, .mk (some 4) none (.mov (.c (.one (.st (.bool false)))))
  .no])
  (.seq
  (.ops
  [.mk (some 5) none (.fieldAddr 0 (.t 2)) .no, .mk (some 6) none (.load false 1 (.t 5)) .no, .mk (some 7) none (.fieldAddr 0 (.t 3)) .no, .mk (some 8) none (.load false 1 (.t 7)) .no, .mk (some 9) none (.bin .eql (.t 6) (.t 8))
  .no, .mk (some 10) none (.mov (.t 9)) .no, .mk (some 11) (some (10, true)) (.fieldAddr 1 (.t 2)) .no, .mk (some 12) (some (10, true)) (.load false 1 (.t 11)) .no, .mk (some 13) (some (10, true)) (.fieldAddr 1 (.t 3)) .no, .mk (some 14) (some (10, true)) (.load false 1 (.t 13)) .no, .mk (some 15) (some (10, true)) (.call 62
  [.t 12, .t 14, .c (.one (.fn 48 []))])
  .no, .mk (some 16) none
  (.pick (.t 10) (.t 15) (.c (.one (.st (.bool false)))))
  .no, .mk (some 4) none (.mov (.t 16)) .no])
  .ret))
theorem tr_term_Same : trCode Tryd.prog 17 [] (Tryd.f48.body.getD .skip) = some ir_term_Same := by kernel_rfl
theorem ac_term_Same {xs : List AV} {r : AV} (hn : xs.length ≤ 17) (h : ∀ C : Ctx, C.n = 17 → IWP Tryd.prog C [] ir_term_Same (FinQ [.t 4] r) (AS.start xs)) : ACalls Tryd.prog 48 xs r :=
  acalls_of Tryd.func48 rfl tr_term_Same rfl hn h
theorem acS_term_Same {xs : List AV} {S S' : AStore} {r : AV} (hn : xs.length ≤ 17) (h : Clean S → ∀ C : Ctx, C.n = 17 → IWP Tryd.prog C [] ir_term_Same (FinS C [.t 4] r S') (AS.startS xs S)) : ACallsS Tryd.prog 48 xs S r S' :=
  acallsS_of Tryd.func48 rfl tr_term_Same rfl hn h

end Go.Proofs.YtdmgelbbjppgkaaDoor

namespace Go.Proofs.YtdmgelbbjppgkaaDoor
open Go Go.RowKit
set_option linter.unusedVariables false
set_option linter.unusedSimpArgs false
set_option maxHeartbeats 800000

theorem Tm.beqL_no {xs ys : List Tm} (h : xs ≠ ys) : Tm.beqL xs ys = false := by
  rw [← Bool.not_eq_true, Tm.beqL_iff]
  exact h
theorem equalFunc_a (xs ys : List Tm) (ih : ∀ x ∈ xs, ∀ y, ACalls Tryd.prog 48 [aTm x, aTm y] (aBool (x.beq y))) :
    ACalls Tryd.prog 62 [aTms xs, aTms ys, .one (.fn 48 [])] (aBool (Tm.beqL xs ys)) := by
  have hplain : plainF Tryd.prog 48 = true := by kernel_rfl
  refine ac_slices_EqualFunc_metaprune_api_Term_metaprune_api_Term_metaprune_api_Term_metaprune_api_Term (Nat.le_of_ble_eq_true rfl) fun C hC => ?_
  unfold ir_slices_EqualFunc_metaprune_api_Term_metaprune_api_Term_metaprune_api_Term_metaprune_api_Term
  refine IWP.learn 0 (by omega) fun hkn => ?_
  have hkx := known_len hkn
  rw [List.length_map] at hkx
  by_cases hl : xs.length = ys.length
  · have hl' : (xs.length : Int) = ys.length := by omega
    repeat' (first | (with_reducible first | refine Wa ?_ | refine Wb ?_ | refine Wc ?_ | refine Wd ?_ | refine We ?_ | refine Wf ?_ | refine Wg ?_ | refine Wh ?_ | refine Wi ?_ | refine Wj ?_ | refine Wk (by decide) ?_ | refine Wl ?_ | refine Wm ?_ | refine Wn ?_) | ((with_reducible first | refine Wo (fun K hK => ?_) | refine Wp ?_ | refine Wq ?_ | refine Wr ?_); (try simp only [go_sem, List.forall_mem_nil, ↓guard_ite, ↓pick_ite, seval, encT_eq, inR_i64, hl', decide_eq_true_eq, decide_eq_false_iff_not, Int.ofNat_lt]); (repeat with_reducible refine And.intro (by first | omega | (with_reducible first | exact lens_encT | exact lens_encL | exact lens_encB | exact lens_encP) | (simp; done) | (simp only [List.length_take, List.length_map, List.length_append, maxLen_eq]; omega)) ?_); (try (with_reducible refine hK _ ?_; clear hK K)); (try with_reducible refine ite_conj ?_)))
    refine IWP.loopD [8, 9] (fun n s => ∃ k, k ≤ xs.length ∧ n = xs.length - k ∧ xs.take k = ys.take k ∧ s.env 1 = aTms ys ∧ s.env 2 = .one (.fn 48 []) ∧ s.env 15 = aTms xs ∧ s.env 16 = aInt xs.length ∧ s.env 17 = aInt k ∧ s.S 8 = none ∧ s.S 9 = none) xs.length ⟨0, Nat.zero_le _, rfl, rfl, rfl, rfl, rfl, by simp only [go_sem, List.forall_mem_nil, ↓guard_ite, ↓pick_ite, seval, encT_eq, inR_i64, hl'], rfl, rfl, rfl⟩ ?_
    rintro n ⟨env, S⟩ ⟨k, hk, rfl, h0, e1, e2, e15, e16, e17, s8, s9⟩
    simp only at e1 e2 e15 e16 e17 s8 s9
    by_cases hlt : (k : Int) < xs.length
    · obtain ⟨x, hx⟩ := get_lt (show k < xs.length by omega)
      obtain ⟨y, hy⟩ := get_lt (show k < ys.length by omega)
      repeat' (first | (with_reducible first | refine Wa ?_ | refine Wb ?_ | refine Wc ?_ | refine Wd ?_ | refine We ?_ | refine Wf ?_ | refine Wg ?_ | refine Wh ?_ | refine Wi ?_ | refine Wj ?_ | refine Wk (by decide) ?_ | refine Wl ?_ | refine Wm ?_ | refine Wn ?_) | ((with_reducible first | refine Wo (fun K hK => ?_) | refine Wp ?_ | refine Wq ?_ | refine Wr ?_); (try simp only [go_sem, List.forall_mem_nil, ↓guard_ite, ↓pick_ite, seval, encT_eq, inR_i64, e1, e2, e15, e16, e17, s8, s9, hlt, hx, hy, hplain, decide_eq_true_eq, decide_eq_false_iff_not, Int.ofNat_lt]); (repeat with_reducible refine And.intro (by first | omega | (with_reducible first | exact lens_encT | exact lens_encL | exact lens_encB | exact lens_encP) | (simp; done) | (simp only [List.length_take, List.length_map, List.length_append, maxLen_eq]; omega)) ?_); (try (with_reducible refine hK _ ?_; clear hK K)); (try with_reducible refine ite_conj ?_)))
      refine ⟨_, _, (ih x (mem_of_get hx) y).toS rfl, ?_⟩
      cases hxy : x.beq y with
      | false =>
        repeat' (first | (with_reducible first | refine Wa ?_ | refine Wb ?_ | refine Wc ?_ | refine Wd ?_ | refine We ?_ | refine Wf ?_ | refine Wg ?_ | refine Wh ?_ | refine Wi ?_ | refine Wj ?_ | refine Wk (by decide) ?_ | refine Wl ?_ | refine Wm ?_ | refine Wn ?_) | ((with_reducible first | refine Wo (fun K hK => ?_) | refine Wp ?_ | refine Wq ?_ | refine Wr ?_); (try simp only [go_sem, List.forall_mem_nil, ↓guard_ite, ↓pick_ite, seval, encT_eq, inR_i64, hxy, decide_eq_true_eq, decide_eq_false_iff_not, Int.ofNat_lt]); (repeat with_reducible refine And.intro (by first | omega | (with_reducible first | exact lens_encT | exact lens_encL | exact lens_encB | exact lens_encP) | (simp; done) | (simp only [List.length_take, List.length_map, List.length_append, maxLen_eq]; omega)) ?_); (try (with_reducible refine hK _ ?_; clear hK K)); (try with_reducible refine ite_conj ?_)))
        simp only [go_sem, List.forall_mem_nil, ↓guard_ite, ↓pick_ite, seval, FinQ, AS.result, resAll, resOne, tupV]
        rw [Tm.beqL_no fun e => by
          subst e
          rw [hx] at hy
          cases hy
          rw [Tm.beq_refl] at hxy
          cases hxy]
      | true =>
        have hxy' := (Tm.beq_iff x y).1 hxy
        repeat' (first | (with_reducible first | refine Wa ?_ | refine Wb ?_ | refine Wc ?_ | refine Wd ?_ | refine We ?_ | refine Wf ?_ | refine Wg ?_ | refine Wh ?_ | refine Wi ?_ | refine Wj ?_ | refine Wk (by decide) ?_ | refine Wl ?_ | refine Wm ?_ | refine Wn ?_) | ((with_reducible first | refine Wo (fun K hK => ?_) | refine Wp ?_ | refine Wq ?_ | refine Wr ?_); (try simp only [go_sem, List.forall_mem_nil, ↓guard_ite, ↓pick_ite, seval, encT_eq, inR_i64, hxy, e1, e2, e15, e16, e17, s8, s9, decide_eq_true_eq, decide_eq_false_iff_not, Int.ofNat_lt]); (repeat with_reducible refine And.intro (by first | omega | (with_reducible first | exact lens_encT | exact lens_encL | exact lens_encB | exact lens_encP) | (simp; done) | (simp only [List.length_take, List.length_map, List.length_append, maxLen_eq]; omega)) ?_); (try (with_reducible refine hK _ ?_; clear hK K)); (try with_reducible refine ite_conj ?_)))
        refine then_normal ⟨xs.length - (k + 1), by omega, k + 1, by omega, rfl, ?_, ?_⟩
        · rw [take_snoc hx, take_snoc hy, h0, hxy']
        · simp only [go_sem, List.forall_mem_nil, ↓guard_ite, ↓pick_ite, seval, AS.drop, dropS, AC.clears, AC.clear, AC.highs, AC.high, Bool.not_false, Bool.true_and, Bool.and_self, AV.purge, AV.purges, AC.purge, ABlk.purge, List.contains_cons, List.contains_nil, Nat.reduceBEq, Bool.or_self, Bool.or_false, Bool.false_or, Bool.or_true, encT_eq, inR_i64, e1, e2, e15, e16, e17, s8, s9]
          congr 3
    · repeat' (first | (with_reducible first | refine Wa ?_ | refine Wb ?_ | refine Wc ?_ | refine Wd ?_ | refine We ?_ | refine Wf ?_ | refine Wg ?_ | refine Wh ?_ | refine Wi ?_ | refine Wj ?_ | refine Wk (by decide) ?_ | refine Wl ?_ | refine Wm ?_ | refine Wn ?_) | ((with_reducible first | refine Wo (fun K hK => ?_) | refine Wp ?_ | refine Wq ?_ | refine Wr ?_); (try simp only [go_sem, List.forall_mem_nil, ↓guard_ite, ↓pick_ite, seval, encT_eq, inR_i64, e1, e2, e15, e16, e17, hlt, decide_eq_true_eq, decide_eq_false_iff_not, Int.ofNat_lt]); (repeat with_reducible refine And.intro (by first | omega | (with_reducible first | exact lens_encT | exact lens_encL | exact lens_encB | exact lens_encP) | (simp; done) | (simp only [List.length_take, List.length_map, List.length_append, maxLen_eq]; omega)) ?_); (try (with_reducible refine hK _ ?_; clear hK K)); (try with_reducible refine ite_conj ?_)))
      simp only [go_sem, List.forall_mem_nil, ↓guard_ite, ↓pick_ite, seval, FinQ, AS.result, resAll, resOne, tupV]
      rw [List.take_of_length_le (by omega), List.take_of_length_le (by omega)] at h0
      rw [(Tm.beqL_iff xs ys).2 h0]
  · have hl' : ¬ (xs.length : Int) = ys.length := by omega
    repeat' (first | (with_reducible first | refine Wa ?_ | refine Wb ?_ | refine Wc ?_ | refine Wd ?_ | refine We ?_ | refine Wf ?_ | refine Wg ?_ | refine Wh ?_ | refine Wi ?_ | refine Wj ?_ | refine Wk (by decide) ?_ | refine Wl ?_ | refine Wm ?_ | refine Wn ?_) | ((with_reducible first | refine Wo (fun K hK => ?_) | refine Wp ?_ | refine Wq ?_ | refine Wr ?_); (try simp only [go_sem, List.forall_mem_nil, ↓guard_ite, ↓pick_ite, seval, encT_eq, inR_i64, hl', decide_eq_true_eq, decide_eq_false_iff_not, Int.ofNat_lt]); (repeat with_reducible refine And.intro (by first | omega | (with_reducible first | exact lens_encT | exact lens_encL | exact lens_encB | exact lens_encP) | (simp; done) | (simp only [List.length_take, List.length_map, List.length_append, maxLen_eq]; omega)) ?_); (try (with_reducible refine hK _ ?_; clear hK K)); (try with_reducible refine ite_conj ?_)))
    simp only [go_sem, List.forall_mem_nil, ↓guard_ite, ↓pick_ite, seval, FinQ, AS.result, resAll, resOne, tupV]
    rw [Tm.beqL_no fun e => hl (by rw [e])]
theorem same_a (a b : Tm) : ACalls Tryd.prog 48 [aTm a, aTm b] (aBool (a.beq b)) := by
  induction h : SizeOf.sizeOf a using Nat.strongRecOn generalizing a b with
  | _ N ih =>
  subst h
  have hE := equalFunc_a a.args b.args fun x hx y => ih _ (Tm.lt_of_arg hx) x y rfl
  have he : a.beq b = (decide (a.name = b.name) && Tm.beqL a.args b.args) := by cases a; cases b; rfl
  refine ac_term_Same (Nat.le_of_ble_eq_true rfl) fun C hC => ?_
  unfold ir_term_Same
  by_cases hn : a.name = b.name
  · repeat' (first | (with_reducible first | refine Wa ?_ | refine Wb ?_ | refine Wc ?_ | refine Wd ?_ | refine We ?_ | refine Wf ?_ | refine Wg ?_ | refine Wh ?_ | refine Wi ?_ | refine Wj ?_ | refine Wk (by decide) ?_ | refine Wl ?_ | refine Wm ?_ | refine Wn ?_) | refine CallG.mk _ (hE) ?_ | ((with_reducible first | refine Wo (fun K hK => ?_) | refine Wp ?_ | refine Wq ?_ | refine Wr ?_); (try simp only [go_sem, List.forall_mem_nil, ↓guard_ite, ↓pick_ite, seval, encT_eq, inR_i64, hn, decide_eq_true_eq, decide_eq_false_iff_not, Int.ofNat_lt]); (repeat with_reducible refine And.intro (by first | omega | (with_reducible first | exact lens_encT | exact lens_encL | exact lens_encB | exact lens_encP) | (simp; done) | (simp only [List.length_take, List.length_map, List.length_append, maxLen_eq]; omega)) ?_); (try (with_reducible refine hK _ ?_; clear hK K)); (try with_reducible refine ite_conj ?_)))
    simp only [go_sem, List.forall_mem_nil, ↓guard_ite, ↓pick_ite, seval, FinQ, AS.result, resAll, resOne, tupV]
    rw [he, decide_eq_true hn]
    rfl
  · repeat' (first | (with_reducible first | refine Wa ?_ | refine Wb ?_ | refine Wc ?_ | refine Wd ?_ | refine We ?_ | refine Wf ?_ | refine Wg ?_ | refine Wh ?_ | refine Wi ?_ | refine Wj ?_ | refine Wk (by decide) ?_ | refine Wl ?_ | refine Wm ?_ | refine Wn ?_) | ((with_reducible first | refine Wo (fun K hK => ?_) | refine Wp ?_ | refine Wq ?_ | refine Wr ?_); (try simp only [go_sem, List.forall_mem_nil, ↓guard_ite, ↓pick_ite, seval, encT_eq, inR_i64, hn, decide_eq_true_eq, decide_eq_false_iff_not, Int.ofNat_lt]); (repeat with_reducible refine And.intro (by first | omega | (with_reducible first | exact lens_encT | exact lens_encL | exact lens_encB | exact lens_encP) | (simp; done) | (simp only [List.length_take, List.length_map, List.length_append, maxLen_eq]; omega)) ?_); (try (with_reducible refine hK _ ?_; clear hK K)); (try with_reducible refine ite_conj ?_)))
    simp only [go_sem, List.forall_mem_nil, ↓guard_ite, ↓pick_ite, seval, FinQ, AS.result, resAll, resOne, tupV]
    rw [he, decide_eq_false hn]
    rfl
end Go.Proofs.YtdmgelbbjppgkaaDoor

namespace Go.Proofs.YtdmgelbbjppgkaaDoor
open Go Go.RowKit
set_option linter.unusedVariables false

theorem dropS_at {ds : List Nat} (hds : ∀ d ∈ ds, d < 1000) {S : AStore} {i : Nat} (hi : 1000 ≤ i) (hb : ∀ b, S i = some b → b.high = true) : dropS ds S i = S i := by
  unfold dropS
  rw [not_ds hds hi, if_neg (by simp)]
  cases h : S i with
  | none => rfl
  | some b => rw [Option.map_some, ABlk.purge_high hds (hb b h)]
theorem purgeS {ds : List Nat} (hds : ∀ d ∈ ds, d < 1000) {x : Option ABlk} (hb : ∀ b, x = some b → b.high = true) : x.map (ABlk.purge ds) = x := by
  cases h : x with
  | none => rfl
  | some b => rw [Option.map_some, ABlk.purge_high hds (hb b h)]
theorem lowS_is {S S1 : AStore} {a0 : Nat} {b : ABlk} (hS : Clean S) (ha : 1000 ≤ a0) (h1 : S1 a0 = some b) (h2 : ∀ i, 1000 ≤ i → i ≠ a0 → S1 i = S i) : lowS S1 = updE S a0 (some b) := by
  funext i
  show (if i < 1000 then none else S1 i) = _
  by_cases e : i = a0
  · subst e
    rw [if_neg (by omega), updE_same, h1]
  · rw [updE_ne _ e]
    by_cases hi : i < 1000
    · rw [if_pos hi, clean_none hS hi]
    · rw [if_neg hi, h2 i (by omega) e]
theorem highs_is {S S1 : AStore} {a0 : Nat} {b : ABlk} (hS : Clean S) (hb : b.high = true) (h1 : S1 a0 = some b) (h2 : ∀ i, 1000 ≤ i → i ≠ a0 → S1 i = S i) : ∀ i c, 1000 ≤ i → S1 i = some c → c.high = true := fun i c hi hc => by
  by_cases e : i = a0
  · subst e
    rw [h1] at hc
    cases hc
    exact hb
  · rw [h2 i hi e] at hc
    exact (hS i c hc).2
/-- The end of a call that has turned one block of its caller. -/
theorem finS_one {C : Ctx} {rs : List RV} {r : AV} {e : AX} {s : AS} {S : AStore} {a0 : Nat} {b : ABlk} (r0 : AV) (hS : Clean S) (ha : 1000 ≤ a0) (hb : b.high = true) (he : match e with | .normal => True | .ret => True | _ => False)
    (h1 : (resAll s rs).map tupV = some r0) (h2 : outV s.S r0 = some r) (h3 : s.S a0 = some b) (h4 : ∀ i, 1000 ≤ i → i ≠ a0 → s.S i = S i) : FinS C rs r (updE S a0 (some b)) e s :=
  finS_low he r0 h1 h2 (highs_is hS hb h3 h4) (lowS_is hS ha h3 h4) (clean_upd hS ha hb)

/-- The end of a call that has turned two blocks of its caller. -/
theorem finS_two {C : Ctx} {rs : List RV} {r : AV} {e : AX} {s : AS} {S : AStore} {a0 b0 : Nat} {b c : ABlk} (r0 : AV) (hS : Clean S) (ha : 1000 ≤ a0) (hb0 : 1000 ≤ b0) (hne : b0 ≠ a0) (hb : b.high = true) (hc : c.high = true) (he : match e with | .normal => True | .ret => True | _ => False)
    (h1 : (resAll s rs).map tupV = some r0) (h2 : outV s.S r0 = some r) (h3 : s.S a0 = some b) (h3' : s.S b0 = some c) (h4 : ∀ i, 1000 ≤ i → i ≠ a0 → i ≠ b0 → s.S i = S i) : FinS C rs r (updE (updE S a0 (some b)) b0 (some c)) e s :=
  finS_low he r0 h1 h2 (fun i x hi hx => by
    by_cases e1 : i = a0
    · subst e1; rw [h3] at hx; cases hx; exact hb
    · by_cases e2 : i = b0
      · subst e2; rw [h3'] at hx; cases hx; exact hc
      · rw [h4 i hi e1 e2] at hx; exact (hS i x hx).2) (by
    funext i
    show (if i < 1000 then none else s.S i) = _
    by_cases e2 : i = b0
    · subst e2
      rw [updE_same, if_neg (by omega), h3']
    · rw [updE_ne _ e2]
      by_cases e1 : i = a0
      · subst e1
        rw [updE_same, if_neg (by omega), h3]
      · rw [updE_ne _ e1]
        by_cases hi : i < 1000
        · rw [if_pos hi, clean_none hS hi]
        · rw [if_neg hi, h4 i (by omega) e1 e2]) (clean_upd (clean_upd hS ha hb) hb0 hc)
/-- A cell of a box, as it would lie in memory that stays. -/
theorem Ghost.settleC {C : Ctx} {s : AS} (id j : Nat) {ty : TypeId} {cs : List AC} {c : AC} {x : SV} (hb : s.S id = some (.box ty cs)) (hc : cs[j]? = some c) (hx : stC s.S c = some x) : Ghost C s (s.set id (.box ty (cs.set j (.st x)))) := fun a w ⟨σ, ι, R⟩ => by
  have hbk := R.blk id _ hb
  cases hbk with
  | @box _ _ g vs h1 h2 h3 h4 h5 =>
    obtain ⟨v, hv, hr⟩ := h4.get hc
    have hsr := R.stC hr hx
    obtain ⟨hu2, R2⟩ := R.turn (w' := w) hb (.box ty (cs.set j (.st x))) (ι id) (σ' := σ) (fun _ _ h => h) (fun _ _ _ => rfl) R.fit (Nat.le_refl _) (fun _ => ⟨rfl, rfl⟩) ⟨rfl, rfl, rfl⟩ (Nat.le_refl _) (fun _ _ _ => rfl) (fun g h => .inl h) (fun hu2 => by
      refine .box h1 h2 h3 (All2.of_get (by rw [List.length_set]; exact h4.len) fun k u c' hu' hck => ?_) h5
      by_cases hk : k = j
      · subst hk
        rw [hv] at hu'
        cases hu'
        have hlt : k < cs.length := (List.getElem?_eq_some_iff.1 hc).1
        rw [List.getElem?_set_self hlt] at hck
        cases hck
        exact .st hsr
      · rw [List.getElem?_set_ne (fun e => hk e.symm)] at hck
        obtain ⟨u', q1, q2⟩ := h4.get hck
        rw [hu'] at q1
        cases q1
        exact q2.mono (fun _ _ h => h) hu2)
    exact ⟨_, _, R2⟩
theorem oneTo_same (i a0 : Nat) : oneTo i a0 i = a0 := by simp [oneTo]
end Go.Proofs.YtdmgelbbjppgkaaDoor

namespace Go.Proofs.YtdmgelbbjppgkaaDoor
open Go Go.RowKit
set_option linter.unusedVariables false

/-! ### by the last table -/
theorem goes_pos {l m : List Pr} {a b : Tm} (hg : Goes (addP l a b) m) : posP m a b = posP l a b := by
  obtain ⟨r, rfl⟩ := hg
  unfold addP
  by_cases h : posP l a b < l.length
  · rw [if_pos h, posP_append h]
  · rw [if_neg h]
    have h1 : posP (l ++ [(a, b)]) a b = l.length := by
      rw [posP_none h]
      simp [posP, Tm.beq_refl]
    rw [posP_append (by rw [h1]; simp), h1, posP_not h]
mutual
/-- The generalization, where each pair's number is known. -/
def Tm.lgF (m : List Pr) : Tm → Tm → Tm
  | .mk n xs, b => if headEq n xs b then .mk n (Tm.lgFL m xs b.args) else zLeaf (posP m (.mk n xs) b)
def Tm.lgFL (m : List Pr) : List Tm → List Tm → List Tm
  | x :: xs, y :: ys => x.lgF m y :: Tm.lgFL m xs ys
  | _, _ => []
end
mutual
theorem lg_final : ∀ (a b : Tm) (l m : List Pr), Goes (a.lg b l).2 m → (a.lg b l).1 = a.lgF m b
  | .mk n xs, b, l, m, hg => by
    rw [Tm.lg] at hg ⊢
    rw [Tm.lgF]
    by_cases h : headEq n xs b
    · rw [if_pos h] at hg ⊢
      rw [if_pos h, ← lgL_final xs b.args l m hg]
    · rw [if_neg h] at hg ⊢
      rw [if_neg h, goes_pos hg]
theorem lgL_final : ∀ (xs ys : List Tm) (l m : List Pr), Goes (Tm.lgL xs ys l).2 m → (Tm.lgL xs ys l).1 = Tm.lgFL m xs ys
  | x :: xs, y :: ys, l, m, hg => by
    simp only [Tm.lgL] at hg ⊢
    rw [Tm.lgFL, lg_final x y l m ((lgL_goes xs ys _).trans hg), lgL_final xs ys _ m hg]
  | [], ys, l, m, _ => by simp [Tm.lgL, Tm.lgFL]
  | x :: xs, [], l, m, _ => by simp [Tm.lgL, Tm.lgFL]
end
/-- What the names stand for: the one side, the other side. -/
def zBinds (f : Pr → Tm) : Nat → List Pr → List Bd
  | _, [] => []
  | k, p :: l => (zName k, f p) :: zBinds f (k + 1) l
theorem zBinds_len (f : Pr → Tm) : ∀ (l : List Pr) (k : Nat), (zBinds f k l).length = l.length
  | [], _ => rfl
  | p :: l, k => by rw [zBinds, List.length_cons, List.length_cons, zBinds_len f l]
theorem zBinds_get (f : Pr → Tm) : ∀ (l : List Pr) (k i : Nat) (p : Pr), l[i]? = some p → (zBinds f k l)[i]? = some (zName (k + i), f p)
  | q :: l, k, 0, p, h => by simp at h; subst h; rfl
  | q :: l, k, i + 1, p, h => by
    rw [zBinds, List.getElem?_cons_succ, zBinds_get f l (k + 1) i p (by simpa using h)]
    congr 3
    omega
  | [], _, i, p, h => by simp at h
theorem zBinds_snoc (f : Pr → Tm) : ∀ (l : List Pr) (k : Nat) (p : Pr), zBinds f k (l ++ [p]) = zBinds f k l ++ [(zName (k + l.length), f p)]
  | [], k, p => by simp [zBinds]
  | q :: l, k, p => by
    rw [List.cons_append, zBinds, zBinds_snoc f l (k + 1) p, zBinds, List.cons_append, List.length_cons, show k + 1 + l.length = k + (l.length + 1) by omega]
theorem zBinds_mem (f : Pr → Tm) : ∀ {l : List Pr} {k : Nat} {b : Bd}, b ∈ zBinds f k l → ∃ i p, k ≤ i ∧ i < k + l.length ∧ p ∈ l ∧ b = (zName i, f p)
  | [], _, b, h => by cases h
  | p :: l, k, b, h => by
    rw [zBinds] at h
    rcases List.mem_cons.1 h with rfl | h
    · exact ⟨k, p, by omega, by simp, by simp, rfl⟩
    · obtain ⟨i, q, h1, h2, h3, h4⟩ := zBinds_mem f h
      exact ⟨i, q, by omega, by rw [List.length_cons]; omega, by simp [h3], h4⟩
theorem zBinds_named (f : Pr → Tm) : ∀ (l : List Pr) (k : Nat), Named (zBinds f k l)
  | [], _ => List.nodup_nil
  | p :: l, k => by
    unfold Named
    rw [zBinds, List.map_cons, List.nodup_cons]
    refine ⟨fun h => ?_, zBinds_named f l (k + 1)⟩
    obtain ⟨b, hb, e⟩ := List.mem_map.1 h
    obtain ⟨i, q, h1, _, _, rfl⟩ := zBinds_mem f hb
    have := zName_inj e
    omega
theorem zBinds_lookup (f : Pr → Tm) {l : List Pr} {i : Nat} {p : Pr} (h : l[i]? = some p) : lookup (sortB (zBinds f 0 l)) (zName i) = some (f p) := by
  have hn := zBinds_named f l 0
  refine (lookup_iff (named_perm (sortB_perm _).symm hn)).2 (sortB_mem.2 ?_)
  have := zBinds_get f l 0 i p h
  rw [Nat.zero_add] at this
  exact mem_of_get this
theorem zBinds_ok (f : Pr → Tm) {l : List Pr} (hl : l.length < 900000) (hc : ∀ p ∈ l, (f p).chk = 0) : OkB (sortB (zBinds f 0 l)) := by
  refine ⟨sortB_ordered (zBinds_named f l 0), fun b hb => ?_, fun b hb => ?_, fun b hb => ?_⟩ <;>
    obtain ⟨i, p, _, h2, h3, rfl⟩ := zBinds_mem f (sortB_mem.1 hb)
  · exact zName_var i
  · exact zName_ok (by omega)
  · exact hc p h3
mutual
/-- Both are cases of it. -/
theorem lgF_on (f : Pr → Tm) (s : List Bd) (hs : ∀ b ∈ s, isVar b.1 = true) (m : List Pr) (hm : ∀ i p, m[i]? = some p → lookup s (zName i) = some (f p)) (hf : (∀ a b, f (a, b) = a) ∨ (∀ a b, f (a, b) = b)) :
    ∀ (a b : Tm), (∀ l, Goes (a.lg b l).2 m → (a.lgF m b).on s = f (a, b))
  | .mk n xs, b, l, hg => by
    rw [Tm.lg] at hg
    rw [Tm.lgF]
    by_cases h : headEq n xs b
    · rw [if_pos h] at hg ⊢
      rw [nov_on h.1 hs]
      have := lgFL_on f s hs m hm hf xs b.args l h.2.2 hg
      rw [this]
      rcases hf with hf | hf
      · rw [hf]
        congr 1
        have hz : (xs.zip b.args).map f = (xs.zip b.args).map Prod.fst := List.map_congr_left fun p _ => by cases p; exact hf _ _
        rw [hz, List.map_fst_zip (by rw [h.2.2]; exact Nat.le_refl _)]
      · rw [hf]
        have hz : (xs.zip b.args).map f = (xs.zip b.args).map Prod.snd := List.map_congr_left fun p _ => by cases p; exact hf _ _
        rw [hz, List.map_snd_zip (by rw [h.2.2]; exact Nat.le_refl _)]
        cases b
        rw [h.2.1]
        rfl
    · rw [if_neg h] at hg ⊢
      refine Tm.on_leaf (t := zLeaf (posP m (.mk n xs) b)) (hm _ _ ?_) rfl
      refine posP_get ?_
      rw [goes_pos hg]
      have hg2 : Goes (addP l (.mk n xs) b) m := hg
      clear hg hm
      obtain ⟨r, rfl⟩ := hg2
      unfold addP
      by_cases h2 : posP l (.mk n xs) b < l.length
      · rw [if_pos h2, List.length_append]; omega
      · rw [if_neg h2, List.length_append, List.length_append, List.length_singleton]
        have := posP_le l (.mk n xs) b
        omega
theorem lgFL_on (f : Pr → Tm) (s : List Bd) (hs : ∀ b ∈ s, isVar b.1 = true) (m : List Pr) (hm : ∀ i p, m[i]? = some p → lookup s (zName i) = some (f p)) (hf : (∀ a b, f (a, b) = a) ∨ (∀ a b, f (a, b) = b)) :
    ∀ (xs ys : List Tm) (l : List Pr), xs.length = ys.length → Goes (Tm.lgL xs ys l).2 m → (Tm.lgFL m xs ys).map (Tm.on s) = (xs.zip ys).map f
  | x :: xs, y :: ys, l, hl, hg => by
    simp only [Tm.lgL] at hg
    rw [Tm.lgFL, List.map_cons, List.zip_cons_cons, List.map_cons, lgF_on f s hs m hm hf x y l ((lgL_goes xs ys _).trans hg), lgFL_on f s hs m hm hf xs ys _ (by simpa using hl) hg]
  | [], [], l, _, _ => rfl
  | [], y :: ys, l, hl, _ => by simp at hl
  | x :: xs, [], l, hl, _ => by simp at hl
end
mutual
/-- It is a case of every other term that both are cases of. -/
theorem lgF_least {s1 s2 s : List Bd} (h1 : ∀ b ∈ s1, isVar b.1 = true) (h2 : ∀ b ∈ s2, isVar b.1 = true) (hs : ∀ b ∈ s, isVar b.1 = true) (m : List Pr) :
    ∀ p : Tm, p.chk = 0 → (∀ v, isVar v = true → v ∈ p.knots.map (·.name) → (leafT v).on s = ((leafT v).on s1).lgF m ((leafT v).on s2)) → p.on s = (p.on s1).lgF m (p.on s2)
  | .mk n xs, hc, hv => by
    obtain ⟨c1, c2⟩ := Tm.chk_args hc
    simp only [Tm.name_mk, Tm.args_mk] at c1 c2
    cases hn : isVar n with
    | true =>
      have h0 := c1 hn
      subst h0
      exact hv n hn (by simp [Tm.knots, Tm.name_mk])
    | false =>
      rw [nov_on hn hs, nov_on hn h1, nov_on hn h2, Tm.lgF, if_pos ⟨hn, rfl, by simp [Tm.args_mk]⟩, Tm.args_mk]
      congr 1
      exact lgFL_least h1 h2 hs m xs c2 fun v hv1 hv2 => hv v hv1 (by simp only [Tm.knots, List.map_cons, List.mem_cons]; exact .inr hv2)
theorem lgFL_least {s1 s2 s : List Bd} (h1 : ∀ b ∈ s1, isVar b.1 = true) (h2 : ∀ b ∈ s2, isVar b.1 = true) (hs : ∀ b ∈ s, isVar b.1 = true) (m : List Pr) :
    ∀ xs : List Tm, (∀ x ∈ xs, x.chk = 0) → (∀ v, isVar v = true → v ∈ (Tm.knotsL xs).map (·.name) → (leafT v).on s = ((leafT v).on s1).lgF m ((leafT v).on s2)) → xs.map (Tm.on s) = Tm.lgFL m (xs.map (Tm.on s1)) (xs.map (Tm.on s2))
  | [], _, _ => rfl
  | x :: xs, hc, hv => by
    rw [List.map_cons, List.map_cons, List.map_cons, Tm.lgFL, lgF_least h1 h2 hs m x (hc x (by simp)) fun v hv1 hv2 => hv v hv1 (by rw [Tm.knotsL, List.map_append, List.mem_append]; exact .inl hv2),
      lgFL_least h1 h2 hs m xs (fun a ha => hc a (by simp [ha])) fun v hv1 hv2 => hv v hv1 (by rw [Tm.knotsL, List.map_append, List.mem_append]; exact .inr hv2)]
end
end Go.Proofs.YtdmgelbbjppgkaaDoor

namespace Go.Proofs.YtdmgelbbjppgkaaDoor
open Go Go.RowKit
set_option linter.unusedVariables false

/-- Where a name stands (how many there are, if nowhere). -/
def posN : List ByteArray → ByteArray → Nat
  | [], _ => 0
  | x :: l, n => if x = n then 0 else posN l n + 1
def addN (l : List ByteArray) (n : ByteArray) : List ByteArray := if posN l n < l.length then l else l ++ [n]
theorem posN_le (l : List ByteArray) (n : ByteArray) : posN l n ≤ l.length := by
  induction l with
  | nil => exact Nat.le_refl _
  | cons p l ih => rw [posN]; split <;> simp; omega
theorem posN_iff {l : List ByteArray} {n : ByteArray} : posN l n < l.length ↔ n ∈ l := by
  induction l with
  | nil => simp [posN]
  | cons x l ih =>
    rw [posN]
    by_cases e : x = n
    · rw [if_pos e]; simp [e]
    · rw [if_neg e, List.length_cons, List.mem_cons]
      constructor
      · intro h; exact .inr (ih.1 (by omega))
      · rintro (h | h)
        · exact absurd h.symm e
        · have := ih.2 h; omega
theorem posN_append {l m : List ByteArray} {n : ByteArray} (h : posN l n < l.length) : posN (l ++ m) n = posN l n := by
  induction l with
  | nil => simp [posN] at h
  | cons x l ih =>
    rw [posN] at h
    rw [List.cons_append, posN, posN]
    by_cases e : x = n
    · rw [if_pos e, if_pos e]
    · rw [if_neg e] at h
      rw [if_neg e, if_neg e, ih (by simpa using h)]
theorem posN_snoc {l : List ByteArray} {n : ByteArray} (h : ¬ posN l n < l.length) : posN (l ++ [n]) n = l.length := by
  induction l with
  | nil => simp [posN]
  | cons x l ih =>
    rw [posN] at h
    rw [List.cons_append, posN]
    by_cases e : x = n
    · rw [if_pos e] at h; simp at h
    · rw [if_neg e] at h
      rw [if_neg e, ih (by simpa using h), List.length_cons]
theorem addN_var {l : List ByteArray} {n : ByteArray} (hv : isVar n = true) : addN l n = addVar l n := by
  unfold addN
  by_cases h : n ∈ l
  · rw [if_pos (posN_iff.2 h), addVar_in (isIn_iff.2 h)]
  · rw [if_neg (fun k => h (posN_iff.1 k)), addVar_yes hv (isIn_no.2 h)]
mutual
def Tm.cn : Tm → List ByteArray → Tm × List ByteArray
  | .mk n xs, l => if isVar n = true then (zLeaf (posN l n), addN l n) else (.mk n (Tm.cnL xs l).1, (Tm.cnL xs l).2)
def Tm.cnL : List Tm → List ByteArray → List Tm × List ByteArray
  | [], l => ([], l)
  | x :: xs, l => ((x.cn l).1 :: (Tm.cnL xs (x.cn l).2).1, (Tm.cnL xs (x.cn l).2).2)
end
theorem cn_var {t : Tm} {l : List ByteArray} (h : isVar t.name = true) : t.cn l = (zLeaf (posN l t.name), addN l t.name) := by
  cases t with
  | mk n xs =>
    have h : isVar n = true := h
    rw [Tm.cn, if_pos h]
    rfl
theorem cn_knot {t : Tm} {l : List ByteArray} (h : isVar t.name = false) : t.cn l = (.mk t.name (Tm.cnL t.args l).1, (Tm.cnL t.args l).2) := by
  cases t with
  | mk n xs =>
    have h : isVar n = false := h
    rw [Tm.cn, if_neg (by rw [h]; simp)]
    rfl
theorem cnL_append : ∀ (xs ys : List Tm) (l : List ByteArray), Tm.cnL (xs ++ ys) l = ((Tm.cnL xs l).1 ++ (Tm.cnL ys (Tm.cnL xs l).2).1, (Tm.cnL ys (Tm.cnL xs l).2).2)
  | [], ys, l => by simp [Tm.cnL]
  | x :: xs, ys, l => by
    simp only [List.cons_append, Tm.cnL]
    rw [cnL_append xs ys]
theorem cnL_take {xs : List Tm} {k : Nat} {x : Tm} {l : List ByteArray} (hx : xs[k]? = some x) : Tm.cnL (xs.take (k + 1)) l = ((Tm.cnL (xs.take k) l).1 ++ [(x.cn (Tm.cnL (xs.take k) l).2).1], (x.cn (Tm.cnL (xs.take k) l).2).2) := by
  rw [take_snoc hx, cnL_append]
  simp [Tm.cnL]
theorem cnL_len : ∀ (xs : List Tm) (l : List ByteArray), (Tm.cnL xs l).1.length = xs.length
  | [], l => rfl
  | x :: xs, l => by simp only [Tm.cnL, List.length_cons]; rw [cnL_len xs]
def zNames (k : Nat) : List ByteArray → List Bd
  | [] => []
  | n :: l => (n, zLeaf k) :: zNames (k + 1) l
theorem zNames_lookup : ∀ (l : List ByteArray) (k : Nat) (n : ByteArray), lookup (zNames k l) n = if posN l n < l.length then some (zLeaf (k + posN l n)) else none
  | [], k, n => by simp [zNames, lookup_nil, posN]
  | x :: l, k, n => by
    rw [zNames, lookup_cons, posN]
    by_cases e : x = n
    · rw [if_pos e, if_pos e]
      simp
    · rw [if_neg e, if_neg e, zNames_lookup l (k + 1) n, List.length_cons]
      by_cases h : posN l n < l.length
      · rw [if_pos h, if_pos (by omega)]
        congr 2
        omega
      · rw [if_neg h, if_neg (by omega)]
theorem zNames_snoc : ∀ (l : List ByteArray) (k : Nat) (n : ByteArray), zNames k (l ++ [n]) = zNames k l ++ [(n, zLeaf (k + l.length))]
  | [], k, n => by simp [zNames]
  | x :: l, k, n => by
    rw [List.cons_append, zNames, zNames_snoc l (k + 1) n, zNames, List.cons_append, List.length_cons, show k + 1 + l.length = k + (l.length + 1) by omega]
theorem zNames_len : ∀ (l : List ByteArray) (k : Nat), (zNames k l).length = l.length
  | [], _ => rfl
  | n :: l, k => by rw [zNames, List.length_cons, List.length_cons, zNames_len l]
def GoesN (l m : List ByteArray) : Prop := ∃ r, m = l ++ r
theorem GoesN.trans {a b c : List ByteArray} (h : GoesN a b) (k : GoesN b c) : GoesN a c := by
  obtain ⟨r, rfl⟩ := h
  obtain ⟨q, rfl⟩ := k
  exact ⟨r ++ q, by simp⟩
theorem goesN_add (l : List ByteArray) (n : ByteArray) : GoesN l (addN l n) := by
  unfold addN
  split
  · exact ⟨[], by simp⟩
  · exact ⟨_, rfl⟩
mutual
theorem cn_goes : ∀ (t : Tm) (l : List ByteArray), GoesN l (t.cn l).2
  | .mk n xs, l => by
    rw [Tm.cn]
    split
    · exact goesN_add l n
    · exact cnL_goes xs l
theorem cnL_goes : ∀ (xs : List Tm) (l : List ByteArray), GoesN l (Tm.cnL xs l).2
  | [], l => ⟨[], by simp [Tm.cnL]⟩
  | x :: xs, l => by
    simp only [Tm.cnL]
    exact (cn_goes x l).trans (cnL_goes xs _)
end
theorem goesN_pos {l m : List ByteArray} {n : ByteArray} (hg : GoesN (addN l n) m) : posN m n = posN l n ∧ posN m n < m.length := by
  obtain ⟨r, rfl⟩ := hg
  unfold addN
  by_cases h : posN l n < l.length
  · rw [if_pos h, posN_append h, List.length_append]
    exact ⟨rfl, by omega⟩
  · rw [if_neg h, posN_append (by rw [posN_snoc h]; simp), posN_snoc h]
    have := posN_le l n
    refine ⟨by omega, by rw [List.length_append, List.length_append, List.length_singleton]; omega⟩
mutual
theorem cn_names : ∀ (t : Tm), t.chk = 0 → ∀ l, (t.cn l).2 = addVars l t.knots
  | .mk n xs, hc, l => by
    obtain ⟨c1, c2⟩ := Tm.chk_args hc
    simp only [Tm.name_mk, Tm.args_mk] at c1 c2
    have hk : addVars l (Tm.mk n xs).knots = addVars (addVar l n) (Tm.knotsL xs) := rfl
    rw [hk, Tm.cn]
    cases hv : isVar n with
    | true =>
      have h0 := c1 hv
      subst h0
      rw [if_pos rfl]
      exact addN_var hv
    | false =>
      rw [if_neg (by simp), addVar_no hv]
      exact cnL_names xs c2 l
theorem cnL_names : ∀ (xs : List Tm), (∀ x ∈ xs, x.chk = 0) → ∀ l, (Tm.cnL xs l).2 = addVars l (Tm.knotsL xs)
  | [], _, l => rfl
  | x :: xs, hc, l => by
    simp only [Tm.cnL]
    rw [cnL_names xs (fun a ha => hc a (by simp [ha])), cn_names x (hc x (by simp)), Tm.knotsL, addVars_append]
end
mutual
theorem cn_on : ∀ (t : Tm), t.chk = 0 → ∀ l m, (∀ n ∈ m, isVar n = true) → GoesN (t.cn l).2 m → (t.cn l).1 = t.on (zNames 0 m)
  | .mk n xs, hc, l, m, hm, hg => by
    obtain ⟨c1, c2⟩ := Tm.chk_args hc
    simp only [Tm.name_mk, Tm.args_mk] at c1 c2
    rw [Tm.cn] at hg ⊢
    cases hv : isVar n with
    | true =>
      have h0 := c1 hv
      subst h0
      rw [hv, if_pos rfl] at hg
      rw [if_pos rfl]
      obtain ⟨p1, p2⟩ := goesN_pos (show GoesN (addN l n) m from hg)
      rw [Tm.on_leaf (t := .mk n []) (x := zLeaf (posN l n)) (by rw [Tm.name_mk, zNames_lookup, if_pos p2, p1, Nat.zero_add]) rfl]
    | false =>
      rw [hv, if_neg (by simp)] at hg
      rw [if_neg (by simp)]
      have hl : lookup (zNames 0 m) n = none := by
        rw [zNames_lookup, if_neg]
        intro h
        have := hm n (posN_iff.1 h)
        rw [hv] at this
        cases this
      rw [Tm.on_knot (t := .mk n xs) (.inl hl), Tm.name_mk, Tm.args_mk, cnL_on xs c2 l m hm hg]
theorem cnL_on : ∀ (xs : List Tm), (∀ x ∈ xs, x.chk = 0) → ∀ l m, (∀ n ∈ m, isVar n = true) → GoesN (Tm.cnL xs l).2 m → (Tm.cnL xs l).1 = xs.map (Tm.on (zNames 0 m))
  | [], _, l, m, _, _ => rfl
  | x :: xs, hc, l, m, hm, hg => by
    simp only [Tm.cnL] at hg ⊢
    rw [List.map_cons, cn_on x (hc x (by simp)) l m hm ((cnL_goes xs _).trans hg), cnL_on xs (fun a ha => hc a (by simp [ha])) _ m hm hg]
end
theorem addN_len (l : List ByteArray) (n : ByteArray) : (addN l n).length ≤ l.length + 1 := by unfold addN; split <;> simp
mutual
theorem cn_names_len : ∀ (t : Tm) (l : List ByteArray), (t.cn l).2.length ≤ l.length + t.size
  | .mk n xs, l => by
    rw [Tm.cn, Tm.size]
    split
    · have := addN_len l n
      show (addN l n).length ≤ _
      omega
    · have := cnL_names_len xs l
      show (Tm.cnL xs l).2.length ≤ _
      omega
theorem cnL_names_len : ∀ (xs : List Tm) (l : List ByteArray), (Tm.cnL xs l).2.length ≤ l.length + Tm.sizes xs
  | [], l => by simp [Tm.cnL]
  | x :: xs, l => by
    simp only [Tm.cnL, Tm.sizes]
    have h1 := cn_names_len x l
    have h2 := cnL_names_len xs (x.cn l).2
    omega
end
/-- A term with its variables so named. -/
def canonT (t : Tm) : Tm := t.on (zNames 0 t.varsOf)
theorem addVars_vars (ks : List Tm) : ∀ l : List ByteArray, (∀ n ∈ l, isVar n = true) → ∀ n ∈ addVars l ks, isVar n = true := by
  induction ks with
  | nil => exact fun l h => h
  | cons k ks ih =>
    intro l h
    have e : addVars l (k :: ks) = addVars (addVar l k.name) ks := rfl
    rw [e]
    refine ih _ fun n hn => ?_
    unfold addVar at hn
    split at hn
    · rename_i h1
      rcases List.mem_append.1 hn with h2 | h2
      · exact h n h2
      · rw [List.mem_singleton.1 h2]
        rw [Bool.and_eq_true] at h1
        exact h1.1
    · exact h n hn
theorem varsOf_vars (t : Tm) : ∀ n ∈ t.varsOf, isVar n = true := addVars_vars _ [] (by simp)
theorem addVars_nodup (ks : List Tm) : ∀ l : List ByteArray, l.Nodup → (addVars l ks).Nodup := by
  induction ks with
  | nil => exact fun l h => h
  | cons k ks ih =>
    intro l h
    have e : addVars l (k :: ks) = addVars (addVar l k.name) ks := rfl
    rw [e]
    refine ih _ ?_
    unfold addVar
    split
    · rename_i h1
      rw [Bool.and_eq_true, Bool.not_eq_true'] at h1
      have h2 := isIn_no.1 h1.2
      rw [List.nodup_append]
      exact ⟨h, by simp, fun a ha b hb e => h2 (by rw [List.mem_singleton.1 hb] at e; rw [← e]; exact ha)⟩
    · exact h
theorem varsOf_nodup (t : Tm) : t.varsOf.Nodup := addVars_nodup _ [] List.nodup_nil
theorem cn_canon {t : Tm} (hc : t.chk = 0) : (t.cn []).1 = canonT t :=
  cn_on t hc [] t.varsOf (varsOf_vars t) ⟨[], by rw [cn_names t hc, List.append_nil]; rfl⟩
end Go.Proofs.YtdmgelbbjppgkaaDoor
