/-
  Part 18 of the texts: IrSameT; BSameT. Conditions: none.
-/
import Derived.Test.YtpajlfdhmjgpnaaPathP17
namespace Go.Proofs.Ytpajlfdhmjgpnaa
open Go Go.RowKit
set_option maxRecDepth 100000

def ir_slices_EqualFunc_metaprune_api_Term_metaprune_api_Term_metaprune_api_Term_metaprune_api_Term : IR :=
  (.seq
  (.ops
  [.mk (some 6) none (.mov (.c (.one (.st (.bool false)))))
  .no])
  (.seq
  (.seq
  (.ops
  [.mk (some 10) none (.mov (.t 0)) .no, .mk (some 11) none (.len false (.t 10)) .no, .mk (some 12) none (.mov (.t 1)) .no, .mk (some 13) none (.len false (.t 12)) .no, .mk (some 14) none (.bin .neq (.t 11) (.t 13))
  .no])
  (.cond (.t 14)
  (.seq
  (.ops
  [.mk (some 6) none (.mov (.c (.one (.st (.bool false)))))
  .no])
  .ret)
  .skip))
  (.seq
  (.seq
  (.ops
  [.mk (some 15) none (.mov (.t 0)) .no, .mk (some 16) none (.len false (.t 15)) .no, .mk (some 17) none (.mov (.c (.one (.st (.int .i64 0)))))
  .no])
  (.block 0
  (.loop
  (.seq
  (.ops
  [.mk (some 18) none (.bin .lss (.t 17) (.t 16))
  .no])
  (.seq (.cond (.t 18) .skip (.exit 0))
  (.seq
  (.block 1
  (.seq
  (.ops
  [.mk (some 19) none (.mov (.t 17)) .no, .mk (some 20) none (.indexAddr 2 (.t 15) (.t 17))
  .no, .mk (some 21) none (.load true 2 (.t 20)) .no, .mk (some 8) none
  (.alloc 24 [.st (.str (ByteArray.mk (#[]))), .full []])
  .no, .mk (some 7) none (.mov (.t 19)) .no, .mk none none (.store 2 (.t 8) (.t 21))
  .no])
  (.seq
  (.ops
  [.mk (some 22) none (.mov (.t 1)) .no, .mk (some 23) none (.mov (.t 7)) .no, .mk (some 24) none (.indexAddr 2 (.t 22) (.t 23))
  .no, .mk (some 25) none (.load true 2 (.t 24)) .no, .mk (some 9) none
  (.alloc 24 [.st (.str (ByteArray.mk (#[]))), .full []])
  .no, .mk none none (.store 2 (.t 9) (.t 25))
  .no])
  (.seq
  (.ops
  [.mk (some 26) none (.mov (.t 2)) .no, .mk (some 27) none (.load true 2 (.t 8)) .no, .mk (some 28) none (.load true 2 (.t 9)) .no, .mk (some 29) none
  (.callV (.t 26) [.t 27, .t 28]) .no, .mk (some 30) none (.un .not (.t 29)) .no])
  (.cond (.t 30)
  (.seq
  (.ops
  [.mk (some 6) none (.mov (.c (.one (.st (.bool false)))))
  .no])
  .ret)
  .skip)))))
  (.ops
  [.mk (some 31) none (.bin .add (.t 17) (.c (.one (.st (.int .i64 1)))))
  .no, .mk (some 17) none (.mov (.t 31)) .no])))))))
  (.seq
  (.ops
  [.mk (some 6) none (.mov (.c (.one (.st (.bool true)))))
  .no])
  .ret))))
theorem tr_slices_EqualFunc_metaprune_api_Term_metaprune_api_Term_metaprune_api_Term_metaprune_api_Term : trCode Try.prog 32 [] (Try.f86.body.getD .skip) = some ir_slices_EqualFunc_metaprune_api_Term_metaprune_api_Term_metaprune_api_Term_metaprune_api_Term := by kernel_rfl
theorem ac_slices_EqualFunc_metaprune_api_Term_metaprune_api_Term_metaprune_api_Term_metaprune_api_Term {xs : List AV} {r : AV} (hn : xs.length ≤ 32) (h : ∀ C : Ctx, C.n = 32 → IWP Try.prog C [] ir_slices_EqualFunc_metaprune_api_Term_metaprune_api_Term_metaprune_api_Term_metaprune_api_Term (FinQ [.t 6] r) (AS.start xs)) : ACalls Try.prog 86 xs r :=
  acalls_of Try.func86 rfl tr_slices_EqualFunc_metaprune_api_Term_metaprune_api_Term_metaprune_api_Term_metaprune_api_Term rfl hn h
theorem acS_slices_EqualFunc_metaprune_api_Term_metaprune_api_Term_metaprune_api_Term_metaprune_api_Term {xs : List AV} {S S' : AStore} {r : AV} (hn : xs.length ≤ 32) (h : Clean S → ∀ C : Ctx, C.n = 32 → IWP Try.prog C [] ir_slices_EqualFunc_metaprune_api_Term_metaprune_api_Term_metaprune_api_Term_metaprune_api_Term (FinS C [.t 6] r S') (AS.startS xs S)) : ACallsS Try.prog 86 xs S r S' :=
  acallsS_of Try.func86 rfl tr_slices_EqualFunc_metaprune_api_Term_metaprune_api_Term_metaprune_api_Term_metaprune_api_Term rfl hn h

def ir_term_Same : IR :=
  (.seq
  (.ops
  [.mk (some 2) none (.box 24 (.t 0)) .no, .mk (some 3) none (.box 24 (.t 1)) .no, .mk (some 4) none (.mov (.c (.one (.st (.bool false)))))
  .no])
  (.seq
  (.ops
  [.mk (some 5) none (.fieldAddr 0 (.t 2)) .no, .mk (some 6) none (.load false 1 (.t 5)) .no, .mk (some 7) none (.fieldAddr 0 (.t 3)) .no, .mk (some 8) none (.load false 1 (.t 7)) .no, .mk (some 9) none (.bin .eql (.t 6) (.t 8)) .no, .mk (some 10) none (.mov (.t 9)) .no, .mk (some 11) (some (10, true)) (.fieldAddr 1 (.t 2)) .no, .mk (some 12) (some (10, true)) (.load false 1 (.t 11)) .no, .mk (some 13) (some (10, true)) (.fieldAddr 1 (.t 3)) .no, .mk (some 14) (some (10, true)) (.load false 1 (.t 13)) .no, .mk (some 15) (some (10, true)) (.call 86
  [.t 12, .t 14, .c (.one (.fn 76 []))])
  .no, .mk (some 16) none
  (.pick (.t 10) (.t 15) (.c (.one (.st (.bool false)))))
  .no, .mk (some 4) none (.mov (.t 16)) .no])
  .ret))
theorem tr_term_Same : trCode Try.prog 17 [] (Try.f76.body.getD .skip) = some ir_term_Same := by kernel_rfl
theorem ac_term_Same {xs : List AV} {r : AV} (hn : xs.length ≤ 17) (h : ∀ C : Ctx, C.n = 17 → IWP Try.prog C [] ir_term_Same (FinQ [.t 4] r) (AS.start xs)) : ACalls Try.prog 76 xs r :=
  acalls_of Try.func76 rfl tr_term_Same rfl hn h
theorem acS_term_Same {xs : List AV} {S S' : AStore} {r : AV} (hn : xs.length ≤ 17) (h : Clean S → ∀ C : Ctx, C.n = 17 → IWP Try.prog C [] ir_term_Same (FinS C [.t 4] r S') (AS.startS xs S)) : ACallsS Try.prog 76 xs S r S' :=
  acallsS_of Try.func76 rfl tr_term_Same rfl hn h

end Go.Proofs.Ytpajlfdhmjgpnaa

namespace Go.Proofs.Ytpajlfdhmjgpnaa
open Go Go.RowKit
set_option linter.unusedVariables false
set_option linter.unusedSimpArgs false
set_option maxHeartbeats 800000

theorem Tm.beqL_no {xs ys : List Tm} (h : xs ≠ ys) : Tm.beqL xs ys = false := by
  rw [← Bool.not_eq_true, Tm.beqL_iff]
  exact h
theorem equalFunc_a (xs ys : List Tm) (ih : ∀ x ∈ xs, ∀ y, ACalls Try.prog 76 [aTm x, aTm y] (aBool (x.beq y))) :
    ACalls Try.prog 86 [aTms xs, aTms ys, .one (.fn 76 [])] (aBool (Tm.beqL xs ys)) := by
  have hplain : plainF Try.prog 76 = true := by kernel_rfl
  refine ac_slices_EqualFunc_metaprune_api_Term_metaprune_api_Term_metaprune_api_Term_metaprune_api_Term (Nat.le_of_ble_eq_true rfl) fun C hC => ?_
  unfold ir_slices_EqualFunc_metaprune_api_Term_metaprune_api_Term_metaprune_api_Term_metaprune_api_Term
  refine IWP.learn 0 (by omega) fun hkn => ?_
  have hkx := known_len hkn
  rw [List.length_map] at hkx
  by_cases hl : xs.length = ys.length
  · have hl' : (xs.length : Int) = ys.length := by omega
    repeat' (first | (with_reducible first | refine Wa ?_ | refine Wb ?_ | refine Wc ?_ | refine Wd ?_ | refine We ?_ | refine Wf ?_ | refine Wg ?_ | refine Wh ?_ | refine Wi ?_ | refine Wj ?_ | refine Wk (by decide) ?_ | refine Wl ?_ | refine Wm ?_ | refine Wn ?_) | ((with_reducible first | refine Wo (fun K hK => ?_) | refine Wp ?_ | refine Wq ?_ | refine Wr ?_); (try simp only [go_sem, List.forall_mem_nil, ↓guard_ite, ↓pick_ite, seval, encT_eq, inR_i64, hl', decide_eq_true_eq, decide_eq_false_iff_not, Int.ofNat_lt]); (repeat with_reducible refine And.intro (by first | omega | (with_reducible first | exact lens_encT | exact lens_encL | exact lens_encB | exact lens_encP) | (simp; done) | (simp only [List.length_take, List.length_map, List.length_append, maxLen_eq]; omega)) ?_); (try (with_reducible refine hK _ ?_; clear hK K)); (try with_reducible refine ite_conj ?_)))
    refine IWP.loopD [8, 9] (fun n s => ∃ k, k ≤ xs.length ∧ n = xs.length - k ∧ xs.take k = ys.take k ∧ s.env 1 = aTms ys ∧ s.env 2 = .one (.fn 76 []) ∧ s.env 15 = aTms xs ∧ s.env 16 = aInt xs.length ∧ s.env 17 = aInt k ∧ s.S 8 = none ∧ s.S 9 = none) xs.length ⟨0, Nat.zero_le _, rfl, rfl, rfl, rfl, rfl, by simp only [go_sem, List.forall_mem_nil, ↓guard_ite, ↓pick_ite, seval, encT_eq, inR_i64, hl'], rfl, rfl, rfl⟩ ?_
    rintro n ⟨env, S⟩ ⟨k, hk, rfl, h0, e1, e2, e15, e16, e17, s8, s9⟩
    simp only at e1 e2 e15 e16 e17 s8 s9
    by_cases hlt : (k : Int) < xs.length
    · obtain ⟨x, hx⟩ := get_lt (show k < xs.length by omega)
      obtain ⟨y, hy⟩ := get_lt (show k < ys.length by omega)
      repeat' (first | (with_reducible first | refine Wa ?_ | refine Wb ?_ | refine Wc ?_ | refine Wd ?_ | refine We ?_ | refine Wf ?_ | refine Wg ?_ | refine Wh ?_ | refine Wi ?_ | refine Wj ?_ | refine Wk (by decide) ?_ | refine Wl ?_ | refine Wm ?_ | refine Wn ?_) | ((with_reducible first | refine Wo (fun K hK => ?_) | refine Wp ?_ | refine Wq ?_ | refine Wr ?_); (try simp only [go_sem, List.forall_mem_nil, ↓guard_ite, ↓pick_ite, seval, encT_eq, inR_i64, e1, e2, e15, e16, e17, s8, s9, hlt, hx, hy, hplain, decide_eq_true_eq, decide_eq_false_iff_not, Int.ofNat_lt]); (repeat with_reducible refine And.intro (by first | omega | (with_reducible first | exact lens_encT | exact lens_encL | exact lens_encB | exact lens_encP) | (simp; done) | (simp only [List.length_take, List.length_map, List.length_append, maxLen_eq]; omega)) ?_); (try (with_reducible refine hK _ ?_; clear hK K)); (try with_reducible refine ite_conj ?_)))
      refine ⟨_, _, (ih x (mem_of_get hx) y).toS rfl, ?_⟩
      cases hxy : x.beq y with
      | false =>
        repeat' (first | (with_reducible first | refine Wa ?_ | refine Wb ?_ | refine Wc ?_ | refine Wd ?_ | refine We ?_ | refine Wf ?_ | refine Wg ?_ | refine Wh ?_ | refine Wi ?_ | refine Wj ?_ | refine Wk (by decide) ?_ | refine Wl ?_ | refine Wm ?_ | refine Wn ?_) | ((with_reducible first | refine Wo (fun K hK => ?_) | refine Wp ?_ | refine Wq ?_ | refine Wr ?_); (try simp only [go_sem, List.forall_mem_nil, ↓guard_ite, ↓pick_ite, seval, encT_eq, inR_i64, hxy, decide_eq_true_eq, decide_eq_false_iff_not, Int.ofNat_lt]); (repeat with_reducible refine And.intro (by first | omega | (with_reducible first | exact lens_encT | exact lens_encL | exact lens_encB | exact lens_encP) | (simp; done) | (simp only [List.length_take, List.length_map, List.length_append, maxLen_eq]; omega)) ?_); (try (with_reducible refine hK _ ?_; clear hK K)); (try with_reducible refine ite_conj ?_)))
        simp only [go_sem, List.forall_mem_nil, ↓guard_ite, ↓pick_ite, seval, FinQ, AS.result, resAll, resOne, tupV]
        rw [Tm.beqL_no fun e => by
          subst e
          rw [hx] at hy
          cases hy
          rw [Tm.beq_refl] at hxy
          cases hxy]
      | true =>
        have hxy' := (Tm.beq_iff x y).1 hxy
        repeat' (first | (with_reducible first | refine Wa ?_ | refine Wb ?_ | refine Wc ?_ | refine Wd ?_ | refine We ?_ | refine Wf ?_ | refine Wg ?_ | refine Wh ?_ | refine Wi ?_ | refine Wj ?_ | refine Wk (by decide) ?_ | refine Wl ?_ | refine Wm ?_ | refine Wn ?_) | ((with_reducible first | refine Wo (fun K hK => ?_) | refine Wp ?_ | refine Wq ?_ | refine Wr ?_); (try simp only [go_sem, List.forall_mem_nil, ↓guard_ite, ↓pick_ite, seval, encT_eq, inR_i64, hxy, e1, e2, e15, e16, e17, s8, s9, decide_eq_true_eq, decide_eq_false_iff_not, Int.ofNat_lt]); (repeat with_reducible refine And.intro (by first | omega | (with_reducible first | exact lens_encT | exact lens_encL | exact lens_encB | exact lens_encP) | (simp; done) | (simp only [List.length_take, List.length_map, List.length_append, maxLen_eq]; omega)) ?_); (try (with_reducible refine hK _ ?_; clear hK K)); (try with_reducible refine ite_conj ?_)))
        refine then_normal ⟨xs.length - (k + 1), by omega, k + 1, by omega, rfl, ?_, ?_⟩
        · rw [take_snoc hx, take_snoc hy, h0, hxy']
        · simp only [go_sem, List.forall_mem_nil, ↓guard_ite, ↓pick_ite, seval, AS.drop, dropS, AC.clears, AC.clear, AC.highs, AC.high, Bool.not_false, Bool.true_and, Bool.and_self, AV.purge, AV.purges, AC.purge, ABlk.purge, List.contains_cons, List.contains_nil, Nat.reduceBEq, Bool.or_self, Bool.or_false, Bool.false_or, Bool.or_true, encT_eq, inR_i64, e1, e2, e15, e16, e17, s8, s9]
          congr 3
    · repeat' (first | (with_reducible first | refine Wa ?_ | refine Wb ?_ | refine Wc ?_ | refine Wd ?_ | refine We ?_ | refine Wf ?_ | refine Wg ?_ | refine Wh ?_ | refine Wi ?_ | refine Wj ?_ | refine Wk (by decide) ?_ | refine Wl ?_ | refine Wm ?_ | refine Wn ?_) | ((with_reducible first | refine Wo (fun K hK => ?_) | refine Wp ?_ | refine Wq ?_ | refine Wr ?_); (try simp only [go_sem, List.forall_mem_nil, ↓guard_ite, ↓pick_ite, seval, encT_eq, inR_i64, e1, e2, e15, e16, e17, hlt, decide_eq_true_eq, decide_eq_false_iff_not, Int.ofNat_lt]); (repeat with_reducible refine And.intro (by first | omega | (with_reducible first | exact lens_encT | exact lens_encL | exact lens_encB | exact lens_encP) | (simp; done) | (simp only [List.length_take, List.length_map, List.length_append, maxLen_eq]; omega)) ?_); (try (with_reducible refine hK _ ?_; clear hK K)); (try with_reducible refine ite_conj ?_)))
      simp only [go_sem, List.forall_mem_nil, ↓guard_ite, ↓pick_ite, seval, FinQ, AS.result, resAll, resOne, tupV]
      rw [List.take_of_length_le (by omega), List.take_of_length_le (by omega)] at h0
      rw [(Tm.beqL_iff xs ys).2 h0]
  · have hl' : ¬ (xs.length : Int) = ys.length := by omega
    repeat' (first | (with_reducible first | refine Wa ?_ | refine Wb ?_ | refine Wc ?_ | refine Wd ?_ | refine We ?_ | refine Wf ?_ | refine Wg ?_ | refine Wh ?_ | refine Wi ?_ | refine Wj ?_ | refine Wk (by decide) ?_ | refine Wl ?_ | refine Wm ?_ | refine Wn ?_) | ((with_reducible first | refine Wo (fun K hK => ?_) | refine Wp ?_ | refine Wq ?_ | refine Wr ?_); (try simp only [go_sem, List.forall_mem_nil, ↓guard_ite, ↓pick_ite, seval, encT_eq, inR_i64, hl', decide_eq_true_eq, decide_eq_false_iff_not, Int.ofNat_lt]); (repeat with_reducible refine And.intro (by first | omega | (with_reducible first | exact lens_encT | exact lens_encL | exact lens_encB | exact lens_encP) | (simp; done) | (simp only [List.length_take, List.length_map, List.length_append, maxLen_eq]; omega)) ?_); (try (with_reducible refine hK _ ?_; clear hK K)); (try with_reducible refine ite_conj ?_)))
    simp only [go_sem, List.forall_mem_nil, ↓guard_ite, ↓pick_ite, seval, FinQ, AS.result, resAll, resOne, tupV]
    rw [Tm.beqL_no fun e => hl (by rw [e])]
theorem same_a (a b : Tm) : ACalls Try.prog 76 [aTm a, aTm b] (aBool (a.beq b)) := by
  induction h : SizeOf.sizeOf a using Nat.strongRecOn generalizing a b with
  | _ N ih =>
  subst h
  have hE := equalFunc_a a.args b.args fun x hx y => ih _ (Tm.lt_of_arg hx) x y rfl
  have he : a.beq b = (decide (a.name = b.name) && Tm.beqL a.args b.args) := by cases a; cases b; rfl
  refine ac_term_Same (Nat.le_of_ble_eq_true rfl) fun C hC => ?_
  unfold ir_term_Same
  by_cases hn : a.name = b.name
  · repeat' (first | (with_reducible first | refine Wa ?_ | refine Wb ?_ | refine Wc ?_ | refine Wd ?_ | refine We ?_ | refine Wf ?_ | refine Wg ?_ | refine Wh ?_ | refine Wi ?_ | refine Wj ?_ | refine Wk (by decide) ?_ | refine Wl ?_ | refine Wm ?_ | refine Wn ?_) | refine CallG.mk _ (hE) ?_ | ((with_reducible first | refine Wo (fun K hK => ?_) | refine Wp ?_ | refine Wq ?_ | refine Wr ?_); (try simp only [go_sem, List.forall_mem_nil, ↓guard_ite, ↓pick_ite, seval, encT_eq, inR_i64, hn, decide_eq_true_eq, decide_eq_false_iff_not, Int.ofNat_lt]); (repeat with_reducible refine And.intro (by first | omega | (with_reducible first | exact lens_encT | exact lens_encL | exact lens_encB | exact lens_encP) | (simp; done) | (simp only [List.length_take, List.length_map, List.length_append, maxLen_eq]; omega)) ?_); (try (with_reducible refine hK _ ?_; clear hK K)); (try with_reducible refine ite_conj ?_)))
    simp only [go_sem, List.forall_mem_nil, ↓guard_ite, ↓pick_ite, seval, FinQ, AS.result, resAll, resOne, tupV]
    rw [he, decide_eq_true hn]
    rfl
  · repeat' (first | (with_reducible first | refine Wa ?_ | refine Wb ?_ | refine Wc ?_ | refine Wd ?_ | refine We ?_ | refine Wf ?_ | refine Wg ?_ | refine Wh ?_ | refine Wi ?_ | refine Wj ?_ | refine Wk (by decide) ?_ | refine Wl ?_ | refine Wm ?_ | refine Wn ?_) | ((with_reducible first | refine Wo (fun K hK => ?_) | refine Wp ?_ | refine Wq ?_ | refine Wr ?_); (try simp only [go_sem, List.forall_mem_nil, ↓guard_ite, ↓pick_ite, seval, encT_eq, inR_i64, hn, decide_eq_true_eq, decide_eq_false_iff_not, Int.ofNat_lt]); (repeat with_reducible refine And.intro (by first | omega | (with_reducible first | exact lens_encT | exact lens_encL | exact lens_encB | exact lens_encP) | (simp; done) | (simp only [List.length_take, List.length_map, List.length_append, maxLen_eq]; omega)) ?_); (try (with_reducible refine hK _ ?_; clear hK K)); (try with_reducible refine ite_conj ?_)))
    simp only [go_sem, List.forall_mem_nil, ↓guard_ite, ↓pick_ite, seval, FinQ, AS.result, resAll, resOne, tupV]
    rw [he, decide_eq_false hn]
    rfl
end Go.Proofs.Ytpajlfdhmjgpnaa
