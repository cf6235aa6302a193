/-
  Part 9 of the texts: IrTerm; BTerm; BVars; AbsV. Conditions: none.
-/
import Derived.Test.YtohgkbgpcnmdpaaTxt8
namespace Go.Proofs.Ytohgkbgpcnmdpaa
open Go Go.RowKit
set_option maxRecDepth 100000

def ir_term_letter : IR :=
  (.seq
  (.ops
  [.mk (some 2) none (.mov (.c (.one (.st (.bool false)))))
  .no])
  (.seq
  (.ops
  [.mk (some 3) none (.mov (.t 0)) .no, .mk (some 4) none (.bin .geq (.t 3) (.c (.one (.st (.int .u8 97)))))
  .no, .mk (some 5) none (.mov (.t 4)) .no, .mk (some 6) (some (5, true)) (.mov (.t 0)) .no, .mk (some 7) (some (5, true)) (.bin .leq (.t 6) (.c (.one (.st (.int .u8 122)))))
  .no, .mk (some 8) none
  (.pick (.t 5) (.t 7) (.c (.one (.st (.bool false)))))
  .no, .mk (some 9) none (.mov (.t 8)) .no, .mk (some 10) (some (9, false)) (.mov (.t 0)) .no, .mk (some 11) (some (9, false)) (.bin .geq (.t 10) (.c (.one (.st (.int .u8 65)))))
  .no, .mk (some 12) (some (9, false)) (.mov (.t 11)) .no, .mk (some 13) (some (12, true)) (.mov (.t 0)) .no, .mk (some 14) (some (12, true)) (.bin .leq (.t 13) (.c (.one (.st (.int .u8 90)))))
  .no, .mk (some 15) (some (9, false))
  (.pick (.t 12) (.t 14) (.c (.one (.st (.bool false)))))
  .no, .mk (some 16) none
  (.pick (.t 9) (.c (.one (.st (.bool true)))) (.t 15))
  .no, .mk (some 17) none (.mov (.t 16)) .no, .mk (some 18) (some (17, false)) (.mov (.t 0)) .no, .mk (some 19) (some (17, false)) (.bin .geq (.t 18) (.c (.one (.st (.int .u8 48)))))
  .no, .mk (some 20) (some (17, false)) (.mov (.t 19)) .no, .mk (some 21) (some (20, true)) (.mov (.t 0)) .no, .mk (some 22) (some (20, true)) (.bin .leq (.t 21) (.c (.one (.st (.int .u8 57)))))
  .no, .mk (some 23) (some (17, false))
  (.pick (.t 20) (.t 22) (.c (.one (.st (.bool false)))))
  .no, .mk (some 24) none
  (.pick (.t 17) (.c (.one (.st (.bool true)))) (.t 23))
  .no, .mk (some 2) none (.mov (.t 24)) .no])
  .ret))
theorem tr_term_letter : trCode Try.prog 25 [] (Try.f47.body.getD .skip) = some ir_term_letter := by kernel_rfl
theorem ac_term_letter {xs : List AV} {r : AV} (hn : xs.length ≤ 25) (h : ∀ C : Ctx, C.n = 25 → IWP Try.prog C [] ir_term_letter (FinQ [.t 2] r) (AS.start xs)) : ACalls Try.prog 47 xs r :=
  acalls_of Try.func47 rfl tr_term_letter rfl hn h
def ir_term_Name : IR :=
  (.seq
  (.ops
  [.mk (some 2) none (.mov (.c (.one (.st (.bool false)))))
  .no])
  (.seq
  (.seq
  (.ops
  [.mk (some 4) none (.mov (.t 0)) .no, .mk (some 5) none (.len true (.t 4)) .no, .mk (some 6) none (.bin .lss (.t 5) (.c (.one (.st (.int .i64 1)))))
  .no, .mk (some 7) none (.mov (.t 6)) .no, .mk (some 8) (some (7, false)) (.mov (.t 0)) .no, .mk (some 9) (some (7, false)) (.len true (.t 8)) .no, .mk (some 10) (some (7, false)) (.bin .gtr (.t 9) (.c (.one (.st (.int .i64 8)))))
  .no, .mk (some 11) none
  (.pick (.t 7) (.c (.one (.st (.bool true)))) (.t 10))
  .no, .mk (some 12) none (.mov (.t 11)) .no, .mk (some 13) (some (12, false)) (.mov (.t 0)) .no, .mk (some 14) (some (12, false))
  (.indexStr (.t 13) (.c (.one (.st (.int .i64 0)))))
  .no, .mk (some 15) (some (12, false)) (.bin .geq (.t 14) (.c (.one (.st (.int .u8 48)))))
  .no, .mk (some 16) (some (12, false)) (.mov (.t 15)) .no, .mk (some 17) (some (16, true)) (.mov (.t 0)) .no, .mk (some 18) (some (16, true))
  (.indexStr (.t 17) (.c (.one (.st (.int .i64 0)))))
  .no, .mk (some 19) (some (16, true)) (.bin .leq (.t 18) (.c (.one (.st (.int .u8 57)))))
  .no, .mk (some 20) (some (12, false))
  (.pick (.t 16) (.t 19) (.c (.one (.st (.bool false)))))
  .no, .mk (some 21) none
  (.pick (.t 12) (.c (.one (.st (.bool true)))) (.t 20))
  .no])
  (.cond (.t 21)
  (.seq
  (.ops
  [.mk (some 2) none (.mov (.c (.one (.st (.bool false)))))
  .no])
  .ret)
  .skip))
  (.seq
  (.seq
  (.ops
  [.mk (some 22) none (.mov (.t 0)) .no, .mk (some 23) none (.len true (.t 22)) .no, .mk (some 24) none (.mov (.c (.one (.st (.int .i64 0)))))
  .no])
  (.block 0
  (.loop
  (.seq
  (.ops
  [.mk (some 25) none (.bin .lss (.t 24) (.t 23))
  .no])
  (.seq (.cond (.t 25) .skip (.exit 0))
  (.seq
  (.block 1
  (.seq
  (.ops
  [.mk (some 26) none (.mov (.t 24)) .no, .mk (some 3) none (.mov (.t 26)) .no])
  (.seq
  (.ops
  [.mk (some 27) none (.mov (.t 0)) .no, .mk (some 28) none (.mov (.t 3)) .no, .mk (some 29) none (.indexStr (.t 27) (.t 28))
  .no, .mk (some 30) none (.call 47 [.t 29]) .no, .mk (some 31) none (.un .not (.t 30)) .no])
  (.cond (.t 31)
  (.seq
  (.ops
  [.mk (some 2) none (.mov (.c (.one (.st (.bool false)))))
  .no])
  .ret)
  .skip))))
  (.ops
  [.mk (some 32) none (.bin .add (.t 24) (.c (.one (.st (.int .i64 1)))))
  .no, .mk (some 24) none (.mov (.t 32)) .no])))))))
  (.seq
  (.ops
  [.mk (some 2) none (.mov (.c (.one (.st (.bool true)))))
  .no])
  .ret))))
theorem tr_term_Name : trCode Try.prog 33 [] (Try.f48.body.getD .skip) = some ir_term_Name := by kernel_rfl
theorem ac_term_Name {xs : List AV} {r : AV} (hn : xs.length ≤ 33) (h : ∀ C : Ctx, C.n = 33 → IWP Try.prog C [] ir_term_Name (FinQ [.t 2] r) (AS.start xs)) : ACalls Try.prog 48 xs r :=
  acalls_of Try.func48 rfl tr_term_Name rfl hn h
def ir_term_Variable : IR :=
  (.seq
  (.ops
  [.mk (some 2) none (.mov (.c (.one (.st (.bool false)))))
  .no])
  (.seq
  (.ops
  [.mk (some 3) none (.mov (.t 0)) .no, .mk (some 4) none (.bin .neq (.t 3) (.c (.one (.st (.str (ByteArray.mk (#[])))))))
  .no, .mk (some 5) none (.mov (.t 4)) .no, .mk (some 6) (some (5, true)) (.mov (.t 0)) .no, .mk (some 7) (some (5, true))
  (.indexStr (.t 6) (.c (.one (.st (.int .i64 0)))))
  .no, .mk (some 8) (some (5, true)) (.bin .geq (.t 7) (.c (.one (.st (.int .u8 65)))))
  .no, .mk (some 9) none
  (.pick (.t 5) (.t 8) (.c (.one (.st (.bool false)))))
  .no, .mk (some 10) none (.mov (.t 9)) .no, .mk (some 11) (some (10, true)) (.mov (.t 0)) .no, .mk (some 12) (some (10, true))
  (.indexStr (.t 11) (.c (.one (.st (.int .i64 0)))))
  .no, .mk (some 13) (some (10, true)) (.bin .leq (.t 12) (.c (.one (.st (.int .u8 90)))))
  .no, .mk (some 14) none
  (.pick (.t 10) (.t 13) (.c (.one (.st (.bool false)))))
  .no, .mk (some 2) none (.mov (.t 14)) .no])
  .ret))
theorem tr_term_Variable : trCode Try.prog 15 [] (Try.f44.body.getD .skip) = some ir_term_Variable := by kernel_rfl
theorem ac_term_Variable {xs : List AV} {r : AV} (hn : xs.length ≤ 15) (h : ∀ C : Ctx, C.n = 15 → IWP Try.prog C [] ir_term_Variable (FinQ [.t 2] r) (AS.start xs)) : ACalls Try.prog 44 xs r :=
  acalls_of Try.func44 rfl tr_term_Variable rfl hn h
def ir_R_Same : IR :=
  (.seq
  (.ops
  [.mk (some 2) none (.box 24 (.t 0)) .no, .mk (some 3) none (.box 24 (.t 1)) .no, .mk (some 4) none (.mov (.c (.one (.st (.bool false)))))
  .no])
  (.seq
  (.seq
  (.ops
  [.mk (some 6) none (.fieldAddr 0 (.t 2)) .no, .mk (some 7) none (.load false 1 (.t 6)) .no, .mk (some 8) none (.fieldAddr 0 (.t 3)) .no, .mk (some 9) none (.load false 1 (.t 8)) .no, .mk (some 10) none (.bin .neq (.t 7) (.t 9))
  .no, .mk (some 11) none (.mov (.t 10)) .no, .mk (some 12) (some (11, false)) (.fieldAddr 1 (.t 2)) .no, .mk (some 13) (some (11, false)) (.load false 1 (.t 12)) .no, .mk (some 14) (some (11, false)) (.len false (.t 13)) .no, .mk (some 15) (some (11, false)) (.fieldAddr 1 (.t 3)) .no, .mk (some 16) (some (11, false)) (.load false 1 (.t 15)) .no, .mk (some 17) (some (11, false)) (.len false (.t 16)) .no, .mk (some 18) (some (11, false)) (.bin .neq (.t 14) (.t 17))
  .no, .mk (some 19) none
  (.pick (.t 11) (.c (.one (.st (.bool true)))) (.t 18))
  .no])
  (.cond (.t 19)
  (.seq
  (.ops
  [.mk (some 4) none (.mov (.c (.one (.st (.bool false)))))
  .no])
  .ret)
  .skip))
  (.seq
  (.seq
  (.ops
  [.mk (some 5) none (.mov (.c (.one (.st (.int .i64 0)))))
  .no])
  (.block 0
  (.loop
  (.seq
  (.seq
  (.ops
  [.mk (some 20) none (.mov (.t 5)) .no, .mk (some 21) none (.fieldAddr 1 (.t 2)) .no, .mk (some 22) none (.load false 1 (.t 21)) .no, .mk (some 23) none (.len false (.t 22)) .no, .mk (some 24) none (.bin .lss (.t 20) (.t 23))
  .no])
  (.cond (.t 24) .skip (.exit 0)))
  (.seq
  (.block 1
  (.seq
  (.ops
  [.mk (some 27) none (.fieldAddr 1 (.t 2)) .no, .mk (some 28) none (.load false 1 (.t 27)) .no, .mk (some 29) none (.mov (.t 5)) .no, .mk (some 30) none (.indexAddr 2 (.t 28) (.t 29))
  .no, .mk (some 31) none (.load true 2 (.t 30)) .no, .mk (some 32) none (.fieldAddr 1 (.t 3)) .no, .mk (some 33) none (.load false 1 (.t 32)) .no, .mk (some 34) none (.mov (.t 5)) .no, .mk (some 35) none (.indexAddr 2 (.t 33) (.t 34))
  .no, .mk (some 36) none (.load true 2 (.t 35)) .no, .mk (some 37) none (.call 14 [.t 31, .t 36])
  .no, .mk (some 38) none (.un .not (.t 37)) .no])
  (.cond (.t 38)
  (.seq
  (.ops
  [.mk (some 4) none (.mov (.c (.one (.st (.bool false)))))
  .no])
  .ret)
  .skip)))
  (.ops
  [.mk (some 25) none (.mov (.t 5)) .no, .mk (some 26) none (.bin .add (.t 25) (.c (.one (.st (.int .i64 1)))))
  .no, .mk (some 5) none (.mov (.t 26)) .no]))))))
  (.seq
  (.ops
  [.mk (some 4) none (.mov (.c (.one (.st (.bool true)))))
  .no])
  .ret))))
theorem tr_R_Same : trCode Try.prog 39 [] (Try.f14.body.getD .skip) = some ir_R_Same := by kernel_rfl
theorem ac_R_Same {xs : List AV} {r : AV} (hn : xs.length ≤ 39) (h : ∀ C : Ctx, C.n = 39 → IWP Try.prog C [] ir_R_Same (FinQ [.t 4] r) (AS.start xs)) : ACalls Try.prog 14 xs r :=
  acalls_of Try.func14 rfl tr_R_Same rfl hn h
end Go.Proofs.Ytohgkbgpcnmdpaa

namespace Go.Proofs.Ytohgkbgpcnmdpaa
open Go Go.RowKit
set_option linter.unusedVariables false
set_option linter.unusedSimpArgs false
set_option maxHeartbeats 400000

theorem byteN_eq (s : ByteArray) (k : Nat) : byteN s k = byteAt s k := rfl
theorem size_ne {s : ByteArray} (h : ¬ s.size = 0) : ¬ s = ⟨#[]⟩ := fun e => h (by rw [e]; rfl)
theorem size_eq0 {s : ByteArray} (h : s.size = 0) : s = ⟨#[]⟩ := by
  have := ByteArray.size_eq_zero_iff.1 h
  exact this

theorem letter_a (n : Int) (h0 : 0 ≤ n) : ACalls Try.prog 47 [.one (.st (.int .u8 n))] (aBool (letterI n)) := by
  refine ac_term_letter (Nat.le_of_ble_eq_true rfl) fun C hC => ?_
  unfold ir_term_letter
  have hc : (97 ≤ n ∧ n ≤ 122) ∨ (122 < n) ∨ (n < 97 ∧ 65 ≤ n ∧ n ≤ 90) ∨ (n < 97 ∧ 90 < n) ∨ (n < 65 ∧ 48 ≤ n ∧ n ≤ 57) ∨ (n < 65 ∧ 57 < n) ∨ (n < 48) := by omega
  rcases hc with h | h | h | h | h | h | h
  · have h1 : 97 ≤ n := h.1
    have h2 : n ≤ 122 := h.2
    repeat' (first | (with_reducible first | refine Wa ?_ | refine Wb ?_ | refine Wc ?_ | refine Wd ?_ | refine We ?_ | refine Wf ?_ | refine Wg ?_ | refine Wh ?_ | refine Wi ?_ | refine Wj ?_ | refine Wk (by decide) ?_ | refine Wl ?_ | refine Wm ?_ | refine Wn ?_) | ((with_reducible first | refine Wo (fun K hK => ?_) | refine Wq ?_ | refine Wr ?_); (try simp only [go_sem, List.forall_mem_nil, ↓guard_ite, ↓pick_ite, seval, encT_eq, inR_i64, h1, h2]); (repeat with_reducible refine And.intro (by first | omega | (with_reducible first | exact lens_encT | exact lens_encL | exact lens_encB | exact lens_encP) | (simp; done) | (simp only [List.length_take, List.length_map, List.length_append, maxLen_eq]; omega)) ?_); (try (with_reducible refine hK _ ?_; clear hK K))))
    simp only [go_sem, List.forall_mem_nil, ↓guard_ite, ↓pick_ite, seval, FinQ, AS.result, resAll, resOne, tupV, letterI, h1, h2]
    try simp
  · have h1 : 97 ≤ n := by omega
    have h2 : ¬ n ≤ 122 := by omega
    have h3 : 65 ≤ n := by omega
    have h4 : ¬ n ≤ 90 := by omega
    have h5 : 48 ≤ n := by omega
    have h6 : ¬ n ≤ 57 := by omega
    repeat' (first | (with_reducible first | refine Wa ?_ | refine Wb ?_ | refine Wc ?_ | refine Wd ?_ | refine We ?_ | refine Wf ?_ | refine Wg ?_ | refine Wh ?_ | refine Wi ?_ | refine Wj ?_ | refine Wk (by decide) ?_ | refine Wl ?_ | refine Wm ?_ | refine Wn ?_) | ((with_reducible first | refine Wo (fun K hK => ?_) | refine Wq ?_ | refine Wr ?_); (try simp only [go_sem, List.forall_mem_nil, ↓guard_ite, ↓pick_ite, seval, encT_eq, inR_i64, h1, h2, h3, h4, h5, h6]); (repeat with_reducible refine And.intro (by first | omega | (with_reducible first | exact lens_encT | exact lens_encL | exact lens_encB | exact lens_encP) | (simp; done) | (simp only [List.length_take, List.length_map, List.length_append, maxLen_eq]; omega)) ?_); (try (with_reducible refine hK _ ?_; clear hK K))))
    simp only [go_sem, List.forall_mem_nil, ↓guard_ite, ↓pick_ite, seval, FinQ, AS.result, resAll, resOne, tupV, letterI, h1, h2, h3, h4, h5, h6]
    try simp
  · have h1 : ¬ 97 ≤ n := by omega
    have h3 : 65 ≤ n := by omega
    have h4 : n ≤ 90 := by omega
    repeat' (first | (with_reducible first | refine Wa ?_ | refine Wb ?_ | refine Wc ?_ | refine Wd ?_ | refine We ?_ | refine Wf ?_ | refine Wg ?_ | refine Wh ?_ | refine Wi ?_ | refine Wj ?_ | refine Wk (by decide) ?_ | refine Wl ?_ | refine Wm ?_ | refine Wn ?_) | ((with_reducible first | refine Wo (fun K hK => ?_) | refine Wq ?_ | refine Wr ?_); (try simp only [go_sem, List.forall_mem_nil, ↓guard_ite, ↓pick_ite, seval, encT_eq, inR_i64, h1, h3, h4]); (repeat with_reducible refine And.intro (by first | omega | (with_reducible first | exact lens_encT | exact lens_encL | exact lens_encB | exact lens_encP) | (simp; done) | (simp only [List.length_take, List.length_map, List.length_append, maxLen_eq]; omega)) ?_); (try (with_reducible refine hK _ ?_; clear hK K))))
    simp only [go_sem, List.forall_mem_nil, ↓guard_ite, ↓pick_ite, seval, FinQ, AS.result, resAll, resOne, tupV, letterI, h1, h3, h4]
    try simp
  · have h1 : ¬ 97 ≤ n := by omega
    have h3 : 65 ≤ n := by omega
    have h4 : ¬ n ≤ 90 := by omega
    have h5 : 48 ≤ n := by omega
    have h6 : ¬ n ≤ 57 := by omega
    repeat' (first | (with_reducible first | refine Wa ?_ | refine Wb ?_ | refine Wc ?_ | refine Wd ?_ | refine We ?_ | refine Wf ?_ | refine Wg ?_ | refine Wh ?_ | refine Wi ?_ | refine Wj ?_ | refine Wk (by decide) ?_ | refine Wl ?_ | refine Wm ?_ | refine Wn ?_) | ((with_reducible first | refine Wo (fun K hK => ?_) | refine Wq ?_ | refine Wr ?_); (try simp only [go_sem, List.forall_mem_nil, ↓guard_ite, ↓pick_ite, seval, encT_eq, inR_i64, h1, h3, h4, h5, h6]); (repeat with_reducible refine And.intro (by first | omega | (with_reducible first | exact lens_encT | exact lens_encL | exact lens_encB | exact lens_encP) | (simp; done) | (simp only [List.length_take, List.length_map, List.length_append, maxLen_eq]; omega)) ?_); (try (with_reducible refine hK _ ?_; clear hK K))))
    simp only [go_sem, List.forall_mem_nil, ↓guard_ite, ↓pick_ite, seval, FinQ, AS.result, resAll, resOne, tupV, letterI, h1, h3, h4, h5, h6]
    try simp
  · have h1 : ¬ 97 ≤ n := by omega
    have h3 : ¬ 65 ≤ n := by omega
    have h5 : 48 ≤ n := by omega
    have h6 : n ≤ 57 := by omega
    repeat' (first | (with_reducible first | refine Wa ?_ | refine Wb ?_ | refine Wc ?_ | refine Wd ?_ | refine We ?_ | refine Wf ?_ | refine Wg ?_ | refine Wh ?_ | refine Wi ?_ | refine Wj ?_ | refine Wk (by decide) ?_ | refine Wl ?_ | refine Wm ?_ | refine Wn ?_) | ((with_reducible first | refine Wo (fun K hK => ?_) | refine Wq ?_ | refine Wr ?_); (try simp only [go_sem, List.forall_mem_nil, ↓guard_ite, ↓pick_ite, seval, encT_eq, inR_i64, h1, h3, h5, h6]); (repeat with_reducible refine And.intro (by first | omega | (with_reducible first | exact lens_encT | exact lens_encL | exact lens_encB | exact lens_encP) | (simp; done) | (simp only [List.length_take, List.length_map, List.length_append, maxLen_eq]; omega)) ?_); (try (with_reducible refine hK _ ?_; clear hK K))))
    simp only [go_sem, List.forall_mem_nil, ↓guard_ite, ↓pick_ite, seval, FinQ, AS.result, resAll, resOne, tupV, letterI, h1, h3, h5, h6]
    try simp
  · have h1 : ¬ 97 ≤ n := by omega
    have h3 : ¬ 65 ≤ n := by omega
    have h5 : 48 ≤ n := by omega
    have h6 : ¬ n ≤ 57 := by omega
    repeat' (first | (with_reducible first | refine Wa ?_ | refine Wb ?_ | refine Wc ?_ | refine Wd ?_ | refine We ?_ | refine Wf ?_ | refine Wg ?_ | refine Wh ?_ | refine Wi ?_ | refine Wj ?_ | refine Wk (by decide) ?_ | refine Wl ?_ | refine Wm ?_ | refine Wn ?_) | ((with_reducible first | refine Wo (fun K hK => ?_) | refine Wq ?_ | refine Wr ?_); (try simp only [go_sem, List.forall_mem_nil, ↓guard_ite, ↓pick_ite, seval, encT_eq, inR_i64, h1, h3, h5, h6]); (repeat with_reducible refine And.intro (by first | omega | (with_reducible first | exact lens_encT | exact lens_encL | exact lens_encB | exact lens_encP) | (simp; done) | (simp only [List.length_take, List.length_map, List.length_append, maxLen_eq]; omega)) ?_); (try (with_reducible refine hK _ ?_; clear hK K))))
    simp only [go_sem, List.forall_mem_nil, ↓guard_ite, ↓pick_ite, seval, FinQ, AS.result, resAll, resOne, tupV, letterI, h1, h3, h5, h6]
    try simp
  · have h1 : ¬ 97 ≤ n := by omega
    have h3 : ¬ 65 ≤ n := by omega
    have h5 : ¬ 48 ≤ n := by omega
    repeat' (first | (with_reducible first | refine Wa ?_ | refine Wb ?_ | refine Wc ?_ | refine Wd ?_ | refine We ?_ | refine Wf ?_ | refine Wg ?_ | refine Wh ?_ | refine Wi ?_ | refine Wj ?_ | refine Wk (by decide) ?_ | refine Wl ?_ | refine Wm ?_ | refine Wn ?_) | ((with_reducible first | refine Wo (fun K hK => ?_) | refine Wq ?_ | refine Wr ?_); (try simp only [go_sem, List.forall_mem_nil, ↓guard_ite, ↓pick_ite, seval, encT_eq, inR_i64, h1, h3, h5]); (repeat with_reducible refine And.intro (by first | omega | (with_reducible first | exact lens_encT | exact lens_encL | exact lens_encB | exact lens_encP) | (simp; done) | (simp only [List.length_take, List.length_map, List.length_append, maxLen_eq]; omega)) ?_); (try (with_reducible refine hK _ ?_; clear hK K))))
    simp only [go_sem, List.forall_mem_nil, ↓guard_ite, ↓pick_ite, seval, FinQ, AS.result, resAll, resOne, tupV, letterI, h1, h3, h5]
    try simp
theorem variable_a (s : ByteArray) : ACalls Try.prog 44 [aStr s] (aBool (isVar s)) := by
  by_cases h0 : s.size = 0
  · have := size_eq0 h0
    subst this
    refine ac_term_Variable (Nat.le_of_ble_eq_true rfl) fun C hC => ?_
    unfold ir_term_Variable
    repeat' (first | (with_reducible first | refine Wa ?_ | refine Wb ?_ | refine Wc ?_ | refine Wd ?_ | refine We ?_ | refine Wf ?_ | refine Wg ?_ | refine Wh ?_ | refine Wi ?_ | refine Wj ?_ | refine Wk (by decide) ?_ | refine Wl ?_ | refine Wm ?_ | refine Wn ?_) | ((with_reducible first | refine Wo (fun K hK => ?_) | refine Wq ?_ | refine Wr ?_); (try simp only [go_sem, List.forall_mem_nil, ↓guard_ite, ↓pick_ite, seval, encT_eq, inR_i64]); (repeat with_reducible refine And.intro (by first | omega | (with_reducible first | exact lens_encT | exact lens_encL | exact lens_encB | exact lens_encP) | (simp; done) | (simp only [List.length_take, List.length_map, List.length_append, maxLen_eq]; omega)) ?_); (try (with_reducible refine hK _ ?_; clear hK K))))
    simp only [go_sem, List.forall_mem_nil, ↓guard_ite, ↓pick_ite, seval, FinQ, AS.result, resAll, resOne, tupV]
    rfl
  · have h1 := size_ne h0
    have h2 : 0 < s.size := by omega
    refine ac_term_Variable (Nat.le_of_ble_eq_true rfl) fun C hC => ?_
    unfold ir_term_Variable
    by_cases h3 : 65 ≤ byteAt s 0 <;> by_cases h4 : byteAt s 0 ≤ 90
    all_goals
      repeat' (first | (with_reducible first | refine Wa ?_ | refine Wb ?_ | refine Wc ?_ | refine Wd ?_ | refine We ?_ | refine Wf ?_ | refine Wg ?_ | refine Wh ?_ | refine Wi ?_ | refine Wj ?_ | refine Wk (by decide) ?_ | refine Wl ?_ | refine Wm ?_ | refine Wn ?_) | ((with_reducible first | refine Wo (fun K hK => ?_) | refine Wq ?_ | refine Wr ?_); (try simp only [go_sem, List.forall_mem_nil, ↓guard_ite, ↓pick_ite, seval, encT_eq, inR_i64, h1, h2, byteN_eq, h3, h4]); (repeat with_reducible refine And.intro (by first | omega | (with_reducible first | exact lens_encT | exact lens_encL | exact lens_encB | exact lens_encP) | (simp; done) | (simp only [List.length_take, List.length_map, List.length_append, maxLen_eq]; omega)) ?_); (try (with_reducible refine hK _ ?_; clear hK K))))
      simp only [go_sem, List.forall_mem_nil, ↓guard_ite, ↓pick_ite, seval, FinQ, AS.result, resAll, resOne, tupV, isVar, h3, h4, h2]
      try simp

/-- What stands ahead of the letters of a name. -/
theorem nameOk_eq (s : ByteArray) (h1 : 1 ≤ s.size) (h8 : s.size ≤ 8) (hd : ¬ (48 ≤ byteAt s 0 ∧ byteAt s 0 ≤ 57)) : nameOk s = lettersTo s s.size := by
  unfold nameOk
  have : (decide (48 ≤ byteAt s 0) && decide (byteAt s 0 ≤ 57)) = false := by
    rw [Bool.and_eq_false_iff]
    simp
    omega
  rw [this]
  simp [h1, h8]
theorem name_a (s : ByteArray) : ACalls Try.prog 48 [aStr s] (aBool (nameOk s)) := by
  by_cases h0 : s.size < 1
  · have e : nameOk s = false := by simp [nameOk]; omega
    rw [e]
    have h0' : (s.size : Int) < 1 := by omega
    refine ac_term_Name (Nat.le_of_ble_eq_true rfl) fun C hC => ?_
    unfold ir_term_Name
    repeat' (first | (with_reducible first | refine Wa ?_ | refine Wb ?_ | refine Wc ?_ | refine Wd ?_ | refine We ?_ | refine Wf ?_ | refine Wg ?_ | refine Wh ?_ | refine Wi ?_ | refine Wj ?_ | refine Wk (by decide) ?_ | refine Wl ?_ | refine Wm ?_ | refine Wn ?_) | ((with_reducible first | refine Wo (fun K hK => ?_) | refine Wq ?_ | refine Wr ?_); (try simp only [go_sem, List.forall_mem_nil, ↓guard_ite, ↓pick_ite, seval, encT_eq, inR_i64, h0']); (repeat with_reducible refine And.intro (by first | omega | (with_reducible first | exact lens_encT | exact lens_encL | exact lens_encB | exact lens_encP) | (simp; done) | (simp only [List.length_take, List.length_map, List.length_append, maxLen_eq]; omega)) ?_); (try (with_reducible refine hK _ ?_; clear hK K))))
    with_reducible refine Wp ?_
    simp only [go_sem, List.forall_mem_nil, ↓guard_ite, ↓pick_ite, seval, true_implies, false_implies, implies_true, decide_eq_true_eq, decide_eq_false_iff_not, Int.ofNat_lt, h0']
    (try with_reducible refine ite_conj ?_)
    repeat' (first | (with_reducible first | refine Wa ?_ | refine Wb ?_ | refine Wc ?_ | refine Wd ?_ | refine We ?_ | refine Wf ?_ | refine Wg ?_ | refine Wh ?_ | refine Wi ?_ | refine Wj ?_ | refine Wk (by decide) ?_ | refine Wl ?_ | refine Wm ?_ | refine Wn ?_) | ((with_reducible first | refine Wo (fun K hK => ?_) | refine Wq ?_ | refine Wr ?_); (try simp only [go_sem, List.forall_mem_nil, ↓guard_ite, ↓pick_ite, seval, encT_eq, inR_i64]); (repeat with_reducible refine And.intro (by first | omega | (with_reducible first | exact lens_encT | exact lens_encL | exact lens_encB | exact lens_encP) | (simp; done) | (simp only [List.length_take, List.length_map, List.length_append, maxLen_eq]; omega)) ?_); (try (with_reducible refine hK _ ?_; clear hK K))))
    simp only [go_sem, List.forall_mem_nil, ↓guard_ite, ↓pick_ite, seval, FinQ, AS.result, resAll, resOne, tupV]
  have h0' : ¬ (s.size : Int) < 1 := by omega
  by_cases h8 : 8 < s.size
  · have e : nameOk s = false := by simp [nameOk]; omega
    rw [e]
    have h8' : (8 : Int) < s.size := by omega
    refine ac_term_Name (Nat.le_of_ble_eq_true rfl) fun C hC => ?_
    unfold ir_term_Name
    repeat' (first | (with_reducible first | refine Wa ?_ | refine Wb ?_ | refine Wc ?_ | refine Wd ?_ | refine We ?_ | refine Wf ?_ | refine Wg ?_ | refine Wh ?_ | refine Wi ?_ | refine Wj ?_ | refine Wk (by decide) ?_ | refine Wl ?_ | refine Wm ?_ | refine Wn ?_) | ((with_reducible first | refine Wo (fun K hK => ?_) | refine Wq ?_ | refine Wr ?_); (try simp only [go_sem, List.forall_mem_nil, ↓guard_ite, ↓pick_ite, seval, encT_eq, inR_i64, h0', h8']); (repeat with_reducible refine And.intro (by first | omega | (with_reducible first | exact lens_encT | exact lens_encL | exact lens_encB | exact lens_encP) | (simp; done) | (simp only [List.length_take, List.length_map, List.length_append, maxLen_eq]; omega)) ?_); (try (with_reducible refine hK _ ?_; clear hK K))))
    with_reducible refine Wp ?_
    simp only [go_sem, List.forall_mem_nil, ↓guard_ite, ↓pick_ite, seval, true_implies, false_implies, implies_true, decide_eq_true_eq, decide_eq_false_iff_not, Int.ofNat_lt, h0']
    (try with_reducible refine ite_conj ?_)
    repeat' (first | (with_reducible first | refine Wa ?_ | refine Wb ?_ | refine Wc ?_ | refine Wd ?_ | refine We ?_ | refine Wf ?_ | refine Wg ?_ | refine Wh ?_ | refine Wi ?_ | refine Wj ?_ | refine Wk (by decide) ?_ | refine Wl ?_ | refine Wm ?_ | refine Wn ?_) | ((with_reducible first | refine Wo (fun K hK => ?_) | refine Wq ?_ | refine Wr ?_); (try simp only [go_sem, List.forall_mem_nil, ↓guard_ite, ↓pick_ite, seval, encT_eq, inR_i64]); (repeat with_reducible refine And.intro (by first | omega | (with_reducible first | exact lens_encT | exact lens_encL | exact lens_encB | exact lens_encP) | (simp; done) | (simp only [List.length_take, List.length_map, List.length_append, maxLen_eq]; omega)) ?_); (try (with_reducible refine hK _ ?_; clear hK K))))
    simp only [go_sem, List.forall_mem_nil, ↓guard_ite, ↓pick_ite, seval, FinQ, AS.result, resAll, resOne, tupV]
  have h8' : ¬ (8 : Int) < s.size := by omega
  have hpos : 0 < s.size := by omega
  by_cases hd : 48 ≤ byteAt s 0 ∧ byteAt s 0 ≤ 57
  · have e : nameOk s = false := by simp [nameOk, hd.1, hd.2]
    rw [e]
    refine ac_term_Name (Nat.le_of_ble_eq_true rfl) fun C hC => ?_
    unfold ir_term_Name
    repeat' (first | (with_reducible first | refine Wa ?_ | refine Wb ?_ | refine Wc ?_ | refine Wd ?_ | refine We ?_ | refine Wf ?_ | refine Wg ?_ | refine Wh ?_ | refine Wi ?_ | refine Wj ?_ | refine Wk (by decide) ?_ | refine Wl ?_ | refine Wm ?_ | refine Wn ?_) | ((with_reducible first | refine Wo (fun K hK => ?_) | refine Wq ?_ | refine Wr ?_); (try simp only [go_sem, List.forall_mem_nil, ↓guard_ite, ↓pick_ite, seval, encT_eq, inR_i64, h0', h8', hpos, byteN_eq, hd.1, hd.2]); (repeat with_reducible refine And.intro (by first | omega | (with_reducible first | exact lens_encT | exact lens_encL | exact lens_encB | exact lens_encP) | (simp; done) | (simp only [List.length_take, List.length_map, List.length_append, maxLen_eq]; omega)) ?_); (try (with_reducible refine hK _ ?_; clear hK K))))
    with_reducible refine Wp ?_
    simp only [go_sem, List.forall_mem_nil, ↓guard_ite, ↓pick_ite, seval, true_implies, false_implies, implies_true, decide_eq_true_eq, decide_eq_false_iff_not, Int.ofNat_lt, h0']
    (try with_reducible refine ite_conj ?_)
    repeat' (first | (with_reducible first | refine Wa ?_ | refine Wb ?_ | refine Wc ?_ | refine Wd ?_ | refine We ?_ | refine Wf ?_ | refine Wg ?_ | refine Wh ?_ | refine Wi ?_ | refine Wj ?_ | refine Wk (by decide) ?_ | refine Wl ?_ | refine Wm ?_ | refine Wn ?_) | ((with_reducible first | refine Wo (fun K hK => ?_) | refine Wq ?_ | refine Wr ?_); (try simp only [go_sem, List.forall_mem_nil, ↓guard_ite, ↓pick_ite, seval, encT_eq, inR_i64]); (repeat with_reducible refine And.intro (by first | omega | (with_reducible first | exact lens_encT | exact lens_encL | exact lens_encB | exact lens_encP) | (simp; done) | (simp only [List.length_take, List.length_map, List.length_append, maxLen_eq]; omega)) ?_); (try (with_reducible refine hK _ ?_; clear hK K))))
    simp only [go_sem, List.forall_mem_nil, ↓guard_ite, ↓pick_ite, seval, FinQ, AS.result, resAll, resOne, tupV]
  rw [nameOk_eq s (by omega) (by omega) hd]
  have hd2 : (48 ≤ byteAt s 0 ∧ ¬ byteAt s 0 ≤ 57) ∨ (¬ 48 ≤ byteAt s 0) := by omega
  refine ac_term_Name (Nat.le_of_ble_eq_true rfl) fun C hC => ?_
  unfold ir_term_Name
  have h57 : 48 ≤ byteAt s 0 → ¬ byteAt s 0 ≤ 57 := fun h h' => hd ⟨h, h'⟩
  by_cases h48 : 48 ≤ byteAt s 0
  all_goals
    simp only [h48, true_implies, false_implies] at h57
    repeat' (first | (with_reducible first | refine Wa ?_ | refine Wb ?_ | refine Wc ?_ | refine Wd ?_ | refine We ?_ | refine Wf ?_ | refine Wg ?_ | refine Wh ?_ | refine Wi ?_ | refine Wj ?_ | refine Wk (by decide) ?_ | refine Wl ?_ | refine Wm ?_ | refine Wn ?_) | ((with_reducible first | refine Wo (fun K hK => ?_) | refine Wq ?_ | refine Wr ?_); (try simp only [go_sem, List.forall_mem_nil, ↓guard_ite, ↓pick_ite, seval, encT_eq, inR_i64, h0', h8', hpos, byteN_eq, h48, h57]); (repeat with_reducible refine And.intro (by first | omega | (with_reducible first | exact lens_encT | exact lens_encL | exact lens_encB | exact lens_encP) | (simp; done) | (simp only [List.length_take, List.length_map, List.length_append, maxLen_eq]; omega)) ?_); (try (with_reducible refine hK _ ?_; clear hK K))))
    with_reducible refine Wp ?_
    simp only [go_sem, List.forall_mem_nil, ↓guard_ite, ↓pick_ite, seval, true_implies, false_implies, implies_true, decide_eq_true_eq, decide_eq_false_iff_not, Int.ofNat_lt, h0']
    (try with_reducible refine ite_conj ?_)
    repeat' (first | (with_reducible first | refine Wa ?_ | refine Wb ?_ | refine Wc ?_ | refine Wd ?_ | refine We ?_ | refine Wf ?_ | refine Wg ?_ | refine Wh ?_ | refine Wi ?_ | refine Wj ?_ | refine Wk (by decide) ?_ | refine Wl ?_ | refine Wm ?_ | refine Wn ?_) | ((with_reducible first | refine Wo (fun K hK => ?_) | refine Wq ?_ | refine Wr ?_); (try simp only [go_sem, List.forall_mem_nil, ↓guard_ite, ↓pick_ite, seval, encT_eq, inR_i64]); (repeat with_reducible refine And.intro (by first | omega | (with_reducible first | exact lens_encT | exact lens_encL | exact lens_encB | exact lens_encP) | (simp; done) | (simp only [List.length_take, List.length_map, List.length_append, maxLen_eq]; omega)) ?_); (try (with_reducible refine hK _ ?_; clear hK K))))
    refine IWP.loop (fun m x => ∃ k, k ≤ s.size ∧ m = s.size - k ∧ lettersTo s k = true ∧ x.env 0 = aStr s ∧ x.env 23 = aInt s.size ∧ x.env 24 = aInt k) s.size ⟨0, Nat.zero_le _, rfl, rfl, rfl, rfl, rfl⟩ ?_
    rintro m ⟨env, S⟩ ⟨k, hk, rfl, hl, e0, e23, e24⟩
    simp only at e0 e23 e24
    repeat' (first | (with_reducible first | refine Wa ?_ | refine Wb ?_ | refine Wc ?_ | refine Wd ?_ | refine We ?_ | refine Wf ?_ | refine Wg ?_ | refine Wh ?_ | refine Wi ?_ | refine Wj ?_ | refine Wk (by decide) ?_ | refine Wl ?_ | refine Wm ?_ | refine Wn ?_) | ((with_reducible first | refine Wo (fun K hK => ?_) | refine Wq ?_ | refine Wr ?_); (try simp only [go_sem, List.forall_mem_nil, ↓guard_ite, ↓pick_ite, seval, encT_eq, inR_i64, e0, e23, e24]); (repeat with_reducible refine And.intro (by first | omega | (with_reducible first | exact lens_encT | exact lens_encL | exact lens_encB | exact lens_encP) | (simp; done) | (simp only [List.length_take, List.length_map, List.length_append, maxLen_eq]; omega)) ?_); (try (with_reducible refine hK _ ?_; clear hK K))))
    with_reducible refine Wp ?_
    simp only [go_sem, List.forall_mem_nil, ↓guard_ite, ↓pick_ite, seval, true_implies, false_implies, implies_true, decide_eq_true_eq, decide_eq_false_iff_not, Int.ofNat_lt, e0, e23, e24]
    (try with_reducible refine ite_conj ?_)
    refine ⟨fun hlt => ?_, fun hge => ?_⟩
    · have hlt' : k < s.size := by omega
      repeat' (first | (with_reducible first | refine Wa ?_ | refine Wb ?_ | refine Wc ?_ | refine Wd ?_ | refine We ?_ | refine Wf ?_ | refine Wg ?_ | refine Wh ?_ | refine Wi ?_ | refine Wj ?_ | refine Wk (by decide) ?_ | refine Wl ?_ | refine Wm ?_ | refine Wn ?_) | refine CallG.mk _ (letter_a _ (byteAt_range s k).1) ?_ | ((with_reducible first | refine Wo (fun K hK => ?_) | refine Wq ?_ | refine Wr ?_); (try simp only [go_sem, List.forall_mem_nil, ↓guard_ite, ↓pick_ite, seval, encT_eq, inR_i64, e0, e23, e24, hlt', byteN_eq]); (repeat with_reducible refine And.intro (by first | omega | (with_reducible first | exact lens_encT | exact lens_encL | exact lens_encB | exact lens_encP) | (simp; done) | (simp only [List.length_take, List.length_map, List.length_append, maxLen_eq]; omega)) ?_); (try (with_reducible refine hK _ ?_; clear hK K))))
      with_reducible refine Wp ?_
      simp only [go_sem, List.forall_mem_nil, ↓guard_ite, ↓pick_ite, seval, true_implies, false_implies, implies_true, decide_eq_true_eq, decide_eq_false_iff_not, Int.ofNat_lt]
      (try with_reducible refine ite_conj ?_)
      refine ⟨fun hn => ?_, fun hn => ?_⟩
      · repeat' (first | (with_reducible first | refine Wa ?_ | refine Wb ?_ | refine Wc ?_ | refine Wd ?_ | refine We ?_ | refine Wf ?_ | refine Wg ?_ | refine Wh ?_ | refine Wi ?_ | refine Wj ?_ | refine Wk (by decide) ?_ | refine Wl ?_ | refine Wm ?_ | refine Wn ?_) | ((with_reducible first | refine Wo (fun K hK => ?_) | refine Wq ?_ | refine Wr ?_); (try simp only [go_sem, List.forall_mem_nil, ↓guard_ite, ↓pick_ite, seval, encT_eq, inR_i64]); (repeat with_reducible refine And.intro (by first | omega | (with_reducible first | exact lens_encT | exact lens_encL | exact lens_encB | exact lens_encP) | (simp; done) | (simp only [List.length_take, List.length_map, List.length_append, maxLen_eq]; omega)) ?_); (try (with_reducible refine hK _ ?_; clear hK K))))
        simp only [go_sem, List.forall_mem_nil, ↓guard_ite, ↓pick_ite, seval, FinQ, AS.result, resAll, resOne, tupV]
        rw [lettersTo_no s k hlt' (by simpa using hn)]
      · repeat' (first | (with_reducible first | refine Wa ?_ | refine Wb ?_ | refine Wc ?_ | refine Wd ?_ | refine We ?_ | refine Wf ?_ | refine Wg ?_ | refine Wh ?_ | refine Wi ?_ | refine Wj ?_ | refine Wk (by decide) ?_ | refine Wl ?_ | refine Wm ?_ | refine Wn ?_) | ((with_reducible first | refine Wo (fun K hK => ?_) | refine Wq ?_ | refine Wr ?_); (try simp only [go_sem, List.forall_mem_nil, ↓guard_ite, ↓pick_ite, seval, encT_eq, inR_i64, e0, e23, e24]); (repeat with_reducible refine And.intro (by first | omega | (with_reducible first | exact lens_encT | exact lens_encL | exact lens_encB | exact lens_encP) | (simp; done) | (simp only [List.length_take, List.length_map, List.length_append, maxLen_eq]; omega)) ?_); (try (with_reducible refine hK _ ?_; clear hK K))))
        refine then_normal ⟨s.size - (k + 1), by omega, k + 1, by omega, rfl, ?_, ?_⟩
        · rw [lettersTo_succ s k hlt', hl]
          simpa using hn
        · simp only [go_sem, List.forall_mem_nil, ↓guard_ite, ↓pick_ite, seval, encT_eq, inR_i64, e0, e23, e24]
          congr 3
    · repeat' (first | (with_reducible first | refine Wa ?_ | refine Wb ?_ | refine Wc ?_ | refine Wd ?_ | refine We ?_ | refine Wf ?_ | refine Wg ?_ | refine Wh ?_ | refine Wi ?_ | refine Wj ?_ | refine Wk (by decide) ?_ | refine Wl ?_ | refine Wm ?_ | refine Wn ?_) | ((with_reducible first | refine Wo (fun K hK => ?_) | refine Wq ?_ | refine Wr ?_); (try simp only [go_sem, List.forall_mem_nil, ↓guard_ite, ↓pick_ite, seval, encT_eq, inR_i64]); (repeat with_reducible refine And.intro (by first | omega | (with_reducible first | exact lens_encT | exact lens_encL | exact lens_encB | exact lens_encP) | (simp; done) | (simp only [List.length_take, List.length_map, List.length_append, maxLen_eq]; omega)) ?_); (try (with_reducible refine hK _ ?_; clear hK K))))
      simp only [go_sem, List.forall_mem_nil, ↓guard_ite, ↓pick_ite, seval, FinQ, AS.result, resAll, resOne, tupV]
      rw [show s.size = k by omega, hl]
/-! ### two terms -/
mutual
def Tm.beq : Tm → Tm → Bool
  | .mk n xs, .mk m ys => decide (n = m) && Tm.beqL xs ys
def Tm.beqL : List Tm → List Tm → Bool
  | [], [] => true
  | x :: xs, y :: ys => x.beq y && Tm.beqL xs ys
  | _, _ => false
end
mutual
theorem Tm.beq_iff : ∀ a b : Tm, a.beq b = true ↔ a = b
  | .mk n xs, .mk m ys => by
    rw [Tm.beq, Bool.and_eq_true, Tm.beqL_iff xs ys, decide_eq_true_eq, Tm.mk.injEq]
theorem Tm.beqL_iff : ∀ xs ys : List Tm, Tm.beqL xs ys = true ↔ xs = ys
  | [], [] => by simp [Tm.beqL]
  | x :: xs, y :: ys => by rw [Tm.beqL, Bool.and_eq_true, Tm.beq_iff x y, Tm.beqL_iff xs ys, List.cons.injEq]
  | [], y :: ys => by simp [Tm.beqL]
  | x :: xs, [] => by simp [Tm.beqL]
end
theorem Tm.beq_refl (a : Tm) : a.beq a = true := (Tm.beq_iff a a).2 rfl
theorem Tm.eq_of {a b : Tm} (h1 : a.name = b.name) (h2 : a.args = b.args) : a = b := by
  cases a; cases b
  simp only [Tm.name_mk, Tm.args_mk] at h1 h2
  rw [h1, h2]
theorem sameR_a (a b : Tm) : ACalls Try.prog 14 [aTm a, aTm b] (aBool (a.beq b)) := by
  induction h : SizeOf.sizeOf a using Nat.strongRecOn generalizing a b with
  | _ N ih =>
  subst h
  have hno : a ≠ b → a.beq b = false := fun h => by
    rw [← Bool.not_eq_true, Tm.beq_iff]
    exact h
  refine ac_R_Same (Nat.le_of_ble_eq_true rfl) fun C hC => ?_
  unfold ir_R_Same
  refine IWP.learn 0 (by omega) fun hkn => ?_
  have hkn := known_tm hkn
  by_cases hn : a.name = b.name
  · by_cases hl : a.args.length = b.args.length
    · have hl' : (a.args.length : Int) = b.args.length := by omega
      repeat' (first | (with_reducible first | refine Wa ?_ | refine Wb ?_ | refine Wc ?_ | refine Wd ?_ | refine We ?_ | refine Wf ?_ | refine Wg ?_ | refine Wh ?_ | refine Wi ?_ | refine Wj ?_ | refine Wk (by decide) ?_ | refine Wl ?_ | refine Wm ?_ | refine Wn ?_) | ((with_reducible first | refine Wo (fun K hK => ?_) | refine Wq ?_ | refine Wr ?_); (try simp only [go_sem, List.forall_mem_nil, ↓guard_ite, ↓pick_ite, seval, encT_eq, inR_i64, hn, hl']); (repeat with_reducible refine And.intro (by first | omega | (with_reducible first | exact lens_encT | exact lens_encL | exact lens_encB | exact lens_encP) | (simp; done) | (simp only [List.length_take, List.length_map, List.length_append, maxLen_eq]; omega)) ?_); (try (with_reducible refine hK _ ?_; clear hK K))))
      with_reducible refine Wp ?_
      simp only [go_sem, List.forall_mem_nil, ↓guard_ite, ↓pick_ite, seval, true_implies, false_implies, implies_true, decide_eq_true_eq, decide_eq_false_iff_not, Int.ofNat_lt, hn, hl']
      (try with_reducible refine ite_conj ?_)
      repeat' (first | (with_reducible first | refine Wa ?_ | refine Wb ?_ | refine Wc ?_ | refine Wd ?_ | refine We ?_ | refine Wf ?_ | refine Wg ?_ | refine Wh ?_ | refine Wi ?_ | refine Wj ?_ | refine Wk (by decide) ?_ | refine Wl ?_ | refine Wm ?_ | refine Wn ?_) | ((with_reducible first | refine Wo (fun K hK => ?_) | refine Wq ?_ | refine Wr ?_); (try simp only [go_sem, List.forall_mem_nil, ↓guard_ite, ↓pick_ite, seval, encT_eq, inR_i64]); (repeat with_reducible refine And.intro (by first | omega | (with_reducible first | exact lens_encT | exact lens_encL | exact lens_encB | exact lens_encP) | (simp; done) | (simp only [List.length_take, List.length_map, List.length_append, maxLen_eq]; omega)) ?_); (try (with_reducible refine hK _ ?_; clear hK K))))
      refine IWP.loop (fun n s => ∃ k, k ≤ a.args.length ∧ n = a.args.length - k ∧ a.args.take k = b.args.take k ∧ s.env 2 = .one (.ptr 2 1 0 0) ∧ s.env 3 = .one (.ptr 3 1 0 0) ∧ s.S 2 = some (.box 24 [.st (.str b.name), .st (.list (a.args.map encT))]) ∧ s.S 3 = some (.box 24 [.st (.str b.name), .st (.list (b.args.map encT))]) ∧ s.env 5 = aInt k) a.args.length ⟨0, Nat.zero_le _, rfl, rfl, rfl, rfl, rfl, rfl, rfl⟩ ?_
      rintro n ⟨env, S⟩ ⟨k, hk, rfl, h0, e2, e3, s2, s3, e5⟩
      simp only at e2 e3 s2 s3 e5
      repeat' (first | (with_reducible first | refine Wa ?_ | refine Wb ?_ | refine Wc ?_ | refine Wd ?_ | refine We ?_ | refine Wf ?_ | refine Wg ?_ | refine Wh ?_ | refine Wi ?_ | refine Wj ?_ | refine Wk (by decide) ?_ | refine Wl ?_ | refine Wm ?_ | refine Wn ?_) | ((with_reducible first | refine Wo (fun K hK => ?_) | refine Wq ?_ | refine Wr ?_); (try simp only [go_sem, List.forall_mem_nil, ↓guard_ite, ↓pick_ite, seval, encT_eq, inR_i64, e2, e3, s2, s3, e5]); (repeat with_reducible refine And.intro (by first | omega | (with_reducible first | exact lens_encT | exact lens_encL | exact lens_encB | exact lens_encP) | (simp; done) | (simp only [List.length_take, List.length_map, List.length_append, maxLen_eq]; omega)) ?_); (try (with_reducible refine hK _ ?_; clear hK K))))
      with_reducible refine Wp ?_
      simp only [go_sem, List.forall_mem_nil, ↓guard_ite, ↓pick_ite, seval, true_implies, false_implies, implies_true, decide_eq_true_eq, decide_eq_false_iff_not, Int.ofNat_lt]
      (try with_reducible refine ite_conj ?_)
      refine ⟨fun hlt => ?_, fun hge => ?_⟩
      · obtain ⟨x, hx⟩ := get_lt (show k < a.args.length by omega)
        obtain ⟨y, hy⟩ := get_lt (show k < b.args.length by omega)
        repeat' (first | (with_reducible first | refine Wa ?_ | refine Wb ?_ | refine Wc ?_ | refine Wd ?_ | refine We ?_ | refine Wf ?_ | refine Wg ?_ | refine Wh ?_ | refine Wi ?_ | refine Wj ?_ | refine Wk (by decide) ?_ | refine Wl ?_ | refine Wm ?_ | refine Wn ?_) | refine CallG.mk _ (ih _ (Tm.lt_of_arg (mem_of_get hx)) x y rfl) ?_ | ((with_reducible first | refine Wo (fun K hK => ?_) | refine Wq ?_ | refine Wr ?_); (try simp only [go_sem, List.forall_mem_nil, ↓guard_ite, ↓pick_ite, seval, encT_eq, inR_i64, e2, e3, s2, s3, e5, hx, hy]); (repeat with_reducible refine And.intro (by first | omega | (with_reducible first | exact lens_encT | exact lens_encL | exact lens_encB | exact lens_encP) | (simp; done) | (simp only [List.length_take, List.length_map, List.length_append, maxLen_eq]; omega)) ?_); (try (with_reducible refine hK _ ?_; clear hK K))))
        cases hxy : x.beq y with
        | false =>
          with_reducible refine Wp ?_
          simp only [go_sem, List.forall_mem_nil, ↓guard_ite, ↓pick_ite, seval, true_implies, false_implies, implies_true, decide_eq_true_eq, decide_eq_false_iff_not, Int.ofNat_lt]
          (try with_reducible refine ite_conj ?_)
          repeat' (first | (with_reducible first | refine Wa ?_ | refine Wb ?_ | refine Wc ?_ | refine Wd ?_ | refine We ?_ | refine Wf ?_ | refine Wg ?_ | refine Wh ?_ | refine Wi ?_ | refine Wj ?_ | refine Wk (by decide) ?_ | refine Wl ?_ | refine Wm ?_ | refine Wn ?_) | ((with_reducible first | refine Wo (fun K hK => ?_) | refine Wq ?_ | refine Wr ?_); (try simp only [go_sem, List.forall_mem_nil, ↓guard_ite, ↓pick_ite, seval, encT_eq, inR_i64]); (repeat with_reducible refine And.intro (by first | omega | (with_reducible first | exact lens_encT | exact lens_encL | exact lens_encB | exact lens_encP) | (simp; done) | (simp only [List.length_take, List.length_map, List.length_append, maxLen_eq]; omega)) ?_); (try (with_reducible refine hK _ ?_; clear hK K))))
          simp only [go_sem, List.forall_mem_nil, ↓guard_ite, ↓pick_ite, seval, FinQ, AS.result, resAll, resOne, tupV]
          rw [hno fun e => by
            subst e
            rw [hx] at hy
            cases hy
            rw [Tm.beq_refl] at hxy
            cases hxy]
        | true =>
          have hxy := (Tm.beq_iff x y).1 hxy
          with_reducible refine Wp ?_
          simp only [go_sem, List.forall_mem_nil, ↓guard_ite, ↓pick_ite, seval, true_implies, false_implies, implies_true, decide_eq_true_eq, decide_eq_false_iff_not, Int.ofNat_lt]
          (try with_reducible refine ite_conj ?_)
          repeat' (first | (with_reducible first | refine Wa ?_ | refine Wb ?_ | refine Wc ?_ | refine Wd ?_ | refine We ?_ | refine Wf ?_ | refine Wg ?_ | refine Wh ?_ | refine Wi ?_ | refine Wj ?_ | refine Wk (by decide) ?_ | refine Wl ?_ | refine Wm ?_ | refine Wn ?_) | ((with_reducible first | refine Wo (fun K hK => ?_) | refine Wq ?_ | refine Wr ?_); (try simp only [go_sem, List.forall_mem_nil, ↓guard_ite, ↓pick_ite, seval, encT_eq, inR_i64, e2, e3, s2, s3, e5]); (repeat with_reducible refine And.intro (by first | omega | (with_reducible first | exact lens_encT | exact lens_encL | exact lens_encB | exact lens_encP) | (simp; done) | (simp only [List.length_take, List.length_map, List.length_append, maxLen_eq]; omega)) ?_); (try (with_reducible refine hK _ ?_; clear hK K))))
          refine then_normal ⟨a.args.length - (k + 1), by omega, k + 1, by omega, rfl, ?_, ?_⟩
          · rw [take_snoc hx, take_snoc hy, h0, hxy]
          · simp only [go_sem, List.forall_mem_nil, ↓guard_ite, ↓pick_ite, seval, encT_eq, inR_i64, e2, e3, s2, s3, e5]
            congr 3
      · repeat' (first | (with_reducible first | refine Wa ?_ | refine Wb ?_ | refine Wc ?_ | refine Wd ?_ | refine We ?_ | refine Wf ?_ | refine Wg ?_ | refine Wh ?_ | refine Wi ?_ | refine Wj ?_ | refine Wk (by decide) ?_ | refine Wl ?_ | refine Wm ?_ | refine Wn ?_) | ((with_reducible first | refine Wo (fun K hK => ?_) | refine Wq ?_ | refine Wr ?_); (try simp only [go_sem, List.forall_mem_nil, ↓guard_ite, ↓pick_ite, seval, encT_eq, inR_i64]); (repeat with_reducible refine And.intro (by first | omega | (with_reducible first | exact lens_encT | exact lens_encL | exact lens_encB | exact lens_encP) | (simp; done) | (simp only [List.length_take, List.length_map, List.length_append, maxLen_eq]; omega)) ?_); (try (with_reducible refine hK _ ?_; clear hK K))))
        simp only [go_sem, List.forall_mem_nil, ↓guard_ite, ↓pick_ite, seval, FinQ, AS.result, resAll, resOne, tupV]
        rw [List.take_of_length_le (by omega), List.take_of_length_le (by omega)] at h0
        rw [Tm.eq_of hn h0, Tm.beq_refl]
    · have hl' : ¬ (a.args.length : Int) = b.args.length := by omega
      repeat' (first | (with_reducible first | refine Wa ?_ | refine Wb ?_ | refine Wc ?_ | refine Wd ?_ | refine We ?_ | refine Wf ?_ | refine Wg ?_ | refine Wh ?_ | refine Wi ?_ | refine Wj ?_ | refine Wk (by decide) ?_ | refine Wl ?_ | refine Wm ?_ | refine Wn ?_) | ((with_reducible first | refine Wo (fun K hK => ?_) | refine Wq ?_ | refine Wr ?_); (try simp only [go_sem, List.forall_mem_nil, ↓guard_ite, ↓pick_ite, seval, encT_eq, inR_i64, hn, hl']); (repeat with_reducible refine And.intro (by first | omega | (with_reducible first | exact lens_encT | exact lens_encL | exact lens_encB | exact lens_encP) | (simp; done) | (simp only [List.length_take, List.length_map, List.length_append, maxLen_eq]; omega)) ?_); (try (with_reducible refine hK _ ?_; clear hK K))))
      with_reducible refine Wp ?_
      simp only [go_sem, List.forall_mem_nil, ↓guard_ite, ↓pick_ite, seval, true_implies, false_implies, implies_true, decide_eq_true_eq, decide_eq_false_iff_not, Int.ofNat_lt, hn, hl']
      (try with_reducible refine ite_conj ?_)
      repeat' (first | (with_reducible first | refine Wa ?_ | refine Wb ?_ | refine Wc ?_ | refine Wd ?_ | refine We ?_ | refine Wf ?_ | refine Wg ?_ | refine Wh ?_ | refine Wi ?_ | refine Wj ?_ | refine Wk (by decide) ?_ | refine Wl ?_ | refine Wm ?_ | refine Wn ?_) | ((with_reducible first | refine Wo (fun K hK => ?_) | refine Wq ?_ | refine Wr ?_); (try simp only [go_sem, List.forall_mem_nil, ↓guard_ite, ↓pick_ite, seval, encT_eq, inR_i64]); (repeat with_reducible refine And.intro (by first | omega | (with_reducible first | exact lens_encT | exact lens_encL | exact lens_encB | exact lens_encP) | (simp; done) | (simp only [List.length_take, List.length_map, List.length_append, maxLen_eq]; omega)) ?_); (try (with_reducible refine hK _ ?_; clear hK K))))
      simp only [go_sem, List.forall_mem_nil, ↓guard_ite, ↓pick_ite, seval, FinQ, AS.result, resAll, resOne, tupV]
      rw [hno fun e => hl (by rw [e])]
  · repeat' (first | (with_reducible first | refine Wa ?_ | refine Wb ?_ | refine Wc ?_ | refine Wd ?_ | refine We ?_ | refine Wf ?_ | refine Wg ?_ | refine Wh ?_ | refine Wi ?_ | refine Wj ?_ | refine Wk (by decide) ?_ | refine Wl ?_ | refine Wm ?_ | refine Wn ?_) | ((with_reducible first | refine Wo (fun K hK => ?_) | refine Wq ?_ | refine Wr ?_); (try simp only [go_sem, List.forall_mem_nil, ↓guard_ite, ↓pick_ite, seval, encT_eq, inR_i64, hn]); (repeat with_reducible refine And.intro (by first | omega | (with_reducible first | exact lens_encT | exact lens_encL | exact lens_encB | exact lens_encP) | (simp; done) | (simp only [List.length_take, List.length_map, List.length_append, maxLen_eq]; omega)) ?_); (try (with_reducible refine hK _ ?_; clear hK K))))
    with_reducible refine Wp ?_
    simp only [go_sem, List.forall_mem_nil, ↓guard_ite, ↓pick_ite, seval, true_implies, false_implies, implies_true, decide_eq_true_eq, decide_eq_false_iff_not, Int.ofNat_lt, hn]
    (try with_reducible refine ite_conj ?_)
    repeat' (first | (with_reducible first | refine Wa ?_ | refine Wb ?_ | refine Wc ?_ | refine Wd ?_ | refine We ?_ | refine Wf ?_ | refine Wg ?_ | refine Wh ?_ | refine Wi ?_ | refine Wj ?_ | refine Wk (by decide) ?_ | refine Wl ?_ | refine Wm ?_ | refine Wn ?_) | ((with_reducible first | refine Wo (fun K hK => ?_) | refine Wq ?_ | refine Wr ?_); (try simp only [go_sem, List.forall_mem_nil, ↓guard_ite, ↓pick_ite, seval, encT_eq, inR_i64]); (repeat with_reducible refine And.intro (by first | omega | (with_reducible first | exact lens_encT | exact lens_encL | exact lens_encB | exact lens_encP) | (simp; done) | (simp only [List.length_take, List.length_map, List.length_append, maxLen_eq]; omega)) ?_); (try (with_reducible refine hK _ ?_; clear hK K))))
    simp only [go_sem, List.forall_mem_nil, ↓guard_ite, ↓pick_ite, seval, FinQ, AS.result, resAll, resOne, tupV]
    rw [hno fun e => hn (by rw [e])]

def Tm.nil : Tm := .mk ⟨#[]⟩ []
end Go.Proofs.Ytohgkbgpcnmdpaa

namespace Go.Proofs.Ytohgkbgpcnmdpaa
open Go Go.RowKit
set_option linter.unusedVariables false
set_option linter.unusedSimpArgs false
set_option maxHeartbeats 400000

/-! ### the program's: with a row in hand -/
end Go.Proofs.Ytohgkbgpcnmdpaa

namespace Go.Proofs.Ytohgkbgpcnmdpaa
open Go Go.RowKit
set_option linter.unusedVariables false
set_option maxHeartbeats 400000

/-- A call that panics with v; S behind it is S'. -/
def APan (P : Program) (f : FuncId) (xs : List AV) (S : AStore) (v : Value) (S' : AStore) : Prop :=
  Clean S → ∀ (σ : Sto) (w : World) (vs : List Value) (ι : AHnd), GlobIn σ → Fit σ w → Owned σ S ι w → All2 (VRep σ S ι) vs xs →
    Calls P f vs.toArray w fun e w' => ∃ σ' ι', e = .panicked [{ v := v, recovered := false }] ∧ Clean S' ∧ Upd S ι S' ι' ∧ Owned σ' S' ι' w' ∧ Fit σ' w' ∧ (∀ p x, σ p = some x → σ' p = some x) ∧
      (∀ p : Addr, p.block < w.heap.size → notOf S ι p.block → σ' p = σ p) ∧ (w'.os = w.os ∧ w'.tape = w.tape ∧ w'.output = w.output) ∧ w.heap.size ≤ w'.heap.size ∧
      (∀ g, g < w.heap.size → notOf S ι g → w'.heap[g]? = w.heap[g]?) ∧ (∀ id b g, S' id = some b → (ι' id).g = some g → w.heap.size ≤ g ∨ ¬ notOf S ι g)

section
variable {P : Program} {C : Ctx} {a : Act} {w : World} {σ : Sto} {ι : AHnd} {s : AS} {Q : Exit → Act → World → Prop} {o : Oper}
theorem callPan_core {f : FuncId} {vs : List Value} {avs : List AV} {v : Value} {S' : AStore} {next : Act → World → Prop} (R : Refs C σ ι s a w) (hrun : (execOp a.eval o).run P w = .ok (.enter f vs.toArray) w) (hvs : All2 (VRep σ s.S ι) vs avs)
    (h : APan P f (AV.rens up1 avs) (upS s.S) v S') (hQ : ∀ a' w', Holds C ⟨s.env, dnS S'⟩ a' w' → Q (.panic [{ v := v, recovered := false }]) a' w') : o.wp P a w next Q := by
  have hup : ∀ i, dn1 (up1 i) = i := dn_up
  have hS : ∀ i b, s.S i = some b → upS s.S (up1 i) = some (b.ren up1) := fun i b hb => upS_some hb
  obtain ⟨ι1, hι1⟩ : ∃ ι1 : AHnd, ∀ i, ι1 i = ι (dn1 i) := ⟨fun i => ι (dn1 i), fun _ => rfl⟩
  have hι : ∀ i b, s.S i = some b → ι1 (up1 i) = ι i := fun i b _ => by rw [hι1, hup]
  have hown : Owned σ (upS s.S) ι1 w := by
    refine ⟨fun id b hb => ?_, fun id id' b b' g h1 h2 g1 g2 => ?_⟩
    · obtain ⟨hle, b', h1, rfl⟩ := upS_inv hb
      have := BRep.ren (S2 := upS s.S) (ι2 := ι1) (ρ := up1) hS hι (R.blk _ _ h1)
      rw [hι1]
      exact this
    · obtain ⟨l1, c1, k1, _⟩ := upS_inv h1
      obtain ⟨l2, c2, k2, _⟩ := upS_inv h2
      rw [hι1] at g1 g2
      have := R.inj _ _ _ _ g k1 k2 g1 g2
      rw [← up_dn l1, ← up_dn l2, this]
  have hargs : All2 (VRep σ (upS s.S) ι1) vs (AV.rens up1 avs) := by
    rw [AV.rens_eq]
    exact (hvs.mono fun _ _ x => VRep.ren (S2 := upS s.S) (ι2 := ι1) (ρ := up1) hS hι x).map_right
  unfold Oper.wp
  rw [hrun, Oper.upon_enter]
  refine (h (clean_upS _) σ w vs _ (C.glob.mono R.ext) R.fit hown hargs).mono fun e w' he => ?_
  obtain ⟨σ', ι', rfl, hclean, hupd, hown', hf', hkeep, hold, hos, hsz, hsame, hbase⟩ := he
  have hSd : ∀ i b, S' i = some b → dnS S' (dn1 i) = some (b.ren dn1) := fun i b hb => dnS_some (hclean i b hb).1 hb
  obtain ⟨ι2, hι2⟩ : ∃ ι2 : AHnd, ∀ i, ι2 i = ι' (up1 i) := ⟨fun i => ι' (up1 i), fun _ => rfl⟩
  have hιd : ∀ i b, S' i = some b → ι2 (dn1 i) = ι' i := fun i b hb => by
    rw [hι2, up_dn (hclean i b hb).1]
  have hu : Upd s.S ι (dnS S') ι2 := fun id b hb => by
    obtain ⟨b', h1, h2, h3⟩ := hupd _ _ (hS id b hb)
    have h4 := hSd _ _ h1
    rw [hup] at h4
    refine ⟨_, h4, by rw [ren_len] at h2 ⊢; exact h2, fun hl => ?_⟩
    rw [ren_len] at hl
    obtain ⟨q1, q2⟩ := h3 (by rw [ren_len]; exact hl)
    refine ⟨by rw [ren_wid] at q1 ⊢; exact q1, ?_⟩
    rw [hι2, q2, hι1, hup]
  have hnot : ∀ g, g < C.N → ¬ C.G g → notOf (upS s.S) ι1 g := fun g h1 h2 id b hb hg => by
    obtain ⟨_, b', k1, _⟩ := upS_inv hb
    rw [hι1] at hg
    rcases R.base _ _ g k1 hg with h | h
    · omega
    · exact h2 h
  have R' : Refs C σ' ι2 ⟨s.env, dnS S'⟩ a w' := by
    refine ⟨R.size, fun i hi => (R.env i hi).mono hkeep hu, R.nod, hf', fun id b hb => ?_, fun id id' b b' g h1 h2 g1 g2 => ?_, fun id b g hb hg => ?_, fun p x hx => hkeep _ _ (R.ext p x hx), fun p h1 h2 => ?_, ⟨hos.1.trans R.os.1, hos.2.1.trans R.os.2.1, hos.2.2.trans R.os.2.2⟩, ⟨Nat.le_trans R.grown.1 hsz, Nat.le_trans R.grown.2 hsz⟩, fun g h1 h2 => ?_, R.upd.trans hu⟩
    · obtain ⟨b', h1, rfl⟩ := dnS_inv hb
      have := BRep.ren (S2 := dnS S') (ι2 := ι2) (ρ := dn1) hSd hιd (hown'.1 _ _ h1)
      rw [hι2]
      exact this
    · obtain ⟨c1, k1, _⟩ := dnS_inv h1
      obtain ⟨c2, k2, _⟩ := dnS_inv h2
      rw [hι2] at g1 g2
      have := congrArg dn1 (hown'.2 _ _ _ _ g k1 k2 g1 g2)
      rw [hup, hup] at this
      exact this
    · obtain ⟨b', h1, _⟩ := dnS_inv hb
      rw [hι2] at hg
      rcases hbase _ _ g h1 hg with h2 | h2
      · exact .inl (by have := R.grown.1; omega)
      · by_cases hN : g < C.N
        · by_cases hG : C.G g
          · exact .inr hG
          · exact absurd (hnot g hN hG) h2
        · exact .inl (by omega)
    · exact (hold p (by have := R.grown.1; omega) (hnot _ h1 h2)).trans (R.old p h1 h2)
    · exact (hsame g (by have := R.grown.1; omega) (hnot g h1 h2)).trans (R.same g h1 h2)
  exact hQ _ _ ⟨σ', _, R'⟩

/-- What the operation does that panics. -/
def PanAt (P : Program) (kd : Kd) (s : AS) (E : Value → AStore → Prop) : Prop := match kd with
  | .callS f xs => ∃ v S', APan P f (AV.rens up1 (s.evs xs)) (upS s.S) v S' ∧ E v (dnS S')
  | .pan x => match s.ev x with
    | .one (.st (.lit (.iface t u))) => E (.iface t u) s.S
    | _ => False
  | _ => False
/-- Only the destination's slot turns. -/
theorem go_env {kd : Kd} {d : Nat} {K : AV → AS → Prop} (h : kd.go P d s K) : kd.go P d s fun v s' => K v s' ∧ s'.env = s.env := by
  by_cases hdet : kd.det = true
  · obtain ⟨v, S1, h1, h2, h3⟩ := go_loc hdet h
    exact (h3 s.env (fun _ _ => rfl)).1 _ ⟨h1, rfl⟩
  · cases kd
    case next x =>
      simp only [Kd.go] at h ⊢
      split at h
      · exact ⟨fun hj => ⟨h.1 hj, trivial⟩, fun j x c h1 h2 h3 => ⟨h.2 j x c h1 h2 h3, rfl⟩⟩
      · exact h.elim
    case memoGet ok z m k =>
      simp only [Kd.go] at h ⊢
      split at h
      · exact ⟨h.1, ⟨h.2.1, trivial⟩, fun cs' ds' x h1 h2 h3 => ⟨h.2.2 cs' ds' x h1 h2 h3, trivial⟩⟩
      · exact h.elim
    all_goals exact absurd rfl hdet
theorem put_env' {s' : AS} {dd : Option Nat} {v : AV} {t : Nat} (h : dd ≠ some t) : (s'.put dd v).env t = s'.env t := put_env (env := s'.env) (S1 := s'.S) h
theorem ins_env {i : Ins} {K : AS → Prop} (h : i.go P s K) : i.go P s fun s' => K s' ∧ ∀ t, i.dst ≠ some t → s'.env t = s.env t := by
  have hgo : ∀ {d : Nat} {K' : AV → AS → Prop}, i.kd.goT P d s i.tag K' → i.kd.goT P d s i.tag fun v s' => K' v s' ∧ s'.env = s.env := fun hh => go_mono (go_env hh) fun v s' hv => ⟨hv.1.1, hv.1.2, hv.2⟩
  have hput : ∀ (v : AV) (s' : AS), s'.env = s.env → ∀ t, i.dst ≠ some t → (s'.put i.dst v).env t = s.env t := fun v s' he t ht => by rw [put_env' ht, he]
  unfold Ins.go at h ⊢
  revert h
  cases i.guard with
  | none =>
    intro h
    exact goT_mono (hgo h) fun v s' _ hv => ⟨hv.1, hput v s' hv.2⟩
  | some gw =>
    obtain ⟨g, want⟩ := gw
    intro h
    dsimp only at h ⊢
    split at h
    · rename_i b e1
      refine ⟨fun hb => goT_mono (hgo (h.1 hb)) fun v s' _ hv => ⟨hv.1, hput v s' hv.2⟩, fun hb => ⟨h.2 hb, hput _ _ rfl⟩⟩
    · exact ⟨h, hput _ _ rfl⟩
    · exact h.elim
theorem insMono {i : Ins} {K K' : AS → Prop} (h : i.go P s K) (hm : ∀ s, K s → K' s) : i.go P s K' := by
  unfold Ins.go at h ⊢
  revert h
  cases i.guard with
  | none =>
    intro h
    exact goT_mono h fun v s' _ hv => hm _ hv
  | some gw =>
    obtain ⟨g, want⟩ := gw
    intro h
    dsimp only at h ⊢
    split at h
    · exact ⟨fun hb => goT_mono (h.1 hb) fun v s' _ hv => hm _ hv, fun hb => hm _ (h.2 hb)⟩
    · exact hm _ h
    · exact h.elim
theorem runMono {K K' : AS → Prop} (hm : ∀ s, K s → K' s) : ∀ {l : List Ins} {s : AS}, Run P l s K → Run P l s K'
  | [], s, h => hm _ h
  | i :: l, s, h => by
    rw [run_cons] at h ⊢
    exact insMono h fun s' h' => runMono hm h'
theorem panAt_mono {kd : Kd} {E E' : Value → AStore → Prop} (h : PanAt P kd s E) (hm : ∀ v S', E v S' → E' v S') : PanAt P kd s E' := by
  cases kd <;> simp only [PanAt] at h ⊢
  case callS f xs =>
    obtain ⟨v, S', h1, h2⟩ := h
    exact ⟨v, S', h1, hm _ _ h2⟩
  case pan x =>
    split at h
    · exact hm _ _ h
    · exact h.elim
theorem panAt_loc {kd : Kd} {s1 : AS} {E : Value → AStore → Prop} (h : PanAt P kd s1 E) (hS : s1.S = s.S) (he : ∀ t ∈ kd.reads, s1.env t = s.env t) : PanAt P kd s E := by
  cases kd <;> simp only [PanAt] at h
  case callS f xs =>
    obtain ⟨v, S', h1, h2⟩ := h
    refine ⟨v, S', ?_, h2⟩
    have e : s.evs xs = s1.evs xs := evs_loc (s := s1) (env' := s.env) (S' := s.S) fun t ht => (he t ht).symm
    rw [e, ← hS]
    exact h1
  case pan x =>
    have e : s.ev x = s1.ev x := ev_loc (s := s1) (env' := s.env) (S' := s.S) fun t ht => (he t ht).symm
    simp only [PanAt, e]
    rw [← hS]
    exact h
theorem trKd0_callS {n : Nat} {mu : List Nat} {dst : Option Nat} {op : Op} {f : Nat} {xs : List Opd} (h : trKd0 P n mu dst op = some (.callS f xs)) : ∃ c, op = .call c ∧ trCall P n mu dst c = some (.callS f xs) := by
  unfold trKd0 at h
  split at h
  case h_20 c => exact ⟨c, rfl, h⟩
  all_goals (exfalso; revert h; (repeat' split) <;> simp)
theorem trCall_callS {n : Nat} {mu : List Nat} {dst : Option Nat} {c : Call} {f : Nat} {xs : List Opd} (h : trCall P n mu dst c = some (.callS f xs)) : c.callee = .value (.func f) ∧ plainF P f = true ∧ trOpds n c.args.toList = some xs := by
  unfold trCall at h
  split at h
  case h_6 g hc =>
    split at h
    · rename_i hpl
      rw [Option.map_eq_some_iff] at h
      obtain ⟨ys, hy, he⟩ := h
      have hfx : g = f ∧ ys = xs := by
        revert he
        (repeat' split) <;> simp <;> (intro h1 h2; exact ⟨h1, h2⟩)
      obtain ⟨rfl, rfl⟩ := hfx
      exact ⟨hc, hpl, hy⟩
    · cases h
  all_goals (exfalso; revert h; (repeat' split) <;> simp)
theorem trCall_pan {n : Nat} {mu : List Nat} {dst : Option Nat} {c : Call} {x : Opd} : ¬ trCall P n mu dst c = some (.pan x) := by
  intro h
  unfold trCall at h
  split at h
  all_goals (revert h; (repeat' split) <;> simp)
  all_goals (intro _ _; (repeat' split) <;> simp)
theorem trKd0_pan {n : Nat} {mu : List Nat} {dst : Option Nat} {op : Op} {x : Opd} : ¬ trKd0 P n mu dst op = some (.pan x) := by
  intro h
  unfold trKd0 at h
  split at h
  case h_20 c => exact trCall_pan h
  all_goals (revert h; (repeat' split) <;> simp)
theorem trMemo_not {n : Nat} {op : Op} {k : Kd} (h : trMemo P n op = some k) : (∀ f xs, k ≠ .callS f xs) ∧ ∀ x, k ≠ .pan x := by
  refine ⟨fun f xs e => ?_, fun x e => ?_⟩ <;> subst e <;> unfold trMemo at h <;> revert h <;> (repeat' split) <;> simp
theorem pan_sound {mu : List Nat} {ops : List Oper} {k k' : Ins} (htr : trIns P C.n mu ops o = some k) (hk' : k'.dst = k.dst ∧ k'.guard = k.guard ∧ k'.kd = k.kd) (hg : k'.guard = none) {E : Value → AStore → Prop} {next : Act → World → Prop} (R : Refs C σ ι s a w) (h : PanAt P k'.kd s E)
    (hQ : ∀ v S' a' w', E v S' → Holds C ⟨s.env, S'⟩ a' w' → Q (.panic [{ v := v, recovered := false }]) a' w') : o.guard = none ∧ o.wp P a w next Q := by
  unfold trIns at htr
  split at htr
  · rename_i g kd e1 e2
    cases htr
    obtain ⟨hk1, hk2, hk3⟩ := hk'
    dsimp only at hk1 hk2 hk3
    rw [hg] at hk2
    subst hk2
    refine ⟨?_, ?_⟩
    · cases hog : o.guard with
      | none => rfl
      | some jw =>
        rw [hog] at e1
        obtain ⟨j, want⟩ := jw
        simp only [trGuard] at e1
        split at e1
        · split at e1
          · split at e1 <;> cases e1
          · cases e1
        · cases e1
    · rw [hk3] at h
      clear hk3
      unfold trKd at e2
      cases kd <;> simp only [PanAt] at h
      case callS f xs =>
        obtain ⟨v, S', h1, h2⟩ := h
        have h0 : trKd0 P C.n mu o.dst o.op = some (.callS f xs) := by
          split at e2
          · rename_i k0 hk0
            cases e2
            exact hk0
          · split at e2
            · rename_i k0 hk1
              cases e2
              exact absurd rfl ((trMemo_not hk1).1 f xs)
            · split at e2
              · rw [Option.map_eq_some_iff] at e2
                obtain ⟨_, _, e⟩ := e2
                cases e
              · cases e2
        obtain ⟨c, ho, hc⟩ := trKd0_callS h0
        obtain ⟨hcal, hpl, hy⟩ := trCall_callS hc
        refine callPan_core (vs := c.args.toList.map a.eval) R ?_ (R.evs hy) h1 fun a' w' hH => hQ _ _ _ _ h2 hH
        have := run_enter (P := P) (w := w) (args := c.args.map a.eval) hpl
        have e : (c.args.toList.map a.eval).toArray = c.args.map a.eval := by rw [← Array.toList_map, Array.toArray_toList]
        rw [e]
        obtain ⟨cal, args, tys⟩ := c
        dsimp only at hcal
        subst hcal
        simp [execOp, ho, resolve, Deferred.ofValue, Act.eval, invoke, this]
      case pan x =>
        split at e2
        · rename_i k0 hk0
          cases e2
          exact absurd hk0 trKd0_pan
        · split at e2
          · rename_i k0 hk1
            cases e2
            exact absurd rfl ((trMemo_not hk1).2 x)
          · split at e2
            · rename_i y hop
              rw [Option.map_eq_some_iff] at e2
              obtain ⟨x', hx, e⟩ := e2
              cases e
              split at h
              · rename_i t u e3
                have rx := R.ev hx
                rw [e3] at rx
                have hex := srep_lit (arep_st (vrep_one rx))
                unfold Oper.wp
                have : (execOp a.eval o).run P w = .halt (.panic (.iface t u)) w := by
                  simp [execOp, hop, hex, Instr.panic, goPanic]
                rw [this, Oper.upon_panic]
                exact hQ _ _ _ _ h ⟨σ, ι, R⟩
              · exact h.elim
            · cases e2
  · cases htr

/-! ### a region in which the operation number j panics -/
def panOk (l : List Ins) (j : Nat) : Bool := match l[j]? with
  | some y => y.guard.isNone && (List.range l.length).all fun i => match l[i]? with
    | some x => if i < j then !x.indep y || (x.kd.keepS && x.kd.det) else if j < i then !y.indep x else true
    | none => true
  | none => false
theorem panOk_facts {l : List Ins} {j : Nat} {y : Ins} (hj : l[j]? = some y) (h : panOk l j = true) : y.guard = none ∧ (∀ i x, i < j → l[i]? = some x → x.indep y = true → x.kd.keepS = true ∧ x.kd.det = true) ∧ ∀ i x, j < i → l[i]? = some x → y.indep x = false := by
  unfold panOk at h
  rw [hj] at h
  simp only [Bool.and_eq_true, Option.isNone_iff_eq_none, List.all_eq_true, List.mem_range] at h
  refine ⟨h.1, fun i x hi hx hd => ?_, fun i x hi hx => ?_⟩
  · have := h.2 i (List.getElem?_eq_some_iff.1 hx).1
    rw [hx] at this
    simpa [hi, hd] using this
  · have := h.2 i (List.getElem?_eq_some_iff.1 hx).1
    rw [hx] at this
    simpa [show ¬ i < j by omega, hi] using this
theorem indep_reads {x y : Ins} (h : x.indep y = true) : ∀ t ∈ y.reads, x.dst ≠ some t := by
  unfold Ins.indep at h
  simp only [Bool.and_eq_true] at h
  intro t ht e
  have h1 := h.1.1.2
  rw [e] at h1
  simp [ht] at h1
theorem run_keep {R : List Nat} : ∀ (l : List Ins) (s : AS) {K : AS → Prop}, (∀ x ∈ l, x.kd.keepS = true ∧ x.kd.det = true ∧ ∀ t ∈ R, x.dst ≠ some t) → Run P l s K → ∃ s1, K s1 ∧ s1.S = s.S ∧ ∀ t ∈ R, s1.env t = s.env t
  | [], s, _, _, h => ⟨s, h, rfl, fun _ _ => rfl⟩
  | x :: l, s, K, hx, h => by
    rw [run_cons] at h
    obtain ⟨k1, k2, k3⟩ := hx x List.mem_cons_self
    obtain ⟨v, S1, h1, h2, _⟩ := ins_loc k2 h
    have e := h2 k1
    subst e
    obtain ⟨s1, m1, m2, m3⟩ := run_keep l _ (fun x' hx' => hx x' (List.mem_cons_of_mem _ hx')) h1
    exact ⟨s1, m1, m2.trans put_S, fun t ht => (m3 t ht).trans (put_env (k3 t ht))⟩
theorem filterMap_take (ks : List Ins) : ∀ j : Nat, (List.range j).filterMap (fun i => ks[i]?) = ks.take j
  | 0 => rfl
  | j + 1 => by
    rw [List.range_succ, List.filterMap_append, filterMap_take ks j, List.take_add_one]
    cases h : ks[j]? <;> simp [h]
theorem region_pan {mu : List Nat} {ops : Array Oper} {ks0 ks : List Ins} {id j : Nat} {y : Ins} {E : Value → AStore → Prop} (hmix : P.follows .mixedOrders = true) (htr : trAll P C.n mu ops.toList ops.toList = some ks0) (hre : Retag ks0 ks) (hok : orderOk ops.toList ks = true) (hj : ks[j]? = some y) (hp : panOk ks j = true)
    (R : Refs C σ ι s a w) (h : Run P (ks.take j) s fun s1 => PanAt P y.kd s1 E) (hQ : ∀ v S' env a' w', E v S' → (∀ t, (∀ k ∈ ks, k.dst ≠ some t) → env t = s.env t) → Holds C ⟨env, S'⟩ a' w' → Q (.panic [{ v := v, recovered := false }]) a' w') : (Code.region id ops true).wp P Q a w := by
  obtain ⟨p1, p2, p3⟩ := panOk_facts hj hp
  obtain ⟨hl0, hget0⟩ := trAll_get htr
  have hl : ops.size = ks.length := by
    rw [← hre.1, ← hl0, Array.length_toList]
  have hjl : j < ops.size := by rw [hl]; exact (List.getElem?_eq_some_iff.1 hj).1
  have hget : ∀ (i : Nat) (o : Oper), ops.toList[i]? = some o → ∃ k', ks[i]? = some k' ∧ ∃ k, trIns P C.n mu ops.toList o = some k ∧ k'.dst = k.dst ∧ k'.guard = k.guard ∧ k'.kd = k.kd := fun i o ho => by
    obtain ⟨k, h1, h2⟩ := hget0 i o ho
    obtain ⟨k', q1, q2⟩ := hre.2 i k h1
    exact ⟨k', q1, k, h2, q2⟩
  refine wp_region_any hmix ?_
  have hchk : ∀ i, i < ops.size → (∀ o, ops[i]? = some o → ∀ e ∈ o.after, Region.binds .any e = true → e.on < i) ∧ ∀ j, j < i → ∀ x y, ks[j]? = some x → ks[i]? = some y → x.indep y = true ∨ behind ops.toList ops.toList.length j i = true := fun i hi => by
    have h1 := List.all_eq_true.1 hok i (List.mem_range.2 (by simpa using hi))
    simp only [Bool.and_eq_true] at h1
    refine ⟨fun o ho e he hb => ?_, fun j hj x y hx hy => ?_⟩
    · have h2 := h1.1
      rw [show ops.toList[i]? = some o by simpa using ho] at h2
      dsimp only at h2
      obtain ⟨k, hk, rfl⟩ := Array.getElem_of_mem he
      have h3 := (Array.all_eq_true.1 h2) k hk
      simpa [hb] using h3
    · have h2 := List.all_eq_true.1 h1.2 j (List.mem_range.2 hj)
      rw [hx, hy] at h2
      simpa using h2
  have key : ∀ (f : Nat) (T : List Nat) (listed : Array Bool) (s1 : AS) (a : Act) (w : World), (∀ t, (∀ k ∈ ks, k.dst ≠ some t) → s1.env t = s.env t) → T.length ≤ f → listed.size = ops.size → T.Pairwise (· < ·) → (∀ i, i ∈ T ↔ i < ops.size ∧ listed.getD i true = false) →
      (∀ k o, ops[k]? = some o → listed.getD k true = true → k < ops.size → ∀ e ∈ o.after, Region.binds .any e = true → listed.getD e.on false = true) → j ∈ T → Holds C s1 a w → Run P ((T.filter fun i => decide (i < j)).filterMap fun i => ks[i]?) s1 (fun s1 => PanAt P y.kd s1 E) → wpAny P .any ops Q f listed a w := by
    intro f
    induction f with
    | zero =>
      intro T listed s0 a w hE hf hsz hs hT hdc hjT hH hr
      have hT0 : T = [] := List.eq_nil_of_length_eq_zero (by omega)
      subst hT0
      cases hjT
    | succ f ih =>
      intro T listed s0 a w hE hf hsz hs hT hdc hjT hH hr
      have hgone : ∀ i k, i ∈ T → (∀ o, ops[k]? = some o → ∀ e ∈ o.after, Region.binds .any e = true → listed.getD e.on false = true) → behind ops.toList ops.toList.length i k = true → False := fun i k hi hk hbe => by
        have h1 := behind_listed (ops := ops) (listed := listed) hdc (i := k) _ i k hk hbe
        have h2 := ((hT i).1 hi).2
        have h3 := ((hT i).1 hi).1
        simp [show i < listed.size by omega] at h1 h2
        rw [h1] at h2
        cases h2
      refine ⟨fun hready => ?_, fun i hi => ?_⟩
      · cases T with
        | nil => cases hjT
        | cons i T =>
          exfalso
          obtain ⟨hi1, hi2⟩ := (hT i).1 (by simp)
          have : i ∈ Region.ready .any ops listed := by
            refine mem_ready.2 ⟨hi2, ops[i], Array.getElem?_eq_getElem hi1, fun e he hb => ?_⟩
            have hlt := (hchk i hi1).1 _ (Array.getElem?_eq_getElem hi1) e he hb
            cases hq : listed.getD e.on true with
            | true =>
              simp [show e.on < listed.size by omega] at hq ⊢
              exact hq
            | false =>
              have hmem := (hT e.on).2 ⟨by omega, hq⟩
              rcases List.mem_cons.1 hmem with h | h
              · omega
              · have := (List.pairwise_cons.1 hs).1 _ h
                omega
          rw [hready] at this
          cases this
      · obtain ⟨q1, o, q2, q3⟩ := mem_ready.1 hi
        have hi1 := (Array.getElem?_eq_some_iff.1 q2).1
        have hmem := (hT i).2 ⟨hi1, q1⟩
        have q3' : ∀ o2, ops[i]? = some o2 → ∀ e ∈ o2.after, Region.binds .any e = true → listed.getD e.on false = true := fun o2 ho2 e he hb => by
          rw [q2] at ho2
          cases ho2
          exact q3 e he hb
        obtain ⟨k', hy1, k0, hy2, hy3⟩ := hget i o (by simpa using q2)
        rcases Nat.lt_trichotomy i j with hij | hij | hij
        · obtain ⟨pre, post, rfl⟩ := List.append_of_mem hmem
          rw [List.filter_append, List.filter_cons, if_pos (by simpa using hij), List.filterMap_append, List.filterMap_cons, hy1] at hr
          dsimp only at hr
          have hpre : ∀ j ∈ pre, j < i := fun j hj => (List.pairwise_append.1 hs).2.2 j hj i (by simp)
          have hfront := run_front (P := P) (pre := (pre.filter fun i => decide (i < j)).filterMap fun i => ks[i]?) (y := k') (post := (post.filter fun i => decide (i < j)).filterMap fun i => ks[i]?) (fun x hx => by
            obtain ⟨m, hm, hxm⟩ := List.mem_filterMap.1 hx
            have hm' := (List.mem_filter.1 hm).1
            rcases (hchk i hi1).2 m (hpre m hm') x k' hxm hy1 with hind | hbe
            · exact hind
            · exact (hgone m i (by simp [hm']) q3' hbe).elim) hr
          obtain ⟨σ, ι, R⟩ := hH
          refine ins_sound q2 hy2 hy3 R (ins_env hfront) fun s' a' w' hKE hH' => ?_
          obtain ⟨hK, hE'⟩ := hKE
          rw [← List.filterMap_append, ← List.filter_append] at hK
          have hsub : (pre ++ post).Pairwise (· < ·) := by
            refine hs.sublist ?_
            exact List.Sublist.append (List.Sublist.refl pre) (List.sublist_cons_self i post)
          have hni : i ∉ pre ++ post := fun hm => by
            rcases List.mem_append.1 hm with hm | hm
            · have := hpre i hm; omega
            · have := (List.pairwise_cons.1 (List.pairwise_append.1 hs).2.1).1 i hm; omega
          refine ih (pre ++ post) (listed.setIfInBounds i true) s' a' w' (fun t ht => (hE' t (ht _ (List.mem_of_getElem? hy1))).trans (hE t ht)) (by simp at hf ⊢; omega) (by simpa using hsz) hsub (fun m => ?_) (fun k ok hok2 hlk hkk e he hb => ?_) ?_ hH' hK
          · constructor
            · intro hm
              have hmi : i ≠ m := fun e => hni (e ▸ hm)
              have := (hT m).1 (by
                rcases List.mem_append.1 hm with h | h
                · simp [h]
                · simp [h])
              refine ⟨this.1, ?_⟩
              have h3 := this.2
              simp only [Array.getD_eq_getD_getElem?] at h3 ⊢
              rw [Array.getElem?_setIfInBounds_ne hmi]
              exact h3
            · rintro ⟨h1, h2⟩
              have hmi : i ≠ m := fun e => by
                subst e
                simp [show i < listed.size by omega] at h2
              have h3 : listed.getD m true = false := by
                simp only [Array.getD_eq_getD_getElem?] at h2 ⊢
                rw [Array.getElem?_setIfInBounds_ne hmi] at h2
                exact h2
              have := (hT m).2 ⟨h1, h3⟩
              rcases List.mem_append.1 this with h | h
              · exact List.mem_append_left _ h
              · rcases List.mem_cons.1 h with h | h
                · exact absurd h.symm hmi
                · exact List.mem_append_right _ h
          · have hstep : ∀ m, listed.getD m false = true → (listed.setIfInBounds i true).getD m false = true := fun m hm => by
              by_cases e : i = m
              · subst e
                simp [show i < listed.size by omega]
              · simp only [Array.getD_eq_getD_getElem?] at hm ⊢
                rw [Array.getElem?_setIfInBounds_ne e]
                exact hm
            by_cases hki : i = k
            · subst hki
              exact hstep _ (q3' ok hok2 e he hb)
            · refine hstep _ (hdc k ok hok2 ?_ hkk e he hb)
              simp only [Array.getD_eq_getD_getElem?] at hlk ⊢
              rw [Array.getElem?_setIfInBounds_ne hki] at hlk
              exact hlk
          · rcases List.mem_append.1 hjT with h | h
            · exact List.mem_append_left _ h
            · rcases List.mem_cons.1 h with h | h
              · omega
              · exact List.mem_append_right _ h
        · subst hij
          rw [hj] at hy1
          cases hy1
          obtain ⟨s1, k1, k2, k3⟩ := run_keep (R := y.kd.reads) _ _ (fun x hx => by
            obtain ⟨m, hm, hxm⟩ := List.mem_filterMap.1 hx
            obtain ⟨hmT, hmi⟩ := List.mem_filter.1 hm
            have hmi : m < i := by simpa using hmi
            rcases (hchk i hi1).2 m hmi x y hxm hj with hind | hbe
            · obtain ⟨r1, r2⟩ := p2 m x hmi hxm hind
              exact ⟨r1, r2, fun t ht => indep_reads hind t (by simp [Ins.reads, ht])⟩
            · exact (hgone m i hmT q3' hbe).elim) hr
          obtain ⟨σ, ι, R⟩ := hH
          obtain ⟨g1, g2⟩ := pan_sound (next := wpAny P .any ops Q f (listed.setIfInBounds i true)) hy2 hy3 p1 R (panAt_loc k1 k2 k3) fun v S' a' w' h1 h2 => hQ v S' s0.env a' w' h1 hE h2
          unfold wpOp
          rw [q2]
          dsimp only
          rw [if_pos (by simp [Region.wanted, g1])]
          exact .inl g2
        · exfalso
          rcases (hchk i hi1).2 j hij y k' hj hy1 with hind | hbe
          · rw [p3 i k' hij hy1] at hind
            cases hind
          · exact hgone j i hjT q3' hbe
  have e0 : ((List.range ops.size).filter fun i => decide (i < j)).filterMap (fun i => ks[i]?) = ks.take j := by
    obtain ⟨m, hm⟩ : ∃ m, ops.size = j + m := ⟨ops.size - j, by omega⟩
    rw [hm, List.range_add, List.filter_append, List.filter_eq_self.2 (fun i hi => by simpa using hi), List.filter_eq_nil_iff.2 (fun i hi => by
      obtain ⟨k, _, rfl⟩ := List.mem_map.1 hi
      simp), List.append_nil]
    exact filterMap_take ks j
  refine key ops.size (List.range ops.size) (Array.replicate ops.size false) s a _ (fun _ _ => rfl) (by simp) (by simp) List.pairwise_lt_range (fun i => ?_) (fun k o hk hlk hkk e he hb => ?_) (List.mem_range.2 hjl) ⟨σ, ι, R.drew⟩ (by rw [e0]; exact h)
  · simp only [List.mem_range, Array.getD_eq_getD_getElem?]
    constructor
    · intro hi
      simp [hi]
    · rintro ⟨hi, _⟩
      exact hi
  · simp [hkk] at hlk
theorem region_pan_text {mu : List Nat} {ops : Array Oper} {ks : List Ins} {id j : Nat} {y : Ins} {E : Value → AStore → Prop} (htr : trAll P C.n mu ops.toList ops.toList = some ks) (hj : ks[j]? = some y) (hp : panOk ks j = true)
    (R : Refs C σ ι s a w) (h : Run P (ks.take j) s fun s1 => PanAt P y.kd s1 E) (hQ : ∀ v S' env a' w', E v S' → (∀ t, (∀ k ∈ ks, k.dst ≠ some t) → env t = s.env t) → Holds C ⟨env, S'⟩ a' w' → Q (.panic [{ v := v, recovered := false }]) a' w') : (Code.region id ops false).wp P Q a w := by
  obtain ⟨p1, p2, p3⟩ := panOk_facts hj hp
  obtain ⟨hl, hget⟩ := trAll_get htr
  have hl' : ops.size = ks.length := by rw [← hl, Array.length_toList]
  have hjl : j < ks.length := (List.getElem?_eq_some_iff.1 hj).1
  refine wp_region ?_
  have key : ∀ (m k : Nat) (s1 : AS) (a : Act) (w : World), (∀ t, (∀ k ∈ ks, k.dst ≠ some t) → s1.env t = s.env t) → k + m = ops.size → k ≤ j → Holds C s1 a w → Run P ((ks.take j).drop k) s1 (fun s1 => PanAt P y.kd s1 E) → wpOps P ops Q (List.range' k m) a w := by
    intro m
    induction m with
    | zero => intro k s1 a w hE hk hkj; omega
    | succ m ih =>
      intro k s1 a w hE hk hkj hH hr
      have hlt : k < ops.toList.length := by simp; omega
      obtain ⟨oo, hoo⟩ : ∃ oo, ops.toList[k]? = some oo := ⟨_, List.getElem?_eq_getElem hlt⟩
      obtain ⟨kk, h1, h2⟩ := hget k oo hoo
      have hop : ops[k]? = some oo := by rw [← Array.getElem?_toList]; exact hoo
      obtain ⟨σ, ι, R⟩ := hH
      rw [List.range'_succ, wpOps_cons]
      by_cases hkj' : k = j
      · subst hkj'
        rw [hj] at h1
        cases h1
        rw [List.drop_of_length_le (by simp; omega)] at hr
        obtain ⟨g1, g2⟩ := pan_sound (next := wpOps P ops Q (List.range' (k + 1) m)) h2 ⟨rfl, rfl, rfl⟩ p1 R hr fun v S' a' w' h1 h2 => hQ v S' s1.env a' w' h1 hE h2
        unfold wpOp
        rw [hop]
        dsimp only
        rw [if_pos (by simp [Region.wanted, g1])]
        exact .inl g2
      · have hd : (ks.take j).drop k = kk :: (ks.take j).drop (k + 1) := by
          have hk' : k < (ks.take j).length := by simp; omega
          rw [List.drop_eq_getElem_cons hk']
          congr 1
          rw [List.getElem_take]
          exact (List.getElem?_eq_some_iff.1 h1).2
        rw [hd, run_cons] at hr
        exact ins_sound (i := k) hop h2 ⟨rfl, rfl, rfl⟩ R (ins_env hr) fun s' a' w' hK hH' => ih (k + 1) s' a' w' (fun t ht => (hK.2 t (ht _ (List.mem_of_getElem? h1))).trans (hE t ht)) (by omega) (by omega) hH' hK.1
  rw [List.range_eq_range']
  exact key ops.size 0 s a w (fun _ _ => rfl) (by omega) (by omega) ⟨σ, ι, R⟩ (by simpa using h)
end
section
variable {P : Program} {C : Ctx} {mu : List Nat} {Q : AX → AS → Prop} {s : AS}
/-- Operations of which number j panics. -/
theorem IWP.opsPanR {l : List Ins} (j : Nat) (y : Ins) (hj : l[j]? = some y) (hp : panOk l j = true) (h : Run P (l.take j) s fun s1 => PanAt P y.kd s1 fun v S' => ∀ env, (∀ t, (l.all fun k => k.dst != some t) = true → env t = s.env t) → Q (.pan v) ⟨env, S'⟩) : IWP P C mu (.ops l) Q s := fun c hc a w hH => by
  have hQ : ∀ (v : Value) (S' : AStore) (env : Nat → AV) (a' : Act) (w' : World), (∀ env, (∀ t, (l.all fun k => k.dst != some t) = true → env t = s.env t) → Q (.pan v) ⟨env, S'⟩) → (∀ t, (∀ k ∈ l, k.dst ≠ some t) → env t = s.env t) → Holds C ⟨env, S'⟩ a' w' → lift C Q (.panic [{ v := v, recovered := false }]) a' w' := fun v S' env a' w' hE hk hH => ⟨_, v, ⟨hE env fun t ht => hk t fun k hk' => by simpa using List.all_eq_true.1 ht k hk', rfl⟩, hH⟩
  cases c <;> simp only [trCode] at hc
  case region id ops draw =>
    split at hc
    · rename_i ks e1
      obtain ⟨σ, ι, R⟩ := hH
      cases draw with
      | true =>
        simp only [if_true] at hc
        split at hc
        · rename_i h1
          cases hc
          simp only [Bool.and_eq_true] at h1
          exact region_pan h1.1 e1 (Retag.refl _) h1.2 hj hp R h hQ
        · split at hc
          · rename_i h1
            cases hc
            simp only [Bool.and_eq_true] at h1
            exact region_pan h1.1 e1 (retag_ok _ 0 _) h1.2 hj hp R h hQ
          · cases hc
      | false =>
        simp only [Bool.false_eq_true, if_false, Option.some.injEq, IR.ops.injEq] at hc
        subst hc
        exact region_pan_text e1 hj hp R h hQ
    · cases hc
  all_goals (exfalso; revert hc; (repeat' split) <;> simp)
theorem IWP.opsPanE {l : List Ins} (j : Nat) (y : Ins) (hj : l[j]? = some y) (hp : panOk l j = true) (h : Run2 P (l.take j) s fun s1 => PanAt P y.kd s1 fun v S' => ∀ env, (∀ t, (l.all fun k => k.dst != some t) = true → env t = s.env t) → Q (.pan v) ⟨env, S'⟩) : IWP P C mu (.ops l) Q s := IWP.opsPanR j y hj hp (run2_run h)
theorem IWP.opsPan {l : List Ins} (j : Nat) (y : Ins) (hj : l[j]? = some y) (hp : panOk l j = true) (h : Run2 P (l.take j) s fun s1 => PanAt P y.kd s1 fun v S' => ∀ env, Q (.pan v) ⟨env, S'⟩) : IWP P C mu (.ops l) Q s :=
  IWP.opsPanR j y hj hp (runMono (fun s1 h1 => panAt_mono h1 fun v S' h2 env _ => h2 env) (run2_run h))
/-- No panic is written there. -/
def noPan : List Ins → Bool
  | [] => true
  | i :: l => (match i.kd with | .pan _ => false | _ => true) && noPan l
theorem IWP.ops3 {l : List Ins} (hn : noPan l = true) (h : ∀ K : AS → Prop, (∀ s, Q .normal s → K s) → Run2 P l s K) : IWP P C mu (.ops l) Q s := IWP.ops2 h
theorem seqQ_pan {y : IR} {v : Value} (h : Q (.pan v) s) : seqQ P C mu y Q (.pan v) s := h
theorem inBlock_pan {id : Nat} {v : Value} (h : Q (.pan v) s) : AX.inBlock id Q (.pan v) s := h
theorem then_pan {K : AS → Prop} {v : Value} (h : Q (.pan v) s) : AX.then K Q (.pan v) s := h
/-- What a walk ends with where the function panics. -/
def FinP (C : Ctx) (v : Value) (S' : AStore) (e : AX) (s : AS) : Prop := e = .pan v ∧ ∃ s2, Ghost C s s2 ∧ s2.S = S' ∧ Clean S'
theorem apan_of {f : FuncId} {fn : Func} {c : Code} {x : IR} {xs : List AV} {S : AStore} {v : Value} {S' : AStore} (hf : P.funcs[f]? = some fn) (hb : fn.body = some c) (hx : trCode P fn.ntmps mu c = some x) (hn : xs.length ≤ fn.ntmps)
    (h : Clean S → ∀ C : Ctx, C.n = fn.ntmps → IWP P C mu x (FinP C v S') (AS.startS xs S)) : APan P f xs S v S' := by
  intro hclean σ w vs ι hglob hfit hown hvs
  have hl := hvs.len
  let C : Ctx := ⟨fn.ntmps, w.heap.size, fun g => ¬ notOf S ι g, σ, w, S, ι, hclean, hglob, []⟩
  refine calls_of_wp hf hb ?_
  have R : Refs C σ ι (AS.startS xs S) { tmps := vs.toArray ++ Array.replicate (fn.ntmps - vs.toArray.size) undef, defers := [] } w := by
    refine ⟨by simp [C]; omega, fun i hi => ?_, rfl, hfit, hown.1, hown.2, fun id b g h hg => .inr (fun hno => hno id b h hg), fun _ _ h => h, fun _ _ _ => rfl, ⟨rfl, rfl, rfl⟩, ⟨Nat.le_refl _, Nat.le_refl _⟩, fun _ _ _ => rfl, Upd.refl _ _⟩
    show VRep σ S ι _ ((xs[i]?).getD (.tup []))
    rw [Array.getD_eq_getD_getElem?]
    by_cases hlt : i < vs.length
    · rw [Array.getElem?_append_left (by simpa using hlt)]
      obtain ⟨b, hb1, hb2⟩ := hvs.get' (List.getElem?_eq_getElem hlt)
      rw [hb1]
      simpa [hlt] using hb2
    · rw [Array.getElem?_append_right (by simp; omega), List.getElem?_eq_none (by omega)]
      have hi' : i < fn.ntmps := hi
      rw [Array.getElem?_replicate, if_pos (by simp; omega)]
      exact .tup (fun _ => undef) rfl (by simp) (by simp)
  refine wp_mono (h hclean C rfl c hx _ w ⟨σ, ι, R⟩) fun e a' w' he => ?_
  cases e with
  | panic ch =>
    obtain ⟨s, v', ⟨⟨h1, s2, hg, hS, hc⟩, rfl⟩, hH⟩ := he
    cases h1
    obtain ⟨σ', ι', R'⟩ := hg _ _ hH
    subst hS
    exact ⟨R'.nod, σ', ι', rfl, hc, R'.upd, ⟨R'.blk, R'.inj⟩, R'.fit, R'.ext, fun p h1 h2 => R'.old p h1 (fun h => h h2), R'.os, R'.grown.2, fun g h1 h2 => R'.same g h1 (fun h => h h2), fun id b g h1 h2 => R'.base id b g h1 h2⟩
  | normal => obtain ⟨s, h1, h2⟩ := he; cases h1.1
  | ret => obtain ⟨s, h1, h2⟩ := he; cases h1.1
  | exit id => obtain ⟨s, h1, h2⟩ := he; cases h1.1
  | _ => exact he.elim
end
abbrev Wx := @IWP.ops3
abbrev Wy := @seqQ_pan
abbrev Wz := @inBlock_pan
abbrev Wv := @then_pan
end Go.Proofs.Ytohgkbgpcnmdpaa
