/-
  Part 6 of the texts: BEnds; BEndsP; IrTerm; BTerm; BVars; IrParse; BRead; BLRead; AbsX; IrBack; BMemo; BBack; BRebase; Shelf; IrComb; BComb; IrFrom; BFrom; BFrom2; IrLam; BLam; BLamMv; BLamPut; BFrom3; BFrom4; BAtoi; IrRed; BRed. Conditions: none.
-/
import Derived.Test.YtgpaahlkjibihaaDoorLaP5
import Derived.Shelf.Strconv.Atoi
import Derived.Shelf.Strconv.AtoiErr
import Derived.Shelf.Strconv.ErrVar
import Derived.Shelf.Strconv.Itoa3
import Derived.Test.YtgpaahlkjibihaaDoorProg
import Derived.Lib.AppendIntMem
import Derived.Lib.ItoaLen
namespace Go.Proofs.YtgpaahlkjibihaaDoor
open Go Go.RowKit
set_option linter.unusedVariables false
theorem lowS_is {S S1 : AStore} {a0 : Nat} {b : ABlk} (hS : Clean S) (ha : 1000 ≤ a0) (h1 : S1 a0 = some b) (h2 : ∀ i, 1000 ≤ i → i ≠ a0 → S1 i = S i) : lowS S1 = updE S a0 (some b) := by
  funext i
  show (if i < 1000 then none else S1 i) = _
  by_cases e : i = a0
  · subst e
    rw [if_neg (by omega), updE_same, h1]
  · rw [updE_ne _ e]
    by_cases hi : i < 1000
    · rw [if_pos hi, clean_none hS hi]
    · rw [if_neg hi, h2 i (by omega) e]
theorem highs_is {S S1 : AStore} {a0 : Nat} {b : ABlk} (hS : Clean S) (hb : b.high = true) (h1 : S1 a0 = some b) (h2 : ∀ i, 1000 ≤ i → i ≠ a0 → S1 i = S i) : ∀ i c, 1000 ≤ i → S1 i = some c → c.high = true := fun i c hi hc => by
  by_cases e : i = a0
  · subst e
    rw [h1] at hc
    cases hc
    exact hb
  · rw [h2 i hi e] at hc
    exact (hS i c hc).2
theorem finS_one {C : Ctx} {rs : List RV} {r : AV} {e : AX} {s : AS} {S : AStore} {a0 : Nat} {b : ABlk} (r0 : AV) (hS : Clean S) (ha : 1000 ≤ a0) (hb : b.high = true) (he : match e with | .normal => True | .ret => True | _ => False)
    (h1 : (resAll s rs).map tupV = some r0) (h2 : outV s.S r0 = some r) (h3 : s.S a0 = some b) (h4 : ∀ i, 1000 ≤ i → i ≠ a0 → s.S i = S i) : FinS C rs r (updE S a0 (some b)) e s :=
  finS_low he r0 h1 h2 (highs_is hS hb h3 h4) (lowS_is hS ha h3 h4) (clean_upd hS ha hb)

set_option maxHeartbeats 400000
theorem Ghost.kill {C : Ctx} {s : AS} (id : Nat) {ty : TypeId} {xs : List AC} (hS : s.S id = some (.box ty xs)) : Ghost C s (s.set id (.dead 1 0)) := fun a w ⟨σ, ι, R⟩ => by
  have hb := R.blk _ _ hS
  cases hb with
  | @box _ _ g vs h1 h2 h3 h4 h5 =>
    obtain ⟨hu, R'⟩ := R.turn (w' := w) hS (.dead 1 0) (ι id) (σ' := σ) (fun _ _ h => h) (fun _ _ _ => rfl) R.fit (Nat.le_refl _) (fun _ => ⟨rfl, rfl⟩) ⟨rfl, rfl, rfl⟩ (Nat.le_refl _) (fun _ _ _ => rfl) (fun g h => .inl h)
      (fun hu => .dead fun g' hg' => by rw [h1] at hg'; cases hg'; exact ⟨_, h3, rfl⟩)
    exact ⟨σ, _, R'⟩
theorem finP_at {C : Ctx} {v : Value} {s : AS} {S : AStore} {a0 : Nat} (hS : Clean S) (ha : 1000 ≤ a0) (h3 : s.S a0 = some (.dead 1 0)) (h4 : ∀ i, 1000 ≤ i → i ≠ a0 → s.S i = S i) : FinP C v (updE S a0 (some (.dead 1 0))) (.pan v) s :=
  ⟨rfl, _, Ghost.low (highs_is hS rfl h3 h4), lowS_is hS ha h3 h4, clean_upd hS ha rfl⟩
theorem finP_box {C : Ctx} {v : Value} {s : AS} {S : AStore} {a0 : Nat} {ty : TypeId} {xs : List AC} (hS : Clean S) (ha : 1000 ≤ a0) (h3 : s.S a0 = some (.box ty xs)) (h4 : ∀ i, 1000 ≤ i → i ≠ a0 → s.S i = S i) : FinP C v (updE S a0 (some (.dead 1 0))) (.pan v) s := by
  obtain ⟨h1, s2, hg, h5, h6⟩ := finP_at (C := C) (v := v) (s := s.set a0 (.dead 1 0)) hS ha (updE_same _ _ _) (fun i hi hne => (updE_ne _ hne _).trans (h4 i hi hne))
  exact ⟨h1, s2, (Ghost.kill a0 h3).trans hg, h5, h6⟩

set_option maxRecDepth 100000
def ir_term_letter : IR :=
  (.seq (.ops [.i 2 (.mov (.c (.one (.st (.bool false)))))]) (.seq (.ops [.m 3 0, .i 4 (.bin .geq (.t 3) (.c (.one (.st (.int .u8 97))))), .m 5 4, .mk (some 6) (some (5, true)) (.mov (.t 0)) .no, .mk (some 7) (some (5, true)) (.bin .leq (.t 6) (.c (.one (.st (.int .u8 122))))) .no, .i 8 (.pick (.t 5) (.t 7) (.c (.one (.st (.bool false))))), .m 9 8, .mk (some 10) (some (9, false)) (.mov (.t 0)) .no, .mk (some 11) (some (9, false)) (.bin .geq (.t 10) (.c (.one (.st (.int .u8 65))))) .no, .mk (some 12) (some (9, false)) (.mov (.t 11)) .no, .mk (some 13) (some (12, true)) (.mov (.t 0)) .no, .mk (some 14) (some (12, true)) (.bin .leq (.t 13) (.c (.one (.st (.int .u8 90))))) .no, .mk (some 15) (some (9, false)) (.pick (.t 12) (.t 14) (.c (.one (.st (.bool false))))) .no, .i 16 (.pick (.t 9) (.c (.one (.st (.bool true)))) (.t 15)), .m 17 16, .mk (some 18) (some (17, false)) (.mov (.t 0)) .no, .mk (some 19) (some (17, false)) (.bin .geq (.t 18) (.c (.one (.st (.int .u8 48))))) .no, .mk (some 20) (some (17, false)) (.mov (.t 19)) .no, .mk (some 21) (some (20, true)) (.mov (.t 0)) .no, .mk (some 22) (some (20, true)) (.bin .leq (.t 21) (.c (.one (.st (.int .u8 57))))) .no, .mk (some 23) (some (17, false)) (.pick (.t 20) (.t 22) (.c (.one (.st (.bool false))))) .no, .i 24 (.pick (.t 17) (.c (.one (.st (.bool true)))) (.t 23)), .m 2 24]) .ret))
theorem ok_term_letter : OkF Tryd.prog 32 25 [] ir_term_letter [.t 2] := .of Tryd.func32 rfl rfl (by kernel_rfl) rfl
def ir_R_IsLetter : IR :=
  (.seq (.ops [.i 2 (.mov (.c (.one (.st (.bool false)))))]) (.seq (.ops [.m 3 0, .i 4 (.bin .geq (.t 3) (.c (.one (.st (.int .u8 97))))), .m 5 4, .mk (some 6) (some (5, true)) (.mov (.t 0)) .no, .mk (some 7) (some (5, true)) (.bin .leq (.t 6) (.c (.one (.st (.int .u8 122))))) .no, .i 8 (.pick (.t 5) (.t 7) (.c (.one (.st (.bool false))))), .m 9 8, .mk (some 10) (some (9, false)) (.mov (.t 0)) .no, .mk (some 11) (some (9, false)) (.bin .geq (.t 10) (.c (.one (.st (.int .u8 65))))) .no, .mk (some 12) (some (9, false)) (.mov (.t 11)) .no, .mk (some 13) (some (12, true)) (.mov (.t 0)) .no, .mk (some 14) (some (12, true)) (.bin .leq (.t 13) (.c (.one (.st (.int .u8 90))))) .no, .mk (some 15) (some (9, false)) (.pick (.t 12) (.t 14) (.c (.one (.st (.bool false))))) .no, .i 16 (.pick (.t 9) (.c (.one (.st (.bool true)))) (.t 15)), .m 17 16, .mk (some 18) (some (17, false)) (.mov (.t 0)) .no, .mk (some 19) (some (17, false)) (.bin .geq (.t 18) (.c (.one (.st (.int .u8 48))))) .no, .mk (some 20) (some (17, false)) (.mov (.t 19)) .no, .mk (some 21) (some (20, true)) (.mov (.t 0)) .no, .mk (some 22) (some (20, true)) (.bin .leq (.t 21) (.c (.one (.st (.int .u8 57))))) .no, .mk (some 23) (some (17, false)) (.pick (.t 20) (.t 22) (.c (.one (.st (.bool false))))) .no, .i 24 (.pick (.t 17) (.c (.one (.st (.bool true)))) (.t 23)), .m 2 24]) .ret))
theorem ok_R_IsLetter : OkF Tryd.prog 39 25 [] ir_R_IsLetter [.t 2] := .of Tryd.func39 rfl rfl (by kernel_rfl) rfl
def ir_term_Name : IR :=
  (.seq (.ops [.i 2 (.mov (.c (.one (.st (.bool false)))))]) (.seq (.seq (.ops [.m 4 0, .i 5 (.len true (.t 4)), .i 6 (.bin .lss (.t 5) (.n 1)), .m 7 6, .mk (some 8) (some (7, false)) (.mov (.t 0)) .no, .mk (some 9) (some (7, false)) (.len true (.t 8)) .no, .mk (some 10) (some (7, false)) (.bin .gtr (.t 9) (.n 8)) .no, .i 11 (.pick (.t 7) (.c (.one (.st (.bool true)))) (.t 10)), .m 12 11, .mk (some 13) (some (12, false)) (.mov (.t 0)) .no, .mk (some 14) (some (12, false)) (.indexStr (.t 13) (.n 0)) .no, .mk (some 15) (some (12, false)) (.bin .geq (.t 14) (.c (.one (.st (.int .u8 48))))) .no, .mk (some 16) (some (12, false)) (.mov (.t 15)) .no, .mk (some 17) (some (16, true)) (.mov (.t 0)) .no, .mk (some 18) (some (16, true)) (.indexStr (.t 17) (.n 0)) .no, .mk (some 19) (some (16, true)) (.bin .leq (.t 18) (.c (.one (.st (.int .u8 57))))) .no, .mk (some 20) (some (12, false)) (.pick (.t 16) (.t 19) (.c (.one (.st (.bool false))))) .no, .i 21 (.pick (.t 12) (.c (.one (.st (.bool true)))) (.t 20))]) (.cond (.t 21) (.seq (.ops [.i 2 (.mov (.c (.one (.st (.bool false)))))]) .ret) .skip)) (.seq (.seq (.ops [.m 22 0, .i 23 (.len true (.t 22)), .i 24 (.mov (.n 0))]) (.block 0 (.loop (.seq (.ops [.i 25 (.bin .lss (.t 24) (.t 23))]) (.seq (.cond (.t 25) .skip (.exit 0)) (.seq (.block 1 (.seq (.ops [.m 26 24, .m 3 26]) (.seq (.ops [.m 27 0, .m 28 3, .i 29 (.indexStr (.t 27) (.t 28)), .i 30 (.call 32 [.t 29]), .i 31 (.un .not (.t 30))]) (.cond (.t 31) (.seq (.ops [.i 2 (.mov (.c (.one (.st (.bool false)))))]) .ret) .skip)))) (.ops [.i 32 (.bin .add (.t 24) (.n 1)), .m 24 32]))))))) (.seq (.ops [.i 2 (.mov (.c (.one (.st (.bool true)))))]) .ret))))
theorem ok_term_Name : OkF Tryd.prog 14 33 [] ir_term_Name [.t 2] := .of Tryd.func14 rfl rfl (by kernel_rfl) rfl
def ir_R_IsName : IR :=
  (.seq (.ops [.i 2 (.mov (.c (.one (.st (.bool false)))))]) (.seq (.seq (.ops [.m 4 0, .i 5 (.bin .eql (.t 4) (.c (.one (.st (.str (ByteArray.mk (#[]))))))), .m 6 5, .mk (some 7) (some (6, false)) (.mov (.t 0)) .no, .mk (some 8) (some (6, false)) (.len true (.t 7)) .no, .mk (some 9) (some (6, false)) (.bin .gtr (.t 8) (.n 8)) .no, .i 10 (.pick (.t 6) (.c (.one (.st (.bool true)))) (.t 9)), .m 11 10, .mk (some 12) (some (11, false)) (.mov (.t 0)) .no, .mk (some 13) (some (11, false)) (.indexStr (.t 12) (.n 0)) .no, .mk (some 14) (some (11, false)) (.bin .geq (.t 13) (.c (.one (.st (.int .u8 48))))) .no, .mk (some 15) (some (11, false)) (.mov (.t 14)) .no, .mk (some 16) (some (15, true)) (.mov (.t 0)) .no, .mk (some 17) (some (15, true)) (.indexStr (.t 16) (.n 0)) .no, .mk (some 18) (some (15, true)) (.bin .leq (.t 17) (.c (.one (.st (.int .u8 57))))) .no, .mk (some 19) (some (11, false)) (.pick (.t 15) (.t 18) (.c (.one (.st (.bool false))))) .no, .i 20 (.pick (.t 11) (.c (.one (.st (.bool true)))) (.t 19))]) (.cond (.t 20) (.seq (.ops [.i 2 (.mov (.c (.one (.st (.bool false)))))]) .ret) .skip)) (.seq (.seq (.ops [.i 3 (.mov (.n 0))]) (.block 0 (.loop (.seq (.seq (.ops [.m 21 3, .m 22 0, .i 23 (.len true (.t 22)), .i 24 (.bin .lss (.t 21) (.t 23))]) (.cond (.t 24) .skip (.exit 0))) (.seq (.block 1 (.seq (.ops [.m 27 0, .m 28 3, .i 29 (.indexStr (.t 27) (.t 28)), .i 30 (.call 39 [.t 29]), .i 31 (.un .not (.t 30))]) (.cond (.t 31) (.seq (.ops [.i 2 (.mov (.c (.one (.st (.bool false)))))]) .ret) .skip))) (.ops [.m 25 3, .i 26 (.bin .add (.t 25) (.n 1)), .m 3 26])))))) (.seq (.ops [.i 2 (.mov (.c (.one (.st (.bool true)))))]) .ret))))
theorem ok_R_IsName : OkF Tryd.prog 23 32 [] ir_R_IsName [.t 2] := .of Tryd.func23 rfl rfl (by kernel_rfl) rfl
def ir_R_In : IR :=
  (.seq (.ops [.i 4 (.mov (.c (.one (.st (.bool false)))))]) (.seq (.seq (.ops [.i 5 (.mov (.n 0))]) (.block 0 (.loop (.seq (.seq (.ops [.m 6 5, .m 7 1, .i 8 (.len false (.t 7)), .i 9 (.bin .lss (.t 6) (.t 8))]) (.cond (.t 9) .skip (.exit 0))) (.seq (.block 1 (.seq (.ops [.m 12 1, .m 13 5, .i 14 (.indexAddr 1 (.t 12) (.t 13)), .l 15 14, .m 16 0, .i 17 (.bin .eql (.t 15) (.t 16))]) (.cond (.t 17) (.seq (.ops [.i 4 (.mov (.c (.one (.st (.bool true)))))]) .ret) .skip))) (.ops [.m 10 5, .i 11 (.bin .add (.t 10) (.n 1)), .m 5 11])))))) (.seq (.ops [.i 4 (.mov (.c (.one (.st (.bool false)))))]) .ret)))
theorem ok_R_In : OkF Tryd.prog 24 18 [] ir_R_In [.t 4] := .of Tryd.func24 rfl rfl (by kernel_rfl) rfl
def ir_slices_Index_string_string : IR :=
  (.seq (.ops [.i 4 (.mov (.n 0))]) (.seq (.seq (.ops [.m 6 0, .i 7 (.len false (.t 6)), .i 8 (.mov (.n 0))]) (.block 0 (.loop (.seq (.ops [.i 9 (.bin .lss (.t 8) (.t 7))]) (.seq (.cond (.t 9) .skip (.exit 0)) (.seq (.block 1 (.seq (.ops [.m 10 8, .m 5 10]) (.seq (.ops [.m 11 1, .m 12 0, .m 13 5, .i 14 (.indexAddr 1 (.t 12) (.t 13)), .l 15 14, .i 16 (.bin .eql (.t 11) (.t 15))]) (.cond (.t 16) (.seq (.ops [.m 17 5, .m 4 17]) .ret) .skip)))) (.ops [.i 18 (.bin .add (.t 8) (.n 1)), .m 8 18]))))))) (.seq (.ops [.i 4 (.mov (.c (.one (.st (.int .i64 (-1))))))]) .ret)))
theorem ok_slices_Index_string_string : OkF Tryd.prog 33 19 [] ir_slices_Index_string_string [.t 4] := .of Tryd.func33 rfl rfl (by kernel_rfl) rfl
def ir_slices_Contains_string_string : IR :=
  (.seq (.ops [.i 4 (.mov (.c (.one (.st (.bool false)))))]) (.seq (.ops [.m 5 0, .m 6 1, .i 7 (.call 33 [.t 5, .t 6]), .i 8 (.bin .geq (.t 7) (.n 0)), .m 4 8]) .ret))
theorem ok_slices_Contains_string_string : OkF Tryd.prog 15 9 [] ir_slices_Contains_string_string [.t 4] := .of Tryd.func15 rfl rfl (by kernel_rfl) rfl

set_option linter.unusedSimpArgs false
theorem byteN_eq (s : ByteArray) (k : Nat) : byteN s k = byteAt s k := rfl
theorem size_ne {s : ByteArray} (h : ¬ s.size = 0) : ¬ s = ⟨#[]⟩ := fun e => h (by rw [e]; rfl)
theorem size_eq0 {s : ByteArray} (h : s.size = 0) : s = ⟨#[]⟩ := by
  have := ByteArray.size_eq_zero_iff.1 h
  exact this
theorem letter_a (n : Int) (h0 : 0 ≤ n) : ACalls Tryd.prog 32 [.one (.st (.int .u8 n))] (aBool (letterI n)) := by
  refine ok_term_letter.ac fun C hC => ?_
  unfold ir_term_letter
  have hc : (97 ≤ n ∧ n ≤ 122) ∨ (122 < n) ∨ (n < 97 ∧ 65 ≤ n ∧ n ≤ 90) ∨ (n < 97 ∧ 90 < n) ∨ (n < 65 ∧ 48 ≤ n ∧ n ≤ 57) ∨ (n < 65 ∧ 57 < n) ∨ (n < 48) := by omega
  rcases hc with h | h | h | h | h | h | h
  · have h1 : 97 ≤ n := h.1
    have h2 : n ≤ 122 := h.2
    repeat' (first | (with_reducible first | refine W ?_ | refine Wz0 ?_) | ((with_reducible first | refine Wo (fun K hK => ?_) | refine Wq ?_ | refine Wr ?_); (try simp only [go_sem, fN, seval, eT, iR, h1, h2]); (repeat with_reducible refine Ai ?_); (try (refine hK _ ?_; clear hK K))))
    simp only [go_sem, fN, seval, FinQ, AS.result, resAll, resOne, tupV, letterI, h1, h2]
    try simp
  · have h1 : 97 ≤ n := by omega
    have h2 : ¬ n ≤ 122 := by omega
    have h3 : 65 ≤ n := by omega
    have h4 : ¬ n ≤ 90 := by omega
    have h5 : 48 ≤ n := by omega
    have h6 : ¬ n ≤ 57 := by omega
    repeat' (first | (with_reducible first | refine W ?_ | refine Wz0 ?_) | ((with_reducible first | refine Wo (fun K hK => ?_) | refine Wq ?_ | refine Wr ?_); (try simp only [go_sem, fN, seval, eT, iR, h1, h2, h3, h4, h5, h6]); (repeat with_reducible refine Ai ?_); (try (refine hK _ ?_; clear hK K))))
    simp only [go_sem, fN, seval, FinQ, AS.result, resAll, resOne, tupV, letterI, h1, h2, h3, h4, h5, h6]
    try simp
  · have h1 : ¬ 97 ≤ n := by omega
    have h3 : 65 ≤ n := by omega
    have h4 : n ≤ 90 := by omega
    repeat' (first | (with_reducible first | refine W ?_ | refine Wz0 ?_) | ((with_reducible first | refine Wo (fun K hK => ?_) | refine Wq ?_ | refine Wr ?_); (try simp only [go_sem, fN, seval, eT, iR, h1, h3, h4]); (repeat with_reducible refine Ai ?_); (try (refine hK _ ?_; clear hK K))))
    simp only [go_sem, fN, seval, FinQ, AS.result, resAll, resOne, tupV, letterI, h1, h3, h4]
    try simp
  · have h1 : ¬ 97 ≤ n := by omega
    have h3 : 65 ≤ n := by omega
    have h4 : ¬ n ≤ 90 := by omega
    have h5 : 48 ≤ n := by omega
    have h6 : ¬ n ≤ 57 := by omega
    repeat' (first | (with_reducible first | refine W ?_ | refine Wz0 ?_) | ((with_reducible first | refine Wo (fun K hK => ?_) | refine Wq ?_ | refine Wr ?_); (try simp only [go_sem, fN, seval, eT, iR, h1, h3, h4, h5, h6]); (repeat with_reducible refine Ai ?_); (try (refine hK _ ?_; clear hK K))))
    simp only [go_sem, fN, seval, FinQ, AS.result, resAll, resOne, tupV, letterI, h1, h3, h4, h5, h6]
    try simp
  · have h1 : ¬ 97 ≤ n := by omega
    have h3 : ¬ 65 ≤ n := by omega
    have h5 : 48 ≤ n := by omega
    have h6 : n ≤ 57 := by omega
    repeat' (first | (with_reducible first | refine W ?_ | refine Wz0 ?_) | ((with_reducible first | refine Wo (fun K hK => ?_) | refine Wq ?_ | refine Wr ?_); (try simp only [go_sem, fN, seval, eT, iR, h1, h3, h5, h6]); (repeat with_reducible refine Ai ?_); (try (refine hK _ ?_; clear hK K))))
    simp only [go_sem, fN, seval, FinQ, AS.result, resAll, resOne, tupV, letterI, h1, h3, h5, h6]
    try simp
  · have h1 : ¬ 97 ≤ n := by omega
    have h3 : ¬ 65 ≤ n := by omega
    have h5 : 48 ≤ n := by omega
    have h6 : ¬ n ≤ 57 := by omega
    repeat' (first | (with_reducible first | refine W ?_ | refine Wz0 ?_) | ((with_reducible first | refine Wo (fun K hK => ?_) | refine Wq ?_ | refine Wr ?_); (try simp only [go_sem, fN, seval, eT, iR, h1, h3, h5, h6]); (repeat with_reducible refine Ai ?_); (try (refine hK _ ?_; clear hK K))))
    simp only [go_sem, fN, seval, FinQ, AS.result, resAll, resOne, tupV, letterI, h1, h3, h5, h6]
    try simp
  · have h1 : ¬ 97 ≤ n := by omega
    have h3 : ¬ 65 ≤ n := by omega
    have h5 : ¬ 48 ≤ n := by omega
    repeat' (first | (with_reducible first | refine W ?_ | refine Wz0 ?_) | ((with_reducible first | refine Wo (fun K hK => ?_) | refine Wq ?_ | refine Wr ?_); (try simp only [go_sem, fN, seval, eT, iR, h1, h3, h5]); (repeat with_reducible refine Ai ?_); (try (refine hK _ ?_; clear hK K))))
    simp only [go_sem, fN, seval, FinQ, AS.result, resAll, resOne, tupV, letterI, h1, h3, h5]
    try simp
theorem isLetter_a (n : Int) (h0 : 0 ≤ n) : ACalls Tryd.prog 39 [.one (.st (.int .u8 n))] (aBool (letterI n)) := by
  refine ok_R_IsLetter.ac fun C hC => ?_
  unfold ir_R_IsLetter
  have hc : (97 ≤ n ∧ n ≤ 122) ∨ (122 < n) ∨ (n < 97 ∧ 65 ≤ n ∧ n ≤ 90) ∨ (n < 97 ∧ 90 < n) ∨ (n < 65 ∧ 48 ≤ n ∧ n ≤ 57) ∨ (n < 65 ∧ 57 < n) ∨ (n < 48) := by omega
  rcases hc with h | h | h | h | h | h | h
  · have h1 : 97 ≤ n := h.1
    have h2 : n ≤ 122 := h.2
    repeat' (first | (with_reducible first | refine W ?_ | refine Wz0 ?_) | ((with_reducible first | refine Wo (fun K hK => ?_) | refine Wq ?_ | refine Wr ?_); (try simp only [go_sem, fN, seval, eT, iR, h1, h2]); (repeat with_reducible refine Ai ?_); (try (refine hK _ ?_; clear hK K))))
    simp only [go_sem, fN, seval, FinQ, AS.result, resAll, resOne, tupV, letterI, h1, h2]
    try simp
  · have h1 : 97 ≤ n := by omega
    have h2 : ¬ n ≤ 122 := by omega
    have h3 : 65 ≤ n := by omega
    have h4 : ¬ n ≤ 90 := by omega
    have h5 : 48 ≤ n := by omega
    have h6 : ¬ n ≤ 57 := by omega
    repeat' (first | (with_reducible first | refine W ?_ | refine Wz0 ?_) | ((with_reducible first | refine Wo (fun K hK => ?_) | refine Wq ?_ | refine Wr ?_); (try simp only [go_sem, fN, seval, eT, iR, h1, h2, h3, h4, h5, h6]); (repeat with_reducible refine Ai ?_); (try (refine hK _ ?_; clear hK K))))
    simp only [go_sem, fN, seval, FinQ, AS.result, resAll, resOne, tupV, letterI, h1, h2, h3, h4, h5, h6]
    try simp
  · have h1 : ¬ 97 ≤ n := by omega
    have h3 : 65 ≤ n := by omega
    have h4 : n ≤ 90 := by omega
    repeat' (first | (with_reducible first | refine W ?_ | refine Wz0 ?_) | ((with_reducible first | refine Wo (fun K hK => ?_) | refine Wq ?_ | refine Wr ?_); (try simp only [go_sem, fN, seval, eT, iR, h1, h3, h4]); (repeat with_reducible refine Ai ?_); (try (refine hK _ ?_; clear hK K))))
    simp only [go_sem, fN, seval, FinQ, AS.result, resAll, resOne, tupV, letterI, h1, h3, h4]
    try simp
  · have h1 : ¬ 97 ≤ n := by omega
    have h3 : 65 ≤ n := by omega
    have h4 : ¬ n ≤ 90 := by omega
    have h5 : 48 ≤ n := by omega
    have h6 : ¬ n ≤ 57 := by omega
    repeat' (first | (with_reducible first | refine W ?_ | refine Wz0 ?_) | ((with_reducible first | refine Wo (fun K hK => ?_) | refine Wq ?_ | refine Wr ?_); (try simp only [go_sem, fN, seval, eT, iR, h1, h3, h4, h5, h6]); (repeat with_reducible refine Ai ?_); (try (refine hK _ ?_; clear hK K))))
    simp only [go_sem, fN, seval, FinQ, AS.result, resAll, resOne, tupV, letterI, h1, h3, h4, h5, h6]
    try simp
  · have h1 : ¬ 97 ≤ n := by omega
    have h3 : ¬ 65 ≤ n := by omega
    have h5 : 48 ≤ n := by omega
    have h6 : n ≤ 57 := by omega
    repeat' (first | (with_reducible first | refine W ?_ | refine Wz0 ?_) | ((with_reducible first | refine Wo (fun K hK => ?_) | refine Wq ?_ | refine Wr ?_); (try simp only [go_sem, fN, seval, eT, iR, h1, h3, h5, h6]); (repeat with_reducible refine Ai ?_); (try (refine hK _ ?_; clear hK K))))
    simp only [go_sem, fN, seval, FinQ, AS.result, resAll, resOne, tupV, letterI, h1, h3, h5, h6]
    try simp
  · have h1 : ¬ 97 ≤ n := by omega
    have h3 : ¬ 65 ≤ n := by omega
    have h5 : 48 ≤ n := by omega
    have h6 : ¬ n ≤ 57 := by omega
    repeat' (first | (with_reducible first | refine W ?_ | refine Wz0 ?_) | ((with_reducible first | refine Wo (fun K hK => ?_) | refine Wq ?_ | refine Wr ?_); (try simp only [go_sem, fN, seval, eT, iR, h1, h3, h5, h6]); (repeat with_reducible refine Ai ?_); (try (refine hK _ ?_; clear hK K))))
    simp only [go_sem, fN, seval, FinQ, AS.result, resAll, resOne, tupV, letterI, h1, h3, h5, h6]
    try simp
  · have h1 : ¬ 97 ≤ n := by omega
    have h3 : ¬ 65 ≤ n := by omega
    have h5 : ¬ 48 ≤ n := by omega
    repeat' (first | (with_reducible first | refine W ?_ | refine Wz0 ?_) | ((with_reducible first | refine Wo (fun K hK => ?_) | refine Wq ?_ | refine Wr ?_); (try simp only [go_sem, fN, seval, eT, iR, h1, h3, h5]); (repeat with_reducible refine Ai ?_); (try (refine hK _ ?_; clear hK K))))
    simp only [go_sem, fN, seval, FinQ, AS.result, resAll, resOne, tupV, letterI, h1, h3, h5]
    try simp
theorem nameOk_eq (s : ByteArray) (h1 : 1 ≤ s.size) (h8 : s.size ≤ 8) (hd : ¬ (48 ≤ byteAt s 0 ∧ byteAt s 0 ≤ 57)) : nameOk s = lettersTo s s.size := by
  unfold nameOk
  have : (decide (48 ≤ byteAt s 0) && decide (byteAt s 0 ≤ 57)) = false := by
    rw [Bool.and_eq_false_iff]
    simp
    omega
  rw [this]
  simp [h1, h8]
theorem name_a (s : ByteArray) : ACalls Tryd.prog 14 [aStr s] (aBool (nameOk s)) := by
  by_cases h0 : s.size < 1
  · have e : nameOk s = false := by simp [nameOk]; omega
    rw [e]
    have h0' : (s.size : Int) < 1 := by omega
    refine ok_term_Name.ac fun C hC => ?_
    unfold ir_term_Name
    repeat' (first | (with_reducible first | refine W ?_ | refine Wz0 ?_) | ((with_reducible first | refine Wo (fun K hK => ?_) | refine Wq ?_ | refine Wr ?_); (try simp only [go_sem, fN, seval, eT, iR, h0']); (repeat with_reducible refine Ai ?_); (try (refine hK _ ?_; clear hK K))))
    with_reducible refine Wp ?_
    simp only [go_sem, fN, seval, true_implies, false_implies, implies_true, dT, dF, nL, h0']
    (try with_reducible refine iC ?_)
    repeat' (first | (with_reducible first | refine W ?_ | refine Wz0 ?_) | ((with_reducible first | refine Wo (fun K hK => ?_) | refine Wq ?_ | refine Wr ?_); (try simp only [go_sem, fN, seval, eT, iR]); (repeat with_reducible refine Ai ?_); (try (refine hK _ ?_; clear hK K))))
    simp only [go_sem, fN, seval, FinQ, AS.result, resAll, resOne, tupV]
  have h0' : ¬ (s.size : Int) < 1 := by omega
  by_cases h8 : 8 < s.size
  · have e : nameOk s = false := by simp [nameOk]; omega
    rw [e]
    have h8' : (8 : Int) < s.size := by omega
    refine ok_term_Name.ac fun C hC => ?_
    unfold ir_term_Name
    repeat' (first | (with_reducible first | refine W ?_ | refine Wz0 ?_) | ((with_reducible first | refine Wo (fun K hK => ?_) | refine Wq ?_ | refine Wr ?_); (try simp only [go_sem, fN, seval, eT, iR, h0', h8']); (repeat with_reducible refine Ai ?_); (try (refine hK _ ?_; clear hK K))))
    with_reducible refine Wp ?_
    simp only [go_sem, fN, seval, true_implies, false_implies, implies_true, dT, dF, nL, h0']
    (try with_reducible refine iC ?_)
    repeat' (first | (with_reducible first | refine W ?_ | refine Wz0 ?_) | ((with_reducible first | refine Wo (fun K hK => ?_) | refine Wq ?_ | refine Wr ?_); (try simp only [go_sem, fN, seval, eT, iR]); (repeat with_reducible refine Ai ?_); (try (refine hK _ ?_; clear hK K))))
    simp only [go_sem, fN, seval, FinQ, AS.result, resAll, resOne, tupV]
  have h8' : ¬ (8 : Int) < s.size := by omega
  have hpos : 0 < s.size := by omega
  by_cases hd : 48 ≤ byteAt s 0 ∧ byteAt s 0 ≤ 57
  · have e : nameOk s = false := by simp [nameOk, hd.1, hd.2]
    rw [e]
    refine ok_term_Name.ac fun C hC => ?_
    unfold ir_term_Name
    repeat' (first | (with_reducible first | refine W ?_ | refine Wz0 ?_) | ((with_reducible first | refine Wo (fun K hK => ?_) | refine Wq ?_ | refine Wr ?_); (try simp only [go_sem, fN, seval, eT, iR, h0', h8', hpos, byteN_eq, hd.1, hd.2]); (repeat with_reducible refine Ai ?_); (try (refine hK _ ?_; clear hK K))))
    with_reducible refine Wp ?_
    simp only [go_sem, fN, seval, true_implies, false_implies, implies_true, dT, dF, nL, h0']
    (try with_reducible refine iC ?_)
    repeat' (first | (with_reducible first | refine W ?_ | refine Wz0 ?_) | ((with_reducible first | refine Wo (fun K hK => ?_) | refine Wq ?_ | refine Wr ?_); (try simp only [go_sem, fN, seval, eT, iR]); (repeat with_reducible refine Ai ?_); (try (refine hK _ ?_; clear hK K))))
    simp only [go_sem, fN, seval, FinQ, AS.result, resAll, resOne, tupV]
  rw [nameOk_eq s (by omega) (by omega) hd]
  have hd2 : (48 ≤ byteAt s 0 ∧ ¬ byteAt s 0 ≤ 57) ∨ (¬ 48 ≤ byteAt s 0) := by omega
  refine ok_term_Name.ac fun C hC => ?_
  unfold ir_term_Name
  have h57 : 48 ≤ byteAt s 0 → ¬ byteAt s 0 ≤ 57 := fun h h' => hd ⟨h, h'⟩
  by_cases h48 : 48 ≤ byteAt s 0
  all_goals
    simp only [h48, true_implies, false_implies] at h57
    repeat' (first | (with_reducible first | refine W ?_ | refine Wz0 ?_) | ((with_reducible first | refine Wo (fun K hK => ?_) | refine Wq ?_ | refine Wr ?_); (try simp only [go_sem, fN, seval, eT, iR, h0', h8', hpos, byteN_eq, h48, h57]); (repeat with_reducible refine Ai ?_); (try (refine hK _ ?_; clear hK K))))
    with_reducible refine Wp ?_
    simp only [go_sem, fN, seval, true_implies, false_implies, implies_true, dT, dF, nL, h0']
    (try with_reducible refine iC ?_)
    repeat' (first | (with_reducible first | refine W ?_ | refine Wz0 ?_) | ((with_reducible first | refine Wo (fun K hK => ?_) | refine Wq ?_ | refine Wr ?_); (try simp only [go_sem, fN, seval, eT, iR]); (repeat with_reducible refine Ai ?_); (try (refine hK _ ?_; clear hK K))))
    refine IWP.loop (fun m x => ∃ k, k ≤ s.size ∧ m = s.size - k ∧ lettersTo s k = true ∧ x.env 0 = aStr s ∧ x.env 23 = aInt s.size ∧ x.env 24 = aInt k) s.size ⟨0, Nat.zero_le _, rfl, rfl, rfl, rfl, rfl⟩ ?_
    rintro m ⟨env, S⟩ ⟨k, hk, rfl, hl, e0, e23, e24⟩
    simp only at e0 e23 e24
    repeat' (first | (with_reducible first | refine W ?_ | refine Wz0 ?_) | ((with_reducible first | refine Wo (fun K hK => ?_) | refine Wq ?_ | refine Wr ?_); (try simp only [go_sem, fN, seval, eT, iR, e0, e23, e24]); (repeat with_reducible refine Ai ?_); (try (refine hK _ ?_; clear hK K))))
    with_reducible refine Wp ?_
    simp only [go_sem, fN, seval, true_implies, false_implies, implies_true, dT, dF, nL, e0, e23, e24]
    (try with_reducible refine iC ?_)
    refine ⟨fun hlt => ?_, fun hge => ?_⟩
    · have hlt' : k < s.size := by omega
      repeat' (first | (with_reducible first | refine W ?_ | refine Wz0 ?_) | refine Cg _ (letter_a _ (byteAt_range s k).1) ?_ | ((with_reducible first | refine Wo (fun K hK => ?_) | refine Wq ?_ | refine Wr ?_); (try simp only [go_sem, fN, seval, eT, iR, e0, e23, e24, hlt', byteN_eq]); (repeat with_reducible refine Ai ?_); (try (refine hK _ ?_; clear hK K))))
      with_reducible refine Wp ?_
      simp only [go_sem, fN, seval, true_implies, false_implies, implies_true, dT, dF, nL]
      (try with_reducible refine iC ?_)
      refine ⟨fun hn => ?_, fun hn => ?_⟩
      · repeat' (first | (with_reducible first | refine W ?_ | refine Wz0 ?_) | ((with_reducible first | refine Wo (fun K hK => ?_) | refine Wq ?_ | refine Wr ?_); (try simp only [go_sem, fN, seval, eT, iR]); (repeat with_reducible refine Ai ?_); (try (refine hK _ ?_; clear hK K))))
        simp only [go_sem, fN, seval, FinQ, AS.result, resAll, resOne, tupV]
        rw [lettersTo_no s k hlt' (by simpa using hn)]
      · repeat' (first | (with_reducible first | refine W ?_ | refine Wz0 ?_) | ((with_reducible first | refine Wo (fun K hK => ?_) | refine Wq ?_ | refine Wr ?_); (try simp only [go_sem, fN, seval, eT, iR, e0, e23, e24]); (repeat with_reducible refine Ai ?_); (try (refine hK _ ?_; clear hK K))))
        refine then_normal ⟨s.size - (k + 1), by omega, k + 1, by omega, rfl, ?_, ?_⟩
        · rw [lettersTo_succ s k hlt', hl]
          simpa using hn
        · simp only [go_sem, fN, seval, eT, iR, e0, e23, e24]
          congr 3
    · repeat' (first | (with_reducible first | refine W ?_ | refine Wz0 ?_) | ((with_reducible first | refine Wo (fun K hK => ?_) | refine Wq ?_ | refine Wr ?_); (try simp only [go_sem, fN, seval, eT, iR]); (repeat with_reducible refine Ai ?_); (try (refine hK _ ?_; clear hK K))))
      simp only [go_sem, fN, seval, FinQ, AS.result, resAll, resOne, tupV]
      rw [show s.size = k by omega, hl]
theorem isName_a (s : ByteArray) : ACalls Tryd.prog 23 [aStr s] (aBool (nameOk s)) := by
  by_cases h0 : s.size < 1
  · have e : nameOk s = false := by simp [nameOk]; omega
    rw [e]
    have h0' : s = ⟨#[]⟩ := size_eq0 (by omega)
    subst h0'
    refine ok_R_IsName.ac fun C hC => ?_
    unfold ir_R_IsName
    repeat' (first | (with_reducible first | refine W ?_ | refine Wz0 ?_) | ((with_reducible first | refine Wo (fun K hK => ?_) | refine Wq ?_ | refine Wr ?_); (try simp only [go_sem, fN, seval, eT, iR]); (repeat with_reducible refine Ai ?_); (try (refine hK _ ?_; clear hK K))))
    with_reducible refine Wp ?_
    simp only [go_sem, fN, seval, true_implies, false_implies, implies_true, dT, dF, nL]
    (try with_reducible refine iC ?_)
    repeat' (first | (with_reducible first | refine W ?_ | refine Wz0 ?_) | ((with_reducible first | refine Wo (fun K hK => ?_) | refine Wq ?_ | refine Wr ?_); (try simp only [go_sem, fN, seval, eT, iR]); (repeat with_reducible refine Ai ?_); (try (refine hK _ ?_; clear hK K))))
    simp only [go_sem, fN, seval, FinQ, AS.result, resAll, resOne, tupV]
  have h0' : ¬ s = ⟨#[]⟩ := size_ne (by omega)
  by_cases h8 : 8 < s.size
  · have e : nameOk s = false := by simp [nameOk]; omega
    rw [e]
    have h8' : (8 : Int) < s.size := by omega
    refine ok_R_IsName.ac fun C hC => ?_
    unfold ir_R_IsName
    repeat' (first | (with_reducible first | refine W ?_ | refine Wz0 ?_) | ((with_reducible first | refine Wo (fun K hK => ?_) | refine Wq ?_ | refine Wr ?_); (try simp only [go_sem, fN, seval, eT, iR, h0', h8']); (repeat with_reducible refine Ai ?_); (try (refine hK _ ?_; clear hK K))))
    with_reducible refine Wp ?_
    simp only [go_sem, fN, seval, true_implies, false_implies, implies_true, dT, dF, nL, h0']
    (try with_reducible refine iC ?_)
    repeat' (first | (with_reducible first | refine W ?_ | refine Wz0 ?_) | ((with_reducible first | refine Wo (fun K hK => ?_) | refine Wq ?_ | refine Wr ?_); (try simp only [go_sem, fN, seval, eT, iR]); (repeat with_reducible refine Ai ?_); (try (refine hK _ ?_; clear hK K))))
    simp only [go_sem, fN, seval, FinQ, AS.result, resAll, resOne, tupV]
  have h8' : ¬ (8 : Int) < s.size := by omega
  have hpos : 0 < s.size := by omega
  by_cases hd : 48 ≤ byteAt s 0 ∧ byteAt s 0 ≤ 57
  · have e : nameOk s = false := by simp [nameOk, hd.1, hd.2]
    rw [e]
    refine ok_R_IsName.ac fun C hC => ?_
    unfold ir_R_IsName
    repeat' (first | (with_reducible first | refine W ?_ | refine Wz0 ?_) | ((with_reducible first | refine Wo (fun K hK => ?_) | refine Wq ?_ | refine Wr ?_); (try simp only [go_sem, fN, seval, eT, iR, h0', h8', hpos, byteN_eq, hd.1, hd.2]); (repeat with_reducible refine Ai ?_); (try (refine hK _ ?_; clear hK K))))
    with_reducible refine Wp ?_
    simp only [go_sem, fN, seval, true_implies, false_implies, implies_true, dT, dF, nL, h0']
    (try with_reducible refine iC ?_)
    repeat' (first | (with_reducible first | refine W ?_ | refine Wz0 ?_) | ((with_reducible first | refine Wo (fun K hK => ?_) | refine Wq ?_ | refine Wr ?_); (try simp only [go_sem, fN, seval, eT, iR]); (repeat with_reducible refine Ai ?_); (try (refine hK _ ?_; clear hK K))))
    simp only [go_sem, fN, seval, FinQ, AS.result, resAll, resOne, tupV]
  rw [nameOk_eq s (by omega) (by omega) hd]
  refine ok_R_IsName.ac fun C hC => ?_
  unfold ir_R_IsName
  have h57 : 48 ≤ byteAt s 0 → ¬ byteAt s 0 ≤ 57 := fun h h' => hd ⟨h, h'⟩
  by_cases h48 : 48 ≤ byteAt s 0
  all_goals
    simp only [h48, true_implies, false_implies] at h57
    repeat' (first | (with_reducible first | refine W ?_ | refine Wz0 ?_) | ((with_reducible first | refine Wo (fun K hK => ?_) | refine Wq ?_ | refine Wr ?_); (try simp only [go_sem, fN, seval, eT, iR, h0', h8', hpos, byteN_eq, h48, h57]); (repeat with_reducible refine Ai ?_); (try (refine hK _ ?_; clear hK K))))
    with_reducible refine Wp ?_
    simp only [go_sem, fN, seval, true_implies, false_implies, implies_true, dT, dF, nL, h0']
    (try with_reducible refine iC ?_)
    repeat' (first | (with_reducible first | refine W ?_ | refine Wz0 ?_) | ((with_reducible first | refine Wo (fun K hK => ?_) | refine Wq ?_ | refine Wr ?_); (try simp only [go_sem, fN, seval, eT, iR]); (repeat with_reducible refine Ai ?_); (try (refine hK _ ?_; clear hK K))))
    refine IWP.loop (fun m x => ∃ k, k ≤ s.size ∧ m = s.size - k ∧ lettersTo s k = true ∧ x.env 0 = aStr s ∧ x.env 3 = aInt k) s.size ⟨0, Nat.zero_le _, rfl, rfl, rfl, rfl⟩ ?_
    rintro m ⟨env, S⟩ ⟨k, hk, rfl, hl, e0, e3⟩
    simp only at e0 e3
    repeat' (first | (with_reducible first | refine W ?_ | refine Wz0 ?_) | ((with_reducible first | refine Wo (fun K hK => ?_) | refine Wq ?_ | refine Wr ?_); (try simp only [go_sem, fN, seval, eT, iR, e0, e3]); (repeat with_reducible refine Ai ?_); (try (refine hK _ ?_; clear hK K))))
    with_reducible refine Wp ?_
    simp only [go_sem, fN, seval, true_implies, false_implies, implies_true, dT, dF, nL, e0, e3]
    (try with_reducible refine iC ?_)
    refine ⟨fun hlt => ?_, fun hge => ?_⟩
    · have hlt' : k < s.size := by omega
      repeat' (first | (with_reducible first | refine W ?_ | refine Wz0 ?_) | refine Cg _ (isLetter_a _ (byteAt_range s k).1) ?_ | ((with_reducible first | refine Wo (fun K hK => ?_) | refine Wq ?_ | refine Wr ?_); (try simp only [go_sem, fN, seval, eT, iR, e0, e3, hlt', byteN_eq]); (repeat with_reducible refine Ai ?_); (try (refine hK _ ?_; clear hK K))))
      with_reducible refine Wp ?_
      simp only [go_sem, fN, seval, true_implies, false_implies, implies_true, dT, dF, nL]
      (try with_reducible refine iC ?_)
      refine ⟨fun hn => ?_, fun hn => ?_⟩
      · repeat' (first | (with_reducible first | refine W ?_ | refine Wz0 ?_) | ((with_reducible first | refine Wo (fun K hK => ?_) | refine Wq ?_ | refine Wr ?_); (try simp only [go_sem, fN, seval, eT, iR]); (repeat with_reducible refine Ai ?_); (try (refine hK _ ?_; clear hK K))))
        simp only [go_sem, fN, seval, FinQ, AS.result, resAll, resOne, tupV]
        rw [lettersTo_no s k hlt' (by simpa using hn)]
      · repeat' (first | (with_reducible first | refine W ?_ | refine Wz0 ?_) | ((with_reducible first | refine Wo (fun K hK => ?_) | refine Wq ?_ | refine Wr ?_); (try simp only [go_sem, fN, seval, eT, iR, e0, e3]); (repeat with_reducible refine Ai ?_); (try (refine hK _ ?_; clear hK K))))
        refine then_normal ⟨s.size - (k + 1), by omega, k + 1, by omega, rfl, ?_, ?_⟩
        · rw [lettersTo_succ s k hlt', hl]
          simpa using hn
        · simp only [go_sem, fN, seval, eT, iR, e0, e3]
          congr 3
    · repeat' (first | (with_reducible first | refine W ?_ | refine Wz0 ?_) | ((with_reducible first | refine Wo (fun K hK => ?_) | refine Wq ?_ | refine Wr ?_); (try simp only [go_sem, fN, seval, eT, iR]); (repeat with_reducible refine Ai ?_); (try (refine hK _ ?_; clear hK K))))
      simp only [go_sem, fN, seval, FinQ, AS.result, resAll, resOne, tupV]
      rw [show s.size = k by omega, hl]
theorem in_a (x : ByteArray) (l : List ByteArray) : ACalls Tryd.prog 24 [aStr x, aStrs l] (aBool (isIn x l)) := by
  refine ok_R_In.ac fun C hC => ?_
  unfold ir_R_In
  refine IWP.learn 1 (by omega) fun hkn => ?_
  have hkn := known_len hkn
  rw [List.length_map] at hkn
  repeat' (first | (with_reducible first | refine W ?_ | refine Wz0 ?_) | ((with_reducible first | refine Wo (fun K hK => ?_) | refine Wq ?_ | refine Wr ?_); (try simp only [go_sem, fN, seval, eT, iR]); (repeat with_reducible refine Ai ?_); (try (refine hK _ ?_; clear hK K))))
  refine IWP.loop (fun n s => ∃ k, k ≤ l.length ∧ n = l.length - k ∧ isIn x (l.take k) = false ∧ s.env 0 = aStr x ∧ s.env 1 = aStrs l ∧ s.env 5 = aInt k) l.length ⟨0, Nat.zero_le _, rfl, rfl, rfl, rfl, rfl⟩ ?_
  rintro n ⟨env, S⟩ ⟨k, hk, rfl, h0, e0, e1, e5⟩
  simp only at e0 e1 e5
  repeat' (first | (with_reducible first | refine W ?_ | refine Wz0 ?_) | ((with_reducible first | refine Wo (fun K hK => ?_) | refine Wq ?_ | refine Wr ?_); (try simp only [go_sem, fN, seval, eT, iR, e0, e1, e5]); (repeat with_reducible refine Ai ?_); (try (refine hK _ ?_; clear hK K))))
  with_reducible refine Wp ?_
  simp only [go_sem, fN, seval, true_implies, false_implies, implies_true, dT, dF, nL]
  (try with_reducible refine iC ?_)
  refine ⟨fun hlt => ?_, fun hge => ?_⟩
  · obtain ⟨a, ha⟩ := get_lt (show k < l.length by omega)
    repeat' (first | (with_reducible first | refine W ?_ | refine Wz0 ?_) | ((with_reducible first | refine Wo (fun K hK => ?_) | refine Wq ?_ | refine Wr ?_); (try simp only [go_sem, fN, seval, eT, iR, e0, e1, e5, ha]); (repeat with_reducible refine Ai ?_); (try (refine hK _ ?_; clear hK K))))
    with_reducible refine Wp ?_
    simp only [go_sem, fN, seval, true_implies, false_implies, implies_true, dT, dF, nL]
    (try with_reducible refine iC ?_)
    refine ⟨fun hb => ?_, fun hb => ?_⟩
    · repeat' (first | (with_reducible first | refine W ?_ | refine Wz0 ?_) | ((with_reducible first | refine Wo (fun K hK => ?_) | refine Wq ?_ | refine Wr ?_); (try simp only [go_sem, fN, seval, eT, iR]); (repeat with_reducible refine Ai ?_); (try (refine hK _ ?_; clear hK K))))
      simp only [go_sem, fN, seval, FinQ, AS.result, resAll, resOne, tupV]
      rw [isIn_iff.2 (by rw [← hb]; exact mem_of_get ha)]
    · repeat' (first | (with_reducible first | refine W ?_ | refine Wz0 ?_) | ((with_reducible first | refine Wo (fun K hK => ?_) | refine Wq ?_ | refine Wr ?_); (try simp only [go_sem, fN, seval, eT, iR, e0, e1, e5]); (repeat with_reducible refine Ai ?_); (try (refine hK _ ?_; clear hK K))))
      refine then_normal ⟨l.length - (k + 1), by omega, k + 1, by omega, rfl, ?_, ?_⟩
      · rw [take_snoc ha, isIn_no]
        rw [isIn_no] at h0
        simp only [List.mem_append, List.mem_singleton, not_or]
        exact ⟨h0, fun e => hb e.symm⟩
      · simp only [go_sem, fN, seval, eT, iR, e0, e1, e5]
        congr 3
  · repeat' (first | (with_reducible first | refine W ?_ | refine Wz0 ?_) | ((with_reducible first | refine Wo (fun K hK => ?_) | refine Wq ?_ | refine Wr ?_); (try simp only [go_sem, fN, seval, eT, iR]); (repeat with_reducible refine Ai ?_); (try (refine hK _ ?_; clear hK K))))
    simp only [go_sem, fN, seval, FinQ, AS.result, resAll, resOne, tupV]
    rw [List.take_of_length_le (by omega)] at h0
    rw [h0]
theorem index_a (l : List ByteArray) (x : ByteArray) : ∃ i : Int, ACalls Tryd.prog 33 [aStrs l, aStr x] (aInt i) ∧ (0 ≤ i ↔ isIn x l = true) := by
  by_cases hin : isIn x l = true
  · obtain ⟨k0, hk0, hmin⟩ : ∃ k, l[k]? = some x ∧ ∀ j, j < k → l[j]? ≠ some x := by
      have hx := isIn_iff.1 hin
      have ⟨k, hk⟩ := List.getElem?_of_mem hx
      induction k using Nat.strongRecOn with
      | _ k ih =>
        by_cases h : ∃ j, j < k ∧ l[j]? = some x
        · obtain ⟨j, hj, hjx⟩ := h
          exact ih j hj hjx
        · exact ⟨k, hk, fun j hj hjx => h ⟨j, hj, hjx⟩⟩
    have hlt0 := lt_of_get hk0
    refine ⟨k0, ?_, by simp [hin]⟩
    refine ok_slices_Index_string_string.ac fun C hC => ?_
    unfold ir_slices_Index_string_string
    refine IWP.learn 0 (by omega) fun hkn => ?_
    have hkn := known_len hkn
    rw [List.length_map] at hkn
    repeat' (first | (with_reducible first | refine W ?_ | refine Wz0 ?_) | ((with_reducible first | refine Wo (fun K hK => ?_) | refine Wq ?_ | refine Wr ?_); (try simp only [go_sem, fN, seval, eT, iR]); (repeat with_reducible refine Ai ?_); (try (refine hK _ ?_; clear hK K))))
    refine IWP.loop (fun n s => ∃ k, k ≤ k0 ∧ n = k0 - k ∧ s.env 0 = aStrs l ∧ s.env 1 = aStr x ∧ s.env 7 = aInt l.length ∧ s.env 8 = aInt k) k0 ⟨0, Nat.zero_le _, rfl, rfl, rfl, rfl, rfl⟩ ?_
    rintro n ⟨env, S⟩ ⟨k, hk, rfl, e0, e1, e7, e8⟩
    simp only at e0 e1 e7 e8
    have hlt : (k : Int) < l.length := by omega
    repeat' (first | (with_reducible first | refine W ?_ | refine Wz0 ?_) | ((with_reducible first | refine Wo (fun K hK => ?_) | refine Wq ?_ | refine Wr ?_); (try simp only [go_sem, fN, seval, eT, iR, e0, e1, e7, e8, hlt]); (repeat with_reducible refine Ai ?_); (try (refine hK _ ?_; clear hK K))))
    with_reducible refine Wp ?_
    simp only [go_sem, fN, seval, true_implies, false_implies, implies_true, dT, dF, nL, e0, e1, e7, e8, hlt]
    (try with_reducible refine iC ?_)
    obtain ⟨a, ha⟩ := get_lt (show k < l.length by omega)
    repeat' (first | (with_reducible first | refine W ?_ | refine Wz0 ?_) | ((with_reducible first | refine Wo (fun K hK => ?_) | refine Wq ?_ | refine Wr ?_); (try simp only [go_sem, fN, seval, eT, iR, e0, e1, e7, e8, ha]); (repeat with_reducible refine Ai ?_); (try (refine hK _ ?_; clear hK K))))
    by_cases he : k = k0
    · subst he
      rw [hk0] at ha
      cases ha
      with_reducible refine Wp ?_
      simp only [go_sem, fN, seval, true_implies, false_implies, implies_true, dT, dF, nL]
      (try with_reducible refine iC ?_)
      repeat' (first | (with_reducible first | refine W ?_ | refine Wz0 ?_) | ((with_reducible first | refine Wo (fun K hK => ?_) | refine Wq ?_ | refine Wr ?_); (try simp only [go_sem, fN, seval, eT, iR, e0, e1, e7, e8]); (repeat with_reducible refine Ai ?_); (try (refine hK _ ?_; clear hK K))))
      simp only [go_sem, fN, seval, FinQ, AS.result, resAll, resOne, tupV]
    · have hne : ¬ x = a := fun e => hmin k (by omega) (by rw [ha, e])
      with_reducible refine Wp ?_
      simp only [go_sem, fN, seval, true_implies, false_implies, implies_true, dT, dF, nL, hne]
      (try with_reducible refine iC ?_)
      repeat' (first | (with_reducible first | refine W ?_ | refine Wz0 ?_) | ((with_reducible first | refine Wo (fun K hK => ?_) | refine Wq ?_ | refine Wr ?_); (try simp only [go_sem, fN, seval, eT, iR, e0, e1, e7, e8]); (repeat with_reducible refine Ai ?_); (try (refine hK _ ?_; clear hK K))))
      refine then_normal ⟨k0 - (k + 1), by omega, k + 1, by omega, rfl, ?_⟩
      simp only [go_sem, fN, seval, eT, iR, e0, e1, e7, e8]
      congr 3
  · rw [Bool.not_eq_true] at hin
    refine ⟨-1, ?_, by simp [hin]⟩
    refine ok_slices_Index_string_string.ac fun C hC => ?_
    unfold ir_slices_Index_string_string
    refine IWP.learn 0 (by omega) fun hkn => ?_
    have hkn := known_len hkn
    rw [List.length_map] at hkn
    repeat' (first | (with_reducible first | refine W ?_ | refine Wz0 ?_) | ((with_reducible first | refine Wo (fun K hK => ?_) | refine Wq ?_ | refine Wr ?_); (try simp only [go_sem, fN, seval, eT, iR]); (repeat with_reducible refine Ai ?_); (try (refine hK _ ?_; clear hK K))))
    refine IWP.loop (fun n s => ∃ k, k ≤ l.length ∧ n = l.length - k ∧ s.env 0 = aStrs l ∧ s.env 1 = aStr x ∧ s.env 7 = aInt l.length ∧ s.env 8 = aInt k) l.length ⟨0, Nat.zero_le _, rfl, rfl, rfl, rfl, rfl⟩ ?_
    rintro n ⟨env, S⟩ ⟨k, hk, rfl, e0, e1, e7, e8⟩
    simp only at e0 e1 e7 e8
    by_cases hlt : (k : Int) < l.length
    · repeat' (first | (with_reducible first | refine W ?_ | refine Wz0 ?_) | ((with_reducible first | refine Wo (fun K hK => ?_) | refine Wq ?_ | refine Wr ?_); (try simp only [go_sem, fN, seval, eT, iR, e0, e1, e7, e8, hlt]); (repeat with_reducible refine Ai ?_); (try (refine hK _ ?_; clear hK K))))
      with_reducible refine Wp ?_
      simp only [go_sem, fN, seval, true_implies, false_implies, implies_true, dT, dF, nL, e0, e1, e7, e8, hlt]
      (try with_reducible refine iC ?_)
      obtain ⟨a, ha⟩ := get_lt (show k < l.length by omega)
      have hne : ¬ x = a := fun e => by
        rw [isIn_no] at hin
        exact hin (by rw [e]; exact mem_of_get ha)
      repeat' (first | (with_reducible first | refine W ?_ | refine Wz0 ?_) | ((with_reducible first | refine Wo (fun K hK => ?_) | refine Wq ?_ | refine Wr ?_); (try simp only [go_sem, fN, seval, eT, iR, e0, e1, e7, e8, ha]); (repeat with_reducible refine Ai ?_); (try (refine hK _ ?_; clear hK K))))
      with_reducible refine Wp ?_
      simp only [go_sem, fN, seval, true_implies, false_implies, implies_true, dT, dF, nL, hne]
      (try with_reducible refine iC ?_)
      repeat' (first | (with_reducible first | refine W ?_ | refine Wz0 ?_) | ((with_reducible first | refine Wo (fun K hK => ?_) | refine Wq ?_ | refine Wr ?_); (try simp only [go_sem, fN, seval, eT, iR, e0, e1, e7, e8]); (repeat with_reducible refine Ai ?_); (try (refine hK _ ?_; clear hK K))))
      refine then_normal ⟨l.length - (k + 1), by omega, k + 1, by omega, rfl, ?_⟩
      simp only [go_sem, fN, seval, eT, iR, e0, e1, e7, e8]
      congr 3
    · repeat' (first | (with_reducible first | refine W ?_ | refine Wz0 ?_) | ((with_reducible first | refine Wo (fun K hK => ?_) | refine Wq ?_ | refine Wr ?_); (try simp only [go_sem, fN, seval, eT, iR, e0, e1, e7, e8, hlt]); (repeat with_reducible refine Ai ?_); (try (refine hK _ ?_; clear hK K))))
      with_reducible refine Wp ?_
      simp only [go_sem, fN, seval, true_implies, false_implies, implies_true, dT, dF, nL, e0, e1, e7, e8, hlt]
      (try with_reducible refine iC ?_)
      repeat' (first | (with_reducible first | refine W ?_ | refine Wz0 ?_) | ((with_reducible first | refine Wo (fun K hK => ?_) | refine Wq ?_ | refine Wr ?_); (try simp only [go_sem, fN, seval, eT, iR]); (repeat with_reducible refine Ai ?_); (try (refine hK _ ?_; clear hK K))))
      simp only [go_sem, fN, seval, FinQ, AS.result, resAll, resOne, tupV]
theorem contains_a (l : List ByteArray) (x : ByteArray) : ACalls Tryd.prog 15 [aStrs l, aStr x] (aBool (isIn x l)) := by
  obtain ⟨i, h1, h2⟩ := index_a l x
  refine ok_slices_Contains_string_string.ac fun C hC => ?_
  unfold ir_slices_Contains_string_string
  repeat' (first | (with_reducible first | refine W ?_ | refine Wz0 ?_) | refine Cg _ (h1) ?_ | ((with_reducible first | refine Wo (fun K hK => ?_) | refine Wq ?_ | refine Wr ?_); (try simp only [go_sem, fN, seval, eT, iR]); (repeat with_reducible refine Ai ?_); (try (refine hK _ ?_; clear hK K))))
  simp only [go_sem, fN, seval, FinQ, AS.result, resAll, resOne, tupV]
  congr 4
  cases hi : isIn x l with
  | true => exact decide_eq_true (h2.2 hi)
  | false =>
    refine decide_eq_false fun h => ?_
    rw [h2.1 h] at hi
    cases hi
mutual
def Tm.beq : Tm → Tm → Bool
  | .mk n xs, .mk m ys => decide (n = m) && Tm.beqL xs ys
def Tm.beqL : List Tm → List Tm → Bool
  | [], [] => true
  | x :: xs, y :: ys => x.beq y && Tm.beqL xs ys
  | _, _ => false
end
def Tm.nil : Tm := .mk ⟨#[]⟩ []



set_option maxHeartbeats 1000000
theorem IWP.cut {P : Program} {C : Ctx} {mu : List Nat} {Q : AX → AS → Prop} {s : AS} {x : IR} (id : Nat) (M : AS → Prop) (h1 : IWP P C mu x (fun e s => e = .exit id ∧ M s) s) (h2 : ∀ s, M s → Q (.exit id) s) : IWP P C mu x Q s :=
  h1.mono fun e s h => by
    obtain ⟨rfl, hm⟩ := h
    exact h2 s hm

abbrev boxL (u : ByteArray) (nm : AC) (l : Int) : ABlk := .box 37 [.st (.str u), nm, .st (.int .i64 l)]
theorem boxL_high {u : ByteArray} {nm : AC} {l : Int} (h : nm.high = true) : (boxL u nm l).high = true := by
  show AC.highs [_, nm, _] = true
  simp only [AC.highs, AC.high, h, Bool.and_self]
theorem ltake_S {u : ByteArray} {nm : AC} {l : Int} {b : Nat} {S : AStore} (hb : 1000 ≤ b) (hnm : nm.high = true) (sb : S b = some (boxL u nm l)) (h0 : 1 ≤ l) (h1 : l ≤ 200) : ACallsS Tryd.prog 17 [.one (.ptr b 1 0 0)] S (.tup []) (updE S b (some (boxL u nm (l - 1)))) := by
  refine ok_metaprune_lambda_reader_take.acS fun hS C hC => ?_
  unfold ir_metaprune_lambda_reader_take
  repeat' (first | (with_reducible first | refine W ?_ | refine Wz0 ?_) | ((with_reducible first | refine Wx rfl (fun K hK => ?_) | refine Wp ?_ | refine Wq ?_ | refine Wr ?_); (try simp only [go_sem, fN, seval, eT, iR, AS.startS, sb, dT, dF, nL]); (repeat with_reducible refine Ai ?_); (try (refine hK _ ?_; clear hK K)); (try with_reducible refine iC ?_)))
  refine ⟨fun h => by omega, fun _ => ?_⟩
  repeat' (first | (with_reducible first | refine W ?_ | refine Wz0 ?_) | ((with_reducible first | refine Wx rfl (fun K hK => ?_) | refine Wp ?_ | refine Wq ?_ | refine Wr ?_); (try simp only [go_sem, fN, seval, eT, iR, dT, dF, nL]); (repeat with_reducible refine Ai ?_); (try (refine hK _ ?_; clear hK K)); (try with_reducible refine iC ?_)))
  exact finS_one (.tup []) hS hb (boxL_high hnm) trivial rfl rfl (by simp [updE]) fun i h1 h2 => by simp [updE, h2]
theorem ltake_P {u : ByteArray} {nm : AC} {l : Int} {b : Nat} {S : AStore} (hb : 1000 ≤ b) (hnm : nm.high = true) (sb : S b = some (boxL u nm l)) (h0 : l ≤ 0) (h1 : -200 ≤ l) : APan Tryd.prog 17 [.one (.ptr b 1 0 0)] S (lfault 3) (updE S b (some (.dead 1 0))) := by
  refine ok_metaprune_lambda_reader_take.acP fun hS C hC => ?_
  unfold ir_metaprune_lambda_reader_take
  repeat' (first | (with_reducible first | refine W ?_ | refine Wz0 ?_) | ((with_reducible first | refine Wx rfl (fun K hK => ?_) | refine Wp ?_ | refine Wq ?_ | refine Wr ?_); (try simp only [go_sem, fN, seval, eT, iR, AS.startS, sb, dT, dF, nL]); (repeat with_reducible refine Ai ?_); (try (refine hK _ ?_; clear hK K)); (try with_reducible refine iC ?_)))
  refine ⟨fun _ => ?_, fun h => by omega⟩
  refine IWP.opsPan 1 _ rfl (by kernel_rfl) ?_
  simp only [go_sem, fN, seval, eT, iR, PanAt, List.take_succ_cons, List.take_zero]
  intro envP
  repeat' (with_reducible first | refine Wy ?_ | refine Wz ?_ | refine Wv ?_)
  exact finP_box hS hb (by simp [updE]; exact ⟨rfl, rfl⟩) fun i h1 h2 => by simp [updE, h2]
def aheadL (u : ByteArray) : Int := if u.size = 0 then 0 else byteN u 0
theorem lnext_S {u : ByteArray} {nm : AC} {l : Int} {b : Nat} {S : AStore} (hb : 1000 ≤ b) (sb : S b = some (boxL u nm l)) : ACallsS Tryd.prog 16 [.one (.ptr b 1 0 0)] S (.one (.st (.int .u8 (aheadL u)))) S := by
  refine ok_metaprune_lambda_reader_next.acS fun hS C hC => ?_
  unfold ir_metaprune_lambda_reader_next
  repeat' (first | (with_reducible first | refine W ?_ | refine Wz0 ?_) | ((with_reducible first | refine Wo (fun K hK => ?_) | refine Wp ?_ | refine Wq ?_ | refine Wr ?_); (try simp only [go_sem, fN, seval, eT, iR, AS.startS, sb, dT, dF, nL]); (repeat with_reducible refine Ai ?_); (try (refine hK _ ?_; clear hK K)); (try with_reducible refine iC ?_)))
  refine ⟨fun h => ?_, fun h => ?_⟩
  · subst h
    repeat' (first | (with_reducible first | refine W ?_ | refine Wz0 ?_) | ((with_reducible first | refine Wo (fun K hK => ?_) | refine Wp ?_ | refine Wq ?_ | refine Wr ?_); (try simp only [go_sem, fN, seval, eT, iR, dT, dF, nL]); (repeat with_reducible refine Ai ?_); (try (refine hK _ ?_; clear hK K)); (try with_reducible refine iC ?_)))
    exact finS_same (.one (.st (.int .u8 0))) hS trivial rfl rfl fun i _ => rfl
  · have hpos : 0 < u.size := Nat.pos_of_ne_zero fun h0 => h (ByteArray.size_eq_zero_iff.1 h0)
    have e : aheadL u = byteN u 0 := if_neg (by omega)
    rw [e]
    repeat' (first | (with_reducible first | refine W ?_ | refine Wz0 ?_) | ((with_reducible first | refine Wo (fun K hK => ?_) | refine Wp ?_ | refine Wq ?_ | refine Wr ?_); (try simp only [go_sem, fN, seval, eT, iR, sb, dT, dF, nL]); (repeat with_reducible refine Ai ?_); (try (refine hK _ ?_; clear hK K)); (try with_reducible refine iC ?_)))
    exact finS_same (.one (.st (.int .u8 (byteN u 0)))) hS trivial rfl rfl fun i _ => rfl
theorem lsign_S {u : ByteArray} {nm : AC} {l : Int} {b : Nat} {S : AStore} (c : Int) (hb : 1000 ≤ b) (hnm : nm.high = true) (sb : S b = some (boxL u nm l)) (h0 : 0 < u.size) (hc : byteN u 0 = c) : ACallsS Tryd.prog 19 [.one (.ptr b 1 0 0), .one (.st (.int .u8 c))] S (.tup []) (updE S b (some (boxL (u.extract 1 u.size) nm l))) := by
  refine ok_metaprune_lambda_reader_sign.acS fun hS C hC => ?_
  unfold ir_metaprune_lambda_reader_sign
  have hne : ¬ u = ⟨#[]⟩ := fun h => by rw [h] at h0; exact absurd h0 (by decide)
  repeat' (first | (with_reducible first | refine W ?_ | refine Wz0 ?_) | ((with_reducible first | refine Wx rfl (fun K hK => ?_) | refine Wp ?_ | refine Wq ?_ | refine Wr ?_); (try simp only [go_sem, fN, seval, eT, iR, AS.startS, sb, hne, hc, dT, dF, nL]); (repeat with_reducible refine Ai ?_); (try (refine hK _ ?_; clear hK K)); (try with_reducible refine iC ?_)))
  exact finS_one (.tup []) hS hb (boxL_high hnm) trivial rfl rfl (by simp [updE]) fun i h1 h2 => by simp [updE, h2]
theorem lsign_P1 {u : ByteArray} {nm : AC} {l : Int} {b : Nat} {S : AStore} (c : Int) (hb : 1000 ≤ b) (sb : S b = some (boxL u nm l)) (h0 : u = ⟨#[]⟩) : APan Tryd.prog 19 [.one (.ptr b 1 0 0), .one (.st (.int .u8 c))] S (lfault 13) (updE S b (some (.dead 1 0))) := by
  refine ok_metaprune_lambda_reader_sign.acP fun hS C hC => ?_
  unfold ir_metaprune_lambda_reader_sign
  repeat' (first | (with_reducible first | refine W ?_ | refine Wz0 ?_) | ((with_reducible first | refine Wx rfl (fun K hK => ?_) | refine Wp ?_ | refine Wq ?_ | refine Wr ?_); (try simp only [go_sem, fN, seval, eT, iR, AS.startS, sb, h0, dT, dF, nL]); (repeat with_reducible refine Ai ?_); (try (refine hK _ ?_; clear hK K)); (try with_reducible refine iC ?_)))
  refine IWP.opsPan 1 _ rfl (by kernel_rfl) ?_
  simp only [go_sem, fN, seval, eT, iR, PanAt, List.take_succ_cons, List.take_zero]
  intro envP
  repeat' (with_reducible first | refine Wy ?_ | refine Wz ?_ | refine Wv ?_)
  exact finP_box hS hb (by simp [updE, sb]; exact ⟨rfl, rfl⟩) fun i h1 h2 => rfl
theorem lsign_P2 {u : ByteArray} {nm : AC} {l : Int} {b : Nat} {S : AStore} (c : Int) (hb : 1000 ≤ b) (sb : S b = some (boxL u nm l)) (h0 : 0 < u.size) (hc : ¬ byteN u 0 = c) : APan Tryd.prog 19 [.one (.ptr b 1 0 0), .one (.st (.int .u8 c))] S (lfault 12) (updE S b (some (.dead 1 0))) := by
  refine ok_metaprune_lambda_reader_sign.acP fun hS C hC => ?_
  unfold ir_metaprune_lambda_reader_sign
  have hne : ¬ u = ⟨#[]⟩ := fun h => by rw [h] at h0; exact absurd h0 (by decide)
  repeat' (first | (with_reducible first | refine W ?_ | refine Wz0 ?_) | ((with_reducible first | refine Wx rfl (fun K hK => ?_) | refine Wp ?_ | refine Wq ?_ | refine Wr ?_); (try simp only [go_sem, fN, seval, eT, iR, AS.startS, sb, hne, hc, dT, dF, nL]); (repeat with_reducible refine Ai ?_); (try (refine hK _ ?_; clear hK K)); (try with_reducible refine iC ?_)))
  refine IWP.opsPan 1 _ rfl (by kernel_rfl) ?_
  simp only [go_sem, fN, seval, eT, iR, PanAt, List.take_succ_cons, List.take_zero]
  intro envP
  repeat' (with_reducible first | refine Wy ?_ | refine Wz ?_ | refine Wv ?_)
  exact finP_box hS hb (by simp [updE, sb]; exact ⟨rfl, rfl⟩) fun i h1 h2 => rfl
theorem letter_cases (c : Int) : letterI c = true ∧ ((97 ≤ c ∧ c ≤ 122 ∧ 65 ≤ c ∧ ¬ c ≤ 90 ∧ 48 ≤ c ∧ ¬ c ≤ 57) ∨ (¬ 97 ≤ c ∧ c ≤ 122 ∧ 65 ≤ c ∧ c ≤ 90 ∧ 48 ≤ c ∧ ¬ c ≤ 57) ∨ (¬ 97 ≤ c ∧ c ≤ 122 ∧ ¬ 65 ≤ c ∧ c ≤ 90 ∧ 48 ≤ c ∧ c ≤ 57)) ∨
    ¬ letterI c = true ∧ ((97 ≤ c ∧ ¬ c ≤ 122 ∧ 65 ≤ c ∧ ¬ c ≤ 90 ∧ 48 ≤ c ∧ ¬ c ≤ 57) ∨ (¬ 97 ≤ c ∧ c ≤ 122 ∧ 65 ≤ c ∧ ¬ c ≤ 90 ∧ 48 ≤ c ∧ ¬ c ≤ 57) ∨ (¬ 97 ≤ c ∧ c ≤ 122 ∧ ¬ 65 ≤ c ∧ c ≤ 90 ∧ 48 ≤ c ∧ ¬ c ≤ 57) ∨ (¬ 97 ≤ c ∧ c ≤ 122 ∧ ¬ 65 ≤ c ∧ c ≤ 90 ∧ ¬ 48 ≤ c ∧ c ≤ 57)) := by
  simp only [letterI, Bool.or_eq_true, decide_eq_true_eq]
  omega
def NameAt (b : Nat) (n : Nat) (S : AStore) (x : AS) : Prop := x.env 0 = .one (.ptr b 1 0 0) ∧ x.env 3 = aInt n ∧ x.S = S
set_option maxRecDepth 100000 in
theorem lname_Q {u : ByteArray} {nm : AC} {l : Int} {b : Nat} {S : AStore} {C : Ctx} {Q : AX → AS → Prop} (hu : u.size ≤ 100000) (sb : S b = some (boxL u nm l))
    (hok : lendA u 0 ≠ 0 → nameOk (u.extract 0 (lendA u 0)) = true → ∀ x : AS, x.env 2 = aStr (u.extract 0 (lendA u 0)) → x.S b = some (boxL (u.extract (lendA u 0) u.size) nm l) → (∀ i, 1000 ≤ i → i ≠ b → x.S i = S i) → Q .ret x)
    (hp : ∀ (e : Int) (x : AS), (lendA u 0 = 0 ∧ u = ⟨#[]⟩ ∧ e = 13) ∨ (lendA u 0 = 0 ∧ ¬ u = ⟨#[]⟩ ∧ e = 12) ∨ (lendA u 0 ≠ 0 ∧ ¬ nameOk (u.extract 0 (lendA u 0)) = true ∧ e = 1) → x.S = S → Q (.pan (lfault e)) x) : IWP Tryd.prog C [] ir_metaprune_lambda_reader_name Q (AS.startS [.one (.ptr b 1 0 0)] S) := by
  unfold ir_metaprune_lambda_reader_name
  obtain ⟨l1, l2⟩ := lendA_le (s := u) (i := 0) (Nat.zero_le _)
  repeat' (first | (with_reducible first | refine W ?_ | refine Wz0 ?_) | ((with_reducible first | refine Wx rfl (fun K hK => ?_) | refine Wp ?_ | refine Wq ?_ | refine Wr ?_); (try simp only [go_sem, fN, seval, eT, iR, AS.startS, sb, dT, dF, nL]); (repeat with_reducible refine Ai ?_); (try (refine hK _ ?_; clear hK K)); (try with_reducible refine iC ?_)))
  refine IWP.cut 0 (NameAt b (lendA u 0) S) ?_ ?_
  · refine IWP.loop (fun m x => ∃ j, j ≤ u.size ∧ m = u.size - j ∧ lendA u 0 = lendA u j ∧ NameAt b j S x) u.size ⟨0, Nat.zero_le _, rfl, rfl, rfl, rfl, rfl⟩ ?_
    rintro m ⟨env, S1⟩ ⟨j, hj, rfl, hl, v0, v3, hS1⟩
    simp only at v0 v3 hS1
    subst hS1
    by_cases hlt : (j : Int) < u.size
    · have hbt : byteN u j = byteAt u j := by
        have := byteN_tail (s := u) (i := 0) (k := j) (by omega)
        simpa [tailS] using this
      rcases letter_cases (byteN u j) with ⟨hlet, h⟩ | ⟨hlet, h⟩
      · have hgo : lendA u 0 = lendA u (j + 1) := by rw [hl]; exact lendA_on (by omega) (by rw [← hbt]; exact hlet)
        rcases h with ⟨h1, h2, h3, h4, h5, h6⟩ | ⟨h1, h2, h3, h4, h5, h6⟩ | ⟨h1, h2, h3, h4, h5, h6⟩ <;>
        · repeat' (first | (with_reducible first | refine W ?_ | refine Wz0 ?_) | ((with_reducible first | refine Wx rfl (fun K hK => ?_) | refine Wp ?_ | refine Wq ?_ | refine Wr ?_); (try simp only [go_sem, fN, seval, eT, iR, v0, v3, sb, hlt, h1, h2, h3, h4, h5, h6, dT, dF, nL]); (repeat with_reducible refine Ai ?_); (try (refine hK _ ?_; clear hK K)); (try with_reducible refine iC ?_)))
          exact ⟨u.size - (j + 1), by omega, j + 1, by omega, rfl, hgo, v0, rfl, rfl⟩
      · have hst : lendA u 0 = j := by rw [hl]; exact lendA_stop (by omega) (by rw [← hbt]; exact hlet)
        rcases h with ⟨h1, h2, h3, h4, h5, h6⟩ | ⟨h1, h2, h3, h4, h5, h6⟩ | ⟨h1, h2, h3, h4, h5, h6⟩ | ⟨h1, h2, h3, h4, h5, h6⟩ <;>
        · repeat' (first | (with_reducible first | refine W ?_ | refine Wz0 ?_) | ((with_reducible first | refine Wx rfl (fun K hK => ?_) | refine Wp ?_ | refine Wq ?_ | refine Wr ?_); (try simp only [go_sem, fN, seval, eT, iR, v0, v3, sb, hlt, h1, h2, h3, h4, h5, h6, dT, dF, nL]); (repeat with_reducible refine Ai ?_); (try (refine hK _ ?_; clear hK K)); (try with_reducible refine iC ?_)))
          exact ⟨rfl, v0, by rw [hst]; exact v3, rfl⟩
    · have hst : lendA u 0 = j := by rw [hl]; exact lendA_end (by omega)
      repeat' (first | (with_reducible first | refine W ?_ | refine Wz0 ?_) | ((with_reducible first | refine Wx rfl (fun K hK => ?_) | refine Wp ?_ | refine Wq ?_ | refine Wr ?_); (try simp only [go_sem, fN, seval, eT, iR, v0, v3, sb, hlt, dT, dF, nL]); (repeat with_reducible refine Ai ?_); (try (refine hK _ ?_; clear hK K)); (try with_reducible refine iC ?_)))
      exact ⟨rfl, v0, by rw [hst]; exact v3, rfl⟩
  · rintro ⟨env, S1⟩ ⟨v0, v3, hS1⟩
    simp only at v0 v3 hS1
    subst hS1
    generalize lendA u 0 = n at *
    by_cases hn0 : n = 0
    · have hn1 : (n : Int) = 0 := by omega
      by_cases hu0 : u = ⟨#[]⟩
      · repeat' (first | (with_reducible first | refine W ?_ | refine Wz0 ?_) | ((with_reducible first | refine Wx rfl (fun K hK => ?_) | refine Wp ?_ | refine Wq ?_ | refine Wr ?_); (try simp only [go_sem, fN, seval, eT, iR, v0, v3, sb, hn0, hn1, hu0, dT, dF, nL]); (repeat with_reducible refine Ai ?_); (try (refine hK _ ?_; clear hK K)); (try with_reducible refine iC ?_)))
        refine IWP.opsPan 1 _ rfl (by kernel_rfl) ?_
        simp only [go_sem, fN, seval, eT, iR, PanAt, List.take_succ_cons, List.take_zero]
        intro envP
        repeat' (with_reducible first | refine Wy ?_ | refine Wz ?_ | refine Wv ?_)
        exact hp 13 _ (.inl ⟨hn0, hu0, rfl⟩) rfl
      · repeat' (first | (with_reducible first | refine W ?_ | refine Wz0 ?_) | ((with_reducible first | refine Wx rfl (fun K hK => ?_) | refine Wp ?_ | refine Wq ?_ | refine Wr ?_); (try simp only [go_sem, fN, seval, eT, iR, v0, v3, sb, hn0, hn1, hu0, dT, dF, nL]); (repeat with_reducible refine Ai ?_); (try (refine hK _ ?_; clear hK K)); (try with_reducible refine iC ?_)))
        refine IWP.opsPan 1 _ rfl (by kernel_rfl) ?_
        simp only [go_sem, fN, seval, eT, iR, PanAt, List.take_succ_cons, List.take_zero]
        intro envP
        repeat' (with_reducible first | refine Wy ?_ | refine Wz ?_ | refine Wv ?_)
        exact hp 12 _ (.inr (.inl ⟨hn0, hu0, rfl⟩)) rfl
    · have hn1 : ¬ (n : Int) = 0 := by omega
      by_cases hnm : nameOk (u.extract 0 n) = true
      · repeat' (first | (with_reducible first | refine W ?_ | refine Wz0 ?_) | refine Cg _ (name_a (u.extract 0 n)) ?_ | ((with_reducible first | refine Wx rfl (fun K hK => ?_) | refine Wp ?_ | refine Wq ?_ | refine Wr ?_); (try simp only [go_sem, fN, seval, eT, iR, v0, v3, sb, hn0, hn1, hnm, dT, dF, nL]); (repeat with_reducible refine Ai ?_); (try (refine hK _ ?_; clear hK K)); (try with_reducible refine iC ?_)))
        exact hok hn0 hnm _ rfl (by simp [updE]) fun i h1 h2 => by simp [updE, h2]
      · repeat' (first | (with_reducible first | refine W ?_ | refine Wz0 ?_) | refine Cg _ (name_a (u.extract 0 n)) ?_ | ((with_reducible first | refine Wx rfl (fun K hK => ?_) | refine Wp ?_ | refine Wq ?_ | refine Wr ?_); (try simp only [go_sem, fN, seval, eT, iR, v0, v3, sb, hn0, hn1, hnm, dT, dF, nL]); (repeat with_reducible refine Ai ?_); (try (refine hK _ ?_; clear hK K)); (try with_reducible refine iC ?_)))
        refine IWP.opsPan 1 _ rfl (by kernel_rfl) ?_
        simp only [go_sem, fN, seval, eT, iR, PanAt, List.take_succ_cons, List.take_zero]
        intro envP
        repeat' (with_reducible first | refine Wy ?_ | refine Wz ?_ | refine Wv ?_)
        exact hp 1 _ (.inr (.inr ⟨hn0, hnm, rfl⟩)) rfl
theorem lname_S {u : ByteArray} {nm : AC} {l : Int} {b : Nat} {S : AStore} (hu : u.size ≤ 100000) (hb : 1000 ≤ b) (hnm : nm.high = true) (sb : S b = some (boxL u nm l)) (h0 : lendA u 0 ≠ 0) (hok : nameOk (u.extract 0 (lendA u 0)) = true) : ACallsS Tryd.prog 18 [.one (.ptr b 1 0 0)] S (aStr (u.extract 0 (lendA u 0))) (updE S b (some (boxL (u.extract (lendA u 0) u.size) nm l))) :=
  ok_metaprune_lambda_reader_name.acS fun hS C hC => lname_Q hu sb (fun _ _ x h1 h2 h3 => finS_one (aStr (u.extract 0 (lendA u 0))) hS hb (boxL_high hnm) trivial (by simp only [resAll, resOne, h1]; rfl) rfl h2 h3) fun e x h _ => by
    rcases h with ⟨h, _⟩ | ⟨h, _⟩ | ⟨_, h, _⟩
    · exact absurd h h0
    · exact absurd h h0
    · exact absurd hok h
theorem lname_P {u : ByteArray} {nm : AC} {l : Int} {b : Nat} {S : AStore} (e : Int) (hu : u.size ≤ 100000) (hb : 1000 ≤ b) (sb : S b = some (boxL u nm l)) (he : (lendA u 0 = 0 ∧ u = ⟨#[]⟩ ∧ e = 13) ∨ (lendA u 0 = 0 ∧ ¬ u = ⟨#[]⟩ ∧ e = 12) ∨ (lendA u 0 ≠ 0 ∧ ¬ nameOk (u.extract 0 (lendA u 0)) = true ∧ e = 1)) : APan Tryd.prog 18 [.one (.ptr b 1 0 0)] S (lfault e) (updE S b (some (.dead 1 0))) :=
  ok_metaprune_lambda_reader_name.acP fun hS C hC => lname_Q hu sb (fun h1 h2 => by
    rcases he with ⟨h, _⟩ | ⟨h, _⟩ | ⟨_, h, _⟩
    · exact absurd h h1
    · exact absurd h h1
    · exact absurd h2 h) fun e' x h hx => by
    have hee : e' = e := by
      rcases he with ⟨a1, a2, a3⟩ | ⟨a1, a2, a3⟩ | ⟨a1, a2, a3⟩ <;> rcases h with ⟨b1, b2, b3⟩ | ⟨b1, b2, b3⟩ | ⟨b1, b2, b3⟩ <;> first | (rw [a3, b3]; done) | exact absurd b1 a1 | exact absurd a1 b1 | exact absurd a2 b2 | exact absurd b2 a2
    rw [hee]
    exact finP_box hS hb (by rw [hx]; exact sb) fun i _ _ => by rw [hx]

def AIter (P : Program) (f : FuncId) (caps : List AV) (Need : AStore → Prop) {α : Type} (encs : α → List AV) (all : List α) : Prop :=
  ∀ (y : Nat) (Inv : List α → AStore → Prop) (Jx : AStore → Prop) (T : AStore), 1000 ≤ y → (∀ pre T, Inv pre T → Need T) →
    (∀ pre v, (pre ++ [v]) <+: all → ∀ T, Inv pre T → AYields P (.one (.yld y)) (encs v) T fun r T' => (r = .one (.st (.bool true)) ∧ Inv (pre ++ [v]) T') ∨ (r = .one (.st (.bool false)) ∧ Jx T')) →
    Inv [] T → ACallsR P f (.one (.yld y) :: caps) T fun _ T' => Inv all T' ∨ Jx T'
def setPs (env : Nat → AV) : List Nat → List AV → Nat → AV
  | p :: ps, v :: vs => setPs (updE env p v) ps vs
  | _, _ => env
section
variable {σ : Sto} {S : AStore} {ι : AHnd}
theorem setPs_rep {n : Nat} : ∀ {ps : List Nat} {vs : List Value} {xs : List AV} {tmps : Array Value} {env : Nat → AV}, All2 (VRep σ S ι) vs xs → n ≤ tmps.size → (∀ i, i < n → VRep σ S ι (tmps.getD i undef) (env i)) →
    n ≤ ((ps.zip vs).foldl (fun t (p, v) => t.setIfInBounds p v) tmps).size ∧ ∀ i, i < n → VRep σ S ι (((ps.zip vs).foldl (fun t (p, v) => t.setIfInBounds p v) tmps).getD i undef) (setPs env ps xs i)
  | [], vs, xs, tmps, env, h, hs, he => ⟨hs, he⟩
  | p :: ps, [], [], tmps, env, h, hs, he => ⟨hs, he⟩
  | p :: ps, v :: vs, x :: xs, tmps, env, h, hs, he => by
    cases h with
    | cons h1 h2 =>
      refine setPs_rep (ps := ps) h2 (by simpa using hs) fun i hi => ?_
      unfold updE
      by_cases e : i = p
      · subst e
        rw [if_pos rfl, Array.getD_eq_getD_getElem?, Array.getElem?_setIfInBounds_self_of_lt (by omega)]
        exact h1
      · rw [if_neg e, Array.getD_eq_getD_getElem?, Array.getElem?_setIfInBounds_ne (fun h => e h.symm), ← Array.getD_eq_getD_getElem?]
        exact he i hi
end
section
variable {P : Program} {C : Ctx} {mu : List Nat} {Q : AX → AS → Prop} {s : AS} {x y : IR} {σ : Sto} {ι : AHnd} {a : Act} {w : World}
theorem Refs.upped (R : Refs C σ ι s a w) : ∃ ι1 : AHnd, (∀ i, ι1 (up1 i) = ι i) ∧ Owned σ (upS s.S) ι1 w ∧ (∀ v c, VRep σ s.S ι v c → VRep σ (upS s.S) ι1 v (c.ren up1)) ∧
    ∀ {Post : AV → AStore → Prop} {e : Ending} {w' : World}, EndS σ (upS s.S) ι1 w Post e w' → ∃ v r S' σ' ι2, e = .returned v ∧ Post r S' ∧ Clean S' ∧ Upd s.S ι (dnS S') ι2 ∧ Refs C σ' ι2 ⟨s.env, dnS S'⟩ a w' := by
  have hup : ∀ i, dn1 (up1 i) = i := dn_up
  have hS : ∀ i b, s.S i = some b → upS s.S (up1 i) = some (b.ren up1) := fun i b hb => upS_some hb
  obtain ⟨ι1, hι1⟩ : ∃ ι1 : AHnd, ∀ i, ι1 i = ι (dn1 i) := ⟨fun i => ι (dn1 i), fun _ => rfl⟩
  have hι : ∀ i b, s.S i = some b → ι1 (up1 i) = ι i := fun i b _ => by rw [hι1, hup]
  have hown : Owned σ (upS s.S) ι1 w := by
    refine ⟨fun id b hb => ?_, fun id id' b b' g h1 h2 g1 g2 => ?_⟩
    · obtain ⟨hle, b', h1, rfl⟩ := upS_inv hb
      have := BRep.ren (S2 := upS s.S) (ι2 := ι1) (ρ := up1) hS hι (R.blk _ _ h1)
      rw [hι1]
      exact this
    · obtain ⟨l1, c1, k1, _⟩ := upS_inv h1
      obtain ⟨l2, c2, k2, _⟩ := upS_inv h2
      rw [hι1] at g1 g2
      have := R.inj _ _ _ _ g k1 k2 g1 g2
      rw [← up_dn l1, ← up_dn l2, this]
  refine ⟨ι1, fun i => by rw [hι1, hup], hown, fun v c hv => VRep.ren (S2 := upS s.S) (ι2 := ι1) (ρ := up1) hS hι hv, fun {Post e w'} he => ?_⟩
  obtain ⟨v, r, S', σ', ι', rfl, hP, hclean, hupd, hown', hv, hf', hkeep, hold, hos, hsz, hsame, hbase⟩ := he
  have hSd : ∀ i b, S' i = some b → dnS S' (dn1 i) = some (b.ren dn1) := fun i b hb => dnS_some (hclean i b hb).1 hb
  obtain ⟨ι2, hι2⟩ : ∃ ι2 : AHnd, ∀ i, ι2 i = ι' (up1 i) := ⟨fun i => ι' (up1 i), fun _ => rfl⟩
  have hιd : ∀ i b, S' i = some b → ι2 (dn1 i) = ι' i := fun i b hb => by
    rw [hι2, up_dn (hclean i b hb).1]
  have hu : Upd s.S ι (dnS S') ι2 := fun id b hb => by
    obtain ⟨b', h1, h2, h3⟩ := hupd _ _ (hS id b hb)
    have h4 := hSd _ _ h1
    rw [hup] at h4
    refine ⟨_, h4, by rw [ren_len] at h2 ⊢; exact h2, fun hl => ?_⟩
    rw [ren_len] at hl
    obtain ⟨q1, q2⟩ := h3 (by rw [ren_len]; exact hl)
    refine ⟨by rw [ren_wid] at q1 ⊢; exact q1, ?_⟩
    rw [hι2, q2, hι1, hup]
  have hnot : ∀ g, g < C.N → ¬ C.G g → notOf (upS s.S) ι1 g := fun g h1 h2 id b hb hg => by
    obtain ⟨_, b', k1, _⟩ := upS_inv hb
    rw [hι1] at hg
    rcases R.base _ _ g k1 hg with h | h
    · omega
    · exact h2 h
  refine ⟨v, r, S', σ', ι2, rfl, hP, hclean, hu, ?_⟩
  refine ⟨R.size, fun i hi => (R.env i hi).mono hkeep hu, R.nod.mono (fun D h => (hsame D (Array.getElem?_eq_some_iff.1 h).1 (notOf_mark hown.1 h)).trans h), hf', fun id b hb => ?_, fun id id' b b' g h1 h2 g1 g2 => ?_, fun id b g hb hg => ?_, fun p x hx => hkeep _ _ (R.ext p x hx), fun p h1 h2 => ?_, ⟨hos.1.trans R.os.1, hos.2.1.trans R.os.2.1, hos.2.2.trans R.os.2.2⟩, ⟨Nat.le_trans R.grown.1 hsz, Nat.le_trans R.grown.2 hsz⟩, fun g h1 h2 => ?_, R.upd.trans hu⟩
  · obtain ⟨b', h1, rfl⟩ := dnS_inv hb
    have := BRep.ren (S2 := dnS S') (ι2 := ι2) (ρ := dn1) hSd hιd (hown'.1 _ _ h1)
    rw [hι2]
    exact this
  · obtain ⟨c1, k1, _⟩ := dnS_inv h1
    obtain ⟨c2, k2, _⟩ := dnS_inv h2
    rw [hι2] at g1 g2
    have := congrArg dn1 (hown'.2 _ _ _ _ g k1 k2 g1 g2)
    rw [hup, hup] at this
    exact this
  · obtain ⟨b', h1, _⟩ := dnS_inv hb
    rw [hι2] at hg
    rcases hbase _ _ g h1 hg with h2 | h2
    · exact .inl (by have := R.grown.1; omega)
    · by_cases hN : g < C.N
      · by_cases hG : C.G g
        · exact .inr hG
        · exact absurd (hnot g hN hG) h2
      · exact .inl (by omega)
  · exact (hold p (by have := R.grown.1; omega) (hnot _ h1 h2)).trans (R.old p h1 h2)
  · exact (hsame g (by have := R.grown.1; omega) (hnot g h1 h2)).trans (R.same g h1 h2)
theorem Refs.setLoop (R : Refs C σ ι s a w) {id l : Nat} {env : List AV} {r : Loop} (r' : Loop) (hS : s.S id = some (.loop env r)) (hl : (ι id).g = some l) (hr : r'.tmps = r.tmps) : w.heap[l]? = some (.loop r) ∧ ∃ ι', Refs C σ ι' (s.set id (.loop env r')) a (w.putObj l (.loop r')) ∧ Upd s.S ι (s.set id (.loop env r')).S ι' := by
  have hb := R.blk id _ hS
  cases hb with
  | loop h1 h2 h3 h4 h5 =>
    rw [hl] at h1
    cases h1
    exact ⟨h2, R.setBlk (o' := .loop r') hS hl h2 h5 rfl rfl fun S' ι' hu => .loop hl (set_heap h2).1 (by rw [hr]; exact h3) (fun j a ha => by rw [hr]; exact (h4 j a ha).mono (fun _ _ h => h) hu) h5⟩
def RoundQ (C : Ctx) (y : Nat) (b : ABlk) (N : AStore → Prop) (Jx : AX → AStore → Prop) (e : AX) (s : AS) : Prop := ∃ s2 U, Ghost C s s2 ∧ s2.S = updE U y (some b) ∧ Clean s2.S ∧ U y = none ∧ match e with
  | .normal => N U
  | .ret => Jx .ret U
  | .exit i => Jx (.exit i) U
  | .pan _ => False
theorem finish_round {C : Ctx} {σ0 : Sto} {T : AStore} {ι0 : AHnd} {w0 : World} (hC : C.N = w0.heap.size) (hw : C.w0 = w0) (hσ : C.σ0 = σ0) (hG : ∀ g, C.G g ↔ ¬ notOf T ι0 g) (hS0 : C.S0 = T) (hι0 : C.ι0 = ι0) (R : Refs C σ ι s a w) (hc : Clean s.S) {Post : AV → AStore → Prop} {b : Bool} (hP : Post (.one (.st (.bool b))) s.S) : EndS σ0 T ι0 w0 Post (.returned (.bool b)) w := by
  have hupd := R.upd
  rw [hS0, hι0] at hupd
  subst hσ hw
  exact ⟨.bool b, _, s.S, σ, ι, rfl, hP, hc, hupd, ⟨R.blk, R.inj⟩, .one (.st .bool), R.fit, R.ext, fun p h1 h2 => R.old p (by rw [hC]; exact h1) (fun h => (hG _).1 h h2), R.os, R.grown.2, fun g h1 h2 => R.same g (by rw [hC]; exact h1) (fun h => (hG _).1 h h2), fun id b g h1 h2 => (R.base id b g h1 h2).imp (fun h => by rw [← hC]; exact h) fun h => (hG _).1 h⟩
theorem updE_over {S : AStore} {i : Nat} {b c : Option ABlk} : updE (updE S i b) i c = updE S i c := by
  funext j
  unfold updE
  split <;> rfl
inductive Jump : Code → AX → Prop
  | ret : Jump .ret .ret
  | exit (i : Nat) : Jump (.exit i) (.exit i)
theorem round_at {fn : FuncId} {ps : Array Tmp} {ca cb : Code} {D : Nat} {n : Nat} {env : List AV} {tmps : Array Value} (hx : trCode P n mu ca = some x) (hy : trCode P n mu cb = some y) (hn : env.length = n) {yb : Nat} (hyb : 1000 ≤ yb) {rec : LoopState → Option Code → Loop} (hrec : rec = fun st pe => { state := st, pending := pe, fn, tmps, params := ps, assign := ca, body := cb, defers := D }) {vs : List AV} (hps : vs.length = ps.size)
    {U : AStore} (hU : U yb = none) {N : AStore → Prop} {Jx : AX → AStore → Prop}
    (h : Clean (updE U yb (some (.loop env (rec .ready none)))) → ∀ C' : Ctx, C'.n = n → IWP P C' mu x (AX.then (fun s1 => s1.S yb = some (.loop env (rec .ready none)) ∧ IWP P C' mu y (RoundQ C' yb (.loop env (rec .busy none)) N Jx) (s1.set yb (.loop env (rec .busy none)))) fun _ _ => False) ⟨setPs (fun i => (env[i]?).getD .any) ps.toList vs, updE U yb (some (.loop env (rec .ready none)))⟩) :
    AYields P (.one (.yld yb)) vs (updE U yb (some (.loop env (rec .ready none)))) fun r T' => (r = .one (.st (.bool true)) ∧ ∃ U', T' = updE U' yb (some (.loop env (rec .ready none))) ∧ U' yb = none ∧ N U') ∨
      (r = .one (.st (.bool false)) ∧ ∃ U' c e, T' = updE U' yb (some (.loop env (rec .done (some c)))) ∧ U' yb = none ∧ Jump c e ∧ Jx e U') := by
  intro hclean σ w vy xs ι hglob hfit hown hvy hxs
  obtain ⟨T, hT⟩ : ∃ T, updE U yb (some (.loop env (rec .ready none))) = T := ⟨_, rfl⟩
  have hTy : T yb = some (.loop env (rec .ready none)) := by rw [← hT]; exact updE_same _ _ _
  rw [hT] at hclean hown hvy hxs h ⊢
  have hhigh := (hclean _ _ hTy).2
  have hb := hown.1 _ _ hTy
  obtain ⟨l, hl, rfl⟩ : ∃ l, (ι yb).g = some l ∧ vy = .func (.yield l) #[] #[] := by
    cases hvy with
    | one hv =>
      cases hv with
      | yld k1 k2 k3 k4 =>
        rw [hTy] at k1
        cases k1
        exact k4 rfl
  have hlen := hxs.len
  cases hb with
  | loop k1 k2 k3 k4 k5 =>
  rw [hl] at k1
  cases k1
  have htm : (rec .ready none).tmps = tmps := by rw [hrec]
  refine ⟨l, rfl, fun ro => ⟨fn, _, ca, cb, by
    have := run_yield (P := P) (args := xs.toArray) k2 (by rw [hrec]; simp; omega)
    rw [hrec] at this
    exact this, ?_⟩⟩
  let C' : Ctx := ⟨n, w.heap.size, fun g => ¬ notOf T ι g, σ, w, T, ι, hclean, hglob, [], some l, false⟩
  have hset := setPs_rep (σ := σ) (S := T) (ι := ι) (n := n) (ps := ps.toList) (env := fun i => (env[i]?).getD .any) (tmps := tmps) hxs (by rw [htm] at k3; omega) fun i hi => by
    have hi' : i < env.length := by omega
    have := k4 i _ (List.getElem?_eq_getElem hi')
    rw [htm] at this
    simpa [hi'] using this
  have hfold : (ps.zip xs.toArray).foldl (fun t (p, v) => t.setIfInBounds p v) tmps = (ps.toList.zip xs).foldl (fun t (p, v) => t.setIfInBounds p v) tmps := by
    rw [← Array.foldl_toList, Array.toList_zip]
  have R0 : Refs C' σ ι ⟨setPs (fun i => (env[i]?).getD .any) ps.toList vs, T⟩ { tmps := (ps.zip xs.toArray).foldl (fun t (p, v) => t.setIfInBounds p v) tmps, defers := [] } w := by
    refine ⟨?_, fun i hi => ?_, marks_nil, hfit, hown.1, hown.2, fun id b g h hg => .inr (fun hno => hno id b h hg), fun _ _ h => h, fun _ _ _ => rfl, ⟨rfl, rfl, rfl⟩, ⟨Nat.le_refl _, Nat.le_refl _⟩, fun _ _ _ => rfl, Upd.refl _ _⟩
    · dsimp only
      rw [hfold]
      exact hset.1
    · dsimp only
      rw [hfold]
      exact hset.2 i hi
  refine roundIn_of_wpIn (F := fen ro) (n := 0) trivial (wpIn_mono (h hclean C' rfl ca hx _ w ⟨σ, ι, R0⟩) fun e a1 w1 he => ?_)
  have same : ∀ {σ1 : Sto} {ι1 : AHnd} {s1 : AS} {a1 : Act} {w1 : World} {b : ABlk}, Refs C' σ1 ι1 s1 a1 w1 → s1.S yb = some b → b.len = 1 → (ι1 yb).g = some l := fun R1 hs hl1 => by
    obtain ⟨b', h1, h2, h3⟩ := R1.upd yb _ hTy
    rw [hs] at h1
    cases h1
    rw [(h3 hl1).2]
    exact hl
  cases e with
  | normal =>
    obtain ⟨s1, ⟨h1, h2⟩, σ1, ι1, R1⟩ := he
    obtain ⟨q1, ι2, R2, _⟩ := R1.setLoop (rec .busy none) h1 (same R1 h1 rfl) (by rw [hrec])
    refine ⟨_, by
      have := run_beginRound (P := P) q1 (by rw [hrec])
      rw [hrec] at this
      exact this, ?_⟩
    have e1 : (w1.putObj l (.loop (rec .busy none))) = w1.putObj l (.loop { state := .busy, pending := none, fn, tmps, params := ps, assign := ca, body := cb, defers := D }) := by rw [hrec]
    rw [← e1]
    refine wpIn_mono (h2 cb hy _ _ ⟨σ1, ι2, R2⟩) fun e3 a3 w3 he3 => ?_
    have fin : ∀ (jump : Option Code) (s3 s4 : AS) (U2 : AStore), Ghost C' s3 s4 → s4.S = updE U2 yb (some (.loop env (rec .busy none))) → Clean s4.S → Holds C' s3 a3 w3 →
        ∃ σ5 ι5 s5, (Instr.endRound l jump).run P w3 = .ok (.bool jump.isNone) (w3.putObj l (.loop (rec (if jump.isNone then .ready else .done) jump))) ∧ s5.S = updE U2 yb (some (.loop env (rec (if jump.isNone then .ready else .done) jump))) ∧ Clean s5.S ∧ Refs C' σ5 ι5 s5 a3 (w3.putObj l (.loop (rec (if jump.isNone then .ready else .done) jump))) := fun jump s3 s4 U2 hg hS hc hH => by
      obtain ⟨σ4, ι4, R4⟩ := hg _ _ hH
      have h4 : s4.S yb = some (.loop env (rec .busy none)) := by rw [hS]; exact updE_same _ _ _
      obtain ⟨q2, ι5, R5, _⟩ := R4.setLoop (rec (if jump.isNone then .ready else .done) jump) h4 (same R4 h4 rfl) (by rw [hrec])
      refine ⟨σ4, ι5, _, ?_, ?_, ?_, R5⟩
      · have := run_endRound (P := P) jump q2
        rw [hrec] at this ⊢
        exact this
      · show updE s4.S yb _ = _
        rw [hS, updE_over]
      · exact clean_upd hc hyb hhigh
    cases e3 with
    | normal =>
      obtain ⟨s3, ⟨s4, U2, g1, g2, g3, g4, g5⟩, hH⟩ := he3
      obtain ⟨σ5, ι5, s5, f1, f2, f3, R5⟩ := fin none s3 s4 U2 g1 g2 g3 hH
      exact ⟨_, _, f1, finish_round (C := C') rfl rfl rfl (fun g => Iff.rfl) rfl rfl R5 f3 (.inl ⟨rfl, U2, f2, g4, g5⟩)⟩
    | ret =>
      obtain ⟨s3, ⟨s4, U2, g1, g2, g3, g4, g5⟩, hH⟩ := he3
      obtain ⟨σ5, ι5, s5, f1, f2, f3, R5⟩ := fin (some .ret) s3 s4 U2 g1 g2 g3 hH
      exact ⟨_, _, f1, finish_round (C := C') rfl rfl rfl (fun g => Iff.rfl) rfl rfl R5 f3 (.inr ⟨rfl, U2, _, _, f2, g4, .ret, g5⟩)⟩
    | exit i =>
      obtain ⟨s3, ⟨s4, U2, g1, g2, g3, g4, g5⟩, hH⟩ := he3
      obtain ⟨σ5, ι5, s5, f1, f2, f3, R5⟩ := fin (some (.exit i)) s3 s4 U2 g1 g2 g3 hH
      exact ⟨_, _, f1, finish_round (C := C') rfl rfl rfl (fun g => Iff.rfl) rfl rfl R5 f3 (.inr ⟨rfl, U2, _, _, f2, g4, .exit i, g5⟩)⟩
    | panic ch => obtain ⟨s3, v, ⟨⟨s4, U2, g1, g2, g3, g4, g5⟩, _⟩, _⟩ := he3; exact g5.elim
    | _ => exact he3.elim
  | panic ch => obtain ⟨s1, v, h1, h2⟩ := he; exact h1.1.elim
  | ret => obtain ⟨s1, h1, h2⟩ := he; exact h1.elim
  | exit i => obtain ⟨s1, h1, h2⟩ := he; exact h1.elim
  | _ => exact he.elim
def envOf (n : Nat) (env : Nat → AV) : List AV := (List.range n).map env
theorem envOf_len {n : Nat} {env : Nat → AV} : (envOf n env).length = n := by simp [envOf]
theorem envOf_at {n i : Nat} {env : Nat → AV} {a : AV} (h : (envOf n env)[i]? = some a) : i < n ∧ a = env i := by
  unfold envOf at h
  rw [List.getElem?_map, Option.map_eq_some_iff] at h
  obtain ⟨j, h1, h2⟩ := h
  obtain ⟨h3, h4⟩ := List.getElem?_eq_some_iff.1 h1
  simp at h3 h4
  subst h4
  exact ⟨h3, h2.symm⟩
theorem trCode_rangeF {n : Nat} {c : Code} {g : Opd} {ps : List Nat} (h : trCode P n mu c = some (.rangeF g ps x y)) : ∃ g' ps' ca cb, c = .rangeFunc g' ps' ca cb ∧ trOpd n g' = some g ∧ ps'.toList = ps ∧ trCode P n mu ca = some x ∧ trCode P n mu cb = some y := by
  cases c <;> simp only [trCode] at h
  case rangeFunc g' ps' ca cb =>
    split at h
    · rename_i e1 e2 e3
      split at h
      · cases h
        exact ⟨_, _, _, _, rfl, e1, rfl, e2, e3⟩
      · cases h
    · cases h
  all_goals (exfalso; revert h; (repeat' split) <;> simp)
theorem dnS_set {U : AStore} {id : Nat} {b c : Option ABlk} : updE (dnS (updE U (up1 id) b)) id c = updE (dnS U) id c := by
  funext j
  unfold updE
  by_cases e : j = id
  · rw [if_pos e, if_pos e]
  · rw [if_neg e, if_neg e]
    show (if j + 1000 = up1 id then b else U (j + 1000)).map (ABlk.ren dn1) = (U (j + 1000)).map (ABlk.ren dn1)
    rw [if_neg (show ¬ j + 1000 = up1 id by unfold up1; omega)]
theorem clean_off {U : AStore} {i : Nat} {b : ABlk} (h : Clean (updE U i (some b))) (hU : U i = none) : Clean U := fun j c hc => h j c (by
  rw [updE_ne _ (fun e => by rw [e, hU] at hc; cases hc)]
  exact hc)
def upEnv (n : Nat) (env : Nat → AV) : Nat → AV := fun i => if i < n then (env i).ren up1 else .any
theorem upEnv_eq {n : Nat} {env : Nat → AV} : (fun i => ((AV.rens up1 (envOf n env))[i]?).getD .any) = upEnv n env := by
  funext i
  unfold upEnv envOf
  rw [AV.rens_eq, List.map_map, List.getElem?_map]
  by_cases h : i < n
  · rw [if_pos h, List.getElem?_range h]
    rfl
  · rw [if_neg h, List.getElem?_eq_none (by simp; omega)]
    rfl
theorem IWP.rangeF {g : Opd} {ps : List Nat} (htop : C.Top) (id : Nat) (hid : id < 1000) (hfree : s.S id = none) {f : Nat} {caps : List AC} (hg : s.ev g = .one (.fn f caps)) (hpl : plainF P f = true) {α : Type} {encs : α → List AV} {all : List α} {Need : AStore → Prop} (hit : AIter P f (AV.rens up1 (caps.map .one)) Need encs all)
    (hlen : ∀ v, (encs v).length = ps.length) (Inv : List α → AStore → Prop) (Jx : AX → AStore → Prop) (h0 : Inv [] (upS s.S)) (hneed : ∀ pre U b, Inv pre U → U (up1 id) = none → Need (updE U (up1 id) (some b)))
    (hbody : ∀ (C' : Ctx) (b0 b1 : ABlk) (pre : List α) (v : α) (U : AStore), C'.n = C.n → (pre ++ [v]) <+: all → Inv pre U → U (up1 id) = none → Clean U → b1.high = true →
      IWP P C' mu x (AX.then (fun s1 => s1.S (up1 id) = some b0 ∧ IWP P C' mu y (RoundQ C' (up1 id) b1 (Inv (pre ++ [v])) Jx) (s1.set (up1 id) b1)) fun _ _ => False) ⟨setPs (upEnv C.n s.env) ps (encs v), updE U (up1 id) (some b0)⟩)
    (hdone : ∀ U, Inv all U → Q .normal ⟨s.env, updE (dnS U) id (some (.dead 1 0))⟩) (hjump : ∀ e U, Jx e U → Q e ⟨s.env, updE (dnS U) id (some (.dead 1 0))⟩) : IWP P C mu (.rangeF g ps x y) Q s := fun c hc a w hH => by
  obtain ⟨g', ps', ca, cb, rfl, hg', rfl, hx, hy⟩ := trCode_rangeF hc
  obtain ⟨σ, ι, R⟩ := hH
  have rg := R.ev hg'
  rw [hg] at rg
  replace rg := vrep_one rg
  generalize hev : a.eval g' = fv at rg
  cases rg with
  | @fn _ vc _ cc g1 g2 g3 =>
  refine wpIn_rangeFunc fun fn hfn => ?_
  obtain ⟨rec, hrec⟩ : ∃ rec : LoopState → Option Code → Loop, rec = fun st pe => { state := st, pending := pe, fn, tmps := a.tmps, params := ps', assign := ca, body := cb, defers := w.heap.size } := ⟨_, rfl⟩
  obtain ⟨w1, hw1⟩ : ∃ w1, (w.alloc (.deferred (some []))).alloc (.loop (rec .ready none)) = w1 := ⟨_, rfl⟩
  have hsz : (w.alloc (.deferred (some []))).heap.size = w.heap.size + 1 := World.size_alloc _ _
  have R1 : Refs C σ ι s { a with defers := mark w.heap.size :: a.defers } (w.alloc (.deferred (some []))) := by
    have R' := R.more (w' := w.alloc (.deferred (some []))) (Ext.refl _ _) (R.fit.alloc _) (More.alloc _ _)
    refine { R' with nod := ?_ }
    obtain ⟨l, h1, h2, h3, _⟩ := R.nod
    refine ⟨w.heap.size :: l, by show _ :: a.defers = _; rw [h1]; rfl, List.nodup_cons.2 ⟨fun hm => ?_, h2⟩, fun D hD => ?_, fun hm => by rw [htop.2] at hm; cases hm⟩
    · have := (Array.getElem?_eq_some_iff.1 (h3 _ hm).2).1
      omega
    · rcases List.mem_cons.1 hD with rfl | hD
      · exact ⟨R.grown.1, World.alloc_heap_new w _⟩
      · exact ⟨(h3 D hD).1, (Below.heap_alloc _ _ _ (Array.getElem?_eq_some_iff.1 (h3 D hD).2).1).trans (h3 D hD).2⟩
  have hsize := R.size
  obtain ⟨hu2, R2⟩ := R1.fresh (w' := w1) hfree (.loop (envOf C.n s.env) (rec .ready none)) ⟨none, 0, some (w.heap.size + 1)⟩ (Ext.refl _ _) (by rw [← hw1]; exact R1.fit.alloc _) (by rw [← hw1]; exact More.alloc _ _) (fun g hg => by cases hg; omega) (fun S' ι' hu => .loop (g := w.heap.size + 1) rfl (by rw [← hw1, ← hsz]; exact World.alloc_heap_new _ _) (by rw [envOf_len, hrec]; exact hsize) (fun j b hb => by
      obtain ⟨hj, rfl⟩ := envOf_at hb
      rw [hrec]
      exact (R.env j hj).mono (fun _ _ h => h) hu) (fun p hp => R1.fit.no (by rw [hsz]; omega)))
  have hl2 : (updE ι id (⟨none, 0, some (w.heap.size + 1)⟩ : Hnd) id).g = some (w.heap.size + 1) := by rw [updE_same]
  generalize updE ι id (⟨none, 0, some (w.heap.size + 1)⟩ : Hnd) = ι2 at R2 hl2 hu2
  obtain ⟨ι3, hι3, hown, hren, hend⟩ := R2.upped
  have hargs : All2 (VRep σ (upS (s.set id (.loop (envOf C.n s.env) (rec .ready none))).S) ι3) (.func (.yield (w.heap.size + 1)) #[] #[] :: vc.toList) (.one (.yld (up1 id)) :: AV.rens up1 (caps.map .one)) := by
    have hS2 : (s.set id (.loop (envOf C.n s.env) (rec .ready none))).S id = some (.loop (envOf C.n s.env) (rec .ready none)) := updE_same _ _ _
    refine .cons (hren _ _ (.one (.yld hS2 (Nat.le_refl _) rfl fun _ => ⟨_, hl2, rfl⟩))) ?_
    rw [AV.rens_eq]
    refine (All2.mono (fun v c h => hren v c h) ?_).map_right
    refine (All2.of_get (R := fun v c => VRep σ (s.set id (.loop (envOf C.n s.env) (rec .ready none))).S ι2 v (.one c)) (by simpa using g1) fun j v b hv hb => ?_).map_right
    have e := g2 j b hb
    have e2 : vc.toList[j]? = some (cc j) := by simpa using e
    rw [hv] at e2
    cases e2
    exact .one ((g3 j b hb).mono (fun _ _ h => h) hu2)
  have hcl := clean_upS (s.set id (.loop (envOf C.n s.env) (rec .ready none))).S
  have hTeq : upS (s.set id (.loop (envOf C.n s.env) (rec .ready none))).S = updE (upS s.S) (up1 id) (some (.loop (AV.rens up1 (envOf C.n s.env)) (rec .ready none))) := upS_set _ _ _
  have hcall := hit (up1 id) (fun pre T => ∃ U, T = updE U (up1 id) (some (.loop (AV.rens up1 (envOf C.n s.env)) (rec .ready none))) ∧ U (up1 id) = none ∧ Inv pre U)
    (fun T => ∃ U c e, T = updE U (up1 id) (some (.loop (AV.rens up1 (envOf C.n s.env)) (rec .done (some c)))) ∧ U (up1 id) = none ∧ Jump c e ∧ Jx e U)
    _ (up1_le id) (fun pre T hT => by
      obtain ⟨U, rfl, hU, hI⟩ := hT
      exact hneed pre U _ hI hU) (fun pre v hpre T hT => by
      obtain ⟨U, rfl, hU, hI⟩ := hT
      exact round_at hx hy (by rw [AV.rens_eq, List.length_map, envOf_len]) (up1_le id) hrec (by rw [hlen]; simp) hU fun hc C' hC' => by
        rw [upEnv_eq]
        exact hbody C' _ (.loop (AV.rens up1 (envOf C.n s.env)) (rec .busy none)) pre v U hC' hpre hI hU (clean_off hc hU) (AV.rens_high _))
    ⟨_, hTeq, by rw [upS_up, hfree]; rfl, h0⟩ hcl σ w1 _ ι3 (C.glob.mono R.ext) R2.fit hown hargs
  refine ⟨w.heap.size + 1, [mark w.heap.size], w1, { target := .fn (.func f) vc, args := #[.func (.yield (w.heap.size + 1)) #[] #[]] }, w1, f, #[.func (.yield (w.heap.size + 1)) #[] #[]] ++ vc, w1, ?_, ?_, fun _ _ => trivial, ?_, fun h => by simp [fen, Fence.wide] at h, ?_⟩
  · have hr : (fen C.ro).round = none := htop.1
    rw [hr, ← hw1, hrec]
    exact run_enterLoop_outer _ _ _ _ _
  · simp only [resolve, hev]
    simp [go_sem]
  · have := run_enter (P := P) (w := w1) (args := #[.func (.yield (w.heap.size + 1)) #[] #[]] ++ vc) hpl
    simp [invoke, go_sem, this]
  · have he0 : (Value.func (.yield (w.heap.size + 1)) #[] #[] :: vc.toList).toArray = #[.func (.yield (w.heap.size + 1)) #[] #[]] ++ vc := by
      apply Array.ext'
      simp
    rw [he0] at hcall
    refine callsIn_fen (hcall.mono fun e w2 he => ?_)
    obtain ⟨v, r, S', σ', ι4, rfl, hP, hS', hu4, R4⟩ := hend he
    have hl4 : ∀ {b : ABlk}, dnS S' id = some b → b.len = 1 → (ι4 id).g = some (w.heap.size + 1) := fun hb hb1 => by
      obtain ⟨b', h1, h2, h3⟩ := hu4 id _ (show (s.set id (.loop (envOf C.n s.env) (rec .ready none))).S id = some _ from updE_same _ _ _)
      rw [hb] at h1
      cases h1
      rw [(h3 hb1).2]
      exact hl2
    have fin : ∀ (U : AStore) (env : List AV) (st : LoopState) (pe : Option Code), st ≠ .busy → S' = updE U (up1 id) (some (.loop env (rec st pe))) → ∃ w3, (Instr.endLoop (w.heap.size + 1)).run P w2 = .ok pe w3 ∧ Holds C ⟨s.env, updE (dnS U) id (some (.dead 1 0))⟩ { a with defers := mark w.heap.size :: a.defers } w3 := fun U env st pe hst hS => by
      have hb : dnS S' id = some (.loop (AV.rens dn1 env) (rec st pe)) := by
        have := dnS_some (up1_le id) (show S' (up1 id) = some (.loop env (rec st pe)) by rw [hS]; exact updE_same _ _ _)
        rw [dn_up] at this
        exact this
      have hg4 := hl4 hb rfl
      cases hbr : R4.blk id _ hb with
      | loop k1 k2 k3 k4 k5 =>
        rw [hg4] at k1
        cases k1
        obtain ⟨ι5, R5, _⟩ := R4.setBlk (b' := .dead 1 0) (o' := .loop { rec st pe with state := .exhausted }) hb hg4 k2 k5 rfl rfl fun S'' ι'' hu => .dead fun g' hg' => by
          rw [hg4] at hg'
          cases hg'
          exact ⟨_, (set_heap k2).1, rfl⟩
        refine ⟨w2.putObj (w.heap.size + 1) (.loop { rec st pe with state := .exhausted }), ?_, σ', ι5, ?_⟩
        · have := run_endLoop (P := P) k2 (by rw [hrec]; exact hst)
          rw [hrec] at this ⊢
          exact this
        · have e5 : (AS.set ⟨(s.set id (.loop (envOf C.n s.env) (rec .ready none))).env, dnS S'⟩ id (.dead 1 0)) = ⟨s.env, updE (dnS U) id (some (.dead 1 0))⟩ := by
            show AS.mk s.env (updE (dnS S') id _) = _
            rw [hS, dnS_set]
          rw [← e5]
          exact R5
    rcases hP with ⟨U, h1, h2, h3⟩ | ⟨U, c, e, h1, h2, h3, h4⟩
    · obtain ⟨w3, f1, f2⟩ := fin U _ .ready none (by simp) h1
      exact ⟨none, w3, f1, _, hdone U h3, f2⟩
    · obtain ⟨w3, f1, f2⟩ := fin U _ .done (some c) (by simp) h1
      refine ⟨some c, w3, f1, ?_⟩
      cases h3 with
      | ret => exact wpIn_ret ⟨_, hjump _ U h4, f2⟩
      | exit i => exact wpIn_exit ⟨_, hjump _ U h4, f2⟩
end

def ir_slices_Backward_string_string_1 : IR :=
  (.seq (.ops [.l 4 1, .i 5 (.len false (.t 4)), .i 6 (.bin .sub (.t 5) (.n 1)), .m 3 6]) (.block 0 (.loop (.seq (.seq (.ops [.m 7 3, .i 8 (.bin .geq (.t 7) (.n 0))]) (.cond (.t 8) .skip (.exit 0))) (.seq (.block 1 (.seq (.ops [.m 11 0, .m 12 3, .l 13 1, .m 14 3, .i 15 (.indexAddr 1 (.t 13) (.t 14)), .l 16 15, .i 17 (.callY (.t 11) [.t 12, .t 16]), .i 18 (.un .not (.t 17))]) (.cond (.t 18) .ret .skip))) (.ops [.m 9 3, .i 10 (.bin .sub (.t 9) (.n 1)), .m 3 10]))))))
theorem ok_slices_Backward_string_string_1 : OkF Tryd.prog 43 19 [70000017] ir_slices_Backward_string_string_1 [] := .of Tryd.func43 rfl rfl (by kernel_rfl) rfl
def ir_slices_Backward_string_string : IR :=
  (.seq (.ops [.i 1 (.box 22 (.t 0)), .i 2 (.mov (.c (.one (.st (.lit .nilFunc)))))]) (.seq (.ops [.i 3 (.makeFunc 43 [.t 1]), .m 2 3]) .ret))
theorem ok_slices_Backward_string_string : OkF Tryd.prog 34 4 [] ir_slices_Backward_string_string [.t 2] := .of Tryd.func34 rfl rfl (by kernel_rfl) rfl


def downTo (n k : Nat) : List Nat := (List.range' k (n - k)).reverse
theorem downTo_top (n : Nat) : downTo n n = [] := by simp [downTo]
theorem downTo_step {n k : Nat} (h : k + 1 ≤ n) : downTo n (k + 1) ++ [k] = downTo n k := by
  unfold downTo
  rw [show n - k = (n - (k + 1)) + 1 by omega, List.range'_succ]
  simp
theorem downTo_pre {n k : Nat} (h : k ≤ n) : downTo n k <+: downTo n 0 := by
  induction k with
  | zero => exact List.prefix_refl _
  | succ k ih => exact List.IsPrefix.trans ⟨[k], downTo_step h⟩ (ih (by omega))
theorem back_iterM (xs : List ByteArray) (hl : xs.length ≤ 9223372036854775807) (b id : Nat) (ty e : TypeId) (hb : 1000 ≤ b) (hid : 1000 ≤ id) : AIter Tryd.prog 43 [.one (.ptr b 1 0 0)] (fun T => T b = some (.box ty [.row id xs.length]) ∧ T id = some (.mrow e 1 (xs.map encS))) (fun i : Nat => [aInt i, aStr (xs.getD i .empty)]) (downTo xs.length 0) := by
  intro y Inv Jx T0 hy hneed hround h0
  refine ok_slices_Backward_string_string_1.acR fun hclean C hC htop => ?_
  unfold ir_slices_Backward_string_string_1
  obtain ⟨n1, n2⟩ := hneed _ _ h0
  have hll : (xs.map encS).length = xs.length := by simp
  repeat' (first | (with_reducible first | refine W ?_ | refine Wz0 ?_) | ((with_reducible first | refine Wo (fun K hK => ?_) | refine Wq ?_ | refine Wr ?_); (try simp only [go_sem, fN, seval, eT, iR, AS.startS, n1, n2, hll]); (repeat with_reducible refine Ai ?_); (try (refine hK _ ?_; clear hK K))))
  refine IWP.loop (fun m s => ∃ k T, k ≤ xs.length ∧ m = k ∧ s.env 0 = .one (.yld y) ∧ s.env 1 = .one (.ptr b 1 0 0) ∧ s.env 3 = aInt ((k : Int) - 1) ∧ (∀ i, 1000 ≤ i → s.S i = T i) ∧ Clean T ∧ Inv (downTo xs.length k) T) xs.length ⟨xs.length, T0, Nat.le_refl _, rfl, rfl, rfl, rfl, fun i _ => rfl, hclean, by rw [downTo_top]; exact h0⟩ ?_
  rintro m ⟨env, S⟩ ⟨k, T, hk, rfl, e0, e1, e3, hST, hT, hI⟩
  simp only at e0 e1 e3 hST
  obtain ⟨m1, m2⟩ := hneed _ _ hI
  rw [← hST b hb] at m1
  rw [← hST id hid] at m2
  repeat' (first | (with_reducible first | refine W ?_ | refine Wz0 ?_) | ((with_reducible first | refine Wo (fun K hK => ?_) | refine Wp ?_ | refine Wq ?_ | refine Wr ?_); (try simp only [go_sem, fN, seval, eT, iR, e0, e1, e3, dT, dF, nL]); (repeat with_reducible refine Ai ?_); (try (refine hK _ ?_; clear hK K)); (try with_reducible refine iC ?_)))
  refine ⟨fun hlt => ?_, fun hge => ?_⟩
  · obtain ⟨k, rfl⟩ : ∃ k, m = k + 1 := ⟨m - 1, by omega⟩
    obtain ⟨x, hx⟩ := get_lt (show k < xs.length by omega)
    have e3' : env 3 = aInt k := by rw [e3]; congr 3; omega
    have hd : xs.getD k .empty = x := by simp [List.getD, hx]
    have hy' := hround (downTo xs.length (k + 1)) k (by rw [downTo_step hk]; exact downTo_pre (by omega)) T hI
    simp only [hd, downTo_step hk] at hy'
    repeat' (first | (with_reducible first | refine W ?_ | refine Wz0 ?_) | ((with_reducible first | refine Wo (fun K hK => ?_) | refine Wp ?_ | refine Wq ?_ | refine Wr ?_); (try simp only [go_sem, fN, seval, eT, iR, e0, e1, e3', hx, encS, m1, m2, hll, dT, dF, nL]); (repeat with_reducible refine Ai ?_); (try (refine hK _ ?_; clear hK K)); (try with_reducible refine iC ?_)))
    refine CallXG.mk T _ hT hST (by
      show ((AC.yld y).high && true) = true
      rw [high_yld hy]
      rfl) hy' ?_
    rintro r S' hS' (⟨rfl, hI'⟩ | ⟨rfl, hJ⟩)
    · repeat' (first | (with_reducible first | refine W ?_ | refine Wz0 ?_) | ((with_reducible first | refine Wo (fun K hK => ?_) | refine Wp ?_ | refine Wq ?_ | refine Wr ?_); (try simp only [go_sem, fN, seval, eT, iR, e0, e1, e3', dT, dF, nL]); (repeat with_reducible refine Ai ?_); (try (refine hK _ ?_; clear hK K)); (try with_reducible refine iC ?_)))
      exact ⟨k, Nat.lt_succ_self k, k, S', by omega, rfl, e0, e1, rfl, fun i hi => joinS_high hi, hS', hI'⟩
    · repeat' (first | (with_reducible first | refine W ?_ | refine Wz0 ?_) | ((with_reducible first | refine Wo (fun K hK => ?_) | refine Wp ?_ | refine Wq ?_ | refine Wr ?_); (try simp only [go_sem, fN, seval, eT, iR, e0, e1, e3', dT, dF, nL]); (repeat with_reducible refine Ai ?_); (try (refine hK _ ?_; clear hK K)); (try with_reducible refine iC ?_)))
      exact ⟨.tup [], S', .inr hJ, finS_same (.tup []) hS' trivial rfl rfl fun i hi => joinS_high hi⟩
  · repeat' (first | (with_reducible first | refine W ?_ | refine Wz0 ?_) | ((with_reducible first | refine Wo (fun K hK => ?_) | refine Wp ?_ | refine Wq ?_ | refine Wr ?_); (try simp only [go_sem, fN, seval, eT, iR, dT, dF, nL]); (repeat with_reducible refine Ai ?_); (try (refine hK _ ?_; clear hK K)); (try with_reducible refine iC ?_)))
    have hm : m = 0 := by omega
    subst hm
    exact ⟨.tup [], T, .inl hI, finS_same (.tup []) hT trivial rfl rfl hST⟩
theorem backward_M (S : AStore) (a0 id n : Nat) (ha : 1000 ≤ a0) (hid : 1000 ≤ id) (hSa : S a0 = none) : ACallsS Tryd.prog 34 [.one (.row id n)] S (.one (.fn 43 [.ptr a0 1 0 0])) (updE S a0 (some (.box 22 [.row id n]))) := by
  refine ok_slices_Backward_string_string.acS fun hS C hC => ?_
  unfold ir_slices_Backward_string_string
  have s1 : S 1 = none := clean_none hS (by omega)
  have hh : AC.highs [.row id n] = true := by rw [AC.highs, high_row hid]; rfl
  repeat' (first | (with_reducible first | refine W ?_ | refine Wz0 ?_) | ((with_reducible first | refine Wo (fun K hK => ?_) | refine Wq ?_ | refine Wr ?_); (try simp only [go_sem, fN, seval, eT, iR, AS.startS, AS.caps, s1]); (repeat with_reducible refine Ai ?_); (try (refine hK _ ?_; clear hK K))))
  refine (show AC.fn 43 [.ptr a0 1 0 0] = (AC.fn 43 [.ptr 1 1 0 0]).ren (oneTo 1 a0) from rfl) ▸ finS_hand trivial 1 a0 (.one (.fn 43 [.ptr 1 1 0 0])) (b0 := .box 22 [.row id n]) (by omega) ha ?_ ?_ ?_ ?_ ?_ ?_ ?_ ?_
  · show updE S 1 _ a0 = none
    rw [updE_ne _ (by omega)]
    exact hSa
  · rfl
  · exact hh
  · intro i b hi hb
    change updE S 1 _ i = some b at hb
    rw [updE_ne _ (by omega)] at hb
    exact (hS i b hb).2
  · rfl
  · show AC.highs [.ptr a0 1 0 0] = true
    rw [AC.highs, high_ptr ha]
    rfl
  · have e : ∀ c, lowS (updE S 1 c) = S := fun c => by
      funext i
      unfold lowS
      by_cases hi : i < 1000
      · rw [if_pos hi, clean_none hS hi]
      · rw [if_neg hi, updE_ne _ (by omega)]
    show updE (lowS (updE S 1 _)) a0 _ = _
    rw [e]
  · exact clean_upd hS ha hh

theorem BRep.cutM {σ : Sto} {S : AStore} {ι : AHnd} {w : World} {h : Hnd} {e : TypeId} {wd : Nat} {xs : List (List SV)} (hr : BRep σ S ι w h (.mrow e wd xs)) (k : Nat) {S' : AStore} {ι' : AHnd} : BRep σ S' ι' w h (.mrow e wd (xs.take k)) := by
  cases hr with
  | mnil h1 h2 => rw [List.take_nil]; exact .mnil h1 h2
  | mrow h1 h2 h3 h4 h5 h6 h7 h8 h9 =>
    refine .mrow h1 h2 h3 (by rw [List.length_take]; omega) h5 h6 (fun x hx => h7 x (List.mem_of_mem_take hx)) (fun j x i a hx ha => h8 j x i a ?_ ha) h9
    rw [List.getElem?_take] at hx
    split at hx
    · exact hx
    · cases hx
theorem Ghost.rebase {C : Ctx} {s : AS} (bx id nid j k N : Nat) {ty e : TypeId} {wd : Nat} {xs : List (List SV)} {cs : List AC} (hN : xs.length < N) (hb : s.S bx = some (.box ty cs)) (hid : s.S id = some (.mrow e wd xs)) (hn : s.S nid = none) (hc : cs[j]? = some (.part id k xs.length) ∨ (cs[j]? = some (.row id k) ∧ k = xs.length)) :
    Ghost C s ⟨s.env, updE (updE (updE s.S id (some (.dead N wd))) nid (some (.mrow e wd (xs.take k)))) bx (some (.box ty (cs.set j (.row nid k))))⟩ := fun a w ⟨σ, ι, R⟩ => by
  have hjl : j < cs.length := by rcases hc with h | ⟨h, _⟩ <;> exact (List.getElem?_eq_some_iff.1 h).1
  have n1 : nid ≠ id := fun e => by subst e; rw [hid] at hn; cases hn
  have n2 : bx ≠ id := fun e => by subst e; rw [hid] at hb; cases hb
  have n3 : bx ≠ nid := fun e => by subst e; rw [hb] at hn; cases hn
  obtain ⟨S2, hS2⟩ : ∃ S2, updE (updE (updE s.S id (some (.dead N wd))) nid (some (.mrow e wd (xs.take k)))) bx (some (.box ty (cs.set j (.row nid k)))) = S2 := ⟨_, rfl⟩
  obtain ⟨ι2, hι2⟩ : ∃ ι2 : AHnd, updE (updE ι id ⟨none, 0, none⟩) nid (ι id) = ι2 := ⟨_, rfl⟩
  rw [hS2]
  have sb : S2 bx = some (.box ty (cs.set j (.row nid k))) := by rw [← hS2, updE_same]
  have sn : S2 nid = some (.mrow e wd (xs.take k)) := by rw [← hS2, updE_ne _ n3.symm, updE_same]
  have si : S2 id = some (.dead N wd) := by rw [← hS2, updE_ne _ n2.symm, updE_ne _ n1.symm, updE_same]
  have so : ∀ i, i ≠ bx → i ≠ nid → i ≠ id → S2 i = s.S i := fun i h1 h2 h3 => by rw [← hS2, updE_ne _ h1, updE_ne _ h2, updE_ne _ h3]
  have ιn : ι2 nid = ι id := by rw [← hι2, updE_same]
  have ιi : ι2 id = ⟨none, 0, none⟩ := by rw [← hι2, updE_ne _ n1.symm, updE_same]
  have ιo : ∀ i, i ≠ nid → i ≠ id → ι2 i = ι i := fun i h2 h3 => by rw [← hι2, updE_ne _ h2, updE_ne _ h3]
  have hu : Upd s.S ι S2 ι2 := fun i b h => by
    by_cases e1 : i = bx
    · subst e1
      rw [hb] at h
      cases h
      exact ⟨_, sb, Nat.le_refl _, fun _ => ⟨rfl, ιo _ n3 n2⟩⟩
    · by_cases e2 : i = id
      · subst e2
        rw [hid] at h
        cases h
        exact ⟨_, si, Nat.le_of_lt hN, fun hl => absurd (show N = xs.length from hl) (by omega)⟩
      · have e3 : i ≠ nid := fun e3 => by subst e3; rw [hn] at h; cases h
        exact ⟨b, (so i e1 e3 e2).trans h, Nat.le_refl _, fun _ => ⟨rfl, ιo i e3 e2⟩⟩
  have old : ∀ i b, S2 i = some b → ∀ g, (ι2 i).g = some g → ∃ i' b', s.S i' = some b' ∧ (ι i').g = some g ∧ (i = nid ∧ i' = id ∨ i' = i ∧ i ≠ nid ∧ i ≠ id) := fun i b h g hg => by
    by_cases e2 : i = id
    · subst e2
      rw [ιi] at hg
      cases hg
    · by_cases e3 : i = nid
      · subst e3
        rw [ιn] at hg
        exact ⟨id, _, hid, hg, .inl ⟨rfl, rfl⟩⟩
      · rw [ιo i e3 e2] at hg
        by_cases e1 : i = bx
        · subst e1
          exact ⟨_, _, hb, hg, .inr ⟨rfl, e3, e2⟩⟩
        · exact ⟨i, b, (so i e1 e3 e2).symm.trans h, hg, .inr ⟨rfl, e3, e2⟩⟩
  refine ⟨σ, ι2, R.size, fun i hi => (R.env i hi).mono (fun _ _ h => h) hu, R.nod, R.fit, fun i b h => ?_, fun i i' b b' g h1 h2 g1 g2 => ?_, fun i b g h hg => ?_, R.ext, R.old, R.os, R.grown, R.same, R.upd.trans hu⟩
  · change S2 i = some b at h
    by_cases e1 : i = bx
    · subst e1
      rw [sb] at h
      cases h
      rw [ιo _ n3 n2]
      cases R.blk _ _ hb with
      | box h1 h2 h3 h4 h5 =>
        refine .box h1 h2 h3 (All2.of_get (by rw [List.length_set]; exact h4.len) fun jj v c hv hcj => ?_) h5
        obtain ⟨c0, hc0⟩ : ∃ c0, cs[jj]? = some c0 := by
          have := (List.getElem?_eq_some_iff.1 hcj).1
          rw [List.length_set] at this
          exact ⟨_, List.getElem?_eq_getElem this⟩
        obtain ⟨v', hv', hr⟩ := h4.get hc0
        rw [hv] at hv'
        cases hv'
        by_cases ej : jj = j
        · subst ej
          rw [List.getElem?_set_self hjl] at hcj
          cases hcj
          rcases hc with hc | ⟨hc, hk⟩
          · rw [hc] at hc0
            cases hc0
            cases hr with
            | part q1 q2 q3 q4 =>
              rw [hid] at q1
              cases q1
              obtain ⟨q5, q6⟩ := q4 rfl
              refine .row sn (by show k ≤ (xs.take k).length; rw [List.length_take]; omega) q3 fun _ => ?_
              rw [ιn]
              exact q6
          · rw [hc] at hc0
            cases hc0
            cases hr with
            | row q1 q2 q3 q4 =>
              rw [hid] at q1
              cases q1
              refine .row sn (by show k ≤ (xs.take k).length; rw [List.length_take]; omega) q3 fun _ => ?_
              rw [ιn]
              exact q4 hk
        · rw [List.getElem?_set_ne (fun h => ej h.symm), hc0] at hcj
          cases hcj
          exact hr.mono (fun _ _ h => h) hu
    · by_cases e2 : i = id
      · subst e2
        rw [si] at h
        cases h
        rw [ιi]
        exact .dead fun g hg => by cases hg
      · by_cases e3 : i = nid
        · subst e3
          rw [sn] at h
          cases h
          rw [ιn]
          exact (R.blk _ _ hid).cutM k
        · rw [ιo i e3 e2]
          exact (R.blk i b ((so i e1 e3 e2).symm.trans h)).mono (fun _ _ h => h) hu (fun _ _ => rfl) (fun _ _ _ _ => rfl)
  · obtain ⟨j1, c1, k1, k2, k3⟩ := old i b h1 g g1
    obtain ⟨j2, c2, l1, l2, l3⟩ := old i' b' h2 g g2
    have := R.inj _ _ _ _ g k1 l1 k2 l2
    rcases k3 with ⟨a1, a2⟩ | ⟨a1, a2, a3⟩ <;> rcases l3 with ⟨b1, b2⟩ | ⟨b1, b2, b3⟩
    · rw [a1, b1]
    · exact absurd (by rw [← b1, ← this, a2] : i' = id) b3
    · exact absurd (by rw [← a1, this, b2] : i = id) a3
    · rw [← a1, ← b1, this]
  · obtain ⟨j1, c1, k1, k2, _⟩ := old i b h g hg
    exact R.base _ _ g k1 k2
theorem Ghost.bury {C : Ctx} {s : AS} (id N wd : Nat) {b : ABlk} (hS : s.S id = some b) (hb : match b with | .mrow _ w xs => xs.length < N ∧ w = wd | .dead n w => n ≤ N ∧ w = wd | _ => False) : Ghost C s (s.set id (.dead N wd)) := fun a w ⟨σ, ι, R⟩ => by
  have hr := R.blk _ _ hS
  have hlen : b.len ≤ N := by
    cases b <;> first | exact hb.elim | exact Nat.le_of_lt hb.1 | exact hb.1
  have hwid : b.wid = wd := by
    cases b <;> first | exact hb.elim | exact hb.2
  obtain ⟨hu, R'⟩ := R.turn (w' := w) hS (.dead N wd) (ι id) (σ' := σ) (fun _ _ h => h) (fun _ _ _ => rfl) R.fit hlen (fun _ => ⟨hwid.symm, rfl⟩) ⟨rfl, rfl, rfl⟩ (Nat.le_refl _) (fun _ _ _ => rfl) (fun g h => .inl h)
    (fun hu => .dead fun g' hg' => hr.own hg')
  exact ⟨σ, _, R'⟩

open Go.Proofs Go.Shelf
def Tryd.lays172_ren : Go.Shelf.Ren := ⟨fun | 172 => 36 | 244 => 44 | 245 => 45 | 247 => 48 | 279 => 49 | 280 => 50 | 281 => 51 | 282 => 52 | 287 => 54 | 316 => 55 | 171 => 37 | 205 => 56 | 321 => 61 | 322 => 62 | 243 => 46 | 246 => 53 | 283 => 57 | 284 => 58 | 285 => 59 | 286 => 60 | 129 => 64 | 317 => 63 | 318 => 65 | 319 => 66 | 320 => 67 | 337 => 68 | 338 => 69 | n => n, fun | 9 => 9 | 3 => 3 | 75 => 58 | 76 => 59 | 4 => 4 | 5 => 5 | 167 => 65 | 37 => 66 | 0 => 0 | 85 => 67 | 2 => 2 | 168 => 69 | 53 => 73 | 175 => 74 | 46 => 76 | 210 => 79 | 127 => 87 | 145 => 90 | 143 => 88 | 21 => 21 | 171 => 81 | 173 => 84 | 212 => 93 | 51 => 94 | 20 => 20 | 213 => 95 | 232 => 99 | 233 => 100 | 80 => 47 | n => n, fun | 15 => 0 | 16 => 1 | 17 => 2 | 18 => 3 | 19 => 4 | n => n⟩
theorem Tryd.lays172 : Go.Proofs.Lays.n172 Tryd.prog Tryd.lays172_ren := {
  mixed := by kernel_rfl
  f129 := Tryd.func64.trans (congrArg some (by kernel_rfl))
  f171 := Tryd.func37.trans (congrArg some (by kernel_rfl))
  f172 := Tryd.func36.trans (congrArg some (by kernel_rfl))
  f205 := Tryd.func56.trans (congrArg some (by kernel_rfl))
  f243 := Tryd.func46.trans (congrArg some (by kernel_rfl))
  f244 := Tryd.func44.trans (congrArg some (by kernel_rfl))
  f245 := Tryd.func45.trans (congrArg some (by kernel_rfl))
  f246 := Tryd.func53.trans (congrArg some (by kernel_rfl))
  f247 := Tryd.func48.trans (congrArg some (by kernel_rfl))
  f279 := Tryd.func49.trans (congrArg some (by kernel_rfl))
  f280 := Tryd.func50.trans (congrArg some (by kernel_rfl))
  f281 := Tryd.func51.trans (congrArg some (by kernel_rfl))
  f282 := Tryd.func52.trans (congrArg some (by kernel_rfl))
  f283 := Tryd.func57.trans (congrArg some (by kernel_rfl))
  f284 := Tryd.func58.trans (congrArg some (by kernel_rfl))
  f285 := Tryd.func59.trans (congrArg some (by kernel_rfl))
  f286 := Tryd.func60.trans (congrArg some (by kernel_rfl))
  f287 := Tryd.func54.trans (congrArg some (by kernel_rfl))
  f316 := Tryd.func55.trans (congrArg some (by kernel_rfl))
  f317 := Tryd.func63.trans (congrArg some (by kernel_rfl))
  f318 := Tryd.func65.trans (congrArg some (by kernel_rfl))
  f319 := Tryd.func66.trans (congrArg some (by kernel_rfl))
  f320 := Tryd.func67.trans (congrArg some (by kernel_rfl))
  f321 := Tryd.func61.trans (congrArg some (by kernel_rfl))
  f322 := Tryd.func62.trans (congrArg some (by kernel_rfl))
  f337 := Tryd.func68.trans (congrArg some (by kernel_rfl))
  f338 := Tryd.func69.trans (congrArg some (by kernel_rfl))
  t0 := Tryd.underlying0
  a0 := Tryd.isAgg0
  z0 := Tryd.sizeOf0
  v0 := Tryd.zeroValue0
  t2 := Tryd.underlying2
  a2 := Tryd.isAgg2
  z2 := Tryd.sizeOf2
  v2 := Tryd.zeroValue2
  t3 := Tryd.underlying3
  a3 := Tryd.isAgg3
  z3 := Tryd.sizeOf3
  v3 := Tryd.zeroValue3
  t4 := Tryd.underlying4
  a4 := Tryd.isAgg4
  z4 := Tryd.sizeOf4
  v4 := Tryd.zeroValue4
  t5 := Tryd.underlying5
  a5 := Tryd.isAgg5
  z5 := Tryd.sizeOf5
  v5 := Tryd.zeroValue5
  t9 := Tryd.underlying9
  a9 := Tryd.isAgg9
  z9 := Tryd.sizeOf9
  v9 := Tryd.zeroValue9
  t20 := Tryd.underlying20
  a20 := Tryd.isAgg20
  z20 := Tryd.sizeOf20
  v20 := Tryd.zeroValue20
  t21 := Tryd.underlying21
  a21 := Tryd.isAgg21
  z21 := Tryd.sizeOf21
  v21 := Tryd.zeroValue21
  t37 := Tryd.underlying66
  a37 := Tryd.isAgg66
  z37 := Tryd.sizeOf66
  v37 := Tryd.zeroValue66
  t46 := Tryd.underlying76
  a46 := Tryd.isAgg76
  z46 := Tryd.sizeOf76
  v46 := Tryd.zeroValue76
  t51 := Tryd.underlying94
  a51 := Tryd.isAgg94
  z51 := Tryd.sizeOf94
  v51 := Tryd.zeroValue94
  t53 := Tryd.underlying73
  a53 := Tryd.isAgg73
  z53 := Tryd.sizeOf73
  v53 := Tryd.zeroValue73
  t75 := Tryd.underlying58
  a75 := Tryd.isAgg58
  z75 := Tryd.sizeOf58
  v75 := Tryd.zeroValue58
  t76 := Tryd.underlying59
  a76 := Tryd.isAgg59
  z76 := Tryd.sizeOf59
  v76 := Tryd.zeroValue59
  t85 := Tryd.underlying67
  a85 := Tryd.isAgg67
  z85 := Tryd.sizeOf67
  v85 := Tryd.zeroValue67
  t127 := Tryd.underlying87
  a127 := Tryd.isAgg87
  z127 := Tryd.sizeOf87
  v127 := Tryd.zeroValue87
  t143 := Tryd.underlying88
  a143 := Tryd.isAgg88
  z143 := Tryd.sizeOf88
  v143 := Tryd.zeroValue88
  t145 := Tryd.underlying90
  a145 := Tryd.isAgg90
  z145 := Tryd.sizeOf90
  v145 := Tryd.zeroValue90
  t167 := Tryd.underlying65
  a167 := Tryd.isAgg65
  z167 := Tryd.sizeOf65
  v167 := Tryd.zeroValue65
  t168 := Tryd.underlying69
  a168 := Tryd.isAgg69
  z168 := Tryd.sizeOf69
  v168 := Tryd.zeroValue69
  t171 := Tryd.underlying81
  a171 := Tryd.isAgg81
  z171 := Tryd.sizeOf81
  v171 := Tryd.zeroValue81
  t173 := Tryd.underlying84
  a173 := Tryd.isAgg84
  z173 := Tryd.sizeOf84
  v173 := Tryd.zeroValue84
  t175 := Tryd.underlying74
  a175 := Tryd.isAgg74
  z175 := Tryd.sizeOf74
  v175 := Tryd.zeroValue74
  t210 := Tryd.underlying79
  a210 := Tryd.isAgg79
  z210 := Tryd.sizeOf79
  v210 := Tryd.zeroValue79
  t212 := Tryd.underlying93
  a212 := Tryd.isAgg93
  z212 := Tryd.sizeOf93
  v212 := Tryd.zeroValue93
  t213 := Tryd.underlying95
  a213 := Tryd.isAgg95
  z213 := Tryd.sizeOf95
  t232 := Tryd.underlying99
  a232 := Tryd.isAgg99
  z232 := Tryd.sizeOf99
  v232 := Tryd.zeroValue99
  t233 := Tryd.underlying100
  a233 := Tryd.isAgg100
  z233 := Tryd.sizeOf100
  v233 := Tryd.zeroValue100
  g15 := by kernel_rfl
  g16 := by kernel_rfl
  g17 := by kernel_rfl
  g18 := by kernel_rfl
  g19 := by kernel_rfl }
def Tryd.laysC172_ren : Go.Shelf.Ren := ⟨fun | 172 => 36 | 244 => 44 | 245 => 45 | 247 => 48 | 279 => 49 | 280 => 50 | 281 => 51 | 282 => 52 | 287 => 54 | 316 => 55 | 171 => 37 | 205 => 56 | 321 => 61 | 322 => 62 | 243 => 46 | 246 => 53 | 283 => 57 | 284 => 58 | 285 => 59 | 286 => 60 | 129 => 64 | 317 => 63 | 318 => 65 | 319 => 66 | 320 => 67 | 337 => 68 | 338 => 69 | n => n, fun | 9 => 9 | 3 => 3 | 75 => 58 | 76 => 59 | 4 => 4 | 5 => 5 | 167 => 65 | 37 => 66 | 0 => 0 | 85 => 67 | 2 => 2 | 168 => 69 | 53 => 73 | 175 => 74 | 46 => 76 | 210 => 79 | 127 => 87 | 145 => 90 | 143 => 88 | 21 => 21 | 171 => 81 | 173 => 84 | 212 => 93 | 51 => 94 | 20 => 20 | 213 => 95 | 232 => 99 | 233 => 100 | 80 => 47 | n => n, fun | 15 => 0 | 16 => 1 | 17 => 2 | 18 => 3 | 19 => 4 | n => n⟩
theorem Tryd.laysC172 : Go.Proofs.LaysC.n172 Tryd.prog Tryd.laysC172_ren := {
  mixed := by kernel_rfl
  f129 := Tryd.func64.trans (congrArg some (by kernel_rfl))
  f171 := Tryd.func37.trans (congrArg some (by kernel_rfl))
  f172 := Tryd.func36.trans (congrArg some (by kernel_rfl))
  f205 := Tryd.func56.trans (congrArg some (by kernel_rfl))
  f243 := Tryd.func46.trans (congrArg some (by kernel_rfl))
  f244 := Tryd.func44.trans (congrArg some (by kernel_rfl))
  f245 := Tryd.func45.trans (congrArg some (by kernel_rfl))
  f246 := Tryd.func53.trans (congrArg some (by kernel_rfl))
  f247 := Tryd.func48.trans (congrArg some (by kernel_rfl))
  f279 := Tryd.func49.trans (congrArg some (by kernel_rfl))
  f280 := Tryd.func50.trans (congrArg some (by kernel_rfl))
  f281 := Tryd.func51.trans (congrArg some (by kernel_rfl))
  f282 := Tryd.func52.trans (congrArg some (by kernel_rfl))
  f283 := Tryd.func57.trans (congrArg some (by kernel_rfl))
  f284 := Tryd.func58.trans (congrArg some (by kernel_rfl))
  f285 := Tryd.func59.trans (congrArg some (by kernel_rfl))
  f286 := Tryd.func60.trans (congrArg some (by kernel_rfl))
  f287 := Tryd.func54.trans (congrArg some (by kernel_rfl))
  f316 := Tryd.func55.trans (congrArg some (by kernel_rfl))
  f317 := Tryd.func63.trans (congrArg some (by kernel_rfl))
  f318 := Tryd.func65.trans (congrArg some (by kernel_rfl))
  f319 := Tryd.func66.trans (congrArg some (by kernel_rfl))
  f320 := Tryd.func67.trans (congrArg some (by kernel_rfl))
  f321 := Tryd.func61.trans (congrArg some (by kernel_rfl))
  f322 := Tryd.func62.trans (congrArg some (by kernel_rfl))
  f337 := Tryd.func68.trans (congrArg some (by kernel_rfl))
  f338 := Tryd.func69.trans (congrArg some (by kernel_rfl))
  t0 := Tryd.underlying0
  a0 := Tryd.isAgg0
  z0 := Tryd.sizeOf0
  v0 := Tryd.zeroValue0
  t2 := Tryd.underlying2
  a2 := Tryd.isAgg2
  z2 := Tryd.sizeOf2
  v2 := Tryd.zeroValue2
  t3 := Tryd.underlying3
  a3 := Tryd.isAgg3
  z3 := Tryd.sizeOf3
  v3 := Tryd.zeroValue3
  t4 := Tryd.underlying4
  a4 := Tryd.isAgg4
  z4 := Tryd.sizeOf4
  v4 := Tryd.zeroValue4
  t5 := Tryd.underlying5
  a5 := Tryd.isAgg5
  z5 := Tryd.sizeOf5
  v5 := Tryd.zeroValue5
  t9 := Tryd.underlying9
  a9 := Tryd.isAgg9
  z9 := Tryd.sizeOf9
  v9 := Tryd.zeroValue9
  t20 := Tryd.underlying20
  a20 := Tryd.isAgg20
  z20 := Tryd.sizeOf20
  v20 := Tryd.zeroValue20
  t21 := Tryd.underlying21
  a21 := Tryd.isAgg21
  z21 := Tryd.sizeOf21
  v21 := Tryd.zeroValue21
  t37 := Tryd.underlying66
  a37 := Tryd.isAgg66
  z37 := Tryd.sizeOf66
  v37 := Tryd.zeroValue66
  t46 := Tryd.underlying76
  a46 := Tryd.isAgg76
  z46 := Tryd.sizeOf76
  v46 := Tryd.zeroValue76
  t51 := Tryd.underlying94
  a51 := Tryd.isAgg94
  z51 := Tryd.sizeOf94
  v51 := Tryd.zeroValue94
  t53 := Tryd.underlying73
  a53 := Tryd.isAgg73
  z53 := Tryd.sizeOf73
  v53 := Tryd.zeroValue73
  t75 := Tryd.underlying58
  a75 := Tryd.isAgg58
  z75 := Tryd.sizeOf58
  v75 := Tryd.zeroValue58
  t76 := Tryd.underlying59
  a76 := Tryd.isAgg59
  z76 := Tryd.sizeOf59
  v76 := Tryd.zeroValue59
  t85 := Tryd.underlying67
  a85 := Tryd.isAgg67
  z85 := Tryd.sizeOf67
  v85 := Tryd.zeroValue67
  t127 := Tryd.underlying87
  a127 := Tryd.isAgg87
  z127 := Tryd.sizeOf87
  v127 := Tryd.zeroValue87
  t143 := Tryd.underlying88
  a143 := Tryd.isAgg88
  z143 := Tryd.sizeOf88
  v143 := Tryd.zeroValue88
  t145 := Tryd.underlying90
  a145 := Tryd.isAgg90
  z145 := Tryd.sizeOf90
  v145 := Tryd.zeroValue90
  t167 := Tryd.underlying65
  a167 := Tryd.isAgg65
  z167 := Tryd.sizeOf65
  v167 := Tryd.zeroValue65
  t168 := Tryd.underlying69
  a168 := Tryd.isAgg69
  z168 := Tryd.sizeOf69
  v168 := Tryd.zeroValue69
  t171 := Tryd.underlying81
  a171 := Tryd.isAgg81
  z171 := Tryd.sizeOf81
  v171 := Tryd.zeroValue81
  t173 := Tryd.underlying84
  a173 := Tryd.isAgg84
  z173 := Tryd.sizeOf84
  v173 := Tryd.zeroValue84
  t175 := Tryd.underlying74
  a175 := Tryd.isAgg74
  z175 := Tryd.sizeOf74
  v175 := Tryd.zeroValue74
  t210 := Tryd.underlying79
  a210 := Tryd.isAgg79
  z210 := Tryd.sizeOf79
  v210 := Tryd.zeroValue79
  t212 := Tryd.underlying93
  a212 := Tryd.isAgg93
  z212 := Tryd.sizeOf93
  v212 := Tryd.zeroValue93
  t213 := Tryd.underlying95
  a213 := Tryd.isAgg95
  z213 := Tryd.sizeOf95
  t232 := Tryd.underlying99
  a232 := Tryd.isAgg99
  z232 := Tryd.sizeOf99
  v232 := Tryd.zeroValue99
  t233 := Tryd.underlying100
  a233 := Tryd.isAgg100
  z233 := Tryd.sizeOf100
  v233 := Tryd.zeroValue100
  g15 := by kernel_rfl
  g16 := by kernel_rfl
  g17 := by kernel_rfl
  g18 := by kernel_rfl
  g19 := by kernel_rfl
  t80 := Tryd.underlying47
  a80 := Tryd.isAgg47
  z80 := Tryd.sizeOf47
  v80 := Tryd.zeroValue47
  i0 := by kernel_rfl
  i2 := by kernel_rfl
  i3 := by kernel_rfl
  i4 := by kernel_rfl
  i5 := by kernel_rfl
  i9 := by kernel_rfl
  i20 := by kernel_rfl
  i21 := by kernel_rfl
  i37 := by kernel_rfl
  i46 := by kernel_rfl
  i51 := by kernel_rfl
  i53 := by kernel_rfl
  i75 := by kernel_rfl
  i76 := by kernel_rfl
  i80 := by kernel_rfl
  i85 := by kernel_rfl
  i127 := by kernel_rfl
  i143 := by kernel_rfl
  i145 := by kernel_rfl
  i167 := by kernel_rfl
  i168 := by kernel_rfl
  i171 := by kernel_rfl
  i173 := by kernel_rfl
  i175 := by kernel_rfl
  i210 := by kernel_rfl
  i212 := by kernel_rfl
  i232 := by kernel_rfl
  i233 := by kernel_rfl
  m15 := by kernel_rfl
  m16 := by kernel_rfl
  m17 := by kernel_rfl
  m18 := by kernel_rfl
  m19 := by kernel_rfl
  c0 := by kernel_rfl
  c2 := by kernel_rfl
  c3 := by kernel_rfl
  c4 := by kernel_rfl
  c5 := by kernel_rfl
  c9 := by kernel_rfl
  c20 := by kernel_rfl
  c21 := by kernel_rfl
  c37 := by kernel_rfl
  c46 := by kernel_rfl
  c51 := by kernel_rfl
  c53 := by kernel_rfl
  c75 := by kernel_rfl
  c76 := by kernel_rfl
  c80 := by kernel_rfl
  c85 := by kernel_rfl
  c127 := by kernel_rfl
  c143 := by kernel_rfl
  c145 := by kernel_rfl
  c167 := by kernel_rfl
  c168 := by kernel_rfl
  c171 := by kernel_rfl
  c173 := by kernel_rfl
  c175 := by kernel_rfl
  c210 := by kernel_rfl
  c212 := by kernel_rfl
  c213 := by kernel_rfl
  c232 := by kernel_rfl
  c233 := by kernel_rfl }
def Tryd.laysM171_ren : Go.Shelf.Ren := ⟨fun | 171 => 37 | 243 => 46 | 246 => 53 | 283 => 57 | 284 => 58 | 285 => 59 | 286 => 60 | 129 => 64 | 317 => 63 | 318 => 65 | 319 => 66 | 320 => 67 | 337 => 68 | 338 => 69 | n => n, fun | 3 => 3 | 9 => 9 | 2 => 2 | 4 => 4 | 171 => 81 | 0 => 0 | 53 => 73 | 37 => 66 | 5 => 5 | 173 => 84 | 212 => 93 | 51 => 94 | 20 => 20 | 213 => 95 | 46 => 76 | 232 => 99 | 233 => 100 | n => n, fun | 17 => 2 | 18 => 3 | 19 => 4 | n => n⟩
theorem Tryd.laysM171 : Go.Proofs.LaysM.n171 Tryd.prog Tryd.laysM171_ren := {
  mixed := by kernel_rfl
  f129 := Tryd.func64.trans (congrArg some (by kernel_rfl))
  f171 := Tryd.func37.trans (congrArg some (by kernel_rfl))
  f243 := Tryd.func46.trans (congrArg some (by kernel_rfl))
  f246 := Tryd.func53.trans (congrArg some (by kernel_rfl))
  f283 := Tryd.func57.trans (congrArg some (by kernel_rfl))
  f284 := Tryd.func58.trans (congrArg some (by kernel_rfl))
  f285 := Tryd.func59.trans (congrArg some (by kernel_rfl))
  f286 := Tryd.func60.trans (congrArg some (by kernel_rfl))
  f317 := Tryd.func63.trans (congrArg some (by kernel_rfl))
  f318 := Tryd.func65.trans (congrArg some (by kernel_rfl))
  f319 := Tryd.func66.trans (congrArg some (by kernel_rfl))
  f320 := Tryd.func67.trans (congrArg some (by kernel_rfl))
  f337 := Tryd.func68.trans (congrArg some (by kernel_rfl))
  f338 := Tryd.func69.trans (congrArg some (by kernel_rfl))
  t0 := Tryd.underlying0
  a0 := Tryd.isAgg0
  z0 := Tryd.sizeOf0
  v0 := Tryd.zeroValue0
  t2 := Tryd.underlying2
  a2 := Tryd.isAgg2
  z2 := Tryd.sizeOf2
  v2 := Tryd.zeroValue2
  t3 := Tryd.underlying3
  a3 := Tryd.isAgg3
  z3 := Tryd.sizeOf3
  v3 := Tryd.zeroValue3
  t4 := Tryd.underlying4
  a4 := Tryd.isAgg4
  z4 := Tryd.sizeOf4
  v4 := Tryd.zeroValue4
  t5 := Tryd.underlying5
  a5 := Tryd.isAgg5
  z5 := Tryd.sizeOf5
  v5 := Tryd.zeroValue5
  t9 := Tryd.underlying9
  a9 := Tryd.isAgg9
  z9 := Tryd.sizeOf9
  v9 := Tryd.zeroValue9
  t20 := Tryd.underlying20
  a20 := Tryd.isAgg20
  z20 := Tryd.sizeOf20
  v20 := Tryd.zeroValue20
  t37 := Tryd.underlying66
  a37 := Tryd.isAgg66
  z37 := Tryd.sizeOf66
  v37 := Tryd.zeroValue66
  t46 := Tryd.underlying76
  a46 := Tryd.isAgg76
  z46 := Tryd.sizeOf76
  v46 := Tryd.zeroValue76
  t51 := Tryd.underlying94
  a51 := Tryd.isAgg94
  z51 := Tryd.sizeOf94
  v51 := Tryd.zeroValue94
  t53 := Tryd.underlying73
  a53 := Tryd.isAgg73
  z53 := Tryd.sizeOf73
  v53 := Tryd.zeroValue73
  t171 := Tryd.underlying81
  a171 := Tryd.isAgg81
  z171 := Tryd.sizeOf81
  v171 := Tryd.zeroValue81
  t173 := Tryd.underlying84
  a173 := Tryd.isAgg84
  z173 := Tryd.sizeOf84
  v173 := Tryd.zeroValue84
  t212 := Tryd.underlying93
  a212 := Tryd.isAgg93
  z212 := Tryd.sizeOf93
  v212 := Tryd.zeroValue93
  t213 := Tryd.underlying95
  a213 := Tryd.isAgg95
  z213 := Tryd.sizeOf95
  t232 := Tryd.underlying99
  a232 := Tryd.isAgg99
  z232 := Tryd.sizeOf99
  v232 := Tryd.zeroValue99
  t233 := Tryd.underlying100
  a233 := Tryd.isAgg100
  z233 := Tryd.sizeOf100
  v233 := Tryd.zeroValue100
  g17 := by kernel_rfl
  g18 := by kernel_rfl
  g19 := by kernel_rfl
  i0 := by kernel_rfl
  i2 := by kernel_rfl
  i3 := by kernel_rfl
  i4 := by kernel_rfl
  i5 := by kernel_rfl
  i9 := by kernel_rfl
  i20 := by kernel_rfl
  i37 := by kernel_rfl
  i46 := by kernel_rfl
  i51 := by kernel_rfl
  i53 := by kernel_rfl
  i171 := by kernel_rfl
  i173 := by kernel_rfl
  i212 := by kernel_rfl
  i232 := by kernel_rfl
  i233 := by kernel_rfl
  m17 := by kernel_rfl
  m18 := by kernel_rfl
  m19 := by kernel_rfl }



def ir_R_Dec : IR :=
  (.seq (.ops [.i 2 (.mov (.c (.one (.st (.str (ByteArray.mk (#[])))))))]) (.seq (.seq (.ops [.m 3 0, .i 4 (.bin .lss (.t 3) (.n 10))]) (.cond (.t 4) (.seq (.ops [.m 5 0, .i 6 (.bin .add (.n 48) (.t 5)), .i 7 (.conv .u8 (.t 6)), .i 8 (.buildFlat [.t 7]), .i 9 (.strOf (.t 8)), .m 2 9]) .ret) .skip)) (.seq (.ops [.m 10 0, .i 11 (.bin .quo (.t 10) (.n 10)), .i 12 (.call 47 [.t 11]), .m 13 0, .i 14 (.bin .rem (.t 13) (.n 10)), .i 15 (.call 47 [.t 14]), .i 16 (.bin .add (.t 12) (.t 15)), .m 2 16]) .ret)))
theorem ok_R_Dec : OkF Tryd.prog 47 17 [] ir_R_Dec [.t 2] := .of Tryd.func47 rfl rfl (by kernel_rfl) rfl



def ir_lambda_V : IR :=
  (.seq (.ops [.i 2 (.alloc 25 [.st (.int .i64 0), .st (.int .i64 0), .full []])]) (.seq (.ops [.m 3 0, .i 4 (.build [.st (.int .i64 0), .st (.int .i64 0), .full []] [(0, 1, .n 1), (1, 1, .t 3)]), .s 3 2 4]) .ret))
theorem ok_lambda_V : OkF Tryd.prog 35 5 [] ir_lambda_V [.cell 2 true 3] := .of Tryd.func35 rfl rfl (by kernel_rfl) rfl
def ir_R_SameLam : IR :=
  (.seq (.ops [.i 2 (.box 25 (.t 0)), .i 3 (.box 25 (.t 1)), .i 4 (.mov (.c (.one (.st (.bool false)))))]) (.seq (.seq (.ops [.f 6 0 2, .l 7 6, .f 8 0 3, .l 9 8, .i 10 (.bin .neq (.t 7) (.t 9)), .m 11 10, .mk (some 12) (some (11, false)) (.fieldAddr 1 (.t 2)) .no, .mk (some 13) (some (11, false)) (.load false 1 (.t 12)) .no, .mk (some 14) (some (11, false)) (.fieldAddr 1 (.t 3)) .no, .mk (some 15) (some (11, false)) (.load false 1 (.t 14)) .no, .mk (some 16) (some (11, false)) (.bin .neq (.t 13) (.t 15)) .no, .i 17 (.pick (.t 11) (.c (.one (.st (.bool true)))) (.t 16)), .m 18 17, .mk (some 19) (some (18, false)) (.fieldAddr 2 (.t 2)) .no, .mk (some 20) (some (18, false)) (.load false 1 (.t 19)) .no, .mk (some 21) (some (18, false)) (.len false (.t 20)) .no, .mk (some 22) (some (18, false)) (.fieldAddr 2 (.t 3)) .no, .mk (some 23) (some (18, false)) (.load false 1 (.t 22)) .no, .mk (some 24) (some (18, false)) (.len false (.t 23)) .no, .mk (some 25) (some (18, false)) (.bin .neq (.t 21) (.t 24)) .no, .i 26 (.pick (.t 18) (.c (.one (.st (.bool true)))) (.t 25))]) (.cond (.t 26) (.seq (.ops [.i 4 (.mov (.c (.one (.st (.bool false)))))]) .ret) .skip)) (.seq (.seq (.ops [.i 5 (.mov (.n 0))]) (.block 0 (.loop (.seq (.seq (.ops [.m 27 5, .f 28 2 2, .l 29 28, .i 30 (.len false (.t 29)), .i 31 (.bin .lss (.t 27) (.t 30))]) (.cond (.t 31) .skip (.exit 0))) (.seq (.block 1 (.seq (.ops [.f 34 2 2, .l 35 34, .m 36 5, .i 37 (.indexAddr 3 (.t 35) (.t 36)), .L 38 3 37, .f 39 2 3, .l 40 39, .m 41 5, .i 42 (.indexAddr 3 (.t 40) (.t 41)), .L 43 3 42, .i 44 (.call 13 [.t 38, .t 43]), .i 45 (.un .not (.t 44))]) (.cond (.t 45) (.seq (.ops [.i 4 (.mov (.c (.one (.st (.bool false)))))]) .ret) .skip))) (.ops [.m 32 5, .i 33 (.bin .add (.t 32) (.n 1)), .m 5 33])))))) (.seq (.ops [.i 4 (.mov (.c (.one (.st (.bool true)))))]) .ret))))
theorem ok_R_SameLam : OkF Tryd.prog 13 46 [] ir_R_SameLam [.t 4] := .of Tryd.func13 rfl rfl (by kernel_rfl) rfl
def ir_R_Var : IR :=
  (.seq (.ops [.i 2 (.alloc 25 [.st (.int .i64 0), .st (.int .i64 0), .full []])]) (.seq (.ops [.m 3 0, .i 4 (.build [.st (.int .i64 0), .st (.int .i64 0), .full []] [(0, 1, .n 1), (1, 1, .t 3)]), .s 3 2 4]) .ret))
theorem ok_R_Var : OkF Tryd.prog 40 5 [] ir_R_Var [.cell 2 true 3] := .of Tryd.func40 rfl rfl (by kernel_rfl) rfl
def ir_L_lam2 : IR :=
  (.seq (.ops [.i 4 (.box 25 (.t 0)), .i 6 (.box 25 (.t 2)), .i 8 (.mov (.c (.one (.st (.bool false)))))]) (.seq (.seq (.ops [.m 9 3, .i 10 (.bin .neq (.t 9) (.n 0))]) (.cond (.t 10) (.seq (.ops [.m 11 1, .m 12 3, .i 13 (.bin .eql (.t 11) (.t 12)), .m 14 13, .mk (some 15) (some (14, true)) (.fieldAddr 0 (.t 4)) .no, .mk (some 16) (some (14, true)) (.load false 1 (.t 15)) .no, .mk (some 17) (some (14, true)) (.bin .eql (.t 16) (.n 0)) .no, .i 18 (.pick (.t 14) (.t 17) (.c (.one (.st (.bool false))))), .m 19 18, .mk (some 20) (some (19, true)) (.fieldAddr 1 (.t 4)) .no, .mk (some 21) (some (19, true)) (.load false 1 (.t 20)) .no, .mk (some 22) (some (19, true)) (.bin .eql (.t 21) (.n 0)) .no, .i 23 (.pick (.t 19) (.t 22) (.c (.one (.st (.bool false))))), .m 24 23, .mk (some 25) (some (24, true)) (.fieldAddr 2 (.t 4)) .no, .mk (some 26) (some (24, true)) (.load false 1 (.t 25)) .no, .mk (some 27) (some (24, true)) (.len false (.t 26)) .no, .mk (some 28) (some (24, true)) (.bin .eql (.t 27) (.n 0)) .no, .i 29 (.pick (.t 24) (.t 28) (.c (.one (.st (.bool false))))), .m 8 29]) .ret) .skip)) (.seq (.ops [.m 30 1, .i 31 (.bin .eql (.t 30) (.n 0)), .m 32 31, .mk (some 33) (some (32, true)) (.load true 3 (.t 4)) .no, .mk (some 34) (some (32, true)) (.load true 3 (.t 6)) .no, .mk (some 35) (some (32, true)) (.call 13 [.t 33, .t 34]) .no, .i 36 (.pick (.t 32) (.t 35) (.c (.one (.st (.bool false))))), .m 8 36]) .ret)))
theorem ok_L_lam2 : OkF Tryd.prog 6 37 [] ir_L_lam2 [.t 8] := .of Tryd.func6 rfl rfl (by kernel_rfl) rfl


theorem lV_a (i : Int) : ACalls Tryd.prog 35 [aInt i] (aLm (.mk 1 i [])) := by
  refine ok_lambda_V.ac fun C hC => ?_
  unfold ir_lambda_V
  repeat' (first | (with_reducible first | refine W ?_ | refine Wz0 ?_) | ((with_reducible first | refine Wo (fun K hK => ?_) | refine Wp ?_ | refine Wq ?_ | refine Wr ?_); (try simp only [go_sem, fN, seval, eT, iR, dT, dF, nL]); (repeat with_reducible refine Ai ?_); (try (refine hK _ ?_; clear hK K)); (try with_reducible refine iC ?_)))
  simp only [go_sem, fN, seval, FinQ, AS.result, resAll, resOne, tupV]
  rfl
theorem lVar_a (i : Int) : ACalls Tryd.prog 40 [aInt i] (aLm (.mk 1 i [])) := by
  refine ok_R_Var.ac fun C hC => ?_
  unfold ir_R_Var
  repeat' (first | (with_reducible first | refine W ?_ | refine Wz0 ?_) | ((with_reducible first | refine Wo (fun K hK => ?_) | refine Wp ?_ | refine Wq ?_ | refine Wr ?_); (try simp only [go_sem, fN, seval, eT, iR, dT, dF, nL]); (repeat with_reducible refine Ai ?_); (try (refine hK _ ?_; clear hK K)); (try with_reducible refine iC ?_)))
  simp only [go_sem, fN, seval, FinQ, AS.result, resAll, resOne, tupV]
  rfl

theorem sameLam_a (t : Lm) : ACalls Tryd.prog 13 [aLm t, aLm t] (aBool true) := by
  induction h : SizeOf.sizeOf t using Nat.strongRecOn generalizing t with
  | _ N ih =>
  subst h
  refine ok_R_SameLam.ac fun C hC => ?_
  unfold ir_R_SameLam
  refine IWP.learn 0 (by omega) fun hkn => ?_
  have hkn := (known_lm hkn).2.2
  repeat' (first | (with_reducible first | refine W ?_ | refine Wz0 ?_) | ((with_reducible first | refine Wo (fun K hK => ?_) | refine Wp ?_ | refine Wq ?_ | refine Wr ?_); (try simp only [go_sem, fN, seval, eT, iR, dT, dF, nL]); (repeat with_reducible refine Ai ?_); (try (refine hK _ ?_; clear hK K)); (try with_reducible refine iC ?_)))
  refine IWP.loop (fun n s => ∃ k, k ≤ t.subs.length ∧ n = t.subs.length - k ∧ s.env 2 = .one (.ptr 2 1 0 0) ∧ s.env 3 = .one (.ptr 3 1 0 0) ∧ s.S 2 = some (.box 25 [.st (.int .i64 t.kind), .st (.int .i64 t.idx), .st (.list (t.subs.map encL))]) ∧ s.S 3 = some (.box 25 [.st (.int .i64 t.kind), .st (.int .i64 t.idx), .st (.list (t.subs.map encL))]) ∧ s.env 5 = aInt k) t.subs.length ⟨0, Nat.zero_le _, rfl, rfl, rfl, rfl, rfl, rfl⟩ ?_
  rintro n ⟨env, S⟩ ⟨k, hk', rfl, e2, e3, s2, s3, e5⟩
  simp only at e2 e3 s2 s3 e5
  by_cases hlt : (k : Int) < t.subs.length
  · obtain ⟨a, ha⟩ := get_lt (show k < t.subs.length by omega)
    repeat' (first | (with_reducible first | refine W ?_ | refine Wz0 ?_) | refine Cg _ (ih _ (Lm.lt_of_sub (mem_of_get ha)) a rfl) ?_ | ((with_reducible first | refine Wo (fun K hK => ?_) | refine Wp ?_ | refine Wq ?_ | refine Wr ?_); (try simp only [go_sem, fN, seval, eT, iR, e2, e3, s2, s3, e5, ha, hlt, dT, dF, nL]); (repeat with_reducible refine Ai ?_); (try (refine hK _ ?_; clear hK K)); (try with_reducible refine iC ?_)))
    refine then_normal ⟨t.subs.length - (k + 1), by omega, k + 1, by omega, rfl, ?_⟩
    simp only [go_sem, fN, seval, eT, iR, e2, e3, s2, s3, e5]
    congr 3
  · repeat' (first | (with_reducible first | refine W ?_ | refine Wz0 ?_) | ((with_reducible first | refine Wo (fun K hK => ?_) | refine Wp ?_ | refine Wq ?_ | refine Wr ?_); (try simp only [go_sem, fN, seval, eT, iR, e2, e3, s2, s3, e5, hlt, dT, dF, nL]); (repeat with_reducible refine Ai ?_); (try (refine hK _ ?_; clear hK K)); (try with_reducible refine iC ?_)))
    simp only [go_sem, fN, seval, FinQ, AS.result, resAll, resOne, tupV]
theorem lam2_a (r w : Lm) (e : Int) (h : (e ≠ 0 ∧ r = Lm.nil) ∨ (e = 0 ∧ r = w)) : ACalls Tryd.prog 6 [aLm r, aInt e, aLm w, aInt e] (aBool true) := by
  refine ok_L_lam2.ac fun C hC => ?_
  unfold ir_L_lam2
  rcases h with ⟨h, rfl⟩ | ⟨rfl, rfl⟩
  · repeat' (first | (with_reducible first | refine W ?_ | refine Wz0 ?_) | ((with_reducible first | refine Wo (fun K hK => ?_) | refine Wp ?_ | refine Wq ?_ | refine Wr ?_); (try simp only [go_sem, fN, seval, eT, iR, h, Lm.nil, dT, dF, nL]); (repeat with_reducible refine Ai ?_); (try (refine hK _ ?_; clear hK K)); (try with_reducible refine iC ?_)))
    simp only [go_sem, fN, seval, FinQ, AS.result, resAll, resOne, tupV]
    try simp
  · repeat' (first | (with_reducible first | refine W ?_ | refine Wz0 ?_) | refine Cg _ (sameLam_a r) ?_ | ((with_reducible first | refine Wo (fun K hK => ?_) | refine Wp ?_ | refine Wq ?_ | refine Wr ?_); (try simp only [go_sem, fN, seval, eT, iR, dT, dF, nL]); (repeat with_reducible refine Ai ?_); (try (refine hK _ ?_; clear hK K)); (try with_reducible refine iC ?_)))
    simp only [go_sem, fN, seval, FinQ, AS.result, resAll, resOne, tupV]

theorem dec2_le (n : Nat) : (dec2 n).size ≤ 2 := by
  unfold dec2
  split
  · exact Nat.le_succ 1
  · rw [ByteArray.size_append]
    exact Nat.le_refl 2
theorem c_fit (n : Nat) : (#[99] : Array UInt8).size + (dec2 n).size ≤ maxLen := by
  have h1 := dec2_le n
  have h2 : (#[99] : Array UInt8).size = 1 := rfl
  rw [maxLen_eq, h2]
  omega

theorem dec10_a (n : Nat) (h : n < 10) : ACalls Tryd.prog 47 [aInt n] (aStr (dec2 n)) := by
  have h1 : (n : Int) < 10 := by omega
  have hu : inR .u8 (48 + (n : Int)) := by
    simp [inR, IntKind.min, IntKind.max, IntKind.signed, IntKind.bits]
    omega
  have h3 : (48 + (n : Int)).toNat = 48 + n := by omega
  refine ok_R_Dec.ac fun C hC => ?_
  unfold ir_R_Dec
  repeat' (first | (with_reducible first | refine W ?_ | refine Wz0 ?_) | ((with_reducible first | refine Wo (fun K hK => ?_) | refine Wp ?_ | refine Wq ?_ | refine Wr ?_); (try simp only [go_sem, fN, seval, eT, iR, h1, hu, bytesOf, maxLen_eq, dT, dF, nL]); (repeat with_reducible refine Ai ?_); (try (refine hK _ ?_; clear hK K)); (try with_reducible refine iC ?_)))
  simp only [go_sem, fN, seval, FinQ, AS.result, resAll, resOne, tupV]
  simp [strOfNums, dec2, h, digit, h3]
theorem dec_a (n : Nat) (h : n < 100) : ACalls Tryd.prog 47 [aInt n] (aStr (dec2 n)) := by
  by_cases h1 : n < 10
  · exact dec10_a n h1
  · have h2 : ¬ (n : Int) < 10 := by omega
    have q1 : (n : Int).tdiv 10 = ((n / 10 : Nat) : Int) := rfl
    have q2 : (n : Int).tmod 10 = ((n % 10 : Nat) : Int) := rfl
    have e1 : dec2 (n / 10) = digit (n / 10) := if_pos (by omega)
    have e2 : dec2 (n % 10) = digit (n % 10) := if_pos (by omega)
    have b1 := dec2_le (n / 10)
    have b2 := dec2_le (n % 10)
    have b3 : (dec2 (n / 10)).size + (dec2 (n % 10)).size ≤ maxLen := by rw [maxLen_eq]; omega
    refine ok_R_Dec.ac fun C hC => ?_
    unfold ir_R_Dec
    repeat' (first | (with_reducible first | refine W ?_ | refine Wz0 ?_) | refine Cg _ (dec10_a (n / 10) (by omega)) ?_ | ((with_reducible first | refine Wo (fun K hK => ?_) | refine Wp ?_ | refine Wq ?_ | refine Wr ?_); (try simp only [go_sem, fN, seval, eT, iR, h2, q1, q2, dT, dF, nL]); (repeat with_reducible refine Ai ?_); (try (refine hK _ ?_; clear hK K)); (try with_reducible refine iC ?_)))
    refine ⟨_, dec10_a (n % 10) (by omega), ?_⟩
    repeat' (first | (with_reducible first | refine W ?_ | refine Wz0 ?_) | ((with_reducible first | refine Wo (fun K hK => ?_) | refine Wp ?_ | refine Wq ?_ | refine Wr ?_); (try simp only [go_sem, fN, seval, eT, iR, b3, dT, dF, nL]); (repeat with_reducible refine Ai ?_); (try (refine hK _ ?_; clear hK K)); (try with_reducible refine iC ?_)))
    simp only [go_sem, fN, seval, FinQ, AS.result, resAll, resOne, tupV]
    rw [e1, e2]
    simp [dec2, h1]

def aErr : AV := .one (.st .err)
def aNilI : AV := .one (.st (.lit .nilIface))
theorem tup2 {σ : Sto} {a b : Value} {x y : AV} (ha : VRep σ noS noH a x) (hb : VRep σ noS noH b y) : VRep σ noS noH (.tuple #[a, b]) (.tup [x, y]) :=
  .tup (fun j => if j = 0 then a else b) rfl (fun j u hj => by
    match j, hj with
    | 0, _ => rfl
    | 1, _ => rfl
    | j + 2, hj => simp at hj) (fun j u hj => by
    match j, hj with
    | 0, hj => cases hj; exact ha
    | 1, hj => cases hj; exact hb
    | j + 2, hj => simp at hj)
theorem one_arg {σ : Sto} {vs : List Value} {x : AV} (h : All2 (VRep σ noS noH) vs [x]) : ∃ v, vs = [v] ∧ VRep σ noS noH v x := by
  cases h with
  | cons h1 h2 =>
    cases h2
    exact ⟨_, rfl, h1⟩
theorem atoi_a (s : ByteArray) (n : Int) (hz : s.size ≤ 18) (h : Lib.atoi s.data.toList = some n) : ACalls Tryd.prog 36 [aStr s] (.tup [aInt n, aNilI]) := by
  intro σ w vs hG hF hv
  obtain ⟨v, rfl, h1⟩ := one_arg hv
  obtain ⟨rfl, _⟩ := vrep_str h1
  refine (Any.strconv_Atoi Tryd.lays172 s n hz h w).mono fun e w' ⟨he, t, hw⟩ => ?_
  have hb : Below w.heap.size w w' := by
    rw [hw]
    exact Lib.bytesWorld_below _ _ _
  have hr := atoi_range hz h
  exact ⟨_, σ, he, tup2 (.one (.st (.int (by rw [inR_i64]; exact hr)))) (.one (.st (.lit rfl))), hF.below hb, Ext.refl _ _, hb⟩
theorem atoi_no (s : ByteArray) (hz : s.size ≤ 18) (h : Lib.atoi s.data.toList = none) : ACalls Tryd.prog 36 [aStr s] (.tup [aInt 0, aErr]) := by
  intro σ w vs hG hF hv
  obtain ⟨v, rfl, h1⟩ := one_arg hv
  obtain ⟨rfl, _⟩ := vrep_str h1
  obtain ⟨ev, h2, h3⟩ := hG.cell hF (g := 0) (a := .err) (by kernel_rfl)
  obtain ⟨te, pe, rfl⟩ : ∃ te pe, ev = .iface te pe := by
    cases h3
    exact ⟨_, _, rfl⟩
  refine (Any.strconv_Atoi_err Tryd.laysC172 s hz h _ w h2 (Or.inr ⟨te, pe, rfl⟩)).mono fun e w' ⟨N, he, _, _, hb⟩ => ?_
  exact ⟨_, σ, he, tup2 (.one (.st (.int (by rw [inR_i64]; omega)))) (.one (.st .err)), hF.below hb, Ext.refl _ _, hb⟩
theorem itoaAll_a (n : Int) : ACalls Tryd.prog 37 [aInt n] (aStr ⟨(Lib.itoa n).toArray⟩) := by
  intro σ w vs hG hF hv
  obtain ⟨v, rfl, h1⟩ := one_arg hv
  obtain ⟨rfl, hn⟩ := vrep_int h1
  rw [inR_i64] at hn
  have ht : Lib.TabIs Tryd.prog w "internal/strconv.uint64pow10" .u64 Lib.pow10Tab := hG.ints hF (g := 2) (by kernel_rfl) (by kernel_rfl)
  refine (Any.strconv_Itoa Tryd.laysM171 n hn.1 hn.2 w ht).mono fun e w' ⟨he, k, os, hw⟩ => ?_
  have hb : Below w.heap.size w w' := by
    rw [hw]
    exact Lib.below_grow _ _ (Nat.le_refl _) _ _
  refine ⟨_, σ, he, .one (.st (.str ?_)), hF.below hb, Ext.refl _ _, hb⟩
  have hl := Lib.itoa_length_le n hn.1 hn.2
  have hs : (⟨(Lib.itoa n).toArray⟩ : ByteArray).size = (Lib.itoa n).length := by simp [ByteArray.size]
  rw [hs, maxLen_eq]
  omega

def ir_lambda_A : IR :=
  (.seq (.ops [.i 2 (.box 25 (.t 0)), .i 3 (.box 25 (.t 1)), .i 4 (.alloc 25 [.st (.int .i64 0), .st (.int .i64 0), .full []])]) (.seq (.ops [.L 5 3 2, .L 6 3 3, .i 7 (.buildSlice false 25 3 [.t 5, .t 6]), .i 8 (.build [.st (.int .i64 0), .st (.int .i64 0), .full []] [(0, 1, .n 3), (2, 1, .t 7)]), .s 3 4 8]) .ret))
theorem ok_lambda_A : OkF Tryd.prog 22 9 [] ir_lambda_A [.cell 4 true 3] := .of Tryd.func22 rfl rfl (by kernel_rfl) rfl
def ir_lambda_L : IR :=
  (.seq (.ops [.i 1 (.box 25 (.t 0)), .i 2 (.alloc 25 [.st (.int .i64 0), .st (.int .i64 0), .full []])]) (.seq (.ops [.L 3 3 1, .i 4 (.buildSlice false 25 3 [.t 3]), .i 5 (.build [.st (.int .i64 0), .st (.int .i64 0), .full []] [(0, 1, .n 2), (2, 1, .t 4)]), .s 3 2 5]) .ret))
theorem ok_lambda_L : OkF Tryd.prog 20 6 [] ir_lambda_L [.cell 2 true 3] := .of Tryd.func20 rfl rfl (by kernel_rfl) rfl
def ir_R_App : IR :=
  (.seq (.ops [.i 2 (.box 25 (.t 0)), .i 3 (.box 25 (.t 1)), .i 4 (.alloc 25 [.st (.int .i64 0), .st (.int .i64 0), .full []])]) (.seq (.ops [.L 5 3 2, .L 6 3 3, .i 7 (.buildSlice false 25 3 [.t 5, .t 6]), .i 8 (.build [.st (.int .i64 0), .st (.int .i64 0), .full []] [(0, 1, .n 3), (2, 1, .t 7)]), .s 3 4 8]) .ret))
theorem ok_R_App : OkF Tryd.prog 31 9 [] ir_R_App [.cell 4 true 3] := .of Tryd.func31 rfl rfl (by kernel_rfl) rfl
def ir_R_Fun : IR :=
  (.seq (.ops [.i 1 (.box 25 (.t 0)), .i 2 (.alloc 25 [.st (.int .i64 0), .st (.int .i64 0), .full []])]) (.seq (.ops [.L 3 3 1, .i 4 (.buildSlice false 25 3 [.t 3]), .i 5 (.build [.st (.int .i64 0), .st (.int .i64 0), .full []] [(0, 1, .n 2), (2, 1, .t 4)]), .s 3 2 5]) .ret))
theorem ok_R_Fun : OkF Tryd.prog 29 6 [] ir_R_Fun [.cell 2 true 3] := .of Tryd.func29 rfl rfl (by kernel_rfl) rfl

theorem lA_a (f x : Lm) : ACalls Tryd.prog 22 [aLm f, aLm x] (aLm (Lm.a f x)) := by
  refine ok_lambda_A.ac fun C hC => ?_
  unfold ir_lambda_A
  repeat' (first | (with_reducible first | refine W ?_ | refine Wz0 ?_) | ((with_reducible first | refine Wo (fun K hK => ?_) | refine Wp ?_ | refine Wq ?_ | refine Wr ?_); (try simp only [go_sem, fN, seval, eT, iR, dT, dF, nL]); (repeat with_reducible refine Ai ?_); (try (refine hK _ ?_; clear hK K)); (try with_reducible refine iC ?_)))
  simp only [go_sem, fN, seval, FinQ, AS.result, resAll, resOne, tupV]
  simp [Lm.a, Lm.kind_mk, Lm.idx_mk, Lm.subs_mk, encL_eq]
theorem lApp_a (f x : Lm) : ACalls Tryd.prog 31 [aLm f, aLm x] (aLm (Lm.a f x)) := by
  refine ok_R_App.ac fun C hC => ?_
  unfold ir_R_App
  repeat' (first | (with_reducible first | refine W ?_ | refine Wz0 ?_) | ((with_reducible first | refine Wo (fun K hK => ?_) | refine Wp ?_ | refine Wq ?_ | refine Wr ?_); (try simp only [go_sem, fN, seval, eT, iR, dT, dF, nL]); (repeat with_reducible refine Ai ?_); (try (refine hK _ ?_; clear hK K)); (try with_reducible refine iC ?_)))
  simp only [go_sem, fN, seval, FinQ, AS.result, resAll, resOne, tupV]
  simp [Lm.a, Lm.kind_mk, Lm.idx_mk, Lm.subs_mk, encL_eq]
theorem lL_a (t : Lm) : ACalls Tryd.prog 20 [aLm t] (aLm (Lm.l t)) := by
  refine ok_lambda_L.ac fun C hC => ?_
  unfold ir_lambda_L
  repeat' (first | (with_reducible first | refine W ?_ | refine Wz0 ?_) | ((with_reducible first | refine Wo (fun K hK => ?_) | refine Wp ?_ | refine Wq ?_ | refine Wr ?_); (try simp only [go_sem, fN, seval, eT, iR, dT, dF, nL]); (repeat with_reducible refine Ai ?_); (try (refine hK _ ?_; clear hK K)); (try with_reducible refine iC ?_)))
  simp only [go_sem, fN, seval, FinQ, AS.result, resAll, resOne, tupV]
  simp [Lm.l, Lm.kind_mk, Lm.idx_mk, Lm.subs_mk, encL_eq]
theorem lFun_a (t : Lm) : ACalls Tryd.prog 29 [aLm t] (aLm (Lm.l t)) := by
  refine ok_R_Fun.ac fun C hC => ?_
  unfold ir_R_Fun
  repeat' (first | (with_reducible first | refine W ?_ | refine Wz0 ?_) | ((with_reducible first | refine Wo (fun K hK => ?_) | refine Wp ?_ | refine Wq ?_ | refine Wr ?_); (try simp only [go_sem, fN, seval, eT, iR, dT, dF, nL]); (repeat with_reducible refine Ai ?_); (try (refine hK _ ?_; clear hK K)); (try with_reducible refine iC ?_)))
  simp only [go_sem, fN, seval, FinQ, AS.result, resAll, resOne, tupV]
  simp [Lm.l, Lm.kind_mk, Lm.idx_mk, Lm.subs_mk, encL_eq]

end Go.Proofs.YtgpaahlkjibihaaDoor
