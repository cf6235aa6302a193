/-
  Part 6 of the texts: BTerm; BVars; PPair; PGen; PLShow; PLBack; IrLNames; BLNames; PLFree; IrLRead2; IrLRead; IrLParse; BDefer; BLParse; BEnds; BEndsP; IrParse; BRead; BLRead; AbsX; IrBack; BMemo; BBack. Conditions: none.
-/
import Derived.Test.YtaedkffopponhaaDoorToN5
import Derived.Lib.ItoaNum
import Derived.Defers
import Derived.Recover
import Derived.ChangeKeysEq
namespace Go.Proofs.YtaedkffopponhaaDoor
open Go Go.RowKit
set_option linter.unusedVariables false
set_option linter.unusedSimpArgs false
set_option maxHeartbeats 400000
theorem byteN_eq (s : ByteArray) (k : Nat) : byteN s k = byteAt s k := rfl
theorem letter_a (n : Int) (h0 : 0 ≤ n) : ACalls Tryd.prog 33 [.one (.st (.int .u8 n))] (aBool (letterI n)) := by
  refine ok_term_letter.ac fun C hC => ?_
  unfold ir_term_letter
  have hc : (97 ≤ n ∧ n ≤ 122) ∨ (122 < n) ∨ (n < 97 ∧ 65 ≤ n ∧ n ≤ 90) ∨ (n < 97 ∧ 90 < n) ∨ (n < 65 ∧ 48 ≤ n ∧ n ≤ 57) ∨ (n < 65 ∧ 57 < n) ∨ (n < 48) := by omega
  rcases hc with h | h | h | h | h | h | h
  · have h1 : 97 ≤ n := h.1
    have h2 : n ≤ 122 := h.2
    repeat' (first | (with_reducible first | refine W ?_ | refine Wz0 ?_) | ((with_reducible first | refine Wo (fun K hK => ?_) | refine Wq ?_ | refine Wr ?_); (try simp only [go_sem, fN, seval, eT, iR, h1, h2]); (repeat with_reducible refine Ai ?_); (try (refine hK _ ?_; clear hK K))))
    simp only [go_sem, fN, seval, FinQ, AS.result, resAll, resOne, tupV, letterI, h1, h2]
    try simp
  · have h1 : 97 ≤ n := by omega
    have h2 : ¬ n ≤ 122 := by omega
    have h3 : 65 ≤ n := by omega
    have h4 : ¬ n ≤ 90 := by omega
    have h5 : 48 ≤ n := by omega
    have h6 : ¬ n ≤ 57 := by omega
    repeat' (first | (with_reducible first | refine W ?_ | refine Wz0 ?_) | ((with_reducible first | refine Wo (fun K hK => ?_) | refine Wq ?_ | refine Wr ?_); (try simp only [go_sem, fN, seval, eT, iR, h1, h2, h3, h4, h5, h6]); (repeat with_reducible refine Ai ?_); (try (refine hK _ ?_; clear hK K))))
    simp only [go_sem, fN, seval, FinQ, AS.result, resAll, resOne, tupV, letterI, h1, h2, h3, h4, h5, h6]
    try simp
  · have h1 : ¬ 97 ≤ n := by omega
    have h3 : 65 ≤ n := by omega
    have h4 : n ≤ 90 := by omega
    repeat' (first | (with_reducible first | refine W ?_ | refine Wz0 ?_) | ((with_reducible first | refine Wo (fun K hK => ?_) | refine Wq ?_ | refine Wr ?_); (try simp only [go_sem, fN, seval, eT, iR, h1, h3, h4]); (repeat with_reducible refine Ai ?_); (try (refine hK _ ?_; clear hK K))))
    simp only [go_sem, fN, seval, FinQ, AS.result, resAll, resOne, tupV, letterI, h1, h3, h4]
    try simp
  · have h1 : ¬ 97 ≤ n := by omega
    have h3 : 65 ≤ n := by omega
    have h4 : ¬ n ≤ 90 := by omega
    have h5 : 48 ≤ n := by omega
    have h6 : ¬ n ≤ 57 := by omega
    repeat' (first | (with_reducible first | refine W ?_ | refine Wz0 ?_) | ((with_reducible first | refine Wo (fun K hK => ?_) | refine Wq ?_ | refine Wr ?_); (try simp only [go_sem, fN, seval, eT, iR, h1, h3, h4, h5, h6]); (repeat with_reducible refine Ai ?_); (try (refine hK _ ?_; clear hK K))))
    simp only [go_sem, fN, seval, FinQ, AS.result, resAll, resOne, tupV, letterI, h1, h3, h4, h5, h6]
    try simp
  · have h1 : ¬ 97 ≤ n := by omega
    have h3 : ¬ 65 ≤ n := by omega
    have h5 : 48 ≤ n := by omega
    have h6 : n ≤ 57 := by omega
    repeat' (first | (with_reducible first | refine W ?_ | refine Wz0 ?_) | ((with_reducible first | refine Wo (fun K hK => ?_) | refine Wq ?_ | refine Wr ?_); (try simp only [go_sem, fN, seval, eT, iR, h1, h3, h5, h6]); (repeat with_reducible refine Ai ?_); (try (refine hK _ ?_; clear hK K))))
    simp only [go_sem, fN, seval, FinQ, AS.result, resAll, resOne, tupV, letterI, h1, h3, h5, h6]
    try simp
  · have h1 : ¬ 97 ≤ n := by omega
    have h3 : ¬ 65 ≤ n := by omega
    have h5 : 48 ≤ n := by omega
    have h6 : ¬ n ≤ 57 := by omega
    repeat' (first | (with_reducible first | refine W ?_ | refine Wz0 ?_) | ((with_reducible first | refine Wo (fun K hK => ?_) | refine Wq ?_ | refine Wr ?_); (try simp only [go_sem, fN, seval, eT, iR, h1, h3, h5, h6]); (repeat with_reducible refine Ai ?_); (try (refine hK _ ?_; clear hK K))))
    simp only [go_sem, fN, seval, FinQ, AS.result, resAll, resOne, tupV, letterI, h1, h3, h5, h6]
    try simp
  · have h1 : ¬ 97 ≤ n := by omega
    have h3 : ¬ 65 ≤ n := by omega
    have h5 : ¬ 48 ≤ n := by omega
    repeat' (first | (with_reducible first | refine W ?_ | refine Wz0 ?_) | ((with_reducible first | refine Wo (fun K hK => ?_) | refine Wq ?_ | refine Wr ?_); (try simp only [go_sem, fN, seval, eT, iR, h1, h3, h5]); (repeat with_reducible refine Ai ?_); (try (refine hK _ ?_; clear hK K))))
    simp only [go_sem, fN, seval, FinQ, AS.result, resAll, resOne, tupV, letterI, h1, h3, h5]
    try simp
theorem nameOk_eq (s : ByteArray) (h1 : 1 ≤ s.size) (h8 : s.size ≤ 8) (hd : ¬ (48 ≤ byteAt s 0 ∧ byteAt s 0 ≤ 57)) : nameOk s = lettersTo s s.size := by
  unfold nameOk
  have : (decide (48 ≤ byteAt s 0) && decide (byteAt s 0 ≤ 57)) = false := by
    rw [Bool.and_eq_false_iff]
    simp
    omega
  rw [this]
  simp [h1, h8]
theorem name_a (s : ByteArray) : ACalls Tryd.prog 21 [aStr s] (aBool (nameOk s)) := by
  by_cases h0 : s.size < 1
  · have e : nameOk s = false := by simp [nameOk]; omega
    rw [e]
    have h0' : (s.size : Int) < 1 := by omega
    refine ok_term_Name.ac fun C hC => ?_
    unfold ir_term_Name
    repeat' (first | (with_reducible first | refine W ?_ | refine Wz0 ?_) | ((with_reducible first | refine Wo (fun K hK => ?_) | refine Wq ?_ | refine Wr ?_); (try simp only [go_sem, fN, seval, eT, iR, h0']); (repeat with_reducible refine Ai ?_); (try (refine hK _ ?_; clear hK K))))
    with_reducible refine Wp ?_
    simp only [go_sem, fN, seval, true_implies, false_implies, implies_true, dT, dF, nL, h0']
    (try with_reducible refine iC ?_)
    repeat' (first | (with_reducible first | refine W ?_ | refine Wz0 ?_) | ((with_reducible first | refine Wo (fun K hK => ?_) | refine Wq ?_ | refine Wr ?_); (try simp only [go_sem, fN, seval, eT, iR]); (repeat with_reducible refine Ai ?_); (try (refine hK _ ?_; clear hK K))))
    simp only [go_sem, fN, seval, FinQ, AS.result, resAll, resOne, tupV]
  have h0' : ¬ (s.size : Int) < 1 := by omega
  by_cases h8 : 8 < s.size
  · have e : nameOk s = false := by simp [nameOk]; omega
    rw [e]
    have h8' : (8 : Int) < s.size := by omega
    refine ok_term_Name.ac fun C hC => ?_
    unfold ir_term_Name
    repeat' (first | (with_reducible first | refine W ?_ | refine Wz0 ?_) | ((with_reducible first | refine Wo (fun K hK => ?_) | refine Wq ?_ | refine Wr ?_); (try simp only [go_sem, fN, seval, eT, iR, h0', h8']); (repeat with_reducible refine Ai ?_); (try (refine hK _ ?_; clear hK K))))
    with_reducible refine Wp ?_
    simp only [go_sem, fN, seval, true_implies, false_implies, implies_true, dT, dF, nL, h0']
    (try with_reducible refine iC ?_)
    repeat' (first | (with_reducible first | refine W ?_ | refine Wz0 ?_) | ((with_reducible first | refine Wo (fun K hK => ?_) | refine Wq ?_ | refine Wr ?_); (try simp only [go_sem, fN, seval, eT, iR]); (repeat with_reducible refine Ai ?_); (try (refine hK _ ?_; clear hK K))))
    simp only [go_sem, fN, seval, FinQ, AS.result, resAll, resOne, tupV]
  have h8' : ¬ (8 : Int) < s.size := by omega
  have hpos : 0 < s.size := by omega
  by_cases hd : 48 ≤ byteAt s 0 ∧ byteAt s 0 ≤ 57
  · have e : nameOk s = false := by simp [nameOk, hd.1, hd.2]
    rw [e]
    refine ok_term_Name.ac fun C hC => ?_
    unfold ir_term_Name
    repeat' (first | (with_reducible first | refine W ?_ | refine Wz0 ?_) | ((with_reducible first | refine Wo (fun K hK => ?_) | refine Wq ?_ | refine Wr ?_); (try simp only [go_sem, fN, seval, eT, iR, h0', h8', hpos, byteN_eq, hd.1, hd.2]); (repeat with_reducible refine Ai ?_); (try (refine hK _ ?_; clear hK K))))
    with_reducible refine Wp ?_
    simp only [go_sem, fN, seval, true_implies, false_implies, implies_true, dT, dF, nL, h0']
    (try with_reducible refine iC ?_)
    repeat' (first | (with_reducible first | refine W ?_ | refine Wz0 ?_) | ((with_reducible first | refine Wo (fun K hK => ?_) | refine Wq ?_ | refine Wr ?_); (try simp only [go_sem, fN, seval, eT, iR]); (repeat with_reducible refine Ai ?_); (try (refine hK _ ?_; clear hK K))))
    simp only [go_sem, fN, seval, FinQ, AS.result, resAll, resOne, tupV]
  rw [nameOk_eq s (by omega) (by omega) hd]
  have hd2 : (48 ≤ byteAt s 0 ∧ ¬ byteAt s 0 ≤ 57) ∨ (¬ 48 ≤ byteAt s 0) := by omega
  refine ok_term_Name.ac fun C hC => ?_
  unfold ir_term_Name
  have h57 : 48 ≤ byteAt s 0 → ¬ byteAt s 0 ≤ 57 := fun h h' => hd ⟨h, h'⟩
  by_cases h48 : 48 ≤ byteAt s 0
  all_goals
    simp only [h48, true_implies, false_implies] at h57
    repeat' (first | (with_reducible first | refine W ?_ | refine Wz0 ?_) | ((with_reducible first | refine Wo (fun K hK => ?_) | refine Wq ?_ | refine Wr ?_); (try simp only [go_sem, fN, seval, eT, iR, h0', h8', hpos, byteN_eq, h48, h57]); (repeat with_reducible refine Ai ?_); (try (refine hK _ ?_; clear hK K))))
    with_reducible refine Wp ?_
    simp only [go_sem, fN, seval, true_implies, false_implies, implies_true, dT, dF, nL, h0']
    (try with_reducible refine iC ?_)
    repeat' (first | (with_reducible first | refine W ?_ | refine Wz0 ?_) | ((with_reducible first | refine Wo (fun K hK => ?_) | refine Wq ?_ | refine Wr ?_); (try simp only [go_sem, fN, seval, eT, iR]); (repeat with_reducible refine Ai ?_); (try (refine hK _ ?_; clear hK K))))
    refine IWP.loop (fun m x => ∃ k, k ≤ s.size ∧ m = s.size - k ∧ lettersTo s k = true ∧ x.env 0 = aStr s ∧ x.env 23 = aInt s.size ∧ x.env 24 = aInt k) s.size ⟨0, Nat.zero_le _, rfl, rfl, rfl, rfl, rfl⟩ ?_
    rintro m ⟨env, S⟩ ⟨k, hk, rfl, hl, e0, e23, e24⟩
    simp only at e0 e23 e24
    repeat' (first | (with_reducible first | refine W ?_ | refine Wz0 ?_) | ((with_reducible first | refine Wo (fun K hK => ?_) | refine Wq ?_ | refine Wr ?_); (try simp only [go_sem, fN, seval, eT, iR, e0, e23, e24]); (repeat with_reducible refine Ai ?_); (try (refine hK _ ?_; clear hK K))))
    with_reducible refine Wp ?_
    simp only [go_sem, fN, seval, true_implies, false_implies, implies_true, dT, dF, nL, e0, e23, e24]
    (try with_reducible refine iC ?_)
    refine ⟨fun hlt => ?_, fun hge => ?_⟩
    · have hlt' : k < s.size := by omega
      repeat' (first | (with_reducible first | refine W ?_ | refine Wz0 ?_) | refine Cg _ (letter_a _ (byteAt_range s k).1) ?_ | ((with_reducible first | refine Wo (fun K hK => ?_) | refine Wq ?_ | refine Wr ?_); (try simp only [go_sem, fN, seval, eT, iR, e0, e23, e24, hlt', byteN_eq]); (repeat with_reducible refine Ai ?_); (try (refine hK _ ?_; clear hK K))))
      with_reducible refine Wp ?_
      simp only [go_sem, fN, seval, true_implies, false_implies, implies_true, dT, dF, nL]
      (try with_reducible refine iC ?_)
      refine ⟨fun hn => ?_, fun hn => ?_⟩
      · repeat' (first | (with_reducible first | refine W ?_ | refine Wz0 ?_) | ((with_reducible first | refine Wo (fun K hK => ?_) | refine Wq ?_ | refine Wr ?_); (try simp only [go_sem, fN, seval, eT, iR]); (repeat with_reducible refine Ai ?_); (try (refine hK _ ?_; clear hK K))))
        simp only [go_sem, fN, seval, FinQ, AS.result, resAll, resOne, tupV]
        rw [lettersTo_no s k hlt' (by simpa using hn)]
      · repeat' (first | (with_reducible first | refine W ?_ | refine Wz0 ?_) | ((with_reducible first | refine Wo (fun K hK => ?_) | refine Wq ?_ | refine Wr ?_); (try simp only [go_sem, fN, seval, eT, iR, e0, e23, e24]); (repeat with_reducible refine Ai ?_); (try (refine hK _ ?_; clear hK K))))
        refine then_normal ⟨s.size - (k + 1), by omega, k + 1, by omega, rfl, ?_, ?_⟩
        · rw [lettersTo_succ s k hlt', hl]
          simpa using hn
        · simp only [go_sem, fN, seval, eT, iR, e0, e23, e24]
          congr 3
    · repeat' (first | (with_reducible first | refine W ?_ | refine Wz0 ?_) | ((with_reducible first | refine Wo (fun K hK => ?_) | refine Wq ?_ | refine Wr ?_); (try simp only [go_sem, fN, seval, eT, iR]); (repeat with_reducible refine Ai ?_); (try (refine hK _ ?_; clear hK K))))
      simp only [go_sem, fN, seval, FinQ, AS.result, resAll, resOne, tupV]
      rw [show s.size = k by omega, hl]
theorem index_a (l : List ByteArray) (x : ByteArray) : ∃ i : Int, ACalls Tryd.prog 34 [aStrs l, aStr x] (aInt i) ∧ (0 ≤ i ↔ isIn x l = true) := by
  by_cases hin : isIn x l = true
  · obtain ⟨k0, hk0, hmin⟩ : ∃ k, l[k]? = some x ∧ ∀ j, j < k → l[j]? ≠ some x := by
      have hx := isIn_iff.1 hin
      have ⟨k, hk⟩ := List.getElem?_of_mem hx
      induction k using Nat.strongRecOn with
      | _ k ih =>
        by_cases h : ∃ j, j < k ∧ l[j]? = some x
        · obtain ⟨j, hj, hjx⟩ := h
          exact ih j hj hjx
        · exact ⟨k, hk, fun j hj hjx => h ⟨j, hj, hjx⟩⟩
    have hlt0 := lt_of_get hk0
    refine ⟨k0, ?_, by simp [hin]⟩
    refine ok_slices_Index_string_string.ac fun C hC => ?_
    unfold ir_slices_Index_string_string
    refine IWP.learn 0 (by omega) fun hkn => ?_
    have hkn := known_len hkn
    rw [List.length_map] at hkn
    repeat' (first | (with_reducible first | refine W ?_ | refine Wz0 ?_) | ((with_reducible first | refine Wo (fun K hK => ?_) | refine Wq ?_ | refine Wr ?_); (try simp only [go_sem, fN, seval, eT, iR]); (repeat with_reducible refine Ai ?_); (try (refine hK _ ?_; clear hK K))))
    refine IWP.loop (fun n s => ∃ k, k ≤ k0 ∧ n = k0 - k ∧ s.env 0 = aStrs l ∧ s.env 1 = aStr x ∧ s.env 7 = aInt l.length ∧ s.env 8 = aInt k) k0 ⟨0, Nat.zero_le _, rfl, rfl, rfl, rfl, rfl⟩ ?_
    rintro n ⟨env, S⟩ ⟨k, hk, rfl, e0, e1, e7, e8⟩
    simp only at e0 e1 e7 e8
    have hlt : (k : Int) < l.length := by omega
    repeat' (first | (with_reducible first | refine W ?_ | refine Wz0 ?_) | ((with_reducible first | refine Wo (fun K hK => ?_) | refine Wq ?_ | refine Wr ?_); (try simp only [go_sem, fN, seval, eT, iR, e0, e1, e7, e8, hlt]); (repeat with_reducible refine Ai ?_); (try (refine hK _ ?_; clear hK K))))
    with_reducible refine Wp ?_
    simp only [go_sem, fN, seval, true_implies, false_implies, implies_true, dT, dF, nL, e0, e1, e7, e8, hlt]
    (try with_reducible refine iC ?_)
    obtain ⟨a, ha⟩ := get_lt (show k < l.length by omega)
    repeat' (first | (with_reducible first | refine W ?_ | refine Wz0 ?_) | ((with_reducible first | refine Wo (fun K hK => ?_) | refine Wq ?_ | refine Wr ?_); (try simp only [go_sem, fN, seval, eT, iR, e0, e1, e7, e8, ha]); (repeat with_reducible refine Ai ?_); (try (refine hK _ ?_; clear hK K))))
    by_cases he : k = k0
    · subst he
      rw [hk0] at ha
      cases ha
      with_reducible refine Wp ?_
      simp only [go_sem, fN, seval, true_implies, false_implies, implies_true, dT, dF, nL]
      (try with_reducible refine iC ?_)
      repeat' (first | (with_reducible first | refine W ?_ | refine Wz0 ?_) | ((with_reducible first | refine Wo (fun K hK => ?_) | refine Wq ?_ | refine Wr ?_); (try simp only [go_sem, fN, seval, eT, iR, e0, e1, e7, e8]); (repeat with_reducible refine Ai ?_); (try (refine hK _ ?_; clear hK K))))
      simp only [go_sem, fN, seval, FinQ, AS.result, resAll, resOne, tupV]
    · have hne : ¬ x = a := fun e => hmin k (by omega) (by rw [ha, e])
      with_reducible refine Wp ?_
      simp only [go_sem, fN, seval, true_implies, false_implies, implies_true, dT, dF, nL, hne]
      (try with_reducible refine iC ?_)
      repeat' (first | (with_reducible first | refine W ?_ | refine Wz0 ?_) | ((with_reducible first | refine Wo (fun K hK => ?_) | refine Wq ?_ | refine Wr ?_); (try simp only [go_sem, fN, seval, eT, iR, e0, e1, e7, e8]); (repeat with_reducible refine Ai ?_); (try (refine hK _ ?_; clear hK K))))
      refine then_normal ⟨k0 - (k + 1), by omega, k + 1, by omega, rfl, ?_⟩
      simp only [go_sem, fN, seval, eT, iR, e0, e1, e7, e8]
      congr 3
  · rw [Bool.not_eq_true] at hin
    refine ⟨-1, ?_, by simp [hin]⟩
    refine ok_slices_Index_string_string.ac fun C hC => ?_
    unfold ir_slices_Index_string_string
    refine IWP.learn 0 (by omega) fun hkn => ?_
    have hkn := known_len hkn
    rw [List.length_map] at hkn
    repeat' (first | (with_reducible first | refine W ?_ | refine Wz0 ?_) | ((with_reducible first | refine Wo (fun K hK => ?_) | refine Wq ?_ | refine Wr ?_); (try simp only [go_sem, fN, seval, eT, iR]); (repeat with_reducible refine Ai ?_); (try (refine hK _ ?_; clear hK K))))
    refine IWP.loop (fun n s => ∃ k, k ≤ l.length ∧ n = l.length - k ∧ s.env 0 = aStrs l ∧ s.env 1 = aStr x ∧ s.env 7 = aInt l.length ∧ s.env 8 = aInt k) l.length ⟨0, Nat.zero_le _, rfl, rfl, rfl, rfl, rfl⟩ ?_
    rintro n ⟨env, S⟩ ⟨k, hk, rfl, e0, e1, e7, e8⟩
    simp only at e0 e1 e7 e8
    by_cases hlt : (k : Int) < l.length
    · repeat' (first | (with_reducible first | refine W ?_ | refine Wz0 ?_) | ((with_reducible first | refine Wo (fun K hK => ?_) | refine Wq ?_ | refine Wr ?_); (try simp only [go_sem, fN, seval, eT, iR, e0, e1, e7, e8, hlt]); (repeat with_reducible refine Ai ?_); (try (refine hK _ ?_; clear hK K))))
      with_reducible refine Wp ?_
      simp only [go_sem, fN, seval, true_implies, false_implies, implies_true, dT, dF, nL, e0, e1, e7, e8, hlt]
      (try with_reducible refine iC ?_)
      obtain ⟨a, ha⟩ := get_lt (show k < l.length by omega)
      have hne : ¬ x = a := fun e => by
        rw [isIn_no] at hin
        exact hin (by rw [e]; exact mem_of_get ha)
      repeat' (first | (with_reducible first | refine W ?_ | refine Wz0 ?_) | ((with_reducible first | refine Wo (fun K hK => ?_) | refine Wq ?_ | refine Wr ?_); (try simp only [go_sem, fN, seval, eT, iR, e0, e1, e7, e8, ha]); (repeat with_reducible refine Ai ?_); (try (refine hK _ ?_; clear hK K))))
      with_reducible refine Wp ?_
      simp only [go_sem, fN, seval, true_implies, false_implies, implies_true, dT, dF, nL, hne]
      (try with_reducible refine iC ?_)
      repeat' (first | (with_reducible first | refine W ?_ | refine Wz0 ?_) | ((with_reducible first | refine Wo (fun K hK => ?_) | refine Wq ?_ | refine Wr ?_); (try simp only [go_sem, fN, seval, eT, iR, e0, e1, e7, e8]); (repeat with_reducible refine Ai ?_); (try (refine hK _ ?_; clear hK K))))
      refine then_normal ⟨l.length - (k + 1), by omega, k + 1, by omega, rfl, ?_⟩
      simp only [go_sem, fN, seval, eT, iR, e0, e1, e7, e8]
      congr 3
    · repeat' (first | (with_reducible first | refine W ?_ | refine Wz0 ?_) | ((with_reducible first | refine Wo (fun K hK => ?_) | refine Wq ?_ | refine Wr ?_); (try simp only [go_sem, fN, seval, eT, iR, e0, e1, e7, e8, hlt]); (repeat with_reducible refine Ai ?_); (try (refine hK _ ?_; clear hK K))))
      with_reducible refine Wp ?_
      simp only [go_sem, fN, seval, true_implies, false_implies, implies_true, dT, dF, nL, e0, e1, e7, e8, hlt]
      (try with_reducible refine iC ?_)
      repeat' (first | (with_reducible first | refine W ?_ | refine Wz0 ?_) | ((with_reducible first | refine Wo (fun K hK => ?_) | refine Wq ?_ | refine Wr ?_); (try simp only [go_sem, fN, seval, eT, iR]); (repeat with_reducible refine Ai ?_); (try (refine hK _ ?_; clear hK K))))
      simp only [go_sem, fN, seval, FinQ, AS.result, resAll, resOne, tupV]
theorem contains_a (l : List ByteArray) (x : ByteArray) : ACalls Tryd.prog 22 [aStrs l, aStr x] (aBool (isIn x l)) := by
  obtain ⟨i, h1, h2⟩ := index_a l x
  refine ok_slices_Contains_string_string.ac fun C hC => ?_
  unfold ir_slices_Contains_string_string
  repeat' (first | (with_reducible first | refine W ?_ | refine Wz0 ?_) | refine Cg _ (h1) ?_ | ((with_reducible first | refine Wo (fun K hK => ?_) | refine Wq ?_ | refine Wr ?_); (try simp only [go_sem, fN, seval, eT, iR]); (repeat with_reducible refine Ai ?_); (try (refine hK _ ?_; clear hK K))))
  simp only [go_sem, fN, seval, FinQ, AS.result, resAll, resOne, tupV]
  congr 4
  cases hi : isIn x l with
  | true => exact decide_eq_true (h2.2 hi)
  | false =>
    refine decide_eq_false fun h => ?_
    rw [h2.1 h] at hi
    cases hi
mutual
def Tm.beq : Tm → Tm → Bool
  | .mk n xs, .mk m ys => decide (n = m) && Tm.beqL xs ys
def Tm.beqL : List Tm → List Tm → Bool
  | [], [] => true
  | x :: xs, y :: ys => x.beq y && Tm.beqL xs ys
  | _, _ => false
end
def Tm.nil : Tm := .mk ⟨#[]⟩ []


abbrev Pr := Tm × Tm
def encP (p : Pr) : List SV := [.str p.1.name, .list (p.1.args.map encT), .str p.2.name, .list (p.2.args.map encT)]
instance : Lens encP 4 := ⟨fun _ => rfl⟩

def digV (l : List UInt8) : Nat := l.foldl (fun v d => v * 10 + (d.toNat - 48)) 0
theorem digV_snoc (l : List UInt8) (d : UInt8) : digV (l ++ [d]) = digV l * 10 + (d.toNat - 48) := by unfold digV; rw [List.foldl_append]; rfl
theorem dig_one {k : Nat} (h : k < 10) : (UInt8.ofNat (48 + k)).toNat - 48 = k := by
  rw [UInt8.toNat_ofNat_of_lt' (by show _ < 256; omega)]
  omega
theorem digV_dec (u : Nat) : digV (Lib.decDigits u) = u := by
  induction u using Nat.strongRecOn with
  | _ u ih =>
    by_cases h : u < 10
    · rw [Lib.decDigits, dif_pos h]
      show 0 * 10 + _ = u
      rw [dig_one h]
      omega
    · rw [Lib.decDigits, dif_neg h, digV_snoc, ih _ (by omega), dig_one (Nat.mod_lt _ (by omega))]
      omega
def decS (n : Nat) : ByteArray := ⟨(Lib.decDigits n).toArray⟩
theorem decS_inj {m n : Nat} (h : decS m = decS n) : m = n := by
  have h1 : Lib.decDigits m = Lib.decDigits n := by
    have := congrArg (fun b : ByteArray => b.data.toList) h
    simpa [decS] using this
  have h2 := congrArg digV h1
  rwa [digV_dec, digV_dec] at h2
theorem nDig_le {u k : Nat} (h : u < 10 ^ k) (hk : 1 ≤ k) : Lib.nDigits u ≤ k := by
  induction k generalizing u with
  | zero => omega
  | succ k ih =>
    by_cases h1 : u < 10
    · rw [Lib.nDigits_small h1]; omega
    · rw [Lib.nDigits_big h1]
      have : 1 ≤ k := by
        rcases Nat.eq_zero_or_pos k with h0 | h0
        · subst h0; rw [Nat.zero_add, Nat.pow_one] at h; omega
        · exact h0
      have := ih (u := u / 10) (by rw [Nat.pow_succ] at h; omega) this
      omega
theorem decS_size (n : Nat) : (decS n).size = Lib.nDigits n := by
  show (Lib.decDigits n).toArray.size = _
  rw [List.size_toArray, Lib.decDigits_length]
theorem decS_size_le {n : Nat} (h : n < 1000000) : (decS n).size ≤ 6 := by rw [decS_size]; exact nDig_le (k := 6) (by omega) (by omega)
def headEq (n : ByteArray) (xs : List Tm) (b : Tm) : Prop := isVar n = false ∧ n = b.name ∧ xs.length = b.args.length
instance (n : ByteArray) (xs : List Tm) (b : Tm) : Decidable (headEq n xs b) := by unfold headEq; infer_instance
def Goes (l m : List Pr) : Prop := ∃ r, m = l ++ r
theorem Goes.refl (l : List Pr) : Goes l l := ⟨[], by simp⟩
theorem Goes.trans {a b c : List Pr} (h : Goes a b) (k : Goes b c) : Goes a c := by
  obtain ⟨r, rfl⟩ := h
  obtain ⟨q, rfl⟩ := k
  exact ⟨r ++ q, by simp⟩

def lxName (p : UInt8) (k : Nat) : ByteArray := ⟨#[p]⟩ ++ decS k
def brk (b : Bool) (s : ByteArray) : ByteArray := if b = true then ⟨#[40]⟩ ++ s ++ ⟨#[41]⟩ else s
inductive LTx (p : UInt8) (o : Nat) : List ByteArray → Lm → ByteArray → Prop
  | v {ns : List ByteArray} {i : Nat} {n : ByteArray} (h : i < ns.length) (hn : ns[ns.length - 1 - i]? = some n) : LTx p o ns (.v i) n
  | c {ns : List ByteArray} {i : Nat} (h : i < 40) : LTx p o ns (.mk 4 i []) (⟨#[99]⟩ ++ decS i)
  | l {ns : List ByteArray} {b : Lm} {s : ByteArray} (ho : o ≤ ns.length) (h : LTx p o (ns ++ [lxName p (ns.length - o)]) b s) : LTx p o ns (.l b) (⟨#[92]⟩ ++ lxName p (ns.length - o) ++ ⟨#[46]⟩ ++ s)
  | a {ns : List ByteArray} {f x : Lm} {s t : ByteArray} (hf : LTx p o ns f s) (hx : LTx p o ns x t) : LTx p o ns (.a f x) (brk (decide (f.kind = 2)) s ++ ⟨#[32]⟩ ++ brk (decide (x.kind = 2 ∨ x.kind = 3)) t)
theorem one_of {α : Type} {l : List α} (h : (l.length : Int) = 1) : ∃ a, l = [a] := by
  match l, h with
  | [a], _ => exact ⟨a, rfl⟩
  | [], h => simp at h
  | _ :: _ :: _, h => simp at h; omega
theorem two_of {α : Type} {l : List α} (h : (l.length : Int) = 2) : ∃ a b, l = [a, b] := by
  match l, h with
  | [a, b], _ => exact ⟨a, b, rfl⟩
  | [], h => simp at h
  | [_], h => simp at h
  | _ :: _ :: _ :: _, h => simp at h; omega
theorem chk_forms {t : Lm} {u : Int} (h : t.chk 0 u = 0) : (∃ i : Nat, (i : Int) < u ∧ t = .v i) ∨ (∃ i : Nat, i < 40 ∧ t = .mk 4 i []) ∨ (∃ b, t = .l b ∧ b.chk 0 (u + 1) = 0) ∨ (∃ f x, t = .a f x ∧ f.chk 0 u = 0 ∧ x.chk 0 u = 0) := by
  obtain ⟨k, i, xs⟩ := t
  rw [Lm.chk] at h
  split at h
  case isFalse => omega
  rename_i hk
  obtain ⟨k1, k2, hl⟩ := hk
  split at h
  case isFalse => omega
  rename_i hi
  obtain ⟨i0, i1⟩ := hi
  obtain ⟨n, rfl⟩ : ∃ n : Nat, i = n := ⟨i.toNat, by omega⟩
  rcases (show k = 1 ∨ k = 2 ∨ k = 3 ∨ k = 4 ∨ k = 5 by omega) with rfl | rfl | rfl | rfl | rfl
  · have : xs = [] := by
      have h0 : (xs.length : Int) = 0 := hl
      exact List.eq_nil_of_length_eq_zero (by omega)
    subst this
    exact .inl ⟨n, by simpa [mostIdx] using i1, rfl⟩
  · obtain ⟨b, rfl⟩ := one_of (show (xs.length : Int) = 1 by simpa [nSubs] using hl)
    have hn0 : n = 0 := by simp [mostIdx] at i1; omega
    subst hn0
    refine .inr (.inr (.inl ⟨b, rfl, ?_⟩))
    have hu : under 2 u = u + 1 := rfl
    simp only [Lm.chks, hu] at h
    by_cases e : Lm.chk 0 b (u + 1) = 0
    · exact e
    · rw [if_neg e] at h
      exact h
  · obtain ⟨f, x, rfl⟩ := two_of (show (xs.length : Int) = 2 by simpa [nSubs] using hl)
    have hn0 : n = 0 := by simp [mostIdx] at i1; omega
    subst hn0
    refine .inr (.inr (.inr ⟨f, x, rfl, ?_⟩))
    have hu : under 3 u = u := rfl
    simp only [Lm.chks, hu] at h
    by_cases e : Lm.chk 0 f u = 0
    · rw [if_pos e] at h
      by_cases e2 : Lm.chk 0 x u = 0
      · exact ⟨e, e2⟩
      · rw [if_neg e2] at h
        exact absurd h e2
    · rw [if_neg e] at h
      exact absurd h e
  · have : xs = [] := by
      have h0 : (xs.length : Int) = 0 := hl
      exact List.eq_nil_of_length_eq_zero (by omega)
    subst this
    exact .inr (.inl ⟨n, by simp [mostIdx] at i1; omega, rfl⟩)
  · simp [mostIdx] at i1
    omega
theorem Lm.size_l (b : Lm) : (Lm.l b).size = 1 + b.size := by simp [Lm.l, Lm.size, Lm.sizes]
theorem Lm.size_a (f x : Lm) : (Lm.a f x).size = 1 + f.size + x.size := by simp [Lm.a, Lm.size, Lm.sizes]; omega
theorem brk_size (b : Bool) (s : ByteArray) : s.size ≤ (brk b s).size ∧ (brk b s).size ≤ s.size + 2 := by
  unfold brk
  split
  · simp only [ByteArray.size_append]
    have h1 : (⟨#[40]⟩ : ByteArray).size = 1 := rfl
    have h2 : (⟨#[41]⟩ : ByteArray).size = 1 := rfl
    omega
  · omega
theorem lxName_size {p : UInt8} {k : Nat} (h : k < 1000000) : (lxName p k).size ≤ 7 := by
  have := decS_size_le h
  unfold lxName
  rw [ByteArray.size_append]
  have h1 : (⟨#[p]⟩ : ByteArray).size = 1 := rfl
  omega
theorem ltx_ex (p : UInt8) (o : Nat) : ∀ (z : Nat) (t : Lm) (ns : List ByteArray), t.size ≤ z → t.chk 0 ns.length = 0 → o ≤ ns.length → ns.length + z ≤ 900000 → (∀ n ∈ ns, n.size ≤ 8) → ∃ s, LTx p o ns t s ∧ s.size ≤ 20 * t.size
  | 0, t, ns, hz, _, _, _, _ => by have := Lm.size_pos t; omega
  | z + 1, t, ns, hz, h, ho, hn, hns => by
    rcases chk_forms h with ⟨i, hi, rfl⟩ | ⟨i, hi, rfl⟩ | ⟨b, rfl, hb⟩ | ⟨f, x, rfl, hf, hx⟩
    · have hi' : i < ns.length := by omega
      have hlt : ns.length - 1 - i < ns.length := by omega
      refine ⟨ns[ns.length - 1 - i], .v hi' (List.getElem?_eq_getElem hlt), ?_⟩
      have := hns _ (List.getElem_mem hlt)
      have := Lm.size_pos (.v i)
      omega
    · refine ⟨_, .c hi, ?_⟩
      have := decS_size_le (n := i) (by omega)
      have := Lm.size_pos (.mk 4 i [])
      rw [ByteArray.size_append]
      have h1 : (⟨#[99]⟩ : ByteArray).size = 1 := rfl
      omega
    · rw [Lm.size_l] at hz
      have hx := lxName_size (p := p) (k := ns.length - o) (by omega)
      obtain ⟨s, hs, hl⟩ := ltx_ex p o z b (ns ++ [lxName p (ns.length - o)]) (by omega) (by rw [List.length_append]; simpa using hb) (by simp; omega) (by simp; omega) fun n hn => by
        rcases List.mem_append.1 hn with hn | hn
        · exact hns n hn
        · rw [List.mem_singleton.1 hn]
          omega
      refine ⟨_, .l ho hs, ?_⟩
      rw [Lm.size_l]
      simp only [ByteArray.size_append]
      have h1 : (⟨#[92]⟩ : ByteArray).size = 1 := rfl
      have h2 : (⟨#[46]⟩ : ByteArray).size = 1 := rfl
      omega
    · rw [Lm.size_a] at hz
      obtain ⟨s, hs, hl⟩ := ltx_ex p o z f ns (by omega) hf ho (by omega) hns
      obtain ⟨r, hr, hk⟩ := ltx_ex p o z x ns (by omega) hx ho (by omega) hns
      refine ⟨_, .a hs hr, ?_⟩
      rw [Lm.size_a]
      simp only [ByteArray.size_append]
      have h1 := (brk_size (decide (f.kind = 2)) s).2
      have h2 := (brk_size (decide (x.kind = 2 ∨ x.kind = 3)) r).2
      have h3 : (⟨#[32]⟩ : ByteArray).size = 1 := rfl
      have := Lm.size_pos f
      omega

structure Names (p : UInt8) (o : Nat) (ns : List ByteArray) : Prop where
  nodup : ns.Nodup
  ok : ∀ n ∈ ns, nameOk n = true ∧ byteAt n 0 ≠ 99
  new : ∀ k, ns.length - o ≤ k → lxName p k ∉ ns
  le : o ≤ ns.length
def PrefixOk (p : UInt8) : Prop := letterI p.toNat = true ∧ ¬ (48 ≤ (p.toNat : Int) ∧ (p.toNat : Int) ≤ 57) ∧ p ≠ 99
theorem lx_byte (p : UInt8) (k : Nat) : byteAt (lxName p k) 0 = p.toNat := by
  unfold lxName
  rw [byteAt_left (show 0 < 1 by decide)]
  rfl
theorem lx_inj {p : UInt8} {j k : Nat} (h : lxName p j = lxName p k) : j = k := by
  unfold lxName at h
  have := congrArg (fun b : ByteArray => b.data.toList) h
  simp only [data_app] at this
  have h2 : (decS j).data.toList = (decS k).data.toList := by simpa using this
  exact decS_inj (bytes_of h2)
theorem dec_letters (n : Nat) : ∀ b ∈ Lib.decDigits n, 48 ≤ (b.toNat : Int) ∧ (b.toNat : Int) ≤ 57 := by
  induction n using Nat.strongRecOn with
  | _ n ih =>
    intro b hb
    have dig : ∀ k, k < 10 → 48 ≤ ((UInt8.ofNat (48 + k)).toNat : Int) ∧ ((UInt8.ofNat (48 + k)).toNat : Int) ≤ 57 := fun k hk => by
      rw [UInt8.toNat_ofNat_of_lt' (by show _ < 256; omega)]
      omega
    by_cases h : n < 10
    · rw [Lib.decDigits, dif_pos h] at hb
      rw [List.mem_singleton.1 hb]
      exact dig n h
    · rw [Lib.decDigits, dif_neg h] at hb
      rcases List.mem_append.1 hb with hb | hb
      · exact ih _ (by omega) b hb
      · rw [List.mem_singleton.1 hb]
        exact dig _ (Nat.mod_lt _ (by omega))
theorem name_of {s : ByteArray} (h1 : 1 ≤ s.size) (h8 : s.size ≤ 8) (h0 : ¬ (48 ≤ byteAt s 0 ∧ byteAt s 0 ≤ 57)) (hl : ∀ b ∈ s.data.toList, letterI b.toNat = true) : nameOk s = true := by
  unfold nameOk
  have e : lettersTo s s.size = true := by
    unfold lettersTo
    rw [List.take_of_length_le (by simp)]
    exact List.all_eq_true.2 hl
  rw [e]
  simp only [Bool.and_true, Bool.and_eq_true, decide_eq_true_eq, Bool.not_eq_true', Bool.and_eq_false_iff, decide_eq_false_iff_not]
  exact ⟨⟨h1, h8⟩, by omega⟩
theorem pre_name {p : UInt8} (hp : letterI p.toNat = true ∧ ¬ (48 ≤ (p.toNat : Int) ∧ (p.toNat : Int) ≤ 57)) {k : Nat} (hk : k < 1000000) : nameOk (⟨#[p]⟩ ++ decS k) = true := by
  have hz := decS_size_le hk
  have h1 : (⟨#[p]⟩ : ByteArray).size = 1 := rfl
  refine name_of (by rw [ByteArray.size_append]; omega) (by rw [ByteArray.size_append]; omega) ?_ fun b hb => ?_
  · rw [byteAt_left (show 0 < 1 by decide)]
    exact hp.2
  · rw [data_app] at hb
    rcases List.mem_append.1 hb with hb | hb
    · have : b = p := by simpa using hb
      rw [this]
      exact hp.1
    · have := dec_letters k b (by simpa [decS] using hb)
      unfold letterI
      simp only [Bool.or_eq_true, decide_eq_true_eq]
      omega
theorem names_more {p : UInt8} {o : Nat} {ns : List ByteArray} (hp : PrefixOk p) (h : Names p o ns) (hk : ns.length - o < 1000000) : Names p o (ns ++ [lxName p (ns.length - o)]) := by
  refine ⟨List.nodup_append.2 ⟨h.nodup, by simp, ?_⟩, fun n hn => ?_, fun k hk' => ?_, by have := h.le; simp; omega⟩
  · intro a ha b hb e
    rw [List.mem_singleton.1 hb] at e
    rw [e] at ha
    exact h.new _ (Nat.le_refl _) ha
  · rcases List.mem_append.1 hn with hn | hn
    · exact h.ok n hn
    · rw [List.mem_singleton.1 hn]
      refine ⟨pre_name ⟨hp.1, hp.2.1⟩ hk, ?_⟩
      rw [lx_byte]
      intro e
      have : p.toNat = 99 := by omega
      exact hp.2.2 (UInt8.toNat_inj.1 this)
  · have hle := h.le
    simp only [List.length_append, List.length_singleton] at hk'
    intro hm
    rcases List.mem_append.1 hm with hm | hm
    · exact h.new k (by omega) hm
    · have := lx_inj (List.mem_singleton.1 hm)
      omega
theorem bound_of {ns : List ByteArray} {j : Nat} {n : ByteArray} (hd : ns.Nodup) (h : ns[j]? = some n) : boundAt ns n = some j := by
  obtain ⟨hj, rfl⟩ := List.getElem?_eq_some_iff.1 h
  refine backF_some (by simp [List.getD, hj]) hj fun i hi1 hi2 => ?_
  rw [decide_eq_true_eq]
  intro e
  have e' : ns[i] = ns[j] := by simpa [List.getD, hi2, hj] using e
  have := (List.getElem_inj hd).1 e'
  omega
theorem bound_no {ns : List ByteArray} {n : ByteArray} (h : n ∉ ns) : boundAt ns n = none := by
  refine backF_none fun i hi => ?_
  rw [decide_eq_true_eq]
  intro e
  exact h (by rw [← e]; simp [List.getD, hi])
theorem dec_two : ∀ i < 40, decS i = dec2 i := by decide +kernel
theorem const_back {i : Nat} (h : i < 40) : constOf (⟨#[99]⟩ ++ decS i) = i := by
  rw [dec_two i h]
  unfold constOf
  cases hf : (List.range 40).find? (fun k => decide (⟨#[99]⟩ ++ dec2 i = cNm ++ dec2 k)) with
  | none =>
    have := List.find?_eq_none.1 hf i (by simpa using h)
    simp [cNm] at this
  | some k =>
    have h1 := List.find?_some hf
    have h2 := List.mem_of_find?_eq_some hf
    simp only [decide_eq_true_eq] at h1
    rw [List.mem_range] at h2
    have h3 : dec2 i = dec2 k := by rw [← rest1_nm i, show cNm = ⟨#[99]⟩ from rfl, h1, show cNm = ⟨#[99]⟩ from rfl, ← show cNm = ⟨#[99]⟩ from rfl, rest1_nm]
    simp only
    rw [dec2_inj i h k h2 h3]
def RestP (r : ByteArray) : Prop := r.size = 0 ∨ letterI (byteAt r 0) = false
def RestT (r : ByteArray) : Prop := r.size = 0 ∨ (letterI (byteAt r 0) = false ∧ byteAt r 0 ≠ 32)
def PP (ns : List ByteArray) (t : Lm) (S : ByteArray) : Prop := ∀ (u r : ByteArray) (f i k : Nat), i ≤ u.size → tailS u i = S ++ r → RestP r → k + t.size ≤ 200 → 3 * (u.size - i) + 1 < f → lrP u f ns i k = ⟨t, i + S.size, k + t.size, 0⟩
def TT (ns : List ByteArray) (t : Lm) (S : ByteArray) : Prop := ∀ (u r : ByteArray) (f i k : Nat), i ≤ u.size → tailS u i = S ++ r → RestT r → k + t.size ≤ 200 → 3 * (u.size - i) + 2 < f → lrT u f ns i k = ⟨t, i + S.size, k + t.size, 0⟩
def SS (ns : List ByteArray) (t : Lm) (S : ByteArray) : Prop := ∀ (u r : ByteArray) (f i k : Nat), i ≤ u.size → tailS u i = S ++ r → RestP r → k + t.size ≤ 200 → 3 * (u.size - i) + 1 < f → ∃ f', 3 * (u.size - (i + S.size)) < f' ∧ lrL u f ns (lrP u f ns i k) = lrL u f' ns ⟨t, i + S.size, k + t.size, 0⟩
theorem RestT.p {r : ByteArray} (h : RestT r) : RestP r := h.imp id fun h => h.1
theorem byte_head {u a r : ByteArray} {i : Nat} (hi : i ≤ u.size) (h : tailS u i = a ++ r) (ha : 0 < a.size) : i < u.size ∧ byteAt u i = byteAt a 0 := by
  have hf := tail_fits hi h
  have hz : (tailS u i).size = a.size + r.size := by rw [h, ByteArray.size_append]
  refine ⟨by omega, ?_⟩
  have := tail_byte (s := u) hi (k := 0) (by omega)
  rw [Nat.add_zero] at this
  rw [this, h, byteAt_left ha]
theorem T_of_S {ns : List ByteArray} {t : Lm} {S : ByteArray} (h : SS ns t S) (h0 : 0 < S.size) (hb : byteAt S 0 ≠ 92) : TT ns t S := by
  intro u r f i k hi ht hr hk hf
  obtain ⟨f, rfl⟩ : ∃ g, f = g + 1 := ⟨f - 1, by omega⟩
  obtain ⟨b1, b2⟩ := byte_head hi ht h0
  rw [lrT, if_neg fun hh => hb (by rw [← b2]; exact hh.2)]
  obtain ⟨f', hf', e⟩ := h u r f i k hi ht hr.p hk (by omega)
  rw [e]
  refine lrL_bad (by omega) fun hh => ?_
  obtain ⟨_, c1, c2⟩ := hh
  have hn := tail_next hi ht
  have hfit := tail_fits hi ht
  simp only at c1 c2
  rcases hr with hr | ⟨_, hr⟩
  · omega
  · have hr0 : 0 < r.size := by omega
    have hz : i + S.size ≤ u.size := by omega
    have hn2 : tailS u (i + S.size) = r ++ ⟨#[]⟩ := by rw [hn]; exact ByteArray.append_empty.symm
    have := byte_head hz hn2 hr0
    exact hr (by rw [← this.2]; exact c2)
theorem P_of_T {ns : List ByteArray} {t : Lm} {s : ByteArray} (h : TT ns t s) : PP ns t (⟨#[40]⟩ ++ s ++ ⟨#[41]⟩) := by
  intro u r f i k hi ht hr hk hf
  obtain ⟨f, rfl⟩ : ∃ g, f = g + 1 := ⟨f - 1, by omega⟩
  have h40 : (⟨#[40]⟩ : ByteArray).size = 1 := rfl
  have h41 : (⟨#[41]⟩ : ByteArray).size = 1 := rfl
  have ht1 : tailS u i = ⟨#[40]⟩ ++ (s ++ (⟨#[41]⟩ ++ r)) := by rw [ht]; simp only [ByteArray.append_assoc]
  obtain ⟨b1, b2⟩ := byte_head hi ht1 (by decide)
  have ht2 := tail_next hi ht1
  rw [h40] at ht2
  rw [lrP, if_pos ⟨b1, by rw [b2]; rfl⟩]
  have hq := h u (⟨#[41]⟩ ++ r) f (i + 1) k (by omega) ht2 (.inr (by rw [byteAt_left (by decide)]; decide)) hk (by omega)
  rw [hq, if_pos rfl]
  have ht3 := tail_next (by omega) ht2
  obtain ⟨b3, b4⟩ := byte_head (by have := tail_fits (by omega) ht2; omega) ht3 (by decide)
  have hw : wantE u 41 (i + 1 + s.size) = 0 := by
    unfold wantE
    rw [if_neg (by omega), if_pos (by rw [b4]; rfl)]
  simp only [hw, ByteArray.size_append, h40, h41]
  congr 1
  omega
theorem S_of_P {ns : List ByteArray} {t : Lm} {S : ByteArray} (h : PP ns t S) : SS ns t S := by
  intro u r f i k hi ht hr hk hf
  exact ⟨f, by omega, by rw [h u r f i k hi ht hr hk hf]⟩
theorem P_name {ns : List ByteArray} {t : Lm} {n : ByteArray} (hn : nameOk n = true) (ht1 : t.size = 1) (hv : ∀ i k, k ≤ 200 → lrV ns n i k = ⟨t, i, k, 0⟩) : PP ns t n ∧ 0 < n.size ∧ byteAt n 0 ≠ 92 := by
  obtain ⟨z1, z8, _⟩ := nameOk_cases hn
  have hl := name_letter hn (k := 0) (by omega)
  refine ⟨?_, z1, fun e => by rw [e] at hl; revert hl; decide⟩
  intro u r f i k hi ht hr hk hf
  obtain ⟨f, rfl⟩ : ∃ g, f = g + 1 := ⟨f - 1, by omega⟩
  obtain ⟨b1, b2⟩ := byte_head hi ht (by omega)
  have he := name_end hi ht hn hr
  have hh := tail_head hi ht
  rw [lrP, if_neg fun hx => by rw [← b2, hx.2] at hl; revert hl; decide]
  have hna : nmAt u i = n := by unfold nmAt; rw [he, hh]
  have hne : nmErr u i = 0 := by
    unfold nmErr
    rw [if_neg (by omega), hna, if_pos hn]
  rw [if_pos hne, hna, he, hv _ _ (by omega), ht1]
theorem lm_v_size (i : Int) : (Lm.v i).size = 1 := by simp [Lm.v, Lm.size, Lm.sizes]
theorem lm_c_size (i : Int) : (Lm.mk 4 i []).size = 1 := by simp [Lm.size, Lm.sizes]
theorem back {p : UInt8} {o : Nat} (hp : PrefixOk p) {ns : List ByteArray} {t : Lm} {s : ByteArray} (h : LTx p o ns t s) : Names p o ns → ns.length + t.size ≤ 900000 →
    TT ns t s ∧ PP ns t (brk (decide (t.kind = 2 ∨ t.kind = 3)) s) ∧ SS ns t (brk (decide (t.kind = 2)) s) ∧ 0 < s.size ∧ (t.kind ≠ 2 → byteAt s 0 ≠ 92) := by
  induction h with
  | @v ns j n h hn =>
    intro hN hz
    obtain ⟨q1, _⟩ := hN.ok n (List.mem_of_getElem? hn)
    obtain ⟨hP, h0, hb⟩ := P_name (t := .v j) q1 (lm_v_size _) fun i k hk => by
      unfold lrV
      rw [bound_of hN.nodup hn]
      simp only
      rw [if_neg (by omega)]
      congr 2
      omega
    have e1 : brk (decide ((Lm.v j).kind = 2 ∨ (Lm.v j).kind = 3)) n = n := if_neg (by simp [Lm.v, Lm.kind])
    have e2 : brk (decide ((Lm.v j).kind = 2)) n = n := if_neg (by simp [Lm.v, Lm.kind])
    rw [e1, e2]
    exact ⟨T_of_S (S_of_P hP) h0 hb, hP, S_of_P hP, h0, fun _ => hb⟩
  | @c ns j h =>
    intro hN hz
    have hnm : nameOk (⟨#[99]⟩ ++ decS j) = true := pre_name (p := 99) ⟨by decide, by decide⟩ (by omega)
    have hno : (⟨#[99]⟩ ++ decS j) ∉ ns := fun hm => (hN.ok _ hm).2 (by rw [byteAt_left (by decide)]; rfl)
    obtain ⟨hP, h0, hb⟩ := P_name (ns := ns) (t := .mk 4 j []) hnm (lm_c_size _) fun i k hk => by
      unfold lrV
      rw [bound_no hno]
      simp only
      rw [const_back h, if_neg (by omega), if_neg (by omega)]
    have e1 : brk (decide ((Lm.mk 4 j []).kind = 2 ∨ (Lm.mk 4 j []).kind = 3)) (⟨#[99]⟩ ++ decS j) = ⟨#[99]⟩ ++ decS j := if_neg (by simp [Lm.kind])
    have e2 : brk (decide ((Lm.mk 4 j []).kind = 2)) (⟨#[99]⟩ ++ decS j) = ⟨#[99]⟩ ++ decS j := if_neg (by simp [Lm.kind])
    rw [e1, e2]
    exact ⟨T_of_S (S_of_P hP) h0 hb, hP, S_of_P hP, h0, fun _ => hb⟩
  | @l ns b s ho h ih =>
    intro hN hz
    rw [Lm.size_l] at hz
    have hm := names_more hp hN (by omega)
    obtain ⟨iT, _, _, _, _⟩ := ih hm (by simp; omega)
    have hnm : nameOk (lxName p (ns.length - o)) = true := pre_name ⟨hp.1, hp.2.1⟩ (by omega)
    generalize lxName p (ns.length - o) = nm at *
    obtain ⟨z1, _, _⟩ := nameOk_cases hnm
    have h92 : (⟨#[92]⟩ : ByteArray).size = 1 := rfl
    have h46 : (⟨#[46]⟩ : ByteArray).size = 1 := rfl
    have hT : TT ns (.l b) (⟨#[92]⟩ ++ nm ++ ⟨#[46]⟩ ++ s) := by
      intro u r f i k hi ht hr hk hf
      rw [Lm.size_l] at hk
      obtain ⟨f, rfl⟩ : ∃ g, f = g + 1 := ⟨f - 1, by omega⟩
      have ht1 : tailS u i = ⟨#[92]⟩ ++ (nm ++ (⟨#[46]⟩ ++ (s ++ r))) := by rw [ht]; simp only [ByteArray.append_assoc]
      obtain ⟨b1, b2⟩ := byte_head hi ht1 (by decide)
      have ht2 := tail_next hi ht1
      rw [h92] at ht2
      have f2 := tail_fits (by omega) ht2
      have he := name_end (by omega) ht2 hnm (.inr (by rw [byteAt_left (by decide)]; decide))
      have hh := tail_head (by omega) ht2
      have hna : nmAt u (i + 1) = nm := by unfold nmAt; rw [he, hh]
      have hne : nmErr u (i + 1) = 0 := by
        unfold nmErr
        rw [if_neg (by omega), hna, if_pos hnm]
      have ht3 := tail_next (by omega) ht2
      obtain ⟨b3, b4⟩ := byte_head (by omega) ht3 (by decide)
      have hw : wantE u 46 (i + 1 + nm.size) = 0 := by
        unfold wantE
        rw [if_neg (by omega), if_pos (by rw [b4]; rfl)]
      have ht4 := tail_next (by omega) ht3
      rw [h46] at ht4
      rw [lrT, if_pos ⟨b1, by rw [b2]; rfl⟩, if_neg (by omega), if_pos hne, he, if_pos hw, hna, iT u r f (i + 1 + nm.size + 1) (k + 1) (by omega) ht4 hr (by omega) (by omega)]
      simp only [ByteArray.size_append, h92, h46, Lm.size_l]
      congr 1 <;> omega
    have e1 : brk (decide ((Lm.l b).kind = 2 ∨ (Lm.l b).kind = 3)) (⟨#[92]⟩ ++ nm ++ ⟨#[46]⟩ ++ s) = ⟨#[40]⟩ ++ (⟨#[92]⟩ ++ nm ++ ⟨#[46]⟩ ++ s) ++ ⟨#[41]⟩ := if_pos (by simp [Lm.l, Lm.kind])
    have e2 : brk (decide ((Lm.l b).kind = 2)) (⟨#[92]⟩ ++ nm ++ ⟨#[46]⟩ ++ s) = ⟨#[40]⟩ ++ (⟨#[92]⟩ ++ nm ++ ⟨#[46]⟩ ++ s) ++ ⟨#[41]⟩ := if_pos (by simp [Lm.l, Lm.kind])
    rw [e1, e2]
    exact ⟨hT, P_of_T hT, S_of_P (P_of_T hT), by simp only [ByteArray.size_append]; omega, fun hh => absurd rfl hh⟩
  | @a ns f x s t hf hx ihf ihx =>
    intro hN hz
    rw [Lm.size_a] at hz
    obtain ⟨_, _, fS, f0, fB⟩ := ihf hN (by omega)
    obtain ⟨_, xP, _, x0, _⟩ := ihx hN (by omega)
    have g0 : 0 < (brk (decide (f.kind = 2)) s).size := by have := (brk_size (decide (f.kind = 2)) s).1; omega
    have gB : byteAt (brk (decide (f.kind = 2)) s) 0 ≠ 92 := by
      by_cases hk : f.kind = 2
      · have e : brk (decide (f.kind = 2)) s = ⟨#[40]⟩ ++ (s ++ ⟨#[41]⟩) := by
          rw [← ByteArray.append_assoc]
          exact if_pos (by simp [hk])
        rw [e, byteAt_left (by decide)]
        decide
      · have e : brk (decide (f.kind = 2)) s = s := if_neg (by simp [hk])
        rw [e]
        exact fB hk
    generalize brk (decide (f.kind = 2)) s = S1 at *
    generalize brk (decide (x.kind = 2 ∨ x.kind = 3)) t = S2 at *
    have h32 : (⟨#[32]⟩ : ByteArray).size = 1 := rfl
    have hS : SS ns (.a f x) (S1 ++ ⟨#[32]⟩ ++ S2) := by
      intro u r g i k hi ht hr hk hg
      rw [Lm.size_a] at hk
      have ht1 : tailS u i = S1 ++ (⟨#[32]⟩ ++ (S2 ++ r)) := by rw [ht]; simp only [ByteArray.append_assoc]
      have f1 := tail_fits hi ht1
      simp only [ByteArray.size_append] at f1
      obtain ⟨g1, hg1, e1⟩ := fS u (⟨#[32]⟩ ++ (S2 ++ r)) g i k hi ht1 (.inr (by rw [byteAt_left (by decide)]; decide)) (by omega) hg
      have ht2 := tail_next hi ht1
      obtain ⟨b1, b2⟩ := byte_head (by omega) ht2 (by decide)
      have ht3 := tail_next (by omega) ht2
      rw [h32] at ht3
      obtain ⟨g2, rfl⟩ : ∃ q, g1 = q + 1 := ⟨g1 - 1, by omega⟩
      refine ⟨g2, by simp only [ByteArray.size_append]; omega, ?_⟩
      rw [e1, lrL, if_pos ⟨rfl, b1, by rw [b2]; rfl⟩]
      dsimp only
      rw [if_neg (by omega), xP u r g2 (i + S1.size + 1) (k + f.size + 1) (by omega) ht3 hr (by omega) (by omega)]
      dsimp only
      simp only [ByteArray.size_append, h32, Lm.size_a]
      congr 2 <;> omega
    have e1 : brk (decide ((Lm.a f x).kind = 2 ∨ (Lm.a f x).kind = 3)) (S1 ++ ⟨#[32]⟩ ++ S2) = ⟨#[40]⟩ ++ (S1 ++ ⟨#[32]⟩ ++ S2) ++ ⟨#[41]⟩ := if_pos (by simp [Lm.a, Lm.kind])
    have e2 : brk (decide ((Lm.a f x).kind = 2)) (S1 ++ ⟨#[32]⟩ ++ S2) = S1 ++ ⟨#[32]⟩ ++ S2 := if_neg (by simp [Lm.a, Lm.kind])
    have hb : byteAt (S1 ++ ⟨#[32]⟩ ++ S2) 0 ≠ 92 := by
      rw [ByteArray.append_assoc, byteAt_left g0]
      exact gB
    have h0 : 0 < (S1 ++ ⟨#[32]⟩ ++ S2).size := by simp only [ByteArray.size_append]; omega
    have hT := T_of_S hS h0 hb
    rw [e1, e2]
    exact ⟨hT, P_of_T hT, hS, h0, fun _ => hb⟩

set_option maxRecDepth 100000
def ir_lambda_Names : IR :=
  (.seq (.ops [.i 2 (.mov (.n 0))]) (.seq (.seq (.ops [.m 5 0, .i 6 (.len false (.t 5)), .i 7 (.bin .gtr (.t 6) (.n 40))]) (.cond (.t 7) (.seq (.ops [.i 2 (.mov (.n 3))]) .ret) .skip)) (.seq (.seq (.ops [.m 8 0, .i 9 (.len false (.t 8)), .i 10 (.mov (.n 0))]) (.block 0 (.loop (.seq (.ops [.i 11 (.bin .lss (.t 10) (.t 9))]) (.seq (.cond (.t 11) .skip (.exit 0)) (.seq (.block 1 (.seq (.ops [.m 12 10, .i 13 (.indexAddr 1 (.t 8) (.t 10)), .l 14 13, .m 3 12, .m 4 14]) (.seq (.seq (.ops [.m 15 4, .i 16 (.call 21 [.t 15]), .i 17 (.un .not (.t 16)), .m 18 17, .mk (some 19) (some (18, false)) (.mov (.t 4)) .no, .mk (some 20) (some (18, false)) (.indexStr (.t 19) (.n 0)) .no, .mk (some 21) (some (18, false)) (.bin .eql (.t 20) (.c (.one (.st (.int .u8 120))))) .no, .i 22 (.pick (.t 18) (.c (.one (.st (.bool true)))) (.t 21)), .m 23 22, .mk (some 24) (some (23, false)) (.mov (.t 4)) .no, .mk (some 25) (some (23, false)) (.indexStr (.t 24) (.n 0)) .no, .mk (some 26) (some (23, false)) (.bin .eql (.t 25) (.c (.one (.st (.int .u8 99))))) .no, .i 27 (.pick (.t 23) (.c (.one (.st (.bool true)))) (.t 26))]) (.cond (.t 27) (.seq (.ops [.i 2 (.mov (.n 1))]) .ret) .skip)) (.seq (.ops [.m 28 0, .m 29 3, .i 30 (.sliceL 1 (.t 28) none (some (.t 29))), .m 31 4, .i 32 (.call 22 [.t 30, .t 31])]) (.cond (.t 32) (.seq (.ops [.i 2 (.mov (.n 4))]) .ret) .skip))))) (.ops [.i 33 (.bin .add (.t 10) (.n 1)), .m 10 33]))))))) (.seq (.ops [.i 2 (.mov (.n 0))]) .ret))))
theorem ok_lambda_Names : OkF Tryd.prog 10 34 [] ir_lambda_Names [.t 2] := .of Tryd.func10 rfl rfl (by kernel_rfl) rfl

set_option maxHeartbeats 1000000
def freeL : List ByteArray → List ByteArray → Int
  | _, [] => 0
  | p, n :: r => if nameOk n = true ∧ byteAt n 0 ≠ 120 ∧ byteAt n 0 ≠ 99 then (if isIn n p = true then 4 else freeL (p ++ [n]) r) else 1
def freeMay (l : List ByteArray) : Int := if 40 < l.length then 3 else freeL [] l
theorem freeL_at {l : List ByteArray} {k : Nat} {n : ByteArray} (h : l[k]? = some n) : freeL (l.take k) (l.drop k) = if nameOk n = true ∧ byteAt n 0 ≠ 120 ∧ byteAt n 0 ≠ 99 then (if isIn n (l.take k) = true then 4 else freeL (l.take (k + 1)) (l.drop (k + 1))) else 1 := by
  obtain ⟨hk, rfl⟩ := List.getElem?_eq_some_iff.1 h
  rw [List.drop_eq_getElem_cons hk, freeL, take_snoc h]
theorem freeL_range : ∀ (p l : List ByteArray), 0 ≤ freeL p l ∧ freeL p l ≤ 15
  | _, [] => by rw [freeL]; decide
  | p, n :: r => by
    rw [freeL]
    split
    · split
      · decide
      · exact freeL_range _ r
    · decide
theorem freeMay_range (l : List ByteArray) : 0 ≤ freeMay l ∧ freeMay l ≤ 15 := by
  unfold freeMay
  split
  · decide
  · exact freeL_range _ _
theorem names_a (l : List ByteArray) : ACalls Tryd.prog 10 [aStrs l] (aInt (freeMay l)) := by
  refine ok_lambda_Names.ac fun C hC => ?_
  unfold ir_lambda_Names
  unfold freeMay
  by_cases h40 : (40 : Int) < l.length
  · rw [if_pos (by omega)]
    repeat' (first | (with_reducible first | refine W ?_ | refine Wz0 ?_) | ((with_reducible first | refine Wo (fun K hK => ?_) | refine Wp ?_ | refine Wq ?_ | refine Wr ?_); (try simp only [go_sem, fN, seval, eT, iR, h40, dT, dF, nL]); (repeat with_reducible refine Ai ?_); (try (refine hK _ ?_; clear hK K)); (try with_reducible refine iC ?_)))
    simp only [go_sem, fN, seval, FinQ, AS.result, resAll, resOne, tupV]
  rw [if_neg (by omega)]
  repeat' (first | (with_reducible first | refine W ?_ | refine Wz0 ?_) | ((with_reducible first | refine Wo (fun K hK => ?_) | refine Wp ?_ | refine Wq ?_ | refine Wr ?_); (try simp only [go_sem, fN, seval, eT, iR, h40, dT, dF, nL]); (repeat with_reducible refine Ai ?_); (try (refine hK _ ?_; clear hK K)); (try with_reducible refine iC ?_)))
  refine IWP.loop (fun n s => ∃ k, k ≤ l.length ∧ n = l.length - k ∧ freeL [] l = freeL (l.take k) (l.drop k) ∧ s.env 0 = aStrs l ∧ s.env 8 = aStrs l ∧ s.env 9 = aInt l.length ∧ s.env 10 = aInt k) l.length ⟨0, Nat.zero_le _, rfl, by simp, rfl, rfl, rfl, rfl⟩ ?_
  rintro n ⟨env, S⟩ ⟨k, hk, rfl, hf, e0, e8, e9, e10⟩
  simp only at e0 e8 e9 e10
  rw [hf]
  by_cases hlt : (k : Int) < l.length
  · obtain ⟨a, ha⟩ := get_lt (show k < l.length by omega)
    have hpre : (l.map encS).take k = (l.take k).map encS := List.map_take.symm
    rw [freeL_at ha]
    by_cases h1 : nameOk a = true
    case neg =>
      rw [if_neg fun h => h1 h.1]
      repeat' (first | (with_reducible first | refine W ?_ | refine Wz0 ?_) | refine Cg _ (name_a a) ?_ | ((with_reducible first | refine Wo (fun K hK => ?_) | refine Wp ?_ | refine Wq ?_ | refine Wr ?_); (try simp only [go_sem, fN, seval, eT, iR, e0, e8, e9, e10, hlt, ha, h1, dT, dF, nL]); (repeat with_reducible refine Ai ?_); (try (refine hK _ ?_; clear hK K)); (try with_reducible refine iC ?_)))
      simp only [go_sem, fN, seval, FinQ, AS.result, resAll, resOne, tupV]
    obtain ⟨z1, _, _⟩ := nameOk_cases h1
    have z0 : 0 < a.size := z1
    by_cases h2 : byteAt a 0 = 120
    · rw [if_neg fun h => h.2.1 h2]
      repeat' (first | (with_reducible first | refine W ?_ | refine Wz0 ?_) | refine Cg _ (name_a a) ?_ | ((with_reducible first | refine Wo (fun K hK => ?_) | refine Wp ?_ | refine Wq ?_ | refine Wr ?_); (try simp only [go_sem, fN, seval, eT, iR, e0, e8, e9, e10, hlt, ha, h1, h2, z0, byteN_eq, dT, dF, nL]); (repeat with_reducible refine Ai ?_); (try (refine hK _ ?_; clear hK K)); (try with_reducible refine iC ?_)))
      simp only [go_sem, fN, seval, FinQ, AS.result, resAll, resOne, tupV]
    by_cases h3 : byteAt a 0 = 99
    · rw [if_neg fun h => h.2.2 h3]
      repeat' (first | (with_reducible first | refine W ?_ | refine Wz0 ?_) | refine Cg _ (name_a a) ?_ | ((with_reducible first | refine Wo (fun K hK => ?_) | refine Wp ?_ | refine Wq ?_ | refine Wr ?_); (try simp only [go_sem, fN, seval, eT, iR, e0, e8, e9, e10, hlt, ha, h1, h2, h3, z0, byteN_eq, dT, dF, nL]); (repeat with_reducible refine Ai ?_); (try (refine hK _ ?_; clear hK K)); (try with_reducible refine iC ?_)))
      simp only [go_sem, fN, seval, FinQ, AS.result, resAll, resOne, tupV]
    rw [if_pos ⟨h1, h2, h3⟩]
    by_cases h4 : isIn a (l.take k) = true
    · rw [if_pos h4]
      repeat' (first | (with_reducible first | refine W ?_ | refine Wz0 ?_) | refine Cg _ (name_a a) ?_ | refine Cg _ (contains_a (l.take k) a) ?_ | ((with_reducible first | refine Wo (fun K hK => ?_) | refine Wp ?_ | refine Wq ?_ | refine Wr ?_); (try simp only [go_sem, fN, seval, eT, iR, e0, e8, e9, e10, hlt, ha, h1, h2, h3, h4, z0, byteN_eq, hpre, dT, dF, nL]); (repeat with_reducible refine Ai ?_); (try (refine hK _ ?_; clear hK K)); (try with_reducible refine iC ?_)))
      simp only [go_sem, fN, seval, FinQ, AS.result, resAll, resOne, tupV]
    · rw [if_neg h4]
      repeat' (first | (with_reducible first | refine W ?_ | refine Wz0 ?_) | refine Cg _ (name_a a) ?_ | refine Cg _ (contains_a (l.take k) a) ?_ | ((with_reducible first | refine Wo (fun K hK => ?_) | refine Wp ?_ | refine Wq ?_ | refine Wr ?_); (try simp only [go_sem, fN, seval, eT, iR, e0, e8, e9, e10, hlt, ha, h1, h2, h3, h4, z0, byteN_eq, hpre, dT, dF, nL]); (repeat with_reducible refine Ai ?_); (try (refine hK _ ?_; clear hK K)); (try with_reducible refine iC ?_)))
      refine then_normal ⟨l.length - (k + 1), by omega, k + 1, by omega, rfl, rfl, ?_⟩
      simp only [go_sem, fN, seval, eT, iR, e0, e8, e9, e10]
      congr 3
  · rw [List.take_of_length_le (by omega), List.drop_eq_nil_of_le (by omega), freeL]
    repeat' (first | (with_reducible first | refine W ?_ | refine Wz0 ?_) | ((with_reducible first | refine Wo (fun K hK => ?_) | refine Wp ?_ | refine Wq ?_ | refine Wr ?_); (try simp only [go_sem, fN, seval, eT, iR, e0, e8, e9, e10, hlt, dT, dF, nL]); (repeat with_reducible refine Ai ?_); (try (refine hK _ ?_; clear hK K)); (try with_reducible refine iC ?_)))
    simp only [go_sem, fN, seval, FinQ, AS.result, resAll, resOne, tupV]

theorem freeL_ok : ∀ (p l : List ByteArray), freeL p l = 0 → (∀ n ∈ l, nameOk n = true ∧ byteAt n 0 ≠ 120 ∧ byteAt n 0 ≠ 99 ∧ n ∉ p) ∧ l.Nodup
  | _, [], _ => ⟨fun n h => by simp at h, List.nodup_nil⟩
  | p, n :: r, h => by
    rw [freeL] at h
    by_cases h1 : nameOk n = true ∧ byteAt n 0 ≠ 120 ∧ byteAt n 0 ≠ 99
    · rw [if_pos h1] at h
      by_cases h2 : isIn n p = true
      · rw [if_pos h2] at h
        exact absurd h (by decide)
      · rw [if_neg h2] at h
        obtain ⟨q1, q2⟩ := freeL_ok (p ++ [n]) r h
        have hnp : n ∉ p := fun e => h2 (isIn_iff.2 e)
        refine ⟨fun m hm => ?_, List.nodup_cons.2 ⟨fun hn => ?_, q2⟩⟩
        · rcases List.mem_cons.1 hm with rfl | hm
          · exact ⟨h1.1, h1.2.1, h1.2.2, hnp⟩
          · obtain ⟨a, b, c, d⟩ := q1 m hm
            exact ⟨a, b, c, fun e => d (List.mem_append_left _ e)⟩
        · exact (q1 n hn).2.2.2 (by simp)
    · rw [if_neg h1] at h
      exact absurd h (by decide)
theorem freeMay_ok {l : List ByteArray} (h : freeMay l = 0) : l.length ≤ 40 ∧ (∀ n ∈ l, nameOk n = true ∧ byteAt n 0 ≠ 120 ∧ byteAt n 0 ≠ 99) ∧ l.Nodup := by
  unfold freeMay at h
  by_cases h1 : 40 < l.length
  · rw [if_pos h1] at h
    exact absurd h (by decide)
  · rw [if_neg h1] at h
    obtain ⟨q1, q2⟩ := freeL_ok [] l h
    exact ⟨by omega, fun n hn => ⟨(q1 n hn).1, (q1 n hn).2.1, (q1 n hn).2.2.1⟩, q2⟩
theorem ltx_pos {p : UInt8} {o : Nat} {ns : List ByteArray} {t : Lm} {s : ByteArray} (h : LTx p o ns t s) : (∀ n ∈ ns, 0 < n.size) → 0 < s.size := by
  induction h with
  | @v ns i n h hn => exact fun hns => hns n (List.mem_of_getElem? hn)
  | c h =>
    intro _
    rw [ByteArray.size_append]
    have h1 : (⟨#[99]⟩ : ByteArray).size = 1 := rfl
    omega
  | l ho h ih =>
    intro _
    simp only [ByteArray.size_append]
    have h1 : (⟨#[92]⟩ : ByteArray).size = 1 := rfl
    omega
  | a hf hx ihf ihx =>
    intro _
    simp only [ByteArray.size_append]
    have h1 : (⟨#[32]⟩ : ByteArray).size = 1 := rfl
    omega
theorem text_ex {t : Lm} {free : List ByteArray} (hf : freeMay free = 0) (hm : t.may 0 free.length = 0) : ∃ s, LTx 120 free.length free t s ∧ 0 < s.size ∧ s.size ≤ 20 * 200 := by
  obtain ⟨f1, f2, _⟩ := freeMay_ok hf
  unfold Lm.may at hm
  have h1 : ¬ ((free.length : Int) < 0 ∨ 40 < (free.length : Int)) := by omega
  rw [if_neg h1] at hm
  by_cases h2 : 200 < t.size
  · rw [if_pos h2] at hm
    exact absurd hm (by decide)
  rw [if_neg h2] at hm
  have hz : ∀ n ∈ free, 0 < n.size ∧ n.size ≤ 8 := fun n hn => by
    obtain ⟨a, b, _⟩ := nameOk_cases (f2 n hn).1
    omega
  obtain ⟨s, hs, hl⟩ := ltx_ex 120 free.length 200 t free (by omega) hm (Nat.le_refl _) (by omega) fun n hn => (hz n hn).2
  exact ⟨s, hs, ltx_pos hs fun n hn => (hz n hn).1, by omega⟩

def ir_metaprune_lambda_reader_term : IR :=
  (.seq (.ops [.i 2 (.alloc 26 [.st (.int .i64 0), .st (.int .i64 0), .full []])]) (.seq (.seq (.ops [.m 6 0, .i 7 (.callS 26 [.t 6]), .i 8 (.bin .eql (.t 7) (.c (.one (.st (.int .u8 92)))))]) (.cond (.t 8) (.seq (.ops [.m 9 0, .i 10 (.callS 27 [.t 9])]) (.seq (.ops [.m 11 0, .m 12 0, .i 13 (.nilCheck (.t 12)), .f 14 0 13, .l 15 14, .i 16 (.sliceS (.t 15) (some (.n 1)) none), .i 17 (.nilCheck (.t 11)), .f 18 0 17, .s 1 18 16]) (.seq (.ops [.m 19 0, .i 20 (.callS 28 [.t 19]), .m 3 20]) (.seq (.ops [.m 21 0, .i 22 (.callS 29 [.t 21, .c (.one (.st (.int .u8 46)))])]) (.seq (.ops [.m 23 0, .m 24 0, .i 25 (.nilCheck (.t 24)), .f 26 1 25, .l 27 26, .m 28 3, .i 29 (.buildFlat [.t 28]), .i 30 (.append true 9 1 16 (.t 27) (.t 29)), .i 31 (.nilCheck (.t 23)), .f 32 1 31, .s 1 32 30]) (.seq (.ops [.m 33 0, .i 34 (.callS 15 [.t 33]), .i 4 (.alloc 26 [.st (.int .i64 0), .st (.int .i64 0), .full []]), .s 3 4 34]) (.seq (.ops [.m 35 0, .m 36 0, .i 37 (.nilCheck (.t 36)), .f 38 1 37, .l 39 38, .m 40 0, .i 41 (.nilCheck (.t 40)), .f 42 1 41, .l 43 42, .i 44 (.len false (.t 43)), .i 45 (.bin .sub (.t 44) (.n 1)), .i 46 (.cutP 1 (.t 39) (.t 45)), .i 47 (.nilCheck (.t 35)), .f 48 1 47, .s 1 48 46]) (.seq (.ops [.L 49 3 4, .i 50 (.call 30 [.t 49]), .s 3 2 50]) .ret)))))))) .skip)) (.seq (.ops [.m 51 0, .i 52 (.callS 31 [.t 51]), .i 5 (.alloc 26 [.st (.int .i64 0), .st (.int .i64 0), .full []]), .s 3 5 52]) (.seq (.block 0 (.loop (.seq (.seq (.ops [.m 53 0, .i 54 (.callS 26 [.t 53]), .i 55 (.bin .eql (.t 54) (.c (.one (.st (.int .u8 32)))))]) (.cond (.t 55) .skip (.exit 0))) (.block 1 (.seq (.ops [.m 56 0, .m 57 0, .i 58 (.nilCheck (.t 57)), .f 59 0 58, .l 60 59, .i 61 (.sliceS (.t 60) (some (.n 1)) none), .i 62 (.nilCheck (.t 56)), .f 63 0 62, .s 1 63 61]) (.seq (.ops [.m 64 0, .i 65 (.callS 27 [.t 64])]) (.ops [.mk (some 66) none (.load true 3 (.t 5)) (.onb 5), .m 67 0, .mk (some 68) none (.callS 31 [.t 67]) (.keeps [5]), .i 69 (.call 32 [.t 66, .t 68]), .s 3 5 69]))))))) (.seq (.ops [.L 70 3 5, .s 3 2 70]) .ret)))))
theorem ok_metaprune_lambda_reader_term : OkF Tryd.prog 15 71 [7, 10, 20, 22, 34, 52, 54, 65, 68, 30, 30000046, 10050005] ir_metaprune_lambda_reader_term [.cell 2 true 3] := .of Tryd.func15 rfl rfl (by kernel_rfl) rfl
def ir_metaprune_lambda_reader_piece : IR :=
  (.seq (.ops [.i 1 (.box 43 (.t 0)), .i 2 (.alloc 26 [.st (.int .i64 0), .st (.int .i64 0), .full []])]) (.seq (.seq (.ops [.l 9 1, .i 10 (.callS 26 [.t 9]), .i 11 (.bin .eql (.t 10) (.c (.one (.st (.int .u8 40)))))]) (.cond (.t 11) (.seq (.ops [.l 12 1, .l 13 1, .i 14 (.nilCheck (.t 13)), .f 15 0 14, .l 16 15, .i 17 (.sliceS (.t 16) (some (.n 1)) none), .i 18 (.nilCheck (.t 12)), .f 19 0 18, .s 1 19 17]) (.seq (.ops [.l 20 1, .i 21 (.callS 15 [.t 20]), .i 3 (.alloc 26 [.st (.int .i64 0), .st (.int .i64 0), .full []]), .s 3 3 21]) (.seq (.ops [.l 22 1, .i 23 (.callS 29 [.t 22, .c (.one (.st (.int .u8 41)))])]) (.seq (.ops [.L 24 3 3, .s 3 2 24]) .ret)))) .skip)) (.seq (.ops [.l 25 1, .i 26 (.callS 28 [.t 25]), .i 4 (.alloc 9 [.st (.str (ByteArray.mk (#[])))]), .s 1 4 26]) (.seq (.ops [.l 27 1, .i 28 (.callS 27 [.t 27])]) (.seq (.seq (.ops [.l 29 1, .i 30 (.nilCheck (.t 29)), .f 31 1 30, .l 32 31, .i 33 (.callS 40 [.t 32])]) (.block 0 (.rangeF (.t 33) [34, 35] (.seq (.ops [.m 5 34]) (.ops [.m 6 35])) (.block 1 (.seq (.ops [.m 36 6, .l 37 4, .i 38 (.bin .eql (.t 36) (.t 37))]) (.cond (.t 38) (.seq (.ops [.l 39 1, .i 40 (.nilCheck (.t 39)), .f 41 1 40, .l 42 41, .i 43 (.len false (.t 42)), .i 44 (.bin .sub (.t 43) (.n 1)), .m 45 5, .i 46 (.bin .sub (.t 44) (.t 45)), .i 47 (.call 41 [.t 46]), .s 3 2 47]) .ret) .skip)))))) (.seq (.seq (.ops [.l 49 4, .i 50 (.sliceS (.t 49) (some (.n 1)) none), .i 51 (.call 42 [.t 50]), .m 48 51, .i 52 (.extract 0 (.t 48)), .i 53 (.extract 1 (.t 48)), .m 7 52, .m 8 53]) (.seq (.ops [.l 54 4, .i 55 (.indexStr (.t 54) (.n 0)), .i 56 (.bin .eql (.t 55) (.c (.one (.st (.int .u8 99))))), .m 57 56, .mk (some 58) (some (57, true)) (.mov (.t 8)) .no, .mk (some 59) (some (57, true)) (.eqE false (.t 58)) .no, .i 60 (.pick (.t 57) (.t 59) (.c (.one (.st (.bool false))))), .m 61 60, .mk (some 62) (some (61, true)) (.mov (.t 7)) .no, .mk (some 63) (some (61, true)) (.call 39 [.t 62]) .no, .mk (some 64) (some (61, true)) (.load false 1 (.t 4)) .no, .mk (some 65) (some (61, true)) (.sliceS (.t 64) (some (.n 1)) none) .no, .mk (some 66) (some (61, true)) (.bin .eql (.t 63) (.t 65)) .no, .i 67 (.pick (.t 61) (.t 66) (.c (.one (.st (.bool false))))), .m 68 67, .mk (some 69) (some (68, true)) (.mov (.t 7)) .no, .mk (some 70) (some (68, true)) (.bin .lss (.t 69) (.n 40)) .no, .i 71 (.pick (.t 68) (.t 70) (.c (.one (.st (.bool false)))))]) (.cond (.t 71) (.seq (.ops [.m 72 7, .i 73 (.call 43 [.t 72]), .s 3 2 73]) .ret) .skip))) (.ops [.i 74 (.iface 41 (.n 15)), .mk none none (.pan (.t 74)) .no])))))))
theorem ok_metaprune_lambda_reader_piece : OkF Tryd.prog 31 75 [10, 21, 23, 26, 28, 33] ir_metaprune_lambda_reader_piece [.cell 2 true 3] := .of Tryd.func31 rfl rfl (by kernel_rfl) rfl
def ir_lambda_Parse : IR :=
  (.seq (.ops [.i 4 (.alloc 26 [.st (.int .i64 0), .st (.int .i64 0), .full []]), .i 5 (.alloc 29 [.st (.int .i64 0)])]) (.seq (.seq (.ops [.m 8 1, .i 9 (.call 10 [.t 8]), .m 6 9]) (.seq (.ops [.m 10 6, .i 11 (.bin .neq (.t 10) (.n 0))]) (.cond (.t 11) (.seq (.ops [.i 12 (.build [.st (.int .i64 0), .st (.int .i64 0), .full []] []), .m 13 6, .s 3 4 12, .s 1 5 13]) .ret) .skip))) (.seq (.seq (.ops [.m 14 0, .i 15 (.len true (.t 14)), .i 16 (.bin .gtr (.t 15) (.n 4000))]) (.cond (.t 16) (.seq (.ops [.i 17 (.build [.st (.int .i64 0), .st (.int .i64 0), .full []] []), .s 3 4 17, .mk none none (.store 1 (.t 5) (.n 3)) .no]) .ret) .skip)) (.seq (.ops [.i 18 (.makeFunc 13 [.t 4, .t 5]), .mk none none .never .no]) (.seq (.ops [.m 19 0, .m 20 1, .i 21 (.callN 14 [.t 20]), .i 22 (.build [.st (.str (ByteArray.mk (#[]))), .full [], .st (.int .i64 0)] [(0, 1, .t 19), (1, 1, .t 21), (2, 1, .n 200)]), .i 23 (.box 46 (.t 22)), .m 7 23]) (.seq (.ops [.m 24 7, .i 25 (.callS 15 [.t 24]), .s 3 4 25]) (.seq (.seq (.ops [.m 26 7, .i 27 (.nilCheck (.t 26)), .f 28 0 27, .l 29 28, .i 30 (.bin .neq (.t 29) (.c (.one (.st (.str (ByteArray.mk (#[])))))))]) (.cond (.t 30) (.ops [.i 31 (.iface 41 (.n 12)), .mk none none (.pan (.t 31)) .no]) .skip)) (.seq (.ops [.L 32 3 4, .s 3 4 32, .mk none none (.store 1 (.t 5) (.n 0)) .no]) .ret))))))))
theorem tr_lambda_Parse : trCode Tryd.prog 33 [20000021, 25] (Tryd.f7.body.getD .skip) = some ir_lambda_Parse := by kernel_rfl

def ir_metaprune_lambda_reader_take : IR :=
  (.seq (.ops [.m 2 0, .i 3 (.nilCheck (.t 2)), .f 4 2 3, .l 5 4, .i 6 (.bin .sub (.t 5) (.n 1)), .i 7 (.nilCheck (.t 2)), .f 8 2 7, .s 1 8 6]) (.seq (.ops [.m 9 0, .i 10 (.nilCheck (.t 9)), .f 11 2 10, .l 12 11, .i 13 (.bin .lss (.t 12) (.n 0))]) (.cond (.t 13) (.ops [.i 14 (.iface 41 (.n 3)), .mk none none (.pan (.t 14)) .no]) .skip)))
theorem ok_metaprune_lambda_reader_take : OkF Tryd.prog 27 15 [] ir_metaprune_lambda_reader_take [] := .of Tryd.func27 rfl rfl (by kernel_rfl) rfl
def ir_metaprune_lambda_reader_next : IR :=
  (.seq (.ops [.i 2 (.mov (.c (.one (.st (.int .u8 0)))))]) (.seq (.seq (.ops [.m 3 0, .i 4 (.nilCheck (.t 3)), .f 5 0 4, .l 6 5, .i 7 (.bin .eql (.t 6) (.c (.one (.st (.str (ByteArray.mk (#[])))))))]) (.cond (.t 7) (.seq (.ops [.i 2 (.mov (.c (.one (.st (.int .u8 0)))))]) .ret) .skip)) (.seq (.ops [.m 8 0, .i 9 (.nilCheck (.t 8)), .f 10 0 9, .l 11 10, .i 12 (.indexStr (.t 11) (.n 0)), .m 2 12]) .ret)))
theorem ok_metaprune_lambda_reader_next : OkF Tryd.prog 26 13 [] ir_metaprune_lambda_reader_next [.t 2] := .of Tryd.func26 rfl rfl (by kernel_rfl) rfl
def ir_metaprune_lambda_reader_sign : IR :=
  (.seq (.block 0 (.seq (.ops [.m 5 0, .i 6 (.nilCheck (.t 5)), .f 7 0 6, .l 8 7, .i 9 (.bin .eql (.t 8) (.c (.one (.st (.str (ByteArray.mk (#[]))))))), .m 4 9]) (.cond (.t 4) (.ops [.i 10 (.iface 41 (.n 13)), .mk none none (.pan (.t 10)) .no]) (.seq (.ops [.m 12 0, .i 13 (.nilCheck (.t 12)), .f 14 0 13, .l 15 14, .i 16 (.indexStr (.t 15) (.n 0)), .m 17 1, .i 18 (.bin .neq (.t 16) (.t 17)), .m 11 18]) (.cond (.t 11) (.ops [.i 19 (.iface 41 (.n 12)), .mk none none (.pan (.t 19)) .no]) .skip))))) (.ops [.m 20 0, .m 21 0, .i 22 (.nilCheck (.t 21)), .f 23 0 22, .l 24 23, .i 25 (.sliceS (.t 24) (some (.n 1)) none), .i 26 (.nilCheck (.t 20)), .f 27 0 26, .s 1 27 25]))
theorem ok_metaprune_lambda_reader_sign : OkF Tryd.prog 29 28 [] ir_metaprune_lambda_reader_sign [] := .of Tryd.func29 rfl rfl (by kernel_rfl) rfl
def ir_metaprune_lambda_reader_name : IR :=
  (.seq (.ops [.i 2 (.mov (.c (.one (.st (.str (ByteArray.mk (#[])))))))]) (.seq (.ops [.i 3 (.mov (.n 0))]) (.seq (.block 0 (.loop (.seq (.seq (.ops [.m 5 3, .m 6 0, .i 7 (.nilCheck (.t 6)), .f 8 0 7, .l 9 8, .i 10 (.len true (.t 9)), .i 11 (.bin .lss (.t 5) (.t 10)), .m 12 11, .mk (some 13) (some (12, true)) (.mov (.t 0)) .no, .mk (some 14) (some (12, true)) (.nilCheck (.t 13)) .no, .mk (some 15) (some (12, true)) (.fieldAddr 0 (.t 14)) .no, .mk (some 16) (some (12, true)) (.load false 1 (.t 15)) .no, .mk (some 17) (some (12, true)) (.mov (.t 3)) .no, .mk (some 18) (some (12, true)) (.indexStr (.t 16) (.t 17)) .no, .mk (some 19) (some (12, true)) (.bin .geq (.t 18) (.c (.one (.st (.int .u8 97))))) .no, .mk (some 20) (some (12, true)) (.mov (.t 19)) .no, .mk (some 21) (some (20, true)) (.mov (.t 0)) .no, .mk (some 22) (some (20, true)) (.nilCheck (.t 21)) .no, .mk (some 23) (some (20, true)) (.fieldAddr 0 (.t 22)) .no, .mk (some 24) (some (20, true)) (.load false 1 (.t 23)) .no, .mk (some 25) (some (20, true)) (.mov (.t 3)) .no, .mk (some 26) (some (20, true)) (.indexStr (.t 24) (.t 25)) .no, .mk (some 27) (some (20, true)) (.bin .leq (.t 26) (.c (.one (.st (.int .u8 122))))) .no, .mk (some 28) (some (12, true)) (.pick (.t 20) (.t 27) (.c (.one (.st (.bool false))))) .no, .mk (some 29) (some (12, true)) (.mov (.t 28)) .no, .mk (some 30) (some (29, false)) (.mov (.t 0)) .no, .mk (some 31) (some (29, false)) (.nilCheck (.t 30)) .no, .mk (some 32) (some (29, false)) (.fieldAddr 0 (.t 31)) .no, .mk (some 33) (some (29, false)) (.load false 1 (.t 32)) .no, .mk (some 34) (some (29, false)) (.mov (.t 3)) .no, .mk (some 35) (some (29, false)) (.indexStr (.t 33) (.t 34)) .no, .mk (some 36) (some (29, false)) (.bin .geq (.t 35) (.c (.one (.st (.int .u8 65))))) .no, .mk (some 37) (some (29, false)) (.mov (.t 36)) .no, .mk (some 38) (some (37, true)) (.mov (.t 0)) .no, .mk (some 39) (some (37, true)) (.nilCheck (.t 38)) .no, .mk (some 40) (some (37, true)) (.fieldAddr 0 (.t 39)) .no, .mk (some 41) (some (37, true)) (.load false 1 (.t 40)) .no, .mk (some 42) (some (37, true)) (.mov (.t 3)) .no, .mk (some 43) (some (37, true)) (.indexStr (.t 41) (.t 42)) .no, .mk (some 44) (some (37, true)) (.bin .leq (.t 43) (.c (.one (.st (.int .u8 90))))) .no, .mk (some 45) (some (29, false)) (.pick (.t 37) (.t 44) (.c (.one (.st (.bool false))))) .no, .mk (some 46) (some (12, true)) (.pick (.t 29) (.c (.one (.st (.bool true)))) (.t 45)) .no, .mk (some 47) (some (12, true)) (.mov (.t 46)) .no, .mk (some 48) (some (47, false)) (.mov (.t 0)) .no, .mk (some 49) (some (47, false)) (.nilCheck (.t 48)) .no, .mk (some 50) (some (47, false)) (.fieldAddr 0 (.t 49)) .no, .mk (some 51) (some (47, false)) (.load false 1 (.t 50)) .no, .mk (some 52) (some (47, false)) (.mov (.t 3)) .no, .mk (some 53) (some (47, false)) (.indexStr (.t 51) (.t 52)) .no, .mk (some 54) (some (47, false)) (.bin .geq (.t 53) (.c (.one (.st (.int .u8 48))))) .no, .mk (some 55) (some (47, false)) (.mov (.t 54)) .no, .mk (some 56) (some (55, true)) (.mov (.t 0)) .no, .mk (some 57) (some (55, true)) (.nilCheck (.t 56)) .no, .mk (some 58) (some (55, true)) (.fieldAddr 0 (.t 57)) .no, .mk (some 59) (some (55, true)) (.load false 1 (.t 58)) .no, .mk (some 60) (some (55, true)) (.mov (.t 3)) .no, .mk (some 61) (some (55, true)) (.indexStr (.t 59) (.t 60)) .no, .mk (some 62) (some (55, true)) (.bin .leq (.t 61) (.c (.one (.st (.int .u8 57))))) .no, .mk (some 63) (some (47, false)) (.pick (.t 55) (.t 62) (.c (.one (.st (.bool false))))) .no, .mk (some 64) (some (12, true)) (.pick (.t 47) (.c (.one (.st (.bool true)))) (.t 63)) .no, .i 65 (.pick (.t 12) (.t 64) (.c (.one (.st (.bool false)))))]) (.cond (.t 65) .skip (.exit 0))) (.block 1 (.ops [.m 66 3, .i 67 (.bin .add (.t 66) (.n 1)), .m 3 67]))))) (.seq (.seq (.ops [.m 68 3, .i 69 (.bin .eql (.t 68) (.n 0))]) (.cond (.t 69) (.seq (.seq (.ops [.m 70 0, .i 71 (.nilCheck (.t 70)), .f 72 0 71, .l 73 72, .i 74 (.bin .eql (.t 73) (.c (.one (.st (.str (ByteArray.mk (#[])))))))]) (.cond (.t 74) (.ops [.i 75 (.iface 41 (.n 13)), .mk none none (.pan (.t 75)) .no]) .skip)) (.ops [.i 76 (.iface 41 (.n 12)), .mk none none (.pan (.t 76)) .no])) .skip)) (.seq (.ops [.m 77 0, .i 78 (.nilCheck (.t 77)), .f 79 0 78, .l 80 79, .m 81 3, .i 82 (.sliceS (.t 80) none (some (.t 81))), .m 4 82]) (.seq (.seq (.ops [.m 83 4, .i 84 (.call 21 [.t 83]), .i 85 (.un .not (.t 84))]) (.cond (.t 85) (.ops [.i 86 (.iface 41 (.n 1)), .mk none none (.pan (.t 86)) .no]) .skip)) (.seq (.ops [.m 87 0, .m 88 0, .i 89 (.nilCheck (.t 88)), .f 90 0 89, .l 91 90, .m 92 3, .i 93 (.sliceS (.t 91) (some (.t 92)) none), .i 94 (.nilCheck (.t 87)), .f 95 0 94, .s 1 95 93]) (.seq (.ops [.m 96 4, .m 2 96]) .ret))))))))
theorem ok_metaprune_lambda_reader_name : OkF Tryd.prog 28 97 [] ir_metaprune_lambda_reader_name [.t 2] := .of Tryd.func28 rfl rfl (by kernel_rfl) rfl

def ir_lambda_Parse_1 : IR :=
  (.seq (.ops [.i 5 .never, .i 6 .never, .m 4 6, .i 7 (.extract 0 (.t 4)), .i 8 (.extract 1 (.t 4)), .m 2 7, .m 3 8]) (.seq (.ops [.m 9 3]) (.cond (.t 9) (.ops [.i 10 (.build [.st (.int .i64 0), .st (.int .i64 0), .full []] []), .m 11 2, .s 3 0 10, .s 1 1 11]) .skip)))
theorem tr_lambda_Parse_1 : trCode Tryd.prog 12 [] (Tryd.f13.body.getD .skip) = some ir_lambda_Parse_1 := by kernel_rfl

def Behind (S : AStore) (ι : AHnd) (σ : Sto) (w : World) (S' : AStore) (w' : World) : Prop := ∃ σ' ι', Clean S' ∧ Upd S ι S' ι' ∧ Owned σ' S' ι' w' ∧ Fit σ' w' ∧ (∀ p x, σ p = some x → σ' p = some x) ∧
  (∀ p : Addr, p.block < w.heap.size → notOf S ι p.block → σ' p = σ p) ∧ (w'.os = w.os ∧ w'.tape = w.tape ∧ w'.output = w.output) ∧ w.heap.size ≤ w'.heap.size ∧
  (∀ g, g < w.heap.size → notOf S ι g → w'.heap[g]? = w.heap[g]?) ∧ (∀ id b g, S' id = some b → (ι' id).g = some g → w.heap.size ≤ g ∨ ¬ notOf S ι g)
theorem Behind.refl {S : AStore} {ι : AHnd} {σ : Sto} {w : World} (h1 : Clean S) (h2 : Owned σ S ι w) (h3 : Fit σ w) : Behind S ι σ w S w :=
  ⟨σ, ι, h1, Upd.refl _ _, h2, h3, fun _ _ h => h, fun _ _ _ => rfl, ⟨rfl, rfl, rfl⟩, Nat.le_refl _, fun _ _ _ => rfl, fun id b g hb hg => .inr fun hn => hn id b hb hg⟩
def ADef (P : Program) (f : FuncId) (xs : List AV) (S : AStore) (u u' : FrameMode) (S' : AStore) : Prop :=
  Clean S → ∀ (σ : Sto) (w : World) (vs : List Value) (ι : AHnd), GlobIn σ → Fit σ w → Owned σ S ι w → All2 (VRep σ S ι) vs xs →
    CallsD P f vs.toArray u w fun e u1 w' => (∃ v, e = .returned v) ∧ u1 = u' ∧ Behind S ι σ w S' w'
section
variable {P : Program} {C : Ctx} {a : Act} {w : World} {σ : Sto} {ι : AHnd} {s : AS}
theorem owned_up (R : Refs C σ ι s a w) : Owned σ (upS s.S) (fun i => ι (dn1 i)) w := by
  have hup : ∀ i, dn1 (up1 i) = i := dn_up
  have hS : ∀ i b, s.S i = some b → upS s.S (up1 i) = some (b.ren up1) := fun i b hb => upS_some hb
  have hι : ∀ i b, s.S i = some b → (fun i => ι (dn1 i)) (up1 i) = ι i := fun i b _ => by show ι (dn1 (up1 i)) = _; rw [hup]
  refine ⟨fun id b hb => ?_, fun id id' b b' g h1 h2 g1 g2 => ?_⟩
  · obtain ⟨hle, b', h1, rfl⟩ := upS_inv hb
    exact BRep.ren (S2 := upS s.S) (ι2 := fun i => ι (dn1 i)) (ρ := up1) hS hι (R.blk _ _ h1)
  · obtain ⟨l1, c1, k1, _⟩ := upS_inv h1
    obtain ⟨l2, c2, k2, _⟩ := upS_inv h2
    have := R.inj _ _ _ _ g k1 k2 g1 g2
    rw [← up_dn l1, ← up_dn l2, this]
theorem val_up (R : Refs C σ ι s a w) {v : Value} {av : AV} (h : VRep σ s.S ι v av) : VRep σ (upS s.S) (fun i => ι (dn1 i)) v (av.ren up1) :=
  VRep.ren (S2 := upS s.S) (ι2 := fun i => ι (dn1 i)) (ρ := up1) (fun i b hb => upS_some hb) (fun i b _ => by show ι (dn1 (up1 i)) = _; rw [dn_up]) h
theorem behind_refs {S' : AStore} {w' : World} (R : Refs C σ ι s a w) (h : Behind (upS s.S) (fun i => ι (dn1 i)) σ w S' w') : Holds C ⟨s.env, dnS S'⟩ a w' := by
  obtain ⟨σ', ι', hclean, hupd, hown', hf', hkeep, hold, hos, hsz, hsame, hbase⟩ := h
  have hup : ∀ i, dn1 (up1 i) = i := dn_up
  have hS : ∀ i b, s.S i = some b → upS s.S (up1 i) = some (b.ren up1) := fun i b hb => upS_some hb
  have hSd : ∀ i b, S' i = some b → dnS S' (dn1 i) = some (b.ren dn1) := fun i b hb => dnS_some (hclean i b hb).1 hb
  obtain ⟨ι2, hι2⟩ : ∃ ι2 : AHnd, ∀ i, ι2 i = ι' (up1 i) := ⟨fun i => ι' (up1 i), fun _ => rfl⟩
  have hιd : ∀ i b, S' i = some b → ι2 (dn1 i) = ι' i := fun i b hb => by
    rw [hι2, up_dn (hclean i b hb).1]
  have hu : Upd s.S ι (dnS S') ι2 := fun id b hb => by
    obtain ⟨b', h1, h2, h3⟩ := hupd _ _ (hS id b hb)
    have h4 := hSd _ _ h1
    rw [hup] at h4
    refine ⟨_, h4, by rw [ren_len] at h2 ⊢; exact h2, fun hl => ?_⟩
    rw [ren_len] at hl
    obtain ⟨q1, q2⟩ := h3 (by rw [ren_len]; exact hl)
    refine ⟨by rw [ren_wid] at q1 ⊢; exact q1, ?_⟩
    rw [hι2, q2]
    show ι (dn1 (up1 id)) = _
    rw [hup]
  have hnot : ∀ g, g < C.N → ¬ C.G g → notOf (upS s.S) (fun i => ι (dn1 i)) g := fun g h1 h2 id b hb hg => by
    obtain ⟨_, b', k1, _⟩ := upS_inv hb
    rcases R.base _ _ g k1 hg with h | h
    · omega
    · exact h2 h
  refine ⟨σ', ι2, R.size, fun i hi => (R.env i hi).mono hkeep hu, R.nod.mono (fun D h => (hsame D (Array.getElem?_eq_some_iff.1 h).1 (notOf_mark (owned_up R).1 h)).trans h), hf', fun id b hb => ?_, fun id id' b b' g h1 h2 g1 g2 => ?_, fun id b g hb hg => ?_, fun p x hx => hkeep _ _ (R.ext p x hx), fun p h1 h2 => ?_, ⟨hos.1.trans R.os.1, hos.2.1.trans R.os.2.1, hos.2.2.trans R.os.2.2⟩, ⟨Nat.le_trans R.grown.1 hsz, Nat.le_trans R.grown.2 hsz⟩, fun g h1 h2 => ?_, R.upd.trans hu⟩
  · obtain ⟨b', h1, rfl⟩ := dnS_inv hb
    have := BRep.ren (S2 := dnS S') (ι2 := ι2) (ρ := dn1) hSd hιd (hown'.1 _ _ h1)
    rw [hι2]
    exact this
  · obtain ⟨c1, k1, _⟩ := dnS_inv h1
    obtain ⟨c2, k2, _⟩ := dnS_inv h2
    rw [hι2] at g1 g2
    have := congrArg dn1 (hown'.2 _ _ _ _ g k1 k2 g1 g2)
    rw [hup, hup] at this
    exact this
  · obtain ⟨b', h1, _⟩ := dnS_inv hb
    rw [hι2] at hg
    rcases hbase _ _ g h1 hg with h2 | h2
    · exact .inl (by have := R.grown.1; omega)
    · by_cases hN : g < C.N
      · by_cases hG : C.G g
        · exact .inr hG
        · exact absurd (hnot g hN hG) h2
      · exact .inl (by omega)
  · exact (hold p (by have := R.grown.1; omega) (hnot _ h1 h2)).trans (R.old p h1 h2)
  · exact (hsame g (by have := R.grown.1; omega) (hnot g h1 h2)).trans (R.same g h1 h2)
theorem leaves_one {fn : Func} {g : FuncId} {vs : List Value} {avs : List AV} {u u' : FrameMode} {S' : AStore} {K : Ending → World → Prop} (R : Refs C σ ι s a w) (hpl : plainF P g = true) (hvs : All2 (VRep σ s.S ι) vs avs) (hu : u ≠ .run)
    (hd : ADef P g (AV.rens up1 avs) (upS s.S) u u' S') (hset : settle u' = .returning) (hfin : ∀ w', Holds C ⟨s.env, dnS S'⟩ a w' → ∃ v, (results fn a.tmps).run P w' = .ok v w' ∧ K (.returned v) w') :
    Leaves P fn a.tmps K [{ target := .fn (.func g) vs.toArray, args := #[] }] u w := by
  refine leaves_cons (f := g) (args := vs.toArray) hu ?_ ?_
  · have := run_enter (P := P) (w := w) (args := vs.toArray) hpl
    simpa [invoke] using this
  · have hargs : All2 (VRep σ (upS s.S) (fun i => ι (dn1 i))) vs (AV.rens up1 avs) := by
      rw [AV.rens_eq]
      exact (hvs.mono fun _ _ x => val_up R x).map_right
    refine (hd (clean_upS _) σ w vs _ (C.glob.mono R.ext) R.fit (owned_up R) hargs).mono fun e u1 w' he => ?_
    obtain ⟨⟨v, rfl⟩, rfl, hb⟩ := he
    dsimp only
    rw [hset]
    exact hfin w' (behind_refs R hb)
end
theorem run_assert_nil {P : Program} {w : World} {x t : TypeId} {k : IntKind} {z : Value} (hd : P.underlying t = some (.int k)) (hz : (P.info? t).bind (·.zero) = some z) : (Instr.typeAssert .nilIface x t true).run P w = .ok (.tuple #[z, .bool false]) w := by
  rw [Option.bind_eq_some_iff] at hz
  obtain ⟨i, hi, hz⟩ := hz
  unfold Instr.typeAssert
  simp [run_underlying hd, zeroValue, run_typeInfo w hi, hz]
theorem run_assert_hit {P : Program} {w : World} {x t : TypeId} {k : IntKind} {v : Value} (hd : P.underlying t = some (.int k)) : (Instr.typeAssert (.iface t v) x t true).run P w = .ok (.tuple #[v, .bool true]) w := by
  unfold Instr.typeAssert
  simp [run_underlying hd]
theorem behind_of {C : Ctx} {S : AStore} {ι : AHnd} {σ : Sto} {w w' : World} {s : AS} {a : Act} (hC : C.N = w.heap.size ∧ (C.G = fun g => ¬ notOf S ι g) ∧ C.σ0 = σ ∧ C.w0 = w ∧ C.S0 = S ∧ C.ι0 = ι) (hS : Clean s.S) (h : Holds C s a w') : Behind S ι σ w s.S w' := by
  obtain ⟨h1, h2, h3, h4, h5, h6⟩ := hC
  obtain ⟨σ', ι', R⟩ := h
  have ho := R.old
  have hu := R.upd
  have he := R.ext
  have hs := R.same
  have hb := R.base
  have hg := R.grown
  have hos := R.os
  rw [h1, h2] at ho hs hb
  rw [h3] at ho he
  rw [h4] at hs hg hos
  rw [h5, h6] at hu
  exact ⟨σ', ι', hS, hu, ⟨R.blk, R.inj⟩, R.fit, he, fun p q1 q2 => ho p q1 (fun h => h q2), hos, hg.2, fun g q1 q2 => hs g q1 (fun h => h q2), fun id b g q1 q2 => hb id b g q1 q2⟩
def EndD (P : Program) (g : FuncId) (avs : List AV) (rs : List RV) (r : AV) : AX → AS → Prop
  | .normal, s | .ret, s => ∃ S', ADef P g (AV.rens up1 avs) (upS s.S) .returning .returning S' ∧ (⟨s.env, dnS S'⟩ : AS).result rs = some r
  | .pan v, s => ∃ u' S', ADef P g (AV.rens up1 avs) (upS s.S) (.panicking [{ v := v, recovered := false }]) u' S' ∧ settle u' = .returning ∧ (⟨s.env, dnS S'⟩ : AS).result rs = some r
  | _, _ => False
def AS.up (s : AS) : AS := ⟨fun i => (s.env i).ren up1, upS s.S⟩
section
variable {P : Program}
theorem trCode_seq {n : Nat} {mu : List Nat} {c : Code} {x y : IR} (h : trCode P n mu c = some (.seq x y)) : ∃ c1 c2, c = .seq c1 c2 ∧ trCode P n mu c1 = some x ∧ trCode P n mu c2 = some y := by
  cases c <;> simp only [trCode] at h
  case seq c1 c2 =>
    split at h
    · rename_i x' y' e1 e2
      cases h
      exact ⟨c1, c2, rfl, e1, e2⟩
    · cases h
  all_goals (exfalso; revert h; (repeat' split) <;> simp)
end

set_option maxHeartbeats 1600000
abbrev lfault (e : Int) : Value := .iface 41 (.int .i64 e)
def lenvR (b c : Nat) (n : Int) (ok : Bool) : Nat → AV
  | 0 => .one (.ptr b 1 0 0)
  | 1 => .one (.ptr c 1 0 0)
  | 2 => aInt n
  | 3 => aBool ok
  | _ => .any
theorem lholdsR {b c : Nat} {n : Int} {ok : Bool} {S : AStore} {σ : Sto} {ι : AHnd} {w : World} {v1 v2 : Value} {a : Act} (hclean : Clean S) (hglob : GlobIn σ) (hfit : Fit σ w) (hown : Owned σ S ι w) (h1 : VRep σ S ι v1 (.one (.ptr b 1 0 0))) (h2 : VRep σ S ι v2 (.one (.ptr c 1 0 0))) (hn : inR .i64 n)
    (hs : 12 ≤ a.tmps.size) (g0 : a.tmps.getD 0 undef = v1) (g1 : a.tmps.getD 1 undef = v2) (g2 : a.tmps.getD 2 undef = .int .i64 n) (g3 : a.tmps.getD 3 undef = .bool ok) (hd : a.defers = []) :
    Holds ⟨12, w.heap.size, fun g => ¬ notOf S ι g, σ, w, S, ι, hclean, hglob, [], none, true⟩ ⟨lenvR b c n ok, S⟩ a w := by
  refine ⟨σ, ι, hs, fun i hi => ?_, ⟨[], by rw [hd]; rfl, List.nodup_nil, fun D h => (by simp at h), fun _ => rfl⟩, hfit, hown.1, hown.2, fun id b g h hg => .inr (fun hno => hno id b h hg), fun _ _ h => h, fun _ _ _ => rfl, ⟨rfl, rfl, rfl⟩, ⟨Nat.le_refl _, Nat.le_refl _⟩, fun _ _ _ => rfl, Upd.refl _ _⟩
  match i with
  | 0 => rw [g0]; exact h1
  | 1 => rw [g1]; exact h2
  | 2 => rw [g2]; exact .one (.st (.int hn))
  | 3 => rw [g3]; exact .one (.st .bool)
  | _ + 4 => exact .any
set_option maxRecDepth 100000 in
theorem lparse1_idle (b c : Nat) (S : AStore) : ADef Tryd.prog 13 [.one (.ptr b 1 0 0), .one (.ptr c 1 0 0)] S .returning .returning S := by
  intro hclean σ w vs ι hglob hfit hown hvs
  obtain ⟨v1, v2, rfl, r1, r2⟩ : ∃ v1 v2, vs = [v1, v2] ∧ VRep σ S ι v1 (.one (.ptr b 1 0 0)) ∧ VRep σ S ι v2 (.one (.ptr c 1 0 0)) := by
    cases hvs with
    | cons h1 hvs => cases hvs with
      | cons h2 hvs => cases hvs with
        | nil => exact ⟨_, _, rfl, h1, h2⟩
  have hta : ∀ w, (Instr.typeAssert .nilIface 20 41 true).run Tryd.prog w = .ok (.tuple #[.int .i64 0, .bool false]) w := fun w => run_assert_nil (P := Tryd.prog) (t := 41) Tryd.underlying41 (by kernel_rfl)
  obtain ⟨c1, c2, hc, h1, h2⟩ := trCode_seq tr_lambda_Parse_1
  have hb : Tryd.f13.body = some (.seq c1 c2) := congrArg some hc
  injection hc with e1 e2
  subst e1
  clear e2 h1
  refine callsD_of_wpS Tryd.func13 hb fun c₀ cs hu => ?_
  apply wpS_seq
  apply wpS_region
  simp [wpOpsS, go_sem, recoverD, hu, hta, Tryd.ntmps13, Exit.thenS]
  have hH := lholdsR (b := b) (c := c) (n := 0) (ok := false) (a := { tmps := #[v1, v2] ++ (((((((Array.replicate 10 undef).setIfInBounds 3 Value.nilIface).setIfInBounds 4 (Value.tuple #[Value.int IntKind.i64 0, Value.bool false])).setIfInBounds 2 (Value.tuple #[Value.int IntKind.i64 0, Value.bool false])).setIfInBounds 5 (Value.int IntKind.i64 0)).setIfInBounds 6 (Value.bool false)).setIfInBounds 0 (Value.int IntKind.i64 0)).setIfInBounds 1 (Value.bool false), defers := [] }) hclean hglob hfit hown r1 r2 (by rw [inR_i64]; omega) (by simp) (by simp) (by simp) (by simp) (by simp) rfl
  refine wpS_of_wp (wp_mono (wpIn_wide.1 ((?hw : IWP Tryd.prog _ [] _ (fun e s => e = .normal ∧ s.S = S) ⟨lenvR b c 0 false, S⟩) c2 h2 _ w hH)) fun e a' w' he => ?_)
  case' hw => skip
  rotate_left
  · skip
    cases e with
    | normal =>
      obtain ⟨s, ⟨_, hS⟩, hH'⟩ := he
      have hbe := behind_of ⟨rfl, rfl, rfl, rfl, rfl, rfl⟩ (by rw [hS]; exact hclean) hH'
      rw [hS] at hbe
      obtain ⟨σ', ι', R'⟩ := hH'
      refine ⟨R'.nod.none rfl, .returning, by rw [← hu], .tuple #[], by simp [results, Tryd.results13], ⟨_, rfl⟩, rfl, hbe⟩
    | ret => obtain ⟨s, h, _⟩ := he; cases h.1
    | exit id => obtain ⟨s, h, _⟩ := he; cases h.1
    | panic ch => obtain ⟨s, v, h, _⟩ := he; cases h.1.1
    | goto l => exact he.elim
    | outgrown => exact he.elim
  · repeat' (first | (with_reducible first | refine W ?_ | refine Wz0 ?_) | ((with_reducible first | refine Wo (fun K hK => ?_) | refine Wp ?_ | refine Wq ?_ | refine Wr ?_); (try simp only [go_sem, fN, seval, eT, iR, lenvR, dT, dF, nL]); (repeat with_reducible refine Ai ?_); (try (refine hK _ ?_; clear hK K)); (try with_reducible refine iC ?_)))
    exact ⟨rfl, rfl⟩
def lgone (S : AStore) (b c : Nat) (n : Int) : AStore := updE (updE S b (some (.box 26 [.st (.int .i64 0), .st (.int .i64 0), .full []]))) c (some (.box 29 [.st (.int .i64 n)]))
set_option maxRecDepth 100000 in
theorem lparse1_pan (n : Int) (hn : inR .i64 n) (b c : Nat) (S : AStore) (hb1 : 1000 ≤ b) (hc1 : 1000 ≤ c) (hbc : b ≠ c) {cs1 : List AC} {x1 : AC} (sb : S b = some (.box 26 cs1)) (hl : cs1.length = 3) (sc : S c = some (.box 29 [x1])) :
    ADef Tryd.prog 13 [.one (.ptr b 1 0 0), .one (.ptr c 1 0 0)] S (.panicking [{ v := lfault n, recovered := false }]) (.panicking [{ v := lfault n, recovered := true }]) (lgone S b c n) := by
  intro hclean σ w vs ι hglob hfit hown hvs
  obtain ⟨v1, v2, rfl, r1, r2⟩ : ∃ v1 v2, vs = [v1, v2] ∧ VRep σ S ι v1 (.one (.ptr b 1 0 0)) ∧ VRep σ S ι v2 (.one (.ptr c 1 0 0)) := by
    cases hvs with
    | cons h1 hvs => cases hvs with
      | cons h2 hvs => cases hvs with
        | nil => exact ⟨_, _, rfl, h1, h2⟩
  have hta : ∀ w, (Instr.typeAssert (.iface 41 (.int .i64 n)) 20 41 true).run Tryd.prog w = .ok (.tuple #[.int .i64 n, .bool true]) w := fun w => run_assert_hit (P := Tryd.prog) (t := 41) Tryd.underlying41
  obtain ⟨c1, c2, hc, h1, h2⟩ := trCode_seq tr_lambda_Parse_1
  have hb : Tryd.f13.body = some (.seq c1 c2) := congrArg some hc
  injection hc with e1 e2
  subst e1
  clear e2 h1
  refine callsD_of_wpS Tryd.func13 hb fun c₀ cs hu => ?_
  apply wpS_seq
  apply wpS_region
  simp [wpOpsS, go_sem, recoverD, hu, hta, Tryd.ntmps13, Exit.thenS]
  have hH := lholdsR (b := b) (c := c) (n := n) (ok := true) (a := { tmps := #[v1, v2] ++ (((((((Array.replicate 10 undef).setIfInBounds 3 (lfault n)).setIfInBounds 4 (Value.tuple #[Value.int IntKind.i64 n, Value.bool true])).setIfInBounds 2 (Value.tuple #[Value.int IntKind.i64 n, Value.bool true])).setIfInBounds 5 (Value.int IntKind.i64 n)).setIfInBounds 6 (Value.bool true)).setIfInBounds 0 (Value.int IntKind.i64 n)).setIfInBounds 1 (Value.bool true), defers := [] }) hclean hglob hfit hown r1 r2 hn (by simp) (by simp) (by simp) (by simp) (by simp) rfl
  refine wpS_of_wp (wp_mono (wpIn_wide.1 ((?hw : IWP Tryd.prog _ [] _ (fun e s => e = .normal ∧ s.S = lgone S b c n) ⟨lenvR b c n true, S⟩) c2 h2 _ w hH)) fun e a' w' he => ?_)
  case' hw => skip
  rotate_left
  · cases e with
    | normal =>
      obtain ⟨s, ⟨_, hS⟩, hH'⟩ := he
      have hbe := behind_of ⟨rfl, rfl, rfl, rfl, rfl, rfl⟩ (by rw [hS]; exact clean_upd (clean_upd hclean hb1 (by simp [ABlk.high, AC.highs, AC.high])) hc1 (by simp [ABlk.high, AC.highs, AC.high])) hH'
      rw [hS] at hbe
      obtain ⟨σ', ι', R'⟩ := hH'
      refine ⟨R'.nod.none rfl, _, rfl, .tuple #[], by simp [results, Tryd.results13], ⟨_, rfl⟩, rfl, hbe⟩
    | ret => obtain ⟨s, h, _⟩ := he; cases h.1
    | exit id => obtain ⟨s, h, _⟩ := he; cases h.1
    | panic ch => obtain ⟨s, v, h, _⟩ := he; cases h.1.1
    | goto l => exact he.elim
    | outgrown => exact he.elim
  · have hcb : ¬ c = b := fun h => hbc h.symm
    repeat' (first | (with_reducible first | refine W ?_ | refine Wz0 ?_) | ((with_reducible first | refine Wo (fun K hK => ?_) | refine Wp ?_ | refine Wq ?_ | refine Wr ?_); (try simp only [go_sem, fN, seval, eT, iR, lenvR, sb, sc, hl, hcb, dT, dF, nL]); (repeat with_reducible refine Ai ?_); (try (refine hK _ ?_; clear hK K)); (try with_reducible refine iC ?_)))
    refine ⟨rfl, ?_⟩
    have hdl : List.drop 3 cs1 = [] := List.drop_eq_nil_of_le (by omega)
    rw [hdl]
    rfl
theorem lsettled (n : Int) : settle (.panicking [{ v := lfault n, recovered := true }]) = .returning := by
  rfl

theorem lowS_is {S S1 : AStore} {a0 : Nat} {b : ABlk} (hS : Clean S) (ha : 1000 ≤ a0) (h1 : S1 a0 = some b) (h2 : ∀ i, 1000 ≤ i → i ≠ a0 → S1 i = S i) : lowS S1 = updE S a0 (some b) := by
  funext i
  show (if i < 1000 then none else S1 i) = _
  by_cases e : i = a0
  · subst e
    rw [if_neg (by omega), updE_same, h1]
  · rw [updE_ne _ e]
    by_cases hi : i < 1000
    · rw [if_pos hi, clean_none hS hi]
    · rw [if_neg hi, h2 i (by omega) e]
theorem highs_is {S S1 : AStore} {a0 : Nat} {b : ABlk} (hS : Clean S) (hb : b.high = true) (h1 : S1 a0 = some b) (h2 : ∀ i, 1000 ≤ i → i ≠ a0 → S1 i = S i) : ∀ i c, 1000 ≤ i → S1 i = some c → c.high = true := fun i c hi hc => by
  by_cases e : i = a0
  · subst e
    rw [h1] at hc
    cases hc
    exact hb
  · rw [h2 i hi e] at hc
    exact (hS i c hc).2
theorem finS_one {C : Ctx} {rs : List RV} {r : AV} {e : AX} {s : AS} {S : AStore} {a0 : Nat} {b : ABlk} (r0 : AV) (hS : Clean S) (ha : 1000 ≤ a0) (hb : b.high = true) (he : match e with | .normal => True | .ret => True | _ => False)
    (h1 : (resAll s rs).map tupV = some r0) (h2 : outV s.S r0 = some r) (h3 : s.S a0 = some b) (h4 : ∀ i, 1000 ≤ i → i ≠ a0 → s.S i = S i) : FinS C rs r (updE S a0 (some b)) e s :=
  finS_low he r0 h1 h2 (highs_is hS hb h3 h4) (lowS_is hS ha h3 h4) (clean_upd hS ha hb)
theorem finS_two {C : Ctx} {rs : List RV} {r : AV} {e : AX} {s : AS} {S : AStore} {a0 b0 : Nat} {b c : ABlk} (r0 : AV) (hS : Clean S) (ha : 1000 ≤ a0) (hb0 : 1000 ≤ b0) (hne : b0 ≠ a0) (hb : b.high = true) (hc : c.high = true) (he : match e with | .normal => True | .ret => True | _ => False)
    (h1 : (resAll s rs).map tupV = some r0) (h2 : outV s.S r0 = some r) (h3 : s.S a0 = some b) (h3' : s.S b0 = some c) (h4 : ∀ i, 1000 ≤ i → i ≠ a0 → i ≠ b0 → s.S i = S i) : FinS C rs r (updE (updE S a0 (some b)) b0 (some c)) e s :=
  finS_low he r0 h1 h2 (fun i x hi hx => by
    by_cases e1 : i = a0
    · subst e1; rw [h3] at hx; cases hx; exact hb
    · by_cases e2 : i = b0
      · subst e2; rw [h3'] at hx; cases hx; exact hc
      · rw [h4 i hi e1 e2] at hx; exact (hS i x hx).2) (by
    funext i
    show (if i < 1000 then none else s.S i) = _
    by_cases e2 : i = b0
    · subst e2
      rw [updE_same, if_neg (by omega), h3']
    · rw [updE_ne _ e2]
      by_cases e1 : i = a0
      · subst e1
        rw [updE_same, if_neg (by omega), h3]
      · rw [updE_ne _ e1]
        by_cases hi : i < 1000
        · rw [if_pos hi, clean_none hS hi]
        · rw [if_neg hi, h4 i (by omega) e1 e2]) (clean_upd (clean_upd hS ha hb) hb0 hc)

theorem Ghost.kill {C : Ctx} {s : AS} (id : Nat) {ty : TypeId} {xs : List AC} (hS : s.S id = some (.box ty xs)) : Ghost C s (s.set id (.dead 1 0)) := fun a w ⟨σ, ι, R⟩ => by
  have hb := R.blk _ _ hS
  cases hb with
  | @box _ _ g vs h1 h2 h3 h4 h5 =>
    obtain ⟨hu, R'⟩ := R.turn (w' := w) hS (.dead 1 0) (ι id) (σ' := σ) (fun _ _ h => h) (fun _ _ _ => rfl) R.fit (Nat.le_refl _) (fun _ => ⟨rfl, rfl⟩) ⟨rfl, rfl, rfl⟩ (Nat.le_refl _) (fun _ _ _ => rfl) (fun g h => .inl h)
      (fun hu => .dead fun g' hg' => by rw [h1] at hg'; cases hg'; exact ⟨_, h3, rfl⟩)
    exact ⟨σ, _, R'⟩
theorem finP_at {C : Ctx} {v : Value} {s : AS} {S : AStore} {a0 : Nat} (hS : Clean S) (ha : 1000 ≤ a0) (h3 : s.S a0 = some (.dead 1 0)) (h4 : ∀ i, 1000 ≤ i → i ≠ a0 → s.S i = S i) : FinP C v (updE S a0 (some (.dead 1 0))) (.pan v) s :=
  ⟨rfl, _, Ghost.low (highs_is hS rfl h3 h4), lowS_is hS ha h3 h4, clean_upd hS ha rfl⟩
theorem finP_box {C : Ctx} {v : Value} {s : AS} {S : AStore} {a0 : Nat} {ty : TypeId} {xs : List AC} (hS : Clean S) (ha : 1000 ≤ a0) (h3 : s.S a0 = some (.box ty xs)) (h4 : ∀ i, 1000 ≤ i → i ≠ a0 → s.S i = S i) : FinP C v (updE S a0 (some (.dead 1 0))) (.pan v) s := by
  obtain ⟨h1, s2, hg, h5, h6⟩ := finP_at (C := C) (v := v) (s := s.set a0 (.dead 1 0)) hS ha (updE_same _ _ _) (fun i hi hne => (updE_ne _ hne _).trans (h4 i hi hne))
  exact ⟨h1, s2, (Ghost.kill a0 h3).trans hg, h5, h6⟩


theorem IWP.cut {P : Program} {C : Ctx} {mu : List Nat} {Q : AX → AS → Prop} {s : AS} {x : IR} (id : Nat) (M : AS → Prop) (h1 : IWP P C mu x (fun e s => e = .exit id ∧ M s) s) (h2 : ∀ s, M s → Q (.exit id) s) : IWP P C mu x Q s :=
  h1.mono fun e s h => by
    obtain ⟨rfl, hm⟩ := h
    exact h2 s hm

abbrev boxL (u : ByteArray) (nm : AC) (l : Int) : ABlk := .box 46 [.st (.str u), nm, .st (.int .i64 l)]
theorem boxL_high {u : ByteArray} {nm : AC} {l : Int} (h : nm.high = true) : (boxL u nm l).high = true := by
  show AC.highs [_, nm, _] = true
  simp only [AC.highs, AC.high, h, Bool.and_self]
theorem ltake_S {u : ByteArray} {nm : AC} {l : Int} {b : Nat} {S : AStore} (hb : 1000 ≤ b) (hnm : nm.high = true) (sb : S b = some (boxL u nm l)) (h0 : 1 ≤ l) (h1 : l ≤ 200) : ACallsS Tryd.prog 27 [.one (.ptr b 1 0 0)] S (.tup []) (updE S b (some (boxL u nm (l - 1)))) := by
  refine ok_metaprune_lambda_reader_take.acS fun hS C hC => ?_
  unfold ir_metaprune_lambda_reader_take
  repeat' (first | (with_reducible first | refine W ?_ | refine Wz0 ?_) | ((with_reducible first | refine Wx rfl (fun K hK => ?_) | refine Wp ?_ | refine Wq ?_ | refine Wr ?_); (try simp only [go_sem, fN, seval, eT, iR, AS.startS, sb, dT, dF, nL]); (repeat with_reducible refine Ai ?_); (try (refine hK _ ?_; clear hK K)); (try with_reducible refine iC ?_)))
  refine ⟨fun h => by omega, fun _ => ?_⟩
  repeat' (first | (with_reducible first | refine W ?_ | refine Wz0 ?_) | ((with_reducible first | refine Wx rfl (fun K hK => ?_) | refine Wp ?_ | refine Wq ?_ | refine Wr ?_); (try simp only [go_sem, fN, seval, eT, iR, dT, dF, nL]); (repeat with_reducible refine Ai ?_); (try (refine hK _ ?_; clear hK K)); (try with_reducible refine iC ?_)))
  exact finS_one (.tup []) hS hb (boxL_high hnm) trivial rfl rfl (by simp [updE]) fun i h1 h2 => by simp [updE, h2]
theorem ltake_P {u : ByteArray} {nm : AC} {l : Int} {b : Nat} {S : AStore} (hb : 1000 ≤ b) (hnm : nm.high = true) (sb : S b = some (boxL u nm l)) (h0 : l ≤ 0) (h1 : -200 ≤ l) : APan Tryd.prog 27 [.one (.ptr b 1 0 0)] S (lfault 3) (updE S b (some (.dead 1 0))) := by
  refine ok_metaprune_lambda_reader_take.acP fun hS C hC => ?_
  unfold ir_metaprune_lambda_reader_take
  repeat' (first | (with_reducible first | refine W ?_ | refine Wz0 ?_) | ((with_reducible first | refine Wx rfl (fun K hK => ?_) | refine Wp ?_ | refine Wq ?_ | refine Wr ?_); (try simp only [go_sem, fN, seval, eT, iR, AS.startS, sb, dT, dF, nL]); (repeat with_reducible refine Ai ?_); (try (refine hK _ ?_; clear hK K)); (try with_reducible refine iC ?_)))
  refine ⟨fun _ => ?_, fun h => by omega⟩
  refine IWP.opsPan 1 _ rfl (by kernel_rfl) ?_
  simp only [go_sem, fN, seval, eT, iR, PanAt, List.take_succ_cons, List.take_zero]
  intro envP
  repeat' (with_reducible first | refine Wy ?_ | refine Wz ?_ | refine Wv ?_)
  exact finP_box hS hb (by simp [updE]; exact ⟨rfl, rfl⟩) fun i h1 h2 => by simp [updE, h2]
def aheadL (u : ByteArray) : Int := if u.size = 0 then 0 else byteN u 0
theorem lnext_S {u : ByteArray} {nm : AC} {l : Int} {b : Nat} {S : AStore} (hb : 1000 ≤ b) (sb : S b = some (boxL u nm l)) : ACallsS Tryd.prog 26 [.one (.ptr b 1 0 0)] S (.one (.st (.int .u8 (aheadL u)))) S := by
  refine ok_metaprune_lambda_reader_next.acS fun hS C hC => ?_
  unfold ir_metaprune_lambda_reader_next
  repeat' (first | (with_reducible first | refine W ?_ | refine Wz0 ?_) | ((with_reducible first | refine Wo (fun K hK => ?_) | refine Wp ?_ | refine Wq ?_ | refine Wr ?_); (try simp only [go_sem, fN, seval, eT, iR, AS.startS, sb, dT, dF, nL]); (repeat with_reducible refine Ai ?_); (try (refine hK _ ?_; clear hK K)); (try with_reducible refine iC ?_)))
  refine ⟨fun h => ?_, fun h => ?_⟩
  · subst h
    repeat' (first | (with_reducible first | refine W ?_ | refine Wz0 ?_) | ((with_reducible first | refine Wo (fun K hK => ?_) | refine Wp ?_ | refine Wq ?_ | refine Wr ?_); (try simp only [go_sem, fN, seval, eT, iR, dT, dF, nL]); (repeat with_reducible refine Ai ?_); (try (refine hK _ ?_; clear hK K)); (try with_reducible refine iC ?_)))
    exact finS_same (.one (.st (.int .u8 0))) hS trivial rfl rfl fun i _ => rfl
  · have hpos : 0 < u.size := Nat.pos_of_ne_zero fun h0 => h (ByteArray.size_eq_zero_iff.1 h0)
    have e : aheadL u = byteN u 0 := if_neg (by omega)
    rw [e]
    repeat' (first | (with_reducible first | refine W ?_ | refine Wz0 ?_) | ((with_reducible first | refine Wo (fun K hK => ?_) | refine Wp ?_ | refine Wq ?_ | refine Wr ?_); (try simp only [go_sem, fN, seval, eT, iR, sb, dT, dF, nL]); (repeat with_reducible refine Ai ?_); (try (refine hK _ ?_; clear hK K)); (try with_reducible refine iC ?_)))
    exact finS_same (.one (.st (.int .u8 (byteN u 0)))) hS trivial rfl rfl fun i _ => rfl
theorem lsign_S {u : ByteArray} {nm : AC} {l : Int} {b : Nat} {S : AStore} (c : Int) (hb : 1000 ≤ b) (hnm : nm.high = true) (sb : S b = some (boxL u nm l)) (h0 : 0 < u.size) (hc : byteN u 0 = c) : ACallsS Tryd.prog 29 [.one (.ptr b 1 0 0), .one (.st (.int .u8 c))] S (.tup []) (updE S b (some (boxL (u.extract 1 u.size) nm l))) := by
  refine ok_metaprune_lambda_reader_sign.acS fun hS C hC => ?_
  unfold ir_metaprune_lambda_reader_sign
  have hne : ¬ u = ⟨#[]⟩ := fun h => by rw [h] at h0; exact absurd h0 (by decide)
  repeat' (first | (with_reducible first | refine W ?_ | refine Wz0 ?_) | ((with_reducible first | refine Wx rfl (fun K hK => ?_) | refine Wp ?_ | refine Wq ?_ | refine Wr ?_); (try simp only [go_sem, fN, seval, eT, iR, AS.startS, sb, hne, hc, dT, dF, nL]); (repeat with_reducible refine Ai ?_); (try (refine hK _ ?_; clear hK K)); (try with_reducible refine iC ?_)))
  exact finS_one (.tup []) hS hb (boxL_high hnm) trivial rfl rfl (by simp [updE]) fun i h1 h2 => by simp [updE, h2]
theorem lsign_P1 {u : ByteArray} {nm : AC} {l : Int} {b : Nat} {S : AStore} (c : Int) (hb : 1000 ≤ b) (sb : S b = some (boxL u nm l)) (h0 : u = ⟨#[]⟩) : APan Tryd.prog 29 [.one (.ptr b 1 0 0), .one (.st (.int .u8 c))] S (lfault 13) (updE S b (some (.dead 1 0))) := by
  refine ok_metaprune_lambda_reader_sign.acP fun hS C hC => ?_
  unfold ir_metaprune_lambda_reader_sign
  repeat' (first | (with_reducible first | refine W ?_ | refine Wz0 ?_) | ((with_reducible first | refine Wx rfl (fun K hK => ?_) | refine Wp ?_ | refine Wq ?_ | refine Wr ?_); (try simp only [go_sem, fN, seval, eT, iR, AS.startS, sb, h0, dT, dF, nL]); (repeat with_reducible refine Ai ?_); (try (refine hK _ ?_; clear hK K)); (try with_reducible refine iC ?_)))
  refine IWP.opsPan 1 _ rfl (by kernel_rfl) ?_
  simp only [go_sem, fN, seval, eT, iR, PanAt, List.take_succ_cons, List.take_zero]
  intro envP
  repeat' (with_reducible first | refine Wy ?_ | refine Wz ?_ | refine Wv ?_)
  exact finP_box hS hb (by simp [updE, sb]; exact ⟨rfl, rfl⟩) fun i h1 h2 => rfl
theorem lsign_P2 {u : ByteArray} {nm : AC} {l : Int} {b : Nat} {S : AStore} (c : Int) (hb : 1000 ≤ b) (sb : S b = some (boxL u nm l)) (h0 : 0 < u.size) (hc : ¬ byteN u 0 = c) : APan Tryd.prog 29 [.one (.ptr b 1 0 0), .one (.st (.int .u8 c))] S (lfault 12) (updE S b (some (.dead 1 0))) := by
  refine ok_metaprune_lambda_reader_sign.acP fun hS C hC => ?_
  unfold ir_metaprune_lambda_reader_sign
  have hne : ¬ u = ⟨#[]⟩ := fun h => by rw [h] at h0; exact absurd h0 (by decide)
  repeat' (first | (with_reducible first | refine W ?_ | refine Wz0 ?_) | ((with_reducible first | refine Wx rfl (fun K hK => ?_) | refine Wp ?_ | refine Wq ?_ | refine Wr ?_); (try simp only [go_sem, fN, seval, eT, iR, AS.startS, sb, hne, hc, dT, dF, nL]); (repeat with_reducible refine Ai ?_); (try (refine hK _ ?_; clear hK K)); (try with_reducible refine iC ?_)))
  refine IWP.opsPan 1 _ rfl (by kernel_rfl) ?_
  simp only [go_sem, fN, seval, eT, iR, PanAt, List.take_succ_cons, List.take_zero]
  intro envP
  repeat' (with_reducible first | refine Wy ?_ | refine Wz ?_ | refine Wv ?_)
  exact finP_box hS hb (by simp [updE, sb]; exact ⟨rfl, rfl⟩) fun i h1 h2 => rfl
theorem letter_cases (c : Int) : letterI c = true ∧ ((97 ≤ c ∧ c ≤ 122 ∧ 65 ≤ c ∧ ¬ c ≤ 90 ∧ 48 ≤ c ∧ ¬ c ≤ 57) ∨ (¬ 97 ≤ c ∧ c ≤ 122 ∧ 65 ≤ c ∧ c ≤ 90 ∧ 48 ≤ c ∧ ¬ c ≤ 57) ∨ (¬ 97 ≤ c ∧ c ≤ 122 ∧ ¬ 65 ≤ c ∧ c ≤ 90 ∧ 48 ≤ c ∧ c ≤ 57)) ∨
    ¬ letterI c = true ∧ ((97 ≤ c ∧ ¬ c ≤ 122 ∧ 65 ≤ c ∧ ¬ c ≤ 90 ∧ 48 ≤ c ∧ ¬ c ≤ 57) ∨ (¬ 97 ≤ c ∧ c ≤ 122 ∧ 65 ≤ c ∧ ¬ c ≤ 90 ∧ 48 ≤ c ∧ ¬ c ≤ 57) ∨ (¬ 97 ≤ c ∧ c ≤ 122 ∧ ¬ 65 ≤ c ∧ c ≤ 90 ∧ 48 ≤ c ∧ ¬ c ≤ 57) ∨ (¬ 97 ≤ c ∧ c ≤ 122 ∧ ¬ 65 ≤ c ∧ c ≤ 90 ∧ ¬ 48 ≤ c ∧ c ≤ 57)) := by
  simp only [letterI, Bool.or_eq_true, decide_eq_true_eq]
  omega
def NameAt (b : Nat) (n : Nat) (S : AStore) (x : AS) : Prop := x.env 0 = .one (.ptr b 1 0 0) ∧ x.env 3 = aInt n ∧ x.S = S
set_option maxRecDepth 100000 in
theorem lname_Q {u : ByteArray} {nm : AC} {l : Int} {b : Nat} {S : AStore} {C : Ctx} {Q : AX → AS → Prop} (hu : u.size ≤ 100000) (sb : S b = some (boxL u nm l))
    (hok : lendA u 0 ≠ 0 → nameOk (u.extract 0 (lendA u 0)) = true → ∀ x : AS, x.env 2 = aStr (u.extract 0 (lendA u 0)) → x.S b = some (boxL (u.extract (lendA u 0) u.size) nm l) → (∀ i, 1000 ≤ i → i ≠ b → x.S i = S i) → Q .ret x)
    (hp : ∀ (e : Int) (x : AS), (lendA u 0 = 0 ∧ u = ⟨#[]⟩ ∧ e = 13) ∨ (lendA u 0 = 0 ∧ ¬ u = ⟨#[]⟩ ∧ e = 12) ∨ (lendA u 0 ≠ 0 ∧ ¬ nameOk (u.extract 0 (lendA u 0)) = true ∧ e = 1) → x.S = S → Q (.pan (lfault e)) x) : IWP Tryd.prog C [] ir_metaprune_lambda_reader_name Q (AS.startS [.one (.ptr b 1 0 0)] S) := by
  unfold ir_metaprune_lambda_reader_name
  obtain ⟨l1, l2⟩ := lendA_le (s := u) (i := 0) (Nat.zero_le _)
  repeat' (first | (with_reducible first | refine W ?_ | refine Wz0 ?_) | ((with_reducible first | refine Wx rfl (fun K hK => ?_) | refine Wp ?_ | refine Wq ?_ | refine Wr ?_); (try simp only [go_sem, fN, seval, eT, iR, AS.startS, sb, dT, dF, nL]); (repeat with_reducible refine Ai ?_); (try (refine hK _ ?_; clear hK K)); (try with_reducible refine iC ?_)))
  refine IWP.cut 0 (NameAt b (lendA u 0) S) ?_ ?_
  · refine IWP.loop (fun m x => ∃ j, j ≤ u.size ∧ m = u.size - j ∧ lendA u 0 = lendA u j ∧ NameAt b j S x) u.size ⟨0, Nat.zero_le _, rfl, rfl, rfl, rfl, rfl⟩ ?_
    rintro m ⟨env, S1⟩ ⟨j, hj, rfl, hl, v0, v3, hS1⟩
    simp only at v0 v3 hS1
    subst hS1
    by_cases hlt : (j : Int) < u.size
    · have hbt : byteN u j = byteAt u j := by
        have := byteN_tail (s := u) (i := 0) (k := j) (by omega)
        simpa [tailS] using this
      rcases letter_cases (byteN u j) with ⟨hlet, h⟩ | ⟨hlet, h⟩
      · have hgo : lendA u 0 = lendA u (j + 1) := by rw [hl]; exact lendA_on (by omega) (by rw [← hbt]; exact hlet)
        rcases h with ⟨h1, h2, h3, h4, h5, h6⟩ | ⟨h1, h2, h3, h4, h5, h6⟩ | ⟨h1, h2, h3, h4, h5, h6⟩ <;>
        · repeat' (first | (with_reducible first | refine W ?_ | refine Wz0 ?_) | ((with_reducible first | refine Wx rfl (fun K hK => ?_) | refine Wp ?_ | refine Wq ?_ | refine Wr ?_); (try simp only [go_sem, fN, seval, eT, iR, v0, v3, sb, hlt, h1, h2, h3, h4, h5, h6, dT, dF, nL]); (repeat with_reducible refine Ai ?_); (try (refine hK _ ?_; clear hK K)); (try with_reducible refine iC ?_)))
          exact ⟨u.size - (j + 1), by omega, j + 1, by omega, rfl, hgo, v0, rfl, rfl⟩
      · have hst : lendA u 0 = j := by rw [hl]; exact lendA_stop (by omega) (by rw [← hbt]; exact hlet)
        rcases h with ⟨h1, h2, h3, h4, h5, h6⟩ | ⟨h1, h2, h3, h4, h5, h6⟩ | ⟨h1, h2, h3, h4, h5, h6⟩ | ⟨h1, h2, h3, h4, h5, h6⟩ <;>
        · repeat' (first | (with_reducible first | refine W ?_ | refine Wz0 ?_) | ((with_reducible first | refine Wx rfl (fun K hK => ?_) | refine Wp ?_ | refine Wq ?_ | refine Wr ?_); (try simp only [go_sem, fN, seval, eT, iR, v0, v3, sb, hlt, h1, h2, h3, h4, h5, h6, dT, dF, nL]); (repeat with_reducible refine Ai ?_); (try (refine hK _ ?_; clear hK K)); (try with_reducible refine iC ?_)))
          exact ⟨rfl, v0, by rw [hst]; exact v3, rfl⟩
    · have hst : lendA u 0 = j := by rw [hl]; exact lendA_end (by omega)
      repeat' (first | (with_reducible first | refine W ?_ | refine Wz0 ?_) | ((with_reducible first | refine Wx rfl (fun K hK => ?_) | refine Wp ?_ | refine Wq ?_ | refine Wr ?_); (try simp only [go_sem, fN, seval, eT, iR, v0, v3, sb, hlt, dT, dF, nL]); (repeat with_reducible refine Ai ?_); (try (refine hK _ ?_; clear hK K)); (try with_reducible refine iC ?_)))
      exact ⟨rfl, v0, by rw [hst]; exact v3, rfl⟩
  · rintro ⟨env, S1⟩ ⟨v0, v3, hS1⟩
    simp only at v0 v3 hS1
    subst hS1
    generalize lendA u 0 = n at *
    by_cases hn0 : n = 0
    · have hn1 : (n : Int) = 0 := by omega
      by_cases hu0 : u = ⟨#[]⟩
      · repeat' (first | (with_reducible first | refine W ?_ | refine Wz0 ?_) | ((with_reducible first | refine Wx rfl (fun K hK => ?_) | refine Wp ?_ | refine Wq ?_ | refine Wr ?_); (try simp only [go_sem, fN, seval, eT, iR, v0, v3, sb, hn0, hn1, hu0, dT, dF, nL]); (repeat with_reducible refine Ai ?_); (try (refine hK _ ?_; clear hK K)); (try with_reducible refine iC ?_)))
        refine IWP.opsPan 1 _ rfl (by kernel_rfl) ?_
        simp only [go_sem, fN, seval, eT, iR, PanAt, List.take_succ_cons, List.take_zero]
        intro envP
        repeat' (with_reducible first | refine Wy ?_ | refine Wz ?_ | refine Wv ?_)
        exact hp 13 _ (.inl ⟨hn0, hu0, rfl⟩) rfl
      · repeat' (first | (with_reducible first | refine W ?_ | refine Wz0 ?_) | ((with_reducible first | refine Wx rfl (fun K hK => ?_) | refine Wp ?_ | refine Wq ?_ | refine Wr ?_); (try simp only [go_sem, fN, seval, eT, iR, v0, v3, sb, hn0, hn1, hu0, dT, dF, nL]); (repeat with_reducible refine Ai ?_); (try (refine hK _ ?_; clear hK K)); (try with_reducible refine iC ?_)))
        refine IWP.opsPan 1 _ rfl (by kernel_rfl) ?_
        simp only [go_sem, fN, seval, eT, iR, PanAt, List.take_succ_cons, List.take_zero]
        intro envP
        repeat' (with_reducible first | refine Wy ?_ | refine Wz ?_ | refine Wv ?_)
        exact hp 12 _ (.inr (.inl ⟨hn0, hu0, rfl⟩)) rfl
    · have hn1 : ¬ (n : Int) = 0 := by omega
      by_cases hnm : nameOk (u.extract 0 n) = true
      · repeat' (first | (with_reducible first | refine W ?_ | refine Wz0 ?_) | refine Cg _ (name_a (u.extract 0 n)) ?_ | ((with_reducible first | refine Wx rfl (fun K hK => ?_) | refine Wp ?_ | refine Wq ?_ | refine Wr ?_); (try simp only [go_sem, fN, seval, eT, iR, v0, v3, sb, hn0, hn1, hnm, dT, dF, nL]); (repeat with_reducible refine Ai ?_); (try (refine hK _ ?_; clear hK K)); (try with_reducible refine iC ?_)))
        exact hok hn0 hnm _ rfl (by simp [updE]) fun i h1 h2 => by simp [updE, h2]
      · repeat' (first | (with_reducible first | refine W ?_ | refine Wz0 ?_) | refine Cg _ (name_a (u.extract 0 n)) ?_ | ((with_reducible first | refine Wx rfl (fun K hK => ?_) | refine Wp ?_ | refine Wq ?_ | refine Wr ?_); (try simp only [go_sem, fN, seval, eT, iR, v0, v3, sb, hn0, hn1, hnm, dT, dF, nL]); (repeat with_reducible refine Ai ?_); (try (refine hK _ ?_; clear hK K)); (try with_reducible refine iC ?_)))
        refine IWP.opsPan 1 _ rfl (by kernel_rfl) ?_
        simp only [go_sem, fN, seval, eT, iR, PanAt, List.take_succ_cons, List.take_zero]
        intro envP
        repeat' (with_reducible first | refine Wy ?_ | refine Wz ?_ | refine Wv ?_)
        exact hp 1 _ (.inr (.inr ⟨hn0, hnm, rfl⟩)) rfl
theorem lname_S {u : ByteArray} {nm : AC} {l : Int} {b : Nat} {S : AStore} (hu : u.size ≤ 100000) (hb : 1000 ≤ b) (hnm : nm.high = true) (sb : S b = some (boxL u nm l)) (h0 : lendA u 0 ≠ 0) (hok : nameOk (u.extract 0 (lendA u 0)) = true) : ACallsS Tryd.prog 28 [.one (.ptr b 1 0 0)] S (aStr (u.extract 0 (lendA u 0))) (updE S b (some (boxL (u.extract (lendA u 0) u.size) nm l))) :=
  ok_metaprune_lambda_reader_name.acS fun hS C hC => lname_Q hu sb (fun _ _ x h1 h2 h3 => finS_one (aStr (u.extract 0 (lendA u 0))) hS hb (boxL_high hnm) trivial (by simp only [resAll, resOne, h1]; rfl) rfl h2 h3) fun e x h _ => by
    rcases h with ⟨h, _⟩ | ⟨h, _⟩ | ⟨_, h, _⟩
    · exact absurd h h0
    · exact absurd h h0
    · exact absurd hok h
theorem lname_P {u : ByteArray} {nm : AC} {l : Int} {b : Nat} {S : AStore} (e : Int) (hu : u.size ≤ 100000) (hb : 1000 ≤ b) (sb : S b = some (boxL u nm l)) (he : (lendA u 0 = 0 ∧ u = ⟨#[]⟩ ∧ e = 13) ∨ (lendA u 0 = 0 ∧ ¬ u = ⟨#[]⟩ ∧ e = 12) ∨ (lendA u 0 ≠ 0 ∧ ¬ nameOk (u.extract 0 (lendA u 0)) = true ∧ e = 1)) : APan Tryd.prog 28 [.one (.ptr b 1 0 0)] S (lfault e) (updE S b (some (.dead 1 0))) :=
  ok_metaprune_lambda_reader_name.acP fun hS C hC => lname_Q hu sb (fun h1 h2 => by
    rcases he with ⟨h, _⟩ | ⟨h, _⟩ | ⟨_, h, _⟩
    · exact absurd h h1
    · exact absurd h h1
    · exact absurd h2 h) fun e' x h hx => by
    have hee : e' = e := by
      rcases he with ⟨a1, a2, a3⟩ | ⟨a1, a2, a3⟩ | ⟨a1, a2, a3⟩ <;> rcases h with ⟨b1, b2, b3⟩ | ⟨b1, b2, b3⟩ | ⟨b1, b2, b3⟩ <;> first | (rw [a3, b3]; done) | exact absurd b1 a1 | exact absurd a1 b1 | exact absurd a2 b2 | exact absurd b2 a2
    rw [hee]
    exact finP_box hS hb (by rw [hx]; exact sb) fun i _ _ => by rw [hx]

def AIter (P : Program) (f : FuncId) (caps : List AV) (Need : AStore → Prop) {α : Type} (encs : α → List AV) (all : List α) : Prop :=
  ∀ (y : Nat) (Inv : List α → AStore → Prop) (Jx : AStore → Prop) (T : AStore), 1000 ≤ y → (∀ pre T, Inv pre T → Need T) →
    (∀ pre v, (pre ++ [v]) <+: all → ∀ T, Inv pre T → AYields P (.one (.yld y)) (encs v) T fun r T' => (r = .one (.st (.bool true)) ∧ Inv (pre ++ [v]) T') ∨ (r = .one (.st (.bool false)) ∧ Jx T')) →
    Inv [] T → ACallsR P f (.one (.yld y) :: caps) T fun _ T' => Inv all T' ∨ Jx T'
def setPs (env : Nat → AV) : List Nat → List AV → Nat → AV
  | p :: ps, v :: vs => setPs (updE env p v) ps vs
  | _, _ => env
section
variable {σ : Sto} {S : AStore} {ι : AHnd}
theorem setPs_rep {n : Nat} : ∀ {ps : List Nat} {vs : List Value} {xs : List AV} {tmps : Array Value} {env : Nat → AV}, All2 (VRep σ S ι) vs xs → n ≤ tmps.size → (∀ i, i < n → VRep σ S ι (tmps.getD i undef) (env i)) →
    n ≤ ((ps.zip vs).foldl (fun t (p, v) => t.setIfInBounds p v) tmps).size ∧ ∀ i, i < n → VRep σ S ι (((ps.zip vs).foldl (fun t (p, v) => t.setIfInBounds p v) tmps).getD i undef) (setPs env ps xs i)
  | [], vs, xs, tmps, env, h, hs, he => ⟨hs, he⟩
  | p :: ps, [], [], tmps, env, h, hs, he => ⟨hs, he⟩
  | p :: ps, v :: vs, x :: xs, tmps, env, h, hs, he => by
    cases h with
    | cons h1 h2 =>
      refine setPs_rep (ps := ps) h2 (by simpa using hs) fun i hi => ?_
      unfold updE
      by_cases e : i = p
      · subst e
        rw [if_pos rfl, Array.getD_eq_getD_getElem?, Array.getElem?_setIfInBounds_self_of_lt (by omega)]
        exact h1
      · rw [if_neg e, Array.getD_eq_getD_getElem?, Array.getElem?_setIfInBounds_ne (fun h => e h.symm), ← Array.getD_eq_getD_getElem?]
        exact he i hi
end
section
variable {P : Program} {C : Ctx} {mu : List Nat} {Q : AX → AS → Prop} {s : AS} {x y : IR} {σ : Sto} {ι : AHnd} {a : Act} {w : World}
theorem Refs.upped (R : Refs C σ ι s a w) : ∃ ι1 : AHnd, (∀ i, ι1 (up1 i) = ι i) ∧ Owned σ (upS s.S) ι1 w ∧ (∀ v c, VRep σ s.S ι v c → VRep σ (upS s.S) ι1 v (c.ren up1)) ∧
    ∀ {Post : AV → AStore → Prop} {e : Ending} {w' : World}, EndS σ (upS s.S) ι1 w Post e w' → ∃ v r S' σ' ι2, e = .returned v ∧ Post r S' ∧ Clean S' ∧ Upd s.S ι (dnS S') ι2 ∧ Refs C σ' ι2 ⟨s.env, dnS S'⟩ a w' := by
  have hup : ∀ i, dn1 (up1 i) = i := dn_up
  have hS : ∀ i b, s.S i = some b → upS s.S (up1 i) = some (b.ren up1) := fun i b hb => upS_some hb
  obtain ⟨ι1, hι1⟩ : ∃ ι1 : AHnd, ∀ i, ι1 i = ι (dn1 i) := ⟨fun i => ι (dn1 i), fun _ => rfl⟩
  have hι : ∀ i b, s.S i = some b → ι1 (up1 i) = ι i := fun i b _ => by rw [hι1, hup]
  have hown : Owned σ (upS s.S) ι1 w := by
    refine ⟨fun id b hb => ?_, fun id id' b b' g h1 h2 g1 g2 => ?_⟩
    · obtain ⟨hle, b', h1, rfl⟩ := upS_inv hb
      have := BRep.ren (S2 := upS s.S) (ι2 := ι1) (ρ := up1) hS hι (R.blk _ _ h1)
      rw [hι1]
      exact this
    · obtain ⟨l1, c1, k1, _⟩ := upS_inv h1
      obtain ⟨l2, c2, k2, _⟩ := upS_inv h2
      rw [hι1] at g1 g2
      have := R.inj _ _ _ _ g k1 k2 g1 g2
      rw [← up_dn l1, ← up_dn l2, this]
  refine ⟨ι1, fun i => by rw [hι1, hup], hown, fun v c hv => VRep.ren (S2 := upS s.S) (ι2 := ι1) (ρ := up1) hS hι hv, fun {Post e w'} he => ?_⟩
  obtain ⟨v, r, S', σ', ι', rfl, hP, hclean, hupd, hown', hv, hf', hkeep, hold, hos, hsz, hsame, hbase⟩ := he
  have hSd : ∀ i b, S' i = some b → dnS S' (dn1 i) = some (b.ren dn1) := fun i b hb => dnS_some (hclean i b hb).1 hb
  obtain ⟨ι2, hι2⟩ : ∃ ι2 : AHnd, ∀ i, ι2 i = ι' (up1 i) := ⟨fun i => ι' (up1 i), fun _ => rfl⟩
  have hιd : ∀ i b, S' i = some b → ι2 (dn1 i) = ι' i := fun i b hb => by
    rw [hι2, up_dn (hclean i b hb).1]
  have hu : Upd s.S ι (dnS S') ι2 := fun id b hb => by
    obtain ⟨b', h1, h2, h3⟩ := hupd _ _ (hS id b hb)
    have h4 := hSd _ _ h1
    rw [hup] at h4
    refine ⟨_, h4, by rw [ren_len] at h2 ⊢; exact h2, fun hl => ?_⟩
    rw [ren_len] at hl
    obtain ⟨q1, q2⟩ := h3 (by rw [ren_len]; exact hl)
    refine ⟨by rw [ren_wid] at q1 ⊢; exact q1, ?_⟩
    rw [hι2, q2, hι1, hup]
  have hnot : ∀ g, g < C.N → ¬ C.G g → notOf (upS s.S) ι1 g := fun g h1 h2 id b hb hg => by
    obtain ⟨_, b', k1, _⟩ := upS_inv hb
    rw [hι1] at hg
    rcases R.base _ _ g k1 hg with h | h
    · omega
    · exact h2 h
  refine ⟨v, r, S', σ', ι2, rfl, hP, hclean, hu, ?_⟩
  refine ⟨R.size, fun i hi => (R.env i hi).mono hkeep hu, R.nod.mono (fun D h => (hsame D (Array.getElem?_eq_some_iff.1 h).1 (notOf_mark hown.1 h)).trans h), hf', fun id b hb => ?_, fun id id' b b' g h1 h2 g1 g2 => ?_, fun id b g hb hg => ?_, fun p x hx => hkeep _ _ (R.ext p x hx), fun p h1 h2 => ?_, ⟨hos.1.trans R.os.1, hos.2.1.trans R.os.2.1, hos.2.2.trans R.os.2.2⟩, ⟨Nat.le_trans R.grown.1 hsz, Nat.le_trans R.grown.2 hsz⟩, fun g h1 h2 => ?_, R.upd.trans hu⟩
  · obtain ⟨b', h1, rfl⟩ := dnS_inv hb
    have := BRep.ren (S2 := dnS S') (ι2 := ι2) (ρ := dn1) hSd hιd (hown'.1 _ _ h1)
    rw [hι2]
    exact this
  · obtain ⟨c1, k1, _⟩ := dnS_inv h1
    obtain ⟨c2, k2, _⟩ := dnS_inv h2
    rw [hι2] at g1 g2
    have := congrArg dn1 (hown'.2 _ _ _ _ g k1 k2 g1 g2)
    rw [hup, hup] at this
    exact this
  · obtain ⟨b', h1, _⟩ := dnS_inv hb
    rw [hι2] at hg
    rcases hbase _ _ g h1 hg with h2 | h2
    · exact .inl (by have := R.grown.1; omega)
    · by_cases hN : g < C.N
      · by_cases hG : C.G g
        · exact .inr hG
        · exact absurd (hnot g hN hG) h2
      · exact .inl (by omega)
  · exact (hold p (by have := R.grown.1; omega) (hnot _ h1 h2)).trans (R.old p h1 h2)
  · exact (hsame g (by have := R.grown.1; omega) (hnot g h1 h2)).trans (R.same g h1 h2)
theorem Refs.setLoop (R : Refs C σ ι s a w) {id l : Nat} {env : List AV} {r : Loop} (r' : Loop) (hS : s.S id = some (.loop env r)) (hl : (ι id).g = some l) (hr : r'.tmps = r.tmps) : w.heap[l]? = some (.loop r) ∧ ∃ ι', Refs C σ ι' (s.set id (.loop env r')) a (w.putObj l (.loop r')) ∧ Upd s.S ι (s.set id (.loop env r')).S ι' := by
  have hb := R.blk id _ hS
  cases hb with
  | loop h1 h2 h3 h4 h5 =>
    rw [hl] at h1
    cases h1
    exact ⟨h2, R.setBlk (o' := .loop r') hS hl h2 h5 rfl rfl fun S' ι' hu => .loop hl (set_heap h2).1 (by rw [hr]; exact h3) (fun j a ha => by rw [hr]; exact (h4 j a ha).mono (fun _ _ h => h) hu) h5⟩
def RoundQ (C : Ctx) (y : Nat) (b : ABlk) (N : AStore → Prop) (Jx : AX → AStore → Prop) (e : AX) (s : AS) : Prop := ∃ s2 U, Ghost C s s2 ∧ s2.S = updE U y (some b) ∧ Clean s2.S ∧ U y = none ∧ match e with
  | .normal => N U
  | .ret => Jx .ret U
  | .exit i => Jx (.exit i) U
  | .pan _ => False
theorem finish_round {C : Ctx} {σ0 : Sto} {T : AStore} {ι0 : AHnd} {w0 : World} (hC : C.N = w0.heap.size) (hw : C.w0 = w0) (hσ : C.σ0 = σ0) (hG : ∀ g, C.G g ↔ ¬ notOf T ι0 g) (hS0 : C.S0 = T) (hι0 : C.ι0 = ι0) (R : Refs C σ ι s a w) (hc : Clean s.S) {Post : AV → AStore → Prop} {b : Bool} (hP : Post (.one (.st (.bool b))) s.S) : EndS σ0 T ι0 w0 Post (.returned (.bool b)) w := by
  have hupd := R.upd
  rw [hS0, hι0] at hupd
  subst hσ hw
  exact ⟨.bool b, _, s.S, σ, ι, rfl, hP, hc, hupd, ⟨R.blk, R.inj⟩, .one (.st .bool), R.fit, R.ext, fun p h1 h2 => R.old p (by rw [hC]; exact h1) (fun h => (hG _).1 h h2), R.os, R.grown.2, fun g h1 h2 => R.same g (by rw [hC]; exact h1) (fun h => (hG _).1 h h2), fun id b g h1 h2 => (R.base id b g h1 h2).imp (fun h => by rw [← hC]; exact h) fun h => (hG _).1 h⟩
theorem updE_over {S : AStore} {i : Nat} {b c : Option ABlk} : updE (updE S i b) i c = updE S i c := by
  funext j
  unfold updE
  split <;> rfl
inductive Jump : Code → AX → Prop
  | ret : Jump .ret .ret
  | exit (i : Nat) : Jump (.exit i) (.exit i)
theorem round_at {fn : FuncId} {ps : Array Tmp} {ca cb : Code} {D : Nat} {n : Nat} {env : List AV} {tmps : Array Value} (hx : trCode P n mu ca = some x) (hy : trCode P n mu cb = some y) (hn : env.length = n) {yb : Nat} (hyb : 1000 ≤ yb) {rec : LoopState → Option Code → Loop} (hrec : rec = fun st pe => { state := st, pending := pe, fn, tmps, params := ps, assign := ca, body := cb, defers := D }) {vs : List AV} (hps : vs.length = ps.size)
    {U : AStore} (hU : U yb = none) {N : AStore → Prop} {Jx : AX → AStore → Prop}
    (h : Clean (updE U yb (some (.loop env (rec .ready none)))) → ∀ C' : Ctx, C'.n = n → IWP P C' mu x (AX.then (fun s1 => s1.S yb = some (.loop env (rec .ready none)) ∧ IWP P C' mu y (RoundQ C' yb (.loop env (rec .busy none)) N Jx) (s1.set yb (.loop env (rec .busy none)))) fun _ _ => False) ⟨setPs (fun i => (env[i]?).getD .any) ps.toList vs, updE U yb (some (.loop env (rec .ready none)))⟩) :
    AYields P (.one (.yld yb)) vs (updE U yb (some (.loop env (rec .ready none)))) fun r T' => (r = .one (.st (.bool true)) ∧ ∃ U', T' = updE U' yb (some (.loop env (rec .ready none))) ∧ U' yb = none ∧ N U') ∨
      (r = .one (.st (.bool false)) ∧ ∃ U' c e, T' = updE U' yb (some (.loop env (rec .done (some c)))) ∧ U' yb = none ∧ Jump c e ∧ Jx e U') := by
  intro hclean σ w vy xs ι hglob hfit hown hvy hxs
  obtain ⟨T, hT⟩ : ∃ T, updE U yb (some (.loop env (rec .ready none))) = T := ⟨_, rfl⟩
  have hTy : T yb = some (.loop env (rec .ready none)) := by rw [← hT]; exact updE_same _ _ _
  rw [hT] at hclean hown hvy hxs h ⊢
  have hhigh := (hclean _ _ hTy).2
  have hb := hown.1 _ _ hTy
  obtain ⟨l, hl, rfl⟩ : ∃ l, (ι yb).g = some l ∧ vy = .func (.yield l) #[] #[] := by
    cases hvy with
    | one hv =>
      cases hv with
      | yld k1 k2 k3 k4 =>
        rw [hTy] at k1
        cases k1
        exact k4 rfl
  have hlen := hxs.len
  cases hb with
  | loop k1 k2 k3 k4 k5 =>
  rw [hl] at k1
  cases k1
  have htm : (rec .ready none).tmps = tmps := by rw [hrec]
  refine ⟨l, rfl, fun ro => ⟨fn, _, ca, cb, by
    have := run_yield (P := P) (args := xs.toArray) k2 (by rw [hrec]; simp; omega)
    rw [hrec] at this
    exact this, ?_⟩⟩
  let C' : Ctx := ⟨n, w.heap.size, fun g => ¬ notOf T ι g, σ, w, T, ι, hclean, hglob, [], some l, false⟩
  have hset := setPs_rep (σ := σ) (S := T) (ι := ι) (n := n) (ps := ps.toList) (env := fun i => (env[i]?).getD .any) (tmps := tmps) hxs (by rw [htm] at k3; omega) fun i hi => by
    have hi' : i < env.length := by omega
    have := k4 i _ (List.getElem?_eq_getElem hi')
    rw [htm] at this
    simpa [hi'] using this
  have hfold : (ps.zip xs.toArray).foldl (fun t (p, v) => t.setIfInBounds p v) tmps = (ps.toList.zip xs).foldl (fun t (p, v) => t.setIfInBounds p v) tmps := by
    rw [← Array.foldl_toList, Array.toList_zip]
  have R0 : Refs C' σ ι ⟨setPs (fun i => (env[i]?).getD .any) ps.toList vs, T⟩ { tmps := (ps.zip xs.toArray).foldl (fun t (p, v) => t.setIfInBounds p v) tmps, defers := [] } w := by
    refine ⟨?_, fun i hi => ?_, marks_nil, hfit, hown.1, hown.2, fun id b g h hg => .inr (fun hno => hno id b h hg), fun _ _ h => h, fun _ _ _ => rfl, ⟨rfl, rfl, rfl⟩, ⟨Nat.le_refl _, Nat.le_refl _⟩, fun _ _ _ => rfl, Upd.refl _ _⟩
    · dsimp only
      rw [hfold]
      exact hset.1
    · dsimp only
      rw [hfold]
      exact hset.2 i hi
  refine roundIn_of_wpIn (F := fen ro) (n := 0) trivial (wpIn_mono (h hclean C' rfl ca hx _ w ⟨σ, ι, R0⟩) fun e a1 w1 he => ?_)
  have same : ∀ {σ1 : Sto} {ι1 : AHnd} {s1 : AS} {a1 : Act} {w1 : World} {b : ABlk}, Refs C' σ1 ι1 s1 a1 w1 → s1.S yb = some b → b.len = 1 → (ι1 yb).g = some l := fun R1 hs hl1 => by
    obtain ⟨b', h1, h2, h3⟩ := R1.upd yb _ hTy
    rw [hs] at h1
    cases h1
    rw [(h3 hl1).2]
    exact hl
  cases e with
  | normal =>
    obtain ⟨s1, ⟨h1, h2⟩, σ1, ι1, R1⟩ := he
    obtain ⟨q1, ι2, R2, _⟩ := R1.setLoop (rec .busy none) h1 (same R1 h1 rfl) (by rw [hrec])
    refine ⟨_, by
      have := run_beginRound (P := P) q1 (by rw [hrec])
      rw [hrec] at this
      exact this, ?_⟩
    have e1 : (w1.putObj l (.loop (rec .busy none))) = w1.putObj l (.loop { state := .busy, pending := none, fn, tmps, params := ps, assign := ca, body := cb, defers := D }) := by rw [hrec]
    rw [← e1]
    refine wpIn_mono (h2 cb hy _ _ ⟨σ1, ι2, R2⟩) fun e3 a3 w3 he3 => ?_
    have fin : ∀ (jump : Option Code) (s3 s4 : AS) (U2 : AStore), Ghost C' s3 s4 → s4.S = updE U2 yb (some (.loop env (rec .busy none))) → Clean s4.S → Holds C' s3 a3 w3 →
        ∃ σ5 ι5 s5, (Instr.endRound l jump).run P w3 = .ok (.bool jump.isNone) (w3.putObj l (.loop (rec (if jump.isNone then .ready else .done) jump))) ∧ s5.S = updE U2 yb (some (.loop env (rec (if jump.isNone then .ready else .done) jump))) ∧ Clean s5.S ∧ Refs C' σ5 ι5 s5 a3 (w3.putObj l (.loop (rec (if jump.isNone then .ready else .done) jump))) := fun jump s3 s4 U2 hg hS hc hH => by
      obtain ⟨σ4, ι4, R4⟩ := hg _ _ hH
      have h4 : s4.S yb = some (.loop env (rec .busy none)) := by rw [hS]; exact updE_same _ _ _
      obtain ⟨q2, ι5, R5, _⟩ := R4.setLoop (rec (if jump.isNone then .ready else .done) jump) h4 (same R4 h4 rfl) (by rw [hrec])
      refine ⟨σ4, ι5, _, ?_, ?_, ?_, R5⟩
      · have := run_endRound (P := P) jump q2
        rw [hrec] at this ⊢
        exact this
      · show updE s4.S yb _ = _
        rw [hS, updE_over]
      · exact clean_upd hc hyb hhigh
    cases e3 with
    | normal =>
      obtain ⟨s3, ⟨s4, U2, g1, g2, g3, g4, g5⟩, hH⟩ := he3
      obtain ⟨σ5, ι5, s5, f1, f2, f3, R5⟩ := fin none s3 s4 U2 g1 g2 g3 hH
      exact ⟨_, _, f1, finish_round (C := C') rfl rfl rfl (fun g => Iff.rfl) rfl rfl R5 f3 (.inl ⟨rfl, U2, f2, g4, g5⟩)⟩
    | ret =>
      obtain ⟨s3, ⟨s4, U2, g1, g2, g3, g4, g5⟩, hH⟩ := he3
      obtain ⟨σ5, ι5, s5, f1, f2, f3, R5⟩ := fin (some .ret) s3 s4 U2 g1 g2 g3 hH
      exact ⟨_, _, f1, finish_round (C := C') rfl rfl rfl (fun g => Iff.rfl) rfl rfl R5 f3 (.inr ⟨rfl, U2, _, _, f2, g4, .ret, g5⟩)⟩
    | exit i =>
      obtain ⟨s3, ⟨s4, U2, g1, g2, g3, g4, g5⟩, hH⟩ := he3
      obtain ⟨σ5, ι5, s5, f1, f2, f3, R5⟩ := fin (some (.exit i)) s3 s4 U2 g1 g2 g3 hH
      exact ⟨_, _, f1, finish_round (C := C') rfl rfl rfl (fun g => Iff.rfl) rfl rfl R5 f3 (.inr ⟨rfl, U2, _, _, f2, g4, .exit i, g5⟩)⟩
    | panic ch => obtain ⟨s3, v, ⟨⟨s4, U2, g1, g2, g3, g4, g5⟩, _⟩, _⟩ := he3; exact g5.elim
    | _ => exact he3.elim
  | panic ch => obtain ⟨s1, v, h1, h2⟩ := he; exact h1.1.elim
  | ret => obtain ⟨s1, h1, h2⟩ := he; exact h1.elim
  | exit i => obtain ⟨s1, h1, h2⟩ := he; exact h1.elim
  | _ => exact he.elim
def envOf (n : Nat) (env : Nat → AV) : List AV := (List.range n).map env
theorem envOf_len {n : Nat} {env : Nat → AV} : (envOf n env).length = n := by simp [envOf]
theorem envOf_at {n i : Nat} {env : Nat → AV} {a : AV} (h : (envOf n env)[i]? = some a) : i < n ∧ a = env i := by
  unfold envOf at h
  rw [List.getElem?_map, Option.map_eq_some_iff] at h
  obtain ⟨j, h1, h2⟩ := h
  obtain ⟨h3, h4⟩ := List.getElem?_eq_some_iff.1 h1
  simp at h3 h4
  subst h4
  exact ⟨h3, h2.symm⟩
theorem trCode_rangeF {n : Nat} {c : Code} {g : Opd} {ps : List Nat} (h : trCode P n mu c = some (.rangeF g ps x y)) : ∃ g' ps' ca cb, c = .rangeFunc g' ps' ca cb ∧ trOpd n g' = some g ∧ ps'.toList = ps ∧ trCode P n mu ca = some x ∧ trCode P n mu cb = some y := by
  cases c <;> simp only [trCode] at h
  case rangeFunc g' ps' ca cb =>
    split at h
    · rename_i e1 e2 e3
      split at h
      · cases h
        exact ⟨_, _, _, _, rfl, e1, rfl, e2, e3⟩
      · cases h
    · cases h
  all_goals (exfalso; revert h; (repeat' split) <;> simp)
theorem dnS_set {U : AStore} {id : Nat} {b c : Option ABlk} : updE (dnS (updE U (up1 id) b)) id c = updE (dnS U) id c := by
  funext j
  unfold updE
  by_cases e : j = id
  · rw [if_pos e, if_pos e]
  · rw [if_neg e, if_neg e]
    show (if j + 1000 = up1 id then b else U (j + 1000)).map (ABlk.ren dn1) = (U (j + 1000)).map (ABlk.ren dn1)
    rw [if_neg (show ¬ j + 1000 = up1 id by unfold up1; omega)]
theorem clean_off {U : AStore} {i : Nat} {b : ABlk} (h : Clean (updE U i (some b))) (hU : U i = none) : Clean U := fun j c hc => h j c (by
  rw [updE_ne _ (fun e => by rw [e, hU] at hc; cases hc)]
  exact hc)
def upEnv (n : Nat) (env : Nat → AV) : Nat → AV := fun i => if i < n then (env i).ren up1 else .any
theorem upEnv_eq {n : Nat} {env : Nat → AV} : (fun i => ((AV.rens up1 (envOf n env))[i]?).getD .any) = upEnv n env := by
  funext i
  unfold upEnv envOf
  rw [AV.rens_eq, List.map_map, List.getElem?_map]
  by_cases h : i < n
  · rw [if_pos h, List.getElem?_range h]
    rfl
  · rw [if_neg h, List.getElem?_eq_none (by simp; omega)]
    rfl
theorem IWP.rangeF {g : Opd} {ps : List Nat} (htop : C.Top) (id : Nat) (hid : id < 1000) (hfree : s.S id = none) {f : Nat} {caps : List AC} (hg : s.ev g = .one (.fn f caps)) (hpl : plainF P f = true) {α : Type} {encs : α → List AV} {all : List α} {Need : AStore → Prop} (hit : AIter P f (AV.rens up1 (caps.map .one)) Need encs all)
    (hlen : ∀ v, (encs v).length = ps.length) (Inv : List α → AStore → Prop) (Jx : AX → AStore → Prop) (h0 : Inv [] (upS s.S)) (hneed : ∀ pre U b, Inv pre U → U (up1 id) = none → Need (updE U (up1 id) (some b)))
    (hbody : ∀ (C' : Ctx) (b0 b1 : ABlk) (pre : List α) (v : α) (U : AStore), C'.n = C.n → (pre ++ [v]) <+: all → Inv pre U → U (up1 id) = none → Clean U → b1.high = true →
      IWP P C' mu x (AX.then (fun s1 => s1.S (up1 id) = some b0 ∧ IWP P C' mu y (RoundQ C' (up1 id) b1 (Inv (pre ++ [v])) Jx) (s1.set (up1 id) b1)) fun _ _ => False) ⟨setPs (upEnv C.n s.env) ps (encs v), updE U (up1 id) (some b0)⟩)
    (hdone : ∀ U, Inv all U → Q .normal ⟨s.env, updE (dnS U) id (some (.dead 1 0))⟩) (hjump : ∀ e U, Jx e U → Q e ⟨s.env, updE (dnS U) id (some (.dead 1 0))⟩) : IWP P C mu (.rangeF g ps x y) Q s := fun c hc a w hH => by
  obtain ⟨g', ps', ca, cb, rfl, hg', rfl, hx, hy⟩ := trCode_rangeF hc
  obtain ⟨σ, ι, R⟩ := hH
  have rg := R.ev hg'
  rw [hg] at rg
  replace rg := vrep_one rg
  generalize hev : a.eval g' = fv at rg
  cases rg with
  | @fn _ vc _ cc g1 g2 g3 =>
  refine wpIn_rangeFunc fun fn hfn => ?_
  obtain ⟨rec, hrec⟩ : ∃ rec : LoopState → Option Code → Loop, rec = fun st pe => { state := st, pending := pe, fn, tmps := a.tmps, params := ps', assign := ca, body := cb, defers := w.heap.size } := ⟨_, rfl⟩
  obtain ⟨w1, hw1⟩ : ∃ w1, (w.alloc (.deferred (some []))).alloc (.loop (rec .ready none)) = w1 := ⟨_, rfl⟩
  have hsz : (w.alloc (.deferred (some []))).heap.size = w.heap.size + 1 := World.size_alloc _ _
  have R1 : Refs C σ ι s { a with defers := mark w.heap.size :: a.defers } (w.alloc (.deferred (some []))) := by
    have R' := R.more (w' := w.alloc (.deferred (some []))) (Ext.refl _ _) (R.fit.alloc _) (More.alloc _ _)
    refine { R' with nod := ?_ }
    obtain ⟨l, h1, h2, h3, _⟩ := R.nod
    refine ⟨w.heap.size :: l, by show _ :: a.defers = _; rw [h1]; rfl, List.nodup_cons.2 ⟨fun hm => ?_, h2⟩, fun D hD => ?_, fun hm => by rw [htop.2] at hm; cases hm⟩
    · have := (Array.getElem?_eq_some_iff.1 (h3 _ hm).2).1
      omega
    · rcases List.mem_cons.1 hD with rfl | hD
      · exact ⟨R.grown.1, World.alloc_heap_new w _⟩
      · exact ⟨(h3 D hD).1, (Below.heap_alloc _ _ _ (Array.getElem?_eq_some_iff.1 (h3 D hD).2).1).trans (h3 D hD).2⟩
  have hsize := R.size
  obtain ⟨hu2, R2⟩ := R1.fresh (w' := w1) hfree (.loop (envOf C.n s.env) (rec .ready none)) ⟨none, 0, some (w.heap.size + 1)⟩ (Ext.refl _ _) (by rw [← hw1]; exact R1.fit.alloc _) (by rw [← hw1]; exact More.alloc _ _) (fun g hg => by cases hg; omega) (fun S' ι' hu => .loop (g := w.heap.size + 1) rfl (by rw [← hw1, ← hsz]; exact World.alloc_heap_new _ _) (by rw [envOf_len, hrec]; exact hsize) (fun j b hb => by
      obtain ⟨hj, rfl⟩ := envOf_at hb
      rw [hrec]
      exact (R.env j hj).mono (fun _ _ h => h) hu) (fun p hp => R1.fit.no (by rw [hsz]; omega)))
  have hl2 : (updE ι id (⟨none, 0, some (w.heap.size + 1)⟩ : Hnd) id).g = some (w.heap.size + 1) := by rw [updE_same]
  generalize updE ι id (⟨none, 0, some (w.heap.size + 1)⟩ : Hnd) = ι2 at R2 hl2 hu2
  obtain ⟨ι3, hι3, hown, hren, hend⟩ := R2.upped
  have hargs : All2 (VRep σ (upS (s.set id (.loop (envOf C.n s.env) (rec .ready none))).S) ι3) (.func (.yield (w.heap.size + 1)) #[] #[] :: vc.toList) (.one (.yld (up1 id)) :: AV.rens up1 (caps.map .one)) := by
    have hS2 : (s.set id (.loop (envOf C.n s.env) (rec .ready none))).S id = some (.loop (envOf C.n s.env) (rec .ready none)) := updE_same _ _ _
    refine .cons (hren _ _ (.one (.yld hS2 (Nat.le_refl _) rfl fun _ => ⟨_, hl2, rfl⟩))) ?_
    rw [AV.rens_eq]
    refine (All2.mono (fun v c h => hren v c h) ?_).map_right
    refine (All2.of_get (R := fun v c => VRep σ (s.set id (.loop (envOf C.n s.env) (rec .ready none))).S ι2 v (.one c)) (by simpa using g1) fun j v b hv hb => ?_).map_right
    have e := g2 j b hb
    have e2 : vc.toList[j]? = some (cc j) := by simpa using e
    rw [hv] at e2
    cases e2
    exact .one ((g3 j b hb).mono (fun _ _ h => h) hu2)
  have hcl := clean_upS (s.set id (.loop (envOf C.n s.env) (rec .ready none))).S
  have hTeq : upS (s.set id (.loop (envOf C.n s.env) (rec .ready none))).S = updE (upS s.S) (up1 id) (some (.loop (AV.rens up1 (envOf C.n s.env)) (rec .ready none))) := upS_set _ _ _
  have hcall := hit (up1 id) (fun pre T => ∃ U, T = updE U (up1 id) (some (.loop (AV.rens up1 (envOf C.n s.env)) (rec .ready none))) ∧ U (up1 id) = none ∧ Inv pre U)
    (fun T => ∃ U c e, T = updE U (up1 id) (some (.loop (AV.rens up1 (envOf C.n s.env)) (rec .done (some c)))) ∧ U (up1 id) = none ∧ Jump c e ∧ Jx e U)
    _ (up1_le id) (fun pre T hT => by
      obtain ⟨U, rfl, hU, hI⟩ := hT
      exact hneed pre U _ hI hU) (fun pre v hpre T hT => by
      obtain ⟨U, rfl, hU, hI⟩ := hT
      exact round_at hx hy (by rw [AV.rens_eq, List.length_map, envOf_len]) (up1_le id) hrec (by rw [hlen]; simp) hU fun hc C' hC' => by
        rw [upEnv_eq]
        exact hbody C' _ (.loop (AV.rens up1 (envOf C.n s.env)) (rec .busy none)) pre v U hC' hpre hI hU (clean_off hc hU) (AV.rens_high _))
    ⟨_, hTeq, by rw [upS_up, hfree]; rfl, h0⟩ hcl σ w1 _ ι3 (C.glob.mono R.ext) R2.fit hown hargs
  refine ⟨w.heap.size + 1, [mark w.heap.size], w1, { target := .fn (.func f) vc, args := #[.func (.yield (w.heap.size + 1)) #[] #[]] }, w1, f, #[.func (.yield (w.heap.size + 1)) #[] #[]] ++ vc, w1, ?_, ?_, fun _ _ => trivial, ?_, fun h => by simp [fen, Fence.wide] at h, ?_⟩
  · have hr : (fen C.ro).round = none := htop.1
    rw [hr, ← hw1, hrec]
    exact run_enterLoop_outer _ _ _ _ _
  · simp only [resolve, hev]
    simp [go_sem]
  · have := run_enter (P := P) (w := w1) (args := #[.func (.yield (w.heap.size + 1)) #[] #[]] ++ vc) hpl
    simp [invoke, go_sem, this]
  · have he0 : (Value.func (.yield (w.heap.size + 1)) #[] #[] :: vc.toList).toArray = #[.func (.yield (w.heap.size + 1)) #[] #[]] ++ vc := by
      apply Array.ext'
      simp
    rw [he0] at hcall
    refine callsIn_fen (hcall.mono fun e w2 he => ?_)
    obtain ⟨v, r, S', σ', ι4, rfl, hP, hS', hu4, R4⟩ := hend he
    have hl4 : ∀ {b : ABlk}, dnS S' id = some b → b.len = 1 → (ι4 id).g = some (w.heap.size + 1) := fun hb hb1 => by
      obtain ⟨b', h1, h2, h3⟩ := hu4 id _ (show (s.set id (.loop (envOf C.n s.env) (rec .ready none))).S id = some _ from updE_same _ _ _)
      rw [hb] at h1
      cases h1
      rw [(h3 hb1).2]
      exact hl2
    have fin : ∀ (U : AStore) (env : List AV) (st : LoopState) (pe : Option Code), st ≠ .busy → S' = updE U (up1 id) (some (.loop env (rec st pe))) → ∃ w3, (Instr.endLoop (w.heap.size + 1)).run P w2 = .ok pe w3 ∧ Holds C ⟨s.env, updE (dnS U) id (some (.dead 1 0))⟩ { a with defers := mark w.heap.size :: a.defers } w3 := fun U env st pe hst hS => by
      have hb : dnS S' id = some (.loop (AV.rens dn1 env) (rec st pe)) := by
        have := dnS_some (up1_le id) (show S' (up1 id) = some (.loop env (rec st pe)) by rw [hS]; exact updE_same _ _ _)
        rw [dn_up] at this
        exact this
      have hg4 := hl4 hb rfl
      cases hbr : R4.blk id _ hb with
      | loop k1 k2 k3 k4 k5 =>
        rw [hg4] at k1
        cases k1
        obtain ⟨ι5, R5, _⟩ := R4.setBlk (b' := .dead 1 0) (o' := .loop { rec st pe with state := .exhausted }) hb hg4 k2 k5 rfl rfl fun S'' ι'' hu => .dead fun g' hg' => by
          rw [hg4] at hg'
          cases hg'
          exact ⟨_, (set_heap k2).1, rfl⟩
        refine ⟨w2.putObj (w.heap.size + 1) (.loop { rec st pe with state := .exhausted }), ?_, σ', ι5, ?_⟩
        · have := run_endLoop (P := P) k2 (by rw [hrec]; exact hst)
          rw [hrec] at this ⊢
          exact this
        · have e5 : (AS.set ⟨(s.set id (.loop (envOf C.n s.env) (rec .ready none))).env, dnS S'⟩ id (.dead 1 0)) = ⟨s.env, updE (dnS U) id (some (.dead 1 0))⟩ := by
            show AS.mk s.env (updE (dnS S') id _) = _
            rw [hS, dnS_set]
          rw [← e5]
          exact R5
    rcases hP with ⟨U, h1, h2, h3⟩ | ⟨U, c, e, h1, h2, h3, h4⟩
    · obtain ⟨w3, f1, f2⟩ := fin U _ .ready none (by simp) h1
      exact ⟨none, w3, f1, _, hdone U h3, f2⟩
    · obtain ⟨w3, f1, f2⟩ := fin U _ .done (some c) (by simp) h1
      refine ⟨some c, w3, f1, ?_⟩
      cases h3 with
      | ret => exact wpIn_ret ⟨_, hjump _ U h4, f2⟩
      | exit i => exact wpIn_exit ⟨_, hjump _ U h4, f2⟩
end

def ir_slices_Backward_string_string_1 : IR :=
  (.seq (.ops [.l 4 1, .i 5 (.len false (.t 4)), .i 6 (.bin .sub (.t 5) (.n 1)), .m 3 6]) (.block 0 (.loop (.seq (.seq (.ops [.m 7 3, .i 8 (.bin .geq (.t 7) (.n 0))]) (.cond (.t 8) .skip (.exit 0))) (.seq (.block 1 (.seq (.ops [.m 11 0, .m 12 3, .l 13 1, .m 14 3, .i 15 (.indexAddr 1 (.t 13) (.t 14)), .l 16 15, .i 17 (.callY (.t 11) [.t 12, .t 16]), .i 18 (.un .not (.t 17))]) (.cond (.t 18) .ret .skip))) (.ops [.m 9 3, .i 10 (.bin .sub (.t 9) (.n 1)), .m 3 10]))))))
theorem ok_slices_Backward_string_string_1 : OkF Tryd.prog 46 19 [70000017] ir_slices_Backward_string_string_1 [] := .of Tryd.func46 rfl rfl (by kernel_rfl) rfl
def ir_slices_Backward_string_string : IR :=
  (.seq (.ops [.i 1 (.box 28 (.t 0)), .i 2 (.mov (.c (.one (.st (.lit .nilFunc)))))]) (.seq (.ops [.i 3 (.makeFunc 46 [.t 1]), .m 2 3]) .ret))
theorem ok_slices_Backward_string_string : OkF Tryd.prog 40 4 [] ir_slices_Backward_string_string [.t 2] := .of Tryd.func40 rfl rfl (by kernel_rfl) rfl

theorem Ghost.freeze {C : Ctx} {s : AS} (id : Nat) (ts : List Nat) {ty : TypeId} {xs : List SV} (hS : s.S id = some (.box ty (xs.map .st))) (hl : 0 < xs.length) (ht : ∀ t ∈ ts, s.env t = .one (.ptr id 1 0 0)) :
    Ghost C s ⟨fun t => if t ∈ ts then .one (.eptr xs) else s.env t, updE s.S id (some (.dead 1 0))⟩ := fun a w ⟨σ, ι, R⟩ => by
  have hb := R.blk _ _ hS
  cases hb with
  | @box _ _ g vs h1 h2 h3 h4 h5 =>
    have hkeep := layS_keep (σ := σ) (w' := w) (g := g) (k := xs.length) (fun p x e hx => by rw [h5 _ e] at hx; cases hx)
    obtain ⟨hu, R'⟩ := R.turn (w' := w) hS (.dead 1 0) (ι id) (σ' := layS σ w g xs.length) hkeep (fun p hp _ => layS_out (fun e => hp (by rw [e]; exact h1))) (layS_fit R.fit) (Nat.le_refl _) (fun _ => ⟨rfl, rfl⟩) ⟨rfl, rfl, rfl⟩ (Nat.le_refl _) (fun _ _ _ => rfl) (fun g h => .inl h)
      (fun hu => .dead fun g' hg' => by rw [h1] at hg'; cases hg'; exact ⟨_, h3, rfl⟩)
    refine ⟨_, _, R'.size, fun i hi => ?_, R'.nod, R'.fit, R'.blk, R'.inj, R'.base, R'.ext, R'.old, R'.os, R'.grown, R'.same, R'.upd⟩
    show VRep _ _ _ _ (if i ∈ ts then .one (.eptr xs) else s.env i)
    split
    · rename_i hm
      have re := R.env i hi
      rw [ht i hm] at re
      obtain ⟨b, q1, q2, q3⟩ := arep_ptr (vrep_one re)
      rw [hS] at q1
      cases q1
      obtain ⟨g', e1, e2⟩ := q3 rfl
      rw [h1] at e1
      cases e1
      rw [e2]
      have cell : ∀ j x, xs[j]? = some x → ∃ v, vs[j]? = some v ∧ SRep σ v x := fun j x hx => by
        obtain ⟨v, v1, v2⟩ := h4.get (j := j) (b := .st x) (by rw [List.getElem?_map, hx]; rfl)
        exact ⟨v, by simpa using v1, arep_st v2⟩
      refine .one (.eptr (fun j => (vs[j]?).getD undef) (fun j x hx => ?_) (fun j x hx => ?_) (fun _ _ => ?_))
      · obtain ⟨v, v1, v2⟩ := cell j x hx
        have hj := (List.getElem?_eq_some_iff.1 hx).1
        rw [show (0 * (ABlk.box ty (xs.map AC.st)).wid + 0 + j) = j by omega, layS_in hj, cell_of_row w g _ _ _ _ h3, v1]
        rfl
      · obtain ⟨v, v1, v2⟩ := cell j x hx
        rw [v1]
        exact v2.mono hkeep
      · rw [layS_hard hl, look_hard h3]
    · exact R'.env i hi

def downTo (n k : Nat) : List Nat := (List.range' k (n - k)).reverse
theorem downTo_top (n : Nat) : downTo n n = [] := by simp [downTo]
theorem downTo_step {n k : Nat} (h : k + 1 ≤ n) : downTo n (k + 1) ++ [k] = downTo n k := by
  unfold downTo
  rw [show n - k = (n - (k + 1)) + 1 by omega, List.range'_succ]
  simp
theorem downTo_pre {n k : Nat} (h : k ≤ n) : downTo n k <+: downTo n 0 := by
  induction k with
  | zero => exact List.prefix_refl _
  | succ k ih => exact List.IsPrefix.trans ⟨[k], downTo_step h⟩ (ih (by omega))
theorem back_iterM (xs : List ByteArray) (hl : xs.length ≤ 9223372036854775807) (b id : Nat) (ty e : TypeId) (hb : 1000 ≤ b) (hid : 1000 ≤ id) : AIter Tryd.prog 46 [.one (.ptr b 1 0 0)] (fun T => T b = some (.box ty [.row id xs.length]) ∧ T id = some (.mrow e 1 (xs.map encS))) (fun i : Nat => [aInt i, aStr (xs.getD i .empty)]) (downTo xs.length 0) := by
  intro y Inv Jx T0 hy hneed hround h0
  refine ok_slices_Backward_string_string_1.acR fun hclean C hC htop => ?_
  unfold ir_slices_Backward_string_string_1
  obtain ⟨n1, n2⟩ := hneed _ _ h0
  have hll : (xs.map encS).length = xs.length := by simp
  repeat' (first | (with_reducible first | refine W ?_ | refine Wz0 ?_) | ((with_reducible first | refine Wo (fun K hK => ?_) | refine Wq ?_ | refine Wr ?_); (try simp only [go_sem, fN, seval, eT, iR, AS.startS, n1, n2, hll]); (repeat with_reducible refine Ai ?_); (try (refine hK _ ?_; clear hK K))))
  refine IWP.loop (fun m s => ∃ k T, k ≤ xs.length ∧ m = k ∧ s.env 0 = .one (.yld y) ∧ s.env 1 = .one (.ptr b 1 0 0) ∧ s.env 3 = aInt ((k : Int) - 1) ∧ (∀ i, 1000 ≤ i → s.S i = T i) ∧ Clean T ∧ Inv (downTo xs.length k) T) xs.length ⟨xs.length, T0, Nat.le_refl _, rfl, rfl, rfl, rfl, fun i _ => rfl, hclean, by rw [downTo_top]; exact h0⟩ ?_
  rintro m ⟨env, S⟩ ⟨k, T, hk, rfl, e0, e1, e3, hST, hT, hI⟩
  simp only at e0 e1 e3 hST
  obtain ⟨m1, m2⟩ := hneed _ _ hI
  rw [← hST b hb] at m1
  rw [← hST id hid] at m2
  repeat' (first | (with_reducible first | refine W ?_ | refine Wz0 ?_) | ((with_reducible first | refine Wo (fun K hK => ?_) | refine Wp ?_ | refine Wq ?_ | refine Wr ?_); (try simp only [go_sem, fN, seval, eT, iR, e0, e1, e3, dT, dF, nL]); (repeat with_reducible refine Ai ?_); (try (refine hK _ ?_; clear hK K)); (try with_reducible refine iC ?_)))
  refine ⟨fun hlt => ?_, fun hge => ?_⟩
  · obtain ⟨k, rfl⟩ : ∃ k, m = k + 1 := ⟨m - 1, by omega⟩
    obtain ⟨x, hx⟩ := get_lt (show k < xs.length by omega)
    have e3' : env 3 = aInt k := by rw [e3]; congr 3; omega
    have hd : xs.getD k .empty = x := by simp [List.getD, hx]
    have hy' := hround (downTo xs.length (k + 1)) k (by rw [downTo_step hk]; exact downTo_pre (by omega)) T hI
    simp only [hd, downTo_step hk] at hy'
    repeat' (first | (with_reducible first | refine W ?_ | refine Wz0 ?_) | ((with_reducible first | refine Wo (fun K hK => ?_) | refine Wp ?_ | refine Wq ?_ | refine Wr ?_); (try simp only [go_sem, fN, seval, eT, iR, e0, e1, e3', hx, encS, m1, m2, hll, dT, dF, nL]); (repeat with_reducible refine Ai ?_); (try (refine hK _ ?_; clear hK K)); (try with_reducible refine iC ?_)))
    refine CallXG.mk T _ hT hST (by
      show ((AC.yld y).high && true) = true
      rw [high_yld hy]
      rfl) hy' ?_
    rintro r S' hS' (⟨rfl, hI'⟩ | ⟨rfl, hJ⟩)
    · repeat' (first | (with_reducible first | refine W ?_ | refine Wz0 ?_) | ((with_reducible first | refine Wo (fun K hK => ?_) | refine Wp ?_ | refine Wq ?_ | refine Wr ?_); (try simp only [go_sem, fN, seval, eT, iR, e0, e1, e3', dT, dF, nL]); (repeat with_reducible refine Ai ?_); (try (refine hK _ ?_; clear hK K)); (try with_reducible refine iC ?_)))
      exact ⟨k, Nat.lt_succ_self k, k, S', by omega, rfl, e0, e1, rfl, fun i hi => joinS_high hi, hS', hI'⟩
    · repeat' (first | (with_reducible first | refine W ?_ | refine Wz0 ?_) | ((with_reducible first | refine Wo (fun K hK => ?_) | refine Wp ?_ | refine Wq ?_ | refine Wr ?_); (try simp only [go_sem, fN, seval, eT, iR, e0, e1, e3', dT, dF, nL]); (repeat with_reducible refine Ai ?_); (try (refine hK _ ?_; clear hK K)); (try with_reducible refine iC ?_)))
      exact ⟨.tup [], S', .inr hJ, finS_same (.tup []) hS' trivial rfl rfl fun i hi => joinS_high hi⟩
  · repeat' (first | (with_reducible first | refine W ?_ | refine Wz0 ?_) | ((with_reducible first | refine Wo (fun K hK => ?_) | refine Wp ?_ | refine Wq ?_ | refine Wr ?_); (try simp only [go_sem, fN, seval, eT, iR, dT, dF, nL]); (repeat with_reducible refine Ai ?_); (try (refine hK _ ?_; clear hK K)); (try with_reducible refine iC ?_)))
    have hm : m = 0 := by omega
    subst hm
    exact ⟨.tup [], T, .inl hI, finS_same (.tup []) hT trivial rfl rfl hST⟩
theorem backward_M (S : AStore) (a0 id n : Nat) (ha : 1000 ≤ a0) (hid : 1000 ≤ id) (hSa : S a0 = none) : ACallsS Tryd.prog 40 [.one (.row id n)] S (.one (.fn 46 [.ptr a0 1 0 0])) (updE S a0 (some (.box 28 [.row id n]))) := by
  refine ok_slices_Backward_string_string.acS fun hS C hC => ?_
  unfold ir_slices_Backward_string_string
  have s1 : S 1 = none := clean_none hS (by omega)
  have hh : AC.highs [.row id n] = true := by rw [AC.highs, high_row hid]; rfl
  repeat' (first | (with_reducible first | refine W ?_ | refine Wz0 ?_) | ((with_reducible first | refine Wo (fun K hK => ?_) | refine Wq ?_ | refine Wr ?_); (try simp only [go_sem, fN, seval, eT, iR, AS.startS, AS.caps, s1]); (repeat with_reducible refine Ai ?_); (try (refine hK _ ?_; clear hK K))))
  refine (show AC.fn 46 [.ptr a0 1 0 0] = (AC.fn 46 [.ptr 1 1 0 0]).ren (oneTo 1 a0) from rfl) ▸ finS_hand trivial 1 a0 (.one (.fn 46 [.ptr 1 1 0 0])) (b0 := .box 28 [.row id n]) (by omega) ha ?_ ?_ ?_ ?_ ?_ ?_ ?_ ?_
  · show updE S 1 _ a0 = none
    rw [updE_ne _ (by omega)]
    exact hSa
  · rfl
  · exact hh
  · intro i b hi hb
    change updE S 1 _ i = some b at hb
    rw [updE_ne _ (by omega)] at hb
    exact (hS i b hb).2
  · rfl
  · show AC.highs [.ptr a0 1 0 0] = true
    rw [AC.highs, high_ptr ha]
    rfl
  · have e : ∀ c, lowS (updE S 1 c) = S := fun c => by
      funext i
      unfold lowS
      by_cases hi : i < 1000
      · rw [if_pos hi, clean_none hS hi]
      · rw [if_neg hi, updE_ne _ (by omega)]
    show updE (lowS (updE S 1 _)) a0 _ = _
    rw [e]
  · exact clean_upd hS ha hh

end Go.Proofs.YtaedkffopponhaaDoor
