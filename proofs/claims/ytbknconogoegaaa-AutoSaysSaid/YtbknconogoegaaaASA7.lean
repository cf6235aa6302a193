/-
  Part 7 of the texts. Conditions: none.
-/
import Derived.Test.YtbknconogoegaaaASA6
namespace Go.Proofs.Ytbknconogoegaaa
open Go Go.RowKit
set_option linter.unusedVariables false
set_option linter.unusedSimpArgs false
set_option maxHeartbeats 400000
theorem CH (s : ByteArray) (k : Nat) : Fz s k = Ao s k := rfl
theorem IJ {s : ByteArray} (h : ¬ s.size = 0) : ¬ s = ⟨#[]⟩ := fun e => h (by rw [e]; rfl)
theorem GQ {s : ByteArray} (h : s.size = 0) : s = ⟨#[]⟩ := by
 have := ByteArray.size_eq_zero_iff.1 h
 exact this
theorem MV (n : Int) (h0 : 0 ≤ n) : AW Try.prog 54 [.one (.st (.int .u8 n))] (Al (BA n)) := by
 refine G1.ac fun C hC => ?_
 unfold Ds
 have hc : (97 ≤ n ∧ n ≤ 122) ∨ (122 < n) ∨ (n < 97 ∧ 65 ≤ n ∧ n ≤ 90) ∨ (n < 97 ∧ 90 < n) ∨ (n < 65 ∧ 48 ≤ n ∧ n ≤ 57) ∨ (n < 65 ∧ 57 < n) ∨ (n < 48) := by omega
 rcases hc with h | h | h | h | h | h | h
 ·have h1 : 97 ≤ n := h.1
  have h2 : n ≤ 122 := h.2
  repeat' with_reducible first | refine W ?_ | refine Z0 ?_ | ((first | refine Wo fun K hK => ?_ | refine Wq ?_ | refine Wr ?_); (try simp only [go_sem, fN, seval, eT, iR, h1, h2]); (repeat refine Ai ?_); (try (refine hK _ ?_; clear hK K)))
  simp only [go_sem, fN, seval, AR, AS.result, AF, AG, AQ, BA, h1, h2]
  try simp
 ·have h1 : 97 ≤ n := by omega
  have h2 : ¬ n ≤ 122 := by omega
  have h3 : 65 ≤ n := by omega
  have h4 : ¬ n ≤ 90 := by omega
  have h5 : 48 ≤ n := by omega
  have h6 : ¬ n ≤ 57 := by omega
  repeat' with_reducible first | refine W ?_ | refine Z0 ?_ | ((first | refine Wo fun K hK => ?_ | refine Wq ?_ | refine Wr ?_); (try simp only [go_sem, fN, seval, eT, iR, h1, h2, h3, h4, h5, h6]); (repeat refine Ai ?_); (try (refine hK _ ?_; clear hK K)))
  simp only [go_sem, fN, seval, AR, AS.result, AF, AG, AQ, BA, h1, h2, h3, h4, h5, h6]
  try simp
 ·have h1 : ¬ 97 ≤ n := by omega
  have h3 : 65 ≤ n := by omega
  have h4 : n ≤ 90 := by omega
  repeat' with_reducible first | refine W ?_ | refine Z0 ?_ | ((first | refine Wo fun K hK => ?_ | refine Wq ?_ | refine Wr ?_); (try simp only [go_sem, fN, seval, eT, iR, h1, h3, h4]); (repeat refine Ai ?_); (try (refine hK _ ?_; clear hK K)))
  simp only [go_sem, fN, seval, AR, AS.result, AF, AG, AQ, BA, h1, h3, h4]
  try simp
 ·have h1 : ¬ 97 ≤ n := by omega
  have h3 : 65 ≤ n := by omega
  have h4 : ¬ n ≤ 90 := by omega
  have h5 : 48 ≤ n := by omega
  have h6 : ¬ n ≤ 57 := by omega
  repeat' with_reducible first | refine W ?_ | refine Z0 ?_ | ((first | refine Wo fun K hK => ?_ | refine Wq ?_ | refine Wr ?_); (try simp only [go_sem, fN, seval, eT, iR, h1, h3, h4, h5, h6]); (repeat refine Ai ?_); (try (refine hK _ ?_; clear hK K)))
  simp only [go_sem, fN, seval, AR, AS.result, AF, AG, AQ, BA, h1, h3, h4, h5, h6]
  try simp
 ·have h1 : ¬ 97 ≤ n := by omega
  have h3 : ¬ 65 ≤ n := by omega
  have h5 : 48 ≤ n := by omega
  have h6 : n ≤ 57 := by omega
  repeat' with_reducible first | refine W ?_ | refine Z0 ?_ | ((first | refine Wo fun K hK => ?_ | refine Wq ?_ | refine Wr ?_); (try simp only [go_sem, fN, seval, eT, iR, h1, h3, h5, h6]); (repeat refine Ai ?_); (try (refine hK _ ?_; clear hK K)))
  simp only [go_sem, fN, seval, AR, AS.result, AF, AG, AQ, BA, h1, h3, h5, h6]
  try simp
 ·have h1 : ¬ 97 ≤ n := by omega
  have h3 : ¬ 65 ≤ n := by omega
  have h5 : 48 ≤ n := by omega
  have h6 : ¬ n ≤ 57 := by omega
  repeat' with_reducible first | refine W ?_ | refine Z0 ?_ | ((first | refine Wo fun K hK => ?_ | refine Wq ?_ | refine Wr ?_); (try simp only [go_sem, fN, seval, eT, iR, h1, h3, h5, h6]); (repeat refine Ai ?_); (try (refine hK _ ?_; clear hK K)))
  simp only [go_sem, fN, seval, AR, AS.result, AF, AG, AQ, BA, h1, h3, h5, h6]
  try simp
 ·have h1 : ¬ 97 ≤ n := by omega
  have h3 : ¬ 65 ≤ n := by omega
  have h5 : ¬ 48 ≤ n := by omega
  repeat' with_reducible first | refine W ?_ | refine Z0 ?_ | ((first | refine Wo fun K hK => ?_ | refine Wq ?_ | refine Wr ?_); (try simp only [go_sem, fN, seval, eT, iR, h1, h3, h5]); (repeat refine Ai ?_); (try (refine hK _ ?_; clear hK K)))
  simp only [go_sem, fN, seval, AR, AS.result, AF, AG, AQ, BA, h1, h3, h5]
  try simp
theorem Kv (n : Int) (h0 : 0 ≤ n) : AW Try.prog 38 [.one (.st (.int .u8 n))] (Al (BA n)) := by
 refine HL.ac fun C hC => ?_
 unfold EF
 have hc : (97 ≤ n ∧ n ≤ 122) ∨ (122 < n) ∨ (n < 97 ∧ 65 ≤ n ∧ n ≤ 90) ∨ (n < 97 ∧ 90 < n) ∨ (n < 65 ∧ 48 ≤ n ∧ n ≤ 57) ∨ (n < 65 ∧ 57 < n) ∨ (n < 48) := by omega
 rcases hc with h | h | h | h | h | h | h
 ·have h1 : 97 ≤ n := h.1
  have h2 : n ≤ 122 := h.2
  repeat' with_reducible first | refine W ?_ | refine Z0 ?_ | ((first | refine Wo fun K hK => ?_ | refine Wq ?_ | refine Wr ?_); (try simp only [go_sem, fN, seval, eT, iR, h1, h2]); (repeat refine Ai ?_); (try (refine hK _ ?_; clear hK K)))
  simp only [go_sem, fN, seval, AR, AS.result, AF, AG, AQ, BA, h1, h2]
  try simp
 ·have h1 : 97 ≤ n := by omega
  have h2 : ¬ n ≤ 122 := by omega
  have h3 : 65 ≤ n := by omega
  have h4 : ¬ n ≤ 90 := by omega
  have h5 : 48 ≤ n := by omega
  have h6 : ¬ n ≤ 57 := by omega
  repeat' with_reducible first | refine W ?_ | refine Z0 ?_ | ((first | refine Wo fun K hK => ?_ | refine Wq ?_ | refine Wr ?_); (try simp only [go_sem, fN, seval, eT, iR, h1, h2, h3, h4, h5, h6]); (repeat refine Ai ?_); (try (refine hK _ ?_; clear hK K)))
  simp only [go_sem, fN, seval, AR, AS.result, AF, AG, AQ, BA, h1, h2, h3, h4, h5, h6]
  try simp
 ·have h1 : ¬ 97 ≤ n := by omega
  have h3 : 65 ≤ n := by omega
  have h4 : n ≤ 90 := by omega
  repeat' with_reducible first | refine W ?_ | refine Z0 ?_ | ((first | refine Wo fun K hK => ?_ | refine Wq ?_ | refine Wr ?_); (try simp only [go_sem, fN, seval, eT, iR, h1, h3, h4]); (repeat refine Ai ?_); (try (refine hK _ ?_; clear hK K)))
  simp only [go_sem, fN, seval, AR, AS.result, AF, AG, AQ, BA, h1, h3, h4]
  try simp
 ·have h1 : ¬ 97 ≤ n := by omega
  have h3 : 65 ≤ n := by omega
  have h4 : ¬ n ≤ 90 := by omega
  have h5 : 48 ≤ n := by omega
  have h6 : ¬ n ≤ 57 := by omega
  repeat' with_reducible first | refine W ?_ | refine Z0 ?_ | ((first | refine Wo fun K hK => ?_ | refine Wq ?_ | refine Wr ?_); (try simp only [go_sem, fN, seval, eT, iR, h1, h3, h4, h5, h6]); (repeat refine Ai ?_); (try (refine hK _ ?_; clear hK K)))
  simp only [go_sem, fN, seval, AR, AS.result, AF, AG, AQ, BA, h1, h3, h4, h5, h6]
  try simp
 ·have h1 : ¬ 97 ≤ n := by omega
  have h3 : ¬ 65 ≤ n := by omega
  have h5 : 48 ≤ n := by omega
  have h6 : n ≤ 57 := by omega
  repeat' with_reducible first | refine W ?_ | refine Z0 ?_ | ((first | refine Wo fun K hK => ?_ | refine Wq ?_ | refine Wr ?_); (try simp only [go_sem, fN, seval, eT, iR, h1, h3, h5, h6]); (repeat refine Ai ?_); (try (refine hK _ ?_; clear hK K)))
  simp only [go_sem, fN, seval, AR, AS.result, AF, AG, AQ, BA, h1, h3, h5, h6]
  try simp
 ·have h1 : ¬ 97 ≤ n := by omega
  have h3 : ¬ 65 ≤ n := by omega
  have h5 : 48 ≤ n := by omega
  have h6 : ¬ n ≤ 57 := by omega
  repeat' with_reducible first | refine W ?_ | refine Z0 ?_ | ((first | refine Wo fun K hK => ?_ | refine Wq ?_ | refine Wr ?_); (try simp only [go_sem, fN, seval, eT, iR, h1, h3, h5, h6]); (repeat refine Ai ?_); (try (refine hK _ ?_; clear hK K)))
  simp only [go_sem, fN, seval, AR, AS.result, AF, AG, AQ, BA, h1, h3, h5, h6]
  try simp
 ·have h1 : ¬ 97 ≤ n := by omega
  have h3 : ¬ 65 ≤ n := by omega
  have h5 : ¬ 48 ≤ n := by omega
  repeat' with_reducible first | refine W ?_ | refine Z0 ?_ | ((first | refine Wo fun K hK => ?_ | refine Wq ?_ | refine Wr ?_); (try simp only [go_sem, fN, seval, eT, iR, h1, h3, h5]); (repeat refine Ai ?_); (try (refine hK _ ?_; clear hK K)))
  simp only [go_sem, fN, seval, AR, AS.result, AF, AG, AQ, BA, h1, h3, h5]
  try simp
theorem Cf (s : ByteArray) : AW Try.prog 47 [Cj s] (Al (A6 s)) := by
 by_cases h0 : s.size = 0
 ·have := GQ h0
  subst this
  refine C7.ac fun C hC => ?_
  unfold CC
  repeat' with_reducible first | refine W ?_ | refine Z0 ?_ | ((first | refine Wo fun K hK => ?_ | refine Wq ?_ | refine Wr ?_); (try simp only [go_sem, fN, seval, eT, iR]); (repeat refine Ai ?_); (try (refine hK _ ?_; clear hK K)))
  simp only [go_sem, fN, seval, AR, AS.result, AF, AG, AQ]
  rfl
 ·have h1 := IJ h0
  have h2 : 0 < s.size := by omega
  refine C7.ac fun C hC => ?_
  unfold CC
  by_cases h3 : 65 ≤ Ao s 0 <;> by_cases h4 : Ao s 0 ≤ 90
  all_goals
   repeat' with_reducible first | refine W ?_ | refine Z0 ?_ | ((first | refine Wo fun K hK => ?_ | refine Wq ?_ | refine Wr ?_); (try simp only [go_sem, fN, seval, eT, iR, h1, h2, CH, h3, h4]); (repeat refine Ai ?_); (try (refine hK _ ?_; clear hK K)))
   simp only [go_sem, fN, seval, AR, AS.result, AF, AG, AQ, A6, h3, h4, h2]
   try simp
theorem Em (s : ByteArray) : AW Try.prog 22 [Cj s] (Al (A6 s)) := by
 by_cases h0 : s.size = 0
 ·have := GQ h0
  subst this
  refine G7.ac fun C hC => ?_
  unfold EY
  repeat' with_reducible first | refine W ?_ | refine Z0 ?_ | ((first | refine Wo fun K hK => ?_ | refine Wq ?_ | refine Wr ?_); (try simp only [go_sem, fN, seval, eT, iR]); (repeat refine Ai ?_); (try (refine hK _ ?_; clear hK K)))
  simp only [go_sem, fN, seval, AR, AS.result, AF, AG, AQ]
  rfl
 ·have h1 := IJ h0
  have h2 : 0 < s.size := by omega
  refine G7.ac fun C hC => ?_
  unfold EY
  by_cases h3 : 65 ≤ Ao s 0 <;> by_cases h4 : Ao s 0 ≤ 90
  all_goals
   repeat' with_reducible first | refine W ?_ | refine Z0 ?_ | ((first | refine Wo fun K hK => ?_ | refine Wq ?_ | refine Wr ?_); (try simp only [go_sem, fN, seval, eT, iR, h1, h2, CH, h3, h4]); (repeat refine Ai ?_); (try (refine hK _ ?_; clear hK K)))
   simp only [go_sem, fN, seval, AR, AS.result, AF, AG, AQ, A6, h3, h4, h2]
   try simp
theorem He (s : ByteArray) (h1 : 1 ≤ s.size) (h8 : s.size ≤ 8) (hd : ¬ (48 ≤ Ao s 0 ∧ Ao s 0 ≤ 57)) : Ak s = BY s s.size := by
 unfold Ak
 have : (decide (48 ≤ Ao s 0) && decide (Ao s 0 ≤ 57)) = false := by
  rw [Bool.and_eq_false_iff]
  simp
  omega
 rw [this]
 simp [h1, h8]
theorem HD (s : ByteArray) : AW Try.prog 46 [Cj s] (Al (Ak s)) := by
 by_cases h0 : s.size < 1
 ·have e : Ak s = false := by simp [Ak]; omega
  rw [e]
  have h0' : (s.size : Int) < 1 := by omega
  refine CS.ac fun C hC => ?_
  unfold Bz
  repeat' with_reducible first | refine W ?_ | refine Z0 ?_ | ((first | refine Wo fun K hK => ?_ | refine Wq ?_ | refine Wr ?_); (try simp only [go_sem, fN, seval, eT, iR, h0']); (repeat refine Ai ?_); (try (refine hK _ ?_; clear hK K)))
  with_reducible refine Wp ?_
  simp only [go_sem, fN, seval, true_implies, false_implies, implies_true, dT, dF, nL, h0']
  (try with_reducible refine iC ?_)
  repeat' with_reducible first | refine W ?_ | refine Z0 ?_ | ((first | refine Wo fun K hK => ?_ | refine Wq ?_ | refine Wr ?_); (try simp only [go_sem, fN, seval, eT, iR]); (repeat refine Ai ?_); (try (refine hK _ ?_; clear hK K)))
  simp only [go_sem, fN, seval, AR, AS.result, AF, AG, AQ]
 have h0' : ¬ (s.size : Int) < 1 := by omega
 by_cases h8 : 8 < s.size
 ·have e : Ak s = false := by simp [Ak]; omega
  rw [e]
  have h8' : (8 : Int) < s.size := by omega
  refine CS.ac fun C hC => ?_
  unfold Bz
  repeat' with_reducible first | refine W ?_ | refine Z0 ?_ | ((first | refine Wo fun K hK => ?_ | refine Wq ?_ | refine Wr ?_); (try simp only [go_sem, fN, seval, eT, iR, h0', h8']); (repeat refine Ai ?_); (try (refine hK _ ?_; clear hK K)))
  with_reducible refine Wp ?_
  simp only [go_sem, fN, seval, true_implies, false_implies, implies_true, dT, dF, nL, h0']
  (try with_reducible refine iC ?_)
  repeat' with_reducible first | refine W ?_ | refine Z0 ?_ | ((first | refine Wo fun K hK => ?_ | refine Wq ?_ | refine Wr ?_); (try simp only [go_sem, fN, seval, eT, iR]); (repeat refine Ai ?_); (try (refine hK _ ?_; clear hK K)))
  simp only [go_sem, fN, seval, AR, AS.result, AF, AG, AQ]
 have h8' : ¬ (8 : Int) < s.size := by omega
 have hpos : 0 < s.size := by omega
 by_cases hd : 48 ≤ Ao s 0 ∧ Ao s 0 ≤ 57
 ·have e : Ak s = false := by simp [Ak, hd.1, hd.2]
  rw [e]
  refine CS.ac fun C hC => ?_
  unfold Bz
  repeat' with_reducible first | refine W ?_ | refine Z0 ?_ | ((first | refine Wo fun K hK => ?_ | refine Wq ?_ | refine Wr ?_); (try simp only [go_sem, fN, seval, eT, iR, h0', h8', hpos, CH, hd.1, hd.2]); (repeat refine Ai ?_); (try (refine hK _ ?_; clear hK K)))
  with_reducible refine Wp ?_
  simp only [go_sem, fN, seval, true_implies, false_implies, implies_true, dT, dF, nL, h0']
  (try with_reducible refine iC ?_)
  repeat' with_reducible first | refine W ?_ | refine Z0 ?_ | ((first | refine Wo fun K hK => ?_ | refine Wq ?_ | refine Wr ?_); (try simp only [go_sem, fN, seval, eT, iR]); (repeat refine Ai ?_); (try (refine hK _ ?_; clear hK K)))
  simp only [go_sem, fN, seval, AR, AS.result, AF, AG, AQ]
 rw [He s (by omega) (by omega) hd]
 have hd2 : (48 ≤ Ao s 0 ∧ ¬ Ao s 0 ≤ 57) ∨ (¬ 48 ≤ Ao s 0) := by omega
 refine CS.ac fun C hC => ?_
 unfold Bz
 have h57 : 48 ≤ Ao s 0 → ¬ Ao s 0 ≤ 57 := fun h h' => hd ⟨h, h'⟩
 by_cases h48 : 48 ≤ Ao s 0
 all_goals
  simp only [h48, true_implies, false_implies] at h57
  repeat' with_reducible first | refine W ?_ | refine Z0 ?_ | ((first | refine Wo fun K hK => ?_ | refine Wq ?_ | refine Wr ?_); (try simp only [go_sem, fN, seval, eT, iR, h0', h8', hpos, CH, h48, h57]); (repeat refine Ai ?_); (try (refine hK _ ?_; clear hK K)))
  with_reducible refine Wp ?_
  simp only [go_sem, fN, seval, true_implies, false_implies, implies_true, dT, dF, nL, h0']
  (try with_reducible refine iC ?_)
  repeat' with_reducible first | refine W ?_ | refine Z0 ?_ | ((first | refine Wo fun K hK => ?_ | refine Wq ?_ | refine Wr ?_); (try simp only [go_sem, fN, seval, eT, iR]); (repeat refine Ai ?_); (try (refine hK _ ?_; clear hK K)))
  refine IWP.loop (fun m x => ∃ k, k ≤ s.size ∧ m = s.size - k ∧ BY s k = true ∧ x.env 0 = Cj s ∧ x.env 23 = AY s.size ∧ x.env 24 = AY k) s.size ⟨0, Nat.zero_le _, rfl, rfl, rfl, rfl, rfl⟩ ?_
  rintro m ⟨env, S⟩ ⟨k, hk, rfl, hl, e0, e23, e24⟩
  simp only at e0 e23 e24
  repeat' with_reducible first | refine W ?_ | refine Z0 ?_ | ((first | refine Wo fun K hK => ?_ | refine Wq ?_ | refine Wr ?_); (try simp only [go_sem, fN, seval, eT, iR, e0, e23, e24]); (repeat refine Ai ?_); (try (refine hK _ ?_; clear hK K)))
  with_reducible refine Wp ?_
  simp only [go_sem, fN, seval, true_implies, false_implies, implies_true, dT, dF, nL, e0, e23, e24]
  (try with_reducible refine iC ?_)
  refine ⟨fun hlt => ?_, fun hge => ?_⟩
  ·have hlt' : k < s.size := by omega
   repeat' (first | (with_reducible first | refine W ?_ | refine Z0 ?_ | ((first | refine Wo fun K hK => ?_ | refine Wq ?_ | refine Wr ?_); (try simp only [go_sem, fN, seval, eT, iR, e0, e23, e24, hlt', CH]); (repeat refine Ai ?_); (try (refine hK _ ?_; clear hK K)))) | refine Cg _ (MV _ (E9 s k).1) ?_)
   with_reducible refine Wp ?_
   simp only [go_sem, fN, seval, true_implies, false_implies, implies_true, dT, dF, nL]
   (try with_reducible refine iC ?_)
   refine ⟨fun hn => ?_, fun hn => ?_⟩
   ·repeat' with_reducible first | refine W ?_ | refine Z0 ?_ | ((first | refine Wo fun K hK => ?_ | refine Wq ?_ | refine Wr ?_); (try simp only [go_sem, fN, seval, eT, iR]); (repeat refine Ai ?_); (try (refine hK _ ?_; clear hK K)))
    simp only [go_sem, fN, seval, AR, AS.result, AF, AG, AQ]
    rw [Ec s k hlt' (by simpa using hn)]
   ·repeat' with_reducible first | refine W ?_ | refine Z0 ?_ | ((first | refine Wo fun K hK => ?_ | refine Wq ?_ | refine Wr ?_); (try simp only [go_sem, fN, seval, eT, iR, e0, e23, e24]); (repeat refine Ai ?_); (try (refine hK _ ?_; clear hK K)))
    refine AB ⟨s.size - (k + 1), by omega, k + 1, by omega, rfl, ?_, ?_⟩
    ·rw [Du s k hlt', hl]
     simpa using hn
    ·simp only [go_sem, fN, seval, eT, iR, e0, e23, e24]
     congr 3
  ·repeat' with_reducible first | refine W ?_ | refine Z0 ?_ | ((first | refine Wo fun K hK => ?_ | refine Wq ?_ | refine Wr ?_); (try simp only [go_sem, fN, seval, eT, iR]); (repeat refine Ai ?_); (try (refine hK _ ?_; clear hK K)))
   simp only [go_sem, fN, seval, AR, AS.result, AF, AG, AQ]
   rw [show s.size = k by omega, hl]
theorem Dc (s : ByteArray) : AW Try.prog 21 [Cj s] (Al (Ak s)) := by
 by_cases h0 : s.size < 1
 ·have e : Ak s = false := by simp [Ak]; omega
  rw [e]
  have h0' : s = ⟨#[]⟩ := GQ (by omega)
  subst h0'
  refine Cr.ac fun C hC => ?_
  unfold CI
  repeat' with_reducible first | refine W ?_ | refine Z0 ?_ | ((first | refine Wo fun K hK => ?_ | refine Wq ?_ | refine Wr ?_); (try simp only [go_sem, fN, seval, eT, iR]); (repeat refine Ai ?_); (try (refine hK _ ?_; clear hK K)))
  with_reducible refine Wp ?_
  simp only [go_sem, fN, seval, true_implies, false_implies, implies_true, dT, dF, nL]
  (try with_reducible refine iC ?_)
  repeat' with_reducible first | refine W ?_ | refine Z0 ?_ | ((first | refine Wo fun K hK => ?_ | refine Wq ?_ | refine Wr ?_); (try simp only [go_sem, fN, seval, eT, iR]); (repeat refine Ai ?_); (try (refine hK _ ?_; clear hK K)))
  simp only [go_sem, fN, seval, AR, AS.result, AF, AG, AQ]
 have h0' : ¬ s = ⟨#[]⟩ := IJ (by omega)
 by_cases h8 : 8 < s.size
 ·have e : Ak s = false := by simp [Ak]; omega
  rw [e]
  have h8' : (8 : Int) < s.size := by omega
  refine Cr.ac fun C hC => ?_
  unfold CI
  repeat' with_reducible first | refine W ?_ | refine Z0 ?_ | ((first | refine Wo fun K hK => ?_ | refine Wq ?_ | refine Wr ?_); (try simp only [go_sem, fN, seval, eT, iR, h0', h8']); (repeat refine Ai ?_); (try (refine hK _ ?_; clear hK K)))
  with_reducible refine Wp ?_
  simp only [go_sem, fN, seval, true_implies, false_implies, implies_true, dT, dF, nL, h0']
  (try with_reducible refine iC ?_)
  repeat' with_reducible first | refine W ?_ | refine Z0 ?_ | ((first | refine Wo fun K hK => ?_ | refine Wq ?_ | refine Wr ?_); (try simp only [go_sem, fN, seval, eT, iR]); (repeat refine Ai ?_); (try (refine hK _ ?_; clear hK K)))
  simp only [go_sem, fN, seval, AR, AS.result, AF, AG, AQ]
 have h8' : ¬ (8 : Int) < s.size := by omega
 have hpos : 0 < s.size := by omega
 by_cases hd : 48 ≤ Ao s 0 ∧ Ao s 0 ≤ 57
 ·have e : Ak s = false := by simp [Ak, hd.1, hd.2]
  rw [e]
  refine Cr.ac fun C hC => ?_
  unfold CI
  repeat' with_reducible first | refine W ?_ | refine Z0 ?_ | ((first | refine Wo fun K hK => ?_ | refine Wq ?_ | refine Wr ?_); (try simp only [go_sem, fN, seval, eT, iR, h0', h8', hpos, CH, hd.1, hd.2]); (repeat refine Ai ?_); (try (refine hK _ ?_; clear hK K)))
  with_reducible refine Wp ?_
  simp only [go_sem, fN, seval, true_implies, false_implies, implies_true, dT, dF, nL, h0']
  (try with_reducible refine iC ?_)
  repeat' with_reducible first | refine W ?_ | refine Z0 ?_ | ((first | refine Wo fun K hK => ?_ | refine Wq ?_ | refine Wr ?_); (try simp only [go_sem, fN, seval, eT, iR]); (repeat refine Ai ?_); (try (refine hK _ ?_; clear hK K)))
  simp only [go_sem, fN, seval, AR, AS.result, AF, AG, AQ]
 rw [He s (by omega) (by omega) hd]
 refine Cr.ac fun C hC => ?_
 unfold CI
 have h57 : 48 ≤ Ao s 0 → ¬ Ao s 0 ≤ 57 := fun h h' => hd ⟨h, h'⟩
 by_cases h48 : 48 ≤ Ao s 0
 all_goals
  simp only [h48, true_implies, false_implies] at h57
  repeat' with_reducible first | refine W ?_ | refine Z0 ?_ | ((first | refine Wo fun K hK => ?_ | refine Wq ?_ | refine Wr ?_); (try simp only [go_sem, fN, seval, eT, iR, h0', h8', hpos, CH, h48, h57]); (repeat refine Ai ?_); (try (refine hK _ ?_; clear hK K)))
  with_reducible refine Wp ?_
  simp only [go_sem, fN, seval, true_implies, false_implies, implies_true, dT, dF, nL, h0']
  (try with_reducible refine iC ?_)
  repeat' with_reducible first | refine W ?_ | refine Z0 ?_ | ((first | refine Wo fun K hK => ?_ | refine Wq ?_ | refine Wr ?_); (try simp only [go_sem, fN, seval, eT, iR]); (repeat refine Ai ?_); (try (refine hK _ ?_; clear hK K)))
  refine IWP.loop (fun m x => ∃ k, k ≤ s.size ∧ m = s.size - k ∧ BY s k = true ∧ x.env 0 = Cj s ∧ x.env 3 = AY k) s.size ⟨0, Nat.zero_le _, rfl, rfl, rfl, rfl⟩ ?_
  rintro m ⟨env, S⟩ ⟨k, hk, rfl, hl, e0, e3⟩
  simp only at e0 e3
  repeat' with_reducible first | refine W ?_ | refine Z0 ?_ | ((first | refine Wo fun K hK => ?_ | refine Wq ?_ | refine Wr ?_); (try simp only [go_sem, fN, seval, eT, iR, e0, e3]); (repeat refine Ai ?_); (try (refine hK _ ?_; clear hK K)))
  with_reducible refine Wp ?_
  simp only [go_sem, fN, seval, true_implies, false_implies, implies_true, dT, dF, nL, e0, e3]
  (try with_reducible refine iC ?_)
  refine ⟨fun hlt => ?_, fun hge => ?_⟩
  ·have hlt' : k < s.size := by omega
   repeat' (first | (with_reducible first | refine W ?_ | refine Z0 ?_ | ((first | refine Wo fun K hK => ?_ | refine Wq ?_ | refine Wr ?_); (try simp only [go_sem, fN, seval, eT, iR, e0, e3, hlt', CH]); (repeat refine Ai ?_); (try (refine hK _ ?_; clear hK K)))) | refine Cg _ (Kv _ (E9 s k).1) ?_)
   with_reducible refine Wp ?_
   simp only [go_sem, fN, seval, true_implies, false_implies, implies_true, dT, dF, nL]
   (try with_reducible refine iC ?_)
   refine ⟨fun hn => ?_, fun hn => ?_⟩
   ·repeat' with_reducible first | refine W ?_ | refine Z0 ?_ | ((first | refine Wo fun K hK => ?_ | refine Wq ?_ | refine Wr ?_); (try simp only [go_sem, fN, seval, eT, iR]); (repeat refine Ai ?_); (try (refine hK _ ?_; clear hK K)))
    simp only [go_sem, fN, seval, AR, AS.result, AF, AG, AQ]
    rw [Ec s k hlt' (by simpa using hn)]
   ·repeat' with_reducible first | refine W ?_ | refine Z0 ?_ | ((first | refine Wo fun K hK => ?_ | refine Wq ?_ | refine Wr ?_); (try simp only [go_sem, fN, seval, eT, iR, e0, e3]); (repeat refine Ai ?_); (try (refine hK _ ?_; clear hK K)))
    refine AB ⟨s.size - (k + 1), by omega, k + 1, by omega, rfl, ?_, ?_⟩
    ·rw [Du s k hlt', hl]
     simpa using hn
    ·simp only [go_sem, fN, seval, eT, iR, e0, e3]
     congr 3
  ·repeat' with_reducible first | refine W ?_ | refine Z0 ?_ | ((first | refine Wo fun K hK => ?_ | refine Wq ?_ | refine Wr ?_); (try simp only [go_sem, fN, seval, eT, iR]); (repeat refine Ai ?_); (try (refine hK _ ?_; clear hK K)))
   simp only [go_sem, fN, seval, AR, AS.result, AF, AG, AQ]
   rw [show s.size = k by omega, hl]
theorem MZ (t : Tm) (m : Int) (h0 : 0 ≤ m) (h1 : m ≤ 9223372036854775807) : AW Try.prog 41 [aTm t, AY m] (AY (BT t.size m)) := by
 induction h : SizeOf.sizeOf t using Nat.strongRecOn generalizing t m with
 | _ N ih =>
 subst h
 have hs := Tm.size_eq t
 refine Gz.ac fun C hC => ?_
 unfold Dh
 refine IWP.learn 0 (by omega) fun hkn => ?_
 have hkn := Ei hkn
 repeat' with_reducible first | refine W ?_ | refine Z0 ?_ | ((first | refine Wo fun K hK => ?_ | refine Wq ?_ | refine Wr ?_); (try simp only [go_sem, fN, seval, eT, iR]); (repeat refine Ai ?_); (try (refine hK _ ?_; clear hK K)))
 refine IWP.loopD [6] (fun n s => ∃ k, k ≤ t.args.length ∧ n = t.args.length - k ∧ s.env 1 = AY (BT (1 + Tm.sizes (t.args.take k)) m) ∧ s.env 10 = .one (.st (.list (t.args.map BC))) ∧ s.env 11 = AY t.args.length ∧ s.env 12 = AY k ∧ s.S 6 = none) t.args.length ⟨0, Nat.zero_le _, rfl, by
  simp only [go_sem, fN, seval, eT, iR]
  rw [BT]
  have z0 : Tm.sizes [] = 0 := rfl
  congr 3
  split <;> omega, rfl, rfl, rfl, rfl⟩ ?_
 rintro n ⟨env, S⟩ ⟨k, hk, rfl, e1, e10, e11, e12, s6⟩
 simp only at e1 e10 e11 e12 s6
 repeat' with_reducible first | refine W ?_ | refine Z0 ?_ | ((first | refine Wo fun K hK => ?_ | refine Wq ?_ | refine Wr ?_); (try simp only [go_sem, fN, seval, eT, iR, e1, e10, e11, e12, s6]); (repeat refine Ai ?_); (try (refine hK _ ?_; clear hK K)))
 with_reducible refine Wp ?_
 simp only [go_sem, fN, seval, true_implies, false_implies, implies_true, dT, dF, nL, e1, e10, e11, e12, s6]
 (try with_reducible refine iC ?_)
 refine ⟨fun hlt => ?_, fun hge => ?_⟩
 ·obtain ⟨a, ha⟩ := Ah (show k < t.args.length by omega)
  have z1 := Tm.sizes_take ha
  have z2 := Tm.sizes_take_le t.args (k + 1)
  have z3 := Tm.length_le t.args
  have z4 := L6 (1 + Tm.sizes (t.args.take k)) m h0
  repeat' with_reducible first | refine W ?_ | refine Z0 ?_ | ((first | refine Wo fun K hK => ?_ | refine Wq ?_ | refine Wr ?_); (try simp only [go_sem, fN, seval, eT, iR, e1, e10, e11, e12, s6, ha]); (repeat refine Ai ?_); (try (refine hK _ ?_; clear hK K)))
  with_reducible refine Wp ?_
  simp only [go_sem, fN, seval, true_implies, false_implies, implies_true, dT, dF, nL, e1]
  (try with_reducible refine iC ?_)
  refine ⟨fun hb => ?_, fun hb => ?_⟩
  ·repeat' with_reducible first | refine W ?_ | refine Z0 ?_ | ((first | refine Wo fun K hK => ?_ | refine Wq ?_ | refine Wr ?_); (try simp only [go_sem, fN, seval, eT, iR, e1]); (repeat refine Ai ?_); (try (refine hK _ ?_; clear hK K)))
   simp only [go_sem, fN, seval, AR, AS.result, AF, AG, AQ, e1]
   rw [Kl hb (show _ ≤ t.size by rw [hs]; omega)]
  ·repeat' (first | (with_reducible first | refine W ?_ | refine Z0 ?_ | ((first | refine Wo fun K hK => ?_ | refine Wq ?_ | refine Wr ?_); (try simp only [go_sem, fN, seval, eT, iR, e1, e10, e11, e12, s6, ha]); (repeat refine Ai ?_); (try (refine hK _ ?_; clear hK K)))) | refine Cg _ (ih _ (Tm.lt_of_arg (AN ha)) a _ (by omega) (by omega) rfl) ?_)
   refine AB ⟨t.args.length - (k + 1), by omega, k + 1, by omega, rfl, ?_⟩
   simp only [go_sem, fN, seval, AS.drop, Ag, AC.clears, AC.clear, AC.highs, AC.high, Bool.not_false, Bool.true_and, Bool.and_self, AV.purge, AV.purges, AC.purge, AJ.purge, List.contains_cons, List.contains_nil, Nat.reduceBEq, Bool.or_self, Bool.or_false, Bool.false_or, Bool.or_true, eT, iR, e1, e10, e11, e12, s6]
   exact ⟨by rw [Jq (by omega), z1]; congr 4; omega, by congr 3⟩
 ·repeat' with_reducible first | refine W ?_ | refine Z0 ?_ | ((first | refine Wo fun K hK => ?_ | refine Wq ?_ | refine Wr ?_); (try simp only [go_sem, fN, seval, eT, iR, e1]); (repeat refine Ai ?_); (try (refine hK _ ?_; clear hK K)))
  simp only [go_sem, fN, seval, AR, AS.result, AF, AG, AQ, e1]
  rw [List.take_of_length_le (by omega), hs]
theorem Ey (t : Tm) (m : Int) (h0 : 0 ≤ m) (h1 : m ≤ 9223372036854775806) : AW Try.prog 20 [aTm t, AY m] (AY (A7 t.size m)) := by
 induction h : SizeOf.sizeOf t using Nat.strongRecOn generalizing t m with
 | _ N ih =>
 subst h
 have hs := Tm.size_eq t
 refine MI.ac fun C hC => ?_
 unfold H5
 refine IWP.learn 0 (by omega) fun hkn => ?_
 have hkn := Ei hkn
 repeat' with_reducible first | refine W ?_ | refine Z0 ?_ | ((first | refine Wo fun K hK => ?_ | refine Wq ?_ | refine Wr ?_); (try simp only [go_sem, fN, seval, eT, iR]); (repeat refine Ai ?_); (try (refine hK _ ?_; clear hK K)))
 refine IWP.loop (fun n s => ∃ k, k ≤ t.args.length ∧ n = t.args.length - k ∧ s.env 5 = AY (A7 (1 + Tm.sizes (t.args.take k)) m) ∧ s.env 1 = AY m ∧ s.env 2 = .one (.ptr 2 1 0 0) ∧ s.env 6 = AY k ∧ s.S 2 = some (.box 28 [.st (.str t.name), .st (.list (t.args.map BC))])) t.args.length ⟨0, Nat.zero_le _, rfl, by
  simp only [go_sem, fN, seval, eT, iR]
  rw [A7]
  have z0 : Tm.sizes [] = 0 := rfl
  congr 3
  split <;> omega, rfl, rfl, rfl, rfl⟩ ?_
 rintro n ⟨env, S⟩ ⟨k, hk, rfl, e5, e1, e2, e6, s2⟩
 simp only at e5 e1 e2 e6 s2
 have z4 := Je (1 + Tm.sizes (t.args.take k)) m h0
 by_cases hlt : (k : Int) < t.args.length
 ·obtain ⟨a, ha⟩ := Ah (show k < t.args.length by omega)
  have z1 := Tm.sizes_take ha
  have z2 := Tm.sizes_take_le t.args (k + 1)
  by_cases hb : m < A7 (1 + Tm.sizes (t.args.take k)) m
  ·have hb' : ¬ A7 (1 + Tm.sizes (t.args.take k)) m ≤ m := by omega
   repeat' with_reducible first | refine W ?_ | refine Z0 ?_ | ((first | refine Wo fun K hK => ?_ | refine Wq ?_ | refine Wr ?_); (try simp only [go_sem, fN, seval, eT, iR, e5, e1, e2, e6, s2, hlt, hb']); (repeat refine Ai ?_); (try (refine hK _ ?_; clear hK K)))
   with_reducible refine Wp ?_
   simp only [go_sem, fN, seval, true_implies, false_implies, implies_true, dT, dF, nL, hb']
   (try with_reducible refine iC ?_)
   repeat' with_reducible first | refine W ?_ | refine Z0 ?_ | ((first | refine Wo fun K hK => ?_ | refine Wq ?_ | refine Wr ?_); (try simp only [go_sem, fN, seval, eT, iR, e5, e1, e2, e6, s2]); (repeat refine Ai ?_); (try (refine hK _ ?_; clear hK K)))
   with_reducible refine Wp ?_
   simp only [go_sem, fN, seval, true_implies, false_implies, implies_true, dT, dF, nL, hb]
   (try with_reducible refine iC ?_)
   repeat' with_reducible first | refine W ?_ | refine Z0 ?_ | ((first | refine Wo fun K hK => ?_ | refine Wq ?_ | refine Wr ?_); (try simp only [go_sem, fN, seval, eT, iR, e1]); (repeat refine Ai ?_); (try (refine hK _ ?_; clear hK K)))
   simp only [go_sem, fN, seval, AR, AS.result, AF, AG, AQ]
   rw [GN hb (show _ ≤ t.size by rw [hs]; omega)]
  ·have hb' : A7 (1 + Tm.sizes (t.args.take k)) m ≤ m := by omega
   obtain ⟨b1, b2⟩ := JL hb
   repeat' with_reducible first | refine W ?_ | refine Z0 ?_ | ((first | refine Wo fun K hK => ?_ | refine Wq ?_ | refine Wr ?_); (try simp only [go_sem, fN, seval, eT, iR, e5, e1, e2, e6, s2, hlt, hb']); (repeat refine Ai ?_); (try (refine hK _ ?_; clear hK K)))
   with_reducible refine Wp ?_
   simp only [go_sem, fN, seval, true_implies, false_implies, implies_true, dT, dF, nL, hb']
   (try with_reducible refine iC ?_)
   repeat' with_reducible first | refine W ?_ | refine Z0 ?_ | ((first | refine Wo fun K hK => ?_ | refine Wq ?_ | refine Wr ?_); (try simp only [go_sem, fN, seval, eT, iR, e5, e1, e2, e6, s2, ha]); (repeat refine Ai ?_); (try (refine hK _ ?_; clear hK K)))
   refine ⟨_, ih _ (Tm.lt_of_arg (AN ha)) a (m - A7 (1 + Tm.sizes (t.args.take k)) m) (by omega) (by omega) rfl, ?_⟩
   have z5 := Je a.size (m - A7 (1 + Tm.sizes (t.args.take k)) m) (by omega)
   repeat' with_reducible first | refine W ?_ | refine Z0 ?_ | ((first | refine Wo fun K hK => ?_ | refine Wq ?_ | refine Wr ?_); (try simp only [go_sem, fN, seval, eT, iR, e5, e1, e2, e6, s2]); (repeat refine Ai ?_); (try (refine hK _ ?_; clear hK K)))
   refine AB ⟨t.args.length - (k + 1), by omega, k + 1, by omega, rfl, ?_⟩
   simp only [go_sem, fN, seval, eT, iR, e5, e1, e2, e6, s2]
   exact ⟨by rw [b1, KB b2, z1]; congr 4; omega, by congr 3⟩
 ·repeat' with_reducible first | refine W ?_ | refine Z0 ?_ | ((first | refine Wo fun K hK => ?_ | refine Wq ?_ | refine Wr ?_); (try simp only [go_sem, fN, seval, eT, iR, e5, e1, e2, e6, s2, hlt]); (repeat refine Ai ?_); (try (refine hK _ ?_; clear hK K)))
  with_reducible refine Wp ?_
  simp only [go_sem, fN, seval, true_implies, false_implies, implies_true, dT, dF, nL]
  (try with_reducible refine iC ?_)
  have hfull : 1 + Tm.sizes (t.args.take k) = t.size := by rw [List.take_of_length_le (by omega), hs]
  rw [hfull] at e5 z4
  repeat' with_reducible first | refine W ?_ | refine Z0 ?_ | ((first | refine Wo fun K hK => ?_ | refine Wq ?_ | refine Wr ?_); (try simp only [go_sem, fN, seval, eT, iR, e5, e1]); (repeat refine Ai ?_); (try (refine hK _ ?_; clear hK K)))
  by_cases hb : m < A7 t.size m
  ·with_reducible refine Wp ?_
   simp only [go_sem, fN, seval, true_implies, false_implies, implies_true, dT, dF, nL, hb]
   (try with_reducible refine iC ?_)
   repeat' with_reducible first | refine W ?_ | refine Z0 ?_ | ((first | refine Wo fun K hK => ?_ | refine Wq ?_ | refine Wr ?_); (try simp only [go_sem, fN, seval, eT, iR, e1]); (repeat refine Ai ?_); (try (refine hK _ ?_; clear hK K)))
   simp only [go_sem, fN, seval, AR, AS.result, AF, AG, AQ]
   rw [GN hb (Nat.le_refl _)]
  ·with_reducible refine Wp ?_
   simp only [go_sem, fN, seval, true_implies, false_implies, implies_true, dT, dF, nL, hb]
   (try with_reducible refine iC ?_)
   repeat' with_reducible first | refine W ?_ | refine Z0 ?_ | ((first | refine Wo fun K hK => ?_ | refine Wq ?_ | refine Wr ?_); (try simp only [go_sem, fN, seval, eT, iR, e5]); (repeat refine Ai ?_); (try (refine hK _ ?_; clear hK K)))
   simp only [go_sem, fN, seval, AR, AS.result, AF, AG, AQ, e5]
theorem OC (t : Tm) : AW Try.prog 42 [aTm t] (AY t.chk) := by
 induction h : SizeOf.sizeOf t using Nat.strongRecOn generalizing t with
 | _ N ih =>
 subst h
 have hc := Tm.chk_eq t
 have hc1 : Bb t = if Ak t.name = true then (if A6 t.name = true ∧ 0 < t.args.length then 2 else 0) else 1 := rfl
 refine HI.ac fun C hC => ?_
 unfold EJ
 refine IWP.learn 0 (by omega) fun hkn => ?_
 have hkn := Ei hkn
 repeat' with_reducible first | refine W ?_ | refine Z0 ?_ | ((first | refine Wo fun K hK => ?_ | refine Wq ?_ | refine Wr ?_); (try simp only [go_sem, fN, seval, eT, iR]); (repeat refine Ai ?_); (try (refine hK _ ?_; clear hK K)))
 refine ⟨_, HD _, ?_⟩
 cases hn : Ak t.name with
 | false =>
  rw [hn, if_neg (by simp)] at hc1
  repeat' with_reducible first | refine W ?_ | refine Z0 ?_ | ((first | refine Wo fun K hK => ?_ | refine Wq ?_ | refine Wr ?_); (try simp only [go_sem, fN, seval, eT, iR]); (repeat refine Ai ?_); (try (refine hK _ ?_; clear hK K)))
  with_reducible refine Wp ?_
  simp only [go_sem, fN, seval, true_implies, false_implies, implies_true, dT, dF, nL]
  (try with_reducible refine iC ?_)
  repeat' with_reducible first | refine W ?_ | refine Z0 ?_ | ((first | refine Wo fun K hK => ?_ | refine Wq ?_ | refine Wr ?_); (try simp only [go_sem, fN, seval, eT, iR]); (repeat refine Ai ?_); (try (refine hK _ ?_; clear hK K)))
  simp only [go_sem, fN, seval, AR, AS.result, AF, AG, AQ]
  rw [hc, hc1]
  rfl
 | true =>
  rw [hn, if_pos rfl] at hc1
  repeat' with_reducible first | refine W ?_ | refine Z0 ?_ | ((first | refine Wo fun K hK => ?_ | refine Wq ?_ | refine Wr ?_); (try simp only [go_sem, fN, seval, eT, iR]); (repeat refine Ai ?_); (try (refine hK _ ?_; clear hK K)))
  with_reducible refine Wp ?_
  simp only [go_sem, fN, seval, true_implies, false_implies, implies_true, dT, dF, nL]
  (try with_reducible refine iC ?_)
  repeat' with_reducible first | refine W ?_ | refine Z0 ?_ | ((first | refine Wo fun K hK => ?_ | refine Wq ?_ | refine Wr ?_); (try simp only [go_sem, fN, seval, eT, iR]); (repeat refine Ai ?_); (try (refine hK _ ?_; clear hK K)))
  refine ⟨_, Cf _, ?_⟩
  by_cases hv : A6 t.name = true ∧ 0 < t.args.length
  ·obtain ⟨hv1, hv2⟩ := hv
   have hv2' : (0 : Int) < t.args.length := by omega
   rw [if_pos ⟨hv1, hv2⟩] at hc1
   rw [hv1]
   repeat' with_reducible first | refine W ?_ | refine Z0 ?_ | ((first | refine Wo fun K hK => ?_ | refine Wq ?_ | refine Wr ?_); (try simp only [go_sem, fN, seval, eT, iR, hv2']); (repeat refine Ai ?_); (try (refine hK _ ?_; clear hK K)))
   with_reducible refine Wp ?_
   simp only [go_sem, fN, seval, true_implies, false_implies, implies_true, dT, dF, nL, hv2']
   (try with_reducible refine iC ?_)
   repeat' with_reducible first | refine W ?_ | refine Z0 ?_ | ((first | refine Wo fun K hK => ?_ | refine Wq ?_ | refine Wr ?_); (try simp only [go_sem, fN, seval, eT, iR]); (repeat refine Ai ?_); (try (refine hK _ ?_; clear hK K)))
   simp only [go_sem, fN, seval, AR, AS.result, AF, AG, AQ]
   rw [hc, hc1]
   rfl
  ·rw [if_neg hv] at hc1
   rw [if_pos hc1] at hc
   have hv2 : A6 t.name = true → ¬ (0 : Int) < t.args.length := fun h h' => hv ⟨h, by omega⟩
   cases hvv : A6 t.name
   all_goals
    simp only [hvv, true_implies, false_implies, Bool.false_eq_true] at hv2
    repeat' with_reducible first | refine W ?_ | refine Z0 ?_ | ((first | refine Wo fun K hK => ?_ | refine Wq ?_ | refine Wr ?_); (try simp only [go_sem, fN, seval, eT, iR, hv2]); (repeat refine Ai ?_); (try (refine hK _ ?_; clear hK K)))
    with_reducible refine Wp ?_
    simp only [go_sem, fN, seval, true_implies, false_implies, implies_true, dT, dF, nL, hv2]
    (try with_reducible refine iC ?_)
    repeat' with_reducible first | refine W ?_ | refine Z0 ?_ | ((first | refine Wo fun K hK => ?_ | refine Wq ?_ | refine Wr ?_); (try simp only [go_sem, fN, seval, eT, iR]); (repeat refine Ai ?_); (try (refine hK _ ?_; clear hK K)))
    refine IWP.loopD [4] (fun n s => ∃ k, k ≤ t.args.length ∧ n = t.args.length - k ∧ Tm.chkL (t.args.take k) = 0 ∧ s.env 20 = .one (.st (.list (t.args.map BC))) ∧ s.env 21 = AY t.args.length ∧ s.env 22 = AY k ∧ s.S 4 = none) t.args.length ⟨0, Nat.zero_le _, rfl, rfl, rfl, rfl, rfl, rfl⟩ ?_
    rintro n ⟨env, S⟩ ⟨k, hk, rfl, h0, e20, e21, e22, s4⟩
    simp only at e20 e21 e22 s4
    repeat' with_reducible first | refine W ?_ | refine Z0 ?_ | ((first | refine Wo fun K hK => ?_ | refine Wq ?_ | refine Wr ?_); (try simp only [go_sem, fN, seval, eT, iR, e20, e21, e22, s4]); (repeat refine Ai ?_); (try (refine hK _ ?_; clear hK K)))
    with_reducible refine Wp ?_
    simp only [go_sem, fN, seval, true_implies, false_implies, implies_true, dT, dF, nL, e20, e21, e22, s4]
    (try with_reducible refine iC ?_)
    refine ⟨fun hlt => ?_, fun hge => ?_⟩
    ·obtain ⟨a, ha⟩ := Ah (show k < t.args.length by omega)
     obtain ⟨g1, g2⟩ := Tm.chkL_get ha h0
     repeat' (first | (with_reducible first | refine W ?_ | refine Z0 ?_ | ((first | refine Wo fun K hK => ?_ | refine Wq ?_ | refine Wr ?_); (try simp only [go_sem, fN, seval, eT, iR, e20, e21, e22, s4, ha]); (repeat refine Ai ?_); (try (refine hK _ ?_; clear hK K)))) | refine Cg _ (ih _ (Tm.lt_of_arg (AN ha)) a rfl) ?_)
     with_reducible refine Wp ?_
     simp only [go_sem, fN, seval, true_implies, false_implies, implies_true, dT, dF, nL]
     (try with_reducible refine iC ?_)
     refine ⟨fun hb => ?_, fun hb => ?_⟩
     ·repeat' with_reducible first | refine W ?_ | refine Z0 ?_ | ((first | refine Wo fun K hK => ?_ | refine Wq ?_ | refine Wr ?_); (try simp only [go_sem, fN, seval, eT, iR]); (repeat refine Ai ?_); (try (refine hK _ ?_; clear hK K)))
      simp only [go_sem, fN, seval, AR, AS.result, AF, AG, AQ]
      rw [hc, g2 hb]
     ·repeat' with_reducible first | refine W ?_ | refine Z0 ?_ | ((first | refine Wo fun K hK => ?_ | refine Wq ?_ | refine Wr ?_); (try simp only [go_sem, fN, seval, eT, iR, e20, e21, e22, s4]); (repeat refine Ai ?_); (try (refine hK _ ?_; clear hK K)))
      refine AB ⟨t.args.length - (k + 1), by omega, k + 1, by omega, rfl, g1 (by omega), ?_⟩
      simp only [go_sem, fN, seval, AS.drop, Ag, AC.clears, AC.clear, AC.highs, AC.high, Bool.not_false, Bool.true_and, Bool.and_self, AV.purge, AV.purges, AC.purge, AJ.purge, List.contains_cons, List.contains_nil, Nat.reduceBEq, Bool.or_self, Bool.or_false, Bool.false_or, Bool.or_true, eT, iR, e20, e21, e22, s4]
      congr 3
    ·repeat' with_reducible first | refine W ?_ | refine Z0 ?_ | ((first | refine Wo fun K hK => ?_ | refine Wq ?_ | refine Wr ?_); (try simp only [go_sem, fN, seval, eT, iR]); (repeat refine Ai ?_); (try (refine hK _ ?_; clear hK K)))
     simp only [go_sem, fN, seval, AR, AS.result, AF, AG, AQ]
     rw [List.take_of_length_le (by omega)] at h0
     rw [hc, h0]
theorem Ew (t : Tm) : AW Try.prog 28 [aTm t] (AY t.may) := by
 have hm : t.may = if 200 < t.size then 3 else t.chk := rfl
 refine HW.ac fun C hC => ?_
 unfold EL
 repeat' with_reducible first | refine W ?_ | refine Z0 ?_ | ((first | refine Wo fun K hK => ?_ | refine Wq ?_ | refine Wr ?_); (try simp only [go_sem, fN, seval, eT, iR]); (repeat refine Ai ?_); (try (refine hK _ ?_; clear hK K)))
 refine ⟨_, MZ t 200 (by omega) (by omega), ?_⟩
 by_cases h : BT t.size 200 < 0
 ·repeat' with_reducible first | refine W ?_ | refine Z0 ?_ | ((first | refine Wo fun K hK => ?_ | refine Wq ?_ | refine Wr ?_); (try simp only [go_sem, fN, seval, eT, iR, h]); (repeat refine Ai ?_); (try (refine hK _ ?_; clear hK K)))
  with_reducible refine Wp ?_
  simp only [go_sem, fN, seval, true_implies, false_implies, implies_true, dT, dF, nL, h]
  (try with_reducible refine iC ?_)
  repeat' with_reducible first | refine W ?_ | refine Z0 ?_ | ((first | refine Wo fun K hK => ?_ | refine Wq ?_ | refine Wr ?_); (try simp only [go_sem, fN, seval, eT, iR]); (repeat refine Ai ?_); (try (refine hK _ ?_; clear hK K)))
  simp only [go_sem, fN, seval, AR, AS.result, AF, AG, AQ]
  unfold BT at h
  rw [hm, if_pos (by split at h <;> omega)]
 ·repeat' with_reducible first | refine W ?_ | refine Z0 ?_ | ((first | refine Wo fun K hK => ?_ | refine Wq ?_ | refine Wr ?_); (try simp only [go_sem, fN, seval, eT, iR, h]); (repeat refine Ai ?_); (try (refine hK _ ?_; clear hK K)))
  with_reducible refine Wp ?_
  simp only [go_sem, fN, seval, true_implies, false_implies, implies_true, dT, dF, nL, h]
  (try with_reducible refine iC ?_)
  repeat' (first | (with_reducible first | refine W ?_ | refine Z0 ?_ | ((first | refine Wo fun K hK => ?_ | refine Wq ?_ | refine Wr ?_); (try simp only [go_sem, fN, seval, eT, iR]); (repeat refine Ai ?_); (try (refine hK _ ?_; clear hK K)))) | refine Cg _ (OC t) ?_)
  simp only [go_sem, fN, seval, AR, AS.result, AF, AG, AQ]
  unfold BT at h
  rw [hm, if_neg (by split at h <;> omega)]
theorem LK (t : Tm) (hz : t.size ≤ 1000000) : AW Try.prog 23 [aTm t] (NO t.knots) := by
 induction h : SizeOf.sizeOf t using Nat.strongRecOn generalizing t with
 | _ N ih =>
 subst h
 have hs := Tm.size_eq t
 refine KX.ac fun C hC => ?_
 unfold GR
 repeat' with_reducible first | refine W ?_ | refine Z0 ?_ | ((first | refine Wo fun K hK => ?_ | refine Wq ?_ | refine Wr ?_); (try simp only [go_sem, fN, seval, eT, iR]); (repeat refine Ai ?_); (try (refine hK _ ?_; clear hK K)))
 refine IWP.ghost (Ad.own 3 21 28 2 (xs := ([t].map BC)) (by simp only [go_sem, fN, seval, eT, iR]) rfl FS (by omega)) ?_
 have hlen := Tm.length_le t.args
 refine IWP.loopD [] (fun m s => ∃ k, k ≤ t.args.length ∧ m = t.args.length - k ∧ s.env 1 = .one (.ptr 1 1 0 0) ∧ s.S 1 = some (.box 28 [.st (.str t.name), .st (.list (t.args.map BC))]) ∧ s.env 3 = .one (.row 21 (t :: Tm.knotsL (t.args.take k)).length) ∧ s.S 21 = some (.arow 28 2 ((t :: Tm.knotsL (t.args.take k)).map BC)) ∧ s.env 4 = AY k)
  t.args.length ⟨0, Nat.zero_le _, rfl, rfl, rfl, rfl, rfl, rfl⟩ ?_
 rintro m ⟨env, S⟩ ⟨k, hk, rfl, e1, s1, e3, s21, e4⟩
 simp only at e1 s1 e3 s21 e4
 repeat' with_reducible first | refine W ?_ | refine Z0 ?_ | ((first | refine Wo fun K hK => ?_ | refine Wq ?_ | refine Wr ?_); (try simp only [go_sem, fN, seval, eT, iR, e1, s1, e3, s21, e4]); (repeat refine Ai ?_); (try (refine hK _ ?_; clear hK K)))
 with_reducible refine Wp ?_
 simp only [go_sem, fN, seval, true_implies, false_implies, implies_true, dT, dF, nL]
 (try with_reducible refine iC ?_)
 refine ⟨fun hlt => ?_, fun hge => ?_⟩
 ·obtain ⟨a, ha⟩ := Ah (show k < t.args.length by omega)
  have z1 := Tm.sizes_take ha
  have z2 := Tm.sizes_take_le t.args (k + 1)
  have z3 := Tm.knots_length a
  have z4 := Tm.knotsL_length (t.args.take k)
  repeat' (first | (with_reducible first | refine W ?_ | refine Z0 ?_ | ((first | refine Wo fun K hK => ?_ | refine Wq ?_ | refine Wr ?_); (try simp only [go_sem, fN, seval, eT, iR, e1, s1, e3, s21, e4, ha]); (repeat refine Ai ?_); (try (refine hK _ ?_; clear hK K)))) | refine Cg _ (ih _ (Tm.lt_of_arg (AN ha)) a (by omega) rfl) ?_)
  refine AB ⟨t.args.length - (k + 1), by omega, k + 1, by omega, rfl, ?_⟩
  simp only [go_sem, fN, seval, AS.drop, Ag, AC.clears, AC.clear, AC.highs, AC.high, Bool.not_false, Bool.true_and, Bool.and_self, AV.purge, AV.purges, AC.purge, AJ.purge, List.contains_cons, List.contains_nil, Nat.reduceBEq, Bool.or_self, Bool.or_false, Bool.false_or, Bool.or_true, eT, iR, e1, s1, e3, s21, e4]
  rw [Tm.knotsL_take ha]
  exact ⟨by simp <;> omega, by simp [CG], rfl⟩
 ·repeat' with_reducible first | refine W ?_ | refine Z0 ?_ | ((first | refine Wo fun K hK => ?_ | refine Wq ?_ | refine Wr ?_); (try simp only [go_sem, fN, seval, eT, iR, e1, s1, e3, s21, e4]); (repeat refine Ai ?_); (try (refine hK _ ?_; clear hK K)))
  simp only [go_sem, fN, seval, AR, AS.result, AF, AG, AQ, e3, s21]
  rw [List.take_of_length_le (by omega), Tm.knots_eq]
  rfl
theorem Lj (t : Tm) : AW Try.prog 8 [aTm t] (AY t.may) := by
 have hm : t.may = if 200 < t.size then 3 else t.chk := rfl
 refine IH.ac fun C hC => ?_
 unfold Ep
 repeat' with_reducible first | refine W ?_ | refine Z0 ?_ | ((first | refine Wo fun K hK => ?_ | refine Wq ?_ | refine Wr ?_); (try simp only [go_sem, fN, seval, eT, iR]); (repeat refine Ai ?_); (try (refine hK _ ?_; clear hK K)))
 refine ⟨_, Ey t 200 (by omega) (by omega), ?_⟩
 by_cases h : (200 : Int) < A7 t.size 200
 ·repeat' with_reducible first | refine W ?_ | refine Z0 ?_ | ((first | refine Wo fun K hK => ?_ | refine Wq ?_ | refine Wr ?_); (try simp only [go_sem, fN, seval, eT, iR, h]); (repeat refine Ai ?_); (try (refine hK _ ?_; clear hK K)))
  with_reducible refine Wp ?_
  simp only [go_sem, fN, seval, true_implies, false_implies, implies_true, dT, dF, nL, h]
  (try with_reducible refine iC ?_)
  repeat' with_reducible first | refine W ?_ | refine Z0 ?_ | ((first | refine Wo fun K hK => ?_ | refine Wq ?_ | refine Wr ?_); (try simp only [go_sem, fN, seval, eT, iR]); (repeat refine Ai ?_); (try (refine hK _ ?_; clear hK K)))
  simp only [go_sem, fN, seval, AR, AS.result, AF, AG, AQ]
  unfold A7 at h
  rw [hm, if_pos (by split at h <;> omega)]
 have hz := (JL h).2
 rw [if_neg (by omega)] at hm
 repeat' with_reducible first | refine W ?_ | refine Z0 ?_ | ((first | refine Wo fun K hK => ?_ | refine Wq ?_ | refine Wr ?_); (try simp only [go_sem, fN, seval, eT, iR, h]); (repeat refine Ai ?_); (try (refine hK _ ?_; clear hK K)))
 with_reducible refine Wp ?_
 simp only [go_sem, fN, seval, true_implies, false_implies, implies_true, dT, dF, nL, h]
 (try with_reducible refine iC ?_)
 repeat' (first | (with_reducible first | refine W ?_ | refine Z0 ?_ | ((first | refine Wo fun K hK => ?_ | refine Wq ?_ | refine Wr ?_); (try simp only [go_sem, fN, seval, eT, iR]); (repeat refine Ai ?_); (try (refine hK _ ?_; clear hK K)))) | refine Cg _ (LK t (by omega)) ?_)
 have hl := Tm.knots_length t
 have hc := Tm.firstErr_knots t
 refine IWP.loop (fun n s => ∃ k, k ≤ t.knots.length ∧ n = t.knots.length - k ∧ A8 (t.knots.take k) = 0 ∧ s.env 3 = NO t.knots ∧ s.env 4 = AY k) t.knots.length ⟨0, Nat.zero_le _, rfl, rfl, rfl, rfl⟩ ?_
 rintro n ⟨env, S⟩ ⟨k, hk, rfl, h0, e3, e4⟩
 simp only at e3 e4
 repeat' with_reducible first | refine W ?_ | refine Z0 ?_ | ((first | refine Wo fun K hK => ?_ | refine Wq ?_ | refine Wr ?_); (try simp only [go_sem, fN, seval, eT, iR, e3, e4]); (repeat refine Ai ?_); (try (refine hK _ ?_; clear hK K)))
 with_reducible refine Wp ?_
 simp only [go_sem, fN, seval, true_implies, false_implies, implies_true, dT, dF, nL]
 (try with_reducible refine iC ?_)
 refine ⟨fun hlt => ?_, fun hge => ?_⟩
 ·obtain ⟨a, ha⟩ := Ah (show k < t.knots.length by omega)
  obtain ⟨g1, g2⟩ := II ha h0
  have hc1 : Bb a = if Ak a.name = true then (if A6 a.name = true ∧ 0 < a.args.length then 2 else 0) else 1 := rfl
  repeat' with_reducible first | refine W ?_ | refine Z0 ?_ | ((first | refine Wo fun K hK => ?_ | refine Wq ?_ | refine Wr ?_); (try simp only [go_sem, fN, seval, eT, iR, e3, e4, ha]); (repeat refine Ai ?_); (try (refine hK _ ?_; clear hK K)))
  refine ⟨_, Dc _, ?_⟩
  cases hn : Ak a.name with
  | false =>
   rw [hn, if_neg (by simp)] at hc1
   repeat' with_reducible first | refine W ?_ | refine Z0 ?_ | ((first | refine Wo fun K hK => ?_ | refine Wq ?_ | refine Wr ?_); (try simp only [go_sem, fN, seval, eT, iR]); (repeat refine Ai ?_); (try (refine hK _ ?_; clear hK K)))
   with_reducible refine Wp ?_
   simp only [go_sem, fN, seval, true_implies, false_implies, implies_true, dT, dF, nL]
   (try with_reducible refine iC ?_)
   repeat' with_reducible first | refine W ?_ | refine Z0 ?_ | ((first | refine Wo fun K hK => ?_ | refine Wq ?_ | refine Wr ?_); (try simp only [go_sem, fN, seval, eT, iR]); (repeat refine Ai ?_); (try (refine hK _ ?_; clear hK K)))
   simp only [go_sem, fN, seval, AR, AS.result, AF, AG, AQ]
   rw [hm, ← hc, g2 (by omega), hc1]
  | true =>
   rw [hn, if_pos rfl] at hc1
   repeat' with_reducible first | refine W ?_ | refine Z0 ?_ | ((first | refine Wo fun K hK => ?_ | refine Wq ?_ | refine Wr ?_); (try simp only [go_sem, fN, seval, eT, iR]); (repeat refine Ai ?_); (try (refine hK _ ?_; clear hK K)))
   with_reducible refine Wp ?_
   simp only [go_sem, fN, seval, true_implies, false_implies, implies_true, dT, dF, nL]
   (try with_reducible refine iC ?_)
   repeat' with_reducible first | refine W ?_ | refine Z0 ?_ | ((first | refine Wo fun K hK => ?_ | refine Wq ?_ | refine Wr ?_); (try simp only [go_sem, fN, seval, eT, iR, e3, e4, ha]); (repeat refine Ai ?_); (try (refine hK _ ?_; clear hK K)))
   refine ⟨_, Em _, ?_⟩
   by_cases hv : A6 a.name = true ∧ 0 < a.args.length
   ·obtain ⟨hv1, hv2⟩ := hv
    have hv2' : (0 : Int) < a.args.length := by omega
    rw [if_pos ⟨hv1, hv2⟩] at hc1
    rw [hv1]
    repeat' with_reducible first | refine W ?_ | refine Z0 ?_ | ((first | refine Wo fun K hK => ?_ | refine Wq ?_ | refine Wr ?_); (try simp only [go_sem, fN, seval, eT, iR, e3, e4, ha, hv2']); (repeat refine Ai ?_); (try (refine hK _ ?_; clear hK K)))
    with_reducible refine Wp ?_
    simp only [go_sem, fN, seval, true_implies, false_implies, implies_true, dT, dF, nL, hv2']
    (try with_reducible refine iC ?_)
    repeat' with_reducible first | refine W ?_ | refine Z0 ?_ | ((first | refine Wo fun K hK => ?_ | refine Wq ?_ | refine Wr ?_); (try simp only [go_sem, fN, seval, eT, iR]); (repeat refine Ai ?_); (try (refine hK _ ?_; clear hK K)))
    simp only [go_sem, fN, seval, AR, AS.result, AF, AG, AQ]
    rw [hm, ← hc, g2 (by omega), hc1]
   ·rw [if_neg hv] at hc1
    have hv2 : A6 a.name = true → ¬ (0 : Int) < a.args.length := fun h h' => hv ⟨h, by omega⟩
    cases hvv : A6 a.name
    all_goals
     simp only [hvv, true_implies, false_implies, Bool.false_eq_true] at hv2
     repeat' with_reducible first | refine W ?_ | refine Z0 ?_ | ((first | refine Wo fun K hK => ?_ | refine Wq ?_ | refine Wr ?_); (try simp only [go_sem, fN, seval, eT, iR, e3, e4, ha, hv2]); (repeat refine Ai ?_); (try (refine hK _ ?_; clear hK K)))
     with_reducible refine Wp ?_
     simp only [go_sem, fN, seval, true_implies, false_implies, implies_true, dT, dF, nL, hv2]
     (try with_reducible refine iC ?_)
     repeat' with_reducible first | refine W ?_ | refine Z0 ?_ | ((first | refine Wo fun K hK => ?_ | refine Wq ?_ | refine Wr ?_); (try simp only [go_sem, fN, seval, eT, iR, e3, e4]); (repeat refine Ai ?_); (try (refine hK _ ?_; clear hK K)))
     refine AB ⟨t.knots.length - (k + 1), by omega, k + 1, by omega, rfl, g1 hc1, ?_⟩
     simp only [go_sem, fN, seval, eT, iR, e3, e4]
     congr 3
 ·repeat' with_reducible first | refine W ?_ | refine Z0 ?_ | ((first | refine Wo fun K hK => ?_ | refine Wq ?_ | refine Wr ?_); (try simp only [go_sem, fN, seval, eT, iR]); (repeat refine Ai ?_); (try (refine hK _ ?_; clear hK K)))
  simp only [go_sem, fN, seval, AR, AS.result, AF, AG, AQ]
  rw [List.take_of_length_le (by omega)] at h0
  rw [hm, ← hc, h0]
theorem Dq (t : Tm) : AW Try.prog 6 [aTm t] (Al (decide (3000 < t.size))) := by
 have hc : ((3000 : Int) < A7 t.size 3000) = (3000 < t.size) := by
  unfold A7
  by_cases h : (3000 : Int) < t.size
  ·rw [if_pos h]; simp; omega
  ·rw [if_neg h]; simp; omega
 refine LW.ac fun C hC => ?_
 unfold H7
 repeat' (first | (with_reducible first | refine W ?_ | refine Z0 ?_ | ((first | refine Wo fun K hK => ?_ | refine Wq ?_ | refine Wr ?_); (try simp only [go_sem, fN, seval, eT, iR]); (repeat refine Ai ?_); (try (refine hK _ ?_; clear hK K)))) | refine Cg _ (Ey t 3000 (by omega) (by omega)) ?_)
 simp only [go_sem, fN, seval, AR, AS.result, AF, AG, AQ, hc]
theorem O8 (x : ByteArray) (l : List ByteArray) : AW Try.prog 24 [Cj x, Fx l] (Al (EA x l)) := by
 refine OG.ac fun C hC => ?_
 unfold K9
 refine IWP.learn 1 (by omega) fun hkn => ?_
 have hkn := Fc hkn
 rw [List.length_map] at hkn
 repeat' with_reducible first | refine W ?_ | refine Z0 ?_ | ((first | refine Wo fun K hK => ?_ | refine Wq ?_ | refine Wr ?_); (try simp only [go_sem, fN, seval, eT, iR]); (repeat refine Ai ?_); (try (refine hK _ ?_; clear hK K)))
 refine IWP.loop (fun n s => ∃ k, k ≤ l.length ∧ n = l.length - k ∧ EA x (l.take k) = false ∧ s.env 0 = Cj x ∧ s.env 1 = Fx l ∧ s.env 5 = AY k) l.length ⟨0, Nat.zero_le _, rfl, rfl, rfl, rfl, rfl⟩ ?_
 rintro n ⟨env, S⟩ ⟨k, hk, rfl, h0, e0, e1, e5⟩
 simp only at e0 e1 e5
 repeat' with_reducible first | refine W ?_ | refine Z0 ?_ | ((first | refine Wo fun K hK => ?_ | refine Wq ?_ | refine Wr ?_); (try simp only [go_sem, fN, seval, eT, iR, e0, e1, e5]); (repeat refine Ai ?_); (try (refine hK _ ?_; clear hK K)))
 with_reducible refine Wp ?_
 simp only [go_sem, fN, seval, true_implies, false_implies, implies_true, dT, dF, nL]
 (try with_reducible refine iC ?_)
 refine ⟨fun hlt => ?_, fun hge => ?_⟩
 ·obtain ⟨a, ha⟩ := Ah (show k < l.length by omega)
  repeat' with_reducible first | refine W ?_ | refine Z0 ?_ | ((first | refine Wo fun K hK => ?_ | refine Wq ?_ | refine Wr ?_); (try simp only [go_sem, fN, seval, eT, iR, e0, e1, e5, ha]); (repeat refine Ai ?_); (try (refine hK _ ?_; clear hK K)))
  with_reducible refine Wp ?_
  simp only [go_sem, fN, seval, true_implies, false_implies, implies_true, dT, dF, nL]
  (try with_reducible refine iC ?_)
  refine ⟨fun hb => ?_, fun hb => ?_⟩
  ·repeat' with_reducible first | refine W ?_ | refine Z0 ?_ | ((first | refine Wo fun K hK => ?_ | refine Wq ?_ | refine Wr ?_); (try simp only [go_sem, fN, seval, eT, iR]); (repeat refine Ai ?_); (try (refine hK _ ?_; clear hK K)))
   simp only [go_sem, fN, seval, AR, AS.result, AF, AG, AQ]
   rw [GK.2 (by rw [← hb]; exact AN ha)]
  ·repeat' with_reducible first | refine W ?_ | refine Z0 ?_ | ((first | refine Wo fun K hK => ?_ | refine Wq ?_ | refine Wr ?_); (try simp only [go_sem, fN, seval, eT, iR, e0, e1, e5]); (repeat refine Ai ?_); (try (refine hK _ ?_; clear hK K)))
   refine AB ⟨l.length - (k + 1), by omega, k + 1, by omega, rfl, ?_, ?_⟩
   ·rw [Af ha, IE]
    rw [IE] at h0
    simp only [List.mem_append, List.mem_singleton, not_or]
    exact ⟨h0, fun e => hb e.symm⟩
   ·simp only [go_sem, fN, seval, eT, iR, e0, e1, e5]
    congr 3
 ·repeat' with_reducible first | refine W ?_ | refine Z0 ?_ | ((first | refine Wo fun K hK => ?_ | refine Wq ?_ | refine Wr ?_); (try simp only [go_sem, fN, seval, eT, iR]); (repeat refine Ai ?_); (try (refine hK _ ?_; clear hK K)))
  simp only [go_sem, fN, seval, AR, AS.result, AF, AG, AQ]
  rw [List.take_of_length_le (by omega)] at h0
  rw [h0]
theorem ON (l : List ByteArray) (x : ByteArray) : ∃ i : Int, AW Try.prog 56 [Fx l, Cj x] (AY i) ∧ (0 ≤ i ↔ EA x l = true) := by
 by_cases hin : EA x l = true
 ·obtain ⟨k0, hk0, hmin⟩ : ∃ k, l[k]? = some x ∧ ∀ j, j < k → l[j]? ≠ some x := by
   have hx := GK.1 hin
   have ⟨k, hk⟩ := List.getElem?_of_mem hx
   induction k using Nat.strongRecOn with
   | _ k ih =>
    by_cases h : ∃ j, j < k ∧ l[j]? = some x
    ·obtain ⟨j, hj, hjx⟩ := h
     exact ih j hj hjx
    ·exact ⟨k, hk, fun j hj hjx => h ⟨j, hj, hjx⟩⟩
  have hlt0 := D7 hk0
  refine ⟨k0, ?_, by simp [hin]⟩
  refine BM.ac fun C hC => ?_
  unfold A2
  refine IWP.learn 0 (by omega) fun hkn => ?_
  have hkn := Fc hkn
  rw [List.length_map] at hkn
  repeat' with_reducible first | refine W ?_ | refine Z0 ?_ | ((first | refine Wo fun K hK => ?_ | refine Wq ?_ | refine Wr ?_); (try simp only [go_sem, fN, seval, eT, iR]); (repeat refine Ai ?_); (try (refine hK _ ?_; clear hK K)))
  refine IWP.loop (fun n s => ∃ k, k ≤ k0 ∧ n = k0 - k ∧ s.env 0 = Fx l ∧ s.env 1 = Cj x ∧ s.env 7 = AY l.length ∧ s.env 8 = AY k) k0 ⟨0, Nat.zero_le _, rfl, rfl, rfl, rfl, rfl⟩ ?_
  rintro n ⟨env, S⟩ ⟨k, hk, rfl, e0, e1, e7, e8⟩
  simp only at e0 e1 e7 e8
  have hlt : (k : Int) < l.length := by omega
  repeat' with_reducible first | refine W ?_ | refine Z0 ?_ | ((first | refine Wo fun K hK => ?_ | refine Wq ?_ | refine Wr ?_); (try simp only [go_sem, fN, seval, eT, iR, e0, e1, e7, e8, hlt]); (repeat refine Ai ?_); (try (refine hK _ ?_; clear hK K)))
  with_reducible refine Wp ?_
  simp only [go_sem, fN, seval, true_implies, false_implies, implies_true, dT, dF, nL, e0, e1, e7, e8, hlt]
  (try with_reducible refine iC ?_)
  obtain ⟨a, ha⟩ := Ah (show k < l.length by omega)
  repeat' with_reducible first | refine W ?_ | refine Z0 ?_ | ((first | refine Wo fun K hK => ?_ | refine Wq ?_ | refine Wr ?_); (try simp only [go_sem, fN, seval, eT, iR, e0, e1, e7, e8, ha]); (repeat refine Ai ?_); (try (refine hK _ ?_; clear hK K)))
  by_cases he : k = k0
  ·subst he
   rw [hk0] at ha
   cases ha
   with_reducible refine Wp ?_
   simp only [go_sem, fN, seval, true_implies, false_implies, implies_true, dT, dF, nL]
   (try with_reducible refine iC ?_)
   repeat' with_reducible first | refine W ?_ | refine Z0 ?_ | ((first | refine Wo fun K hK => ?_ | refine Wq ?_ | refine Wr ?_); (try simp only [go_sem, fN, seval, eT, iR, e0, e1, e7, e8]); (repeat refine Ai ?_); (try (refine hK _ ?_; clear hK K)))
   simp only [go_sem, fN, seval, AR, AS.result, AF, AG, AQ]
  ·have hne : ¬ x = a := fun e => hmin k (by omega) (by rw [ha, e])
   with_reducible refine Wp ?_
   simp only [go_sem, fN, seval, true_implies, false_implies, implies_true, dT, dF, nL, hne]
   (try with_reducible refine iC ?_)
   repeat' with_reducible first | refine W ?_ | refine Z0 ?_ | ((first | refine Wo fun K hK => ?_ | refine Wq ?_ | refine Wr ?_); (try simp only [go_sem, fN, seval, eT, iR, e0, e1, e7, e8]); (repeat refine Ai ?_); (try (refine hK _ ?_; clear hK K)))
   refine AB ⟨k0 - (k + 1), by omega, k + 1, by omega, rfl, ?_⟩
   simp only [go_sem, fN, seval, eT, iR, e0, e1, e7, e8]
   congr 3
 ·rw [Bool.not_eq_true] at hin
  refine ⟨-1, ?_, by simp [hin]⟩
  refine BM.ac fun C hC => ?_
  unfold A2
  refine IWP.learn 0 (by omega) fun hkn => ?_
  have hkn := Fc hkn
  rw [List.length_map] at hkn
  repeat' with_reducible first | refine W ?_ | refine Z0 ?_ | ((first | refine Wo fun K hK => ?_ | refine Wq ?_ | refine Wr ?_); (try simp only [go_sem, fN, seval, eT, iR]); (repeat refine Ai ?_); (try (refine hK _ ?_; clear hK K)))
  refine IWP.loop (fun n s => ∃ k, k ≤ l.length ∧ n = l.length - k ∧ s.env 0 = Fx l ∧ s.env 1 = Cj x ∧ s.env 7 = AY l.length ∧ s.env 8 = AY k) l.length ⟨0, Nat.zero_le _, rfl, rfl, rfl, rfl, rfl⟩ ?_
  rintro n ⟨env, S⟩ ⟨k, hk, rfl, e0, e1, e7, e8⟩
  simp only at e0 e1 e7 e8
  by_cases hlt : (k : Int) < l.length
  ·repeat' with_reducible first | refine W ?_ | refine Z0 ?_ | ((first | refine Wo fun K hK => ?_ | refine Wq ?_ | refine Wr ?_); (try simp only [go_sem, fN, seval, eT, iR, e0, e1, e7, e8, hlt]); (repeat refine Ai ?_); (try (refine hK _ ?_; clear hK K)))
   with_reducible refine Wp ?_
   simp only [go_sem, fN, seval, true_implies, false_implies, implies_true, dT, dF, nL, e0, e1, e7, e8, hlt]
   (try with_reducible refine iC ?_)
   obtain ⟨a, ha⟩ := Ah (show k < l.length by omega)
   have hne : ¬ x = a := fun e => by
    rw [IE] at hin
    exact hin (by rw [e]; exact AN ha)
   repeat' with_reducible first | refine W ?_ | refine Z0 ?_ | ((first | refine Wo fun K hK => ?_ | refine Wq ?_ | refine Wr ?_); (try simp only [go_sem, fN, seval, eT, iR, e0, e1, e7, e8, ha]); (repeat refine Ai ?_); (try (refine hK _ ?_; clear hK K)))
   with_reducible refine Wp ?_
   simp only [go_sem, fN, seval, true_implies, false_implies, implies_true, dT, dF, nL, hne]
   (try with_reducible refine iC ?_)
   repeat' with_reducible first | refine W ?_ | refine Z0 ?_ | ((first | refine Wo fun K hK => ?_ | refine Wq ?_ | refine Wr ?_); (try simp only [go_sem, fN, seval, eT, iR, e0, e1, e7, e8]); (repeat refine Ai ?_); (try (refine hK _ ?_; clear hK K)))
   refine AB ⟨l.length - (k + 1), by omega, k + 1, by omega, rfl, ?_⟩
   simp only [go_sem, fN, seval, eT, iR, e0, e1, e7, e8]
   congr 3
  ·repeat' with_reducible first | refine W ?_ | refine Z0 ?_ | ((first | refine Wo fun K hK => ?_ | refine Wq ?_ | refine Wr ?_); (try simp only [go_sem, fN, seval, eT, iR, e0, e1, e7, e8, hlt]); (repeat refine Ai ?_); (try (refine hK _ ?_; clear hK K)))
   with_reducible refine Wp ?_
   simp only [go_sem, fN, seval, true_implies, false_implies, implies_true, dT, dF, nL, e0, e1, e7, e8, hlt]
   (try with_reducible refine iC ?_)
   repeat' with_reducible first | refine W ?_ | refine Z0 ?_ | ((first | refine Wo fun K hK => ?_ | refine Wq ?_ | refine Wr ?_); (try simp only [go_sem, fN, seval, eT, iR]); (repeat refine Ai ?_); (try (refine hK _ ?_; clear hK K)))
   simp only [go_sem, fN, seval, AR, AS.result, AF, AG, AQ]
theorem Gf (l : List ByteArray) (x : ByteArray) : AW Try.prog 51 [Fx l, Cj x] (Al (EA x l)) := by
 obtain ⟨i, h1, h2⟩ := ON l x
 refine B3.ac fun C hC => ?_
 unfold BF
 repeat' (first | (with_reducible first | refine W ?_ | refine Z0 ?_ | ((first | refine Wo fun K hK => ?_ | refine Wq ?_ | refine Wr ?_); (try simp only [go_sem, fN, seval, eT, iR]); (repeat refine Ai ?_); (try (refine hK _ ?_; clear hK K)))) | refine Cg _ (h1) ?_)
 simp only [go_sem, fN, seval, AR, AS.result, AF, AG, AQ]
 congr 4
 cases hi : EA x l with
 | true => exact decide_eq_true (h2.2 hi)
 | false =>
  refine decide_eq_false fun h => ?_
  rw [h2.1 h] at hi
  cases hi
mutual
def Tm.beq : Tm → Tm → Bool
 | .mk n xs, .mk m ys => decide (n = m) && Tm.beqL xs ys
def Tm.beqL : List Tm → List Tm → Bool
 | [], [] => true
 | x :: xs, y :: ys => x.beq y && Tm.beqL xs ys
 | _, _ => false
end
mutual
theorem Tm.beq_iff : ∀ a b : Tm, a.beq b = true ↔ a = b
 | .mk n xs, .mk m ys => by
  rw [Tm.beq, Bool.and_eq_true, Tm.beqL_iff xs ys, decide_eq_true_eq, Tm.mk.injEq]
theorem Tm.beqL_iff : ∀ xs ys : List Tm, Tm.beqL xs ys = true ↔ xs = ys
 | [], [] => by simp [Tm.beqL]
 | x :: xs, y :: ys => by rw [Tm.beqL, Bool.and_eq_true, Tm.beq_iff x y, Tm.beqL_iff xs ys, List.cons.injEq]
 | [], y :: ys => by simp [Tm.beqL]
 | x :: xs, [] => by simp [Tm.beqL]
end
theorem Tm.beq_refl (a : Tm) : a.beq a = true := (Tm.beq_iff a a).2 rfl
theorem Tm.eq_of {a b : Tm} (h1 : a.name = b.name) (h2 : a.args = b.args) : a = b := by
 cases a; cases b
 simp only [Tm.name_mk, Tm.args_mk] at h1 h2
 rw [h1, h2]
theorem Nz (a b : Tm) : AW Try.prog 36 [aTm a, aTm b] (Al (a.beq b)) := by
 induction h : SizeOf.sizeOf a using Nat.strongRecOn generalizing a b with
 | _ N ih =>
 subst h
 have hno : a ≠ b → a.beq b = false := fun h => by
  rw [← Bool.not_eq_true, Tm.beq_iff]
  exact h
 refine Lh.ac fun C hC => ?_
 unfold H9
 refine IWP.learn 0 (by omega) fun hkn => ?_
 have hkn := Ei hkn
 by_cases hn : a.name = b.name
 ·by_cases hl : a.args.length = b.args.length
  ·have hl' : (a.args.length : Int) = b.args.length := by omega
   repeat' with_reducible first | refine W ?_ | refine Z0 ?_ | ((first | refine Wo fun K hK => ?_ | refine Wq ?_ | refine Wr ?_); (try simp only [go_sem, fN, seval, eT, iR, hn, hl']); (repeat refine Ai ?_); (try (refine hK _ ?_; clear hK K)))
   with_reducible refine Wp ?_
   simp only [go_sem, fN, seval, true_implies, false_implies, implies_true, dT, dF, nL, hn, hl']
   (try with_reducible refine iC ?_)
   repeat' with_reducible first | refine W ?_ | refine Z0 ?_ | ((first | refine Wo fun K hK => ?_ | refine Wq ?_ | refine Wr ?_); (try simp only [go_sem, fN, seval, eT, iR]); (repeat refine Ai ?_); (try (refine hK _ ?_; clear hK K)))
   refine IWP.loop (fun n s => ∃ k, k ≤ a.args.length ∧ n = a.args.length - k ∧ a.args.take k = b.args.take k ∧ s.env 2 = .one (.ptr 2 1 0 0) ∧ s.env 3 = .one (.ptr 3 1 0 0) ∧ s.S 2 = some (.box 28 [.st (.str b.name), .st (.list (a.args.map BC))]) ∧ s.S 3 = some (.box 28 [.st (.str b.name), .st (.list (b.args.map BC))]) ∧ s.env 5 = AY k) a.args.length ⟨0, Nat.zero_le _, rfl, rfl, rfl, rfl, rfl, rfl, rfl⟩ ?_
   rintro n ⟨env, S⟩ ⟨k, hk, rfl, h0, e2, e3, s2, s3, e5⟩
   simp only at e2 e3 s2 s3 e5
   repeat' with_reducible first | refine W ?_ | refine Z0 ?_ | ((first | refine Wo fun K hK => ?_ | refine Wq ?_ | refine Wr ?_); (try simp only [go_sem, fN, seval, eT, iR, e2, e3, s2, s3, e5]); (repeat refine Ai ?_); (try (refine hK _ ?_; clear hK K)))
   with_reducible refine Wp ?_
   simp only [go_sem, fN, seval, true_implies, false_implies, implies_true, dT, dF, nL]
   (try with_reducible refine iC ?_)
   refine ⟨fun hlt => ?_, fun hge => ?_⟩
   ·obtain ⟨x, hx⟩ := Ah (show k < a.args.length by omega)
    obtain ⟨y, hy⟩ := Ah (show k < b.args.length by omega)
    repeat' (first | (with_reducible first | refine W ?_ | refine Z0 ?_ | ((first | refine Wo fun K hK => ?_ | refine Wq ?_ | refine Wr ?_); (try simp only [go_sem, fN, seval, eT, iR, e2, e3, s2, s3, e5, hx, hy]); (repeat refine Ai ?_); (try (refine hK _ ?_; clear hK K)))) | refine Cg _ (ih _ (Tm.lt_of_arg (AN hx)) x y rfl) ?_)
    cases hxy : x.beq y with
    | false =>
     with_reducible refine Wp ?_
     simp only [go_sem, fN, seval, true_implies, false_implies, implies_true, dT, dF, nL]
     (try with_reducible refine iC ?_)
     repeat' with_reducible first | refine W ?_ | refine Z0 ?_ | ((first | refine Wo fun K hK => ?_ | refine Wq ?_ | refine Wr ?_); (try simp only [go_sem, fN, seval, eT, iR]); (repeat refine Ai ?_); (try (refine hK _ ?_; clear hK K)))
     simp only [go_sem, fN, seval, AR, AS.result, AF, AG, AQ]
     rw [hno fun e => by
      subst e
      rw [hx] at hy
      cases hy
      rw [Tm.beq_refl] at hxy
      cases hxy]
    | true =>
     have hxy := (Tm.beq_iff x y).1 hxy
     with_reducible refine Wp ?_
     simp only [go_sem, fN, seval, true_implies, false_implies, implies_true, dT, dF, nL]
     (try with_reducible refine iC ?_)
     repeat' with_reducible first | refine W ?_ | refine Z0 ?_ | ((first | refine Wo fun K hK => ?_ | refine Wq ?_ | refine Wr ?_); (try simp only [go_sem, fN, seval, eT, iR, e2, e3, s2, s3, e5]); (repeat refine Ai ?_); (try (refine hK _ ?_; clear hK K)))
     refine AB ⟨a.args.length - (k + 1), by omega, k + 1, by omega, rfl, ?_, ?_⟩
     ·rw [Af hx, Af hy, h0, hxy]
     ·simp only [go_sem, fN, seval, eT, iR, e2, e3, s2, s3, e5]
      congr 3
   ·repeat' with_reducible first | refine W ?_ | refine Z0 ?_ | ((first | refine Wo fun K hK => ?_ | refine Wq ?_ | refine Wr ?_); (try simp only [go_sem, fN, seval, eT, iR]); (repeat refine Ai ?_); (try (refine hK _ ?_; clear hK K)))
    simp only [go_sem, fN, seval, AR, AS.result, AF, AG, AQ]
    rw [List.take_of_length_le (by omega), List.take_of_length_le (by omega)] at h0
    rw [Tm.eq_of hn h0, Tm.beq_refl]
  ·have hl' : ¬ (a.args.length : Int) = b.args.length := by omega
   repeat' with_reducible first | refine W ?_ | refine Z0 ?_ | ((first | refine Wo fun K hK => ?_ | refine Wq ?_ | refine Wr ?_); (try simp only [go_sem, fN, seval, eT, iR, hn, hl']); (repeat refine Ai ?_); (try (refine hK _ ?_; clear hK K)))
   with_reducible refine Wp ?_
   simp only [go_sem, fN, seval, true_implies, false_implies, implies_true, dT, dF, nL, hn, hl']
   (try with_reducible refine iC ?_)
   repeat' with_reducible first | refine W ?_ | refine Z0 ?_ | ((first | refine Wo fun K hK => ?_ | refine Wq ?_ | refine Wr ?_); (try simp only [go_sem, fN, seval, eT, iR]); (repeat refine Ai ?_); (try (refine hK _ ?_; clear hK K)))
   simp only [go_sem, fN, seval, AR, AS.result, AF, AG, AQ]
   rw [hno fun e => hl (by rw [e])]
 ·repeat' with_reducible first | refine W ?_ | refine Z0 ?_ | ((first | refine Wo fun K hK => ?_ | refine Wq ?_ | refine Wr ?_); (try simp only [go_sem, fN, seval, eT, iR, hn]); (repeat refine Ai ?_); (try (refine hK _ ?_; clear hK K)))
  with_reducible refine Wp ?_
  simp only [go_sem, fN, seval, true_implies, false_implies, implies_true, dT, dF, nL, hn]
  (try with_reducible refine iC ?_)
  repeat' with_reducible first | refine W ?_ | refine Z0 ?_ | ((first | refine Wo fun K hK => ?_ | refine Wq ?_ | refine Wr ?_); (try simp only [go_sem, fN, seval, eT, iR]); (repeat refine Ai ?_); (try (refine hK _ ?_; clear hK K)))
  simp only [go_sem, fN, seval, AR, AS.result, AF, AG, AQ]
  rw [hno fun e => hn (by rw [e])]
def Tm.nil : Tm := .mk ⟨#[]⟩ []
def Fo (a : Tm) (e : Int) (b : Tm) (f : Int) : Bool := if f = 0 then decide (e = 0) && a.beq b else decide (e = f) && a.beq Tm.nil
theorem Gd (a : Tm) (e f : Int) (h : f ≠ 0 → a = Tm.nil) (he : e = f) : Fo a e a f = true := by
 unfold Fo
 subst he
 by_cases h0 : e = 0
 ·simp [h0, Tm.beq_refl]
 ·rw [if_neg h0, h h0]
  simp [Tm.beq_refl]
theorem LI (a b : Tm) (e f : Int) : AW Try.prog 15 [aTm a, AY e, aTm b, AY f] (Al (Fo a e b f)) := by
 refine Km.ac fun C hC => ?_
 unfold GS
 by_cases hf : f = 0
 ·repeat' with_reducible first | refine W ?_ | refine Z0 ?_ | ((first | refine Wo fun K hK => ?_ | refine Wq ?_ | refine Wr ?_); (try simp only [go_sem, fN, seval, eT, iR, hf]); (repeat refine Ai ?_); (try (refine hK _ ?_; clear hK K)))
  with_reducible refine Wp ?_
  simp only [go_sem, fN, seval, true_implies, false_implies, implies_true, dT, dF, nL, hf]
  (try with_reducible refine iC ?_)
  by_cases he : e = 0
  ·repeat' (first | (with_reducible first | refine W ?_ | refine Z0 ?_ | ((first | refine Wo fun K hK => ?_ | refine Wq ?_ | refine Wr ?_); (try simp only [go_sem, fN, seval, eT, iR, he, hf]); (repeat refine Ai ?_); (try (refine hK _ ?_; clear hK K)))) | refine Cg _ (Nz a b) ?_)
   simp only [go_sem, fN, seval, AR, AS.result, AF, AG, AQ, Fo, hf, he]
   try simp
  ·repeat' with_reducible first | refine W ?_ | refine Z0 ?_ | ((first | refine Wo fun K hK => ?_ | refine Wq ?_ | refine Wr ?_); (try simp only [go_sem, fN, seval, eT, iR, he, hf]); (repeat refine Ai ?_); (try (refine hK _ ?_; clear hK K)))
   simp only [go_sem, fN, seval, AR, AS.result, AF, AG, AQ, Fo, hf, he]
   try simp
 ·repeat' with_reducible first | refine W ?_ | refine Z0 ?_ | ((first | refine Wo fun K hK => ?_ | refine Wq ?_ | refine Wr ?_); (try simp only [go_sem, fN, seval, eT, iR, hf]); (repeat refine Ai ?_); (try (refine hK _ ?_; clear hK K)))
  with_reducible refine Wp ?_
  simp only [go_sem, fN, seval, true_implies, false_implies, implies_true, dT, dF, nL, hf]
  (try with_reducible refine iC ?_)
  by_cases he : e = f
  ·have hf' : ¬ e = 0 := by omega
   by_cases hn : a.name = ⟨#[]⟩
   ·repeat' with_reducible first | refine W ?_ | refine Z0 ?_ | ((first | refine Wo fun K hK => ?_ | refine Wq ?_ | refine Wr ?_); (try simp only [go_sem, fN, seval, eT, iR, he, hf, hn]); (repeat refine Ai ?_); (try (refine hK _ ?_; clear hK K)))
    simp only [go_sem, fN, seval, AR, AS.result, AF, AG, AQ, Fo, hf, he, hn]
    congr 4
    simp only [Bool.true_and]
    rw [Bool.eq_iff_iff, Tm.beq_iff, decide_eq_true_eq]
    constructor
    ·intro h
     have : a.args = [] := List.eq_nil_of_length_eq_zero (by omega)
     exact Tm.eq_of hn this
    ·intro h
     rw [h]
     rfl
   ·repeat' with_reducible first | refine W ?_ | refine Z0 ?_ | ((first | refine Wo fun K hK => ?_ | refine Wq ?_ | refine Wr ?_); (try simp only [go_sem, fN, seval, eT, iR, he, hf, hn]); (repeat refine Ai ?_); (try (refine hK _ ?_; clear hK K)))
    simp only [go_sem, fN, seval, AR, AS.result, AF, AG, AQ, Fo, hf, he, hn]
    simp only [Bool.true_and]
    rw [show a.beq Tm.nil = false by
     rw [← Bool.not_eq_true, Tm.beq_iff]
     intro h
     exact hn (by rw [h]; rfl)]
  ·repeat' with_reducible first | refine W ?_ | refine Z0 ?_ | ((first | refine Wo fun K hK => ?_ | refine Wq ?_ | refine Wr ?_); (try simp only [go_sem, fN, seval, eT, iR, he, hf]); (repeat refine Ai ?_); (try (refine hK _ ?_; clear hK K)))
   simp only [go_sem, fN, seval, AR, AS.result, AF, AG, AQ, Fo, hf, he]
   try simp

set_option maxHeartbeats 1000000
def A0 (m : Mv) : List SV := [.str m.name, .list (m.frm.map CU), .int .i64 m.to_]
abbrev aAu (a : Au) : AV := .agg [.st (.int .i64 a.states), .st (.list (a.moves.map A0)), .st (.list (a.last.map CU))]
abbrev OF (b : Bool) : List SV := [.bool b]
abbrev LA (l : List Bool) : List SV := [.list (l.map OF)]
abbrev IM (l : List Bool) : AV := .one (.st (.list (l.map OF)))
abbrev OZ (l : List (List Bool)) : AV := .one (.st (.list (l.map LA)))
theorem Kj {ts : List (List Bool)} : ∀ x ∈ ts.map LA, x.length = 1 := by
 intro x hx
 obtain ⟨a, _, rfl⟩ := List.mem_map.1 hx
 rfl
theorem Eo {S : AA} {a : Au} (h : (aAu a).known S) : a.moves.length ≤ 9223372036854775807 ∧ a.last.length ≤ 9223372036854775807 ∧ ∀ m ∈ a.moves, m.frm.length ≤ 9223372036854775807 := by
 have h1 := h (.st (.list (a.moves.map A0))) (by simp)
 have h2 := h (.st (.list (a.last.map CU))) (by simp)
 simp only [AC.known, SV.known, List.length_map] at h1 h2
 rw [Ba] at h1 h2
 refine ⟨h1.1, h2.1, fun m hm => ?_⟩
 have h3 := EZ.1 (Dn.1 h1.2 (A0 m) (List.mem_map.2 ⟨m, hm, rfl⟩)) (.list (m.frm.map CU)) (by simp [A0])
 simp only [SV.known, List.length_map] at h3
 rw [Ba] at h3
 exact h3.1
theorem FJ {α : Type} {p : α → Bool} {xs : List α} {k : Nat} {a : α} (ha : xs[k]? = some a) (h : (xs.take k).all p = true) : (xs.take (k + 1)).all p = p a := by
 rw [Af ha, List.all_append, h]
 simp
theorem FN {α : Type} {p : α → Bool} {xs : List α} {k : Nat} {a : α} (ha : xs[k]? = some a) (h : (xs.take k).any p = false) : (xs.take (k + 1)).any p = p a := by
 rw [Af ha, List.any_append, h]
 simp
theorem LG {α : Type} {p : α → Bool} {xs : List α} {k : Nat} (h : (xs.take k).any p = true) : xs.any p = true := by
 rw [List.any_eq_true] at h ⊢
 obtain ⟨x, hx, h2⟩ := h
 exact ⟨x, List.mem_of_mem_take hx, h2⟩
theorem Nb {α : Type} {p : α → Bool} {xs : List α} {a : α} (ha : a ∈ xs) (h : p a = false) : xs.all p = false := by
 rw [List.all_eq_false]
 exact ⟨a, ha, by simp [h]⟩
def Au.huge (a : Au) : Bool := a.moves.any (fun m => decide (50 < m.frm.length)) || decide (100 < a.moves.length) || decide (100 < a.last.length)
theorem BN (a : Au) : AW Try.prog 5 [aAu a] (Al a.huge) := by
 refine HJ.ac fun C hC => ?_
 unfold EE
 refine IWP.learn 0 (by omega) fun hkn => ?_
 obtain ⟨kM, kL, kF⟩ := Eo hkn
 repeat' with_reducible first | refine W ?_ | refine Z0 ?_ | ((first | refine Wo fun K hK => ?_ | refine Wp ?_ | refine Wq ?_ | refine Wr ?_); (try simp only [go_sem, fN, seval, eT, iR, dT, dF, nL]); (repeat refine Ai ?_); (try (refine hK _ ?_; clear hK K)); try refine iC ?_)
 refine IWP.loop (fun n s => ∃ k, k ≤ a.moves.length ∧ n = a.moves.length - k ∧ s.env 1 = .one (.ptr 1 1 0 0) ∧ s.S 1 = some (.box 25 [.st (.int .i64 a.states), .st (.list (a.moves.map A0)), .st (.list (a.last.map CU))]) ∧ s.env 3 = AY k ∧ (a.moves.take k).any (fun m => decide (50 < m.frm.length)) = false) a.moves.length ⟨0, Nat.zero_le _, rfl, rfl, rfl, rfl, rfl⟩ ?_
 rintro n ⟨env, S⟩ ⟨k, hk, rfl, e1, s1, e3, hno⟩
 simp only at e1 s1 e3
 by_cases hlt : (k : Int) < a.moves.length
 ·obtain ⟨m, hm⟩ := Ah (show k < a.moves.length by omega)
  have hst := FN hm hno
  by_cases hb : (50 : Int) < m.frm.length
  ·have h2 : a.huge = true := by
    unfold Au.huge
    rw [LG (k := k + 1) (by rw [hst]; simpa using (show 50 < m.frm.length by omega))]
    rfl
   repeat' with_reducible first | refine W ?_ | refine Z0 ?_ | ((first | refine Wo fun K hK => ?_ | refine Wp ?_ | refine Wq ?_ | refine Wr ?_); (try simp only [go_sem, fN, seval, eT, iR, e1, s1, e3, hlt, hm, A0, hb, dT, dF, nL]); (repeat refine Ai ?_); (try (refine hK _ ?_; clear hK K)); try refine iC ?_)
   simp only [go_sem, fN, seval, AR, AS.result, AF, AG, AQ, h2]
  ·repeat' with_reducible first | refine W ?_ | refine Z0 ?_ | ((first | refine Wo fun K hK => ?_ | refine Wp ?_ | refine Wq ?_ | refine Wr ?_); (try simp only [go_sem, fN, seval, eT, iR, e1, s1, e3, hlt, hm, A0, hb, dT, dF, nL]); (repeat refine Ai ?_); (try (refine hK _ ?_; clear hK K)); try refine iC ?_)
   refine AB ⟨a.moves.length - (k + 1), by omega, k + 1, by omega, rfl, ?_⟩
   simp only [go_sem, fN, seval, eT, iR, e1, s1, e3]
   exact ⟨by congr 3, by rw [hst]; simpa using (show ¬ 50 < m.frm.length by omega)⟩
 ·have hno' : a.moves.any (fun m => decide (50 < m.frm.length)) = false := by
   rw [List.take_of_length_le (by omega)] at hno
   exact hno
  by_cases h1 : (100 : Int) < a.moves.length
  ·have h2 : a.huge = true := by
    unfold Au.huge
    simp [show 100 < a.moves.length by omega]
   repeat' with_reducible first | refine W ?_ | refine Z0 ?_ | ((first | refine Wo fun K hK => ?_ | refine Wp ?_ | refine Wq ?_ | refine Wr ?_); (try simp only [go_sem, fN, seval, eT, iR, e1, s1, e3, hlt, h1, dT, dF, nL]); (repeat refine Ai ?_); (try (refine hK _ ?_; clear hK K)); try refine iC ?_)
   simp only [go_sem, fN, seval, AR, AS.result, AF, AG, AQ, h2]
  ·by_cases h3 : (100 : Int) < a.last.length
   ·have h2 : a.huge = true := by
     unfold Au.huge
     simp [show 100 < a.last.length by omega]
    repeat' with_reducible first | refine W ?_ | refine Z0 ?_ | ((first | refine Wo fun K hK => ?_ | refine Wp ?_ | refine Wq ?_ | refine Wr ?_); (try simp only [go_sem, fN, seval, eT, iR, e1, s1, e3, hlt, h1, h3, dT, dF, nL]); (repeat refine Ai ?_); (try (refine hK _ ?_; clear hK K)); try refine iC ?_)
    simp only [go_sem, fN, seval, AR, AS.result, AF, AG, AQ, h2]
   ·have h2 : a.huge = false := by
     unfold Au.huge
     rw [hno']
     simp [show ¬ 100 < a.moves.length by omega, show ¬ 100 < a.last.length by omega]
    repeat' with_reducible first | refine W ?_ | refine Z0 ?_ | ((first | refine Wo fun K hK => ?_ | refine Wp ?_ | refine Wq ?_ | refine Wr ?_); (try simp only [go_sem, fN, seval, eT, iR, e1, s1, e3, hlt, h1, h3, dT, dF, nL]); (repeat refine Ai ?_); (try (refine hK _ ?_; clear hK K)); try refine iC ?_)
    simp only [go_sem, fN, seval, AR, AS.result, AF, AG, AQ, h2]
theorem JV {S : Int} {m : Mv} (h : ¬ Ak m.name = true) : m.err S = 1 := if_neg (fun h' => h h'.1)
theorem LQ {S : Int} {m : Mv} (h : A6 m.name = true) : m.err S = 1 := if_neg (fun h' => by rw [h] at h'; exact absurd h'.2 (by decide))
theorem Kw {S : Int} {m : Mv} (h1 : Ak m.name = true) (h2 : ¬ A6 m.name = true) (h : 4 < m.frm.length) : m.err S = 3 := by
 unfold Mv.err
 rw [if_pos ⟨h1, by simpa using h2⟩, if_pos h]
theorem Ir {S : Int} {m : Mv} (h1 : Ak m.name = true) (h2 : ¬ A6 m.name = true) (h3 : ¬ 4 < m.frm.length) {s : Int} (hs : s ∈ m.frm) (h : s < 0 ∨ S ≤ s) : m.err S = 10 := by
 unfold Mv.err
 rw [if_pos ⟨h1, by simpa using h2⟩, if_neg h3, if_neg]
 intro h'
 have := DL.1 (List.all_eq_true.1 h'.1 s hs)
 omega
theorem KS {S : Int} {m : Mv} (h1 : Ak m.name = true) (h2 : ¬ A6 m.name = true) (h3 : ¬ 4 < m.frm.length) (h : m.to_ < 0 ∨ S ≤ m.to_) : m.err S = 10 := by
 unfold Mv.err
 rw [if_pos ⟨h1, by simpa using h2⟩, if_neg h3, if_neg]
 intro h'
 have := DL.1 h'.2
 omega
theorem Ix {S : Int} {m : Mv} (h1 : Ak m.name = true) (h2 : ¬ A6 m.name = true) (h3 : ¬ 4 < m.frm.length) (h4 : m.frm.all (inS S) = true) (h5 : inS S m.to_ = true) : m.err S = 0 := by
 unfold Mv.err
 rw [if_pos ⟨h1, by simpa using h2⟩, if_neg h3, if_pos ⟨h4, h5⟩]
theorem BQ {a : Au} {S M : Int} {k : Nat} {m : Mv} (h0 : ¬ (a.states < 0 ∨ S < a.states ∨ M < a.moves.length)) (hm : a.moves[k]? = some m) (ht : A_ a.states (a.moves.take k) = 0) {e : Int} (he : m.err a.states = e) (hne : e ≠ 0) : a.may S M = e := by
 have h1 : ¬ A_ a.states (a.moves.take (k + 1)) = 0 := by
  rw [Cn hm ht, he]
  exact hne
 have h2 := Lo h1
 rw [Cn hm ht, he] at h2
 unfold Au.may
 rw [if_neg h0, h2, if_neg hne]
theorem Jw {a : Au} {S M : Int} (h0 : ¬ (a.states < 0 ∨ S < a.states ∨ M < a.moves.length)) (ht : A_ a.states a.moves = 0) : a.may S M = if a.last.all (inS a.states) = true then 0 else 10 := by
 unfold Au.may
 rw [if_neg h0, if_pos ht]
theorem GC {S s : Int} (h : s < 0 ∨ S ≤ s) : inS S s = false := by
 cases hh : inS S s with
 | false => rfl
 | true =>
  have := DL.1 hh
  omega
theorem Gr {S s : Int} (h1 : ¬ s < 0) (h2 : ¬ S ≤ s) : inS S s = true := DL.2 (by omega)
theorem H8 (a : Au) (S M : Int) : AW Try.prog 7 [aAu a, AY S, AY M] (AY (a.may S M)) := by
 by_cases h1 : a.states < 0
 ·have e : a.may S M = 3 := if_pos (Or.inl h1)
  rw [e]
  refine CT.ac fun C hC => ?_
  unfold B1
  repeat' with_reducible first | refine W ?_ | refine Z0 ?_ | ((first | refine Wo fun K hK => ?_ | refine Wp ?_ | refine Wq ?_ | refine Wr ?_); (try simp only [go_sem, fN, seval, eT, iR, h1, dT, dF, nL]); (repeat refine Ai ?_); (try (refine hK _ ?_; clear hK K)); try refine iC ?_)
  simp only [go_sem, fN, seval, AR, AS.result, AF, AG, AQ]
 by_cases h2 : S < a.states
 ·have e : a.may S M = 3 := if_pos (Or.inr (Or.inl h2))
  rw [e]
  refine CT.ac fun C hC => ?_
  unfold B1
  repeat' with_reducible first | refine W ?_ | refine Z0 ?_ | ((first | refine Wo fun K hK => ?_ | refine Wp ?_ | refine Wq ?_ | refine Wr ?_); (try simp only [go_sem, fN, seval, eT, iR, h1, h2, dT, dF, nL]); (repeat refine Ai ?_); (try (refine hK _ ?_; clear hK K)); try refine iC ?_)
  simp only [go_sem, fN, seval, AR, AS.result, AF, AG, AQ]
 by_cases h3 : M < a.moves.length
 ·have e : a.may S M = 3 := if_pos (Or.inr (Or.inr h3))
  rw [e]
  refine CT.ac fun C hC => ?_
  unfold B1
  repeat' with_reducible first | refine W ?_ | refine Z0 ?_ | ((first | refine Wo fun K hK => ?_ | refine Wp ?_ | refine Wq ?_ | refine Wr ?_); (try simp only [go_sem, fN, seval, eT, iR, h1, h2, h3, dT, dF, nL]); (repeat refine Ai ?_); (try (refine hK _ ?_; clear hK K)); try refine iC ?_)
  simp only [go_sem, fN, seval, AR, AS.result, AF, AG, AQ]
 have h0 : ¬ (a.states < 0 ∨ S < a.states ∨ M < a.moves.length) := by omega
 refine CT.ac fun C hC => ?_
 unfold B1
 refine IWP.learn 0 (by omega) fun hkn => ?_
 obtain ⟨kM, kL, kF⟩ := Eo hkn
 repeat' with_reducible first | refine W ?_ | refine Z0 ?_ | ((first | refine Wo fun K hK => ?_ | refine Wp ?_ | refine Wq ?_ | refine Wr ?_); (try simp only [go_sem, fN, seval, eT, iR, h1, h2, h3, dT, dF, nL]); (repeat refine Ai ?_); (try (refine hK _ ?_; clear hK K)); try refine iC ?_)
 refine IWP.loopD [8] (fun n s => ∃ k, k ≤ a.moves.length ∧ n = a.moves.length - k ∧ s.env 3 = .one (.ptr 3 1 0 0) ∧ s.S 3 = some (.box 25 [.st (.int .i64 a.states), .st (.list (a.moves.map A0)), .st (.list (a.last.map CU))]) ∧ s.env 7 = AY k ∧ s.S 8 = none ∧ A_ a.states (a.moves.take k) = 0) a.moves.length ⟨0, Nat.zero_le _, rfl, rfl, rfl, rfl, rfl, rfl⟩ ?_
 rintro n ⟨env, St⟩ ⟨k, hk, rfl, e3, s3, e7, s8, hno⟩
 simp only at e3 s3 e7 s8
 by_cases hlt : (k : Int) < a.moves.length
 ·obtain ⟨m, hm⟩ := Ah (show k < a.moves.length by omega)
  have hmm := AN hm
  have hst := Cn hm hno
  by_cases g1 : Ak m.name = true
  case neg =>
   have e := BQ h0 hm hno (JV g1) (by decide)
   repeat' (first | (with_reducible first | refine W ?_ | refine Z0 ?_ | ((first | refine Wo fun K hK => ?_ | refine Wp ?_ | refine Wq ?_ | refine Wr ?_); (try simp only [go_sem, fN, seval, eT, iR, e3, s3, e7, s8, hlt, hm, A0, g1, dT, dF, nL]); (repeat refine Ai ?_); (try (refine hK _ ?_; clear hK K)); try refine iC ?_)) | refine Cg _ (Dc m.name) ?_)
   simp only [go_sem, fN, seval, AR, AS.result, AF, AG, AQ, e]
  case pos =>
  by_cases g2 : A6 m.name = true
  ·have e := BQ h0 hm hno (LQ g2) (by decide)
   repeat' (first | (with_reducible first | refine W ?_ | refine Z0 ?_ | ((first | refine Wo fun K hK => ?_ | refine Wp ?_ | refine Wq ?_ | refine Wr ?_); (try simp only [go_sem, fN, seval, eT, iR, e3, s3, e7, s8, hlt, hm, A0, g1, g2, dT, dF, nL]); (repeat refine Ai ?_); (try (refine hK _ ?_; clear hK K)); try refine iC ?_)) | refine Cg _ (Dc m.name) ?_ | refine Cg _ (Em m.name) ?_)
   simp only [go_sem, fN, seval, AR, AS.result, AF, AG, AQ, e]
  by_cases g3 : (4 : Int) < m.frm.length
  ·have e := BQ h0 hm hno (Kw g1 g2 (by omega)) (by decide)
   repeat' (first | (with_reducible first | refine W ?_ | refine Z0 ?_ | ((first | refine Wo fun K hK => ?_ | refine Wp ?_ | refine Wq ?_ | refine Wr ?_); (try simp only [go_sem, fN, seval, eT, iR, e3, s3, e7, s8, hlt, hm, A0, g1, g2, g3, dT, dF, nL]); (repeat refine Ai ?_); (try (refine hK _ ?_; clear hK K)); try refine iC ?_)) | refine Cg _ (Dc m.name) ?_ | refine Cg _ (Em m.name) ?_)
   simp only [go_sem, fN, seval, AR, AS.result, AF, AG, AQ, e]
  have g3' : ¬ 4 < m.frm.length := by omega
  repeat' (first | (with_reducible first | refine W ?_ | refine Z0 ?_ | ((first | refine Wo fun K hK => ?_ | refine Wp ?_ | refine Wq ?_ | refine Wr ?_); (try simp only [go_sem, fN, seval, eT, iR, e3, s3, e7, s8, hlt, hm, A0, g1, g2, g3, dT, dF, nL]); (repeat refine Ai ?_); (try (refine hK _ ?_; clear hK K)); try refine iC ?_)) | refine Cg _ (Dc m.name) ?_ | refine Cg _ (Em m.name) ?_)
  refine IWP.loop (fun n s => ∃ j, j ≤ m.frm.length ∧ n = m.frm.length - j ∧ s.env 3 = .one (.ptr 3 1 0 0) ∧ s.S 3 = some (.box 25 [.st (.int .i64 a.states), .st (.list (a.moves.map A0)), .st (.list (a.last.map CU))]) ∧ s.env 7 = AY k ∧ s.env 8 = .one (.ptr 8 1 0 0) ∧ s.S 8 = some (.box 50 [.st (.str m.name), .st (.list (m.frm.map CU)), .st (.int .i64 m.to_)]) ∧ s.env 9 = AY j ∧ (m.frm.take j).all (inS a.states) = true) m.frm.length ⟨0, Nat.zero_le _, rfl, by simpa [AH] using e3, by simpa [AH] using s3, by simpa [AH] using e7, rfl, by simp [AH], rfl, rfl⟩ ?_
  rintro n ⟨env2, S2⟩ ⟨j, hj, rfl, f3, t3, f7, f8, t8, f9, hall⟩
  simp only at f3 t3 f7 f8 t8 f9
  have kFm := kF m hmm
  by_cases hjl : (j : Int) < m.frm.length
  ·obtain ⟨s, hs⟩ := Ah (show j < m.frm.length by omega)
   have hst2 := FJ hs hall
   by_cases g4 : s < 0
   ·have e := BQ h0 hm hno (Ir g1 g2 g3' (AN hs) (Or.inl g4)) (by decide)
    repeat' with_reducible first | refine W ?_ | refine Z0 ?_ | ((first | refine Wo fun K hK => ?_ | refine Wp ?_ | refine Wq ?_ | refine Wr ?_); (try simp only [go_sem, fN, seval, eT, iR, f3, t3, f7, f8, t8, f9, hjl, hs, g4, dT, dF, nL]); (repeat refine Ai ?_); (try (refine hK _ ?_; clear hK K)); try refine iC ?_)
    simp only [go_sem, fN, seval, AR, AS.result, AF, AG, AQ, e]
   by_cases g5 : a.states ≤ s
   ·have e := BQ h0 hm hno (Ir g1 g2 g3' (AN hs) (Or.inr g5)) (by decide)
    repeat' with_reducible first | refine W ?_ | refine Z0 ?_ | ((first | refine Wo fun K hK => ?_ | refine Wp ?_ | refine Wq ?_ | refine Wr ?_); (try simp only [go_sem, fN, seval, eT, iR, f3, t3, f7, f8, t8, f9, hjl, hs, g4, g5, dT, dF, nL]); (repeat refine Ai ?_); (try (refine hK _ ?_; clear hK K)); try refine iC ?_)
    simp only [go_sem, fN, seval, AR, AS.result, AF, AG, AQ, e]
   ·repeat' with_reducible first | refine W ?_ | refine Z0 ?_ | ((first | refine Wo fun K hK => ?_ | refine Wp ?_ | refine Wq ?_ | refine Wr ?_); (try simp only [go_sem, fN, seval, eT, iR, f3, t3, f7, f8, t8, f9, hjl, hs, g4, g5, dT, dF, nL]); (repeat refine Ai ?_); (try (refine hK _ ?_; clear hK K)); try refine iC ?_)
    refine AB ⟨m.frm.length - (j + 1), by omega, j + 1, by omega, rfl, ?_⟩
    simp only [go_sem, fN, seval, eT, iR, f3, t3, f7, f8, t8, f9]
    exact ⟨by congr 3, by rw [hst2]; exact Gr g4 g5⟩
  ·rw [List.take_of_length_le (by omega)] at hall
   by_cases g6 : m.to_ < 0
   ·have e := BQ h0 hm hno (KS g1 g2 g3' (Or.inl g6)) (by decide)
    repeat' with_reducible first | refine W ?_ | refine Z0 ?_ | ((first | refine Wo fun K hK => ?_ | refine Wp ?_ | refine Wq ?_ | refine Wr ?_); (try simp only [go_sem, fN, seval, eT, iR, f3, t3, f7, f8, t8, f9, hjl, g6, dT, dF, nL]); (repeat refine Ai ?_); (try (refine hK _ ?_; clear hK K)); try refine iC ?_)
    simp only [go_sem, fN, seval, AR, AS.result, AF, AG, AQ, e]
   by_cases g7 : a.states ≤ m.to_
   ·have e := BQ h0 hm hno (KS g1 g2 g3' (Or.inr g7)) (by decide)
    repeat' with_reducible first | refine W ?_ | refine Z0 ?_ | ((first | refine Wo fun K hK => ?_ | refine Wp ?_ | refine Wq ?_ | refine Wr ?_); (try simp only [go_sem, fN, seval, eT, iR, f3, t3, f7, f8, t8, f9, hjl, g6, g7, dT, dF, nL]); (repeat refine Ai ?_); (try (refine hK _ ?_; clear hK K)); try refine iC ?_)
    simp only [go_sem, fN, seval, AR, AS.result, AF, AG, AQ, e]
   ·repeat' with_reducible first | refine W ?_ | refine Z0 ?_ | ((first | refine Wo fun K hK => ?_ | refine Wp ?_ | refine Wq ?_ | refine Wr ?_); (try simp only [go_sem, fN, seval, eT, iR, f3, t3, f7, f8, t8, f9, hjl, g6, g7, dT, dF, nL]); (repeat refine Ai ?_); (try (refine hK _ ?_; clear hK K)); try refine iC ?_)
    refine AB ⟨a.moves.length - (k + 1), by omega, k + 1, by omega, rfl, ?_⟩
    simp only [go_sem, fN, seval, AS.drop, Ag, AC.clears, AC.clear, AC.highs, AC.high, Bool.not_false, Bool.true_and, Bool.and_self, AV.purge, AV.purges, AC.purge, AJ.purge, List.contains_cons, List.contains_nil, Nat.reduceBEq, Bool.or_self, Bool.or_false, Bool.false_or, Bool.or_true, eT, iR, f3, t3, f7, f8, t8, f9]
    exact ⟨by congr 3, by rw [hst]; exact Ix g1 g2 g3' hall (Gr g6 g7)⟩
 ·rw [List.take_of_length_le (by omega)] at hno
  have e := Jw (S := S) (M := M) h0 hno
  repeat' with_reducible first | refine W ?_ | refine Z0 ?_ | ((first | refine Wo fun K hK => ?_ | refine Wp ?_ | refine Wq ?_ | refine Wr ?_); (try simp only [go_sem, fN, seval, eT, iR, e3, s3, e7, s8, hlt, dT, dF, nL]); (repeat refine Ai ?_); (try (refine hK _ ?_; clear hK K)); try refine iC ?_)
  refine IWP.loop (fun n s => ∃ k, k ≤ a.last.length ∧ n = a.last.length - k ∧ s.env 3 = .one (.ptr 3 1 0 0) ∧ s.S 3 = some (.box 25 [.st (.int .i64 a.states), .st (.list (a.moves.map A0)), .st (.list (a.last.map CU))]) ∧ s.env 10 = AY k ∧ (a.last.take k).all (inS a.states) = true) a.last.length ⟨0, Nat.zero_le _, rfl, by simpa [AH] using e3, by simpa [AH] using s3, rfl, rfl⟩ ?_
  rintro n ⟨env2, S2⟩ ⟨j, hj, rfl, f3, t3, f10, hall⟩
  simp only at f3 t3 f10
  by_cases hjl : (j : Int) < a.last.length
  ·obtain ⟨s, hs⟩ := Ah (show j < a.last.length by omega)
   have hst2 := FJ hs hall
   by_cases g4 : s < 0
   ·rw [Nb (AN hs) (GC (Or.inl g4)), if_neg (by decide)] at e
    repeat' with_reducible first | refine W ?_ | refine Z0 ?_ | ((first | refine Wo fun K hK => ?_ | refine Wp ?_ | refine Wq ?_ | refine Wr ?_); (try simp only [go_sem, fN, seval, eT, iR, f3, t3, f10, hjl, hs, g4, dT, dF, nL]); (repeat refine Ai ?_); (try (refine hK _ ?_; clear hK K)); try refine iC ?_)
    simp only [go_sem, fN, seval, AR, AS.result, AF, AG, AQ, e]
   by_cases g5 : a.states ≤ s
   ·rw [Nb (AN hs) (GC (Or.inr g5)), if_neg (by decide)] at e
    repeat' with_reducible first | refine W ?_ | refine Z0 ?_ | ((first | refine Wo fun K hK => ?_ | refine Wp ?_ | refine Wq ?_ | refine Wr ?_); (try simp only [go_sem, fN, seval, eT, iR, f3, t3, f10, hjl, hs, g4, g5, dT, dF, nL]); (repeat refine Ai ?_); (try (refine hK _ ?_; clear hK K)); try refine iC ?_)
    simp only [go_sem, fN, seval, AR, AS.result, AF, AG, AQ, e]
   ·repeat' with_reducible first | refine W ?_ | refine Z0 ?_ | ((first | refine Wo fun K hK => ?_ | refine Wp ?_ | refine Wq ?_ | refine Wr ?_); (try simp only [go_sem, fN, seval, eT, iR, f3, t3, f10, hjl, hs, g4, g5, dT, dF, nL]); (repeat refine Ai ?_); (try (refine hK _ ?_; clear hK K)); try refine iC ?_)
    refine AB ⟨a.last.length - (j + 1), by omega, j + 1, by omega, rfl, ?_⟩
    simp only [go_sem, fN, seval, eT, iR, f3, t3, f10]
    exact ⟨by congr 3, by rw [hst2]; exact Gr g4 g5⟩
  ·rw [List.take_of_length_le (by omega)] at hall
   rw [hall, if_pos rfl] at e
   repeat' with_reducible first | refine W ?_ | refine Z0 ?_ | ((first | refine Wo fun K hK => ?_ | refine Wp ?_ | refine Wq ?_ | refine Wr ?_); (try simp only [go_sem, fN, seval, eT, iR, f3, t3, f10, hjl, dT, dF, nL]); (repeat refine Ai ?_); (try (refine hK _ ?_; clear hK K)); try refine iC ?_)
   simp only [go_sem, fN, seval, AR, AS.result, AF, AG, AQ, e]

theorem NY (l : List Int) (hl : l.length ≤ 1000000) : GF Try.prog 48 [LN l] 3 1 (l.map CU) := by
 unfold GF
 rw [List.length_map]
 refine C4.acS fun hS C hC => ?_
 unfold Bq
 by_cases h0 : l.length = 0
 ·have hl : l = [] := List.eq_nil_of_length_eq_zero h0
  subst hl
  repeat' with_reducible first | refine W ?_ | refine Z0 ?_ | ((first | refine Wo fun K hK => ?_ | refine Wp ?_ | refine Wq ?_ | refine Wr ?_); (try simp only [go_sem, fN, seval, eT, iR, dT, dF, nL]); (repeat refine Ai ?_); (try (refine hK _ ?_; clear hK K)); try refine iC ?_)
  refine ⟨?_, ?_⟩
  ·repeat' with_reducible first | refine W ?_ | refine Z0 ?_ | ((first | refine Wo fun K hK => ?_ | refine Wp ?_ | refine Wq ?_ | refine Wr ?_); (try simp only [go_sem, fN, seval, eT, iR, dT, dF, nL]); (repeat refine Ai ?_); (try (refine hK _ ?_; clear hK K)); try refine iC ?_)
   refine KQ (Ad.own (C := C) 2 30 3 1 (xs := []) rfl rfl (by simp) (by omega)) ?_
   exact Oe (mu := false) trivial 30 (by decide) rfl (fun i hi => by show AH _ _ _ _ = _; rw [AK _ (by omega)]; rfl) rfl
  ·repeat' with_reducible first | refine W ?_ | refine Z0 ?_ | ((first | refine Wo fun K hK => ?_ | refine Wp ?_ | refine Wq ?_ | refine Wr ?_); (try simp only [go_sem, fN, seval, eT, iR, dT, dF, nL]); (repeat refine Ai ?_); (try (refine hK _ ?_; clear hK K)); try refine iC ?_)
   exact Oe (mu := false) trivial 7 (by decide) rfl (fun i hi => by show AH _ _ _ _ = _; rw [AK _ (by omega)]; rfl) rfl
 ·have hb : l.length * 8 ≤ 140737488355328 := by omega
  repeat' with_reducible first | refine W ?_ | refine Z0 ?_ | ((first | refine Wo fun K hK => ?_ | refine Wp ?_ | refine Wq ?_ | refine Wr ?_); (try simp only [go_sem, fN, seval, eT, iR, h0, hb, dT, dF, nL]); (repeat refine Ai ?_); (try (refine hK _ ?_; clear hK K)); try refine iC ?_)
  exact Oe (mu := false) trivial 7 (by decide) rfl (fun i hi => by show AH _ _ _ _ = _; rw [AK _ (by omega)]; rfl) rfl

def AT (a : Au) : AJ := .box 25 [.st (.int .i64 a.states), .st (.list (a.moves.map A0)), .st (.list (a.last.map CU))]
theorem Kr (a : Au) (x : Int) (b : Nat) (hb : 1000 ≤ b) (S : AA) (sb : S b = some (AT a)) : Ap Try.prog 50 [AY x, .one (.ptr b 1 0 0)] S (Al (!inS a.states x)) S := by
 refine Ea.acS fun hS C hC => ?_
 unfold Cs
 unfold AT at sb
 by_cases h1 : x < 0
 ·have e : inS a.states x = false := GC (Or.inl h1)
  repeat' with_reducible first | refine W ?_ | refine Z0 ?_ | ((first | refine Wo fun K hK => ?_ | refine Wp ?_ | refine Wq ?_ | refine Wr ?_); (try simp only [go_sem, fN, seval, eT, iR, sb, h1, dT, dF, nL]); (repeat refine Ai ?_); (try (refine hK _ ?_; clear hK K)); try refine iC ?_)
  refine Ca (Al (!inS a.states x)) hS trivial ?_ ?_ fun j hj => ?_
  ·rw [e]
   rfl
  ·rfl
  ·rfl
 by_cases h2 : a.states ≤ x
 ·have e : inS a.states x = false := GC (Or.inr h2)
  repeat' with_reducible first | refine W ?_ | refine Z0 ?_ | ((first | refine Wo fun K hK => ?_ | refine Wp ?_ | refine Wq ?_ | refine Wr ?_); (try simp only [go_sem, fN, seval, eT, iR, sb, h1, h2, dT, dF, nL]); (repeat refine Ai ?_); (try (refine hK _ ?_; clear hK K)); try refine iC ?_)
  refine Ca (Al (!inS a.states x)) hS trivial ?_ ?_ fun j hj => ?_
  ·rw [e]
   rfl
  ·rfl
  ·rfl
 ·have e : inS a.states x = true := Gr h1 h2
  repeat' with_reducible first | refine W ?_ | refine Z0 ?_ | ((first | refine Wo fun K hK => ?_ | refine Wp ?_ | refine Wq ?_ | refine Wr ?_); (try simp only [go_sem, fN, seval, eT, iR, sb, h1, h2, dT, dF, nL]); (repeat refine Ai ?_); (try (refine hK _ ?_; clear hK K)); try refine iC ?_)
  refine Ca (Al (!inS a.states x)) hS trivial ?_ ?_ fun j hj => ?_
  ·rw [e]
   rfl
  ·rfl
  ·rfl
theorem OJ {p : Int → Bool} (xs : List Int) : 0 ≤ (match xs.findIdx? p with | some i => (i : Int) | none => -1) ↔ xs.any p = true := by
 cases h : xs.findIdx? p with
 | some i =>
  rw [List.findIdx?_eq_some_iff_getElem] at h
  obtain ⟨h1, h2, _⟩ := h
  simp only [List.any_eq_true]
  exact ⟨fun _ => ⟨_, List.getElem_mem h1, h2⟩, fun _ => by omega⟩
 | none =>
  rw [List.findIdx?_eq_none_iff] at h
  constructor
  ·intro h'
   exact absurd h' (by decide)
  ·intro h'
   rw [List.any_eq_true] at h'
   obtain ⟨x, hx, hp⟩ := h'
   rw [h x hx] at hp
   cases hp
theorem KP {p : Int → Bool} {xs : List Int} {k : Nat} {x : Int} (hx : xs[k]? = some x) (h : (xs.take k).any p = false) (hp : p x = true) : xs.findIdx? p = some k := by
 obtain ⟨hk, he⟩ := List.getElem?_eq_some_iff.1 hx
 rw [List.findIdx?_eq_some_iff_getElem]
 refine ⟨hk, by rw [he]; exact hp, fun j hj => ?_⟩
 rw [List.any_eq_false] at h
 have := h (xs[j]'(by omega)) (by
  rw [List.mem_take_iff_getElem]
  exact ⟨j, by omega, rfl⟩)
 simpa using this
theorem Ip (a : Au) (xs : List Int) (hl : xs.length ≤ 9223372036854775807) (b : Nat) (hb : 1000 ≤ b) (S : AA) (sb : S b = some (AT a)) :
  Ap Try.prog 55 [LN xs, .one (.fn 50 [.ptr b 1 0 0])] S (AY (match xs.findIdx? (fun x => !inS a.states x) with | some i => (i : Int) | none => -1)) S := by
 refine CX.acS fun hS C hC => ?_
 unfold BV
 repeat' with_reducible first | refine W ?_ | refine Z0 ?_ | ((first | refine Wo fun K hK => ?_ | refine Wp ?_ | refine Wq ?_ | refine Wr ?_); (try simp only [go_sem, fN, seval, eT, iR, dT, dF, nL]); (repeat refine Ai ?_); (try (refine hK _ ?_; clear hK K)); try refine iC ?_)
 refine IWP.loop (fun n s => ∃ k, k ≤ xs.length ∧ n = xs.length - k ∧ (xs.take k).any (fun x => !inS a.states x) = false ∧ s.env 0 = LN xs ∧ s.env 1 = .one (.fn 50 [.ptr b 1 0 0]) ∧ s.env 7 = AY xs.length ∧ s.env 8 = AY k ∧ s.S = S) xs.length ⟨0, Nat.zero_le _, rfl, rfl, rfl, rfl, rfl, rfl, rfl⟩ ?_
 rintro n ⟨env, S'⟩ ⟨k, hk, rfl, hp, e0, e1, e7, e8, eS⟩
 simp only at e0 e1 e7 e8 eS
 subst eS
 by_cases hlt : (k : Int) < xs.length
 ·obtain ⟨x, hx⟩ := Ah (show k < xs.length by omega)
  have hst := FN (p := fun x => !inS a.states x) hx hp
  have hc := Kr a x (up1 b) (BX b) (upS S') (by rw [Ce, sb]; rfl)
  repeat' with_reducible first | refine W ?_ | refine Z0 ?_ | ((first | refine Wo fun K hK => ?_ | refine Wp ?_ | refine Wq ?_ | refine Wr ?_); (try simp only [go_sem, fN, seval, eT, iR, e0, e1, e7, e8, hlt, hx, dT, dF, nL]); (repeat refine Ai ?_); (try (refine hK _ ?_; clear hK K)); try refine iC ?_)
  first | refine ⟨by kernel_rfl, _, _, hc, ?_⟩ | refine ⟨_, _, hc, ?_⟩
  by_cases hr : (!inS a.states x) = true
  ·have hi := KP (p := fun x => !inS a.states x) hx hp hr
   repeat' with_reducible first | refine W ?_ | refine Z0 ?_ | ((first | refine Wo fun K hK => ?_ | refine Wp ?_ | refine Wq ?_ | refine Wr ?_); (try simp only [go_sem, fN, seval, eT, iR, e0, e1, e7, e8, hr, dT, dF, nL]); (repeat refine Ai ?_); (try (refine hK _ ?_; clear hK K)); try refine iC ?_)
   refine Ca (AY k) hS trivial ?_ ?_ fun j hj => ?_
   ·simp [AF, AG, AQ, AH]
   ·rw [hi]
    rfl
   ·rfl
  ·have hr' : (!inS a.states x) = false := by simpa using hr
   repeat' with_reducible first | refine W ?_ | refine Z0 ?_ | ((first | refine Wo fun K hK => ?_ | refine Wp ?_ | refine Wq ?_ | refine Wr ?_); (try simp only [go_sem, fN, seval, eT, iR, e0, e1, e7, e8, hr', dT, dF, nL]); (repeat refine Ai ?_); (try (refine hK _ ?_; clear hK K)); try refine iC ?_)
   refine AB ⟨xs.length - (k + 1), by omega, k + 1, by omega, rfl, ?_⟩
   simp only [go_sem, fN, seval, eT, iR, e0, e1, e7, e8]
   exact ⟨by rw [hst]; exact hr', by congr 3⟩
 ·rw [List.take_of_length_le (by omega)] at hp
  have hi : xs.findIdx? (fun x => !inS a.states x) = none := by
   rw [List.findIdx?_eq_none_iff]
   intro x hx
   rw [List.any_eq_false] at hp
   simpa using hp x hx
  repeat' with_reducible first | refine W ?_ | refine Z0 ?_ | ((first | refine Wo fun K hK => ?_ | refine Wp ?_ | refine Wq ?_ | refine Wr ?_); (try simp only [go_sem, fN, seval, eT, iR, e0, e1, e7, e8, hlt, dT, dF, nL]); (repeat refine Ai ?_); (try (refine hK _ ?_; clear hK K)); try refine iC ?_)
  refine Ca (AY (-1)) hS trivial ?_ ?_ fun j hj => ?_
  ·simp [AF, AG, AQ, AH]
  ·rw [hi]
   rfl
  ·rfl
theorem F5 (a : Au) (xs : List Int) (hl : xs.length ≤ 9223372036854775807) (b : Nat) (hb : 1000 ≤ b) (S : AA) (sb : S b = some (AT a)) :
  Ap Try.prog 49 [LN xs, .one (.fn 50 [.ptr b 1 0 0])] S (Al (!xs.all (inS a.states))) S := by
 have hi := OJ (p := fun x => !inS a.states x) xs
 rw [List.not_all_eq_any_not]
 generalize (xs.any fun x => !inS a.states x) = bb at hi ⊢
 refine CB.acS fun hS C hC => ?_
 unfold BJ
 repeat' with_reducible first | refine W ?_ | refine Z0 ?_ | ((first | refine Wo fun K hK => ?_ | refine Wp ?_ | refine Wq ?_ | refine Wr ?_); (try simp only [go_sem, fN, seval, eT, iR, dT, dF, nL]); (repeat refine Ai ?_); (try (refine hK _ ?_; clear hK K)); try refine iC ?_)
 refine ⟨_, _, Ip a xs hl (up1 b) (BX b) (upS S) (by rw [Ce, sb]; rfl), ?_⟩
 generalize (match xs.findIdx? (fun x => !inS a.states x) with | some i => (i : Int) | none => -1) = q at hi
 repeat' with_reducible first | refine W ?_ | refine Z0 ?_ | ((first | refine Wo fun K hK => ?_ | refine Wp ?_ | refine Wq ?_ | refine Wr ?_); (try simp only [go_sem, fN, seval, eT, iR, hi, dT, dF, nL]); (repeat refine Ai ?_); (try (refine hK _ ?_; clear hK K)); try refine iC ?_)
 refine Ca (Al bb) hS trivial ?_ ?_ fun j hj => ?_
 ·simp [AF, AG, AQ, AH]
 ·rfl
 ·rfl
theorem LJ {S : Int} {m : Mv} (h1 : Ak m.name = true) (h2 : ¬ A6 m.name = true) (h3 : ¬ 4 < m.frm.length) {s : Int} (hs : s ∈ m.frm ++ [m.to_]) (h : s < 0 ∨ S ≤ s) : m.err S = 10 := by
 rcases List.mem_append.1 hs with hs | hs
 ·exact Ir h1 h2 h3 hs h
 ·rw [List.mem_singleton] at hs
  subst hs
  exact KS h1 h2 h3 h
theorem N_ {S : Int} {m : Mv} (h1 : Ak m.name = true) (h2 : ¬ A6 m.name = true) (h3 : ¬ 4 < m.frm.length) (h : (m.frm ++ [m.to_]).all (inS S) = true) : m.err S = 0 := by
 rw [List.all_append, Bool.and_eq_true] at h
 exact Ix h1 h2 h3 h.1 (by simpa using h.2)
theorem Lb (a : Au) (S M : Int) : AW Try.prog 35 [aAu a, AY S, AY M] (AY (a.may S M)) := by
 by_cases h1 : a.states < 0
 ·have e : a.may S M = 3 := if_pos (Or.inl h1)
  rw [e]
  refine Bg.ac fun C hC => ?_
  unfold BR
  repeat' with_reducible first | refine W ?_ | refine Z0 ?_ | ((first | refine Wo fun K hK => ?_ | refine Wp ?_ | refine Wq ?_ | refine Wr ?_); (try simp only [go_sem, fN, seval, eT, iR, h1, dT, dF, nL]); (repeat refine Ai ?_); (try (refine hK _ ?_; clear hK K)); try refine iC ?_)
  simp only [go_sem, fN, seval, AR, AS.result, AF, AG, AQ]
 by_cases h2 : S < a.states
 ·have e : a.may S M = 3 := if_pos (Or.inr (Or.inl h2))
  rw [e]
  refine Bg.ac fun C hC => ?_
  unfold BR
  repeat' with_reducible first | refine W ?_ | refine Z0 ?_ | ((first | refine Wo fun K hK => ?_ | refine Wp ?_ | refine Wq ?_ | refine Wr ?_); (try simp only [go_sem, fN, seval, eT, iR, h1, h2, dT, dF, nL]); (repeat refine Ai ?_); (try (refine hK _ ?_; clear hK K)); try refine iC ?_)
  simp only [go_sem, fN, seval, AR, AS.result, AF, AG, AQ]
 by_cases h3 : M < a.moves.length
 ·have e : a.may S M = 3 := if_pos (Or.inr (Or.inr h3))
  rw [e]
  refine Bg.ac fun C hC => ?_
  unfold BR
  repeat' with_reducible first | refine W ?_ | refine Z0 ?_ | ((first | refine Wo fun K hK => ?_ | refine Wp ?_ | refine Wq ?_ | refine Wr ?_); (try simp only [go_sem, fN, seval, eT, iR, h1, h2, h3, dT, dF, nL]); (repeat refine Ai ?_); (try (refine hK _ ?_; clear hK K)); try refine iC ?_)
  simp only [go_sem, fN, seval, AR, AS.result, AF, AG, AQ]
 have h0 : ¬ (a.states < 0 ∨ S < a.states ∨ M < a.moves.length) := by omega
 refine Bg.ac fun C hC => ?_
 unfold BR
 refine IWP.learn 0 (by omega) fun hkn => ?_
 obtain ⟨kM, kL, kF⟩ := Eo hkn
 repeat' with_reducible first | refine W ?_ | refine Z0 ?_ | ((first | refine Wo fun K hK => ?_ | refine Wp ?_ | refine Wq ?_ | refine Wr ?_); (try simp only [go_sem, fN, seval, eT, iR, h1, h2, h3, dT, dF, nL]); (repeat refine Ai ?_); (try (refine hK _ ?_; clear hK K)); try refine iC ?_)
 refine IWP.loopD [8, 49] (fun n s => ∃ k, k ≤ a.moves.length ∧ n = a.moves.length - k ∧ s.env 3 = .one (.ptr 3 1 0 0) ∧ s.S 3 = some (AT a) ∧ s.env 28 = .one (.st (.list (a.moves.map A0))) ∧ s.env 29 = AY a.moves.length ∧ s.env 30 = AY k ∧ s.S 8 = none ∧ s.S 49 = none ∧ A_ a.states (a.moves.take k) = 0) a.moves.length ⟨0, Nat.zero_le _, rfl, rfl, rfl, rfl, rfl, rfl, rfl, rfl, rfl⟩ ?_
 rintro n ⟨env, St⟩ ⟨k, hk, rfl, e3, s3, e28, e29, e30, s8, s49, hno⟩
 simp only at e3 s3 e28 e29 e30 s8 s49
 unfold AT at s3
 by_cases hlt : (k : Int) < a.moves.length
 ·obtain ⟨m, hm⟩ := Ah (show k < a.moves.length by omega)
  have hmm := AN hm
  have hst := Cn hm hno
  by_cases g1 : Ak m.name = true
  case neg =>
   have e := BQ h0 hm hno (JV g1) (by decide)
   repeat' (first | (with_reducible first | refine W ?_ | refine Z0 ?_ | ((first | refine Wo fun K hK => ?_ | refine Wp ?_ | refine Wq ?_ | refine Wr ?_); (try simp only [go_sem, fN, seval, eT, iR, e3, s3, e28, e29, e30, s8, s49, hlt, hm, A0, g1, dT, dF, nL]); (repeat refine Ai ?_); (try (refine hK _ ?_; clear hK K)); try refine iC ?_)) | refine Cg _ (HD m.name) ?_)
   simp only [go_sem, fN, seval, AR, AS.result, AF, AG, AQ, e]
  case pos =>
  by_cases g2 : A6 m.name = true
  ·have e := BQ h0 hm hno (LQ g2) (by decide)
   repeat' (first | (with_reducible first | refine W ?_ | refine Z0 ?_ | ((first | refine Wo fun K hK => ?_ | refine Wp ?_ | refine Wq ?_ | refine Wr ?_); (try simp only [go_sem, fN, seval, eT, iR, e3, s3, e28, e29, e30, s8, s49, hlt, hm, A0, g1, g2, dT, dF, nL]); (repeat refine Ai ?_); (try (refine hK _ ?_; clear hK K)); try refine iC ?_)) | refine Cg _ (HD m.name) ?_ | refine Cg _ (Cf m.name) ?_)
   simp only [go_sem, fN, seval, AR, AS.result, AF, AG, AQ, e]
  by_cases g3 : (4 : Int) < m.frm.length
  ·have e := BQ h0 hm hno (Kw g1 g2 (by omega)) (by decide)
   repeat' (first | (with_reducible first | refine W ?_ | refine Z0 ?_ | ((first | refine Wo fun K hK => ?_ | refine Wp ?_ | refine Wq ?_ | refine Wr ?_); (try simp only [go_sem, fN, seval, eT, iR, e3, s3, e28, e29, e30, s8, s49, hlt, hm, A0, g1, g2, g3, dT, dF, nL]); (repeat refine Ai ?_); (try (refine hK _ ?_; clear hK K)); try refine iC ?_)) | refine Cg _ (HD m.name) ?_ | refine Cg _ (Cf m.name) ?_)
   simp only [go_sem, fN, seval, AR, AS.result, AF, AG, AQ, e]
  have g3' : ¬ 4 < m.frm.length := by omega
  have gb : (m.frm.length + 1) * 8 ≤ 140737488355328 := by omega
  repeat' (first | (with_reducible first | refine W ?_ | refine Z0 ?_ | ((first | refine Wo fun K hK => ?_ | refine Wp ?_ | refine Wq ?_ | refine Wr ?_); (try simp only [go_sem, fN, seval, eT, iR, e3, s3, e28, e29, e30, s8, s49, hlt, hm, A0, g1, g2, g3, dT, dF, nL]); (repeat refine Ai ?_); (try (refine hK _ ?_; clear hK K)); try refine iC ?_)) | refine Cg _ (HD m.name) ?_ | refine Cg _ (Cf m.name) ?_)
  refine ⟨_, _, _, _, NY m.frm (by omega), by simp [AH, s49], ?_⟩
  repeat' with_reducible first | refine W ?_ | refine Z0 ?_ | ((first | refine Wo fun K hK => ?_ | refine Wp ?_ | refine Wq ?_ | refine Wr ?_); (try simp only [go_sem, fN, seval, eT, iR, e3, s3, e28, e29, e30, s8, s49, gb, dT, dF, nL]); (repeat refine Ai ?_); (try (refine hK _ ?_; clear hK K)); try refine iC ?_)
  have kFm : (m.frm ++ [m.to_]).length = m.frm.length + 1 := by simp
  refine IWP.loop (fun n s => ∃ j, j ≤ m.frm.length + 1 ∧ n = m.frm.length + 1 - j ∧ s.env 3 = .one (.ptr 3 1 0 0) ∧ s.S 3 = some (AT a) ∧ s.env 28 = .one (.st (.list (a.moves.map A0))) ∧ s.env 29 = AY a.moves.length ∧ s.env 30 = AY k ∧ s.env 53 = .one (.row 49 (m.frm.length + 1)) ∧ s.S 49 = some (.arow 3 1 ((m.frm ++ [m.to_]).map CU)) ∧ s.env 54 = AY ((m.frm.length + 1 : Nat) : Int) ∧ s.env 55 = AY j ∧ ((m.frm ++ [m.to_]).take j).all (inS a.states) = true) (m.frm.length + 1) ⟨0, Nat.zero_le _, rfl, by simpa [AH] using e3, by simpa [AH, AT] using s3, by simpa [AH] using e28, by simpa [AH] using e29, by simpa [AH] using e30, by simp [AH], by simp [AH], by simp [AH], by simp [AH], rfl⟩ ?_
  rintro n ⟨env2, S2⟩ ⟨j, hj, rfl, f3, t3, f28, f29, f30, f53, t49, f54, f55, hall⟩
  simp only at f3 t3 f28 f29 f30 f53 t49 f54 f55
  unfold AT at t3
  by_cases hjl : (j : Int) < ((m.frm.length + 1 : Nat) : Int)
  ·obtain ⟨s, hs⟩ := Ah (show j < (m.frm ++ [m.to_]).length by omega)
   have hst2 := FJ hs hall
   generalize hL : m.frm ++ [m.to_] = L at *
   have kL' : ¬ m.frm.length + 1 < L.length := by omega
   by_cases g4 : s < 0
   ·have e := BQ h0 hm hno (LJ g1 g2 g3' (by rw [hL]; exact AN hs) (Or.inl g4)) (by decide)
    repeat' with_reducible first | refine W ?_ | refine Z0 ?_ | ((first | refine Wo fun K hK => ?_ | refine Wp ?_ | refine Wq ?_ | refine Wr ?_); (try simp only [go_sem, fN, seval, eT, iR, f3, t3, f28, f29, f30, f53, t49, f54, f55, hjl, hs, g4, kFm, dT, dF, nL]); (repeat refine Ai ?_); (try (refine hK _ ?_; clear hK K)); try refine iC ?_)
    simp only [go_sem, fN, seval, AR, AS.result, AF, AG, AQ, e]
   by_cases g5 : a.states ≤ s
   ·have e := BQ h0 hm hno (LJ g1 g2 g3' (by rw [hL]; exact AN hs) (Or.inr g5)) (by decide)
    repeat' with_reducible first | refine W ?_ | refine Z0 ?_ | ((first | refine Wo fun K hK => ?_ | refine Wp ?_ | refine Wq ?_ | refine Wr ?_); (try simp only [go_sem, fN, seval, eT, iR, f3, t3, f28, f29, f30, f53, t49, f54, f55, hjl, hs, g4, g5, kFm, dT, dF, nL]); (repeat refine Ai ?_); (try (refine hK _ ?_; clear hK K)); try refine iC ?_)
    simp only [go_sem, fN, seval, AR, AS.result, AF, AG, AQ, e]
   ·repeat' with_reducible first | refine W ?_ | refine Z0 ?_ | ((first | refine Wo fun K hK => ?_ | refine Wp ?_ | refine Wq ?_ | refine Wr ?_); (try simp only [go_sem, fN, seval, eT, iR, f3, t3, f28, f29, f30, f53, t49, f54, f55, hjl, hs, g4, g5, kFm, dT, dF, nL]); (repeat refine Ai ?_); (try (refine hK _ ?_; clear hK K)); try refine iC ?_)
    refine AB ⟨m.frm.length + 1 - (j + 1), by omega, j + 1, by omega, rfl, ?_⟩
    simp only [go_sem, fN, seval, eT, iR, f3, t3, f28, f29, f30, f53, t49, f54, f55]
    exact ⟨rfl, by congr 3, by rw [hst2]; exact Gr g4 g5⟩
  ·rw [List.take_of_length_le (by omega)] at hall
   repeat' with_reducible first | refine W ?_ | refine Z0 ?_ | ((first | refine Wo fun K hK => ?_ | refine Wp ?_ | refine Wq ?_ | refine Wr ?_); (try simp only [go_sem, fN, seval, eT, iR, f3, t3, f28, f29, f30, f53, t49, f54, f55, hjl, dT, dF, nL]); (repeat refine Ai ?_); (try (refine hK _ ?_; clear hK K)); try refine iC ?_)
   refine AB ⟨a.moves.length - (k + 1), by omega, k + 1, by omega, rfl, ?_⟩
   simp only [go_sem, fN, seval, AS.drop, Ag, AC.clears, AC.clear, AC.highs, AC.high, Bool.not_false, Bool.true_and, Bool.and_self, AV.purge, AV.purges, AC.purge, AJ.purge, List.contains_cons, List.contains_nil, Nat.reduceBEq, Bool.or_self, Bool.or_false, Bool.false_or, Bool.or_true, eT, iR, f3, t3, f28, f29, f30, f53, t49, f54, f55]
   exact ⟨rfl, by congr 3, by rw [hst]; exact N_ g1 g2 g3' hall⟩
 ·rw [List.take_of_length_le (by omega)] at hno
  have e := Jw (S := S) (M := M) h0 hno
  repeat' with_reducible first | refine W ?_ | refine Z0 ?_ | ((first | refine Wo fun K hK => ?_ | refine Wp ?_ | refine Wq ?_ | refine Wr ?_); (try simp only [go_sem, fN, seval, eT, iR, e3, s3, e28, e29, e30, hlt, AS.caps, dT, dF, nL]); (repeat refine Ai ?_); (try (refine hK _ ?_; clear hK K)); try refine iC ?_)
  refine ⟨_, _, F5 a a.last (by omega) (up1 3) (BX 3) _ (by rw [Ce, s3]; rfl), ?_⟩
  by_cases hall : a.last.all (inS a.states) = true
  ·rw [hall, if_pos rfl] at e
   repeat' with_reducible first | refine W ?_ | refine Z0 ?_ | ((first | refine Wo fun K hK => ?_ | refine Wp ?_ | refine Wq ?_ | refine Wr ?_); (try simp only [go_sem, fN, seval, eT, iR, e3, s3, e28, e29, e30, hall, dT, dF, nL]); (repeat refine Ai ?_); (try (refine hK _ ?_; clear hK K)); try refine iC ?_)
   simp only [go_sem, fN, seval, AR, AS.result, AF, AG, AQ, e]
  ·have hall' : a.last.all (inS a.states) = false := by simpa using hall
   rw [hall', if_neg (by decide)] at e
   repeat' with_reducible first | refine W ?_ | refine Z0 ?_ | ((first | refine Wo fun K hK => ?_ | refine Wp ?_ | refine Wq ?_ | refine Wr ?_); (try simp only [go_sem, fN, seval, eT, iR, e3, s3, e28, e29, e30, hall', dT, dF, nL]); (repeat refine Ai ?_); (try (refine hK _ ?_; clear hK K)); try refine iC ?_)
   simp only [go_sem, fN, seval, AR, AS.result, AF, AG, AQ, e]
theorem Bo (a : Au) : AW Try.prog 14 [aAu a] (AY (a.may 8 40)) := by
 refine HS.ac fun C hC => ?_
 unfold EI
 repeat' (first | (with_reducible first | refine W ?_ | refine Z0 ?_ | ((first | refine Wo fun K hK => ?_ | refine Wp ?_ | refine Wq ?_ | refine Wr ?_); (try simp only [go_sem, fN, seval, eT, iR, dT, dF, nL]); (repeat refine Ai ?_); (try (refine hK _ ?_; clear hK K)); try refine iC ?_)) | refine Cg _ (Lb a 8 40) ?_)
 simp only [go_sem, fN, seval, AR, AS.result, AF, AG, AQ]

set_option maxHeartbeats 2000000


theorem EX : ∀ {bs : List (List Bool)} {ss : List Int} {j : Nat} {b : List Bool} {s : Int}, bs[j]? = some b → ss[j]? = some s → Bp (bs.take (j + 1)) (ss.take (j + 1)) = (Bp (bs.take j) (ss.take j) && b.getD s.toNat false)
 | b0 :: bs, s0 :: ss, 0, b, s, hb, hs => by
  simp at hb hs
  subst hb hs
  simp [Bp]
 | b0 :: bs, s0 :: ss, j + 1, b, s, hb, hs => by
  simp only [List.take_succ_cons, Bp]
  rw [EX (by simpa using hb) (by simpa using hs), Bool.and_assoc]
 | [], _, _, _, _, hb, _ => by simp at hb
 | _ :: _, [], _, _, _, _, hs => by simp at hs
theorem FU : ∀ {bs : List (List Bool)} {ss : List Int}, ¬ ss.length = bs.length → Bp bs ss = false
 | [], [], h => absurd rfl h
 | [], _ :: _, _ => rfl
 | _ :: _, [], _ => rfl
 | b :: bs, s :: ss, h => by
  rw [Bp, FU (fun e => h (by simp [e]))]
  simp
theorem Oq {l : List Bool} {i : Nat} (h : i < l.length) : ∃ b, l[i]? = some b ∧ l.getD i false = b := by
 refine ⟨l[i], List.getElem?_eq_getElem h, ?_⟩
 rw [List.getD_eq_getElem?_getD, List.getElem?_eq_getElem h]
 rfl
theorem Mh (a : Au) (ga : a.Good) (hs64 : a.states ≤ 64) (hm : a.moves.length ≤ 100000) (n : ByteArray) (below : List (List Bool)) (hb : ∀ l ∈ below, l.length = a.states.toNat) (hbl : below.length ≤ 1000000) :
  AW Try.prog 39 [aAu a, Cj n, OZ below] (IM (a.ending n below)) := by
 have hst := ga.states
 refine Jf.ac fun C hC => ?_
 unfold Fk
 repeat' with_reducible first | refine W ?_ | refine Z0 ?_ | ((first | refine Wo fun K hK => ?_ | refine Wp ?_ | refine Wq ?_ | refine Wr ?_); (try simp only [go_sem, fN, seval, eT, iR, dT, dF, nL]); (repeat refine Ai ?_); (try (refine hK _ ?_; clear hK K)); try refine iC ?_)
 refine IWP.loopD [9] (fun q s => ∃ k, k ≤ a.moves.length ∧ q = a.moves.length - k ∧ s.env 1 = Cj n ∧ s.env 2 = OZ below ∧ s.env 3 = .one (.ptr 3 1 0 0) ∧ s.S 3 = some (AT a) ∧ s.env 7 = .one (.row 14 a.states.toNat) ∧ s.S 14 = some (.mrow 4 1 (((a.moves.take k).foldl (BU n below) (List.replicate a.states.toNat false)).map OF)) ∧ s.env 8 = AY k ∧ s.S 9 = none) a.moves.length
  ⟨0, Nat.zero_le _, rfl, rfl, rfl, rfl, rfl, by simp [AH], by simp [AH], rfl, rfl⟩ ?_
 rintro q ⟨env, St⟩ ⟨k, hk, rfl, e1, e2, e3, s3, e7, s7, e8, s9⟩
 simp only at e1 e2 e3 s3 e7 s7 e8 s9
 unfold AT at s3
 by_cases hlt : (k : Int) < a.moves.length
 ·obtain ⟨m, hmk⟩ := Ah (show k < a.moves.length by omega)
  have hmm := AN hmk
  have hto := ga.to_ m hmm
  have hfold : (a.moves.take (k + 1)).foldl (BU n below) (List.replicate a.states.toNat false) = BU n below ((a.moves.take k).foldl (BU n below) (List.replicate a.states.toNat false)) m := by
   rw [Af hmk, List.foldl_append]
   rfl
  have hfl := Cp n below (a.moves.take k) (List.replicate a.states.toNat false)
  rw [List.length_replicate] at hfl
  generalize (a.moves.take k).foldl (BU n below) (List.replicate a.states.toNat false) = L at *
  by_cases g1 : m.name = n
  case neg =>
   have hf : m.fits n below = false := by simp [Mv.fits, g1]
   repeat' with_reducible first | refine W ?_ | refine Z0 ?_ | ((first | refine Wo fun K hK => ?_ | refine Wp ?_ | refine Wq ?_ | refine Wr ?_); (try simp only [go_sem, fN, seval, eT, iR, e1, e2, e3, s3, e7, s7, e8, s9, hlt, hmk, A0, g1, dT, dF, nL]); (repeat refine Ai ?_); (try (refine hK _ ?_; clear hK K)); try refine iC ?_)
   refine AB ⟨a.moves.length - (k + 1), by omega, k + 1, by omega, rfl, ?_⟩
   simp only [go_sem, fN, seval, AS.drop, Ag, AC.clears, AC.clear, AC.highs, AC.high, Bool.not_false, Bool.true_and, Bool.and_self, AV.purge, AV.purges, AC.purge, AJ.purge, List.contains_cons, List.contains_nil, Nat.reduceBEq, Bool.or_self, Bool.or_false, Bool.false_or, Bool.or_true, eT, iR, e1, e2, e3, s3, e7, s7, e8, s9, AT]
   simp [hfold, BU, hf]
  case pos =>
  by_cases g2 : (m.frm.length : Int) = below.length
  case neg =>
   have hf : m.fits n below = false := by
    unfold Mv.fits
    rw [FU (by omega)]
    simp
   repeat' with_reducible first | refine W ?_ | refine Z0 ?_ | ((first | refine Wo fun K hK => ?_ | refine Wp ?_ | refine Wq ?_ | refine Wr ?_); (try simp only [go_sem, fN, seval, eT, iR, e1, e2, e3, s3, e7, s7, e8, s9, hlt, hmk, A0, g1, g2, dT, dF, nL]); (repeat refine Ai ?_); (try (refine hK _ ?_; clear hK K)); try refine iC ?_)
   refine AB ⟨a.moves.length - (k + 1), by omega, k + 1, by omega, rfl, ?_⟩
   simp only [go_sem, fN, seval, AS.drop, Ag, AC.clears, AC.clear, AC.highs, AC.high, Bool.not_false, Bool.true_and, Bool.and_self, AV.purge, AV.purges, AC.purge, AJ.purge, List.contains_cons, List.contains_nil, Nat.reduceBEq, Bool.or_self, Bool.or_false, Bool.false_or, Bool.or_true, eT, iR, e1, e2, e3, s3, e7, s7, e8, s9, AT]
   simp [hfold, BU, hf]
  case pos =>
  have g2' : m.frm.length = below.length := by omega
  repeat' with_reducible first | refine W ?_ | refine Z0 ?_ | ((first | refine Wo fun K hK => ?_ | refine Wp ?_ | refine Wq ?_ | refine Wr ?_); (try simp only [go_sem, fN, seval, eT, iR, e1, e2, e3, s3, e7, s7, e8, s9, hlt, hmk, A0, g1, g2, dT, dF, nL]); (repeat refine Ai ?_); (try (refine hK _ ?_; clear hK K)); try refine iC ?_)
  refine IWP.loop (fun q s => ∃ j, j ≤ below.length ∧ q = below.length - j ∧ s.env 1 = Cj n ∧ s.env 2 = OZ below ∧ s.env 3 = .one (.ptr 3 1 0 0) ∧ s.S 3 = some (AT a) ∧ s.env 7 = .one (.row 14 a.states.toNat) ∧ s.S 14 = some (.mrow 4 1 (L.map OF)) ∧ s.env 8 = AY k ∧ s.env 9 = .one (.ptr 9 1 0 0) ∧ s.S 9 = some (.box 50 [.st (.str m.name), .st (.list (m.frm.map CU)), .st (.int .i64 m.to_)]) ∧ s.env 10 = Al (Bp (below.take j) (m.frm.take j)) ∧ s.env 11 = AY j) below.length
   ⟨0, Nat.zero_le _, rfl, by simp [AH, e1], by simp [AH, e2], by simp [AH, e3], by simp [AH, AT, s3], by simp [AH, e7], by simp [AH, s7], by simp [AH, e8], by simp [AH], by simp [AH, g1], by simp [AH, Bp], by simp [AH]⟩ ?_
  rintro q ⟨env2, S2⟩ ⟨j, hj, rfl, f1, f2, f3, t3, f7, t7, f8, f9, t9, f10, f11⟩
  simp only at f1 f2 f3 t3 f7 t7 f8 f9 t9 f10 f11
  unfold AT at t3
  by_cases hjl : (j : Int) < below.length
  ·obtain ⟨bl, hbj⟩ := Ah (show j < below.length by omega)
   obtain ⟨x, hx⟩ := Ah (show j < m.frm.length by omega)
   have qx := ga.frm m hmm x (AN hx)
   have hbll := hb bl (AN hbj)
   obtain ⟨y, hy, hyd⟩ := Oq (show x.toNat < bl.length by omega)
   have hst2 := EX hbj hx
   rw [hyd] at hst2
   generalize Bp (below.take j) (m.frm.take j) = ok at f10 hst2
   cases ok with
   | true =>
    repeat' with_reducible first | refine W ?_ | refine Z0 ?_ | ((first | refine Wo fun K hK => ?_ | refine Wp ?_ | refine Wq ?_ | refine Wr ?_); (try simp only [go_sem, fN, seval, eT, iR, f1, f2, f3, t3, f7, t7, f8, f9, t9, f10, f11, hjl, hbj, hx, hy, dT, dF, nL]); (repeat refine Ai ?_); (try (refine hK _ ?_; clear hK K)); try refine iC ?_)
    refine AB ⟨below.length - (j + 1), by omega, j + 1, by omega, rfl, ?_⟩
    simp only [go_sem, fN, seval, eT, iR, f1, f2, f3, t3, f7, t7, f8, f9, t9, f10, f11, AT]
    simp [hst2]
   | false =>
    repeat' with_reducible first | refine W ?_ | refine Z0 ?_ | ((first | refine Wo fun K hK => ?_ | refine Wp ?_ | refine Wq ?_ | refine Wr ?_); (try simp only [go_sem, fN, seval, eT, iR, f1, f2, f3, t3, f7, t7, f8, f9, t9, f10, f11, hjl, hbj, hx, hy, dT, dF, nL]); (repeat refine Ai ?_); (try (refine hK _ ?_; clear hK K)); try refine iC ?_)
    refine AB ⟨below.length - (j + 1), by omega, j + 1, by omega, rfl, ?_⟩
    simp only [go_sem, fN, seval, eT, iR, f1, f2, f3, t3, f7, t7, f8, f9, t9, f10, f11, AT]
    simp [hst2]
  ·rw [List.take_of_length_le (l := below) (i := j) (by omega), List.take_of_length_le (l := m.frm) (i := j) (by omega)] at f10
   have hf : m.fits n below = Bp below m.frm := by simp [Mv.fits, g1]
   have hoo := Oq (show m.to_.toNat < L.length by omega)
   obtain ⟨z, hz, _⟩ := hoo
   by_cases g3 : Bp below m.frm = true
   ·rw [g3] at f10 hf
    repeat' with_reducible first | refine W ?_ | refine Z0 ?_ | ((first | refine Wo fun K hK => ?_ | refine Wp ?_ | refine Wq ?_ | refine Wr ?_); (try simp only [go_sem, fN, seval, eT, iR, f1, f2, f3, t3, f7, t7, f8, f9, t9, f10, f11, hjl, hz, hfl, dT, dF, nL]); (repeat refine Ai ?_); (try (refine hK _ ?_; clear hK K)); try refine iC ?_)
    refine AB ⟨a.moves.length - (k + 1), by omega, k + 1, by omega, rfl, ?_⟩
    simp only [go_sem, fN, seval, AS.drop, Ag, AC.clears, AC.clear, AC.highs, AC.high, Bool.not_false, Bool.true_and, Bool.and_self, AV.purge, AV.purges, AC.purge, AJ.purge, List.contains_cons, List.contains_nil, Nat.reduceBEq, Bool.or_self, Bool.or_false, Bool.false_or, Bool.or_true, eT, iR, f1, f2, f3, t3, f7, t7, f8, f9, t9, f10, f11, AT]
    simp [hfold, BU, hf]
   ·have g3' : Bp below m.frm = false := by simpa using g3
    rw [g3'] at f10 hf
    repeat' with_reducible first | refine W ?_ | refine Z0 ?_ | ((first | refine Wo fun K hK => ?_ | refine Wp ?_ | refine Wq ?_ | refine Wr ?_); (try simp only [go_sem, fN, seval, eT, iR, f1, f2, f3, t3, f7, t7, f8, f9, t9, f10, f11, hjl, dT, dF, nL]); (repeat refine Ai ?_); (try (refine hK _ ?_; clear hK K)); try refine iC ?_)
    refine AB ⟨a.moves.length - (k + 1), by omega, k + 1, by omega, rfl, ?_⟩
    simp only [go_sem, fN, seval, AS.drop, Ag, AC.clears, AC.clear, AC.highs, AC.high, Bool.not_false, Bool.true_and, Bool.and_self, AV.purge, AV.purges, AC.purge, AJ.purge, List.contains_cons, List.contains_nil, Nat.reduceBEq, Bool.or_self, Bool.or_false, Bool.false_or, Bool.or_true, eT, iR, f1, f2, f3, t3, f7, t7, f8, f9, t9, f10, f11, AT]
    simp [hfold, BU, hf]
 ·rw [List.take_of_length_le (l := a.moves) (i := k) (by omega)] at s7
  have hle : a.ending n below = a.moves.foldl (BU n below) (List.replicate a.states.toNat false) := rfl
  rw [← hle] at s7
  have hll := a.ending_length n below
  refine IWP.ghost (Ad.share (C := C) (id := 14) s7) ?_
  repeat' with_reducible first | refine W ?_ | refine Z0 ?_ | ((first | refine Wo fun K hK => ?_ | refine Wp ?_ | refine Wq ?_ | refine Wr ?_); (try simp only [go_sem, fN, seval, eT, iR, e1, e2, e3, s3, e7, s7, e8, s9, hlt, dT, dF, nL]); (repeat refine Ai ?_); (try (refine hK _ ?_; clear hK K)); try refine iC ?_)
  simp only [go_sem, fN, seval, AR, AS.result, AF, AG, AQ, e7, hll]

theorem Nd (a : Au) (ga : a.Good) (hs64 : a.states ≤ 64) (hm : a.moves.length ≤ 100000) (t : Tm) (hz : t.size ≤ 1000000) : AW Try.prog 26 [aAu a, aTm t] (IM (a.ends t)) := by
 induction h : SizeOf.sizeOf t using Nat.strongRecOn generalizing t with
 | _ N ih =>
 subst h
 have hs := Tm.size_eq t
 have hkn := Tm.length_le t.args
 refine JA.ac fun C hC => ?_
 unfold Fw
 repeat' with_reducible first | refine W ?_ | refine Z0 ?_ | ((first | refine Wo fun K hK => ?_ | refine Wp ?_ | refine Wq ?_ | refine Wr ?_); (try simp only [go_sem, fN, seval, eT, iR, dT, dF, nL]); (repeat refine Ai ?_); (try (refine hK _ ?_; clear hK K)); try refine iC ?_)
 refine IWP.ghost (Ad.own (C := C) 5 50 58 1 (xs := ([] : List (List Bool)).map LA) rfl rfl Kj (by omega)) ?_
 refine IWP.loopD [] (fun q s => ∃ k, k ≤ t.args.length ∧ q = t.args.length - k ∧ s.env 2 = .one (.ptr 2 1 0 0) ∧ s.S 2 = some (AT a) ∧ s.env 3 = .one (.ptr 3 1 0 0) ∧ s.S 3 = some (.box 28 [.st (.str t.name), .st (.list (t.args.map BC))]) ∧ s.env 5 = .one (.row 50 k) ∧ s.S 50 = some (.arow 58 1 (((t.args.take k).map a.ends).map LA)) ∧ s.env 6 = AY k) t.args.length
  ⟨0, Nat.zero_le _, rfl, rfl, rfl, rfl, rfl, rfl, rfl, rfl⟩ ?_
 rintro q ⟨env, St⟩ ⟨k, hk, rfl, e2, s2, e3, s3, e5, s50, e6⟩
 simp only at e2 s2 e3 s3 e5 s50 e6
 unfold AT at s2
 by_cases hlt : (k : Int) < t.args.length
 ·obtain ⟨x, hx⟩ := Ah (show k < t.args.length by omega)
  have hxm := AN hx
  have hsz := Tm.size_mem hxm
  have hkl : ((t.args.take k).map a.ends).length = k := by
   rw [List.length_map, List.length_take]
   omega
  repeat' (first | (with_reducible first | refine W ?_ | refine Z0 ?_ | ((first | refine Wo fun K hK => ?_ | refine Wp ?_ | refine Wq ?_ | refine Wr ?_); (try simp only [go_sem, fN, seval, eT, iR, e2, s2, e3, s3, e5, s50, e6, hlt, hx, hkl, dT, dF, nL]); (repeat refine Ai ?_); (try (refine hK _ ?_; clear hK K)); try refine iC ?_)) | refine Cg _ (ih _ (Tm.lt_of_arg hxm) x (by omega) rfl) ?_)
  refine AB ⟨t.args.length - (k + 1), by omega, k + 1, by omega, rfl, ?_⟩
  simp only [go_sem, fN, seval, AS.drop, Ag, AC.clears, AC.clear, AC.highs, AC.high, Bool.not_false, Bool.true_and, Bool.and_self, AV.purge, AV.purges, AC.purge, AJ.purge, List.contains_cons, List.contains_nil, Nat.reduceBEq, Bool.or_self, Bool.or_false, Bool.false_or, Bool.or_true, eT, iR, e2, s2, e3, s3, e5, s50, e6, AT]
  rw [Af hx]
  simp
  try omega
 ·rw [List.take_of_length_le (l := t.args) (i := k) (by omega)] at s50
  have hkl : (t.args.map a.ends).length = t.args.length := List.length_map _
  have hke : k = t.args.length := by omega
  have hE := Mh a ga hs64 hm t.name (t.args.map a.ends) (fun l hl => by
   obtain ⟨y, _, rfl⟩ := List.mem_map.1 hl
   exact a.ends_length y) (by omega)
  repeat' (first | (with_reducible first | refine W ?_ | refine Z0 ?_ | ((first | refine Wo fun K hK => ?_ | refine Wp ?_ | refine Wq ?_ | refine Wr ?_); (try simp only [go_sem, fN, seval, eT, iR, e2, s2, e3, s3, e5, s50, e6, hlt, hke, hkl, Nat.lt_irrefl, dT, dF, nL]); (repeat refine Ai ?_); (try (refine hK _ ?_; clear hK K)); try refine iC ?_)) | refine Cg _ (hE) ?_)
  simp only [go_sem, fN, seval, AR, AS.result, AF, AG, AQ]
  rw [Au.ends_eq, Au.endsL_eq]
theorem OB (a : Au) (l : List Bool) (hl : ∀ s ∈ a.last, 0 ≤ s ∧ s.toNat < l.length) : AW Try.prog 25 [aAu a, IM l] (Al (a.last.any fun s => l.getD s.toNat false)) := by
 refine Kc.ac fun C hC => ?_
 unfold Ge
 refine IWP.learn 0 (by omega) fun hkn => ?_
 obtain ⟨kM, kL, kF⟩ := Eo hkn
 repeat' with_reducible first | refine W ?_ | refine Z0 ?_ | ((first | refine Wo fun K hK => ?_ | refine Wp ?_ | refine Wq ?_ | refine Wr ?_); (try simp only [go_sem, fN, seval, eT, iR, dT, dF, nL]); (repeat refine Ai ?_); (try (refine hK _ ?_; clear hK K)); try refine iC ?_)
 refine IWP.loop (fun q s => ∃ k, k ≤ a.last.length ∧ q = a.last.length - k ∧ s.env 1 = IM l ∧ s.env 2 = .one (.ptr 2 1 0 0) ∧ s.S 2 = some (AT a) ∧ s.env 5 = AY k ∧ (a.last.take k).any (fun s => l.getD s.toNat false) = false) a.last.length ⟨0, Nat.zero_le _, rfl, rfl, rfl, rfl, rfl, rfl⟩ ?_
 rintro q ⟨env, St⟩ ⟨k, hk, rfl, e1, e2, s2, e5, hno⟩
 simp only at e1 e2 s2 e5
 unfold AT at s2
 by_cases hlt : (k : Int) < a.last.length
 ·obtain ⟨x, hx⟩ := Ah (show k < a.last.length by omega)
  have qx := hl x (AN hx)
  obtain ⟨y, hy, hyd⟩ := Oq qx.2
  have hst := FN (p := fun s : Int => l.getD s.toNat false) hx hno
  rw [hyd] at hst
  cases y with
  | true =>
   have hr := LG (p := fun s : Int => l.getD s.toNat false) (k := k + 1) hst
   repeat' with_reducible first | refine W ?_ | refine Z0 ?_ | ((first | refine Wo fun K hK => ?_ | refine Wp ?_ | refine Wq ?_ | refine Wr ?_); (try simp only [go_sem, fN, seval, eT, iR, e1, e2, s2, e5, hlt, hx, hy, dT, dF, nL]); (repeat refine Ai ?_); (try (refine hK _ ?_; clear hK K)); try refine iC ?_)
   simp only [go_sem, fN, seval, AR, AS.result, AF, AG, AQ, hr]
  | false =>
   repeat' with_reducible first | refine W ?_ | refine Z0 ?_ | ((first | refine Wo fun K hK => ?_ | refine Wp ?_ | refine Wq ?_ | refine Wr ?_); (try simp only [go_sem, fN, seval, eT, iR, e1, e2, s2, e5, hlt, hx, hy, dT, dF, nL]); (repeat refine Ai ?_); (try (refine hK _ ?_; clear hK K)); try refine iC ?_)
   refine AB ⟨a.last.length - (k + 1), by omega, k + 1, by omega, rfl, ?_⟩
   simp only [go_sem, fN, seval, eT, iR, e1, e2, s2, e5, AT]
   exact ⟨by congr 3, hst⟩
 ·rw [List.take_of_length_le (l := a.last) (i := k) (by omega)] at hno
  repeat' with_reducible first | refine W ?_ | refine Z0 ?_ | ((first | refine Wo fun K hK => ?_ | refine Wp ?_ | refine Wq ?_ | refine Wr ?_); (try simp only [go_sem, fN, seval, eT, iR, e1, e2, s2, e5, hlt, dT, dF, nL]); (repeat refine Ai ?_); (try (refine hK _ ?_; clear hK K)); try refine iC ?_)
  simp only [go_sem, fN, seval, AR, AS.result, AF, AG, AQ, hno]
theorem Jj (a : Au) (ga : a.Good) (hs64 : a.states ≤ 64) (hm : a.moves.length ≤ 100000) (t : Tm) (hz : t.size ≤ 1000000) : AW Try.prog 10 [aAu a, aTm t] (Al (a.acc t)) := by
 have hL := OB a (a.ends t) (fun s hs => by
  have := ga.last s hs
  rw [a.ends_length]
  omega)
 refine G_.ac fun C hC => ?_
 unfold Dg
 repeat' (first | (with_reducible first | refine W ?_ | refine Z0 ?_ | ((first | refine Wo fun K hK => ?_ | refine Wp ?_ | refine Wq ?_ | refine Wr ?_); (try simp only [go_sem, fN, seval, eT, iR, dT, dF, nL]); (repeat refine Ai ?_); (try (refine hK _ ?_; clear hK K)); try refine iC ?_)) | refine Cg _ (Nd a ga hs64 hm t hz) ?_ | refine Cg _ (hL) ?_)
 simp only [go_sem, fN, seval, AR, AS.result, AF, AG, AQ]
 rfl

end Go.Proofs.Ytbknconogoegaaa
