/-
  Part 6 of the texts. Conditions: none.
-/
import Derived.Test.YtdlbfdcklpleaaaOMd5
namespace Go.Proofs.Ytdlbfdcklpleaaa
open Go Go.RowKit
set_option linter.unusedVariables false
set_option linter.unusedSimpArgs false
set_option maxHeartbeats 400000
theorem CS (s : ByteArray) (k : Nat) : Im s k = An s k := rfl
theorem JK {s : ByteArray} (h : ¬ s.size = 0) : ¬ s = ⟨#[]⟩ := fun e => h (by rw [e]; rfl)
theorem G9 {s : ByteArray} (h : s.size = 0) : s = ⟨#[]⟩ := by
 have := ByteArray.size_eq_zero_iff.1 h
 exact this
theorem NZ (n : Int) (h0 : 0 ≤ n) : AQ Try.prog 50 [.one (.st (.int .u8 n))] (Ag (BA n)) := by
 refine Gv.ac fun C hC => ?_
 unfold ER
 have hc : (97 ≤ n ∧ n ≤ 122) ∨ (122 < n) ∨ (n < 97 ∧ 65 ≤ n ∧ n ≤ 90) ∨ (n < 97 ∧ 90 < n) ∨ (n < 65 ∧ 48 ≤ n ∧ n ≤ 57) ∨ (n < 65 ∧ 57 < n) ∨ (n < 48) := by omega
 rcases hc with h | h | h | h | h | h | h
 ·have h1 : 97 ≤ n := h.1
  have h2 : n ≤ 122 := h.2
  repeat' with_reducible first | refine W ?_ | refine Z0 ?_ | ((first | refine Wo fun K hK => ?_ | refine Wq ?_ | refine Wr ?_); (try simp only [go_sem, fN, seval, eT, iR, h1, h2]); (repeat refine Ai ?_); (try (refine hK _ ?_; clear hK K)))
  simp only [go_sem, fN, seval, AM, AS.result, AB, AD, AI, BA, h1, h2]
  try simp
 ·have h1 : 97 ≤ n := by omega
  have h2 : ¬ n ≤ 122 := by omega
  have h3 : 65 ≤ n := by omega
  have h4 : ¬ n ≤ 90 := by omega
  have h5 : 48 ≤ n := by omega
  have h6 : ¬ n ≤ 57 := by omega
  repeat' with_reducible first | refine W ?_ | refine Z0 ?_ | ((first | refine Wo fun K hK => ?_ | refine Wq ?_ | refine Wr ?_); (try simp only [go_sem, fN, seval, eT, iR, h1, h2, h3, h4, h5, h6]); (repeat refine Ai ?_); (try (refine hK _ ?_; clear hK K)))
  simp only [go_sem, fN, seval, AM, AS.result, AB, AD, AI, BA, h1, h2, h3, h4, h5, h6]
  try simp
 ·have h1 : ¬ 97 ≤ n := by omega
  have h3 : 65 ≤ n := by omega
  have h4 : n ≤ 90 := by omega
  repeat' with_reducible first | refine W ?_ | refine Z0 ?_ | ((first | refine Wo fun K hK => ?_ | refine Wq ?_ | refine Wr ?_); (try simp only [go_sem, fN, seval, eT, iR, h1, h3, h4]); (repeat refine Ai ?_); (try (refine hK _ ?_; clear hK K)))
  simp only [go_sem, fN, seval, AM, AS.result, AB, AD, AI, BA, h1, h3, h4]
  try simp
 ·have h1 : ¬ 97 ≤ n := by omega
  have h3 : 65 ≤ n := by omega
  have h4 : ¬ n ≤ 90 := by omega
  have h5 : 48 ≤ n := by omega
  have h6 : ¬ n ≤ 57 := by omega
  repeat' with_reducible first | refine W ?_ | refine Z0 ?_ | ((first | refine Wo fun K hK => ?_ | refine Wq ?_ | refine Wr ?_); (try simp only [go_sem, fN, seval, eT, iR, h1, h3, h4, h5, h6]); (repeat refine Ai ?_); (try (refine hK _ ?_; clear hK K)))
  simp only [go_sem, fN, seval, AM, AS.result, AB, AD, AI, BA, h1, h3, h4, h5, h6]
  try simp
 ·have h1 : ¬ 97 ≤ n := by omega
  have h3 : ¬ 65 ≤ n := by omega
  have h5 : 48 ≤ n := by omega
  have h6 : n ≤ 57 := by omega
  repeat' with_reducible first | refine W ?_ | refine Z0 ?_ | ((first | refine Wo fun K hK => ?_ | refine Wq ?_ | refine Wr ?_); (try simp only [go_sem, fN, seval, eT, iR, h1, h3, h5, h6]); (repeat refine Ai ?_); (try (refine hK _ ?_; clear hK K)))
  simp only [go_sem, fN, seval, AM, AS.result, AB, AD, AI, BA, h1, h3, h5, h6]
  try simp
 ·have h1 : ¬ 97 ≤ n := by omega
  have h3 : ¬ 65 ≤ n := by omega
  have h5 : 48 ≤ n := by omega
  have h6 : ¬ n ≤ 57 := by omega
  repeat' with_reducible first | refine W ?_ | refine Z0 ?_ | ((first | refine Wo fun K hK => ?_ | refine Wq ?_ | refine Wr ?_); (try simp only [go_sem, fN, seval, eT, iR, h1, h3, h5, h6]); (repeat refine Ai ?_); (try (refine hK _ ?_; clear hK K)))
  simp only [go_sem, fN, seval, AM, AS.result, AB, AD, AI, BA, h1, h3, h5, h6]
  try simp
 ·have h1 : ¬ 97 ≤ n := by omega
  have h3 : ¬ 65 ≤ n := by omega
  have h5 : ¬ 48 ≤ n := by omega
  repeat' with_reducible first | refine W ?_ | refine Z0 ?_ | ((first | refine Wo fun K hK => ?_ | refine Wq ?_ | refine Wr ?_); (try simp only [go_sem, fN, seval, eT, iR, h1, h3, h5]); (repeat refine Ai ?_); (try (refine hK _ ?_; clear hK K)))
  simp only [go_sem, fN, seval, AM, AS.result, AB, AD, AI, BA, h1, h3, h5]
  try simp
theorem LJ (n : Int) (h0 : 0 ≤ n) : AQ Try.prog 42 [.one (.st (.int .u8 n))] (Ag (BA n)) := by
 refine Hs.ac fun C hC => ?_
 unfold Ex
 have hc : (97 ≤ n ∧ n ≤ 122) ∨ (122 < n) ∨ (n < 97 ∧ 65 ≤ n ∧ n ≤ 90) ∨ (n < 97 ∧ 90 < n) ∨ (n < 65 ∧ 48 ≤ n ∧ n ≤ 57) ∨ (n < 65 ∧ 57 < n) ∨ (n < 48) := by omega
 rcases hc with h | h | h | h | h | h | h
 ·have h1 : 97 ≤ n := h.1
  have h2 : n ≤ 122 := h.2
  repeat' with_reducible first | refine W ?_ | refine Z0 ?_ | ((first | refine Wo fun K hK => ?_ | refine Wq ?_ | refine Wr ?_); (try simp only [go_sem, fN, seval, eT, iR, h1, h2]); (repeat refine Ai ?_); (try (refine hK _ ?_; clear hK K)))
  simp only [go_sem, fN, seval, AM, AS.result, AB, AD, AI, BA, h1, h2]
  try simp
 ·have h1 : 97 ≤ n := by omega
  have h2 : ¬ n ≤ 122 := by omega
  have h3 : 65 ≤ n := by omega
  have h4 : ¬ n ≤ 90 := by omega
  have h5 : 48 ≤ n := by omega
  have h6 : ¬ n ≤ 57 := by omega
  repeat' with_reducible first | refine W ?_ | refine Z0 ?_ | ((first | refine Wo fun K hK => ?_ | refine Wq ?_ | refine Wr ?_); (try simp only [go_sem, fN, seval, eT, iR, h1, h2, h3, h4, h5, h6]); (repeat refine Ai ?_); (try (refine hK _ ?_; clear hK K)))
  simp only [go_sem, fN, seval, AM, AS.result, AB, AD, AI, BA, h1, h2, h3, h4, h5, h6]
  try simp
 ·have h1 : ¬ 97 ≤ n := by omega
  have h3 : 65 ≤ n := by omega
  have h4 : n ≤ 90 := by omega
  repeat' with_reducible first | refine W ?_ | refine Z0 ?_ | ((first | refine Wo fun K hK => ?_ | refine Wq ?_ | refine Wr ?_); (try simp only [go_sem, fN, seval, eT, iR, h1, h3, h4]); (repeat refine Ai ?_); (try (refine hK _ ?_; clear hK K)))
  simp only [go_sem, fN, seval, AM, AS.result, AB, AD, AI, BA, h1, h3, h4]
  try simp
 ·have h1 : ¬ 97 ≤ n := by omega
  have h3 : 65 ≤ n := by omega
  have h4 : ¬ n ≤ 90 := by omega
  have h5 : 48 ≤ n := by omega
  have h6 : ¬ n ≤ 57 := by omega
  repeat' with_reducible first | refine W ?_ | refine Z0 ?_ | ((first | refine Wo fun K hK => ?_ | refine Wq ?_ | refine Wr ?_); (try simp only [go_sem, fN, seval, eT, iR, h1, h3, h4, h5, h6]); (repeat refine Ai ?_); (try (refine hK _ ?_; clear hK K)))
  simp only [go_sem, fN, seval, AM, AS.result, AB, AD, AI, BA, h1, h3, h4, h5, h6]
  try simp
 ·have h1 : ¬ 97 ≤ n := by omega
  have h3 : ¬ 65 ≤ n := by omega
  have h5 : 48 ≤ n := by omega
  have h6 : n ≤ 57 := by omega
  repeat' with_reducible first | refine W ?_ | refine Z0 ?_ | ((first | refine Wo fun K hK => ?_ | refine Wq ?_ | refine Wr ?_); (try simp only [go_sem, fN, seval, eT, iR, h1, h3, h5, h6]); (repeat refine Ai ?_); (try (refine hK _ ?_; clear hK K)))
  simp only [go_sem, fN, seval, AM, AS.result, AB, AD, AI, BA, h1, h3, h5, h6]
  try simp
 ·have h1 : ¬ 97 ≤ n := by omega
  have h3 : ¬ 65 ≤ n := by omega
  have h5 : 48 ≤ n := by omega
  have h6 : ¬ n ≤ 57 := by omega
  repeat' with_reducible first | refine W ?_ | refine Z0 ?_ | ((first | refine Wo fun K hK => ?_ | refine Wq ?_ | refine Wr ?_); (try simp only [go_sem, fN, seval, eT, iR, h1, h3, h5, h6]); (repeat refine Ai ?_); (try (refine hK _ ?_; clear hK K)))
  simp only [go_sem, fN, seval, AM, AS.result, AB, AD, AI, BA, h1, h3, h5, h6]
  try simp
 ·have h1 : ¬ 97 ≤ n := by omega
  have h3 : ¬ 65 ≤ n := by omega
  have h5 : ¬ 48 ≤ n := by omega
  repeat' with_reducible first | refine W ?_ | refine Z0 ?_ | ((first | refine Wo fun K hK => ?_ | refine Wq ?_ | refine Wr ?_); (try simp only [go_sem, fN, seval, eT, iR, h1, h3, h5]); (repeat refine Ai ?_); (try (refine hK _ ?_; clear hK K)))
  simp only [go_sem, fN, seval, AM, AS.result, AB, AD, AI, BA, h1, h3, h5]
  try simp
theorem A1 (s : ByteArray) : AQ Try.prog 40 [CQ s] (Ag (AW s)) := by
 by_cases h0 : s.size = 0
 ·have := G9 h0
  subst this
  refine DR.ac fun C hC => ?_
  unfold CG
  repeat' with_reducible first | refine W ?_ | refine Z0 ?_ | ((first | refine Wo fun K hK => ?_ | refine Wq ?_ | refine Wr ?_); (try simp only [go_sem, fN, seval, eT, iR]); (repeat refine Ai ?_); (try (refine hK _ ?_; clear hK K)))
  simp only [go_sem, fN, seval, AM, AS.result, AB, AD, AI]
  rfl
 ·have h1 := JK h0
  have h2 : 0 < s.size := by omega
  refine DR.ac fun C hC => ?_
  unfold CG
  by_cases h3 : 65 ≤ An s 0 <;> by_cases h4 : An s 0 ≤ 90
  all_goals
   repeat' with_reducible first | refine W ?_ | refine Z0 ?_ | ((first | refine Wo fun K hK => ?_ | refine Wq ?_ | refine Wr ?_); (try simp only [go_sem, fN, seval, eT, iR, h1, h2, CS, h3, h4]); (repeat refine Ai ?_); (try (refine hK _ ?_; clear hK K)))
   simp only [go_sem, fN, seval, AM, AS.result, AB, AD, AI, AW, h3, h4, h2]
   try simp
theorem BB (s : ByteArray) : AQ Try.prog 26 [CQ s] (Ag (AW s)) := by
 by_cases h0 : s.size = 0
 ·have := G9 h0
  subst this
  refine HM.ac fun C hC => ?_
  unfold FA
  repeat' with_reducible first | refine W ?_ | refine Z0 ?_ | ((first | refine Wo fun K hK => ?_ | refine Wq ?_ | refine Wr ?_); (try simp only [go_sem, fN, seval, eT, iR]); (repeat refine Ai ?_); (try (refine hK _ ?_; clear hK K)))
  simp only [go_sem, fN, seval, AM, AS.result, AB, AD, AI]
  rfl
 ·have h1 := JK h0
  have h2 : 0 < s.size := by omega
  refine HM.ac fun C hC => ?_
  unfold FA
  by_cases h3 : 65 ≤ An s 0 <;> by_cases h4 : An s 0 ≤ 90
  all_goals
   repeat' with_reducible first | refine W ?_ | refine Z0 ?_ | ((first | refine Wo fun K hK => ?_ | refine Wq ?_ | refine Wr ?_); (try simp only [go_sem, fN, seval, eT, iR, h1, h2, CS, h3, h4]); (repeat refine Ai ?_); (try (refine hK _ ?_; clear hK K)))
   simp only [go_sem, fN, seval, AM, AS.result, AB, AD, AI, AW, h3, h4, h2]
   try simp
theorem H8 (s : ByteArray) (h1 : 1 ≤ s.size) (h8 : s.size ≤ 8) (hd : ¬ (48 ≤ An s 0 ∧ An s 0 ≤ 57)) : A0 s = BZ s s.size := by
 unfold A0
 have : (decide (48 ≤ An s 0) && decide (An s 0 ≤ 57)) = false := by
  rw [Bool.and_eq_false_iff]
  simp
  omega
 rw [this]
 simp [h1, h8]
theorem Oc (s : ByteArray) : AQ Try.prog 39 [CQ s] (Ag (A0 s)) := by
 by_cases h0 : s.size < 1
 ·have e : A0 s = false := by simp [A0]; omega
  rw [e]
  have h0' : (s.size : Int) < 1 := by omega
  refine Cd.ac fun C hC => ?_
  unfold Bz
  repeat' with_reducible first | refine W ?_ | refine Z0 ?_ | ((first | refine Wo fun K hK => ?_ | refine Wq ?_ | refine Wr ?_); (try simp only [go_sem, fN, seval, eT, iR, h0']); (repeat refine Ai ?_); (try (refine hK _ ?_; clear hK K)))
  with_reducible refine Wp ?_
  simp only [go_sem, fN, seval, true_implies, false_implies, implies_true, dT, dF, nL, h0']
  (try with_reducible refine iC ?_)
  repeat' with_reducible first | refine W ?_ | refine Z0 ?_ | ((first | refine Wo fun K hK => ?_ | refine Wq ?_ | refine Wr ?_); (try simp only [go_sem, fN, seval, eT, iR]); (repeat refine Ai ?_); (try (refine hK _ ?_; clear hK K)))
  simp only [go_sem, fN, seval, AM, AS.result, AB, AD, AI]
 have h0' : ¬ (s.size : Int) < 1 := by omega
 by_cases h8 : 8 < s.size
 ·have e : A0 s = false := by simp [A0]; omega
  rw [e]
  have h8' : (8 : Int) < s.size := by omega
  refine Cd.ac fun C hC => ?_
  unfold Bz
  repeat' with_reducible first | refine W ?_ | refine Z0 ?_ | ((first | refine Wo fun K hK => ?_ | refine Wq ?_ | refine Wr ?_); (try simp only [go_sem, fN, seval, eT, iR, h0', h8']); (repeat refine Ai ?_); (try (refine hK _ ?_; clear hK K)))
  with_reducible refine Wp ?_
  simp only [go_sem, fN, seval, true_implies, false_implies, implies_true, dT, dF, nL, h0']
  (try with_reducible refine iC ?_)
  repeat' with_reducible first | refine W ?_ | refine Z0 ?_ | ((first | refine Wo fun K hK => ?_ | refine Wq ?_ | refine Wr ?_); (try simp only [go_sem, fN, seval, eT, iR]); (repeat refine Ai ?_); (try (refine hK _ ?_; clear hK K)))
  simp only [go_sem, fN, seval, AM, AS.result, AB, AD, AI]
 have h8' : ¬ (8 : Int) < s.size := by omega
 have hpos : 0 < s.size := by omega
 by_cases hd : 48 ≤ An s 0 ∧ An s 0 ≤ 57
 ·have e : A0 s = false := by simp [A0, hd.1, hd.2]
  rw [e]
  refine Cd.ac fun C hC => ?_
  unfold Bz
  repeat' with_reducible first | refine W ?_ | refine Z0 ?_ | ((first | refine Wo fun K hK => ?_ | refine Wq ?_ | refine Wr ?_); (try simp only [go_sem, fN, seval, eT, iR, h0', h8', hpos, CS, hd.1, hd.2]); (repeat refine Ai ?_); (try (refine hK _ ?_; clear hK K)))
  with_reducible refine Wp ?_
  simp only [go_sem, fN, seval, true_implies, false_implies, implies_true, dT, dF, nL, h0']
  (try with_reducible refine iC ?_)
  repeat' with_reducible first | refine W ?_ | refine Z0 ?_ | ((first | refine Wo fun K hK => ?_ | refine Wq ?_ | refine Wr ?_); (try simp only [go_sem, fN, seval, eT, iR]); (repeat refine Ai ?_); (try (refine hK _ ?_; clear hK K)))
  simp only [go_sem, fN, seval, AM, AS.result, AB, AD, AI]
 rw [H8 s (by omega) (by omega) hd]
 have hd2 : (48 ≤ An s 0 ∧ ¬ An s 0 ≤ 57) ∨ (¬ 48 ≤ An s 0) := by omega
 refine Cd.ac fun C hC => ?_
 unfold Bz
 have h57 : 48 ≤ An s 0 → ¬ An s 0 ≤ 57 := fun h h' => hd ⟨h, h'⟩
 by_cases h48 : 48 ≤ An s 0
 all_goals
  simp only [h48, true_implies, false_implies] at h57
  repeat' with_reducible first | refine W ?_ | refine Z0 ?_ | ((first | refine Wo fun K hK => ?_ | refine Wq ?_ | refine Wr ?_); (try simp only [go_sem, fN, seval, eT, iR, h0', h8', hpos, CS, h48, h57]); (repeat refine Ai ?_); (try (refine hK _ ?_; clear hK K)))
  with_reducible refine Wp ?_
  simp only [go_sem, fN, seval, true_implies, false_implies, implies_true, dT, dF, nL, h0']
  (try with_reducible refine iC ?_)
  repeat' with_reducible first | refine W ?_ | refine Z0 ?_ | ((first | refine Wo fun K hK => ?_ | refine Wq ?_ | refine Wr ?_); (try simp only [go_sem, fN, seval, eT, iR]); (repeat refine Ai ?_); (try (refine hK _ ?_; clear hK K)))
  refine IWP.loop (fun m x => ∃ k, k ≤ s.size ∧ m = s.size - k ∧ BZ s k = true ∧ x.env 0 = CQ s ∧ x.env 23 = AR s.size ∧ x.env 24 = AR k) s.size ⟨0, Nat.zero_le _, rfl, rfl, rfl, rfl, rfl⟩ ?_
  rintro m ⟨env, S⟩ ⟨k, hk, rfl, hl, e0, e23, e24⟩
  simp only at e0 e23 e24
  repeat' with_reducible first | refine W ?_ | refine Z0 ?_ | ((first | refine Wo fun K hK => ?_ | refine Wq ?_ | refine Wr ?_); (try simp only [go_sem, fN, seval, eT, iR, e0, e23, e24]); (repeat refine Ai ?_); (try (refine hK _ ?_; clear hK K)))
  with_reducible refine Wp ?_
  simp only [go_sem, fN, seval, true_implies, false_implies, implies_true, dT, dF, nL, e0, e23, e24]
  (try with_reducible refine iC ?_)
  refine ⟨fun hlt => ?_, fun hge => ?_⟩
  ·have hlt' : k < s.size := by omega
   repeat' (first | (with_reducible first | refine W ?_ | refine Z0 ?_ | ((first | refine Wo fun K hK => ?_ | refine Wq ?_ | refine Wr ?_); (try simp only [go_sem, fN, seval, eT, iR, e0, e23, e24, hlt', CS]); (repeat refine Ai ?_); (try (refine hK _ ?_; clear hK K)))) | refine Cg _ (NZ _ (FR s k).1) ?_)
   with_reducible refine Wp ?_
   simp only [go_sem, fN, seval, true_implies, false_implies, implies_true, dT, dF, nL]
   (try with_reducible refine iC ?_)
   refine ⟨fun hn => ?_, fun hn => ?_⟩
   ·repeat' with_reducible first | refine W ?_ | refine Z0 ?_ | ((first | refine Wo fun K hK => ?_ | refine Wq ?_ | refine Wr ?_); (try simp only [go_sem, fN, seval, eT, iR]); (repeat refine Ai ?_); (try (refine hK _ ?_; clear hK K)))
    simp only [go_sem, fN, seval, AM, AS.result, AB, AD, AI]
    rw [Fj s k hlt' (by simpa using hn)]
   ·repeat' with_reducible first | refine W ?_ | refine Z0 ?_ | ((first | refine Wo fun K hK => ?_ | refine Wq ?_ | refine Wr ?_); (try simp only [go_sem, fN, seval, eT, iR, e0, e23, e24]); (repeat refine Ai ?_); (try (refine hK _ ?_; clear hK K)))
    refine AH ⟨s.size - (k + 1), by omega, k + 1, by omega, rfl, ?_, ?_⟩
    ·rw [EO s k hlt', hl]
     simpa using hn
    ·simp only [go_sem, fN, seval, eT, iR, e0, e23, e24]
     congr 3
  ·repeat' with_reducible first | refine W ?_ | refine Z0 ?_ | ((first | refine Wo fun K hK => ?_ | refine Wq ?_ | refine Wr ?_); (try simp only [go_sem, fN, seval, eT, iR]); (repeat refine Ai ?_); (try (refine hK _ ?_; clear hK K)))
   simp only [go_sem, fN, seval, AM, AS.result, AB, AD, AI]
   rw [show s.size = k by omega, hl]
theorem EE (s : ByteArray) : AQ Try.prog 25 [CQ s] (Ag (A0 s)) := by
 by_cases h0 : s.size < 1
 ·have e : A0 s = false := by simp [A0]; omega
  rw [e]
  have h0' : s = ⟨#[]⟩ := G9 (by omega)
  subst h0'
  refine C5.ac fun C hC => ?_
  unfold CP
  repeat' with_reducible first | refine W ?_ | refine Z0 ?_ | ((first | refine Wo fun K hK => ?_ | refine Wq ?_ | refine Wr ?_); (try simp only [go_sem, fN, seval, eT, iR]); (repeat refine Ai ?_); (try (refine hK _ ?_; clear hK K)))
  with_reducible refine Wp ?_
  simp only [go_sem, fN, seval, true_implies, false_implies, implies_true, dT, dF, nL]
  (try with_reducible refine iC ?_)
  repeat' with_reducible first | refine W ?_ | refine Z0 ?_ | ((first | refine Wo fun K hK => ?_ | refine Wq ?_ | refine Wr ?_); (try simp only [go_sem, fN, seval, eT, iR]); (repeat refine Ai ?_); (try (refine hK _ ?_; clear hK K)))
  simp only [go_sem, fN, seval, AM, AS.result, AB, AD, AI]
 have h0' : ¬ s = ⟨#[]⟩ := JK (by omega)
 by_cases h8 : 8 < s.size
 ·have e : A0 s = false := by simp [A0]; omega
  rw [e]
  have h8' : (8 : Int) < s.size := by omega
  refine C5.ac fun C hC => ?_
  unfold CP
  repeat' with_reducible first | refine W ?_ | refine Z0 ?_ | ((first | refine Wo fun K hK => ?_ | refine Wq ?_ | refine Wr ?_); (try simp only [go_sem, fN, seval, eT, iR, h0', h8']); (repeat refine Ai ?_); (try (refine hK _ ?_; clear hK K)))
  with_reducible refine Wp ?_
  simp only [go_sem, fN, seval, true_implies, false_implies, implies_true, dT, dF, nL, h0']
  (try with_reducible refine iC ?_)
  repeat' with_reducible first | refine W ?_ | refine Z0 ?_ | ((first | refine Wo fun K hK => ?_ | refine Wq ?_ | refine Wr ?_); (try simp only [go_sem, fN, seval, eT, iR]); (repeat refine Ai ?_); (try (refine hK _ ?_; clear hK K)))
  simp only [go_sem, fN, seval, AM, AS.result, AB, AD, AI]
 have h8' : ¬ (8 : Int) < s.size := by omega
 have hpos : 0 < s.size := by omega
 by_cases hd : 48 ≤ An s 0 ∧ An s 0 ≤ 57
 ·have e : A0 s = false := by simp [A0, hd.1, hd.2]
  rw [e]
  refine C5.ac fun C hC => ?_
  unfold CP
  repeat' with_reducible first | refine W ?_ | refine Z0 ?_ | ((first | refine Wo fun K hK => ?_ | refine Wq ?_ | refine Wr ?_); (try simp only [go_sem, fN, seval, eT, iR, h0', h8', hpos, CS, hd.1, hd.2]); (repeat refine Ai ?_); (try (refine hK _ ?_; clear hK K)))
  with_reducible refine Wp ?_
  simp only [go_sem, fN, seval, true_implies, false_implies, implies_true, dT, dF, nL, h0']
  (try with_reducible refine iC ?_)
  repeat' with_reducible first | refine W ?_ | refine Z0 ?_ | ((first | refine Wo fun K hK => ?_ | refine Wq ?_ | refine Wr ?_); (try simp only [go_sem, fN, seval, eT, iR]); (repeat refine Ai ?_); (try (refine hK _ ?_; clear hK K)))
  simp only [go_sem, fN, seval, AM, AS.result, AB, AD, AI]
 rw [H8 s (by omega) (by omega) hd]
 refine C5.ac fun C hC => ?_
 unfold CP
 have h57 : 48 ≤ An s 0 → ¬ An s 0 ≤ 57 := fun h h' => hd ⟨h, h'⟩
 by_cases h48 : 48 ≤ An s 0
 all_goals
  simp only [h48, true_implies, false_implies] at h57
  repeat' with_reducible first | refine W ?_ | refine Z0 ?_ | ((first | refine Wo fun K hK => ?_ | refine Wq ?_ | refine Wr ?_); (try simp only [go_sem, fN, seval, eT, iR, h0', h8', hpos, CS, h48, h57]); (repeat refine Ai ?_); (try (refine hK _ ?_; clear hK K)))
  with_reducible refine Wp ?_
  simp only [go_sem, fN, seval, true_implies, false_implies, implies_true, dT, dF, nL, h0']
  (try with_reducible refine iC ?_)
  repeat' with_reducible first | refine W ?_ | refine Z0 ?_ | ((first | refine Wo fun K hK => ?_ | refine Wq ?_ | refine Wr ?_); (try simp only [go_sem, fN, seval, eT, iR]); (repeat refine Ai ?_); (try (refine hK _ ?_; clear hK K)))
  refine IWP.loop (fun m x => ∃ k, k ≤ s.size ∧ m = s.size - k ∧ BZ s k = true ∧ x.env 0 = CQ s ∧ x.env 3 = AR k) s.size ⟨0, Nat.zero_le _, rfl, rfl, rfl, rfl⟩ ?_
  rintro m ⟨env, S⟩ ⟨k, hk, rfl, hl, e0, e3⟩
  simp only at e0 e3
  repeat' with_reducible first | refine W ?_ | refine Z0 ?_ | ((first | refine Wo fun K hK => ?_ | refine Wq ?_ | refine Wr ?_); (try simp only [go_sem, fN, seval, eT, iR, e0, e3]); (repeat refine Ai ?_); (try (refine hK _ ?_; clear hK K)))
  with_reducible refine Wp ?_
  simp only [go_sem, fN, seval, true_implies, false_implies, implies_true, dT, dF, nL, e0, e3]
  (try with_reducible refine iC ?_)
  refine ⟨fun hlt => ?_, fun hge => ?_⟩
  ·have hlt' : k < s.size := by omega
   repeat' (first | (with_reducible first | refine W ?_ | refine Z0 ?_ | ((first | refine Wo fun K hK => ?_ | refine Wq ?_ | refine Wr ?_); (try simp only [go_sem, fN, seval, eT, iR, e0, e3, hlt', CS]); (repeat refine Ai ?_); (try (refine hK _ ?_; clear hK K)))) | refine Cg _ (LJ _ (FR s k).1) ?_)
   with_reducible refine Wp ?_
   simp only [go_sem, fN, seval, true_implies, false_implies, implies_true, dT, dF, nL]
   (try with_reducible refine iC ?_)
   refine ⟨fun hn => ?_, fun hn => ?_⟩
   ·repeat' with_reducible first | refine W ?_ | refine Z0 ?_ | ((first | refine Wo fun K hK => ?_ | refine Wq ?_ | refine Wr ?_); (try simp only [go_sem, fN, seval, eT, iR]); (repeat refine Ai ?_); (try (refine hK _ ?_; clear hK K)))
    simp only [go_sem, fN, seval, AM, AS.result, AB, AD, AI]
    rw [Fj s k hlt' (by simpa using hn)]
   ·repeat' with_reducible first | refine W ?_ | refine Z0 ?_ | ((first | refine Wo fun K hK => ?_ | refine Wq ?_ | refine Wr ?_); (try simp only [go_sem, fN, seval, eT, iR, e0, e3]); (repeat refine Ai ?_); (try (refine hK _ ?_; clear hK K)))
    refine AH ⟨s.size - (k + 1), by omega, k + 1, by omega, rfl, ?_, ?_⟩
    ·rw [EO s k hlt', hl]
     simpa using hn
    ·simp only [go_sem, fN, seval, eT, iR, e0, e3]
     congr 3
  ·repeat' with_reducible first | refine W ?_ | refine Z0 ?_ | ((first | refine Wo fun K hK => ?_ | refine Wq ?_ | refine Wr ?_); (try simp only [go_sem, fN, seval, eT, iR]); (repeat refine Ai ?_); (try (refine hK _ ?_; clear hK K)))
   simp only [go_sem, fN, seval, AM, AS.result, AB, AD, AI]
   rw [show s.size = k by omega, hl]
theorem Nu (t : Tm) (m : Int) (h0 : 0 ≤ m) (h1 : m ≤ 9223372036854775807) : AQ Try.prog 58 [aTm t, AR m] (AR (BV t.size m)) := by
 induction h : SizeOf.sizeOf t using Nat.strongRecOn generalizing t m with
 | _ N ih =>
 subst h
 have hs := Tm.size_eq t
 refine G8.ac fun C hC => ?_
 unfold EF
 refine IWP.learn 0 (by omega) fun hkn => ?_
 have hkn := EL hkn
 repeat' with_reducible first | refine W ?_ | refine Z0 ?_ | ((first | refine Wo fun K hK => ?_ | refine Wq ?_ | refine Wr ?_); (try simp only [go_sem, fN, seval, eT, iR]); (repeat refine Ai ?_); (try (refine hK _ ?_; clear hK K)))
 refine IWP.loopD [6] (fun n s => ∃ k, k ≤ t.args.length ∧ n = t.args.length - k ∧ s.env 1 = AR (BV (1 + Tm.sizes (t.args.take k)) m) ∧ s.env 10 = .one (.st (.list (t.args.map BI))) ∧ s.env 11 = AR t.args.length ∧ s.env 12 = AR k ∧ s.S 6 = none) t.args.length ⟨0, Nat.zero_le _, rfl, by
  simp only [go_sem, fN, seval, eT, iR]
  rw [BV]
  have z0 : Tm.sizes [] = 0 := rfl
  congr 3
  split <;> omega, rfl, rfl, rfl, rfl⟩ ?_
 rintro n ⟨env, S⟩ ⟨k, hk, rfl, e1, e10, e11, e12, s6⟩
 simp only at e1 e10 e11 e12 s6
 repeat' with_reducible first | refine W ?_ | refine Z0 ?_ | ((first | refine Wo fun K hK => ?_ | refine Wq ?_ | refine Wr ?_); (try simp only [go_sem, fN, seval, eT, iR, e1, e10, e11, e12, s6]); (repeat refine Ai ?_); (try (refine hK _ ?_; clear hK K)))
 with_reducible refine Wp ?_
 simp only [go_sem, fN, seval, true_implies, false_implies, implies_true, dT, dF, nL, e1, e10, e11, e12, s6]
 (try with_reducible refine iC ?_)
 refine ⟨fun hlt => ?_, fun hge => ?_⟩
 ·obtain ⟨a, ha⟩ := Aj (show k < t.args.length by omega)
  have z1 := Tm.sizes_take ha
  have z2 := Tm.sizes_take_le t.args (k + 1)
  have z3 := Tm.length_le t.args
  have z4 := MY (1 + Tm.sizes (t.args.take k)) m h0
  repeat' with_reducible first | refine W ?_ | refine Z0 ?_ | ((first | refine Wo fun K hK => ?_ | refine Wq ?_ | refine Wr ?_); (try simp only [go_sem, fN, seval, eT, iR, e1, e10, e11, e12, s6, ha]); (repeat refine Ai ?_); (try (refine hK _ ?_; clear hK K)))
  with_reducible refine Wp ?_
  simp only [go_sem, fN, seval, true_implies, false_implies, implies_true, dT, dF, nL, e1]
  (try with_reducible refine iC ?_)
  refine ⟨fun hb => ?_, fun hb => ?_⟩
  ·repeat' with_reducible first | refine W ?_ | refine Z0 ?_ | ((first | refine Wo fun K hK => ?_ | refine Wq ?_ | refine Wr ?_); (try simp only [go_sem, fN, seval, eT, iR, e1]); (repeat refine Ai ?_); (try (refine hK _ ?_; clear hK K)))
   simp only [go_sem, fN, seval, AM, AS.result, AB, AD, AI, e1]
   rw [LM hb (show _ ≤ t.size by rw [hs]; omega)]
  ·repeat' (first | (with_reducible first | refine W ?_ | refine Z0 ?_ | ((first | refine Wo fun K hK => ?_ | refine Wq ?_ | refine Wr ?_); (try simp only [go_sem, fN, seval, eT, iR, e1, e10, e11, e12, s6, ha]); (repeat refine Ai ?_); (try (refine hK _ ?_; clear hK K)))) | refine Cg _ (ih _ (Tm.lt_of_arg (Ae ha)) a _ (by omega) (by omega) rfl) ?_)
   refine AH ⟨t.args.length - (k + 1), by omega, k + 1, by omega, rfl, ?_⟩
   simp only [go_sem, fN, seval, AS.drop, Bc, AC.clears, AC.clear, AC.highs, AC.high, Bool.not_false, Bool.true_and, Bool.and_self, AV.purge, AV.purges, AC.purge, AJ.purge, List.contains_cons, List.contains_nil, Nat.reduceBEq, Bool.or_self, Bool.or_false, Bool.false_or, Bool.or_true, eT, iR, e1, e10, e11, e12, s6]
   exact ⟨by rw [Ko (by omega), z1]; congr 4; omega, by congr 3⟩
 ·repeat' with_reducible first | refine W ?_ | refine Z0 ?_ | ((first | refine Wo fun K hK => ?_ | refine Wq ?_ | refine Wr ?_); (try simp only [go_sem, fN, seval, eT, iR, e1]); (repeat refine Ai ?_); (try (refine hK _ ?_; clear hK K)))
  simp only [go_sem, fN, seval, AM, AS.result, AB, AD, AI, e1]
  rw [List.take_of_length_le (by omega), hs]
theorem Fd (t : Tm) (m : Int) (h0 : 0 ≤ m) (h1 : m ≤ 9223372036854775806) : AQ Try.prog 17 [aTm t, AR m] (AR (Az t.size m)) := by
 induction h : SizeOf.sizeOf t using Nat.strongRecOn generalizing t m with
 | _ N ih =>
 subst h
 have hs := Tm.size_eq t
 refine Mz.ac fun C hC => ?_
 unfold Ih
 refine IWP.learn 0 (by omega) fun hkn => ?_
 have hkn := EL hkn
 repeat' with_reducible first | refine W ?_ | refine Z0 ?_ | ((first | refine Wo fun K hK => ?_ | refine Wq ?_ | refine Wr ?_); (try simp only [go_sem, fN, seval, eT, iR]); (repeat refine Ai ?_); (try (refine hK _ ?_; clear hK K)))
 refine IWP.loop (fun n s => ∃ k, k ≤ t.args.length ∧ n = t.args.length - k ∧ s.env 5 = AR (Az (1 + Tm.sizes (t.args.take k)) m) ∧ s.env 1 = AR m ∧ s.env 2 = .one (.ptr 2 1 0 0) ∧ s.env 6 = AR k ∧ s.S 2 = some (.box 25 [.st (.str t.name), .st (.list (t.args.map BI))])) t.args.length ⟨0, Nat.zero_le _, rfl, by
  simp only [go_sem, fN, seval, eT, iR]
  rw [Az]
  have z0 : Tm.sizes [] = 0 := rfl
  congr 3
  split <;> omega, rfl, rfl, rfl, rfl⟩ ?_
 rintro n ⟨env, S⟩ ⟨k, hk, rfl, e5, e1, e2, e6, s2⟩
 simp only at e5 e1 e2 e6 s2
 have z4 := FO (1 + Tm.sizes (t.args.take k)) m h0
 by_cases hlt : (k : Int) < t.args.length
 ·obtain ⟨a, ha⟩ := Aj (show k < t.args.length by omega)
  have z1 := Tm.sizes_take ha
  have z2 := Tm.sizes_take_le t.args (k + 1)
  by_cases hb : m < Az (1 + Tm.sizes (t.args.take k)) m
  ·have hb' : ¬ Az (1 + Tm.sizes (t.args.take k)) m ≤ m := by omega
   repeat' with_reducible first | refine W ?_ | refine Z0 ?_ | ((first | refine Wo fun K hK => ?_ | refine Wq ?_ | refine Wr ?_); (try simp only [go_sem, fN, seval, eT, iR, e5, e1, e2, e6, s2, hlt, hb']); (repeat refine Ai ?_); (try (refine hK _ ?_; clear hK K)))
   with_reducible refine Wp ?_
   simp only [go_sem, fN, seval, true_implies, false_implies, implies_true, dT, dF, nL, hb']
   (try with_reducible refine iC ?_)
   repeat' with_reducible first | refine W ?_ | refine Z0 ?_ | ((first | refine Wo fun K hK => ?_ | refine Wq ?_ | refine Wr ?_); (try simp only [go_sem, fN, seval, eT, iR, e5, e1, e2, e6, s2]); (repeat refine Ai ?_); (try (refine hK _ ?_; clear hK K)))
   with_reducible refine Wp ?_
   simp only [go_sem, fN, seval, true_implies, false_implies, implies_true, dT, dF, nL, hb]
   (try with_reducible refine iC ?_)
   repeat' with_reducible first | refine W ?_ | refine Z0 ?_ | ((first | refine Wo fun K hK => ?_ | refine Wq ?_ | refine Wr ?_); (try simp only [go_sem, fN, seval, eT, iR, e1]); (repeat refine Ai ?_); (try (refine hK _ ?_; clear hK K)))
   simp only [go_sem, fN, seval, AM, AS.result, AB, AD, AI]
   rw [Dh hb (show _ ≤ t.size by rw [hs]; omega)]
  ·have hb' : Az (1 + Tm.sizes (t.args.take k)) m ≤ m := by omega
   obtain ⟨b1, b2⟩ := FZ hb
   repeat' with_reducible first | refine W ?_ | refine Z0 ?_ | ((first | refine Wo fun K hK => ?_ | refine Wq ?_ | refine Wr ?_); (try simp only [go_sem, fN, seval, eT, iR, e5, e1, e2, e6, s2, hlt, hb']); (repeat refine Ai ?_); (try (refine hK _ ?_; clear hK K)))
   with_reducible refine Wp ?_
   simp only [go_sem, fN, seval, true_implies, false_implies, implies_true, dT, dF, nL, hb']
   (try with_reducible refine iC ?_)
   repeat' with_reducible first | refine W ?_ | refine Z0 ?_ | ((first | refine Wo fun K hK => ?_ | refine Wq ?_ | refine Wr ?_); (try simp only [go_sem, fN, seval, eT, iR, e5, e1, e2, e6, s2, ha]); (repeat refine Ai ?_); (try (refine hK _ ?_; clear hK K)))
   refine ⟨_, ih _ (Tm.lt_of_arg (Ae ha)) a (m - Az (1 + Tm.sizes (t.args.take k)) m) (by omega) (by omega) rfl, ?_⟩
   have z5 := FO a.size (m - Az (1 + Tm.sizes (t.args.take k)) m) (by omega)
   repeat' with_reducible first | refine W ?_ | refine Z0 ?_ | ((first | refine Wo fun K hK => ?_ | refine Wq ?_ | refine Wr ?_); (try simp only [go_sem, fN, seval, eT, iR, e5, e1, e2, e6, s2]); (repeat refine Ai ?_); (try (refine hK _ ?_; clear hK K)))
   refine AH ⟨t.args.length - (k + 1), by omega, k + 1, by omega, rfl, ?_⟩
   simp only [go_sem, fN, seval, eT, iR, e5, e1, e2, e6, s2]
   exact ⟨by rw [b1, G2 b2, z1]; congr 4; omega, by congr 3⟩
 ·repeat' with_reducible first | refine W ?_ | refine Z0 ?_ | ((first | refine Wo fun K hK => ?_ | refine Wq ?_ | refine Wr ?_); (try simp only [go_sem, fN, seval, eT, iR, e5, e1, e2, e6, s2, hlt]); (repeat refine Ai ?_); (try (refine hK _ ?_; clear hK K)))
  with_reducible refine Wp ?_
  simp only [go_sem, fN, seval, true_implies, false_implies, implies_true, dT, dF, nL]
  (try with_reducible refine iC ?_)
  have hfull : 1 + Tm.sizes (t.args.take k) = t.size := by rw [List.take_of_length_le (by omega), hs]
  rw [hfull] at e5 z4
  repeat' with_reducible first | refine W ?_ | refine Z0 ?_ | ((first | refine Wo fun K hK => ?_ | refine Wq ?_ | refine Wr ?_); (try simp only [go_sem, fN, seval, eT, iR, e5, e1]); (repeat refine Ai ?_); (try (refine hK _ ?_; clear hK K)))
  by_cases hb : m < Az t.size m
  ·with_reducible refine Wp ?_
   simp only [go_sem, fN, seval, true_implies, false_implies, implies_true, dT, dF, nL, hb]
   (try with_reducible refine iC ?_)
   repeat' with_reducible first | refine W ?_ | refine Z0 ?_ | ((first | refine Wo fun K hK => ?_ | refine Wq ?_ | refine Wr ?_); (try simp only [go_sem, fN, seval, eT, iR, e1]); (repeat refine Ai ?_); (try (refine hK _ ?_; clear hK K)))
   simp only [go_sem, fN, seval, AM, AS.result, AB, AD, AI]
   rw [Dh hb (Nat.le_refl _)]
  ·with_reducible refine Wp ?_
   simp only [go_sem, fN, seval, true_implies, false_implies, implies_true, dT, dF, nL, hb]
   (try with_reducible refine iC ?_)
   repeat' with_reducible first | refine W ?_ | refine Z0 ?_ | ((first | refine Wo fun K hK => ?_ | refine Wq ?_ | refine Wr ?_); (try simp only [go_sem, fN, seval, eT, iR, e5]); (repeat refine Ai ?_); (try (refine hK _ ?_; clear hK K)))
   simp only [go_sem, fN, seval, AM, AS.result, AB, AD, AI, e5]
theorem O8 (t : Tm) : AQ Try.prog 59 [aTm t] (AR t.chk) := by
 induction h : SizeOf.sizeOf t using Nat.strongRecOn generalizing t with
 | _ N ih =>
 subst h
 have hc := Tm.chk_eq t
 have hc1 : Br t = if A0 t.name = true then (if AW t.name = true ∧ 0 < t.args.length then 2 else 0) else 1 := rfl
 refine Hp.ac fun C hC => ?_
 unfold Eo
 refine IWP.learn 0 (by omega) fun hkn => ?_
 have hkn := EL hkn
 repeat' with_reducible first | refine W ?_ | refine Z0 ?_ | ((first | refine Wo fun K hK => ?_ | refine Wq ?_ | refine Wr ?_); (try simp only [go_sem, fN, seval, eT, iR]); (repeat refine Ai ?_); (try (refine hK _ ?_; clear hK K)))
 refine ⟨_, Oc _, ?_⟩
 cases hn : A0 t.name with
 | false =>
  rw [hn, if_neg (by simp)] at hc1
  repeat' with_reducible first | refine W ?_ | refine Z0 ?_ | ((first | refine Wo fun K hK => ?_ | refine Wq ?_ | refine Wr ?_); (try simp only [go_sem, fN, seval, eT, iR]); (repeat refine Ai ?_); (try (refine hK _ ?_; clear hK K)))
  with_reducible refine Wp ?_
  simp only [go_sem, fN, seval, true_implies, false_implies, implies_true, dT, dF, nL]
  (try with_reducible refine iC ?_)
  repeat' with_reducible first | refine W ?_ | refine Z0 ?_ | ((first | refine Wo fun K hK => ?_ | refine Wq ?_ | refine Wr ?_); (try simp only [go_sem, fN, seval, eT, iR]); (repeat refine Ai ?_); (try (refine hK _ ?_; clear hK K)))
  simp only [go_sem, fN, seval, AM, AS.result, AB, AD, AI]
  rw [hc, hc1]
  rfl
 | true =>
  rw [hn, if_pos rfl] at hc1
  repeat' with_reducible first | refine W ?_ | refine Z0 ?_ | ((first | refine Wo fun K hK => ?_ | refine Wq ?_ | refine Wr ?_); (try simp only [go_sem, fN, seval, eT, iR]); (repeat refine Ai ?_); (try (refine hK _ ?_; clear hK K)))
  with_reducible refine Wp ?_
  simp only [go_sem, fN, seval, true_implies, false_implies, implies_true, dT, dF, nL]
  (try with_reducible refine iC ?_)
  repeat' with_reducible first | refine W ?_ | refine Z0 ?_ | ((first | refine Wo fun K hK => ?_ | refine Wq ?_ | refine Wr ?_); (try simp only [go_sem, fN, seval, eT, iR]); (repeat refine Ai ?_); (try (refine hK _ ?_; clear hK K)))
  refine ⟨_, A1 _, ?_⟩
  by_cases hv : AW t.name = true ∧ 0 < t.args.length
  ·obtain ⟨hv1, hv2⟩ := hv
   have hv2' : (0 : Int) < t.args.length := by omega
   rw [if_pos ⟨hv1, hv2⟩] at hc1
   rw [hv1]
   repeat' with_reducible first | refine W ?_ | refine Z0 ?_ | ((first | refine Wo fun K hK => ?_ | refine Wq ?_ | refine Wr ?_); (try simp only [go_sem, fN, seval, eT, iR, hv2']); (repeat refine Ai ?_); (try (refine hK _ ?_; clear hK K)))
   with_reducible refine Wp ?_
   simp only [go_sem, fN, seval, true_implies, false_implies, implies_true, dT, dF, nL, hv2']
   (try with_reducible refine iC ?_)
   repeat' with_reducible first | refine W ?_ | refine Z0 ?_ | ((first | refine Wo fun K hK => ?_ | refine Wq ?_ | refine Wr ?_); (try simp only [go_sem, fN, seval, eT, iR]); (repeat refine Ai ?_); (try (refine hK _ ?_; clear hK K)))
   simp only [go_sem, fN, seval, AM, AS.result, AB, AD, AI]
   rw [hc, hc1]
   rfl
  ·rw [if_neg hv] at hc1
   rw [if_pos hc1] at hc
   have hv2 : AW t.name = true → ¬ (0 : Int) < t.args.length := fun h h' => hv ⟨h, by omega⟩
   cases hvv : AW t.name
   all_goals
    simp only [hvv, true_implies, false_implies, Bool.false_eq_true] at hv2
    repeat' with_reducible first | refine W ?_ | refine Z0 ?_ | ((first | refine Wo fun K hK => ?_ | refine Wq ?_ | refine Wr ?_); (try simp only [go_sem, fN, seval, eT, iR, hv2]); (repeat refine Ai ?_); (try (refine hK _ ?_; clear hK K)))
    with_reducible refine Wp ?_
    simp only [go_sem, fN, seval, true_implies, false_implies, implies_true, dT, dF, nL, hv2]
    (try with_reducible refine iC ?_)
    repeat' with_reducible first | refine W ?_ | refine Z0 ?_ | ((first | refine Wo fun K hK => ?_ | refine Wq ?_ | refine Wr ?_); (try simp only [go_sem, fN, seval, eT, iR]); (repeat refine Ai ?_); (try (refine hK _ ?_; clear hK K)))
    refine IWP.loopD [4] (fun n s => ∃ k, k ≤ t.args.length ∧ n = t.args.length - k ∧ Tm.chkL (t.args.take k) = 0 ∧ s.env 20 = .one (.st (.list (t.args.map BI))) ∧ s.env 21 = AR t.args.length ∧ s.env 22 = AR k ∧ s.S 4 = none) t.args.length ⟨0, Nat.zero_le _, rfl, rfl, rfl, rfl, rfl, rfl⟩ ?_
    rintro n ⟨env, S⟩ ⟨k, hk, rfl, h0, e20, e21, e22, s4⟩
    simp only at e20 e21 e22 s4
    repeat' with_reducible first | refine W ?_ | refine Z0 ?_ | ((first | refine Wo fun K hK => ?_ | refine Wq ?_ | refine Wr ?_); (try simp only [go_sem, fN, seval, eT, iR, e20, e21, e22, s4]); (repeat refine Ai ?_); (try (refine hK _ ?_; clear hK K)))
    with_reducible refine Wp ?_
    simp only [go_sem, fN, seval, true_implies, false_implies, implies_true, dT, dF, nL, e20, e21, e22, s4]
    (try with_reducible refine iC ?_)
    refine ⟨fun hlt => ?_, fun hge => ?_⟩
    ·obtain ⟨a, ha⟩ := Aj (show k < t.args.length by omega)
     obtain ⟨g1, g2⟩ := Tm.chkL_get ha h0
     repeat' (first | (with_reducible first | refine W ?_ | refine Z0 ?_ | ((first | refine Wo fun K hK => ?_ | refine Wq ?_ | refine Wr ?_); (try simp only [go_sem, fN, seval, eT, iR, e20, e21, e22, s4, ha]); (repeat refine Ai ?_); (try (refine hK _ ?_; clear hK K)))) | refine Cg _ (ih _ (Tm.lt_of_arg (Ae ha)) a rfl) ?_)
     with_reducible refine Wp ?_
     simp only [go_sem, fN, seval, true_implies, false_implies, implies_true, dT, dF, nL]
     (try with_reducible refine iC ?_)
     refine ⟨fun hb => ?_, fun hb => ?_⟩
     ·repeat' with_reducible first | refine W ?_ | refine Z0 ?_ | ((first | refine Wo fun K hK => ?_ | refine Wq ?_ | refine Wr ?_); (try simp only [go_sem, fN, seval, eT, iR]); (repeat refine Ai ?_); (try (refine hK _ ?_; clear hK K)))
      simp only [go_sem, fN, seval, AM, AS.result, AB, AD, AI]
      rw [hc, g2 hb]
     ·repeat' with_reducible first | refine W ?_ | refine Z0 ?_ | ((first | refine Wo fun K hK => ?_ | refine Wq ?_ | refine Wr ?_); (try simp only [go_sem, fN, seval, eT, iR, e20, e21, e22, s4]); (repeat refine Ai ?_); (try (refine hK _ ?_; clear hK K)))
      refine AH ⟨t.args.length - (k + 1), by omega, k + 1, by omega, rfl, g1 (by omega), ?_⟩
      simp only [go_sem, fN, seval, AS.drop, Bc, AC.clears, AC.clear, AC.highs, AC.high, Bool.not_false, Bool.true_and, Bool.and_self, AV.purge, AV.purges, AC.purge, AJ.purge, List.contains_cons, List.contains_nil, Nat.reduceBEq, Bool.or_self, Bool.or_false, Bool.false_or, Bool.or_true, eT, iR, e20, e21, e22, s4]
      congr 3
    ·repeat' with_reducible first | refine W ?_ | refine Z0 ?_ | ((first | refine Wo fun K hK => ?_ | refine Wq ?_ | refine Wr ?_); (try simp only [go_sem, fN, seval, eT, iR]); (repeat refine Ai ?_); (try (refine hK _ ?_; clear hK K)))
     simp only [go_sem, fN, seval, AM, AS.result, AB, AD, AI]
     rw [List.take_of_length_le (by omega)] at h0
     rw [hc, h0]
theorem Kq (t : Tm) : AQ Try.prog 52 [aTm t] (AR t.may) := by
 have hm : t.may = if 200 < t.size then 3 else t.chk := rfl
 refine H1.ac fun C hC => ?_
 unfold Em
 repeat' with_reducible first | refine W ?_ | refine Z0 ?_ | ((first | refine Wo fun K hK => ?_ | refine Wq ?_ | refine Wr ?_); (try simp only [go_sem, fN, seval, eT, iR]); (repeat refine Ai ?_); (try (refine hK _ ?_; clear hK K)))
 refine ⟨_, Nu t 200 (by omega) (by omega), ?_⟩
 by_cases h : BV t.size 200 < 0
 ·repeat' with_reducible first | refine W ?_ | refine Z0 ?_ | ((first | refine Wo fun K hK => ?_ | refine Wq ?_ | refine Wr ?_); (try simp only [go_sem, fN, seval, eT, iR, h]); (repeat refine Ai ?_); (try (refine hK _ ?_; clear hK K)))
  with_reducible refine Wp ?_
  simp only [go_sem, fN, seval, true_implies, false_implies, implies_true, dT, dF, nL, h]
  (try with_reducible refine iC ?_)
  repeat' with_reducible first | refine W ?_ | refine Z0 ?_ | ((first | refine Wo fun K hK => ?_ | refine Wq ?_ | refine Wr ?_); (try simp only [go_sem, fN, seval, eT, iR]); (repeat refine Ai ?_); (try (refine hK _ ?_; clear hK K)))
  simp only [go_sem, fN, seval, AM, AS.result, AB, AD, AI]
  unfold BV at h
  rw [hm, if_pos (by split at h <;> omega)]
 ·repeat' with_reducible first | refine W ?_ | refine Z0 ?_ | ((first | refine Wo fun K hK => ?_ | refine Wq ?_ | refine Wr ?_); (try simp only [go_sem, fN, seval, eT, iR, h]); (repeat refine Ai ?_); (try (refine hK _ ?_; clear hK K)))
  with_reducible refine Wp ?_
  simp only [go_sem, fN, seval, true_implies, false_implies, implies_true, dT, dF, nL, h]
  (try with_reducible refine iC ?_)
  repeat' (first | (with_reducible first | refine W ?_ | refine Z0 ?_ | ((first | refine Wo fun K hK => ?_ | refine Wq ?_ | refine Wr ?_); (try simp only [go_sem, fN, seval, eT, iR]); (repeat refine Ai ?_); (try (refine hK _ ?_; clear hK K)))) | refine Cg _ (O8 t) ?_)
  simp only [go_sem, fN, seval, AM, AS.result, AB, AD, AI]
  unfold BV at h
  rw [hm, if_neg (by split at h <;> omega)]
theorem Cc (t : Tm) (hz : t.size ≤ 1000000) : AQ Try.prog 29 [aTm t] (DD t.knots) := by
 induction h : SizeOf.sizeOf t using Nat.strongRecOn generalizing t with
 | _ N ih =>
 subst h
 have hs := Tm.size_eq t
 refine LY.ac fun C hC => ?_
 unfold Gm
 repeat' with_reducible first | refine W ?_ | refine Z0 ?_ | ((first | refine Wo fun K hK => ?_ | refine Wq ?_ | refine Wr ?_); (try simp only [go_sem, fN, seval, eT, iR]); (repeat refine Ai ?_); (try (refine hK _ ?_; clear hK K)))
 refine IWP.ghost (Al.own 3 21 25 2 (xs := ([t].map BI)) (by simp only [go_sem, fN, seval, eT, iR]) rfl IY (by omega)) ?_
 have hlen := Tm.length_le t.args
 refine IWP.loopD [] (fun m s => ∃ k, k ≤ t.args.length ∧ m = t.args.length - k ∧ s.env 1 = .one (.ptr 1 1 0 0) ∧ s.S 1 = some (.box 25 [.st (.str t.name), .st (.list (t.args.map BI))]) ∧ s.env 3 = .one (.row 21 (t :: Tm.knotsL (t.args.take k)).length) ∧ s.S 21 = some (.arow 25 2 ((t :: Tm.knotsL (t.args.take k)).map BI)) ∧ s.env 4 = AR k)
  t.args.length ⟨0, Nat.zero_le _, rfl, rfl, rfl, rfl, rfl, rfl⟩ ?_
 rintro m ⟨env, S⟩ ⟨k, hk, rfl, e1, s1, e3, s21, e4⟩
 simp only at e1 s1 e3 s21 e4
 repeat' with_reducible first | refine W ?_ | refine Z0 ?_ | ((first | refine Wo fun K hK => ?_ | refine Wq ?_ | refine Wr ?_); (try simp only [go_sem, fN, seval, eT, iR, e1, s1, e3, s21, e4]); (repeat refine Ai ?_); (try (refine hK _ ?_; clear hK K)))
 with_reducible refine Wp ?_
 simp only [go_sem, fN, seval, true_implies, false_implies, implies_true, dT, dF, nL]
 (try with_reducible refine iC ?_)
 refine ⟨fun hlt => ?_, fun hge => ?_⟩
 ·obtain ⟨a, ha⟩ := Aj (show k < t.args.length by omega)
  have z1 := Tm.sizes_take ha
  have z2 := Tm.sizes_take_le t.args (k + 1)
  have z3 := Tm.knots_length a
  have z4 := Tm.knotsL_length (t.args.take k)
  repeat' (first | (with_reducible first | refine W ?_ | refine Z0 ?_ | ((first | refine Wo fun K hK => ?_ | refine Wq ?_ | refine Wr ?_); (try simp only [go_sem, fN, seval, eT, iR, e1, s1, e3, s21, e4, ha]); (repeat refine Ai ?_); (try (refine hK _ ?_; clear hK K)))) | refine Cg _ (ih _ (Tm.lt_of_arg (Ae ha)) a (by omega) rfl) ?_)
  refine AH ⟨t.args.length - (k + 1), by omega, k + 1, by omega, rfl, ?_⟩
  simp only [go_sem, fN, seval, AS.drop, Bc, AC.clears, AC.clear, AC.highs, AC.high, Bool.not_false, Bool.true_and, Bool.and_self, AV.purge, AV.purges, AC.purge, AJ.purge, List.contains_cons, List.contains_nil, Nat.reduceBEq, Bool.or_self, Bool.or_false, Bool.false_or, Bool.or_true, eT, iR, e1, s1, e3, s21, e4]
  rw [Tm.knotsL_take ha]
  exact ⟨by simp <;> omega, by simp [Ac], rfl⟩
 ·repeat' with_reducible first | refine W ?_ | refine Z0 ?_ | ((first | refine Wo fun K hK => ?_ | refine Wq ?_ | refine Wr ?_); (try simp only [go_sem, fN, seval, eT, iR, e1, s1, e3, s21, e4]); (repeat refine Ai ?_); (try (refine hK _ ?_; clear hK K)))
  simp only [go_sem, fN, seval, AM, AS.result, AB, AD, AI, e3, s21]
  rw [List.take_of_length_le (by omega), Tm.knots_eq]
  rfl
theorem IP (t : Tm) : AQ Try.prog 28 [aTm t] (AR t.may) := by
 have hm : t.may = if 200 < t.size then 3 else t.chk := rfl
 refine I7.ac fun C hC => ?_
 unfold FW
 repeat' with_reducible first | refine W ?_ | refine Z0 ?_ | ((first | refine Wo fun K hK => ?_ | refine Wq ?_ | refine Wr ?_); (try simp only [go_sem, fN, seval, eT, iR]); (repeat refine Ai ?_); (try (refine hK _ ?_; clear hK K)))
 refine ⟨_, Fd t 200 (by omega) (by omega), ?_⟩
 by_cases h : (200 : Int) < Az t.size 200
 ·repeat' with_reducible first | refine W ?_ | refine Z0 ?_ | ((first | refine Wo fun K hK => ?_ | refine Wq ?_ | refine Wr ?_); (try simp only [go_sem, fN, seval, eT, iR, h]); (repeat refine Ai ?_); (try (refine hK _ ?_; clear hK K)))
  with_reducible refine Wp ?_
  simp only [go_sem, fN, seval, true_implies, false_implies, implies_true, dT, dF, nL, h]
  (try with_reducible refine iC ?_)
  repeat' with_reducible first | refine W ?_ | refine Z0 ?_ | ((first | refine Wo fun K hK => ?_ | refine Wq ?_ | refine Wr ?_); (try simp only [go_sem, fN, seval, eT, iR]); (repeat refine Ai ?_); (try (refine hK _ ?_; clear hK K)))
  simp only [go_sem, fN, seval, AM, AS.result, AB, AD, AI]
  unfold Az at h
  rw [hm, if_pos (by split at h <;> omega)]
 have hz := (FZ h).2
 rw [if_neg (by omega)] at hm
 repeat' with_reducible first | refine W ?_ | refine Z0 ?_ | ((first | refine Wo fun K hK => ?_ | refine Wq ?_ | refine Wr ?_); (try simp only [go_sem, fN, seval, eT, iR, h]); (repeat refine Ai ?_); (try (refine hK _ ?_; clear hK K)))
 with_reducible refine Wp ?_
 simp only [go_sem, fN, seval, true_implies, false_implies, implies_true, dT, dF, nL, h]
 (try with_reducible refine iC ?_)
 repeat' (first | (with_reducible first | refine W ?_ | refine Z0 ?_ | ((first | refine Wo fun K hK => ?_ | refine Wq ?_ | refine Wr ?_); (try simp only [go_sem, fN, seval, eT, iR]); (repeat refine Ai ?_); (try (refine hK _ ?_; clear hK K)))) | refine Cg _ (Cc t (by omega)) ?_)
 have hl := Tm.knots_length t
 have hc := Tm.firstErr_knots t
 refine IWP.loop (fun n s => ∃ k, k ≤ t.knots.length ∧ n = t.knots.length - k ∧ A9 (t.knots.take k) = 0 ∧ s.env 3 = DD t.knots ∧ s.env 4 = AR k) t.knots.length ⟨0, Nat.zero_le _, rfl, rfl, rfl, rfl⟩ ?_
 rintro n ⟨env, S⟩ ⟨k, hk, rfl, h0, e3, e4⟩
 simp only at e3 e4
 repeat' with_reducible first | refine W ?_ | refine Z0 ?_ | ((first | refine Wo fun K hK => ?_ | refine Wq ?_ | refine Wr ?_); (try simp only [go_sem, fN, seval, eT, iR, e3, e4]); (repeat refine Ai ?_); (try (refine hK _ ?_; clear hK K)))
 with_reducible refine Wp ?_
 simp only [go_sem, fN, seval, true_implies, false_implies, implies_true, dT, dF, nL]
 (try with_reducible refine iC ?_)
 refine ⟨fun hlt => ?_, fun hge => ?_⟩
 ·obtain ⟨a, ha⟩ := Aj (show k < t.knots.length by omega)
  obtain ⟨g1, g2⟩ := JQ ha h0
  have hc1 : Br a = if A0 a.name = true then (if AW a.name = true ∧ 0 < a.args.length then 2 else 0) else 1 := rfl
  repeat' with_reducible first | refine W ?_ | refine Z0 ?_ | ((first | refine Wo fun K hK => ?_ | refine Wq ?_ | refine Wr ?_); (try simp only [go_sem, fN, seval, eT, iR, e3, e4, ha]); (repeat refine Ai ?_); (try (refine hK _ ?_; clear hK K)))
  refine ⟨_, EE _, ?_⟩
  cases hn : A0 a.name with
  | false =>
   rw [hn, if_neg (by simp)] at hc1
   repeat' with_reducible first | refine W ?_ | refine Z0 ?_ | ((first | refine Wo fun K hK => ?_ | refine Wq ?_ | refine Wr ?_); (try simp only [go_sem, fN, seval, eT, iR]); (repeat refine Ai ?_); (try (refine hK _ ?_; clear hK K)))
   with_reducible refine Wp ?_
   simp only [go_sem, fN, seval, true_implies, false_implies, implies_true, dT, dF, nL]
   (try with_reducible refine iC ?_)
   repeat' with_reducible first | refine W ?_ | refine Z0 ?_ | ((first | refine Wo fun K hK => ?_ | refine Wq ?_ | refine Wr ?_); (try simp only [go_sem, fN, seval, eT, iR]); (repeat refine Ai ?_); (try (refine hK _ ?_; clear hK K)))
   simp only [go_sem, fN, seval, AM, AS.result, AB, AD, AI]
   rw [hm, ← hc, g2 (by omega), hc1]
  | true =>
   rw [hn, if_pos rfl] at hc1
   repeat' with_reducible first | refine W ?_ | refine Z0 ?_ | ((first | refine Wo fun K hK => ?_ | refine Wq ?_ | refine Wr ?_); (try simp only [go_sem, fN, seval, eT, iR]); (repeat refine Ai ?_); (try (refine hK _ ?_; clear hK K)))
   with_reducible refine Wp ?_
   simp only [go_sem, fN, seval, true_implies, false_implies, implies_true, dT, dF, nL]
   (try with_reducible refine iC ?_)
   repeat' with_reducible first | refine W ?_ | refine Z0 ?_ | ((first | refine Wo fun K hK => ?_ | refine Wq ?_ | refine Wr ?_); (try simp only [go_sem, fN, seval, eT, iR, e3, e4, ha]); (repeat refine Ai ?_); (try (refine hK _ ?_; clear hK K)))
   refine ⟨_, BB _, ?_⟩
   by_cases hv : AW a.name = true ∧ 0 < a.args.length
   ·obtain ⟨hv1, hv2⟩ := hv
    have hv2' : (0 : Int) < a.args.length := by omega
    rw [if_pos ⟨hv1, hv2⟩] at hc1
    rw [hv1]
    repeat' with_reducible first | refine W ?_ | refine Z0 ?_ | ((first | refine Wo fun K hK => ?_ | refine Wq ?_ | refine Wr ?_); (try simp only [go_sem, fN, seval, eT, iR, e3, e4, ha, hv2']); (repeat refine Ai ?_); (try (refine hK _ ?_; clear hK K)))
    with_reducible refine Wp ?_
    simp only [go_sem, fN, seval, true_implies, false_implies, implies_true, dT, dF, nL, hv2']
    (try with_reducible refine iC ?_)
    repeat' with_reducible first | refine W ?_ | refine Z0 ?_ | ((first | refine Wo fun K hK => ?_ | refine Wq ?_ | refine Wr ?_); (try simp only [go_sem, fN, seval, eT, iR]); (repeat refine Ai ?_); (try (refine hK _ ?_; clear hK K)))
    simp only [go_sem, fN, seval, AM, AS.result, AB, AD, AI]
    rw [hm, ← hc, g2 (by omega), hc1]
   ·rw [if_neg hv] at hc1
    have hv2 : AW a.name = true → ¬ (0 : Int) < a.args.length := fun h h' => hv ⟨h, by omega⟩
    cases hvv : AW a.name
    all_goals
     simp only [hvv, true_implies, false_implies, Bool.false_eq_true] at hv2
     repeat' with_reducible first | refine W ?_ | refine Z0 ?_ | ((first | refine Wo fun K hK => ?_ | refine Wq ?_ | refine Wr ?_); (try simp only [go_sem, fN, seval, eT, iR, e3, e4, ha, hv2]); (repeat refine Ai ?_); (try (refine hK _ ?_; clear hK K)))
     with_reducible refine Wp ?_
     simp only [go_sem, fN, seval, true_implies, false_implies, implies_true, dT, dF, nL, hv2]
     (try with_reducible refine iC ?_)
     repeat' with_reducible first | refine W ?_ | refine Z0 ?_ | ((first | refine Wo fun K hK => ?_ | refine Wq ?_ | refine Wr ?_); (try simp only [go_sem, fN, seval, eT, iR, e3, e4]); (repeat refine Ai ?_); (try (refine hK _ ?_; clear hK K)))
     refine AH ⟨t.knots.length - (k + 1), by omega, k + 1, by omega, rfl, g1 hc1, ?_⟩
     simp only [go_sem, fN, seval, eT, iR, e3, e4]
     congr 3
 ·repeat' with_reducible first | refine W ?_ | refine Z0 ?_ | ((first | refine Wo fun K hK => ?_ | refine Wq ?_ | refine Wr ?_); (try simp only [go_sem, fN, seval, eT, iR]); (repeat refine Ai ?_); (try (refine hK _ ?_; clear hK K)))
  simp only [go_sem, fN, seval, AM, AS.result, AB, AD, AI]
  rw [List.take_of_length_le (by omega)] at h0
  rw [hm, ← hc, h0]
def Cp (a b : Tm) : Int := if a.may = 0 then b.may else a.may
theorem OR (t u : Tm) : AQ Try.prog 16 [aTm t, aTm u] (AR (Cp t u)) := by
 refine KT.ac fun C hC => ?_
 unfold GK
 repeat' with_reducible first | refine W ?_ | refine Z0 ?_ | ((first | refine Wo fun K hK => ?_ | refine Wq ?_ | refine Wr ?_); (try simp only [go_sem, fN, seval, eT, iR]); (repeat refine Ai ?_); (try (refine hK _ ?_; clear hK K)))
 refine ⟨_, IP t, ?_⟩
 by_cases h : t.may = 0
 ·repeat' with_reducible first | refine W ?_ | refine Z0 ?_ | ((first | refine Wo fun K hK => ?_ | refine Wq ?_ | refine Wr ?_); (try simp only [go_sem, fN, seval, eT, iR, h]); (repeat refine Ai ?_); (try (refine hK _ ?_; clear hK K)))
  with_reducible refine Wp ?_
  simp only [go_sem, fN, seval, true_implies, false_implies, implies_true, dT, dF, nL, h]
  (try with_reducible refine iC ?_)
  repeat' (first | (with_reducible first | refine W ?_ | refine Z0 ?_ | ((first | refine Wo fun K hK => ?_ | refine Wq ?_ | refine Wr ?_); (try simp only [go_sem, fN, seval, eT, iR]); (repeat refine Ai ?_); (try (refine hK _ ?_; clear hK K)))) | refine Cg _ (IP u) ?_)
  simp only [go_sem, fN, seval, AM, AS.result, AB, AD, AI]
  rw [Cp, if_pos h]
 ·repeat' with_reducible first | refine W ?_ | refine Z0 ?_ | ((first | refine Wo fun K hK => ?_ | refine Wq ?_ | refine Wr ?_); (try simp only [go_sem, fN, seval, eT, iR, h]); (repeat refine Ai ?_); (try (refine hK _ ?_; clear hK K)))
  with_reducible refine Wp ?_
  simp only [go_sem, fN, seval, true_implies, false_implies, implies_true, dT, dF, nL, h]
  (try with_reducible refine iC ?_)
  repeat' with_reducible first | refine W ?_ | refine Z0 ?_ | ((first | refine Wo fun K hK => ?_ | refine Wq ?_ | refine Wr ?_); (try simp only [go_sem, fN, seval, eT, iR]); (repeat refine Ai ?_); (try (refine hK _ ?_; clear hK K)))
  simp only [go_sem, fN, seval, AM, AS.result, AB, AD, AI]
  rw [Cp, if_neg h]
theorem CC (t : Tm) : AQ Try.prog 14 [aTm t] (Ag (decide (3000 < t.size))) := by
 have hc : ((3000 : Int) < Az t.size 3000) = (3000 < t.size) := by
  unfold Az
  by_cases h : (3000 : Int) < t.size
  ·rw [if_pos h]; simp; omega
  ·rw [if_neg h]; simp; omega
 refine M3.ac fun C hC => ?_
 unfold Il
 repeat' (first | (with_reducible first | refine W ?_ | refine Z0 ?_ | ((first | refine Wo fun K hK => ?_ | refine Wq ?_ | refine Wr ?_); (try simp only [go_sem, fN, seval, eT, iR]); (repeat refine Ai ?_); (try (refine hK _ ?_; clear hK K)))) | refine Cg _ (Fd t 3000 (by omega) (by omega)) ?_)
 simp only [go_sem, fN, seval, AM, AS.result, AB, AD, AI, hc]
theorem Ps (x : ByteArray) (l : List ByteArray) : AQ Try.prog 27 [CQ x, At l] (Ag (D3 x l)) := by
 refine O9.ac fun C hC => ?_
 unfold L6
 refine IWP.learn 1 (by omega) fun hkn => ?_
 have hkn := Bv hkn
 rw [List.length_map] at hkn
 repeat' with_reducible first | refine W ?_ | refine Z0 ?_ | ((first | refine Wo fun K hK => ?_ | refine Wq ?_ | refine Wr ?_); (try simp only [go_sem, fN, seval, eT, iR]); (repeat refine Ai ?_); (try (refine hK _ ?_; clear hK K)))
 refine IWP.loop (fun n s => ∃ k, k ≤ l.length ∧ n = l.length - k ∧ D3 x (l.take k) = false ∧ s.env 0 = CQ x ∧ s.env 1 = At l ∧ s.env 5 = AR k) l.length ⟨0, Nat.zero_le _, rfl, rfl, rfl, rfl, rfl⟩ ?_
 rintro n ⟨env, S⟩ ⟨k, hk, rfl, h0, e0, e1, e5⟩
 simp only at e0 e1 e5
 repeat' with_reducible first | refine W ?_ | refine Z0 ?_ | ((first | refine Wo fun K hK => ?_ | refine Wq ?_ | refine Wr ?_); (try simp only [go_sem, fN, seval, eT, iR, e0, e1, e5]); (repeat refine Ai ?_); (try (refine hK _ ?_; clear hK K)))
 with_reducible refine Wp ?_
 simp only [go_sem, fN, seval, true_implies, false_implies, implies_true, dT, dF, nL]
 (try with_reducible refine iC ?_)
 refine ⟨fun hlt => ?_, fun hge => ?_⟩
 ·obtain ⟨a, ha⟩ := Aj (show k < l.length by omega)
  repeat' with_reducible first | refine W ?_ | refine Z0 ?_ | ((first | refine Wo fun K hK => ?_ | refine Wq ?_ | refine Wr ?_); (try simp only [go_sem, fN, seval, eT, iR, e0, e1, e5, ha]); (repeat refine Ai ?_); (try (refine hK _ ?_; clear hK K)))
  with_reducible refine Wp ?_
  simp only [go_sem, fN, seval, true_implies, false_implies, implies_true, dT, dF, nL]
  (try with_reducible refine iC ?_)
  refine ⟨fun hb => ?_, fun hb => ?_⟩
  ·repeat' with_reducible first | refine W ?_ | refine Z0 ?_ | ((first | refine Wo fun K hK => ?_ | refine Wq ?_ | refine Wr ?_); (try simp only [go_sem, fN, seval, eT, iR]); (repeat refine Ai ?_); (try (refine hK _ ?_; clear hK K)))
   simp only [go_sem, fN, seval, AM, AS.result, AB, AD, AI]
   rw [FU.2 (by rw [← hb]; exact Ae ha)]
  ·repeat' with_reducible first | refine W ?_ | refine Z0 ?_ | ((first | refine Wo fun K hK => ?_ | refine Wq ?_ | refine Wr ?_); (try simp only [go_sem, fN, seval, eT, iR, e0, e1, e5]); (repeat refine Ai ?_); (try (refine hK _ ?_; clear hK K)))
   refine AH ⟨l.length - (k + 1), by omega, k + 1, by omega, rfl, ?_, ?_⟩
   ·rw [Aa ha, JX]
    rw [JX] at h0
    simp only [List.mem_append, List.mem_singleton, not_or]
    exact ⟨h0, fun e => hb e.symm⟩
   ·simp only [go_sem, fN, seval, eT, iR, e0, e1, e5]
    congr 3
 ·repeat' with_reducible first | refine W ?_ | refine Z0 ?_ | ((first | refine Wo fun K hK => ?_ | refine Wq ?_ | refine Wr ?_); (try simp only [go_sem, fN, seval, eT, iR]); (repeat refine Ai ?_); (try (refine hK _ ?_; clear hK K)))
  simp only [go_sem, fN, seval, AM, AS.result, AB, AD, AI]
  rw [List.take_of_length_le (by omega)] at h0
  rw [h0]
theorem PJ (l : List ByteArray) (x : ByteArray) : ∃ i : Int, AQ Try.prog 51 [At l, CQ x] (AR i) ∧ (0 ≤ i ↔ D3 x l = true) := by
 by_cases hin : D3 x l = true
 ·obtain ⟨k0, hk0, hmin⟩ : ∃ k, l[k]? = some x ∧ ∀ j, j < k → l[j]? ≠ some x := by
   have hx := FU.1 hin
   have ⟨k, hk⟩ := List.getElem?_of_mem hx
   induction k using Nat.strongRecOn with
   | _ k ih =>
    by_cases h : ∃ j, j < k ∧ l[j]? = some x
    ·obtain ⟨j, hj, hjx⟩ := h
     exact ih j hj hjx
    ·exact ⟨k, hk, fun j hj hjx => h ⟨j, hj, hjx⟩⟩
  have hlt0 := Cm hk0
  refine ⟨k0, ?_, by simp [hin]⟩
  refine BQ.ac fun C hC => ?_
  unfold A6
  refine IWP.learn 0 (by omega) fun hkn => ?_
  have hkn := Bv hkn
  rw [List.length_map] at hkn
  repeat' with_reducible first | refine W ?_ | refine Z0 ?_ | ((first | refine Wo fun K hK => ?_ | refine Wq ?_ | refine Wr ?_); (try simp only [go_sem, fN, seval, eT, iR]); (repeat refine Ai ?_); (try (refine hK _ ?_; clear hK K)))
  refine IWP.loop (fun n s => ∃ k, k ≤ k0 ∧ n = k0 - k ∧ s.env 0 = At l ∧ s.env 1 = CQ x ∧ s.env 7 = AR l.length ∧ s.env 8 = AR k) k0 ⟨0, Nat.zero_le _, rfl, rfl, rfl, rfl, rfl⟩ ?_
  rintro n ⟨env, S⟩ ⟨k, hk, rfl, e0, e1, e7, e8⟩
  simp only at e0 e1 e7 e8
  have hlt : (k : Int) < l.length := by omega
  repeat' with_reducible first | refine W ?_ | refine Z0 ?_ | ((first | refine Wo fun K hK => ?_ | refine Wq ?_ | refine Wr ?_); (try simp only [go_sem, fN, seval, eT, iR, e0, e1, e7, e8, hlt]); (repeat refine Ai ?_); (try (refine hK _ ?_; clear hK K)))
  with_reducible refine Wp ?_
  simp only [go_sem, fN, seval, true_implies, false_implies, implies_true, dT, dF, nL, e0, e1, e7, e8, hlt]
  (try with_reducible refine iC ?_)
  obtain ⟨a, ha⟩ := Aj (show k < l.length by omega)
  repeat' with_reducible first | refine W ?_ | refine Z0 ?_ | ((first | refine Wo fun K hK => ?_ | refine Wq ?_ | refine Wr ?_); (try simp only [go_sem, fN, seval, eT, iR, e0, e1, e7, e8, ha]); (repeat refine Ai ?_); (try (refine hK _ ?_; clear hK K)))
  by_cases he : k = k0
  ·subst he
   rw [hk0] at ha
   cases ha
   with_reducible refine Wp ?_
   simp only [go_sem, fN, seval, true_implies, false_implies, implies_true, dT, dF, nL]
   (try with_reducible refine iC ?_)
   repeat' with_reducible first | refine W ?_ | refine Z0 ?_ | ((first | refine Wo fun K hK => ?_ | refine Wq ?_ | refine Wr ?_); (try simp only [go_sem, fN, seval, eT, iR, e0, e1, e7, e8]); (repeat refine Ai ?_); (try (refine hK _ ?_; clear hK K)))
   simp only [go_sem, fN, seval, AM, AS.result, AB, AD, AI]
  ·have hne : ¬ x = a := fun e => hmin k (by omega) (by rw [ha, e])
   with_reducible refine Wp ?_
   simp only [go_sem, fN, seval, true_implies, false_implies, implies_true, dT, dF, nL, hne]
   (try with_reducible refine iC ?_)
   repeat' with_reducible first | refine W ?_ | refine Z0 ?_ | ((first | refine Wo fun K hK => ?_ | refine Wq ?_ | refine Wr ?_); (try simp only [go_sem, fN, seval, eT, iR, e0, e1, e7, e8]); (repeat refine Ai ?_); (try (refine hK _ ?_; clear hK K)))
   refine AH ⟨k0 - (k + 1), by omega, k + 1, by omega, rfl, ?_⟩
   simp only [go_sem, fN, seval, eT, iR, e0, e1, e7, e8]
   congr 3
 ·rw [Bool.not_eq_true] at hin
  refine ⟨-1, ?_, by simp [hin]⟩
  refine BQ.ac fun C hC => ?_
  unfold A6
  refine IWP.learn 0 (by omega) fun hkn => ?_
  have hkn := Bv hkn
  rw [List.length_map] at hkn
  repeat' with_reducible first | refine W ?_ | refine Z0 ?_ | ((first | refine Wo fun K hK => ?_ | refine Wq ?_ | refine Wr ?_); (try simp only [go_sem, fN, seval, eT, iR]); (repeat refine Ai ?_); (try (refine hK _ ?_; clear hK K)))
  refine IWP.loop (fun n s => ∃ k, k ≤ l.length ∧ n = l.length - k ∧ s.env 0 = At l ∧ s.env 1 = CQ x ∧ s.env 7 = AR l.length ∧ s.env 8 = AR k) l.length ⟨0, Nat.zero_le _, rfl, rfl, rfl, rfl, rfl⟩ ?_
  rintro n ⟨env, S⟩ ⟨k, hk, rfl, e0, e1, e7, e8⟩
  simp only at e0 e1 e7 e8
  by_cases hlt : (k : Int) < l.length
  ·repeat' with_reducible first | refine W ?_ | refine Z0 ?_ | ((first | refine Wo fun K hK => ?_ | refine Wq ?_ | refine Wr ?_); (try simp only [go_sem, fN, seval, eT, iR, e0, e1, e7, e8, hlt]); (repeat refine Ai ?_); (try (refine hK _ ?_; clear hK K)))
   with_reducible refine Wp ?_
   simp only [go_sem, fN, seval, true_implies, false_implies, implies_true, dT, dF, nL, e0, e1, e7, e8, hlt]
   (try with_reducible refine iC ?_)
   obtain ⟨a, ha⟩ := Aj (show k < l.length by omega)
   have hne : ¬ x = a := fun e => by
    rw [JX] at hin
    exact hin (by rw [e]; exact Ae ha)
   repeat' with_reducible first | refine W ?_ | refine Z0 ?_ | ((first | refine Wo fun K hK => ?_ | refine Wq ?_ | refine Wr ?_); (try simp only [go_sem, fN, seval, eT, iR, e0, e1, e7, e8, ha]); (repeat refine Ai ?_); (try (refine hK _ ?_; clear hK K)))
   with_reducible refine Wp ?_
   simp only [go_sem, fN, seval, true_implies, false_implies, implies_true, dT, dF, nL, hne]
   (try with_reducible refine iC ?_)
   repeat' with_reducible first | refine W ?_ | refine Z0 ?_ | ((first | refine Wo fun K hK => ?_ | refine Wq ?_ | refine Wr ?_); (try simp only [go_sem, fN, seval, eT, iR, e0, e1, e7, e8]); (repeat refine Ai ?_); (try (refine hK _ ?_; clear hK K)))
   refine AH ⟨l.length - (k + 1), by omega, k + 1, by omega, rfl, ?_⟩
   simp only [go_sem, fN, seval, eT, iR, e0, e1, e7, e8]
   congr 3
  ·repeat' with_reducible first | refine W ?_ | refine Z0 ?_ | ((first | refine Wo fun K hK => ?_ | refine Wq ?_ | refine Wr ?_); (try simp only [go_sem, fN, seval, eT, iR, e0, e1, e7, e8, hlt]); (repeat refine Ai ?_); (try (refine hK _ ?_; clear hK K)))
   with_reducible refine Wp ?_
   simp only [go_sem, fN, seval, true_implies, false_implies, implies_true, dT, dF, nL, e0, e1, e7, e8, hlt]
   (try with_reducible refine iC ?_)
   repeat' with_reducible first | refine W ?_ | refine Z0 ?_ | ((first | refine Wo fun K hK => ?_ | refine Wq ?_ | refine Wr ?_); (try simp only [go_sem, fN, seval, eT, iR]); (repeat refine Ai ?_); (try (refine hK _ ?_; clear hK K)))
   simp only [go_sem, fN, seval, AM, AS.result, AB, AD, AI]
theorem LB (l : List ByteArray) (x : ByteArray) : AQ Try.prog 41 [At l, CQ x] (Ag (D3 x l)) := by
 obtain ⟨i, h1, h2⟩ := PJ l x
 refine B0.ac fun C hC => ?_
 unfold BJ
 repeat' (first | (with_reducible first | refine W ?_ | refine Z0 ?_ | ((first | refine Wo fun K hK => ?_ | refine Wq ?_ | refine Wr ?_); (try simp only [go_sem, fN, seval, eT, iR]); (repeat refine Ai ?_); (try (refine hK _ ?_; clear hK K)))) | refine Cg _ (h1) ?_)
 simp only [go_sem, fN, seval, AM, AS.result, AB, AD, AI]
 congr 4
 cases hi : D3 x l with
 | true => exact decide_eq_true (h2.2 hi)
 | false =>
  refine decide_eq_false fun h => ?_
  rw [h2.1 h] at hi
  cases hi
mutual
def Tm.beq : Tm → Tm → Bool
 | .mk n xs, .mk m ys => decide (n = m) && Tm.beqL xs ys
def Tm.beqL : List Tm → List Tm → Bool
 | [], [] => true
 | x :: xs, y :: ys => x.beq y && Tm.beqL xs ys
 | _, _ => false
end
mutual
theorem Tm.beq_iff : ∀ a b : Tm, a.beq b = true ↔ a = b
 | .mk n xs, .mk m ys => by
  rw [Tm.beq, Bool.and_eq_true, Tm.beqL_iff xs ys, decide_eq_true_eq, Tm.mk.injEq]
theorem Tm.beqL_iff : ∀ xs ys : List Tm, Tm.beqL xs ys = true ↔ xs = ys
 | [], [] => by simp [Tm.beqL]
 | x :: xs, y :: ys => by rw [Tm.beqL, Bool.and_eq_true, Tm.beq_iff x y, Tm.beqL_iff xs ys, List.cons.injEq]
 | [], y :: ys => by simp [Tm.beqL]
 | x :: xs, [] => by simp [Tm.beqL]
end
theorem Tm.beq_refl (a : Tm) : a.beq a = true := (Tm.beq_iff a a).2 rfl
theorem Tm.eq_of {a b : Tm} (h1 : a.name = b.name) (h2 : a.args = b.args) : a = b := by
 cases a; cases b
 simp only [Tm.name_mk, Tm.args_mk] at h1 h2
 rw [h1, h2]
theorem I3 (a b : Tm) : AQ Try.prog 35 [aTm a, aTm b] (Ag (a.beq b)) := by
 induction h : SizeOf.sizeOf a using Nat.strongRecOn generalizing a b with
 | _ N ih =>
 subst h
 have hno : a ≠ b → a.beq b = false := fun h => by
  rw [← Bool.not_eq_true, Tm.beq_iff]
  exact h
 refine NN.ac fun C hC => ?_
 unfold Ic
 refine IWP.learn 0 (by omega) fun hkn => ?_
 have hkn := EL hkn
 by_cases hn : a.name = b.name
 ·by_cases hl : a.args.length = b.args.length
  ·have hl' : (a.args.length : Int) = b.args.length := by omega
   repeat' with_reducible first | refine W ?_ | refine Z0 ?_ | ((first | refine Wo fun K hK => ?_ | refine Wq ?_ | refine Wr ?_); (try simp only [go_sem, fN, seval, eT, iR, hn, hl']); (repeat refine Ai ?_); (try (refine hK _ ?_; clear hK K)))
   with_reducible refine Wp ?_
   simp only [go_sem, fN, seval, true_implies, false_implies, implies_true, dT, dF, nL, hn, hl']
   (try with_reducible refine iC ?_)
   repeat' with_reducible first | refine W ?_ | refine Z0 ?_ | ((first | refine Wo fun K hK => ?_ | refine Wq ?_ | refine Wr ?_); (try simp only [go_sem, fN, seval, eT, iR]); (repeat refine Ai ?_); (try (refine hK _ ?_; clear hK K)))
   refine IWP.loop (fun n s => ∃ k, k ≤ a.args.length ∧ n = a.args.length - k ∧ a.args.take k = b.args.take k ∧ s.env 2 = .one (.ptr 2 1 0 0) ∧ s.env 3 = .one (.ptr 3 1 0 0) ∧ s.S 2 = some (.box 25 [.st (.str b.name), .st (.list (a.args.map BI))]) ∧ s.S 3 = some (.box 25 [.st (.str b.name), .st (.list (b.args.map BI))]) ∧ s.env 5 = AR k) a.args.length ⟨0, Nat.zero_le _, rfl, rfl, rfl, rfl, rfl, rfl, rfl⟩ ?_
   rintro n ⟨env, S⟩ ⟨k, hk, rfl, h0, e2, e3, s2, s3, e5⟩
   simp only at e2 e3 s2 s3 e5
   repeat' with_reducible first | refine W ?_ | refine Z0 ?_ | ((first | refine Wo fun K hK => ?_ | refine Wq ?_ | refine Wr ?_); (try simp only [go_sem, fN, seval, eT, iR, e2, e3, s2, s3, e5]); (repeat refine Ai ?_); (try (refine hK _ ?_; clear hK K)))
   with_reducible refine Wp ?_
   simp only [go_sem, fN, seval, true_implies, false_implies, implies_true, dT, dF, nL]
   (try with_reducible refine iC ?_)
   refine ⟨fun hlt => ?_, fun hge => ?_⟩
   ·obtain ⟨x, hx⟩ := Aj (show k < a.args.length by omega)
    obtain ⟨y, hy⟩ := Aj (show k < b.args.length by omega)
    repeat' (first | (with_reducible first | refine W ?_ | refine Z0 ?_ | ((first | refine Wo fun K hK => ?_ | refine Wq ?_ | refine Wr ?_); (try simp only [go_sem, fN, seval, eT, iR, e2, e3, s2, s3, e5, hx, hy]); (repeat refine Ai ?_); (try (refine hK _ ?_; clear hK K)))) | refine Cg _ (ih _ (Tm.lt_of_arg (Ae hx)) x y rfl) ?_)
    cases hxy : x.beq y with
    | false =>
     with_reducible refine Wp ?_
     simp only [go_sem, fN, seval, true_implies, false_implies, implies_true, dT, dF, nL]
     (try with_reducible refine iC ?_)
     repeat' with_reducible first | refine W ?_ | refine Z0 ?_ | ((first | refine Wo fun K hK => ?_ | refine Wq ?_ | refine Wr ?_); (try simp only [go_sem, fN, seval, eT, iR]); (repeat refine Ai ?_); (try (refine hK _ ?_; clear hK K)))
     simp only [go_sem, fN, seval, AM, AS.result, AB, AD, AI]
     rw [hno fun e => by
      subst e
      rw [hx] at hy
      cases hy
      rw [Tm.beq_refl] at hxy
      cases hxy]
    | true =>
     have hxy := (Tm.beq_iff x y).1 hxy
     with_reducible refine Wp ?_
     simp only [go_sem, fN, seval, true_implies, false_implies, implies_true, dT, dF, nL]
     (try with_reducible refine iC ?_)
     repeat' with_reducible first | refine W ?_ | refine Z0 ?_ | ((first | refine Wo fun K hK => ?_ | refine Wq ?_ | refine Wr ?_); (try simp only [go_sem, fN, seval, eT, iR, e2, e3, s2, s3, e5]); (repeat refine Ai ?_); (try (refine hK _ ?_; clear hK K)))
     refine AH ⟨a.args.length - (k + 1), by omega, k + 1, by omega, rfl, ?_, ?_⟩
     ·rw [Aa hx, Aa hy, h0, hxy]
     ·simp only [go_sem, fN, seval, eT, iR, e2, e3, s2, s3, e5]
      congr 3
   ·repeat' with_reducible first | refine W ?_ | refine Z0 ?_ | ((first | refine Wo fun K hK => ?_ | refine Wq ?_ | refine Wr ?_); (try simp only [go_sem, fN, seval, eT, iR]); (repeat refine Ai ?_); (try (refine hK _ ?_; clear hK K)))
    simp only [go_sem, fN, seval, AM, AS.result, AB, AD, AI]
    rw [List.take_of_length_le (by omega), List.take_of_length_le (by omega)] at h0
    rw [Tm.eq_of hn h0, Tm.beq_refl]
  ·have hl' : ¬ (a.args.length : Int) = b.args.length := by omega
   repeat' with_reducible first | refine W ?_ | refine Z0 ?_ | ((first | refine Wo fun K hK => ?_ | refine Wq ?_ | refine Wr ?_); (try simp only [go_sem, fN, seval, eT, iR, hn, hl']); (repeat refine Ai ?_); (try (refine hK _ ?_; clear hK K)))
   with_reducible refine Wp ?_
   simp only [go_sem, fN, seval, true_implies, false_implies, implies_true, dT, dF, nL, hn, hl']
   (try with_reducible refine iC ?_)
   repeat' with_reducible first | refine W ?_ | refine Z0 ?_ | ((first | refine Wo fun K hK => ?_ | refine Wq ?_ | refine Wr ?_); (try simp only [go_sem, fN, seval, eT, iR]); (repeat refine Ai ?_); (try (refine hK _ ?_; clear hK K)))
   simp only [go_sem, fN, seval, AM, AS.result, AB, AD, AI]
   rw [hno fun e => hl (by rw [e])]
 ·repeat' with_reducible first | refine W ?_ | refine Z0 ?_ | ((first | refine Wo fun K hK => ?_ | refine Wq ?_ | refine Wr ?_); (try simp only [go_sem, fN, seval, eT, iR, hn]); (repeat refine Ai ?_); (try (refine hK _ ?_; clear hK K)))
  with_reducible refine Wp ?_
  simp only [go_sem, fN, seval, true_implies, false_implies, implies_true, dT, dF, nL, hn]
  (try with_reducible refine iC ?_)
  repeat' with_reducible first | refine W ?_ | refine Z0 ?_ | ((first | refine Wo fun K hK => ?_ | refine Wq ?_ | refine Wr ?_); (try simp only [go_sem, fN, seval, eT, iR]); (repeat refine Ai ?_); (try (refine hK _ ?_; clear hK K)))
  simp only [go_sem, fN, seval, AM, AS.result, AB, AD, AI]
  rw [hno fun e => hn (by rw [e])]
def Tm.nil : Tm := .mk ⟨#[]⟩ []

theorem Fu {ts : List ByteArray} : ∀ x ∈ ts.map FV, x.length = 1 := by
 intro x hx
 obtain ⟨a, _, rfl⟩ := List.mem_map.1 hx
 rfl
theorem Oq (t : Tm) (hz : t.size ≤ 1000000) : AQ Try.prog 32 [aTm t] (At t.varsOf) := by
 have hl := Tm.knots_length t
 refine Jw.ac fun C hC => ?_
 unfold GR
 repeat' (first | (with_reducible first | refine W ?_ | refine Z0 ?_ | ((first | refine Wo fun K hK => ?_ | refine Wq ?_ | refine Wr ?_); (try simp only [go_sem, fN, seval, eT, iR]); (repeat refine Ai ?_); (try (refine hK _ ?_; clear hK K)))) | refine Cg _ (Cc t hz) ?_)
 refine IWP.ghost (Al.own 4 37 9 1 (xs := ([] : List ByteArray).map FV) rfl rfl Fu (by omega)) ?_
 refine IWP.loopD [] (fun m s => ∃ k, k ≤ t.knots.length ∧ m = t.knots.length - k ∧ s.env 3 = DD t.knots ∧ s.env 4 = .one (.row 37 (BK [] (t.knots.take k)).length) ∧ s.S 37 = some (.arow 9 1 ((BK [] (t.knots.take k)).map FV)) ∧ s.env 5 = AR k)
  t.knots.length ⟨0, Nat.zero_le _, rfl, rfl, rfl, rfl, rfl⟩ ?_
 rintro m ⟨env, S⟩ ⟨k, hk, rfl, e3, e4, s37, e5⟩
 simp only at e3 e4 s37 e5
 have hlen := Cz (t.knots.take k) []
 rw [List.length_take, List.length_nil] at hlen
 by_cases hlt : (k : Int) < t.knots.length
 ·obtain ⟨a, ha⟩ := Aj (show k < t.knots.length by omega)
  repeat' with_reducible first | refine W ?_ | refine Z0 ?_ | ((first | refine Wo fun K hK => ?_ | refine Wq ?_ | refine Wr ?_); (try simp only [go_sem, fN, seval, eT, iR, e3, e4, s37, e5, hlt]); (repeat refine Ai ?_); (try (refine hK _ ?_; clear hK K)))
  with_reducible refine Wp ?_
  simp only [go_sem, fN, seval, true_implies, false_implies, implies_true, dT, dF, nL, hlt]
  (try with_reducible refine iC ?_)
  repeat' with_reducible first | refine W ?_ | refine Z0 ?_ | ((first | refine Wo fun K hK => ?_ | refine Wq ?_ | refine Wr ?_); (try simp only [go_sem, fN, seval, eT, iR, e3, e4, s37, e5, ha]); (repeat refine Ai ?_); (try (refine hK _ ?_; clear hK K)))
  refine ⟨_, BB _, ?_⟩
  have hstep : BK [] (t.knots.take (k + 1)) = Bg (BK [] (t.knots.take k)) a.name := by rw [Aa ha, Ja]
  cases hv : AW a.name with
  | false =>
   rw [MZ hv] at hstep
   repeat' with_reducible first | refine W ?_ | refine Z0 ?_ | ((first | refine Wo fun K hK => ?_ | refine Wq ?_ | refine Wr ?_); (try simp only [go_sem, fN, seval, eT, iR, e3, e4, s37, e5, ha]); (repeat refine Ai ?_); (try (refine hK _ ?_; clear hK K)))
   with_reducible refine Wp ?_
   simp only [go_sem, fN, seval, true_implies, false_implies, implies_true, dT, dF, nL]
   (try with_reducible refine iC ?_)
   repeat' with_reducible first | refine W ?_ | refine Z0 ?_ | ((first | refine Wo fun K hK => ?_ | refine Wq ?_ | refine Wr ?_); (try simp only [go_sem, fN, seval, eT, iR, e3, e4, s37, e5]); (repeat refine Ai ?_); (try (refine hK _ ?_; clear hK K)))
   refine AH ⟨t.knots.length - (k + 1), by omega, k + 1, by omega, rfl, ?_⟩
   simp only [go_sem, fN, seval, AS.drop, Bc, AC.clears, AC.clear, AC.highs, AC.high, Bool.not_false, Bool.true_and, Bool.and_self, AV.purge, AV.purges, AC.purge, AJ.purge, List.contains_cons, List.contains_nil, Nat.reduceBEq, Bool.or_self, Bool.or_false, Bool.false_or, Bool.or_true, eT, iR, e3, e4, s37, e5, hstep]
   congr 3
  | true =>
   repeat' with_reducible first | refine W ?_ | refine Z0 ?_ | ((first | refine Wo fun K hK => ?_ | refine Wq ?_ | refine Wr ?_); (try simp only [go_sem, fN, seval, eT, iR, e3, e4, s37, e5, ha]); (repeat refine Ai ?_); (try (refine hK _ ?_; clear hK K)))
   refine ⟨_, Ps _ _, ?_⟩
   cases hi : D3 a.name (BK [] (t.knots.take k)) with
   | true =>
    rw [Ml hi] at hstep
    repeat' with_reducible first | refine W ?_ | refine Z0 ?_ | ((first | refine Wo fun K hK => ?_ | refine Wq ?_ | refine Wr ?_); (try simp only [go_sem, fN, seval, eT, iR, e3, e4, s37, e5]); (repeat refine Ai ?_); (try (refine hK _ ?_; clear hK K)))
    with_reducible refine Wp ?_
    simp only [go_sem, fN, seval, true_implies, false_implies, implies_true, dT, dF, nL]
    (try with_reducible refine iC ?_)
    repeat' with_reducible first | refine W ?_ | refine Z0 ?_ | ((first | refine Wo fun K hK => ?_ | refine Wq ?_ | refine Wr ?_); (try simp only [go_sem, fN, seval, eT, iR, e3, e4, s37, e5]); (repeat refine Ai ?_); (try (refine hK _ ?_; clear hK K)))
    refine AH ⟨t.knots.length - (k + 1), by omega, k + 1, by omega, rfl, ?_⟩
    simp only [go_sem, fN, seval, AS.drop, Bc, AC.clears, AC.clear, AC.highs, AC.high, Bool.not_false, Bool.true_and, Bool.and_self, AV.purge, AV.purges, AC.purge, AJ.purge, List.contains_cons, List.contains_nil, Nat.reduceBEq, Bool.or_self, Bool.or_false, Bool.false_or, Bool.or_true, eT, iR, e3, e4, s37, e5, hstep]
    congr 3
   | false =>
    rw [Lb hv hi] at hstep
    repeat' with_reducible first | refine W ?_ | refine Z0 ?_ | ((first | refine Wo fun K hK => ?_ | refine Wq ?_ | refine Wr ?_); (try simp only [go_sem, fN, seval, eT, iR, e3, e4, s37, e5]); (repeat refine Ai ?_); (try (refine hK _ ?_; clear hK K)))
    with_reducible refine Wp ?_
    simp only [go_sem, fN, seval, true_implies, false_implies, implies_true, dT, dF, nL]
    (try with_reducible refine iC ?_)
    repeat' with_reducible first | refine W ?_ | refine Z0 ?_ | ((first | refine Wo fun K hK => ?_ | refine Wq ?_ | refine Wr ?_); (try simp only [go_sem, fN, seval, eT, iR, e3, e4, s37, e5, ha]); (repeat refine Ai ?_); (try (refine hK _ ?_; clear hK K)))
    refine AH ⟨t.knots.length - (k + 1), by omega, k + 1, by omega, rfl, ?_⟩
    simp only [go_sem, fN, seval, AS.drop, Bc, AC.clears, AC.clear, AC.highs, AC.high, Bool.not_false, Bool.true_and, Bool.and_self, AV.purge, AV.purges, AC.purge, AJ.purge, List.contains_cons, List.contains_nil, Nat.reduceBEq, Bool.or_self, Bool.or_false, Bool.false_or, Bool.or_true, eT, iR, e3, e4, s37, e5, hstep]
    exact ⟨by rw [List.map_append]; rfl, by congr 3⟩
 ·repeat' with_reducible first | refine W ?_ | refine Z0 ?_ | ((first | refine Wo fun K hK => ?_ | refine Wq ?_ | refine Wr ?_); (try simp only [go_sem, fN, seval, eT, iR, e3, e4, s37, e5, hlt]); (repeat refine Ai ?_); (try (refine hK _ ?_; clear hK K)))
  with_reducible refine Wp ?_
  simp only [go_sem, fN, seval, true_implies, false_implies, implies_true, dT, dF, nL, hlt]
  (try with_reducible refine iC ?_)
  repeat' with_reducible first | refine W ?_ | refine Z0 ?_ | ((first | refine Wo fun K hK => ?_ | refine Wq ?_ | refine Wr ?_); (try simp only [go_sem, fN, seval, eT, iR, e4, s37]); (repeat refine Ai ?_); (try (refine hK _ ?_; clear hK K)))
  simp only [go_sem, fN, seval, AM, AS.result, AB, AD, AI, e4, s37]
  rw [List.take_of_length_le (by omega)]
  rfl

def EP : List ByteArray → ByteArray → Int → Int
 | [], _, _ => -1
 | x :: xs, s, i => if x = s then i else EP xs s (i + 1)
def A5 (row : List ByteArray) (s : ByteArray) : Int := EP row s 0
def DF (x y : Int) : Int := if x < y then -1 else if y < x then 1 else 0
def Aw (row : List ByteArray) (a b : Tm) : Int :=
 if DF (A5 row a.name) (A5 row b.name) ≠ 0 then DF (A5 row a.name) (A5 row b.name) else if Fz a.name b.name ≠ 0 then Fz a.name b.name else DF a.args.length b.args.length
theorem Nn {x y : Int} : DF x y < 0 ↔ x < y := by unfold DF; split <;> (try split) <;> omega
theorem KO {x y : Int} : 0 < DF x y ↔ y < x := by unfold DF; split <;> (try split) <;> omega
theorem DJ {x y : Int} : DF x y = 0 ↔ x = y := by unfold DF; split <;> (try split) <;> omega
theorem Ox {a b : ByteArray} : Fz a b < 0 ↔ sLt a b = true := by
 unfold Fz
 split
 ·rename_i h; simp [h]
 ·rename_i h
  split <;> simp [h]
theorem JJ {a b : ByteArray} : Fz a b = 0 ↔ a = b := by
 unfold Fz
 split
 ·rename_i h
  constructor
  ·intro h'; cases h'
  ·intro e; subst e; rw [BR] at h; cases h
 ·split <;> simp_all
theorem PO {a b : ByteArray} : 0 < Fz a b ↔ sLt b a = true := by
 unfold Fz
 split
 ·rename_i h
  rw [Db h]
  simp
 ·rename_i h
  split
  ·rename_i e
   subst e
   rw [BR]
   simp
  ·rename_i e
   rcases EZ a b with h1 | h1 | h1
   ·exact absurd h1 h
   ·exact absurd h1 e
   ·simp [h1]
theorem HK {row : List ByteArray} {a b : Tm} : 0 < Aw row a b ↔ A5 row b.name < A5 row a.name ∨ (A5 row a.name = A5 row b.name ∧ (sLt b.name a.name = true ∨ (a.name = b.name ∧ b.args.length < a.args.length))) := by
 unfold Aw
 rcases Int.lt_trichotomy (A5 row a.name) (A5 row b.name) with h | h | h
 ·have h1 := Nn.2 h
  rw [if_pos (by omega)]
  constructor
  ·intro h2; omega
  ·intro h2; omega
 ·have h1 := DJ.2 h
  rw [if_neg (by omega)]
  rcases EZ a.name b.name with h2 | h2 | h2
  ·have h3 := Ox.2 h2
   rw [if_pos (by omega)]
   constructor
   ·intro h4; omega
   ·rintro (h4 | ⟨_, h4 | ⟨h4, _⟩⟩)
    ·omega
    ·rw [Db h2] at h4; cases h4
    ·rw [h4, BR] at h2; cases h2
  ·have h3 := JJ.2 h2
   rw [if_neg (by omega), KO]
   constructor
   ·intro h4; exact .inr ⟨h, .inr ⟨h2, by omega⟩⟩
   ·rintro (h4 | ⟨_, h4 | ⟨_, h4⟩⟩)
    ·omega
    ·rw [h2, BR] at h4; cases h4
    ·omega
  ·have h3 := PO.2 h2
   rw [if_pos (by omega)]
   exact ⟨fun _ => .inr ⟨h, .inl h2⟩, fun _ => h3⟩
 ·have h1 := KO.2 h
  rw [if_pos (by omega)]
  exact ⟨fun _ => .inl h, fun _ => h1⟩
theorem CI {row : List ByteArray} {a b : Tm} : Aw row a b = 0 ↔ a.name = b.name ∧ a.args.length = b.args.length := by
 unfold Aw
 constructor
 ·intro h
  by_cases h1 : DF (A5 row a.name) (A5 row b.name) ≠ 0
  ·rw [if_pos h1] at h; exact absurd h h1
  rw [if_neg h1] at h
  by_cases h2 : Fz a.name b.name ≠ 0
  ·rw [if_pos h2] at h; exact absurd h h2
  rw [if_neg h2, DJ] at h
  exact ⟨JJ.1 (by omega), by omega⟩
 ·rintro ⟨h1, h2⟩
  rw [if_neg (by rw [h1, Classical.not_not]; exact DJ.2 rfl), if_neg (by rw [Classical.not_not]; exact JJ.2 h1), h2]
  exact DJ.2 rfl
theorem FH {row : List ByteArray} {a b : Tm} : Aw row a b < 0 ↔ 0 < Aw row b a := by
 rw [HK]
 have h1 := @HK row a b
 have h0 := @CI row a b
 constructor
 ·intro h
  rcases Int.lt_trichotomy (A5 row a.name) (A5 row b.name) with h2 | h2 | h2
  ·exact .inl h2
  ·rcases EZ a.name b.name with h3 | h3 | h3
   ·exact .inr ⟨h2.symm, .inl h3⟩
   ·rcases Nat.lt_trichotomy a.args.length b.args.length with h4 | h4 | h4
    ·exact .inr ⟨h2.symm, .inr ⟨h3.symm, h4⟩⟩
    ·have := h0.2 ⟨h3, h4⟩; omega
    ·have := h1.2 (.inr ⟨h2, .inr ⟨h3, h4⟩⟩); omega
   ·have := h1.2 (.inr ⟨h2, .inl h3⟩); omega
  ·have := h1.2 (.inl h2); omega
 ·intro h
  have hn : ¬ 0 < Aw row a b := fun h2 => by
   rcases h1.1 h2 with h3 | ⟨h3, h4 | ⟨h4, h5⟩⟩ <;> rcases h with h6 | ⟨h6, h7 | ⟨h7, h8⟩⟩
   ·omega
   ·omega
   ·omega
   ·omega
   ·rw [Db h4] at h7; cases h7
   ·rw [h7, BR] at h4; cases h4
   ·omega
   ·rw [h4, BR] at h7; cases h7
   ·omega
  have hz : ¬ Aw row a b = 0 := fun h2 => by
   obtain ⟨e1, e2⟩ := h0.1 h2
   rcases h with h6 | ⟨h6, h7 | ⟨h7, h8⟩⟩
   ·rw [e1] at h6; omega
   ·rw [e1, BR] at h7; cases h7
   ·omega
  omega
mutual
def Tm.occN (v : ByteArray) : Tm → Nat
 | .mk n xs => (if n = v then 1 else 0) + Tm.occNs v xs
def Tm.occNs (v : ByteArray) : List Tm → Nat
 | [] => 0
 | t :: ts => t.occN v + Tm.occNs v ts
end
def okV (a b : Tm) : Prop := ∀ v, AW v = true → b.occN v ≤ a.occN v
theorem okV.trans {a b c : Tm} (h : okV a b) (k : okV b c) : okV a c := fun v hv => Nat.le_trans (k v hv) (h v hv)
inductive Lex (R : Tm → Tm → Prop) : List Tm → List Tm → Prop
 | here {x y xs ys} : x ≠ y → R x y → xs.length = ys.length → Lex R (x :: xs) (y :: ys)
 | on {x xs ys} : Lex R xs ys → Lex R (x :: xs) (x :: ys)
def MV (a b : Tm) : Bool := b.knots.all fun k => !AW k.name || decide (b.occN k.name ≤ a.occN k.name)
mutual
def Tm.wt (row : List ByteArray) : Tm → Tm → Bool
 | .mk n xs, b => MV (.mk n xs) b && (if (Tm.mk n xs).size = b.size then (!AW n && !AW b.name && (if Aw row (.mk n xs) b = 0 then Tm.wtL row xs b.args else decide (0 < Aw row (.mk n xs) b))) else decide (b.size < (Tm.mk n xs).size))
def Tm.wtL (row : List ByteArray) : List Tm → List Tm → Bool
 | x :: xs, y :: ys => if x.beq y = true then Tm.wtL row xs ys else x.wt row y
 | _, _ => false
end
mutual
theorem G5 (v : ByteArray) : ∀ t : Tm, 0 < t.occN v → ∃ k ∈ t.knots, k.name = v
 | .mk n xs, h => by
  rw [Tm.occN] at h
  by_cases e : n = v
  ·exact ⟨.mk n xs, by simp [Tm.knots], e⟩
  ·rw [if_neg e] at h
   obtain ⟨k, hk, e2⟩ := GQ v xs (by omega)
   exact ⟨k, by simp [Tm.knots, hk], e2⟩
theorem GQ (v : ByteArray) : ∀ xs : List Tm, 0 < Tm.occNs v xs → ∃ k ∈ Tm.knotsL xs, k.name = v
 | [], h => by simp [Tm.occNs] at h
 | t :: ts, h => by
  rw [Tm.occNs] at h
  by_cases e : 0 < t.occN v
  ·obtain ⟨k, hk, e2⟩ := G5 v t e
   exact ⟨k, by simp [Tm.knotsL, hk], e2⟩
  ·obtain ⟨k, hk, e2⟩ := GQ v ts (by omega)
   exact ⟨k, by simp [Tm.knotsL, hk], e2⟩
end
theorem J4 {a b : Tm} : MV a b = true ↔ okV a b := by
 unfold MV okV
 rw [List.all_eq_true]
 constructor
 ·intro h v hv
  by_cases h0 : 0 < b.occN v
  ·obtain ⟨k, hk, rfl⟩ := G5 v b h0
   have := h k hk
   rw [hv] at this
   simpa using this
  ·omega
 ·intro h k hk
  cases hv : AW k.name with
  | false => rfl
  | true => simpa using h _ hv
abbrev Wt (row : List ByteArray) (x y : Tm) : Prop := x.wt row y = true
theorem Lex.len {R : Tm → Tm → Prop} {xs ys : List Tm} (h : Lex R xs ys) : xs.length = ys.length := by
 induction h with
 | here _ _ h => simp [h]
 | on _ ih => simp [ih]
theorem L9 {row : List ByteArray} : ∀ {xs ys : List Tm}, xs.length = ys.length → (Tm.wtL row xs ys = true ↔ Lex (Wt row) xs ys)
 | [], [], _ => by rw [Tm.wtL]; exact ⟨fun h => (by cases h), fun h => (by cases h)⟩; simp
 | x :: xs, y :: ys, hl => by
  have hl' : xs.length = ys.length := by simpa using hl
  rw [Tm.wtL]
  by_cases e : x = y
  ·subst e
   rw [if_pos (Tm.beq_refl x), L9 hl']
   refine ⟨.on, fun h => ?_⟩
   cases h with
   | here h _ _ => exact absurd rfl h
   | on h => exact h
  ·rw [if_neg (fun h => e ((Tm.beq_iff x y).1 h))]
   refine ⟨fun h => .here e h hl', fun h => ?_⟩
   cases h with
   | here _ h _ => exact h
   | on _ => exact absurd rfl e
 | [], y :: ys, hl => by simp at hl
 | x :: xs, [], hl => by simp at hl
theorem Ph {row : List ByteArray} {a b : Tm} : Wt row a b ↔ okV a b ∧ (b.size < a.size ∨ (a.size = b.size ∧ AW a.name = false ∧ AW b.name = false ∧ (0 < Aw row a b ∨ (Aw row a b = 0 ∧ Lex (Wt row) a.args b.args)))) := by
 cases a with
 | mk n xs =>
  show Tm.wt row (.mk n xs) b = true ↔ _
  rw [Tm.wt, Bool.and_eq_true, J4, Tm.name_mk, Tm.args_mk]
  refine and_congr Iff.rfl ?_
  by_cases hz : (Tm.mk n xs).size = b.size
  ·rw [if_pos hz, Bool.and_eq_true, Bool.and_eq_true, Bool.not_eq_true', Bool.not_eq_true']
   by_cases hs : Aw row (.mk n xs) b = 0
   ·rw [if_pos hs, L9 (show xs.length = b.args.length from (CI.1 hs).2)]
    constructor
    ·rintro ⟨⟨h1, h2⟩, h3⟩; exact .inr ⟨hz, h1, h2, .inr ⟨hs, h3⟩⟩
    ·rintro (h | ⟨_, h1, h2, h3 | ⟨_, h3⟩⟩)
     ·omega
     ·omega
     ·exact ⟨⟨h1, h2⟩, h3⟩
   ·rw [if_neg hs, decide_eq_true_eq]
    constructor
    ·rintro ⟨⟨h1, h2⟩, h3⟩; exact .inr ⟨hz, h1, h2, .inl h3⟩
    ·rintro (h | ⟨_, h1, h2, h3 | ⟨h3, _⟩⟩)
     ·omega
     ·exact ⟨⟨h1, h2⟩, h3⟩
     ·exact absurd h3 hs
  ·rw [if_neg hz, decide_eq_true_eq]
   constructor
   ·exact .inl
   ·rintro (h | ⟨h, _⟩)
    ·exact h
    ·exact absurd h hz
theorem Lex.irrefl {R : Tm → Tm → Prop} : ∀ {xs : List Tm}, ¬ Lex R xs xs
 | [], h => by cases h
 | x :: xs, h => by
  cases h with
  | here h _ _ => exact h rfl
  | on h => exact Lex.irrefl h
theorem Lex.trans {R : Tm → Tm → Prop} : ∀ {xs ys zs : List Tm}, (∀ x ∈ xs, ∀ y ∈ ys, ∀ z ∈ zs, R x y → R y z → R x z ∧ x ≠ z) → Lex R xs ys → Lex R ys zs → Lex R xs zs := by
 intro xs ys zs ht h k
 induction h generalizing zs with
 | here hne hr hl =>
  cases k with
  | here hne2 hr2 hl2 =>
   obtain ⟨h1, h2⟩ := ht _ (by simp) _ (by simp) _ (by simp) hr hr2
   exact .here h2 h1 (hl.trans hl2)
  | on k => exact .here hne hr (hl.trans k.len)
 | on h ih =>
  cases k with
  | here hne2 hr2 hl2 => exact .here hne2 hr2 (h.len.trans hl2)
  | on k => exact .on (ih (fun x hx y hy z hz => ht x (by simp [hx]) y (by simp [hy]) z (by simp [hz])) k)
section
variable {s : List Bd} {a b : Tm} {row : List ByteArray}
theorem Lex.map {R : Tm → Tm → Prop} {f : Tm → Tm} : ∀ {xs ys : List Tm}, (∀ x ∈ xs, ∀ y ∈ ys, R x y → R (f x) (f y) ∧ f x ≠ f y) → Lex R xs ys → Lex R (xs.map f) (ys.map f) := by
 intro xs ys h k
 induction k with
 | here hne hr hl =>
  obtain ⟨h1, h2⟩ := h _ (by simp) _ (by simp) hr
  exact .here h2 h1 (by simp [hl])
 | on k ih => exact .on (ih fun x hx y hy => h x (by simp [hx]) y (by simp [hy]))
theorem Lex.at {R : Tm → Tm → Prop} {x y : Tm} (hne : x ≠ y) (h : R x y) : ∀ (xs ys : List Tm), Lex R (xs ++ x :: ys) (xs ++ y :: ys)
 | [], ys => .here hne h rfl
 | z :: xs, ys => .on (Lex.at hne h xs ys)
end

def C4 : List Int → Int
 | [] => 0
 | x :: xs => if x ≠ 0 then x else C4 xs
theorem Kx (row : List ByteArray) (a b : Tm) : Aw row a b = C4 [DF (A5 row a.name) (A5 row b.name), Fz a.name b.name, DF a.args.length b.args.length] := by
 unfold Aw
 simp only [C4]
 split
 ·rfl
 ·split
  ·rfl
  ·split
   ·rfl
   ·omega
def Es : List ByteArray → List ByteArray → Int
 | _, [] => 0
 | seen, x :: xs => if A0 x = true ∧ AW x = false then (if D3 x seen = true then 4 else Es (seen ++ [x]) xs) else 1
def BU (row : List ByteArray) : Int := if 40 < row.length then 3 else Es [] row
abbrev Ct := ByteArray × Int
def Fi (l : List Ct) (v : ByteArray) : Option Int := (l.find? fun b => decide (b.1 = v)).map (·.2)
def Ef (l : List Ct) (v : ByteArray) : Int := (Fi l v).getD 0
def E8 : List Ct → ByteArray → Int → List Ct
 | [], v, n => [(v, n)]
 | b :: l, v, n => if b.1 = v then (v, n) :: l else b :: E8 l v n
mutual
def Tm.cnt (by_ : Int) : Tm → List Ct → List Ct
 | .mk n xs, l => Tm.cntL by_ xs (if AW n = true then E8 l n (Ef l n + by_) else l)
def Tm.cntL (by_ : Int) : List Tm → List Ct → List Ct
 | [], l => l
 | t :: ts, l => Tm.cntL by_ ts (t.cnt by_ l)
end
theorem Tm.cntL_append (by_ : Int) : ∀ (xs ys : List Tm) (l : List Ct), Tm.cntL by_ (xs ++ ys) l = Tm.cntL by_ ys (Tm.cntL by_ xs l)
 | [], ys, l => rfl
 | x :: xs, ys, l => by
  simp only [List.cons_append, Tm.cntL]
  exact Tm.cntL_append by_ xs ys _
theorem Tm.cntL_take {by_ : Int} {xs : List Tm} {k : Nat} {a : Tm} {l : List Ct} (h : xs[k]? = some a) : Tm.cntL by_ (xs.take (k + 1)) l = a.cnt by_ (Tm.cntL by_ (xs.take k) l) := by
 rw [Aa h, Tm.cntL_append]
 rfl
theorem BX (b : Ct) (l : List Ct) (v : ByteArray) : Fi (b :: l) v = if b.1 = v then some b.2 else Fi l v := by
 unfold Fi
 by_cases h : b.1 = v
 ·rw [List.find?_cons_of_pos (by simpa using h), if_pos h]; rfl
 ·rw [List.find?_cons_of_neg (by simpa using h), if_neg h]
theorem HE (l : List Ct) (v u : ByteArray) (n : Int) : Ef (E8 l v n) u = if v = u then n else Ef l u := by
 unfold Ef
 induction l with
 | nil =>
  rw [E8, BX]
  split
  ·rfl
  ·rfl
 | cons b l ih =>
  rw [E8]
  by_cases h : b.1 = v
  ·rw [if_pos h, BX, BX]
   by_cases e : v = u
   ·rw [if_pos e, if_pos e]; rfl
   ·rw [if_neg e, if_neg e, if_neg (by rw [h]; exact e)]
  ·rw [if_neg h, BX, BX]
   by_cases e : b.1 = u
   ·rw [if_pos e, if_pos e, if_neg (fun e2 => h (e.trans e2.symm))]
   ·rw [if_neg e, if_neg e]
    exact ih
theorem IV (l : List Ct) (v : ByteArray) (n : Int) : ∀ b ∈ E8 l v n, b.1 = v ∨ b ∈ l := by
 induction l with
 | nil => intro b hb; rw [E8, List.mem_singleton] at hb; subst hb; exact .inl rfl
 | cons c l ih =>
  intro b hb
  rw [E8] at hb
  split at hb
  ·rcases List.mem_cons.1 hb with rfl | hb
   ·exact .inl rfl
   ·exact .inr (by simp [hb])
  ·rcases List.mem_cons.1 hb with rfl | hb
   ·exact .inr (by simp)
   ·rcases ih b hb with h | h
    ·exact .inl h
    ·exact .inr (by simp [h])
def Fy (l : List Ct) : Prop := (l.map (·.1)).Nodup
theorem K_ {l : List Ct} (h : Fy l) (v : ByteArray) (n : Int) : Fy (E8 l v n) := by
 unfold Fy at *
 induction l with
 | nil => simp [E8]
 | cons c l ih =>
  rw [List.map_cons, List.nodup_cons] at h
  rw [E8]
  split
  ·rename_i e
   subst e
   rw [List.map_cons, List.nodup_cons]
   exact h
  ·rename_i e
   rw [List.map_cons, List.nodup_cons]
   refine ⟨fun hm => ?_, ih h.2⟩
   obtain ⟨b, hb, e2⟩ := List.mem_map.1 hm
   rcases IV l v n b hb with h3 | h3
   ·exact e (e2.symm.trans h3)
   ·exact h.1 (by rw [← e2]; exact List.mem_map_of_mem h3)
structure Gy (l : List Ct) : Prop where
 named : Fy l
 vars : ∀ b ∈ l, AW b.1 = true
theorem M8 {l : List Ct} (h : Gy l) {v : ByteArray} (hv : AW v = true) (n : Int) : Gy (E8 l v n) :=
 ⟨K_ h.named v n, fun b hb => by
  rcases IV l v n b hb with h1 | h1
  ·rw [h1]; exact hv
  ·exact h.vars b h1⟩
mutual
theorem K3 (by_ : Int) : ∀ (t : Tm) (l : List Ct), Gy l → Gy (t.cnt by_ l)
 | .mk n xs, l, h => by
  rw [Tm.cnt]
  refine L5 by_ xs _ ?_
  split
  ·rename_i hv
   exact M8 h hv _
  ·exact h
theorem L5 (by_ : Int) : ∀ (xs : List Tm) (l : List Ct), Gy l → Gy (Tm.cntL by_ xs l)
 | [], l, h => h
 | t :: ts, l, h => L5 by_ ts _ (K3 by_ t l h)
end
mutual
theorem Fh (by_ : Int) (v : ByteArray) (hv : AW v = true) : ∀ (t : Tm) (l : List Ct), Ef (t.cnt by_ l) v = Ef l v + by_ * t.occN v
 | .mk n xs, l => by
  rw [Tm.cnt, Fm by_ v hv xs, Tm.occN]
  by_cases e : n = v
  ·subst e
   rw [if_pos hv, HE, if_pos rfl, if_pos rfl, Int.natCast_add, Int.mul_add]
   simp only [Int.natCast_one, Int.mul_one]
   omega
  ·rw [if_neg e, Nat.zero_add]
   split
   ·rw [HE, if_neg e]
   ·rfl
theorem Fm (by_ : Int) (v : ByteArray) (hv : AW v = true) : ∀ (xs : List Tm) (l : List Ct), Ef (Tm.cntL by_ xs l) v = Ef l v + by_ * Tm.occNs v xs
 | [], l => by simp [Tm.cntL, Tm.occNs]
 | t :: ts, l => by
  rw [Tm.cntL, Fm by_ v hv ts, Fh by_ v hv t, Tm.occNs, Int.natCast_add, Int.mul_add]
  omega
end
mutual
theorem Lx (v : ByteArray) : ∀ t : Tm, t.occN v ≤ t.size
 | .mk n xs => by
  rw [Tm.occN, Tm.size]
  have := HU v xs
  split <;> omega
theorem HU (v : ByteArray) : ∀ xs : List Tm, Tm.occNs v xs ≤ Tm.sizes xs
 | [] => Nat.le_refl _
 | t :: ts => by
  rw [Tm.occNs, Tm.sizes]
  have := Lx v t
  have := HU v ts
  omega
end
theorem MP {l : List Ct} {v : ByteArray} {n : Int} (h : Fi l v = some n) : (v, n) ∈ l := by
 induction l with
 | nil => cases h
 | cons b l ih =>
  rw [BX] at h
  split at h
  ·rename_i e
   cases h
   rw [← e]
   simp
  ·exact List.mem_cons_of_mem _ (ih h)
theorem OV {l : List Ct} (hn : Fy l) {b : Ct} (h : b ∈ l) : Fi l b.1 = some b.2 := by
 unfold Fy at hn
 induction l with
 | nil => cases h
 | cons c l ih =>
  rw [List.map_cons, List.nodup_cons] at hn
  rw [BX]
  rcases List.mem_cons.1 h with rfl | h
  ·rw [if_pos rfl]
  ·rw [if_neg fun e => hn.1 (by rw [e]; exact List.mem_map_of_mem h)]
   exact ih hn.2 h
def Gx (a b : Tm) : List Ct := b.cnt (-1) (a.cnt 1 [])
theorem KF (a b : Tm) : Gy (Gx a b) := K3 _ _ _ (K3 _ _ _ ⟨List.nodup_nil, by simp⟩)
theorem IS (a b : Tm) {v : ByteArray} (hv : AW v = true) : Ef (Gx a b) v = (a.occN v : Int) - b.occN v := by
 unfold Gx
 rw [Fh _ _ hv, Fh _ _ hv]
 show (0 : Int) + 1 * _ + -1 * _ = _
 omega
theorem Mr {a b : Tm} : (∀ c ∈ Gx a b, 0 ≤ c.2) ↔ okV a b := by
 constructor
 ·intro h v hv
  have hg := IS a b hv
  unfold Ef at hg
  cases hf : Fi (Gx a b) v with
  | none => rw [hf] at hg; simp only [Option.getD_none] at hg; omega
  | some n =>
   rw [hf] at hg
   simp only [Option.getD_some] at hg
   have := h _ (MP hf)
   simp only at this
   omega
 ·intro h c hc
  have hv := (KF a b).vars c hc
  have hg := IS a b hv
  unfold Ef at hg
  rw [OV (KF a b).named hc] at hg
  simp only [Option.getD_some] at hg
  have := h c.1 hv
  omega

def CZ (v : ByteArray) (l : List Tm) : Nat := (l.filter fun k => decide (k.name = v)).length
theorem Er (v : ByteArray) (xs ys : List Tm) : CZ v (xs ++ ys) = CZ v xs + CZ v ys := by simp [CZ]
mutual
theorem FJ (v : ByteArray) : ∀ t : Tm, CZ v t.knots = t.occN v
 | .mk n xs => by
  rw [Tm.knots, Tm.occN, ← El v xs]
  unfold CZ
  rw [List.filter_cons]
  by_cases h : n = v
  ·simp [Tm.name, h]
   omega
  ·simp [Tm.name, h]
theorem El (v : ByteArray) : ∀ xs : List Tm, CZ v (Tm.knotsL xs) = Tm.occNs v xs
 | [] => rfl
 | t :: ts => by rw [Tm.knotsL, Er, FJ v t, El v ts]; rfl
end
theorem Jm {v : ByteArray} {l : List Tm} {k : Nat} {a : Tm} (h : l[k]? = some a) : CZ v (l.take (k + 1)) = CZ v (l.take k) + if a.name = v then 1 else 0 := by
 rw [Aa h, Er]
 congr 1
 unfold CZ
 by_cases h : a.name = v <;> simp [h]
theorem Mj (v : ByteArray) (l : List Tm) : CZ v l ≤ l.length := List.length_filter_le _ _
def Of (a b : Tm) : Bool := b.varsOf.all fun v => decide (b.occN v ≤ a.occN v)
theorem J2 {l : List ByteArray} {n v : ByteArray} : v ∈ Bg l n ↔ v ∈ l ∨ (AW n = true ∧ v = n) := by
 unfold Bg
 split
 ·rename_i h
  simp only [Bool.and_eq_true, Bool.not_eq_true'] at h
  simp [h.1]
 ·rename_i h
  constructor
  ·exact .inl
  ·rintro (h1 | ⟨h1, rfl⟩)
   ·exact h1
   ·rw [h1] at h
    simp only [Bool.true_and, Bool.not_eq_true', Bool.not_eq_false] at h
    exact FU.1 h
theorem Df : ∀ {ks : List Tm} {l : List ByteArray} {v : ByteArray}, v ∈ BK l ks ↔ v ∈ l ∨ ∃ k ∈ ks, AW k.name = true ∧ v = k.name
 | [], l, v => by simp [BK]
 | k :: ks, l, v => by
  have e : BK l (k :: ks) = BK (Bg l k.name) ks := rfl
  rw [e, Df, J2]
  simp only [List.mem_cons, exists_eq_or_imp]
  exact or_assoc
theorem PD (a b : Tm) : Of a b = MV a b := by
 rw [Bool.eq_iff_iff, Of, MV, List.all_eq_true, List.all_eq_true]
 unfold Tm.varsOf
 constructor
 ·intro h k hk
  cases hv : AW k.name with
  | false => rfl
  | true =>
   have := h k.name (Df.2 (.inr ⟨k, hk, hv, rfl⟩))
   simpa using this
 ·intro h v hv
  rcases Df.1 hv with h1 | ⟨k, hk, h2, rfl⟩
  ·cases h1
  ·have := h k hk
   rw [h2] at this
   simpa using this
theorem Tm.wt_eq (row : List ByteArray) (a b : Tm) : a.wt row b = (MV a b && (if a.size = b.size then (!AW a.name && !AW b.name && (if Aw row a b = 0 then Tm.wtL row a.args b.args else decide (0 < Aw row a b))) else decide (b.size < a.size))) := by
 cases a
 rw [Tm.wt]
 rfl

inductive Pa (row : List ByteArray) : Tm → Tm → Prop
 | is {a x : Tm} : AW a.name = false → x ∈ a.args → Pa row a x
 | sub {a b x : Tm} : AW a.name = false → x ∈ a.args → Pa row x b → Pa row a b
 | gt {a b : Tm} : AW a.name = false → AW b.name = false → 0 < Aw row a b → (∀ y ∈ b.args, Pa row a y) → Pa row a b
 | lex {a b x y : Tm} {p xs ys : List Tm} : AW a.name = false → AW b.name = false → Aw row a b = 0 → (∀ y ∈ b.args, Pa row a y) → a.args = p ++ x :: xs → b.args = p ++ y :: ys → x ≠ y → Pa row x y → Pa row a b
theorem Lex.split {R : Tm → Tm → Prop} {xs ys : List Tm} (h : Lex R xs ys) : ∃ p x y us vs, xs = p ++ x :: us ∧ ys = p ++ y :: vs ∧ x ≠ y ∧ R x y := by
 induction h with
 | here hne hr hl => exact ⟨[], _, _, _, _, rfl, rfl, hne, hr⟩
 | on k ih =>
  obtain ⟨p, x, y, us, vs, e1, e2, h1, h2⟩ := ih
  exact ⟨_ :: p, x, y, us, vs, by rw [e1]; rfl, by rw [e2]; rfl, h1, h2⟩
theorem Lex.at2 {R : Tm → Tm → Prop} {x y : Tm} (hne : x ≠ y) (h : R x y) {us vs : List Tm} (hl : us.length = vs.length) : ∀ p : List Tm, Lex R (p ++ x :: us) (p ++ y :: vs)
 | [] => .here hne h hl
 | z :: p => .on (Lex.at2 hne h hl p)
theorem Ld {row : List ByteArray} {a b : Tm} : Pa row a b ↔ AW a.name = false ∧ ((∃ x ∈ a.args, x = b ∨ Pa row x b) ∨ (AW b.name = false ∧ ¬ Aw row a b < 0 ∧ (∀ y ∈ b.args, Pa row a y) ∧ (0 < Aw row a b ∨ Lex (Pa row) a.args b.args))) := by
 constructor
 ·intro h
  cases h with
  | is h1 h2 => exact ⟨h1, .inl ⟨_, h2, .inl rfl⟩⟩
  | sub h1 h2 h3 => exact ⟨h1, .inl ⟨_, h2, .inr h3⟩⟩
  | gt h1 h2 h3 h4 => exact ⟨h1, .inr ⟨h2, by omega, h4, .inl h3⟩⟩
  | lex h1 h2 h3 h4 e1 e2 hne h5 =>
   refine ⟨h1, .inr ⟨h2, by omega, h4, .inr ?_⟩⟩
   have hl := (CI.1 h3).2
   rw [e1, e2] at hl ⊢
   exact Lex.at2 hne h5 (by simpa using hl) _
 ·rintro ⟨h1, ⟨x, hx, rfl | h⟩ | ⟨h2, h3, h4, h5⟩⟩
  ·exact .is h1 hx
  ·exact .sub h1 hx h
  ·by_cases h6 : 0 < Aw row a b
   ·exact .gt h1 h2 h6 h4
   ·rcases h5 with h5 | h5
    ·exact absurd h5 h6
    ·obtain ⟨p, x, y, us, vs, e1, e2, hne, h7⟩ := h5.split
     exact .lex h1 h2 (by omega) h4 e1 e2 hne h7
variable {row : List ByteArray} {a b c : Tm}
theorem Pa.fn (h : Pa row a b) : AW a.name = false := (Ld.1 h).1

mutual
theorem Tm.knots_drop : ∀ (t : Tm) (i : Nat) (x : Tm), t.knots[i]? = some x → ∃ rest, t.knots.drop i = x.knots ++ rest
 | .mk n xs, i, x, h => by
  rw [Tm.knots] at h ⊢
  cases i with
  | zero =>
   rw [List.getElem?_cons_zero] at h
   cases h
   exact ⟨[], by rw [List.drop_zero, List.append_nil, Tm.knots]⟩
  | succ i =>
   rw [List.getElem?_cons_succ] at h
   rw [List.drop_succ_cons]
   exact Tm.knotsL_drop xs i x h
theorem Tm.knotsL_drop : ∀ (xs : List Tm) (i : Nat) (x : Tm), (Tm.knotsL xs)[i]? = some x → ∃ rest, (Tm.knotsL xs).drop i = x.knots ++ rest
 | [], i, x, h => by simp [Tm.knotsL] at h
 | t :: ts, i, x, h => by
  rw [Tm.knotsL] at h ⊢
  by_cases hi : i < t.knots.length
  ·rw [List.getElem?_append_left hi] at h
   obtain ⟨rest, hr⟩ := Tm.knots_drop t i x h
   exact ⟨rest ++ Tm.knotsL ts, by rw [List.drop_append_of_le_length (by omega), hr, List.append_assoc]⟩
  ·rw [List.getElem?_append_right (by omega)] at h
   obtain ⟨rest, hr⟩ := Tm.knotsL_drop ts _ x h
   exact ⟨rest, by rw [List.drop_append, List.drop_eq_nil_of_le (by omega), List.nil_append]; exact hr⟩
end
def BH (x : Tm) (i m : Nat) : Nat := i + 1 + Tm.sizes (x.args.take m)
theorem Dg (x : Tm) (i : Nat) : BH x i 0 = i + 1 := by unfold BH; simp [Tm.sizes]
theorem Cy {x c : Tm} {m : Nat} (i : Nat) (h : x.args[m]? = some c) : BH x i (m + 1) = BH x i m + c.size := by
 unfold BH
 rw [Aa h, Tm.sizes_append]
 simp only [Tm.sizes]
 omega
theorem DV (x : Tm) (i : Nat) : BH x i x.args.length = i + x.size := by
 unfold BH
 rw [List.take_length]
 cases x
 simp only [Tm.size, Tm.args_mk]
 omega
theorem Ny (x : Tm) (i m : Nat) : BH x i m ≤ i + x.size := by
 by_cases h : x.args.length ≤ m
 ·rw [← DV x i]
  unfold BH
  rw [List.take_of_length_le h, List.take_length]
  exact Nat.le_refl _
 ·rw [← DV x i]
  unfold BH
  have e : x.args = x.args.take m ++ x.args.drop m := (List.take_append_drop _ _).symm
  rw [List.take_length]
  conv => rhs; rw [e, Tm.sizes_append]
  omega
theorem HP (x : Tm) (i m : Nat) : i < BH x i m := by unfold BH; omega
theorem JL {x : Tm} {i m : Nat} (h : m < x.args.length) : BH x i m < i + x.size := by
 have h1 : x.args[m]? = some x.args[m] := List.getElem?_eq_getElem h
 have h2 := Cy i h1
 have h3 := Ny x i (m + 1)
 have : 0 < (x.args[m]).size := Tm.size_pos _
 omega
theorem FG {t x c : Tm} {i m : Nat} (h : t.knots[i]? = some x) (hc : x.args[m]? = some c) : t.knots[BH x i m]? = some c := by
 obtain ⟨rest, hr⟩ := Tm.knots_drop t i x h
 have hm : m < x.args.length := (List.getElem?_eq_some_iff.1 hc).1
 have e : t.knots[BH x i m]? = (t.knots.drop i)[BH x i m - i]? := by
  rw [List.getElem?_drop]
  congr 1
  have := HP x i m
  omega
 rw [e, hr, List.getElem?_append_left (by rw [Tm.knots_length]; have := JL (i := i) hm; have := HP x i m; omega)]
 have e2 : BH x i m - i = Tm.sizes (x.args.take m) + 1 := by unfold BH; omega
 rw [e2, Tm.knots_eq, List.getElem?_cons_succ]
 have e3 : x.args = x.args.take m ++ c :: x.args.drop (m + 1) := by
  have h1 := (List.getElem?_eq_some_iff.1 hc).2
  conv => lhs; rw [← List.take_append_drop m x.args, List.drop_eq_getElem_cons hm, h1]
 have e4 : Tm.knotsL x.args = Tm.knotsL (x.args.take m) ++ (c.knots ++ Tm.knotsL (x.args.drop (m + 1))) := by
  conv => lhs; rw [e3, Tm.knotsL_append, Tm.knotsL]
 rw [e4, List.getElem?_append_right (by rw [Tm.knotsL_length]; exact Nat.le_refl _), Tm.knotsL_length, Nat.sub_self, Tm.knots_eq]
 rfl
theorem Gn {t x : Tm} {i : Nat} (h : t.knots[i]? = some x) : i + x.size ≤ t.size := by
 obtain ⟨rest, hr⟩ := Tm.knots_drop t i x h
 have h1 := congrArg List.length hr
 have hi : i < t.knots.length := (List.getElem?_eq_some_iff.1 h).1
 rw [List.length_drop, List.length_append, Tm.knots_length, Tm.knots_length] at h1
 rw [Tm.knots_length] at hi
 omega
open Classical in
noncomputable def paB (row : List ByteArray) (a b : Tm) : Bool := decide (Pa row a b)
theorem Du {row : List ByteArray} {a b : Tm} : paB row a b = true ↔ Pa row a b := by unfold paB; simp
theorem E0 {row : List ByteArray} {a b : Tm} : paB row a b = false ↔ ¬ Pa row a b := by unfold paB; simp
theorem L4 {row : List ByteArray} {a b : Tm} (h : AW a.name = true) : paB row a b = false := E0.2 fun k => by have := k.fn; rw [h] at this; cases this
theorem GY {row : List ByteArray} {a b x : Tm} (h : AW a.name = false) (hx : x ∈ a.args) (k : x = b ∨ paB row x b = true) : paB row a b = true :=
 Du.2 (Ld.2 ⟨h, .inl ⟨x, hx, k.imp id Du.1⟩⟩)
theorem Gi {row : List ByteArray} {a b : Tm} (h : AW a.name = false) (hno : ∀ x ∈ a.args, x ≠ b ∧ paB row x b = false) : Pa row a b ↔ (AW b.name = false ∧ ¬ Aw row a b < 0 ∧ (∀ y ∈ b.args, Pa row a y) ∧ (0 < Aw row a b ∨ Lex (Pa row) a.args b.args)) := by
 rw [Ld]
 constructor
 ·rintro ⟨_, ⟨x, hx, e | k⟩ | h⟩
  ·exact absurd e (hno x hx).1
  ·exact absurd k (E0.1 (hno x hx).2)
  ·exact h
 ·exact fun k => ⟨h, .inr k⟩
theorem DM {row : List ByteArray} {a b : Tm} (h : AW a.name = false) (hno : ∀ x ∈ a.args, x ≠ b ∧ paB row x b = false) (hs : AW b.name = true ∨ Aw row a b < 0 ∨ ∃ y ∈ b.args, paB row a y = false) : paB row a b = false := by
 rw [E0, Gi h hno]
 rintro ⟨h1, h2, h3, _⟩
 rcases hs with hs | hs | ⟨y, hy, k⟩
 ·rw [h1] at hs; cases hs
 ·exact h2 hs
 ·exact E0.1 k (h3 y hy)
theorem Nt {row : List ByteArray} {a b : Tm} (h : AW a.name = false) (hb : AW b.name = false) (hs : 0 < Aw row a b) (hall : ∀ y ∈ b.args, paB row a y = true) : paB row a b = true :=
 Du.2 (.gt h hb hs fun y hy => Du.1 (hall y hy))
theorem Lex.tail {R : Tm → Tm → Prop} : ∀ {xs ys : List Tm} {x y : Tm}, x ≠ y → Lex R (x :: xs) (y :: ys) → R x y
 | _, _, _, _, hne, .here _ h _ => h
 | _, _, _, _, hne, .on _ => absurd rfl hne
theorem Lex.same {R : Tm → Tm → Prop} : ∀ {xs ys : List Tm} {x : Tm}, Lex R (x :: xs) (x :: ys) → Lex R xs ys
 | _, _, _, .here hne _ _ => absurd rfl hne
 | _, _, _, .on h => h
theorem Lex.first {R : Tm → Tm → Prop} {x y : Tm} {us vs : List Tm} (hne : x ≠ y) : ∀ {p q : List Tm}, p = q → Lex R (p ++ x :: us) (q ++ y :: vs) → R x y
 | [], _, rfl, h => Lex.tail hne h
 | z :: p, _, rfl, h => Lex.first hne rfl (Lex.same h)
theorem FI {xs : List Tm} {k : Nat} {x : Tm} (h : xs[k]? = some x) : xs = xs.take k ++ x :: xs.drop (k + 1) := by
 have hm : k < xs.length := (List.getElem?_eq_some_iff.1 h).1
 have h1 := (List.getElem?_eq_some_iff.1 h).2
 conv => lhs; rw [← List.take_append_drop k xs, List.drop_eq_getElem_cons hm, h1]
theorem IH {row : List ByteArray} {a b x y : Tm} {k : Nat} (h : AW a.name = false) (hb : AW b.name = false) (hno : ∀ x ∈ a.args, x ≠ b ∧ paB row x b = false) (hs : Aw row a b = 0) (hall : ∀ y ∈ b.args, paB row a y = true) (hp : a.args.take k = b.args.take k) (hx : a.args[k]? = some x) (hy : b.args[k]? = some y) (hne : x ≠ y) : paB row a b = paB row x y := by
 cases hxy : paB row x y with
 | true => exact Du.2 (.lex h hb hs (fun y hy => Du.1 (hall y hy)) (FI hx) ((FI hy).trans (by rw [hp])) hne (Du.1 hxy))
 | false =>
  rw [E0, Gi h hno]
  rintro ⟨_, _, _, k1 | k1⟩
  ·omega
  ·refine E0.1 hxy ?_
   rw [FI hx, FI hy] at k1
   exact Lex.first hne hp k1
theorem Jb {row : List ByteArray} {a b : Tm} (h : AW a.name = false) (hno : ∀ x ∈ a.args, x ≠ b ∧ paB row x b = false) (hs : Aw row a b = 0) (he : a.args = b.args) : paB row a b = false := by
 rw [E0, Gi h hno]
 rintro ⟨_, _, _, k1 | k1⟩
 ·omega
 ·rw [he] at k1
  exact Lex.irrefl k1

set_option maxHeartbeats 2000000
theorem EY (l : List ByteArray) (x : ByteArray) : AQ Try.prog 43 [At l, CQ x] (AR (A5 l x)) := by
 refine NJ.ac fun C hC => ?_
 unfold ID
 refine IWP.learn 0 (by omega) fun hkn => ?_
 have hkn := Bv hkn
 rw [List.length_map] at hkn
 repeat' with_reducible first | refine W ?_ | refine Z0 ?_ | ((first | refine Wo fun K hK => ?_ | refine Wp ?_ | refine Wq ?_ | refine Wr ?_); (try simp only [go_sem, fN, seval, eT, iR, dT, dF, nL]); (repeat refine Ai ?_); (try (refine hK _ ?_; clear hK K)); try refine iC ?_)
 refine IWP.loop (fun n s => ∃ k, k ≤ l.length ∧ n = l.length - k ∧ A5 l x = EP (l.drop k) x k ∧ s.env 0 = At l ∧ s.env 1 = CQ x ∧ s.env 5 = AR k) l.length ⟨0, Nat.zero_le _, rfl, rfl, rfl, rfl, rfl⟩ ?_
 rintro n ⟨env, S⟩ ⟨k, hk, rfl, hr, e0, e1, e5⟩
 simp only at e0 e1 e5
 by_cases hlt : (k : Int) < l.length
 ·obtain ⟨a, ha⟩ := Aj (show k < l.length by omega)
  rw [BT ha, EP] at hr
  by_cases he : a = x
  ·subst he
   rw [if_pos rfl] at hr
   repeat' with_reducible first | refine W ?_ | refine Z0 ?_ | ((first | refine Wo fun K hK => ?_ | refine Wp ?_ | refine Wq ?_ | refine Wr ?_); (try simp only [go_sem, fN, seval, eT, iR, e0, e1, e5, hlt, ha, dT, dF, nL]); (repeat refine Ai ?_); (try (refine hK _ ?_; clear hK K)); try refine iC ?_)
   simp only [go_sem, fN, seval, AM, AS.result, AB, AD, AI]
   rw [hr]
  ·rw [if_neg he] at hr
   repeat' with_reducible first | refine W ?_ | refine Z0 ?_ | ((first | refine Wo fun K hK => ?_ | refine Wp ?_ | refine Wq ?_ | refine Wr ?_); (try simp only [go_sem, fN, seval, eT, iR, e0, e1, e5, hlt, ha, he, dT, dF, nL]); (repeat refine Ai ?_); (try (refine hK _ ?_; clear hK K)); try refine iC ?_)
   refine AH ⟨l.length - (k + 1), by omega, k + 1, by omega, rfl, by rw [hr]; rfl, ?_⟩
   simp only [go_sem, fN, seval, eT, iR, e0, e1, e5]
   congr 3
 ·rw [List.drop_of_length_le (by omega), EP] at hr
  repeat' with_reducible first | refine W ?_ | refine Z0 ?_ | ((first | refine Wo fun K hK => ?_ | refine Wp ?_ | refine Wq ?_ | refine Wr ?_); (try simp only [go_sem, fN, seval, eT, iR, e0, e1, e5, hlt, dT, dF, nL]); (repeat refine Ai ?_); (try (refine hK _ ?_; clear hK K)); try refine iC ?_)
  simp only [go_sem, fN, seval, AM, AS.result, AB, AD, AI]
  rw [hr]
theorem PX {x y : ByteArray} (h : ¬ x = y) : (!(sLt x y || decide (x = y))) = sLt y x := by
 rcases EZ x y with h1 | h1 | h1
 ·rw [h1, Db h1]
  rfl
 ·exact absurd h1 h
 ·rw [h1, Db h1]
  simp [h]
theorem Dm (row : List ByteArray) (a b : Tm) : AQ Try.prog 34 [At row, aTm a, aTm b] (Ag (decide (0 < Aw row a b))) := by
 have hp := HK (row := row) (a := a) (b := b)
 by_cases h1 : A5 row a.name = A5 row b.name
 case neg =>
  have e : decide (0 < Aw row a b) = decide (A5 row b.name < A5 row a.name) := by
   rw [decide_eq_decide, hp]
   exact ⟨fun h => h.elim id fun h => absurd h.1 h1, .inl⟩
  rw [e]
  refine Dc.ac fun C hC => ?_
  unfold Cf
  repeat' (first | (with_reducible first | refine W ?_ | refine Z0 ?_ | ((first | refine Wo fun K hK => ?_ | refine Wp ?_ | refine Wq ?_ | refine Wr ?_); (try simp only [go_sem, fN, seval, eT, iR, h1, dT, dF, nL]); (repeat refine Ai ?_); (try (refine hK _ ?_; clear hK K)); try refine iC ?_)) | refine Cg _ (EY row a.name) ?_ | refine Cg _ (EY row b.name) ?_)
  simp only [go_sem, fN, seval, AM, AS.result, AB, AD, AI]
 case pos =>
 by_cases h2 : a.name = b.name
 case neg =>
  have e : decide (0 < Aw row a b) = !(sLt a.name b.name || decide (a.name = b.name)) := by
   rw [PX h2, Bool.eq_iff_iff, decide_eq_true_eq, hp]
   exact ⟨fun h => h.elim (fun h => by omega) fun h => h.2.elim id fun h => absurd h.1 h2, fun h => .inr ⟨h1, .inl h⟩⟩
  rw [e]
  refine Dc.ac fun C hC => ?_
  unfold Cf
  repeat' (first | (with_reducible first | refine W ?_ | refine Z0 ?_ | ((first | refine Wo fun K hK => ?_ | refine Wp ?_ | refine Wq ?_ | refine Wr ?_); (try simp only [go_sem, fN, seval, eT, iR, h1, h2, dT, dF, nL]); (repeat refine Ai ?_); (try (refine hK _ ?_; clear hK K)); try refine iC ?_)) | refine Cg _ (EY row a.name) ?_ | refine Cg _ (EY row b.name) ?_)
  simp only [go_sem, fN, seval, AM, AS.result, AB, AD, AI]
 case pos =>
  have e : decide (0 < Aw row a b) = decide ((b.args.length : Int) < a.args.length) := by
   rw [decide_eq_decide, hp]
   constructor
   ·rintro (h | ⟨_, h | h⟩)
    ·omega
    ·rw [h2, BR] at h
     cases h
    ·omega
   ·intro h
    exact .inr ⟨h1, .inr ⟨h2, by omega⟩⟩
  rw [e]
  refine Dc.ac fun C hC => ?_
  unfold Cf
  repeat' (first | (with_reducible first | refine W ?_ | refine Z0 ?_ | ((first | refine Wo fun K hK => ?_ | refine Wp ?_ | refine Wq ?_ | refine Wr ?_); (try simp only [go_sem, fN, seval, eT, iR, h1, h2, dT, dF, nL]); (repeat refine Ai ?_); (try (refine hK _ ?_; clear hK K)); try refine iC ?_)) | refine Cg _ (EY row a.name) ?_ | refine Cg _ (EY row b.name) ?_)
  simp only [go_sem, fN, seval, AM, AS.result, AB, AD, AI]
theorem MN (row : List ByteArray) : AQ Try.prog 15 [At row] (AR (BU row)) := by
 refine KX.ac fun C hC => ?_
 unfold GL
 by_cases h40 : 40 < row.length
 ·have h40' : (40 : Int) < row.length := by omega
  repeat' with_reducible first | refine W ?_ | refine Z0 ?_ | ((first | refine Wo fun K hK => ?_ | refine Wp ?_ | refine Wq ?_ | refine Wr ?_); (try simp only [go_sem, fN, seval, eT, iR, h40', dT, dF, nL]); (repeat refine Ai ?_); (try (refine hK _ ?_; clear hK K)); try refine iC ?_)
  simp only [go_sem, fN, seval, AM, AS.result, AB, AD, AI]
  unfold BU
  rw [if_pos h40]
 have h40' : ¬ (40 : Int) < row.length := by omega
 have hm : BU row = Es [] row := by unfold BU; rw [if_neg h40]
 repeat' with_reducible first | refine W ?_ | refine Z0 ?_ | ((first | refine Wo fun K hK => ?_ | refine Wp ?_ | refine Wq ?_ | refine Wr ?_); (try simp only [go_sem, fN, seval, eT, iR, h40', dT, dF, nL]); (repeat refine Ai ?_); (try (refine hK _ ?_; clear hK K)); try refine iC ?_)
 refine IWP.loop (fun n s => ∃ k, k ≤ row.length ∧ n = row.length - k ∧ BU row = Es (row.take k) (row.drop k) ∧ s.env 0 = At row ∧ s.env 3 = AR k) row.length ⟨0, Nat.zero_le _, rfl, by rw [hm]; rfl, rfl, rfl⟩ ?_
 rintro n ⟨env, S⟩ ⟨k, hk, rfl, hr, e0, e3⟩
 simp only at e0 e3
 by_cases hlt : (k : Int) < row.length
 ·obtain ⟨a, ha⟩ := Aj (show k < row.length by omega)
  rw [BT ha, Es] at hr
  have htk : (row.map FV).take k = (row.take k).map FV := (List.map_take).symm
  have hw1 : ∀ x ∈ row.map FV, x.length = 1 := Fu
  have hI : AQ Try.prog 27 [CQ a, .one (.st (.list ((row.map FV).take k)))] (Ag (D3 a (row.take k))) := by
   rw [htk]
   exact Ps _ _
  cases h1 : A0 a with
  | false =>
   rw [if_neg (by rw [h1]; simp)] at hr
   repeat' (first | (with_reducible first | refine W ?_ | refine Z0 ?_ | ((first | refine Wo fun K hK => ?_ | refine Wp ?_ | refine Wq ?_ | refine Wr ?_); (try simp only [go_sem, fN, seval, eT, iR, h1, e0, e3, hlt, ha, dT, dF, nL]); (repeat refine Ai ?_); (try (refine hK _ ?_; clear hK K)); try refine iC ?_)) | refine Cg _ (EE a) ?_)
   simp only [go_sem, fN, seval, AM, AS.result, AB, AD, AI]
   rw [hr]
  | true =>
   cases h2 : AW a with
   | true =>
    rw [if_neg (by rw [h2]; simp)] at hr
    repeat' (first | (with_reducible first | refine W ?_ | refine Z0 ?_ | ((first | refine Wo fun K hK => ?_ | refine Wp ?_ | refine Wq ?_ | refine Wr ?_); (try simp only [go_sem, fN, seval, eT, iR, h1, h2, e0, e3, hlt, ha, dT, dF, nL]); (repeat refine Ai ?_); (try (refine hK _ ?_; clear hK K)); try refine iC ?_)) | refine Cg _ (EE a) ?_ | refine Cg _ (BB a) ?_)
    simp only [go_sem, fN, seval, AM, AS.result, AB, AD, AI]
    rw [hr]
   | false =>
    rw [if_pos ⟨h1, h2⟩] at hr
    cases h3 : D3 a (row.take k) with
    | true =>
     rw [if_pos h3] at hr
     rw [h3] at hI
     repeat' (first | (with_reducible first | refine W ?_ | refine Z0 ?_ | ((first | refine Wo fun K hK => ?_ | refine Wp ?_ | refine Wq ?_ | refine Wr ?_); (try simp only [go_sem, fN, seval, eT, iR, h1, h2, e0, e3, hlt, ha, dT, dF, nL]); (repeat refine Ai ?_); (try (refine hK _ ?_; clear hK K)); try refine iC ?_)) | refine Cg _ (EE a) ?_ | refine Cg _ (BB a) ?_ | refine Cg _ (hI) ?_)
     simp only [go_sem, fN, seval, AM, AS.result, AB, AD, AI]
     rw [hr]
    | false =>
     rw [if_neg (by rw [h3]; simp), ← Aa ha] at hr
     rw [h3] at hI
     repeat' (first | (with_reducible first | refine W ?_ | refine Z0 ?_ | ((first | refine Wo fun K hK => ?_ | refine Wp ?_ | refine Wq ?_ | refine Wr ?_); (try simp only [go_sem, fN, seval, eT, iR, h1, h2, e0, e3, hlt, ha, dT, dF, nL]); (repeat refine Ai ?_); (try (refine hK _ ?_; clear hK K)); try refine iC ?_)) | refine Cg _ (EE a) ?_ | refine Cg _ (BB a) ?_ | refine Cg _ (hI) ?_)
     refine AH ⟨row.length - (k + 1), by omega, k + 1, by omega, rfl, hr, ?_⟩
     simp only [go_sem, fN, seval, eT, iR, e0, e3]
     congr 3
 ·rw [List.drop_of_length_le (by omega), Es] at hr
  repeat' with_reducible first | refine W ?_ | refine Z0 ?_ | ((first | refine Wo fun K hK => ?_ | refine Wp ?_ | refine Wq ?_ | refine Wr ?_); (try simp only [go_sem, fN, seval, eT, iR, e0, e3, hlt, dT, dF, nL]); (repeat refine Ai ?_); (try (refine hK _ ?_; clear hK K)); try refine iC ?_)
  simp only [go_sem, fN, seval, AM, AS.result, AB, AD, AI]
  rw [hr]
def B7 (l : List Tm) : List Int := (l.zipIdx).map fun p => ((p.2 + p.1.size : Nat) : Int)
theorem MT (l : List Tm) : (B7 l).length = l.length := by simp [B7]
theorem CK {l : List Tm} {i : Nat} {x : Tm} (h : l[i]? = some x) : (B7 l)[i]? = some ((i + x.size : Nat) : Int) := by
 simp [B7, List.getElem?_map, List.getElem?_zipIdx, h]
theorem LO {l : List Tm} {k : Nat} {x : Tm} (h : l[k]? = some x) : (B7 l).take (k + 1) = (B7 l).take k ++ [((k + x.size : Nat) : Int)] := Aa (CK h)
theorem LE {t k : Tm} (h : k ∈ t.knots) : k.size ≤ t.size := by
 obtain ⟨i, hi⟩ := List.getElem?_of_mem h
 have := Gn hi
 omega
theorem LA {ts : List Int} : ∀ x ∈ ts.map Hi, x.length = 1 := by
 intro x hx
 obtain ⟨a, _, rfl⟩ := List.mem_map.1 hx
 rfl
theorem Nq (t : Tm) (hz : t.size ≤ 1000000) : AQ Try.prog 30 [aTm t] (.one (.st (.list ((B7 t.knots).map Hi)))) := by
 have hkl := Tm.knots_length t
 have hKn := Cc t hz
 have hks : ∀ k ∈ t.knots, k.size ≤ t.size := fun k hk => LE hk
 generalize t.knots = l at *
 refine ND.ac fun C hC => ?_
 unfold H7
 repeat' (first | (with_reducible first | refine W ?_ | refine Z0 ?_ | ((first | refine Wo fun K hK => ?_ | refine Wp ?_ | refine Wq ?_ | refine Wr ?_); (try simp only [go_sem, fN, seval, eT, iR, dT, dF, nL]); (repeat refine Ai ?_); (try (refine hK _ ?_; clear hK K)); try refine iC ?_)) | refine Cg _ (hKn) ?_)
 refine IWP.ghost (Al.own (C := C) 4 50 3 1 (xs := ([] : List Int).map Hi) rfl rfl LA (by omega)) ?_
 refine IWP.loop (fun n s => ∃ k, k ≤ l.length ∧ n = l.length - k ∧ s.env 3 = DD l ∧ s.env 4 = .one (.row 50 k) ∧ s.S 50 = some (.arow 3 1 (((B7 l).take k).map Hi)) ∧ s.env 5 = AR k) l.length ⟨0, Nat.zero_le _, rfl, rfl, rfl, rfl, rfl⟩ ?_
 rintro n ⟨env, S⟩ ⟨k, hk, rfl, e3, e4, s50, e5⟩
 simp only at e3 e4 s50 e5
 have hel := MT l
 have htl : ((B7 l).take k).length = k := by rw [List.length_take]; omega
 by_cases hlt : (k : Int) < l.length
 ·obtain ⟨a, ha⟩ := Aj (show k < l.length by omega)
  have haz := hks a (List.mem_of_getElem? ha)
  have hKa := Cc a (by omega)
  have hkal := Tm.knots_length a
  have hst := LO ha
  repeat' (first | (with_reducible first | refine W ?_ | refine Z0 ?_ | ((first | refine Wo fun K hK => ?_ | refine Wp ?_ | refine Wq ?_ | refine Wr ?_); (try simp only [go_sem, fN, seval, eT, iR, e3, e4, s50, e5, hlt, ha, htl, hkal, dT, dF, nL]); (repeat refine Ai ?_); (try (refine hK _ ?_; clear hK K)); try refine iC ?_)) | refine Cg _ (hKa) ?_)
  refine AH ⟨l.length - (k + 1), by omega, k + 1, by omega, rfl, ?_⟩
  simp only [go_sem, fN, seval, eT, iR, e3, e4, s50, e5, htl]
  rw [hst]
  simp [hkal]
 ·have hke : k = l.length := by omega
  rw [List.take_of_length_le (by omega)] at s50 htl
  subst hke
  repeat' with_reducible first | refine W ?_ | refine Z0 ?_ | ((first | refine Wo fun K hK => ?_ | refine Wp ?_ | refine Wq ?_ | refine Wr ?_); (try simp only [go_sem, fN, seval, eT, iR, e3, e4, s50, e5, hlt, Nat.lt_irrefl, dT, dF, nL]); (repeat refine Ai ?_); (try (refine hK _ ?_; clear hK K)); try refine iC ?_)
  simp only [go_sem, fN, seval, AM, AS.result, AB, AD, AI, e4, s50, hel]

section
variable {C : Ctx} {s : AS}
theorem Al.crow {id : Nat} {e : TypeId} {xs : List SV} (hS : s.S id = some (.mrow e 1 (xs.map ([·])))) (hne : 0 < xs.length) : Al C s (s.set id (.crow e (xs.map .st))) := fun a w ⟨σ, ι, R⟩ => by
 have hb := R.blk _ _ hS
 generalize hys : xs.map ([·]) = ys at hb hS
 cases hb with
 | mnil h1 h2 =>
  have h0 : (xs.map fun x => [x]).length = 0 := congrArg List.length hys
  rw [List.length_map] at h0
  omega
 | @mrow _ _ _ g vs h1 h2 h3 h4 h5 h6 h7 h8 h9 =>
  subst hys
  rw [List.length_map] at h4
  obtain ⟨hu, R'⟩ := R.turn (w' := w) hS (.crow e (xs.map .st)) (ι id) (σ' := σ) (fun _ _ h => h) (fun _ _ _ => rfl) R.fit (by simp [AJ.len]) (fun _ => ⟨rfl, rfl⟩) ⟨rfl, rfl, rfl⟩ (Nat.le_refl _) (fun _ _ _ => rfl) (fun g h => .inl h) (fun hu => by
   refine .crow h1 h2 h3 (by rw [List.length_map]; omega) h5 (AU.of_get (by simp; omega) fun j v c hv hc => ?_) h9
   rw [List.getElem?_map, Option.map_eq_some_iff] at hc
   obtain ⟨x, hx, rfl⟩ := hc
   obtain ⟨v', k1, k2⟩ := h8 j [x] 0 x (by rw [List.getElem?_map, hx]; rfl) rfl
   rw [List.getElem?_take] at hv
   split at hv
   ·have e1 : vs[j]? = some v := by simpa using hv
    rw [show j * 1 + 0 = j by omega, e1] at k1
    cases k1
    exact .st k2
   ·cases hv)
  exact ⟨_, _, R'⟩
theorem Al.calmC {id : Nat} {e : TypeId} {cs : List AC} {xs : List SV} (hS : s.S id = some (.crow e cs)) (hc : stCs s.S cs = some xs) : Al C s (s.set id (.crow e (xs.map .st))) := fun a w ⟨σ, ι, R⟩ => by
 have hb := R.blk _ _ hS
 cases hb with
 | @crow _ _ g vs h1 h2 h3 h4 h5 h6 h7 =>
  have hsc := R.stCs h6 hc
  have hl : xs.length = cs.length := by
   have q1 := hsc.len
   have q2 := h6.len
   omega
  obtain ⟨hu, R'⟩ := R.turn (w' := w) hS (.crow e (xs.map .st)) (ι id) (σ' := σ) (fun _ _ h => h) (fun _ _ _ => rfl) R.fit (by simp [AJ.len, hl]) (fun _ => ⟨rfl, rfl⟩) ⟨rfl, rfl, rfl⟩ (Nat.le_refl _) (fun _ _ _ => rfl) (fun g h => .inl h) (fun hu => .crow h1 h2 h3 (by rw [List.length_map, hl]; exact h4) h5 (by rw [List.length_map, hl]; exact (hsc.mono fun _ _ x => Ab.st x).map_right) h7)
  exact ⟨_, _, R'⟩
end

end Go.Proofs.Ytdlbfdcklpleaaa
