/-
  Part 7 of the texts: BSubst; BSubst2; PRew; PThen; PCompose; PMatch2; PRules; PEnds; PSteps; IrSameT; BSameT; IrRew; IrBoth; BBoth; BEnds; BRewC; IrClone; IrMatch; BMet; Shelf; BRowBd; IrSortM; BSort; IrSorted. Conditions: none.
-/
import Derived.Test.YtipddfhkbkihnaaReS6
import Derived.Shelf.SlSortCmp.WholeK
import Derived.Shelf.SlSortCmp.NoneTotal
import Derived.Test.YtipddfhkbkihnaaProg
namespace Go.Proofs.Ytipddfhkbkihnaa
open Go Go.RowKit
set_option linter.unusedVariables false
set_option linter.unusedSimpArgs false
set_option maxHeartbeats 400000
theorem for_a (l : List Bd) (n : ByteArray) : ACalls Try.prog 53 [aBds l, aStr n] (.tup [aTm ((lookup l n).getD Tm.nil), aBool (lookup l n).isSome]) := by
  refine ok_R_For.ac fun C hC => ?_
  unfold ir_R_For
  refine IWP.learn 0 (by omega) fun hkn => ?_
  have hkn := known_len hkn
  rw [List.length_map] at hkn
  repeat' (first | (with_reducible first | refine W ?_ | refine Wz0 ?_) | ((with_reducible first | refine Wo (fun K hK => ?_) | refine Wq ?_ | refine Wr ?_); (try simp only [go_sem, fN, seval, eT, iR]); (repeat with_reducible refine Ai ?_); (try (refine hK _ ?_; clear hK K))))
  refine IWP.loop (fun m s => ∃ k, k ≤ l.length ∧ m = l.length - k ∧ (∀ c ∈ l.take k, c.1 ≠ n) ∧ s.env 0 = aBds l ∧ s.env 1 = aStr n ∧ s.env 4 = .one (.ptr 4 1 0 0) ∧ s.S 4 = some (.box 25 [.st (.str ⟨#[]⟩), .full []]) ∧ s.env 6 = aInt k) l.length ⟨0, Nat.zero_le _, rfl, by simp, rfl, rfl, rfl, rfl, rfl⟩ ?_
  rintro m ⟨env, S⟩ ⟨k, hk, rfl, h0, e0, e1, e4, s4, e6⟩
  simp only at e0 e1 e4 s4 e6
  by_cases hlt : (k : Int) < l.length
  · obtain ⟨b, hb⟩ := get_lt (show k < l.length by omega)
    repeat' (first | (with_reducible first | refine W ?_ | refine Wz0 ?_) | ((with_reducible first | refine Wo (fun K hK => ?_) | refine Wq ?_ | refine Wr ?_); (try simp only [go_sem, fN, seval, eT, iR, e0, e1, e4, s4, e6, hlt]); (repeat with_reducible refine Ai ?_); (try (refine hK _ ?_; clear hK K))))
    with_reducible refine Wp ?_
    simp only [go_sem, fN, seval, true_implies, false_implies, implies_true, dT, dF, nL, hlt]
    (try with_reducible refine iC ?_)
    repeat' (first | (with_reducible first | refine W ?_ | refine Wz0 ?_) | ((with_reducible first | refine Wo (fun K hK => ?_) | refine Wq ?_ | refine Wr ?_); (try simp only [go_sem, fN, seval, eT, iR, e0, e1, e4, s4, e6, hb, encB]); (repeat with_reducible refine Ai ?_); (try (refine hK _ ?_; clear hK K))))
    by_cases he : b.1 = n
    · with_reducible refine Wp ?_
      simp only [go_sem, fN, seval, true_implies, false_implies, implies_true, dT, dF, nL, he]
      (try with_reducible refine iC ?_)
      repeat' (first | (with_reducible first | refine W ?_ | refine Wz0 ?_) | ((with_reducible first | refine Wo (fun K hK => ?_) | refine Wq ?_ | refine Wr ?_); (try simp only [go_sem, fN, seval, eT, iR, e0, e1, e4, s4, e6, hb, encB]); (repeat with_reducible refine Ai ?_); (try (refine hK _ ?_; clear hK K))))
      simp only [go_sem, fN, seval, FinQ, AS.result, resAll, resOne, tupV, e4]
      rw [lookup_take hb he h0]
      rfl
    · with_reducible refine Wp ?_
      simp only [go_sem, fN, seval, true_implies, false_implies, implies_true, dT, dF, nL, he]
      (try with_reducible refine iC ?_)
      repeat' (first | (with_reducible first | refine W ?_ | refine Wz0 ?_) | ((with_reducible first | refine Wo (fun K hK => ?_) | refine Wq ?_ | refine Wr ?_); (try simp only [go_sem, fN, seval, eT, iR, e0, e1, e4, s4, e6]); (repeat with_reducible refine Ai ?_); (try (refine hK _ ?_; clear hK K))))
      refine then_normal ⟨l.length - (k + 1), by omega, k + 1, by omega, rfl, ?_, ?_⟩
      · rw [take_snoc hb]
        intro c hc
        rcases List.mem_append.1 hc with hc | hc
        · exact h0 c hc
        · rw [List.mem_singleton.1 hc]; exact he
      · simp only [go_sem, fN, seval, eT, iR, e0, e1, e4, s4, e6]
        congr 3
  · repeat' (first | (with_reducible first | refine W ?_ | refine Wz0 ?_) | ((with_reducible first | refine Wo (fun K hK => ?_) | refine Wq ?_ | refine Wr ?_); (try simp only [go_sem, fN, seval, eT, iR, e0, e1, e4, s4, e6, hlt]); (repeat with_reducible refine Ai ?_); (try (refine hK _ ?_; clear hK K))))
    with_reducible refine Wp ?_
    simp only [go_sem, fN, seval, true_implies, false_implies, implies_true, dT, dF, nL, hlt]
    (try with_reducible refine iC ?_)
    repeat' (first | (with_reducible first | refine W ?_ | refine Wz0 ?_) | ((with_reducible first | refine Wo (fun K hK => ?_) | refine Wq ?_ | refine Wr ?_); (try simp only [go_sem, fN, seval, eT, iR, e0, e1, e4, s4, e6]); (repeat with_reducible refine Ai ?_); (try (refine hK _ ?_; clear hK K))))
    simp only [go_sem, fN, seval, FinQ, AS.result, resAll, resOne, tupV, e4]
    rw [List.take_of_length_le (by omega)] at h0
    rw [lookup_none h0]
    rfl
theorem isNaN_a (a : ByteArray) : ACalls Try.prog 69 [aStr a] (aBool false) := by
  refine ok_cmp_isNaN_string.ac fun C hC => ?_
  unfold ir_cmp_isNaN_string
  repeat' (first | (with_reducible first | refine W ?_ | refine Wz0 ?_) | ((with_reducible first | refine Wo (fun K hK => ?_) | refine Wq ?_ | refine Wr ?_); (try simp only [go_sem, fN, seval, eT, iR]); (repeat with_reducible refine Ai ?_); (try (refine hK _ ?_; clear hK K))))
  simp only [go_sem, fN, seval, FinQ, AS.result, resAll, resOne, tupV]
theorem compare_a (a b : ByteArray) : ACalls Try.prog 64 [aStr a, aStr b] (aInt (cmpI a b)) := by
  refine ok_cmp_Compare_string.ac fun C hC => ?_
  unfold ir_cmp_Compare_string
  repeat' (first | (with_reducible first | refine W ?_ | refine Wz0 ?_) | refine Cg _ (isNaN_a a) ?_ | refine Cg _ (isNaN_a b) ?_ | ((with_reducible first | refine Wo (fun K hK => ?_) | refine Wq ?_ | refine Wr ?_); (try simp only [go_sem, fN, seval, eT, iR]); (repeat with_reducible refine Ai ?_); (try (refine hK _ ?_; clear hK K))))
  with_reducible refine Wp ?_
  simp only [go_sem, fN, seval, true_implies, false_implies, implies_true, dT, dF, nL]
  (try with_reducible refine iC ?_)
  repeat' (first | (with_reducible first | refine W ?_ | refine Wz0 ?_) | ((with_reducible first | refine Wo (fun K hK => ?_) | refine Wq ?_ | refine Wr ?_); (try simp only [go_sem, fN, seval, eT, iR]); (repeat with_reducible refine Ai ?_); (try (refine hK _ ?_; clear hK K))))
  with_reducible refine Wp ?_
  simp only [go_sem, fN, seval, true_implies, false_implies, implies_true, dT, dF, nL]
  (try with_reducible refine iC ?_)
  repeat' (first | (with_reducible first | refine W ?_ | refine Wz0 ?_) | ((with_reducible first | refine Wo (fun K hK => ?_) | refine Wq ?_ | refine Wr ?_); (try simp only [go_sem, fN, seval, eT, iR]); (repeat with_reducible refine Ai ?_); (try (refine hK _ ?_; clear hK K))))
  unfold cmpI
  cases h : sLt a b with
  | true =>
    with_reducible refine Wp ?_
    simp only [go_sem, fN, seval, true_implies, false_implies, implies_true, dT, dF, nL]
    (try with_reducible refine iC ?_)
    repeat' (first | (with_reducible first | refine W ?_ | refine Wz0 ?_) | ((with_reducible first | refine Wo (fun K hK => ?_) | refine Wq ?_ | refine Wr ?_); (try simp only [go_sem, fN, seval, eT, iR]); (repeat with_reducible refine Ai ?_); (try (refine hK _ ?_; clear hK K))))
    simp only [go_sem, fN, seval, FinQ, AS.result, resAll, resOne, tupV]
  | false =>
    with_reducible refine Wp ?_
    simp only [go_sem, fN, seval, true_implies, false_implies, implies_true, dT, dF, nL]
    (try with_reducible refine iC ?_)
    by_cases he : a = b
    · repeat' (first | (with_reducible first | refine W ?_ | refine Wz0 ?_) | ((with_reducible first | refine Wo (fun K hK => ?_) | refine Wq ?_ | refine Wr ?_); (try simp only [go_sem, fN, seval, eT, iR, h, he, Bool.or_true, Bool.or_false]); (repeat with_reducible refine Ai ?_); (try (refine hK _ ?_; clear hK K))))
      with_reducible refine Wp ?_
      simp only [go_sem, fN, seval, true_implies, false_implies, implies_true, dT, dF, nL, h, he, Bool.or_true, Bool.or_false]
      (try with_reducible refine iC ?_)
      repeat' (first | (with_reducible first | refine W ?_ | refine Wz0 ?_) | ((with_reducible first | refine Wo (fun K hK => ?_) | refine Wq ?_ | refine Wr ?_); (try simp only [go_sem, fN, seval, eT, iR]); (repeat with_reducible refine Ai ?_); (try (refine hK _ ?_; clear hK K))))
      simp only [go_sem, fN, seval, FinQ, AS.result, resAll, resOne, tupV, h, he]
    · repeat' (first | (with_reducible first | refine W ?_ | refine Wz0 ?_) | ((with_reducible first | refine Wo (fun K hK => ?_) | refine Wq ?_ | refine Wr ?_); (try simp only [go_sem, fN, seval, eT, iR, h, he, Bool.or_true, Bool.or_false]); (repeat with_reducible refine Ai ?_); (try (refine hK _ ?_; clear hK K))))
      with_reducible refine Wp ?_
      simp only [go_sem, fN, seval, true_implies, false_implies, implies_true, dT, dF, nL, h, he, Bool.or_true, Bool.or_false]
      (try with_reducible refine iC ?_)
      repeat' (first | (with_reducible first | refine W ?_ | refine Wz0 ?_) | ((with_reducible first | refine Wo (fun K hK => ?_) | refine Wq ?_ | refine Wr ?_); (try simp only [go_sem, fN, seval, eT, iR]); (repeat with_reducible refine Ai ?_); (try (refine hK _ ?_; clear hK K))))
      simp only [go_sem, fN, seval, FinQ, AS.result, resAll, resOne, tupV, h, he]
theorem find1_a (b : Bd) (n : ByteArray) : ACalls Try.prog 71 [aBd b, aStr n] (aInt (cmpI b.1 n)) := by
  refine ok_subst_Find_1.ac fun C hC => ?_
  unfold ir_subst_Find_1
  repeat' (first | (with_reducible first | refine W ?_ | refine Wz0 ?_) | refine Cg _ (compare_a b.1 n) ?_ | ((with_reducible first | refine Wo (fun K hK => ?_) | refine Wq ?_ | refine Wr ?_); (try simp only [go_sem, fN, seval, eT, iR]); (repeat with_reducible refine Ai ?_); (try (refine hK _ ?_; clear hK K))))
  simp only [go_sem, fN, seval, FinQ, AS.result, resAll, resOne, tupV]
theorem cmpI_neg {a b : ByteArray} : cmpI a b < 0 ↔ sLt a b = true := by
  unfold cmpI
  split
  · rename_i h; simp [h]
  · rename_i h
    split <;> simp [h]
theorem cmpI_zero {a b : ByteArray} : cmpI a b = 0 ↔ a = b := by
  unfold cmpI
  split
  · rename_i h
    constructor
    · intro h'; cases h'
    · intro e; subst e; rw [sLt_irrefl] at h; cases h
  · split <;> simp_all
def foundAt (l : List Bd) (n : ByteArray) (i : Nat) : Bool := match l[i]? with
  | some b => decide (b.1 = n)
  | none => false
theorem find1_S (b : Bd) (n : ByteArray) (S : AStore) : ACallsS Try.prog 71 [aBd b, aStr n] S (aInt (cmpI b.1 n)) S := (find1_a b n).toS rfl
theorem half {i j : Nat} (h : i < j) : (((i : Int) + j).fdiv 2) = (((i + j) / 2 : Nat) : Int) ∧ i ≤ (i + j) / 2 ∧ (i + j) / 2 < j := by
  refine ⟨?_, by omega, by omega⟩
  rw [Int.fdiv_eq_ediv_of_nonneg _ (by omega)]
  omega
theorem inR_u64 (n : Int) : inR .u64 n ↔ 0 ≤ n ∧ n ≤ 18446744073709551615 := by
  simp [inR, IntKind.min, IntKind.max, IntKind.signed, IntKind.bits]
theorem search_a (l : List Bd) (h40 : l.length ≤ 100000) (ho : Ordered l) (n : ByteArray) :
    ∃ i : Nat, i ≤ l.length ∧ (∀ k b, l[k]? = some b → k < i → sLt b.1 n = true) ∧ (∀ k b, l[k]? = some b → i ≤ k → sLt b.1 n = false) ∧
      ACalls Try.prog 70 [aBds l, aStr n, .one (.fn 71 [])] (.tup [aInt i, aBool (foundAt l n i)]) := by
  obtain ⟨i0, hi0, hlo, hhi⟩ : ∃ i : Nat, i ≤ l.length ∧ (∀ k b, l[k]? = some b → k < i → sLt b.1 n = true) ∧ (∀ k b, l[k]? = some b → i ≤ k → sLt b.1 n = false) := by
    clear h40
    induction l with
    | nil => exact ⟨0, by simp, by simp, by simp⟩
    | cons c l ih =>
      obtain ⟨o1, o2⟩ := List.pairwise_cons.1 ho
      obtain ⟨i, q1, q2, q3⟩ := ih o2
      cases hc : sLt c.1 n with
      | true =>
        refine ⟨i + 1, by simp; omega, fun k b hk hki => ?_, fun k b hk hki => ?_⟩
        · cases k with
          | zero => simp at hk; subst hk; exact hc
          | succ k => exact q2 k b (by simpa using hk) (by omega)
        · cases k with
          | zero => omega
          | succ k => exact q3 k b (by simpa using hk) (by omega)
      | false =>
        refine ⟨0, by simp, fun k b hk hki => by omega, fun k b hk hki => ?_⟩
        cases k with
        | zero => simp at hk; subst hk; exact hc
        | succ k =>
          have hm := mem_of_get (show l[k]? = some b by simpa using hk)
          cases hb : sLt b.1 n with
          | false => rfl
          | true => have := sLt_trans (o1 b hm) hb; rw [hc] at this; cases this
  refine ⟨i0, hi0, hlo, hhi, ?_⟩
  have hplain : plainF Try.prog 71 = true := by kernel_rfl
  refine ok_slices_BinarySearchFunc_metaprune_api_Bind_metaprune_api_Bind_string.ac fun C hC => ?_
  unfold ir_slices_BinarySearchFunc_metaprune_api_Bind_metaprune_api_Bind_string
  repeat' (first | (with_reducible first | refine W ?_ | refine Wz0 ?_) | ((with_reducible first | refine Wo (fun K hK => ?_) | refine Wq ?_ | refine Wr ?_); (try simp only [go_sem, fN, seval, eT, iR]); (repeat with_reducible refine Ai ?_); (try (refine hK _ ?_; clear hK K))))
  refine IWP.loop (fun m s => ∃ i j : Nat, i ≤ i0 ∧ i0 ≤ j ∧ j ≤ l.length ∧ m = j - i ∧ s.env 0 = aBds l ∧ s.env 1 = aStr n ∧ s.env 2 = .one (.fn 71 []) ∧ s.env 8 = aInt l.length ∧ s.env 9 = aInt i ∧ s.env 10 = aInt j) l.length ⟨0, l.length, Nat.zero_le _, hi0, Nat.le_refl _, rfl, rfl, rfl, rfl, rfl, rfl, rfl⟩ ?_
  rintro m ⟨env, S⟩ ⟨i, j, hi, hj, hjl, rfl, e0, e1, e2, e8, e9, e10⟩
  simp only at e0 e1 e2 e8 e9 e10
  by_cases hlt : (i : Int) < j
  · obtain ⟨z1, z2, z3⟩ := half (show i < j by omega)
    obtain ⟨b, hb⟩ := get_lt (show (i + j) / 2 < l.length by omega)
    repeat' (first | (with_reducible first | refine W ?_ | refine Wz0 ?_) | ((with_reducible first | refine Wo (fun K hK => ?_) | refine Wq ?_ | refine Wr ?_); (try simp only [go_sem, fN, seval, eT, iR, e0, e1, e2, e8, e9, e10, hlt]); (repeat with_reducible refine Ai ?_); (try (refine hK _ ?_; clear hK K))))
    with_reducible refine Wp ?_
    simp only [go_sem, fN, seval, true_implies, false_implies, implies_true, dT, dF, nL, hlt]
    (try with_reducible refine iC ?_)
    have hbits : (1 : Nat) ≤ IntKind.u64.bits := by show 1 ≤ 64; omega
    repeat' (first | (with_reducible first | refine W ?_ | refine Wz0 ?_) | ((with_reducible first | refine Wo (fun K hK => ?_) | refine Wq ?_ | refine Wr ?_); (try simp only [go_sem, fN, seval, eT, iR, e0, e1, e2, e8, e9, e10, hlt, z1, inR_u64, hbits, hb, encB, hplain]); (repeat with_reducible refine Ai ?_); (try (refine hK _ ?_; clear hK K))))
    refine ⟨_, _, find1_S b n _, ?_⟩
    cases hc : sLt b.1 n with
    | true =>
      have hneg : cmpI b.1 n < 0 := cmpI_neg.2 hc
      repeat' (first | (with_reducible first | refine W ?_ | refine Wz0 ?_) | ((with_reducible first | refine Wo (fun K hK => ?_) | refine Wq ?_ | refine Wr ?_); (try simp only [go_sem, fN, seval, eT, iR, hneg]); (repeat with_reducible refine Ai ?_); (try (refine hK _ ?_; clear hK K))))
      with_reducible refine Wp ?_
      simp only [go_sem, fN, seval, true_implies, false_implies, implies_true, dT, dF, nL, hneg]
      (try with_reducible refine iC ?_)
      repeat' (first | (with_reducible first | refine W ?_ | refine Wz0 ?_) | ((with_reducible first | refine Wo (fun K hK => ?_) | refine Wq ?_ | refine Wr ?_); (try simp only [go_sem, fN, seval, eT, iR, e0, e1, e2, e8, e9, e10]); (repeat with_reducible refine Ai ?_); (try (refine hK _ ?_; clear hK K))))
      refine then_normal ⟨j - ((i + j) / 2 + 1), by omega, (i + j) / 2 + 1, j, ?_, hj, hjl, rfl, ?_⟩
      · rcases Nat.lt_or_ge ((i + j) / 2) i0 with h | h
        · omega
        · rw [hhi _ b hb h] at hc; cases hc
      · simp only [go_sem, fN, seval, eT, iR, e0, e1, e2, e8, e9, e10]
        congr 3
    | false =>
      have hneg : ¬ cmpI b.1 n < 0 := fun h => by rw [cmpI_neg.1 h] at hc; cases hc
      repeat' (first | (with_reducible first | refine W ?_ | refine Wz0 ?_) | ((with_reducible first | refine Wo (fun K hK => ?_) | refine Wq ?_ | refine Wr ?_); (try simp only [go_sem, fN, seval, eT, iR, hneg]); (repeat with_reducible refine Ai ?_); (try (refine hK _ ?_; clear hK K))))
      with_reducible refine Wp ?_
      simp only [go_sem, fN, seval, true_implies, false_implies, implies_true, dT, dF, nL, hneg]
      (try with_reducible refine iC ?_)
      repeat' (first | (with_reducible first | refine W ?_ | refine Wz0 ?_) | ((with_reducible first | refine Wo (fun K hK => ?_) | refine Wq ?_ | refine Wr ?_); (try simp only [go_sem, fN, seval, eT, iR, e0, e1, e2, e8, e9, e10]); (repeat with_reducible refine Ai ?_); (try (refine hK _ ?_; clear hK K))))
      refine then_normal ⟨(i + j) / 2 - i, by omega, i, (i + j) / 2, hi, ?_, by omega, rfl, ?_⟩
      · rcases Nat.lt_or_ge ((i + j) / 2) i0 with h | h
        · rw [hlo _ b hb h] at hc; cases hc
        · omega
      · simp only [go_sem, fN, seval, eT, iR, e0, e1, e2, e8, e9, e10]
  · have hii : i = i0 := by omega
    subst hii
    have hjj : j = i := by omega
    subst hjj
    repeat' (first | (with_reducible first | refine W ?_ | refine Wz0 ?_) | ((with_reducible first | refine Wo (fun K hK => ?_) | refine Wq ?_ | refine Wr ?_); (try simp only [go_sem, fN, seval, eT, iR, e0, e1, e2, e8, e9, e10, hlt]); (repeat with_reducible refine Ai ?_); (try (refine hK _ ?_; clear hK K))))
    with_reducible refine Wp ?_
    simp only [go_sem, fN, seval, true_implies, false_implies, implies_true, dT, dF, nL, hlt]
    (try with_reducible refine iC ?_)
    by_cases hil : (j : Int) < l.length
    · obtain ⟨b, hb⟩ := get_lt (show j < l.length by omega)
      repeat' (first | (with_reducible first | refine W ?_ | refine Wz0 ?_) | ((with_reducible first | refine Wo (fun K hK => ?_) | refine Wq ?_ | refine Wr ?_); (try simp only [go_sem, fN, seval, eT, iR, e0, e1, e2, e8, e9, e10, hil, hb, encB, hplain]); (repeat with_reducible refine Ai ?_); (try (refine hK _ ?_; clear hK K))))
      refine ⟨_, _, find1_S b n _, ?_⟩
      repeat' (first | (with_reducible first | refine W ?_ | refine Wz0 ?_) | ((with_reducible first | refine Wo (fun K hK => ?_) | refine Wq ?_ | refine Wr ?_); (try simp only [go_sem, fN, seval, eT, iR]); (repeat with_reducible refine Ai ?_); (try (refine hK _ ?_; clear hK K))))
      simp only [go_sem, fN, seval, FinQ, AS.result, resAll, resOne, tupV]
      unfold foundAt
      rw [hb]
      simp only [cmpI_zero]
    · repeat' (first | (with_reducible first | refine W ?_ | refine Wz0 ?_) | ((with_reducible first | refine Wo (fun K hK => ?_) | refine Wq ?_ | refine Wr ?_); (try simp only [go_sem, fN, seval, eT, iR, e0, e1, e2, e8, e9, e10, hil]); (repeat with_reducible refine Ai ?_); (try (refine hK _ ?_; clear hK K))))
      simp only [go_sem, fN, seval, FinQ, AS.result, resAll, resOne, tupV]
      unfold foundAt
      rw [List.getElem?_eq_none (by omega)]
theorem found_lookup {l : List Bd} {n : ByteArray} {i : Nat} (hlo : ∀ k b, l[k]? = some b → k < i → sLt b.1 n = true) (hhi : ∀ k b, l[k]? = some b → i ≤ k → sLt b.1 n = false) (ho : Ordered l) :
    (∃ b, l[i]? = some b ∧ b.1 = n ∧ lookup l n = some b.2) ∨ (foundAt l n i = false ∧ lookup l n = none) := by
  have hlow : ∀ c ∈ l.take i, c.1 ≠ n := fun c hc e => by
    obtain ⟨k, hk, rfl⟩ := List.getElem_of_mem hc
    rw [List.length_take] at hk
    have := hlo k l[k] (List.getElem?_eq_getElem (by omega)) (by omega)
    rw [List.getElem_take] at e
    rw [e, sLt_irrefl] at this
    cases this
  by_cases hil : i < l.length
  · obtain ⟨b, hb⟩ := get_lt hil
    by_cases he : b.1 = n
    · exact .inl ⟨b, hb, he, lookup_take hb he hlow⟩
    · refine .inr ⟨by unfold foundAt; rw [hb]; exact decide_eq_false he, lookup_none fun c hc e => ?_⟩
      obtain ⟨k, hk, rfl⟩ := List.getElem_of_mem hc
      have hck := List.getElem?_eq_getElem hk
      rcases Nat.lt_trichotomy k i with h | h | h
      · have := hlo k _ hck h
        rw [e, sLt_irrefl] at this
        cases this
      · subst h
        rw [hb] at hck
        cases hck
        exact he e
      · have h1 := ordered_get ho hb hck h
        rw [e, hhi i b hb (Nat.le_refl _)] at h1
        cases h1
  · refine .inr ⟨by unfold foundAt; rw [List.getElem?_eq_none (by omega)], lookup_none fun c hc => hlow c ?_⟩
    rw [List.take_of_length_le (by omega)]
    exact hc
theorem find_a (l : List Bd) (h40 : l.length ≤ 100000) (ho : Ordered l) (n : ByteArray) : ACalls Try.prog 65 [aBds l, aStr n] (.tup [aTm ((lookup l n).getD Tm.nil), aBool (lookup l n).isSome]) := by
  obtain ⟨i, hi, hlo, hhi, hs⟩ := search_a l h40 ho n
  refine ok_subst_Find.ac fun C hC => ?_
  unfold ir_subst_Find
  repeat' (first | (with_reducible first | refine W ?_ | refine Wz0 ?_) | ((with_reducible first | refine Wo (fun K hK => ?_) | refine Wq ?_ | refine Wr ?_); (try simp only [go_sem, fN, seval, eT, iR]); (repeat with_reducible refine Ai ?_); (try (refine hK _ ?_; clear hK K))))
  refine ⟨_, hs, ?_⟩
  rcases found_lookup hlo hhi ho with ⟨b, hb, he, hl⟩ | ⟨hf, hl⟩
  · have hf : foundAt l n i = true := by unfold foundAt; rw [hb]; exact decide_eq_true he
    repeat' (first | (with_reducible first | refine W ?_ | refine Wz0 ?_) | ((with_reducible first | refine Wo (fun K hK => ?_) | refine Wq ?_ | refine Wr ?_); (try simp only [go_sem, fN, seval, eT, iR, hf]); (repeat with_reducible refine Ai ?_); (try (refine hK _ ?_; clear hK K))))
    with_reducible refine Wp ?_
    simp only [go_sem, fN, seval, true_implies, false_implies, implies_true, dT, dF, nL, hf]
    (try with_reducible refine iC ?_)
    repeat' (first | (with_reducible first | refine W ?_ | refine Wz0 ?_) | ((with_reducible first | refine Wo (fun K hK => ?_) | refine Wq ?_ | refine Wr ?_); (try simp only [go_sem, fN, seval, eT, iR, hb, encB]); (repeat with_reducible refine Ai ?_); (try (refine hK _ ?_; clear hK K))))
    simp only [go_sem, fN, seval, FinQ, AS.result, resAll, resOne, tupV]
    rw [hl]
    rfl
  · repeat' (first | (with_reducible first | refine W ?_ | refine Wz0 ?_) | ((with_reducible first | refine Wo (fun K hK => ?_) | refine Wq ?_ | refine Wr ?_); (try simp only [go_sem, fN, seval, eT, iR, hf]); (repeat with_reducible refine Ai ?_); (try (refine hK _ ?_; clear hK K))))
    with_reducible refine Wp ?_
    simp only [go_sem, fN, seval, true_implies, false_implies, implies_true, dT, dF, nL, hf]
    (try with_reducible refine iC ?_)
    repeat' (first | (with_reducible first | refine W ?_ | refine Wz0 ?_) | ((with_reducible first | refine Wo (fun K hK => ?_) | refine Wq ?_ | refine Wr ?_); (try simp only [go_sem, fN, seval, eT, iR]); (repeat with_reducible refine Ai ?_); (try (refine hK _ ?_; clear hK K))))
    simp only [go_sem, fN, seval, FinQ, AS.result, resAll, resOne, tupV]
    rw [hl]
    rfl

theorem onR_a (s : List Bd) (t : Tm) (hz : t.size ≤ 1000000) : ACalls Try.prog 46 [aBds s, aTm t] (aTm (t.on s)) := by
  induction h : SizeOf.sizeOf t using Nat.strongRecOn generalizing t with
  | _ N ih =>
  subst h
  have hs := Tm.size_eq t
  have hkn := Tm.length_le t.args
  by_cases hleaf : (∃ x, lookup s t.name = some x) ∧ t.args = []
  · obtain ⟨⟨x, hx⟩, h0⟩ := hleaf
    have h0' : (t.args.length : Int) = 0 := by rw [h0]; rfl
    rw [Tm.on_leaf hx h0]
    refine ok_R_on.ac fun C hC => ?_
    unfold ir_R_on
    repeat' (first | (with_reducible first | refine W ?_ | refine Wz0 ?_) | refine Cg _ (for_a s t.name) ?_ | ((with_reducible first | refine Wo (fun K hK => ?_) | refine Wq ?_ | refine Wr ?_); (try simp only [go_sem, fN, seval, eT, iR, hx, h0', Option.isSome_some]); (repeat with_reducible refine Ai ?_); (try (refine hK _ ?_; clear hK K))))
    with_reducible refine Wp ?_
    simp only [go_sem, fN, seval, true_implies, false_implies, implies_true, dT, dF, nL]
    (try with_reducible refine iC ?_)
    repeat' (first | (with_reducible first | refine W ?_ | refine Wz0 ?_) | ((with_reducible first | refine Wo (fun K hK => ?_) | refine Wq ?_ | refine Wr ?_); (try simp only [go_sem, fN, seval, eT, iR]); (repeat with_reducible refine Ai ?_); (try (refine hK _ ?_; clear hK K))))
    simp only [go_sem, fN, seval, FinQ, AS.result, resAll, resOne, tupV]
  · have hon : t.on s = .mk t.name (t.args.map (Tm.on s)) := Tm.on_knot (by
      cases hl : lookup s t.name with
      | none => exact .inl rfl
      | some x => exact .inr fun h0 => hleaf ⟨⟨x, hl⟩, h0⟩)
    rw [hon]
    refine ok_R_on.ac fun C hC => ?_
    unfold ir_R_on
    repeat' (first | (with_reducible first | refine W ?_ | refine Wz0 ?_) | ((with_reducible first | refine Wo (fun K hK => ?_) | refine Wq ?_ | refine Wr ?_); (try simp only [go_sem, fN, seval, eT, iR]); (repeat with_reducible refine Ai ?_); (try (refine hK _ ?_; clear hK K))))
    refine ⟨_, for_a s t.name, ?_⟩
    cases hl : lookup s t.name
    case' none =>
      repeat' (first | (with_reducible first | refine W ?_ | refine Wz0 ?_) | ((with_reducible first | refine Wo (fun K hK => ?_) | refine Wq ?_ | refine Wr ?_); (try simp only [go_sem, fN, seval, eT, iR, hl, Option.isSome_none]); (repeat with_reducible refine Ai ?_); (try (refine hK _ ?_; clear hK K))))
      with_reducible refine Wp ?_
      simp only [go_sem, fN, seval, true_implies, false_implies, implies_true, dT, dF, nL]
      (try with_reducible refine iC ?_)
      repeat' (first | (with_reducible first | refine W ?_ | refine Wz0 ?_) | ((with_reducible first | refine Wo (fun K hK => ?_) | refine Wq ?_ | refine Wr ?_); (try simp only [go_sem, fN, seval, eT, iR]); (repeat with_reducible refine Ai ?_); (try (refine hK _ ?_; clear hK K))))
    case' some x =>
      have h0' : ¬ (t.args.length : Int) = 0 := fun h => hleaf ⟨⟨_, hl⟩, List.eq_nil_of_length_eq_zero (by omega)⟩
      repeat' (first | (with_reducible first | refine W ?_ | refine Wz0 ?_) | ((with_reducible first | refine Wo (fun K hK => ?_) | refine Wq ?_ | refine Wr ?_); (try simp only [go_sem, fN, seval, eT, iR, hl, h0', Option.isSome_some]); (repeat with_reducible refine Ai ?_); (try (refine hK _ ?_; clear hK K))))
      with_reducible refine Wp ?_
      simp only [go_sem, fN, seval, true_implies, false_implies, implies_true, dT, dF, nL]
      (try with_reducible refine iC ?_)
      repeat' (first | (with_reducible first | refine W ?_ | refine Wz0 ?_) | ((with_reducible first | refine Wo (fun K hK => ?_) | refine Wq ?_ | refine Wr ?_); (try simp only [go_sem, fN, seval, eT, iR]); (repeat with_reducible refine Ai ?_); (try (refine hK _ ?_; clear hK K))))
    all_goals
      refine IWP.ghost (Ghost.ownC 7 1 44 25 2 (xs := ([] : List Tm).map encT) rfl rfl rfl lens_encT) ?_
      refine IWP.loop (fun m x => ∃ k, k ≤ t.args.length ∧ m = t.args.length - k ∧ x.env 0 = aBds s ∧ x.env 3 = .one (.ptr 3 1 0 0) ∧ x.env 4 = .one (.ptr 4 1 0 0) ∧ x.env 7 = .one (.ptr 7 1 0 0) ∧ x.S 3 = some (.box 25 [.st (.str t.name), .st (.list (t.args.map encT))]) ∧ x.S 4 = some (.box 25 [.st (.str ⟨#[]⟩), .full []]) ∧ x.S 7 = some (.box 25 [.st (.str t.name), .row 44 k]) ∧ x.S 44 = some (.arow 25 2 (((t.args.take k).map (Tm.on s)).map encT)) ∧ x.env 8 = aInt k)
        t.args.length ⟨0, Nat.zero_le _, rfl, rfl, rfl, rfl, rfl, rfl, rfl, rfl, rfl, rfl⟩ ?_
      rintro m ⟨env, S⟩ ⟨k, hk, rfl, e0, e3, e4, e7, s3, s4, s7, s44, e8⟩
      simp only at e0 e3 e4 e7 s3 s4 s7 s44 e8
      have hlk : (t.args.take k).length = k := by rw [List.length_take]; omega
      by_cases hlt : (k : Int) < t.args.length
      · obtain ⟨a, ha⟩ := get_lt (show k < t.args.length by omega)
        repeat' (first | (with_reducible first | refine W ?_ | refine Wz0 ?_) | ((with_reducible first | refine Wo (fun K hK => ?_) | refine Wq ?_ | refine Wr ?_); (try simp only [go_sem, fN, seval, eT, iR, e0, e3, e4, e7, s3, s4, s7, s44, e8, hlt]); (repeat with_reducible refine Ai ?_); (try (refine hK _ ?_; clear hK K))))
        with_reducible refine Wp ?_
        simp only [go_sem, fN, seval, true_implies, false_implies, implies_true, dT, dF, nL, hlt]
        (try with_reducible refine iC ?_)
        repeat' (first | (with_reducible first | refine W ?_ | refine Wz0 ?_) | refine Cg _ (ih _ (Tm.lt_of_arg (mem_of_get ha)) a (by have := Tm.size_mem (mem_of_get ha); omega) rfl) ?_ | ((with_reducible first | refine Wo (fun K hK => ?_) | refine Wq ?_ | refine Wr ?_); (try simp only [go_sem, fN, seval, eT, iR, e0, e3, e4, e7, s3, s4, s7, s44, e8, ha, hlk]); (repeat with_reducible refine Ai ?_); (try (refine hK _ ?_; clear hK K))))
        refine then_normal ⟨t.args.length - (k + 1), by omega, k + 1, by omega, rfl, ?_⟩
        simp only [go_sem, fN, seval, eT, iR, e0, e3, e4, e7, s3, s4, s7, s44, e8]
        exact ⟨by rw [take_snoc ha]; simp [encT_eq], by congr 3⟩
      · repeat' (first | (with_reducible first | refine W ?_ | refine Wz0 ?_) | ((with_reducible first | refine Wo (fun K hK => ?_) | refine Wq ?_ | refine Wr ?_); (try simp only [go_sem, fN, seval, eT, iR, e0, e3, e4, e7, s3, s4, s7, s44, e8, hlt]); (repeat with_reducible refine Ai ?_); (try (refine hK _ ?_; clear hK K))))
        with_reducible refine Wp ?_
        simp only [go_sem, fN, seval, true_implies, false_implies, implies_true, dT, dF, nL, hlt]
        (try with_reducible refine iC ?_)
        have hall : t.args.take k = t.args := List.take_of_length_le (by omega)
        rw [hall] at hlk s44
        repeat' (first | (with_reducible first | refine W ?_ | refine Wz0 ?_) | ((with_reducible first | refine Wo (fun K hK => ?_) | refine Wq ?_ | refine Wr ?_); (try simp only [go_sem, fN, seval, eT, iR, e0, e3, e4, e7, s3, s4, s7, s44, e8, hlk]); (repeat with_reducible refine Ai ?_); (try (refine hK _ ?_; clear hK K))))
        simp only [go_sem, fN, seval, FinQ, AS.result, resAll, resOne, tupV, e4, s44, hlk]
        rfl
theorem grown_a (s : List Bd) (t : Tm) (m : Int) (h0 : 0 ≤ m) (h1 : m ≤ 9223372036854775806) : ACalls Try.prog 45 [aBds s, aTm t, aInt m] (aInt (capTo (t.on s).size m)) := by
  induction h : SizeOf.sizeOf t using Nat.strongRecOn generalizing t m with
  | _ N ih =>
  subst h
  by_cases hleaf : (∃ x, lookup s t.name = some x) ∧ t.args = []
  · obtain ⟨⟨x, hx⟩, ha0⟩ := hleaf
    have h0' : (t.args.length : Int) = 0 := by rw [ha0]; rfl
    rw [Tm.on_leaf hx ha0]
    refine ok_R_grown.ac fun C hC => ?_
    unfold ir_R_grown
    repeat' (first | (with_reducible first | refine W ?_ | refine Wz0 ?_) | refine Cg _ (for_a s t.name) ?_ | ((with_reducible first | refine Wo (fun K hK => ?_) | refine Wq ?_ | refine Wr ?_); (try simp only [go_sem, fN, seval, eT, iR, hx, h0', Option.isSome_some]); (repeat with_reducible refine Ai ?_); (try (refine hK _ ?_; clear hK K))))
    with_reducible refine Wp ?_
    simp only [go_sem, fN, seval, true_implies, false_implies, implies_true, dT, dF, nL]
    (try with_reducible refine iC ?_)
    repeat' (first | (with_reducible first | refine W ?_ | refine Wz0 ?_) | refine Cg _ (sizeR_a x m h0 h1) ?_ | ((with_reducible first | refine Wo (fun K hK => ?_) | refine Wq ?_ | refine Wr ?_); (try simp only [go_sem, fN, seval, eT, iR]); (repeat with_reducible refine Ai ?_); (try (refine hK _ ?_; clear hK K))))
    simp only [go_sem, fN, seval, FinQ, AS.result, resAll, resOne, tupV]
  · have hon : t.on s = .mk t.name (t.args.map (Tm.on s)) := Tm.on_knot (by
      cases hl : lookup s t.name with
      | none => exact .inl rfl
      | some x => exact .inr fun h0 => hleaf ⟨⟨x, hl⟩, h0⟩)
    have hs : (t.on s).size = 1 + Tm.sizes (t.args.map (Tm.on s)) := by rw [hon]; rfl
    refine ok_R_grown.ac fun C hC => ?_
    unfold ir_R_grown
    refine IWP.learn 1 (by omega) fun hkn => ?_
    have hkn := known_tm hkn
    repeat' (first | (with_reducible first | refine W ?_ | refine Wz0 ?_) | ((with_reducible first | refine Wo (fun K hK => ?_) | refine Wq ?_ | refine Wr ?_); (try simp only [go_sem, fN, seval, eT, iR]); (repeat with_reducible refine Ai ?_); (try (refine hK _ ?_; clear hK K))))
    refine ⟨_, for_a s t.name, ?_⟩
    cases hl : lookup s t.name
    case' none =>
      repeat' (first | (with_reducible first | refine W ?_ | refine Wz0 ?_) | ((with_reducible first | refine Wo (fun K hK => ?_) | refine Wq ?_ | refine Wr ?_); (try simp only [go_sem, fN, seval, eT, iR, hl, Option.isSome_none]); (repeat with_reducible refine Ai ?_); (try (refine hK _ ?_; clear hK K))))
      with_reducible refine Wp ?_
      simp only [go_sem, fN, seval, true_implies, false_implies, implies_true, dT, dF, nL]
      (try with_reducible refine iC ?_)
      repeat' (first | (with_reducible first | refine W ?_ | refine Wz0 ?_) | ((with_reducible first | refine Wo (fun K hK => ?_) | refine Wq ?_ | refine Wr ?_); (try simp only [go_sem, fN, seval, eT, iR]); (repeat with_reducible refine Ai ?_); (try (refine hK _ ?_; clear hK K))))
    case' some x =>
      have h0' : ¬ (t.args.length : Int) = 0 := fun h => hleaf ⟨⟨_, hl⟩, List.eq_nil_of_length_eq_zero (by omega)⟩
      repeat' (first | (with_reducible first | refine W ?_ | refine Wz0 ?_) | ((with_reducible first | refine Wo (fun K hK => ?_) | refine Wq ?_ | refine Wr ?_); (try simp only [go_sem, fN, seval, eT, iR, hl, h0', Option.isSome_some]); (repeat with_reducible refine Ai ?_); (try (refine hK _ ?_; clear hK K))))
      with_reducible refine Wp ?_
      simp only [go_sem, fN, seval, true_implies, false_implies, implies_true, dT, dF, nL]
      (try with_reducible refine iC ?_)
      repeat' (first | (with_reducible first | refine W ?_ | refine Wz0 ?_) | ((with_reducible first | refine Wo (fun K hK => ?_) | refine Wq ?_ | refine Wr ?_); (try simp only [go_sem, fN, seval, eT, iR]); (repeat with_reducible refine Ai ?_); (try (refine hK _ ?_; clear hK K))))
    all_goals
      refine IWP.loop (fun n x => ∃ k, k ≤ t.args.length ∧ n = t.args.length - k ∧ x.env 9 = aInt (capTo (1 + Tm.sizes ((t.args.take k).map (Tm.on s))) m) ∧ x.env 0 = aBds s ∧ x.env 2 = aInt m ∧ x.env 4 = .one (.ptr 4 1 0 0) ∧ x.env 10 = aInt k ∧ x.S 4 = some (.box 25 [.st (.str t.name), .st (.list (t.args.map encT))])) t.args.length ⟨0, Nat.zero_le _, rfl, by
        simp only [go_sem, fN, seval, eT, iR]
        rw [capTo]
        have z0 : Tm.sizes [] = 0 := rfl
        congr 3
        split <;> omega, rfl, rfl, rfl, rfl, rfl⟩ ?_
      rintro n ⟨env, S⟩ ⟨k, hk, rfl, e9, e0, e2, e4, e10, s4⟩
      simp only at e9 e0 e2 e4 e10 s4
      have z4 := capTo_le (1 + Tm.sizes ((t.args.take k).map (Tm.on s))) m h0
      have zle : 1 + Tm.sizes ((t.args.take k).map (Tm.on s)) ≤ (t.on s).size := by
        rw [hs, List.map_take]
        have := Tm.sizes_take_le (t.args.map (Tm.on s)) k
        omega
      by_cases hlt : (k : Int) < t.args.length
      · obtain ⟨a, ha⟩ := get_lt (show k < t.args.length by omega)
        have ha' : (t.args.map (Tm.on s))[k]? = some (a.on s) := by rw [List.getElem?_map, ha]; rfl
        have z1 := Tm.sizes_take ha'
        rw [← List.map_take, ← List.map_take] at z1
        by_cases hb : m < capTo (1 + Tm.sizes ((t.args.take k).map (Tm.on s))) m
        · have hb' : ¬ capTo (1 + Tm.sizes ((t.args.take k).map (Tm.on s))) m ≤ m := by omega
          repeat' (first | (with_reducible first | refine W ?_ | refine Wz0 ?_) | ((with_reducible first | refine Wo (fun K hK => ?_) | refine Wq ?_ | refine Wr ?_); (try simp only [go_sem, fN, seval, eT, iR, e9, e0, e2, e4, e10, s4, hlt, hb']); (repeat with_reducible refine Ai ?_); (try (refine hK _ ?_; clear hK K))))
          with_reducible refine Wp ?_
          simp only [go_sem, fN, seval, true_implies, false_implies, implies_true, dT, dF, nL, hb']
          (try with_reducible refine iC ?_)
          repeat' (first | (with_reducible first | refine W ?_ | refine Wz0 ?_) | ((with_reducible first | refine Wo (fun K hK => ?_) | refine Wq ?_ | refine Wr ?_); (try simp only [go_sem, fN, seval, eT, iR, e9, e2]); (repeat with_reducible refine Ai ?_); (try (refine hK _ ?_; clear hK K))))
          with_reducible refine Wp ?_
          simp only [go_sem, fN, seval, true_implies, false_implies, implies_true, dT, dF, nL, hb]
          (try with_reducible refine iC ?_)
          repeat' (first | (with_reducible first | refine W ?_ | refine Wz0 ?_) | ((with_reducible first | refine Wo (fun K hK => ?_) | refine Wq ?_ | refine Wr ?_); (try simp only [go_sem, fN, seval, eT, iR, e2]); (repeat with_reducible refine Ai ?_); (try (refine hK _ ?_; clear hK K))))
          simp only [go_sem, fN, seval, FinQ, AS.result, resAll, resOne, tupV]
          rw [capTo_over hb zle]
        · have hb' : capTo (1 + Tm.sizes ((t.args.take k).map (Tm.on s))) m ≤ m := by omega
          obtain ⟨b1, b2⟩ := capTo_in hb
          repeat' (first | (with_reducible first | refine W ?_ | refine Wz0 ?_) | ((with_reducible first | refine Wo (fun K hK => ?_) | refine Wq ?_ | refine Wr ?_); (try simp only [go_sem, fN, seval, eT, iR, e9, e0, e2, e4, e10, s4, hlt, hb']); (repeat with_reducible refine Ai ?_); (try (refine hK _ ?_; clear hK K))))
          with_reducible refine Wp ?_
          simp only [go_sem, fN, seval, true_implies, false_implies, implies_true, dT, dF, nL, hb']
          (try with_reducible refine iC ?_)
          repeat' (first | (with_reducible first | refine W ?_ | refine Wz0 ?_) | ((with_reducible first | refine Wo (fun K hK => ?_) | refine Wq ?_ | refine Wr ?_); (try simp only [go_sem, fN, seval, eT, iR, e9, e0, e2, e4, e10, s4, ha]); (repeat with_reducible refine Ai ?_); (try (refine hK _ ?_; clear hK K))))
          refine ⟨_, ih _ (Tm.lt_of_arg (mem_of_get ha)) a (m - capTo (1 + Tm.sizes ((t.args.take k).map (Tm.on s))) m) (by omega) (by omega) rfl, ?_⟩
          have z5 := capTo_le (a.on s).size (m - capTo (1 + Tm.sizes ((t.args.take k).map (Tm.on s))) m) (by omega)
          repeat' (first | (with_reducible first | refine W ?_ | refine Wz0 ?_) | ((with_reducible first | refine Wo (fun K hK => ?_) | refine Wq ?_ | refine Wr ?_); (try simp only [go_sem, fN, seval, eT, iR, e9, e0, e2, e4, e10, s4]); (repeat with_reducible refine Ai ?_); (try (refine hK _ ?_; clear hK K))))
          refine then_normal ⟨t.args.length - (k + 1), by omega, k + 1, by omega, rfl, ?_⟩
          simp only [go_sem, fN, seval, eT, iR, e9, e0, e2, e4, e10, s4]
          exact ⟨by rw [b1, capTo_step b2, z1]; congr 4; omega, by congr 3⟩
      · repeat' (first | (with_reducible first | refine W ?_ | refine Wz0 ?_) | ((with_reducible first | refine Wo (fun K hK => ?_) | refine Wq ?_ | refine Wr ?_); (try simp only [go_sem, fN, seval, eT, iR, e9, e0, e2, e4, e10, s4, hlt]); (repeat with_reducible refine Ai ?_); (try (refine hK _ ?_; clear hK K))))
        with_reducible refine Wp ?_
        simp only [go_sem, fN, seval, true_implies, false_implies, implies_true, dT, dF, nL]
        (try with_reducible refine iC ?_)
        have hfull : 1 + Tm.sizes ((t.args.take k).map (Tm.on s)) = (t.on s).size := by rw [List.take_of_length_le (by omega), hs]
        rw [hfull] at e9 z4
        repeat' (first | (with_reducible first | refine W ?_ | refine Wz0 ?_) | ((with_reducible first | refine Wo (fun K hK => ?_) | refine Wq ?_ | refine Wr ?_); (try simp only [go_sem, fN, seval, eT, iR, e9, e2]); (repeat with_reducible refine Ai ?_); (try (refine hK _ ?_; clear hK K))))
        by_cases hb : m < capTo (t.on s).size m
        · with_reducible refine Wp ?_
          simp only [go_sem, fN, seval, true_implies, false_implies, implies_true, dT, dF, nL, hb]
          (try with_reducible refine iC ?_)
          repeat' (first | (with_reducible first | refine W ?_ | refine Wz0 ?_) | ((with_reducible first | refine Wo (fun K hK => ?_) | refine Wq ?_ | refine Wr ?_); (try simp only [go_sem, fN, seval, eT, iR, e2]); (repeat with_reducible refine Ai ?_); (try (refine hK _ ?_; clear hK K))))
          simp only [go_sem, fN, seval, FinQ, AS.result, resAll, resOne, tupV]
          rw [capTo_over hb (Nat.le_refl _)]
        · with_reducible refine Wp ?_
          simp only [go_sem, fN, seval, true_implies, false_implies, implies_true, dT, dF, nL, hb]
          (try with_reducible refine iC ?_)
          repeat' (first | (with_reducible first | refine W ?_ | refine Wz0 ?_) | ((with_reducible first | refine Wo (fun K hK => ?_) | refine Wq ?_ | refine Wr ?_); (try simp only [go_sem, fN, seval, eT, iR, e9]); (repeat with_reducible refine Ai ?_); (try (refine hK _ ?_; clear hK K))))
          simp only [go_sem, fN, seval, FinQ, AS.result, resAll, resOne, tupV, e9]
def onTo (s : List Bd) (t : Tm) : Tm × Bool := if (t.on s).size ≤ 2000 then (t.on s, true) else (Tm.nil, false)
theorem onRef_a (s : List Bd) (t : Tm) (hz : t.size ≤ 1000000) : ACalls Try.prog 33 [aBds s, aTm t] (.tup [aTm (onTo s t).1, aBool (onTo s t).2]) := by
  by_cases hb : (2000 : Int) < capTo (t.on s).size 2000
  · have e : onTo s t = (Tm.nil, false) := by
      unfold onTo
      rw [if_neg]
      intro h
      unfold capTo at hb
      split at hb <;> omega
    rw [e]
    refine ok_R_On.ac fun C hC => ?_
    unfold ir_R_On
    repeat' (first | (with_reducible first | refine W ?_ | refine Wz0 ?_) | refine Cg _ (grown_a s t 2000 (by omega) (by omega)) ?_ | ((with_reducible first | refine Wo (fun K hK => ?_) | refine Wq ?_ | refine Wr ?_); (try simp only [go_sem, fN, seval, eT, iR, hb]); (repeat with_reducible refine Ai ?_); (try (refine hK _ ?_; clear hK K))))
    with_reducible refine Wp ?_
    simp only [go_sem, fN, seval, true_implies, false_implies, implies_true, dT, dF, nL, hb]
    (try with_reducible refine iC ?_)
    repeat' (first | (with_reducible first | refine W ?_ | refine Wz0 ?_) | ((with_reducible first | refine Wo (fun K hK => ?_) | refine Wq ?_ | refine Wr ?_); (try simp only [go_sem, fN, seval, eT, iR]); (repeat with_reducible refine Ai ?_); (try (refine hK _ ?_; clear hK K))))
    simp only [go_sem, fN, seval, FinQ, AS.result, resAll, resOne, tupV]
    rfl
  · have e : onTo s t = (t.on s, true) := by
      unfold onTo
      rw [if_pos]
      have := (capTo_in hb).2
      omega
    rw [e]
    refine ok_R_On.ac fun C hC => ?_
    unfold ir_R_On
    repeat' (first | (with_reducible first | refine W ?_ | refine Wz0 ?_) | refine Cg _ (grown_a s t 2000 (by omega) (by omega)) ?_ | ((with_reducible first | refine Wo (fun K hK => ?_) | refine Wq ?_ | refine Wr ?_); (try simp only [go_sem, fN, seval, eT, iR, hb]); (repeat with_reducible refine Ai ?_); (try (refine hK _ ?_; clear hK K))))
    with_reducible refine Wp ?_
    simp only [go_sem, fN, seval, true_implies, false_implies, implies_true, dT, dF, nL, hb]
    (try with_reducible refine iC ?_)
    repeat' (first | (with_reducible first | refine W ?_ | refine Wz0 ?_) | refine Cg _ (onR_a s t hz) ?_ | ((with_reducible first | refine Wo (fun K hK => ?_) | refine Wq ?_ | refine Wr ?_); (try simp only [go_sem, fN, seval, eT, iR]); (repeat with_reducible refine Ai ?_); (try (refine hK _ ?_; clear hK K))))
    simp only [go_sem, fN, seval, FinQ, AS.result, resAll, resOne, tupV]

def Tm.atP : Tm → List Int → Option Tm
  | t, [] => some t
  | t, i :: p => if i < 0 then none else match t.args[i.toNat]? with
    | some a => a.atP p
    | none => none
def Tm.putP : Tm → List Int → Tm → Tm
  | t, [], x => x
  | t, i :: p, x => match t.args[i.toNat]? with
    | some a => .mk t.name (t.args.set i.toNat (a.putP p x))
    | none => t
theorem Tm.atP_nil (t : Tm) : t.atP [] = some t := by cases t; rfl
theorem Tm.putP_nil (t x : Tm) : t.putP [] x = x := by cases t; rfl
theorem Tm.atP_cons (t : Tm) (i : Int) (p : List Int) : t.atP (i :: p) = if i < 0 then none else match t.args[i.toNat]? with
    | some a => a.atP p
    | none => none := by cases t; rfl
theorem Tm.putP_cons (t : Tm) (i : Int) (p : List Int) (x : Tm) : t.putP (i :: p) x = match t.args[i.toNat]? with
    | some a => .mk t.name (t.args.set i.toNat (a.putP p x))
    | none => t := by cases t; rfl
theorem Tm.atP_at {t a : Tm} {k : Nat} (h : t.args[k]? = some a) (p : List Int) : t.atP ((k : Int) :: p) = a.atP p := by
  rw [Tm.atP_cons, if_neg (by omega), Int.toNat_natCast, h]
theorem Tm.putP_at {t a : Tm} {k : Nat} (h : t.args[k]? = some a) (p : List Int) (x : Tm) : t.putP ((k : Int) :: p) x = .mk t.name (t.args.set k (a.putP p x)) := by
  rw [Tm.putP_cons, Int.toNat_natCast, h]
def rootFrom (R : List Pr) (t : Tm) : List Pr → Option (Tm × Int)
  | [] => none
  | r :: l => if isCase r.1 t = true then (if (onTo (caseOf r.1 t) r.2).2 = true then some ((onTo (caseOf r.1 t) r.2).1, 0) else some (Tm.nil, 8)) else rootFrom R t l
def rootS (R : List Pr) (t : Tm) : Option (Tm × Int) := rootFrom R t R
mutual
def Tm.out (R : List Pr) : Tm → Option (Tm × Int)
  | .mk n xs => match rootS R (.mk n xs) with
    | some r => some r
    | none => match Tm.outL R xs with
      | some (ys, e) => some (.mk n ys, e)
      | none => none
def Tm.outL (R : List Pr) : List Tm → Option (List Tm × Int)
  | [] => none
  | x :: xs => match Tm.out R x with
    | some (y, e) => some (y :: xs, e)
    | none => match Tm.outL R xs with
      | some (ys, e) => some (x :: ys, e)
      | none => none
end


structure OkB (s : List Bd) : Prop where
  ord : Ordered s
  var : ∀ b ∈ s, isVar b.1 = true
  nam : ∀ b ∈ s, nameOk b.1 = true
  chk : ∀ b ∈ s, b.2.chk = 0
theorem chk_parts {t : Tm} (h : t.chk = 0) : chkOne t = 0 := by
  rw [Tm.chk_eq] at h
  by_cases h1 : chkOne t = 0
  · exact h1
  · rw [if_neg h1] at h; exact h

def MtExt (l m : List Bd) : Prop := ∀ n x, lookup l n = some x → lookup m n = some x
theorem MtExt.trans {a b c : List Bd} (h : MtExt a b) (k : MtExt b c) : MtExt a c := fun n x e => k n x (h n x e)
def GoodB (b : Bd) : Prop := isVar b.1 = true ∧ nameOk b.1 = true ∧ b.2.chk = 0
theorem nameOk_of {t : Tm} (h : t.chk = 0) : nameOk t.name = true := by
  have := chk_parts h
  unfold chkOne at this
  split at this
  · assumption
  · cases this
mutual
theorem mt_good : ∀ (p : Tm), p.chk = 0 → ∀ (t : Tm), t.chk = 0 → ∀ (l : List Bd), (∀ b ∈ l, GoodB b) → ∀ b ∈ (p.mt t l).1, GoodB b
  | .mk n xs, hc, t, ht, l, hl => by
    obtain ⟨c1, c2⟩ := Tm.chk_args hc
    simp only [Tm.name_mk, Tm.args_mk] at c1 c2
    rw [Tm.mt]
    split
    · rename_i hv
      split
      · exact hl
      · intro b hb
        rcases List.mem_append.1 hb with hb | hb
        · exact hl b hb
        · rw [List.mem_singleton] at hb
          subst hb
          exact ⟨hv, nameOk_of hc, ht⟩
    · split
      · exact mtL_good xs c2 t.args (Tm.chk_args ht).2 l hl
      · exact hl
theorem mtL_good : ∀ (xs : List Tm), (∀ x ∈ xs, x.chk = 0) → ∀ (ys : List Tm), (∀ y ∈ ys, y.chk = 0) → ∀ (l : List Bd), (∀ b ∈ l, GoodB b) → ∀ b ∈ (Tm.mtL xs ys l).1, GoodB b
  | [], _, ys, _, l, hl => by rw [Tm.mtL_nil]; exact hl
  | x :: xs, _, [], _, l, hl => by rw [Tm.mtL]; exact hl; simp
  | x :: xs, hc, y :: ys, hy, l, hl => by
    rw [Tm.mtL]
    have h1 := mt_good x (hc x (by simp)) y (hy y (by simp)) l hl
    split
    · exact mtL_good xs (fun a ha => hc a (by simp [ha])) ys (fun a ha => hy a (by simp [ha])) _ h1
    · exact h1
end
section
variable {p t : Tm}
theorem case_ok (hp : p.chk = 0) (ht : t.chk = 0) : OkB (caseOf p t) := by
  unfold caseOf
  have hg := mt_good p hp t ht [] (by simp)
  split
  · exact ⟨sortB_ordered (mt_named p t), fun b hb => (hg b (sortB_mem.1 hb)).1, fun b hb => (hg b (sortB_mem.1 hb)).2.1, fun b hb => (hg b (sortB_mem.1 hb)).2.2⟩
  · exact ⟨List.Pairwise.nil, by simp, by simp, by simp⟩
theorem case_len_le : (caseOf p t).length ≤ p.size := by
  unfold caseOf
  split
  · rw [sortB_length]; exact mt_len p t
  · simp
end

def errL {α : Type} (f : α → Int) : List α → Int
  | [] => 0
  | x :: xs => if f x = 0 then errL f xs else f x
theorem errL_append {α : Type} (f : α → Int) : ∀ xs ys : List α, errL f (xs ++ ys) = if errL f xs = 0 then errL f ys else errL f xs
  | [], ys => rfl
  | x :: xs, ys => by
    by_cases h : f x = 0
    · have e1 : errL f (x :: (xs ++ ys)) = errL f (xs ++ ys) := if_pos h
      have e2 : errL f (x :: xs) = errL f xs := if_pos h
      rw [List.cons_append, e1, e2, errL_append f xs ys]
    · have e1 : errL f (x :: (xs ++ ys)) = f x := if_neg h
      have e2 : errL f (x :: xs) = f x := if_neg h
      rw [List.cons_append, e1, e2, if_neg h]
theorem errL_get {α : Type} {f : α → Int} {xs : List α} {k : Nat} {a : α} (h : xs[k]? = some a) (h0 : errL f (xs.take k) = 0) : (f a = 0 → errL f (xs.take (k + 1)) = 0) ∧ (f a ≠ 0 → errL f xs = f a) := by
  refine ⟨fun ha => ?_, fun ha => ?_⟩
  · rw [take_snoc h, errL_append, if_pos h0]
    simp [errL, ha]
  · have e : xs = xs.take k ++ a :: xs.drop (k + 1) := by
      rw [← drop_get h, List.take_append_drop]
    rw [e, errL_append, if_pos h0]
    simp [errL, ha]
theorem errL_zero {α : Type} {f : α → Int} : ∀ {xs : List α}, errL f xs = 0 → ∀ x ∈ xs, f x = 0
  | [], _, x, h => by cases h
  | y :: ys, h0, x, hx => by
    rw [errL] at h0
    by_cases hy : f y = 0
    · rw [if_pos hy] at h0
      rcases List.mem_cons.1 hx with rfl | hx
      · exact hy
      · exact errL_zero h0 x hx
    · rw [if_neg hy] at h0
      exact absurd h0 hy
def openR (r : Pr) : Bool := r.2.varsOf.any fun v => !isIn v r.1.varsOf
def ruleErr (r : Pr) : Int := if twoMay r.1 r.2 = 0 then (if isVar r.1.name = true then 2 else if openR r = true then 15 else 0) else twoMay r.1 r.2
def rulesMay (R : List Pr) : Int := if 40 < R.length then 3 else errL ruleErr R
structure GoodRules (R : List Pr) : Prop where
  len : R.length ≤ 40
  left : ∀ r ∈ R, r.1.may = 0
  right : ∀ r ∈ R, r.2.may = 0
  head : ∀ r ∈ R, isVar r.1.name = false
  vars : ∀ r ∈ R, ∀ v ∈ r.2.varsOf, v ∈ r.1.varsOf
theorem ruleErr_zero {r : Pr} (h : ruleErr r = 0) : r.1.may = 0 ∧ r.2.may = 0 ∧ isVar r.1.name = false ∧ openR r = false := by
  unfold ruleErr at h
  by_cases h1 : twoMay r.1 r.2 = 0
  · rw [if_pos h1] at h
    by_cases h2 : isVar r.1.name = true
    · rw [if_pos h2] at h; cases h
    · rw [if_neg h2] at h
      by_cases h3 : openR r = true
      · rw [if_pos h3] at h; cases h
      · unfold twoMay at h1
        by_cases h4 : r.1.may = 0
        · rw [if_pos h4] at h1
          exact ⟨h4, h1, by simpa using h2, by simpa using h3⟩
        · rw [if_neg h4] at h1
          exact absurd h1 h4
  · rw [if_neg h1] at h
    exact absurd h h1
theorem goodRules {R : List Pr} (h : rulesMay R = 0) : GoodRules R := by
  unfold rulesMay at h
  by_cases h0 : 40 < R.length
  · rw [if_pos h0] at h; cases h
  · rw [if_neg h0] at h
    have key := fun r hr => ruleErr_zero (errL_zero h r hr)
    refine ⟨by omega, fun r hr => (key r hr).1, fun r hr => (key r hr).2.1, fun r hr => (key r hr).2.2.1, fun r hr v hv => ?_⟩
    have := (key r hr).2.2.2
    unfold openR at this
    rw [List.any_eq_false] at this
    have := this v hv
    simp only [Bool.not_eq_true', Bool.not_eq_false] at this
    exact isIn_iff.1 this
def argsR (R : List Pr) (t : Tm) : Int := if rulesMay R = 0 then t.may else rulesMay R
def rootK (t : Tm) : Nat → List Pr → Tm × Int × Int
  | _, [] => (Tm.nil, -1, 0)
  | k, r :: l => if isCase r.1 t = true then ((onTo (caseOf r.1 t) r.2).1, (k : Int), if (onTo (caseOf r.1 t) r.2).2 = true then 0 else 8) else rootK t (k + 1) l
theorem onTo_no {s : List Bd} {t : Tm} (h : ¬ (onTo s t).2 = true) : (onTo s t).1 = Tm.nil := by
  unfold onTo at *
  split
  · rename_i h1
    rw [if_pos h1] at h
    exact absurd rfl h
  · rfl
theorem sizes_set : ∀ {xs : List Tm} {k : Nat} {a : Tm} (y : Tm), xs[k]? = some a → Tm.sizes (xs.set k y) + a.size = Tm.sizes xs + y.size
  | [], k, a, y, h => by simp at h
  | x :: xs, 0, a, y, h => by
    simp at h
    subst h
    simp only [List.set_cons_zero, Tm.sizes]
    omega
  | x :: xs, k + 1, a, y, h => by
    have := sizes_set (xs := xs) (k := k) y (by simpa using h)
    simp only [List.set_cons_succ, Tm.sizes]
    omega

mutual
theorem places_at : ∀ (t : Tm) (p : List Int), p ∈ t.places → ∃ x, t.atP p = some x ∧ x ∈ t.knots
  | .mk n xs, p, h => by
    rw [Tm.places] at h
    rcases List.mem_cons.1 h with rfl | h
    · exact ⟨_, rfl, by rw [Tm.knots]; exact List.mem_cons_self⟩
    · obtain ⟨x, h1, h2⟩ := placesFrom_at n xs 0 xs p (by simp) h
      exact ⟨x, h1, by rw [Tm.knots]; exact List.mem_cons_of_mem _ h2⟩
theorem placesFrom_at (n : ByteArray) (all : List Tm) : ∀ (k : Nat) (xs : List Tm) (p : List Int), all.drop k = xs → p ∈ Tm.placesFrom k xs → ∃ x, (Tm.mk n all).atP p = some x ∧ x ∈ Tm.knotsL xs
  | _, [], p, _, h => by simp [Tm.placesFrom] at h
  | k, x :: xs, p, hd, h => by
    have hk : all[k]? = some x := by
      have := congrArg (fun l => l[0]?) hd
      simpa using this
    rw [Tm.placesFrom] at h
    rcases List.mem_append.1 h with h | h
    · obtain ⟨q, hq, rfl⟩ := List.mem_map.1 h
      obtain ⟨y, h1, h2⟩ := places_at x q hq
      exact ⟨y, by rw [Tm.atP_at (t := .mk n all) hk]; exact h1, by rw [Tm.knotsL]; exact List.mem_append_left _ h2⟩
    · obtain ⟨y, h1, h2⟩ := placesFrom_at n all (k + 1) xs p (by rw [← List.tail_drop, hd]; rfl) h
      exact ⟨y, h1, by rw [Tm.knotsL]; exact List.mem_append_right _ h2⟩
end
mutual
theorem knot_chk : ∀ (t x : Tm), t.chk = 0 → x ∈ t.knots → x.chk = 0
  | .mk n xs, x, hc, h => by
    rw [Tm.knots] at h
    rcases List.mem_cons.1 h with rfl | h
    · exact hc
    · exact knotL_chk xs x (fun b hb => (Tm.chk_args hc).2 b hb) h
theorem knotL_chk : ∀ (xs : List Tm) (x : Tm), (∀ b ∈ xs, b.chk = 0) → x ∈ Tm.knotsL xs → x.chk = 0
  | [], x, _, h => by simp [Tm.knotsL] at h
  | y :: ys, x, hc, h => by
    rw [Tm.knotsL] at h
    rcases List.mem_append.1 h with h | h
    · exact knot_chk y x (hc y (by simp)) h
    · exact knotL_chk ys x (fun b hb => hc b (List.mem_cons_of_mem _ hb)) h
end
mutual
theorem knot_size : ∀ (t x : Tm), x ∈ t.knots → x.size ≤ t.size
  | .mk n xs, x, h => by
    rw [Tm.knots] at h
    rcases List.mem_cons.1 h with rfl | h
    · exact Nat.le_refl _
    · have := knotL_size xs x h
      simp only [Tm.size]
      omega
theorem knotL_size : ∀ (xs : List Tm) (x : Tm), x ∈ Tm.knotsL xs → x.size ≤ Tm.sizes xs
  | [], x, h => by simp [Tm.knotsL] at h
  | y :: ys, x, h => by
    rw [Tm.knotsL] at h
    simp only [Tm.sizes]
    rcases List.mem_append.1 h with h | h
    · have := knot_size y x h; omega
    · have := knotL_size ys x h; omega
end

def surPut : List (Tm × Nat) → Tm → Tm
  | [], x => x
  | (t, i) :: V, x => surPut V (.mk t.name (t.args.set i x))
mutual
def Tm.visits : List (Tm × Nat) → Tm → List (List (Tm × Nat) × Tm)
  | V, .mk n xs => (V, .mk n xs) :: Tm.visitsL V (.mk n xs) 0 xs
def Tm.visitsL : List (Tm × Nat) → Tm → Nat → List Tm → List (List (Tm × Nat) × Tm)
  | _, _, _, [] => []
  | V, t, k, x :: xs => Tm.visits ((t, k) :: V) x ++ Tm.visitsL V t (k + 1) xs
end
theorem Tm.visits_eq (V : List (Tm × Nat)) (t : Tm) : t.visits V = (V, t) :: Tm.visitsL V t 0 t.args := by cases t; rfl
theorem visitsL_drop {V : List (Tm × Nat)} {t a : Tm} {k : Nat} {xs : List Tm} (h : xs[k]? = some a) : Tm.visitsL V t k (xs.drop k) = a.visits ((t, k) :: V) ++ Tm.visitsL V t (k + 1) (xs.drop (k + 1)) := by
  obtain ⟨hk, he⟩ := List.getElem?_eq_some_iff.1 h
  rw [List.drop_eq_getElem_cons hk, he, Tm.visitsL]
abbrev Spot := (Tm → Tm) × Tm
def spotOf (q : List (Tm × Nat) × Tm) : Spot := (surPut q.1, q.2)
def spotP (V : List (Tm × Nat)) (t : Tm) (p : List Int) : Spot := (fun y => surPut V (t.putP p y), (t.atP p).getD Tm.nil)
mutual
theorem visits_places : ∀ (t : Tm) (V : List (Tm × Nat)), (t.visits V).map spotOf = t.places.map (spotP V t)
  | .mk n xs, V => by
    rw [Tm.visits, Tm.places, List.map_cons, List.map_cons, visitsL_places n xs 0 xs V (by simp)]
    rfl
theorem visitsL_places (n : ByteArray) (all : List Tm) : ∀ (k : Nat) (xs : List Tm) (V : List (Tm × Nat)), all.drop k = xs → (Tm.visitsL V (.mk n all) k xs).map spotOf = (Tm.placesFrom k xs).map (spotP V (.mk n all))
  | _, [], _, _ => rfl
  | k, x :: xs, V, h => by
    have hk : all[k]? = some x := by
      have := congrArg (fun l => l[0]?) h
      simpa using this
    rw [Tm.visitsL, Tm.placesFrom, List.map_append, List.map_append, visits_places x, visitsL_places n all (k + 1) xs V (by rw [← List.tail_drop, h]; rfl), List.map_map]
    congr 1
    refine List.map_congr_left fun p _ => ?_
    show (fun y => surPut ((Tm.mk n all, k) :: V) (x.putP p y), (x.atP p).getD Tm.nil) = (fun y => surPut V ((Tm.mk n all).putP ((k : Int) :: p) y), ((Tm.mk n all).atP ((k : Int) :: p)).getD Tm.nil)
    rw [Tm.atP_at (t := .mk n all) hk]
    congr 1
    funext y
    rw [Tm.putP_at (t := .mk n all) hk]
    rfl
end
def offsR (q : Spot) : List Pr → Option (List Tm)
  | [] => some []
  | r :: l => if isCase r.1 q.2 = true then (if (onTo (caseOf r.1 q.2) r.2).2 = true ∧ (q.1 (onTo (caseOf r.1 q.2) r.2).1).size ≤ 2000 then (offsR q l).map (q.1 (onTo (caseOf r.1 q.2) r.2).1 :: ·) else none) else offsR q l
def stepsL (R : List Pr) : List Spot → Option (List Tm)
  | [] => some []
  | q :: l => match offsR q R with
    | none => none
    | some a => (stepsL R l).map (a ++ ·)
def stepsT (R : List Pr) (t : Tm) : Option (List Tm) := stepsL R (t.places.map (spotP [] t))
theorem stepsT_visits (R : List Pr) (t : Tm) : stepsT R t = stepsL R ((t.visits []).map spotOf) := by rw [visits_places]; rfl
theorem stepsL_append (R : List Pr) : ∀ a b : List Spot, stepsL R (a ++ b) = match stepsL R a with
    | none => none
    | some x => (stepsL R b).map (x ++ ·)
  | [], b => by
    simp only [List.nil_append, stepsL]
    cases stepsL R b <;> simp
  | q :: a, b => by
    rw [List.cons_append, stepsL, stepsL, stepsL_append R a b]
    cases offsR q R with
    | none => rfl
    | some x =>
      simp only
      cases stepsL R a with
      | none => rfl
      | some y => cases stepsL R b <;> simp
theorem stepsL_snoc {R : List Pr} {a : List Spot} {q : Spot} {x y : List Tm} (h : stepsL R a = some x) (h2 : offsR q R = some y) : stepsL R (a ++ [q]) = some (x ++ y) := by
  rw [stepsL_append, h]
  simp [stepsL, h2]
theorem stepsL_bad {R : List Pr} {a b : List Spot} {q : Spot} (h2 : offsR q R = none) : stepsL R (a ++ q :: b) = none := by
  rw [stepsL_append, stepsL, h2]
  cases stepsL R a <;> rfl
theorem offs_root (q : Spot) : ∀ (l : List Pr) (k : Nat), (rootK q.2 k l = (Tm.nil, -1, 0) ∧ offsR q l = some []) ∨
    ∃ (i : Nat) (y : Tm) (r : Pr), k ≤ i ∧ i < k + l.length ∧ r ∈ l ∧ isCase r.1 q.2 = true ∧ (onTo (caseOf r.1 q.2) r.2).1 = y ∧ ((rootK q.2 k l = (y, (i : Int), 0) ∧ (onTo (caseOf r.1 q.2) r.2).2 = true ∧ offsR q l = if (q.1 y).size ≤ 2000 then (offsR q (l.drop (i + 1 - k))).map (q.1 y :: ·) else none) ∨ (rootK q.2 k l = (Tm.nil, (i : Int), 8) ∧ offsR q l = none))
  | [], k => .inl ⟨rfl, rfl⟩
  | r :: l, k => by
    rw [rootK, offsR]
    by_cases h : isCase r.1 q.2 = true
    · rw [if_pos h, if_pos h]
      refine .inr ⟨k, _, r, Nat.le_refl k, by simp, by simp, h, rfl, ?_⟩
      by_cases h2 : (onTo (caseOf r.1 q.2) r.2).2 = true
      · refine .inl ⟨by rw [if_pos h2], h2, ?_⟩
        by_cases h3 : (q.1 (onTo (caseOf r.1 q.2) r.2).1).size ≤ 2000
        · rw [if_pos ⟨h2, h3⟩, if_pos h3, show k + 1 - k = 1 by omega]
          rfl
        · rw [if_neg (fun h => h3 h.2), if_neg h3]
      · exact .inr ⟨by rw [if_neg h2, onTo_no h2], by rw [if_neg (fun h => h2 h.1)]⟩
    · rw [if_neg h, if_neg h]
      rcases offs_root q l (k + 1) with ⟨h1, h3⟩ | ⟨i, y, r', h1, h2, hm, hc, hy, h3⟩
      · exact .inl ⟨h1, h3⟩
      · refine .inr ⟨i, y, r', by omega, by rw [List.length_cons]; omega, List.mem_cons_of_mem _ hm, hc, hy, ?_⟩
        rcases h3 with ⟨h3, h4, h5⟩ | h3
        · refine .inl ⟨h3, h4, ?_⟩
          rw [h5, show i + 1 - k = (i + 1 - (k + 1)) + 1 by omega, List.drop_succ_cons]
        · exact .inr h3
theorem onTo_size {s : List Bd} {t : Tm} : (onTo s t).1.size ≤ 2000 := by
  unfold onTo
  split
  · assumption
  · decide
def SurOk : List (Tm × Nat) → Prop
  | [] => True
  | (t, i) :: V => i < t.args.length ∧ t.args.length ≤ 1000000 ∧ SurOk V
mutual
theorem visits_ok : ∀ (t : Tm) (V : List (Tm × Nat)), SurOk V → t.size ≤ 1000000 → ∀ q ∈ t.visits V, SurOk q.1 ∧ q.2 ∈ t.knots
  | .mk n xs, V, hV, hz, q, hq => by
    rw [Tm.visits] at hq
    rw [Tm.knots]
    rcases List.mem_cons.1 hq with rfl | hq
    · exact ⟨hV, List.mem_cons_self⟩
    · have := visitsL_ok n xs 0 xs V (by simp) hV hz q hq
      exact ⟨this.1, List.mem_cons_of_mem _ this.2⟩
theorem visitsL_ok (n : ByteArray) (all : List Tm) : ∀ (k : Nat) (xs : List Tm) (V : List (Tm × Nat)), all.drop k = xs → SurOk V → (Tm.mk n all).size ≤ 1000000 → ∀ q ∈ Tm.visitsL V (.mk n all) k xs, SurOk q.1 ∧ q.2 ∈ Tm.knotsL xs
  | _, [], _, _, _, _, q, hq => by simp [Tm.visitsL] at hq
  | k, x :: xs, V, h, hV, hz, q, hq => by
    have hk : all[k]? = some x := by
      have := congrArg (fun l => l[0]?) h
      simpa using this
    have hlt : k < all.length := (List.getElem?_eq_some_iff.1 hk).1
    have hl := Tm.length_le all
    have hx := sizes_set x hk
    have hx2 : x.size ≤ Tm.sizes all := by
      have h2 := Tm.length_le all
      have : ∀ {l : List Tm}, x ∈ l → x.size ≤ Tm.sizes l := fun {l} hm => by
        induction l with
        | nil => cases hm
        | cons y ys ih =>
          simp only [Tm.sizes]
          rcases List.mem_cons.1 hm with rfl | hm
          · omega
          · have := ih hm
            omega
      exact this (List.mem_of_getElem? hk)
    simp only [Tm.size] at hz
    rw [Tm.visitsL] at hq
    rw [Tm.knotsL]
    rcases List.mem_append.1 hq with hq | hq
    · have := visits_ok x ((.mk n all, k) :: V) ⟨hlt, by show all.length ≤ _; omega, hV⟩ (by omega) q hq
      exact ⟨this.1, List.mem_append_left _ this.2⟩
    · have := visitsL_ok n all (k + 1) xs V (by rw [← List.tail_drop, h]; rfl) hV (by simp only [Tm.size]; omega) q hq
      exact ⟨this.1, List.mem_append_right _ this.2⟩
end
theorem putP_size : ∀ (p : List Int) (t y : Tm), (t.putP p y).size ≤ t.size + y.size
  | [], t, y => by rw [Tm.putP_nil]; omega
  | i :: p, t, y => by
    rw [Tm.putP_cons]
    split
    · rename_i a ha
      have h1 := sizes_set (a.putP p y) ha
      have h2 := putP_size p a y
      have h3 := Tm.size_eq t
      simp only [Tm.size]
      omega
    · omega
theorem surPut_size {t : Tm} {q : List (Tm × Nat) × Tm} (hq : q ∈ t.visits []) (y : Tm) : (surPut q.1 y).size ≤ t.size + y.size := by
  have h1 : spotOf q ∈ (t.visits []).map spotOf := List.mem_map_of_mem hq
  rw [visits_places] at h1
  obtain ⟨p, _, h2⟩ := List.mem_map.1 h1
  have h3 : surPut q.1 = fun y => surPut [] (t.putP p y) := (congrArg Prod.fst h2).symm
  rw [h3]
  exact putP_size p t y
theorem offsR_len {q : Spot} : ∀ {l : List Pr} {a : List Tm}, offsR q l = some a → a.length ≤ l.length
  | [], a, h => by cases h; simp
  | r :: l, a, h => by
    rw [offsR] at h
    split at h
    · split at h
      · rw [Option.map_eq_some_iff] at h
        obtain ⟨b, h1, rfl⟩ := h
        have := offsR_len h1
        simp only [List.length_cons]
        omega
      · cases h
    · have := offsR_len h
      simp only [List.length_cons]
      omega
theorem stepsL_len {R : List Pr} : ∀ {l : List Spot} {a : List Tm}, stepsL R l = some a → a.length ≤ l.length * R.length
  | [], a, h => by cases h; simp
  | q :: l, a, h => by
    rw [stepsL] at h
    split at h
    · cases h
    · rename_i b hb
      rw [Option.map_eq_some_iff] at h
      obtain ⟨c, h1, rfl⟩ := h
      have h2 := offsR_len hb
      have h3 := stepsL_len h1
      simp only [List.length_cons, List.length_append, Nat.add_mul]
      omega
theorem visits_len (t : Tm) (V : List (Tm × Nat)) : (t.visits V).length = t.size := by
  have := congrArg List.length (visits_places t V)
  simp only [List.length_map] at this
  rw [this, Tm.places_length]

set_option maxRecDepth 100000
def ir_slices_EqualFunc_metaprune_api_Term_metaprune_api_Term_metaprune_api_Term_metaprune_api_Term : IR :=
  (.seq (.ops [.i 6 (.mov (.c (.one (.st (.bool false)))))]) (.seq (.seq (.ops [.m 10 0, .i 11 (.len false (.t 10)), .m 12 1, .i 13 (.len false (.t 12)), .i 14 (.bin .neq (.t 11) (.t 13))]) (.cond (.t 14) (.seq (.ops [.i 6 (.mov (.c (.one (.st (.bool false)))))]) .ret) .skip)) (.seq (.seq (.ops [.m 15 0, .i 16 (.len false (.t 15)), .i 17 (.mov (.n 0))]) (.block 0 (.loop (.seq (.ops [.i 18 (.bin .lss (.t 17) (.t 16))]) (.seq (.cond (.t 18) .skip (.exit 0)) (.seq (.block 1 (.seq (.ops [.m 19 17, .i 20 (.indexAddr 2 (.t 15) (.t 17)), .L 21 2 20, .i 8 (.alloc 25 [.st (.str (ByteArray.mk (#[]))), .full []]), .m 7 19, .s 2 8 21]) (.seq (.ops [.m 22 1, .m 23 7, .i 24 (.indexAddr 2 (.t 22) (.t 23)), .L 25 2 24, .i 9 (.alloc 25 [.st (.str (ByteArray.mk (#[]))), .full []]), .s 2 9 25]) (.seq (.ops [.m 26 2, .L 27 2 8, .L 28 2 9, .i 29 (.callV (.t 26) [.t 27, .t 28]), .i 30 (.un .not (.t 29))]) (.cond (.t 30) (.seq (.ops [.i 6 (.mov (.c (.one (.st (.bool false)))))]) .ret) .skip))))) (.ops [.i 31 (.bin .add (.t 17) (.n 1)), .m 17 31]))))))) (.seq (.ops [.i 6 (.mov (.c (.one (.st (.bool true)))))]) .ret))))
theorem ok_slices_EqualFunc_metaprune_api_Term_metaprune_api_Term_metaprune_api_Term_metaprune_api_Term : OkF Try.prog 66 32 [] ir_slices_EqualFunc_metaprune_api_Term_metaprune_api_Term_metaprune_api_Term_metaprune_api_Term [.t 6] := .of Try.func66 rfl rfl (by kernel_rfl) rfl
def ir_term_Same : IR :=
  (.seq (.ops [.i 2 (.box 25 (.t 0)), .i 3 (.box 25 (.t 1)), .i 4 (.mov (.c (.one (.st (.bool false)))))]) (.seq (.ops [.f 5 0 2, .l 6 5, .f 7 0 3, .l 8 7, .i 9 (.bin .eql (.t 6) (.t 8)), .m 10 9, .mk (some 11) (some (10, true)) (.fieldAddr 1 (.t 2)) .no, .mk (some 12) (some (10, true)) (.load false 1 (.t 11)) .no, .mk (some 13) (some (10, true)) (.fieldAddr 1 (.t 3)) .no, .mk (some 14) (some (10, true)) (.load false 1 (.t 13)) .no, .mk (some 15) (some (10, true)) (.call 66 [.t 12, .t 14, .c (.one (.fn 61 []))]) .no, .i 16 (.pick (.t 10) (.t 15) (.c (.one (.st (.bool false))))), .m 4 16]) .ret))
theorem ok_term_Same : OkF Try.prog 61 17 [] ir_term_Same [.t 4] := .of Try.func61 rfl rfl (by kernel_rfl) rfl

set_option maxHeartbeats 800000
theorem Tm.beqL_no {xs ys : List Tm} (h : xs ≠ ys) : Tm.beqL xs ys = false := by
  rw [← Bool.not_eq_true, Tm.beqL_iff]
  exact h
theorem equalFunc_a (xs ys : List Tm) (ih : ∀ x ∈ xs, ∀ y, ACalls Try.prog 61 [aTm x, aTm y] (aBool (x.beq y))) :
    ACalls Try.prog 66 [aTms xs, aTms ys, .one (.fn 61 [])] (aBool (Tm.beqL xs ys)) := by
  have hplain : plainF Try.prog 61 = true := by kernel_rfl
  refine ok_slices_EqualFunc_metaprune_api_Term_metaprune_api_Term_metaprune_api_Term_metaprune_api_Term.ac fun C hC => ?_
  unfold ir_slices_EqualFunc_metaprune_api_Term_metaprune_api_Term_metaprune_api_Term_metaprune_api_Term
  refine IWP.learn 0 (by omega) fun hkn => ?_
  have hkx := known_len hkn
  rw [List.length_map] at hkx
  by_cases hl : xs.length = ys.length
  · have hl' : (xs.length : Int) = ys.length := by omega
    repeat' (first | (with_reducible first | refine W ?_ | refine Wz0 ?_) | ((with_reducible first | refine Wo (fun K hK => ?_) | refine Wp ?_ | refine Wq ?_ | refine Wr ?_); (try simp only [go_sem, fN, seval, eT, iR, hl', dT, dF, nL]); (repeat with_reducible refine Ai ?_); (try (refine hK _ ?_; clear hK K)); (try with_reducible refine iC ?_)))
    refine IWP.loopD [8, 9] (fun n s => ∃ k, k ≤ xs.length ∧ n = xs.length - k ∧ xs.take k = ys.take k ∧ s.env 1 = aTms ys ∧ s.env 2 = .one (.fn 61 []) ∧ s.env 15 = aTms xs ∧ s.env 16 = aInt xs.length ∧ s.env 17 = aInt k ∧ s.S 8 = none ∧ s.S 9 = none) xs.length ⟨0, Nat.zero_le _, rfl, rfl, rfl, rfl, rfl, by simp only [go_sem, fN, seval, eT, iR, hl'], rfl, rfl, rfl⟩ ?_
    rintro n ⟨env, S⟩ ⟨k, hk, rfl, h0, e1, e2, e15, e16, e17, s8, s9⟩
    simp only at e1 e2 e15 e16 e17 s8 s9
    by_cases hlt : (k : Int) < xs.length
    · obtain ⟨x, hx⟩ := get_lt (show k < xs.length by omega)
      obtain ⟨y, hy⟩ := get_lt (show k < ys.length by omega)
      repeat' (first | (with_reducible first | refine W ?_ | refine Wz0 ?_) | ((with_reducible first | refine Wo (fun K hK => ?_) | refine Wp ?_ | refine Wq ?_ | refine Wr ?_); (try simp only [go_sem, fN, seval, eT, iR, e1, e2, e15, e16, e17, s8, s9, hlt, hx, hy, hplain, dT, dF, nL]); (repeat with_reducible refine Ai ?_); (try (refine hK _ ?_; clear hK K)); (try with_reducible refine iC ?_)))
      refine ⟨_, _, (ih x (mem_of_get hx) y).toS rfl, ?_⟩
      cases hxy : x.beq y with
      | false =>
        repeat' (first | (with_reducible first | refine W ?_ | refine Wz0 ?_) | ((with_reducible first | refine Wo (fun K hK => ?_) | refine Wp ?_ | refine Wq ?_ | refine Wr ?_); (try simp only [go_sem, fN, seval, eT, iR, hxy, dT, dF, nL]); (repeat with_reducible refine Ai ?_); (try (refine hK _ ?_; clear hK K)); (try with_reducible refine iC ?_)))
        simp only [go_sem, fN, seval, FinQ, AS.result, resAll, resOne, tupV]
        rw [Tm.beqL_no fun e => by
          subst e
          rw [hx] at hy
          cases hy
          rw [Tm.beq_refl] at hxy
          cases hxy]
      | true =>
        have hxy' := (Tm.beq_iff x y).1 hxy
        repeat' (first | (with_reducible first | refine W ?_ | refine Wz0 ?_) | ((with_reducible first | refine Wo (fun K hK => ?_) | refine Wp ?_ | refine Wq ?_ | refine Wr ?_); (try simp only [go_sem, fN, seval, eT, iR, hxy, e1, e2, e15, e16, e17, s8, s9, dT, dF, nL]); (repeat with_reducible refine Ai ?_); (try (refine hK _ ?_; clear hK K)); (try with_reducible refine iC ?_)))
        refine then_normal ⟨xs.length - (k + 1), by omega, k + 1, by omega, rfl, ?_, ?_⟩
        · rw [take_snoc hx, take_snoc hy, h0, hxy']
        · simp only [go_sem, fN, seval, AS.drop, dropS, AC.clears, AC.clear, AC.highs, AC.high, Bool.not_false, Bool.true_and, Bool.and_self, AV.purge, AV.purges, AC.purge, ABlk.purge, List.contains_cons, List.contains_nil, Nat.reduceBEq, Bool.or_self, Bool.or_false, Bool.false_or, Bool.or_true, eT, iR, e1, e2, e15, e16, e17, s8, s9]
          congr 3
    · repeat' (first | (with_reducible first | refine W ?_ | refine Wz0 ?_) | ((with_reducible first | refine Wo (fun K hK => ?_) | refine Wp ?_ | refine Wq ?_ | refine Wr ?_); (try simp only [go_sem, fN, seval, eT, iR, e1, e2, e15, e16, e17, hlt, dT, dF, nL]); (repeat with_reducible refine Ai ?_); (try (refine hK _ ?_; clear hK K)); (try with_reducible refine iC ?_)))
      simp only [go_sem, fN, seval, FinQ, AS.result, resAll, resOne, tupV]
      rw [List.take_of_length_le (by omega), List.take_of_length_le (by omega)] at h0
      rw [(Tm.beqL_iff xs ys).2 h0]
  · have hl' : ¬ (xs.length : Int) = ys.length := by omega
    repeat' (first | (with_reducible first | refine W ?_ | refine Wz0 ?_) | ((with_reducible first | refine Wo (fun K hK => ?_) | refine Wp ?_ | refine Wq ?_ | refine Wr ?_); (try simp only [go_sem, fN, seval, eT, iR, hl', dT, dF, nL]); (repeat with_reducible refine Ai ?_); (try (refine hK _ ?_; clear hK K)); (try with_reducible refine iC ?_)))
    simp only [go_sem, fN, seval, FinQ, AS.result, resAll, resOne, tupV]
    rw [Tm.beqL_no fun e => hl (by rw [e])]
theorem same_a (a b : Tm) : ACalls Try.prog 61 [aTm a, aTm b] (aBool (a.beq b)) := by
  induction h : SizeOf.sizeOf a using Nat.strongRecOn generalizing a b with
  | _ N ih =>
  subst h
  have hE := equalFunc_a a.args b.args fun x hx y => ih _ (Tm.lt_of_arg hx) x y rfl
  have he : a.beq b = (decide (a.name = b.name) && Tm.beqL a.args b.args) := by cases a; cases b; rfl
  refine ok_term_Same.ac fun C hC => ?_
  unfold ir_term_Same
  by_cases hn : a.name = b.name
  · repeat' (first | (with_reducible first | refine W ?_ | refine Wz0 ?_) | refine Cg _ (hE) ?_ | ((with_reducible first | refine Wo (fun K hK => ?_) | refine Wp ?_ | refine Wq ?_ | refine Wr ?_); (try simp only [go_sem, fN, seval, eT, iR, hn, dT, dF, nL]); (repeat with_reducible refine Ai ?_); (try (refine hK _ ?_; clear hK K)); (try with_reducible refine iC ?_)))
    simp only [go_sem, fN, seval, FinQ, AS.result, resAll, resOne, tupV]
    rw [he, decide_eq_true hn]
    rfl
  · repeat' (first | (with_reducible first | refine W ?_ | refine Wz0 ?_) | ((with_reducible first | refine Wo (fun K hK => ?_) | refine Wp ?_ | refine Wq ?_ | refine Wr ?_); (try simp only [go_sem, fN, seval, eT, iR, hn, dT, dF, nL]); (repeat with_reducible refine Ai ?_); (try (refine hK _ ?_; clear hK K)); (try with_reducible refine iC ?_)))
    simp only [go_sem, fN, seval, FinQ, AS.result, resAll, resOne, tupV]
    rw [he, decide_eq_false hn]
    rfl

def ir_slices_ContainsFunc_string_string : IR :=
  (.seq (.ops [.i 4 (.mov (.c (.one (.st (.bool false)))))]) (.seq (.ops [.m 5 0, .m 6 1, .i 7 (.callS 41 [.t 5, .t 6]), .i 8 (.bin .geq (.t 7) (.n 0)), .m 4 8]) .ret))
theorem ok_slices_ContainsFunc_string_string : OkF Try.prog 28 9 [7] ir_slices_ContainsFunc_string_string [.t 4] := .of Try.func28 rfl rfl (by kernel_rfl) rfl
def ir_slices_IndexFunc_string_string : IR :=
  (.seq (.ops [.i 4 (.mov (.n 0))]) (.seq (.seq (.ops [.m 6 0, .i 7 (.len false (.t 6)), .i 8 (.mov (.n 0))]) (.block 0 (.loop (.seq (.ops [.i 9 (.bin .lss (.t 8) (.t 7))]) (.seq (.cond (.t 9) .skip (.exit 0)) (.seq (.block 1 (.seq (.ops [.m 10 8, .m 5 10]) (.seq (.ops [.m 11 1, .m 12 0, .m 13 5, .i 14 (.indexAddr 1 (.t 12) (.t 13)), .l 15 14, .i 16 (.callV (.t 11) [.t 15])]) (.cond (.t 16) (.seq (.ops [.m 17 5, .m 4 17]) .ret) .skip)))) (.ops [.i 18 (.bin .add (.t 8) (.n 1)), .m 8 18]))))))) (.seq (.ops [.i 4 (.mov (.c (.one (.st (.int .i64 (-1))))))]) .ret)))
theorem ok_slices_IndexFunc_string_string : OkF Try.prog 41 19 [] ir_slices_IndexFunc_string_string [.t 4] := .of Try.func41 rfl rfl (by kernel_rfl) rfl
def ir_rewrite_Check_1 : IR :=
  (.seq (.ops [.i 3 (.mov (.c (.one (.st (.bool false)))))]) (.seq (.ops [.l 4 1, .m 5 0, .i 6 (.call 30 [.t 4, .t 5]), .i 7 (.un .not (.t 6)), .m 3 7]) .ret))
theorem ok_rewrite_Check_1 : OkF Try.prog 29 8 [] ir_rewrite_Check_1 [.t 3] := .of Try.func29 rfl rfl (by kernel_rfl) rfl
def ir_rewrite_Check : IR :=
  (.seq (.ops [.i 2 (.mov (.n 0))]) (.seq (.seq (.ops [.m 7 0, .i 8 (.len false (.t 7)), .i 9 (.bin .gtr (.t 8) (.n 40))]) (.cond (.t 9) (.seq (.ops [.i 2 (.mov (.n 3))]) .ret) .skip)) (.seq (.seq (.ops [.m 10 0, .i 11 (.len false (.t 10)), .i 12 (.mov (.n 0))]) (.block 0 (.loop (.seq (.ops [.i 13 (.bin .lss (.t 12) (.t 11))]) (.seq (.cond (.t 13) .skip (.exit 0)) (.seq (.block 1 (.seq (.ops [.i 14 (.indexAddr 4 (.t 10) (.t 12)), .L 15 4 14, .i 4 (.alloc 36 [.st (.str (ByteArray.mk (#[]))), .full [], .st (.str (ByteArray.mk (#[]))), .full []]), .s 4 4 15]) (.seq (.seq (.ops [.f 16 0 4, .L 17 2 16, .f 18 2 4, .L 19 2 18, .i 20 (.call 25 [.t 17, .t 19]), .m 5 20]) (.seq (.ops [.m 21 5, .i 22 (.bin .neq (.t 21) (.n 0))]) (.cond (.t 22) (.seq (.ops [.m 23 5, .m 2 23]) .ret) .skip))) (.seq (.seq (.ops [.f 24 0 4, .f 25 0 24, .l 26 25, .i 27 (.call 26 [.t 26])]) (.cond (.t 27) (.seq (.ops [.i 2 (.mov (.n 2))]) .ret) .skip)) (.seq (.ops [.f 28 0 4, .L 29 2 28, .i 30 (.call 27 [.t 29]), .i 6 (.alloc 40 [.full []]), .s 1 6 30]) (.seq (.ops [.f 31 2 4, .L 32 2 31, .i 33 (.call 27 [.t 32]), .i 34 (.makeFunc 29 [.t 6]), .i 35 (.callS 28 [.t 33, .t 34])]) (.cond (.t 35) (.seq (.ops [.i 2 (.mov (.n 15))]) .ret) .skip))))))) (.ops [.i 36 (.bin .add (.t 12) (.n 1)), .m 12 36]))))))) (.seq (.ops [.i 2 (.mov (.n 0))]) .ret))))
theorem ok_rewrite_Check : OkF Try.prog 10 37 [35] ir_rewrite_Check [.t 2] := .of Try.func10 rfl rfl (by kernel_rfl) rfl
def ir_rewrite_Args : IR :=
  (.seq (.ops [.i 3 (.box 25 (.t 1)), .i 4 (.mov (.n 0))]) (.seq (.seq (.ops [.m 6 0, .i 7 (.call 10 [.t 6]), .m 5 7]) (.seq (.ops [.m 8 5, .i 9 (.bin .neq (.t 8) (.n 0))]) (.cond (.t 9) (.seq (.ops [.m 10 5, .m 4 10]) .ret) .skip))) (.seq (.ops [.L 11 2 3, .i 12 (.call 34 [.t 11]), .m 4 12]) .ret)))
theorem ok_rewrite_Args : OkF Try.prog 23 13 [] ir_rewrite_Args [.t 4] := .of Try.func23 rfl rfl (by kernel_rfl) rfl
def ir_rewrite_Root : IR :=
  (.seq (.ops [.i 4 (.box 25 (.t 1)), .i 6 (.alloc 25 [.st (.str (ByteArray.mk (#[]))), .full []]), .i 7 (.mov (.n 0)), .i 8 (.mov (.n 0))]) (.seq (.seq (.ops [.m 14 2, .m 9 14]) (.block 0 (.loop (.seq (.seq (.ops [.m 15 9, .m 16 0, .i 17 (.len false (.t 16)), .i 18 (.bin .lss (.t 15) (.t 17))]) (.cond (.t 18) .skip (.exit 0))) (.seq (.block 1 (.seq (.ops [.m 22 0, .m 23 9, .i 24 (.indexAddr 4 (.t 22) (.t 23)), .f 25 0 24, .L 26 2 25, .L 27 2 4, .i 28 (.call 51 [.t 26, .t 27]), .m 21 28, .i 29 (.extract 0 (.t 21)), .i 30 (.extract 1 (.t 21)), .m 10 29, .m 11 30]) (.seq (.ops [.m 31 11]) (.cond (.t 31) (.seq (.ops [.m 33 10, .m 34 0, .m 35 9, .i 36 (.indexAddr 4 (.t 34) (.t 35)), .f 37 2 36, .L 38 2 37, .i 39 (.call 52 [.t 33, .t 38]), .m 32 39, .i 40 (.extract 0 (.t 32)), .i 41 (.extract 1 (.t 32)), .i 12 (.alloc 25 [.st (.str (ByteArray.mk (#[]))), .full []]), .s 2 12 40, .m 13 41]) (.seq (.seq (.ops [.m 42 13, .i 43 (.un .not (.t 42))]) (.cond (.t 43) (.seq (.ops [.i 44 (.build [.st (.str (ByteArray.mk (#[]))), .full []] []), .m 45 9, .s 2 6 44, .m 7 45, .i 8 (.mov (.n 8))]) .ret) .skip)) (.seq (.ops [.L 46 2 12, .m 47 9, .s 2 6 46, .m 7 47, .i 8 (.mov (.n 0))]) .ret))) .skip)))) (.ops [.m 19 9, .i 20 (.bin .add (.t 19) (.n 1)), .m 9 20])))))) (.seq (.ops [.i 48 (.build [.st (.str (ByteArray.mk (#[]))), .full []] []), .s 2 6 48, .i 7 (.mov (.c (.one (.st (.int .i64 (-1)))))), .i 8 (.mov (.n 0))]) .ret)))
theorem ok_rewrite_Root : OkF Try.prog 37 49 [] ir_rewrite_Root [.cell 6 true 2, .t 7, .t 8] := .of Try.func37 rfl rfl (by kernel_rfl) rfl
def ir_R_RulesMay : IR :=
  (.seq (.ops [.i 2 (.mov (.n 0))]) (.seq (.seq (.ops [.m 8 0, .i 9 (.len false (.t 8)), .i 10 (.bin .gtr (.t 9) (.n 40))]) (.cond (.t 10) (.seq (.ops [.i 2 (.mov (.n 3))]) .ret) .skip)) (.seq (.seq (.ops [.i 3 (.mov (.n 0))]) (.block 0 (.loop (.seq (.seq (.ops [.m 11 3, .m 12 0, .i 13 (.len false (.t 12)), .i 14 (.bin .lss (.t 11) (.t 13))]) (.cond (.t 14) .skip (.exit 0))) (.seq (.block 1 (.seq (.ops [.m 17 0, .m 18 3, .i 19 (.indexAddr 4 (.t 17) (.t 18)), .f 20 0 19, .L 21 2 20, .m 22 0, .m 23 3, .i 24 (.indexAddr 4 (.t 22) (.t 23)), .f 25 2 24, .L 26 2 25, .i 27 (.call 13 [.t 21, .t 26]), .m 4 27]) (.seq (.seq (.ops [.m 28 4, .i 29 (.bin .neq (.t 28) (.n 0))]) (.cond (.t 29) (.seq (.ops [.m 30 4, .m 2 30]) .ret) .skip)) (.seq (.seq (.ops [.m 31 0, .m 32 3, .i 33 (.indexAddr 4 (.t 31) (.t 32)), .f 34 0 33, .f 35 0 34, .l 36 35, .i 37 (.call 14 [.t 36])]) (.cond (.t 37) (.seq (.ops [.i 2 (.mov (.n 2))]) .ret) .skip)) (.seq (.ops [.m 38 0, .m 39 3, .i 40 (.indexAddr 4 (.t 38) (.t 39)), .f 41 0 40, .L 42 2 41, .i 43 (.call 15 [.t 42]), .m 5 43]) (.seq (.ops [.m 44 0, .m 45 3, .i 46 (.indexAddr 4 (.t 44) (.t 45)), .f 47 2 46, .L 48 2 47, .i 49 (.call 15 [.t 48]), .m 6 49]) (.seq (.ops [.i 7 (.mov (.n 0))]) (.block 2 (.loop (.seq (.seq (.ops [.m 50 7, .m 51 6, .i 52 (.len false (.t 51)), .i 53 (.bin .lss (.t 50) (.t 52))]) (.cond (.t 53) .skip (.exit 2))) (.seq (.block 3 (.seq (.ops [.m 56 6, .m 57 7, .i 58 (.indexAddr 1 (.t 56) (.t 57)), .l 59 58, .m 60 5, .i 61 (.call 16 [.t 59, .t 60]), .i 62 (.un .not (.t 61))]) (.cond (.t 62) (.seq (.ops [.i 2 (.mov (.n 15))]) .ret) .skip))) (.ops [.m 54 7, .i 55 (.bin .add (.t 54) (.n 1)), .m 7 55])))))))))))) (.ops [.m 15 3, .i 16 (.bin .add (.t 15) (.n 1)), .m 3 16])))))) (.seq (.ops [.i 2 (.mov (.n 0))]) .ret))))
theorem ok_R_RulesMay : OkF Try.prog 6 63 [] ir_R_RulesMay [.t 2] := .of Try.func6 rfl rfl (by kernel_rfl) rfl
def ir_R_fits : IR :=
  (.seq (.ops [.i 2 (.box 36 (.t 0)), .i 3 (.box 25 (.t 1)), .i 4 (.alloc 25 [.st (.str (ByteArray.mk (#[]))), .full []]), .i 5 (.mov (.c (.one (.st (.bool false))))), .i 6 (.mov (.c (.one (.st (.bool false)))))]) (.seq (.ops [.f 12 0 2, .L 13 2 12, .L 14 2 3, .i 15 (.call 32 [.t 13, .t 14]), .m 11 15, .i 16 (.extract 0 (.t 11)), .i 17 (.extract 1 (.t 11)), .m 7 16, .m 8 17]) (.seq (.seq (.ops [.m 18 8, .i 19 (.un .not (.t 18))]) (.cond (.t 19) (.seq (.ops [.i 20 (.build [.st (.str (ByteArray.mk (#[]))), .full []] []), .s 2 4 20, .i 5 (.mov (.c (.one (.st (.bool false))))), .i 6 (.mov (.c (.one (.st (.bool false)))))]) .ret) .skip)) (.seq (.ops [.m 22 7, .f 23 2 2, .L 24 2 23, .i 25 (.call 33 [.t 22, .t 24]), .m 21 25, .i 26 (.extract 0 (.t 21)), .i 27 (.extract 1 (.t 21)), .i 9 (.alloc 25 [.st (.str (ByteArray.mk (#[]))), .full []]), .s 2 9 26, .m 10 27]) (.seq (.ops [.L 28 2 9, .m 29 10, .i 30 (.un .not (.t 29)), .s 2 4 28, .i 5 (.mov (.c (.one (.st (.bool true))))), .m 6 30]) .ret)))))
theorem ok_R_fits : OkF Try.prog 21 31 [] ir_R_fits [.cell 4 true 2, .t 5, .t 6] := .of Try.func21 rfl rfl (by kernel_rfl) rfl

def ir_match_Both : IR :=
  (.seq (.ops [.i 2 (.box 25 (.t 0)), .i 3 (.box 25 (.t 1)), .i 4 (.mov (.n 0))]) (.seq (.seq (.ops [.L 6 2 2, .i 7 (.call 34 [.t 6]), .m 5 7]) (.seq (.ops [.m 8 5, .i 9 (.bin .neq (.t 8) (.n 0))]) (.cond (.t 9) (.seq (.ops [.m 10 5, .m 4 10]) .ret) .skip))) (.seq (.ops [.L 11 2 3, .i 12 (.call 34 [.t 11]), .m 4 12]) .ret)))
theorem ok_match_Both : OkF Try.prog 25 13 [] ir_match_Both [.t 4] := .of Try.func25 rfl rfl (by kernel_rfl) rfl

theorem both_a (a b : Tm) : ACalls Try.prog 25 [aTm a, aTm b] (aInt (twoMay a b)) := by
  refine ok_match_Both.ac fun C hC => ?_
  unfold ir_match_Both
  repeat' (first | (with_reducible first | refine W ?_ | refine Wz0 ?_) | ((with_reducible first | refine Wo (fun K hK => ?_) | refine Wp ?_ | refine Wq ?_ | refine Wr ?_); (try simp only [go_sem, fN, seval, eT, iR, dT, dF, nL]); (repeat with_reducible refine Ai ?_); (try (refine hK _ ?_; clear hK K)); (try with_reducible refine iC ?_)))
  refine ⟨_, checkT_a a, ?_⟩
  by_cases h : a.may = 0
  · repeat' (first | (with_reducible first | refine W ?_ | refine Wz0 ?_) | refine Cg _ (checkT_a b) ?_ | ((with_reducible first | refine Wo (fun K hK => ?_) | refine Wp ?_ | refine Wq ?_ | refine Wr ?_); (try simp only [go_sem, fN, seval, eT, iR, h, dT, dF, nL]); (repeat with_reducible refine Ai ?_); (try (refine hK _ ?_; clear hK K)); (try with_reducible refine iC ?_)))
    simp only [go_sem, fN, seval, FinQ, AS.result, resAll, resOne, tupV]
    unfold twoMay
    rw [if_pos h]
  · repeat' (first | (with_reducible first | refine W ?_ | refine Wz0 ?_) | ((with_reducible first | refine Wo (fun K hK => ?_) | refine Wp ?_ | refine Wq ?_ | refine Wr ?_); (try simp only [go_sem, fN, seval, eT, iR, h, dT, dF, nL]); (repeat with_reducible refine Ai ?_); (try (refine hK _ ?_; clear hK K)); (try with_reducible refine iC ?_)))
    simp only [go_sem, fN, seval, FinQ, AS.result, resAll, resOne, tupV]
    unfold twoMay
    rw [if_neg h]

theorem purgeS {ds : List Nat} (hds : ∀ d ∈ ds, d < 1000) {x : Option ABlk} (hb : ∀ b, x = some b → b.high = true) : x.map (ABlk.purge ds) = x := by
  cases h : x with
  | none => rfl
  | some b => rw [Option.map_some, ABlk.purge_high hds (hb b h)]
theorem lowS_is {S S1 : AStore} {a0 : Nat} {b : ABlk} (hS : Clean S) (ha : 1000 ≤ a0) (h1 : S1 a0 = some b) (h2 : ∀ i, 1000 ≤ i → i ≠ a0 → S1 i = S i) : lowS S1 = updE S a0 (some b) := by
  funext i
  show (if i < 1000 then none else S1 i) = _
  by_cases e : i = a0
  · subst e
    rw [if_neg (by omega), updE_same, h1]
  · rw [updE_ne _ e]
    by_cases hi : i < 1000
    · rw [if_pos hi, clean_none hS hi]
    · rw [if_neg hi, h2 i (by omega) e]
theorem highs_is {S S1 : AStore} {a0 : Nat} {b : ABlk} (hS : Clean S) (hb : b.high = true) (h1 : S1 a0 = some b) (h2 : ∀ i, 1000 ≤ i → i ≠ a0 → S1 i = S i) : ∀ i c, 1000 ≤ i → S1 i = some c → c.high = true := fun i c hi hc => by
  by_cases e : i = a0
  · subst e
    rw [h1] at hc
    cases hc
    exact hb
  · rw [h2 i hi e] at hc
    exact (hS i c hc).2
theorem finS_one {C : Ctx} {rs : List RV} {r : AV} {e : AX} {s : AS} {S : AStore} {a0 : Nat} {b : ABlk} (r0 : AV) (hS : Clean S) (ha : 1000 ≤ a0) (hb : b.high = true) (he : match e with | .normal => True | .ret => True | _ => False)
    (h1 : (resAll s rs).map tupV = some r0) (h2 : outV s.S r0 = some r) (h3 : s.S a0 = some b) (h4 : ∀ i, 1000 ≤ i → i ≠ a0 → s.S i = S i) : FinS C rs r (updE S a0 (some b)) e s :=
  finS_low he r0 h1 h2 (highs_is hS hb h3 h4) (lowS_is hS ha h3 h4) (clean_upd hS ha hb)
theorem oneTo_same (i a0 : Nat) : oneTo i a0 i = a0 := by simp [oneTo]

set_option maxHeartbeats 1000000
abbrev boxS (vs : List ByteArray) : ABlk := .box 40 [.st (.list (vs.map encS))]
theorem check1_S (vs : List ByteArray) (x : ByteArray) (b : Nat) (hb : 1000 ≤ b) (S : AStore) (sb : S b = some (boxS vs)) : ACallsS Try.prog 29 [aStr x, .one (.ptr b 1 0 0)] S (aBool (!isIn x vs)) S := by
  refine ok_rewrite_Check_1.acS fun hS C hC => ?_
  unfold ir_rewrite_Check_1
  repeat' (first | (with_reducible first | refine W ?_ | refine Wz0 ?_) | refine Cg _ (contains_a vs x) ?_ | ((with_reducible first | refine Wo (fun K hK => ?_) | refine Wp ?_ | refine Wq ?_ | refine Wr ?_); (try simp only [go_sem, fN, seval, eT, iR, sb, dT, dF, nL]); (repeat with_reducible refine Ai ?_); (try (refine hK _ ?_; clear hK K)); (try with_reducible refine iC ?_)))
  refine finS_same (aBool (!isIn x vs)) hS trivial ?_ rfl fun _ _ => rfl
  simp [resAll, resOne, tupV, updE]
theorem idxS_iff {p : ByteArray → Bool} (xs : List ByteArray) : 0 ≤ (match xs.findIdx? p with | some i => (i : Int) | none => -1) ↔ xs.any p = true := by
  cases h : xs.findIdx? p with
  | some i =>
    rw [List.findIdx?_eq_some_iff_getElem] at h
    obtain ⟨h1, h2, _⟩ := h
    simp only [List.any_eq_true]
    exact ⟨fun _ => ⟨_, List.getElem_mem h1, h2⟩, fun _ => by omega⟩
  | none =>
    rw [List.findIdx?_eq_none_iff] at h
    constructor
    · intro h'
      exact absurd h' (by decide)
    · intro h'
      rw [List.any_eq_true] at h'
      obtain ⟨x, hx, hp⟩ := h'
      rw [h x hx] at hp
      cases hp
theorem findIdxS_at {p : ByteArray → Bool} {xs : List ByteArray} {k : Nat} {x : ByteArray} (hx : xs[k]? = some x) (h : (xs.take k).any p = false) (hp : p x = true) : xs.findIdx? p = some k := by
  obtain ⟨hk, he⟩ := List.getElem?_eq_some_iff.1 hx
  rw [List.findIdx?_eq_some_iff_getElem]
  refine ⟨hk, by rw [he]; exact hp, fun j hj => ?_⟩
  rw [List.any_eq_false] at h
  have := h (xs[j]'(by omega)) (by
    rw [List.mem_take_iff_getElem]
    exact ⟨j, by omega, rfl⟩)
  simpa using this
theorem any_takeS {p : ByteArray → Bool} {xs : List ByteArray} {k : Nat} {x : ByteArray} (hx : xs[k]? = some x) (h : (xs.take k).any p = false) : (xs.take (k + 1)).any p = p x := by
  rw [take_snoc hx, List.any_append, h]
  simp
theorem indexFuncS_S (vs xs : List ByteArray) (hl : xs.length ≤ 9223372036854775807) (b : Nat) (hb : 1000 ≤ b) (S : AStore) (sb : S b = some (boxS vs)) :
    ACallsS Try.prog 41 [aStrs xs, .one (.fn 29 [.ptr b 1 0 0])] S (aInt (match xs.findIdx? (fun x => !isIn x vs) with | some i => (i : Int) | none => -1)) S := by
  refine ok_slices_IndexFunc_string_string.acS fun hS C hC => ?_
  unfold ir_slices_IndexFunc_string_string
  repeat' (first | (with_reducible first | refine W ?_ | refine Wz0 ?_) | ((with_reducible first | refine Wo (fun K hK => ?_) | refine Wp ?_ | refine Wq ?_ | refine Wr ?_); (try simp only [go_sem, fN, seval, eT, iR, dT, dF, nL]); (repeat with_reducible refine Ai ?_); (try (refine hK _ ?_; clear hK K)); (try with_reducible refine iC ?_)))
  refine IWP.loop (fun n s => ∃ k, k ≤ xs.length ∧ n = xs.length - k ∧ (xs.take k).any (fun x => !isIn x vs) = false ∧ s.env 0 = aStrs xs ∧ s.env 1 = .one (.fn 29 [.ptr b 1 0 0]) ∧ s.env 7 = aInt xs.length ∧ s.env 8 = aInt k ∧ s.S = S) xs.length ⟨0, Nat.zero_le _, rfl, rfl, rfl, rfl, rfl, rfl, rfl⟩ ?_
  rintro n ⟨env, S'⟩ ⟨k, hk, rfl, hp, e0, e1, e7, e8, eS⟩
  simp only at e0 e1 e7 e8 eS
  subst eS
  by_cases hlt : (k : Int) < xs.length
  · obtain ⟨x, hx⟩ := get_lt (show k < xs.length by omega)
    have hst := any_takeS (p := fun x => !isIn x vs) hx hp
    have hc := check1_S vs x (up1 b) (up1_le b) (upS S') (by rw [upS_up, sb]; rfl)
    repeat' (first | (with_reducible first | refine W ?_ | refine Wz0 ?_) | ((with_reducible first | refine Wo (fun K hK => ?_) | refine Wp ?_ | refine Wq ?_ | refine Wr ?_); (try simp only [go_sem, fN, seval, eT, iR, e0, e1, e7, e8, hlt, hx, dT, dF, nL]); (repeat with_reducible refine Ai ?_); (try (refine hK _ ?_; clear hK K)); (try with_reducible refine iC ?_)))
    first | refine ⟨by kernel_rfl, _, _, hc, ?_⟩ | refine ⟨_, _, hc, ?_⟩
    by_cases hr : (!isIn x vs) = true
    · have hi := findIdxS_at (p := fun x => !isIn x vs) hx hp hr
      repeat' (first | (with_reducible first | refine W ?_ | refine Wz0 ?_) | ((with_reducible first | refine Wo (fun K hK => ?_) | refine Wp ?_ | refine Wq ?_ | refine Wr ?_); (try simp only [go_sem, fN, seval, eT, iR, e0, e1, e7, e8, hr, dT, dF, nL]); (repeat with_reducible refine Ai ?_); (try (refine hK _ ?_; clear hK K)); (try with_reducible refine iC ?_)))
      refine finS_same (aInt k) hS trivial ?_ ?_ fun j hj => ?_
      · simp [resAll, resOne, tupV, updE]
      · rw [hi]
        rfl
      · rfl
    · have hr' : (!isIn x vs) = false := by simpa using hr
      repeat' (first | (with_reducible first | refine W ?_ | refine Wz0 ?_) | ((with_reducible first | refine Wo (fun K hK => ?_) | refine Wp ?_ | refine Wq ?_ | refine Wr ?_); (try simp only [go_sem, fN, seval, eT, iR, e0, e1, e7, e8, hr', dT, dF, nL]); (repeat with_reducible refine Ai ?_); (try (refine hK _ ?_; clear hK K)); (try with_reducible refine iC ?_)))
      refine then_normal ⟨xs.length - (k + 1), by omega, k + 1, by omega, rfl, ?_⟩
      simp only [go_sem, fN, seval, eT, iR, e0, e1, e7, e8]
      exact ⟨by rw [hst]; exact hr', by congr 3⟩
  · rw [List.take_of_length_le (by omega)] at hp
    have hi : xs.findIdx? (fun x => !isIn x vs) = none := by
      rw [List.findIdx?_eq_none_iff]
      intro x hx
      rw [List.any_eq_false] at hp
      simpa using hp x hx
    repeat' (first | (with_reducible first | refine W ?_ | refine Wz0 ?_) | ((with_reducible first | refine Wo (fun K hK => ?_) | refine Wp ?_ | refine Wq ?_ | refine Wr ?_); (try simp only [go_sem, fN, seval, eT, iR, e0, e1, e7, e8, hlt, dT, dF, nL]); (repeat with_reducible refine Ai ?_); (try (refine hK _ ?_; clear hK K)); (try with_reducible refine iC ?_)))
    refine finS_same (aInt (-1)) hS trivial ?_ ?_ fun j hj => ?_
    · simp [resAll, resOne, tupV, updE]
    · rw [hi]
      rfl
    · rfl
theorem containsFuncS_S (vs xs : List ByteArray) (hl : xs.length ≤ 9223372036854775807) (b : Nat) (hb : 1000 ≤ b) (S : AStore) (sb : S b = some (boxS vs)) :
    ACallsS Try.prog 28 [aStrs xs, .one (.fn 29 [.ptr b 1 0 0])] S (aBool (xs.any fun x => !isIn x vs)) S := by
  have hi := idxS_iff (p := fun x => !isIn x vs) xs
  generalize (xs.any fun x => !isIn x vs) = bb at hi ⊢
  refine ok_slices_ContainsFunc_string_string.acS fun hS C hC => ?_
  unfold ir_slices_ContainsFunc_string_string
  repeat' (first | (with_reducible first | refine W ?_ | refine Wz0 ?_) | ((with_reducible first | refine Wo (fun K hK => ?_) | refine Wp ?_ | refine Wq ?_ | refine Wr ?_); (try simp only [go_sem, fN, seval, eT, iR, dT, dF, nL]); (repeat with_reducible refine Ai ?_); (try (refine hK _ ?_; clear hK K)); (try with_reducible refine iC ?_)))
  refine ⟨_, _, indexFuncS_S vs xs hl (up1 b) (up1_le b) (upS S) (by rw [upS_up, sb]; rfl), ?_⟩
  generalize (match xs.findIdx? (fun x => !isIn x vs) with | some i => (i : Int) | none => -1) = q at hi
  repeat' (first | (with_reducible first | refine W ?_ | refine Wz0 ?_) | ((with_reducible first | refine Wo (fun K hK => ?_) | refine Wp ?_ | refine Wq ?_ | refine Wr ?_); (try simp only [go_sem, fN, seval, eT, iR, hi, dT, dF, nL]); (repeat with_reducible refine Ai ?_); (try (refine hK _ ?_; clear hK K)); (try with_reducible refine iC ?_)))
  refine finS_same (aBool bb) hS trivial ?_ ?_ fun j hj => ?_
  · simp [resAll, resOne, tupV, updE]
  · rfl
  · rfl
theorem varsOf_len (t : Tm) (h : t.size ≤ 200) : t.varsOf.length ≤ 1000 := by
  have h1 := addVars_length t.knots []
  rw [Tm.knots_length] at h1
  unfold Tm.varsOf
  simp only [List.length_nil] at h1
  omega
theorem rewCheck_a (R : List Pr) : ACalls Try.prog 10 [aPrs R] (aInt (rulesMay R)) := by
  have hm : rulesMay R = if 40 < R.length then 3 else errL ruleErr R := rfl
  refine ok_rewrite_Check.ac fun C hC => ?_
  unfold ir_rewrite_Check
  by_cases h40 : (40 : Int) < R.length
  · repeat' (first | (with_reducible first | refine W ?_ | refine Wz0 ?_) | ((with_reducible first | refine Wo (fun K hK => ?_) | refine Wp ?_ | refine Wq ?_ | refine Wr ?_); (try simp only [go_sem, fN, seval, eT, iR, h40, dT, dF, nL]); (repeat with_reducible refine Ai ?_); (try (refine hK _ ?_; clear hK K)); (try with_reducible refine iC ?_)))
    simp only [go_sem, fN, seval, FinQ, AS.result, resAll, resOne, tupV]
    rw [hm, if_pos (by omega)]
  rw [if_neg (by omega)] at hm
  repeat' (first | (with_reducible first | refine W ?_ | refine Wz0 ?_) | ((with_reducible first | refine Wo (fun K hK => ?_) | refine Wp ?_ | refine Wq ?_ | refine Wr ?_); (try simp only [go_sem, fN, seval, eT, iR, h40, dT, dF, nL]); (repeat with_reducible refine Ai ?_); (try (refine hK _ ?_; clear hK K)); (try with_reducible refine iC ?_)))
  refine IWP.loopD [4, 6] (fun m s => ∃ k, k ≤ R.length ∧ m = R.length - k ∧ errL ruleErr (R.take k) = 0 ∧ s.env 10 = aPrs R ∧ s.env 11 = aInt R.length ∧ s.env 12 = aInt k ∧ s.S 4 = none ∧ s.S 6 = none) R.length ⟨0, Nat.zero_le _, rfl, rfl, rfl, rfl, rfl, rfl, rfl⟩ ?_
  rintro m ⟨env, S⟩ ⟨k, hk, rfl, h0, e10, e11, e12, s4, s6⟩
  simp only at e10 e11 e12 s4 s6
  by_cases hlt : (k : Int) < R.length
  · obtain ⟨r, hr⟩ := get_lt (show k < R.length by omega)
    obtain ⟨g1, g2⟩ := errL_get hr h0
    have re : ruleErr r = if twoMay r.1 r.2 = 0 then (if isVar r.1.name = true then 2 else if openR r = true then 15 else 0) else twoMay r.1 r.2 := rfl
    by_cases hz : twoMay r.1 r.2 = 0
    case neg =>
      repeat' (first | (with_reducible first | refine W ?_ | refine Wz0 ?_) | refine Cg _ (both_a r.1 r.2) ?_ | ((with_reducible first | refine Wo (fun K hK => ?_) | refine Wp ?_ | refine Wq ?_ | refine Wr ?_); (try simp only [go_sem, fN, seval, eT, iR, e10, e11, e12, s4, s6, hlt, hr, encP, hz, dT, dF, nL]); (repeat with_reducible refine Ai ?_); (try (refine hK _ ?_; clear hK K)); (try with_reducible refine iC ?_)))
      simp only [go_sem, fN, seval, FinQ, AS.result, resAll, resOne, tupV]
      rw [if_neg hz] at re
      rw [hm, g2 (by rw [re]; exact hz), re]
    case pos =>
    rw [if_pos hz] at re
    by_cases hv : isVar r.1.name = true
    · repeat' (first | (with_reducible first | refine W ?_ | refine Wz0 ?_) | refine Cg _ (both_a r.1 r.2) ?_ | refine Cg _ (variable_a r.1.name) ?_ | ((with_reducible first | refine Wo (fun K hK => ?_) | refine Wp ?_ | refine Wq ?_ | refine Wr ?_); (try simp only [go_sem, fN, seval, eT, iR, e10, e11, e12, s4, s6, hlt, hr, encP, hz, hv, dT, dF, nL]); (repeat with_reducible refine Ai ?_); (try (refine hK _ ?_; clear hK K)); (try with_reducible refine iC ?_)))
      simp only [go_sem, fN, seval, FinQ, AS.result, resAll, resOne, tupV]
      rw [if_pos hv] at re
      rw [hm, g2 (by rw [re]; decide), re]
    rw [if_neg hv] at re
    have m12 : r.1.may = 0 ∧ r.2.may = 0 := by
      unfold twoMay at hz
      by_cases h4 : r.1.may = 0
      · rw [if_pos h4] at hz; exact ⟨h4, hz⟩
      · rw [if_neg h4] at hz; exact absurd hz h4
    have z1 := (Tm.may_chk m12.1).2
    have z2 := (Tm.may_chk m12.2).2
    have l2 := varsOf_len r.2 z2
    repeat' (first | (with_reducible first | refine W ?_ | refine Wz0 ?_) | refine Cg _ (both_a r.1 r.2) ?_ | refine Cg _ (variable_a r.1.name) ?_ | refine Cg _ (vars_a r.1 (by omega)) ?_ | refine Cg _ (vars_a r.2 (by omega)) ?_ | ((with_reducible first | refine Wo (fun K hK => ?_) | refine Wp ?_ | refine Wq ?_ | refine Wr ?_); (try simp only [go_sem, fN, seval, eT, iR, e10, e11, e12, s4, s6, hlt, hr, encP, hz, hv, dT, dF, nL]); (repeat with_reducible refine Ai ?_); (try (refine hK _ ?_; clear hK K)); (try with_reducible refine iC ?_)))
    refine ⟨_, _, containsFuncS_S r.1.varsOf r.2.varsOf (by omega) (up1 6) (up1_le 6) _ (by rw [upS_up]; simp [updE]; rfl), ?_⟩
    have ho : openR r = r.2.varsOf.any fun v => !isIn v r.1.varsOf := rfl
    rw [← ho]
    by_cases hop : openR r = true
    · repeat' (first | (with_reducible first | refine W ?_ | refine Wz0 ?_) | ((with_reducible first | refine Wo (fun K hK => ?_) | refine Wp ?_ | refine Wq ?_ | refine Wr ?_); (try simp only [go_sem, fN, seval, eT, iR, hop, dT, dF, nL]); (repeat with_reducible refine Ai ?_); (try (refine hK _ ?_; clear hK K)); (try with_reducible refine iC ?_)))
      simp only [go_sem, fN, seval, FinQ, AS.result, resAll, resOne, tupV]
      rw [if_pos hop] at re
      rw [hm, g2 (by rw [re]; decide), re]
    · rw [if_neg hop] at re
      simp only [Bool.not_eq_true] at hop
      repeat' (first | (with_reducible first | refine W ?_ | refine Wz0 ?_) | ((with_reducible first | refine Wo (fun K hK => ?_) | refine Wp ?_ | refine Wq ?_ | refine Wr ?_); (try simp only [go_sem, fN, seval, eT, iR, hop, e10, e11, e12, dT, dF, nL]); (repeat with_reducible refine Ai ?_); (try (refine hK _ ?_; clear hK K)); (try with_reducible refine iC ?_)))
      refine then_normal ⟨R.length - (k + 1), by omega, k + 1, by omega, rfl, g1 re, ?_⟩
      simp only [go_sem, fN, seval, AS.drop, dropS, AC.clears, AC.clear, AC.highs, AC.high, Bool.not_false, Bool.true_and, Bool.and_self, AV.purge, AV.purges, AC.purge, ABlk.purge, List.contains_cons, List.contains_nil, Nat.reduceBEq, Bool.or_self, Bool.or_false, Bool.false_or, Bool.or_true, eT, iR, e10, e11, e12, s4, s6]
      congr 3
  · repeat' (first | (with_reducible first | refine W ?_ | refine Wz0 ?_) | ((with_reducible first | refine Wo (fun K hK => ?_) | refine Wp ?_ | refine Wq ?_ | refine Wr ?_); (try simp only [go_sem, fN, seval, eT, iR, e10, e11, e12, hlt, dT, dF, nL]); (repeat with_reducible refine Ai ?_); (try (refine hK _ ?_; clear hK K)); (try with_reducible refine iC ?_)))
    simp only [go_sem, fN, seval, FinQ, AS.result, resAll, resOne, tupV]
    rw [List.take_of_length_le (by omega)] at h0
    rw [hm, h0]
theorem rewArgs_a (R : List Pr) (t : Tm) : ACalls Try.prog 23 [aPrs R, aTm t] (aInt (argsR R t)) := by
  have hm : argsR R t = if rulesMay R = 0 then t.may else rulesMay R := rfl
  refine ok_rewrite_Args.ac fun C hC => ?_
  unfold ir_rewrite_Args
  by_cases h : rulesMay R = 0
  · rw [if_pos h] at hm
    repeat' (first | (with_reducible first | refine W ?_ | refine Wz0 ?_) | refine Cg _ (rewCheck_a R) ?_ | refine Cg _ (checkT_a t) ?_ | ((with_reducible first | refine Wo (fun K hK => ?_) | refine Wp ?_ | refine Wq ?_ | refine Wr ?_); (try simp only [go_sem, fN, seval, eT, iR, h, dT, dF, nL]); (repeat with_reducible refine Ai ?_); (try (refine hK _ ?_; clear hK K)); (try with_reducible refine iC ?_)))
    simp only [go_sem, fN, seval, FinQ, AS.result, resAll, resOne, tupV]
    rw [hm]
  · rw [if_neg h] at hm
    repeat' (first | (with_reducible first | refine W ?_ | refine Wz0 ?_) | refine Cg _ (rewCheck_a R) ?_ | refine Cg _ (checkT_a t) ?_ | ((with_reducible first | refine Wo (fun K hK => ?_) | refine Wp ?_ | refine Wq ?_ | refine Wr ?_); (try simp only [go_sem, fN, seval, eT, iR, h, dT, dF, nL]); (repeat with_reducible refine Ai ?_); (try (refine hK _ ?_; clear hK K)); (try with_reducible refine iC ?_)))
    simp only [go_sem, fN, seval, FinQ, AS.result, resAll, resOne, tupV]
    rw [hm]
theorem rulesMayR_a (R : List Pr) : ACalls Try.prog 6 [aPrs R] (aInt (rulesMay R)) := by
  have hm : rulesMay R = if 40 < R.length then 3 else errL ruleErr R := rfl
  refine ok_R_RulesMay.ac fun C hC => ?_
  unfold ir_R_RulesMay
  by_cases h40 : (40 : Int) < R.length
  · repeat' (first | (with_reducible first | refine W ?_ | refine Wz0 ?_) | ((with_reducible first | refine Wo (fun K hK => ?_) | refine Wp ?_ | refine Wq ?_ | refine Wr ?_); (try simp only [go_sem, fN, seval, eT, iR, h40, dT, dF, nL]); (repeat with_reducible refine Ai ?_); (try (refine hK _ ?_; clear hK K)); (try with_reducible refine iC ?_)))
    simp only [go_sem, fN, seval, FinQ, AS.result, resAll, resOne, tupV]
    rw [hm, if_pos (by omega)]
  rw [if_neg (by omega)] at hm
  repeat' (first | (with_reducible first | refine W ?_ | refine Wz0 ?_) | ((with_reducible first | refine Wo (fun K hK => ?_) | refine Wp ?_ | refine Wq ?_ | refine Wr ?_); (try simp only [go_sem, fN, seval, eT, iR, h40, dT, dF, nL]); (repeat with_reducible refine Ai ?_); (try (refine hK _ ?_; clear hK K)); (try with_reducible refine iC ?_)))
  refine IWP.loop (fun m s => ∃ k, k ≤ R.length ∧ m = R.length - k ∧ errL ruleErr (R.take k) = 0 ∧ s.env 0 = aPrs R ∧ s.env 3 = aInt k) R.length ⟨0, Nat.zero_le _, rfl, rfl, rfl, rfl⟩ ?_
  rintro m ⟨env, S⟩ ⟨k, hk, rfl, h0, e0, e3⟩
  simp only at e0 e3
  by_cases hlt : (k : Int) < R.length
  · obtain ⟨r, hr⟩ := get_lt (show k < R.length by omega)
    obtain ⟨g1, g2⟩ := errL_get hr h0
    have re : ruleErr r = if twoMay r.1 r.2 = 0 then (if isVar r.1.name = true then 2 else if openR r = true then 15 else 0) else twoMay r.1 r.2 := rfl
    by_cases hz : twoMay r.1 r.2 = 0
    case neg =>
      repeat' (first | (with_reducible first | refine W ?_ | refine Wz0 ?_) | refine Cg _ (twoMay_a r.1 r.2) ?_ | ((with_reducible first | refine Wo (fun K hK => ?_) | refine Wp ?_ | refine Wq ?_ | refine Wr ?_); (try simp only [go_sem, fN, seval, eT, iR, e0, e3, hlt, hr, encP, hz, dT, dF, nL]); (repeat with_reducible refine Ai ?_); (try (refine hK _ ?_; clear hK K)); (try with_reducible refine iC ?_)))
      simp only [go_sem, fN, seval, FinQ, AS.result, resAll, resOne, tupV]
      rw [if_neg hz] at re
      rw [hm, g2 (by rw [re]; exact hz), re]
    case pos =>
    rw [if_pos hz] at re
    by_cases hv : isVar r.1.name = true
    · repeat' (first | (with_reducible first | refine W ?_ | refine Wz0 ?_) | refine Cg _ (twoMay_a r.1 r.2) ?_ | refine Cg _ (isVar_a r.1.name) ?_ | ((with_reducible first | refine Wo (fun K hK => ?_) | refine Wp ?_ | refine Wq ?_ | refine Wr ?_); (try simp only [go_sem, fN, seval, eT, iR, e0, e3, hlt, hr, encP, hz, hv, dT, dF, nL]); (repeat with_reducible refine Ai ?_); (try (refine hK _ ?_; clear hK K)); (try with_reducible refine iC ?_)))
      simp only [go_sem, fN, seval, FinQ, AS.result, resAll, resOne, tupV]
      rw [if_pos hv] at re
      rw [hm, g2 (by rw [re]; decide), re]
    rw [if_neg hv] at re
    have m12 : r.1.may = 0 ∧ r.2.may = 0 := by
      unfold twoMay at hz
      by_cases h4 : r.1.may = 0
      · rw [if_pos h4] at hz; exact ⟨h4, hz⟩
      · rw [if_neg h4] at hz; exact absurd hz h4
    have z1 := (Tm.may_chk m12.1).2
    have z2 := (Tm.may_chk m12.2).2
    have l2 := varsOf_len r.2 z2
    repeat' (first | (with_reducible first | refine W ?_ | refine Wz0 ?_) | refine Cg _ (twoMay_a r.1 r.2) ?_ | refine Cg _ (isVar_a r.1.name) ?_ | refine Cg _ (varsOf_a r.1 (by omega)) ?_ | refine Cg _ (varsOf_a r.2 (by omega)) ?_ | ((with_reducible first | refine Wo (fun K hK => ?_) | refine Wp ?_ | refine Wq ?_ | refine Wr ?_); (try simp only [go_sem, fN, seval, eT, iR, e0, e3, hlt, hr, encP, hz, hv, dT, dF, nL]); (repeat with_reducible refine Ai ?_); (try (refine hK _ ?_; clear hK K)); (try with_reducible refine iC ?_)))
    have ho : openR r = r.2.varsOf.any fun v => !isIn v r.1.varsOf := rfl
    refine IWP.loop (fun m s => ∃ i, i ≤ r.2.varsOf.length ∧ m = r.2.varsOf.length - i ∧ (r.2.varsOf.take i).any (fun v => !isIn v r.1.varsOf) = false ∧ s.env 0 = aPrs R ∧ s.env 3 = aInt k ∧ s.env 5 = aStrs r.1.varsOf ∧ s.env 6 = aStrs r.2.varsOf ∧ s.env 7 = aInt i) r.2.varsOf.length ⟨0, Nat.zero_le _, rfl, rfl, ?_⟩ ?_
    · simp only [go_sem, fN, seval, eT, iR, e0, e3]
    rintro m ⟨env, S⟩ ⟨i, hi, rfl, hany, e0, e3, e5, e6, e7⟩
    simp only at e0 e3 e5 e6 e7
    by_cases hli : (i : Int) < r.2.varsOf.length
    · obtain ⟨v, hvi⟩ := get_lt (show i < r.2.varsOf.length by omega)
      by_cases hin : isIn v r.1.varsOf = true
      · repeat' (first | (with_reducible first | refine W ?_ | refine Wz0 ?_) | refine Cg _ (in_a v r.1.varsOf) ?_ | ((with_reducible first | refine Wo (fun K hK => ?_) | refine Wp ?_ | refine Wq ?_ | refine Wr ?_); (try simp only [go_sem, fN, seval, eT, iR, e0, e3, e5, e6, e7, hli, hvi, hin, dT, dF, nL]); (repeat with_reducible refine Ai ?_); (try (refine hK _ ?_; clear hK K)); (try with_reducible refine iC ?_)))
        refine then_normal ⟨r.2.varsOf.length - (i + 1), by omega, i + 1, by omega, rfl, ?_, ?_⟩
        · rw [any_takeS hvi hany, hin]
          rfl
        · simp only [go_sem, fN, seval, eT, iR, e0, e3, e5, e6, e7]
          congr 3
      · have hop : openR r = true := by
          rw [ho, List.any_eq_true]
          exact ⟨v, mem_of_get hvi, by simpa using hin⟩
        repeat' (first | (with_reducible first | refine W ?_ | refine Wz0 ?_) | refine Cg _ (in_a v r.1.varsOf) ?_ | ((with_reducible first | refine Wo (fun K hK => ?_) | refine Wp ?_ | refine Wq ?_ | refine Wr ?_); (try simp only [go_sem, fN, seval, eT, iR, e0, e3, e5, e6, e7, hli, hvi, hin, dT, dF, nL]); (repeat with_reducible refine Ai ?_); (try (refine hK _ ?_; clear hK K)); (try with_reducible refine iC ?_)))
        simp only [go_sem, fN, seval, FinQ, AS.result, resAll, resOne, tupV]
        rw [if_pos hop] at re
        rw [hm, g2 (by rw [re]; decide), re]
    · rw [List.take_of_length_le (by omega), ← ho] at hany
      rw [if_neg (by rw [hany]; decide)] at re
      repeat' (first | (with_reducible first | refine W ?_ | refine Wz0 ?_) | ((with_reducible first | refine Wo (fun K hK => ?_) | refine Wp ?_ | refine Wq ?_ | refine Wr ?_); (try simp only [go_sem, fN, seval, eT, iR, e0, e3, e5, e6, e7, hli, dT, dF, nL]); (repeat with_reducible refine Ai ?_); (try (refine hK _ ?_; clear hK K)); (try with_reducible refine iC ?_)))
      refine then_normal ⟨R.length - (k + 1), by omega, k + 1, by omega, rfl, g1 re, ?_⟩
      simp only [go_sem, fN, seval, eT, iR, e0, e3]
      congr 3
  · repeat' (first | (with_reducible first | refine W ?_ | refine Wz0 ?_) | ((with_reducible first | refine Wo (fun K hK => ?_) | refine Wp ?_ | refine Wq ?_ | refine Wr ?_); (try simp only [go_sem, fN, seval, eT, iR, e0, e3, hlt, dT, dF, nL]); (repeat with_reducible refine Ai ?_); (try (refine hK _ ?_; clear hK K)); (try with_reducible refine iC ?_)))
    simp only [go_sem, fN, seval, FinQ, AS.result, resAll, resOne, tupV]
    rw [List.take_of_length_le (by omega)] at h0
    rw [hm, h0]

def ir_slices_Clone_metaprune_api_Term_metaprune_api_Term : IR :=
  (.seq (.ops [.i 2 (.mov (.c (.one (.full []))))]) (.seq (.seq (.ops [.m 3 0, .i 4 (.eqN false (.t 3))]) (.cond (.t 4) (.seq (.ops [.i 2 (.mov (.c (.one (.full []))))]) .ret) .skip)) (.seq (.ops [.i 5 (.buildSlice false 25 2 []), .m 6 0, .i 7 (.append true 25 2 40 (.t 5) (.t 6)), .m 2 7]) .ret)))
theorem ok_slices_Clone_metaprune_api_Term_metaprune_api_Term : OkF Try.prog 56 8 [7] ir_slices_Clone_metaprune_api_Term_metaprune_api_Term [.t 2] := .of Try.func56 rfl rfl (by kernel_rfl) rfl

def ir_match_into : IR :=
  (.seq (.ops [.i 3 (.box 25 (.t 0)), .i 4 (.box 25 (.t 1)), .i 6 (.mov (.c (.one (.st (.bool false)))))]) (.seq (.seq (.ops [.f 10 0 3, .l 11 10, .i 12 (.call 26 [.t 11])]) (.cond (.t 12) (.seq (.seq (.ops [.m 14 2, .f 15 0 3, .l 16 15, .i 17 (.lookup none true (.agg [.st (.str (ByteArray.mk (#[]))), .full []]) (.t 14) (.t 16)), .m 13 17, .i 18 (.extract 0 (.t 13)), .i 19 (.extract 1 (.t 13)), .i 7 (.alloc 25 [.st (.str (ByteArray.mk (#[]))), .full []]), .s 2 7 18, .m 8 19]) (.seq (.ops [.m 20 8]) (.cond (.t 20) (.seq (.ops [.L 21 2 7, .L 22 2 4, .i 23 (.call 61 [.t 21, .t 22]), .m 6 23]) .ret) .skip))) (.seq (.ops [.m 24 2, .f 25 0 3, .l 26 25, .L 27 2 4, .mk none none (.mapSet none (.t 24) (.t 26) (.t 27)) .no]) (.seq (.ops [.i 6 (.mov (.c (.one (.st (.bool true)))))]) .ret))) .skip)) (.seq (.seq (.ops [.f 28 0 3, .l 29 28, .f 30 0 4, .l 31 30, .i 32 (.bin .neq (.t 29) (.t 31)), .m 33 32, .mk (some 34) (some (33, false)) (.fieldAddr 1 (.t 3)) .no, .mk (some 35) (some (33, false)) (.load false 1 (.t 34)) .no, .mk (some 36) (some (33, false)) (.len false (.t 35)) .no, .mk (some 37) (some (33, false)) (.fieldAddr 1 (.t 4)) .no, .mk (some 38) (some (33, false)) (.load false 1 (.t 37)) .no, .mk (some 39) (some (33, false)) (.len false (.t 38)) .no, .mk (some 40) (some (33, false)) (.bin .neq (.t 36) (.t 39)) .no, .i 41 (.pick (.t 33) (.c (.one (.st (.bool true)))) (.t 40))]) (.cond (.t 41) (.seq (.ops [.i 6 (.mov (.c (.one (.st (.bool false)))))]) .ret) .skip)) (.seq (.seq (.ops [.f 42 1 3, .l 43 42, .i 44 (.len false (.t 43)), .i 45 (.mov (.n 0))]) (.block 0 (.loop (.seq (.ops [.i 46 (.bin .lss (.t 45) (.t 44))]) (.seq (.cond (.t 46) .skip (.exit 0)) (.seq (.block 1 (.seq (.ops [.m 47 45, .m 9 47]) (.seq (.ops [.f 48 1 3, .l 49 48, .m 50 9, .i 51 (.indexAddr 2 (.t 49) (.t 50)), .L 52 2 51, .f 53 1 4, .l 54 53, .m 55 9, .i 56 (.indexAddr 2 (.t 54) (.t 55)), .L 57 2 56, .m 58 2, .i 59 (.callS 57 [.t 52, .t 57, .t 58]), .i 60 (.un .not (.t 59))]) (.cond (.t 60) (.seq (.ops [.i 6 (.mov (.c (.one (.st (.bool false)))))]) .ret) .skip)))) (.ops [.i 61 (.bin .add (.t 45) (.n 1)), .m 45 61]))))))) (.seq (.ops [.i 6 (.mov (.c (.one (.st (.bool true)))))]) .ret)))))
theorem ok_match_into : OkF Try.prog 57 62 [59] ir_match_into [.t 6] := .of Try.func57 rfl rfl (by kernel_rfl) rfl
def ir_match_Case : IR :=
  (.seq (.ops [.i 2 (.box 25 (.t 0)), .i 3 (.box 25 (.t 1)), .i 4 (.mov (.c (.one (.full [])))), .i 5 (.mov (.c (.one (.st (.bool false)))))]) (.seq (.ops [.i 10 (.makeMap none), .m 6 10]) (.seq (.seq (.ops [.L 11 2 2, .L 12 2 3, .m 13 6, .i 14 (.callS 57 [.t 11, .t 12, .t 13]), .i 15 (.un .not (.t 14))]) (.cond (.t 15) (.seq (.ops [.i 4 (.mov (.c (.one (.full [])))), .i 5 (.mov (.c (.one (.st (.bool false)))))]) .ret) .skip)) (.seq (.ops [.i 7 (.mov (.c (.one (.full []))))]) (.seq (.seq (.ops [.m 16 6, .i 17 (.rangeM (.t 16))]) (.block 0 (.loop (.seq (.ops [.i 18 (.next (.t 17)), .i 19 (.extract 0 (.t 18))]) (.seq (.cond (.t 19) .skip (.exit 0)) (.block 1 (.seq (.ops [.i 20 (.entry (.t 17)), .i 21 (.extract 0 (.t 20)), .i 22 (.extract 1 (.t 20)), .i 9 (.alloc 25 [.st (.str (ByteArray.mk (#[]))), .full []]), .m 8 21, .s 2 9 22]) (.ops [.m 23 7, .m 24 8, .L 25 2 9, .i 26 (.call 39 [.t 25]), .i 27 (.build [.st (.str (ByteArray.mk (#[]))), .st (.str (ByteArray.mk (#[]))), .full []] [(0, 1, .t 24), (1, 2, .t 26)]), .i 28 (.buildSlice false 77 3 [.t 27]), .i 29 (.append true 77 3 56 (.t 23) (.t 28)), .m 7 29])))))))) (.seq (.ops [.m 30 7, .i 31 (.callS 58 [.t 30]), .m 4 31, .i 5 (.mov (.c (.one (.st (.bool true)))))]) .ret))))))
theorem ok_match_Case : OkF Try.prog 51 32 [14, 29, 31] ir_match_Case [.t 4, .t 5] := .of Try.func51 rfl rfl (by kernel_rfl) rfl
def ir_R_matched : IR :=
  (.seq (.ops [.i 3 (.box 25 (.t 0)), .i 4 (.box 25 (.t 1)), .i 6 (.mov (.c (.one (.full [])))), .i 7 (.mov (.c (.one (.st (.bool false)))))]) (.seq (.seq (.ops [.f 13 0 3, .l 14 13, .i 15 (.call 14 [.t 14])]) (.cond (.t 15) (.seq (.ops [.m 17 2, .f 18 0 3, .l 19 18, .i 20 (.call 53 [.t 17, .t 19]), .m 16 20, .i 21 (.extract 0 (.t 16)), .i 22 (.extract 1 (.t 16)), .i 8 (.alloc 25 [.st (.str (ByteArray.mk (#[]))), .full []]), .s 2 8 21, .m 9 22]) (.seq (.seq (.ops [.m 23 9]) (.cond (.t 23) (.seq (.ops [.m 24 2, .L 25 2 8, .L 26 2 4, .i 27 (.call 11 [.t 25, .t 26]), .m 6 24, .m 7 27]) .ret) .skip)) (.seq (.ops [.m 28 2, .f 29 0 3, .l 30 29, .L 31 2 4, .i 32 (.build [.st (.str (ByteArray.mk (#[]))), .st (.str (ByteArray.mk (#[]))), .full []] [(0, 1, .t 30), (1, 2, .t 31)]), .i 33 (.buildSlice false 77 3 [.t 32]), .i 34 (.append false 77 3 56 (.t 28) (.t 33)), .m 6 34, .i 7 (.mov (.c (.one (.st (.bool true)))))]) .ret))) .skip)) (.seq (.seq (.ops [.f 35 0 3, .l 36 35, .f 37 0 4, .l 38 37, .i 39 (.bin .neq (.t 36) (.t 38)), .m 40 39, .mk (some 41) (some (40, false)) (.fieldAddr 1 (.t 3)) .no, .mk (some 42) (some (40, false)) (.load false 1 (.t 41)) .no, .mk (some 43) (some (40, false)) (.len false (.t 42)) .no, .mk (some 44) (some (40, false)) (.fieldAddr 1 (.t 4)) .no, .mk (some 45) (some (40, false)) (.load false 1 (.t 44)) .no, .mk (some 46) (some (40, false)) (.len false (.t 45)) .no, .mk (some 47) (some (40, false)) (.bin .neq (.t 43) (.t 46)) .no, .i 48 (.pick (.t 40) (.c (.one (.st (.bool true)))) (.t 47))]) (.cond (.t 48) (.seq (.ops [.i 6 (.mov (.c (.one (.full [])))), .i 7 (.mov (.c (.one (.st (.bool false)))))]) .ret) .skip)) (.seq (.seq (.ops [.i 10 (.mov (.n 0))]) (.block 0 (.loop (.seq (.seq (.ops [.m 49 10, .f 50 1 3, .l 51 50, .i 52 (.len false (.t 51)), .i 53 (.bin .lss (.t 49) (.t 52))]) (.cond (.t 53) .skip (.exit 0))) (.seq (.block 1 (.seq (.ops [.f 57 1 3, .l 58 57, .m 59 10, .i 60 (.indexAddr 2 (.t 58) (.t 59)), .L 61 2 60, .f 62 1 4, .l 63 62, .m 64 10, .i 65 (.indexAddr 2 (.t 63) (.t 64)), .L 66 2 65, .m 67 2, .i 68 (.callS 43 [.t 61, .t 66, .t 67]), .m 56 68, .i 69 (.extract 0 (.t 56)), .i 70 (.extract 1 (.t 56)), .m 11 69, .m 12 70]) (.seq (.seq (.ops [.m 71 12, .i 72 (.un .not (.t 71))]) (.cond (.t 72) (.seq (.ops [.i 6 (.mov (.c (.one (.full [])))), .i 7 (.mov (.c (.one (.st (.bool false)))))]) .ret) .skip)) (.ops [.m 73 11, .m 2 73])))) (.ops [.m 54 10, .i 55 (.bin .add (.t 54) (.n 1)), .m 10 55])))))) (.seq (.ops [.m 74 2, .m 6 74, .i 7 (.mov (.c (.one (.st (.bool true)))))]) .ret)))))
theorem ok_R_matched : OkF Try.prog 43 75 [68] ir_R_matched [.t 6, .t 7] := .of Try.func43 rfl rfl (by kernel_rfl) rfl
def ir_R_MatchOf : IR :=
  (.seq (.ops [.i 2 (.box 25 (.t 0)), .i 3 (.box 25 (.t 1)), .i 4 (.mov (.c (.one (.full [])))), .i 5 (.mov (.c (.one (.st (.bool false)))))]) (.seq (.ops [.L 9 2 2, .L 10 2 3, .i 11 (.callS 43 [.t 9, .t 10, .c (.one (.full []))]), .m 8 11, .i 12 (.extract 0 (.t 8)), .i 13 (.extract 1 (.t 8)), .m 6 12, .m 7 13]) (.seq (.seq (.ops [.m 14 7, .i 15 (.un .not (.t 14))]) (.cond (.t 15) (.seq (.ops [.i 4 (.mov (.c (.one (.full [])))), .i 5 (.mov (.c (.one (.st (.bool false)))))]) .ret) .skip)) (.seq (.ops [.m 16 6, .i 17 (.call 44 [.t 16]), .m 4 17, .i 5 (.mov (.c (.one (.st (.bool true)))))]) .ret))))
theorem ok_R_MatchOf : OkF Try.prog 32 18 [11] ir_R_MatchOf [.t 4, .t 5] := .of Try.func32 rfl rfl (by kernel_rfl) rfl

def met {α : Type} (l : List α) (seen : List Nat) : List α := seen.filterMap fun j => l[j]?
theorem met_snoc {α : Type} {l : List α} {seen : List Nat} {j : Nat} {b : α} (h : l[j]? = some b) : met l (seen ++ [j]) = met l seen ++ [b] := by
  unfold met
  rw [List.filterMap_append, List.filterMap_cons_some h]
  rfl
theorem met_len {α : Type} {l : List α} : ∀ {seen : List Nat}, (∀ j ∈ seen, j < l.length) → (met l seen).length = seen.length
  | [], _ => rfl
  | j :: seen, h => by
    have hj := h j (by simp)
    unfold met
    rw [List.filterMap_cons_some (List.getElem?_eq_getElem hj), List.length_cons, List.length_cons]
    exact congrArg (· + 1) (met_len fun i hi => h i (by simp [hi]))
theorem seen_len {n : Nat} {seen : List Nat} (hn : seen.Nodup) (h : ∀ j ∈ seen, j < n) : seen.length ≤ n := by
  have h1 : seen.Perm ((List.range n).filter fun j => decide (j ∈ seen)) := (List.perm_ext_iff_of_nodup hn (List.nodup_range.filter _)).2 fun j => by
    rw [List.mem_filter, List.mem_range, decide_eq_true_eq]
    exact ⟨fun hj => ⟨h j hj, hj⟩, fun hj => hj.2⟩
  rw [h1.length_eq]
  exact Nat.le_trans (List.length_filter_le _ _) (Nat.le_of_eq List.length_range)
theorem met_perm {α : Type} {l : List α} {seen : List Nat} (hn : seen.Nodup) (h : ∀ j ∈ seen, j < l.length) (hall : ∀ j, j < l.length → j ∈ seen) : (met l seen).Perm l := by
  have hp : seen.Perm (List.range l.length) := (List.perm_ext_iff_of_nodup hn List.nodup_range).2 fun j => ⟨fun hj => List.mem_range.2 (h j hj), fun hj => hall j (List.mem_range.1 hj)⟩
  have := hp.filterMap fun j => l[j]?
  rw [filterMap_range] at this
  exact this

open Go.Proofs Go.Shelf
def Try.sortBd_ren : Go.Shelf.Ren := ⟨fun | 6 => 62 | 15 => 68 | 14 => 67 | 28 => 80 | 29 => 81 | 20 => 72 | 21 => 73 | 22 => 74 | 23 => 75 | 24 => 76 | 25 => 77 | 26 => 78 | 27 => 79 | 46 => 82 | 47 => 83 | 48 => 84 | 49 => 85 | 50 => 86 | 57 => 87 | n => n, fun | 22 => 56 | 24 => 77 | 25 => 87 | 3 => 3 | 39 => 91 | 0 => 0 | 53 => 103 | 55 => 105 | 4 => 4 | 46 => 97 | 45 => 96 | 50 => 92 | 5 => 5 | 9 => 9 | 66 => 106 | 70 => 110 | 76 => 112 | 77 => 113 | n => n, fun | n => n⟩
theorem Try.sortBd : Go.Proofs.SlLaysF0.n6 Try.prog Try.sortBd_ren := {
  mixed := by kernel_rfl
  f6 := ⟨Try.f62.name, by decide, Try.func62.trans (congrArg some (by kernel_rfl))⟩
  f14 := ⟨Try.f67.name, by decide, Try.func67.trans (congrArg some (by kernel_rfl))⟩
  f15 := Try.func68.trans (congrArg some (by kernel_rfl))
  f20 := ⟨Try.f72.name, by decide, Try.func72.trans (congrArg some (by kernel_rfl))⟩
  f21 := ⟨Try.f73.name, by decide, Try.func73.trans (congrArg some (by kernel_rfl))⟩
  f22 := ⟨Try.f74.name, by decide, Try.func74.trans (congrArg some (by kernel_rfl))⟩
  f23 := ⟨Try.f75.name, by decide, Try.func75.trans (congrArg some (by kernel_rfl))⟩
  f24 := ⟨Try.f76.name, by decide, Try.func76.trans (congrArg some (by kernel_rfl))⟩
  f25 := ⟨Try.f77.name, by decide, Try.func77.trans (congrArg some (by kernel_rfl))⟩
  f26 := ⟨Try.f78.name, by decide, Try.func78.trans (congrArg some (by kernel_rfl))⟩
  f27 := ⟨Try.f79.name, by decide, Try.func79.trans (congrArg some (by kernel_rfl))⟩
  f28 := Try.func80.trans (congrArg some (by kernel_rfl))
  f29 := Try.func81.trans (congrArg some (by kernel_rfl))
  f46 := ⟨Try.f82.name, by decide, Try.func82.trans (congrArg some (by kernel_rfl))⟩
  f47 := Try.func83.trans (congrArg some (by kernel_rfl))
  f48 := Try.func84.trans (congrArg some (by kernel_rfl))
  f49 := ⟨Try.f85.name, by decide, Try.func85.trans (congrArg some (by kernel_rfl))⟩
  f50 := ⟨Try.f86.name, by decide, Try.func86.trans (congrArg some (by kernel_rfl))⟩
  f57 := ⟨Try.f87.name, by decide, Try.func87.trans (congrArg some (by kernel_rfl))⟩
  t0 := Try.underlying0
  a0 := Try.isAgg0
  z0 := Try.sizeOf0
  v0 := Try.zeroValue0
  t3 := Try.underlying3
  a3 := Try.isAgg3
  z3 := Try.sizeOf3
  v3 := Try.zeroValue3
  t4 := Try.underlying4
  a4 := Try.isAgg4
  z4 := Try.sizeOf4
  v4 := Try.zeroValue4
  t5 := Try.underlying5
  a5 := Try.isAgg5
  z5 := Try.sizeOf5
  v5 := Try.zeroValue5
  t9 := Try.underlying9
  a9 := Try.isAgg9
  z9 := Try.sizeOf9
  v9 := Try.zeroValue9
  t22 := Try.underlying56
  a22 := Try.isAgg56
  z22 := Try.sizeOf56
  v22 := Try.zeroValue56
  t25 := Try.underlying87
  a25 := Try.isAgg87
  z25 := Try.sizeOf87
  v25 := Try.zeroValue87
  t39 := Try.underlying91
  a39 := Try.isAgg91
  z39 := Try.sizeOf91
  v39 := Try.zeroValue91
  t45 := Try.underlying96
  a45 := Try.isAgg96
  z45 := Try.sizeOf96
  v45 := Try.zeroValue96
  t46 := Try.underlying97
  a46 := Try.isAgg97
  z46 := Try.sizeOf97
  v46 := Try.zeroValue97
  t50 := Try.underlying92
  a50 := Try.isAgg92
  z50 := Try.sizeOf92
  v50 := Try.zeroValue92
  t53 := Try.underlying103
  a53 := Try.isAgg103
  z53 := Try.sizeOf103
  v53 := Try.zeroValue103
  t55 := Try.underlying105
  a55 := Try.isAgg105
  z55 := Try.sizeOf105
  v55 := Try.zeroValue105
  t66 := Try.underlying106
  a66 := Try.isAgg106
  z66 := Try.sizeOf106
  v66 := Try.zeroValue106
  t70 := Try.underlying110
  a70 := Try.isAgg110
  z70 := Try.sizeOf110
  v70 := Try.zeroValue110
  t76 := Try.underlying112
  a76 := Try.isAgg112
  z76 := Try.sizeOf112
  v76 := Try.zeroValue112
  t77 := Try.underlying113
  a77 := Try.isAgg113
  z77 := Try.sizeOf113
  v77 := Try.zeroValue113 }

abbrev rowBd (l : List Bd) : ABlk := .mrow 77 3 (l.map encB)

def ir_subst_SortM : IR :=
  (.seq (.ops [.i 2 (.mov (.c (.one (.full []))))]) (.seq (.ops [.m 3 0, .i 4 (.callS 62 [.t 3, .c (.one (.fn 63 []))])]) (.seq (.ops [.m 5 0, .m 2 5]) .ret)))
theorem ok_subst_SortM : OkF Try.prog 58 6 [4] ir_subst_SortM [.t 2] := .of Try.func58 rfl rfl (by kernel_rfl) rfl

open Go.Lib Go.Sort
theorem run_gtr {P : Program} {w : World} (t : TypeId) (x y : ByteArray) : (binOp .gtr t (.string x) (.string y)).run P w = .ok (.bool (!(sLt x y || decide (x = y)))) w := by
  simp only [binOp, Op.stringOp, toList_eq_iff]
  rfl
attribute [go_sem] run_gtr
theorem isNaN_C (s : ByteArray) (W : World) : Calls Try.prog 69 #[.string s] W fun e w' => e = .returned (.bool false) ∧ w' = W := by
  go_enter Try.func69, Try.ntmps69
  go_wp2_with fail
  go_ret
  exact ⟨rfl, rfl⟩
theorem compare_C (a b : ByteArray) (W : World) : Calls Try.prog 64 #[.string a, .string b] W fun e w' => e = .returned (.int .i64 (cmpI a b)) ∧ w' = W := by
  have h1 := isNaN_C
  have hl : sLt a b = Op.bytesLess a.toList b.toList := rfl
  have hc : cmpI a b = if sLt a b = true then -1 else if a = b then 0 else 1 := rfl
  generalize cmpI a b = r at hc ⊢
  go_enter Try.func64, Try.ntmps64
  go_wp2_with (go_at_call 69; refine (h1 _ _).mono ?_; rintro e w' ⟨rfl, rfl⟩)
  all_goals go_ret
  all_goals refine ⟨?_, rfl⟩
  all_goals simp_all
abbrev SCell := ByteArray × ByteArray × Option Addr × Nat × Nat
def encSC (x : SCell) : List Value := [.string x.1, .string x.2.1, .slice x.2.2.1 x.2.2.2.1 x.2.2.2.2]
theorem sort1_C (x y : SCell) (W : World) : Calls Try.prog 63 #[.agg (encSC x).toArray, .agg (encSC y).toArray] W fun e w' => e = .returned (.int .i64 (cmpI x.1 y.1)) ∧ ∃ q os', w' = grow (W.drewN q) os' := by
  have hcon := fun W' => compare_C x.1 y.1 W'
  generalize cmpI x.1 y.1 = r at hcon ⊢
  unfold encSC
  go_enter Try.func63, Try.ntmps63
  go_wp2_with (go_at_call 64; refine (hcon _).mono ?_; rintro e w' ⟨rfl, rfl⟩)
  go_ret
  exact ⟨rfl, 0, _, by rw [alloc_eq_grow, alloc_eq_grow, grow_grow]; rfl⟩
theorem swo_names : SWO (ltOf fun x y : SCell => cmpI x.1 y.1) where
  irrefl x := by
    simp only [ltOf, decide_eq_false_iff_not]
    intro h
    have := cmpI_neg.1 h
    rw [sLt_irrefl] at this
    cases this
  trans x y z h k := by
    simp only [ltOf, decide_eq_true_eq] at *
    exact cmpI_neg.2 (sLt_trans (cmpI_neg.1 h) (cmpI_neg.1 k))
  ntrans x y z h k := by
    simp only [ltOf, decide_eq_false_iff_not] at *
    intro e
    have e := cmpI_neg.1 e
    have h : sLt x.1 y.1 = false := by
      cases hx : sLt x.1 y.1 with
      | false => rfl
      | true => exact absurd (cmpI_neg.2 hx) h
    have k : sLt y.1 z.1 = false := by
      cases hx : sLt y.1 z.1 with
      | false => rfl
      | true => exact absurd (cmpI_neg.2 hx) k
    rcases sLt_total y.1 z.1 with q | q | q
    · rw [q] at k; cases k
    · rw [q] at h; rw [e] at h; cases h
    · have := sLt_trans e q
      rw [this] at h
      cases h
def CellIs (σ : Sto) (x : SCell) (b : Bd) : Prop := x.1 = b.1 ∧ All2 (SRep σ) (encSC x) (encB b)
theorem all2_perm {α β : Type} {R : α → β → Prop} {l1 l2 : List α} (hp : l1.Perm l2) : ∀ {m1 : List β}, All2 R l1 m1 → ∃ m2, All2 R l2 m2 ∧ m1.Perm m2 := by
  induction hp with
  | nil => intro m1 h; exact ⟨m1, h, List.Perm.refl _⟩
  | cons x _ ih =>
    intro m1 h
    cases h with
    | cons h1 h2 =>
      obtain ⟨m2, q1, q2⟩ := ih h2
      exact ⟨_ :: m2, .cons h1 q1, q2.cons _⟩
  | swap x y l =>
    intro m1 h
    cases h with
    | cons h1 h2 =>
      cases h2 with
      | cons h2 h3 => exact ⟨_, .cons h2 (.cons h1 h3), List.Perm.swap _ _ _⟩
  | trans _ _ ih1 ih2 =>
    intro m1 h
    obtain ⟨m2, q1, q2⟩ := ih1 h
    obtain ⟨m3, q3, q4⟩ := ih2 q1
    exact ⟨m3, q3, q2.trans q4⟩
theorem cell_is {σ : Sto} {b : Bd} {v1 v2 v3 : Value} (h1 : SRep σ v1 (.str b.1)) (h2 : SRep σ v2 (.str b.2.name)) (h3 : SRep σ v3 (.list (b.2.args.map encT))) : ∃ x : SCell, [v1, v2, v3] = encSC x ∧ CellIs σ x b := by
  have e1 := (vrep_str (S := noS) (ι := noH) (.one (.st h1))).1
  have e2 := (vrep_str (S := noS) (ι := noH) (.one (.st h2))).1
  obtain ⟨p, cap, e3, _⟩ := srep_slice h3
  subst e1 e2 e3
  exact ⟨(b.1, b.2.name, p, _, cap), rfl, rfl, .cons h1 (.cons h2 (.cons h3 .nil))⟩
theorem sort_cells {σ : Sto} {vs : Array Value} : ∀ (l : List Bd) (base : Nat), (∀ k b, l[k]? = some b → ∀ j a, (encB b)[j]? = some a → ∃ v, vs[base + k * 3 + j]? = some v ∧ SRep σ v a) →
    ∃ d : List SCell, All2 (CellIs σ) d l ∧ ∀ k x j v, d[k]? = some x → (encSC x)[j]? = some v → vs[base + k * 3 + j]? = some v
  | [], base, _ => ⟨[], .nil, by simp⟩
  | b :: l, base, h => by
    obtain ⟨d, d1, d2⟩ := sort_cells l (base + 3) (fun k c hc j a ha => by
      obtain ⟨v, v1, v2⟩ := h (k + 1) c (by simpa using hc) j a ha
      exact ⟨v, by rw [← v1]; congr 1; omega, v2⟩)
    obtain ⟨u1, p1, q1⟩ := h 0 b rfl 0 _ rfl
    obtain ⟨u2, p2, q2⟩ := h 0 b rfl 1 _ rfl
    obtain ⟨u3, p3, q3⟩ := h 0 b rfl 2 _ rfl
    obtain ⟨x, x1, x2⟩ := cell_is q1 q2 q3
    refine ⟨x :: d, .cons x2 d1, fun k y j v hy hv => ?_⟩
    cases k with
    | zero =>
      simp only [List.getElem?_cons_zero, Option.some.injEq] at hy
      subst hy
      rw [← x1] at hv
      match j, hv with
      | 0, hv => cases hv; exact p1
      | 1, hv => cases hv; exact p2
      | 2, hv => cases hv; exact p3
      | j + 3, hv => simp at hv
    | succ k =>
      have := d2 k y j v (by simpa using hy) hv
      rw [← this]
      congr 1
      omega
theorem encSC_len (x : SCell) : (encSC x).length = 3 := rfl
theorem flat_get {d : Array SCell} {t : Nat} (h : t < d.size * 3) : ∃ x v, d[t / 3]? = some x ∧ (encSC x)[t % 3]? = some v ∧ (flatK encSC 3 d)[t]! = v := by
  have hk : t / 3 < d.size := by omega
  have hj : t % 3 < (encSC d[t / 3]).length := by rw [encSC_len]; omega
  refine ⟨d[t / 3], (encSC d[t / 3])[t % 3], Array.getElem?_eq_getElem hk, List.getElem?_eq_getElem hj, ?_⟩
  rw [get_flatK _ _ _ _ h, getElem!_pos d (t / 3) hk, getElem!_pos (encSC d[t / 3]) (t % 3) hj]
theorem sort_heap (w : World) (g n : Nat) (d : Array SCell) (os : Array Obj) (vs : Array Value) (e : TypeId) (hg : w.heap[g]? = some (.cells vs e (0, 0))) :
    (sortWorldK encSC 3 w g 0 n d os).heap[g]? = some (.cells (putCells id 0 (flatK encSC 3 d) vs) e (0, 0)) ∧ (∀ k, k < w.heap.size → k ≠ g → (sortWorldK encSC 3 w g 0 n d os).heap[k]? = w.heap[k]?) ∧ w.heap.size ≤ (sortWorldK encSC 3 w g 0 n d os).heap.size := by
  have hlt := (Array.getElem?_eq_some_iff.1 hg).1
  have hsz : (putRowK encSC 3 (Sort.ahead w n) g 0 d).heap.size = w.heap.size := by simp [putRowK, putRow, mapBlock, Sort.ahead]
  refine ⟨?_, fun k hk hne => ?_, ?_⟩
  · unfold sortWorldK
    rw [heap_grow_old _ _ (by rw [hsz]; exact hlt)]
    simp [putRowK, putRow, mapBlock, Sort.ahead, Array.getElem?_modify, hg, onCells]
  · unfold sortWorldK
    rw [heap_grow_old _ _ (by rw [hsz]; exact hk)]
    simp [putRowK, putRow, mapBlock, Sort.ahead, Array.getElem?_modify, Ne.symm hne]
  · unfold sortWorldK
    rw [Go.Sort.size_grow, hsz]
    omega
theorem put_get {d : Array SCell} {vs : Array Value} (hs : d.size * 3 ≤ vs.size) {k : Nat} {x : SCell} {j : Nat} {v : Value} (hx : d[k]? = some x) (hv : (encSC x)[j]? = some v) : (putCells id 0 (flatK encSC 3 d) vs)[k * 3 + j]? = some v := by
  have hk := (Array.getElem?_eq_some_iff.1 hx).1
  have hj : j < 3 := by have := (List.getElem?_eq_some_iff.1 hv).1; rw [encSC_len] at this; exact this
  have hlt : k * 3 + j < d.size * 3 := by omega
  obtain ⟨y, u, h1, h2, h3⟩ := flat_get hlt
  have e1 : (k * 3 + j) / 3 = k := by omega
  have e2 : (k * 3 + j) % 3 = j := by omega
  rw [e1, hx] at h1
  cases h1
  rw [e2, hv] at h2
  cases h2
  unfold putCells
  rw [Array.getElem?_mapIdx, Array.getElem?_eq_getElem (by omega), Option.map_some, if_pos (by rw [size_flatK]; omega)]
  simp only [Nat.sub_zero, id, h3]
theorem put_size (d : Array SCell) (vs : Array Value) : (putCells id 0 (flatK encSC 3 d) vs).size = vs.size := by simp [putCells]
theorem updE_eq {S : AStore} {r : Nat} {b : ABlk} (h : S r = some b) : updE S r (some b) = S := by
  funext k
  unfold updE
  split
  · rename_i e; rw [e, h]
  · rfl
theorem put_other {d : Array SCell} {vs : Array Value} {t : Nat} (h : d.size * 3 ≤ t) : (putCells id 0 (flatK encSC 3 d) vs)[t]? = vs[t]? := by
  unfold putCells
  rw [Array.getElem?_mapIdx]
  cases hv : vs[t]? with
  | none => rfl
  | some v => rw [Option.map_some, if_neg (by rw [size_flatK]; omega)]
abbrev rowBy (l : List Bd) (ys : List (List SV)) : ABlk := .mrow 77 3 (l.map encB ++ ys)
theorem sort_core (l : List Bd) (ys : List (List SV)) (hys : ∀ y ∈ ys, y.length = 3) (hn : Named l) (hl : l.length ≤ 100000) (r : Nat) (hr : 1000 ≤ r) (S : AStore) (sr : S r = some (rowBy l ys)) (hS : Clean S) (σ : Sto) (w : World) (ι : AHnd) (hF : Fit σ w) (hO : Owned σ S ι w) :
    Calls Try.prog 62 #[.slice (ι r).p l.length (ι r).cap, .func (.func 63) #[] #[]] w fun e w' => ∃ v σ' ι', e = .returned v ∧ Clean (updE S r (some (rowBy (sortB l) ys))) ∧ Upd S ι (updE S r (some (rowBy (sortB l) ys))) ι' ∧ Owned σ' (updE S r (some (rowBy (sortB l) ys))) ι' w' ∧ VRep σ' (updE S r (some (rowBy (sortB l) ys))) ι' v (.tup []) ∧ Fit σ' w' ∧ (∀ p x, σ p = some x → σ' p = some x) ∧
      (∀ p : Addr, p.block < w.heap.size → notOf S ι p.block → σ' p = σ p) ∧ (w'.os = w.os ∧ w'.tape = w.tape ∧ w'.output = w.output) ∧ w.heap.size ≤ w'.heap.size ∧
      (∀ g, g < w.heap.size → notOf S ι g → w'.heap[g]? = w.heap[g]?) ∧ (∀ id b g, updE S r (some (rowBy (sortB l) ys)) id = some b → (ι' id).g = some g → w.heap.size ≤ g ∨ ¬ notOf S ι g) := by
  have hS' : Clean (updE S r (some (rowBy (sortB l) ys))) := clean_upd hS hr rfl
  have hb : BRep σ S ι w (ι r) (.mrow 77 3 (l.map encB ++ ys)) := hO.1 r _ sr
  generalize hxs : l.map encB ++ ys = xs at hb
  have hlen : xs.length = l.length + ys.length := by rw [← hxs, List.length_append, List.length_map]
  generalize hh : ι r = hd at hb
  cases hb with
  | mnil k1 k2 =>
    obtain ⟨hl0, hy0⟩ : l = [] ∧ ys = [] := by simpa using hxs
    subst hl0 hy0
    refine (AnyF.slices_SortFunc_none Try.sortBd hd.p hd.cap _ w).mono fun e w' ⟨he, hw⟩ => ?_
    subst hw
    have hid : updE S r (some (rowBy (sortB []) [])) = S := updE_eq sr
    rw [hid]
    exact ⟨_, σ, ι, he, hS, Upd.refl _ _, hO, .tup (fun _ => undef) rfl (by simp) (by simp), hF, fun _ _ h => h, fun _ _ _ => rfl, ⟨rfl, rfl, rfl⟩, Nat.le_refl _, fun _ _ _ => rfl, fun id b g h1 h2 => .inr fun hno => hno id b h1 h2⟩
  | @mrow _ _ _ g cs k1 k2 k3 k4 k5 k6 k7 k8 k9 =>
    subst hxs
    obtain ⟨d, d1, d2⟩ := sort_cells (σ := σ) (vs := cs) l 0 (fun k b hb j a ha => by
      obtain ⟨v, v1, v2⟩ := k8 k (encB b) j a (by rw [List.getElem?_append_left (by rw [List.length_map]; exact lt_of_get hb), List.getElem?_map, hb]; rfl) ha
      exact ⟨v, by rw [Nat.zero_add]; exact v1, v2⟩)
    have dlen : d.length = l.length := d1.len
    have hcap : l.length ≤ hd.cap := by omega
    have hfits : d.toArray.size * 3 ≤ cs.size := by
      rw [k6]
      simp only [List.size_toArray, dlen]
      exact Nat.mul_le_mul_right 3 hcap
    have hH : HoldsK encSC 3 w g 0 d.toArray := fun j hj => by
      rw [size_flatK] at hj
      obtain ⟨x, v, q1, q2, q3⟩ := flat_get hj
      have q1 : d[j / 3]? = some x := by simpa using q1
      have hc := d2 _ _ _ _ q1 q2
      have e : 0 + j / 3 * 3 + j % 3 = j := by omega
      rw [e] at hc
      refine ⟨?_, ?_⟩
      · rw [cell_of_row w g _ _ _ _ k3, Nat.zero_add, hc, q3]
        rfl
      · exact Blk.frozen k3 _
    have eg : ∀ args w, (callFunc 63 args).run Try.prog w = .ok (.enter 63 args) w := enters_of Try.func63 (by kernel_rfl) rfl
    have hgl : g < w.heap.size := (Array.getElem?_eq_some_iff.1 k3).1
    have hcon := AnyQ.slices_SortFunc Try.sortBd 3 Try.isAgg77 Try.sizeOf77 encSC encSC_len (fun x v hv => by simp [encSC] at hv; rcases hv with rfl | rfl | rfl <;> rfl) (fun x y : SCell => cmpI x.1 y.1) swo_names 63 #[] g 0 hd.cap d.toArray w eg (fun _ _ _ _ x y => sort1_C x y _) hH hgl (by simp [dlen]; omega)
    rw [show d.toArray.size = l.length by simp [dlen]] at hcon
    rw [k2, show (l.length) = l.length from rfl]
    refine Calls.mono hcon fun e w' ⟨he, d', n, os, hp, hs, hw⟩ => ?_
    obtain ⟨hp1, hp2, hp3⟩ := hp
    have hd'l : d'.size = l.length := by rw [hp1]; simp [dlen]
    have hperm : d.Perm d'.toList := by
      have e1 : d'.extract 0 l.length = d' := by rw [← hd'l]; exact Array.extract_size
      have e2 : d.toArray.extract 0 l.length = d.toArray := by
        rw [show l.length = d.toArray.size by simp [dlen]]
        exact Array.extract_size
      rw [e1, e2] at hp3
      exact hp3.symm
    obtain ⟨l', l1, l2⟩ := all2_perm hperm d1
    have hl'len : l'.length = l.length := l2.length_eq.symm
    have hord : Ordered l' := by
      unfold Ordered
      rw [List.pairwise_iff_getElem]
      intro i j hi hj hij
      obtain ⟨x, x1, x2, _⟩ := l1.get (List.getElem?_eq_getElem hi)
      obtain ⟨y, y1, y2, _⟩ := l1.get (List.getElem?_eq_getElem hj)
      have hso := hs i j (Nat.zero_le _) hij (by omega)
      have e1 : d'[i]! = x := by
        rw [Array.getElem?_toList] at x1
        rw [getElem!_def, x1]
      have e2 : d'[j]! = y := by
        rw [Array.getElem?_toList] at y1
        rw [getElem!_def, y1]
      rw [e1, e2] at hso
      simp only [ltOf, decide_eq_false_iff_not] at hso
      have hno : sLt l'[j].1 l'[i].1 = false := by
        cases hx : sLt l'[j].1 l'[i].1 with
        | false => rfl
        | true => exact absurd (cmpI_neg.2 (by rw [x2, y2]; exact hx)) hso
      have hdiff : l'[i].1 ≠ l'[j].1 := by
        have hn' := named_perm l2 hn
        unfold Named at hn'
        rw [List.nodup_iff_pairwise_ne, List.pairwise_map, List.pairwise_iff_getElem] at hn'
        exact hn' i j hi hj hij
      rcases sLt_total l'[i].1 l'[j].1 with q | q | q
      · exact q
      · exact absurd q hdiff
      · rw [q] at hno; cases hno
    have hl' : l' = sortB l := ordered_unique hord (sortB_ordered hn) ((l2.symm).trans (sortB_perm l).symm)
    subst hl'
    obtain ⟨w1, w2, w3⟩ := sort_heap w g n d' os cs _ k3
    rw [← hw] at w1 w2 w3
    have hfits' : d'.size * 3 ≤ cs.size := by rw [hd'l]; rw [← dlen]; simpa using hfits
    have hupd : Upd S ι (updE S r (some (rowBy (sortB l) ys))) ι := fun id b hb => by
      by_cases e : id = r
      · subst e
        rw [sr] at hb
        cases hb
        exact ⟨_, updE_same _ _ _, by simp [ABlk.len, sortB_length], fun _ => ⟨rfl, rfl⟩⟩
      · exact ⟨b, by rw [updE_ne _ e]; exact hb, Nat.le_refl _, fun _ => ⟨rfl, rfl⟩⟩
    have hotherg : ∀ id b g', id ≠ r → S id = some b → (ι id).g = some g' → g' ≠ g := fun id b g' hne hb hg' e => by
      subst e
      exact hne (hO.2 id r b _ g' hb sr hg' (by rw [hh]; exact k1))
    have hFit : Fit σ w' := fun p x hp => by
      have hlt := hF.lt hp
      by_cases e : p.block = g
      · rw [k9 p e] at hp; cases hp
      · exact (look_of_block (w2 _ hlt e)).trans (hF p x hp)
    refine ⟨_, σ, ι, he, hS', hupd, ⟨fun id b hb => ?_, fun id id' b b' g' q1 q2 q3 q4 => ?_⟩, .tup (fun _ => undef) rfl (by simp) (by simp), hFit, fun _ _ h => h, fun _ _ _ => rfl, ?_, w3, fun g' q1 q2 => ?_, fun id b g' q1 q2 => ?_⟩
    · by_cases e : id = r
      · subst e
        rw [updE_same] at hb
        cases hb
        rw [hh]
        have hlen' : ((sortB l).map encB ++ ys).length = l.length + ys.length := by rw [List.length_append, List.length_map, sortB_length]
        refine .mrow k1 k2 w1 (by rw [hlen', ← hlen]; exact k4) k5 (by rw [put_size]; exact k6) (fun x hx => ?_) (fun k x j a hx ha => ?_) k9
        · rcases List.mem_append.1 hx with hx | hx
          · exact lens_encB x hx
          · exact hys x hx
        rcases Nat.lt_or_ge k l.length with hk | hk
        · rw [List.getElem?_append_left (by rw [List.length_map, sortB_length]; exact hk), List.getElem?_map, Option.map_eq_some_iff] at hx
          obtain ⟨b, hb, rfl⟩ := hx
          obtain ⟨y, y1, y2, y3⟩ := l1.get hb
          obtain ⟨v, v1, v2⟩ := y3.get ha
          exact ⟨v, put_get hfits' (by simpa using y1) v1, v2⟩
        · rw [List.getElem?_append_right (by rw [List.length_map, sortB_length]; exact hk), List.length_map, sortB_length] at hx
          obtain ⟨v, v1, v2⟩ := k8 k x j a (by rw [List.getElem?_append_right (by rw [List.length_map]; exact hk), List.length_map]; exact hx) ha
          exact ⟨v, by rw [put_other (by rw [hd'l]; omega)]; exact v1, v2⟩
      · rw [updE_ne _ e] at hb
        refine (hO.1 id b hb).mono (fun _ _ h => h) hupd (fun g' hg' => w2 g' ((hO.1 id b hb).gsome hg') (hotherg id b g' e hb hg')) (fun _ _ _ _ => rfl)
    · have back : ∀ i c, updE S r (some (rowBy (sortB l) ys)) i = some c → ∃ c', S i = some c' := fun i c hc => by
        by_cases e : i = r
        · subst e; exact ⟨_, sr⟩
        · rw [updE_ne _ e] at hc; exact ⟨c, hc⟩
      obtain ⟨c1, c1'⟩ := back _ _ q1
      obtain ⟨c2, c2'⟩ := back _ _ q2
      exact hO.2 _ _ _ _ _ c1' c2' q3 q4
    · rw [hw]
      exact ⟨rfl, rfl, rfl⟩
    · exact w2 g' q1 fun e => q2 r _ sr (by rw [hh, e]; exact k1)
    · refine .inr fun hno => ?_
      by_cases e : id = r
      · subst e; exact hno id _ sr q2
      · rw [updE_ne _ e] at q1; exact hno id _ q1 q2
theorem sortFunc_M (l : List Bd) (hn : Named l) (hl : l.length ≤ 100000) (r : Nat) (hr : 1000 ≤ r) (S : AStore) (sr : S r = some (rowBd l)) :
    ACallsS Try.prog 62 [.one (.row r l.length), .one (.fn 63 [])] S (.tup []) (updE S r (some (rowBd (sortB l)))) := by
  intro hS σ w vs ι hG hF hO hv
  cases hv with
  | @cons v1 _ _ _ h1 hv =>
  cases hv with
  | @cons v2 _ _ _ h2 hv =>
  cases hv
  obtain ⟨b, b1, b2, b3⟩ := arep_row (vrep_one h1)
  rw [sr] at b1
  cases b1
  have hv1 := b3 (by simp [ABlk.len])
  subst hv1
  have hv2 : v2 = .func (.func 63) #[] #[] := by
    cases vrep_one h2 with
    | @fn _ vs _ c q1 q2 q3 =>
      have e : vs = #[] := Array.eq_empty_of_size_eq_zero (by simpa using q1)
      rw [e]
  subst hv2
  have e : ∀ m : List Bd, rowBd m = rowBy m [] := fun m => by rw [rowBy, List.append_nil]
  rw [e] at sr ⊢
  exact sort_core l [] (by simp) hn hl r hr S sr hS σ w ι hF hO
theorem sort_M (l : List Bd) (hn : Named l) (hl : l.length ≤ 100000) (r : Nat) (hr : 1000 ≤ r) (S : AStore) (sr : S r = some (rowBd l)) :
    ACallsS Try.prog 58 [.one (.row r l.length)] S (.one (.row r l.length)) (updE S r (some (rowBd (sortB l)))) := by
  refine ok_subst_SortM.acS fun hS C hC => ?_
  unfold ir_subst_SortM
  repeat' (first | (with_reducible first | refine W ?_ | refine Wz0 ?_) | ((with_reducible first | refine Wo (fun K hK => ?_) | refine Wq ?_ | refine Wr ?_); (try simp only [go_sem, fN, seval, eT, iR]); (repeat with_reducible refine Ai ?_); (try (refine hK _ ?_; clear hK K))))
  refine ⟨_, _, sortFunc_M l hn hl (up1 r) (up1_le r) (upS S) (by rw [upS_up, sr]; rfl), ?_⟩
  repeat' (first | (with_reducible first | refine W ?_ | refine Wz0 ?_) | ((with_reducible first | refine Wo (fun K hK => ?_) | refine Wq ?_ | refine Wr ?_); (try simp only [go_sem, fN, seval, eT, iR]); (repeat with_reducible refine Ai ?_); (try (refine hK _ ?_; clear hK K))))
  have hc := clean_upd (b := rowBd (sortB l)) hS hr rfl
  refine finS_high trivial ?_ (high_row (n := l.length) hr) (fun i b _ h => (hc i b h).2) (lowS_clean hc) hc
  simp only [go_sem, fN, seval, eT, iR, resAll, resOne, tupV]

def ir_R_Sorted : IR :=
  (.seq (.ops [.i 2 (.mov (.c (.one (.full []))))]) (.seq (.ops [.i 3 (.mov (.c (.one (.full []))))]) (.seq (.seq (.ops [.i 4 (.mov (.n 0))]) (.block 0 (.loop (.seq (.seq (.ops [.m 7 4, .m 8 0, .i 9 (.len false (.t 8)), .i 10 (.bin .lss (.t 7) (.t 9))]) (.cond (.t 10) .skip (.exit 0))) (.seq (.block 1 (.seq (.ops [.m 13 3, .m 14 0, .m 15 4, .i 16 (.indexAddr 3 (.t 14) (.t 15)), .L 17 3 16, .i 18 (.buildSlice false 77 3 [.t 17]), .i 19 (.append true 77 3 56 (.t 13) (.t 18)), .m 3 19]) (.seq (.ops [.m 20 3, .i 21 (.len false (.t 20)), .i 22 (.bin .sub (.t 21) (.n 1)), .m 5 22]) (.block 2 (.loop (.seq (.seq (.ops [.m 23 5, .i 24 (.bin .gtr (.t 23) (.n 0)), .m 25 24, .mk (some 26) (some (25, true)) (.mov (.t 3)) .no, .mk (some 27) (some (25, true)) (.mov (.t 5)) .no, .mk (some 28) (some (25, true)) (.indexAddr 3 (.t 26) (.t 27)) .no, .mk (some 29) (some (25, true)) (.fieldAddr 0 (.t 28)) .no, .mk (some 30) (some (25, true)) (.load false 1 (.t 29)) .no, .mk (some 31) (some (25, true)) (.mov (.t 3)) .no, .mk (some 32) (some (25, true)) (.mov (.t 5)) .no, .mk (some 33) (some (25, true)) (.bin .sub (.t 32) (.n 1)) .no, .mk (some 34) (some (25, true)) (.indexAddr 3 (.t 31) (.t 33)) .no, .mk (some 35) (some (25, true)) (.fieldAddr 0 (.t 34)) .no, .mk (some 36) (some (25, true)) (.load false 1 (.t 35)) .no, .mk (some 37) (some (25, true)) (.bin .lss (.t 30) (.t 36)) .no, .i 38 (.pick (.t 25) (.t 37) (.c (.one (.st (.bool false)))))]) (.cond (.t 38) .skip (.exit 2))) (.seq (.block 3 (.seq (.ops [.m 41 3, .m 42 5, .i 43 (.indexAddr 3 (.t 41) (.t 42)), .L 44 3 43, .i 6 (.alloc 77 [.st (.str (ByteArray.mk (#[]))), .st (.str (ByteArray.mk (#[]))), .full []]), .s 3 6 44]) (.seq (.ops [.m 45 3, .m 46 5, .m 47 3, .m 48 5, .i 49 (.bin .sub (.t 48) (.n 1)), .i 50 (.indexAddr 3 (.t 47) (.t 49)), .L 51 3 50, .i 52 (.indexAddr 3 (.t 45) (.t 46)), .s 3 52 51]) (.ops [.m 53 3, .m 54 5, .i 55 (.bin .sub (.t 54) (.n 1)), .L 56 3 6, .i 57 (.indexAddr 3 (.t 53) (.t 55)), .s 3 57 56])))) (.ops [.m 39 5, .i 40 (.bin .sub (.t 39) (.n 1)), .m 5 40])))))))) (.ops [.m 11 4, .i 12 (.bin .add (.t 11) (.n 1)), .m 4 12])))))) (.seq (.ops [.m 58 3, .m 2 58]) .ret))))
theorem ok_R_Sorted : OkF Try.prog 44 59 [28, 34, 43, 50, 52, 57, 19] ir_R_Sorted [.t 2] := .of Try.func44 rfl rfl (by kernel_rfl) rfl

end Go.Proofs.Ytipddfhkbkihnaa
