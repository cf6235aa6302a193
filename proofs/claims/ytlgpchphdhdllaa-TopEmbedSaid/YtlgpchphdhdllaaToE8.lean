/-
  Part 8 of the texts. Conditions: none.
-/
import Derived.Test.YtlgpchphdhdllaaToE7
import Derived.Shelf.SlSortCmp.WholeK
import Derived.Shelf.SlSortCmp.NoneTotal
import Derived.Test.YtlgpchphdhdllaaProg
namespace Go.Proofs.Ytlgpchphdhdllaa
open Go Go.RowKit
set_option linter.unusedVariables false
set_option linter.unusedSimpArgs false
set_option maxHeartbeats 800000
theorem Pe (l : List Bd) (n : ByteArray) (i0 : Nat) (hi0 : i0 ≤ l.length) (h40 : l.length ≤ 100000) (hlo : ∀ k b, l[k]? = some b → k < i0 → sLt b.1 n = true) (hhi : ∀ k b, l[k]? = some b → i0 ≤ k → sLt b.1 n = false) (r : Nat) (hr : 1000 ≤ r) (S : AA) (sr : S r = some (BS l)) :
  An Try.prog 56 [.one (.row r l.length), CO n, .one (.fn 57 [])] S (.tup [Ab i0, Aj (Bm l n i0)]) S := by
 have hplain : Bo Try.prog 57 = true := by kernel_rfl
 refine Av.acS fun hS C hC => ?_
 unfold Ad
 repeat' with_reducible first | refine W ?_ | refine Z0 ?_ | ((first | refine Wo fun K hK => ?_ | refine Wq ?_ | refine Wr ?_); (try simp only [go_sem, fN, seval, eT, iR, sr]); (repeat refine Ai ?_); (try (refine hK _ ?_; clear hK K)))
 refine IWP.loop (fun m s => ∃ i j : Nat, i ≤ i0 ∧ i0 ≤ j ∧ j ≤ l.length ∧ m = j - i ∧ s.env 0 = .one (.row r l.length) ∧ s.env 1 = CO n ∧ s.env 2 = .one (.fn 57 []) ∧ s.env 8 = Ab l.length ∧ s.env 9 = Ab i ∧ s.env 10 = Ab j ∧ s.S = S) l.length ⟨0, l.length, Nat.zero_le _, hi0, Nat.le_refl _, rfl, rfl, rfl, rfl, rfl, rfl, rfl, rfl⟩ ?_
 rintro m ⟨env, S1⟩ ⟨i, j, hi, hj, hjl, rfl, e0, e1, e2, e8, e9, e10, hS1⟩
 simp only at e0 e1 e2 e8 e9 e10 hS1
 subst hS1
 by_cases hlt : (i : Int) < j
 ·obtain ⟨z1, z2, z3⟩ := RU (show i < j by omega)
  obtain ⟨b, hb⟩ := Ar (show (i + j) / 2 < l.length by omega)
  repeat' with_reducible first | refine W ?_ | refine Z0 ?_ | ((first | refine Wo fun K hK => ?_ | refine Wq ?_ | refine Wr ?_); (try simp only [go_sem, fN, seval, eT, iR, e0, e1, e2, e8, e9, e10, hlt, sr]); (repeat refine Ai ?_); (try (refine hK _ ?_; clear hK K)))
  with_reducible refine Wp ?_
  simp only [go_sem, fN, seval, true_implies, false_implies, implies_true, dT, dF, nL, hlt]
  (try with_reducible refine iC ?_)
  have hbits : (1 : Nat) ≤ IntKind.u64.bits := by show 1 ≤ 64; omega
  have hz0 : (0 : Int) ≤ (((i + j) / 2 : Nat) : Int) := Int.natCast_nonneg _
  repeat' with_reducible first | refine W ?_ | refine Z0 ?_ | ((first | refine Wo fun K hK => ?_ | refine Wq ?_ | refine Wr ?_); (try simp only [go_sem, fN, seval, eT, iR, e0, e1, e2, e8, e9, e10, hlt, z1, z3, Mt, hbits, hb, CY, hplain, sr]); (repeat refine Ai ?_); (try (refine hK _ ?_; clear hK K)))
  refine ⟨_, _, G6 b n _, ?_⟩
  cases hc : sLt b.1 n with
  | true =>
   have hneg : CP b.1 n < 0 := Bq.2 hc
   repeat' with_reducible first | refine W ?_ | refine Z0 ?_ | ((first | refine Wo fun K hK => ?_ | refine Wq ?_ | refine Wr ?_); (try simp only [go_sem, fN, seval, eT, iR, hneg]); (repeat refine Ai ?_); (try (refine hK _ ?_; clear hK K)))
   with_reducible refine Wp ?_
   simp only [go_sem, fN, seval, true_implies, false_implies, implies_true, dT, dF, nL, hneg]
   (try with_reducible refine iC ?_)
   repeat' with_reducible first | refine W ?_ | refine Z0 ?_ | ((first | refine Wo fun K hK => ?_ | refine Wq ?_ | refine Wr ?_); (try simp only [go_sem, fN, seval, eT, iR, e0, e1, e2, e8, e9, e10]); (repeat refine Ai ?_); (try (refine hK _ ?_; clear hK K)))
   refine AI ⟨j - ((i + j) / 2 + 1), by omega, (i + j) / 2 + 1, j, ?_, hj, hjl, rfl, ?_⟩
   ·rcases Nat.lt_or_ge ((i + j) / 2) i0 with h | h
    ·omega
    ·rw [hhi _ b hb h] at hc; cases hc
   ·simp only [go_sem, fN, seval, eT, iR, e0, e1, e2, e8, e9, e10]
    congr 3
  | false =>
   have hneg : ¬ CP b.1 n < 0 := fun h => by rw [Bq.1 h] at hc; cases hc
   repeat' with_reducible first | refine W ?_ | refine Z0 ?_ | ((first | refine Wo fun K hK => ?_ | refine Wq ?_ | refine Wr ?_); (try simp only [go_sem, fN, seval, eT, iR, hneg]); (repeat refine Ai ?_); (try (refine hK _ ?_; clear hK K)))
   with_reducible refine Wp ?_
   simp only [go_sem, fN, seval, true_implies, false_implies, implies_true, dT, dF, nL, hneg]
   (try with_reducible refine iC ?_)
   repeat' with_reducible first | refine W ?_ | refine Z0 ?_ | ((first | refine Wo fun K hK => ?_ | refine Wq ?_ | refine Wr ?_); (try simp only [go_sem, fN, seval, eT, iR, e0, e1, e2, e8, e9, e10]); (repeat refine Ai ?_); (try (refine hK _ ?_; clear hK K)))
   refine AI ⟨(i + j) / 2 - i, by omega, i, (i + j) / 2, hi, ?_, by omega, rfl, ?_⟩
   ·rcases Nat.lt_or_ge ((i + j) / 2) i0 with h | h
    ·rw [hlo _ b hb h] at hc; cases hc
    ·omega
   ·simp only [go_sem, fN, seval, eT, iR, e0, e1, e2, e8, e9, e10]
 ·have hii : i = i0 := by omega
  subst hii
  have hjj : j = i := by omega
  subst hjj
  repeat' with_reducible first | refine W ?_ | refine Z0 ?_ | ((first | refine Wo fun K hK => ?_ | refine Wq ?_ | refine Wr ?_); (try simp only [go_sem, fN, seval, eT, iR, e0, e1, e2, e8, e9, e10, hlt, sr]); (repeat refine Ai ?_); (try (refine hK _ ?_; clear hK K)))
  with_reducible refine Wp ?_
  simp only [go_sem, fN, seval, true_implies, false_implies, implies_true, dT, dF, nL, hlt]
  (try with_reducible refine iC ?_)
  by_cases hil : (j : Int) < l.length
  ·have hil' : j < l.length := by omega
   obtain ⟨b, hb⟩ := Ar hil'
   repeat' with_reducible first | refine W ?_ | refine Z0 ?_ | ((first | refine Wo fun K hK => ?_ | refine Wq ?_ | refine Wr ?_); (try simp only [go_sem, fN, seval, eT, iR, e0, e1, e2, e8, e9, e10, hil, hil', hb, CY, hplain, sr]); (repeat refine Ai ?_); (try (refine hK _ ?_; clear hK K)))
   refine ⟨_, _, G6 b n _, ?_⟩
   repeat' with_reducible first | refine W ?_ | refine Z0 ?_ | ((first | refine Wo fun K hK => ?_ | refine Wq ?_ | refine Wr ?_); (try simp only [go_sem, fN, seval, eT, iR]); (repeat refine Ai ?_); (try (refine hK _ ?_; clear hK K)))
   refine A3 (.tup [Ab j, Aj (Bm l n j)]) hS trivial ?_ ?_ fun _ _ => rfl
   ·simp only [go_sem, fN, seval, eT, iR, AB, AF, AP, e9, e10]
    unfold Bm
    rw [hb]
    simp only [Im]
   ·rfl
  ·repeat' with_reducible first | refine W ?_ | refine Z0 ?_ | ((first | refine Wo fun K hK => ?_ | refine Wq ?_ | refine Wr ?_); (try simp only [go_sem, fN, seval, eT, iR, e0, e1, e2, e8, e9, e10, hil]); (repeat refine Ai ?_); (try (refine hK _ ?_; clear hK K)))
   refine A3 (.tup [Ab j, Aj (Bm l n j)]) hS trivial ?_ ?_ fun _ _ => rfl
   ·simp only [go_sem, fN, seval, eT, iR, AB, AF, AP, e9, e10]
    unfold Bm
    rw [List.getElem?_eq_none (by omega)]
   ·rfl
theorem Pi (l : List Bd) (h40 : l.length ≤ 100000) (ho : A4 l) (n : ByteArray) (r : Nat) (hr : 1000 ≤ r) (S : AA) (sr : S r = some (BS l)) : An Try.prog 49 [.one (.row r l.length), CO n] S (.tup [aTm ((lookup l n).getD Tm.nil), Aj (lookup l n).isSome]) S := by
 obtain ⟨i, hi, hlo, hhi, _⟩ := Kl l h40 ho n
 refine HV.acS fun hS C hC => ?_
 unfold Ea
 have n4 : S 4 = none := AQ hS (by omega)
 have r4 : ¬ r = 4 := by omega
 repeat' with_reducible first | refine W ?_ | refine Z0 ?_ | ((first | refine Wo fun K hK => ?_ | refine Wq ?_ | refine Wr ?_); (try simp only [go_sem, fN, seval, eT, iR, n4]); (repeat refine Ai ?_); (try (refine hK _ ?_; clear hK K)))
 refine ⟨_, [(r, BS l)], CQ (by (simp only [go_sem, fN, seval, eT, iR, r4, sr])), fun T hT => Pe l n i hi h40 hlo hhi (up1 r) (A5 r) (upS T) (by rw [A7, hT _ (List.mem_singleton.2 rfl)]; rfl), ?_⟩
 rcases F7 hlo hhi ho with ⟨b, hb, he, hl⟩ | ⟨hf, hl⟩
 ·have hf : Bm l n i = true := by unfold Bm; rw [hb]; exact decide_eq_true he
  have hil := CK hb
  repeat' with_reducible first | refine W ?_ | refine Z0 ?_ | ((first | refine Wo fun K hK => ?_ | refine Wq ?_ | refine Wr ?_); (try simp only [go_sem, fN, seval, eT, iR, hf]); (repeat refine Ai ?_); (try (refine hK _ ?_; clear hK K)))
  with_reducible refine Wp ?_
  simp only [go_sem, fN, seval, true_implies, false_implies, implies_true, dT, dF, nL, hf]
  (try with_reducible refine iC ?_)
  repeat' with_reducible first | refine W ?_ | refine Z0 ?_ | ((first | refine Wo fun K hK => ?_ | refine Wq ?_ | refine Wr ?_); (try simp only [go_sem, fN, seval, eT, iR, hb, CY, sr, r4, hil]); (repeat refine Ai ?_); (try (refine hK _ ?_; clear hK K)))
  refine A3 (.tup [aTm b.2, Aj true]) hS trivial ?_ ?_ fun k hk => ?_
  ·simp only [go_sem, fN, seval, eT, iR, AB, AF, AP]
  ·simp only [go_sem, fN, seval, eT, iR]
   rw [hl]
   rfl
  ·have k4 : ¬ k = 4 := by omega
   simp only [go_sem, fN, seval, eT, iR, k4]
 ·repeat' with_reducible first | refine W ?_ | refine Z0 ?_ | ((first | refine Wo fun K hK => ?_ | refine Wq ?_ | refine Wr ?_); (try simp only [go_sem, fN, seval, eT, iR, hf]); (repeat refine Ai ?_); (try (refine hK _ ?_; clear hK K)))
  with_reducible refine Wp ?_
  simp only [go_sem, fN, seval, true_implies, false_implies, implies_true, dT, dF, nL, hf]
  (try with_reducible refine iC ?_)
  repeat' with_reducible first | refine W ?_ | refine Z0 ?_ | ((first | refine Wo fun K hK => ?_ | refine Wq ?_ | refine Wr ?_); (try simp only [go_sem, fN, seval, eT, iR]); (repeat refine Ai ?_); (try (refine hK _ ?_; clear hK K)))
  refine A3 (.tup [.agg [.st (.str ⟨#[]⟩), .full []], Aj false]) hS trivial ?_ ?_ fun k hk => ?_
  ·simp only [go_sem, fN, seval, eT, iR, AB, AF, AP]
  ·simp only [go_sem, fN, seval, eT, iR]
   rw [hl]
   rfl
  ·have k4 : ¬ k = 4 := by omega
   simp only [go_sem, fN, seval, eT, iR, k4]
abbrev DS (r n : Nat) (left : Int) : AL := .box 88 [.row r n, .st (.int .i64 left)]
theorem Hm (s : List Bd) (h40 : s.length ≤ 100000) (ho : A4 s) (turn : Bool) (f : Tm → Tm) (t : Tm) (hl : turn = true → lookup s t.name = none)
  (ih : ∀ a ∈ t.args, ∀ (a0 r : Nat) (left : Int) (S : AA), 1000 ≤ a0 → 1000 ≤ r → ¬ r = a0 → 0 ≤ left → left ≤ 1000000 → S a0 = some (DS r s.length left) → S r = some (BS s) →
   An Try.prog 42 [.one (.ptr a0 1 0 0), aTm a, Aj turn] S (aTm (CI (f a) left).1) (AK S a0 (some (DS r s.length (CI (f a) left).2))))
  (a0 r : Nat) (left : Int) (S : AA) (ha0 : 1000 ≤ a0) (hr0 : 1000 ≤ r) (hra : ¬ r = a0) (h0 : 0 ≤ left) (h1 : left ≤ 1000000) (hSa : S a0 = some (DS r s.length left)) (hSr : S r = some (BS s)) :
  An Try.prog 42 [.one (.ptr a0 1 0 0), aTm t, Aj turn] S (aTm (CI (.mk t.name (t.args.map f)) left).1) (AK S a0 (some (DS r s.length (CI (.mk t.name (t.args.map f)) left).2))) := by
 refine Bb.acS fun hS C hC => ?_
 have hu : (Tm.mk t.name (t.args.map f)).size = 1 + Tm.sizes (t.args.map f) := rfl
 have hlen := Tm.length_le (t.args.map f)
 rw [List.length_map] at hlen
 have hhigh : ∀ left, (DS r s.length left).high = true := fun left => by
  show ((AC.row r s.length).high && AC.highs [.st (.int .i64 left)]) = true
  rw [Fz hr0]
  rfl
 have n4 : S 4 = none := AQ hS (by omega)
 have n6 : S 6 = none := AQ hS (by omega)
 have n7 : S 7 = none := AQ hS (by omega)
 have n9 : S 9 = none := AQ hS (by omega)
 have n11 : S 11 = none := AQ hS (by omega)
 have n900 : S 900 = none := AQ hS (by omega)
 have d4 : ¬ 4 = a0 := by omega
 have d6 : ¬ 6 = a0 := by omega
 have d7 : ¬ 7 = a0 := by omega
 have d9 : ¬ 9 = a0 := by omega
 have d11 : ¬ 11 = a0 := by omega
 have d900 : ¬ 900 = a0 := by omega
 have e4 : ¬ a0 = 4 := by omega
 have e6 : ¬ a0 = 6 := by omega
 have e7 : ¬ a0 = 7 := by omega
 have e9 : ¬ a0 = 9 := by omega
 have e11 : ¬ a0 = 11 := by omega
 have e900 : ¬ a0 = 900 := by omega
 have f4 : ¬ r = 4 := by omega
 have f6 : ¬ r = 6 := by omega
 have f7 : ¬ r = 7 := by omega
 have f9 : ¬ r = 9 := by omega
 have f11 : ¬ r = 11 := by omega
 have f900 : ¬ r = 900 := by omega
 unfold BC
 cases turn
 case' false =>
  repeat' with_reducible first | refine W ?_ | refine Z0 ?_ | ((first | refine Wo fun K hK => ?_ | refine Wq ?_ | refine Wr ?_); (try simp only [go_sem, fN, seval, eT, iR, hSa, n4, n6, n7, d4, d6, d7, e4, e6, e7]); (repeat refine Ai ?_); (try (refine hK _ ?_; clear hK K)))
  with_reducible refine Wp ?_
  simp only [go_sem, fN, seval, true_implies, false_implies, implies_true, dT, dF, nL]
  (try with_reducible refine iC ?_)
  repeat' with_reducible first | refine W ?_ | refine Z0 ?_ | ((first | refine Wo fun K hK => ?_ | refine Wq ?_ | refine Wr ?_); (try simp only [go_sem, fN, seval, eT, iR, hSa, n4, n6, n7, n9, d4, d6, d7, d9, e4, e6, e7, e9]); (repeat refine Ai ?_); (try (refine hK _ ?_; clear hK K)))
 case' true =>
  have hln := hl rfl
  repeat' with_reducible first | refine W ?_ | refine Z0 ?_ | ((first | refine Wo fun K hK => ?_ | refine Wq ?_ | refine Wr ?_); (try simp only [go_sem, fN, seval, eT, iR, hSa, n4, n6, n7, d4, d6, d7, e4, e6, e7]); (repeat refine Ai ?_); (try (refine hK _ ?_; clear hK K)))
  with_reducible refine Wp ?_
  simp only [go_sem, fN, seval, true_implies, false_implies, implies_true, dT, dF, nL]
  (try with_reducible refine iC ?_)
  repeat' with_reducible first | refine W ?_ | refine Z0 ?_ | ((first | refine Wo fun K hK => ?_ | refine Wq ?_ | refine Wr ?_); (try simp only [go_sem, fN, seval, eT, iR, hSa, n4, n6, n7, d4, d6, d7, e4, e6, e7]); (repeat refine Ai ?_); (try (refine hK _ ?_; clear hK K)))
  refine ⟨_, [(r, BS s)], CQ (by (simp only [go_sem, fN, seval, eT, iR, f4, f6, f7, hSr])), fun T hT => Pi s h40 ho t.name (up1 r) (A5 r) (upS T) (by rw [A7, hT _ (List.mem_singleton.2 rfl)]; rfl), ?_⟩
  repeat' with_reducible first | refine W ?_ | refine Z0 ?_ | ((first | refine Wo fun K hK => ?_ | refine Wq ?_ | refine Wr ?_); (try simp only [go_sem, fN, seval, eT, iR, hln, n7]); (repeat refine Ai ?_); (try (refine hK _ ?_; clear hK K)))
  with_reducible refine Wp ?_
  simp only [go_sem, fN, seval, true_implies, false_implies, implies_true, dT, dF, nL]
  (try with_reducible refine iC ?_)
  repeat' with_reducible first | refine W ?_ | refine Z0 ?_ | ((first | refine Wo fun K hK => ?_ | refine Wq ?_ | refine Wr ?_); (try simp only [go_sem, fN, seval, eT, iR, hSa, n4, n6, n7, n9, d4, d6, d7, d9, e4, e6, e7, e9]); (repeat refine Ai ?_); (try (refine hK _ ?_; clear hK K)))
 all_goals
  by_cases hz : left = 0
  ·subst hz
   have hno : ¬ ((Tm.mk t.name (t.args.map f)).size : Int) ≤ 0 := by rw [hu]; omega
   rw [Cv hno]
   with_reducible refine Wp ?_
   simp only [go_sem, fN, seval, true_implies, false_implies, implies_true, dT, dF, nL]
   (try with_reducible refine iC ?_)
   repeat' with_reducible first | refine W ?_ | refine Z0 ?_ | ((first | refine Wo fun K hK => ?_ | refine Wq ?_ | refine Wr ?_); (try simp only [go_sem, fN, seval, eT, iR, hSa, n4, n6, n7, n9, d4, d6, d7, d9, e4, e6, e7, e9]); (repeat refine Ai ?_); (try (refine hK _ ?_; clear hK K)))
   refine CX (.agg [.st (.str ⟨#[]⟩), .full []]) hS ha0 (hhigh _) trivial ?_ ?_ ?_ fun i hi hne => ?_
   ·simp only [go_sem, fN, seval, eT, iR, AB, AF, AP, e4, e6, e7, e9, d4, d6, d7, d9]
   ·simp only [go_sem, fN, seval, eT, iR, Tm.nil]
    rfl
   ·simp only [go_sem, fN, seval, eT, iR, e4, e6, e7, e9]
   ·have i4 : ¬ i = 4 := by omega
    have i6 : ¬ i = 6 := by omega
    have i7 : ¬ i = 7 := by omega
    simp only [go_sem, fN, seval, eT, iR, i4, i6, i7, hne]
  have hz' : ¬ left - 1 < 0 := by omega
  with_reducible refine Wp ?_
  simp only [go_sem, fN, seval, true_implies, false_implies, implies_true, dT, dF, nL, hz']
  (try with_reducible refine iC ?_)
  repeat' with_reducible first | refine W ?_ | refine Z0 ?_ | ((first | refine Wo fun K hK => ?_ | refine Wq ?_ | refine Wr ?_); (try simp only [go_sem, fN, seval, eT, iR, hSa, n4, n6, n7, n9, d4, d6, d7, d9, e4, e6, e7, e9]); (repeat refine Ai ?_); (try (refine hK _ ?_; clear hK K)))
  refine IWP.ghost (Ak.ownC 9 1 900 25 2 (xs := ([] : List Tm).map Ay) (by simp only [go_sem, fN, seval, eT, iR, d9, d4, d6, d7, e9]; rfl) rfl (by simp only [go_sem, fN, seval, eT, iR, n900, d900]) FC) ?_
  refine IWP.loopD [11] (fun m x => ∃ k, k ≤ t.args.length ∧ m = t.args.length - k ∧ (Tm.sizes ((t.args.take k).map f) : Int) ≤ left - 1 ∧ x.env 0 = .one (.ptr a0 1 0 0) ∧ x.env 2 = Aj _ ∧ x.env 6 = .one (.ptr 6 1 0 0) ∧ x.env 9 = .one (.ptr 9 1 0 0) ∧ x.env 44 = .one (.st (.list (t.args.map Ay))) ∧ x.env 45 = Ab t.args.length ∧ x.env 46 = Ab k ∧
    x.S 6 = some (.box 25 [.st (.str ⟨#[]⟩), .full []]) ∧ x.S 9 = some (.box 25 [.st (.str t.name), .row 900 k]) ∧ x.S 900 = some (.arow 25 2 (((t.args.take k).map f).map Ay)) ∧ x.S 11 = none ∧ x.S a0 = some (DS r s.length (left - 1 - Tm.sizes ((t.args.take k).map f))) ∧ ∀ i, 1000 ≤ i → i ≠ a0 → x.S i = S i)
   t.args.length ⟨0, Nat.zero_le _, rfl, by show (0 : Int) ≤ _; omega, rfl, rfl, rfl, rfl, rfl, rfl, rfl, by simp only [go_sem, fN, seval, eT, iR, d6, d4, d7, d9, e6], by (simp only [go_sem, fN, seval, eT, iR, d9]); rfl, by simp only [go_sem, fN, seval, eT, iR, e9], by simp only [go_sem, fN, seval, eT, iR, n11, d11], by (simp only [go_sem, fN, seval, eT, iR, e9, e900]); simp [Tm.sizes], fun i hi hne => ?_⟩ ?_
  ·have i4 : ¬ i = 4 := by omega
   have i6 : ¬ i = 6 := by omega
   have i7 : ¬ i = 7 := by omega
   have i9 : ¬ i = 9 := by omega
   have i900 : ¬ i = 900 := by omega
   simp only [go_sem, fN, seval, eT, iR, i4, i6, i7, i9, i900, hne]
  rintro m ⟨env, S1⟩ ⟨k, hk, rfl, hsz, e0, e2, e6', e9', e44, e45, e46, s6, s9, s900, s11, sa, hrest⟩
  simp only at e0 e2 e6' e9' e44 e45 e46 s6 s9 s900 s11 sa hrest
  have hlk : (t.args.take k).length = k := by rw [List.length_take]; omega
  have hle := Tm.sizes_take_le (t.args.map f) k
  rw [← List.map_take] at hle
  have hkl := Tm.length_le ((t.args.take k).map f)
  rw [List.length_map, hlk] at hkl
  have hSr1 : S1 r = some (BS s) := (hrest r hr0 hra).trans hSr
  by_cases hlt : (k : Int) < t.args.length
  ·obtain ⟨a, ha⟩ := Ar (show k < t.args.length by omega)
   have ha' : (t.args.map f)[k]? = some (f a) := by rw [List.getElem?_map, ha]; rfl
   have z1 := Tm.sizes_take ha'
   have z2 := Tm.sizes_take_le (t.args.map f) (k + 1)
   rw [← List.map_take, ← List.map_take] at z1
   rw [← List.map_take] at z2
   repeat' with_reducible first | refine W ?_ | refine Z0 ?_ | ((first | refine Wo fun K hK => ?_ | refine Wq ?_ | refine Wr ?_); (try simp only [go_sem, fN, seval, eT, iR, e0, e2, e6', e9', e44, e45, e46, s6, s9, s900, s11, sa, hlt]); (repeat refine Ai ?_); (try (refine hK _ ?_; clear hK K)))
   with_reducible refine Wp ?_
   simp only [go_sem, fN, seval, true_implies, false_implies, implies_true, dT, dF, nL, hlt]
   (try with_reducible refine iC ?_)
   repeat' with_reducible first | refine W ?_ | refine Z0 ?_ | ((first | refine Wo fun K hK => ?_ | refine Wq ?_ | refine Wr ?_); (try simp only [go_sem, fN, seval, eT, iR, e0, e2, e6', e9', e44, e45, e46, s6, s9, s900, s11, sa, d11, d9, e11, ha]); (repeat refine Ai ?_); (try (refine hK _ ?_; clear hK K)))
   have hcall := ih a (Ae ha) (up1 a0) (up1 r) (left - 1 - Tm.sizes ((t.args.take k).map f)) (upS (AK (AK S1 11 (some (.box 25 [.st (.str ⟨#[]⟩), .full []]))) 11 (some (.box 25 [.st (.str a.name), .st (.list (a.args.map Ay))])))) (A5 a0) (A5 r) (by unfold up1; omega) (by omega) (by omega) (by rw [A7, AM _ e11, AM _ e11, sa]; rfl) (by rw [A7, AM _ f11, AM _ f11, hSr1]; rfl)
   by_cases hfit : ((f a).size : Int) ≤ left - 1 - Tm.sizes ((t.args.take k).map f)
   ·rw [C9 hfit] at hcall
    refine ⟨_, _, hcall, ?_⟩
    have hge : ¬ left - 1 - Tm.sizes ((t.args.take k).map f) - (f a).size < 0 := by omega
    repeat' with_reducible first | refine W ?_ | refine Z0 ?_ | ((first | refine Wo fun K hK => ?_ | refine Wq ?_ | refine Wr ?_); (try simp only [go_sem, fN, seval, eT, iR, e0, e2, e6', e9', e44, e45, e46, s6, s9, s900, s11, d11, d9, e11, e9, e900, d900, hlk]); (repeat refine Ai ?_); (try (refine hK _ ?_; clear hK K)))
    with_reducible refine Wp ?_
    simp only [go_sem, fN, seval, true_implies, false_implies, implies_true, dT, dF, nL, hge]
    (try with_reducible refine iC ?_)
    repeat' with_reducible first | refine W ?_ | refine Z0 ?_ | ((first | refine Wo fun K hK => ?_ | refine Wq ?_ | refine Wr ?_); (try simp only [go_sem, fN, seval, eT, iR, e0, e2, e6', e9', e44, e45, e46, s6, s9, s900, s11, d11, d9, e11]); (repeat refine Ai ?_); (try (refine hK _ ?_; clear hK K)))
    refine AI ⟨t.args.length - (k + 1), by omega, k + 1, by omega, rfl, ?_⟩
    have hib : (a0 == 11) = false := by simp; omega
    have hrb : (r == 11) = false := by simp; omega
    have hzz : ((Tm.sizes ((t.args.take (k + 1)).map f) : Nat) : Int) = Tm.sizes ((t.args.take k).map f) + (f a).size := by omega
    refine ⟨by omega, ?_⟩
    simp only [go_sem, fN, seval, AS.drop, BW, AC.clears, AC.clear, AC.highs, AC.high, Bool.not_false, Bool.true_and, Bool.and_self, AV.purge, AV.purges, AC.purge, AL.purge, List.contains_cons, List.contains_nil, Nat.reduceBEq, Bool.or_self, Bool.or_false, Bool.false_or, Bool.or_true, eT, iR, e0, e2, e6', e9', e44, e45, s6, s9, s900, d11, d9, e11, e9, e900, d900, d6, hib, hrb]
    refine ⟨by congr 3, by rw [Au ha, List.map_append, List.map_append, List.map_cons, List.map_nil, List.map_cons, List.map_nil, Ac], ?_, fun i hi hne => ?_⟩
    ·congr 5
     omega
    ·have i9 : ¬ i = 9 := by omega
     have i11 : ¬ i = 11 := by omega
     have i900 : ¬ i = 900 := by omega
     have i11b : (i == 11) = false := by simp; omega
     simp only [go_sem, fN, seval, AS.drop, BW, AC.clears, AC.clear, AC.highs, AC.high, Bool.not_false, Bool.true_and, Bool.and_self, AV.purge, AV.purges, AC.purge, AL.purge, List.contains_cons, List.contains_nil, Nat.reduceBEq, Bool.or_self, Bool.or_false, Bool.false_or, Bool.or_true, eT, iR, i9, i11, i11b, i900, hne]
     rw [hrest i hi hne]
     exact Pl (by decide) fun b hb => (hS i b hb).2
   ·have hno : ¬ ((Tm.mk t.name (t.args.map f)).size : Int) ≤ left := by rw [hu]; omega
    rw [Cv hfit] at hcall
    refine ⟨_, _, hcall, ?_⟩
    repeat' with_reducible first | refine W ?_ | refine Z0 ?_ | ((first | refine Wo fun K hK => ?_ | refine Wq ?_ | refine Wr ?_); (try simp only [go_sem, fN, seval, eT, iR, e0, e2, e6', e9', e44, e45, e46, s6, s9, s900, s11, d11, d9, e11, e9, e900, d900, hlk]); (repeat refine Ai ?_); (try (refine hK _ ?_; clear hK K)))
    with_reducible refine Wp ?_
    simp only [go_sem, fN, seval, true_implies, false_implies, implies_true, dT, dF, nL]
    (try with_reducible refine iC ?_)
    repeat' with_reducible first | refine W ?_ | refine Z0 ?_ | ((first | refine Wo fun K hK => ?_ | refine Wq ?_ | refine Wr ?_); (try simp only [go_sem, fN, seval, eT, iR, e0, e2, e6', e9', e44, e45, e46, s6, s9, s900, s11, d11, d9, e11, e6, d6, d900, e900]); (repeat refine Ai ?_); (try (refine hK _ ?_; clear hK K)))
    rw [Cv hno]
    refine CX (.agg [.st (.str ⟨#[]⟩), .full []]) hS ha0 (hhigh _) trivial ?_ ?_ ?_ fun i hi hne => ?_
    ·simp only [go_sem, fN, seval, eT, iR, AB, AF, AP, e6', s6, e6, e9, e11, e900, d6, d9, d11, d900]
    ·simp only [go_sem, fN, seval, eT, iR, Tm.nil]
     rfl
    ·simp only [go_sem, fN, seval, eT, iR, e6, e9, e11, e900]
    ·have i6 : ¬ i = 6 := by omega
     have i9 : ¬ i = 9 := by omega
     have i11 : ¬ i = 11 := by omega
     have i900 : ¬ i = 900 := by omega
     simp only [go_sem, fN, seval, eT, iR, i6, i9, i11, i900, hne]
     exact hrest i hi hne
  ·have hall : t.args.take k = t.args := List.take_of_length_le (by omega)
   rw [hall] at hlk s900 hsz sa
   have hyes : ((Tm.mk t.name (t.args.map f)).size : Int) ≤ left := by rw [hu]; omega
   repeat' with_reducible first | refine W ?_ | refine Z0 ?_ | ((first | refine Wo fun K hK => ?_ | refine Wq ?_ | refine Wr ?_); (try simp only [go_sem, fN, seval, eT, iR, e0, e2, e6', e9', e44, e45, e46, s6, s9, s900, s11, sa, hlt]); (repeat refine Ai ?_); (try (refine hK _ ?_; clear hK K)))
   with_reducible refine Wp ?_
   simp only [go_sem, fN, seval, true_implies, false_implies, implies_true, dT, dF, nL, hlt]
   (try with_reducible refine iC ?_)
   repeat' with_reducible first | refine W ?_ | refine Z0 ?_ | ((first | refine Wo fun K hK => ?_ | refine Wq ?_ | refine Wr ?_); (try simp only [go_sem, fN, seval, eT, iR, e0, e2, e6', e9', e44, e45, e46, s6, s9, s900, s11, sa, d6]); (repeat refine Ai ?_); (try (refine hK _ ?_; clear hK K)))
   rw [C9 hyes]
   refine CX (.agg [.st (.str t.name), .row 900 k]) hS ha0 (hhigh _) trivial ?_ ?_ ?_ fun i hi hne => ?_
   ·simp only [go_sem, fN, seval, eT, iR, AB, AF, AP, e6', s6]
   ·simp only [go_sem, fN, seval, eT, iR, s900, hlk]
    rfl
   ·simp only [go_sem, fN, seval, eT, iR, e6, sa, hu]
    rw [show left - 1 - (Tm.sizes (t.args.map f) : Int) = left - ((1 + Tm.sizes (t.args.map f) : Nat) : Int) by omega]
   ·have i6 : ¬ i = 6 := by omega
    simp only [go_sem, fN, seval, eT, iR, i6]
    exact hrest i hi hne
theorem QW (s : List Bd) (h40 : s.length ≤ 100000) (ho : A4 s) (t : Tm) : ∀ (a0 r : Nat) (left : Int) (S : AA), 1000 ≤ a0 → 1000 ≤ r → ¬ r = a0 → 0 ≤ left → left ≤ 1000000 → S a0 = some (DS r s.length left) → S r = some (BS s) →
  An Try.prog 42 [.one (.ptr a0 1 0 0), aTm t, Aj false] S (aTm (CI t left).1) (AK S a0 (some (DS r s.length (CI t left).2))) := by
 induction h : SizeOf.sizeOf t using Nat.strongRecOn generalizing t with
 | _ N ih =>
 subst h
 intro a0 r left S h1 h1' h1'' h2 h3 h4 h5
 have := Hm s h40 ho false id t (fun h => by cases h) (fun a ha => ih _ (Tm.lt_of_arg ha) a rfl) a0 r left S h1 h1' h1'' h2 h3 h4 h5
 rw [List.map_id, Tm.eta] at this
 exact this
theorem P8 (s : List Bd) (h40 : s.length ≤ 100000) (ho : A4 s) (t : Tm) (hv : ∀ b ∈ s, AU b.1 = true) (hchk : t.chk = 0) : ∀ (a0 r : Nat) (left : Int) (S : AA), 1000 ≤ a0 → 1000 ≤ r → ¬ r = a0 → 0 ≤ left → left ≤ 1000000 → S a0 = some (DS r s.length left) → S r = some (BS s) →
  An Try.prog 42 [.one (.ptr a0 1 0 0), aTm t, Aj true] S (aTm (CI (t.on s) left).1) (AK S a0 (some (DS r s.length (CI (t.on s) left).2))) := by
 induction h : SizeOf.sizeOf t using Nat.strongRecOn generalizing t with
 | _ N ih =>
 subst h
 intro a0 r left S ha0 hr0 hra h0 h1 hSa hSr
 obtain ⟨c1, c2⟩ := Tm.chk_args hchk
 cases hl : lookup s t.name with
 | none =>
  have := Hm s h40 ho true (Tm.on s) t (fun _ => hl) (fun a ha => ih _ (Tm.lt_of_arg ha) a (c2 a ha) rfl) a0 r left S ha0 hr0 hra h0 h1 hSa hSr
  rw [← Tm.on_knot (.inl hl)] at this
  exact this
 | some x =>
  obtain ⟨b, hb, hbn, _⟩ := D3 hl
  have hargs := c1 (by rw [← hbn]; exact hv b hb)
  rw [Tm.on_leaf hl hargs]
  refine Bb.acS fun hS C hC => ?_
  have n4 : S 4 = none := AQ hS (by omega)
  have n6 : S 6 = none := AQ hS (by omega)
  have n7 : S 7 = none := AQ hS (by omega)
  have e4 : ¬ a0 = 4 := by omega
  have e6 : ¬ a0 = 6 := by omega
  have e7 : ¬ a0 = 7 := by omega
  have d4 : ¬ 4 = a0 := by omega
  have d6 : ¬ 6 = a0 := by omega
  have d7 : ¬ 7 = a0 := by omega
  have f4 : ¬ r = 4 := by omega
  have f6 : ¬ r = 6 := by omega
  have f7 : ¬ r = 7 := by omega
  have hhigh : ∀ left, (DS r s.length left).high = true := fun left => by
   show ((AC.row r s.length).high && AC.highs [.st (.int .i64 left)]) = true
   rw [Fz hr0]
   rfl
  unfold BC
  repeat' with_reducible first | refine W ?_ | refine Z0 ?_ | ((first | refine Wo fun K hK => ?_ | refine Wq ?_ | refine Wr ?_); (try simp only [go_sem, fN, seval, eT, iR, hSa, n4, n6, n7, d4, d6, d7, e4, e6, e7]); (repeat refine Ai ?_); (try (refine hK _ ?_; clear hK K)))
  with_reducible refine Wp ?_
  simp only [go_sem, fN, seval, true_implies, false_implies, implies_true, dT, dF, nL]
  (try with_reducible refine iC ?_)
  repeat' with_reducible first | refine W ?_ | refine Z0 ?_ | ((first | refine Wo fun K hK => ?_ | refine Wq ?_ | refine Wr ?_); (try simp only [go_sem, fN, seval, eT, iR, hSa, n4, n6, n7, d4, d6, d7, e4, e6, e7]); (repeat refine Ai ?_); (try (refine hK _ ?_; clear hK K)))
  refine ⟨_, [(r, BS s)], CQ (by (simp only [go_sem, fN, seval, eT, iR, f4, f6, f7, hSr])), fun T hT => Pi s h40 ho t.name (up1 r) (A5 r) (upS T) (by rw [A7, hT _ (List.mem_singleton.2 rfl)]; rfl), ?_⟩
  repeat' with_reducible first | refine W ?_ | refine Z0 ?_ | ((first | refine Wo fun K hK => ?_ | refine Wq ?_ | refine Wr ?_); (try simp only [go_sem, fN, seval, eT, iR, hl, n7]); (repeat refine Ai ?_); (try (refine hK _ ?_; clear hK K)))
  with_reducible refine Wp ?_
  simp only [go_sem, fN, seval, true_implies, false_implies, implies_true, dT, dF, nL]
  (try with_reducible refine iC ?_)
  repeat' with_reducible first | refine W ?_ | refine Z0 ?_ | ((first | refine Wo fun K hK => ?_ | refine Wq ?_ | refine Wr ?_); (try simp only [go_sem, fN, seval, eT, iR, hSa, n4, n6, n7, d4, d6, d7, e4, e6, e7]); (repeat refine Ai ?_); (try (refine hK _ ?_; clear hK K)))
  have hcall := fun S' h h' => QW s h40 ho x (up1 a0) (up1 r) left S' (A5 a0) (A5 r) (by unfold up1; omega) h0 h1 h h'
  refine ⟨_, _, hcall _ (by rw [A7]; (simp only [go_sem, fN, seval, eT, iR, e4, e6, e7, hSa])) (by rw [A7]; (simp only [go_sem, fN, seval, eT, iR, f4, f6, f7, hSr])), ?_⟩
  repeat' with_reducible first | refine W ?_ | refine Z0 ?_ | ((first | refine Wo fun K hK => ?_ | refine Wq ?_ | refine Wr ?_); (try simp only [go_sem, fN, seval, eT, iR, e4, e6, e7, d4, d6, d7]); (repeat refine Ai ?_); (try (refine hK _ ?_; clear hK K)))
  refine CX (aTm (CI x left).1) hS ha0 (hhigh _) trivial ?_ ?_ ?_ fun i hi hne => ?_
  ·simp only [go_sem, fN, seval, eT, iR, AB, AF, AP, e4, e6, e7, d4, d6, d7]
  ·simp only [go_sem, fN, seval, eT, iR]
  ·simp only [go_sem, fN, seval, eT, iR, e4, e6, e7]
  ·have i4 : ¬ i = 4 := by omega
   have i6 : ¬ i = 6 := by omega
   have i7 : ¬ i = 7 := by omega
   simp only [go_sem, fN, seval, eT, iR, i4, i6, i7, hne]
theorem Ri (s : List Bd) (h40 : s.length ≤ 100000) (ho : A4 s) (t : Tm) (hv : ∀ b ∈ s, AU b.1 = true) (hchk : t.chk = 0) (r : Nat) (hr : 1000 ≤ r) (S : AA) (sr : S r = some (BS s)) :
  An Try.prog 36 [.one (.row r s.length), aTm t] S (.tup [aTm (CN s t).1, Aj (CN s t).2]) S := by
 refine Jz.acS fun hS C hC => ?_
 unfold F1
 have n3 : S 3 = none := AQ hS (by omega)
 have n4 : S 4 = none := AQ hS (by omega)
 have n7 : S 7 = none := AQ hS (by omega)
 have n10 : S 10 = none := AQ hS (by omega)
 have r3 : ¬ r = 3 := by omega
 have r4 : ¬ r = 4 := by omega
 have r7 : ¬ r = 7 := by omega
 have r10 : ¬ r = 10 := by omega
 repeat' with_reducible first | refine W ?_ | refine Z0 ?_ | ((first | refine Wo fun K hK => ?_ | refine Wq ?_ | refine Wr ?_); (try simp only [go_sem, fN, seval, eT, iR, n3, n4, n7, n10]); (repeat refine Ai ?_); (try (refine hK _ ?_; clear hK K)))
 have hcall := fun S' h h' => P8 s h40 ho t hv hchk (up1 10) (up1 r) 2000 S' (A5 10) (A5 r) (by unfold up1; omega) (by omega) (by omega) h h'
 refine ⟨_, _, hcall _ (by rw [A7]; rfl) (by rw [A7]; (simp only [go_sem, fN, seval, eT, iR, r3, r4, r10, sr])), ?_⟩
 by_cases hfit : ((t.on s).size : Int) ≤ 2000
 ·have e : CN s t = (t.on s, true) := by
   unfold CN
   rw [if_pos (by omega)]
  rw [C9 hfit]
  have hge : (0 : Int) ≤ 2000 - (t.on s).size := by omega
  repeat' with_reducible first | refine W ?_ | refine Z0 ?_ | ((first | refine Wo fun K hK => ?_ | refine Wq ?_ | refine Wr ?_); (try simp only [go_sem, fN, seval, eT, iR, hge, n7]); (repeat refine Ai ?_); (try (refine hK _ ?_; clear hK K)))
  rw [e]
  refine A3 (.tup [aTm (t.on s), Aj true]) hS trivial ?_ ?_ fun k hk => ?_
  ·simp only [go_sem, fN, seval, eT, iR, AB, AF, AP]
  ·simp only [go_sem, fN, seval, eT, iR]
  ·have k3 : ¬ k = 3 := by omega
   have k4 : ¬ k = 4 := by omega
   have k7 : ¬ k = 7 := by omega
   have k10 : ¬ k = 10 := by omega
   simp only [go_sem, fN, seval, eT, iR, k3, k4, k7, k10]
 ·have e : CN s t = (Tm.nil, false) := by
   unfold CN
   rw [if_neg (by omega)]
  rw [Cv hfit]
  repeat' with_reducible first | refine W ?_ | refine Z0 ?_ | ((first | refine Wo fun K hK => ?_ | refine Wq ?_ | refine Wr ?_); (try simp only [go_sem, fN, seval, eT, iR, n7]); (repeat refine Ai ?_); (try (refine hK _ ?_; clear hK K)))
  rw [e]
  refine A3 (.tup [aTm Tm.nil, Aj false]) hS trivial ?_ ?_ fun k hk => ?_
  ·simp only [go_sem, fN, seval, eT, iR, AB, AF, AP]
  ·simp only [go_sem, fN, seval, eT, iR]
  ·have k3 : ¬ k = 3 := by omega
   have k4 : ¬ k = 4 := by omega
   have k7 : ¬ k = 7 := by omega
   have k10 : ¬ k = 10 := by omega
   simp only [go_sem, fN, seval, eT, iR, k3, k4, k7, k10]

open Go.Proofs Go.Shelf
def Try.sortBd_ren : Go.Shelf.Ren := ⟨fun | 6 => 43 | 15 => 51 | 14 => 50 | 28 => 66 | 29 => 67 | 20 => 58 | 21 => 59 | 22 => 60 | 23 => 61 | 24 => 62 | 25 => 63 | 26 => 64 | 27 => 65 | 46 => 69 | 47 => 70 | 48 => 71 | 49 => 72 | 50 => 73 | 57 => 74 | n => n, fun | 22 => 47 | 24 => 54 | 25 => 92 | 3 => 3 | 39 => 99 | 0 => 0 | 53 => 113 | 55 => 115 | 4 => 4 | 46 => 107 | 45 => 106 | 50 => 102 | 5 => 5 | 9 => 9 | 66 => 117 | 70 => 121 | 76 => 123 | 77 => 124 | n => n, fun | n => n⟩
theorem Try.sortBd : Go.Proofs.SlLaysF0.n6 Try.prog Try.sortBd_ren := {
 mixed := by kernel_rfl
 f6 := ⟨Try.f43.name, by decide, Try.func43.trans (congrArg some (by kernel_rfl))⟩
 f14 := ⟨Try.f50.name, by decide, Try.func50.trans (congrArg some (by kernel_rfl))⟩
 f15 := Try.func51.trans (congrArg some (by kernel_rfl))
 f20 := ⟨Try.f58.name, by decide, Try.func58.trans (congrArg some (by kernel_rfl))⟩
 f21 := ⟨Try.f59.name, by decide, Try.func59.trans (congrArg some (by kernel_rfl))⟩
 f22 := ⟨Try.f60.name, by decide, Try.func60.trans (congrArg some (by kernel_rfl))⟩
 f23 := ⟨Try.f61.name, by decide, Try.func61.trans (congrArg some (by kernel_rfl))⟩
 f24 := ⟨Try.f62.name, by decide, Try.func62.trans (congrArg some (by kernel_rfl))⟩
 f25 := ⟨Try.f63.name, by decide, Try.func63.trans (congrArg some (by kernel_rfl))⟩
 f26 := ⟨Try.f64.name, by decide, Try.func64.trans (congrArg some (by kernel_rfl))⟩
 f27 := ⟨Try.f65.name, by decide, Try.func65.trans (congrArg some (by kernel_rfl))⟩
 f28 := Try.func66.trans (congrArg some (by kernel_rfl))
 f29 := Try.func67.trans (congrArg some (by kernel_rfl))
 f46 := ⟨Try.f69.name, by decide, Try.func69.trans (congrArg some (by kernel_rfl))⟩
 f47 := Try.func70.trans (congrArg some (by kernel_rfl))
 f48 := Try.func71.trans (congrArg some (by kernel_rfl))
 f49 := ⟨Try.f72.name, by decide, Try.func72.trans (congrArg some (by kernel_rfl))⟩
 f50 := ⟨Try.f73.name, by decide, Try.func73.trans (congrArg some (by kernel_rfl))⟩
 f57 := ⟨Try.f74.name, by decide, Try.func74.trans (congrArg some (by kernel_rfl))⟩
 t0 := Try.underlying0
 a0 := Try.isAgg0
 z0 := Try.sizeOf0
 v0 := Try.zeroValue0
 t3 := Try.underlying3
 a3 := Try.isAgg3
 z3 := Try.sizeOf3
 v3 := Try.zeroValue3
 t4 := Try.underlying4
 a4 := Try.isAgg4
 z4 := Try.sizeOf4
 v4 := Try.zeroValue4
 t5 := Try.underlying5
 a5 := Try.isAgg5
 z5 := Try.sizeOf5
 v5 := Try.zeroValue5
 t9 := Try.underlying9
 a9 := Try.isAgg9
 z9 := Try.sizeOf9
 v9 := Try.zeroValue9
 t22 := Try.underlying47
 a22 := Try.isAgg47
 z22 := Try.sizeOf47
 v22 := Try.zeroValue47
 t25 := Try.underlying92
 a25 := Try.isAgg92
 z25 := Try.sizeOf92
 v25 := Try.zeroValue92
 t39 := Try.underlying99
 a39 := Try.isAgg99
 z39 := Try.sizeOf99
 v39 := Try.zeroValue99
 t45 := Try.underlying106
 a45 := Try.isAgg106
 z45 := Try.sizeOf106
 v45 := Try.zeroValue106
 t46 := Try.underlying107
 a46 := Try.isAgg107
 z46 := Try.sizeOf107
 v46 := Try.zeroValue107
 t50 := Try.underlying102
 a50 := Try.isAgg102
 z50 := Try.sizeOf102
 v50 := Try.zeroValue102
 t53 := Try.underlying113
 a53 := Try.isAgg113
 z53 := Try.sizeOf113
 v53 := Try.zeroValue113
 t55 := Try.underlying115
 a55 := Try.isAgg115
 z55 := Try.sizeOf115
 v55 := Try.zeroValue115
 t66 := Try.underlying117
 a66 := Try.isAgg117
 z66 := Try.sizeOf117
 v66 := Try.zeroValue117
 t70 := Try.underlying121
 a70 := Try.isAgg121
 z70 := Try.sizeOf121
 v70 := Try.zeroValue121
 t76 := Try.underlying123
 a76 := Try.isAgg123
 z76 := Try.sizeOf123
 v76 := Try.zeroValue123
 t77 := Try.underlying124
 a77 := Try.isAgg124
 z77 := Try.sizeOf124
 v77 := Try.zeroValue124 }

set_option maxRecDepth 100000
def Er : IR :=
 (.seq (.ops [.i 2 (.mov (.c (.one (.full []))))]) (.seq (.ops [.m 3 0, .i 4 (.callS 43 [.t 3, .c (.one (.fn 44 []))])]) (.seq (.ops [.m 5 0, .m 2 5]) .ret)))
theorem Hq : OkF Try.prog 38 6 [4] Er [.t 2] := .of Try.func38 rfl rfl (by kernel_rfl) rfl

open Go.Lib Go.Sort
set_option maxHeartbeats 1000000
theorem P6 {P : Program} {w : World} (t : TypeId) (x y : ByteArray) : (binOp .gtr t (.string x) (.string y)).run P w = .ok (.bool (!(sLt x y || decide (x = y)))) w := by
 simp only [binOp, Op.stringOp, B8]
 rfl
attribute [go_sem] P6
theorem QO (s : ByteArray) (W : World) : Calls Try.prog 52 #[.string s] W fun e w' => e = .returned (.bool false) ∧ w' = W := by
 go_enter Try.func52, Try.ntmps52
 go_wp2_with fail
 go_ret
 exact ⟨rfl, rfl⟩
theorem N0 (a b : ByteArray) (W : World) : Calls Try.prog 45 #[.string a, .string b] W fun e w' => e = .returned (.int .i64 (CP a b)) ∧ w' = W := by
 have h1 := QO
 have hl : sLt a b = Op.bytesLess a.toList b.toList := rfl
 have hc : CP a b = if sLt a b = true then -1 else if a = b then 0 else 1 := rfl
 generalize CP a b = r at hc ⊢
 go_enter Try.func45, Try.ntmps45
 go_wp2_with (go_at_call 52; refine (h1 _ _).mono ?_; rintro e w' ⟨rfl, rfl⟩)
 all_goals go_ret
 all_goals refine ⟨?_, rfl⟩
 all_goals simp_all
abbrev DY := ByteArray × ByteArray × Option Addr × Nat × Nat
def Bu (x : DY) : List Value := [.string x.1, .string x.2.1, .slice x.2.2.1 x.2.2.2.1 x.2.2.2.2]
theorem Qi (x y : DY) (W : World) : Calls Try.prog 44 #[.agg (Bu x).toArray, .agg (Bu y).toArray] W fun e w' => e = .returned (.int .i64 (CP x.1 y.1)) ∧ ∃ q os', w' = grow (W.drewN q) os' := by
 have hcon := fun W' => N0 x.1 y.1 W'
 generalize CP x.1 y.1 = r at hcon ⊢
 unfold Bu
 go_enter Try.func44, Try.ntmps44
 go_wp2_with (go_at_call 45; refine (hcon _).mono ?_; rintro e w' ⟨rfl, rfl⟩)
 go_ret
 exact ⟨rfl, 0, _, by rw [alloc_eq_grow, alloc_eq_grow, grow_grow]; rfl⟩
theorem NI : SWO (ltOf fun x y : DY => CP x.1 y.1) where
 irrefl x := by
  simp only [ltOf, decide_eq_false_iff_not]
  intro h
  have := Bq.1 h
  rw [BP] at this
  cases this
 trans x y z h k := by
  simp only [ltOf, decide_eq_true_eq] at *
  exact Bq.2 (Cd (Bq.1 h) (Bq.1 k))
 ntrans x y z h k := by
  simp only [ltOf, decide_eq_false_iff_not] at *
  intro e
  have e := Bq.1 e
  have h : sLt x.1 y.1 = false := by
   cases hx : sLt x.1 y.1 with
   | false => rfl
   | true => exact absurd (Bq.2 hx) h
  have k : sLt y.1 z.1 = false := by
   cases hx : sLt y.1 z.1 with
   | false => rfl
   | true => exact absurd (Bq.2 hx) k
  rcases Dk y.1 z.1 with q | q | q
  ·rw [q] at k; cases k
  ·rw [q] at h; rw [e] at h; cases h
  ·have := Cd e q
   rw [this] at h
   cases h
def Oe (σ : Sto) (x : DY) (b : Bd) : Prop := x.1 = b.1 ∧ AT (Al σ) (Bu x) (CY b)
theorem Nn {α β : Type} {R : α → β → Prop} {l1 l2 : List α} (hp : l1.Perm l2) : ∀ {m1 : List β}, AT R l1 m1 → ∃ m2, AT R l2 m2 ∧ m1.Perm m2 := by
 induction hp with
 | nil => intro m1 h; exact ⟨m1, h, List.Perm.refl _⟩
 | cons x _ ih =>
  intro m1 h
  cases h with
  | cons h1 h2 =>
   obtain ⟨m2, q1, q2⟩ := ih h2
   exact ⟨_ :: m2, .cons h1 q1, q2.cons _⟩
 | swap x y l =>
  intro m1 h
  cases h with
  | cons h1 h2 =>
   cases h2 with
   | cons h2 h3 => exact ⟨_, .cons h2 (.cons h1 h3), List.Perm.swap _ _ _⟩
 | trans _ _ ih1 ih2 =>
  intro m1 h
  obtain ⟨m2, q1, q2⟩ := ih1 h
  obtain ⟨m3, q3, q4⟩ := ih2 q1
  exact ⟨m3, q3, q2.trans q4⟩
theorem QN {σ : Sto} {b : Bd} {v1 v2 v3 : Value} (h1 : Al σ v1 (.str b.1)) (h2 : Al σ v2 (.str b.2.name)) (h3 : Al σ v3 (.list (b.2.args.map Ay))) : ∃ x : DY, [v1, v2, v3] = Bu x ∧ Oe σ x b := by
 have e1 := (DJ (S := noS) (ι := noH) (.one (.st h1))).1
 have e2 := (DJ (S := noS) (ι := noH) (.one (.st h2))).1
 obtain ⟨p, cap, e3, _⟩ := By h3
 subst e1 e2 e3
 exact ⟨(b.1, b.2.name, p, _, cap), rfl, rfl, .cons h1 (.cons h2 (.cons h3 .nil))⟩
theorem Hy {σ : Sto} {vs : Array Value} : ∀ (l : List Bd) (base : Nat), (∀ k b, l[k]? = some b → ∀ j a, (CY b)[j]? = some a → ∃ v, vs[base + k * 3 + j]? = some v ∧ Al σ v a) →
  ∃ d : List DY, AT (Oe σ) d l ∧ ∀ k x j v, d[k]? = some x → (Bu x)[j]? = some v → vs[base + k * 3 + j]? = some v
 | [], base, _ => ⟨[], .nil, by simp⟩
 | b :: l, base, h => by
  obtain ⟨d, d1, d2⟩ := Hy l (base + 3) (fun k c hc j a ha => by
   obtain ⟨v, v1, v2⟩ := h (k + 1) c (by simpa using hc) j a ha
   exact ⟨v, by rw [← v1]; congr 1; omega, v2⟩)
  obtain ⟨u1, p1, q1⟩ := h 0 b rfl 0 _ rfl
  obtain ⟨u2, p2, q2⟩ := h 0 b rfl 1 _ rfl
  obtain ⟨u3, p3, q3⟩ := h 0 b rfl 2 _ rfl
  obtain ⟨x, x1, x2⟩ := QN q1 q2 q3
  refine ⟨x :: d, .cons x2 d1, fun k y j v hy hv => ?_⟩
  cases k with
  | zero =>
   simp only [List.getElem?_cons_zero, Option.some.injEq] at hy
   subst hy
   rw [← x1] at hv
   match j, hv with
   | 0, hv => cases hv; exact p1
   | 1, hv => cases hv; exact p2
   | 2, hv => cases hv; exact p3
   | j + 3, hv => simp at hv
  | succ k =>
   have := d2 k y j v (by simpa using hy) hv
   rw [← this]
   congr 1
   omega
theorem GK (x : DY) : (Bu x).length = 3 := rfl
theorem K8 {d : Array DY} {t : Nat} (h : t < d.size * 3) : ∃ x v, d[t / 3]? = some x ∧ (Bu x)[t % 3]? = some v ∧ (flatK Bu 3 d)[t]! = v := by
 have hk : t / 3 < d.size := by omega
 have hj : t % 3 < (Bu d[t / 3]).length := by rw [GK]; omega
 refine ⟨d[t / 3], (Bu d[t / 3])[t % 3], Array.getElem?_eq_getElem hk, List.getElem?_eq_getElem hj, ?_⟩
 rw [get_flatK _ _ _ _ h, getElem!_pos d (t / 3) hk, getElem!_pos (Bu d[t / 3]) (t % 3) hj]
theorem NC (w : World) (g n : Nat) (d : Array DY) (os : Array Obj) (vs : Array Value) (e : TypeId) (hg : w.heap[g]? = some (.cells vs e (0, 0))) :
  (sortWorldK Bu 3 w g 0 n d os).heap[g]? = some (.cells (putCells id 0 (flatK Bu 3 d) vs) e (0, 0)) ∧ (∀ k, k < w.heap.size → k ≠ g → (sortWorldK Bu 3 w g 0 n d os).heap[k]? = w.heap[k]?) ∧ w.heap.size ≤ (sortWorldK Bu 3 w g 0 n d os).heap.size := by
 have hlt := (Array.getElem?_eq_some_iff.1 hg).1
 have hsz : (putRowK Bu 3 (Sort.ahead w n) g 0 d).heap.size = w.heap.size := by simp [putRowK, putRow, mapBlock, Sort.ahead]
 refine ⟨?_, fun k hk hne => ?_, ?_⟩
 ·unfold sortWorldK
  rw [heap_grow_old _ _ (by rw [hsz]; exact hlt)]
  simp [putRowK, putRow, mapBlock, Sort.ahead, Array.getElem?_modify, hg, onCells]
 ·unfold sortWorldK
  rw [heap_grow_old _ _ (by rw [hsz]; exact hk)]
  simp [putRowK, putRow, mapBlock, Sort.ahead, Array.getElem?_modify, Ne.symm hne]
 ·unfold sortWorldK
  rw [Go.Sort.size_grow, hsz]
  omega
theorem QG {d : Array DY} {vs : Array Value} (hs : d.size * 3 ≤ vs.size) {k : Nat} {x : DY} {j : Nat} {v : Value} (hx : d[k]? = some x) (hv : (Bu x)[j]? = some v) : (putCells id 0 (flatK Bu 3 d) vs)[k * 3 + j]? = some v := by
 have hk := (Array.getElem?_eq_some_iff.1 hx).1
 have hj : j < 3 := by have := (List.getElem?_eq_some_iff.1 hv).1; rw [GK] at this; exact this
 have hlt : k * 3 + j < d.size * 3 := by omega
 obtain ⟨y, u, h1, h2, h3⟩ := K8 hlt
 have e1 : (k * 3 + j) / 3 = k := by omega
 have e2 : (k * 3 + j) % 3 = j := by omega
 rw [e1, hx] at h1
 cases h1
 rw [e2, hv] at h2
 cases h2
 unfold putCells
 rw [Array.getElem?_mapIdx, Array.getElem?_eq_getElem (by omega), Option.map_some, if_pos (by rw [size_flatK]; omega)]
 simp only [Nat.sub_zero, id, h3]
theorem PZ (d : Array DY) (vs : Array Value) : (putCells id 0 (flatK Bu 3 d) vs).size = vs.size := by simp [putCells]
theorem QU {S : AA} {r : Nat} {b : AL} (h : S r = some b) : AK S r (some b) = S := by
 funext k
 unfold AK
 split
 ·rename_i e; rw [e, h]
 ·rfl
theorem OA {d : Array DY} {vs : Array Value} {t : Nat} (h : d.size * 3 ≤ t) : (putCells id 0 (flatK Bu 3 d) vs)[t]? = vs[t]? := by
 unfold putCells
 rw [Array.getElem?_mapIdx]
 cases hv : vs[t]? with
 | none => rfl
 | some v => rw [Option.map_some, if_neg (by rw [size_flatK]; omega)]
abbrev EF (l : List Bd) (ys : List (List SV)) : AL := .mrow 54 3 (l.map CY ++ ys)
theorem NV (l : List Bd) (ys : List (List SV)) (hys : ∀ y ∈ ys, y.length = 3) (hn : DK l) (hl : l.length ≤ 100000) (r : Nat) (hr : 1000 ≤ r) (S : AA) (sr : S r = some (EF l ys)) (hS : Aq S) (σ : Sto) (w : World) (ι : Ao) (hF : Fit σ w) (hO : CV σ S ι w) :
  Calls Try.prog 43 #[.slice (ι r).p l.length (ι r).cap, .func (.func 44) #[] #[]] w fun e w' => ∃ v σ' ι', e = .returned v ∧ Aq (AK S r (some (EF (Bv l) ys))) ∧ Upd S ι (AK S r (some (EF (Bv l) ys))) ι' ∧ CV σ' (AK S r (some (EF (Bv l) ys))) ι' w' ∧ AH σ' (AK S r (some (EF (Bv l) ys))) ι' v (.tup []) ∧ Fit σ' w' ∧ (∀ p x, σ p = some x → σ' p = some x) ∧
   (∀ p : Addr, p.block < w.heap.size → BR S ι p.block → σ' p = σ p) ∧ (w'.os = w.os ∧ w'.tape = w.tape ∧ w'.output = w.output) ∧ w.heap.size ≤ w'.heap.size ∧
   (∀ g, g < w.heap.size → BR S ι g → w'.heap[g]? = w.heap[g]?) ∧ (∀ id b g, AK S r (some (EF (Bv l) ys)) id = some b → (ι' id).g = some g → w.heap.size ≤ g ∨ ¬ BR S ι g) := by
 have hS' : Aq (AK S r (some (EF (Bv l) ys))) := Ci hS hr rfl
 have hb : BX σ S ι w (ι r) (.mrow 54 3 (l.map CY ++ ys)) := hO.1 r _ sr
 generalize hxs : l.map CY ++ ys = xs at hb
 have hlen : xs.length = l.length + ys.length := by rw [← hxs, List.length_append, List.length_map]
 generalize hh : ι r = hd at hb
 cases hb with
 | mnil k1 k2 =>
  obtain ⟨hl0, hy0⟩ : l = [] ∧ ys = [] := by simpa using hxs
  subst hl0 hy0
  refine (AnyF.slices_SortFunc_none Try.sortBd hd.p hd.cap _ w).mono fun e w' ⟨he, hw⟩ => ?_
  subst hw
  have hid : AK S r (some (EF (Bv []) [])) = S := QU sr
  rw [hid]
  exact ⟨_, σ, ι, he, hS, Upd.refl _ _, hO, .tup (fun _ => undef) rfl (by simp) (by simp), hF, fun _ _ h => h, fun _ _ _ => rfl, ⟨rfl, rfl, rfl⟩, Nat.le_refl _, fun _ _ _ => rfl, fun id b g h1 h2 => .inr fun hno => hno id b h1 h2⟩
 | @mrow _ _ _ g cs k1 k2 k3 k4 k5 k6 k7 k8 k9 =>
  subst hxs
  obtain ⟨d, d1, d2⟩ := Hy (σ := σ) (vs := cs) l 0 (fun k b hb j a ha => by
   obtain ⟨v, v1, v2⟩ := k8 k (CY b) j a (by rw [List.getElem?_append_left (by rw [List.length_map]; exact CK hb), List.getElem?_map, hb]; rfl) ha
   exact ⟨v, by rw [Nat.zero_add]; exact v1, v2⟩)
  have dlen : d.length = l.length := d1.len
  have hcap : l.length ≤ hd.cap := by omega
  have hfits : d.toArray.size * 3 ≤ cs.size := by
   rw [k6]
   simp only [List.size_toArray, dlen]
   exact Nat.mul_le_mul_right 3 hcap
  have hH : HoldsK Bu 3 w g 0 d.toArray := fun j hj => by
   rw [size_flatK] at hj
   obtain ⟨x, v, q1, q2, q3⟩ := K8 hj
   have q1 : d[j / 3]? = some x := by simpa using q1
   have hc := d2 _ _ _ _ q1 q2
   have e : 0 + j / 3 * 3 + j % 3 = j := by omega
   rw [e] at hc
   refine ⟨?_, ?_⟩
   ·rw [cell_of_row w g _ _ _ _ k3, Nat.zero_add, hc, q3]
    rfl
   ·exact Blk.frozen k3 _
  have eg : ∀ args w, (callFunc 44 args).run Try.prog w = .ok (.enter 44 args) w := enters_of Try.func44 (by kernel_rfl) rfl
  have hgl : g < w.heap.size := (Array.getElem?_eq_some_iff.1 k3).1
  have hcon := AnyQ.slices_SortFunc Try.sortBd 3 Try.isAgg54 Try.sizeOf54 Bu GK (fun x v hv => by simp [Bu] at hv; rcases hv with rfl | rfl | rfl <;> rfl) (fun x y : DY => CP x.1 y.1) NI 44 #[] g 0 hd.cap d.toArray w eg (fun _ _ _ _ x y => Qi x y _) hH hgl (by simp [dlen]; omega)
  rw [show d.toArray.size = l.length by simp [dlen]] at hcon
  rw [k2, show (l.length) = l.length from rfl]
  refine Calls.mono hcon fun e w' ⟨he, d', n, os, hp, hs, hw⟩ => ?_
  obtain ⟨hp1, hp2, hp3⟩ := hp
  have hd'l : d'.size = l.length := by rw [hp1]; simp [dlen]
  have hperm : d.Perm d'.toList := by
   have e1 : d'.extract 0 l.length = d' := by rw [← hd'l]; exact Array.extract_size
   have e2 : d.toArray.extract 0 l.length = d.toArray := by
    rw [show l.length = d.toArray.size by simp [dlen]]
    exact Array.extract_size
   rw [e1, e2] at hp3
   exact hp3.symm
  obtain ⟨l', l1, l2⟩ := Nn hperm d1
  have hl'len : l'.length = l.length := l2.length_eq.symm
  have hord : A4 l' := by
   unfold A4
   rw [List.pairwise_iff_getElem]
   intro i j hi hj hij
   obtain ⟨x, x1, x2, _⟩ := l1.get (List.getElem?_eq_getElem hi)
   obtain ⟨y, y1, y2, _⟩ := l1.get (List.getElem?_eq_getElem hj)
   have hso := hs i j (Nat.zero_le _) hij (by omega)
   have e1 : d'[i]! = x := by
    rw [Array.getElem?_toList] at x1
    rw [getElem!_def, x1]
   have e2 : d'[j]! = y := by
    rw [Array.getElem?_toList] at y1
    rw [getElem!_def, y1]
   rw [e1, e2] at hso
   simp only [ltOf, decide_eq_false_iff_not] at hso
   have hno : sLt l'[j].1 l'[i].1 = false := by
    cases hx : sLt l'[j].1 l'[i].1 with
    | false => rfl
    | true => exact absurd (Bq.2 (by rw [x2, y2]; exact hx)) hso
   have hdiff : l'[i].1 ≠ l'[j].1 := by
    have hn' := HZ l2 hn
    unfold DK at hn'
    rw [List.nodup_iff_pairwise_ne, List.pairwise_map, List.pairwise_iff_getElem] at hn'
    exact hn' i j hi hj hij
   rcases Dk l'[i].1 l'[j].1 with q | q | q
   ·exact q
   ·exact absurd q hdiff
   ·rw [q] at hno; cases hno
  have hl' : l' = Bv l := Ed hord (Dd hn) ((l2.symm).trans (D6 l).symm)
  subst hl'
  obtain ⟨w1, w2, w3⟩ := NC w g n d' os cs _ k3
  rw [← hw] at w1 w2 w3
  have hfits' : d'.size * 3 ≤ cs.size := by rw [hd'l]; rw [← dlen]; simpa using hfits
  have hupd : Upd S ι (AK S r (some (EF (Bv l) ys))) ι := fun id b hb => by
   by_cases e : id = r
   ·subst e
    rw [sr] at hb
    cases hb
    exact ⟨_, AE _ _ _, by simp [AL.len, Bk], fun _ => ⟨rfl, rfl⟩⟩
   ·exact ⟨b, by rw [AM _ e]; exact hb, Nat.le_refl _, fun _ => ⟨rfl, rfl⟩⟩
  have hotherg : ∀ id b g', id ≠ r → S id = some b → (ι id).g = some g' → g' ≠ g := fun id b g' hne hb hg' e => by
   subst e
   exact hne (hO.2 id r b _ g' hb sr hg' (by rw [hh]; exact k1))
  have hFit : Fit σ w' := fun p x hp => by
   have hlt := hF.lt hp
   by_cases e : p.block = g
   ·rw [k9 p e] at hp; cases hp
   ·exact (B6 (w2 _ hlt e)).trans (hF p x hp)
  refine ⟨_, σ, ι, he, hS', hupd, ⟨fun id b hb => ?_, fun id id' b b' g' q1 q2 q3 q4 => ?_⟩, .tup (fun _ => undef) rfl (by simp) (by simp), hFit, fun _ _ h => h, fun _ _ _ => rfl, ?_, w3, fun g' q1 q2 => ?_, fun id b g' q1 q2 => ?_⟩
  ·by_cases e : id = r
   ·subst e
    rw [AE] at hb
    cases hb
    rw [hh]
    have hlen' : ((Bv l).map CY ++ ys).length = l.length + ys.length := by rw [List.length_append, List.length_map, Bk]
    refine .mrow k1 k2 w1 (by rw [hlen', ← hlen]; exact k4) k5 (by rw [PZ]; exact k6) (fun x hx => ?_) (fun k x j a hx ha => ?_) k9
    ·rcases List.mem_append.1 hx with hx | hx
     ·exact Nh x hx
     ·exact hys x hx
    rcases Nat.lt_or_ge k l.length with hk | hk
    ·rw [List.getElem?_append_left (by rw [List.length_map, Bk]; exact hk), List.getElem?_map, Option.map_eq_some_iff] at hx
     obtain ⟨b, hb, rfl⟩ := hx
     obtain ⟨y, y1, y2, y3⟩ := l1.get hb
     obtain ⟨v, v1, v2⟩ := y3.get ha
     exact ⟨v, QG hfits' (by simpa using y1) v1, v2⟩
    ·rw [List.getElem?_append_right (by rw [List.length_map, Bk]; exact hk), List.length_map, Bk] at hx
     obtain ⟨v, v1, v2⟩ := k8 k x j a (by rw [List.getElem?_append_right (by rw [List.length_map]; exact hk), List.length_map]; exact hx) ha
     exact ⟨v, by rw [OA (by rw [hd'l]; omega)]; exact v1, v2⟩
   ·rw [AM _ e] at hb
    refine (hO.1 id b hb).mono (fun _ _ h => h) hupd (fun g' hg' => w2 g' ((hO.1 id b hb).gsome hg') (hotherg id b g' e hb hg')) (fun _ _ _ _ => rfl)
  ·have back : ∀ i c, AK S r (some (EF (Bv l) ys)) i = some c → ∃ c', S i = some c' := fun i c hc => by
    by_cases e : i = r
    ·subst e; exact ⟨_, sr⟩
    ·rw [AM _ e] at hc; exact ⟨c, hc⟩
   obtain ⟨c1, c1'⟩ := back _ _ q1
   obtain ⟨c2, c2'⟩ := back _ _ q2
   exact hO.2 _ _ _ _ _ c1' c2' q3 q4
  ·rw [hw]
   exact ⟨rfl, rfl, rfl⟩
  ·exact w2 g' q1 fun e => q2 r _ sr (by rw [hh, e]; exact k1)
  ·refine .inr fun hno => ?_
   by_cases e : id = r
   ·subst e; exact hno id _ sr q2
   ·rw [AM _ e] at q1; exact hno id _ q1 q2
theorem MO (l : List Bd) (hn : DK l) (hl : l.length ≤ 100000) (r : Nat) (hr : 1000 ≤ r) (S : AA) (sr : S r = some (BS l)) :
  An Try.prog 43 [.one (.row r l.length), .one (.fn 44 [])] S (.tup []) (AK S r (some (BS (Bv l)))) := by
 intro hS σ w vs ι hG hF hO hv
 cases hv with
 | @cons v1 _ _ _ h1 hv =>
 cases hv with
 | @cons v2 _ _ _ h2 hv =>
 cases hv
 obtain ⟨b, b1, b2, b3⟩ := B3 (AO h1)
 rw [sr] at b1
 cases b1
 have hv1 := b3 (by simp [AL.len])
 subst hv1
 have hv2 : v2 = .func (.func 44) #[] #[] := by
  cases AO h2 with
  | @fn _ vs _ c q1 q2 q3 =>
   have e : vs = #[] := Array.eq_empty_of_size_eq_zero (by simpa using q1)
   rw [e]
 subst hv2
 have e : ∀ m : List Bd, BS m = EF m [] := fun m => by rw [EF, List.append_nil]
 rw [e] at sr ⊢
 exact NV l [] (by simp) hn hl r hr S sr hS σ w ι hF hO
theorem Qv (l : List Bd) (hn : DK l) (hl : l.length ≤ 100000) (r : Nat) (hr : 1000 ≤ r) (S : AA) (sr : S r = some (BS l)) :
  An Try.prog 38 [.one (.row r l.length)] S (.one (.row r l.length)) (AK S r (some (BS (Bv l)))) := by
 refine Hq.acS fun hS C hC => ?_
 unfold Er
 repeat' with_reducible first | refine W ?_ | refine Z0 ?_ | ((first | refine Wo fun K hK => ?_ | refine Wq ?_ | refine Wr ?_); (try simp only [go_sem, fN, seval, eT, iR]); (repeat refine Ai ?_); (try (refine hK _ ?_; clear hK K)))
 refine ⟨_, _, MO l hn hl (up1 r) (A5 r) (upS S) (by rw [A7, sr]; rfl), ?_⟩
 repeat' with_reducible first | refine W ?_ | refine Z0 ?_ | ((first | refine Wo fun K hK => ?_ | refine Wq ?_ | refine Wr ?_); (try simp only [go_sem, fN, seval, eT, iR]); (repeat refine Ai ?_); (try (refine hK _ ?_; clear hK K)))
 have hc := Ci (b := BS (Bv l)) hS hr rfl
 refine NL trivial ?_ (Fz (n := l.length) hr) (fun i b _ h => (hc i b h).2) (Ll hc) hc
 simp only [go_sem, fN, seval, eT, iR, AB, AF, AP]



def ES : IR :=
 (.seq (.ops [.i 2 (.mov (.n 0))]) (.seq (.seq (.ops [.m 8 0, .i 9 (.len false (.t 8)), .i 10 (.bin .gtr (.t 9) (.n 40))]) (.cond (.t 10) (.seq (.ops [.i 2 (.mov (.n 3))]) .ret) .skip)) (.seq (.seq (.ops [.m 11 0, .i 12 (.len false (.t 11)), .i 13 (.mov (.n 0))]) (.block 0 (.loop (.seq (.ops [.i 14 (.bin .lss (.t 13) (.t 12))]) (.seq (.cond (.t 14) .skip (.exit 0)) (.seq (.block 1 (.seq (.ops [.i 15 (.indexAddr 4 (.t 11) (.t 13)), .L 16 4 15, .i 4 (.alloc 51 [.st (.str (ByteArray.mk (#[]))), .full [], .st (.str (ByteArray.mk (#[]))), .full []]), .s 4 4 16]) (.seq (.ops [.f 17 0 4, .L 18 2 17, .f 19 2 4, .L 20 2 19, .i 21 (.buildSlice false 25 2 [.t 18, .t 20]), .i 22 (.len false (.t 21)), .i 23 (.mov (.n 0))]) (.block 2 (.loop (.seq (.ops [.i 24 (.bin .lss (.t 23) (.t 22))]) (.seq (.cond (.t 24) .skip (.exit 2)) (.seq (.block 3 (.seq (.ops [.i 25 (.indexAddr 2 (.t 21) (.t 23)), .L 26 2 25, .i 6 (.alloc 25 [.st (.str (ByteArray.mk (#[]))), .full []]), .s 2 6 26]) (.seq (.ops [.L 27 2 6, .i 28 (.call 13 [.t 27]), .m 7 28]) (.seq (.ops [.m 29 7, .i 30 (.bin .neq (.t 29) (.n 0))]) (.cond (.t 30) (.seq (.ops [.m 31 7, .m 2 31]) .ret) .skip))))) (.ops [.i 32 (.bin .add (.t 23) (.n 1)), .m 23 32]))))))))) (.ops [.i 33 (.bin .add (.t 13) (.n 1)), .m 13 33]))))))) (.seq (.ops [.i 2 (.mov (.n 0))]) .ret))))
theorem Hx : OkF Try.prog 27 34 [] ES [.t 2] := .of Try.func27 rfl rfl (by kernel_rfl) rfl
def EI : IR :=
 (.seq (.ops [.i 3 (.box 25 (.t 1)), .i 4 (.mov (.c (.one (.st (.bool false)))))]) (.seq (.seq (.ops [.f 7 0 3, .l 8 7, .m 9 0, .i 10 (.bin .eql (.t 8) (.t 9))]) (.cond (.t 10) (.seq (.ops [.i 4 (.mov (.c (.one (.st (.bool true)))))]) .ret) .skip)) (.seq (.seq (.ops [.f 11 1 3, .l 12 11, .i 13 (.len false (.t 12)), .i 14 (.mov (.n 0))]) (.block 0 (.loop (.seq (.ops [.i 15 (.bin .lss (.t 14) (.t 13))]) (.seq (.cond (.t 15) .skip (.exit 0)) (.seq (.block 1 (.seq (.ops [.i 16 (.indexAddr 2 (.t 12) (.t 14)), .L 17 2 16, .i 6 (.alloc 25 [.st (.str (ByteArray.mk (#[]))), .full []]), .s 2 6 17]) (.seq (.ops [.m 18 0, .L 19 2 6, .i 20 (.call 37 [.t 18, .t 19])]) (.cond (.t 20) (.seq (.ops [.i 4 (.mov (.c (.one (.st (.bool true)))))]) .ret) .skip)))) (.ops [.i 21 (.bin .add (.t 14) (.n 1)), .m 14 21]))))))) (.seq (.ops [.i 4 (.mov (.c (.one (.st (.bool false)))))]) .ret))))
theorem G1 : OkF Try.prog 37 22 [] EI [.t 4] := .of Try.func37 rfl rfl (by kernel_rfl) rfl
def Ey : IR :=
 (.seq (.ops [.i 2 (.mov (.c (.one (.full [])))), .i 3 (.mov (.n 0))]) (.seq (.ops [.i 4 (.mov (.c (.one (.full []))))]) (.seq (.ops [.i 5 (.mov (.c (.one (.full []))))]) (.seq (.seq (.ops [.m 15 0, .i 16 (.len false (.t 15)), .i 17 (.bin .sub (.t 16) (.n 1)), .m 6 17]) (.block 0 (.loop (.seq (.seq (.ops [.m 18 6, .i 19 (.bin .geq (.t 18) (.n 0))]) (.cond (.t 19) .skip (.exit 0))) (.seq (.block 1 (.ops [.m 22 5, .m 23 0, .m 24 6, .i 25 (.indexAddr 4 (.t 23) (.t 24)), .L 26 4 25, .i 27 (.buildSlice false 51 4 [.t 26]), .i 28 (.appP 51 4 80 (.t 22) (.t 27)), .m 5 28])) (.ops [.m 20 6, .i 21 (.bin .sub (.t 20) (.n 1)), .m 6 21])))))) (.seq (.block 2 (.loop (.seq (.seq (.ops [.m 29 5, .i 30 (.len false (.t 29)), .i 31 (.bin .gtr (.t 30) (.n 0))]) (.cond (.t 31) .skip (.exit 2))) (.block 3 (.seq (.ops [.m 32 5, .m 33 5, .i 34 (.len false (.t 33)), .i 35 (.bin .sub (.t 34) (.n 1)), .i 36 (.indexP 4 (.t 32) (.t 35)), .L 37 4 36, .i 7 (.alloc 51 [.st (.str (ByteArray.mk (#[]))), .full [], .st (.str (ByteArray.mk (#[]))), .full []]), .s 4 7 37]) (.seq (.ops [.m 38 5, .m 39 5, .i 40 (.len false (.t 39)), .i 41 (.bin .sub (.t 40) (.n 1)), .i 42 (.cutP 4 (.t 38) (.t 41)), .m 5 42]) (.seq (.ops [.m 44 4, .f 45 0 7, .L 46 2 45, .i 47 (.callR 36 [.t 44, .t 46]), .m 43 47, .i 48 (.extract 0 (.t 43)), .i 49 (.extract 1 (.t 43)), .i 8 (.alloc 25 [.st (.str (ByteArray.mk (#[]))), .full []]), .s 2 8 48, .m 9 49]) (.seq (.ops [.m 51 4, .f 52 2 7, .L 53 2 52, .i 54 (.callR 36 [.t 51, .t 53]), .m 50 54, .i 55 (.extract 0 (.t 50)), .i 56 (.extract 1 (.t 50)), .i 10 (.alloc 25 [.st (.str (ByteArray.mk (#[]))), .full []]), .s 2 10 55, .m 11 56]) (.seq (.seq (.ops [.m 57 9, .i 58 (.un .not (.t 57)), .m 59 58, .mk (some 60) (some (59, false)) (.mov (.t 11)) .no, .mk (some 61) (some (59, false)) (.un .not (.t 60)) .no, .i 62 (.pick (.t 59) (.c (.one (.st (.bool true)))) (.t 61))]) (.cond (.t 62) (.seq (.ops [.i 2 (.mov (.c (.one (.full [])))), .i 3 (.mov (.n 8))]) .ret) .skip)) (.block 4 (.seq (.ops [.f 86 0 8, .l 87 86, .i 88 (.call 33 [.t 87]), .m 89 88, .mk (some 90) (some (89, true)) (.fieldAddr 0 (.t 8)) .no, .mk (some 91) (some (89, true)) (.load false 1 (.t 90)) .no, .mk (some 92) (some (89, true)) (.fieldAddr 0 (.t 10)) .no, .mk (some 93) (some (89, true)) (.load false 1 (.t 92)) .no, .mk (some 94) (some (89, true)) (.bin .eql (.t 91) (.t 93)) .no, .i 95 (.pick (.t 89) (.t 94) (.c (.one (.st (.bool false))))), .m 85 95]) (.cond (.t 85) .skip (.seq (.ops [.f 97 0 8, .l 98 97, .i 99 (.call 33 [.t 98]), .m 100 99, .mk (some 101) (some (100, false)) (.fieldAddr 0 (.t 10)) .no, .mk (some 102) (some (100, false)) (.load false 1 (.t 101)) .no, .mk (some 103) (some (100, false)) (.call 33 [.t 102]) .no, .i 104 (.pick (.t 100) (.c (.one (.st (.bool true)))) (.t 103)), .m 96 104]) (.cond (.t 96) (.seq (.seq (.ops [.f 105 0 8, .l 106 105, .i 107 (.call 33 [.t 106]), .i 108 (.un .not (.t 107))]) (.cond (.t 108) (.ops [.L 109 2 10, .L 110 2 8, .s 2 8 109, .s 2 10 110]) .skip)) (.seq (.seq (.ops [.f 111 0 8, .l 112 111, .L 113 2 10, .i 114 (.call 37 [.t 112, .t 113])]) (.cond (.t 114) (.seq (.ops [.i 2 (.mov (.c (.one (.full [])))), .i 3 (.mov (.n 6))]) .ret) .skip)) (.seq (.ops [.f 115 0 8, .l 116 115, .L 117 2 10, .i 118 (.build [.st (.str (ByteArray.mk (#[]))), .st (.str (ByteArray.mk (#[]))), .full []] [(0, 1, .t 116), (1, 2, .t 117)]), .i 119 (.buildSlice false 54 3 [.t 118]), .m 12 119]) (.seq (.seq (.ops [.m 120 4, .i 121 (.len false (.t 120)), .i 122 (.mov (.n 0))]) (.block 7 (.loop (.seq (.ops [.i 123 (.bin .lss (.t 122) (.t 121))]) (.seq (.cond (.t 123) .skip (.exit 7)) (.seq (.block 8 (.seq (.ops [.m 124 122, .m 13 124]) (.seq (.ops [.m 126 4, .m 127 13, .m 128 12, .m 129 4, .m 130 13, .i 131 (.indexAddr 3 (.t 129) (.t 130)), .f 132 1 131, .L 133 2 132, .i 134 (.call 36 [.t 128, .t 133]), .m 125 134, .i 135 (.extract 0 (.t 125)), .i 136 (.extract 1 (.t 125)), .i 137 (.indexAddr 3 (.t 126) (.t 127)), .f 138 1 137, .s 2 138 135, .m 9 136]) (.seq (.ops [.m 139 9, .i 140 (.un .not (.t 139))]) (.cond (.t 140) (.seq (.ops [.i 2 (.mov (.c (.one (.full [])))), .i 3 (.mov (.n 8))]) .ret) .skip))))) (.ops [.i 141 (.bin .add (.t 122) (.n 1)), .m 122 141]))))))) (.ops [.m 142 4, .m 143 12, .i 144 (.indexAddr 3 (.t 143) (.n 0)), .L 145 3 144, .i 146 (.buildSlice false 54 3 [.t 145]), .i 147 (.append false 54 3 56 (.t 142) (.t 146)), .i 148 (.callS 38 [.t 147]), .m 4 148]))))) (.seq (.ops [.f 150 0 8, .l 151 150, .f 152 0 10, .l 153 152, .i 154 (.bin .neq (.t 151) (.t 153)), .m 155 154, .mk (some 156) (some (155, false)) (.fieldAddr 1 (.t 8)) .no, .mk (some 157) (some (155, false)) (.load false 1 (.t 156)) .no, .mk (some 158) (some (155, false)) (.len false (.t 157)) .no, .mk (some 159) (some (155, false)) (.fieldAddr 1 (.t 10)) .no, .mk (some 160) (some (155, false)) (.load false 1 (.t 159)) .no, .mk (some 161) (some (155, false)) (.len false (.t 160)) .no, .mk (some 162) (some (155, false)) (.bin .neq (.t 158) (.t 161)) .no, .i 163 (.pick (.t 155) (.c (.one (.st (.bool true)))) (.t 162)), .m 149 163]) (.cond (.t 149) (.seq (.ops [.i 2 (.mov (.c (.one (.full [])))), .i 3 (.mov (.n 5))]) .ret) (.seq (.ops [.f 63 1 8, .l 64 63, .i 65 (.len false (.t 64)), .i 66 (.bin .sub (.t 65) (.n 1)), .m 14 66]) (.block 5 (.loop (.seq (.seq (.ops [.m 67 14, .i 68 (.bin .geq (.t 67) (.n 0))]) (.cond (.t 68) .skip (.exit 5))) (.seq (.block 6 (.ops [.m 71 5, .f 72 1 8, .l 73 72, .m 74 14, .i 75 (.indexAddr 2 (.t 73) (.t 74)), .L 76 2 75, .f 77 1 10, .l 78 77, .m 79 14, .i 80 (.indexAddr 2 (.t 78) (.t 79)), .L 81 2 80, .i 82 (.build [.st (.str (ByteArray.mk (#[]))), .full [], .st (.str (ByteArray.mk (#[]))), .full []] [(0, 2, .t 76), (2, 2, .t 81)]), .i 83 (.buildSlice false 51 4 [.t 82]), .i 84 (.appP 51 4 80 (.t 71) (.t 83)), .m 5 84])) (.ops [.m 69 14, .i 70 (.bin .sub (.t 69) (.n 1)), .m 14 70])))))))))))))))))))))) (.seq (.ops [.m 164 4, .m 2 164, .i 3 (.mov (.n 0))]) .ret))))))
theorem Hu : OkF Try.prog 28 165 [30000028, 30000036, 30000042, 30000084, 40000047, 40000054, 148] Ey [.t 2, .t 3] := .of Try.func28 rfl rfl (by kernel_rfl) rfl
def Eh : IR :=
 (.seq (.ops [.i 2 (.mov (.c (.one (.full [])))), .i 3 (.mov (.n 0))]) (.seq (.seq (.ops [.m 5 0, .i 6 (.call 27 [.t 5]), .m 4 6]) (.seq (.ops [.m 7 4, .i 8 (.bin .neq (.t 7) (.n 0))]) (.cond (.t 8) (.seq (.ops [.m 9 4, .i 2 (.mov (.c (.one (.full [])))), .m 3 9]) .ret) .skip))) (.seq (.ops [.m 10 0, .i 11 (.call 28 [.t 10]), .i 12 (.extract 0 (.t 11)), .i 13 (.extract 1 (.t 11)), .m 2 12, .m 3 13]) .ret)))
theorem Hb : OkF Try.prog 17 14 [] Eh [.t 2, .t 3] := .of Try.func17 rfl rfl (by kernel_rfl) rfl



def occ (x : ByteArray) (t : Tm) : Bool := t.knots.any fun k => decide (k.name = x)
theorem IH (p : Tm → Bool) : ∀ xs : List Tm, (Tm.knotsL xs).any p = xs.any fun t => t.knots.any p
 | [] => rfl
 | t :: ts => by rw [Tm.knotsL, List.any_append, IH p ts, List.any_cons]
theorem L9 (x : ByteArray) (t : Tm) : occ x t = (decide (t.name = x) || t.args.any (occ x)) := by
 unfold occ
 rw [Tm.knots_eq, List.any_cons, IH]
theorem G9 {x : ByteArray} {t : Tm} : occ x t = true ↔ t.name = x ∨ ∃ a ∈ t.args, occ x a = true := by
 rw [L9, Bool.or_eq_true, decide_eq_true_eq, List.any_eq_true]
theorem JW {x : ByteArray} {t a : Tm} (ha : a ∈ t.args) (h : occ x a = true) : occ x t = true := G9.2 (.inr ⟨a, ha, h⟩)
theorem JY {x : ByteArray} {t : Tm} (h : occ x t = false) : t.name ≠ x ∧ ∀ a ∈ t.args, occ x a = false := by
 rw [L9, Bool.or_eq_false_iff, decide_eq_false_iff_not, List.any_eq_false] at h
 exact ⟨h.1, fun a ha => by simpa using h.2 a ha⟩
def I9 (s : List Bd) (t : Tm) : Prop := ∀ b ∈ s, occ b.1 t = false
theorem RM {s : List Bd} {t : Tm} (h : I9 s t) : t.on s = t := by
 induction hN : SizeOf.sizeOf t using Nat.strongRecOn generalizing t with
 | _ N ih =>
 subst hN
 have hl : lookup s t.name = none := Eo fun b hb e => (JY (h b hb)).1 e.symm
 rw [Tm.on_knot (.inl hl)]
 have hm : t.args.map (Tm.on s) = t.args := by
  conv => rhs; rw [← List.map_id t.args]
  exact List.map_congr_left fun a ha => ih _ (Tm.lt_of_arg ha) (fun b hb => (JY (h b hb)).2 a ha) rfl
 rw [hm]
 cases t; rfl
theorem MI {s : List Bd} {n : ByteArray} (h : lookup s n = none) : ∀ b ∈ s, b.1 ≠ n := by
 unfold lookup at h
 rw [Option.map_eq_none_iff, List.find?_eq_none] at h
 exact fun b hb e => h b hb (by simpa using e)
theorem L0 {s : List Bd} (hv : ∀ b ∈ s, AU b.1 = true) {t : Tm} (hc : t.chk = 0) {y : ByteArray} (h : occ y (t.on s) = true) : (occ y t = true ∧ ∀ b ∈ s, b.1 ≠ y) ∨ ∃ b ∈ s, occ y b.2 = true := by
 induction hN : SizeOf.sizeOf t using Nat.strongRecOn generalizing t with
 | _ N ih =>
 subst hN
 obtain ⟨c1, c2⟩ := Tm.chk_args hc
 cases hl : lookup s t.name with
 | some x =>
  obtain ⟨b, hb, hbn, hbx⟩ := D3 hl
  rw [Tm.on_leaf hl (c1 (by rw [← hbn]; exact hv b hb)), ← hbx] at h
  exact .inr ⟨b, hb, h⟩
 | none =>
  rw [Tm.on_knot (.inl hl), G9] at h
  rcases h with h | ⟨a, ha, h⟩
  ·simp only [Tm.name_mk] at h
   refine .inl ⟨G9.2 (.inl h), fun b hb => ?_⟩
   rw [← h]
   exact MI hl b hb
  ·simp only [Tm.args_mk, List.mem_map] at ha
   obtain ⟨c, hc', rfl⟩ := ha
   rcases ih _ (Tm.lt_of_arg hc') (c2 c hc') h rfl with h | h
   ·exact .inl ⟨JW hc' h.1, h.2⟩
   ·exact .inr h
theorem Q0 {t : Tm} (h : Bn t = 0) (ha : ∀ a ∈ t.args, a.chk = 0) : t.chk = 0 := by
 rw [Tm.chk_eq, if_pos h]
 have key : ∀ {xs : List Tm}, (∀ a ∈ xs, a.chk = 0) → Tm.chkL xs = 0 := by
  intro xs
  induction xs with
  | nil => intro _; rfl
  | cons x xs ih => intro hx; simp only [Tm.chkL]; rw [if_pos (hx x (by simp))]; exact ih fun a ha => hx a (by simp [ha])
 exact key ha
theorem QB {t : Tm} (h : t.chk = 0) : Bn t = 0 := by
 rw [Tm.chk_eq] at h
 by_cases h1 : Bn t = 0
 ·exact h1
 ·rw [if_neg h1] at h; exact h
theorem PH {s : List Bd} (hs : ∀ b ∈ s, b.2.chk = 0) {t : Tm} (hc : t.chk = 0) : (t.on s).chk = 0 := by
 induction hN : SizeOf.sizeOf t using Nat.strongRecOn generalizing t with
 | _ N ih =>
 subst hN
 obtain ⟨c1, c2⟩ := Tm.chk_args hc
 by_cases hleaf : (∃ x, lookup s t.name = some x) ∧ t.args = []
 ·obtain ⟨⟨x, hx⟩, h0⟩ := hleaf
  rw [Tm.on_leaf hx h0]
  obtain ⟨b, hb, _, rfl⟩ := D3 hx
  exact hs b hb
 ·have hon : t.on s = .mk t.name (t.args.map (Tm.on s)) := Tm.on_knot (by
   cases hl : lookup s t.name with
   | none => exact .inl rfl
   | some x => exact .inr fun h0 => hleaf ⟨⟨x, hl⟩, h0⟩)
  rw [hon]
  refine Q0 ?_ fun a ha => ?_
  ·have := QB hc
   unfold Bn at this ⊢
   simpa only [Tm.name_mk, Tm.args_mk, List.length_map] using this
  ·simp only [Tm.args_mk, List.mem_map] at ha
   obtain ⟨c, hc', rfl⟩ := ha
   exact ih _ (Tm.lt_of_arg hc') (c2 c hc') rfl
inductive RW where
 | err (e : Int)
 | go (s : List Bd) (ps : List Pr)
def EO (s : List Bd) (x : ByteArray) (t : Tm) : RW :=
 if occ x t = true then .err 6 else if (s.all fun b => decide ((b.2.on [(x, t)]).size ≤ 2000)) = true then .go (Bv (s.map (fun b => (b.1, b.2.on [(x, t)])) ++ [(x, t)])) [] else .err 8
def CJ (s : List Bd) (p : Pr) : RW :=
 if 2000 < (p.1.on s).size ∨ 2000 < (p.2.on s).size then .err 8
 else if AU (p.1.on s).name = true ∧ (p.1.on s).name = (p.2.on s).name then .go s []
 else if AU (p.1.on s).name = true then EO s (p.1.on s).name (p.2.on s)
 else if AU (p.2.on s).name = true then EO s (p.2.on s).name (p.1.on s)
 else if (p.1.on s).name = (p.2.on s).name ∧ (p.1.on s).args.length = (p.2.on s).args.length then .go s ((p.1.on s).args.zip (p.2.on s).args)
 else .err 5
inductive FQ : Nat → List Bd → List Pr → List Bd × Int → Prop
 | nil {s} : FQ 0 s [] (s, 0)
 | err {s p l e} : CJ s p = .err e → FQ 1 s (p :: l) ([], e)
 | go {s p l s' ps n r} : CJ s p = .go s' ps → FQ n s' (ps ++ l) r → FQ (n + 1) s (p :: l) r
def GS (C v : Nat) (s : List Bd) : List Pr → Prop
 | [] => True
 | p :: l => l.length + 2000 * min (p.1.on s).size 2000 + 4000000 * v ≤ C ∧ GS C v s l
theorem GS.less {C v v' : Nat} {s s' : List Bd} (hv : v' + 1 ≤ v) : ∀ {l : List Pr}, GS C v s l → GS C v' s' l
 | [], _ => trivial
 | p :: l, h => ⟨by have := h.1; have := Nat.min_le_right (p.1.on s').size 2000; omega, GS.less hv h.2⟩
theorem GS.more {C v m : Nat} {s : List Bd} {l : List Pr} (hm : m + 1 ≤ 2000) (hC : l.length + 2000 * (m + 1) + 4000000 * v ≤ C) (hl : GS C v s l) : ∀ {ps : List Pr}, ps.length ≤ 2000 → (∀ c ∈ ps, (c.1.on s).size ≤ m) → GS C v s (ps ++ l)
 | [], _, _ => hl
 | c :: ps, h1, h2 => by
  refine ⟨?_, GS.more hm hC hl (by simp at h1; omega) fun c hc => h2 c (by simp [hc])⟩
  have h3 := h2 c (by simp)
  have h4 := Nat.min_le_left (c.1.on s).size 2000
  simp only [List.length_cons] at h1
  have e : (ps ++ l).length = ps.length + l.length := List.length_append
  show (ps ++ l).length + _ + _ ≤ C
  omega
structure DI (U : List ByteArray) (C : Nat) (s : List Bd) (l : List Pr) : Prop where
 ord : A4 s
 var : ∀ b ∈ s, AU b.1 = true
 inU : ∀ b ∈ s, b.1 ∈ U
 chk : ∀ b ∈ s, b.2.chk = 0
 siz : ∀ b ∈ s, b.2.size ≤ 2000
 idem : ∀ b ∈ s, I9 s b.2
 ranU : ∀ b ∈ s, ∀ y, occ y b.2 = true → y ∈ U
 lchk : ∀ p ∈ l, p.1.chk = 0 ∧ p.2.chk = 0
 lU : ∀ p ∈ l, ∀ y, (occ y p.1 = true → y ∈ U) ∧ (occ y p.2 = true → y ∈ U)
 lsiz : ∀ p ∈ l, p.1.size ≤ 2000 ∧ p.2.size ≤ 2000
 fits : GS C (U.length - s.length) s l
theorem Gh {x : ByteArray} : ∀ {m : List ByteArray}, x ∈ m → (m.filter fun y => !decide (y = x)).length + 1 ≤ m.length
 | y :: m, h => by
  have hle := List.length_filter_le (fun y => !decide (y = x)) m
  by_cases e : y = x
  ·rw [List.filter_cons_of_neg (by simp [e]), List.length_cons]
   omega
  ·rw [List.filter_cons_of_pos (by simp [e]), List.length_cons, List.length_cons]
   have := Gh (x := x) (m := m) ((List.mem_cons.1 h).resolve_left fun h => e h.symm)
   omega
theorem Gc : ∀ {l m : List ByteArray}, l.Nodup → (∀ x ∈ l, x ∈ m) → l.length ≤ m.length
 | [], m, _, _ => Nat.zero_le _
 | x :: l, m, hn, hs => by
  obtain ⟨n1, n2⟩ := List.nodup_cons.1 hn
  have h1 := Gc (m := m.filter fun y => !decide (y = x)) n2 fun y hy => List.mem_filter.2 ⟨hs y (by simp [hy]), by
   have : y ≠ x := fun e => n1 (by rw [← e]; exact hy)
   simp [this]⟩
  have := Gh (hs x (by simp))
  rw [List.length_cons]
  omega
theorem DI.len {U : List ByteArray} {C : Nat} {s : List Bd} {l : List Pr} (h : DI U C s l) : s.length ≤ U.length := by
 have := Gc (l := s.map (fun b : Bd => b.1)) (m := U) (Cq h.ord) fun x hx => by
  obtain ⟨b, hb, rfl⟩ := List.mem_map.1 hx
  exact h.inU b hb
 simpa using this
theorem DI.stack {U : List ByteArray} {C : Nat} {s : List Bd} {l : List Pr} (h : DI U C s l) : l.length ≤ C + 1 := by
 cases l with
 | nil => simp
 | cons p l => have := h.fits.1; simp; omega
def Ff (s : List Bd) : List Pr → Nat
 | [] => 0
 | p :: l => (p.1.on s).size + Ff s l
theorem Gr (s : List Bd) : ∀ (ps l : List Pr), Ff s (ps ++ l) = Ff s ps + Ff s l
 | [], l => by simp [Ff]
 | p :: ps, l => by rw [List.cons_append, Ff, Gr s ps l, Ff]; omega
theorem DX {α β : Type} {xs : List α} {ys : List β} {c : α × β} (h : c ∈ xs.zip ys) : c.1 ∈ xs ∧ c.2 ∈ ys := by
 obtain ⟨a, b⟩ := c
 exact ⟨(List.of_mem_zip h).1, (List.of_mem_zip h).2⟩
theorem DI.tail {U : List ByteArray} {C : Nat} {s : List Bd} {p : Pr} {l : List Pr} (h : DI U C s (p :: l)) : DI U C s l :=
 { h with lchk := fun q hq => h.lchk q (by simp [hq]), lU := fun q hq => h.lU q (by simp [hq]), lsiz := fun q hq => h.lsiz q (by simp [hq]), fits := h.fits.2 }
theorem onU {U : List ByteArray} {C : Nat} {s : List Bd} {l : List Pr} (h : DI U C s l) {t : Tm} (hc : t.chk = 0) (hU : ∀ y, occ y t = true → y ∈ U) : (t.on s).chk = 0 ∧ I9 s (t.on s) ∧ ∀ y, occ y (t.on s) = true → y ∈ U := by
 refine ⟨PH h.chk hc, fun b hb => ?_, fun y hy => ?_⟩
 ·cases ho : occ b.1 (t.on s) with
  | false => rfl
  | true =>
   rcases L0 h.var hc ho with ⟨_, k⟩ | ⟨c, hc', k⟩
   ·exact absurd rfl (k b hb)
   ·rw [h.idem c hc' b hb] at k; cases k
 ·rcases L0 h.var hc hy with ⟨k, _⟩ | ⟨c, hc', k⟩
  ·exact hU y k
  ·exact h.ranU c hc' y k
theorem HS {U : List ByteArray} {C : Nat} {s : List Bd} {l : List Pr} (h : DI U C s l) {x : ByteArray} {t : Tm} (hx : AU x = true) (hxU : x ∈ U) (hxs : ∀ b ∈ s, b.1 ≠ x) (htc : t.chk = 0) (hts : t.size ≤ 2000) (htn : I9 s t) (htU : ∀ y, occ y t = true → y ∈ U) {s' : List Bd} {ps : List Pr} (hb : EO s x t = .go s' ps) :
  ps = [] ∧ DI U C s' l ∧ s.length < s'.length := by
 unfold EO at hb
 split at hb
 ·cases hb
 rename_i ho
 have ho : occ x t = false := by simpa using ho
 split at hb
 ·rename_i hall
  cases hb
  have hone : ∀ b ∈ [(x, t)], AU b.1 = true := by simp [hx]
  have honec : ∀ b ∈ ([(x, t)] : List Bd), b.2.chk = 0 := by simp [htc]
  have hmem : ∀ b, b ∈ s.map (fun b => (b.1, b.2.on [(x, t)])) ++ [(x, t)] ↔ (∃ c ∈ s, b = (c.1, c.2.on [(x, t)])) ∨ b = (x, t) := fun b => by
   simp only [List.mem_append, List.mem_map, List.mem_singleton]
   constructor
   ·rintro (⟨c, hc, rfl⟩ | h)
    ·exact .inl ⟨c, hc, rfl⟩
    ·exact .inr h
   ·rintro (⟨c, hc, rfl⟩ | h)
    ·exact .inl ⟨c, hc, rfl⟩
    ·exact .inr h
  have hnamed : DK (s.map (fun b => (b.1, b.2.on [(x, t)])) ++ [(x, t)]) := by
   have := Cq h.ord
   unfold DK at this ⊢
   rw [List.map_append, List.map_map, List.nodup_append]
   refine ⟨this, by simp, fun a ha b hb e => ?_⟩
   obtain ⟨c, hc, rfl⟩ := List.mem_map.1 ha
   simp only [List.map_cons, List.map_nil, List.mem_singleton] at hb
   exact hxs c hc (e.trans hb)
  have hoccr : ∀ c ∈ s, ∀ y, occ y (c.2.on [(x, t)]) = true → (occ y c.2 = true ∧ x ≠ y) ∨ occ y t = true := fun c hc y hy => by
   rcases L0 hone (h.chk c hc) hy with ⟨k1, k2⟩ | ⟨b, hb, k⟩
   ·exact .inl ⟨k1, k2 (x, t) (by simp)⟩
   ·rw [List.mem_singleton] at hb
    subst hb
    exact .inr k
  have hfree : ∀ b ∈ s.map (fun b => (b.1, b.2.on [(x, t)])) ++ [(x, t)], ∀ c ∈ s.map (fun b => (b.1, b.2.on [(x, t)])) ++ [(x, t)], occ c.1 b.2 = false := fun b hb c hc => by
   cases hoc : occ c.1 b.2 with
   | false => rfl
   | true =>
    exfalso
    rcases (hmem b).1 hb with ⟨b', hb', rfl⟩ | rfl
    ·rcases hoccr b' hb' _ hoc with ⟨k1, k2⟩ | k
     ·rcases (hmem c).1 hc with ⟨c', hc', rfl⟩ | rfl
      ·have := h.idem b' hb' c' hc'
       rw [k1] at this
       cases this
      ·exact k2 rfl
     ·rcases (hmem c).1 hc with ⟨c', hc', rfl⟩ | rfl
      ·have := htn c' hc'
       rw [k] at this
       cases this
      ·rw [k] at ho; cases ho
    ·rcases (hmem c).1 hc with ⟨c', hc', rfl⟩ | rfl
     ·have := htn c' hc'
      rw [hoc] at this
      cases this
     ·rw [hoc] at ho; cases ho
  have hlen : (Bv (s.map (fun b => (b.1, b.2.on [(x, t)])) ++ [(x, t)])).length = s.length + 1 := by rw [Bk]; simp
  have hinU : ∀ b ∈ Bv (s.map (fun b => (b.1, b.2.on [(x, t)])) ++ [(x, t)]), b.1 ∈ U := fun b hb => by
   rcases (hmem b).1 (Co.1 hb) with ⟨c, hc, rfl⟩ | rfl
   ·exact h.inU c hc
   ·exact hxU
  have hle : s.length + 1 ≤ U.length := by
   have := Gc (l := (Bv (s.map (fun b => (b.1, b.2.on [(x, t)])) ++ [(x, t)])).map (fun b : Bd => b.1)) (m := U) (Cq (Dd hnamed)) fun y hy => by
    obtain ⟨b, hb, rfl⟩ := List.mem_map.1 hy
    exact hinU b hb
   rw [List.length_map, hlen] at this
   exact this
  refine ⟨rfl, ⟨Dd hnamed, fun b hb => ?_, hinU, fun b hb => ?_, fun b hb => ?_, fun b hb c hc => hfree b (Co.1 hb) c (Co.1 hc), fun b hb y hy => ?_, h.lchk, h.lU, h.lsiz, GS.less (by rw [hlen]; omega) h.fits⟩, by rw [hlen]; omega⟩
  ·rcases (hmem b).1 (Co.1 hb) with ⟨c, hc, rfl⟩ | rfl
   ·exact h.var c hc
   ·exact hx
  ·rcases (hmem b).1 (Co.1 hb) with ⟨c, hc, rfl⟩ | rfl
   ·exact PH honec (h.chk c hc)
   ·exact htc
  ·rcases (hmem b).1 (Co.1 hb) with ⟨c, hc, rfl⟩ | rfl
   ·have := List.all_eq_true.1 hall c hc
    simpa using this
   ·exact hts
  ·rcases (hmem b).1 (Co.1 hb) with ⟨c, hc, rfl⟩ | rfl
   ·rcases hoccr c hc y hy with k | k
    ·exact h.ranU c hc y k.1
    ·exact htU y k
   ·exact htU y hy
 ·cases hb
theorem JS {U : List ByteArray} {C : Nat} {s : List Bd} {p : Pr} {l : List Pr} (h : DI U C s (p :: l)) {s' : List Bd} {ps : List Pr} (hs : CJ s p = .go s' ps) :
  DI U C s' (ps ++ l) ∧ (s.length < s'.length ∨ (s' = s ∧ Ff s (ps ++ l) < Ff s (p :: l))) := by
 obtain ⟨hc1, hc2⟩ := h.lchk p (by simp)
 have hU := h.lU p (by simp)
 obtain ⟨a1, a2, a3⟩ := onU h hc1 fun y => (hU y).1
 obtain ⟨b1, b2, b3⟩ := onU h hc2 fun y => (hU y).2
 have hpos := Tm.size_pos (p.1.on s)
 have nameNo : ∀ {t : Tm}, I9 s t → ∀ b ∈ s, b.1 ≠ t.name := fun {t} hn b hb e => (JY (hn b hb)).1 e.symm
 have nameU : ∀ {t : Tm}, (∀ y, occ y t = true → y ∈ U) → t.name ∈ U := fun {t} ht => ht _ (G9.2 (.inl rfl))
 unfold CJ at hs
 split at hs
 ·cases hs
 rename_i hz
 rw [not_or] at hz
 split at hs
 ·cases hs
  exact ⟨h.tail, .inr ⟨rfl, by simp only [List.nil_append, Ff]; omega⟩⟩
 split at hs
 ·rename_i hv
  obtain ⟨rfl, k1, k2⟩ := HS h.tail hv (nameU a3) (nameNo a2) b1 (by omega) b2 b3 hs
  exact ⟨k1, .inl k2⟩
 split at hs
 ·rename_i hv
  obtain ⟨rfl, k1, k2⟩ := HS h.tail hv (nameU b3) (nameNo b2) a1 (by omega) a2 a3 hs
  exact ⟨k1, .inl k2⟩
 split at hs
 ·rename_i heq
  cases hs
  have hsz := Tm.size_eq (p.1.on s)
  have hlen := Tm.length_le (p.1.on s).args
  have hid : ∀ a ∈ (p.1.on s).args, a.on s = a := fun a ha => RM fun b hb => (JY (a2 b hb)).2 a ha
  have hsum : ∀ (xs ys : List Tm), (∀ a ∈ xs, a.on s = a) → Ff s (xs.zip ys) ≤ Tm.sizes xs := by
   intro xs
   induction xs with
   | nil => intro ys _; simp [Ff]
   | cons x xs ih =>
    intro ys hx
    cases ys with
    | nil => simp [Ff]
    | cons y ys =>
     have := ih ys fun a ha => hx a (by simp [ha])
     simp only [List.zip_cons_cons, Ff, Tm.sizes]
     rw [hx x (by simp)]
     omega
  have hzl : ((p.1.on s).args.zip (p.2.on s).args).length ≤ (p.1.on s).args.length := by rw [List.length_zip]; exact Nat.min_le_left _ _
  have hmin : min (p.1.on s).size 2000 = (p.1.on s).size := Nat.min_eq_left (by omega)
  have hf := h.fits.1
  rw [hmin] at hf
  have hszb := Tm.size_eq (p.2.on s)
  refine ⟨⟨h.ord, h.var, h.inU, h.chk, h.siz, h.idem, h.ranU, fun q hq => ?_, fun q hq => ?_, fun q hq => ?_, GS.more (m := (p.1.on s).size - 1) (by omega) (by omega) h.fits.2 (by omega) fun c hc => ?_⟩, .inr ⟨rfl, ?_⟩⟩
  ·rcases List.mem_append.1 hq with hq | hq
   ·exact ⟨(Tm.chk_args a1).2 _ (DX hq).1, (Tm.chk_args b1).2 _ (DX hq).2⟩
   ·exact h.tail.lchk q hq
  ·rcases List.mem_append.1 hq with hq | hq
   ·exact fun y => ⟨fun hy => a3 y (JW (DX hq).1 hy), fun hy => b3 y (JW (DX hq).2 hy)⟩
   ·exact h.tail.lU q hq
  ·rcases List.mem_append.1 hq with hq | hq
   ·have h1 := Tm.size_mem (DX hq).1
    have h2 := Tm.size_mem (DX hq).2
    omega
   ·exact h.tail.lsiz q hq
  ·rw [hid _ (DX hc).1]
   have h1 := Tm.size_mem (DX hc).1
   omega
  ·rw [Gr]
   have h1 := hsum _ (p.2.on s).args hid
   simp only [Ff]
   omega
 ·cases hs

theorem Pq (x : ByteArray) (t : Tm) : AW Try.prog 37 [CO x, aTm t] (Aj (occ x t)) := by
 induction h : SizeOf.sizeOf t using Nat.strongRecOn generalizing t with
 | _ N ih =>
 subst h
 rw [L9]
 refine G1.ac fun C hC => ?_
 unfold EI
 refine IWP.learn 1 (by omega) fun hkn => ?_
 have hkn := ID hkn
 by_cases hn : t.name = x
 ·repeat' with_reducible first | refine W ?_ | refine Z0 ?_ | ((first | refine Wo fun K hK => ?_ | refine Wp ?_ | refine Wq ?_ | refine Wr ?_); (try simp only [go_sem, fN, seval, eT, iR, hn, dT, dF, nL]); (repeat refine Ai ?_); (try (refine hK _ ?_; clear hK K)); try refine iC ?_)
  simp only [go_sem, fN, seval, AZ, AS.result, AB, AF, AP]
  rw [Bool.true_or]
 rw [decide_eq_false hn, Bool.false_or]
 repeat' with_reducible first | refine W ?_ | refine Z0 ?_ | ((first | refine Wo fun K hK => ?_ | refine Wp ?_ | refine Wq ?_ | refine Wr ?_); (try simp only [go_sem, fN, seval, eT, iR, hn, dT, dF, nL]); (repeat refine Ai ?_); (try (refine hK _ ?_; clear hK K)); try refine iC ?_)
 refine IWP.loopD [6] (fun m s => ∃ k, k ≤ t.args.length ∧ m = t.args.length - k ∧ (t.args.take k).any (occ x) = false ∧ s.env 0 = CO x ∧ s.env 12 = .one (.st (.list (t.args.map Ay))) ∧ s.env 13 = Ab t.args.length ∧ s.env 14 = Ab k ∧ s.S 6 = none) t.args.length ⟨0, Nat.zero_le _, rfl, rfl, rfl, rfl, rfl, rfl, rfl⟩ ?_
 rintro m ⟨env, S⟩ ⟨k, hk, rfl, h0, e0, e12, e13, e14, s6⟩
 simp only at e0 e12 e13 e14 s6
 by_cases hlt : (k : Int) < t.args.length
 ·obtain ⟨a, ha⟩ := Ar (show k < t.args.length by omega)
  repeat' with_reducible first | refine W ?_ | refine Z0 ?_ | ((first | refine Wo fun K hK => ?_ | refine Wp ?_ | refine Wq ?_ | refine Wr ?_); (try simp only [go_sem, fN, seval, eT, iR, e0, e12, e13, e14, s6, hlt, ha, dT, dF, nL]); (repeat refine Ai ?_); (try (refine hK _ ?_; clear hK K)); try refine iC ?_)
  refine ⟨_, ih _ (Tm.lt_of_arg (Ae ha)) a rfl, ?_⟩
  cases hc : occ x a with
  | true =>
   repeat' with_reducible first | refine W ?_ | refine Z0 ?_ | ((first | refine Wo fun K hK => ?_ | refine Wp ?_ | refine Wq ?_ | refine Wr ?_); (try simp only [go_sem, fN, seval, eT, iR, hc, dT, dF, nL]); (repeat refine Ai ?_); (try (refine hK _ ?_; clear hK K)); try refine iC ?_)
   simp only [go_sem, fN, seval, AZ, AS.result, AB, AF, AP]
   have : t.args.any (occ x) = true := List.any_eq_true.2 ⟨a, Ae ha, hc⟩
   rw [this]
  | false =>
   repeat' with_reducible first | refine W ?_ | refine Z0 ?_ | ((first | refine Wo fun K hK => ?_ | refine Wp ?_ | refine Wq ?_ | refine Wr ?_); (try simp only [go_sem, fN, seval, eT, iR, hc, e0, e12, e13, e14, s6, dT, dF, nL]); (repeat refine Ai ?_); (try (refine hK _ ?_; clear hK K)); try refine iC ?_)
   refine AI ⟨t.args.length - (k + 1), by omega, k + 1, by omega, rfl, by rw [Au ha, List.any_append, h0]; simp [hc], ?_⟩
   simp only [go_sem, fN, seval, AS.drop, BW, AC.clears, AC.clear, AC.highs, AC.high, Bool.not_false, Bool.true_and, Bool.and_self, AV.purge, AV.purges, AC.purge, AL.purge, List.contains_cons, List.contains_nil, Nat.reduceBEq, Bool.or_self, Bool.or_false, Bool.false_or, Bool.or_true, eT, iR, e0, e12, e13, e14, s6]
   congr 3
 ·repeat' with_reducible first | refine W ?_ | refine Z0 ?_ | ((first | refine Wo fun K hK => ?_ | refine Wp ?_ | refine Wq ?_ | refine Wr ?_); (try simp only [go_sem, fN, seval, eT, iR, e0, e12, e13, e14, s6, hlt, dT, dF, nL]); (repeat refine Ai ?_); (try (refine hK _ ?_; clear hK K)); try refine iC ?_)
  simp only [go_sem, fN, seval, AZ, AS.result, AB, AF, AP]
  rw [List.take_of_length_le (by omega)] at h0
  rw [h0]
def A9 : List Pr → Int
 | [] => 0
 | p :: l => if Bx p.1 p.2 = 0 then A9 l else Bx p.1 p.2
def DP (l : List Pr) : Int := if 40 < l.length then 3 else A9 l
theorem C1 : ∀ (xs ys : List Pr), A9 (xs ++ ys) = if A9 xs = 0 then A9 ys else A9 xs
 | [], ys => by simp [A9]
 | p :: xs, ys => by
  simp only [List.cons_append, A9]
  by_cases h : Bx p.1 p.2 = 0
  ·simp only [h, if_true, C1]
  ·simp only [h, if_false]
theorem J7 {xs : List Pr} {k : Nat} {p : Pr} (h : xs[k]? = some p) (h0 : A9 (xs.take k) = 0) : (Bx p.1 p.2 = 0 → A9 (xs.take (k + 1)) = 0) ∧ (Bx p.1 p.2 ≠ 0 → A9 xs = Bx p.1 p.2) := by
 constructor
 ·intro hb
  rw [Au h, C1, if_pos h0]
  simp [A9, hb]
 ·intro hb
  have e : A9 xs = A9 (xs.take k ++ xs.drop k) := by rw [List.take_append_drop]
  rw [e, C1, if_pos h0, Bz h]
  simp [A9, hb]
theorem Il {l : List Pr} (h : DP l = 0) : l.length ≤ 40 ∧ ∀ p ∈ l, p.1.may = 0 ∧ p.2.may = 0 := by
 unfold DP at h
 split at h
 ·cases h
 ·refine ⟨by omega, ?_⟩
  have key : ∀ {l : List Pr}, A9 l = 0 → ∀ p ∈ l, p.1.may = 0 ∧ p.2.may = 0 := by
   intro l
   induction l with
   | nil => simp
   | cons p l ih =>
    intro h q hq
    simp only [A9] at h
    split at h
    ·rename_i h2
     rcases List.mem_cons.1 hq with rfl | hq
     ·unfold Bx at h2
      split at h2
      ·exact ⟨by assumption, h2⟩
      ·rename_i h3; exact absurd h2 h3
     ·exact ih h q hq
    ·rename_i h2; exact absurd h h2
  exact key h
theorem J0 (l : List Pr) : AW Try.prog 27 [NG l] (Ab (DP l)) := by
 have hm : DP l = if 40 < l.length then 3 else A9 l := rfl
 refine Hx.ac fun C hC => ?_
 unfold ES
 by_cases h40 : (40 : Int) < l.length
 ·repeat' with_reducible first | refine W ?_ | refine Z0 ?_ | ((first | refine Wo fun K hK => ?_ | refine Wp ?_ | refine Wq ?_ | refine Wr ?_); (try simp only [go_sem, fN, seval, eT, iR, h40, dT, dF, nL]); (repeat refine Ai ?_); (try (refine hK _ ?_; clear hK K)); try refine iC ?_)
  simp only [go_sem, fN, seval, AZ, AS.result, AB, AF, AP]
  rw [hm, if_pos (by omega)]
 rw [if_neg (by omega)] at hm
 repeat' with_reducible first | refine W ?_ | refine Z0 ?_ | ((first | refine Wo fun K hK => ?_ | refine Wp ?_ | refine Wq ?_ | refine Wr ?_); (try simp only [go_sem, fN, seval, eT, iR, h40, dT, dF, nL]); (repeat refine Ai ?_); (try (refine hK _ ?_; clear hK K)); try refine iC ?_)
 refine IWP.loopD [4, 6] (fun m s => ∃ k, k ≤ l.length ∧ m = l.length - k ∧ A9 (l.take k) = 0 ∧ s.env 11 = NG l ∧ s.env 12 = Ab l.length ∧ s.env 13 = Ab k ∧ s.S 4 = none ∧ s.S 6 = none) l.length ⟨0, Nat.zero_le _, rfl, rfl, rfl, rfl, rfl, rfl, rfl⟩ ?_
 rintro m ⟨env, S⟩ ⟨k, hk, rfl, h0, e11, e12, e13, s4, s6⟩
 simp only at e11 e12 e13 s4 s6
 by_cases hlt : (k : Int) < l.length
 ·obtain ⟨p, hp⟩ := Ar (show k < l.length by omega)
  obtain ⟨g1, g2⟩ := J7 hp h0
  repeat' with_reducible first | refine W ?_ | refine Z0 ?_ | ((first | refine Wo fun K hK => ?_ | refine Wp ?_ | refine Wq ?_ | refine Wr ?_); (try simp only [go_sem, fN, seval, eT, iR, e11, e12, e13, s4, s6, hlt, hp, HJ, dT, dF, nL]); (repeat refine Ai ?_); (try (refine hK _ ?_; clear hK K)); try refine iC ?_)
  refine IWP.loopD [6] (fun m s => ∃ i, i ≤ 2 ∧ m = 2 - i ∧ (0 < i → p.1.may = 0) ∧ (1 < i → p.2.may = 0) ∧ s.env 11 = NG l ∧ s.env 12 = Ab l.length ∧ s.env 13 = Ab k ∧ s.env 21 = .one (.full [Ay p.1, Ay p.2]) ∧ s.env 22 = Ab 2 ∧ s.env 23 = Ab i ∧ s.S 6 = none) 2 ⟨0, by omega, rfl, by simp, by simp, ?_⟩ ?_
  ·simp only [go_sem, fN, seval, eT, iR, e11, e12, e13, s4, s6]
  rintro m ⟨env2, S2⟩ ⟨i, hi, rfl, q1, q2, e11, e12, e13, e21, e22, e23, s6⟩
  simp only at e11 e12 e13 e21 e22 e23 s6
  match i, hi, q1, q2, e23 with
  | 0, _, _, _, e23 =>
   repeat' with_reducible first | refine W ?_ | refine Z0 ?_ | ((first | refine Wo fun K hK => ?_ | refine Wp ?_ | refine Wq ?_ | refine Wr ?_); (try simp only [go_sem, fN, seval, eT, iR, e21, e22, e23, s6, dT, dF, nL]); (repeat refine Ai ?_); (try (refine hK _ ?_; clear hK K)); try refine iC ?_)
   refine ⟨_, DM p.1, ?_⟩
   by_cases hz : p.1.may = 0
   ·repeat' with_reducible first | refine W ?_ | refine Z0 ?_ | ((first | refine Wo fun K hK => ?_ | refine Wp ?_ | refine Wq ?_ | refine Wr ?_); (try simp only [go_sem, fN, seval, eT, iR, hz, e11, e12, e13, e21, e22, e23, s6, dT, dF, nL]); (repeat refine Ai ?_); (try (refine hK _ ?_; clear hK K)); try refine iC ?_)
    refine AI ⟨1, by omega, 1, by omega, rfl, ?_⟩
    simp only [go_sem, fN, seval, AS.drop, BW, AC.clears, AC.clear, AC.highs, AC.high, Bool.not_false, Bool.true_and, Bool.and_self, AV.purge, AV.purges, AC.purge, AL.purge, List.contains_cons, List.contains_nil, Nat.reduceBEq, Bool.or_self, Bool.or_false, Bool.false_or, Bool.or_true, eT, iR, e11, e12, e13, e21, e22, e23, s6]
   ·repeat' with_reducible first | refine W ?_ | refine Z0 ?_ | ((first | refine Wo fun K hK => ?_ | refine Wp ?_ | refine Wq ?_ | refine Wr ?_); (try simp only [go_sem, fN, seval, eT, iR, hz, dT, dF, nL]); (repeat refine Ai ?_); (try (refine hK _ ?_; clear hK K)); try refine iC ?_)
    simp only [go_sem, fN, seval, AZ, AS.result, AB, AF, AP]
    have ht : Bx p.1 p.2 = p.1.may := if_neg hz
    rw [hm, g2 (by rw [ht]; exact hz), ht]
  | 1, _, q1, _, e23 =>
   have q1 := q1 (by omega)
   have ht : Bx p.1 p.2 = p.2.may := if_pos q1
   repeat' with_reducible first | refine W ?_ | refine Z0 ?_ | ((first | refine Wo fun K hK => ?_ | refine Wp ?_ | refine Wq ?_ | refine Wr ?_); (try simp only [go_sem, fN, seval, eT, iR, e21, e22, e23, s6, dT, dF, nL]); (repeat refine Ai ?_); (try (refine hK _ ?_; clear hK K)); try refine iC ?_)
   refine ⟨_, DM p.2, ?_⟩
   by_cases hz : p.2.may = 0
   ·repeat' with_reducible first | refine W ?_ | refine Z0 ?_ | ((first | refine Wo fun K hK => ?_ | refine Wp ?_ | refine Wq ?_ | refine Wr ?_); (try simp only [go_sem, fN, seval, eT, iR, hz, e11, e12, e13, e21, e22, e23, s6, dT, dF, nL]); (repeat refine Ai ?_); (try (refine hK _ ?_; clear hK K)); try refine iC ?_)
    refine AI ⟨0, by omega, 2, by omega, rfl, ?_⟩
    simp only [go_sem, fN, seval, AS.drop, BW, AC.clears, AC.clear, AC.highs, AC.high, Bool.not_false, Bool.true_and, Bool.and_self, AV.purge, AV.purges, AC.purge, AL.purge, List.contains_cons, List.contains_nil, Nat.reduceBEq, Bool.or_self, Bool.or_false, Bool.false_or, Bool.or_true, eT, iR, e11, e12, e13, e21, e22, e23, s6]
    exact q1
   ·repeat' with_reducible first | refine W ?_ | refine Z0 ?_ | ((first | refine Wo fun K hK => ?_ | refine Wp ?_ | refine Wq ?_ | refine Wr ?_); (try simp only [go_sem, fN, seval, eT, iR, hz, dT, dF, nL]); (repeat refine Ai ?_); (try (refine hK _ ?_; clear hK K)); try refine iC ?_)
    simp only [go_sem, fN, seval, AZ, AS.result, AB, AF, AP]
    rw [hm, g2 (by rw [ht]; exact hz), ht]
  | 2, _, q1, q2, e23 =>
   have hz : Bx p.1 p.2 = 0 := by unfold Bx; rw [if_pos (q1 (by omega))]; exact q2 (by omega)
   repeat' with_reducible first | refine W ?_ | refine Z0 ?_ | ((first | refine Wo fun K hK => ?_ | refine Wp ?_ | refine Wq ?_ | refine Wr ?_); (try simp only [go_sem, fN, seval, eT, iR, e11, e12, e13, e21, e22, e23, s6, dT, dF, nL]); (repeat refine Ai ?_); (try (refine hK _ ?_; clear hK K)); try refine iC ?_)
   refine AI ⟨l.length - (k + 1), by omega, k + 1, by omega, rfl, g1 hz, ?_⟩
   simp only [go_sem, fN, seval, AS.drop, BW, AC.clears, AC.clear, AC.highs, AC.high, Bool.not_false, Bool.true_and, Bool.and_self, AV.purge, AV.purges, AC.purge, AL.purge, List.contains_cons, List.contains_nil, Nat.reduceBEq, Bool.or_self, Bool.or_false, Bool.false_or, Bool.or_true, eT, iR, e11, e12, e13, s6]
   congr 3
  | i + 3, hi, _, _, _ => omega
 ·repeat' with_reducible first | refine W ?_ | refine Z0 ?_ | ((first | refine Wo fun K hK => ?_ | refine Wp ?_ | refine Wq ?_ | refine Wr ?_); (try simp only [go_sem, fN, seval, eT, iR, e11, e12, e13, hlt, dT, dF, nL]); (repeat refine Ai ?_); (try (refine hK _ ?_; clear hK K)); try refine iC ?_)
  simp only [go_sem, fN, seval, AZ, AS.result, AB, AF, AP]
  rw [List.take_of_length_le (by omega)] at h0
  rw [hm, h0]

theorem Nx {m : Nat} {s : List Bd} {p : Pr} {l : List Pr} {r : List Bd × Int} (h : FQ m s (p :: l) r) : (∃ e, CJ s p = .err e ∧ r = ([], e)) ∨ ∃ s' ps n, CJ s p = .go s' ps ∧ n < m ∧ FQ n s' (ps ++ l) r := by
 cases h with
 | err h => exact .inl ⟨_, h, rfl⟩
 | go h1 h2 => exact .inr ⟨_, _, _, h1, by omega, h2⟩
structure K_ (U : List ByteArray) (s : List Bd) (t : Tm) : Prop where
 chk : t.chk = 0
 siz : t.size ≤ 2000
 free : I9 s t
 inU : ∀ y, occ y t = true → y ∈ U
abbrev Qj (t : Tm) : AL := .box 25 [.st (.str t.name), .st (.list (t.args.map Ay))]
def KC (U : List ByteArray) (s : List Bd) (p : Pr) (u t : Tm) : Prop := K_ U s u ∧ K_ U s t ∧
 ((AU u.name = true ∧ CJ s p = EO s u.name t) ∨ (AU u.name = false ∧ CJ s p = if u.name = t.name ∧ u.args.length = t.args.length then .go s (u.args.zip t.args) else .err 5))
theorem PU {U : List ByteArray} {s : List Bd} {p : Pr} (ha : K_ U s (p.1.on s)) (hb : K_ U s (p.2.on s)) (hne : ¬ (AU (p.1.on s).name = true ∧ (p.1.on s).name = (p.2.on s).name)) (hv : AU (p.1.on s).name = true ∨ AU (p.2.on s).name = false) : KC U s p (p.1.on s) (p.2.on s) := by
 have h0 : ¬ (2000 < (p.1.on s).size ∨ 2000 < (p.2.on s).size) := by have := ha.siz; have := hb.siz; omega
 refine ⟨ha, hb, ?_⟩
 cases h1 : AU (p.1.on s).name with
 | true =>
  refine .inl ⟨rfl, ?_⟩
  unfold CJ
  rw [if_neg h0, if_neg hne, if_pos h1]
 | false =>
  have h2 : AU (p.2.on s).name = false := hv.resolve_left (by rw [h1]; simp)
  refine .inr ⟨rfl, ?_⟩
  unfold CJ
  rw [if_neg h0, if_neg hne, if_neg (by rw [h1]; simp), if_neg (by rw [h2]; simp)]
theorem PI {U : List ByteArray} {s : List Bd} {p : Pr} (ha : K_ U s (p.1.on s)) (hb : K_ U s (p.2.on s)) (h1 : AU (p.1.on s).name = false) (h2 : AU (p.2.on s).name = true) : KC U s p (p.2.on s) (p.1.on s) := by
 have h0 : ¬ (2000 < (p.1.on s).size ∨ 2000 < (p.2.on s).size) := by have := ha.siz; have := hb.siz; omega
 refine ⟨hb, ha, .inl ⟨h2, ?_⟩⟩
 unfold CJ
 rw [if_neg h0, if_neg (by rw [h1]; simp), if_neg (by rw [h1]; simp), if_pos h2]

set_option maxHeartbeats 2000000
def Stk (xs : List (List SV)) (l : List Pr) : Prop := xs.take l.length = l.reverse.map HJ ∧ l.length ≤ xs.length
theorem Stk.push {xs : List (List SV)} {l : List Pr} (h : Stk xs l) (p : Pr) : Stk (xs.take l.length ++ [HJ p] ++ xs.drop (l.length + 1)) (p :: l) := by
 obtain ⟨h1, h2⟩ := h
 have hl : (xs.take l.length).length = l.length := by rw [List.length_take]; omega
 refine ⟨?_, by simp only [List.length_append, List.length_take, List.length_cons, List.length_nil]; omega⟩
 rw [List.length_cons, List.take_append_of_le_length (by rw [List.length_append, hl]; simp), List.take_of_length_le (by rw [List.length_append, hl]; simp), h1, List.reverse_cons, List.map_append]
 rfl
theorem Stk.pushLen {xs : List (List SV)} {l : List Pr} (h : Stk xs l) (p : Pr) : (xs.take l.length ++ [HJ p] ++ xs.drop (l.length + 1)).length = if xs.length ≤ l.length + 1 then l.length + 1 else xs.length := by
 have := h.2
 simp only [List.length_append, List.length_take, List.length_drop, List.length_cons, List.length_nil]
 split <;> omega
theorem Stk.top {xs : List (List SV)} {p : Pr} {l : List Pr} (h : Stk xs (p :: l)) : xs[l.length]? = some (HJ p) := by
 obtain ⟨h1, h2⟩ := h
 have e : (xs.take (p :: l).length)[l.length]? = xs[l.length]? := by rw [List.getElem?_take, if_pos (by simp)]
 rw [← e, h1, List.reverse_cons, List.map_append, List.getElem?_append_right (by simp)]
 simp
theorem Stk.pop {xs : List (List SV)} {p : Pr} {l : List Pr} (h : Stk xs (p :: l)) : Stk xs l := by
 obtain ⟨h1, h2⟩ := h
 rw [List.length_cons] at h2
 refine ⟨?_, by omega⟩
 have e : xs.take l.length = (xs.take (p :: l).length).take l.length := by rw [List.take_take, List.length_cons, Nat.min_eq_left (by omega)]
 rw [e, h1, List.reverse_cons, List.map_append, List.take_append_of_le_length (by simp), List.take_of_length_le (by simp)]
def DG (s : List Bd) (x : ByteArray) (t : Tm) (i : Nat) : List Bd := (s.take i).map (fun b => (b.1, b.2.on [(x, t)])) ++ s.drop i
theorem MB (s : List Bd) (x : ByteArray) (t : Tm) (i : Nat) : (DG s x t i).length = s.length := by
 have := congrArg List.length (List.take_append_drop i s)
 unfold DG
 rw [List.length_append] at this ⊢
 rw [List.length_map]
 exact this
theorem ML {s : List Bd} {x : ByteArray} {t : Tm} {i : Nat} {b : Bd} (h : s[i]? = some b) : (DG s x t i)[i]? = some b := by
 have := CK h
 unfold DG
 rw [List.getElem?_append_right (by rw [List.length_map, List.length_take]; omega), List.length_map, List.length_take, Nat.min_eq_left (by omega), Nat.sub_self, Bz h]
 rfl
theorem Ld {s : List Bd} {x : ByteArray} {t : Tm} {i : Nat} {b : Bd} (h : s[i]? = some b) : (DG s x t i).set i (b.1, b.2.on [(x, t)]) = DG s x t (i + 1) := by
 have := CK h
 unfold DG
 rw [List.set_append_right _ _ (by rw [List.length_map, List.length_take]; omega), List.length_map, List.length_take, Nat.min_eq_left (by omega), Nat.sub_self, Bz h, Au h, List.map_append, List.append_assoc]
 rfl
theorem Le (s : List Bd) (x : ByteArray) (t : Tm) : DG s x t s.length = s.map fun b => (b.1, b.2.on [(x, t)]) := by
 unfold DG
 rw [List.take_length, List.drop_length, List.append_nil]
theorem P0 (U : List ByteArray) (hU : U.length ≤ 20000) (C0 : Nat) (hC0 : C0 ≤ 100000000000) (n : Nat) (l : List Pr) (r : List Bd × Int) (hr : FQ n [] l r) (hg : DI U C0 [] l) : AW Try.prog 28 [NG l] (.tup [N8 r.1, Ab r.2]) := by
 have hll : l.length ≤ 100000000001 := by have := hg.stack; omega
 refine Hu.ac fun C hC => ?_
 unfold Ey
 repeat' with_reducible first | refine W ?_ | refine Z0 ?_ | ((first | refine Wo fun K hK => ?_ | refine Wp ?_ | refine Wq ?_ | refine Wr ?_); (try simp only [go_sem, fN, seval, eT, iR, dT, dF, nL]); (repeat refine Ai ?_); (try (refine hK _ ?_; clear hK K)); try refine iC ?_)
 refine IWP.ghost (Ak.ownM 4 500 54 3 rfl rfl (by rw [hC]; decide)) ?_
 refine IWP.ghost (Ak.ownM 5 501 51 4 rfl rfl (by rw [hC]; decide)) ?_
 refine IWP.ghost (Ak.toPart 5 501 0 rfl (by rw [hC]; decide)) ?_
 refine IWP.loop (fun m x => ∃ (k : Nat) (xs : List (List SV)), k ≤ l.length ∧ m = k ∧ Stk xs (l.drop k) ∧ x.env 0 = NG l ∧ x.env 4 = .one (.row 500 0) ∧ x.env 5 = .one (.part 501 (l.drop k).length xs.length) ∧ x.env 6 = .one (.st (.int .i64 ((k : Int) - 1))) ∧ x.S 500 = some (BS []) ∧ x.S 501 = some (.mrow 51 4 xs) ∧ x.S 7 = none ∧ x.S 8 = none ∧ x.S 10 = none) l.length ⟨l.length, [], Nat.le_refl _, rfl, ?_⟩ ?_
 ·rw [List.drop_length]
  exact ⟨⟨rfl, Nat.le_refl _⟩, rfl, rfl, rfl, rfl, rfl, rfl, rfl, rfl, rfl⟩
 ·rintro k ⟨env, S⟩ ⟨_, xs, hk, rfl, hstk, e0, e4, e5, e6, s500, s501, s7, s8, s10⟩
  simp only at e0 e4 e5 e6 s500 s501 s7 s8 s10
  by_cases hk0 : 0 ≤ (k : Int) - 1
  ·obtain ⟨k, rfl⟩ : ∃ q, k = q + 1 := ⟨k - 1, by omega⟩
   obtain ⟨p, hp⟩ := Ar (show k < l.length by omega)
   have hz : (((k + 1 : Nat) : Int) - 1).toNat = k := by omega
   have hp' : l[(((k + 1 : Nat) : Int) - 1).toNat]? = some p := by rw [hz]; exact hp
   have hdl : (List.drop (k + 1) l).length ≤ 100000000001 := by rw [List.length_drop]; omega
   repeat' with_reducible first | refine W ?_ | refine Z0 ?_ | ((first | refine Wo fun K hK => ?_ | refine Wp ?_ | refine Wq ?_ | refine Wr ?_); (try simp only [go_sem, fN, seval, eT, iR, e0, e4, e5, e6, s500, s501, s7, s8, s10, hk0, hz, hp, HJ, dT, dF, nL]); (repeat refine Ai ?_); (try (refine hK _ ?_; clear hK K)); try refine iC ?_)
   refine AI ⟨k, by omega, k, _, by omega, rfl, by rw [Bz hp]; exact hstk.push p, ?_⟩
   simp only [go_sem, fN, seval, eT, iR, e0, e4, e5, e6, s500, s7, s8, s10]
   have hpl : (List.take (List.drop (k + 1) l).length xs).length + 1 + (List.drop ((List.drop (k + 1) l).length + 1) xs).length = if xs.length ≤ (List.drop (k + 1) l).length + 1 then (List.drop (k + 1) l).length + 1 else xs.length := by
    have := hstk.pushLen p
    simpa only [List.length_append, List.length_cons, List.length_nil, Nat.zero_add] using this
   rw [hpl, Bz hp]
   refine ⟨rfl, ?_, rfl⟩
   congr 3
   omega
  ·obtain rfl : k = 0 := by omega
   rw [List.drop_zero] at hstk e5
   repeat' with_reducible first | refine W ?_ | refine Z0 ?_ | ((first | refine Wo fun K hK => ?_ | refine Wp ?_ | refine Wq ?_ | refine Wr ?_); (try simp only [go_sem, fN, seval, eT, iR, e6, hk0, dT, dF, nL]); (repeat refine Ai ?_); (try (refine hK _ ?_; clear hK K)); try refine iC ?_)
   refine IWP.loopD [7, 8, 10] (fun m x => ∃ s l xs, FQ m s l r ∧ DI U C0 s l ∧ Stk xs l ∧ x.env 4 = .one (.row 500 s.length) ∧ x.env 5 = .one (.part 501 l.length xs.length) ∧ x.S 500 = some (BS s) ∧ x.S 501 = some (.mrow 51 4 xs) ∧ x.S 7 = none ∧ x.S 8 = none ∧ x.S 10 = none) n ⟨[], l, xs, hr, hg, hstk, ?_⟩ ?_
   ·simp only [go_sem, fN, seval, eT, iR, e4, e5, s500, s501, s7, s8, s10]
   clear hr hg hstk e0 e4 e5 e6 s500 s501 s7 s8 s10 hll hk hk0 env S xs
   rintro m ⟨env, S⟩ ⟨s, l, xs, hr, hg, hstk, e4, e5, s500, s501, s7, s8, s10⟩
   simp only at e4 e5 s500 s501 s7 s8 s10
   have hsl : s.length ≤ 20000 := Nat.le_trans hg.len hU
   cases l with
   | nil =>
    cases hr
    refine IWP.ghost (Ak.share (id := 500) s500) ?_
    repeat' with_reducible first | refine W ?_ | refine Z0 ?_ | ((first | refine Wo fun K hK => ?_ | refine Wp ?_ | refine Wq ?_ | refine Wr ?_); (try simp only [go_sem, fN, seval, eT, iR, e4, e5, s501, dT, dF, nL]); (repeat refine Ai ?_); (try (refine hK _ ?_; clear hK K)); try refine iC ?_)
    simp only [go_sem, fN, seval, AZ, AS.result, AB, AF, AP]
   | cons p l =>
    have hinv := Nx hr
    obtain ⟨hc1, hc2⟩ := hg.lchk p (by simp)
    have hUp := hg.lU p (by simp)
    obtain ⟨hz1, hz2⟩ := hg.lsiz p (by simp)
    obtain ⟨a1, a2, a3⟩ := onU hg hc1 fun y => (hUp y).1
    obtain ⟨b1, b2, b3⟩ := onU hg hc2 fun y => (hUp y).2
    have hl0 : (0 : Int) < ((l.length + 1 : Nat) : Int) := by omega
    have hl1 : (((l.length + 1 : Nat) : Int) - 1) = (l.length : Int) := by omega
    have hl2 : (l.length : Int) < ((l.length + 1 : Nat) : Int) := by omega
    have hl3 : (l.length : Int) ≤ ((l.length + 1 : Nat) : Int) := by omega
    have hlb : l.length ≤ 100000000000 := by have := hg.stack; rw [List.length_cons] at this; omega
    have htop := hstk.top
    have hstk' := hstk.pop
    rw [List.length_cons] at e5
    have onc : ∀ t : Tm, t.chk = 0 → ∀ T : AA, (∀ q ∈ [(500, BS s)], T q.1 = some q.2) → An Try.prog 36 [.one (.row (up1 500) s.length), aTm t] (upS T) (.tup [aTm (CN s t).1, Aj (CN s t).2]) (upS T) :=
     fun t ht T hT => Ri s (by omega) hg.ord t hg.var ht (up1 500) (A5 500) (upS T) (by rw [A7, hT _ (List.mem_singleton.2 rfl)]; rfl)
    by_cases ha : (p.1.on s).size ≤ 2000
    case neg =>
     have he : CN s p.1 = (Tm.nil, false) := by unfold CN; rw [if_neg ha]
     have hst : CJ s p = .err 8 := by unfold CJ; rw [if_pos (by omega)]
     repeat' with_reducible first | refine W ?_ | refine Z0 ?_ | ((first | refine Wo fun K hK => ?_ | refine Wp ?_ | refine Wq ?_ | refine Wr ?_); (try simp only [go_sem, fN, seval, eT, iR, e4, e5, s500, s501, s7, s8, s10, hl0, hl1, hl2, hl3, htop, HJ, dT, dF, nL]); (repeat refine Ai ?_); (try (refine hK _ ?_; clear hK K)); try refine iC ?_)
     refine ⟨_, [(500, BS s)], CQ (by (simp only [go_sem, fN, seval, eT, iR, s500])), onc p.1 hc1, ?_⟩
     repeat' with_reducible first | refine W ?_ | refine Z0 ?_ | ((first | refine Wo fun K hK => ?_ | refine Wp ?_ | refine Wq ?_ | refine Wr ?_); (try simp only [go_sem, fN, seval, eT, iR, he, e4, e5, s8, s10, dT, dF, nL]); (repeat refine Ai ?_); (try (refine hK _ ?_; clear hK K)); try refine iC ?_)
     refine ⟨_, [(500, BS s)], CQ (by (simp only [go_sem, fN, seval, eT, iR, s500])), onc p.2 hc2, ?_⟩
     repeat' with_reducible first | refine W ?_ | refine Z0 ?_ | ((first | refine Wo fun K hK => ?_ | refine Wp ?_ | refine Wq ?_ | refine Wr ?_); (try simp only [go_sem, fN, seval, eT, iR, he, e4, e5, s8, s10, dT, dF, nL]); (repeat refine Ai ?_); (try (refine hK _ ?_; clear hK K)); try refine iC ?_)
     simp only [go_sem, fN, seval, AZ, AS.result, AB, AF, AP]
     rcases hinv with ⟨e, h1, rfl⟩ | ⟨s', ps, q, h1, _⟩
     ·rw [hst] at h1
      cases h1
      rfl
     ·rw [hst] at h1
      cases h1
    by_cases hb : (p.2.on s).size ≤ 2000
    case neg =>
     have he : CN s p.1 = (p.1.on s, true) := by unfold CN; rw [if_pos ha]
     have he2 : CN s p.2 = (Tm.nil, false) := by unfold CN; rw [if_neg hb]
     have hst : CJ s p = .err 8 := by unfold CJ; rw [if_pos (by omega)]
     repeat' with_reducible first | refine W ?_ | refine Z0 ?_ | ((first | refine Wo fun K hK => ?_ | refine Wp ?_ | refine Wq ?_ | refine Wr ?_); (try simp only [go_sem, fN, seval, eT, iR, e4, e5, s500, s501, s7, s8, s10, hl0, hl1, hl2, hl3, htop, HJ, dT, dF, nL]); (repeat refine Ai ?_); (try (refine hK _ ?_; clear hK K)); try refine iC ?_)
     refine ⟨_, [(500, BS s)], CQ (by (simp only [go_sem, fN, seval, eT, iR, s500])), onc p.1 hc1, ?_⟩
     repeat' with_reducible first | refine W ?_ | refine Z0 ?_ | ((first | refine Wo fun K hK => ?_ | refine Wp ?_ | refine Wq ?_ | refine Wr ?_); (try simp only [go_sem, fN, seval, eT, iR, he, e4, e5, s8, s10, dT, dF, nL]); (repeat refine Ai ?_); (try (refine hK _ ?_; clear hK K)); try refine iC ?_)
     refine ⟨_, [(500, BS s)], CQ (by (simp only [go_sem, fN, seval, eT, iR, s500])), onc p.2 hc2, ?_⟩
     repeat' with_reducible first | refine W ?_ | refine Z0 ?_ | ((first | refine Wo fun K hK => ?_ | refine Wp ?_ | refine Wq ?_ | refine Wr ?_); (try simp only [go_sem, fN, seval, eT, iR, he, he2, e4, e5, s8, s10, dT, dF, nL]); (repeat refine Ai ?_); (try (refine hK _ ?_; clear hK K)); try refine iC ?_)
     simp only [go_sem, fN, seval, AZ, AS.result, AB, AF, AP]
     rcases hinv with ⟨e, h1, rfl⟩ | ⟨s', ps, q, h1, _⟩
     ·rw [hst] at h1
      cases h1
      rfl
     ·rw [hst] at h1
      cases h1
    have he : CN s p.1 = (p.1.on s, true) := by unfold CN; rw [if_pos ha]
    have he2 : CN s p.2 = (p.2.on s, true) := by unfold CN; rw [if_pos hb]
    have hta : K_ U s (p.1.on s) := ⟨a1, ha, a2, a3⟩
    have htb : K_ U s (p.2.on s) := ⟨b1, hb, b2, b3⟩
    repeat' with_reducible first | refine W ?_ | refine Z0 ?_ | ((first | refine Wo fun K hK => ?_ | refine Wp ?_ | refine Wq ?_ | refine Wr ?_); (try simp only [go_sem, fN, seval, eT, iR, e4, e5, s500, s501, s7, s8, s10, hl0, hl1, hl2, hl3, htop, HJ, dT, dF, nL]); (repeat refine Ai ?_); (try (refine hK _ ?_; clear hK K)); try refine iC ?_)
    refine ⟨_, [(500, BS s)], CQ (by (simp only [go_sem, fN, seval, eT, iR, s500])), onc p.1 hc1, ?_⟩
    repeat' with_reducible first | refine W ?_ | refine Z0 ?_ | ((first | refine Wo fun K hK => ?_ | refine Wp ?_ | refine Wq ?_ | refine Wr ?_); (try simp only [go_sem, fN, seval, eT, iR, he, e4, e5, s8, s10, dT, dF, nL]); (repeat refine Ai ?_); (try (refine hK _ ?_; clear hK K)); try refine iC ?_)
    refine ⟨_, [(500, BS s)], CQ (by (simp only [go_sem, fN, seval, eT, iR, s500])), onc p.2 hc2, ?_⟩
    repeat' with_reducible first | refine W ?_ | refine Z0 ?_ | ((first | refine Wo fun K hK => ?_ | refine Wp ?_ | refine Wq ?_ | refine Wr ?_); (try simp only [go_sem, fN, seval, eT, iR, he, he2, e4, e5, s8, s10, dT, dF, nL]); (repeat refine Ai ?_); (try (refine hK _ ?_; clear hK K)); try refine iC ?_)
    refine ⟨_, Ax _, ?_⟩
    by_cases hsame : AU (p.1.on s).name = true ∧ (p.1.on s).name = (p.2.on s).name
    ·have hst : CJ s p = .go s [] := by unfold CJ; rw [if_neg (by omega), if_pos hsame]
     have hsv : AU (p.2.on s).name = true := by rw [← hsame.2]; exact hsame.1
     repeat' with_reducible first | refine W ?_ | refine Z0 ?_ | ((first | refine Wo fun K hK => ?_ | refine Wp ?_ | refine Wq ?_ | refine Wr ?_); (try simp only [go_sem, fN, seval, eT, iR, hsame.1, hsv, hsame.2, e4, e5, dT, dF, nL]); (repeat refine Ai ?_); (try (refine hK _ ?_; clear hK K)); try refine iC ?_)
     rcases hinv with ⟨e, h1, _⟩ | ⟨s', ps, q, h1, h2, h3⟩
     ·rw [hst] at h1
      cases h1
     rw [hst] at h1
     cases h1
     refine AI ⟨q, h2, s, l, xs, h3, hg.tail, hstk', ?_⟩
     simp only [go_sem, fN, seval, AS.drop, BW, AC.clears, AC.clear, AC.highs, AC.high, Bool.not_false, Bool.true_and, Bool.and_self, AV.purge, AV.purges, AC.purge, AL.purge, List.contains_cons, List.contains_nil, Nat.reduceBEq, Bool.or_self, Bool.or_false, Bool.false_or, Bool.or_true, eT, iR, e4, s500, s501]
    by_cases hvv : AU (p.1.on s).name = true ∨ AU (p.2.on s).name = true
    ·apply Rh
     ·intro rest
      cases hv : AU (p.1.on s).name with
      | true =>
       have hne : ¬ (p.1.on s).name = (p.2.on s).name := fun h => hsame ⟨hv, h⟩
       repeat' with_reducible first | refine W ?_ | refine Z0 ?_ | ((first | refine Wo fun K hK => ?_ | refine Wp ?_ | refine Wq ?_ | refine Wr ?_); (try simp only [go_sem, fN, seval, eT, iR, hv, hne, dT, dF, nL]); (repeat refine Ai ?_); (try (refine hK _ ?_; skip)); try refine iC ?_)
       refine ⟨_, Ax _, ?_⟩
       repeat' with_reducible first | refine W ?_ | refine Z0 ?_ | ((first | refine Wo fun K hK => ?_ | refine Wq ?_ | refine Wr ?_); (try simp only [go_sem, fN, seval, eT, iR, hv]); (repeat refine Ai ?_); (try (refine hK _ ?_; skip)))
       with_reducible refine Wp ?_
       simp only [go_sem, fN, seval, true_implies, false_implies, implies_true, dT, dF, nL]
       (try with_reducible refine iC ?_)
       refine IWP.mid (fun x => ∃ u t, KC U s p u t ∧ AU u.name = true ∧ x.env 4 = .one (.row 500 s.length) ∧ x.env 5 = .one (.part 501 l.length xs.length) ∧ x.env 8 = .one (.ptr 8 1 0 0) ∧ x.env 10 = .one (.ptr 10 1 0 0) ∧ x.S 500 = some (BS s) ∧ x.S 501 = some (.mrow 51 4 xs) ∧ x.S 8 = some (Qj u) ∧ x.S 10 = some (Qj t)) ?_ rest
       repeat' with_reducible first | refine W ?_ | refine Z0 ?_ | ((first | refine Wo fun K hK => ?_ | refine Wp ?_ | refine Wq ?_ | refine Wr ?_); (try simp only [go_sem, fN, seval, eT, iR, dT, dF, nL]); (repeat refine Ai ?_); (try (refine hK _ ?_; skip)); try refine iC ?_)
       refine ⟨_, Ax _, ?_⟩
       repeat' with_reducible first | refine W ?_ | refine Z0 ?_ | ((first | refine Wo fun K hK => ?_ | refine Wp ?_ | refine Wq ?_ | refine Wr ?_); (try simp only [go_sem, fN, seval, eT, iR, hv, dT, dF, nL]); (repeat refine Ai ?_); (try (refine hK _ ?_; skip)); try refine iC ?_)
       refine ⟨rfl, _, _, PU hta htb hsame (.inl hv), hv, ?_⟩
       simp only [go_sem, fN, seval, eT, iR, e4, s500, s501]
      | false =>
       have hw : AU (p.2.on s).name = true := hvv.resolve_left (by rw [hv]; simp)
       repeat' with_reducible first | refine W ?_ | refine Z0 ?_ | ((first | refine Wo fun K hK => ?_ | refine Wp ?_ | refine Wq ?_ | refine Wr ?_); (try simp only [go_sem, fN, seval, eT, iR, hv, dT, dF, nL]); (repeat refine Ai ?_); (try (refine hK _ ?_; skip)); try refine iC ?_)
       refine ⟨_, Ax _, ?_⟩
       repeat' with_reducible first | refine W ?_ | refine Z0 ?_ | ((first | refine Wo fun K hK => ?_ | refine Wp ?_ | refine Wq ?_ | refine Wr ?_); (try simp only [go_sem, fN, seval, eT, iR, hv, dT, dF, nL]); (repeat refine Ai ?_); (try (refine hK _ ?_; skip)); try refine iC ?_)
       refine ⟨_, Ax _, ?_⟩
       repeat' with_reducible first | refine W ?_ | refine Z0 ?_ | ((first | refine Wo fun K hK => ?_ | refine Wq ?_ | refine Wr ?_); (try simp only [go_sem, fN, seval, eT, iR, hv, hw]); (repeat refine Ai ?_); (try (refine hK _ ?_; skip)))
       with_reducible refine Wp ?_
       simp only [go_sem, fN, seval, true_implies, false_implies, implies_true, dT, dF, nL]
       (try with_reducible refine iC ?_)
       refine IWP.mid (fun x => ∃ u t, KC U s p u t ∧ AU u.name = true ∧ x.env 4 = .one (.row 500 s.length) ∧ x.env 5 = .one (.part 501 l.length xs.length) ∧ x.env 8 = .one (.ptr 8 1 0 0) ∧ x.env 10 = .one (.ptr 10 1 0 0) ∧ x.S 500 = some (BS s) ∧ x.S 501 = some (.mrow 51 4 xs) ∧ x.S 8 = some (Qj u) ∧ x.S 10 = some (Qj t)) ?_ rest
       repeat' with_reducible first | refine W ?_ | refine Z0 ?_ | ((first | refine Wo fun K hK => ?_ | refine Wp ?_ | refine Wq ?_ | refine Wr ?_); (try simp only [go_sem, fN, seval, eT, iR, dT, dF, nL]); (repeat refine Ai ?_); (try (refine hK _ ?_; skip)); try refine iC ?_)
       refine ⟨_, Ax _, ?_⟩
       repeat' with_reducible first | refine W ?_ | refine Z0 ?_ | ((first | refine Wo fun K hK => ?_ | refine Wp ?_ | refine Wq ?_ | refine Wr ?_); (try simp only [go_sem, fN, seval, eT, iR, hv, dT, dF, nL]); (repeat refine Ai ?_); (try (refine hK _ ?_; skip)); try refine iC ?_)
       refine ⟨rfl, _, _, PI hta htb hv hw, hw, ?_⟩
       simp only [go_sem, fN, seval, eT, iR, e4, s500, s501]
     clear e4 e5 s500 s501 s7 s8 s10
     rintro ⟨env, S⟩ ⟨u, t, ⟨hu, ht, hst⟩, hv, e4, e5, e8, e10, s500, s501, s8, s10⟩
     simp only at e4 e5 e8 e10 s500 s501 s8 s10
     have hst : CJ s p = EO s u.name t := by
      rcases hst with ⟨_, h⟩ | ⟨h, _⟩
      ·exact h
      ·rw [hv] at h; cases h
     rw [hst] at hinv
     repeat' with_reducible first | refine W ?_ | refine Z0 ?_ | ((first | refine Wo fun K hK => ?_ | refine Wp ?_ | refine Wq ?_ | refine Wr ?_); (try simp only [go_sem, fN, seval, eT, iR, e4, e5, e8, e10, s500, s501, s8, s10, dT, dF, nL]); (repeat refine Ai ?_); (try (refine hK _ ?_; clear hK K)); try refine iC ?_)
     refine ⟨_, Pq u.name t, ?_⟩
     cases ho : occ u.name t with
     | true =>
      have hbv : EO s u.name t = .err 6 := by unfold EO; rw [if_pos ho]
      repeat' with_reducible first | refine W ?_ | refine Z0 ?_ | ((first | refine Wo fun K hK => ?_ | refine Wp ?_ | refine Wq ?_ | refine Wr ?_); (try simp only [go_sem, fN, seval, eT, iR, ho, dT, dF, nL]); (repeat refine Ai ?_); (try (refine hK _ ?_; clear hK K)); try refine iC ?_)
      simp only [go_sem, fN, seval, AZ, AS.result, AB, AF, AP]
      rcases hinv with ⟨e, h1, rfl⟩ | ⟨s', ps, q, h1, _⟩
      ·rw [hbv] at h1
       cases h1
       rfl
      ·rw [hbv] at h1
       cases h1
     | false =>
      repeat' with_reducible first | refine W ?_ | refine Z0 ?_ | ((first | refine Wo fun K hK => ?_ | refine Wp ?_ | refine Wq ?_ | refine Wr ?_); (try simp only [go_sem, fN, seval, eT, iR, ho, e4, e5, e8, e10, s500, s501, s8, s10, dT, dF, nL]); (repeat refine Ai ?_); (try (refine hK _ ?_; clear hK K)); try refine iC ?_)
      refine IWP.loop (fun m x => ∃ i, i ≤ s.length ∧ m = s.length - i ∧ (∀ c ∈ s.take i, (c.2.on [(u.name, t)]).size ≤ 2000) ∧ x.env 4 = .one (.row 500 s.length) ∧ x.env 5 = .one (.part 501 l.length xs.length) ∧ x.env 12 = .one (.full [CY (u.name, t)]) ∧ x.env 121 = Ab s.length ∧ x.env 122 = Ab i ∧ x.S 500 = some (BS (DG s u.name t i)) ∧ x.S 501 = some (.mrow 51 4 xs)) s.length ⟨0, Nat.zero_le _, rfl, by simp, ?_⟩ ?_
      ·simp only [go_sem, fN, seval, eT, iR, e4, e5, s500, s501, CY]
       rfl
      rintro mm ⟨env, S⟩ ⟨i, hi, rfl, h20, e4, e5, e12, e121, e122, s500, s501⟩
      simp only at e4 e5 e12 e121 e122 s500 s501
      have hhl := MB s u.name t i
      by_cases hlt : (i : Int) < s.length
      ·have hlt' : i < s.length := by omega
       obtain ⟨b, hb⟩ := Ar hlt'
       have hbz := hg.siz b (Ae hb)
       have hbh := ML (x := u.name) (t := t) hb
       have hone : ∀ c ∈ ([(u.name, t)] : List Bd), AU c.1 = true := by simp [hv]
       repeat' with_reducible first | refine W ?_ | refine Z0 ?_ | ((first | refine Wo fun K hK => ?_ | refine Wp ?_ | refine Wq ?_ | refine Wr ?_); (try simp only [go_sem, fN, seval, eT, iR, e4, e5, e12, e121, e122, s500, s501, hlt, hlt', hhl, hbh, CY, dT, dF, nL]); (repeat refine Ai ?_); (try (refine hK _ ?_; clear hK K)); try refine iC ?_)
       refine ⟨_, RQ [(u.name, t)] (by simp) (List.pairwise_singleton _ _) b.2 hone (hg.chk b (Ae hb)), ?_⟩
       by_cases hz : (b.2.on [(u.name, t)]).size ≤ 2000
       ·have hon : CN [(u.name, t)] b.2 = (b.2.on [(u.name, t)], true) := by unfold CN; rw [if_pos hz]
        repeat' with_reducible first | refine W ?_ | refine Z0 ?_ | ((first | refine Wo fun K hK => ?_ | refine Wp ?_ | refine Wq ?_ | refine Wr ?_); (try simp only [go_sem, fN, seval, eT, iR, hon, e4, e5, e12, e121, e122, s500, s501, hlt, hlt', hhl, hbh, CY, dT, dF, nL]); (repeat refine Ai ?_); (try (refine hK _ ?_; clear hK K)); try refine iC ?_)
        refine AI ⟨s.length - (i + 1), by omega, i + 1, by omega, rfl, fun c hc => ?_, ?_⟩
        ·rw [Au hb] at hc
         rcases List.mem_append.1 hc with hc | hc
         ·exact h20 c hc
         ·rw [List.mem_singleton.1 hc]; exact hz
        ·simp only [go_sem, fN, seval, eT, iR, e4, e5, e12, e121, e122, s500, s501]
         refine ⟨rfl, by congr 3, ?_⟩
         show AL.mrow _ _ (((DG s u.name t i).map CY).set i (CY (b.1, b.2.on [(u.name, t)]))) = _
         rw [← List.map_set, Ld hb]
       ·have hon : CN [(u.name, t)] b.2 = (Tm.nil, false) := by unfold CN; rw [if_neg hz]
        have hbv : EO s u.name t = .err 8 := by
         unfold EO
         rw [if_neg (by rw [ho]; simp), if_neg]
         intro hall
         have := List.all_eq_true.1 hall b (Ae hb)
         exact hz (by simpa using this)
        repeat' with_reducible first | refine W ?_ | refine Z0 ?_ | ((first | refine Wo fun K hK => ?_ | refine Wp ?_ | refine Wq ?_ | refine Wr ?_); (try simp only [go_sem, fN, seval, eT, iR, hon, e4, e5, e12, e121, e122, s500, s501, hlt, hlt', hhl, hbh, CY, dT, dF, nL]); (repeat refine Ai ?_); (try (refine hK _ ?_; clear hK K)); try refine iC ?_)
        simp only [go_sem, fN, seval, AZ, AS.result, AB, AF, AP]
        rcases hinv with ⟨e, h1, rfl⟩ | ⟨s', ps, q, h1, _⟩
        ·rw [hbv] at h1
         cases h1
         rfl
        ·rw [hbv] at h1
         cases h1
      ·obtain rfl : i = s.length := by omega
       rw [List.take_of_length_le (Nat.le_refl _)] at h20
       rw [Le] at s500
       have hbv : EO s u.name t = .go (Bv (s.map (fun b => (b.1, b.2.on [(u.name, t)])) ++ [(u.name, t)])) [] := by
        unfold EO
        rw [if_neg (by rw [ho]; simp), if_pos]
        exact List.all_eq_true.2 fun b hb => by simpa using h20 b hb
       obtain ⟨hg', _⟩ := JS hg (hst.trans hbv)
       rcases hinv with ⟨e, h1, _⟩ | ⟨s', ps, q, h1, h2, h3⟩
       ·rw [hbv] at h1
        cases h1
       rw [hbv] at h1
       cases h1
       have hnamed := HZ (D6 _) (Cq hg'.ord)
       have hL : (s.map (fun b => (b.1, b.2.on [(u.name, t)]))).map CY ++ [[SV.str u.name, SV.str t.name, SV.list (t.args.map Ay)]] = (s.map (fun b => (b.1, b.2.on [(u.name, t)])) ++ [(u.name, t)]).map CY := by
        rw [List.map_append]
        rfl
       have hLl : (s.map (fun b => (b.1, b.2.on [(u.name, t)])) ++ [(u.name, t)]).length = s.length + 1 := by simp
       have hsort := fun S h => Qv _ hnamed (by omega) (up1 500) (A5 500) S h
       have hsl2 := Bk (s.map (fun b => (b.1, b.2.on [(u.name, t)])) ++ [(u.name, t)])
       rw [hLl] at hsort hsl2
       repeat' with_reducible first | refine W ?_ | refine Z0 ?_ | ((first | refine Wo fun K hK => ?_ | refine Wp ?_ | refine Wq ?_ | refine Wr ?_); (try simp only [go_sem, fN, seval, eT, iR, e4, e5, e12, e121, e122, s500, s501, hlt, CY, dT, dF, nL]); (repeat refine Ai ?_); (try (refine hK _ ?_; clear hK K)); try refine iC ?_)
       rw [hL]
       refine ⟨_, _, hsort _ (by rw [A7, AE]; rfl), ?_⟩
       repeat' with_reducible first | refine W ?_ | refine Z0 ?_ | ((first | refine Wo fun K hK => ?_ | refine Wp ?_ | refine Wq ?_ | refine Wr ?_); (try simp only [go_sem, fN, seval, eT, iR, e5, s501, dT, dF, nL]); (repeat refine Ai ?_); (try (refine hK _ ?_; clear hK K)); try refine iC ?_)
       refine AI ⟨q, h2, _, l, xs, h3, hg', hstk', ?_⟩
       simp only [go_sem, fN, seval, AS.drop, BW, AC.clears, AC.clear, AC.highs, AC.high, Bool.not_false, Bool.true_and, Bool.and_self, AV.purge, AV.purges, AC.purge, AL.purge, List.contains_cons, List.contains_nil, Nat.reduceBEq, Bool.or_self, Bool.or_false, Bool.false_or, Bool.or_true, eT, iR, e5, s501, hsl2]
    ·-- two knots
     have hv : AU (p.1.on s).name = false := by
      cases h : AU (p.1.on s).name with
      | false => rfl
      | true => exact absurd (.inl h) hvv
     have hw : AU (p.2.on s).name = false := by
      cases h : AU (p.2.on s).name with
      | false => rfl
      | true => exact absurd (.inr h) hvv
     have hst : CJ s p = if (p.1.on s).name = (p.2.on s).name ∧ (p.1.on s).args.length = (p.2.on s).args.length then .go s ((p.1.on s).args.zip (p.2.on s).args) else .err 5 := by
      unfold CJ
      rw [if_neg (by omega), if_neg hsame, if_neg (by rw [hv]; simp), if_neg (by rw [hw]; simp)]
     rw [hst] at hinv
     have huk := Tm.length_le (p.1.on s).args
     have hus := Tm.size_eq (p.1.on s)
     have htk := Tm.length_le (p.2.on s).args
     have hts := Tm.size_eq (p.2.on s)
     by_cases hsame2 : (p.1.on s).name = (p.2.on s).name ∧ (p.1.on s).args.length = (p.2.on s).args.length
     ·rw [if_pos hsame2] at hst hinv
      obtain ⟨hg', _⟩ := JS hg hst
      rcases hinv with ⟨e, h1, _⟩ | ⟨s', ps, q, h1, h2, h3⟩
      ·cases h1
      cases h1
      repeat' (first | (with_reducible first | refine W ?_ | refine Z0 ?_ | ((first | refine Wo fun K hK => ?_ | refine Wp ?_ | refine Wq ?_ | refine Wr ?_); (try simp only [go_sem, fN, seval, eT, iR, hv, hw, e4, e5, s500, s501, hsame2.1, hsame2.2, dT, dF, nL]); (repeat refine Ai ?_); (try (refine hK _ ?_; clear hK K)); try refine iC ?_)) | refine Cg _ (Ax _) ?_)
      have hzl : ((p.1.on s).args.zip (p.2.on s).args).length = (p.2.on s).args.length := by rw [List.length_zip, hsame2.2, Nat.min_self]
      refine IWP.loop (fun m x => ∃ (k : Nat) (xs : List (List SV)) (n1 n2 : ByteArray), k ≤ (p.2.on s).args.length ∧ m = k ∧ Stk xs (((p.1.on s).args.zip (p.2.on s).args).drop k ++ l) ∧ x.env 4 = .one (.row 500 s.length) ∧ x.env 5 = .one (.part 501 (((p.1.on s).args.zip (p.2.on s).args).drop k ++ l).length xs.length) ∧ x.env 8 = .one (.ptr 8 1 0 0) ∧ x.env 10 = .one (.ptr 10 1 0 0) ∧ x.env 14 = .one (.st (.int .i64 ((k : Int) - 1))) ∧ x.S 500 = some (BS s) ∧ x.S 501 = some (.mrow 51 4 xs) ∧
        x.S 8 = some (.box 25 [.st (.str n1), .st (.list ((p.1.on s).args.map Ay))]) ∧ x.S 10 = some (.box 25 [.st (.str n2), .st (.list ((p.2.on s).args.map Ay))])) (p.2.on s).args.length ⟨(p.2.on s).args.length, xs, (p.2.on s).name, (p.2.on s).name, Nat.le_refl _, rfl, ?_⟩ ?_
      ·rw [← hzl, List.drop_length, hzl]
       refine ⟨hstk', ?_⟩
       simp only [go_sem, fN, seval, eT, iR, e4, s500, s501, hsame2.1]
      rintro k ⟨env, S⟩ ⟨_, xs, n1, n2, hk, rfl, hstk, e4, e5, e8, e10, e14, s500, s501, s8, s10⟩
      simp only at e4 e5 e8 e10 e14 s500 s501 s8 s10
      by_cases hk0 : 0 ≤ (k : Int) - 1
      ·obtain ⟨k, rfl⟩ : ∃ q, k = q + 1 := ⟨k - 1, by omega⟩
       obtain ⟨x, hx⟩ := Ar (show k < (p.1.on s).args.length by omega)
       obtain ⟨y, hy⟩ := Ar (show k < (p.2.on s).args.length by omega)
       have hxy : ((p.1.on s).args.zip (p.2.on s).args)[k]? = some (x, y) := List.getElem?_zip_eq_some.2 ⟨hx, hy⟩
       have hz : (((k + 1 : Nat) : Int) - 1).toNat = k := by omega
       have hdl : (((p.1.on s).args.zip (p.2.on s).args).drop (k + 1) ++ l).length ≤ 100000002000 := by rw [List.length_append, List.length_drop, hzl]; omega
       generalize hD : ((p.1.on s).args.zip (p.2.on s).args).drop (k + 1) ++ l = D at *
       repeat' with_reducible first | refine W ?_ | refine Z0 ?_ | ((first | refine Wo fun K hK => ?_ | refine Wp ?_ | refine Wq ?_ | refine Wr ?_); (try simp only [go_sem, fN, seval, eT, iR, e4, e5, e8, e10, e14, s500, s501, s8, s10, hk0, hz, hx, hy, dT, dF, nL]); (repeat refine Ai ?_); (try (refine hK _ ?_; clear hK K)); try refine iC ?_)
       have hcons : ((p.1.on s).args.zip (p.2.on s).args).drop k ++ l = (x, y) :: D := by rw [Bz hxy, List.cons_append, hD]
       have hDl : (((p.1.on s).args.zip (p.2.on s).args).drop k).length + l.length = D.length + 1 := by rw [← List.length_append, hcons, List.length_cons]
       refine AI ⟨k, by omega, k, _, n1, n2, by omega, rfl, by rw [hcons]; exact hstk.push (x, y), ?_⟩
       have hpl : (List.take D.length xs).length + 1 + (List.drop (D.length + 1) xs).length = if xs.length ≤ D.length + 1 then D.length + 1 else xs.length := by
        have := hstk.pushLen (x, y)
        simpa only [List.length_append, List.length_cons, List.length_nil, Nat.zero_add] using this
       simp only [go_sem, fN, seval, eT, iR, e4, e5, e8, e10, e14, s500, s501, s8, s10, hDl, hpl]
       refine ⟨?_, rfl⟩
       congr 3
       omega
      ·obtain rfl : k = 0 := by omega
       rw [List.drop_zero] at hstk e5
       repeat' with_reducible first | refine W ?_ | refine Z0 ?_ | ((first | refine Wo fun K hK => ?_ | refine Wp ?_ | refine Wq ?_ | refine Wr ?_); (try simp only [go_sem, fN, seval, eT, iR, e4, e5, e14, hk0, dT, dF, nL]); (repeat refine Ai ?_); (try (refine hK _ ?_; clear hK K)); try refine iC ?_)
       refine AI ⟨q, h2, s, _, xs, h3, hg', hstk, ?_⟩
       simp only [go_sem, fN, seval, AS.drop, BW, AC.clears, AC.clear, AC.highs, AC.high, Bool.not_false, Bool.true_and, Bool.and_self, AV.purge, AV.purges, AC.purge, AL.purge, List.contains_cons, List.contains_nil, Nat.reduceBEq, Bool.or_self, Bool.or_false, Bool.false_or, Bool.or_true, eT, iR, e4, e5, s500, s501]
     ·rw [if_neg hsame2] at hst hinv
      by_cases hn : (p.1.on s).name = (p.2.on s).name
      ·have hl : ¬ ((p.1.on s).args.length : Int) = (p.2.on s).args.length := fun h => hsame2 ⟨hn, by omega⟩
       repeat' (first | (with_reducible first | refine W ?_ | refine Z0 ?_ | ((first | refine Wo fun K hK => ?_ | refine Wp ?_ | refine Wq ?_ | refine Wr ?_); (try simp only [go_sem, fN, seval, eT, iR, hv, hw, e4, e5, hn, hl, dT, dF, nL]); (repeat refine Ai ?_); (try (refine hK _ ?_; clear hK K)); try refine iC ?_)) | refine Cg _ (Ax _) ?_)
       simp only [go_sem, fN, seval, AZ, AS.result, AB, AF, AP]
       rcases hinv with ⟨e, h1, rfl⟩ | ⟨s', ps, q, h1, _⟩
       ·cases h1
        rfl
       ·cases h1
      ·repeat' (first | (with_reducible first | refine W ?_ | refine Z0 ?_ | ((first | refine Wo fun K hK => ?_ | refine Wp ?_ | refine Wq ?_ | refine Wr ?_); (try simp only [go_sem, fN, seval, eT, iR, hv, hw, e4, e5, hn, dT, dF, nL]); (repeat refine Ai ?_); (try (refine hK _ ?_; clear hK K)); try refine iC ?_)) | refine Cg _ (Ax _) ?_)
       simp only [go_sem, fN, seval, AZ, AS.result, AB, AF, AP]
       rcases hinv with ⟨e, h1, rfl⟩ | ⟨s', ps, q, h1, _⟩
       ·cases h1
        rfl
       ·cases h1

def G_ (l : List Pr) : List ByteArray := l.flatMap fun p => (p.1.knots ++ p.2.knots).map (·.name)
theorem Kk {l : List Pr} (h : ∀ p ∈ l, p.1.size ≤ 200 ∧ p.2.size ≤ 200) : (G_ l).length ≤ 400 * l.length := by
 unfold G_
 induction l with
 | nil => simp
 | cons p l ih =>
  have := ih fun q hq => h q (by simp [hq])
  have h1 := h p (by simp)
  rw [List.flatMap_cons, List.length_append, List.length_map, List.length_append, Tm.knots_length, Tm.knots_length, List.length_cons]
  omega
theorem HK (v : Nat) (hv : v ≤ 16000) (s : List Bd) : ∀ (l : List Pr), l.length ≤ 40 → GS 100000000000 v s l
 | [], _ => trivial
 | p :: l, h => by
  rw [List.length_cons] at h
  have := Nat.min_le_right (p.1.on s).size 2000
  exact ⟨by omega, HK v hv s l (by omega)⟩
theorem IC {l : List Pr} (h : DP l = 0) : (G_ l).length ≤ 20000 ∧ DI (G_ l) 100000000000 [] l := by
 obtain ⟨h1, h2⟩ := Il h
 have hc : ∀ p ∈ l, (p.1.chk = 0 ∧ p.1.size ≤ 200) ∧ (p.2.chk = 0 ∧ p.2.size ≤ 200) := fun p hp => ⟨Tm.may_chk (h2 p hp).1, Tm.may_chk (h2 p hp).2⟩
 have hlen := Kk fun p hp => ⟨(hc p hp).1.2, (hc p hp).2.2⟩
 refine ⟨by omega, ⟨List.Pairwise.nil, by simp, by simp, by simp, by simp, by simp, by simp, fun p hp => ⟨(hc p hp).1.1, (hc p hp).2.1⟩, fun p hp y => ⟨fun hy => ?_, fun hy => ?_⟩, fun p hp => ?_, HK _ (by simp; omega) [] l h1⟩⟩
 ·unfold occ at hy
  obtain ⟨k, hk, e⟩ := List.any_eq_true.1 hy
  exact List.mem_flatMap.2 ⟨p, hp, List.mem_map.2 ⟨k, by simp [hk], by simpa using e⟩⟩
 ·unfold occ at hy
  obtain ⟨k, hk, e⟩ := List.any_eq_true.1 hy
  exact List.mem_flatMap.2 ⟨p, hp, List.mem_map.2 ⟨k, by simp [hk], by simpa using e⟩⟩
 ·have := hc p hp
  omega
theorem OJ {l : List Pr} (h : DP l = 0) {n : Nat} {r : List Bd × Int} (hr : FQ n [] l r) : AW Try.prog 17 [NG l] (.tup [N8 r.1, Ab r.2]) := by
 refine Hb.ac fun C hC => ?_
 unfold Eh
 repeat' (first | (with_reducible first | refine W ?_ | refine Z0 ?_ | ((first | refine Wo fun K hK => ?_ | refine Wp ?_ | refine Wq ?_ | refine Wr ?_); (try simp only [go_sem, fN, seval, eT, iR, h, dT, dF, nL]); (repeat refine Ai ?_); (try (refine hK _ ?_; clear hK K)); try refine iC ?_)) | refine Cg _ (J0 l) ?_ | refine Cg _ (P0 _ (IC h).1 _ (Nat.le_refl _) n l r hr (IC h).2) ?_)
 simp only [go_sem, fN, seval, AZ, AS.result, AB, AF, AP]

def JL : IR :=
 (.seq (.ops [.i 4 (.mov (.n 0))]) (.seq (.seq (.ops [.m 5 0, .i 6 (.bin .lss (.t 5) (.n 0))]) (.cond (.t 6) (.ops [.m 7 0, .i 8 (.bin .add (.t 7) (.n 1)), .i 9 (.un .neg (.t 8)), .m 0 9]) .skip)) (.seq (.ops [.m 10 0, .m 11 1, .i 12 (.bin .rem (.t 10) (.t 11)), .m 4 12]) .ret)))
theorem NZ : OkF Try.prog 5 13 [] JL [.t 4] := .of Try.func5 rfl rfl (by kernel_rfl) rfl
def KP : IR :=
 (.seq (.ops [.i 4 (.mov (.n 0))]) (.seq (.seq (.ops [.m 5 0, .i 6 (.len false (.t 5)), .i 7 (.bin .eql (.t 6) (.n 0))]) (.cond (.t 7) (.seq (.ops [.m 8 1, .i 9 (.bin .mul (.t 8) (.n 31)), .m 4 9]) .ret) .skip)) (.seq (.ops [.m 10 0, .m 11 1, .m 12 0, .i 13 (.len false (.t 12)), .i 14 (.bin .rem (.t 11) (.t 13)), .i 15 (.indexAddr 1 (.t 10) (.t 14)), .l 16 15, .i 17 (.call 5 [.t 16, .n 1000003]), .m 18 1, .m 19 0, .i 20 (.len false (.t 19)), .i 21 (.bin .quo (.t 18) (.t 20)), .i 22 (.bin .mul (.t 21) (.n 7919)), .i 23 (.bin .add (.t 17) (.t 22)), .m 4 23]) .ret)))
theorem PO : OkF Try.prog 21 24 [] KP [.t 4] := .of Try.func21 rfl rfl (by kernel_rfl) rfl
def JV : IR :=
 (.seq (.ops [.i 2 (.alloc 25 [.st (.str (ByteArray.mk (#[]))), .full []])]) (.seq (.ops [.m 3 0, .i 4 (.build [.st (.str (ByteArray.mk (#[]))), .full []] [(0, 1, .t 3)]), .s 2 2 4]) .ret))
theorem N4 : OkF Try.prog 22 5 [] JV [.cell 2 true 2] := .of Try.func22 rfl rfl (by kernel_rfl) rfl
def DC : IR :=
 (.seq (.ops [.i 8 (.alloc 25 [.st (.str (ByteArray.mk (#[]))), .full []]), .i 9 (.mov (.n 0))]) (.seq (.ops [.m 18 0, .m 19 1, .i 20 (.call 21 [.t 18, .t 19]), .m 10 20]) (.seq (.ops [.m 21 1, .i 22 (.bin .add (.t 21) (.n 1)), .m 1 22]) (.seq (.seq (.ops [.m 23 2, .i 24 (.bin .lss (.t 23) (.n 3)), .m 25 24, .mk (some 26) (some (25, false)) (.mov (.t 10)) .no, .mk (some 27) (some (25, false)) (.call 5 [.t 26, .n 5]) .no, .mk (some 28) (some (25, false)) (.bin .lss (.t 27) (.n 2)) .no, .i 29 (.pick (.t 25) (.c (.one (.st (.bool true)))) (.t 28))]) (.cond (.t 29) (.seq (.seq (.ops [.m 30 3, .i 31 (.bin .gtr (.t 30) (.n 0)), .m 32 31, .mk (some 33) (some (32, true)) (.mov (.t 10)) .no, .mk (some 34) (some (32, true)) (.bin .quo (.t 33) (.n 5)) .no, .mk (some 35) (some (32, true)) (.call 5 [.t 34, .n 3]) .no, .mk (some 36) (some (32, true)) (.bin .gtr (.t 35) (.n 0)) .no, .i 37 (.pick (.t 32) (.t 36) (.c (.one (.st (.bool false)))))]) (.cond (.t 37) (.seq (.ops [.i 38 (.buildFlat [.c (.one (.st (.str (ByteArray.mk (#[88]))))), .c (.one (.st (.str (ByteArray.mk (#[89]))))), .c (.one (.st (.str (ByteArray.mk (#[90]))))), .c (.one (.st (.str (ByteArray.mk (#[85])))))]), .m 39 10, .i 40 (.bin .quo (.t 39) (.n 15)), .m 41 3, .i 42 (.call 5 [.t 40, .t 41]), .i 43 (.indexAddr 1 (.t 38) (.t 42)), .l 44 43, .i 45 (.call 22 [.t 44]), .m 46 1, .s 2 8 45, .m 9 46]) .ret) .skip)) (.seq (.ops [.i 47 (.buildFlat [.c (.one (.st (.str (ByteArray.mk (#[97]))))), .c (.one (.st (.str (ByteArray.mk (#[98]))))), .c (.one (.st (.str (ByteArray.mk (#[99])))))]), .m 48 10, .i 49 (.bin .quo (.t 48) (.n 15)), .i 50 (.call 5 [.t 49, .n 3]), .i 51 (.indexAddr 1 (.t 47) (.t 50)), .l 52 51, .i 53 (.call 22 [.t 52]), .m 54 1, .s 2 8 53, .m 9 54]) .ret)) .skip)) (.seq (.seq (.ops [.m 55 10, .i 56 (.bin .quo (.t 55) (.n 5)), .i 57 (.call 5 [.t 56, .n 4])]) (.block 0 (.seq (.ops [.i 59 (.bin .eql (.t 57) (.n 0)), .m 58 59]) (.cond (.t 58) (.seq (.ops [.m 61 0, .m 62 1, .m 63 2, .i 64 (.bin .sub (.t 63) (.n 1)), .m 65 3, .i 66 (.call 12 [.t 61, .t 62, .t 64, .t 65]), .m 60 66, .i 67 (.extract 0 (.t 60)), .i 68 (.extract 1 (.t 60)), .i 11 (.alloc 25 [.st (.str (ByteArray.mk (#[]))), .full []]), .s 2 11 67, .m 12 68]) (.seq (.ops [.L 69 2 11, .i 70 (.buildSlice false 25 2 [.t 69]), .i 71 (.build [.st (.str (ByteArray.mk (#[]))), .full []] [(0, 1, .c (.one (.st (.str (ByteArray.mk (#[104])))))), (1, 1, .t 70)]), .m 72 12, .s 2 8 71, .m 9 72]) .ret)) (.seq (.ops [.i 74 (.bin .eql (.t 57) (.n 1)), .m 73 74]) (.cond (.t 73) (.seq (.ops [.m 76 0, .m 77 1, .m 78 2, .i 79 (.bin .sub (.t 78) (.n 1)), .m 80 3, .i 81 (.call 12 [.t 76, .t 77, .t 79, .t 80]), .m 75 81, .i 82 (.extract 0 (.t 75)), .i 83 (.extract 1 (.t 75)), .i 13 (.alloc 25 [.st (.str (ByteArray.mk (#[]))), .full []]), .s 2 13 82, .m 14 83]) (.seq (.ops [.L 84 2 13, .i 85 (.buildSlice false 25 2 [.t 84]), .i 86 (.build [.st (.str (ByteArray.mk (#[]))), .full []] [(0, 1, .c (.one (.st (.str (ByteArray.mk (#[107])))))), (1, 1, .t 85)]), .m 87 14, .s 2 8 86, .m 9 87]) .ret)) .skip)))))) (.seq (.ops [.m 89 0, .m 90 1, .m 91 2, .i 92 (.bin .quo (.t 91) (.n 2)), .m 93 3, .i 94 (.call 12 [.t 89, .t 90, .t 92, .t 93]), .m 88 94, .i 95 (.extract 0 (.t 88)), .i 96 (.extract 1 (.t 88)), .i 15 (.alloc 25 [.st (.str (ByteArray.mk (#[]))), .full []]), .s 2 15 95, .m 16 96]) (.seq (.ops [.m 98 0, .m 99 16, .m 100 2, .i 101 (.bin .quo (.t 100) (.n 2)), .m 102 3, .i 103 (.call 12 [.t 98, .t 99, .t 101, .t 102]), .m 97 103, .i 104 (.extract 0 (.t 97)), .i 105 (.extract 1 (.t 97)), .i 17 (.alloc 25 [.st (.str (ByteArray.mk (#[]))), .full []]), .s 2 17 104, .m 16 105]) (.seq (.ops [.i 106 (.buildFlat [.c (.one (.st (.str (ByteArray.mk (#[102]))))), .c (.one (.st (.str (ByteArray.mk (#[103])))))]), .m 107 10, .i 108 (.bin .quo (.t 107) (.n 5)), .i 109 (.call 5 [.t 108, .n 4]), .i 110 (.bin .sub (.t 109) (.n 2)), .i 111 (.indexAddr 1 (.t 106) (.t 110)), .l 112 111, .L 113 2 15, .L 114 2 17, .i 115 (.buildSlice false 25 2 [.t 113, .t 114]), .i 116 (.build [.st (.str (ByteArray.mk (#[]))), .full []] [(0, 1, .t 112), (1, 1, .t 115)]), .m 117 16, .s 2 8 116, .m 9 117]) .ret))))))))
theorem Dq : OkF Try.prog 12 118 [] DC [.cell 8 true 2, .t 9] := .of Try.func12 rfl rfl (by kernel_rfl) rfl
def Gi : IR :=
 (.seq (.ops [.i 8 (.alloc 25 [.st (.str (ByteArray.mk (#[]))), .full []])]) (.seq (.ops [.m 12 0, .m 13 1, .m 14 2, .m 15 3, .i 16 (.call 12 [.t 12, .t 13, .t 14, .t 15]), .m 11 16, .i 17 (.extract 0 (.t 11)), .i 18 (.extract 1 (.t 11)), .i 9 (.alloc 25 [.st (.str (ByteArray.mk (#[]))), .full []]), .s 2 9 17, .m 10 18]) (.seq (.ops [.L 19 2 9, .s 2 8 19]) .ret)))
theorem K5 : OkF Try.prog 4 20 [] Gi [.cell 8 true 2] := .of Try.func4 rfl rfl (by kernel_rfl) rfl

end Go.Proofs.Ytlgpchphdhdllaa
