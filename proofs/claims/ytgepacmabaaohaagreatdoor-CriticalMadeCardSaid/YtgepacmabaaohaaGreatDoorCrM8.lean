/-
  Part 8 of the texts. Conditions: none.
-/
import Derived.Test.YtgepacmabaaohaaGreatDoorCrM7
import Derived.Shelf.Strconv.Itoa3
import Derived.Shelf.SlSortCmp.WholeK
import Derived.Shelf.SlSortCmp.NoneTotal
import Derived.Test.YtgepacmabaaohaaGreatDoorProg
namespace Go.Proofs.YtgepacmabaaohaaGreatDoor
open Go Go.RowKit
set_option linter.unusedVariables false
set_option linter.unusedSimpArgs false
set_option maxHeartbeats 800000
theorem TH (l : List Bd) (n : ByteArray) (i0 : Nat) (hi0 : i0 ≤ l.length) (h40 : l.length ≤ 100000) (hlo : ∀ k b, l[k]? = some b → k < i0 → sLt b.1 n = true) (hhi : ∀ k b, l[k]? = some b → i0 ≤ k → sLt b.1 n = false) (r : Nat) (hr : 1000 ≤ r) (S : AD) (sr : S r = some (BN l)) :
  An Tryz.prog 97 [.one (.row r l.length), Bi n, .one (.fn 98 [])] S (.tup [AK i0, Ab (CJ l n i0)]) S := by
 have hplain : CT Tryz.prog 98 = true := by kernel_rfl
 refine A6.acS fun hS C hC => ?_
 unfold Al
 repeat' with_reducible first | refine W ?_ | refine Z0 ?_ | ((first | refine Wo fun K hK => ?_ | refine Wq ?_ | refine Wr ?_); (try simp only [go_sem, fN, seval, eT, iR, sr]); (repeat refine Ai ?_); (try (refine hK _ ?_; clear hK K)))
 refine IWP.loop (fun m s => ∃ i j : Nat, i ≤ i0 ∧ i0 ≤ j ∧ j ≤ l.length ∧ m = j - i ∧ s.env 0 = .one (.row r l.length) ∧ s.env 1 = Bi n ∧ s.env 2 = .one (.fn 98 []) ∧ s.env 8 = AK l.length ∧ s.env 9 = AK i ∧ s.env 10 = AK j ∧ s.S = S) l.length ⟨0, l.length, Nat.zero_le _, hi0, Nat.le_refl _, rfl, rfl, rfl, rfl, rfl, rfl, rfl, rfl⟩ ?_
 rintro m ⟨env, S1⟩ ⟨i, j, hi, hj, hjl, rfl, e0, e1, e2, e8, e9, e10, hS1⟩
 simp only at e0 e1 e2 e8 e9 e10 hS1
 subst hS1
 by_cases hlt : (i : Int) < j
 ·obtain ⟨z1, z2, z3⟩ := Wt (show i < j by omega)
  obtain ⟨b, hb⟩ := AT (show (i + j) / 2 < l.length by omega)
  repeat' with_reducible first | refine W ?_ | refine Z0 ?_ | ((first | refine Wo fun K hK => ?_ | refine Wq ?_ | refine Wr ?_); (try simp only [go_sem, fN, seval, eT, iR, e0, e1, e2, e8, e9, e10, hlt, sr]); (repeat refine Ai ?_); (try (refine hK _ ?_; clear hK K)))
  with_reducible refine Wp ?_
  simp only [go_sem, fN, seval, true_implies, false_implies, implies_true, dT, dF, nL, hlt]
  (try with_reducible refine iC ?_)
  have hbits : (1 : Nat) ≤ IntKind.u64.bits := by show 1 ≤ 64; omega
  have hz0 : (0 : Int) ≤ (((i + j) / 2 : Nat) : Int) := Int.natCast_nonneg _
  repeat' with_reducible first | refine W ?_ | refine Z0 ?_ | ((first | refine Wo fun K hK => ?_ | refine Wq ?_ | refine Wr ?_); (try simp only [go_sem, fN, seval, eT, iR, e0, e1, e2, e8, e9, e10, hlt, z1, z3, Qq, hbits, hb, BG, hplain, sr]); (repeat refine Ai ?_); (try (refine hK _ ?_; clear hK K)))
  refine ⟨_, _, JY b n _, ?_⟩
  cases hc : sLt b.1 n with
  | true =>
   have hneg : FB b.1 n < 0 := CL.2 hc
   repeat' with_reducible first | refine W ?_ | refine Z0 ?_ | ((first | refine Wo fun K hK => ?_ | refine Wq ?_ | refine Wr ?_); (try simp only [go_sem, fN, seval, eT, iR, hneg]); (repeat refine Ai ?_); (try (refine hK _ ?_; clear hK K)))
   with_reducible refine Wp ?_
   simp only [go_sem, fN, seval, true_implies, false_implies, implies_true, dT, dF, nL, hneg]
   (try with_reducible refine iC ?_)
   repeat' with_reducible first | refine W ?_ | refine Z0 ?_ | ((first | refine Wo fun K hK => ?_ | refine Wq ?_ | refine Wr ?_); (try simp only [go_sem, fN, seval, eT, iR, e0, e1, e2, e8, e9, e10]); (repeat refine Ai ?_); (try (refine hK _ ?_; clear hK K)))
   refine AE ⟨j - ((i + j) / 2 + 1), by omega, (i + j) / 2 + 1, j, ?_, hj, hjl, rfl, ?_⟩
   ·rcases Nat.lt_or_ge ((i + j) / 2) i0 with h | h
    ·omega
    ·rw [hhi _ b hb h] at hc; cases hc
   ·simp only [go_sem, fN, seval, eT, iR, e0, e1, e2, e8, e9, e10]
    congr 3
  | false =>
   have hneg : ¬ FB b.1 n < 0 := fun h => by rw [CL.1 h] at hc; cases hc
   repeat' with_reducible first | refine W ?_ | refine Z0 ?_ | ((first | refine Wo fun K hK => ?_ | refine Wq ?_ | refine Wr ?_); (try simp only [go_sem, fN, seval, eT, iR, hneg]); (repeat refine Ai ?_); (try (refine hK _ ?_; clear hK K)))
   with_reducible refine Wp ?_
   simp only [go_sem, fN, seval, true_implies, false_implies, implies_true, dT, dF, nL, hneg]
   (try with_reducible refine iC ?_)
   repeat' with_reducible first | refine W ?_ | refine Z0 ?_ | ((first | refine Wo fun K hK => ?_ | refine Wq ?_ | refine Wr ?_); (try simp only [go_sem, fN, seval, eT, iR, e0, e1, e2, e8, e9, e10]); (repeat refine Ai ?_); (try (refine hK _ ?_; clear hK K)))
   refine AE ⟨(i + j) / 2 - i, by omega, i, (i + j) / 2, hi, ?_, by omega, rfl, ?_⟩
   ·rcases Nat.lt_or_ge ((i + j) / 2) i0 with h | h
    ·rw [hlo _ b hb h] at hc; cases hc
    ·omega
   ·simp only [go_sem, fN, seval, eT, iR, e0, e1, e2, e8, e9, e10]
 ·have hii : i = i0 := by omega
  subst hii
  have hjj : j = i := by omega
  subst hjj
  repeat' with_reducible first | refine W ?_ | refine Z0 ?_ | ((first | refine Wo fun K hK => ?_ | refine Wq ?_ | refine Wr ?_); (try simp only [go_sem, fN, seval, eT, iR, e0, e1, e2, e8, e9, e10, hlt, sr]); (repeat refine Ai ?_); (try (refine hK _ ?_; clear hK K)))
  with_reducible refine Wp ?_
  simp only [go_sem, fN, seval, true_implies, false_implies, implies_true, dT, dF, nL, hlt]
  (try with_reducible refine iC ?_)
  by_cases hil : (j : Int) < l.length
  ·have hil' : j < l.length := by omega
   obtain ⟨b, hb⟩ := AT hil'
   repeat' with_reducible first | refine W ?_ | refine Z0 ?_ | ((first | refine Wo fun K hK => ?_ | refine Wq ?_ | refine Wr ?_); (try simp only [go_sem, fN, seval, eT, iR, e0, e1, e2, e8, e9, e10, hil, hil', hb, BG, hplain, sr]); (repeat refine Ai ?_); (try (refine hK _ ?_; clear hK K)))
   refine ⟨_, _, JY b n _, ?_⟩
   repeat' with_reducible first | refine W ?_ | refine Z0 ?_ | ((first | refine Wo fun K hK => ?_ | refine Wq ?_ | refine Wr ?_); (try simp only [go_sem, fN, seval, eT, iR]); (repeat refine Ai ?_); (try (refine hK _ ?_; clear hK K)))
   refine CR (.tup [AK j, Ab (CJ l n j)]) hS trivial ?_ ?_ fun _ _ => rfl
   ·simp only [go_sem, fN, seval, eT, iR, AA, AB, AH, e9, e10]
    unfold CJ
    rw [hb]
    simp only [MO]
   ·rfl
  ·repeat' with_reducible first | refine W ?_ | refine Z0 ?_ | ((first | refine Wo fun K hK => ?_ | refine Wq ?_ | refine Wr ?_); (try simp only [go_sem, fN, seval, eT, iR, e0, e1, e2, e8, e9, e10, hil]); (repeat refine Ai ?_); (try (refine hK _ ?_; clear hK K)))
   refine CR (.tup [AK j, Ab (CJ l n j)]) hS trivial ?_ ?_ fun _ _ => rfl
   ·simp only [go_sem, fN, seval, eT, iR, AA, AB, AH, e9, e10]
    unfold CJ
    rw [List.getElem?_eq_none (by omega)]
   ·rfl
theorem Ul (l : List Bd) (h40 : l.length ≤ 100000) (ho : BA l) (n : ByteArray) (r : Nat) (hr : 1000 ≤ r) (S : AD) (sr : S r = some (BN l)) : An Tryz.prog 88 [.one (.row r l.length), Bi n] S (.tup [aTm ((lookup l n).getD Tm.nil), Ab (lookup l n).isSome]) S := by
 obtain ⟨i, hi, hlo, hhi, _⟩ := Ng l h40 ho n
 refine Jo.acS fun hS C hC => ?_
 unfold Fh
 have n4 : S 4 = none := AR hS (by omega)
 have r4 : ¬ r = 4 := by omega
 repeat' with_reducible first | refine W ?_ | refine Z0 ?_ | ((first | refine Wo fun K hK => ?_ | refine Wq ?_ | refine Wr ?_); (try simp only [go_sem, fN, seval, eT, iR, n4]); (repeat refine Ai ?_); (try (refine hK _ ?_; clear hK K)))
 refine ⟨_, [(r, BN l)], DG (by (simp only [go_sem, fN, seval, eT, iR, r4, sr])), fun T hT => TH l n i hi h40 hlo hhi (up1 r) (Aw r) (upS T) (by rw [A7, hT _ (List.mem_singleton.2 rfl)]; rfl), ?_⟩
 rcases HE hlo hhi ho with ⟨b, hb, he, hl⟩ | ⟨hf, hl⟩
 ·have hf : CJ l n i = true := by unfold CJ; rw [hb]; exact decide_eq_true he
  have hil := Bh hb
  repeat' with_reducible first | refine W ?_ | refine Z0 ?_ | ((first | refine Wo fun K hK => ?_ | refine Wq ?_ | refine Wr ?_); (try simp only [go_sem, fN, seval, eT, iR, hf]); (repeat refine Ai ?_); (try (refine hK _ ?_; clear hK K)))
  with_reducible refine Wp ?_
  simp only [go_sem, fN, seval, true_implies, false_implies, implies_true, dT, dF, nL, hf]
  (try with_reducible refine iC ?_)
  repeat' with_reducible first | refine W ?_ | refine Z0 ?_ | ((first | refine Wo fun K hK => ?_ | refine Wq ?_ | refine Wr ?_); (try simp only [go_sem, fN, seval, eT, iR, hb, BG, sr, r4, hil]); (repeat refine Ai ?_); (try (refine hK _ ?_; clear hK K)))
  refine CR (.tup [aTm b.2, Ab true]) hS trivial ?_ ?_ fun k hk => ?_
  ·simp only [go_sem, fN, seval, eT, iR, AA, AB, AH]
  ·simp only [go_sem, fN, seval, eT, iR]
   rw [hl]
   rfl
  ·have k4 : ¬ k = 4 := by omega
   simp only [go_sem, fN, seval, eT, iR, k4]
 ·repeat' with_reducible first | refine W ?_ | refine Z0 ?_ | ((first | refine Wo fun K hK => ?_ | refine Wq ?_ | refine Wr ?_); (try simp only [go_sem, fN, seval, eT, iR, hf]); (repeat refine Ai ?_); (try (refine hK _ ?_; clear hK K)))
  with_reducible refine Wp ?_
  simp only [go_sem, fN, seval, true_implies, false_implies, implies_true, dT, dF, nL, hf]
  (try with_reducible refine iC ?_)
  repeat' with_reducible first | refine W ?_ | refine Z0 ?_ | ((first | refine Wo fun K hK => ?_ | refine Wq ?_ | refine Wr ?_); (try simp only [go_sem, fN, seval, eT, iR]); (repeat refine Ai ?_); (try (refine hK _ ?_; clear hK K)))
  refine CR (.tup [.agg [.st (.str ⟨#[]⟩), .full []], Ab false]) hS trivial ?_ ?_ fun k hk => ?_
  ·simp only [go_sem, fN, seval, eT, iR, AA, AB, AH]
  ·simp only [go_sem, fN, seval, eT, iR]
   rw [hl]
   rfl
  ·have k4 : ¬ k = 4 := by omega
   simp only [go_sem, fN, seval, eT, iR, k4]
abbrev EB (r n : Nat) (left : Int) : AN := .box 95 [.row r n, .st (.int .i64 left)]
theorem J2 (s : List Bd) (h40 : s.length ≤ 100000) (ho : BA s) (turn : Bool) (f : Tm → Tm) (t : Tm) (hl : turn = true → lookup s t.name = none)
  (ih : ∀ a ∈ t.args, ∀ (a0 r : Nat) (left : Int) (S : AD), 1000 ≤ a0 → 1000 ≤ r → ¬ r = a0 → 0 ≤ left → left ≤ 1000000 → S a0 = some (EB r s.length left) → S r = some (BN s) →
   An Tryz.prog 71 [.one (.ptr a0 1 0 0), aTm a, Ab turn] S (aTm (C5 (f a) left).1) (AM S a0 (some (EB r s.length (C5 (f a) left).2))))
  (a0 r : Nat) (left : Int) (S : AD) (ha0 : 1000 ≤ a0) (hr0 : 1000 ≤ r) (hra : ¬ r = a0) (h0 : 0 ≤ left) (h1 : left ≤ 1000000) (hSa : S a0 = some (EB r s.length left)) (hSr : S r = some (BN s)) :
  An Tryz.prog 71 [.one (.ptr a0 1 0 0), aTm t, Ab turn] S (aTm (C5 (.mk t.name (t.args.map f)) left).1) (AM S a0 (some (EB r s.length (C5 (.mk t.name (t.args.map f)) left).2))) := by
 refine B7.acS fun hS C hC => ?_
 have hu : (Tm.mk t.name (t.args.map f)).size = 1 + Tm.sizes (t.args.map f) := rfl
 have hlen := Tm.length_le (t.args.map f)
 rw [List.length_map] at hlen
 have hhigh : ∀ left, (EB r s.length left).high = true := fun left => by
  show ((AC.row r s.length).high && AC.highs [.st (.int .i64 left)]) = true
  rw [Er hr0]
  rfl
 have n4 : S 4 = none := AR hS (by omega)
 have n6 : S 6 = none := AR hS (by omega)
 have n7 : S 7 = none := AR hS (by omega)
 have n9 : S 9 = none := AR hS (by omega)
 have n11 : S 11 = none := AR hS (by omega)
 have n900 : S 900 = none := AR hS (by omega)
 have d4 : ¬ 4 = a0 := by omega
 have d6 : ¬ 6 = a0 := by omega
 have d7 : ¬ 7 = a0 := by omega
 have d9 : ¬ 9 = a0 := by omega
 have d11 : ¬ 11 = a0 := by omega
 have d900 : ¬ 900 = a0 := by omega
 have e4 : ¬ a0 = 4 := by omega
 have e6 : ¬ a0 = 6 := by omega
 have e7 : ¬ a0 = 7 := by omega
 have e9 : ¬ a0 = 9 := by omega
 have e11 : ¬ a0 = 11 := by omega
 have e900 : ¬ a0 = 900 := by omega
 have f4 : ¬ r = 4 := by omega
 have f6 : ¬ r = 6 := by omega
 have f7 : ¬ r = 7 := by omega
 have f9 : ¬ r = 9 := by omega
 have f11 : ¬ r = 11 := by omega
 have f900 : ¬ r = 900 := by omega
 unfold BV
 cases turn
 case' false =>
  repeat' with_reducible first | refine W ?_ | refine Z0 ?_ | ((first | refine Wo fun K hK => ?_ | refine Wq ?_ | refine Wr ?_); (try simp only [go_sem, fN, seval, eT, iR, hSa, n4, n6, n7, d4, d6, d7, e4, e6, e7]); (repeat refine Ai ?_); (try (refine hK _ ?_; clear hK K)))
  with_reducible refine Wp ?_
  simp only [go_sem, fN, seval, true_implies, false_implies, implies_true, dT, dF, nL]
  (try with_reducible refine iC ?_)
  repeat' with_reducible first | refine W ?_ | refine Z0 ?_ | ((first | refine Wo fun K hK => ?_ | refine Wq ?_ | refine Wr ?_); (try simp only [go_sem, fN, seval, eT, iR, hSa, n4, n6, n7, n9, d4, d6, d7, d9, e4, e6, e7, e9]); (repeat refine Ai ?_); (try (refine hK _ ?_; clear hK K)))
 case' true =>
  have hln := hl rfl
  repeat' with_reducible first | refine W ?_ | refine Z0 ?_ | ((first | refine Wo fun K hK => ?_ | refine Wq ?_ | refine Wr ?_); (try simp only [go_sem, fN, seval, eT, iR, hSa, n4, n6, n7, d4, d6, d7, e4, e6, e7]); (repeat refine Ai ?_); (try (refine hK _ ?_; clear hK K)))
  with_reducible refine Wp ?_
  simp only [go_sem, fN, seval, true_implies, false_implies, implies_true, dT, dF, nL]
  (try with_reducible refine iC ?_)
  repeat' with_reducible first | refine W ?_ | refine Z0 ?_ | ((first | refine Wo fun K hK => ?_ | refine Wq ?_ | refine Wr ?_); (try simp only [go_sem, fN, seval, eT, iR, hSa, n4, n6, n7, d4, d6, d7, e4, e6, e7]); (repeat refine Ai ?_); (try (refine hK _ ?_; clear hK K)))
  refine ⟨_, [(r, BN s)], DG (by (simp only [go_sem, fN, seval, eT, iR, f4, f6, f7, hSr])), fun T hT => Ul s h40 ho t.name (up1 r) (Aw r) (upS T) (by rw [A7, hT _ (List.mem_singleton.2 rfl)]; rfl), ?_⟩
  repeat' with_reducible first | refine W ?_ | refine Z0 ?_ | ((first | refine Wo fun K hK => ?_ | refine Wq ?_ | refine Wr ?_); (try simp only [go_sem, fN, seval, eT, iR, hln, n7]); (repeat refine Ai ?_); (try (refine hK _ ?_; clear hK K)))
  with_reducible refine Wp ?_
  simp only [go_sem, fN, seval, true_implies, false_implies, implies_true, dT, dF, nL]
  (try with_reducible refine iC ?_)
  repeat' with_reducible first | refine W ?_ | refine Z0 ?_ | ((first | refine Wo fun K hK => ?_ | refine Wq ?_ | refine Wr ?_); (try simp only [go_sem, fN, seval, eT, iR, hSa, n4, n6, n7, n9, d4, d6, d7, d9, e4, e6, e7, e9]); (repeat refine Ai ?_); (try (refine hK _ ?_; clear hK K)))
 all_goals
  by_cases hz : left = 0
  ·subst hz
   have hno : ¬ ((Tm.mk t.name (t.args.map f)).size : Int) ≤ 0 := by rw [hu]; omega
   rw [DS hno]
   with_reducible refine Wp ?_
   simp only [go_sem, fN, seval, true_implies, false_implies, implies_true, dT, dF, nL]
   (try with_reducible refine iC ?_)
   repeat' with_reducible first | refine W ?_ | refine Z0 ?_ | ((first | refine Wo fun K hK => ?_ | refine Wq ?_ | refine Wr ?_); (try simp only [go_sem, fN, seval, eT, iR, hSa, n4, n6, n7, n9, d4, d6, d7, d9, e4, e6, e7, e9]); (repeat refine Ai ?_); (try (refine hK _ ?_; clear hK K)))
   refine Bj (.agg [.st (.str ⟨#[]⟩), .full []]) hS ha0 (hhigh _) trivial ?_ ?_ ?_ fun i hi hne => ?_
   ·simp only [go_sem, fN, seval, eT, iR, AA, AB, AH, e4, e6, e7, e9, d4, d6, d7, d9]
   ·simp only [go_sem, fN, seval, eT, iR, Tm.nil]
    rfl
   ·simp only [go_sem, fN, seval, eT, iR, e4, e6, e7, e9]
   ·have i4 : ¬ i = 4 := by omega
    have i6 : ¬ i = 6 := by omega
    have i7 : ¬ i = 7 := by omega
    simp only [go_sem, fN, seval, eT, iR, i4, i6, i7, hne]
  have hz' : ¬ left - 1 < 0 := by omega
  with_reducible refine Wp ?_
  simp only [go_sem, fN, seval, true_implies, false_implies, implies_true, dT, dF, nL, hz']
  (try with_reducible refine iC ?_)
  repeat' with_reducible first | refine W ?_ | refine Z0 ?_ | ((first | refine Wo fun K hK => ?_ | refine Wq ?_ | refine Wr ?_); (try simp only [go_sem, fN, seval, eT, iR, hSa, n4, n6, n7, n9, d4, d6, d7, d9, e4, e6, e7, e9]); (repeat refine Ai ?_); (try (refine hK _ ?_; clear hK K)))
  refine IWP.ghost (Af.ownC 9 1 900 29 2 (xs := ([] : List Tm).map Ap) (by simp only [go_sem, fN, seval, eT, iR, d9, d4, d6, d7, e9]; rfl) rfl (by simp only [go_sem, fN, seval, eT, iR, n900, d900]) CS) ?_
  refine IWP.loopD [11] (fun m x => ∃ k, k ≤ t.args.length ∧ m = t.args.length - k ∧ (Tm.sizes ((t.args.take k).map f) : Int) ≤ left - 1 ∧ x.env 0 = .one (.ptr a0 1 0 0) ∧ x.env 2 = Ab _ ∧ x.env 6 = .one (.ptr 6 1 0 0) ∧ x.env 9 = .one (.ptr 9 1 0 0) ∧ x.env 44 = .one (.st (.list (t.args.map Ap))) ∧ x.env 45 = AK t.args.length ∧ x.env 46 = AK k ∧
    x.S 6 = some (.box 29 [.st (.str ⟨#[]⟩), .full []]) ∧ x.S 9 = some (.box 29 [.st (.str t.name), .row 900 k]) ∧ x.S 900 = some (.arow 29 2 (((t.args.take k).map f).map Ap)) ∧ x.S 11 = none ∧ x.S a0 = some (EB r s.length (left - 1 - Tm.sizes ((t.args.take k).map f))) ∧ ∀ i, 1000 ≤ i → i ≠ a0 → x.S i = S i)
   t.args.length ⟨0, Nat.zero_le _, rfl, by show (0 : Int) ≤ _; omega, rfl, rfl, rfl, rfl, rfl, rfl, rfl, by simp only [go_sem, fN, seval, eT, iR, d6, d4, d7, d9, e6], by (simp only [go_sem, fN, seval, eT, iR, d9]); rfl, by simp only [go_sem, fN, seval, eT, iR, e9], by simp only [go_sem, fN, seval, eT, iR, n11, d11], by (simp only [go_sem, fN, seval, eT, iR, e9, e900]); simp [Tm.sizes], fun i hi hne => ?_⟩ ?_
  ·have i4 : ¬ i = 4 := by omega
   have i6 : ¬ i = 6 := by omega
   have i7 : ¬ i = 7 := by omega
   have i9 : ¬ i = 9 := by omega
   have i900 : ¬ i = 900 := by omega
   simp only [go_sem, fN, seval, eT, iR, i4, i6, i7, i9, i900, hne]
  rintro m ⟨env, S1⟩ ⟨k, hk, rfl, hsz, e0, e2, e6', e9', e44, e45, e46, s6, s9, s900, s11, sa, hrest⟩
  simp only at e0 e2 e6' e9' e44 e45 e46 s6 s9 s900 s11 sa hrest
  have hlk : (t.args.take k).length = k := by rw [List.length_take]; omega
  have hle := Tm.sizes_take_le (t.args.map f) k
  rw [← List.map_take] at hle
  have hkl := Tm.length_le ((t.args.take k).map f)
  rw [List.length_map, hlk] at hkl
  have hSr1 : S1 r = some (BN s) := (hrest r hr0 hra).trans hSr
  by_cases hlt : (k : Int) < t.args.length
  ·obtain ⟨a, ha⟩ := AT (show k < t.args.length by omega)
   have ha' : (t.args.map f)[k]? = some (f a) := by rw [List.getElem?_map, ha]; rfl
   have z1 := Tm.sizes_take ha'
   have z2 := Tm.sizes_take_le (t.args.map f) (k + 1)
   rw [← List.map_take, ← List.map_take] at z1
   rw [← List.map_take] at z2
   repeat' with_reducible first | refine W ?_ | refine Z0 ?_ | ((first | refine Wo fun K hK => ?_ | refine Wq ?_ | refine Wr ?_); (try simp only [go_sem, fN, seval, eT, iR, e0, e2, e6', e9', e44, e45, e46, s6, s9, s900, s11, sa, hlt]); (repeat refine Ai ?_); (try (refine hK _ ?_; clear hK K)))
   with_reducible refine Wp ?_
   simp only [go_sem, fN, seval, true_implies, false_implies, implies_true, dT, dF, nL, hlt]
   (try with_reducible refine iC ?_)
   repeat' with_reducible first | refine W ?_ | refine Z0 ?_ | ((first | refine Wo fun K hK => ?_ | refine Wq ?_ | refine Wr ?_); (try simp only [go_sem, fN, seval, eT, iR, e0, e2, e6', e9', e44, e45, e46, s6, s9, s900, s11, sa, d11, d9, e11, ha]); (repeat refine Ai ?_); (try (refine hK _ ?_; clear hK K)))
   have hcall := ih a (AI ha) (up1 a0) (up1 r) (left - 1 - Tm.sizes ((t.args.take k).map f)) (upS (AM (AM S1 11 (some (.box 29 [.st (.str ⟨#[]⟩), .full []]))) 11 (some (.box 29 [.st (.str a.name), .st (.list (a.args.map Ap))])))) (Aw a0) (Aw r) (by unfold up1; omega) (by omega) (by omega) (by rw [A7, AO _ e11, AO _ e11, sa]; rfl) (by rw [A7, AO _ f11, AO _ f11, hSr1]; rfl)
   by_cases hfit : ((f a).size : Int) ≤ left - 1 - Tm.sizes ((t.args.take k).map f)
   ·rw [Dw hfit] at hcall
    refine ⟨_, _, hcall, ?_⟩
    have hge : ¬ left - 1 - Tm.sizes ((t.args.take k).map f) - (f a).size < 0 := by omega
    repeat' with_reducible first | refine W ?_ | refine Z0 ?_ | ((first | refine Wo fun K hK => ?_ | refine Wq ?_ | refine Wr ?_); (try simp only [go_sem, fN, seval, eT, iR, e0, e2, e6', e9', e44, e45, e46, s6, s9, s900, s11, d11, d9, e11, e9, e900, d900, hlk]); (repeat refine Ai ?_); (try (refine hK _ ?_; clear hK K)))
    with_reducible refine Wp ?_
    simp only [go_sem, fN, seval, true_implies, false_implies, implies_true, dT, dF, nL, hge]
    (try with_reducible refine iC ?_)
    repeat' with_reducible first | refine W ?_ | refine Z0 ?_ | ((first | refine Wo fun K hK => ?_ | refine Wq ?_ | refine Wr ?_); (try simp only [go_sem, fN, seval, eT, iR, e0, e2, e6', e9', e44, e45, e46, s6, s9, s900, s11, d11, d9, e11]); (repeat refine Ai ?_); (try (refine hK _ ?_; clear hK K)))
    refine AE ⟨t.args.length - (k + 1), by omega, k + 1, by omega, rfl, ?_⟩
    have hib : (a0 == 11) = false := by simp; omega
    have hrb : (r == 11) = false := by simp; omega
    have hzz : ((Tm.sizes ((t.args.take (k + 1)).map f) : Nat) : Int) = Tm.sizes ((t.args.take k).map f) + (f a).size := by omega
    refine ⟨by omega, ?_⟩
    simp only [go_sem, fN, seval, AS.drop, Ak, AC.clears, AC.clear, AC.highs, AC.high, Bool.not_false, Bool.true_and, Bool.and_self, AV.purge, AV.purges, AC.purge, AN.purge, List.contains_cons, List.contains_nil, Nat.reduceBEq, Bool.or_self, Bool.or_false, Bool.false_or, Bool.or_true, eT, iR, e0, e2, e6', e9', e44, e45, s6, s9, s900, d11, d9, e11, e9, e900, d900, d6, hib, hrb]
    refine ⟨by congr 3, by rw [AY ha, List.map_append, List.map_append, List.map_cons, List.map_nil, List.map_cons, List.map_nil, BC], ?_, fun i hi hne => ?_⟩
    ·congr 5
     omega
    ·have i9 : ¬ i = 9 := by omega
     have i11 : ¬ i = 11 := by omega
     have i900 : ¬ i = 900 := by omega
     have i11b : (i == 11) = false := by simp; omega
     simp only [go_sem, fN, seval, AS.drop, Ak, AC.clears, AC.clear, AC.highs, AC.high, Bool.not_false, Bool.true_and, Bool.and_self, AV.purge, AV.purges, AC.purge, AN.purge, List.contains_cons, List.contains_nil, Nat.reduceBEq, Bool.or_self, Bool.or_false, Bool.false_or, Bool.or_true, eT, iR, i9, i11, i11b, i900, hne]
     rw [hrest i hi hne]
     exact QK (by decide) fun b hb => (hS i b hb).2
   ·have hno : ¬ ((Tm.mk t.name (t.args.map f)).size : Int) ≤ left := by rw [hu]; omega
    rw [DS hfit] at hcall
    refine ⟨_, _, hcall, ?_⟩
    repeat' with_reducible first | refine W ?_ | refine Z0 ?_ | ((first | refine Wo fun K hK => ?_ | refine Wq ?_ | refine Wr ?_); (try simp only [go_sem, fN, seval, eT, iR, e0, e2, e6', e9', e44, e45, e46, s6, s9, s900, s11, d11, d9, e11, e9, e900, d900, hlk]); (repeat refine Ai ?_); (try (refine hK _ ?_; clear hK K)))
    with_reducible refine Wp ?_
    simp only [go_sem, fN, seval, true_implies, false_implies, implies_true, dT, dF, nL]
    (try with_reducible refine iC ?_)
    repeat' with_reducible first | refine W ?_ | refine Z0 ?_ | ((first | refine Wo fun K hK => ?_ | refine Wq ?_ | refine Wr ?_); (try simp only [go_sem, fN, seval, eT, iR, e0, e2, e6', e9', e44, e45, e46, s6, s9, s900, s11, d11, d9, e11, e6, d6, d900, e900]); (repeat refine Ai ?_); (try (refine hK _ ?_; clear hK K)))
    rw [DS hno]
    refine Bj (.agg [.st (.str ⟨#[]⟩), .full []]) hS ha0 (hhigh _) trivial ?_ ?_ ?_ fun i hi hne => ?_
    ·simp only [go_sem, fN, seval, eT, iR, AA, AB, AH, e6', s6, e6, e9, e11, e900, d6, d9, d11, d900]
    ·simp only [go_sem, fN, seval, eT, iR, Tm.nil]
     rfl
    ·simp only [go_sem, fN, seval, eT, iR, e6, e9, e11, e900]
    ·have i6 : ¬ i = 6 := by omega
     have i9 : ¬ i = 9 := by omega
     have i11 : ¬ i = 11 := by omega
     have i900 : ¬ i = 900 := by omega
     simp only [go_sem, fN, seval, eT, iR, i6, i9, i11, i900, hne]
     exact hrest i hi hne
  ·have hall : t.args.take k = t.args := List.take_of_length_le (by omega)
   rw [hall] at hlk s900 hsz sa
   have hyes : ((Tm.mk t.name (t.args.map f)).size : Int) ≤ left := by rw [hu]; omega
   repeat' with_reducible first | refine W ?_ | refine Z0 ?_ | ((first | refine Wo fun K hK => ?_ | refine Wq ?_ | refine Wr ?_); (try simp only [go_sem, fN, seval, eT, iR, e0, e2, e6', e9', e44, e45, e46, s6, s9, s900, s11, sa, hlt]); (repeat refine Ai ?_); (try (refine hK _ ?_; clear hK K)))
   with_reducible refine Wp ?_
   simp only [go_sem, fN, seval, true_implies, false_implies, implies_true, dT, dF, nL, hlt]
   (try with_reducible refine iC ?_)
   repeat' with_reducible first | refine W ?_ | refine Z0 ?_ | ((first | refine Wo fun K hK => ?_ | refine Wq ?_ | refine Wr ?_); (try simp only [go_sem, fN, seval, eT, iR, e0, e2, e6', e9', e44, e45, e46, s6, s9, s900, s11, sa, d6]); (repeat refine Ai ?_); (try (refine hK _ ?_; clear hK K)))
   rw [Dw hyes]
   refine Bj (.agg [.st (.str t.name), .row 900 k]) hS ha0 (hhigh _) trivial ?_ ?_ ?_ fun i hi hne => ?_
   ·simp only [go_sem, fN, seval, eT, iR, AA, AB, AH, e6', s6]
   ·simp only [go_sem, fN, seval, eT, iR, s900, hlk]
    rfl
   ·simp only [go_sem, fN, seval, eT, iR, e6, sa, hu]
    rw [show left - 1 - (Tm.sizes (t.args.map f) : Int) = left - ((1 + Tm.sizes (t.args.map f) : Nat) : Int) by omega]
   ·have i6 : ¬ i = 6 := by omega
    simp only [go_sem, fN, seval, eT, iR, i6]
    exact hrest i hi hne
theorem VZ (s : List Bd) (h40 : s.length ≤ 100000) (ho : BA s) (t : Tm) : ∀ (a0 r : Nat) (left : Int) (S : AD), 1000 ≤ a0 → 1000 ≤ r → ¬ r = a0 → 0 ≤ left → left ≤ 1000000 → S a0 = some (EB r s.length left) → S r = some (BN s) →
  An Tryz.prog 71 [.one (.ptr a0 1 0 0), aTm t, Ab false] S (aTm (C5 t left).1) (AM S a0 (some (EB r s.length (C5 t left).2))) := by
 induction h : SizeOf.sizeOf t using Nat.strongRecOn generalizing t with
 | _ N ih =>
 subst h
 intro a0 r left S h1 h1' h1'' h2 h3 h4 h5
 have := J2 s h40 ho false id t (fun h => by cases h) (fun a ha => ih _ (Tm.lt_of_arg ha) a rfl) a0 r left S h1 h1' h1'' h2 h3 h4 h5
 rw [List.map_id, Tm.eta] at this
 exact this
theorem VR (s : List Bd) (h40 : s.length ≤ 100000) (ho : BA s) (t : Tm) (hv : ∀ b ∈ s, AL b.1 = true) (hchk : t.chk = 0) : ∀ (a0 r : Nat) (left : Int) (S : AD), 1000 ≤ a0 → 1000 ≤ r → ¬ r = a0 → 0 ≤ left → left ≤ 1000000 → S a0 = some (EB r s.length left) → S r = some (BN s) →
  An Tryz.prog 71 [.one (.ptr a0 1 0 0), aTm t, Ab true] S (aTm (C5 (t.on s) left).1) (AM S a0 (some (EB r s.length (C5 (t.on s) left).2))) := by
 induction h : SizeOf.sizeOf t using Nat.strongRecOn generalizing t with
 | _ N ih =>
 subst h
 intro a0 r left S ha0 hr0 hra h0 h1 hSa hSr
 obtain ⟨c1, c2⟩ := Tm.chk_args hchk
 cases hl : lookup s t.name with
 | none =>
  have := J2 s h40 ho true (Tm.on s) t (fun _ => hl) (fun a ha => ih _ (Tm.lt_of_arg ha) a (c2 a ha) rfl) a0 r left S ha0 hr0 hra h0 h1 hSa hSr
  rw [← Tm.on_knot (.inl hl)] at this
  exact this
 | some x =>
  obtain ⟨b, hb, hbn, _⟩ := Cw hl
  have hargs := c1 (by rw [← hbn]; exact hv b hb)
  rw [Tm.on_leaf hl hargs]
  refine B7.acS fun hS C hC => ?_
  have n4 : S 4 = none := AR hS (by omega)
  have n6 : S 6 = none := AR hS (by omega)
  have n7 : S 7 = none := AR hS (by omega)
  have e4 : ¬ a0 = 4 := by omega
  have e6 : ¬ a0 = 6 := by omega
  have e7 : ¬ a0 = 7 := by omega
  have d4 : ¬ 4 = a0 := by omega
  have d6 : ¬ 6 = a0 := by omega
  have d7 : ¬ 7 = a0 := by omega
  have f4 : ¬ r = 4 := by omega
  have f6 : ¬ r = 6 := by omega
  have f7 : ¬ r = 7 := by omega
  have hhigh : ∀ left, (EB r s.length left).high = true := fun left => by
   show ((AC.row r s.length).high && AC.highs [.st (.int .i64 left)]) = true
   rw [Er hr0]
   rfl
  unfold BV
  repeat' with_reducible first | refine W ?_ | refine Z0 ?_ | ((first | refine Wo fun K hK => ?_ | refine Wq ?_ | refine Wr ?_); (try simp only [go_sem, fN, seval, eT, iR, hSa, n4, n6, n7, d4, d6, d7, e4, e6, e7]); (repeat refine Ai ?_); (try (refine hK _ ?_; clear hK K)))
  with_reducible refine Wp ?_
  simp only [go_sem, fN, seval, true_implies, false_implies, implies_true, dT, dF, nL]
  (try with_reducible refine iC ?_)
  repeat' with_reducible first | refine W ?_ | refine Z0 ?_ | ((first | refine Wo fun K hK => ?_ | refine Wq ?_ | refine Wr ?_); (try simp only [go_sem, fN, seval, eT, iR, hSa, n4, n6, n7, d4, d6, d7, e4, e6, e7]); (repeat refine Ai ?_); (try (refine hK _ ?_; clear hK K)))
  refine ⟨_, [(r, BN s)], DG (by (simp only [go_sem, fN, seval, eT, iR, f4, f6, f7, hSr])), fun T hT => Ul s h40 ho t.name (up1 r) (Aw r) (upS T) (by rw [A7, hT _ (List.mem_singleton.2 rfl)]; rfl), ?_⟩
  repeat' with_reducible first | refine W ?_ | refine Z0 ?_ | ((first | refine Wo fun K hK => ?_ | refine Wq ?_ | refine Wr ?_); (try simp only [go_sem, fN, seval, eT, iR, hl, n7]); (repeat refine Ai ?_); (try (refine hK _ ?_; clear hK K)))
  with_reducible refine Wp ?_
  simp only [go_sem, fN, seval, true_implies, false_implies, implies_true, dT, dF, nL]
  (try with_reducible refine iC ?_)
  repeat' with_reducible first | refine W ?_ | refine Z0 ?_ | ((first | refine Wo fun K hK => ?_ | refine Wq ?_ | refine Wr ?_); (try simp only [go_sem, fN, seval, eT, iR, hSa, n4, n6, n7, d4, d6, d7, e4, e6, e7]); (repeat refine Ai ?_); (try (refine hK _ ?_; clear hK K)))
  have hcall := fun S' h h' => VZ s h40 ho x (up1 a0) (up1 r) left S' (Aw a0) (Aw r) (by unfold up1; omega) h0 h1 h h'
  refine ⟨_, _, hcall _ (by rw [A7]; (simp only [go_sem, fN, seval, eT, iR, e4, e6, e7, hSa])) (by rw [A7]; (simp only [go_sem, fN, seval, eT, iR, f4, f6, f7, hSr])), ?_⟩
  repeat' with_reducible first | refine W ?_ | refine Z0 ?_ | ((first | refine Wo fun K hK => ?_ | refine Wq ?_ | refine Wr ?_); (try simp only [go_sem, fN, seval, eT, iR, e4, e6, e7, d4, d6, d7]); (repeat refine Ai ?_); (try (refine hK _ ?_; clear hK K)))
  refine Bj (aTm (C5 x left).1) hS ha0 (hhigh _) trivial ?_ ?_ ?_ fun i hi hne => ?_
  ·simp only [go_sem, fN, seval, eT, iR, AA, AB, AH, e4, e6, e7, d4, d6, d7]
  ·simp only [go_sem, fN, seval, eT, iR]
  ·simp only [go_sem, fN, seval, eT, iR, e4, e6, e7]
  ·have i4 : ¬ i = 4 := by omega
   have i6 : ¬ i = 6 := by omega
   have i7 : ¬ i = 7 := by omega
   simp only [go_sem, fN, seval, eT, iR, i4, i6, i7, hne]
theorem W5 (s : List Bd) (h40 : s.length ≤ 100000) (ho : BA s) (t : Tm) (hv : ∀ b ∈ s, AL b.1 = true) (hchk : t.chk = 0) (r : Nat) (hr : 1000 ≤ r) (S : AD) (sr : S r = some (BN s)) :
  An Tryz.prog 49 [.one (.row r s.length), aTm t] S (.tup [aTm (Aq s t).1, Ab (Aq s t).2]) S := by
 refine M9.acS fun hS C hC => ?_
 unfold HP
 have n3 : S 3 = none := AR hS (by omega)
 have n4 : S 4 = none := AR hS (by omega)
 have n7 : S 7 = none := AR hS (by omega)
 have n10 : S 10 = none := AR hS (by omega)
 have r3 : ¬ r = 3 := by omega
 have r4 : ¬ r = 4 := by omega
 have r7 : ¬ r = 7 := by omega
 have r10 : ¬ r = 10 := by omega
 repeat' with_reducible first | refine W ?_ | refine Z0 ?_ | ((first | refine Wo fun K hK => ?_ | refine Wq ?_ | refine Wr ?_); (try simp only [go_sem, fN, seval, eT, iR, n3, n4, n7, n10]); (repeat refine Ai ?_); (try (refine hK _ ?_; clear hK K)))
 have hcall := fun S' h h' => VR s h40 ho t hv hchk (up1 10) (up1 r) 2000 S' (Aw 10) (Aw r) (by unfold up1; omega) (by omega) (by omega) h h'
 refine ⟨_, _, hcall _ (by rw [A7]; rfl) (by rw [A7]; (simp only [go_sem, fN, seval, eT, iR, r3, r4, r10, sr])), ?_⟩
 by_cases hfit : ((t.on s).size : Int) ≤ 2000
 ·have e : Aq s t = (t.on s, true) := by
   unfold Aq
   rw [if_pos (by omega)]
  rw [Dw hfit]
  have hge : (0 : Int) ≤ 2000 - (t.on s).size := by omega
  repeat' with_reducible first | refine W ?_ | refine Z0 ?_ | ((first | refine Wo fun K hK => ?_ | refine Wq ?_ | refine Wr ?_); (try simp only [go_sem, fN, seval, eT, iR, hge, n7]); (repeat refine Ai ?_); (try (refine hK _ ?_; clear hK K)))
  rw [e]
  refine CR (.tup [aTm (t.on s), Ab true]) hS trivial ?_ ?_ fun k hk => ?_
  ·simp only [go_sem, fN, seval, eT, iR, AA, AB, AH]
  ·simp only [go_sem, fN, seval, eT, iR]
  ·have k3 : ¬ k = 3 := by omega
   have k4 : ¬ k = 4 := by omega
   have k7 : ¬ k = 7 := by omega
   have k10 : ¬ k = 10 := by omega
   simp only [go_sem, fN, seval, eT, iR, k3, k4, k7, k10]
 ·have e : Aq s t = (Tm.nil, false) := by
   unfold Aq
   rw [if_neg (by omega)]
  rw [DS hfit]
  repeat' with_reducible first | refine W ?_ | refine Z0 ?_ | ((first | refine Wo fun K hK => ?_ | refine Wq ?_ | refine Wr ?_); (try simp only [go_sem, fN, seval, eT, iR, n7]); (repeat refine Ai ?_); (try (refine hK _ ?_; clear hK K)))
  rw [e]
  refine CR (.tup [aTm Tm.nil, Ab false]) hS trivial ?_ ?_ fun k hk => ?_
  ·simp only [go_sem, fN, seval, eT, iR, AA, AB, AH]
  ·simp only [go_sem, fN, seval, eT, iR]
  ·have k3 : ¬ k = 3 := by omega
   have k4 : ¬ k = 4 := by omega
   have k7 : ¬ k = 7 := by omega
   have k10 : ¬ k = 10 := by omega
   simp only [go_sem, fN, seval, eT, iR, k3, k4, k7, k10]

open Go.Proofs Go.Shelf
def Tryz.laysM171_ren : Go.Shelf.Ren := ⟨fun | 171 => 68 | 243 => 84 | 246 => 93 | 283 => 101 | 284 => 102 | 285 => 103 | 286 => 104 | 129 => 114 | 317 => 116 | 318 => 117 | 319 => 118 | 320 => 119 | 337 => 125 | 338 => 126 | n => n, fun | 3 => 3 | 9 => 9 | 2 => 2 | 4 => 4 | 171 => 120 | 0 => 0 | 53 => 121 | 37 => 104 | 5 => 5 | 173 => 124 | 212 => 139 | 51 => 134 | 20 => 20 | 213 => 140 | 46 => 116 | 232 => 151 | 233 => 152 | n => n, fun | 17 => 0 | 18 => 1 | 19 => 2 | n => n⟩
theorem Tryz.laysM171 : Go.Proofs.LaysM.n171 Tryz.prog Tryz.laysM171_ren := {
 mixed := by kernel_rfl
 f129 := Tryz.func114.trans (congrArg some (by kernel_rfl))
 f171 := Tryz.func68.trans (congrArg some (by kernel_rfl))
 f243 := Tryz.func84.trans (congrArg some (by kernel_rfl))
 f246 := Tryz.func93.trans (congrArg some (by kernel_rfl))
 f283 := Tryz.func101.trans (congrArg some (by kernel_rfl))
 f284 := Tryz.func102.trans (congrArg some (by kernel_rfl))
 f285 := Tryz.func103.trans (congrArg some (by kernel_rfl))
 f286 := Tryz.func104.trans (congrArg some (by kernel_rfl))
 f317 := Tryz.func116.trans (congrArg some (by kernel_rfl))
 f318 := Tryz.func117.trans (congrArg some (by kernel_rfl))
 f319 := Tryz.func118.trans (congrArg some (by kernel_rfl))
 f320 := Tryz.func119.trans (congrArg some (by kernel_rfl))
 f337 := Tryz.func125.trans (congrArg some (by kernel_rfl))
 f338 := Tryz.func126.trans (congrArg some (by kernel_rfl))
 t0 := Tryz.underlying0
 a0 := Tryz.isAgg0
 z0 := Tryz.sizeOf0
 v0 := Tryz.zeroValue0
 t2 := Tryz.underlying2
 a2 := Tryz.isAgg2
 z2 := Tryz.sizeOf2
 v2 := Tryz.zeroValue2
 t3 := Tryz.underlying3
 a3 := Tryz.isAgg3
 z3 := Tryz.sizeOf3
 v3 := Tryz.zeroValue3
 t4 := Tryz.underlying4
 a4 := Tryz.isAgg4
 z4 := Tryz.sizeOf4
 v4 := Tryz.zeroValue4
 t5 := Tryz.underlying5
 a5 := Tryz.isAgg5
 z5 := Tryz.sizeOf5
 v5 := Tryz.zeroValue5
 t9 := Tryz.underlying9
 a9 := Tryz.isAgg9
 z9 := Tryz.sizeOf9
 v9 := Tryz.zeroValue9
 t20 := Tryz.underlying20
 a20 := Tryz.isAgg20
 z20 := Tryz.sizeOf20
 v20 := Tryz.zeroValue20
 t37 := Tryz.underlying104
 a37 := Tryz.isAgg104
 z37 := Tryz.sizeOf104
 v37 := Tryz.zeroValue104
 t46 := Tryz.underlying116
 a46 := Tryz.isAgg116
 z46 := Tryz.sizeOf116
 v46 := Tryz.zeroValue116
 t51 := Tryz.underlying134
 a51 := Tryz.isAgg134
 z51 := Tryz.sizeOf134
 v51 := Tryz.zeroValue134
 t53 := Tryz.underlying121
 a53 := Tryz.isAgg121
 z53 := Tryz.sizeOf121
 v53 := Tryz.zeroValue121
 t171 := Tryz.underlying120
 a171 := Tryz.isAgg120
 z171 := Tryz.sizeOf120
 v171 := Tryz.zeroValue120
 t173 := Tryz.underlying124
 a173 := Tryz.isAgg124
 z173 := Tryz.sizeOf124
 v173 := Tryz.zeroValue124
 t212 := Tryz.underlying139
 a212 := Tryz.isAgg139
 z212 := Tryz.sizeOf139
 v212 := Tryz.zeroValue139
 t213 := Tryz.underlying140
 a213 := Tryz.isAgg140
 z213 := Tryz.sizeOf140
 t232 := Tryz.underlying151
 a232 := Tryz.isAgg151
 z232 := Tryz.sizeOf151
 v232 := Tryz.zeroValue151
 t233 := Tryz.underlying152
 a233 := Tryz.isAgg152
 z233 := Tryz.sizeOf152
 v233 := Tryz.zeroValue152
 g17 := by kernel_rfl
 g18 := by kernel_rfl
 g19 := by kernel_rfl
 i0 := by kernel_rfl
 i2 := by kernel_rfl
 i3 := by kernel_rfl
 i4 := by kernel_rfl
 i5 := by kernel_rfl
 i9 := by kernel_rfl
 i20 := by kernel_rfl
 i37 := by kernel_rfl
 i46 := by kernel_rfl
 i51 := by kernel_rfl
 i53 := by kernel_rfl
 i171 := by kernel_rfl
 i173 := by kernel_rfl
 i212 := by kernel_rfl
 i232 := by kernel_rfl
 i233 := by kernel_rfl
 m17 := by kernel_rfl
 m18 := by kernel_rfl
 m19 := by kernel_rfl }
def Tryz.sortBd_ren : Go.Shelf.Ren := ⟨fun | 6 => 85 | 15 => 95 | 14 => 94 | 28 => 113 | 29 => 114 | 20 => 105 | 21 => 106 | 22 => 107 | 23 => 108 | 24 => 109 | 25 => 110 | 26 => 111 | 27 => 112 | 46 => 120 | 47 => 121 | 48 => 122 | 49 => 123 | 50 => 124 | 57 => 127 | n => n, fun | 22 => 64 | 24 => 81 | 25 => 111 | 3 => 3 | 39 => 116 | 0 => 0 | 53 => 134 | 55 => 121 | 4 => 4 | 46 => 128 | 45 => 127 | 50 => 117 | 5 => 5 | 9 => 9 | 66 => 142 | 70 => 146 | 76 => 148 | 77 => 149 | n => n, fun | n => n⟩
theorem Tryz.sortBd : Go.Proofs.SlLaysF0.n6 Tryz.prog Tryz.sortBd_ren := {
 mixed := by kernel_rfl
 f6 := ⟨Tryz.f85.name, by decide, Tryz.func85.trans (congrArg some (by kernel_rfl))⟩
 f14 := ⟨Tryz.f94.name, by decide, Tryz.func94.trans (congrArg some (by kernel_rfl))⟩
 f15 := Tryz.func95.trans (congrArg some (by kernel_rfl))
 f20 := ⟨Tryz.f105.name, by decide, Tryz.func105.trans (congrArg some (by kernel_rfl))⟩
 f21 := ⟨Tryz.f106.name, by decide, Tryz.func106.trans (congrArg some (by kernel_rfl))⟩
 f22 := ⟨Tryz.f107.name, by decide, Tryz.func107.trans (congrArg some (by kernel_rfl))⟩
 f23 := ⟨Tryz.f108.name, by decide, Tryz.func108.trans (congrArg some (by kernel_rfl))⟩
 f24 := ⟨Tryz.f109.name, by decide, Tryz.func109.trans (congrArg some (by kernel_rfl))⟩
 f25 := ⟨Tryz.f110.name, by decide, Tryz.func110.trans (congrArg some (by kernel_rfl))⟩
 f26 := ⟨Tryz.f111.name, by decide, Tryz.func111.trans (congrArg some (by kernel_rfl))⟩
 f27 := ⟨Tryz.f112.name, by decide, Tryz.func112.trans (congrArg some (by kernel_rfl))⟩
 f28 := Tryz.func113.trans (congrArg some (by kernel_rfl))
 f29 := Tryz.func114.trans (congrArg some (by kernel_rfl))
 f46 := ⟨Tryz.f120.name, by decide, Tryz.func120.trans (congrArg some (by kernel_rfl))⟩
 f47 := Tryz.func121.trans (congrArg some (by kernel_rfl))
 f48 := Tryz.func122.trans (congrArg some (by kernel_rfl))
 f49 := ⟨Tryz.f123.name, by decide, Tryz.func123.trans (congrArg some (by kernel_rfl))⟩
 f50 := ⟨Tryz.f124.name, by decide, Tryz.func124.trans (congrArg some (by kernel_rfl))⟩
 f57 := ⟨Tryz.f127.name, by decide, Tryz.func127.trans (congrArg some (by kernel_rfl))⟩
 t0 := Tryz.underlying0
 a0 := Tryz.isAgg0
 z0 := Tryz.sizeOf0
 v0 := Tryz.zeroValue0
 t3 := Tryz.underlying3
 a3 := Tryz.isAgg3
 z3 := Tryz.sizeOf3
 v3 := Tryz.zeroValue3
 t4 := Tryz.underlying4
 a4 := Tryz.isAgg4
 z4 := Tryz.sizeOf4
 v4 := Tryz.zeroValue4
 t5 := Tryz.underlying5
 a5 := Tryz.isAgg5
 z5 := Tryz.sizeOf5
 v5 := Tryz.zeroValue5
 t9 := Tryz.underlying9
 a9 := Tryz.isAgg9
 z9 := Tryz.sizeOf9
 v9 := Tryz.zeroValue9
 t22 := Tryz.underlying64
 a22 := Tryz.isAgg64
 z22 := Tryz.sizeOf64
 v22 := Tryz.zeroValue64
 t25 := Tryz.underlying111
 a25 := Tryz.isAgg111
 z25 := Tryz.sizeOf111
 v25 := Tryz.zeroValue111
 t39 := Tryz.underlying116
 a39 := Tryz.isAgg116
 z39 := Tryz.sizeOf116
 v39 := Tryz.zeroValue116
 t45 := Tryz.underlying127
 a45 := Tryz.isAgg127
 z45 := Tryz.sizeOf127
 v45 := Tryz.zeroValue127
 t46 := Tryz.underlying128
 a46 := Tryz.isAgg128
 z46 := Tryz.sizeOf128
 v46 := Tryz.zeroValue128
 t50 := Tryz.underlying117
 a50 := Tryz.isAgg117
 z50 := Tryz.sizeOf117
 v50 := Tryz.zeroValue117
 t53 := Tryz.underlying134
 a53 := Tryz.isAgg134
 z53 := Tryz.sizeOf134
 v53 := Tryz.zeroValue134
 t55 := Tryz.underlying121
 a55 := Tryz.isAgg121
 z55 := Tryz.sizeOf121
 v55 := Tryz.zeroValue121
 t66 := Tryz.underlying142
 a66 := Tryz.isAgg142
 z66 := Tryz.sizeOf142
 v66 := Tryz.zeroValue142
 t70 := Tryz.underlying146
 a70 := Tryz.isAgg146
 z70 := Tryz.sizeOf146
 v70 := Tryz.zeroValue146
 t76 := Tryz.underlying148
 a76 := Tryz.isAgg148
 z76 := Tryz.sizeOf148
 v76 := Tryz.zeroValue148
 t77 := Tryz.underlying149
 a77 := Tryz.isAgg149
 z77 := Tryz.sizeOf149
 v77 := Tryz.zeroValue149 }

set_option maxRecDepth 100000
def Fl : IR :=
 (.seq (.ops [.i 2 (.mov (.c (.one (.full []))))]) (.seq (.ops [.m 3 0, .i 4 (.callS 85 [.t 3, .c (.one (.fn 86 []))])]) (.seq (.ops [.m 5 0, .m 2 5]) .ret)))
theorem KM : OkF Tryz.prog 69 6 [4] Fl [.t 2] := .of Tryz.func69 rfl rfl (by kernel_rfl) rfl

open Go.Lib Go.Sort
set_option maxHeartbeats 1000000
theorem VD {P : Program} {w : World} (t : TypeId) (x y : ByteArray) : (binOp .gtr t (.string x) (.string y)).run P w = .ok (.bool (!(sLt x y || decide (x = y)))) w := by
 simp only [binOp, Op.stringOp, Cp]
 rfl
attribute [go_sem] VD
theorem Vt (s : ByteArray) (W : World) : Calls Tryz.prog 96 #[.string s] W fun e w' => e = .returned (.bool false) ∧ w' = W := by
 go_enter Tryz.func96, Tryz.ntmps96
 go_wp2_with fail
 go_ret
 exact ⟨rfl, rfl⟩
theorem Ru (a b : ByteArray) (W : World) : Calls Tryz.prog 87 #[.string a, .string b] W fun e w' => e = .returned (.int .i64 (FB a b)) ∧ w' = W := by
 have h1 := Vt
 have hl : sLt a b = Op.bytesLess a.toList b.toList := rfl
 have hc : FB a b = if sLt a b = true then -1 else if a = b then 0 else 1 := rfl
 generalize FB a b = r at hc ⊢
 go_enter Tryz.func87, Tryz.ntmps87
 go_wp2_with (go_at_call 96; refine (h1 _ _).mono ?_; rintro e w' ⟨rfl, rfl⟩)
 all_goals go_ret
 all_goals refine ⟨?_, rfl⟩
 all_goals simp_all
abbrev EK := ByteArray × ByteArray × Option Addr × Nat × Nat
def CV (x : EK) : List Value := [.string x.1, .string x.2.1, .slice x.2.2.1 x.2.2.2.1 x.2.2.2.2]
theorem Ve (x y : EK) (W : World) : Calls Tryz.prog 86 #[.agg (CV x).toArray, .agg (CV y).toArray] W fun e w' => e = .returned (.int .i64 (FB x.1 y.1)) ∧ ∃ q os', w' = grow (W.drewN q) os' := by
 have hcon := fun W' => Ru x.1 y.1 W'
 generalize FB x.1 y.1 = r at hcon ⊢
 unfold CV
 go_enter Tryz.func86, Tryz.ntmps86
 go_wp2_with (go_at_call 87; refine (hcon _).mono ?_; rintro e w' ⟨rfl, rfl⟩)
 go_ret
 exact ⟨rfl, 0, _, by rw [alloc_eq_grow, alloc_eq_grow, grow_grow]; rfl⟩
theorem Sf : SWO (ltOf fun x y : EK => FB x.1 y.1) where
 irrefl x := by
  simp only [ltOf, decide_eq_false_iff_not]
  intro h
  have := CL.1 h
  rw [DP] at this
  cases this
 trans x y z h k := by
  simp only [ltOf, decide_eq_true_eq] at *
  exact CL.2 (Dy (CL.1 h) (CL.1 k))
 ntrans x y z h k := by
  simp only [ltOf, decide_eq_false_iff_not] at *
  intro e
  have e := CL.1 e
  have h : sLt x.1 y.1 = false := by
   cases hx : sLt x.1 y.1 with
   | false => rfl
   | true => exact absurd (CL.2 hx) h
  have k : sLt y.1 z.1 = false := by
   cases hx : sLt y.1 z.1 with
   | false => rfl
   | true => exact absurd (CL.2 hx) k
  rcases IQ y.1 z.1 with q | q | q
  ·rw [q] at k; cases k
  ·rw [q] at h; rw [e] at h; cases h
  ·have := Dy e q
   rw [this] at h
   cases h
def Tl (σ : Sto) (x : EK) (b : Bd) : Prop := x.1 = b.1 ∧ Ag (Av σ) (CV x) (BG b)
theorem SS {α β : Type} {R : α → β → Prop} {l1 l2 : List α} (hp : l1.Perm l2) : ∀ {m1 : List β}, Ag R l1 m1 → ∃ m2, Ag R l2 m2 ∧ m1.Perm m2 := by
 induction hp with
 | nil => intro m1 h; exact ⟨m1, h, List.Perm.refl _⟩
 | cons x _ ih =>
  intro m1 h
  cases h with
  | cons h1 h2 =>
   obtain ⟨m2, q1, q2⟩ := ih h2
   exact ⟨_ :: m2, .cons h1 q1, q2.cons _⟩
 | swap x y l =>
  intro m1 h
  cases h with
  | cons h1 h2 =>
   cases h2 with
   | cons h2 h3 => exact ⟨_, .cons h2 (.cons h1 h3), List.Perm.swap _ _ _⟩
 | trans _ _ ih1 ih2 =>
  intro m1 h
  obtain ⟨m2, q1, q2⟩ := ih1 h
  obtain ⟨m3, q3, q4⟩ := ih2 q1
  exact ⟨m3, q3, q2.trans q4⟩
theorem VM {σ : Sto} {b : Bd} {v1 v2 v3 : Value} (h1 : Av σ v1 (.str b.1)) (h2 : Av σ v2 (.str b.2.name)) (h3 : Av σ v3 (.list (b.2.args.map Ap))) : ∃ x : EK, [v1, v2, v3] = CV x ∧ Tl σ x b := by
 have e1 := (D6 (S := noS) (ι := noH) (.one (.st h1))).1
 have e2 := (D6 (S := noS) (ι := noH) (.one (.st h2))).1
 obtain ⟨p, cap, e3, _⟩ := Cd h3
 subst e1 e2 e3
 exact ⟨(b.1, b.2.name, p, _, cap), rfl, rfl, .cons h1 (.cons h2 (.cons h3 .nil))⟩
theorem KL {σ : Sto} {vs : Array Value} : ∀ (l : List Bd) (base : Nat), (∀ k b, l[k]? = some b → ∀ j a, (BG b)[j]? = some a → ∃ v, vs[base + k * 3 + j]? = some v ∧ Av σ v a) →
  ∃ d : List EK, Ag (Tl σ) d l ∧ ∀ k x j v, d[k]? = some x → (CV x)[j]? = some v → vs[base + k * 3 + j]? = some v
 | [], base, _ => ⟨[], .nil, by simp⟩
 | b :: l, base, h => by
  obtain ⟨d, d1, d2⟩ := KL l (base + 3) (fun k c hc j a ha => by
   obtain ⟨v, v1, v2⟩ := h (k + 1) c (by simpa using hc) j a ha
   exact ⟨v, by rw [← v1]; congr 1; omega, v2⟩)
  obtain ⟨u1, p1, q1⟩ := h 0 b rfl 0 _ rfl
  obtain ⟨u2, p2, q2⟩ := h 0 b rfl 1 _ rfl
  obtain ⟨u3, p3, q3⟩ := h 0 b rfl 2 _ rfl
  obtain ⟨x, x1, x2⟩ := VM q1 q2 q3
  refine ⟨x :: d, .cons x2 d1, fun k y j v hy hv => ?_⟩
  cases k with
  | zero =>
   simp only [List.getElem?_cons_zero, Option.some.injEq] at hy
   subst hy
   rw [← x1] at hv
   match j, hv with
   | 0, hv => cases hv; exact p1
   | 1, hv => cases hv; exact p2
   | 2, hv => cases hv; exact p3
   | j + 3, hv => simp at hv
  | succ k =>
   have := d2 k y j v (by simpa using hy) hv
   rw [← this]
   congr 1
   omega
theorem Hy (x : EK) : (CV x).length = 3 := rfl
theorem Nl {d : Array EK} {t : Nat} (h : t < d.size * 3) : ∃ x v, d[t / 3]? = some x ∧ (CV x)[t % 3]? = some v ∧ (flatK CV 3 d)[t]! = v := by
 have hk : t / 3 < d.size := by omega
 have hj : t % 3 < (CV d[t / 3]).length := by rw [Hy]; omega
 refine ⟨d[t / 3], (CV d[t / 3])[t % 3], Array.getElem?_eq_getElem hk, List.getElem?_eq_getElem hj, ?_⟩
 rw [get_flatK _ _ _ _ h, getElem!_pos d (t / 3) hk, getElem!_pos (CV d[t / 3]) (t % 3) hj]
theorem Su (w : World) (g n : Nat) (d : Array EK) (os : Array Obj) (vs : Array Value) (e : TypeId) (hg : w.heap[g]? = some (.cells vs e (0, 0))) :
  (sortWorldK CV 3 w g 0 n d os).heap[g]? = some (.cells (putCells id 0 (flatK CV 3 d) vs) e (0, 0)) ∧ (∀ k, k < w.heap.size → k ≠ g → (sortWorldK CV 3 w g 0 n d os).heap[k]? = w.heap[k]?) ∧ w.heap.size ≤ (sortWorldK CV 3 w g 0 n d os).heap.size := by
 have hlt := (Array.getElem?_eq_some_iff.1 hg).1
 have hsz : (putRowK CV 3 (Sort.ahead w n) g 0 d).heap.size = w.heap.size := by simp [putRowK, putRow, mapBlock, Sort.ahead]
 refine ⟨?_, fun k hk hne => ?_, ?_⟩
 ·unfold sortWorldK
  rw [heap_grow_old _ _ (by rw [hsz]; exact hlt)]
  simp [putRowK, putRow, mapBlock, Sort.ahead, Array.getElem?_modify, hg, onCells]
 ·unfold sortWorldK
  rw [heap_grow_old _ _ (by rw [hsz]; exact hk)]
  simp [putRowK, putRow, mapBlock, Sort.ahead, Array.getElem?_modify, Ne.symm hne]
 ·unfold sortWorldK
  rw [Go.Sort.size_grow, hsz]
  omega
theorem Vm {d : Array EK} {vs : Array Value} (hs : d.size * 3 ≤ vs.size) {k : Nat} {x : EK} {j : Nat} {v : Value} (hx : d[k]? = some x) (hv : (CV x)[j]? = some v) : (putCells id 0 (flatK CV 3 d) vs)[k * 3 + j]? = some v := by
 have hk := (Array.getElem?_eq_some_iff.1 hx).1
 have hj : j < 3 := by have := (List.getElem?_eq_some_iff.1 hv).1; rw [Hy] at this; exact this
 have hlt : k * 3 + j < d.size * 3 := by omega
 obtain ⟨y, u, h1, h2, h3⟩ := Nl hlt
 have e1 : (k * 3 + j) / 3 = k := by omega
 have e2 : (k * 3 + j) % 3 = j := by omega
 rw [e1, hx] at h1
 cases h1
 rw [e2, hv] at h2
 cases h2
 unfold putCells
 rw [Array.getElem?_mapIdx, Array.getElem?_eq_getElem (by omega), Option.map_some, if_pos (by rw [size_flatK]; omega)]
 simp only [Nat.sub_zero, id, h3]
theorem Uy (d : Array EK) (vs : Array Value) : (putCells id 0 (flatK CV 3 d) vs).size = vs.size := by simp [putCells]
theorem Vh {S : AD} {r : Nat} {b : AN} (h : S r = some b) : AM S r (some b) = S := by
 funext k
 unfold AM
 split
 ·rename_i e; rw [e, h]
 ·rfl
theorem SZ {d : Array EK} {vs : Array Value} {t : Nat} (h : d.size * 3 ≤ t) : (putCells id 0 (flatK CV 3 d) vs)[t]? = vs[t]? := by
 unfold putCells
 rw [Array.getElem?_mapIdx]
 cases hv : vs[t]? with
 | none => rfl
 | some v => rw [Option.map_some, if_neg (by rw [size_flatK]; omega)]
abbrev FN (l : List Bd) (ys : List (List SV)) : AN := .mrow 81 3 (l.map BG ++ ys)
theorem Sn (l : List Bd) (ys : List (List SV)) (hys : ∀ y ∈ ys, y.length = 3) (hn : BK l) (hl : l.length ≤ 100000) (r : Nat) (hr : 1000 ≤ r) (S : AD) (sr : S r = some (FN l ys)) (hS : BJ S) (σ : Sto) (w : World) (ι : A9) (hF : Fit σ w) (hO : Ff σ S ι w) :
  Calls Tryz.prog 85 #[.slice (ι r).p l.length (ι r).cap, .func (.func 86) #[] #[]] w fun e w' => ∃ v σ' ι', e = .returned v ∧ BJ (AM S r (some (FN (Ay l) ys))) ∧ Upd S ι (AM S r (some (FN (Ay l) ys))) ι' ∧ Ff σ' (AM S r (some (FN (Ay l) ys))) ι' w' ∧ AW σ' (AM S r (some (FN (Ay l) ys))) ι' v (.tup []) ∧ Fit σ' w' ∧ (∀ p x, σ p = some x → σ' p = some x) ∧
   (∀ p : Addr, p.block < w.heap.size → DF S ι p.block → σ' p = σ p) ∧ (w'.os = w.os ∧ w'.tape = w.tape ∧ w'.output = w.output) ∧ w.heap.size ≤ w'.heap.size ∧
   (∀ g, g < w.heap.size → DF S ι g → w'.heap[g]? = w.heap[g]?) ∧ (∀ id b g, AM S r (some (FN (Ay l) ys)) id = some b → (ι' id).g = some g → w.heap.size ≤ g ∨ ¬ DF S ι g) := by
 have hS' : BJ (AM S r (some (FN (Ay l) ys))) := C2 hS hr rfl
 have hb : CD σ S ι w (ι r) (.mrow 81 3 (l.map BG ++ ys)) := hO.1 r _ sr
 generalize hxs : l.map BG ++ ys = xs at hb
 have hlen : xs.length = l.length + ys.length := by rw [← hxs, List.length_append, List.length_map]
 generalize hh : ι r = hd at hb
 cases hb with
 | mnil k1 k2 =>
  obtain ⟨hl0, hy0⟩ : l = [] ∧ ys = [] := by simpa using hxs
  subst hl0 hy0
  refine (AnyF.slices_SortFunc_none Tryz.sortBd hd.p hd.cap _ w).mono fun e w' ⟨he, hw⟩ => ?_
  subst hw
  have hid : AM S r (some (FN (Ay []) [])) = S := Vh sr
  rw [hid]
  exact ⟨_, σ, ι, he, hS, Upd.refl _ _, hO, .tup (fun _ => undef) rfl (by simp) (by simp), hF, fun _ _ h => h, fun _ _ _ => rfl, ⟨rfl, rfl, rfl⟩, Nat.le_refl _, fun _ _ _ => rfl, fun id b g h1 h2 => .inr fun hno => hno id b h1 h2⟩
 | @mrow _ _ _ g cs k1 k2 k3 k4 k5 k6 k7 k8 k9 =>
  subst hxs
  obtain ⟨d, d1, d2⟩ := KL (σ := σ) (vs := cs) l 0 (fun k b hb j a ha => by
   obtain ⟨v, v1, v2⟩ := k8 k (BG b) j a (by rw [List.getElem?_append_left (by rw [List.length_map]; exact Bh hb), List.getElem?_map, hb]; rfl) ha
   exact ⟨v, by rw [Nat.zero_add]; exact v1, v2⟩)
  have dlen : d.length = l.length := d1.len
  have hcap : l.length ≤ hd.cap := by omega
  have hfits : d.toArray.size * 3 ≤ cs.size := by
   rw [k6]
   simp only [List.size_toArray, dlen]
   exact Nat.mul_le_mul_right 3 hcap
  have hH : HoldsK CV 3 w g 0 d.toArray := fun j hj => by
   rw [size_flatK] at hj
   obtain ⟨x, v, q1, q2, q3⟩ := Nl hj
   have q1 : d[j / 3]? = some x := by simpa using q1
   have hc := d2 _ _ _ _ q1 q2
   have e : 0 + j / 3 * 3 + j % 3 = j := by omega
   rw [e] at hc
   refine ⟨?_, ?_⟩
   ·rw [cell_of_row w g _ _ _ _ k3, Nat.zero_add, hc, q3]
    rfl
   ·exact Blk.frozen k3 _
  have eg : ∀ args w, (callFunc 86 args).run Tryz.prog w = .ok (.enter 86 args) w := enters_of Tryz.func86 (by kernel_rfl) rfl
  have hgl : g < w.heap.size := (Array.getElem?_eq_some_iff.1 k3).1
  have hcon := AnyQ.slices_SortFunc Tryz.sortBd 3 Tryz.isAgg81 Tryz.sizeOf81 CV Hy (fun x v hv => by simp [CV] at hv; rcases hv with rfl | rfl | rfl <;> rfl) (fun x y : EK => FB x.1 y.1) Sf 86 #[] g 0 hd.cap d.toArray w eg (fun _ _ _ _ x y => Ve x y _) hH hgl (by simp [dlen]; omega)
  rw [show d.toArray.size = l.length by simp [dlen]] at hcon
  rw [k2, show (l.length) = l.length from rfl]
  refine Calls.mono hcon fun e w' ⟨he, d', n, os, hp, hs, hw⟩ => ?_
  obtain ⟨hp1, hp2, hp3⟩ := hp
  have hd'l : d'.size = l.length := by rw [hp1]; simp [dlen]
  have hperm : d.Perm d'.toList := by
   have e1 : d'.extract 0 l.length = d' := by rw [← hd'l]; exact Array.extract_size
   have e2 : d.toArray.extract 0 l.length = d.toArray := by
    rw [show l.length = d.toArray.size by simp [dlen]]
    exact Array.extract_size
   rw [e1, e2] at hp3
   exact hp3.symm
  obtain ⟨l', l1, l2⟩ := SS hperm d1
  have hl'len : l'.length = l.length := l2.length_eq.symm
  have hord : BA l' := by
   unfold BA
   rw [List.pairwise_iff_getElem]
   intro i j hi hj hij
   obtain ⟨x, x1, x2, _⟩ := l1.get (List.getElem?_eq_getElem hi)
   obtain ⟨y, y1, y2, _⟩ := l1.get (List.getElem?_eq_getElem hj)
   have hso := hs i j (Nat.zero_le _) hij (by omega)
   have e1 : d'[i]! = x := by
    rw [Array.getElem?_toList] at x1
    rw [getElem!_def, x1]
   have e2 : d'[j]! = y := by
    rw [Array.getElem?_toList] at y1
    rw [getElem!_def, y1]
   rw [e1, e2] at hso
   simp only [ltOf, decide_eq_false_iff_not] at hso
   have hno : sLt l'[j].1 l'[i].1 = false := by
    cases hx : sLt l'[j].1 l'[i].1 with
    | false => rfl
    | true => exact absurd (CL.2 (by rw [x2, y2]; exact hx)) hso
   have hdiff : l'[i].1 ≠ l'[j].1 := by
    have hn' := Ca l2 hn
    unfold BK at hn'
    rw [List.nodup_iff_pairwise_ne, List.pairwise_map, List.pairwise_iff_getElem] at hn'
    exact hn' i j hi hj hij
   rcases IQ l'[i].1 l'[j].1 with q | q | q
   ·exact q
   ·exact absurd q hdiff
   ·rw [q] at hno; cases hno
  have hl' : l' = Ay l := D1 hord (Bb hn) ((l2.symm).trans (BW l).symm)
  subst hl'
  obtain ⟨w1, w2, w3⟩ := Su w g n d' os cs _ k3
  rw [← hw] at w1 w2 w3
  have hfits' : d'.size * 3 ≤ cs.size := by rw [hd'l]; rw [← dlen]; simpa using hfits
  have hupd : Upd S ι (AM S r (some (FN (Ay l) ys))) ι := fun id b hb => by
   by_cases e : id = r
   ·subst e
    rw [sr] at hb
    cases hb
    exact ⟨_, AG _ _ _, by simp [AN.len, BM], fun _ => ⟨rfl, rfl⟩⟩
   ·exact ⟨b, by rw [AO _ e]; exact hb, Nat.le_refl _, fun _ => ⟨rfl, rfl⟩⟩
  have hotherg : ∀ id b g', id ≠ r → S id = some b → (ι id).g = some g' → g' ≠ g := fun id b g' hne hb hg' e => by
   subst e
   exact hne (hO.2 id r b _ g' hb sr hg' (by rw [hh]; exact k1))
  have hFit : Fit σ w' := fun p x hp => by
   have hlt := hF.lt hp
   by_cases e : p.block = g
   ·rw [k9 p e] at hp; cases hp
   ·exact (Cn (w2 _ hlt e)).trans (hF p x hp)
  refine ⟨_, σ, ι, he, hS', hupd, ⟨fun id b hb => ?_, fun id id' b b' g' q1 q2 q3 q4 => ?_⟩, .tup (fun _ => undef) rfl (by simp) (by simp), hFit, fun _ _ h => h, fun _ _ _ => rfl, ?_, w3, fun g' q1 q2 => ?_, fun id b g' q1 q2 => ?_⟩
  ·by_cases e : id = r
   ·subst e
    rw [AG] at hb
    cases hb
    rw [hh]
    have hlen' : ((Ay l).map BG ++ ys).length = l.length + ys.length := by rw [List.length_append, List.length_map, BM]
    refine .mrow k1 k2 w1 (by rw [hlen', ← hlen]; exact k4) k5 (by rw [Uy]; exact k6) (fun x hx => ?_) (fun k x j a hx ha => ?_) k9
    ·rcases List.mem_append.1 hx with hx | hx
     ·exact GN x hx
     ·exact hys x hx
    rcases Nat.lt_or_ge k l.length with hk | hk
    ·rw [List.getElem?_append_left (by rw [List.length_map, BM]; exact hk), List.getElem?_map, Option.map_eq_some_iff] at hx
     obtain ⟨b, hb, rfl⟩ := hx
     obtain ⟨y, y1, y2, y3⟩ := l1.get hb
     obtain ⟨v, v1, v2⟩ := y3.get ha
     exact ⟨v, Vm hfits' (by simpa using y1) v1, v2⟩
    ·rw [List.getElem?_append_right (by rw [List.length_map, BM]; exact hk), List.length_map, BM] at hx
     obtain ⟨v, v1, v2⟩ := k8 k x j a (by rw [List.getElem?_append_right (by rw [List.length_map]; exact hk), List.length_map]; exact hx) ha
     exact ⟨v, by rw [SZ (by rw [hd'l]; omega)]; exact v1, v2⟩
   ·rw [AO _ e] at hb
    refine (hO.1 id b hb).mono (fun _ _ h => h) hupd (fun g' hg' => w2 g' ((hO.1 id b hb).gsome hg') (hotherg id b g' e hb hg')) (fun _ _ _ _ => rfl)
  ·have back : ∀ i c, AM S r (some (FN (Ay l) ys)) i = some c → ∃ c', S i = some c' := fun i c hc => by
    by_cases e : i = r
    ·subst e; exact ⟨_, sr⟩
    ·rw [AO _ e] at hc; exact ⟨c, hc⟩
   obtain ⟨c1, c1'⟩ := back _ _ q1
   obtain ⟨c2, c2'⟩ := back _ _ q2
   exact hO.2 _ _ _ _ _ c1' c2' q3 q4
  ·rw [hw]
   exact ⟨rfl, rfl, rfl⟩
  ·exact w2 g' q1 fun e => q2 r _ sr (by rw [hh, e]; exact k1)
  ·refine .inr fun hno => ?_
   by_cases e : id = r
   ·subst e; exact hno id _ sr q2
   ·rw [AO _ e] at q1; exact hno id _ q1 q2
theorem Ph (l : List Bd) (hn : BK l) (hl : l.length ≤ 100000) (r : Nat) (hr : 1000 ≤ r) (S : AD) (sr : S r = some (BN l)) :
  An Tryz.prog 85 [.one (.row r l.length), .one (.fn 86 [])] S (.tup []) (AM S r (some (BN (Ay l)))) := by
 intro hS σ w vs ι hG hF hO hv
 cases hv with
 | @cons v1 _ _ _ h1 hv =>
 cases hv with
 | @cons v2 _ _ _ h2 hv =>
 cases hv
 obtain ⟨b, b1, b2, b3⟩ := Cq (Ad h1)
 rw [sr] at b1
 cases b1
 have hv1 := b3 (by simp [AN.len])
 subst hv1
 have hv2 : v2 = .func (.func 86) #[] #[] := by
  cases Ad h2 with
  | @fn _ vs _ c q1 q2 q3 =>
   have e : vs = #[] := Array.eq_empty_of_size_eq_zero (by simpa using q1)
   rw [e]
 subst hv2
 have e : ∀ m : List Bd, BN m = FN m [] := fun m => by rw [FN, List.append_nil]
 rw [e] at sr ⊢
 exact Sn l [] (by simp) hn hl r hr S sr hS σ w ι hF hO
theorem Py (l : List Bd) (hn : BK l) (hl : l.length ≤ 100000) (r : Nat) (hr : 1000 ≤ r) (S : AD) (sr : S r = some (BN l)) :
  An Tryz.prog 69 [.one (.row r l.length)] S (.one (.row r l.length)) (AM S r (some (BN (Ay l)))) := by
 refine KM.acS fun hS C hC => ?_
 unfold Fl
 repeat' with_reducible first | refine W ?_ | refine Z0 ?_ | ((first | refine Wo fun K hK => ?_ | refine Wq ?_ | refine Wr ?_); (try simp only [go_sem, fN, seval, eT, iR]); (repeat refine Ai ?_); (try (refine hK _ ?_; clear hK K)))
 refine ⟨_, _, Ph l hn hl (up1 r) (Aw r) (upS S) (by rw [A7, sr]; rfl), ?_⟩
 repeat' with_reducible first | refine W ?_ | refine Z0 ?_ | ((first | refine Wo fun K hK => ?_ | refine Wq ?_ | refine Wr ?_); (try simp only [go_sem, fN, seval, eT, iR]); (repeat refine Ai ?_); (try (refine hK _ ?_; clear hK K)))
 have hc := C2 (b := BN (Ay l)) hS hr rfl
 refine LW trivial ?_ (Er (n := l.length) hr) (fun i b _ h => (hc i b h).2) (HA hc) hc
 simp only [go_sem, fN, seval, eT, iR, AA, AB, AH]

def Ii : IR :=
 (.seq (.ops [.i 2 (.mov (.c (.one (.full []))))]) (.seq (.ops [.i 3 (.mov (.c (.one (.full []))))]) (.seq (.seq (.ops [.i 4 (.mov (.n 0))]) (.block 0 (.loop (.seq (.seq (.ops [.m 7 4, .m 8 0, .i 9 (.len false (.t 8)), .i 10 (.bin .lss (.t 7) (.t 9))]) (.cond (.t 10) .skip (.exit 0))) (.seq (.block 1 (.seq (.ops [.m 13 3, .m 14 0, .m 15 4, .i 16 (.indexAddr 3 (.t 14) (.t 15)), .L 17 3 16, .i 18 (.buildSlice false 81 3 [.t 17]), .i 19 (.append true 81 3 56 (.t 13) (.t 18)), .m 3 19]) (.seq (.ops [.m 20 3, .i 21 (.len false (.t 20)), .i 22 (.bin .sub (.t 21) (.n 1)), .m 5 22]) (.block 2 (.loop (.seq (.seq (.ops [.m 23 5, .i 24 (.bin .gtr (.t 23) (.n 0)), .m 25 24, .mk (some 26) (some (25, true)) (.mov (.t 3)) .no, .mk (some 27) (some (25, true)) (.mov (.t 5)) .no, .mk (some 28) (some (25, true)) (.indexAddr 3 (.t 26) (.t 27)) .no, .mk (some 29) (some (25, true)) (.fieldAddr 0 (.t 28)) .no, .mk (some 30) (some (25, true)) (.load false 1 (.t 29)) .no, .mk (some 31) (some (25, true)) (.mov (.t 3)) .no, .mk (some 32) (some (25, true)) (.mov (.t 5)) .no, .mk (some 33) (some (25, true)) (.bin .sub (.t 32) (.n 1)) .no, .mk (some 34) (some (25, true)) (.indexAddr 3 (.t 31) (.t 33)) .no, .mk (some 35) (some (25, true)) (.fieldAddr 0 (.t 34)) .no, .mk (some 36) (some (25, true)) (.load false 1 (.t 35)) .no, .mk (some 37) (some (25, true)) (.bin .lss (.t 30) (.t 36)) .no, .i 38 (.pick (.t 25) (.t 37) (.c (.one (.st (.bool false)))))]) (.cond (.t 38) .skip (.exit 2))) (.seq (.block 3 (.seq (.ops [.m 41 3, .m 42 5, .i 43 (.indexAddr 3 (.t 41) (.t 42)), .L 44 3 43, .i 6 (.alloc 81 [.st (.str (ByteArray.mk (#[]))), .st (.str (ByteArray.mk (#[]))), .full []]), .s 3 6 44]) (.seq (.ops [.m 45 3, .m 46 5, .m 47 3, .m 48 5, .i 49 (.bin .sub (.t 48) (.n 1)), .i 50 (.indexAddr 3 (.t 47) (.t 49)), .L 51 3 50, .i 52 (.indexAddr 3 (.t 45) (.t 46)), .s 3 52 51]) (.ops [.m 53 3, .m 54 5, .i 55 (.bin .sub (.t 54) (.n 1)), .L 56 3 6, .i 57 (.indexAddr 3 (.t 53) (.t 55)), .s 3 57 56])))) (.ops [.m 39 5, .i 40 (.bin .sub (.t 39) (.n 1)), .m 5 40])))))))) (.ops [.m 11 4, .i 12 (.bin .add (.t 11) (.n 1)), .m 4 12])))))) (.seq (.ops [.m 58 3, .m 2 58]) .ret))))
theorem Oi : OkF Tryz.prog 60 59 [28, 34, 43, 50, 52, 57, 19] Ii [.t 2] := .of Tryz.func60 rfl rfl (by kernel_rfl) rfl

theorem P8 {l : List Bd} {b : Bd} {k : Nat} (hk : k ≤ l.length) (h1 : ∀ c ∈ l.take k, sLt b.1 c.1 = false) (h2 : ∀ c, l[k]? = some c → sLt b.1 c.1 = true) : GO b l = l.take k ++ b :: l.drop k := by
 induction l generalizing k with
 | nil => simp [GO]
 | cons c l ih =>
  cases k with
  | zero =>
   unfold GO
   rw [if_pos (h2 c rfl)]
   rfl
  | succ k =>
   unfold GO
   rw [if_neg (by rw [h1 c (by simp)]; simp), ih (by simpa using hk) (fun c hc => h1 c (by simp [hc])) (fun c hc => h2 c (by simpa using hc))]
   rfl
def CY (acc : List Bd) (b : Bd) (k : Nat) : List Bd := acc.take k ++ b :: acc.drop k
theorem G4 (acc : List Bd) (b : Bd) (k : Nat) : (CY acc b k).length = acc.length + 1 := by
 have := congrArg List.length (List.take_append_drop k acc)
 unfold CY
 rw [List.length_append] at this ⊢
 rw [List.length_cons]
 omega
theorem Pg {acc : List Bd} {b : Bd} {k : Nat} (h : k ≤ acc.length) : (CY acc b k)[k]? = some b := by
 unfold CY
 rw [List.getElem?_append_right (by rw [List.length_take]; omega), List.length_take, Nat.min_eq_left h, Nat.sub_self]
 rfl
theorem Oj {acc : List Bd} {b c : Bd} {k : Nat} (h : acc[k]? = some c) : (CY acc b (k + 1))[k]? = some c := by
 have := Bh h
 unfold CY
 rw [List.getElem?_append_left (by rw [List.length_take]; omega), List.getElem?_take, if_pos (by omega), h]
theorem Ni {acc : List Bd} {b c : Bd} {k : Nat} (h : acc[k]? = some c) : ((CY acc b (k + 1)).set (k + 1) c).set k b = CY acc b k := by
 have hk := Bh h
 apply List.ext_getElem?
 intro i
 have hl : ((CY acc b (k + 1)).set (k + 1) c).length = acc.length + 1 := by rw [List.length_set, G4]
 rw [List.getElem?_set, List.getElem?_set]
 unfold CY at hl ⊢
 by_cases h1 : k = i
 ·subst h1
  rw [if_pos rfl, if_pos (by rw [hl]; omega), List.getElem?_append_right (by rw [List.length_take]; omega), List.length_take, Nat.min_eq_left (by omega), Nat.sub_self]
  rfl
 ·rw [if_neg h1]
  by_cases h2 : k + 1 = i
  ·subst h2
   have e := G4 acc b (k + 1)
   unfold CY at e
   rw [if_pos rfl, if_pos (by rw [e]; omega), List.getElem?_append_right (by rw [List.length_take]; omega), List.length_take, Nat.min_eq_left (by omega), show k + 1 - k = 1 by omega, List.getElem?_cons_succ, List.getElem?_drop, Nat.add_zero, h]
  ·rw [if_neg h2]
   rcases Nat.lt_or_ge i k with h3 | h3
   ·rw [List.getElem?_append_left (by rw [List.length_take]; omega), List.getElem?_append_left (by rw [List.length_take]; omega), List.getElem?_take, List.getElem?_take, if_pos (by omega), if_pos h3]
   ·rw [List.getElem?_append_right (by rw [List.length_take]; omega), List.getElem?_append_right (by rw [List.length_take]; omega), List.length_take, List.length_take, Nat.min_eq_left (by omega), Nat.min_eq_left (by omega)]
    obtain ⟨j, rfl⟩ : ∃ j, i = k + 2 + j := ⟨i - (k + 2), by omega⟩
    rw [show k + 2 + j - (k + 1) = j + 1 by omega, show k + 2 + j - k = j + 1 + 1 by omega, List.getElem?_cons_succ, List.getElem?_cons_succ, List.getElem?_drop, List.getElem?_drop]
    congr 1
    omega
theorem On (acc : List Bd) (b : Bd) : CY acc b acc.length = acc ++ [b] := by
 unfold CY
 rw [List.take_length, List.drop_length]
theorem LV (l : List Bd) (hn : BK l) (hl : l.length ≤ 100000) : AQ Tryz.prog 60 [Dc l] (Dc (Ay l)) := by
 refine Oi.ac fun C hC => ?_
 unfold Ii
 repeat' with_reducible first | refine W ?_ | refine Z0 ?_ | ((first | refine Wo fun K hK => ?_ | refine Wp ?_ | refine Wq ?_ | refine Wr ?_); (try simp only [go_sem, fN, seval, eT, iR, dT, dF, nL]); (repeat refine Ai ?_); (try (refine hK _ ?_; clear hK K)); try refine iC ?_)
 refine IWP.ghost (Af.ownM 3 900 81 3 rfl rfl (by rw [hC]; decide)) ?_
 refine IWP.loopD [6] (fun m s => ∃ i, i ≤ l.length ∧ m = l.length - i ∧ s.env 0 = Dc l ∧ s.env 3 = .one (.row 900 i) ∧ s.env 4 = AK i ∧ s.S 900 = some (BN (Ay (l.take i))) ∧ s.S 6 = none) l.length ⟨0, Nat.zero_le _, rfl, rfl, rfl, rfl, rfl, rfl⟩ ?_
 rintro m ⟨env, S⟩ ⟨i, hi, rfl, e0, e3, e4, s900, s6⟩
 simp only at e0 e3 e4 s900 s6
 have hlen : (Ay (l.take i)).length = i := by rw [BM, List.length_take]; omega
 have hnt : ∀ j, BK (l.take j) := fun j => by
  unfold BK
  rw [List.map_take]
  exact hn.sublist (List.take_sublist _ _)
 by_cases hlt : (i : Int) < l.length
 ·obtain ⟨b, hb⟩ := AT (show i < l.length by omega)
  have ho := Bb (hnt i)
  have hmap : (Ay (l.take i)).map BG ++ [BG b] = (CY (Ay (l.take i)) b i).map BG := by
   have := On (Ay (l.take i)) b
   rw [hlen] at this
   rw [this, List.map_append]
   rfl
  have hsnoc : Ay (l.take (i + 1)) = GO b (Ay (l.take i)) := by rw [AY hb, Pf]
  generalize hacc : Ay (l.take i) = acc at *
  repeat' with_reducible first | refine W ?_ | refine Z0 ?_ | ((first | refine Wo fun K hK => ?_ | refine Wp ?_ | refine Wq ?_ | refine Wr ?_); (try simp only [go_sem, fN, seval, eT, iR, e0, e3, e4, s900, s6, hlt, hb, hlen, BG, dT, dF, nL]); (repeat refine Ai ?_); (try (refine hK _ ?_; clear hK K)); try refine iC ?_)
  refine IWP.loopD [6] (fun m s => ∃ k, k ≤ i ∧ m = k ∧ (∀ c ∈ acc.drop k, sLt b.1 c.1 = true) ∧ s.env 0 = Dc l ∧ s.env 3 = .one (.row 900 (i + 1)) ∧ s.env 4 = AK i ∧ s.env 5 = AK k ∧ s.S 900 = some (BN (CY acc b k)) ∧ s.S 6 = none) i ⟨i, Nat.le_refl _, rfl, ?_, ?_⟩ ?_
  ·rw [← hlen, List.drop_length]; simp
  ·simp only [go_sem, fN, seval, eT, iR, e0, e3, e4, s6, hlen]
   refine ⟨by congr 3; omega, ?_⟩
   show AN.mrow _ _ (acc.map BG ++ [BG b]) = _
   rw [hmap]
  rintro k ⟨env2, S2⟩ ⟨_, hk, rfl, hd, e0, e3, e4, e5, s900, s6⟩
  simp only at e0 e3 e4 e5 s900 s6
  have hcl := G4 acc b k
  rw [hlen] at hcl
  have hck := Pg (b := b) (show k ≤ acc.length by omega)
  have hend : (∀ c, acc[k - 1]? = some c → 0 < k → sLt b.1 c.1 = false) → GO b acc = CY acc b k := fun h => by
   refine P8 (by omega) (fun c hc => ?_) fun c hc => hd c (by rw [BS hc]; simp)
   cases k with
   | zero => simp at hc
   | succ k =>
    obtain ⟨p, hp⟩ := AT (show k < acc.length by omega)
    have h1 := h p hp (by omega)
    obtain ⟨j, hj, rfl⟩ := List.getElem_of_mem hc
    rw [List.length_take] at hj
    rw [List.getElem_take]
    have hcj : acc[j]? = some acc[j] := List.getElem?_eq_getElem (by omega)
    cases hx : sLt b.1 acc[j].1 with
    | false => rfl
    | true =>
     rcases Nat.lt_or_ge j k with h3 | h3
     ·have := Dy hx (Io ho hcj hp h3)
      rw [this] at h1; cases h1
     ·have e : j = k := by omega
      subst e
      rw [hp] at hcj
      cases hcj
      rw [hx] at h1; cases h1
  by_cases hk0 : 0 < (k : Int)
  ·obtain ⟨k, rfl⟩ : ∃ q, k = q + 1 := ⟨k - 1, by omega⟩
   obtain ⟨c, hc⟩ := AT (show k < acc.length by omega)
   have hcp := Oj (b := b) hc
   have hz : (((k + 1 : Nat) : Int) - 1).toNat = k := by omega
   have hz0 : (0 : Int) ≤ ((k + 1 : Nat) : Int) - 1 := by omega
   have hl1 : k + 1 < i + 1 := by omega
   have hl2 : k < i + 1 := by omega
   cases hx : sLt b.1 c.1 with
   | true =>
    have hkk : ¬ k + 1 = k := by omega
    repeat' with_reducible first | refine W ?_ | refine Z0 ?_ | ((first | refine Wo fun K hK => ?_ | refine Wp ?_ | refine Wq ?_ | refine Wr ?_); (try simp only [go_sem, fN, seval, eT, iR, e0, e3, e4, e5, s900, s6, hk0, hck, hcp, hz, hz0, hcl, hl1, hl2, hx, BG, List.length_set, List.getElem?_set, hkk, dT, dF, nL]); (repeat refine Ai ?_); (try (refine hK _ ?_; clear hK K)); try refine iC ?_)
    refine AE ⟨k, by omega, k, by omega, rfl, fun d hd' => ?_, ?_⟩
    ·rw [BS hc] at hd'
     rcases List.mem_cons.1 hd' with rfl | hd'
     ·exact hx
     ·exact hd d hd'
    ·simp only [go_sem, fN, seval, AS.drop, Ak, AC.clears, AC.clear, AC.highs, AC.high, Bool.not_false, Bool.true_and, Bool.and_self, AV.purge, AV.purges, AC.purge, AN.purge, List.contains_cons, List.contains_nil, Nat.reduceBEq, Bool.or_self, Bool.or_false, Bool.false_or, Bool.or_true, eT, iR, e0, e3, e4, e5, s6]
     refine ⟨by congr 3; omega, ?_⟩
     show AN.mrow _ _ ((((CY acc b (k + 1)).map BG).set (k + 1) (BG c)).set k (BG b)) = _
     rw [← List.map_set, ← List.map_set, Ni hc]
   | false =>
    repeat' with_reducible first | refine W ?_ | refine Z0 ?_ | ((first | refine Wo fun K hK => ?_ | refine Wp ?_ | refine Wq ?_ | refine Wr ?_); (try simp only [go_sem, fN, seval, eT, iR, e0, e3, e4, e5, s900, s6, hk0, hck, hcp, hz, hz0, hcl, hl1, hl2, hx, BG, dT, dF, nL]); (repeat refine Ai ?_); (try (refine hK _ ?_; clear hK K)); try refine iC ?_)
    refine AE ⟨l.length - (i + 1), by omega, i + 1, by omega, rfl, ?_⟩
    rw [hsnoc, hend fun d hd' _ => by
     rw [show k + 1 - 1 = k by omega, hc] at hd'
     cases hd'
     exact hx]
    simp only [go_sem, fN, seval, AS.drop, Ak, AC.clears, AC.clear, AC.highs, AC.high, Bool.not_false, Bool.true_and, Bool.and_self, AV.purge, AV.purges, AC.purge, AN.purge, List.contains_cons, List.contains_nil, Nat.reduceBEq, Bool.or_self, Bool.or_false, Bool.false_or, Bool.or_true, eT, iR, e0, e3, e4, s900, s6]
    congr 3
  ·repeat' with_reducible first | refine W ?_ | refine Z0 ?_ | ((first | refine Wo fun K hK => ?_ | refine Wp ?_ | refine Wq ?_ | refine Wr ?_); (try simp only [go_sem, fN, seval, eT, iR, e0, e3, e4, e5, s900, s6, hk0, dT, dF, nL]); (repeat refine Ai ?_); (try (refine hK _ ?_; clear hK K)); try refine iC ?_)
   refine AE ⟨l.length - (i + 1), by omega, i + 1, by omega, rfl, ?_⟩
   rw [hsnoc, hend fun d hd' h => by omega]
   simp only [go_sem, fN, seval, AS.drop, Ak, AC.clears, AC.clear, AC.highs, AC.high, Bool.not_false, Bool.true_and, Bool.and_self, AV.purge, AV.purges, AC.purge, AN.purge, List.contains_cons, List.contains_nil, Nat.reduceBEq, Bool.or_self, Bool.or_false, Bool.false_or, Bool.or_true, eT, iR, e0, e3, e4, s900, s6]
   congr 3
 ·refine IWP.ghost (Af.share (id := 900) s900) ?_
  repeat' with_reducible first | refine W ?_ | refine Z0 ?_ | ((first | refine Wo fun K hK => ?_ | refine Wp ?_ | refine Wq ?_ | refine Wr ?_); (try simp only [go_sem, fN, seval, eT, iR, e0, e3, e4, hlt, dT, dF, nL]); (repeat refine Ai ?_); (try (refine hK _ ?_; clear hK K)); try refine iC ?_)
  simp only [go_sem, fN, seval, AJ, AS.result, AA, AB, AH, hlen]
  rw [List.take_of_length_le (by omega)]

def FO : IR :=
 (.seq (.ops [.i 3 (.box 29 (.t 1)), .i 4 (.mov (.c (.one (.st (.bool false)))))]) (.seq (.seq (.ops [.f 7 0 3, .l 8 7, .m 9 0, .i 10 (.bin .eql (.t 8) (.t 9))]) (.cond (.t 10) (.seq (.ops [.i 4 (.mov (.c (.one (.st (.bool true)))))]) .ret) .skip)) (.seq (.seq (.ops [.f 11 1 3, .l 12 11, .i 13 (.len false (.t 12)), .i 14 (.mov (.n 0))]) (.block 0 (.loop (.seq (.ops [.i 15 (.bin .lss (.t 14) (.t 13))]) (.seq (.cond (.t 15) .skip (.exit 0)) (.seq (.block 1 (.seq (.ops [.i 16 (.indexAddr 2 (.t 12) (.t 14)), .L 17 2 16, .i 6 (.alloc 29 [.st (.str (ByteArray.mk (#[]))), .full []]), .s 2 6 17]) (.seq (.ops [.m 18 0, .L 19 2 6, .i 20 (.call 70 [.t 18, .t 19])]) (.cond (.t 20) (.seq (.ops [.i 4 (.mov (.c (.one (.st (.bool true)))))]) .ret) .skip)))) (.ops [.i 21 (.bin .add (.t 14) (.n 1)), .m 14 21]))))))) (.seq (.ops [.i 4 (.mov (.c (.one (.st (.bool false)))))]) .ret))))
theorem JH : OkF Tryz.prog 70 22 [] FO [.t 4] := .of Tryz.func70 rfl rfl (by kernel_rfl) rfl
def Fz : IR :=
 (.seq (.ops [.i 2 (.mov (.c (.one (.full [])))), .i 3 (.mov (.n 0))]) (.seq (.ops [.i 4 (.mov (.c (.one (.full []))))]) (.seq (.ops [.i 5 (.mov (.c (.one (.full []))))]) (.seq (.seq (.ops [.m 15 0, .i 16 (.len false (.t 15)), .i 17 (.bin .sub (.t 16) (.n 1)), .m 6 17]) (.block 0 (.loop (.seq (.seq (.ops [.m 18 6, .i 19 (.bin .geq (.t 18) (.n 0))]) (.cond (.t 19) .skip (.exit 0))) (.seq (.block 1 (.ops [.m 22 5, .m 23 0, .m 24 6, .i 25 (.indexAddr 4 (.t 23) (.t 24)), .L 26 4 25, .i 27 (.buildSlice false 31 4 [.t 26]), .i 28 (.appP 31 4 80 (.t 22) (.t 27)), .m 5 28])) (.ops [.m 20 6, .i 21 (.bin .sub (.t 20) (.n 1)), .m 6 21])))))) (.seq (.block 2 (.loop (.seq (.seq (.ops [.m 29 5, .i 30 (.len false (.t 29)), .i 31 (.bin .gtr (.t 30) (.n 0))]) (.cond (.t 31) .skip (.exit 2))) (.block 3 (.seq (.ops [.m 32 5, .m 33 5, .i 34 (.len false (.t 33)), .i 35 (.bin .sub (.t 34) (.n 1)), .i 36 (.indexP 4 (.t 32) (.t 35)), .L 37 4 36, .i 7 (.alloc 31 [.st (.str (ByteArray.mk (#[]))), .full [], .st (.str (ByteArray.mk (#[]))), .full []]), .s 4 7 37]) (.seq (.ops [.m 38 5, .m 39 5, .i 40 (.len false (.t 39)), .i 41 (.bin .sub (.t 40) (.n 1)), .i 42 (.cutP 4 (.t 38) (.t 41)), .m 5 42]) (.seq (.ops [.m 44 4, .f 45 0 7, .L 46 2 45, .i 47 (.callR 49 [.t 44, .t 46]), .m 43 47, .i 48 (.extract 0 (.t 43)), .i 49 (.extract 1 (.t 43)), .i 8 (.alloc 29 [.st (.str (ByteArray.mk (#[]))), .full []]), .s 2 8 48, .m 9 49]) (.seq (.ops [.m 51 4, .f 52 2 7, .L 53 2 52, .i 54 (.callR 49 [.t 51, .t 53]), .m 50 54, .i 55 (.extract 0 (.t 50)), .i 56 (.extract 1 (.t 50)), .i 10 (.alloc 29 [.st (.str (ByteArray.mk (#[]))), .full []]), .s 2 10 55, .m 11 56]) (.seq (.seq (.ops [.m 57 9, .i 58 (.un .not (.t 57)), .m 59 58, .mk (some 60) (some (59, false)) (.mov (.t 11)) .no, .mk (some 61) (some (59, false)) (.un .not (.t 60)) .no, .i 62 (.pick (.t 59) (.c (.one (.st (.bool true)))) (.t 61))]) (.cond (.t 62) (.seq (.ops [.i 2 (.mov (.c (.one (.full [])))), .i 3 (.mov (.n 8))]) .ret) .skip)) (.block 4 (.seq (.ops [.f 86 0 8, .l 87 86, .i 88 (.call 40 [.t 87]), .m 89 88, .mk (some 90) (some (89, true)) (.fieldAddr 0 (.t 8)) .no, .mk (some 91) (some (89, true)) (.load false 1 (.t 90)) .no, .mk (some 92) (some (89, true)) (.fieldAddr 0 (.t 10)) .no, .mk (some 93) (some (89, true)) (.load false 1 (.t 92)) .no, .mk (some 94) (some (89, true)) (.bin .eql (.t 91) (.t 93)) .no, .i 95 (.pick (.t 89) (.t 94) (.c (.one (.st (.bool false))))), .m 85 95]) (.cond (.t 85) .skip (.seq (.ops [.f 97 0 8, .l 98 97, .i 99 (.call 40 [.t 98]), .m 100 99, .mk (some 101) (some (100, false)) (.fieldAddr 0 (.t 10)) .no, .mk (some 102) (some (100, false)) (.load false 1 (.t 101)) .no, .mk (some 103) (some (100, false)) (.call 40 [.t 102]) .no, .i 104 (.pick (.t 100) (.c (.one (.st (.bool true)))) (.t 103)), .m 96 104]) (.cond (.t 96) (.seq (.seq (.ops [.f 105 0 8, .l 106 105, .i 107 (.call 40 [.t 106]), .i 108 (.un .not (.t 107))]) (.cond (.t 108) (.ops [.L 109 2 10, .L 110 2 8, .s 2 8 109, .s 2 10 110]) .skip)) (.seq (.seq (.ops [.f 111 0 8, .l 112 111, .L 113 2 10, .i 114 (.call 70 [.t 112, .t 113])]) (.cond (.t 114) (.seq (.ops [.i 2 (.mov (.c (.one (.full [])))), .i 3 (.mov (.n 6))]) .ret) .skip)) (.seq (.ops [.f 115 0 8, .l 116 115, .L 117 2 10, .i 118 (.build [.st (.str (ByteArray.mk (#[]))), .st (.str (ByteArray.mk (#[]))), .full []] [(0, 1, .t 116), (1, 2, .t 117)]), .i 119 (.buildSlice false 81 3 [.t 118]), .m 12 119]) (.seq (.seq (.ops [.m 120 4, .i 121 (.len false (.t 120)), .i 122 (.mov (.n 0))]) (.block 7 (.loop (.seq (.ops [.i 123 (.bin .lss (.t 122) (.t 121))]) (.seq (.cond (.t 123) .skip (.exit 7)) (.seq (.block 8 (.seq (.ops [.m 124 122, .m 13 124]) (.seq (.ops [.m 126 4, .m 127 13, .m 128 12, .m 129 4, .m 130 13, .i 131 (.indexAddr 3 (.t 129) (.t 130)), .f 132 1 131, .L 133 2 132, .i 134 (.call 49 [.t 128, .t 133]), .m 125 134, .i 135 (.extract 0 (.t 125)), .i 136 (.extract 1 (.t 125)), .i 137 (.indexAddr 3 (.t 126) (.t 127)), .f 138 1 137, .s 2 138 135, .m 9 136]) (.seq (.ops [.m 139 9, .i 140 (.un .not (.t 139))]) (.cond (.t 140) (.seq (.ops [.i 2 (.mov (.c (.one (.full [])))), .i 3 (.mov (.n 8))]) .ret) .skip))))) (.ops [.i 141 (.bin .add (.t 122) (.n 1)), .m 122 141]))))))) (.ops [.m 142 4, .m 143 12, .i 144 (.indexAddr 3 (.t 143) (.n 0)), .L 145 3 144, .i 146 (.buildSlice false 81 3 [.t 145]), .i 147 (.append false 81 3 56 (.t 142) (.t 146)), .i 148 (.callS 69 [.t 147]), .m 4 148]))))) (.seq (.ops [.f 150 0 8, .l 151 150, .f 152 0 10, .l 153 152, .i 154 (.bin .neq (.t 151) (.t 153)), .m 155 154, .mk (some 156) (some (155, false)) (.fieldAddr 1 (.t 8)) .no, .mk (some 157) (some (155, false)) (.load false 1 (.t 156)) .no, .mk (some 158) (some (155, false)) (.len false (.t 157)) .no, .mk (some 159) (some (155, false)) (.fieldAddr 1 (.t 10)) .no, .mk (some 160) (some (155, false)) (.load false 1 (.t 159)) .no, .mk (some 161) (some (155, false)) (.len false (.t 160)) .no, .mk (some 162) (some (155, false)) (.bin .neq (.t 158) (.t 161)) .no, .i 163 (.pick (.t 155) (.c (.one (.st (.bool true)))) (.t 162)), .m 149 163]) (.cond (.t 149) (.seq (.ops [.i 2 (.mov (.c (.one (.full [])))), .i 3 (.mov (.n 5))]) .ret) (.seq (.ops [.f 63 1 8, .l 64 63, .i 65 (.len false (.t 64)), .i 66 (.bin .sub (.t 65) (.n 1)), .m 14 66]) (.block 5 (.loop (.seq (.seq (.ops [.m 67 14, .i 68 (.bin .geq (.t 67) (.n 0))]) (.cond (.t 68) .skip (.exit 5))) (.seq (.block 6 (.ops [.m 71 5, .f 72 1 8, .l 73 72, .m 74 14, .i 75 (.indexAddr 2 (.t 73) (.t 74)), .L 76 2 75, .f 77 1 10, .l 78 77, .m 79 14, .i 80 (.indexAddr 2 (.t 78) (.t 79)), .L 81 2 80, .i 82 (.build [.st (.str (ByteArray.mk (#[]))), .full [], .st (.str (ByteArray.mk (#[]))), .full []] [(0, 2, .t 76), (2, 2, .t 81)]), .i 83 (.buildSlice false 31 4 [.t 82]), .i 84 (.appP 31 4 80 (.t 71) (.t 83)), .m 5 84])) (.ops [.m 69 14, .i 70 (.bin .sub (.t 69) (.n 1)), .m 14 70])))))))))))))))))))))) (.seq (.ops [.m 164 4, .m 2 164, .i 3 (.mov (.n 0))]) .ret))))))
theorem Kt : OkF Tryz.prog 48 165 [30000028, 30000036, 30000042, 30000084, 40000047, 40000054, 148] Fz [.t 2, .t 3] := .of Tryz.func48 rfl rfl (by kernel_rfl) rfl
def HZ : IR :=
 (.seq (.ops [.i 2 (.mov (.c (.one (.full [])))), .i 3 (.mov (.n 0))]) (.seq (.ops [.i 4 (.mov (.c (.one (.full []))))]) (.seq (.block 0 (.loop (.seq (.seq (.ops [.m 15 0, .i 16 (.len false (.t 15)), .i 17 (.bin .gtr (.t 16) (.n 0))]) (.cond (.t 17) .skip (.exit 0))) (.block 1 (.seq (.ops [.m 19 4, .m 20 0, .i 21 (.indexAddr 4 (.t 20) (.n 0)), .f 22 0 21, .L 23 2 22, .i 24 (.call 35 [.t 19, .t 23]), .m 18 24, .i 25 (.extract 0 (.t 18)), .i 26 (.extract 1 (.t 18)), .i 5 (.alloc 29 [.st (.str (ByteArray.mk (#[]))), .full []]), .s 2 5 25, .m 6 26]) (.seq (.seq (.ops [.m 27 6, .i 28 (.un .not (.t 27))]) (.cond (.t 28) (.seq (.ops [.i 2 (.mov (.c (.one (.full [])))), .i 3 (.mov (.n 8))]) .ret) .skip)) (.seq (.ops [.m 30 4, .m 31 0, .i 32 (.indexAddr 4 (.t 31) (.n 0)), .f 33 2 32, .L 34 2 33, .i 35 (.call 35 [.t 30, .t 34]), .m 29 35, .i 36 (.extract 0 (.t 29)), .i 37 (.extract 1 (.t 29)), .i 7 (.alloc 29 [.st (.str (ByteArray.mk (#[]))), .full []]), .s 2 7 36, .m 6 37]) (.seq (.seq (.ops [.m 38 6, .i 39 (.un .not (.t 38))]) (.cond (.t 39) (.seq (.ops [.i 2 (.mov (.c (.one (.full [])))), .i 3 (.mov (.n 8))]) .ret) .skip)) (.seq (.ops [.m 40 0, .i 41 (.sliceL 4 (.t 40) (some (.n 1)) none), .m 0 41]) (.seq (.seq (.ops [.f 42 0 5, .l 43 42, .i 44 (.call 18 [.t 43]), .m 45 44, .mk (some 46) (some (45, true)) (.fieldAddr 0 (.t 5)) .no, .mk (some 47) (some (45, true)) (.load false 1 (.t 46)) .no, .mk (some 48) (some (45, true)) (.fieldAddr 0 (.t 7)) .no, .mk (some 49) (some (45, true)) (.load false 1 (.t 48)) .no, .mk (some 50) (some (45, true)) (.bin .eql (.t 47) (.t 49)) .no, .i 51 (.pick (.t 45) (.t 50) (.c (.one (.st (.bool false)))))]) (.cond (.t 51) (.exit 1) .skip)) (.seq (.seq (.ops [.f 52 0 5, .l 53 52, .i 54 (.call 18 [.t 53]), .i 55 (.un .not (.t 54)), .m 56 55, .mk (some 57) (some (56, true)) (.fieldAddr 0 (.t 7)) .no, .mk (some 58) (some (56, true)) (.load false 1 (.t 57)) .no, .mk (some 59) (some (56, true)) (.call 18 [.t 58]) .no, .i 60 (.pick (.t 56) (.t 59) (.c (.one (.st (.bool false)))))]) (.cond (.t 60) (.ops [.L 61 2 7, .L 62 2 5, .s 2 5 61, .s 2 7 62]) .skip)) (.seq (.seq (.ops [.f 63 0 5, .l 64 63, .i 65 (.call 18 [.t 64])]) (.cond (.t 65) (.seq (.seq (.ops [.f 66 0 5, .l 67 66, .L 68 2 7, .i 69 (.call 19 [.t 68]), .i 70 (.call 20 [.t 67, .t 69])]) (.cond (.t 70) (.seq (.ops [.i 2 (.mov (.c (.one (.full [])))), .i 3 (.mov (.n 6))]) .ret) .skip)) (.seq (.ops [.f 71 0 5, .l 72 71, .L 73 2 7, .i 74 (.build [.st (.str (ByteArray.mk (#[]))), .st (.str (ByteArray.mk (#[]))), .full []] [(0, 1, .t 72), (1, 2, .t 73)]), .i 75 (.buildSlice false 81 3 [.t 74]), .m 8 75]) (.seq (.ops [.i 9 (.mov (.c (.one (.full []))))]) (.seq (.seq (.ops [.i 10 (.mov (.n 0))]) (.block 2 (.loop (.seq (.seq (.ops [.m 76 10, .m 77 4, .i 78 (.len false (.t 77)), .i 79 (.bin .lss (.t 76) (.t 78))]) (.cond (.t 79) .skip (.exit 2))) (.seq (.block 3 (.seq (.ops [.m 83 8, .m 84 4, .m 85 10, .i 86 (.indexAddr 3 (.t 84) (.t 85)), .f 87 1 86, .L 88 2 87, .i 89 (.call 35 [.t 83, .t 88]), .m 82 89, .i 90 (.extract 0 (.t 82)), .i 91 (.extract 1 (.t 82)), .i 11 (.alloc 29 [.st (.str (ByteArray.mk (#[]))), .full []]), .s 2 11 90, .m 12 91]) (.seq (.seq (.ops [.m 92 12, .i 93 (.un .not (.t 92))]) (.cond (.t 93) (.seq (.ops [.i 2 (.mov (.c (.one (.full [])))), .i 3 (.mov (.n 8))]) .ret) .skip)) (.ops [.m 94 9, .m 95 4, .m 96 10, .i 97 (.indexAddr 3 (.t 95) (.t 96)), .f 98 0 97, .l 99 98, .L 100 2 11, .i 101 (.build [.st (.str (ByteArray.mk (#[]))), .st (.str (ByteArray.mk (#[]))), .full []] [(0, 1, .t 99), (1, 2, .t 100)]), .i 102 (.buildSlice false 81 3 [.t 101]), .i 103 (.append false 81 3 56 (.t 94) (.t 102)), .m 9 103])))) (.ops [.m 80 10, .i 81 (.bin .add (.t 80) (.n 1)), .m 10 81])))))) (.seq (.ops [.m 104 9, .m 105 8, .i 106 (.indexAddr 3 (.t 105) (.n 0)), .L 107 3 106, .i 108 (.buildSlice false 81 3 [.t 107]), .i 109 (.append false 81 3 56 (.t 104) (.t 108)), .i 110 (.call 60 [.t 109]), .m 4 110]) (.exit 1)))))) .skip)) (.seq (.seq (.ops [.f 111 0 5, .l 112 111, .f 113 0 7, .l 114 113, .i 115 (.bin .neq (.t 112) (.t 114)), .m 116 115, .mk (some 117) (some (116, false)) (.fieldAddr 1 (.t 5)) .no, .mk (some 118) (some (116, false)) (.load false 1 (.t 117)) .no, .mk (some 119) (some (116, false)) (.len false (.t 118)) .no, .mk (some 120) (some (116, false)) (.fieldAddr 1 (.t 7)) .no, .mk (some 121) (some (116, false)) (.load false 1 (.t 120)) .no, .mk (some 122) (some (116, false)) (.len false (.t 121)) .no, .mk (some 123) (some (116, false)) (.bin .neq (.t 119) (.t 122)) .no, .i 124 (.pick (.t 116) (.c (.one (.st (.bool true)))) (.t 123))]) (.cond (.t 124) (.seq (.ops [.i 2 (.mov (.c (.one (.full [])))), .i 3 (.mov (.n 5))]) .ret) .skip)) (.seq (.ops [.i 13 (.mov (.c (.one (.full []))))]) (.seq (.seq (.ops [.i 14 (.mov (.n 0))]) (.block 4 (.loop (.seq (.seq (.ops [.m 125 14, .f 126 1 5, .l 127 126, .i 128 (.len false (.t 127)), .i 129 (.bin .lss (.t 125) (.t 128))]) (.cond (.t 129) .skip (.exit 4))) (.seq (.block 5 (.ops [.m 132 13, .f 133 1 5, .l 134 133, .m 135 14, .i 136 (.indexAddr 2 (.t 134) (.t 135)), .L 137 2 136, .f 138 1 7, .l 139 138, .m 140 14, .i 141 (.indexAddr 2 (.t 139) (.t 140)), .L 142 2 141, .i 143 (.build [.st (.str (ByteArray.mk (#[]))), .full [], .st (.str (ByteArray.mk (#[]))), .full []] [(0, 2, .t 137), (2, 2, .t 142)]), .i 144 (.buildSlice false 31 4 [.t 143]), .i 145 (.append false 31 4 80 (.t 132) (.t 144)), .m 13 145])) (.ops [.m 130 14, .i 131 (.bin .add (.t 130) (.n 1)), .m 14 131])))))) (.ops [.m 146 13, .m 147 0, .i 148 (.append false 31 4 80 (.t 146) (.t 147)), .m 0 148])))))))))))))))) (.seq (.ops [.m 149 4, .m 2 149, .i 3 (.mov (.n 0))]) .ret))))
theorem NH : OkF Tryz.prog 34 150 [] HZ [.t 2, .t 3] := .of Tryz.func34 rfl rfl (by kernel_rfl) rfl

def Fq : IR :=
 (.seq (.ops [.i 2 (.mov (.c (.one (.st (.bool false)))))]) (.seq (.seq (.ops [.i 3 (.mov (.n 0))]) (.block 0 (.loop (.seq (.seq (.ops [.m 4 3, .m 5 0, .i 6 (.len false (.t 5)), .i 7 (.bin .lss (.t 4) (.t 6))]) (.cond (.t 7) .skip (.exit 0))) (.seq (.block 1 (.seq (.ops [.m 10 0, .m 11 3, .i 12 (.indexAddr 4 (.t 10) (.t 11)), .f 13 0 12, .L 14 2 13, .i 15 (.call 16 [.t 14]), .m 16 15, .mk (some 17) (some (16, false)) (.mov (.t 0)) .no, .mk (some 18) (some (16, false)) (.mov (.t 3)) .no, .mk (some 19) (some (16, false)) (.indexAddr 4 (.t 17) (.t 18)) .no, .mk (some 20) (some (16, false)) (.fieldAddr 2 (.t 19)) .no, .mk (some 21) (some (16, false)) (.load true 2 (.t 20)) .no, .mk (some 22) (some (16, false)) (.call 16 [.t 21]) .no, .i 23 (.pick (.t 16) (.c (.one (.st (.bool true)))) (.t 22))]) (.cond (.t 23) (.seq (.ops [.i 2 (.mov (.c (.one (.st (.bool true)))))]) .ret) .skip))) (.ops [.m 8 3, .i 9 (.bin .add (.t 8) (.n 1)), .m 3 9])))))) (.seq (.ops [.m 24 0, .i 25 (.len false (.t 24)), .i 26 (.bin .gtr (.t 25) (.n 100)), .m 2 26]) .ret)))
theorem KG : OkF Tryz.prog 5 27 [] Fq [.t 2] := .of Tryz.func5 rfl rfl (by kernel_rfl) rfl

def J9 (l : List Pr) : Bool := l.any (fun p => decide (3000 < p.1.size) || decide (3000 < p.2.size)) || decide (100 < l.length)
theorem Db (l : List Pr) : AQ Tryz.prog 5 [BF l] (Ab (J9 l)) := by
 refine KG.ac fun C hC => ?_
 unfold Fq
 refine IWP.learn 0 (by omega) fun hkn => ?_
 have hkn := Dt hkn
 rw [List.length_map] at hkn
 repeat' with_reducible first | refine W ?_ | refine Z0 ?_ | ((first | refine Wo fun K hK => ?_ | refine Wp ?_ | refine Wq ?_ | refine Wr ?_); (try simp only [go_sem, fN, seval, eT, iR, dT, dF, nL]); (repeat refine Ai ?_); (try (refine hK _ ?_; clear hK K)); try refine iC ?_)
 refine IWP.loop (fun m s => ∃ k, k ≤ l.length ∧ m = l.length - k ∧ (l.take k).any (fun p => decide (3000 < p.1.size) || decide (3000 < p.2.size)) = false ∧ s.env 0 = BF l ∧ s.env 3 = AK k) l.length ⟨0, Nat.zero_le _, rfl, rfl, rfl, rfl⟩ ?_
 rintro m ⟨env, S⟩ ⟨k, hk, rfl, h0, e0, e3⟩
 simp only at e0 e3
 by_cases hlt : (k : Int) < l.length
 ·obtain ⟨p, hp⟩ := AT (show k < l.length by omega)
  repeat' with_reducible first | refine W ?_ | refine Z0 ?_ | ((first | refine Wo fun K hK => ?_ | refine Wp ?_ | refine Wq ?_ | refine Wr ?_); (try simp only [go_sem, fN, seval, eT, iR, e0, e3, hlt, hp, At, dT, dF, nL]); (repeat refine Ai ?_); (try (refine hK _ ?_; clear hK K)); try refine iC ?_)
  refine ⟨_, Uc p.1, ?_⟩
  by_cases hz : 3000 < p.1.size
  ·repeat' with_reducible first | refine W ?_ | refine Z0 ?_ | ((first | refine Wo fun K hK => ?_ | refine Wp ?_ | refine Wq ?_ | refine Wr ?_); (try simp only [go_sem, fN, seval, eT, iR, hz, dT, dF, nL]); (repeat refine Ai ?_); (try (refine hK _ ?_; clear hK K)); try refine iC ?_)
   simp only [go_sem, fN, seval, AJ, AS.result, AA, AB, AH]
   have : l.any (fun p => decide (3000 < p.1.size) || decide (3000 < p.2.size)) = true := List.any_eq_true.2 ⟨p, AI hp, by simp [hz]⟩
   unfold J9
   rw [this]
   rfl
  ·repeat' with_reducible first | refine W ?_ | refine Z0 ?_ | ((first | refine Wo fun K hK => ?_ | refine Wp ?_ | refine Wq ?_ | refine Wr ?_); (try simp only [go_sem, fN, seval, eT, iR, hz, e0, e3, hp, At, dT, dF, nL]); (repeat refine Ai ?_); (try (refine hK _ ?_; clear hK K)); try refine iC ?_)
   refine ⟨_, Uc p.2, ?_⟩
   by_cases hy : 3000 < p.2.size
   ·repeat' with_reducible first | refine W ?_ | refine Z0 ?_ | ((first | refine Wo fun K hK => ?_ | refine Wp ?_ | refine Wq ?_ | refine Wr ?_); (try simp only [go_sem, fN, seval, eT, iR, hy, dT, dF, nL]); (repeat refine Ai ?_); (try (refine hK _ ?_; clear hK K)); try refine iC ?_)
    simp only [go_sem, fN, seval, AJ, AS.result, AA, AB, AH]
    have : l.any (fun p => decide (3000 < p.1.size) || decide (3000 < p.2.size)) = true := List.any_eq_true.2 ⟨p, AI hp, by simp [hy]⟩
    unfold J9
    rw [this]
    rfl
   ·repeat' with_reducible first | refine W ?_ | refine Z0 ?_ | ((first | refine Wo fun K hK => ?_ | refine Wp ?_ | refine Wq ?_ | refine Wr ?_); (try simp only [go_sem, fN, seval, eT, iR, hy, e0, e3, dT, dF, nL]); (repeat refine Ai ?_); (try (refine hK _ ?_; clear hK K)); try refine iC ?_)
    refine AE ⟨l.length - (k + 1), by omega, k + 1, by omega, rfl, ?_, ?_⟩
    ·rw [AY hp, List.any_append, h0]
     simp [hz, hy]
    ·simp only [go_sem, fN, seval, eT, iR, e0, e3]
     congr 3
 ·repeat' with_reducible first | refine W ?_ | refine Z0 ?_ | ((first | refine Wo fun K hK => ?_ | refine Wp ?_ | refine Wq ?_ | refine Wr ?_); (try simp only [go_sem, fN, seval, eT, iR, e0, e3, hlt, dT, dF, nL]); (repeat refine Ai ?_); (try (refine hK _ ?_; clear hK K)); try refine iC ?_)
  simp only [go_sem, fN, seval, AJ, AS.result, AA, AB, AH]
  rw [List.take_of_length_le (by omega)] at h0
  unfold J9
  rw [h0, Bool.false_or]
  congr 4
  simp
  omega

theorem Uv (x : ByteArray) (t : Tm) : AQ Tryz.prog 70 [Bi x, aTm t] (Ab (occ x t)) := by
 induction h : SizeOf.sizeOf t using Nat.strongRecOn generalizing t with
 | _ N ih =>
 subst h
 rw [J0]
 refine JH.ac fun C hC => ?_
 unfold FO
 refine IWP.learn 1 (by omega) fun hkn => ?_
 have hkn := Ei hkn
 by_cases hn : t.name = x
 ·repeat' with_reducible first | refine W ?_ | refine Z0 ?_ | ((first | refine Wo fun K hK => ?_ | refine Wp ?_ | refine Wq ?_ | refine Wr ?_); (try simp only [go_sem, fN, seval, eT, iR, hn, dT, dF, nL]); (repeat refine Ai ?_); (try (refine hK _ ?_; clear hK K)); try refine iC ?_)
  simp only [go_sem, fN, seval, AJ, AS.result, AA, AB, AH]
  rw [Bool.true_or]
 rw [decide_eq_false hn, Bool.false_or]
 repeat' with_reducible first | refine W ?_ | refine Z0 ?_ | ((first | refine Wo fun K hK => ?_ | refine Wp ?_ | refine Wq ?_ | refine Wr ?_); (try simp only [go_sem, fN, seval, eT, iR, hn, dT, dF, nL]); (repeat refine Ai ?_); (try (refine hK _ ?_; clear hK K)); try refine iC ?_)
 refine IWP.loopD [6] (fun m s => ∃ k, k ≤ t.args.length ∧ m = t.args.length - k ∧ (t.args.take k).any (occ x) = false ∧ s.env 0 = Bi x ∧ s.env 12 = .one (.st (.list (t.args.map Ap))) ∧ s.env 13 = AK t.args.length ∧ s.env 14 = AK k ∧ s.S 6 = none) t.args.length ⟨0, Nat.zero_le _, rfl, rfl, rfl, rfl, rfl, rfl, rfl⟩ ?_
 rintro m ⟨env, S⟩ ⟨k, hk, rfl, h0, e0, e12, e13, e14, s6⟩
 simp only at e0 e12 e13 e14 s6
 by_cases hlt : (k : Int) < t.args.length
 ·obtain ⟨a, ha⟩ := AT (show k < t.args.length by omega)
  repeat' with_reducible first | refine W ?_ | refine Z0 ?_ | ((first | refine Wo fun K hK => ?_ | refine Wp ?_ | refine Wq ?_ | refine Wr ?_); (try simp only [go_sem, fN, seval, eT, iR, e0, e12, e13, e14, s6, hlt, ha, dT, dF, nL]); (repeat refine Ai ?_); (try (refine hK _ ?_; clear hK K)); try refine iC ?_)
  refine ⟨_, ih _ (Tm.lt_of_arg (AI ha)) a rfl, ?_⟩
  cases hc : occ x a with
  | true =>
   repeat' with_reducible first | refine W ?_ | refine Z0 ?_ | ((first | refine Wo fun K hK => ?_ | refine Wp ?_ | refine Wq ?_ | refine Wr ?_); (try simp only [go_sem, fN, seval, eT, iR, hc, dT, dF, nL]); (repeat refine Ai ?_); (try (refine hK _ ?_; clear hK K)); try refine iC ?_)
   simp only [go_sem, fN, seval, AJ, AS.result, AA, AB, AH]
   have : t.args.any (occ x) = true := List.any_eq_true.2 ⟨a, AI ha, hc⟩
   rw [this]
  | false =>
   repeat' with_reducible first | refine W ?_ | refine Z0 ?_ | ((first | refine Wo fun K hK => ?_ | refine Wp ?_ | refine Wq ?_ | refine Wr ?_); (try simp only [go_sem, fN, seval, eT, iR, hc, e0, e12, e13, e14, s6, dT, dF, nL]); (repeat refine Ai ?_); (try (refine hK _ ?_; clear hK K)); try refine iC ?_)
   refine AE ⟨t.args.length - (k + 1), by omega, k + 1, by omega, rfl, by rw [AY ha, List.any_append, h0]; simp [hc], ?_⟩
   simp only [go_sem, fN, seval, AS.drop, Ak, AC.clears, AC.clear, AC.highs, AC.high, Bool.not_false, Bool.true_and, Bool.and_self, AV.purge, AV.purges, AC.purge, AN.purge, List.contains_cons, List.contains_nil, Nat.reduceBEq, Bool.or_self, Bool.or_false, Bool.false_or, Bool.or_true, eT, iR, e0, e12, e13, e14, s6]
   congr 3
 ·repeat' with_reducible first | refine W ?_ | refine Z0 ?_ | ((first | refine Wo fun K hK => ?_ | refine Wp ?_ | refine Wq ?_ | refine Wr ?_); (try simp only [go_sem, fN, seval, eT, iR, e0, e12, e13, e14, s6, hlt, dT, dF, nL]); (repeat refine Ai ?_); (try (refine hK _ ?_; clear hK K)); try refine iC ?_)
  simp only [go_sem, fN, seval, AJ, AS.result, AA, AB, AH]
  rw [List.take_of_length_le (by omega)] at h0
  rw [h0]
def Fp : List Pr → Int
 | [] => 0
 | p :: l => if Bu p.1 p.2 = 0 then Fp l else Bu p.1 p.2
def C_ (l : List Pr) : Int := if 40 < l.length then 3 else Fp l
theorem LG {l : List Pr} (h : C_ l = 0) : l.length ≤ 40 ∧ ∀ p ∈ l, p.1.may = 0 ∧ p.2.may = 0 := by
 unfold C_ at h
 split at h
 ·cases h
 ·refine ⟨by omega, ?_⟩
  have key : ∀ {l : List Pr}, Fp l = 0 → ∀ p ∈ l, p.1.may = 0 ∧ p.2.may = 0 := by
   intro l
   induction l with
   | nil => simp
   | cons p l ih =>
    intro h q hq
    simp only [Fp] at h
    split at h
    ·rename_i h2
     rcases List.mem_cons.1 hq with rfl | hq
     ·unfold Bu at h2
      split at h2
      ·exact ⟨by assumption, h2⟩
      ·rename_i h3; exact absurd h2 h3
     ·exact ih h q hq
    ·rename_i h2; exact absurd h h2
  exact key h

theorem MG {m : Nat} {s : List Bd} {p : Pr} {l : List Pr} {r : List Bd × Int} (h : Ck m s (p :: l) r) : (∃ e, BZ s p = .err e ∧ r = ([], e)) ∨ ∃ s' ps n, BZ s p = .go s' ps ∧ n < m ∧ Ck n s' (ps ++ l) r := by
 cases h with
 | err h => exact .inl ⟨_, h, rfl⟩
 | go h1 h2 => exact .inr ⟨_, _, _, h1, by omega, h2⟩
structure LB (U : List ByteArray) (s : List Bd) (t : Tm) : Prop where
 chk : t.chk = 0
 siz : t.size ≤ 2000
 free : I8 s t
 inU : ∀ y, occ y t = true → y ∈ U
abbrev LE (t : Tm) : AN := .box 29 [.st (.str t.name), .st (.list (t.args.map Ap))]
def Hw (U : List ByteArray) (s : List Bd) (p : Pr) (u t : Tm) : Prop := LB U s u ∧ LB U s t ∧
 ((AL u.name = true ∧ BZ s p = B5 s u.name t) ∨ (AL u.name = false ∧ BZ s p = if u.name = t.name ∧ u.args.length = t.args.length then .go s (u.args.zip t.args) else .err 5))
theorem Kg {U : List ByteArray} {s : List Bd} {p : Pr} (ha : LB U s (p.1.on s)) (hb : LB U s (p.2.on s)) (hne : ¬ (AL (p.1.on s).name = true ∧ (p.1.on s).name = (p.2.on s).name)) (hv : AL (p.1.on s).name = true ∨ AL (p.2.on s).name = false) : Hw U s p (p.1.on s) (p.2.on s) := by
 have h0 : ¬ (2000 < (p.1.on s).size ∨ 2000 < (p.2.on s).size) := by have := ha.siz; have := hb.siz; omega
 refine ⟨ha, hb, ?_⟩
 cases h1 : AL (p.1.on s).name with
 | true =>
  refine .inl ⟨rfl, ?_⟩
  unfold BZ
  rw [if_neg h0, if_neg hne, if_pos h1]
 | false =>
  have h2 : AL (p.2.on s).name = false := hv.resolve_left (by rw [h1]; simp)
  refine .inr ⟨rfl, ?_⟩
  unfold BZ
  rw [if_neg h0, if_neg hne, if_neg (by rw [h1]; simp), if_neg (by rw [h2]; simp)]
theorem O9 {U : List ByteArray} {s : List Bd} {p : Pr} (ha : LB U s (p.1.on s)) (hb : LB U s (p.2.on s)) (h1 : AL (p.1.on s).name = false) (h2 : AL (p.2.on s).name = true) : Hw U s p (p.2.on s) (p.1.on s) := by
 have h0 : ¬ (2000 < (p.1.on s).size ∨ 2000 < (p.2.on s).size) := by have := ha.siz; have := hb.siz; omega
 refine ⟨hb, ha, .inl ⟨h2, ?_⟩⟩
 unfold BZ
 rw [if_neg h0, if_neg (by rw [h1]; simp), if_neg (by rw [h1]; simp), if_pos h2]
theorem Ri (U : List ByteArray) (hU : U.length ≤ 20000) (C0 : Nat) (hC0 : C0 ≤ 100000000000) (n : Nat) (l : List Pr) (r : List Bd × Int) (hr : Ck n [] l r) (hg : B6 U C0 [] l) : AQ Tryz.prog 34 [BF l] (.tup [Dc r.1, AK r.2]) := by
 refine NH.ac fun C hC => ?_
 unfold HZ
 repeat' with_reducible first | refine W ?_ | refine Z0 ?_ | ((first | refine Wo fun K hK => ?_ | refine Wp ?_ | refine Wq ?_ | refine Wr ?_); (try simp only [go_sem, fN, seval, eT, iR, dT, dF, nL]); (repeat refine Ai ?_); (try (refine hK _ ?_; clear hK K)); try refine iC ?_)
 refine IWP.loop (fun m x => ∃ s l, Ck m s l r ∧ B6 U C0 s l ∧ outV x.S (x.env 0) = some (BF l) ∧ outV x.S (x.env 4) = some (Dc s) ∧ ∀ i, 1000 ≤ i → x.S i = none) n ⟨[], l, hr, hg, rfl, rfl, fun _ _ => rfl⟩ ?_
 rintro m ⟨env0, S0⟩ ⟨s, l, hr, hg, o0, o4, h1000⟩
 refine IWP.ghost (Af.settle 0 o0) ?_
 refine IWP.ghost (Af.settle 4 (v := Dc s) o4) ?_
 refine IWP.fresh h1000 fun env henv => ?_
 have e0 : env 0 = BF l := henv 0 _ rfl
 have e4 : env 4 = Dc s := henv 4 _ rfl
 clear henv o0 o4 h1000 env0 S0
 cases l with
 | nil =>
  cases hr
  repeat' with_reducible first | refine W ?_ | refine Z0 ?_ | ((first | refine Wo fun K hK => ?_ | refine Wp ?_ | refine Wq ?_ | refine Wr ?_); (try simp only [go_sem, fN, seval, eT, iR, e0, e4, dT, dF, nL]); (repeat refine Ai ?_); (try (refine hK _ ?_; clear hK K)); try refine iC ?_)
  simp only [go_sem, fN, seval, AJ, AS.result, AA, AB, AH]
 | cons p l =>
  have hinv := MG hr
  obtain ⟨hc1, hc2⟩ := hg.lchk p (by simp)
  have hUp := hg.lU p (by simp)
  obtain ⟨hz1, hz2⟩ := hg.lsiz p (by simp)
  obtain ⟨a1, a2, a3⟩ := onU hg hc1 fun y => (hUp y).1
  obtain ⟨b1, b2, b3⟩ := onU hg hc2 fun y => (hUp y).2
  have hl0 : (0 : Int) < ((l.length + 1 : Nat) : Int) := by omega
  by_cases ha : (p.1.on s).size ≤ 2000
  case neg =>
   have he : Aq s p.1 = (Tm.nil, false) := by unfold Aq; rw [if_neg ha]
   have hst : BZ s p = .err 8 := by unfold BZ; rw [if_pos (by omega)]
   repeat' (first | (with_reducible first | refine W ?_ | refine Z0 ?_ | ((first | refine Wo fun K hK => ?_ | refine Wp ?_ | refine Wq ?_ | refine Wr ?_); (try simp only [go_sem, fN, seval, eT, iR, e0, e4, hl0, At, he, dT, dF, nL]); (repeat refine Ai ?_); (try (refine hK _ ?_; clear hK K)); try refine iC ?_)) | refine Cg _ (Dr s p.1 (by omega)) ?_)
   simp only [go_sem, fN, seval, AJ, AS.result, AA, AB, AH]
   rcases hinv with ⟨e, h1, rfl⟩ | ⟨s', ps, q, h1, _⟩
   ·rw [hst] at h1
    cases h1
    rfl
   ·rw [hst] at h1
    cases h1
  by_cases hb : (p.2.on s).size ≤ 2000
  case neg =>
   have he : Aq s p.1 = (p.1.on s, true) := by unfold Aq; rw [if_pos ha]
   have he2 : Aq s p.2 = (Tm.nil, false) := by unfold Aq; rw [if_neg hb]
   have hst : BZ s p = .err 8 := by unfold BZ; rw [if_pos (by omega)]
   repeat' (first | (with_reducible first | refine W ?_ | refine Z0 ?_ | ((first | refine Wo fun K hK => ?_ | refine Wp ?_ | refine Wq ?_ | refine Wr ?_); (try simp only [go_sem, fN, seval, eT, iR, e0, e4, hl0, At, he, he2, dT, dF, nL]); (repeat refine Ai ?_); (try (refine hK _ ?_; clear hK K)); try refine iC ?_)) | refine Cg _ (Dr s p.1 (by omega)) ?_ | refine Cg _ (Dr s p.2 (by omega)) ?_)
   simp only [go_sem, fN, seval, AJ, AS.result, AA, AB, AH]
   rcases hinv with ⟨e, h1, rfl⟩ | ⟨s', ps, q, h1, _⟩
   ·rw [hst] at h1
    cases h1
    rfl
   ·rw [hst] at h1
    cases h1
  have he : Aq s p.1 = (p.1.on s, true) := by unfold Aq; rw [if_pos ha]
  have he2 : Aq s p.2 = (p.2.on s, true) := by unfold Aq; rw [if_pos hb]
  have htk : List.take l.length (List.map At l) = l.map At := List.take_of_length_le (by simp)
  have hta : LB U s (p.1.on s) := ⟨a1, ha, a2, a3⟩
  have htb : LB U s (p.2.on s) := ⟨b1, hb, b2, b3⟩
  repeat' (first | (with_reducible first | refine W ?_ | refine Z0 ?_ | ((first | refine Wo fun K hK => ?_ | refine Wp ?_ | refine Wq ?_ | refine Wr ?_); (try simp only [go_sem, fN, seval, eT, iR, e0, e4, hl0, At, he, he2, dT, dF, nL]); (repeat refine Ai ?_); (try (refine hK _ ?_; clear hK K)); try refine iC ?_)) | refine Cg _ (Dr s p.1 (by omega)) ?_ | refine Cg _ (Dr s p.2 (by omega)) ?_)
  refine ⟨_, Ba _, ?_⟩
  by_cases hsame : AL (p.1.on s).name = true ∧ (p.1.on s).name = (p.2.on s).name
  ·have hst : BZ s p = .go s [] := by unfold BZ; rw [if_neg (by omega), if_pos hsame]
   have hsv : AL (p.2.on s).name = true := by rw [← hsame.2]; exact hsame.1
   repeat' with_reducible first | refine W ?_ | refine Z0 ?_ | ((first | refine Wo fun K hK => ?_ | refine Wp ?_ | refine Wq ?_ | refine Wr ?_); (try simp only [go_sem, fN, seval, eT, iR, hsame.1, hsv, hsame.2, e0, e4, dT, dF, nL]); (repeat refine Ai ?_); (try (refine hK _ ?_; clear hK K)); try refine iC ?_)
   rcases hinv with ⟨e, h1, _⟩ | ⟨s', ps, q, h1, h2, h3⟩
   ·rw [hst] at h1
    cases h1
   rw [hst] at h1
   cases h1
   refine AE ⟨q, h2, s, l, h3, hg.tail, ?_, ?_, fun i hi => ?_⟩
   ·simp only [go_sem, fN, seval, eT, iR, htk]
   ·simp only [go_sem, fN, seval, eT, iR, e4]
   ·have i5 : ¬ i = 5 := by omega
    have i7 : ¬ i = 7 := by omega
    simp only [go_sem, fN, seval, eT, iR, i5, i7]
  apply Wv
  ·intro rest
   cases hv : AL (p.1.on s).name with
   | true =>
    have hne : ¬ (p.1.on s).name = (p.2.on s).name := fun h => hsame ⟨hv, h⟩
    repeat' with_reducible first | refine W ?_ | refine Z0 ?_ | ((first | refine Wo fun K hK => ?_ | refine Wq ?_ | refine Wr ?_); (try simp only [go_sem, fN, seval, eT, iR, hv, hne]); (repeat refine Ai ?_); (try (refine hK _ ?_; skip)))
    with_reducible refine Wp ?_
    simp only [go_sem, fN, seval, true_implies, false_implies, implies_true, dT, dF, nL]
    (try with_reducible refine iC ?_)
    refine Wd ?_
    refine Wb ?_
    refine IWP.mid (fun x => ∃ u t, Hw U s p u t ∧ x.env 0 = BF l ∧ x.env 4 = Dc s ∧ x.env 5 = .one (.ptr 5 1 0 0) ∧ x.env 7 = .one (.ptr 7 1 0 0) ∧ x.S 5 = some (LE u) ∧ x.S 7 = some (LE t) ∧ ∀ i, i ≠ 5 → i ≠ 7 → x.S i = none) ?_ rest
    repeat' with_reducible first | refine W ?_ | refine Z0 ?_ | ((first | refine Wo fun K hK => ?_ | refine Wp ?_ | refine Wq ?_ | refine Wr ?_); (try simp only [go_sem, fN, seval, eT, iR, dT, dF, nL]); (repeat refine Ai ?_); (try (refine hK _ ?_; skip)); try refine iC ?_)
    refine ⟨_, Ba _, ?_⟩
    repeat' with_reducible first | refine W ?_ | refine Z0 ?_ | ((first | refine Wo fun K hK => ?_ | refine Wp ?_ | refine Wq ?_ | refine Wr ?_); (try simp only [go_sem, fN, seval, eT, iR, hv, dT, dF, nL]); (repeat refine Ai ?_); (try (refine hK _ ?_; skip)); try refine iC ?_)
    refine ⟨rfl, _, _, Kg hta htb hsame (.inl hv), ?_⟩
    simp only [go_sem, fN, seval, eT, iR, e0, e4, htk]
    exact fun i h5 h7 => by (simp only [go_sem, fN, seval, eT, iR, h5, h7])
   | false =>
    repeat' with_reducible first | refine W ?_ | refine Z0 ?_ | ((first | refine Wo fun K hK => ?_ | refine Wq ?_ | refine Wr ?_); (try simp only [go_sem, fN, seval, eT, iR, hv]); (repeat refine Ai ?_); (try (refine hK _ ?_; skip)))
    with_reducible refine Wp ?_
    simp only [go_sem, fN, seval, true_implies, false_implies, implies_true, dT, dF, nL]
    (try with_reducible refine iC ?_)
    refine Wd ?_
    refine Wb ?_
    refine IWP.mid (fun x => ∃ u t, Hw U s p u t ∧ x.env 0 = BF l ∧ x.env 4 = Dc s ∧ x.env 5 = .one (.ptr 5 1 0 0) ∧ x.env 7 = .one (.ptr 7 1 0 0) ∧ x.S 5 = some (LE u) ∧ x.S 7 = some (LE t) ∧ ∀ i, i ≠ 5 → i ≠ 7 → x.S i = none) ?_ rest
    repeat' with_reducible first | refine W ?_ | refine Z0 ?_ | ((first | refine Wo fun K hK => ?_ | refine Wp ?_ | refine Wq ?_ | refine Wr ?_); (try simp only [go_sem, fN, seval, eT, iR, dT, dF, nL]); (repeat refine Ai ?_); (try (refine hK _ ?_; skip)); try refine iC ?_)
    refine ⟨_, Ba _, ?_⟩
    repeat' with_reducible first | refine W ?_ | refine Z0 ?_ | ((first | refine Wo fun K hK => ?_ | refine Wp ?_ | refine Wq ?_ | refine Wr ?_); (try simp only [go_sem, fN, seval, eT, iR, hv, dT, dF, nL]); (repeat refine Ai ?_); (try (refine hK _ ?_; skip)); try refine iC ?_)
    refine ⟨_, Ba _, ?_⟩
    cases hw : AL (p.2.on s).name with
    | true =>
     repeat' with_reducible first | refine W ?_ | refine Z0 ?_ | ((first | refine Wo fun K hK => ?_ | refine Wp ?_ | refine Wq ?_ | refine Wr ?_); (try simp only [go_sem, fN, seval, eT, iR, hv, hw, dT, dF, nL]); (repeat refine Ai ?_); (try (refine hK _ ?_; skip)); try refine iC ?_)
     refine ⟨rfl, _, _, O9 hta htb hv hw, ?_⟩
     simp only [go_sem, fN, seval, eT, iR, e0, e4, htk]
     exact fun i h5 h7 => by (simp only [go_sem, fN, seval, eT, iR, h5, h7])
    | false =>
     repeat' with_reducible first | refine W ?_ | refine Z0 ?_ | ((first | refine Wo fun K hK => ?_ | refine Wp ?_ | refine Wq ?_ | refine Wr ?_); (try simp only [go_sem, fN, seval, eT, iR, hv, hw, dT, dF, nL]); (repeat refine Ai ?_); (try (refine hK _ ?_; skip)); try refine iC ?_)
     refine ⟨rfl, _, _, Kg hta htb hsame (.inr hw), ?_⟩
     simp only [go_sem, fN, seval, eT, iR, e0, e4, htk]
     exact fun i h5 h7 => by (simp only [go_sem, fN, seval, eT, iR, h5, h7])
  rintro ⟨env, S⟩ ⟨u, t, ⟨hu, ht, hst⟩, e0, e4, e5, e7, s5, s7, sno⟩
  simp only at e0 e4 e5 e7 s5 s7 sno
  rcases hst with ⟨hv, hst⟩ | ⟨hv, hst⟩
  ·-- a variable
   rw [hst] at hinv
   repeat' (first | (with_reducible first | refine W ?_ | refine Z0 ?_ | ((first | refine Wo fun K hK => ?_ | refine Wp ?_ | refine Wq ?_ | refine Wr ?_); (try simp only [go_sem, fN, seval, eT, iR, e5, s5, hv, e0, e4, e7, s7, dT, dF, nL]); (repeat refine Ai ?_); (try (refine hK _ ?_; clear hK K)); try refine iC ?_)) | refine Cg _ (Ba _) ?_ | refine Cg _ (Fj t (by have := ht.siz; omega)) ?_)
   refine ⟨_, S6 u.name t.varsOf, ?_⟩
   have hio := Iw hv t
   cases ho : occ u.name t with
   | true =>
    have hbv : B5 s u.name t = .err 6 := by unfold B5; rw [if_pos ho]
    rw [ho] at hio
    repeat' with_reducible first | refine W ?_ | refine Z0 ?_ | ((first | refine Wo fun K hK => ?_ | refine Wp ?_ | refine Wq ?_ | refine Wr ?_); (try simp only [go_sem, fN, seval, eT, iR, hio, dT, dF, nL]); (repeat refine Ai ?_); (try (refine hK _ ?_; clear hK K)); try refine iC ?_)
    simp only [go_sem, fN, seval, AJ, AS.result, AA, AB, AH]
    rcases hinv with ⟨e, h1, rfl⟩ | ⟨s', ps, q, h1, _⟩
    ·rw [hbv] at h1
     cases h1
     rfl
    ·rw [hbv] at h1
     cases h1
   | false =>
    rw [ho] at hio
    repeat' with_reducible first | refine W ?_ | refine Z0 ?_ | ((first | refine Wo fun K hK => ?_ | refine Wp ?_ | refine Wq ?_ | refine Wr ?_); (try simp only [go_sem, fN, seval, eT, iR, hio, e0, e4, e5, e7, s5, s7, dT, dF, nL]); (repeat refine Ai ?_); (try (refine hK _ ?_; clear hK K)); try refine iC ?_)
    have hsl : s.length ≤ 20000 := Nat.le_trans hg.len hU
    have s900 : S 900 = none := sno 900 (by omega) (by omega)
    have s11 : S 11 = none := sno 11 (by omega) (by omega)
    refine IWP.ghost (Af.own 9 900 81 3 (xs := []) rfl s900 (by simp) (by rw [hC]; decide)) ?_
    refine IWP.loopD [11] (fun m x => ∃ i, i ≤ s.length ∧ m = s.length - i ∧ (∀ c ∈ s.take i, (c.2.on [(u.name, t)]).size ≤ 2000) ∧ x.env 0 = BF l ∧ x.env 4 = Dc s ∧ x.env 8 = .one (.full [BG (u.name, t)]) ∧ x.env 9 = .one (.row 900 i) ∧ x.env 10 = AK i ∧ x.S 900 = some (.arow 81 3 (((s.take i).map fun b => (b.1, b.2.on [(u.name, t)])).map BG)) ∧ x.S 11 = none ∧ ∀ i, 1000 ≤ i → x.S i = none)
     s.length ⟨0, Nat.zero_le _, rfl, by simp, ?_⟩ ?_
    ·simp only [go_sem, fN, seval, eT, iR, e0, e4, BG]
     refine ⟨s11, fun i hi => ?_⟩
     have i9 : ¬ i = 900 := by omega
     simp only [go_sem, fN, seval, eT, iR, i9]
     exact sno i (by omega) (by omega)
    rintro mm ⟨env2, S2⟩ ⟨i, hi, rfl, h20, e0, e4, e8, e9, e10, s900, s11, sno⟩
    simp only at e0 e4 e8 e9 e10 s900 s11 sno
    have hli : (s.take i).length = i := by rw [List.length_take]; omega
    by_cases hlt : (i : Int) < s.length
    ·obtain ⟨b, hb⟩ := AT (show i < s.length by omega)
     have hbz := hg.siz b (AI hb)
     repeat' with_reducible first | refine W ?_ | refine Z0 ?_ | ((first | refine Wo fun K hK => ?_ | refine Wp ?_ | refine Wq ?_ | refine Wr ?_); (try simp only [go_sem, fN, seval, eT, iR, e0, e4, e8, e9, e10, s11, hlt, hb, BG, dT, dF, nL]); (repeat refine Ai ?_); (try (refine hK _ ?_; clear hK K)); try refine iC ?_)
     refine ⟨_, Dr [(u.name, t)] b.2 (by omega), ?_⟩
     by_cases hz : (b.2.on [(u.name, t)]).size ≤ 2000
     ·have hon : Aq [(u.name, t)] b.2 = (b.2.on [(u.name, t)], true) := by unfold Aq; rw [if_pos hz]
      repeat' with_reducible first | refine W ?_ | refine Z0 ?_ | ((first | refine Wo fun K hK => ?_ | refine Wp ?_ | refine Wq ?_ | refine Wr ?_); (try simp only [go_sem, fN, seval, eT, iR, hon, e0, e4, e8, e9, e10, s900, s11, hb, hli, BG, dT, dF, nL]); (repeat refine Ai ?_); (try (refine hK _ ?_; clear hK K)); try refine iC ?_)
      refine AE ⟨s.length - (i + 1), by omega, i + 1, by omega, rfl, fun c hc => ?_, ?_⟩
      ·rw [AY hb] at hc
       rcases List.mem_append.1 hc with hc | hc
       ·exact h20 c hc
       ·rw [List.mem_singleton.1 hc]; exact hz
      ·simp only [go_sem, fN, seval, AS.drop, Ak, AC.clears, AC.clear, AC.highs, AC.high, Bool.not_false, Bool.true_and, Bool.and_self, AV.purge, AV.purges, AC.purge, AN.purge, List.contains_cons, List.contains_nil, Nat.reduceBEq, Bool.or_self, Bool.or_false, Bool.false_or, Bool.or_true, eT, iR, e0, e4, e8, e9, e10, s900, s11]
       refine ⟨rfl, by congr 3, ?_, fun j hj => ?_⟩
       ·rw [AY hb, List.map_append, List.map_append]
        rfl
       ·have j11b : (j == 11) = false := by simp; omega
        have j11 : ¬ j = 11 := by omega
        have j900 : ¬ j = 900 := by omega
        simp only [go_sem, fN, seval, AS.drop, Ak, AC.clears, AC.clear, AC.highs, AC.high, Bool.not_false, Bool.true_and, Bool.and_self, AV.purge, AV.purges, AC.purge, AN.purge, List.contains_cons, List.contains_nil, Nat.reduceBEq, Bool.or_self, Bool.or_false, Bool.false_or, Bool.or_true, eT, iR, j11b, j11, j900]
        rw [sno j hj]
        rfl
     ·have hon : Aq [(u.name, t)] b.2 = (Tm.nil, false) := by unfold Aq; rw [if_neg hz]
      have hbv : B5 s u.name t = .err 8 := by
       unfold B5
       rw [if_neg (by rw [ho]; simp), if_neg]
       intro hall
       have := List.all_eq_true.1 hall b (AI hb)
       exact hz (by simpa using this)
      repeat' with_reducible first | refine W ?_ | refine Z0 ?_ | ((first | refine Wo fun K hK => ?_ | refine Wp ?_ | refine Wq ?_ | refine Wr ?_); (try simp only [go_sem, fN, seval, eT, iR, hon, dT, dF, nL]); (repeat refine Ai ?_); (try (refine hK _ ?_; clear hK K)); try refine iC ?_)
      simp only [go_sem, fN, seval, AJ, AS.result, AA, AB, AH]
      rcases hinv with ⟨e, h1, rfl⟩ | ⟨s', ps, q, h1, _⟩
      ·rw [hbv] at h1
       cases h1
       rfl
      ·rw [hbv] at h1
       cases h1
    ·have hall : s.take i = s := List.take_of_length_le (by omega)
     obtain rfl : i = s.length := by omega
     rw [hall] at s900 h20
     have hbv : B5 s u.name t = .go (Ay (s.map (fun b => (b.1, b.2.on [(u.name, t)])) ++ [(u.name, t)])) [] := by
      unfold B5
      rw [if_neg (by rw [ho]; simp), if_pos]
      exact List.all_eq_true.2 fun b hb => by simpa using h20 b hb
     obtain ⟨hg', _⟩ := DJ hg (hst.trans hbv)
     rcases hinv with ⟨e, h1, _⟩ | ⟨s', ps, q, h1, h2, h3⟩
     ·rw [hbv] at h1
      cases h1
     rw [hbv] at h1
     cases h1
     have hnamed := Ca (BW _) (CO hg'.ord)
     have hL : (s.map (fun b => (b.1, b.2.on [(u.name, t)]))).map BG ++ [[SV.str u.name, SV.str t.name, SV.list (t.args.map Ap)]] = (s.map (fun b => (b.1, b.2.on [(u.name, t)])) ++ [(u.name, t)]).map BG := by
      rw [List.map_append]
      rfl
     repeat' with_reducible first | refine W ?_ | refine Z0 ?_ | ((first | refine Wo fun K hK => ?_ | refine Wp ?_ | refine Wq ?_ | refine Wr ?_); (try simp only [go_sem, fN, seval, eT, iR, e0, e4, e8, e9, e10, s900, hlt, BG, dT, dF, nL]); (repeat refine Ai ?_); (try (refine hK _ ?_; clear hK K)); try refine iC ?_)
     rw [hL]
     refine ⟨_, LV _ hnamed (by simp; omega), ?_⟩
     repeat' with_reducible first | refine W ?_ | refine Z0 ?_ | ((first | refine Wo fun K hK => ?_ | refine Wp ?_ | refine Wq ?_ | refine Wr ?_); (try simp only [go_sem, fN, seval, eT, iR, e0, dT, dF, nL]); (repeat refine Ai ?_); (try (refine hK _ ?_; clear hK K)); try refine iC ?_)
     refine AE ⟨q, h2, _, l, h3, hg', ?_, ?_, fun j hj => ?_⟩
     ·simp only [go_sem, fN, seval, eT, iR, e0]
     ·simp only [go_sem, fN, seval, eT, iR]
     ·have j900 : ¬ j = 900 := by omega
      simp only [go_sem, fN, seval, eT, iR, j900]
      exact sno j hj
  ·-- two knots
   rw [hst] at hinv
   have husz := ht.siz
   have huk := Tm.length_le u.args
   have hus := Tm.size_eq u
   have husz := hu.siz
   by_cases hsame : u.name = t.name ∧ u.args.length = t.args.length
   ·rw [if_pos hsame] at hst hinv
    obtain ⟨hg', _⟩ := DJ hg hst
    rcases hinv with ⟨e, h1, _⟩ | ⟨s', ps, q, h1, h2, h3⟩
    ·cases h1
    cases h1
    have hargs : (u.args.length : Int) = t.args.length := by rw [hsame.2]
    repeat' with_reducible first | refine W ?_ | refine Z0 ?_ | ((first | refine Wo fun K hK => ?_ | refine Wp ?_ | refine Wq ?_ | refine Wr ?_); (try simp only [go_sem, fN, seval, eT, iR, e5, s5, dT, dF, nL]); (repeat refine Ai ?_); (try (refine hK _ ?_; clear hK K)); try refine iC ?_)
    refine ⟨_, Ba _, ?_⟩
    have hvt : AL t.name = false := by rw [← hsame.1]; exact hv
    repeat' with_reducible first | refine W ?_ | refine Z0 ?_ | ((first | refine Wo fun K hK => ?_ | refine Wp ?_ | refine Wq ?_ | refine Wr ?_); (try simp only [go_sem, fN, seval, eT, iR, hv, hvt, e0, e4, e5, e7, s5, s7, hsame.1, hsame.2, dT, dF, nL]); (repeat refine Ai ?_); (try (refine hK _ ?_; clear hK K)); try refine iC ?_)
    have s901 : S 901 = none := sno 901 (by omega) (by omega)
    refine IWP.ghost (Af.own 13 901 31 4 (xs := []) rfl s901 (by simp) (by rw [hC]; decide)) ?_
    refine IWP.loop (fun m x => ∃ i, i ≤ u.args.length ∧ m = u.args.length - i ∧ x.env 0 = BF l ∧ x.env 4 = Dc s ∧ x.env 5 = .one (.ptr 5 1 0 0) ∧ x.env 7 = .one (.ptr 7 1 0 0) ∧ x.env 13 = .one (.row 901 i) ∧ x.env 14 = AK i ∧ x.S 5 = some (LE u) ∧ x.S 7 = some (LE t) ∧ x.S 901 = some (.arow 31 4 (((u.args.zip t.args).take i).map At)) ∧ ∀ i, 1000 ≤ i → x.S i = none)
     u.args.length ⟨0, Nat.zero_le _, rfl, ?_⟩ ?_
    ·simp only [go_sem, fN, seval, eT, iR, e0, e4, e5, e7, s5, s7]
     intro i hi
     have i9 : ¬ i = 901 := by omega
     simp only [go_sem, fN, seval, eT, iR, i9]
     exact sno i (by omega) (by omega)
    have hzl : (u.args.zip t.args).length = u.args.length := by rw [List.length_zip, hsame.2, Nat.min_self]
    have hstk : l.length ≤ 100000000000 := by have := hg.stack; rw [List.length_cons] at this; omega
    rintro mm ⟨env2, S2⟩ ⟨i, hi, rfl, e0, e4, e5, e7, e13, e14, s5, s7, s901, sno⟩
    simp only at e0 e4 e5 e7 e13 e14 s5 s7 s901 sno
    have hli : ((u.args.zip t.args).take i).length = i := by rw [List.length_take]; omega
    by_cases hlt : (i : Int) < u.args.length
    ·obtain ⟨a, ha⟩ := AT (show i < u.args.length by omega)
     obtain ⟨c, hc⟩ := AT (show i < t.args.length by omega)
     have hac : (u.args.zip t.args)[i]? = some (a, c) := List.getElem?_zip_eq_some.2 ⟨ha, hc⟩
     repeat' with_reducible first | refine W ?_ | refine Z0 ?_ | ((first | refine Wo fun K hK => ?_ | refine Wp ?_ | refine Wq ?_ | refine Wr ?_); (try simp only [go_sem, fN, seval, eT, iR, e0, e4, e5, e7, e13, e14, s5, s7, s901, hlt, ha, hc, hli, At, dT, dF, nL]); (repeat refine Ai ?_); (try (refine hK _ ?_; clear hK K)); try refine iC ?_)
     refine AE ⟨u.args.length - (i + 1), by omega, i + 1, by omega, rfl, ?_⟩
     simp only [go_sem, fN, seval, eT, iR, e0, e4, e5, e7, e13, e14, s5, s7, s901]
     refine ⟨by congr 3, ?_, fun j hj => ?_⟩
     ·rw [AY hac, List.map_append]
      rfl
     ·have j901 : ¬ j = 901 := by omega
      simp only [go_sem, fN, seval, eT, iR, j901]
      exact sno j hj
    ·obtain rfl : i = u.args.length := by omega
     have hall : (u.args.zip t.args).take u.args.length = u.args.zip t.args := List.take_of_length_le (by omega)
     rw [hall] at s901 hli
     repeat' with_reducible first | refine W ?_ | refine Z0 ?_ | ((first | refine Wo fun K hK => ?_ | refine Wp ?_ | refine Wq ?_ | refine Wr ?_); (try simp only [go_sem, fN, seval, eT, iR, e0, e4, e5, e7, e13, e14, s5, s7, s901, hlt, hli, At, dT, dF, nL]); (repeat refine Ai ?_); (try (refine hK _ ?_; clear hK K)); try refine iC ?_)
     refine AE ⟨q, h2, s, u.args.zip t.args ++ l, h3, hg', ?_, ?_, fun j hj => ?_⟩
     ·simp only [go_sem, fN, seval, eT, iR, hzl]
      rw [← List.map_append]
     ·simp only [go_sem, fN, seval, eT, iR, e4]
     ·have j901 : ¬ j = 901 := by omega
      simp only [go_sem, fN, seval, eT, iR, j901]
      exact sno j hj
   ·rw [if_neg hsame] at hst hinv
    repeat' with_reducible first | refine W ?_ | refine Z0 ?_ | ((first | refine Wo fun K hK => ?_ | refine Wp ?_ | refine Wq ?_ | refine Wr ?_); (try simp only [go_sem, fN, seval, eT, iR, e5, s5, dT, dF, nL]); (repeat refine Ai ?_); (try (refine hK _ ?_; clear hK K)); try refine iC ?_)
    refine ⟨_, Ba _, ?_⟩
    by_cases hn : u.name = t.name
    ·have hl : ¬ (u.args.length : Int) = t.args.length := fun h => hsame ⟨hn, by omega⟩
     have hvt : AL t.name = false := by rw [← hn]; exact hv
     repeat' with_reducible first | refine W ?_ | refine Z0 ?_ | ((first | refine Wo fun K hK => ?_ | refine Wp ?_ | refine Wq ?_ | refine Wr ?_); (try simp only [go_sem, fN, seval, eT, iR, hv, hvt, e0, e4, e5, e7, s5, s7, hn, hl, dT, dF, nL]); (repeat refine Ai ?_); (try (refine hK _ ?_; clear hK K)); try refine iC ?_)
     simp only [go_sem, fN, seval, AJ, AS.result, AA, AB, AH]
     rcases hinv with ⟨e, h1, rfl⟩ | ⟨s', ps, q, h1, _⟩
     ·cases h1
      rfl
     ·cases h1
    ·repeat' with_reducible first | refine W ?_ | refine Z0 ?_ | ((first | refine Wo fun K hK => ?_ | refine Wp ?_ | refine Wq ?_ | refine Wr ?_); (try simp only [go_sem, fN, seval, eT, iR, hv, e0, e4, e5, e7, s5, s7, hn, dT, dF, nL]); (repeat refine Ai ?_); (try (refine hK _ ?_; clear hK K)); try refine iC ?_)
     simp only [go_sem, fN, seval, AJ, AS.result, AA, AB, AH]
     rcases hinv with ⟨e, h1, rfl⟩ | ⟨s', ps, q, h1, _⟩
     ·cases h1
      rfl
     ·cases h1

end Go.Proofs.YtgepacmabaaohaaGreatDoor
