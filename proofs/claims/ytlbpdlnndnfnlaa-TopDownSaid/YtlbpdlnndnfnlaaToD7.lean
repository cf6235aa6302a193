/-
  Part 7 of the texts. Conditions: none.
-/
import Derived.Test.YtlbpdlnndnfnlaaToD6
import Derived.Shelf.SlSortCmp.WholeK
import Derived.Shelf.SlSortCmp.NoneTotal
import Derived.Test.YtlbpdlnndnfnlaaProg
namespace Go.Proofs.Ytlbpdlnndnfnlaa
open Go Go.RowKit
set_option linter.unusedVariables false
set_option linter.unusedSimpArgs false
set_option maxHeartbeats 800000
theorem Tm.beqL_no {xs ys : List Tm} (h : xs ≠ ys) : Tm.beqL xs ys = false := by
 rw [← Bool.not_eq_true, Tm.beqL_iff]
 exact h
theorem M7 (xs ys : List Tm) (ih : ∀ x ∈ xs, ∀ y, AT Try.prog 61 [aTm x, aTm y] (Ad (x.beq y))) :
  AT Try.prog 67 [Iq xs, Iq ys, .one (.fn 61 [])] (Ad (Tm.beqL xs ys)) := by
 have hplain : B0 Try.prog 61 = true := by kernel_rfl
 refine Al.ac fun C hC => ?_
 unfold AU
 refine IWP.learn 0 (by omega) fun hkn => ?_
 have hkx := Dt hkn
 rw [List.length_map] at hkx
 by_cases hl : xs.length = ys.length
 ·have hl' : (xs.length : Int) = ys.length := by omega
  repeat' with_reducible first | refine W ?_ | refine Z0 ?_ | ((first | refine Wo fun K hK => ?_ | refine Wp ?_ | refine Wq ?_ | refine Wr ?_); (try simp only [go_sem, fN, seval, eT, iR, hl', dT, dF, nL]); (repeat refine Ai ?_); (try (refine hK _ ?_; clear hK K)); try refine iC ?_)
  refine IWP.loopD [8, 9] (fun n s => ∃ k, k ≤ xs.length ∧ n = xs.length - k ∧ xs.take k = ys.take k ∧ s.env 1 = Iq ys ∧ s.env 2 = .one (.fn 61 []) ∧ s.env 15 = Iq xs ∧ s.env 16 = AR xs.length ∧ s.env 17 = AR k ∧ s.S 8 = none ∧ s.S 9 = none) xs.length ⟨0, Nat.zero_le _, rfl, rfl, rfl, rfl, rfl, by simp only [go_sem, fN, seval, eT, iR, hl'], rfl, rfl, rfl⟩ ?_
  rintro n ⟨env, S⟩ ⟨k, hk, rfl, h0, e1, e2, e15, e16, e17, s8, s9⟩
  simp only at e1 e2 e15 e16 e17 s8 s9
  by_cases hlt : (k : Int) < xs.length
  ·obtain ⟨x, hx⟩ := Ay (show k < xs.length by omega)
   obtain ⟨y, hy⟩ := Ay (show k < ys.length by omega)
   repeat' with_reducible first | refine W ?_ | refine Z0 ?_ | ((first | refine Wo fun K hK => ?_ | refine Wp ?_ | refine Wq ?_ | refine Wr ?_); (try simp only [go_sem, fN, seval, eT, iR, e1, e2, e15, e16, e17, s8, s9, hlt, hx, hy, hplain, dT, dF, nL]); (repeat refine Ai ?_); (try (refine hK _ ?_; clear hK K)); try refine iC ?_)
   refine ⟨_, _, (ih x (Ah hx) y).toS rfl, ?_⟩
   cases hxy : x.beq y with
   | false =>
    repeat' with_reducible first | refine W ?_ | refine Z0 ?_ | ((first | refine Wo fun K hK => ?_ | refine Wp ?_ | refine Wq ?_ | refine Wr ?_); (try simp only [go_sem, fN, seval, eT, iR, hxy, dT, dF, nL]); (repeat refine Ai ?_); (try (refine hK _ ?_; clear hK K)); try refine iC ?_)
    simp only [go_sem, fN, seval, AN, AS.result, AB, AD, AK]
    rw [Tm.beqL_no fun e => by
     subst e
     rw [hx] at hy
     cases hy
     rw [Tm.beq_refl] at hxy
     cases hxy]
   | true =>
    have hxy' := (Tm.beq_iff x y).1 hxy
    repeat' with_reducible first | refine W ?_ | refine Z0 ?_ | ((first | refine Wo fun K hK => ?_ | refine Wp ?_ | refine Wq ?_ | refine Wr ?_); (try simp only [go_sem, fN, seval, eT, iR, hxy, e1, e2, e15, e16, e17, s8, s9, dT, dF, nL]); (repeat refine Ai ?_); (try (refine hK _ ?_; clear hK K)); try refine iC ?_)
    refine AO ⟨xs.length - (k + 1), by omega, k + 1, by omega, rfl, ?_, ?_⟩
    ·rw [A0 hx, A0 hy, h0, hxy']
    ·simp only [go_sem, fN, seval, AS.drop, As, AC.clears, AC.clear, AC.highs, AC.high, Bool.not_false, Bool.true_and, Bool.and_self, AV.purge, AV.purges, AC.purge, AJ.purge, List.contains_cons, List.contains_nil, Nat.reduceBEq, Bool.or_self, Bool.or_false, Bool.false_or, Bool.or_true, eT, iR, e1, e2, e15, e16, e17, s8, s9]
     congr 3
  ·repeat' with_reducible first | refine W ?_ | refine Z0 ?_ | ((first | refine Wo fun K hK => ?_ | refine Wp ?_ | refine Wq ?_ | refine Wr ?_); (try simp only [go_sem, fN, seval, eT, iR, e1, e2, e15, e16, e17, hlt, dT, dF, nL]); (repeat refine Ai ?_); (try (refine hK _ ?_; clear hK K)); try refine iC ?_)
   simp only [go_sem, fN, seval, AN, AS.result, AB, AD, AK]
   rw [List.take_of_length_le (by omega), List.take_of_length_le (by omega)] at h0
   rw [(Tm.beqL_iff xs ys).2 h0]
 ·have hl' : ¬ (xs.length : Int) = ys.length := by omega
  repeat' with_reducible first | refine W ?_ | refine Z0 ?_ | ((first | refine Wo fun K hK => ?_ | refine Wp ?_ | refine Wq ?_ | refine Wr ?_); (try simp only [go_sem, fN, seval, eT, iR, hl', dT, dF, nL]); (repeat refine Ai ?_); (try (refine hK _ ?_; clear hK K)); try refine iC ?_)
  simp only [go_sem, fN, seval, AN, AS.result, AB, AD, AK]
  rw [Tm.beqL_no fun e => hl (by rw [e])]
theorem LK (a b : Tm) : AT Try.prog 61 [aTm a, aTm b] (Ad (a.beq b)) := by
 induction h : SizeOf.sizeOf a using Nat.strongRecOn generalizing a b with
 | _ N ih =>
 subst h
 have hE := M7 a.args b.args fun x hx y => ih _ (Tm.lt_of_arg hx) x y rfl
 have he : a.beq b = (decide (a.name = b.name) && Tm.beqL a.args b.args) := by cases a; cases b; rfl
 refine Li.ac fun C hC => ?_
 unfold Gk
 by_cases hn : a.name = b.name
 ·repeat' (first | (with_reducible first | refine W ?_ | refine Z0 ?_ | ((first | refine Wo fun K hK => ?_ | refine Wp ?_ | refine Wq ?_ | refine Wr ?_); (try simp only [go_sem, fN, seval, eT, iR, hn, dT, dF, nL]); (repeat refine Ai ?_); (try (refine hK _ ?_; clear hK K)); try refine iC ?_)) | refine Cg _ (hE) ?_)
  simp only [go_sem, fN, seval, AN, AS.result, AB, AD, AK]
  rw [he, decide_eq_true hn]
  rfl
 ·repeat' with_reducible first | refine W ?_ | refine Z0 ?_ | ((first | refine Wo fun K hK => ?_ | refine Wp ?_ | refine Wq ?_ | refine Wr ?_); (try simp only [go_sem, fN, seval, eT, iR, hn, dT, dF, nL]); (repeat refine Ai ?_); (try (refine hK _ ?_; clear hK K)); try refine iC ?_)
  simp only [go_sem, fN, seval, AN, AS.result, AB, AD, AK]
  rw [he, decide_eq_false hn]
  rfl

set_option maxRecDepth 100000
def Gv : IR :=
 (.seq (.ops [.i 1 (.box 27 (.t 0)), .i 2 (.mov (.n 0))]) (.seq (.ops [.i 3 (.mov (.n 1))]) (.seq (.seq (.ops [.f 6 1 1, .l 7 6, .i 8 (.len false (.t 7)), .i 9 (.mov (.n 0))]) (.block 0 (.loop (.seq (.ops [.i 10 (.bin .lss (.t 9) (.t 8))]) (.seq (.cond (.t 10) .skip (.exit 0)) (.seq (.block 1 (.seq (.ops [.i 11 (.indexAddr 2 (.t 7) (.t 9)), .L 12 2 11, .i 5 (.alloc 27 [.st (.str (ByteArray.mk (#[]))), .full []]), .s 2 5 12]) (.ops [.m 13 3, .L 14 2 5, .i 15 (.call 30 [.t 14]), .i 16 (.bin .add (.t 13) (.t 15)), .m 3 16]))) (.ops [.i 17 (.bin .add (.t 9) (.n 1)), .m 9 17]))))))) (.seq (.ops [.m 18 3, .m 2 18]) .ret))))
theorem LN : OkF Try.prog 30 19 [] Gv [.t 2] := .of Try.func30 rfl rfl (by kernel_rfl) rfl

theorem Lu (t : Tm) (hz : t.size ≤ 1000000) : AT Try.prog 30 [aTm t] (AR t.size) := by
 induction h : SizeOf.sizeOf t using Nat.strongRecOn generalizing t with
 | _ N ih =>
 subst h
 have hs := Tm.size_eq t
 have hln := Tm.length_le t.args
 refine LN.ac fun C hC => ?_
 unfold Gv
 repeat' with_reducible first | refine W ?_ | refine Z0 ?_ | ((first | refine Wo fun K hK => ?_ | refine Wp ?_ | refine Wq ?_ | refine Wr ?_); (try simp only [go_sem, fN, seval, eT, iR, dT, dF, nL]); (repeat refine Ai ?_); (try (refine hK _ ?_; clear hK K)); try refine iC ?_)
 refine IWP.loopD [5] (fun m s => ∃ k, k ≤ t.args.length ∧ m = t.args.length - k ∧ s.env 3 = AR ((1 + Tm.sizes (t.args.take k) : Nat) : Int) ∧ s.env 7 = Iq t.args ∧ s.env 8 = AR t.args.length ∧ s.env 9 = AR k ∧ s.S 5 = none) t.args.length ⟨0, Nat.zero_le _, rfl, rfl, rfl, rfl, rfl, rfl⟩ ?_
 rintro m ⟨env, S⟩ ⟨k, hk, rfl, e3, e7, e8, e9, s5⟩
 simp only at e3 e7 e8 e9 s5
 by_cases hlt : (k : Int) < t.args.length
 ·obtain ⟨a, ha⟩ := Ay (show k < t.args.length by omega)
  have h1 := Tm.sizes_take ha
  have h2 := Tm.sizes_take_le t.args (k + 1)
  repeat' (first | (with_reducible first | refine W ?_ | refine Z0 ?_ | ((first | refine Wo fun K hK => ?_ | refine Wp ?_ | refine Wq ?_ | refine Wr ?_); (try simp only [go_sem, fN, seval, eT, iR, e3, e7, e8, e9, s5, hlt, ha, dT, dF, nL]); (repeat refine Ai ?_); (try (refine hK _ ?_; clear hK K)); try refine iC ?_)) | refine Cg _ (ih _ (Tm.lt_of_arg (Ah ha)) a (by omega) rfl) ?_)
  refine AO ⟨t.args.length - (k + 1), by omega, k + 1, by omega, rfl, ?_⟩
  simp only [go_sem, fN, seval, AS.drop, As, AC.clears, AC.clear, AC.highs, AC.high, Bool.not_false, Bool.true_and, Bool.and_self, AV.purge, AV.purges, AC.purge, AJ.purge, List.contains_cons, List.contains_nil, Nat.reduceBEq, Bool.or_self, Bool.or_false, Bool.false_or, Bool.or_true, eT, iR, e3, e7, e8, e9, s5]
  exact ⟨by rw [h1]; congr 3; omega, by congr 3⟩
 ·repeat' with_reducible first | refine W ?_ | refine Z0 ?_ | ((first | refine Wo fun K hK => ?_ | refine Wp ?_ | refine Wq ?_ | refine Wr ?_); (try simp only [go_sem, fN, seval, eT, iR, e3, e7, e8, e9, hlt, dT, dF, nL]); (repeat refine Ai ?_); (try (refine hK _ ?_; clear hK K)); try refine iC ?_)
  simp only [go_sem, fN, seval, AN, AS.result, AB, AD, AK]
  rw [List.take_of_length_le (by omega), hs]

set_option maxHeartbeats 1000000
theorem L6 (l : List ByteArray) (x : ByteArray) : AT Try.prog 55 [Bu l, Cb x] (AR (Bp l x)) := by
 refine Co.ac fun C hC => ?_
 unfold Bb
 refine IWP.learn 0 (by omega) fun hkn => ?_
 have hkn := Dt hkn
 rw [List.length_map] at hkn
 repeat' with_reducible first | refine W ?_ | refine Z0 ?_ | ((first | refine Wo fun K hK => ?_ | refine Wp ?_ | refine Wq ?_ | refine Wr ?_); (try simp only [go_sem, fN, seval, eT, iR, dT, dF, nL]); (repeat refine Ai ?_); (try (refine hK _ ?_; clear hK K)); try refine iC ?_)
 refine IWP.loop (fun n s => ∃ k, k ≤ l.length ∧ n = l.length - k ∧ Bp l x = Ix (l.drop k) x k ∧ s.env 0 = Bu l ∧ s.env 1 = Cb x ∧ s.env 7 = AR l.length ∧ s.env 8 = AR k) l.length ⟨0, Nat.zero_le _, rfl, rfl, rfl, rfl, rfl, rfl⟩ ?_
 rintro n ⟨env, S⟩ ⟨k, hk, rfl, hr, e0, e1, e7, e8⟩
 simp only at e0 e1 e7 e8
 by_cases hlt : (k : Int) < l.length
 ·obtain ⟨a, ha⟩ := Ay (show k < l.length by omega)
  rw [C0 ha, Ix] at hr
  by_cases he : x = a
  ·subst he
   rw [if_pos rfl] at hr
   repeat' with_reducible first | refine W ?_ | refine Z0 ?_ | ((first | refine Wo fun K hK => ?_ | refine Wp ?_ | refine Wq ?_ | refine Wr ?_); (try simp only [go_sem, fN, seval, eT, iR, e0, e1, e7, e8, hlt, ha, dT, dF, nL]); (repeat refine Ai ?_); (try (refine hK _ ?_; clear hK K)); try refine iC ?_)
   simp only [go_sem, fN, seval, AN, AS.result, AB, AD, AK]
   rw [hr]
  ·rw [if_neg fun e => he e.symm] at hr
   repeat' with_reducible first | refine W ?_ | refine Z0 ?_ | ((first | refine Wo fun K hK => ?_ | refine Wp ?_ | refine Wq ?_ | refine Wr ?_); (try simp only [go_sem, fN, seval, eT, iR, e0, e1, e7, e8, hlt, ha, he, dT, dF, nL]); (repeat refine Ai ?_); (try (refine hK _ ?_; clear hK K)); try refine iC ?_)
   refine AO ⟨l.length - (k + 1), by omega, k + 1, by omega, rfl, by rw [hr]; rfl, ?_⟩
   simp only [go_sem, fN, seval, eT, iR, e0, e1, e7, e8]
   congr 3
 ·rw [List.drop_of_length_le (by omega), Ix] at hr
  repeat' with_reducible first | refine W ?_ | refine Z0 ?_ | ((first | refine Wo fun K hK => ?_ | refine Wp ?_ | refine Wq ?_ | refine Wr ?_); (try simp only [go_sem, fN, seval, eT, iR, e0, e1, e7, e8, hlt, dT, dF, nL]); (repeat refine Ai ?_); (try (refine hK _ ?_; clear hK K)); try refine iC ?_)
  simp only [go_sem, fN, seval, AN, AS.result, AB, AD, AK]
  rw [hr]
theorem EK (x : Int) : AT Try.prog 75 [AR x] (Ad false) := by
 refine Hd.ac fun C hC => ?_
 unfold D3
 repeat' with_reducible first | refine W ?_ | refine Z0 ?_ | ((first | refine Wo fun K hK => ?_ | refine Wp ?_ | refine Wq ?_ | refine Wr ?_); (try simp only [go_sem, fN, seval, eT, iR, dT, dF, nL]); (repeat refine Ai ?_); (try (refine hK _ ?_; clear hK K)); try refine iC ?_)
 simp only [go_sem, fN, seval, AN, AS.result, AB, AD, AK]
theorem OM (x y : Int) : AT Try.prog 69 [AR x, AR y] (AR (D8 x y)) := by
 refine GK.ac fun C hC => ?_
 unfold DM
 rcases Int.lt_trichotomy x y with h | h | h
 ·have hc : D8 x y = -1 := by unfold D8; rw [if_pos h]
  rw [hc]
  repeat' (first | (with_reducible first | refine W ?_ | refine Z0 ?_ | ((first | refine Wo fun K hK => ?_ | refine Wp ?_ | refine Wq ?_ | refine Wr ?_); (try simp only [go_sem, fN, seval, eT, iR, h, dT, dF, nL]); (repeat refine Ai ?_); (try (refine hK _ ?_; clear hK K)); try refine iC ?_)) | refine Cg _ (EK x) ?_ | refine Cg _ (EK y) ?_)
  simp only [go_sem, fN, seval, AN, AS.result, AB, AD, AK]
 ·have hc : D8 x y = 0 := D4.2 h
  have h1 : ¬ y < y := by omega
  rw [hc]
  repeat' (first | (with_reducible first | refine W ?_ | refine Z0 ?_ | ((first | refine Wo fun K hK => ?_ | refine Wp ?_ | refine Wq ?_ | refine Wr ?_); (try simp only [go_sem, fN, seval, eT, iR, h, h1, dT, dF, nL]); (repeat refine Ai ?_); (try (refine hK _ ?_; clear hK K)); try refine iC ?_)) | refine Cg _ (EK x) ?_ | refine Cg _ (EK y) ?_)
  simp only [go_sem, fN, seval, AN, AS.result, AB, AD, AK]
 ·have hc : D8 x y = 1 := by unfold D8; rw [if_neg (by omega), if_pos h]
  have h1 : ¬ x < y := by omega
  rw [hc]
  repeat' (first | (with_reducible first | refine W ?_ | refine Z0 ?_ | ((first | refine Wo fun K hK => ?_ | refine Wp ?_ | refine Wq ?_ | refine Wr ?_); (try simp only [go_sem, fN, seval, eT, iR, h, h1, dT, dF, nL]); (repeat refine Ai ?_); (try (refine hK _ ?_; clear hK K)); try refine iC ?_)) | refine Cg _ (EK x) ?_ | refine Cg _ (EK y) ?_)
  simp only [go_sem, fN, seval, AN, AS.result, AB, AD, AK]
theorem Tr (l : List Int) : AT Try.prog 68 [JQ l] (AR (DY l)) := by
 refine Js.ac fun C hC => ?_
 unfold Ft
 refine IWP.learn 0 (by omega) fun hkn => ?_
 have hkn := Dt hkn
 rw [List.length_map] at hkn
 repeat' with_reducible first | refine W ?_ | refine Z0 ?_ | ((first | refine Wo fun K hK => ?_ | refine Wp ?_ | refine Wq ?_ | refine Wr ?_); (try simp only [go_sem, fN, seval, eT, iR, dT, dF, nL]); (repeat refine Ai ?_); (try (refine hK _ ?_; clear hK K)); try refine iC ?_)
 refine IWP.loop (fun n s => ∃ k, k ≤ l.length ∧ n = l.length - k ∧ DY l = DY (l.drop k) ∧ s.env 3 = AR 0 ∧ s.env 6 = JQ l ∧ s.env 7 = AR l.length ∧ s.env 8 = AR k) l.length ⟨0, Nat.zero_le _, rfl, rfl, rfl, rfl, rfl, rfl⟩ ?_
 rintro n ⟨env, S⟩ ⟨k, hk, rfl, hr, e3, e6, e7, e8⟩
 simp only at e3 e6 e7 e8
 by_cases hlt : (k : Int) < l.length
 ·obtain ⟨a, ha⟩ := Ay (show k < l.length by omega)
  rw [C0 ha, DY] at hr
  by_cases he : a = 0
  ·rw [if_neg (by omega)] at hr
   repeat' with_reducible first | refine W ?_ | refine Z0 ?_ | ((first | refine Wo fun K hK => ?_ | refine Wp ?_ | refine Wq ?_ | refine Wr ?_); (try simp only [go_sem, fN, seval, eT, iR, e3, e6, e7, e8, hlt, ha, he, dT, dF, nL]); (repeat refine Ai ?_); (try (refine hK _ ?_; clear hK K)); try refine iC ?_)
   refine AO ⟨l.length - (k + 1), by omega, k + 1, by omega, rfl, hr, ?_⟩
   simp only [go_sem, fN, seval, eT, iR, e3, e6, e7, e8]
   congr 3
  ·rw [if_pos he] at hr
   repeat' with_reducible first | refine W ?_ | refine Z0 ?_ | ((first | refine Wo fun K hK => ?_ | refine Wp ?_ | refine Wq ?_ | refine Wr ?_); (try simp only [go_sem, fN, seval, eT, iR, e3, e6, e7, e8, hlt, ha, he, dT, dF, nL]); (repeat refine Ai ?_); (try (refine hK _ ?_; clear hK K)); try refine iC ?_)
   simp only [go_sem, fN, seval, AN, AS.result, AB, AD, AK]
   rw [hr]
 ·rw [List.drop_of_length_le (by omega), DY] at hr
  repeat' with_reducible first | refine W ?_ | refine Z0 ?_ | ((first | refine Wo fun K hK => ?_ | refine Wp ?_ | refine Wq ?_ | refine Wr ?_); (try simp only [go_sem, fN, seval, eT, iR, e3, e6, e7, e8, hlt, dT, dF, nL]); (repeat refine Ai ?_); (try (refine hK _ ?_; clear hK K)); try refine iC ?_)
  simp only [go_sem, fN, seval, AN, AS.result, AB, AD, AK]
  rw [hr]
theorem Pt (row : List ByteArray) (a b : Tm) : AT Try.prog 62 [Bu row, aTm a, aTm b] (AR (BW row a b)) := by
 have h := ON row a b
 have ho := Tr [D8 (Bp row a.name) (Bp row b.name), CZ a.name b.name, D8 a.args.length b.args.length]
 rw [← h] at ho
 refine He.ac fun C hC => ?_
 unfold D5
 repeat' (first | (with_reducible first | refine W ?_ | refine Z0 ?_ | ((first | refine Wo fun K hK => ?_ | refine Wp ?_ | refine Wq ?_ | refine Wr ?_); (try simp only [go_sem, fN, seval, eT, iR, dT, dF, nL]); (repeat refine Ai ?_); (try (refine hK _ ?_; clear hK K)); try refine iC ?_)) | refine Cg _ (L6 row a.name) ?_ | refine Cg _ (L6 row b.name) ?_ | refine Cg _ (OM _ _) ?_ | refine Cg _ (KD a.name b.name) ?_ | refine Cg _ (ho) ?_)
 simp only [go_sem, fN, seval, AN, AS.result, AB, AD, AK]
theorem IV (row : List ByteArray) : AT Try.prog 32 [Bu row] (AR (C3 row)) := by
 refine JS.ac fun C hC => ?_
 unfold FO
 by_cases h40 : 40 < row.length
 ·have h40' : (40 : Int) < row.length := by omega
  repeat' with_reducible first | refine W ?_ | refine Z0 ?_ | ((first | refine Wo fun K hK => ?_ | refine Wp ?_ | refine Wq ?_ | refine Wr ?_); (try simp only [go_sem, fN, seval, eT, iR, h40', dT, dF, nL]); (repeat refine Ai ?_); (try (refine hK _ ?_; clear hK K)); try refine iC ?_)
  simp only [go_sem, fN, seval, AN, AS.result, AB, AD, AK]
  unfold C3
  rw [if_pos h40]
 ·have h40' : ¬ (40 : Int) < row.length := by omega
  have hm : C3 row = K3 [] row := by unfold C3; rw [if_neg h40]
  repeat' with_reducible first | refine W ?_ | refine Z0 ?_ | ((first | refine Wo fun K hK => ?_ | refine Wp ?_ | refine Wq ?_ | refine Wr ?_); (try simp only [go_sem, fN, seval, eT, iR, h40', dT, dF, nL]); (repeat refine Ai ?_); (try (refine hK _ ?_; clear hK K)); try refine iC ?_)
  refine IWP.loop (fun n s => ∃ k, k ≤ row.length ∧ n = row.length - k ∧ C3 row = K3 (row.take k) (row.drop k) ∧ s.env 0 = Bu row ∧ s.env 8 = Bu row ∧ s.env 9 = AR row.length ∧ s.env 10 = AR k) row.length ⟨0, Nat.zero_le _, rfl, hm, rfl, rfl, rfl, rfl⟩ ?_
  rintro n ⟨env, S⟩ ⟨k, hk, rfl, hr, e0, e8, e9, e10⟩
  simp only at e0 e8 e9 e10
  by_cases hlt : (k : Int) < row.length
  ·obtain ⟨a, ha⟩ := Ay (show k < row.length by omega)
   rw [C0 ha, K3] at hr
   have htk : (row.map C5).take k = (row.take k).map C5 := (List.map_take).symm
   have hw1 : ∀ x ∈ row.map C5, x.length = 1 := Kc
   repeat' with_reducible first | refine W ?_ | refine Z0 ?_ | ((first | refine Wo fun K hK => ?_ | refine Wp ?_ | refine Wq ?_ | refine Wr ?_); (try simp only [go_sem, fN, seval, eT, iR, e0, e8, e9, e10, hlt, ha, dT, dF, nL]); (repeat refine Ai ?_); (try (refine hK _ ?_; clear hK K)); try refine iC ?_)
   refine ⟨_, Qx a, ?_⟩
   cases h1 : Aw a with
   | false =>
    rw [if_neg (by rw [h1]; simp)] at hr
    repeat' with_reducible first | refine W ?_ | refine Z0 ?_ | ((first | refine Wo fun K hK => ?_ | refine Wp ?_ | refine Wq ?_ | refine Wr ?_); (try simp only [go_sem, fN, seval, eT, iR, h1, e0, e8, e9, e10, dT, dF, nL]); (repeat refine Ai ?_); (try (refine hK _ ?_; clear hK K)); try refine iC ?_)
    simp only [go_sem, fN, seval, AN, AS.result, AB, AD, AK]
    rw [hr]
   | true =>
    repeat' with_reducible first | refine W ?_ | refine Z0 ?_ | ((first | refine Wo fun K hK => ?_ | refine Wp ?_ | refine Wq ?_ | refine Wr ?_); (try simp only [go_sem, fN, seval, eT, iR, h1, e0, e8, e9, e10, dT, dF, nL]); (repeat refine Ai ?_); (try (refine hK _ ?_; clear hK K)); try refine iC ?_)
    refine ⟨_, Bm a, ?_⟩
    cases h2 : AZ a with
    | true =>
     rw [if_neg (by rw [h2]; simp)] at hr
     repeat' with_reducible first | refine W ?_ | refine Z0 ?_ | ((first | refine Wo fun K hK => ?_ | refine Wp ?_ | refine Wq ?_ | refine Wr ?_); (try simp only [go_sem, fN, seval, eT, iR, h1, h2, e0, e8, e9, e10, dT, dF, nL]); (repeat refine Ai ?_); (try (refine hK _ ?_; clear hK K)); try refine iC ?_)
     simp only [go_sem, fN, seval, AN, AS.result, AB, AD, AK]
     rw [hr]
    | false =>
     rw [if_pos ⟨h1, h2⟩] at hr
     repeat' with_reducible first | refine W ?_ | refine Z0 ?_ | ((first | refine Wo fun K hK => ?_ | refine Wp ?_ | refine Wq ?_ | refine Wr ?_); (try simp only [go_sem, fN, seval, eT, iR, h1, h2, e0, e8, e9, e10, dT, dF, nL]); (repeat refine Ai ?_); (try (refine hK _ ?_; clear hK K)); try refine iC ?_)
     have hcon : AT Try.prog 43 [.one (.st (.list ((row.map C5).take k))), Cb a] (Ad (CI a (row.take k))) := by
      rw [htk]
      exact Ei _ _
     refine ⟨_, hcon, ?_⟩
     cases h3 : CI a (row.take k) with
     | true =>
      rw [if_pos h3] at hr
      repeat' with_reducible first | refine W ?_ | refine Z0 ?_ | ((first | refine Wo fun K hK => ?_ | refine Wp ?_ | refine Wq ?_ | refine Wr ?_); (try simp only [go_sem, fN, seval, eT, iR, h3, e0, e8, e9, e10, dT, dF, nL]); (repeat refine Ai ?_); (try (refine hK _ ?_; clear hK K)); try refine iC ?_)
      simp only [go_sem, fN, seval, AN, AS.result, AB, AD, AK]
      rw [hr]
     | false =>
      rw [if_neg (by rw [h3]; simp), ← A0 ha] at hr
      repeat' with_reducible first | refine W ?_ | refine Z0 ?_ | ((first | refine Wo fun K hK => ?_ | refine Wp ?_ | refine Wq ?_ | refine Wr ?_); (try simp only [go_sem, fN, seval, eT, iR, h3, e0, e8, e9, e10, dT, dF, nL]); (repeat refine Ai ?_); (try (refine hK _ ?_; clear hK K)); try refine iC ?_)
      refine AO ⟨row.length - (k + 1), by omega, k + 1, by omega, rfl, hr, ?_⟩
      simp only [go_sem, fN, seval, eT, iR, e0, e8, e9, e10]
      congr 3
  ·rw [List.drop_of_length_le (by omega), K3] at hr
   repeat' with_reducible first | refine W ?_ | refine Z0 ?_ | ((first | refine Wo fun K hK => ?_ | refine Wp ?_ | refine Wq ?_ | refine Wr ?_); (try simp only [go_sem, fN, seval, eT, iR, e0, e8, e9, e10, hlt, dT, dF, nL]); (repeat refine Ai ?_); (try (refine hK _ ?_; clear hK K)); try refine iC ?_)
   simp only [go_sem, fN, seval, AN, AS.result, AB, AD, AK]
   rw [hr]
def DA (row : List ByteArray) (a b : Tm) : Int := if C3 row = 0 then CO a b else C3 row
theorem H0 (row : List ByteArray) (a b : Tm) : AT Try.prog 19 [Bu row, aTm a, aTm b] (AR (DA row a b)) := by
 unfold DA
 refine Jk.ac fun C hC => ?_
 unfold Fq
 by_cases h : C3 row = 0
 ·repeat' (first | (with_reducible first | refine W ?_ | refine Z0 ?_ | ((first | refine Wo fun K hK => ?_ | refine Wp ?_ | refine Wq ?_ | refine Wr ?_); (try simp only [go_sem, fN, seval, eT, iR, h, dT, dF, nL]); (repeat refine Ai ?_); (try (refine hK _ ?_; clear hK K)); try refine iC ?_)) | refine Cg _ (IV row) ?_ | refine Cg _ (L3 a b) ?_)
  simp only [go_sem, fN, seval, AN, AS.result, AB, AD, AK, h]
 ·repeat' (first | (with_reducible first | refine W ?_ | refine Z0 ?_ | ((first | refine Wo fun K hK => ?_ | refine Wp ?_ | refine Wq ?_ | refine Wr ?_); (try simp only [go_sem, fN, seval, eT, iR, h, dT, dF, nL]); (repeat refine Ai ?_); (try (refine hK _ ?_; clear hK K)); try refine iC ?_)) | refine Cg _ (IV row) ?_)
  simp only [go_sem, fN, seval, AN, AS.result, AB, AD, AK, h]
theorem LO {row : List ByteArray} {a b : Tm} (h : DA row a b = 0) : C3 row = 0 ∧ a.may = 0 ∧ b.may = 0 := by
 unfold DA CO at h
 split at h
 ·rename_i h1
  split at h
  ·rename_i h2
   exact ⟨h1, h2, h⟩
  ·rename_i h2
   exact absurd h h2
 ·rename_i h1
  exact absurd h h1

def FJ (row : List ByteArray) (cs ds : List SV) (x : SV) : Prop := ∃ a b, cs = Ap a ∧ ds = Ap b ∧ x = .bool (paB row a b)
def HM (row : List ByteArray) (m : Nat) : AJ := .box 69 [.st (.list (row.map C5)), .mptr m]
abbrev H5 (t : Tm) : AV := .one (.eptr [.str t.name, .list (t.args.map Ap)])
theorem RN {row : List ByteArray} {a b : Tm} {cs ds : List SV} {x : SV} (h1 : QK (Ap a) cs) (h2 : QK (Ap b) ds) (h : FJ row cs ds x) : x = .bool (paB row a b) := by
 obtain ⟨a', b', rfl, rfl, rfl⟩ := h
 rw [OZ h1, OZ h2]
def G8 (row : List ByteArray) (a b : Tm) : Prop := ∀ (p m : Nat) (S : AA), 1000 ≤ p → 1000 ≤ m → S p = some (HM row m) → S m = some (.memo (FJ row)) →
 Aq Try.prog 34 [.one (.ptr p 1 0 0), H5 a, H5 b] S (Ad (paB row a b)) S
def Tn (row : List ByteArray) (a b : Tm) : Prop := ∀ (p m : Nat) (S : AA), 1000 ≤ p → 1000 ≤ m → S p = some (HM row m) → S m = some (.memo (FJ row)) →
 Aq Try.prog 51 [.one (.ptr p 1 0 0), H5 a, H5 b] S (Ad (paB row a b)) S
theorem SN {row : List ByteArray} {a b : Tm} (hask : AZ a.name = false → Tn row a b) : G8 row a b := fun p m S hp hm sp sm => by
 refine Cp.acS fun hS C hC => ?_
 unfold Bf
 have n7 : S 7 = none := Aj hS (by omega)
 have p7 : ¬ p = 7 := by omega
 have m7 : ¬ m = 7 := by omega
 unfold HM at sp
 cases hv : AZ a.name with
 | true =>
  repeat' (first | (with_reducible first | refine W ?_ | refine Z0 ?_ | ((first | refine Wo fun K hK => ?_ | refine Wp ?_ | refine Wq ?_ | refine Wr ?_); (try simp only [go_sem, fN, seval, eT, iR, hv, dT, dF, nL]); (repeat refine Ai ?_); (try (refine hK _ ?_; clear hK K)); try refine iC ?_)) | refine Cg _ (Bm a.name) ?_)
  refine At (Ad false) hS trivial ?_ ?_ fun _ _ => rfl
  ·simp only [go_sem, fN, seval, eT, iR, AB, AD, AK]
  ·simp only [go_sem, fN, seval, eT, iR]
   rw [Sv hv]
 | false =>
  repeat' (first | (with_reducible first | refine W ?_ | refine Z0 ?_ | ((first | refine Wo fun K hK => ?_ | refine Wp ?_ | refine Wq ?_ | refine Wr ?_); (try simp only [go_sem, fN, seval, eT, iR, hv, n7, p7, m7, sp, sm, AS.caps, Ds, Ha, KQ, dT, dF, nL]); (repeat refine Ai ?_); (try (refine hK _ ?_; clear hK K)); try refine iC ?_)) | refine Cg _ (Bm a.name) ?_)
  refine ⟨rfl, ?_, fun cs' ds' x t1 t2 hf => ?_⟩
  ·refine hK _ ?_
   clear hK K
   refine Wb ?_
   repeat' with_reducible first | refine W ?_ | refine Z0 ?_ | ((first | refine Wo fun K hK => ?_ | refine Wp ?_ | refine Wq ?_ | refine Wr ?_); (try simp only [go_sem, fN, seval, eT, iR, hv, n7, p7, m7, sp, sm, dT, dF, nL]); (repeat refine Ai ?_); (try (refine hK _ ?_; clear hK K)); try refine iC ?_)
   refine ⟨_, [(p, HM row m), (m, .memo (FJ row))], fun q hq => ?_, fun T hT => hask hv (up1 p) (up1 m) (upS T) (BA p) (BA m) (by rw [BY, hT (p, HM row m) (by simp)]; rfl) (by rw [BY, hT (m, .memo (FJ row)) (by simp)]; rfl), ?_⟩
   ·simp only [List.mem_cons, List.not_mem_nil, or_false] at hq
    rcases hq with rfl | rfl
    ·simp only [go_sem, fN, seval, eT, iR, p7, sp, HM]
    ·simp only [go_sem, fN, seval, eT, iR, m7, sm]
   repeat' with_reducible first | refine W ?_ | refine Z0 ?_ | ((first | refine Wo fun K hK => ?_ | refine Wp ?_ | refine Wq ?_ | refine Wr ?_); (try simp only [go_sem, fN, seval, eT, iR, hv, n7, p7, m7, sp, sm, AS.caps, Ds, Ha, dT, dF, nL]); (repeat refine Ai ?_); (try (refine hK _ ?_; clear hK K)); try refine iC ?_)
   refine ⟨rfl, ⟨a, b, (Aa a).symm, (Aa b).symm, rfl⟩, ?_⟩
   refine hK _ ?_
   clear hK K
   refine Wb ?_
   repeat' with_reducible first | refine W ?_ | refine Z0 ?_ | ((first | refine Wo fun K hK => ?_ | refine Wp ?_ | refine Wq ?_ | refine Wr ?_); (try simp only [go_sem, fN, seval, eT, iR, n7, dT, dF, nL]); (repeat refine Ai ?_); (try (refine hK _ ?_; clear hK K)); try refine iC ?_)
   refine At (Ad (paB row a b)) hS trivial ?_ ?_ fun k hk => ?_
   ·simp only [go_sem, fN, seval, eT, iR, AB, AD, AK]
   ·rfl
   ·have k7 : ¬ k = 7 := by omega
    simp only [go_sem, fN, seval, eT, iR, k7]
  ·have hx := RN (a := a) (b := b) (by rw [Aa]; exact t1) (by rw [Aa]; exact t2) hf
   subst hx
   refine hK _ ?_
   clear hK K
   refine Wb ?_
   repeat' with_reducible first | refine W ?_ | refine Z0 ?_ | ((first | refine Wo fun K hK => ?_ | refine Wp ?_ | refine Wq ?_ | refine Wr ?_); (try simp only [go_sem, fN, seval, eT, iR, hv, n7, p7, m7, sp, sm, dT, dF, nL]); (repeat refine Ai ?_); (try (refine hK _ ?_; clear hK K)); try refine iC ?_)
   refine At (Ad (paB row a b)) hS trivial ?_ ?_ fun k hk => ?_
   ·simp only [go_sem, fN, seval, eT, iR, AB, AD, AK]
   ·rfl
   ·have k7 : ¬ k = 7 := by omega
    simp only [go_sem, fN, seval, eT, iR, k7]
theorem L0 {a b : Tm} : a.beq b = true ↔ a = b := Tm.beq_iff a b
theorem Tk {row : List ByteArray} {a b : Tm} (hv : AZ a.name = false) (ha : a.size ≤ 1000000) (hb : b.size ≤ 1000000) (ih1 : ∀ x ∈ a.args, G8 row x b) (ih2 : ∀ y ∈ b.args, G8 row a y) (ih3 : ∀ x ∈ a.args, ∀ y ∈ b.args, G8 row x y) : Tn row a b := fun p m S hp hm sp sm => by
 refine C7.acS fun hS C hC => ?_
 unfold Bn
 have hla := Tm.length_le a.args
 have hlb := Tm.length_le b.args
 have hsa := Tm.size_eq a
 have hsb := Tm.size_eq b
 have sp0 := sp
 unfold HM at sp
 have rows : ∀ q ∈ [(p, HM row m), (m, AJ.memo (FJ row))], S q.1 = some q.2 := fun q hq => by
  simp only [List.mem_cons, List.not_mem_nil, or_false] at hq
  rcases hq with rfl | rfl
  ·exact sp0
  ·exact sm
 have call : ∀ x y : Tm, G8 row x y → ∀ T : AA, (∀ q ∈ [(p, HM row m), (m, AJ.memo (FJ row))], T q.1 = some q.2) → Aq Try.prog 34 [.one (.ptr (up1 p) 1 0 0), H5 x, H5 y] (upS T) (Ad (paB row x y)) (upS T) := fun x y h T hT =>
  h (up1 p) (up1 m) (upS T) (BA p) (BA m) (by rw [BY, hT (p, HM row m) (by simp)]; rfl) (by rw [BY, hT (m, .memo (FJ row)) (by simp)]; rfl)
 repeat' with_reducible first | refine W ?_ | refine Z0 ?_ | ((first | refine Wo fun K hK => ?_ | refine Wp ?_ | refine Wq ?_ | refine Wr ?_); (try simp only [go_sem, fN, seval, eT, iR, dT, dF, nL]); (repeat refine Ai ?_); (try (refine hK _ ?_; clear hK K)); try refine iC ?_)
 refine IWP.loop (fun n s => ∃ k, k ≤ a.args.length ∧ n = a.args.length - k ∧ (∀ x ∈ a.args.take k, x ≠ b ∧ paB row x b = false) ∧ s.env 0 = .one (.ptr p 1 0 0) ∧ s.env 1 = H5 a ∧ s.env 2 = H5 b ∧ s.env 6 = Ad false ∧ s.env 15 = AR a.args.length ∧ s.env 16 = AR k ∧ s.S = S) a.args.length ⟨0, Nat.zero_le _, rfl, by simp, by (simp only [go_sem, fN, seval, eT, iR]), by (simp only [go_sem, fN, seval, eT, iR]), by (simp only [go_sem, fN, seval, eT, iR]), by (simp only [go_sem, fN, seval, eT, iR]), by (simp only [go_sem, fN, seval, eT, iR]), by (simp only [go_sem, fN, seval, eT, iR]), rfl⟩ ?_
 rintro n ⟨env, S1⟩ ⟨k, hk, rfl, hno, e0, e1, e2, e6, e15, e16, hS1⟩
 simp only at e0 e1 e2 e6 e15 e16 hS1
 subst hS1
 by_cases hlt : (k : Int) < a.args.length
 ·obtain ⟨x, hx⟩ := Ay (show k < a.args.length by omega)
  have hxm := Ah hx
  cases hxb : x.beq b with
  | true =>
   repeat' (first | (with_reducible first | refine W ?_ | refine Z0 ?_ | ((first | refine Wo fun K hK => ?_ | refine Wp ?_ | refine Wq ?_ | refine Wr ?_); (try simp only [go_sem, fN, seval, eT, iR, e0, e1, e2, e6, e15, e16, hlt, hx, hxb, Aa, dT, dF, nL]); (repeat refine Ai ?_); (try (refine hK _ ?_; clear hK K)); try refine iC ?_)) | refine Cg _ (LK x b) ?_)
   refine At (Ad true) hS trivial ?_ ?_ fun _ _ => rfl
   ·simp only [go_sem, fN, seval, eT, iR, AB, AD, AK]
   ·simp only [go_sem, fN, seval, eT, iR]
    rw [O0 hv hxm (.inl (L0.1 hxb))]
  | false =>
   repeat' (first | (with_reducible first | refine W ?_ | refine Z0 ?_ | ((first | refine Wo fun K hK => ?_ | refine Wp ?_ | refine Wq ?_ | refine Wr ?_); (try simp only [go_sem, fN, seval, eT, iR, e0, e1, e2, e6, e15, e16, hlt, hx, hxb, Aa, dT, dF, nL]); (repeat refine Ai ?_); (try (refine hK _ ?_; clear hK K)); try refine iC ?_)) | refine Cg _ (LK x b) ?_)
   refine ⟨_, _, rows, call x b (ih1 x hxm), ?_⟩
   cases hp1 : paB row x b with
   | true =>
    repeat' with_reducible first | refine W ?_ | refine Z0 ?_ | ((first | refine Wo fun K hK => ?_ | refine Wp ?_ | refine Wq ?_ | refine Wr ?_); (try simp only [go_sem, fN, seval, eT, iR, e0, e1, e2, e6, e15, e16, hlt, hx, hxb, hp1, Aa, dT, dF, nL]); (repeat refine Ai ?_); (try (refine hK _ ?_; clear hK K)); try refine iC ?_)
    refine At (Ad true) hS trivial ?_ ?_ fun _ _ => rfl
    ·simp only [go_sem, fN, seval, eT, iR, AB, AD, AK]
    ·simp only [go_sem, fN, seval, eT, iR]
     rw [O0 hv hxm (.inr hp1)]
   | false =>
    repeat' with_reducible first | refine W ?_ | refine Z0 ?_ | ((first | refine Wo fun K hK => ?_ | refine Wp ?_ | refine Wq ?_ | refine Wr ?_); (try simp only [go_sem, fN, seval, eT, iR, e0, e1, e2, e6, e15, e16, hlt, hx, hxb, hp1, Aa, dT, dF, nL]); (repeat refine Ai ?_); (try (refine hK _ ?_; clear hK K)); try refine iC ?_)
    refine AO ⟨a.args.length - (k + 1), by omega, k + 1, by omega, rfl, fun y hy => ?_, ?_⟩
    ·rw [A0 hx, List.mem_append, List.mem_singleton] at hy
     rcases hy with hy | rfl
     ·exact hno y hy
     ·exact ⟨fun e => (by rw [L0.2 e] at hxb; cases hxb), hp1⟩
    ·simp only [go_sem, fN, seval, eT, iR, e0, e1, e2, e6, e15, e16]
     congr 3
 ·rw [List.take_of_length_le (by omega)] at hno
  repeat' with_reducible first | refine W ?_ | refine Z0 ?_ | ((first | refine Wo fun K hK => ?_ | refine Wp ?_ | refine Wq ?_ | refine Wr ?_); (try simp only [go_sem, fN, seval, eT, iR, e0, e1, e2, e6, e15, e16, hlt, Aa, dT, dF, nL]); (repeat refine Ai ?_); (try (refine hK _ ?_; clear hK K)); try refine iC ?_)
  refine ⟨_, Bm b.name, ?_⟩
  cases hvb : AZ b.name with
  | true =>
   repeat' with_reducible first | refine W ?_ | refine Z0 ?_ | ((first | refine Wo fun K hK => ?_ | refine Wp ?_ | refine Wq ?_ | refine Wr ?_); (try simp only [go_sem, fN, seval, eT, iR, e0, e1, e2, e6, hvb, Aa, dT, dF, nL]); (repeat refine Ai ?_); (try (refine hK _ ?_; clear hK K)); try refine iC ?_)
   refine At (Ad false) hS trivial ?_ ?_ fun _ _ => rfl
   ·simp only [go_sem, fN, seval, eT, iR, AB, AD, AK]
   ·simp only [go_sem, fN, seval, eT, iR]
    rw [In hv hno (.inl hvb)]
  | false =>
   repeat' with_reducible first | refine W ?_ | refine Z0 ?_ | ((first | refine Wo fun K hK => ?_ | refine Wp ?_ | refine Wq ?_ | refine Wr ?_); (try simp only [go_sem, fN, seval, eT, iR, e0, e1, e2, e6, hvb, sp, Aa, dT, dF, nL]); (repeat refine Ai ?_); (try (refine hK _ ?_; clear hK K)); try refine iC ?_)
   refine ⟨_, Pt row a b, ?_⟩
   by_cases hsy : BW row a b < 0
   ·repeat' with_reducible first | refine W ?_ | refine Z0 ?_ | ((first | refine Wo fun K hK => ?_ | refine Wp ?_ | refine Wq ?_ | refine Wr ?_); (try simp only [go_sem, fN, seval, eT, iR, e0, e1, e2, e6, hvb, hsy, Aa, dT, dF, nL]); (repeat refine Ai ?_); (try (refine hK _ ?_; clear hK K)); try refine iC ?_)
    refine At (Ad false) hS trivial ?_ ?_ fun _ _ => rfl
    ·simp only [go_sem, fN, seval, eT, iR, AB, AD, AK]
    ·simp only [go_sem, fN, seval, eT, iR]
     rw [In hv hno (.inr (.inl hsy))]
   ·repeat' with_reducible first | refine W ?_ | refine Z0 ?_ | ((first | refine Wo fun K hK => ?_ | refine Wp ?_ | refine Wq ?_ | refine Wr ?_); (try simp only [go_sem, fN, seval, eT, iR, e0, e1, e2, e6, hvb, hsy, Aa, dT, dF, nL]); (repeat refine Ai ?_); (try (refine hK _ ?_; clear hK K)); try refine iC ?_)
    refine IWP.loop (fun n s => ∃ j, j ≤ b.args.length ∧ n = b.args.length - j ∧ (∀ y ∈ b.args.take j, paB row a y = true) ∧ s.env 0 = .one (.ptr p 1 0 0) ∧ s.env 1 = H5 a ∧ s.env 2 = H5 b ∧ s.env 6 = Ad false ∧ s.env 8 = AR (BW row a b) ∧ s.env 64 = AR b.args.length ∧ s.env 65 = AR j ∧ s.S = S1) b.args.length ⟨0, Nat.zero_le _, rfl, by simp, by (simp only [go_sem, fN, seval, eT, iR, e0]), by (simp only [go_sem, fN, seval, eT, iR, e1]), by (simp only [go_sem, fN, seval, eT, iR, e2]), by (simp only [go_sem, fN, seval, eT, iR, e6]), by (simp only [go_sem, fN, seval, eT, iR]), by (simp only [go_sem, fN, seval, eT, iR]), by (simp only [go_sem, fN, seval, eT, iR]), rfl⟩ ?_
    clear e0 e1 e2 e6 e15 e16 hlt
    rintro n ⟨env, S2⟩ ⟨j, hj, rfl, hall, e0, e1, e2, e6, e8, e64, e65, hS2⟩
    simp only at e0 e1 e2 e6 e8 e64 e65 hS2
    subst hS2
    by_cases hlt : (j : Int) < b.args.length
    ·obtain ⟨y, hy⟩ := Ay (show j < b.args.length by omega)
     have hym := Ah hy
     repeat' with_reducible first | refine W ?_ | refine Z0 ?_ | ((first | refine Wo fun K hK => ?_ | refine Wp ?_ | refine Wq ?_ | refine Wr ?_); (try simp only [go_sem, fN, seval, eT, iR, e0, e1, e2, e6, e8, e64, e65, hlt, hy, Aa, dT, dF, nL]); (repeat refine Ai ?_); (try (refine hK _ ?_; clear hK K)); try refine iC ?_)
     refine ⟨_, _, rows, call a y (ih2 y hym), ?_⟩
     cases hq : paB row a y with
     | false =>
      repeat' with_reducible first | refine W ?_ | refine Z0 ?_ | ((first | refine Wo fun K hK => ?_ | refine Wp ?_ | refine Wq ?_ | refine Wr ?_); (try simp only [go_sem, fN, seval, eT, iR, e0, e1, e2, e6, e8, e64, e65, hlt, hy, hq, Aa, dT, dF, nL]); (repeat refine Ai ?_); (try (refine hK _ ?_; clear hK K)); try refine iC ?_)
      refine At (Ad false) hS trivial ?_ ?_ fun _ _ => rfl
      ·simp only [go_sem, fN, seval, eT, iR, AB, AD, AK]
      ·simp only [go_sem, fN, seval, eT, iR]
       rw [In hv hno (.inr (.inr ⟨y, hym, hq⟩))]
     | true =>
      repeat' with_reducible first | refine W ?_ | refine Z0 ?_ | ((first | refine Wo fun K hK => ?_ | refine Wp ?_ | refine Wq ?_ | refine Wr ?_); (try simp only [go_sem, fN, seval, eT, iR, e0, e1, e2, e6, e8, e64, e65, hlt, hy, hq, Aa, dT, dF, nL]); (repeat refine Ai ?_); (try (refine hK _ ?_; clear hK K)); try refine iC ?_)
      refine AO ⟨b.args.length - (j + 1), by omega, j + 1, by omega, rfl, fun u hu => ?_, ?_⟩
      ·rw [A0 hy, List.mem_append, List.mem_singleton] at hu
       rcases hu with hu | rfl
       ·exact hall u hu
       ·exact hq
      ·simp only [go_sem, fN, seval, eT, iR, e0, e1, e2, e6, e8, e64, e65]
       congr 3
    ·rw [List.take_of_length_le (by omega)] at hall
     by_cases hgt : 0 < BW row a b
     ·repeat' with_reducible first | refine W ?_ | refine Z0 ?_ | ((first | refine Wo fun K hK => ?_ | refine Wp ?_ | refine Wq ?_ | refine Wr ?_); (try simp only [go_sem, fN, seval, eT, iR, e0, e1, e2, e6, e8, e64, e65, hlt, hgt, Aa, dT, dF, nL]); (repeat refine Ai ?_); (try (refine hK _ ?_; clear hK K)); try refine iC ?_)
      refine At (Ad true) hS trivial ?_ ?_ fun _ _ => rfl
      ·simp only [go_sem, fN, seval, eT, iR, AB, AD, AK]
      ·simp only [go_sem, fN, seval, eT, iR]
       rw [TZ hv hvb hgt hall]
     ·have hz : BW row a b = 0 := by omega
      have hll := (DE.1 hz).2
      repeat' with_reducible first | refine W ?_ | refine Z0 ?_ | ((first | refine Wo fun K hK => ?_ | refine Wp ?_ | refine Wq ?_ | refine Wr ?_); (try simp only [go_sem, fN, seval, eT, iR, e0, e1, e2, e6, e8, e64, e65, hlt, hgt, Aa, dT, dF, nL]); (repeat refine Ai ?_); (try (refine hK _ ?_; clear hK K)); try refine iC ?_)
      refine IWP.loop (fun n s => ∃ i, i ≤ a.args.length ∧ n = a.args.length - i ∧ a.args.take i = b.args.take i ∧ s.env 0 = .one (.ptr p 1 0 0) ∧ s.env 1 = H5 a ∧ s.env 2 = H5 b ∧ s.env 6 = Ad false ∧ s.env 85 = AR a.args.length ∧ s.env 86 = AR i ∧ s.S = S2) a.args.length ⟨0, Nat.zero_le _, rfl, by simp, by (simp only [go_sem, fN, seval, eT, iR, e0]), by (simp only [go_sem, fN, seval, eT, iR, e1]), by (simp only [go_sem, fN, seval, eT, iR, e2]), by (simp only [go_sem, fN, seval, eT, iR, e6]), by (simp only [go_sem, fN, seval, eT, iR]), by (simp only [go_sem, fN, seval, eT, iR]), rfl⟩ ?_
      clear e0 e1 e2 e6 e8 e64 e65 hlt
      rintro n ⟨env, S3⟩ ⟨i, hi, rfl, hpre, e0, e1, e2, e6, e85, e86, hS3⟩
      simp only at e0 e1 e2 e6 e85 e86 hS3
      subst hS3
      by_cases hlt : (i : Int) < a.args.length
      ·obtain ⟨x, hx⟩ := Ay (show i < a.args.length by omega)
       obtain ⟨y, hy⟩ := Ay (show i < b.args.length by omega)
       repeat' with_reducible first | refine W ?_ | refine Z0 ?_ | ((first | refine Wo fun K hK => ?_ | refine Wp ?_ | refine Wq ?_ | refine Wr ?_); (try simp only [go_sem, fN, seval, eT, iR, e0, e1, e2, e6, e85, e86, hlt, hx, hy, Aa, dT, dF, nL]); (repeat refine Ai ?_); (try (refine hK _ ?_; clear hK K)); try refine iC ?_)
       refine ⟨_, LK x y, ?_⟩
       cases hxy : x.beq y with
       | true =>
        repeat' with_reducible first | refine W ?_ | refine Z0 ?_ | ((first | refine Wo fun K hK => ?_ | refine Wp ?_ | refine Wq ?_ | refine Wr ?_); (try simp only [go_sem, fN, seval, eT, iR, e0, e1, e2, e6, e85, e86, hlt, hx, hy, hxy, Aa, dT, dF, nL]); (repeat refine Ai ?_); (try (refine hK _ ?_; clear hK K)); try refine iC ?_)
        refine AO ⟨a.args.length - (i + 1), by omega, i + 1, by omega, rfl, ?_, ?_⟩
        ·rw [A0 hx, A0 hy, hpre, L0.1 hxy]
        ·simp only [go_sem, fN, seval, eT, iR, e0, e1, e2, e6, e85, e86]
         congr 3
       | false =>
        repeat' with_reducible first | refine W ?_ | refine Z0 ?_ | ((first | refine Wo fun K hK => ?_ | refine Wp ?_ | refine Wq ?_ | refine Wr ?_); (try simp only [go_sem, fN, seval, eT, iR, e0, e1, e2, e6, e85, e86, hlt, hx, hy, hxy, Aa, dT, dF, nL]); (repeat refine Ai ?_); (try (refine hK _ ?_; clear hK K)); try refine iC ?_)
        refine ⟨_, _, rows, call x y (ih3 x (Ah hx) y (Ah hy)), ?_⟩
        repeat' with_reducible first | refine W ?_ | refine Z0 ?_ | ((first | refine Wo fun K hK => ?_ | refine Wp ?_ | refine Wq ?_ | refine Wr ?_); (try simp only [go_sem, fN, seval, eT, iR, e0, e1, e2, e6, e85, e86, hlt, hx, hy, hxy, Aa, dT, dF, nL]); (repeat refine Ai ?_); (try (refine hK _ ?_; clear hK K)); try refine iC ?_)
        refine At (Ad (paB row x y)) hS trivial ?_ ?_ fun _ _ => rfl
        ·simp only [go_sem, fN, seval, eT, iR, AB, AD, AK]
        ·rw [QM hv hvb hno hz hall hpre hx hy fun e => by rw [L0.2 e] at hxy; cases hxy]
         rfl
      ·have hae : a.args = b.args := by
        rw [List.take_of_length_le (by omega), List.take_of_length_le (by omega)] at hpre
        exact hpre
       repeat' with_reducible first | refine W ?_ | refine Z0 ?_ | ((first | refine Wo fun K hK => ?_ | refine Wp ?_ | refine Wq ?_ | refine Wr ?_); (try simp only [go_sem, fN, seval, eT, iR, e0, e1, e2, e6, e85, e86, hlt, Aa, dT, dF, nL]); (repeat refine Ai ?_); (try (refine hK _ ?_; clear hK K)); try refine iC ?_)
       refine At (Ad false) hS trivial ?_ ?_ fun _ _ => rfl
       ·simp only [go_sem, fN, seval, eT, iR, AB, AD, AK, e6]
       ·simp only [go_sem, fN, seval, eT, iR]
        rw [RS hv hno hz hae]
theorem FT (row : List ByteArray) : ∀ (N : Nat) (a b : Tm), SizeOf.sizeOf a + SizeOf.sizeOf b < N → a.size ≤ 1000000 → b.size ≤ 1000000 → G8 row a b
 | 0, _, _, h, _, _ => absurd h (Nat.not_lt_zero _)
 | N + 1, a, b, h, ha, hb => SN fun hv => Tk hv ha hb
   (fun x hx => FT row N x b (by have := Tm.lt_of_arg hx; omega) (by have := Tm.size_mem hx; have := Tm.size_eq a; omega) hb)
   (fun y hy => FT row N a y (by have := Tm.lt_of_arg hy; omega) ha (by have := Tm.size_mem hy; have := Tm.size_eq b; omega))
   (fun x hx y hy => FT row N x y (by have := Tm.lt_of_arg hx; have := Tm.lt_of_arg hy; omega) (by have := Tm.size_mem hx; have := Tm.size_eq a; omega) (by have := Tm.size_mem hy; have := Tm.size_eq b; omega))
def Ss (t : Tm) : AJ := .box 27 ([SV.str t.name, SV.list (t.args.map Ap)].map .st)
theorem Rw (row : List ByteArray) (a b : Tm) (ha : a.size ≤ 1000000) (hb : b.size ≤ 1000000) : AT Try.prog 20 [Bu row, aTm a, aTm b] (Ad (paB row a b)) := by
 refine JA.ac fun C hC => ?_
 unfold FN
 refine IWP.mid (fun x => x.env 0 = Bu row ∧ x.env 4 = .one (.ptr 4 1 0 0) ∧ x.env 5 = .one (.ptr 5 1 0 0) ∧ x.S = AG (AG noS 4 (some (Ss a))) 5 (some (Ss b))) ?_ ?_
 ·repeat' with_reducible first | refine W ?_ | refine Z0 ?_ | ((first | refine Wo fun K hK => ?_ | refine Wq ?_ | refine Wr ?_); (try simp only [go_sem, fN, seval, eT, iR, Aa]); (repeat refine Ai ?_); (try (refine hK _ ?_; clear hK K)))
  exact ⟨rfl, rfl, rfl, rfl, rfl⟩
 rintro ⟨env, S⟩ ⟨e0, e4, e5, hS⟩
 simp only at e0 e4 e5 hS
 subst hS
 refine IWP.mid (fun x => x.env 4 = .one (.ptr 4 1 0 0) ∧ x.env 5 = .one (.ptr 5 1 0 0) ∧ x.env 7 = .one (.ptr 11 1 0 0) ∧ x.S = AG (AG (AG (AG noS 4 (some (Ss a))) 5 (some (Ss b))) 9 (some (.memo fun _ _ _ => False))) 11 (some (HM row 9))) ?_ ?_
 ·repeat' with_reducible first | refine W ?_ | refine Z0 ?_ | ((first | refine Wo fun K hK => ?_ | refine Wq ?_ | refine Wr ?_); (try simp only [go_sem, fN, seval, eT, iR, e0, e4, e5, Aa]); (repeat refine Ai ?_); (try (refine hK _ ?_; clear hK K)))
  exact ⟨rfl, e4, e5, rfl, rfl⟩
 rintro ⟨env, S⟩ ⟨e4, e5, e7, hS⟩
 simp only at e4 e5 e7 hS
 subst hS
 refine IWP.ghost (Ac.memoWeak (id := 9) (f' := FJ row) rfl fun _ _ _ h => h.elim) ?_
 refine IWP.ghost (Ac.freeze 4 [4] (ty := 27) (xs := [SV.str a.name, SV.list (a.args.map Ap)]) rfl (Nat.succ_pos _) (fun t ht => by rw [List.mem_singleton] at ht; subst ht; exact e4)) ?_
 refine IWP.ghost (Ac.freeze 5 [5] (ty := 27) (xs := [SV.str b.name, SV.list (b.args.map Ap)]) rfl (Nat.succ_pos _) (fun t ht => by rw [List.mem_singleton] at ht; subst ht; exact e5)) ?_
 repeat' with_reducible first | refine W ?_ | refine Z0 ?_ | ((first | refine Wo fun K hK => ?_ | refine Wp ?_ | refine Wq ?_ | refine Wr ?_); (try simp only [go_sem, fN, seval, eT, iR, e4, e5, e7, AS.set, List.mem_singleton, dT, dF, nL]); (repeat refine Ai ?_); (try (refine hK _ ?_; clear hK K)); try refine iC ?_)
 refine ⟨_, [(11, HM row 9), (9, .memo (FJ row))], fun q hq => ?_, fun T hT => FT row _ a b (Nat.lt_succ_self _) ha hb (up1 11) (up1 9) (upS T) (BA _) (BA _) (by rw [BY, hT (11, HM row 9) (by simp)]; rfl) (by rw [BY, hT (9, .memo (FJ row)) (by simp)]; rfl), ?_⟩
 ·simp only [List.mem_cons, List.not_mem_nil, or_false] at hq
  rcases hq with rfl | rfl <;> rfl
 repeat' with_reducible first | refine W ?_ | refine Z0 ?_ | ((first | refine Wo fun K hK => ?_ | refine Wp ?_ | refine Wq ?_ | refine Wr ?_); (try simp only [go_sem, fN, seval, eT, iR, e4, e5, e7, AS.set, List.mem_singleton, dT, dF, nL]); (repeat refine Ai ?_); (try (refine hK _ ?_; clear hK K)); try refine iC ?_)
 simp only [go_sem, fN, seval, AN, AS.result, AB, AD, AK]
noncomputable def OP (row : List ByteArray) (a b : Tm) : Bool := if DA row a b = 0 then paB row a b else false
theorem MV (row : List ByteArray) (a b : Tm) : AT Try.prog 8 [Bu row, aTm a, aTm b] (.tup [Ad (OP row a b), AR (DA row a b)]) := by
 unfold OP
 refine Jp.ac fun C hC => ?_
 unfold F5
 by_cases h : DA row a b = 0
 ·obtain ⟨_, h1, h2⟩ := LO h
  have z1 := (Tm.may_chk h1).2
  have z2 := (Tm.may_chk h2).2
  repeat' (first | (with_reducible first | refine W ?_ | refine Z0 ?_ | ((first | refine Wo fun K hK => ?_ | refine Wp ?_ | refine Wq ?_ | refine Wr ?_); (try simp only [go_sem, fN, seval, eT, iR, h, dT, dF, nL]); (repeat refine Ai ?_); (try (refine hK _ ?_; clear hK K)); try refine iC ?_)) | refine Cg _ (H0 row a b) ?_ | refine Cg _ (Rw row a b (by omega) (by omega)) ?_)
  simp only [go_sem, fN, seval, AN, AS.result, AB, AD, AK, h]
  try rfl
 ·repeat' (first | (with_reducible first | refine W ?_ | refine Z0 ?_ | ((first | refine Wo fun K hK => ?_ | refine Wp ?_ | refine Wq ?_ | refine Wr ?_); (try simp only [go_sem, fN, seval, eT, iR, h, dT, dF, nL]); (repeat refine Ai ?_); (try (refine hK _ ?_; clear hK K)); try refine iC ?_)) | refine Cg _ (H0 row a b) ?_)
  simp only [go_sem, fN, seval, AN, AS.result, AB, AD, AK, h]
  try rfl

section
variable {P : Program} {C : Ctx} {a : Act} {w : World} {σ : Sto} {ι : An} {s : AS} {Q : Exit → Act → World → Prop} {o : Oper}
end
section
variable {P : Program} {C : Ctx} {mu : List Nat} {Q : AX → AS → Prop} {s : AS}
end

def S6 (P : Program) (f : FuncId) (caps : List AV) (Need : AA → Prop) {α : Type} (encs : α → List AV) (all : List α) : Prop :=
 ∀ (y : Nat) (Inv : List α → AA → Prop) (Jx : AA → Prop) (T : AA), 1000 ≤ y → (∀ pre T, Inv pre T → Need T) →
  (∀ pre v, (pre ++ [v]) <+: all → ∀ T, Inv pre T → Gl P (.one (.yld y)) (encs v) T fun r T' => (r = .one (.st (.bool true)) ∧ Inv (pre ++ [v]) T') ∨ (r = .one (.st (.bool false)) ∧ Jx T')) →
  Inv [] T → Fg P f (.one (.yld y) :: caps) T fun _ T' => Inv all T' ∨ Jx T'
def Ks (env : Nat → AV) : List Nat → List AV → Nat → AV
 | p :: ps, v :: vs => Ks (AG env p v) ps vs
 | _, _ => env
section
variable {σ : Sto} {S : AA} {ι : An}
theorem KG {n : Nat} : ∀ {ps : List Nat} {vs : List Value} {xs : List AV} {tmps : Array Value} {env : Nat → AV}, AY (AM σ S ι) vs xs → n ≤ tmps.size → (∀ i, i < n → AM σ S ι (tmps.getD i undef) (env i)) →
  n ≤ ((ps.zip vs).foldl (fun t (p, v) => t.setIfInBounds p v) tmps).size ∧ ∀ i, i < n → AM σ S ι (((ps.zip vs).foldl (fun t (p, v) => t.setIfInBounds p v) tmps).getD i undef) (Ks env ps xs i)
 | [], vs, xs, tmps, env, h, hs, he => ⟨hs, he⟩
 | p :: ps, [], [], tmps, env, h, hs, he => ⟨hs, he⟩
 | p :: ps, v :: vs, x :: xs, tmps, env, h, hs, he => by
  cases h with
  | cons h1 h2 =>
   refine KG (ps := ps) h2 (by simpa using hs) fun i hi => ?_
   unfold AG
   by_cases e : i = p
   ·subst e
    rw [if_pos rfl, Array.getD_eq_getD_getElem?, Array.getElem?_setIfInBounds_self_of_lt (by omega)]
    exact h1
   ·rw [if_neg e, Array.getD_eq_getD_getElem?, Array.getElem?_setIfInBounds_ne (fun h => e h.symm), ← Array.getD_eq_getD_getElem?]
    exact he i hi
end
section
variable {P : Program} {C : Ctx} {mu : List Nat} {Q : AX → AS → Prop} {s : AS} {x y : IR} {σ : Sto} {ι : An} {a : Act} {w : World}
theorem AL.upped (R : AL C σ ι s a w) : ∃ ι1 : An, (∀ i, ι1 (up1 i) = ι i) ∧ EF σ (upS s.S) ι1 w ∧ (∀ v c, AM σ s.S ι v c → AM σ (upS s.S) ι1 v (c.ren up1)) ∧
  ∀ {Post : AV → AA → Prop} {e : Ending} {w' : World}, Nm σ (upS s.S) ι1 w Post e w' → ∃ v r S' σ' ι2, e = .returned v ∧ Post r S' ∧ Am S' ∧ Upd s.S ι (dnS S') ι2 ∧ AL C σ' ι2 ⟨s.env, dnS S'⟩ a w' := by
 have hup : ∀ i, dn1 (up1 i) = i := Iu
 have hS : ∀ i b, s.S i = some b → upS s.S (up1 i) = some (b.ren up1) := fun i b hb => C2 hb
 obtain ⟨ι1, hι1⟩ : ∃ ι1 : An, ∀ i, ι1 i = ι (dn1 i) := ⟨fun i => ι (dn1 i), fun _ => rfl⟩
 have hι : ∀ i b, s.S i = some b → ι1 (up1 i) = ι i := fun i b _ => by rw [hι1, hup]
 have hown : EF σ (upS s.S) ι1 w := by
  refine ⟨fun id b hb => ?_, fun id id' b b' g h1 h2 g1 g2 => ?_⟩
  ·obtain ⟨hle, b', h1, rfl⟩ := Dc hb
   have := Ba.ren (S2 := upS s.S) (ι2 := ι1) (ρ := up1) hS hι (R.blk _ _ h1)
   rw [hι1]
   exact this
  ·obtain ⟨l1, c1, k1, _⟩ := Dc h1
   obtain ⟨l2, c2, k2, _⟩ := Dc h2
   rw [hι1] at g1 g2
   have := R.inj _ _ _ _ g k1 k2 g1 g2
   rw [← Ii l1, ← Ii l2, this]
 refine ⟨ι1, fun i => by rw [hι1, hup], hown, fun v c hv => AM.ren (S2 := upS s.S) (ι2 := ι1) (ρ := up1) hS hι hv, fun {Post e w'} he => ?_⟩
 obtain ⟨v, r, S', σ', ι', rfl, hP, hclean, hupd, hown', hv, hf', hkeep, hold, hos, hsz, hsame, hbase⟩ := he
 have hSd : ∀ i b, S' i = some b → dnS S' (dn1 i) = some (b.ren dn1) := fun i b hb => FL (hclean i b hb).1 hb
 obtain ⟨ι2, hι2⟩ : ∃ ι2 : An, ∀ i, ι2 i = ι' (up1 i) := ⟨fun i => ι' (up1 i), fun _ => rfl⟩
 have hιd : ∀ i b, S' i = some b → ι2 (dn1 i) = ι' i := fun i b hb => by
  rw [hι2, Ii (hclean i b hb).1]
 have hu : Upd s.S ι (dnS S') ι2 := fun id b hb => by
  obtain ⟨b', h1, h2, h3⟩ := hupd _ _ (hS id b hb)
  have h4 := hSd _ _ h1
  rw [hup] at h4
  refine ⟨_, h4, by rw [BN] at h2 ⊢; exact h2, fun hl => ?_⟩
  rw [BN] at hl
  obtain ⟨q1, q2⟩ := h3 (by rw [BN]; exact hl)
  refine ⟨by rw [IJ] at q1 ⊢; exact q1, ?_⟩
  rw [hι2, q2, hι1, hup]
 have hnot : ∀ g, g < C.N → ¬ C.G g → Bt (upS s.S) ι1 g := fun g h1 h2 id b hb hg => by
  obtain ⟨_, b', k1, _⟩ := Dc hb
  rw [hι1] at hg
  rcases R.base _ _ g k1 hg with h | h
  ·omega
  ·exact h2 h
 refine ⟨v, r, S', σ', ι2, rfl, hP, hclean, hu, ?_⟩
 refine ⟨R.size, fun i hi => (R.env i hi).mono hkeep hu, R.nod.mono (fun D h => (hsame D (Array.getElem?_eq_some_iff.1 h).1 (Eb hown.1 h)).trans h), hf', fun id b hb => ?_, fun id id' b b' g h1 h2 g1 g2 => ?_, fun id b g hb hg => ?_, fun p x hx => hkeep _ _ (R.ext p x hx), fun p h1 h2 => ?_, ⟨hos.1.trans R.os.1, hos.2.1.trans R.os.2.1, hos.2.2.trans R.os.2.2⟩, ⟨Nat.le_trans R.grown.1 hsz, Nat.le_trans R.grown.2 hsz⟩, fun g h1 h2 => ?_, R.upd.trans hu⟩
 ·obtain ⟨b', h1, rfl⟩ := Dd hb
  have := Ba.ren (S2 := dnS S') (ι2 := ι2) (ρ := dn1) hSd hιd (hown'.1 _ _ h1)
  rw [hι2]
  exact this
 ·obtain ⟨c1, k1, _⟩ := Dd h1
  obtain ⟨c2, k2, _⟩ := Dd h2
  rw [hι2] at g1 g2
  have := congrArg dn1 (hown'.2 _ _ _ _ g k1 k2 g1 g2)
  rw [hup, hup] at this
  exact this
 ·obtain ⟨b', h1, _⟩ := Dd hb
  rw [hι2] at hg
  rcases hbase _ _ g h1 hg with h2 | h2
  ·exact .inl (by have := R.grown.1; omega)
  ·by_cases hN : g < C.N
   ·by_cases hG : C.G g
    ·exact .inr hG
    ·exact absurd (hnot g hN hG) h2
   ·exact .inl (by omega)
 ·exact (hold p (by have := R.grown.1; omega) (hnot _ h1 h2)).trans (R.old p h1 h2)
 ·exact (hsame g (by have := R.grown.1; omega) (hnot g h1 h2)).trans (R.same g h1 h2)
theorem AL.setLoop (R : AL C σ ι s a w) {id l : Nat} {env : List AV} {r : Loop} (r' : Loop) (hS : s.S id = some (.loop env r)) (hl : (ι id).g = some l) (hr : r'.tmps = r.tmps) : w.heap[l]? = some (.loop r) ∧ ∃ ι', AL C σ ι' (s.set id (.loop env r')) a (w.putObj l (.loop r')) ∧ Upd s.S ι (s.set id (.loop env r')).S ι' := by
 have hb := R.blk id _ hS
 cases hb with
 | loop h1 h2 h3 h4 h5 =>
  rw [hl] at h1
  cases h1
  exact ⟨h2, R.setBlk (o' := .loop r') hS hl h2 h5 rfl rfl fun S' ι' hu => .loop hl (CX h2).1 (by rw [hr]; exact h3) (fun j a ha => by rw [hr]; exact (h4 j a ha).mono (fun _ _ h => h) hu) h5⟩
def Lt (C : Ctx) (y : Nat) (b : AJ) (N : AA → Prop) (Jx : AX → AA → Prop) (e : AX) (s : AS) : Prop := ∃ s2 U, Ac C s s2 ∧ s2.S = AG U y (some b) ∧ Am s2.S ∧ U y = none ∧ match e with
 | .normal => N U
 | .ret => Jx .ret U
 | .exit i => Jx (.exit i) U
 | .pan _ => False
theorem Ea {C : Ctx} {σ0 : Sto} {T : AA} {ι0 : An} {w0 : World} (hC : C.N = w0.heap.size) (hw : C.w0 = w0) (hσ : C.σ0 = σ0) (hG : ∀ g, C.G g ↔ ¬ Bt T ι0 g) (hS0 : C.S0 = T) (hι0 : C.ι0 = ι0) (R : AL C σ ι s a w) (hc : Am s.S) {Post : AV → AA → Prop} {b : Bool} (hP : Post (.one (.st (.bool b))) s.S) : Nm σ0 T ι0 w0 Post (.returned (.bool b)) w := by
 have hupd := R.upd
 rw [hS0, hι0] at hupd
 subst hσ hw
 exact ⟨.bool b, _, s.S, σ, ι, rfl, hP, hc, hupd, ⟨R.blk, R.inj⟩, .one (.st .bool), R.fit, R.ext, fun p h1 h2 => R.old p (by rw [hC]; exact h1) (fun h => (hG _).1 h h2), R.os, R.grown.2, fun g h1 h2 => R.same g (by rw [hC]; exact h1) (fun h => (hG _).1 h h2), fun id b g h1 h2 => (R.base id b g h1 h2).imp (fun h => by rw [← hC]; exact h) fun h => (hG _).1 h⟩
theorem K0 {S : AA} {i : Nat} {b c : Option AJ} : AG (AG S i b) i c = AG S i c := by
 funext j
 unfold AG
 split <;> rfl
inductive SZ : Code → AX → Prop
 | ret : SZ .ret .ret
 | exit (i : Nat) : SZ (.exit i) (.exit i)
theorem RI {fn : FuncId} {ps : Array Tmp} {ca cb : Code} {D : Nat} {n : Nat} {env : List AV} {tmps : Array Value} (hx : A5 P n mu ca = some x) (hy : A5 P n mu cb = some y) (hn : env.length = n) {yb : Nat} (hyb : 1000 ≤ yb) {rec : LoopState → Option Code → Loop} (hrec : rec = fun st pe => { state := st, pending := pe, fn, tmps, params := ps, assign := ca, body := cb, defers := D }) {vs : List AV} (hps : vs.length = ps.size)
  {U : AA} (hU : U yb = none) {N : AA → Prop} {Jx : AX → AA → Prop}
  (h : Am (AG U yb (some (.loop env (rec .ready none)))) → ∀ C' : Ctx, C'.n = n → IWP P C' mu x (AX.then (fun s1 => s1.S yb = some (.loop env (rec .ready none)) ∧ IWP P C' mu y (Lt C' yb (.loop env (rec .busy none)) N Jx) (s1.set yb (.loop env (rec .busy none)))) fun _ _ => False) ⟨Ks (fun i => (env[i]?).getD .any) ps.toList vs, AG U yb (some (.loop env (rec .ready none)))⟩) :
  Gl P (.one (.yld yb)) vs (AG U yb (some (.loop env (rec .ready none)))) fun r T' => (r = .one (.st (.bool true)) ∧ ∃ U', T' = AG U' yb (some (.loop env (rec .ready none))) ∧ U' yb = none ∧ N U') ∨
   (r = .one (.st (.bool false)) ∧ ∃ U' c e, T' = AG U' yb (some (.loop env (rec .done (some c)))) ∧ U' yb = none ∧ SZ c e ∧ Jx e U') := by
 intro hclean σ w vy xs ι hglob hfit hown hvy hxs
 obtain ⟨T, hT⟩ : ∃ T, AG U yb (some (.loop env (rec .ready none))) = T := ⟨_, rfl⟩
 have hTy : T yb = some (.loop env (rec .ready none)) := by rw [← hT]; exact AE _ _ _
 rw [hT] at hclean hown hvy hxs h ⊢
 have hhigh := (hclean _ _ hTy).2
 have hb := hown.1 _ _ hTy
 obtain ⟨l, hl, rfl⟩ : ∃ l, (ι yb).g = some l ∧ vy = .func (.yield l) #[] #[] := by
  cases hvy with
  | one hv =>
   cases hv with
   | yld k1 k2 k3 k4 =>
    rw [hTy] at k1
    cases k1
    exact k4 rfl
 have hlen := hxs.len
 cases hb with
 | loop k1 k2 k3 k4 k5 =>
 rw [hl] at k1
 cases k1
 have htm : (rec .ready none).tmps = tmps := by rw [hrec]
 refine ⟨l, rfl, fun ro => ⟨fn, _, ca, cb, by
  have := run_yield (P := P) (args := xs.toArray) k2 (by rw [hrec]; simp; omega)
  rw [hrec] at this
  exact this, ?_⟩⟩
 let C' : Ctx := ⟨n, w.heap.size, fun g => ¬ Bt T ι g, σ, w, T, ι, hclean, hglob, [], some l, false⟩
 have hset := KG (σ := σ) (S := T) (ι := ι) (n := n) (ps := ps.toList) (env := fun i => (env[i]?).getD .any) (tmps := tmps) hxs (by rw [htm] at k3; omega) fun i hi => by
  have hi' : i < env.length := by omega
  have := k4 i _ (List.getElem?_eq_getElem hi')
  rw [htm] at this
  simpa [hi'] using this
 have hfold : (ps.zip xs.toArray).foldl (fun t (p, v) => t.setIfInBounds p v) tmps = (ps.toList.zip xs).foldl (fun t (p, v) => t.setIfInBounds p v) tmps := by
  rw [← Array.foldl_toList, Array.toList_zip]
 have R0 : AL C' σ ι ⟨Ks (fun i => (env[i]?).getD .any) ps.toList vs, T⟩ { tmps := (ps.zip xs.toArray).foldl (fun t (p, v) => t.setIfInBounds p v) tmps, defers := [] } w := by
  refine ⟨?_, fun i hi => ?_, Fe, hfit, hown.1, hown.2, fun id b g h hg => .inr (fun hno => hno id b h hg), fun _ _ h => h, fun _ _ _ => rfl, ⟨rfl, rfl, rfl⟩, ⟨Nat.le_refl _, Nat.le_refl _⟩, fun _ _ _ => rfl, Upd.refl _ _⟩
  ·dsimp only
   rw [hfold]
   exact hset.1
  ·dsimp only
   rw [hfold]
   exact hset.2 i hi
 refine roundIn_of_wpIn (F := fen ro) (n := 0) trivial (wpIn_mono (h hclean C' rfl ca hx _ w ⟨σ, ι, R0⟩) fun e a1 w1 he => ?_)
 have same : ∀ {σ1 : Sto} {ι1 : An} {s1 : AS} {a1 : Act} {w1 : World} {b : AJ}, AL C' σ1 ι1 s1 a1 w1 → s1.S yb = some b → b.len = 1 → (ι1 yb).g = some l := fun R1 hs hl1 => by
  obtain ⟨b', h1, h2, h3⟩ := R1.upd yb _ hTy
  rw [hs] at h1
  cases h1
  rw [(h3 hl1).2]
  exact hl
 cases e with
 | normal =>
  obtain ⟨s1, ⟨h1, h2⟩, σ1, ι1, R1⟩ := he
  obtain ⟨q1, ι2, R2, _⟩ := R1.setLoop (rec .busy none) h1 (same R1 h1 rfl) (by rw [hrec])
  refine ⟨_, by
   have := run_beginRound (P := P) q1 (by rw [hrec])
   rw [hrec] at this
   exact this, ?_⟩
  have e1 : (w1.putObj l (.loop (rec .busy none))) = w1.putObj l (.loop { state := .busy, pending := none, fn, tmps, params := ps, assign := ca, body := cb, defers := D }) := by rw [hrec]
  rw [← e1]
  refine wpIn_mono (h2 cb hy _ _ ⟨σ1, ι2, R2⟩) fun e3 a3 w3 he3 => ?_
  have fin : ∀ (jump : Option Code) (s3 s4 : AS) (U2 : AA), Ac C' s3 s4 → s4.S = AG U2 yb (some (.loop env (rec .busy none))) → Am s4.S → A6 C' s3 a3 w3 →
    ∃ σ5 ι5 s5, (Instr.endRound l jump).run P w3 = .ok (.bool jump.isNone) (w3.putObj l (.loop (rec (if jump.isNone then .ready else .done) jump))) ∧ s5.S = AG U2 yb (some (.loop env (rec (if jump.isNone then .ready else .done) jump))) ∧ Am s5.S ∧ AL C' σ5 ι5 s5 a3 (w3.putObj l (.loop (rec (if jump.isNone then .ready else .done) jump))) := fun jump s3 s4 U2 hg hS hc hH => by
   obtain ⟨σ4, ι4, R4⟩ := hg _ _ hH
   have h4 : s4.S yb = some (.loop env (rec .busy none)) := by rw [hS]; exact AE _ _ _
   obtain ⟨q2, ι5, R5, _⟩ := R4.setLoop (rec (if jump.isNone then .ready else .done) jump) h4 (same R4 h4 rfl) (by rw [hrec])
   refine ⟨σ4, ι5, _, ?_, ?_, ?_, R5⟩
   ·have := run_endRound (P := P) jump q2
    rw [hrec] at this ⊢
    exact this
   ·show AG s4.S yb _ = _
    rw [hS, K0]
   ·exact BZ hc hyb hhigh
  cases e3 with
  | normal =>
   obtain ⟨s3, ⟨s4, U2, g1, g2, g3, g4, g5⟩, hH⟩ := he3
   obtain ⟨σ5, ι5, s5, f1, f2, f3, R5⟩ := fin none s3 s4 U2 g1 g2 g3 hH
   exact ⟨_, _, f1, Ea (C := C') rfl rfl rfl (fun g => Iff.rfl) rfl rfl R5 f3 (.inl ⟨rfl, U2, f2, g4, g5⟩)⟩
  | ret =>
   obtain ⟨s3, ⟨s4, U2, g1, g2, g3, g4, g5⟩, hH⟩ := he3
   obtain ⟨σ5, ι5, s5, f1, f2, f3, R5⟩ := fin (some .ret) s3 s4 U2 g1 g2 g3 hH
   exact ⟨_, _, f1, Ea (C := C') rfl rfl rfl (fun g => Iff.rfl) rfl rfl R5 f3 (.inr ⟨rfl, U2, _, _, f2, g4, .ret, g5⟩)⟩
  | exit i =>
   obtain ⟨s3, ⟨s4, U2, g1, g2, g3, g4, g5⟩, hH⟩ := he3
   obtain ⟨σ5, ι5, s5, f1, f2, f3, R5⟩ := fin (some (.exit i)) s3 s4 U2 g1 g2 g3 hH
   exact ⟨_, _, f1, Ea (C := C') rfl rfl rfl (fun g => Iff.rfl) rfl rfl R5 f3 (.inr ⟨rfl, U2, _, _, f2, g4, .exit i, g5⟩)⟩
  | panic ch => obtain ⟨s3, v, ⟨⟨s4, U2, g1, g2, g3, g4, g5⟩, _⟩, _⟩ := he3; exact g5.elim
  | _ => exact he3.elim
 | panic ch => obtain ⟨s1, v, h1, h2⟩ := he; exact h1.1.elim
 | ret => obtain ⟨s1, h1, h2⟩ := he; exact h1.elim
 | exit i => obtain ⟨s1, h1, h2⟩ := he; exact h1.elim
 | _ => exact he.elim
def CS (n : Nat) (env : Nat → AV) : List AV := (List.range n).map env
theorem J5 {n : Nat} {env : Nat → AV} : (CS n env).length = n := by simp [CS]
theorem Q3 {n i : Nat} {env : Nat → AV} {a : AV} (h : (CS n env)[i]? = some a) : i < n ∧ a = env i := by
 unfold CS at h
 rw [List.getElem?_map, Option.map_eq_some_iff] at h
 obtain ⟨j, h1, h2⟩ := h
 obtain ⟨h3, h4⟩ := List.getElem?_eq_some_iff.1 h1
 simp at h3 h4
 subst h4
 exact ⟨h3, h2.symm⟩
theorem Jc {n : Nat} {c : Code} {g : Opd} {ps : List Nat} (h : A5 P n mu c = some (.rangeF g ps x y)) : ∃ g' ps' ca cb, c = .rangeFunc g' ps' ca cb ∧ AI n g' = some g ∧ ps'.toList = ps ∧ A5 P n mu ca = some x ∧ A5 P n mu cb = some y := by
 cases c <;> simp only [A5] at h
 case rangeFunc g' ps' ca cb =>
  split at h
  ·rename_i e1 e2 e3
   split at h
   ·cases h
    exact ⟨_, _, _, _, rfl, e1, rfl, e2, e3⟩
   ·cases h
  ·cases h
 all_goals (exfalso; revert h; (repeat' split) <;> simp)
theorem Sf {U : AA} {id : Nat} {b c : Option AJ} : AG (dnS (AG U (up1 id) b)) id c = AG (dnS U) id c := by
 funext j
 unfold AG
 by_cases e : j = id
 ·rw [if_pos e, if_pos e]
 ·rw [if_neg e, if_neg e]
  show (if j + 1000 = up1 id then b else U (j + 1000)).map (AJ.ren dn1) = (U (j + 1000)).map (AJ.ren dn1)
  rw [if_neg (show ¬ j + 1000 = up1 id by unfold up1; omega)]
theorem QB {U : AA} {i : Nat} {b : AJ} (h : Am (AG U i (some b))) (hU : U i = none) : Am U := fun j c hc => h j c (by
 rw [AH _ (fun e => by rw [e, hU] at hc; cases hc)]
 exact hc)
def EM (n : Nat) (env : Nat → AV) : Nat → AV := fun i => if i < n then (env i).ren up1 else .any
theorem Re {n : Nat} {env : Nat → AV} : (fun i => ((AV.rens up1 (CS n env))[i]?).getD .any) = EM n env := by
 funext i
 unfold EM CS
 rw [AV.rens_eq, List.map_map, List.getElem?_map]
 by_cases h : i < n
 ·rw [if_pos h, List.getElem?_range h]
  rfl
 ·rw [if_neg h, List.getElem?_eq_none (by simp; omega)]
  rfl
theorem IWP.rangeF {g : Opd} {ps : List Nat} (htop : C.Top) (id : Nat) (hid : id < 1000) (hfree : s.S id = none) {f : Nat} {caps : List AC} (hg : s.ev g = .one (.fn f caps)) (hpl : B0 P f = true) {α : Type} {encs : α → List AV} {all : List α} {Need : AA → Prop} (hit : S6 P f (AV.rens up1 (caps.map .one)) Need encs all)
  (hlen : ∀ v, (encs v).length = ps.length) (Inv : List α → AA → Prop) (Jx : AX → AA → Prop) (h0 : Inv [] (upS s.S)) (hneed : ∀ pre U b, Inv pre U → U (up1 id) = none → Need (AG U (up1 id) (some b)))
  (hbody : ∀ (C' : Ctx) (b0 b1 : AJ) (pre : List α) (v : α) (U : AA), C'.n = C.n → (pre ++ [v]) <+: all → Inv pre U → U (up1 id) = none → Am U → b1.high = true →
   IWP P C' mu x (AX.then (fun s1 => s1.S (up1 id) = some b0 ∧ IWP P C' mu y (Lt C' (up1 id) b1 (Inv (pre ++ [v])) Jx) (s1.set (up1 id) b1)) fun _ _ => False) ⟨Ks (EM C.n s.env) ps (encs v), AG U (up1 id) (some b0)⟩)
  (hdone : ∀ U, Inv all U → Q .normal ⟨s.env, AG (dnS U) id (some (.dead 1 0))⟩) (hjump : ∀ e U, Jx e U → Q e ⟨s.env, AG (dnS U) id (some (.dead 1 0))⟩) : IWP P C mu (.rangeF g ps x y) Q s := fun c hc a w hH => by
 obtain ⟨g', ps', ca, cb, rfl, hg', rfl, hx, hy⟩ := Jc hc
 obtain ⟨σ, ι, R⟩ := hH
 have rg := R.ev hg'
 rw [hg] at rg
 replace rg := AQ rg
 generalize hev : a.eval g' = fv at rg
 cases rg with
 | @fn _ vc _ cc g1 g2 g3 =>
 refine wpIn_rangeFunc fun fn hfn => ?_
 obtain ⟨rec, hrec⟩ : ∃ rec : LoopState → Option Code → Loop, rec = fun st pe => { state := st, pending := pe, fn, tmps := a.tmps, params := ps', assign := ca, body := cb, defers := w.heap.size } := ⟨_, rfl⟩
 obtain ⟨w1, hw1⟩ : ∃ w1, (w.alloc (.deferred (some []))).alloc (.loop (rec .ready none)) = w1 := ⟨_, rfl⟩
 have hsz : (w.alloc (.deferred (some []))).heap.size = w.heap.size + 1 := World.size_alloc _ _
 have R1 : AL C σ ι s { a with defers := Nq w.heap.size :: a.defers } (w.alloc (.deferred (some []))) := by
  have R' := R.more (w' := w.alloc (.deferred (some []))) (Ext.refl _ _) (R.fit.alloc _) (DU.alloc _ _)
  refine { R' with nod := ?_ }
  obtain ⟨l, h1, h2, h3, _⟩ := R.nod
  refine ⟨w.heap.size :: l, by show _ :: a.defers = _; rw [h1]; rfl, List.nodup_cons.2 ⟨fun hm => ?_, h2⟩, fun D hD => ?_, fun hm => by rw [htop.2] at hm; cases hm⟩
  ·have := (Array.getElem?_eq_some_iff.1 (h3 _ hm).2).1
   omega
  ·rcases List.mem_cons.1 hD with rfl | hD
   ·exact ⟨R.grown.1, World.alloc_heap_new w _⟩
   ·exact ⟨(h3 D hD).1, (Below.heap_alloc _ _ _ (Array.getElem?_eq_some_iff.1 (h3 D hD).2).1).trans (h3 D hD).2⟩
 have hsize := R.size
 obtain ⟨hu2, R2⟩ := R1.fresh (w' := w1) hfree (.loop (CS C.n s.env) (rec .ready none)) ⟨none, 0, some (w.heap.size + 1)⟩ (Ext.refl _ _) (by rw [← hw1]; exact R1.fit.alloc _) (by rw [← hw1]; exact DU.alloc _ _) (fun g hg => by cases hg; omega) (fun S' ι' hu => .loop (g := w.heap.size + 1) rfl (by rw [← hw1, ← hsz]; exact World.alloc_heap_new _ _) (by rw [J5, hrec]; exact hsize) (fun j b hb => by
   obtain ⟨hj, rfl⟩ := Q3 hb
   rw [hrec]
   exact (R.env j hj).mono (fun _ _ h => h) hu) (fun p hp => R1.fit.no (by rw [hsz]; omega)))
 have hl2 : (AG ι id (⟨none, 0, some (w.heap.size + 1)⟩ : Hnd) id).g = some (w.heap.size + 1) := by rw [AE]
 generalize AG ι id (⟨none, 0, some (w.heap.size + 1)⟩ : Hnd) = ι2 at R2 hl2 hu2
 obtain ⟨ι3, hι3, hown, hren, hend⟩ := R2.upped
 have hargs : AY (AM σ (upS (s.set id (.loop (CS C.n s.env) (rec .ready none))).S) ι3) (.func (.yield (w.heap.size + 1)) #[] #[] :: vc.toList) (.one (.yld (up1 id)) :: AV.rens up1 (caps.map .one)) := by
  have hS2 : (s.set id (.loop (CS C.n s.env) (rec .ready none))).S id = some (.loop (CS C.n s.env) (rec .ready none)) := AE _ _ _
  refine .cons (hren _ _ (.one (.yld hS2 (Nat.le_refl _) rfl fun _ => ⟨_, hl2, rfl⟩))) ?_
  rw [AV.rens_eq]
  refine (AY.mono (fun v c h => hren v c h) ?_).map_right
  refine (AY.of_get (R := fun v c => AM σ (s.set id (.loop (CS C.n s.env) (rec .ready none))).S ι2 v (.one c)) (by simpa using g1) fun j v b hv hb => ?_).map_right
  have e := g2 j b hb
  have e2 : vc.toList[j]? = some (cc j) := by simpa using e
  rw [hv] at e2
  cases e2
  exact .one ((g3 j b hb).mono (fun _ _ h => h) hu2)
 have hcl := HI (s.set id (.loop (CS C.n s.env) (rec .ready none))).S
 have hTeq : upS (s.set id (.loop (CS C.n s.env) (rec .ready none))).S = AG (upS s.S) (up1 id) (some (.loop (AV.rens up1 (CS C.n s.env)) (rec .ready none))) := S4 _ _ _
 have hcall := hit (up1 id) (fun pre T => ∃ U, T = AG U (up1 id) (some (.loop (AV.rens up1 (CS C.n s.env)) (rec .ready none))) ∧ U (up1 id) = none ∧ Inv pre U)
  (fun T => ∃ U c e, T = AG U (up1 id) (some (.loop (AV.rens up1 (CS C.n s.env)) (rec .done (some c)))) ∧ U (up1 id) = none ∧ SZ c e ∧ Jx e U)
  _ (BA id) (fun pre T hT => by
   obtain ⟨U, rfl, hU, hI⟩ := hT
   exact hneed pre U _ hI hU) (fun pre v hpre T hT => by
   obtain ⟨U, rfl, hU, hI⟩ := hT
   exact RI hx hy (by rw [AV.rens_eq, List.length_map, J5]) (BA id) hrec (by rw [hlen]; simp) hU fun hc C' hC' => by
    rw [Re]
    exact hbody C' _ (.loop (AV.rens up1 (CS C.n s.env)) (rec .busy none)) pre v U hC' hpre hI hU (QB hc hU) (AV.rens_high _))
  ⟨_, hTeq, by rw [BY, hfree]; rfl, h0⟩ hcl σ w1 _ ι3 (C.glob.mono R.ext) R2.fit hown hargs
 refine ⟨w.heap.size + 1, [Nq w.heap.size], w1, { target := .fn (.func f) vc, args := #[.func (.yield (w.heap.size + 1)) #[] #[]] }, w1, f, #[.func (.yield (w.heap.size + 1)) #[] #[]] ++ vc, w1, ?_, ?_, fun _ _ => trivial, ?_, fun h => by simp [fen, Fence.wide] at h, ?_⟩
 ·have hr : (fen C.ro).round = none := htop.1
  rw [hr, ← hw1, hrec]
  exact run_enterLoop_outer _ _ _ _ _
 ·simp only [resolve, hev]
  simp [go_sem]
 ·have := DG (P := P) (w := w1) (args := #[.func (.yield (w.heap.size + 1)) #[] #[]] ++ vc) hpl
  simp [invoke, go_sem, this]
 ·have he0 : (Value.func (.yield (w.heap.size + 1)) #[] #[] :: vc.toList).toArray = #[.func (.yield (w.heap.size + 1)) #[] #[]] ++ vc := by
   apply Array.ext'
   simp
  rw [he0] at hcall
  refine Hx (hcall.mono fun e w2 he => ?_)
  obtain ⟨v, r, S', σ', ι4, rfl, hP, hS', hu4, R4⟩ := hend he
  have hl4 : ∀ {b : AJ}, dnS S' id = some b → b.len = 1 → (ι4 id).g = some (w.heap.size + 1) := fun hb hb1 => by
   obtain ⟨b', h1, h2, h3⟩ := hu4 id _ (show (s.set id (.loop (CS C.n s.env) (rec .ready none))).S id = some _ from AE _ _ _)
   rw [hb] at h1
   cases h1
   rw [(h3 hb1).2]
   exact hl2
  have fin : ∀ (U : AA) (env : List AV) (st : LoopState) (pe : Option Code), st ≠ .busy → S' = AG U (up1 id) (some (.loop env (rec st pe))) → ∃ w3, (Instr.endLoop (w.heap.size + 1)).run P w2 = .ok pe w3 ∧ A6 C ⟨s.env, AG (dnS U) id (some (.dead 1 0))⟩ { a with defers := Nq w.heap.size :: a.defers } w3 := fun U env st pe hst hS => by
   have hb : dnS S' id = some (.loop (AV.rens dn1 env) (rec st pe)) := by
    have := FL (BA id) (show S' (up1 id) = some (.loop env (rec st pe)) by rw [hS]; exact AE _ _ _)
    rw [Iu] at this
    exact this
   have hg4 := hl4 hb rfl
   cases hbr : R4.blk id _ hb with
   | loop k1 k2 k3 k4 k5 =>
    rw [hg4] at k1
    cases k1
    obtain ⟨ι5, R5, _⟩ := R4.setBlk (b' := .dead 1 0) (o' := .loop { rec st pe with state := .exhausted }) hb hg4 k2 k5 rfl rfl fun S'' ι'' hu => .dead fun g' hg' => by
     rw [hg4] at hg'
     cases hg'
     exact ⟨_, (CX k2).1, rfl⟩
    refine ⟨w2.putObj (w.heap.size + 1) (.loop { rec st pe with state := .exhausted }), ?_, σ', ι5, ?_⟩
    ·have := run_endLoop (P := P) k2 (by rw [hrec]; exact hst)
     rw [hrec] at this ⊢
     exact this
    ·have e5 : (AS.set ⟨(s.set id (.loop (CS C.n s.env) (rec .ready none))).env, dnS S'⟩ id (.dead 1 0)) = ⟨s.env, AG (dnS U) id (some (.dead 1 0))⟩ := by
      show AS.mk s.env (AG (dnS S') id _) = _
      rw [hS, Sf]
     rw [← e5]
     exact R5
  rcases hP with ⟨U, h1, h2, h3⟩ | ⟨U, c, e, h1, h2, h3, h4⟩
  ·obtain ⟨w3, f1, f2⟩ := fin U _ .ready none (by simp) h1
   exact ⟨none, w3, f1, _, hdone U h3, f2⟩
  ·obtain ⟨w3, f1, f2⟩ := fin U _ .done (some c) (by simp) h1
   refine ⟨some c, w3, f1, ?_⟩
   cases h3 with
   | ret => exact wpIn_ret ⟨_, hjump _ U h4, f2⟩
   | exit i => exact wpIn_exit ⟨_, hjump _ U h4, f2⟩
end

def Ej : IR :=
 (.seq (.ops [.i 2 (.box 23 (.t 0)), .i 3 (.box 27 (.t 1)), .i 4 (.alloc 25 [.full []]), .i 5 (.alloc 30 [.st (.int .i64 0)])]) (.seq (.ops [.i 6 (.alloc 25 [.full []])]) (.seq (.ops [.i 7 (.alloc 30 [.st (.int .i64 0)])]) (.seq (.seq (.ops [.L 14 2 3, .i 15 (.call 27 [.t 14, .c (.one (.fn 28 []))])]) (.block 0 (.rangeF (.t 15) [16, 17] (.seq (.ops [.i 8 (.alloc 27 [.st (.str (ByteArray.mk (#[]))), .full []]), .s 2 8 16]) (.ops [.m 9 17])) (.block 1 (.seq (.seq (.ops [.i 10 (.mov (.n 0))]) (.block 2 (.loop (.block 3 (.seq (.ops [.l 19 2, .L 20 2 8, .m 21 10, .i 22 (.call 29 [.t 19, .t 20, .t 21]), .m 18 22, .i 23 (.extract 0 (.t 18)), .i 24 (.extract 1 (.t 18)), .i 25 (.extract 2 (.t 18)), .i 11 (.alloc 27 [.st (.str (ByteArray.mk (#[]))), .full []]), .s 2 11 23, .m 12 24, .m 13 25]) (.seq (.seq (.ops [.m 26 12, .i 27 (.bin .lss (.t 26) (.n 0))]) (.cond (.t 27) (.exit 2) .skip)) (.seq (.seq (.ops [.m 28 13, .i 29 (.bin .eql (.t 28) (.n 0))]) (.cond (.t 29) (.seq (.ops [.m 30 9, .L 31 2 11, .i 32 (.callV (.t 30) [.t 31]), .s 2 11 32]) (.seq (.ops [.L 33 2 11, .i 34 (.call 30 [.t 33]), .i 35 (.bin .gtr (.t 34) (.n 2000))]) (.cond (.t 35) (.ops [.i 13 (.mov (.n 8))]) .skip))) .skip)) (.seq (.seq (.ops [.m 36 13, .i 37 (.bin .neq (.t 36) (.n 0))]) (.cond (.t 37) (.seq (.ops [.m 38 13, .s 1 7 38]) (.exit 2)) .skip)) (.seq (.ops [.l 39 6, .L 40 2 11, .i 41 (.call 31 [.t 40]), .i 42 (.len false (.t 39)), .i 43 (.buildSlice false 27 2 [.c (.agg [.st (.str (ByteArray.mk (#[]))), .full []])]), .i 44 (.append true 27 2 40 (.t 39) (.t 43)), .i 45 (.indexAddr 2 (.t 44) (.t 42)), .mk none none (.store 2 (.t 45) (.t 41)) (.onb 1500), .mk none none (.store 1 (.t 6) (.t 44)) (.onb 1006)]) (.ops [.m 46 12, .i 47 (.bin .add (.t 46) (.n 1)), .m 10 47])))))))))) (.seq (.ops [.l 48 7, .i 49 (.bin .neq (.t 48) (.n 0))]) (.cond (.t 49) (.seq (.ops [.mk (some 50) none (.load false 1 (.t 7)) (.onb 1007), .mk none none (.store 1 (.t 4) (.c (.one (.full [])))) (.onb 1004), .s 1 5 50]) .ret) .skip))))))) (.seq (.ops [.l 51 6, .s 1 4 51, .mk none none (.store 1 (.t 5) (.n 0)) .no]) .ret)))))
theorem IG : OkF Try.prog 18 52 [44, 10451500, 10061006, 10071007, 10041004] Ej [.cell 4 false 1, .cell 5 false 1] := .of Try.func18 rfl rfl (by kernel_rfl) rfl
def Du : IR :=
 (.seq (.ops [.i 3 (.box 27 (.t 1)), .i 4 (.mov (.c (.one (.full [])))), .i 5 (.mov (.n 0))]) (.seq (.seq (.ops [.m 7 0, .L 8 2 3, .i 9 (.call 17 [.t 7, .t 8]), .m 6 9]) (.seq (.ops [.m 10 6, .i 11 (.bin .neq (.t 10) (.n 0))]) (.cond (.t 11) (.seq (.ops [.m 12 6, .i 4 (.mov (.c (.one (.full [])))), .m 5 12]) .ret) .skip))) (.seq (.ops [.m 13 0, .L 14 2 3, .i 15 (.call 18 [.t 13, .t 14]), .i 16 (.extract 0 (.t 15)), .i 17 (.extract 1 (.t 15)), .m 4 16, .m 5 17]) .ret)))
theorem G9 : OkF Try.prog 7 18 [] Du [.t 4, .t 5] := .of Try.func7 rfl rfl (by kernel_rfl) rfl

def Eu : IR :=
 (.seq (.ops [.i 2 (.box 27 (.t 0)), .i 3 (.box 62 (.t 1)), .i 4 (.mov (.c (.one (.st (.lit .nilFunc)))))]) (.seq (.ops [.i 5 (.makeFunc 46 [.t 2, .t 3]), .m 4 5]) .ret))
theorem IF : OkF Try.prog 27 6 [] Eu [.t 4] := .of Try.func27 rfl rfl (by kernel_rfl) rfl
def DW : IR :=
 (.ops [.L 4 2 1, .l 5 2, .m 6 0, .i 7 (.callX 47 [.t 4, .t 5, .t 6])])
theorem Gw : OkF Try.prog 46 8 [80000007] DW [] := .of Try.func46 rfl rfl (by kernel_rfl) rfl
def D_ : IR :=
 (.seq (.ops [.i 3 (.box 27 (.t 0)), .i 4 (.box 62 (.t 1)), .i 6 (.mov (.c (.one (.st (.bool false)))))]) (.seq (.seq (.ops [.m 9 2, .L 10 2 3, .l 11 4, .i 12 (.callY (.t 9) [.t 10, .t 11]), .i 13 (.un .not (.t 12))]) (.cond (.t 13) (.seq (.ops [.i 6 (.mov (.c (.one (.st (.bool false)))))]) .ret) .skip)) (.seq (.seq (.ops [.f 14 1 3, .l 15 14, .i 16 (.len false (.t 15)), .i 17 (.mov (.n 0))]) (.block 0 (.loop (.seq (.ops [.i 18 (.bin .lss (.t 17) (.t 16))]) (.seq (.cond (.t 18) .skip (.exit 0)) (.seq (.block 1 (.seq (.ops [.m 19 17, .i 7 (.alloc 3 [.st (.int .i64 0)]), .s 1 7 19]) (.seq (.ops [.i 20 (.makeFunc 56 [.t 3, .t 7, .t 4]), .m 8 20]) (.seq (.ops [.f 21 1 3, .l 22 21, .l 23 7, .i 24 (.indexAddr 2 (.t 22) (.t 23)), .L 25 2 24, .m 26 8, .m 27 2, .i 28 (.callX 47 [.t 25, .t 26, .t 27]), .i 29 (.un .not (.t 28))]) (.cond (.t 29) (.seq (.ops [.i 6 (.mov (.c (.one (.st (.bool false)))))]) .ret) .skip))))) (.ops [.i 30 (.bin .add (.t 17) (.n 1)), .m 17 30]))))))) (.seq (.ops [.i 6 (.mov (.c (.one (.st (.bool true)))))]) .ret))))
theorem HZ : OkF Try.prog 47 31 [70000012, 80000028] D_ [.t 6] := .of Try.func47 rfl rfl (by kernel_rfl) rfl
def DI : IR :=
 (.seq (.ops [.i 4 (.box 27 (.t 0)), .i 5 (.alloc 27 [.st (.str (ByteArray.mk (#[]))), .full []])]) (.seq (.ops [.f 7 0 1, .l 8 7, .f 9 1 1, .l 10 9, .i 11 (.callN 52 [.t 10]), .i 12 (.build [.st (.str (ByteArray.mk (#[]))), .full []] [(0, 1, .t 8), (1, 1, .t 11)]), .i 6 (.alloc 27 [.st (.str (ByteArray.mk (#[]))), .full []]), .s 2 6 12]) (.seq (.ops [.f 13 1 6, .l 14 13, .l 15 2, .L 16 2 4, .i 17 (.indexAddr 2 (.t 14) (.t 15)), .s 2 17 16]) (.seq (.ops [.l 18 3, .L 19 2 6, .i 20 (.callV (.t 18) [.t 19]), .s 2 5 20]) .ret))))
theorem GA : OkF Try.prog 56 21 [20000011] DI [.cell 5 true 2] := .of Try.func56 rfl rfl (by kernel_rfl) rfl
def Df : IR :=
 (.seq (.ops [.i 1 (.box 27 (.t 0)), .i 2 (.alloc 27 [.st (.str (ByteArray.mk (#[]))), .full []])]) (.seq (.ops [.L 3 2 1, .s 2 2 3]) .ret))
theorem Gc : OkF Try.prog 28 4 [] Df [.cell 2 true 2] := .of Try.func28 rfl rfl (by kernel_rfl) rfl

def BJ : IR :=
 (.seq (.ops [.i 4 (.mov (.c (.one (.st (.bool false)))))]) (.seq (.ops [.m 5 0, .m 6 1, .i 7 (.callS 54 [.t 5, .t 6]), .i 8 (.bin .geq (.t 7) (.n 0)), .m 4 8]) .ret))
theorem B7 : OkF Try.prog 41 9 [7] BJ [.t 4] := .of Try.func41 rfl rfl (by kernel_rfl) rfl
def BO : IR :=
 (.seq (.ops [.i 4 (.mov (.n 0))]) (.seq (.seq (.ops [.m 6 0, .i 7 (.len false (.t 6)), .i 8 (.mov (.n 0))]) (.block 0 (.loop (.seq (.ops [.i 9 (.bin .lss (.t 8) (.t 7))]) (.seq (.cond (.t 9) .skip (.exit 0)) (.seq (.block 1 (.seq (.ops [.m 10 8, .m 5 10]) (.seq (.ops [.m 11 1, .m 12 0, .m 13 5, .i 14 (.indexAddr 1 (.t 12) (.t 13)), .l 15 14, .i 16 (.callV (.t 11) [.t 15])]) (.cond (.t 16) (.seq (.ops [.m 17 5, .m 4 17]) .ret) .skip)))) (.ops [.i 18 (.bin .add (.t 8) (.n 1)), .m 8 18]))))))) (.seq (.ops [.i 4 (.mov (.c (.one (.st (.int .i64 (-1))))))]) .ret)))
theorem CM : OkF Try.prog 54 19 [] BO [.t 4] := .of Try.func54 rfl rfl (by kernel_rfl) rfl
def DL : IR :=
 (.seq (.ops [.i 3 (.mov (.c (.one (.st (.bool false)))))]) (.seq (.ops [.l 4 1, .m 5 0, .i 6 (.call 43 [.t 4, .t 5]), .i 7 (.un .not (.t 6)), .m 3 7]) .ret))
theorem GM : OkF Try.prog 42 8 [] DL [.t 3] := .of Try.func42 rfl rfl (by kernel_rfl) rfl
def Dw : IR :=
 (.seq (.ops [.i 2 (.mov (.n 0))]) (.seq (.seq (.ops [.m 7 0, .i 8 (.len false (.t 7)), .i 9 (.bin .gtr (.t 8) (.n 40))]) (.cond (.t 9) (.seq (.ops [.i 2 (.mov (.n 3))]) .ret) .skip)) (.seq (.seq (.ops [.m 10 0, .i 11 (.len false (.t 10)), .i 12 (.mov (.n 0))]) (.block 0 (.loop (.seq (.ops [.i 13 (.bin .lss (.t 12) (.t 11))]) (.seq (.cond (.t 13) .skip (.exit 0)) (.seq (.block 1 (.seq (.ops [.i 14 (.indexAddr 4 (.t 10) (.t 12)), .L 15 4 14, .i 4 (.alloc 48 [.st (.str (ByteArray.mk (#[]))), .full [], .st (.str (ByteArray.mk (#[]))), .full []]), .s 4 4 15]) (.seq (.seq (.ops [.f 16 0 4, .L 17 2 16, .f 18 2 4, .L 19 2 18, .i 20 (.call 33 [.t 17, .t 19]), .m 5 20]) (.seq (.ops [.m 21 5, .i 22 (.bin .neq (.t 21) (.n 0))]) (.cond (.t 22) (.seq (.ops [.m 23 5, .m 2 23]) .ret) .skip))) (.seq (.seq (.ops [.f 24 0 4, .f 25 0 24, .l 26 25, .i 27 (.call 39 [.t 26])]) (.cond (.t 27) (.seq (.ops [.i 2 (.mov (.n 2))]) .ret) .skip)) (.seq (.ops [.f 28 0 4, .L 29 2 28, .i 30 (.call 40 [.t 29]), .i 6 (.alloc 38 [.full []]), .s 1 6 30]) (.seq (.ops [.f 31 2 4, .L 32 2 31, .i 33 (.call 40 [.t 32]), .i 34 (.makeFunc 42 [.t 6]), .i 35 (.callS 41 [.t 33, .t 34])]) (.cond (.t 35) (.seq (.ops [.i 2 (.mov (.n 15))]) .ret) .skip))))))) (.ops [.i 36 (.bin .add (.t 12) (.n 1)), .m 12 36]))))))) (.seq (.ops [.i 2 (.mov (.n 0))]) .ret))))
theorem Hg : OkF Try.prog 25 37 [35] Dw [.t 2] := .of Try.func25 rfl rfl (by kernel_rfl) rfl
def Ep : IR :=
 (.seq (.ops [.i 3 (.box 27 (.t 1)), .i 4 (.mov (.n 0))]) (.seq (.seq (.ops [.m 6 0, .i 7 (.call 25 [.t 6]), .m 5 7]) (.seq (.ops [.m 8 5, .i 9 (.bin .neq (.t 8) (.n 0))]) (.cond (.t 9) (.seq (.ops [.m 10 5, .m 4 10]) .ret) .skip))) (.seq (.ops [.L 11 2 3, .i 12 (.call 26 [.t 11]), .m 4 12]) .ret)))
theorem H9 : OkF Try.prog 17 13 [] Ep [.t 4] := .of Try.func17 rfl rfl (by kernel_rfl) rfl
def Ew : IR :=
 (.seq (.ops [.i 4 (.box 27 (.t 1)), .i 6 (.alloc 27 [.st (.str (ByteArray.mk (#[]))), .full []]), .i 7 (.mov (.n 0)), .i 8 (.mov (.n 0))]) (.seq (.seq (.ops [.m 14 2, .m 9 14]) (.block 0 (.loop (.seq (.seq (.ops [.m 15 9, .m 16 0, .i 17 (.len false (.t 16)), .i 18 (.bin .lss (.t 15) (.t 17))]) (.cond (.t 18) .skip (.exit 0))) (.seq (.block 1 (.seq (.ops [.m 22 0, .m 23 9, .i 24 (.indexAddr 4 (.t 22) (.t 23)), .f 25 0 24, .L 26 2 25, .L 27 2 4, .i 28 (.call 48 [.t 26, .t 27]), .m 21 28, .i 29 (.extract 0 (.t 21)), .i 30 (.extract 1 (.t 21)), .m 10 29, .m 11 30]) (.seq (.ops [.m 31 11]) (.cond (.t 31) (.seq (.ops [.m 33 10, .m 34 0, .m 35 9, .i 36 (.indexAddr 4 (.t 34) (.t 35)), .f 37 2 36, .L 38 2 37, .i 39 (.call 49 [.t 33, .t 38]), .m 32 39, .i 40 (.extract 0 (.t 32)), .i 41 (.extract 1 (.t 32)), .i 12 (.alloc 27 [.st (.str (ByteArray.mk (#[]))), .full []]), .s 2 12 40, .m 13 41]) (.seq (.seq (.ops [.m 42 13, .i 43 (.un .not (.t 42))]) (.cond (.t 43) (.seq (.ops [.i 44 (.build [.st (.str (ByteArray.mk (#[]))), .full []] []), .m 45 9, .s 2 6 44, .m 7 45, .i 8 (.mov (.n 8))]) .ret) .skip)) (.seq (.ops [.L 46 2 12, .m 47 9, .s 2 6 46, .m 7 47, .i 8 (.mov (.n 0))]) .ret))) .skip)))) (.ops [.m 19 9, .i 20 (.bin .add (.t 19) (.n 1)), .m 9 20])))))) (.seq (.ops [.i 48 (.build [.st (.str (ByteArray.mk (#[]))), .full []] []), .s 2 6 48, .i 7 (.mov (.c (.one (.st (.int .i64 (-1)))))), .i 8 (.mov (.n 0))]) .ret)))
theorem IA : OkF Try.prog 29 49 [] Ew [.cell 6 true 2, .t 7, .t 8] := .of Try.func29 rfl rfl (by kernel_rfl) rfl
def Cy : IR :=
 (.seq (.ops [.i 3 (.box 27 (.t 1)), .i 4 (.alloc 27 [.st (.str (ByteArray.mk (#[]))), .full []]), .i 5 (.mov (.c (.one (.st (.bool false))))), .i 6 (.mov (.n 0))]) (.seq (.seq (.ops [.f 15 1 3, .l 16 15, .i 17 (.len false (.t 16)), .i 18 (.mov (.n 0))]) (.block 0 (.loop (.seq (.ops [.i 19 (.bin .lss (.t 18) (.t 17))]) (.seq (.cond (.t 19) .skip (.exit 0)) (.seq (.block 1 (.seq (.ops [.m 20 18, .m 7 20]) (.seq (.ops [.m 22 0, .f 23 1 3, .l 24 23, .m 25 7, .i 26 (.indexAddr 2 (.t 24) (.t 25)), .L 27 2 26, .i 28 (.call 35 [.t 22, .t 27]), .m 21 28, .i 29 (.extract 0 (.t 21)), .i 30 (.extract 1 (.t 21)), .i 31 (.extract 2 (.t 21)), .i 8 (.alloc 27 [.st (.str (ByteArray.mk (#[]))), .full []]), .s 2 8 29, .m 9 30, .m 10 31]) (.seq (.ops [.m 32 10, .i 33 (.bin .neq (.t 32) (.n 0)), .m 34 33, .mk (some 35) (some (34, false)) (.mov (.t 9)) .no, .i 36 (.pick (.t 34) (.c (.one (.st (.bool true)))) (.t 35))]) (.cond (.t 36) (.seq (.ops [.f 37 0 3, .l 38 37, .f 39 1 3, .l 40 39, .i 41 (.callN 52 [.t 40]), .i 42 (.build [.st (.str (ByteArray.mk (#[]))), .full []] [(0, 1, .t 38), (1, 1, .t 41)]), .i 11 (.alloc 27 [.st (.str (ByteArray.mk (#[]))), .full []]), .s 2 11 42]) (.seq (.ops [.f 43 1 11, .l 44 43, .m 45 7, .L 46 2 8, .i 47 (.indexAddr 2 (.t 44) (.t 45)), .s 2 47 46]) (.seq (.ops [.L 48 2 11, .m 49 9, .m 50 10, .s 2 4 48, .m 5 49, .m 6 50]) .ret))) .skip))))) (.ops [.i 51 (.bin .add (.t 18) (.n 1)), .m 18 51]))))))) (.seq (.ops [.m 53 0, .L 54 2 3, .i 55 (.call 29 [.t 53, .t 54, .n 0]), .m 52 55, .i 56 (.extract 0 (.t 52)), .i 57 (.extract 1 (.t 52)), .i 58 (.extract 2 (.t 52)), .i 12 (.alloc 27 [.st (.str (ByteArray.mk (#[]))), .full []]), .s 2 12 56, .m 13 57, .m 14 58]) (.seq (.ops [.L 59 2 12, .m 60 13, .i 61 (.bin .geq (.t 60) (.n 0)), .m 62 14, .s 2 4 59, .m 5 61, .m 6 62]) .ret))))
theorem FC : OkF Try.prog 35 63 [20000041] Cy [.cell 4 true 2, .t 5, .t 6] := .of Try.func35 rfl rfl (by kernel_rfl) rfl
def D0 : IR :=
 (.seq (.ops [.i 4 (.box 27 (.t 1)), .i 6 (.alloc 27 [.st (.str (ByteArray.mk (#[]))), .full []]), .i 7 (.mov (.n 0)), .i 8 (.mov (.n 0))]) (.seq (.ops [.m 12 0, .L 13 2 4, .i 14 (.call 17 [.t 12, .t 13]), .m 9 14]) (.seq (.seq (.ops [.m 15 9, .i 16 (.bin .eql (.t 15) (.n 0))]) (.cond (.t 16) (.ops [.m 17 2, .i 18 (.call 21 [.t 17]), .m 9 18]) .skip)) (.seq (.seq (.ops [.m 19 9, .i 20 (.bin .neq (.t 19) (.n 0))]) (.cond (.t 20) (.seq (.ops [.i 21 (.build [.st (.str (ByteArray.mk (#[]))), .full []] []), .m 22 9, .s 2 6 21, .i 7 (.mov (.n 0)), .m 8 22]) .ret) .skip)) (.seq (.ops [.m 24 0, .L 25 2 4, .m 26 2, .i 27 (.call 22 [.t 24, .t 25, .t 26]), .m 23 27, .i 28 (.extract 0 (.t 23)), .i 29 (.extract 1 (.t 23)), .i 30 (.extract 2 (.t 23)), .i 10 (.alloc 27 [.st (.str (ByteArray.mk (#[]))), .full []]), .s 2 10 28, .m 11 29, .m 9 30]) (.seq (.seq (.ops [.m 31 9, .i 32 (.bin .neq (.t 31) (.n 0))]) (.cond (.t 32) (.seq (.ops [.i 33 (.build [.st (.str (ByteArray.mk (#[]))), .full []] []), .m 34 9, .s 2 6 33, .i 7 (.mov (.n 0)), .m 8 34]) .ret) .skip)) (.seq (.ops [.L 35 2 10, .m 36 11, .s 2 6 35, .m 7 36, .i 8 (.mov (.n 0))]) .ret)))))))
theorem HE : OkF Try.prog 13 37 [] D0 [.cell 6 true 2, .t 7, .t 8] := .of Try.func13 rfl rfl (by kernel_rfl) rfl
def Ek : IR :=
 (.seq (.ops [.i 4 (.box 27 (.t 1)), .i 6 (.alloc 27 [.st (.str (ByteArray.mk (#[]))), .full []]), .i 7 (.mov (.n 0)), .i 8 (.mov (.n 0))]) (.seq (.ops [.L 13 2 4, .i 14 (.call 31 [.t 13]), .s 2 4 14]) (.seq (.ops [.i 9 (.mov (.n 0))]) (.block 0 (.loop (.seq (.block 1 (.seq (.ops [.m 18 0, .L 19 2 4, .i 20 (.call 35 [.t 18, .t 19]), .m 17 20, .i 21 (.extract 0 (.t 17)), .i 22 (.extract 1 (.t 17)), .i 23 (.extract 2 (.t 17)), .i 10 (.alloc 27 [.st (.str (ByteArray.mk (#[]))), .full []]), .s 2 10 21, .m 11 22, .m 12 23]) (.seq (.seq (.ops [.m 24 11, .m 25 24, .mk (some 26) (some (25, true)) (.mov (.t 9)) .no, .mk (some 27) (some (25, true)) (.mov (.t 2)) .no, .mk (some 28) (some (25, true)) (.bin .eql (.t 26) (.t 27)) .no, .i 29 (.pick (.t 25) (.t 28) (.c (.one (.st (.bool false)))))]) (.cond (.t 29) (.ops [.i 12 (.mov (.n 9))]) .skip)) (.seq (.seq (.ops [.m 30 12, .i 31 (.bin .neq (.t 30) (.n 0))]) (.cond (.t 31) (.seq (.ops [.i 32 (.build [.st (.str (ByteArray.mk (#[]))), .full []] []), .m 33 12, .s 2 6 32, .i 7 (.mov (.n 0)), .m 8 33]) .ret) .skip)) (.seq (.seq (.ops [.m 34 11, .i 35 (.un .not (.t 34))]) (.cond (.t 35) (.seq (.ops [.L 36 2 4, .m 37 9, .s 2 6 36, .m 7 37, .i 8 (.mov (.n 0))]) .ret) .skip)) (.seq (.ops [.L 38 2 10, .s 2 4 38]) (.seq (.ops [.L 39 2 4, .i 40 (.call 30 [.t 39]), .i 41 (.bin .gtr (.t 40) (.n 2000))]) (.cond (.t 41) (.seq (.ops [.i 42 (.build [.st (.str (ByteArray.mk (#[]))), .full []] []), .s 2 6 42, .i 7 (.mov (.n 0)), .i 8 (.mov (.n 8))]) .ret) .skip)))))))) (.ops [.m 15 9, .i 16 (.bin .add (.t 15) (.n 1)), .m 9 16])))))))
theorem IE : OkF Try.prog 22 43 [] Ek [.cell 6 true 2, .t 7, .t 8] := .of Try.func22 rfl rfl (by kernel_rfl) rfl
def Et : IR :=
 (.seq (.ops [.i 2 (.mov (.n 0))]) (.seq (.seq (.ops [.m 3 0, .i 4 (.bin .lss (.t 3) (.n 0)), .m 5 4, .mk (some 6) (some (5, false)) (.mov (.t 0)) .no, .mk (some 7) (some (5, false)) (.bin .gtr (.t 6) (.n 400)) .no, .i 8 (.pick (.t 5) (.c (.one (.st (.bool true)))) (.t 7))]) (.cond (.t 8) (.seq (.ops [.i 2 (.mov (.n 10))]) .ret) .skip)) (.seq (.ops [.i 2 (.mov (.n 0))]) .ret)))
theorem ID : OkF Try.prog 21 9 [] Et [.t 2] := .of Try.func21 rfl rfl (by kernel_rfl) rfl

abbrev TL (vs : List ByteArray) : AJ := .box 38 [.st (.list (vs.map C5))]
theorem Rs (vs : List ByteArray) (x : ByteArray) (b : Nat) (hb : 1000 ≤ b) (S : AA) (sb : S b = some (TL vs)) : Aq Try.prog 42 [Cb x, .one (.ptr b 1 0 0)] S (Ad (!CI x vs)) S := by
 refine GM.acS fun hS C hC => ?_
 unfold DL
 repeat' (first | (with_reducible first | refine W ?_ | refine Z0 ?_ | ((first | refine Wo fun K hK => ?_ | refine Wp ?_ | refine Wq ?_ | refine Wr ?_); (try simp only [go_sem, fN, seval, eT, iR, sb, dT, dF, nL]); (repeat refine Ai ?_); (try (refine hK _ ?_; clear hK K)); try refine iC ?_)) | refine Cg _ (Ei vs x) ?_)
 refine At (Ad (!CI x vs)) hS trivial ?_ rfl fun _ _ => rfl
 simp [AB, AD, AK, AG]
theorem Rr {p : ByteArray → Bool} (xs : List ByteArray) : 0 ≤ (match xs.findIdx? p with | some i => (i : Int) | none => -1) ↔ xs.any p = true := by
 cases h : xs.findIdx? p with
 | some i =>
  rw [List.findIdx?_eq_some_iff_getElem] at h
  obtain ⟨h1, h2, _⟩ := h
  simp only [List.any_eq_true]
  exact ⟨fun _ => ⟨_, List.getElem_mem h1, h2⟩, fun _ => by omega⟩
 | none =>
  rw [List.findIdx?_eq_none_iff] at h
  constructor
  ·intro h'
   exact absurd h' (by decide)
  ·intro h'
   rw [List.any_eq_true] at h'
   obtain ⟨x, hx, hp⟩ := h'
   rw [h x hx] at hp
   cases hp
theorem MQ {p : ByteArray → Bool} {xs : List ByteArray} {k : Nat} {x : ByteArray} (hx : xs[k]? = some x) (h : (xs.take k).any p = false) (hp : p x = true) : xs.findIdx? p = some k := by
 obtain ⟨hk, he⟩ := List.getElem?_eq_some_iff.1 hx
 rw [List.findIdx?_eq_some_iff_getElem]
 refine ⟨hk, by rw [he]; exact hp, fun j hj => ?_⟩
 rw [List.any_eq_false] at h
 have := h (xs[j]'(by omega)) (by
  rw [List.mem_take_iff_getElem]
  exact ⟨j, by omega, rfl⟩)
 simpa using this
theorem P9 {p : ByteArray → Bool} {xs : List ByteArray} {k : Nat} {x : ByteArray} (hx : xs[k]? = some x) (h : (xs.take k).any p = false) : (xs.take (k + 1)).any p = p x := by
 rw [A0 hx, List.any_append, h]
 simp
theorem LR (vs xs : List ByteArray) (hl : xs.length ≤ 9223372036854775807) (b : Nat) (hb : 1000 ≤ b) (S : AA) (sb : S b = some (TL vs)) :
  Aq Try.prog 54 [Bu xs, .one (.fn 42 [.ptr b 1 0 0])] S (AR (match xs.findIdx? (fun x => !CI x vs) with | some i => (i : Int) | none => -1)) S := by
 refine CM.acS fun hS C hC => ?_
 unfold BO
 repeat' with_reducible first | refine W ?_ | refine Z0 ?_ | ((first | refine Wo fun K hK => ?_ | refine Wp ?_ | refine Wq ?_ | refine Wr ?_); (try simp only [go_sem, fN, seval, eT, iR, dT, dF, nL]); (repeat refine Ai ?_); (try (refine hK _ ?_; clear hK K)); try refine iC ?_)
 refine IWP.loop (fun n s => ∃ k, k ≤ xs.length ∧ n = xs.length - k ∧ (xs.take k).any (fun x => !CI x vs) = false ∧ s.env 0 = Bu xs ∧ s.env 1 = .one (.fn 42 [.ptr b 1 0 0]) ∧ s.env 7 = AR xs.length ∧ s.env 8 = AR k ∧ s.S = S) xs.length ⟨0, Nat.zero_le _, rfl, rfl, rfl, rfl, rfl, rfl, rfl⟩ ?_
 rintro n ⟨env, S'⟩ ⟨k, hk, rfl, hp, e0, e1, e7, e8, eS⟩
 simp only at e0 e1 e7 e8 eS
 subst eS
 by_cases hlt : (k : Int) < xs.length
 ·obtain ⟨x, hx⟩ := Ay (show k < xs.length by omega)
  have hst := P9 (p := fun x => !CI x vs) hx hp
  have hc := Rs vs x (up1 b) (BA b) (upS S') (by rw [BY, sb]; rfl)
  repeat' with_reducible first | refine W ?_ | refine Z0 ?_ | ((first | refine Wo fun K hK => ?_ | refine Wp ?_ | refine Wq ?_ | refine Wr ?_); (try simp only [go_sem, fN, seval, eT, iR, e0, e1, e7, e8, hlt, hx, dT, dF, nL]); (repeat refine Ai ?_); (try (refine hK _ ?_; clear hK K)); try refine iC ?_)
  first | refine ⟨by kernel_rfl, _, _, hc, ?_⟩ | refine ⟨_, _, hc, ?_⟩
  by_cases hr : (!CI x vs) = true
  ·have hi := MQ (p := fun x => !CI x vs) hx hp hr
   repeat' with_reducible first | refine W ?_ | refine Z0 ?_ | ((first | refine Wo fun K hK => ?_ | refine Wp ?_ | refine Wq ?_ | refine Wr ?_); (try simp only [go_sem, fN, seval, eT, iR, e0, e1, e7, e8, hr, dT, dF, nL]); (repeat refine Ai ?_); (try (refine hK _ ?_; clear hK K)); try refine iC ?_)
   refine At (AR k) hS trivial ?_ ?_ fun j hj => ?_
   ·simp [AB, AD, AK, AG]
   ·rw [hi]
    rfl
   ·rfl
  ·have hr' : (!CI x vs) = false := by simpa using hr
   repeat' with_reducible first | refine W ?_ | refine Z0 ?_ | ((first | refine Wo fun K hK => ?_ | refine Wp ?_ | refine Wq ?_ | refine Wr ?_); (try simp only [go_sem, fN, seval, eT, iR, e0, e1, e7, e8, hr', dT, dF, nL]); (repeat refine Ai ?_); (try (refine hK _ ?_; clear hK K)); try refine iC ?_)
   refine AO ⟨xs.length - (k + 1), by omega, k + 1, by omega, rfl, ?_⟩
   simp only [go_sem, fN, seval, eT, iR, e0, e1, e7, e8]
   exact ⟨by rw [hst]; exact hr', by congr 3⟩
 ·rw [List.take_of_length_le (by omega)] at hp
  have hi : xs.findIdx? (fun x => !CI x vs) = none := by
   rw [List.findIdx?_eq_none_iff]
   intro x hx
   rw [List.any_eq_false] at hp
   simpa using hp x hx
  repeat' with_reducible first | refine W ?_ | refine Z0 ?_ | ((first | refine Wo fun K hK => ?_ | refine Wp ?_ | refine Wq ?_ | refine Wr ?_); (try simp only [go_sem, fN, seval, eT, iR, e0, e1, e7, e8, hlt, dT, dF, nL]); (repeat refine Ai ?_); (try (refine hK _ ?_; clear hK K)); try refine iC ?_)
  refine At (AR (-1)) hS trivial ?_ ?_ fun j hj => ?_
  ·simp [AB, AD, AK, AG]
  ·rw [hi]
   rfl
  ·rfl
theorem IC (vs xs : List ByteArray) (hl : xs.length ≤ 9223372036854775807) (b : Nat) (hb : 1000 ≤ b) (S : AA) (sb : S b = some (TL vs)) :
  Aq Try.prog 41 [Bu xs, .one (.fn 42 [.ptr b 1 0 0])] S (Ad (xs.any fun x => !CI x vs)) S := by
 have hi := Rr (p := fun x => !CI x vs) xs
 generalize (xs.any fun x => !CI x vs) = bb at hi ⊢
 refine B7.acS fun hS C hC => ?_
 unfold BJ
 repeat' with_reducible first | refine W ?_ | refine Z0 ?_ | ((first | refine Wo fun K hK => ?_ | refine Wp ?_ | refine Wq ?_ | refine Wr ?_); (try simp only [go_sem, fN, seval, eT, iR, dT, dF, nL]); (repeat refine Ai ?_); (try (refine hK _ ?_; clear hK K)); try refine iC ?_)
 refine ⟨_, _, LR vs xs hl (up1 b) (BA b) (upS S) (by rw [BY, sb]; rfl), ?_⟩
 generalize (match xs.findIdx? (fun x => !CI x vs) with | some i => (i : Int) | none => -1) = q at hi
 repeat' with_reducible first | refine W ?_ | refine Z0 ?_ | ((first | refine Wo fun K hK => ?_ | refine Wp ?_ | refine Wq ?_ | refine Wr ?_); (try simp only [go_sem, fN, seval, eT, iR, hi, dT, dF, nL]); (repeat refine Ai ?_); (try (refine hK _ ?_; clear hK K)); try refine iC ?_)
 refine At (Ad bb) hS trivial ?_ ?_ fun j hj => ?_
 ·simp [AB, AD, AK, AG]
 ·rfl
 ·rfl
theorem Nr (t : Tm) (h : t.size ≤ 200) : t.varsOf.length ≤ 1000 := by
 have h1 := DJ t.knots []
 rw [Tm.knots_length] at h1
 unfold Tm.varsOf
 simp only [List.length_nil] at h1
 omega
theorem IZ (R : List Pr) : AT Try.prog 25 [Fj R] (AR (By R)) := by
 have hm : By R = if 40 < R.length then 3 else Dq FX R := rfl
 refine Hg.ac fun C hC => ?_
 unfold Dw
 by_cases h40 : (40 : Int) < R.length
 ·repeat' with_reducible first | refine W ?_ | refine Z0 ?_ | ((first | refine Wo fun K hK => ?_ | refine Wp ?_ | refine Wq ?_ | refine Wr ?_); (try simp only [go_sem, fN, seval, eT, iR, h40, dT, dF, nL]); (repeat refine Ai ?_); (try (refine hK _ ?_; clear hK K)); try refine iC ?_)
  simp only [go_sem, fN, seval, AN, AS.result, AB, AD, AK]
  rw [hm, if_pos (by omega)]
 rw [if_neg (by omega)] at hm
 repeat' with_reducible first | refine W ?_ | refine Z0 ?_ | ((first | refine Wo fun K hK => ?_ | refine Wp ?_ | refine Wq ?_ | refine Wr ?_); (try simp only [go_sem, fN, seval, eT, iR, h40, dT, dF, nL]); (repeat refine Ai ?_); (try (refine hK _ ?_; clear hK K)); try refine iC ?_)
 refine IWP.loopD [4, 6] (fun m s => ∃ k, k ≤ R.length ∧ m = R.length - k ∧ Dq FX (R.take k) = 0 ∧ s.env 10 = Fj R ∧ s.env 11 = AR R.length ∧ s.env 12 = AR k ∧ s.S 4 = none ∧ s.S 6 = none) R.length ⟨0, Nat.zero_le _, rfl, rfl, rfl, rfl, rfl, rfl, rfl⟩ ?_
 rintro m ⟨env, S⟩ ⟨k, hk, rfl, h0, e10, e11, e12, s4, s6⟩
 simp only at e10 e11 e12 s4 s6
 by_cases hlt : (k : Int) < R.length
 ·obtain ⟨r, hr⟩ := Ay (show k < R.length by omega)
  obtain ⟨g1, g2⟩ := Rl hr h0
  have re : FX r = if CO r.1 r.2 = 0 then (if AZ r.1.name = true then 2 else if JG r = true then 15 else 0) else CO r.1 r.2 := rfl
  by_cases hz : CO r.1 r.2 = 0
  case neg =>
   repeat' (first | (with_reducible first | refine W ?_ | refine Z0 ?_ | ((first | refine Wo fun K hK => ?_ | refine Wp ?_ | refine Wq ?_ | refine Wr ?_); (try simp only [go_sem, fN, seval, eT, iR, e10, e11, e12, s4, s6, hlt, hr, EH, hz, dT, dF, nL]); (repeat refine Ai ?_); (try (refine hK _ ?_; clear hK K)); try refine iC ?_)) | refine Cg _ (L3 r.1 r.2) ?_)
   simp only [go_sem, fN, seval, AN, AS.result, AB, AD, AK]
   rw [if_neg hz] at re
   rw [hm, g2 (by rw [re]; exact hz), re]
  case pos =>
  rw [if_pos hz] at re
  by_cases hv : AZ r.1.name = true
  ·repeat' (first | (with_reducible first | refine W ?_ | refine Z0 ?_ | ((first | refine Wo fun K hK => ?_ | refine Wp ?_ | refine Wq ?_ | refine Wr ?_); (try simp only [go_sem, fN, seval, eT, iR, e10, e11, e12, s4, s6, hlt, hr, EH, hz, hv, dT, dF, nL]); (repeat refine Ai ?_); (try (refine hK _ ?_; clear hK K)); try refine iC ?_)) | refine Cg _ (L3 r.1 r.2) ?_ | refine Cg _ (Bm r.1.name) ?_)
   simp only [go_sem, fN, seval, AN, AS.result, AB, AD, AK]
   rw [if_pos hv] at re
   rw [hm, g2 (by rw [re]; decide), re]
  rw [if_neg hv] at re
  have m12 : r.1.may = 0 ∧ r.2.may = 0 := by
   unfold CO at hz
   by_cases h4 : r.1.may = 0
   ·rw [if_pos h4] at hz; exact ⟨h4, hz⟩
   ·rw [if_neg h4] at hz; exact absurd hz h4
  have z1 := (Tm.may_chk m12.1).2
  have z2 := (Tm.may_chk m12.2).2
  have l2 := Nr r.2 z2
  repeat' (first | (with_reducible first | refine W ?_ | refine Z0 ?_ | ((first | refine Wo fun K hK => ?_ | refine Wp ?_ | refine Wq ?_ | refine Wr ?_); (try simp only [go_sem, fN, seval, eT, iR, e10, e11, e12, s4, s6, hlt, hr, EH, hz, hv, dT, dF, nL]); (repeat refine Ai ?_); (try (refine hK _ ?_; clear hK K)); try refine iC ?_)) | refine Cg _ (L3 r.1 r.2) ?_ | refine Cg _ (Bm r.1.name) ?_ | refine Cg _ (Qp r.1 (by omega)) ?_ | refine Cg _ (Qp r.2 (by omega)) ?_)
  refine ⟨_, _, IC r.1.varsOf r.2.varsOf (by omega) (up1 6) (BA 6) _ (by rw [BY]; simp [AG]; rfl), ?_⟩
  have ho : JG r = r.2.varsOf.any fun v => !CI v r.1.varsOf := rfl
  rw [← ho]
  by_cases hop : JG r = true
  ·repeat' with_reducible first | refine W ?_ | refine Z0 ?_ | ((first | refine Wo fun K hK => ?_ | refine Wp ?_ | refine Wq ?_ | refine Wr ?_); (try simp only [go_sem, fN, seval, eT, iR, hop, dT, dF, nL]); (repeat refine Ai ?_); (try (refine hK _ ?_; clear hK K)); try refine iC ?_)
   simp only [go_sem, fN, seval, AN, AS.result, AB, AD, AK]
   rw [if_pos hop] at re
   rw [hm, g2 (by rw [re]; decide), re]
  ·rw [if_neg hop] at re
   simp only [Bool.not_eq_true] at hop
   repeat' with_reducible first | refine W ?_ | refine Z0 ?_ | ((first | refine Wo fun K hK => ?_ | refine Wp ?_ | refine Wq ?_ | refine Wr ?_); (try simp only [go_sem, fN, seval, eT, iR, hop, e10, e11, e12, dT, dF, nL]); (repeat refine Ai ?_); (try (refine hK _ ?_; clear hK K)); try refine iC ?_)
   refine AO ⟨R.length - (k + 1), by omega, k + 1, by omega, rfl, g1 re, ?_⟩
   simp only [go_sem, fN, seval, AS.drop, As, AC.clears, AC.clear, AC.highs, AC.high, Bool.not_false, Bool.true_and, Bool.and_self, AV.purge, AV.purges, AC.purge, AJ.purge, List.contains_cons, List.contains_nil, Nat.reduceBEq, Bool.or_self, Bool.or_false, Bool.false_or, Bool.or_true, eT, iR, e10, e11, e12, s4, s6]
   congr 3
 ·repeat' with_reducible first | refine W ?_ | refine Z0 ?_ | ((first | refine Wo fun K hK => ?_ | refine Wp ?_ | refine Wq ?_ | refine Wr ?_); (try simp only [go_sem, fN, seval, eT, iR, e10, e11, e12, hlt, dT, dF, nL]); (repeat refine Ai ?_); (try (refine hK _ ?_; clear hK K)); try refine iC ?_)
  simp only [go_sem, fN, seval, AN, AS.result, AB, AD, AK]
  rw [List.take_of_length_le (by omega)] at h0
  rw [hm, h0]
theorem DB (R : List Pr) (t : Tm) : AT Try.prog 17 [Fj R, aTm t] (AR (De R t)) := by
 have hm : De R t = if By R = 0 then t.may else By R := rfl
 refine H9.ac fun C hC => ?_
 unfold Ep
 by_cases h : By R = 0
 ·rw [if_pos h] at hm
  repeat' (first | (with_reducible first | refine W ?_ | refine Z0 ?_ | ((first | refine Wo fun K hK => ?_ | refine Wp ?_ | refine Wq ?_ | refine Wr ?_); (try simp only [go_sem, fN, seval, eT, iR, h, dT, dF, nL]); (repeat refine Ai ?_); (try (refine hK _ ?_; clear hK K)); try refine iC ?_)) | refine Cg _ (IZ R) ?_ | refine Cg _ (Gj t) ?_)
  simp only [go_sem, fN, seval, AN, AS.result, AB, AD, AK]
  rw [hm]
 ·rw [if_neg h] at hm
  repeat' (first | (with_reducible first | refine W ?_ | refine Z0 ?_ | ((first | refine Wo fun K hK => ?_ | refine Wp ?_ | refine Wq ?_ | refine Wr ?_); (try simp only [go_sem, fN, seval, eT, iR, h, dT, dF, nL]); (repeat refine Ai ?_); (try (refine hK _ ?_; clear hK K)); try refine iC ?_)) | refine Cg _ (IZ R) ?_ | refine Cg _ (Gj t) ?_)
  simp only [go_sem, fN, seval, AN, AS.result, AB, AD, AK]
  rw [hm]
def Da (m : Int) : Int := if m < 0 ∨ 400 < m then 10 else 0
theorem Nk (m : Int) : AT Try.prog 21 [AR m] (AR (Da m)) := by
 have hm : Da m = if m < 0 ∨ 400 < m then 10 else 0 := rfl
 refine ID.ac fun C hC => ?_
 unfold Et
 by_cases h1 : m < 0
 ·repeat' with_reducible first | refine W ?_ | refine Z0 ?_ | ((first | refine Wo fun K hK => ?_ | refine Wp ?_ | refine Wq ?_ | refine Wr ?_); (try simp only [go_sem, fN, seval, eT, iR, h1, dT, dF, nL]); (repeat refine Ai ?_); (try (refine hK _ ?_; clear hK K)); try refine iC ?_)
  simp only [go_sem, fN, seval, AN, AS.result, AB, AD, AK]
  rw [hm, if_pos (.inl h1)]
 ·by_cases h2 : 400 < m
  ·repeat' with_reducible first | refine W ?_ | refine Z0 ?_ | ((first | refine Wo fun K hK => ?_ | refine Wp ?_ | refine Wq ?_ | refine Wr ?_); (try simp only [go_sem, fN, seval, eT, iR, h1, h2, dT, dF, nL]); (repeat refine Ai ?_); (try (refine hK _ ?_; clear hK K)); try refine iC ?_)
   simp only [go_sem, fN, seval, AN, AS.result, AB, AD, AK]
   rw [hm, if_pos (.inr h2)]
  ·repeat' with_reducible first | refine W ?_ | refine Z0 ?_ | ((first | refine Wo fun K hK => ?_ | refine Wp ?_ | refine Wq ?_ | refine Wr ?_); (try simp only [go_sem, fN, seval, eT, iR, h1, h2, dT, dF, nL]); (repeat refine Ai ?_); (try (refine hK _ ?_; clear hK K)); try refine iC ?_)
   simp only [go_sem, fN, seval, AN, AS.result, AB, AD, AK]
   rw [hm, if_neg (by omega)]

def Ao : IR :=
 (.seq (.ops [.i 2 (.mov (.c (.one (.full []))))]) (.seq (.seq (.ops [.m 3 0, .i 4 (.eqN false (.t 3))]) (.cond (.t 4) (.seq (.ops [.i 2 (.mov (.c (.one (.full []))))]) .ret) .skip)) (.seq (.ops [.i 5 (.buildSlice false 27 2 []), .m 6 0, .i 7 (.append true 27 2 40 (.t 5) (.t 6)), .m 2 7]) .ret)))
theorem BI : OkF Try.prog 52 8 [7] Ao [.t 2] := .of Try.func52 rfl rfl (by kernel_rfl) rfl

def Fy : IR :=
 (.seq (.ops [.i 3 (.box 27 (.t 0)), .i 4 (.box 27 (.t 1)), .i 6 (.mov (.c (.one (.st (.bool false)))))]) (.seq (.seq (.ops [.f 10 0 3, .l 11 10, .i 12 (.call 39 [.t 11])]) (.cond (.t 12) (.seq (.seq (.ops [.m 14 2, .f 15 0 3, .l 16 15, .i 17 (.lookup none true (.agg [.st (.str (ByteArray.mk (#[]))), .full []]) (.t 14) (.t 16)), .m 13 17, .i 18 (.extract 0 (.t 13)), .i 19 (.extract 1 (.t 13)), .i 7 (.alloc 27 [.st (.str (ByteArray.mk (#[]))), .full []]), .s 2 7 18, .m 8 19]) (.seq (.ops [.m 20 8]) (.cond (.t 20) (.seq (.ops [.L 21 2 7, .L 22 2 4, .i 23 (.call 61 [.t 21, .t 22]), .m 6 23]) .ret) .skip))) (.seq (.ops [.m 24 2, .f 25 0 3, .l 26 25, .L 27 2 4, .mk none none (.mapSet none (.t 24) (.t 26) (.t 27)) .no]) (.seq (.ops [.i 6 (.mov (.c (.one (.st (.bool true)))))]) .ret))) .skip)) (.seq (.seq (.ops [.f 28 0 3, .l 29 28, .f 30 0 4, .l 31 30, .i 32 (.bin .neq (.t 29) (.t 31)), .m 33 32, .mk (some 34) (some (33, false)) (.fieldAddr 1 (.t 3)) .no, .mk (some 35) (some (33, false)) (.load false 1 (.t 34)) .no, .mk (some 36) (some (33, false)) (.len false (.t 35)) .no, .mk (some 37) (some (33, false)) (.fieldAddr 1 (.t 4)) .no, .mk (some 38) (some (33, false)) (.load false 1 (.t 37)) .no, .mk (some 39) (some (33, false)) (.len false (.t 38)) .no, .mk (some 40) (some (33, false)) (.bin .neq (.t 36) (.t 39)) .no, .i 41 (.pick (.t 33) (.c (.one (.st (.bool true)))) (.t 40))]) (.cond (.t 41) (.seq (.ops [.i 6 (.mov (.c (.one (.st (.bool false)))))]) .ret) .skip)) (.seq (.seq (.ops [.f 42 1 3, .l 43 42, .i 44 (.len false (.t 43)), .i 45 (.mov (.n 0))]) (.block 0 (.loop (.seq (.ops [.i 46 (.bin .lss (.t 45) (.t 44))]) (.seq (.cond (.t 46) .skip (.exit 0)) (.seq (.block 1 (.seq (.ops [.m 47 45, .m 9 47]) (.seq (.ops [.f 48 1 3, .l 49 48, .m 50 9, .i 51 (.indexAddr 2 (.t 49) (.t 50)), .L 52 2 51, .f 53 1 4, .l 54 53, .m 55 9, .i 56 (.indexAddr 2 (.t 54) (.t 55)), .L 57 2 56, .m 58 2, .i 59 (.callS 57 [.t 52, .t 57, .t 58]), .i 60 (.un .not (.t 59))]) (.cond (.t 60) (.seq (.ops [.i 6 (.mov (.c (.one (.st (.bool false)))))]) .ret) .skip)))) (.ops [.i 61 (.bin .add (.t 45) (.n 1)), .m 45 61]))))))) (.seq (.ops [.i 6 (.mov (.c (.one (.st (.bool true)))))]) .ret)))))
theorem Jq : OkF Try.prog 57 62 [59] Fy [.t 6] := .of Try.func57 rfl rfl (by kernel_rfl) rfl
def Fn : IR :=
 (.seq (.ops [.i 2 (.box 27 (.t 0)), .i 3 (.box 27 (.t 1)), .i 4 (.mov (.c (.one (.full [])))), .i 5 (.mov (.c (.one (.st (.bool false)))))]) (.seq (.ops [.i 10 (.makeMap none), .m 6 10]) (.seq (.seq (.ops [.L 11 2 2, .L 12 2 3, .m 13 6, .i 14 (.callS 57 [.t 11, .t 12, .t 13]), .i 15 (.un .not (.t 14))]) (.cond (.t 15) (.seq (.ops [.i 4 (.mov (.c (.one (.full [])))), .i 5 (.mov (.c (.one (.st (.bool false)))))]) .ret) .skip)) (.seq (.ops [.i 7 (.mov (.c (.one (.full []))))]) (.seq (.seq (.ops [.m 16 6, .i 17 (.rangeM (.t 16))]) (.block 0 (.loop (.seq (.ops [.i 18 (.next (.t 17)), .i 19 (.extract 0 (.t 18))]) (.seq (.cond (.t 19) .skip (.exit 0)) (.block 1 (.seq (.ops [.i 20 (.entry (.t 17)), .i 21 (.extract 0 (.t 20)), .i 22 (.extract 1 (.t 20)), .i 9 (.alloc 27 [.st (.str (ByteArray.mk (#[]))), .full []]), .m 8 21, .s 2 9 22]) (.ops [.m 23 7, .m 24 8, .L 25 2 9, .i 26 (.call 31 [.t 25]), .i 27 (.build [.st (.str (ByteArray.mk (#[]))), .st (.str (ByteArray.mk (#[]))), .full []] [(0, 1, .t 24), (1, 2, .t 26)]), .i 28 (.buildSlice false 95 3 [.t 27]), .i 29 (.append true 95 3 56 (.t 23) (.t 28)), .m 7 29])))))))) (.seq (.ops [.m 30 7, .i 31 (.callS 58 [.t 30]), .m 4 31, .i 5 (.mov (.c (.one (.st (.bool true)))))]) .ret))))))
theorem Jo : OkF Try.prog 48 32 [14, 29, 31] Fn [.t 4, .t 5] := .of Try.func48 rfl rfl (by kernel_rfl) rfl

open Go.Proofs Go.Shelf
def Try.sortBd_ren : Go.Shelf.Ren := ⟨fun | 6 => 63 | 15 => 71 | 14 => 70 | 28 => 84 | 29 => 85 | 20 => 76 | 21 => 77 | 22 => 78 | 23 => 79 | 24 => 80 | 25 => 81 | 26 => 82 | 27 => 83 | 46 => 86 | 47 => 87 | 48 => 88 | 49 => 89 | 50 => 90 | 57 => 91 | n => n, fun | 22 => 81 | 24 => 95 | 25 => 105 | 3 => 3 | 39 => 111 | 0 => 0 | 53 => 124 | 55 => 126 | 4 => 4 | 46 => 118 | 45 => 117 | 50 => 112 | 5 => 5 | 9 => 9 | 66 => 127 | 70 => 131 | 76 => 133 | 77 => 134 | n => n, fun | n => n⟩
theorem Try.sortBd : Go.Proofs.SlLaysF0.n6 Try.prog Try.sortBd_ren := {
 mixed := by kernel_rfl
 f6 := ⟨Try.f63.name, by decide, Try.func63.trans (congrArg some (by kernel_rfl))⟩
 f14 := ⟨Try.f70.name, by decide, Try.func70.trans (congrArg some (by kernel_rfl))⟩
 f15 := Try.func71.trans (congrArg some (by kernel_rfl))
 f20 := ⟨Try.f76.name, by decide, Try.func76.trans (congrArg some (by kernel_rfl))⟩
 f21 := ⟨Try.f77.name, by decide, Try.func77.trans (congrArg some (by kernel_rfl))⟩
 f22 := ⟨Try.f78.name, by decide, Try.func78.trans (congrArg some (by kernel_rfl))⟩
 f23 := ⟨Try.f79.name, by decide, Try.func79.trans (congrArg some (by kernel_rfl))⟩
 f24 := ⟨Try.f80.name, by decide, Try.func80.trans (congrArg some (by kernel_rfl))⟩
 f25 := ⟨Try.f81.name, by decide, Try.func81.trans (congrArg some (by kernel_rfl))⟩
 f26 := ⟨Try.f82.name, by decide, Try.func82.trans (congrArg some (by kernel_rfl))⟩
 f27 := ⟨Try.f83.name, by decide, Try.func83.trans (congrArg some (by kernel_rfl))⟩
 f28 := Try.func84.trans (congrArg some (by kernel_rfl))
 f29 := Try.func85.trans (congrArg some (by kernel_rfl))
 f46 := ⟨Try.f86.name, by decide, Try.func86.trans (congrArg some (by kernel_rfl))⟩
 f47 := Try.func87.trans (congrArg some (by kernel_rfl))
 f48 := Try.func88.trans (congrArg some (by kernel_rfl))
 f49 := ⟨Try.f89.name, by decide, Try.func89.trans (congrArg some (by kernel_rfl))⟩
 f50 := ⟨Try.f90.name, by decide, Try.func90.trans (congrArg some (by kernel_rfl))⟩
 f57 := ⟨Try.f91.name, by decide, Try.func91.trans (congrArg some (by kernel_rfl))⟩
 t0 := Try.underlying0
 a0 := Try.isAgg0
 z0 := Try.sizeOf0
 v0 := Try.zeroValue0
 t3 := Try.underlying3
 a3 := Try.isAgg3
 z3 := Try.sizeOf3
 v3 := Try.zeroValue3
 t4 := Try.underlying4
 a4 := Try.isAgg4
 z4 := Try.sizeOf4
 v4 := Try.zeroValue4
 t5 := Try.underlying5
 a5 := Try.isAgg5
 z5 := Try.sizeOf5
 v5 := Try.zeroValue5
 t9 := Try.underlying9
 a9 := Try.isAgg9
 z9 := Try.sizeOf9
 v9 := Try.zeroValue9
 t22 := Try.underlying81
 a22 := Try.isAgg81
 z22 := Try.sizeOf81
 v22 := Try.zeroValue81
 t25 := Try.underlying105
 a25 := Try.isAgg105
 z25 := Try.sizeOf105
 v25 := Try.zeroValue105
 t39 := Try.underlying111
 a39 := Try.isAgg111
 z39 := Try.sizeOf111
 v39 := Try.zeroValue111
 t45 := Try.underlying117
 a45 := Try.isAgg117
 z45 := Try.sizeOf117
 v45 := Try.zeroValue117
 t46 := Try.underlying118
 a46 := Try.isAgg118
 z46 := Try.sizeOf118
 v46 := Try.zeroValue118
 t50 := Try.underlying112
 a50 := Try.isAgg112
 z50 := Try.sizeOf112
 v50 := Try.zeroValue112
 t53 := Try.underlying124
 a53 := Try.isAgg124
 z53 := Try.sizeOf124
 v53 := Try.zeroValue124
 t55 := Try.underlying126
 a55 := Try.isAgg126
 z55 := Try.sizeOf126
 v55 := Try.zeroValue126
 t66 := Try.underlying127
 a66 := Try.isAgg127
 z66 := Try.sizeOf127
 v66 := Try.zeroValue127
 t70 := Try.underlying131
 a70 := Try.isAgg131
 z70 := Try.sizeOf131
 v70 := Try.zeroValue131
 t76 := Try.underlying133
 a76 := Try.isAgg133
 z76 := Try.sizeOf133
 v76 := Try.zeroValue133
 t77 := Try.underlying134
 a77 := Try.isAgg134
 z77 := Try.sizeOf134
 v77 := Try.zeroValue134 }

abbrev Fu (l : List Bd) : AJ := .mrow 95 3 (l.map Ey)

def E0 : IR :=
 (.seq (.ops [.i 2 (.mov (.c (.one (.full []))))]) (.seq (.ops [.m 3 0, .i 4 (.callS 63 [.t 3, .c (.one (.fn 64 []))])]) (.seq (.ops [.m 5 0, .m 2 5]) .ret)))
theorem JJ : OkF Try.prog 58 6 [4] E0 [.t 2] := .of Try.func58 rfl rfl (by kernel_rfl) rfl

open Go.Lib Go.Sort
theorem Se {P : Program} {w : World} (t : TypeId) (x y : ByteArray) : (binOp .gtr t (.string x) (.string y)).run P w = .ok (.bool (!(sLt x y || decide (x = y)))) w := by
 simp only [binOp, Op.stringOp, CD]
 rfl
attribute [go_sem] Se
theorem St (s : ByteArray) (W : World) : Calls Try.prog 72 #[.string s] W fun e w' => e = .returned (.bool false) ∧ w' = W := by
 go_enter Try.func72, Try.ntmps72
 go_wp2_with fail
 go_ret
 exact ⟨rfl, rfl⟩
theorem PR (a b : ByteArray) (W : World) : Calls Try.prog 65 #[.string a, .string b] W fun e w' => e = .returned (.int .i64 (CZ a b)) ∧ w' = W := by
 have h1 := St
 have hl : sLt a b = Op.bytesLess a.toList b.toList := rfl
 have hc : CZ a b = if sLt a b = true then -1 else if a = b then 0 else 1 := rfl
 generalize CZ a b = r at hc ⊢
 go_enter Try.func65, Try.ntmps65
 go_wp2_with (go_at_call 72; refine (h1 _ _).mono ?_; rintro e w' ⟨rfl, rfl⟩)
 all_goals go_ret
 all_goals refine ⟨?_, rfl⟩
 all_goals simp_all
abbrev Di := ByteArray × ByteArray × Option Addr × Nat × Nat
def Bq (x : Di) : List Value := [.string x.1, .string x.2.1, .slice x.2.2.1 x.2.2.2.1 x.2.2.2.2]
theorem Su (x y : Di) (W : World) : Calls Try.prog 64 #[.agg (Bq x).toArray, .agg (Bq y).toArray] W fun e w' => e = .returned (.int .i64 (CZ x.1 y.1)) ∧ ∃ q os', w' = grow (W.drewN q) os' := by
 have hcon := fun W' => PR x.1 y.1 W'
 generalize CZ x.1 y.1 = r at hcon ⊢
 unfold Bq
 go_enter Try.func64, Try.ntmps64
 go_wp2_with (go_at_call 65; refine (hcon _).mono ?_; rintro e w' ⟨rfl, rfl⟩)
 go_ret
 exact ⟨rfl, 0, _, by rw [alloc_eq_grow, alloc_eq_grow, grow_grow]; rfl⟩
theorem Pb : SWO (ltOf fun x y : Di => CZ x.1 y.1) where
 irrefl x := by
  simp only [ltOf, decide_eq_false_iff_not]
  intro h
  have := CB.1 h
  rw [BX] at this
  cases this
 trans x y z h k := by
  simp only [ltOf, decide_eq_true_eq] at *
  exact CB.2 (Cl (CB.1 h) (CB.1 k))
 ntrans x y z h k := by
  simp only [ltOf, decide_eq_false_iff_not] at *
  intro e
  have e := CB.1 e
  have h : sLt x.1 y.1 = false := by
   cases hx : sLt x.1 y.1 with
   | false => rfl
   | true => exact absurd (CB.2 hx) h
  have k : sLt y.1 z.1 = false := by
   cases hx : sLt y.1 z.1 with
   | false => rfl
   | true => exact absurd (CB.2 hx) k
  rcases EG y.1 z.1 with q | q | q
  ·rw [q] at k; cases k
  ·rw [q] at h; rw [e] at h; cases h
  ·have := Cl e q
   rw [this] at h
   cases h
def Qv (σ : Sto) (x : Di) (b : Bd) : Prop := x.1 = b.1 ∧ AY (Ak σ) (Bq x) (Ey b)
theorem O5 {α β : Type} {R : α → β → Prop} {l1 l2 : List α} (hp : l1.Perm l2) : ∀ {m1 : List β}, AY R l1 m1 → ∃ m2, AY R l2 m2 ∧ m1.Perm m2 := by
 induction hp with
 | nil => intro m1 h; exact ⟨m1, h, List.Perm.refl _⟩
 | cons x _ ih =>
  intro m1 h
  cases h with
  | cons h1 h2 =>
   obtain ⟨m2, q1, q2⟩ := ih h2
   exact ⟨_ :: m2, .cons h1 q1, q2.cons _⟩
 | swap x y l =>
  intro m1 h
  cases h with
  | cons h1 h2 =>
   cases h2 with
   | cons h2 h3 => exact ⟨_, .cons h2 (.cons h1 h3), List.Perm.swap _ _ _⟩
 | trans _ _ ih1 ih2 =>
  intro m1 h
  obtain ⟨m2, q1, q2⟩ := ih1 h
  obtain ⟨m3, q3, q4⟩ := ih2 q1
  exact ⟨m3, q3, q2.trans q4⟩
theorem SY {σ : Sto} {b : Bd} {v1 v2 v3 : Value} (h1 : Ak σ v1 (.str b.1)) (h2 : Ak σ v2 (.str b.2.name)) (h3 : Ak σ v3 (.list (b.2.args.map Ap))) : ∃ x : Di, [v1, v2, v3] = Bq x ∧ Qv σ x b := by
 have e1 := (DN (S := noS) (ι := noH) (.one (.st h1))).1
 have e2 := (DN (S := noS) (ι := noH) (.one (.st h2))).1
 obtain ⟨p, cap, e3, _⟩ := Bx h3
 subst e1 e2 e3
 exact ⟨(b.1, b.2.name, p, _, cap), rfl, rfl, .cons h1 (.cons h2 (.cons h3 .nil))⟩
theorem JZ {σ : Sto} {vs : Array Value} : ∀ (l : List Bd) (base : Nat), (∀ k b, l[k]? = some b → ∀ j a, (Ey b)[j]? = some a → ∃ v, vs[base + k * 3 + j]? = some v ∧ Ak σ v a) →
  ∃ d : List Di, AY (Qv σ) d l ∧ ∀ k x j v, d[k]? = some x → (Bq x)[j]? = some v → vs[base + k * 3 + j]? = some v
 | [], base, _ => ⟨[], .nil, by simp⟩
 | b :: l, base, h => by
  obtain ⟨d, d1, d2⟩ := JZ l (base + 3) (fun k c hc j a ha => by
   obtain ⟨v, v1, v2⟩ := h (k + 1) c (by simpa using hc) j a ha
   exact ⟨v, by rw [← v1]; congr 1; omega, v2⟩)
  obtain ⟨u1, p1, q1⟩ := h 0 b rfl 0 _ rfl
  obtain ⟨u2, p2, q2⟩ := h 0 b rfl 1 _ rfl
  obtain ⟨u3, p3, q3⟩ := h 0 b rfl 2 _ rfl
  obtain ⟨x, x1, x2⟩ := SY q1 q2 q3
  refine ⟨x :: d, .cons x2 d1, fun k y j v hy hv => ?_⟩
  cases k with
  | zero =>
   simp only [List.getElem?_cons_zero, Option.some.injEq] at hy
   subst hy
   rw [← x1] at hv
   match j, hv with
   | 0, hv => cases hv; exact p1
   | 1, hv => cases hv; exact p2
   | 2, hv => cases hv; exact p3
   | j + 3, hv => simp at hv
  | succ k =>
   have := d2 k y j v (by simpa using hy) hv
   rw [← this]
   congr 1
   omega
theorem HT (x : Di) : (Bq x).length = 3 := rfl
theorem NC {d : Array Di} {t : Nat} (h : t < d.size * 3) : ∃ x v, d[t / 3]? = some x ∧ (Bq x)[t % 3]? = some v ∧ (flatK Bq 3 d)[t]! = v := by
 have hk : t / 3 < d.size := by omega
 have hj : t % 3 < (Bq d[t / 3]).length := by rw [HT]; omega
 refine ⟨d[t / 3], (Bq d[t / 3])[t % 3], Array.getElem?_eq_getElem hk, List.getElem?_eq_getElem hj, ?_⟩
 rw [get_flatK _ _ _ _ h, getElem!_pos d (t / 3) hk, getElem!_pos (Bq d[t / 3]) (t % 3) hj]
theorem PC (w : World) (g n : Nat) (d : Array Di) (os : Array Obj) (vs : Array Value) (e : TypeId) (hg : w.heap[g]? = some (.cells vs e (0, 0))) :
  (sortWorldK Bq 3 w g 0 n d os).heap[g]? = some (.cells (putCells id 0 (flatK Bq 3 d) vs) e (0, 0)) ∧ (∀ k, k < w.heap.size → k ≠ g → (sortWorldK Bq 3 w g 0 n d os).heap[k]? = w.heap[k]?) ∧ w.heap.size ≤ (sortWorldK Bq 3 w g 0 n d os).heap.size := by
 have hlt := (Array.getElem?_eq_some_iff.1 hg).1
 have hsz : (putRowK Bq 3 (Sort.ahead w n) g 0 d).heap.size = w.heap.size := by simp [putRowK, putRow, mapBlock, Sort.ahead]
 refine ⟨?_, fun k hk hne => ?_, ?_⟩
 ·unfold sortWorldK
  rw [heap_grow_old _ _ (by rw [hsz]; exact hlt)]
  simp [putRowK, putRow, mapBlock, Sort.ahead, Array.getElem?_modify, hg, onCells]
 ·unfold sortWorldK
  rw [heap_grow_old _ _ (by rw [hsz]; exact hk)]
  simp [putRowK, putRow, mapBlock, Sort.ahead, Array.getElem?_modify, Ne.symm hne]
 ·unfold sortWorldK
  rw [Go.Sort.size_grow, hsz]
  omega
theorem Sc {d : Array Di} {vs : Array Value} (hs : d.size * 3 ≤ vs.size) {k : Nat} {x : Di} {j : Nat} {v : Value} (hx : d[k]? = some x) (hv : (Bq x)[j]? = some v) : (putCells id 0 (flatK Bq 3 d) vs)[k * 3 + j]? = some v := by
 have hk := (Array.getElem?_eq_some_iff.1 hx).1
 have hj : j < 3 := by have := (List.getElem?_eq_some_iff.1 hv).1; rw [HT] at this; exact this
 have hlt : k * 3 + j < d.size * 3 := by omega
 obtain ⟨y, u, h1, h2, h3⟩ := NC hlt
 have e1 : (k * 3 + j) / 3 = k := by omega
 have e2 : (k * 3 + j) % 3 = j := by omega
 rw [e1, hx] at h1
 cases h1
 rw [e2, hv] at h2
 cases h2
 unfold putCells
 rw [Array.getElem?_mapIdx, Array.getElem?_eq_getElem (by omega), Option.map_some, if_pos (by rw [size_flatK]; omega)]
 simp only [Nat.sub_zero, id, h3]
theorem Ri (d : Array Di) (vs : Array Value) : (putCells id 0 (flatK Bq 3 d) vs).size = vs.size := by simp [putCells]
theorem ST {S : AA} {r : Nat} {b : AJ} (h : S r = some b) : AG S r (some b) = S := by
 funext k
 unfold AG
 split
 ·rename_i e; rw [e, h]
 ·rfl
theorem PY {d : Array Di} {vs : Array Value} {t : Nat} (h : d.size * 3 ≤ t) : (putCells id 0 (flatK Bq 3 d) vs)[t]? = vs[t]? := by
 unfold putCells
 rw [Array.getElem?_mapIdx]
 cases hv : vs[t]? with
 | none => rfl
 | some v => rw [Option.map_some, if_neg (by rw [size_flatK]; omega)]
abbrev Er (l : List Bd) (ys : List (List SV)) : AJ := .mrow 95 3 (l.map Ey ++ ys)
theorem P6 (l : List Bd) (ys : List (List SV)) (hys : ∀ y ∈ ys, y.length = 3) (hn : Cf l) (hl : l.length ≤ 100000) (r : Nat) (hr : 1000 ≤ r) (S : AA) (sr : S r = some (Er l ys)) (hS : Am S) (σ : Sto) (w : World) (ι : An) (hF : Fit σ w) (hO : EF σ S ι w) :
  Calls Try.prog 63 #[.slice (ι r).p l.length (ι r).cap, .func (.func 64) #[] #[]] w fun e w' => ∃ v σ' ι', e = .returned v ∧ Am (AG S r (some (Er (Br l) ys))) ∧ Upd S ι (AG S r (some (Er (Br l) ys))) ι' ∧ EF σ' (AG S r (some (Er (Br l) ys))) ι' w' ∧ AM σ' (AG S r (some (Er (Br l) ys))) ι' v (.tup []) ∧ Fit σ' w' ∧ (∀ p x, σ p = some x → σ' p = some x) ∧
   (∀ p : Addr, p.block < w.heap.size → Bt S ι p.block → σ' p = σ p) ∧ (w'.os = w.os ∧ w'.tape = w.tape ∧ w'.output = w.output) ∧ w.heap.size ≤ w'.heap.size ∧
   (∀ g, g < w.heap.size → Bt S ι g → w'.heap[g]? = w.heap[g]?) ∧ (∀ id b g, AG S r (some (Er (Br l) ys)) id = some b → (ι' id).g = some g → w.heap.size ≤ g ∨ ¬ Bt S ι g) := by
 have hS' : Am (AG S r (some (Er (Br l) ys))) := BZ hS hr rfl
 have hb : Ba σ S ι w (ι r) (.mrow 95 3 (l.map Ey ++ ys)) := hO.1 r _ sr
 generalize hxs : l.map Ey ++ ys = xs at hb
 have hlen : xs.length = l.length + ys.length := by rw [← hxs, List.length_append, List.length_map]
 generalize hh : ι r = hd at hb
 cases hb with
 | mnil k1 k2 =>
  obtain ⟨hl0, hy0⟩ : l = [] ∧ ys = [] := by simpa using hxs
  subst hl0 hy0
  refine (AnyF.slices_SortFunc_none Try.sortBd hd.p hd.cap _ w).mono fun e w' ⟨he, hw⟩ => ?_
  subst hw
  have hid : AG S r (some (Er (Br []) [])) = S := ST sr
  rw [hid]
  exact ⟨_, σ, ι, he, hS, Upd.refl _ _, hO, .tup (fun _ => undef) rfl (by simp) (by simp), hF, fun _ _ h => h, fun _ _ _ => rfl, ⟨rfl, rfl, rfl⟩, Nat.le_refl _, fun _ _ _ => rfl, fun id b g h1 h2 => .inr fun hno => hno id b h1 h2⟩
 | @mrow _ _ _ g cs k1 k2 k3 k4 k5 k6 k7 k8 k9 =>
  subst hxs
  obtain ⟨d, d1, d2⟩ := JZ (σ := σ) (vs := cs) l 0 (fun k b hb j a ha => by
   obtain ⟨v, v1, v2⟩ := k8 k (Ey b) j a (by rw [List.getElem?_append_left (by rw [List.length_map]; exact DD hb), List.getElem?_map, hb]; rfl) ha
   exact ⟨v, by rw [Nat.zero_add]; exact v1, v2⟩)
  have dlen : d.length = l.length := d1.len
  have hcap : l.length ≤ hd.cap := by omega
  have hfits : d.toArray.size * 3 ≤ cs.size := by
   rw [k6]
   simp only [List.size_toArray, dlen]
   exact Nat.mul_le_mul_right 3 hcap
  have hH : HoldsK Bq 3 w g 0 d.toArray := fun j hj => by
   rw [size_flatK] at hj
   obtain ⟨x, v, q1, q2, q3⟩ := NC hj
   have q1 : d[j / 3]? = some x := by simpa using q1
   have hc := d2 _ _ _ _ q1 q2
   have e : 0 + j / 3 * 3 + j % 3 = j := by omega
   rw [e] at hc
   refine ⟨?_, ?_⟩
   ·rw [cell_of_row w g _ _ _ _ k3, Nat.zero_add, hc, q3]
    rfl
   ·exact Blk.frozen k3 _
  have eg : ∀ args w, (callFunc 64 args).run Try.prog w = .ok (.enter 64 args) w := enters_of Try.func64 (by kernel_rfl) rfl
  have hgl : g < w.heap.size := (Array.getElem?_eq_some_iff.1 k3).1
  have hcon := AnyQ.slices_SortFunc Try.sortBd 3 Try.isAgg95 Try.sizeOf95 Bq HT (fun x v hv => by simp [Bq] at hv; rcases hv with rfl | rfl | rfl <;> rfl) (fun x y : Di => CZ x.1 y.1) Pb 64 #[] g 0 hd.cap d.toArray w eg (fun _ _ _ _ x y => Su x y _) hH hgl (by simp [dlen]; omega)
  rw [show d.toArray.size = l.length by simp [dlen]] at hcon
  rw [k2, show (l.length) = l.length from rfl]
  refine Calls.mono hcon fun e w' ⟨he, d', n, os, hp, hs, hw⟩ => ?_
  obtain ⟨hp1, hp2, hp3⟩ := hp
  have hd'l : d'.size = l.length := by rw [hp1]; simp [dlen]
  have hperm : d.Perm d'.toList := by
   have e1 : d'.extract 0 l.length = d' := by rw [← hd'l]; exact Array.extract_size
   have e2 : d.toArray.extract 0 l.length = d.toArray := by
    rw [show l.length = d.toArray.size by simp [dlen]]
    exact Array.extract_size
   rw [e1, e2] at hp3
   exact hp3.symm
  obtain ⟨l', l1, l2⟩ := O5 hperm d1
  have hl'len : l'.length = l.length := l2.length_eq.symm
  have hord : BM l' := by
   unfold BM
   rw [List.pairwise_iff_getElem]
   intro i j hi hj hij
   obtain ⟨x, x1, x2, _⟩ := l1.get (List.getElem?_eq_getElem hi)
   obtain ⟨y, y1, y2, _⟩ := l1.get (List.getElem?_eq_getElem hj)
   have hso := hs i j (Nat.zero_le _) hij (by omega)
   have e1 : d'[i]! = x := by
    rw [Array.getElem?_toList] at x1
    rw [getElem!_def, x1]
   have e2 : d'[j]! = y := by
    rw [Array.getElem?_toList] at y1
    rw [getElem!_def, y1]
   rw [e1, e2] at hso
   simp only [ltOf, decide_eq_false_iff_not] at hso
   have hno : sLt l'[j].1 l'[i].1 = false := by
    cases hx : sLt l'[j].1 l'[i].1 with
    | false => rfl
    | true => exact absurd (CB.2 (by rw [x2, y2]; exact hx)) hso
   have hdiff : l'[i].1 ≠ l'[j].1 := by
    have hn' := EQ l2 hn
    unfold Cf at hn'
    rw [List.nodup_iff_pairwise_ne, List.pairwise_map, List.pairwise_iff_getElem] at hn'
    exact hn' i j hi hj hij
   rcases EG l'[i].1 l'[j].1 with q | q | q
   ·exact q
   ·exact absurd q hdiff
   ·rw [q] at hno; cases hno
  have hl' : l' = Br l := DV hord (Ct hn) ((l2.symm).trans (Cq l).symm)
  subst hl'
  obtain ⟨w1, w2, w3⟩ := PC w g n d' os cs _ k3
  rw [← hw] at w1 w2 w3
  have hfits' : d'.size * 3 ≤ cs.size := by rw [hd'l]; rw [← dlen]; simpa using hfits
  have hupd : Upd S ι (AG S r (some (Er (Br l) ys))) ι := fun id b hb => by
   by_cases e : id = r
   ·subst e
    rw [sr] at hb
    cases hb
    exact ⟨_, AE _ _ _, by simp [AJ.len, Bl], fun _ => ⟨rfl, rfl⟩⟩
   ·exact ⟨b, by rw [AH _ e]; exact hb, Nat.le_refl _, fun _ => ⟨rfl, rfl⟩⟩
  have hotherg : ∀ id b g', id ≠ r → S id = some b → (ι id).g = some g' → g' ≠ g := fun id b g' hne hb hg' e => by
   subst e
   exact hne (hO.2 id r b _ g' hb sr hg' (by rw [hh]; exact k1))
  have hFit : Fit σ w' := fun p x hp => by
   have hlt := hF.lt hp
   by_cases e : p.block = g
   ·rw [k9 p e] at hp; cases hp
   ·exact (B_ (w2 _ hlt e)).trans (hF p x hp)
  refine ⟨_, σ, ι, he, hS', hupd, ⟨fun id b hb => ?_, fun id id' b b' g' q1 q2 q3 q4 => ?_⟩, .tup (fun _ => undef) rfl (by simp) (by simp), hFit, fun _ _ h => h, fun _ _ _ => rfl, ?_, w3, fun g' q1 q2 => ?_, fun id b g' q1 q2 => ?_⟩
  ·by_cases e : id = r
   ·subst e
    rw [AE] at hb
    cases hb
    rw [hh]
    have hlen' : ((Br l).map Ey ++ ys).length = l.length + ys.length := by rw [List.length_append, List.length_map, Bl]
    refine .mrow k1 k2 w1 (by rw [hlen', ← hlen]; exact k4) k5 (by rw [Ri]; exact k6) (fun x hx => ?_) (fun k x j a hx ha => ?_) k9
    ·rcases List.mem_append.1 hx with hx | hx
     ·exact PM x hx
     ·exact hys x hx
    rcases Nat.lt_or_ge k l.length with hk | hk
    ·rw [List.getElem?_append_left (by rw [List.length_map, Bl]; exact hk), List.getElem?_map, Option.map_eq_some_iff] at hx
     obtain ⟨b, hb, rfl⟩ := hx
     obtain ⟨y, y1, y2, y3⟩ := l1.get hb
     obtain ⟨v, v1, v2⟩ := y3.get ha
     exact ⟨v, Sc hfits' (by simpa using y1) v1, v2⟩
    ·rw [List.getElem?_append_right (by rw [List.length_map, Bl]; exact hk), List.length_map, Bl] at hx
     obtain ⟨v, v1, v2⟩ := k8 k x j a (by rw [List.getElem?_append_right (by rw [List.length_map]; exact hk), List.length_map]; exact hx) ha
     exact ⟨v, by rw [PY (by rw [hd'l]; omega)]; exact v1, v2⟩
   ·rw [AH _ e] at hb
    refine (hO.1 id b hb).mono (fun _ _ h => h) hupd (fun g' hg' => w2 g' ((hO.1 id b hb).gsome hg') (hotherg id b g' e hb hg')) (fun _ _ _ _ => rfl)
  ·have back : ∀ i c, AG S r (some (Er (Br l) ys)) i = some c → ∃ c', S i = some c' := fun i c hc => by
    by_cases e : i = r
    ·subst e; exact ⟨_, sr⟩
    ·rw [AH _ e] at hc; exact ⟨c, hc⟩
   obtain ⟨c1, c1'⟩ := back _ _ q1
   obtain ⟨c2, c2'⟩ := back _ _ q2
   exact hO.2 _ _ _ _ _ c1' c2' q3 q4
  ·rw [hw]
   exact ⟨rfl, rfl, rfl⟩
  ·exact w2 g' q1 fun e => q2 r _ sr (by rw [hh, e]; exact k1)
  ·refine .inr fun hno => ?_
   by_cases e : id = r
   ·subst e; exact hno id _ sr q2
   ·rw [AH _ e] at q1; exact hno id _ q1 q2
theorem Na (l : List Bd) (hn : Cf l) (hl : l.length ≤ 100000) (r : Nat) (hr : 1000 ≤ r) (S : AA) (sr : S r = some (Fu l)) :
  Aq Try.prog 63 [.one (.row r l.length), .one (.fn 64 [])] S (.tup []) (AG S r (some (Fu (Br l)))) := by
 intro hS σ w vs ι hG hF hO hv
 cases hv with
 | @cons v1 _ _ _ h1 hv =>
 cases hv with
 | @cons v2 _ _ _ h2 hv =>
 cases hv
 obtain ⟨b, b1, b2, b3⟩ := CY (AQ h1)
 rw [sr] at b1
 cases b1
 have hv1 := b3 (by simp [AJ.len])
 subst hv1
 have hv2 : v2 = .func (.func 64) #[] #[] := by
  cases AQ h2 with
  | @fn _ vs _ c q1 q2 q3 =>
   have e : vs = #[] := Array.eq_empty_of_size_eq_zero (by simpa using q1)
   rw [e]
 subst hv2
 have e : ∀ m : List Bd, Fu m = Er m [] := fun m => by rw [Er, List.append_nil]
 rw [e] at sr ⊢
 exact P6 l [] (by simp) hn hl r hr S sr hS σ w ι hF hO
theorem Tb (l : List Bd) (hn : Cf l) (hl : l.length ≤ 100000) (r : Nat) (hr : 1000 ≤ r) (S : AA) (sr : S r = some (Fu l)) :
  Aq Try.prog 58 [.one (.row r l.length)] S (.one (.row r l.length)) (AG S r (some (Fu (Br l)))) := by
 refine JJ.acS fun hS C hC => ?_
 unfold E0
 repeat' with_reducible first | refine W ?_ | refine Z0 ?_ | ((first | refine Wo fun K hK => ?_ | refine Wq ?_ | refine Wr ?_); (try simp only [go_sem, fN, seval, eT, iR]); (repeat refine Ai ?_); (try (refine hK _ ?_; clear hK K)))
 refine ⟨_, _, Na l hn hl (up1 r) (BA r) (upS S) (by rw [BY, sr]; rfl), ?_⟩
 repeat' with_reducible first | refine W ?_ | refine Z0 ?_ | ((first | refine Wo fun K hK => ?_ | refine Wq ?_ | refine Wr ?_); (try simp only [go_sem, fN, seval, eT, iR]); (repeat refine Ai ?_); (try (refine hK _ ?_; clear hK K)))
 have hc := BZ (b := Fu (Br l)) hS hr rfl
 refine PB trivial ?_ (Mu (n := l.length) hr) (fun i b _ h => (hc i b h).2) (GS hc) hc
 simp only [go_sem, fN, seval, eT, iR, AB, AD, AK]



end Go.Proofs.Ytlbpdlnndnfnlaa
