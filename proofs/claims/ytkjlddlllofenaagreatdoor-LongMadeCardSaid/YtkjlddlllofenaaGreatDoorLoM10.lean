/-
  Part 10 of the texts. Conditions: none.
-/
import Derived.Test.YtkjlddlllofenaaGreatDoorLoM9
namespace Go.Proofs.YtkjlddlllofenaaGreatDoor
open Go Go.RowKit
set_option linter.unusedVariables false
set_option linter.unusedSimpArgs false
set_option maxHeartbeats 800000
theorem insB_split {l : List Bd} {b : Bd} {k : Nat} (hk : k ≤ l.length) (h1 : ∀ c ∈ l.take k, sLt b.1 c.1 = false) (h2 : ∀ c, l[k]? = some c → sLt b.1 c.1 = true) : insB b l = l.take k ++ b :: l.drop k := by
 induction l generalizing k with
 | nil => simp [insB]
 | cons c l ih =>
  cases k with
  | zero =>
   unfold insB
   rw [if_pos (h2 c rfl)]
   rfl
  | succ k =>
   unfold insB
   rw [if_neg (by rw [h1 c (by simp)]; simp), ih (by simpa using hk) (fun c hc => h1 c (by simp [hc])) (fun c hc => h2 c (by simpa using hc))]
   rfl
def laidAt (acc : List Bd) (b : Bd) (k : Nat) : List Bd := acc.take k ++ b :: acc.drop k
theorem laidAt_len (acc : List Bd) (b : Bd) (k : Nat) : (laidAt acc b k).length = acc.length + 1 := by
 have := congrArg List.length (List.take_append_drop k acc)
 unfold laidAt
 rw [List.length_append] at this ⊢
 rw [List.length_cons]
 omega
theorem laidAt_get {acc : List Bd} {b : Bd} {k : Nat} (h : k ≤ acc.length) : (laidAt acc b k)[k]? = some b := by
 unfold laidAt
 rw [List.getElem?_append_right (by rw [List.length_take]; omega), List.length_take, Nat.min_eq_left h, Nat.sub_self]
 rfl
theorem laidAt_prev {acc : List Bd} {b c : Bd} {k : Nat} (h : acc[k]? = some c) : (laidAt acc b (k + 1))[k]? = some c := by
 have := lt_of_get h
 unfold laidAt
 rw [List.getElem?_append_left (by rw [List.length_take]; omega), List.getElem?_take, if_pos (by omega), h]
theorem laidAt_swap {acc : List Bd} {b c : Bd} {k : Nat} (h : acc[k]? = some c) : ((laidAt acc b (k + 1)).set (k + 1) c).set k b = laidAt acc b k := by
 have hk := lt_of_get h
 apply List.ext_getElem?
 intro i
 have hl : ((laidAt acc b (k + 1)).set (k + 1) c).length = acc.length + 1 := by rw [List.length_set, laidAt_len]
 rw [List.getElem?_set, List.getElem?_set]
 unfold laidAt at hl ⊢
 by_cases h1 : k = i
 ·subst h1
  rw [if_pos rfl, if_pos (by rw [hl]; omega), List.getElem?_append_right (by rw [List.length_take]; omega), List.length_take, Nat.min_eq_left (by omega), Nat.sub_self]
  rfl
 ·rw [if_neg h1]
  by_cases h2 : k + 1 = i
  ·subst h2
   have e := laidAt_len acc b (k + 1)
   unfold laidAt at e
   rw [if_pos rfl, if_pos (by rw [e]; omega), List.getElem?_append_right (by rw [List.length_take]; omega), List.length_take, Nat.min_eq_left (by omega), show k + 1 - k = 1 by omega, List.getElem?_cons_succ, List.getElem?_drop, Nat.add_zero, h]
  ·rw [if_neg h2]
   rcases Nat.lt_or_ge i k with h3 | h3
   ·rw [List.getElem?_append_left (by rw [List.length_take]; omega), List.getElem?_append_left (by rw [List.length_take]; omega), List.getElem?_take, List.getElem?_take, if_pos (by omega), if_pos h3]
   ·rw [List.getElem?_append_right (by rw [List.length_take]; omega), List.getElem?_append_right (by rw [List.length_take]; omega), List.length_take, List.length_take, Nat.min_eq_left (by omega), Nat.min_eq_left (by omega)]
    obtain ⟨j, rfl⟩ : ∃ j, i = k + 2 + j := ⟨i - (k + 2), by omega⟩
    rw [show k + 2 + j - (k + 1) = j + 1 by omega, show k + 2 + j - k = j + 1 + 1 by omega, List.getElem?_cons_succ, List.getElem?_cons_succ, List.getElem?_drop, List.getElem?_drop]
    congr 1
    omega
theorem laidAt_last (acc : List Bd) (b : Bd) : laidAt acc b acc.length = acc ++ [b] := by
 unfold laidAt
 rw [List.take_length, List.drop_length]
theorem sortedR_a (l : List Bd) (hn : Named l) (hl : l.length ≤ 100000) : ACalls Tryz.prog 49 [aBds l] (aBds (sortB l)) := by
 refine ok_R_Sorted.ac fun C hC => ?_
 unfold ir_R_Sorted
 repeat' (first | (with_reducible first | refine W ?_ | refine Z0 ?_) | ((with_reducible first | refine Wo (fun K hK => ?_) | refine Wp ?_ | refine Wq ?_ | refine Wr ?_); (try simp only [go_sem, fN, seval, eT, iR, dT, dF, nL]); (repeat with_reducible refine Ai ?_); (try (refine hK _ ?_; clear hK K)); try with_reducible refine iC ?_))
 refine IWP.ghost (Ghost.ownM 3 900 95 3 rfl rfl (by rw [hC]; decide)) ?_
 refine IWP.loopD [6] (fun m s => ∃ i, i ≤ l.length ∧ m = l.length - i ∧ s.env 0 = aBds l ∧ s.env 3 = .one (.row 900 i) ∧ s.env 4 = aInt i ∧ s.S 900 = some (rowBd (sortB (l.take i))) ∧ s.S 6 = none) l.length ⟨0, Nat.zero_le _, rfl, rfl, rfl, rfl, rfl, rfl⟩ ?_
 rintro m ⟨env, S⟩ ⟨i, hi, rfl, e0, e3, e4, s900, s6⟩
 simp only at e0 e3 e4 s900 s6
 have hlen : (sortB (l.take i)).length = i := by rw [sortB_length, List.length_take]; omega
 have hnt : ∀ j, Named (l.take j) := fun j => by
  unfold Named
  rw [List.map_take]
  exact hn.sublist (List.take_sublist _ _)
 by_cases hlt : (i : Int) < l.length
 ·obtain ⟨b, hb⟩ := get_lt (show i < l.length by omega)
  have ho := sortB_ordered (hnt i)
  have hmap : (sortB (l.take i)).map encB ++ [encB b] = (laidAt (sortB (l.take i)) b i).map encB := by
   have := laidAt_last (sortB (l.take i)) b
   rw [hlen] at this
   rw [this, List.map_append]
   rfl
  have hsnoc : sortB (l.take (i + 1)) = insB b (sortB (l.take i)) := by rw [take_snoc hb, sortB_snoc]
  generalize hacc : sortB (l.take i) = acc at *
  repeat' (first | (with_reducible first | refine W ?_ | refine Z0 ?_) | ((with_reducible first | refine Wo (fun K hK => ?_) | refine Wp ?_ | refine Wq ?_ | refine Wr ?_); (try simp only [go_sem, fN, seval, eT, iR, e0, e3, e4, s900, s6, hlt, hb, hlen, encB, dT, dF, nL]); (repeat with_reducible refine Ai ?_); (try (refine hK _ ?_; clear hK K)); try with_reducible refine iC ?_))
  refine IWP.loopD [6] (fun m s => ∃ k, k ≤ i ∧ m = k ∧ (∀ c ∈ acc.drop k, sLt b.1 c.1 = true) ∧ s.env 0 = aBds l ∧ s.env 3 = .one (.row 900 (i + 1)) ∧ s.env 4 = aInt i ∧ s.env 5 = aInt k ∧ s.S 900 = some (rowBd (laidAt acc b k)) ∧ s.S 6 = none) i ⟨i, Nat.le_refl _, rfl, ?_, ?_⟩ ?_
  ·rw [← hlen, List.drop_length]; simp
  ·simp only [go_sem, fN, seval, eT, iR, e0, e3, e4, s6, hlen]
   refine ⟨by congr 3; omega, ?_⟩
   show ABlk.mrow _ _ (acc.map encB ++ [encB b]) = _
   rw [hmap]
  rintro k ⟨env2, S2⟩ ⟨_, hk, rfl, hd, e0, e3, e4, e5, s900, s6⟩
  simp only at e0 e3 e4 e5 s900 s6
  have hcl := laidAt_len acc b k
  rw [hlen] at hcl
  have hck := laidAt_get (b := b) (show k ≤ acc.length by omega)
  have hend : (∀ c, acc[k - 1]? = some c → 0 < k → sLt b.1 c.1 = false) → insB b acc = laidAt acc b k := fun h => by
   refine insB_split (by omega) (fun c hc => ?_) fun c hc => hd c (by rw [drop_get hc]; simp)
   cases k with
   | zero => simp at hc
   | succ k =>
    obtain ⟨p, hp⟩ := get_lt (show k < acc.length by omega)
    have h1 := h p hp (by omega)
    obtain ⟨j, hj, rfl⟩ := List.getElem_of_mem hc
    rw [List.length_take] at hj
    rw [List.getElem_take]
    have hcj : acc[j]? = some acc[j] := List.getElem?_eq_getElem (by omega)
    cases hx : sLt b.1 acc[j].1 with
    | false => rfl
    | true =>
     rcases Nat.lt_or_ge j k with h3 | h3
     ·have := sLt_trans hx (ordered_get ho hcj hp h3)
      rw [this] at h1; cases h1
     ·have e : j = k := by omega
      subst e
      rw [hp] at hcj
      cases hcj
      rw [hx] at h1; cases h1
  by_cases hk0 : 0 < (k : Int)
  ·obtain ⟨k, rfl⟩ : ∃ q, k = q + 1 := ⟨k - 1, by omega⟩
   obtain ⟨c, hc⟩ := get_lt (show k < acc.length by omega)
   have hcp := laidAt_prev (b := b) hc
   have hz : (((k + 1 : Nat) : Int) - 1).toNat = k := by omega
   have hz0 : (0 : Int) ≤ ((k + 1 : Nat) : Int) - 1 := by omega
   have hl1 : k + 1 < i + 1 := by omega
   have hl2 : k < i + 1 := by omega
   cases hx : sLt b.1 c.1 with
   | true =>
    have hkk : ¬ k + 1 = k := by omega
    repeat' (first | (with_reducible first | refine W ?_ | refine Z0 ?_) | ((with_reducible first | refine Wo (fun K hK => ?_) | refine Wp ?_ | refine Wq ?_ | refine Wr ?_); (try simp only [go_sem, fN, seval, eT, iR, e0, e3, e4, e5, s900, s6, hk0, hck, hcp, hz, hz0, hcl, hl1, hl2, hx, encB, List.length_set, List.getElem?_set, hkk, dT, dF, nL]); (repeat with_reducible refine Ai ?_); (try (refine hK _ ?_; clear hK K)); try with_reducible refine iC ?_))
    refine then_normal ⟨k, by omega, k, by omega, rfl, fun d hd' => ?_, ?_⟩
    ·rw [drop_get hc] at hd'
     rcases List.mem_cons.1 hd' with rfl | hd'
     ·exact hx
     ·exact hd d hd'
    ·simp only [go_sem, fN, seval, AS.drop, dropS, AC.clears, AC.clear, AC.highs, AC.high, Bool.not_false, Bool.true_and, Bool.and_self, AV.purge, AV.purges, AC.purge, ABlk.purge, List.contains_cons, List.contains_nil, Nat.reduceBEq, Bool.or_self, Bool.or_false, Bool.false_or, Bool.or_true, eT, iR, e0, e3, e4, e5, s6]
     refine ⟨by congr 3; omega, ?_⟩
     show ABlk.mrow _ _ ((((laidAt acc b (k + 1)).map encB).set (k + 1) (encB c)).set k (encB b)) = _
     rw [← List.map_set, ← List.map_set, laidAt_swap hc]
   | false =>
    repeat' (first | (with_reducible first | refine W ?_ | refine Z0 ?_) | ((with_reducible first | refine Wo (fun K hK => ?_) | refine Wp ?_ | refine Wq ?_ | refine Wr ?_); (try simp only [go_sem, fN, seval, eT, iR, e0, e3, e4, e5, s900, s6, hk0, hck, hcp, hz, hz0, hcl, hl1, hl2, hx, encB, dT, dF, nL]); (repeat with_reducible refine Ai ?_); (try (refine hK _ ?_; clear hK K)); try with_reducible refine iC ?_))
    refine then_normal ⟨l.length - (i + 1), by omega, i + 1, by omega, rfl, ?_⟩
    rw [hsnoc, hend fun d hd' _ => by
     rw [show k + 1 - 1 = k by omega, hc] at hd'
     cases hd'
     exact hx]
    simp only [go_sem, fN, seval, AS.drop, dropS, AC.clears, AC.clear, AC.highs, AC.high, Bool.not_false, Bool.true_and, Bool.and_self, AV.purge, AV.purges, AC.purge, ABlk.purge, List.contains_cons, List.contains_nil, Nat.reduceBEq, Bool.or_self, Bool.or_false, Bool.false_or, Bool.or_true, eT, iR, e0, e3, e4, s900, s6]
    congr 3
  ·repeat' (first | (with_reducible first | refine W ?_ | refine Z0 ?_) | ((with_reducible first | refine Wo (fun K hK => ?_) | refine Wp ?_ | refine Wq ?_ | refine Wr ?_); (try simp only [go_sem, fN, seval, eT, iR, e0, e3, e4, e5, s900, s6, hk0, dT, dF, nL]); (repeat with_reducible refine Ai ?_); (try (refine hK _ ?_; clear hK K)); try with_reducible refine iC ?_))
   refine then_normal ⟨l.length - (i + 1), by omega, i + 1, by omega, rfl, ?_⟩
   rw [hsnoc, hend fun d hd' h => by omega]
   simp only [go_sem, fN, seval, AS.drop, dropS, AC.clears, AC.clear, AC.highs, AC.high, Bool.not_false, Bool.true_and, Bool.and_self, AV.purge, AV.purges, AC.purge, ABlk.purge, List.contains_cons, List.contains_nil, Nat.reduceBEq, Bool.or_self, Bool.or_false, Bool.false_or, Bool.or_true, eT, iR, e0, e3, e4, s900, s6]
   congr 3
 ·refine IWP.ghost (Ghost.share (id := 900) s900) ?_
  repeat' (first | (with_reducible first | refine W ?_ | refine Z0 ?_) | ((with_reducible first | refine Wo (fun K hK => ?_) | refine Wp ?_ | refine Wq ?_ | refine Wr ?_); (try simp only [go_sem, fN, seval, eT, iR, e0, e3, e4, hlt, dT, dF, nL]); (repeat with_reducible refine Ai ?_); (try (refine hK _ ?_; clear hK K)); try with_reducible refine iC ?_))
  simp only [go_sem, fN, seval, FinQ, AS.result, resAll, resOne, tupV, hlen]
  rw [List.take_of_length_le (by omega)]

set_option maxRecDepth 100000
def ir_unify_occurs : IR :=
 (.seq (.ops [.i 3 (.box 61 (.t 1)), .i 4 (.mov (.c (.one (.st (.bool false)))))]) (.seq (.seq (.ops [.f 7 0 3, .l 8 7, .m 9 0, .i 10 (.bin .eql (.t 8) (.t 9))]) (.cond (.t 10) (.seq (.ops [.i 4 (.mov (.c (.one (.st (.bool true)))))]) .ret) .skip)) (.seq (.seq (.ops [.f 11 1 3, .l 12 11, .i 13 (.len false (.t 12)), .i 14 (.mov (.n 0))]) (.block 0 (.loop (.seq (.ops [.i 15 (.bin .lss (.t 14) (.t 13))]) (.seq (.cond (.t 15) .skip (.exit 0)) (.seq (.block 1 (.seq (.ops [.i 16 (.indexAddr 2 (.t 12) (.t 14)), .L 17 2 16, .i 6 (.alloc 61 [.st (.str (ByteArray.mk (#[]))), .full []]), .s 2 6 17]) (.seq (.ops [.m 18 0, .L 19 2 6, .i 20 (.call 97 [.t 18, .t 19])]) (.cond (.t 20) (.seq (.ops [.i 4 (.mov (.c (.one (.st (.bool true)))))]) .ret) .skip)))) (.ops [.i 21 (.bin .add (.t 14) (.n 1)), .m 14 21]))))))) (.seq (.ops [.i 4 (.mov (.c (.one (.st (.bool false)))))]) .ret))))
theorem ok_unify_occurs : OkF Tryz.prog 97 22 [] ir_unify_occurs [.t 4] := .of Tryz.func97 rfl rfl (by kernel_rfl) rfl
def ir_unify_Solve : IR :=
 (.seq (.ops [.i 2 (.mov (.c (.one (.full [])))), .i 3 (.mov (.n 0))]) (.seq (.ops [.i 4 (.mov (.c (.one (.full []))))]) (.seq (.ops [.i 5 (.mov (.c (.one (.full []))))]) (.seq (.seq (.ops [.m 15 0, .i 16 (.len false (.t 15)), .i 17 (.bin .sub (.t 16) (.n 1)), .m 6 17]) (.block 0 (.loop (.seq (.seq (.ops [.m 18 6, .i 19 (.bin .geq (.t 18) (.n 0))]) (.cond (.t 19) .skip (.exit 0))) (.seq (.block 1 (.ops [.m 22 5, .m 23 0, .m 24 6, .i 25 (.indexAddr 4 (.t 23) (.t 24)), .L 26 4 25, .i 27 (.buildSlice false 91 4 [.t 26]), .i 28 (.appP 91 4 80 (.t 22) (.t 27)), .m 5 28])) (.ops [.m 20 6, .i 21 (.bin .sub (.t 20) (.n 1)), .m 6 21])))))) (.seq (.block 2 (.loop (.seq (.seq (.ops [.m 29 5, .i 30 (.len false (.t 29)), .i 31 (.bin .gtr (.t 30) (.n 0))]) (.cond (.t 31) .skip (.exit 2))) (.block 3 (.seq (.ops [.m 32 5, .m 33 5, .i 34 (.len false (.t 33)), .i 35 (.bin .sub (.t 34) (.n 1)), .i 36 (.indexP 4 (.t 32) (.t 35)), .L 37 4 36, .i 7 (.alloc 91 [.st (.str (ByteArray.mk (#[]))), .full [], .st (.str (ByteArray.mk (#[]))), .full []]), .s 4 7 37]) (.seq (.ops [.m 38 5, .m 39 5, .i 40 (.len false (.t 39)), .i 41 (.bin .sub (.t 40) (.n 1)), .i 42 (.cutP 4 (.t 38) (.t 41)), .m 5 42]) (.seq (.ops [.m 44 4, .f 45 0 7, .L 46 2 45, .i 47 (.callR 80 [.t 44, .t 46]), .m 43 47, .i 48 (.extract 0 (.t 43)), .i 49 (.extract 1 (.t 43)), .i 8 (.alloc 61 [.st (.str (ByteArray.mk (#[]))), .full []]), .s 2 8 48, .m 9 49]) (.seq (.ops [.m 51 4, .f 52 2 7, .L 53 2 52, .i 54 (.callR 80 [.t 51, .t 53]), .m 50 54, .i 55 (.extract 0 (.t 50)), .i 56 (.extract 1 (.t 50)), .i 10 (.alloc 61 [.st (.str (ByteArray.mk (#[]))), .full []]), .s 2 10 55, .m 11 56]) (.seq (.seq (.ops [.m 57 9, .i 58 (.un .not (.t 57)), .m 59 58, .mk (some 60) (some (59, false)) (.mov (.t 11)) .no, .mk (some 61) (some (59, false)) (.un .not (.t 60)) .no, .i 62 (.pick (.t 59) (.c (.one (.st (.bool true)))) (.t 61))]) (.cond (.t 62) (.seq (.ops [.i 2 (.mov (.c (.one (.full [])))), .i 3 (.mov (.n 8))]) .ret) .skip)) (.block 4 (.seq (.ops [.f 86 0 8, .l 87 86, .i 88 (.call 96 [.t 87]), .m 89 88, .mk (some 90) (some (89, true)) (.fieldAddr 0 (.t 8)) .no, .mk (some 91) (some (89, true)) (.load false 1 (.t 90)) .no, .mk (some 92) (some (89, true)) (.fieldAddr 0 (.t 10)) .no, .mk (some 93) (some (89, true)) (.load false 1 (.t 92)) .no, .mk (some 94) (some (89, true)) (.bin .eql (.t 91) (.t 93)) .no, .i 95 (.pick (.t 89) (.t 94) (.c (.one (.st (.bool false))))), .m 85 95]) (.cond (.t 85) .skip (.seq (.ops [.f 97 0 8, .l 98 97, .i 99 (.call 96 [.t 98]), .m 100 99, .mk (some 101) (some (100, false)) (.fieldAddr 0 (.t 10)) .no, .mk (some 102) (some (100, false)) (.load false 1 (.t 101)) .no, .mk (some 103) (some (100, false)) (.call 96 [.t 102]) .no, .i 104 (.pick (.t 100) (.c (.one (.st (.bool true)))) (.t 103)), .m 96 104]) (.cond (.t 96) (.seq (.seq (.ops [.f 105 0 8, .l 106 105, .i 107 (.call 96 [.t 106]), .i 108 (.un .not (.t 107))]) (.cond (.t 108) (.ops [.L 109 2 10, .L 110 2 8, .s 2 8 109, .s 2 10 110]) .skip)) (.seq (.seq (.ops [.f 111 0 8, .l 112 111, .L 113 2 10, .i 114 (.call 97 [.t 112, .t 113])]) (.cond (.t 114) (.seq (.ops [.i 2 (.mov (.c (.one (.full [])))), .i 3 (.mov (.n 6))]) .ret) .skip)) (.seq (.ops [.f 115 0 8, .l 116 115, .L 117 2 10, .i 118 (.build [.st (.str (ByteArray.mk (#[]))), .st (.str (ByteArray.mk (#[]))), .full []] [(0, 1, .t 116), (1, 2, .t 117)]), .i 119 (.buildSlice false 95 3 [.t 118]), .m 12 119]) (.seq (.seq (.ops [.m 120 4, .i 121 (.len false (.t 120)), .i 122 (.mov (.n 0))]) (.block 7 (.loop (.seq (.ops [.i 123 (.bin .lss (.t 122) (.t 121))]) (.seq (.cond (.t 123) .skip (.exit 7)) (.seq (.block 8 (.seq (.ops [.m 124 122, .m 13 124]) (.seq (.ops [.m 126 4, .m 127 13, .m 128 12, .m 129 4, .m 130 13, .i 131 (.indexAddr 3 (.t 129) (.t 130)), .f 132 1 131, .L 133 2 132, .i 134 (.call 80 [.t 128, .t 133]), .m 125 134, .i 135 (.extract 0 (.t 125)), .i 136 (.extract 1 (.t 125)), .i 137 (.indexAddr 3 (.t 126) (.t 127)), .f 138 1 137, .s 2 138 135, .m 9 136]) (.seq (.ops [.m 139 9, .i 140 (.un .not (.t 139))]) (.cond (.t 140) (.seq (.ops [.i 2 (.mov (.c (.one (.full [])))), .i 3 (.mov (.n 8))]) .ret) .skip))))) (.ops [.i 141 (.bin .add (.t 122) (.n 1)), .m 122 141]))))))) (.ops [.m 142 4, .m 143 12, .i 144 (.indexAddr 3 (.t 143) (.n 0)), .L 145 3 144, .i 146 (.buildSlice false 95 3 [.t 145]), .i 147 (.append false 95 3 56 (.t 142) (.t 146)), .i 148 (.callS 84 [.t 147]), .m 4 148]))))) (.seq (.ops [.f 150 0 8, .l 151 150, .f 152 0 10, .l 153 152, .i 154 (.bin .neq (.t 151) (.t 153)), .m 155 154, .mk (some 156) (some (155, false)) (.fieldAddr 1 (.t 8)) .no, .mk (some 157) (some (155, false)) (.load false 1 (.t 156)) .no, .mk (some 158) (some (155, false)) (.len false (.t 157)) .no, .mk (some 159) (some (155, false)) (.fieldAddr 1 (.t 10)) .no, .mk (some 160) (some (155, false)) (.load false 1 (.t 159)) .no, .mk (some 161) (some (155, false)) (.len false (.t 160)) .no, .mk (some 162) (some (155, false)) (.bin .neq (.t 158) (.t 161)) .no, .i 163 (.pick (.t 155) (.c (.one (.st (.bool true)))) (.t 162)), .m 149 163]) (.cond (.t 149) (.seq (.ops [.i 2 (.mov (.c (.one (.full [])))), .i 3 (.mov (.n 5))]) .ret) (.seq (.ops [.f 63 1 8, .l 64 63, .i 65 (.len false (.t 64)), .i 66 (.bin .sub (.t 65) (.n 1)), .m 14 66]) (.block 5 (.loop (.seq (.seq (.ops [.m 67 14, .i 68 (.bin .geq (.t 67) (.n 0))]) (.cond (.t 68) .skip (.exit 5))) (.seq (.block 6 (.ops [.m 71 5, .f 72 1 8, .l 73 72, .m 74 14, .i 75 (.indexAddr 2 (.t 73) (.t 74)), .L 76 2 75, .f 77 1 10, .l 78 77, .m 79 14, .i 80 (.indexAddr 2 (.t 78) (.t 79)), .L 81 2 80, .i 82 (.build [.st (.str (ByteArray.mk (#[]))), .full [], .st (.str (ByteArray.mk (#[]))), .full []] [(0, 2, .t 76), (2, 2, .t 81)]), .i 83 (.buildSlice false 91 4 [.t 82]), .i 84 (.appP 91 4 80 (.t 71) (.t 83)), .m 5 84])) (.ops [.m 69 14, .i 70 (.bin .sub (.t 69) (.n 1)), .m 14 70])))))))))))))))))))))) (.seq (.ops [.m 164 4, .m 2 164, .i 3 (.mov (.n 0))]) .ret))))))
theorem ok_unify_Solve : OkF Tryz.prog 79 165 [30000028, 30000036, 30000042, 30000084, 40000047, 40000054, 148] ir_unify_Solve [.t 2, .t 3] := .of Tryz.func79 rfl rfl (by kernel_rfl) rfl
def ir_R_UnifyOf : IR :=
 (.seq (.ops [.i 2 (.mov (.c (.one (.full [])))), .i 3 (.mov (.n 0))]) (.seq (.ops [.i 4 (.mov (.c (.one (.full []))))]) (.seq (.block 0 (.loop (.seq (.seq (.ops [.m 15 0, .i 16 (.len false (.t 15)), .i 17 (.bin .gtr (.t 16) (.n 0))]) (.cond (.t 17) .skip (.exit 0))) (.block 1 (.seq (.ops [.m 19 4, .m 20 0, .i 21 (.indexAddr 4 (.t 20) (.n 0)), .f 22 0 21, .L 23 2 22, .i 24 (.call 26 [.t 19, .t 23]), .m 18 24, .i 25 (.extract 0 (.t 18)), .i 26 (.extract 1 (.t 18)), .i 5 (.alloc 61 [.st (.str (ByteArray.mk (#[]))), .full []]), .s 2 5 25, .m 6 26]) (.seq (.seq (.ops [.m 27 6, .i 28 (.un .not (.t 27))]) (.cond (.t 28) (.seq (.ops [.i 2 (.mov (.c (.one (.full [])))), .i 3 (.mov (.n 8))]) .ret) .skip)) (.seq (.ops [.m 30 4, .m 31 0, .i 32 (.indexAddr 4 (.t 31) (.n 0)), .f 33 2 32, .L 34 2 33, .i 35 (.call 26 [.t 30, .t 34]), .m 29 35, .i 36 (.extract 0 (.t 29)), .i 37 (.extract 1 (.t 29)), .i 7 (.alloc 61 [.st (.str (ByteArray.mk (#[]))), .full []]), .s 2 7 36, .m 6 37]) (.seq (.seq (.ops [.m 38 6, .i 39 (.un .not (.t 38))]) (.cond (.t 39) (.seq (.ops [.i 2 (.mov (.c (.one (.full [])))), .i 3 (.mov (.n 8))]) .ret) .skip)) (.seq (.ops [.m 40 0, .i 41 (.sliceL 4 (.t 40) (some (.n 1)) none), .m 0 41]) (.seq (.seq (.ops [.f 42 0 5, .l 43 42, .i 44 (.call 47 [.t 43]), .m 45 44, .mk (some 46) (some (45, true)) (.fieldAddr 0 (.t 5)) .no, .mk (some 47) (some (45, true)) (.load false 1 (.t 46)) .no, .mk (some 48) (some (45, true)) (.fieldAddr 0 (.t 7)) .no, .mk (some 49) (some (45, true)) (.load false 1 (.t 48)) .no, .mk (some 50) (some (45, true)) (.bin .eql (.t 47) (.t 49)) .no, .i 51 (.pick (.t 45) (.t 50) (.c (.one (.st (.bool false)))))]) (.cond (.t 51) (.exit 1) .skip)) (.seq (.seq (.ops [.f 52 0 5, .l 53 52, .i 54 (.call 47 [.t 53]), .i 55 (.un .not (.t 54)), .m 56 55, .mk (some 57) (some (56, true)) (.fieldAddr 0 (.t 7)) .no, .mk (some 58) (some (56, true)) (.load false 1 (.t 57)) .no, .mk (some 59) (some (56, true)) (.call 47 [.t 58]) .no, .i 60 (.pick (.t 56) (.t 59) (.c (.one (.st (.bool false)))))]) (.cond (.t 60) (.ops [.L 61 2 7, .L 62 2 5, .s 2 5 61, .s 2 7 62]) .skip)) (.seq (.seq (.ops [.f 63 0 5, .l 64 63, .i 65 (.call 47 [.t 64])]) (.cond (.t 65) (.seq (.seq (.ops [.f 66 0 5, .l 67 66, .L 68 2 7, .i 69 (.call 28 [.t 68]), .i 70 (.call 48 [.t 67, .t 69])]) (.cond (.t 70) (.seq (.ops [.i 2 (.mov (.c (.one (.full [])))), .i 3 (.mov (.n 6))]) .ret) .skip)) (.seq (.ops [.f 71 0 5, .l 72 71, .L 73 2 7, .i 74 (.build [.st (.str (ByteArray.mk (#[]))), .st (.str (ByteArray.mk (#[]))), .full []] [(0, 1, .t 72), (1, 2, .t 73)]), .i 75 (.buildSlice false 95 3 [.t 74]), .m 8 75]) (.seq (.ops [.i 9 (.mov (.c (.one (.full []))))]) (.seq (.seq (.ops [.i 10 (.mov (.n 0))]) (.block 2 (.loop (.seq (.seq (.ops [.m 76 10, .m 77 4, .i 78 (.len false (.t 77)), .i 79 (.bin .lss (.t 76) (.t 78))]) (.cond (.t 79) .skip (.exit 2))) (.seq (.block 3 (.seq (.ops [.m 83 8, .m 84 4, .m 85 10, .i 86 (.indexAddr 3 (.t 84) (.t 85)), .f 87 1 86, .L 88 2 87, .i 89 (.call 26 [.t 83, .t 88]), .m 82 89, .i 90 (.extract 0 (.t 82)), .i 91 (.extract 1 (.t 82)), .i 11 (.alloc 61 [.st (.str (ByteArray.mk (#[]))), .full []]), .s 2 11 90, .m 12 91]) (.seq (.seq (.ops [.m 92 12, .i 93 (.un .not (.t 92))]) (.cond (.t 93) (.seq (.ops [.i 2 (.mov (.c (.one (.full [])))), .i 3 (.mov (.n 8))]) .ret) .skip)) (.ops [.m 94 9, .m 95 4, .m 96 10, .i 97 (.indexAddr 3 (.t 95) (.t 96)), .f 98 0 97, .l 99 98, .L 100 2 11, .i 101 (.build [.st (.str (ByteArray.mk (#[]))), .st (.str (ByteArray.mk (#[]))), .full []] [(0, 1, .t 99), (1, 2, .t 100)]), .i 102 (.buildSlice false 95 3 [.t 101]), .i 103 (.append false 95 3 56 (.t 94) (.t 102)), .m 9 103])))) (.ops [.m 80 10, .i 81 (.bin .add (.t 80) (.n 1)), .m 10 81])))))) (.seq (.ops [.m 104 9, .m 105 8, .i 106 (.indexAddr 3 (.t 105) (.n 0)), .L 107 3 106, .i 108 (.buildSlice false 95 3 [.t 107]), .i 109 (.append false 95 3 56 (.t 104) (.t 108)), .i 110 (.call 49 [.t 109]), .m 4 110]) (.exit 1)))))) .skip)) (.seq (.seq (.ops [.f 111 0 5, .l 112 111, .f 113 0 7, .l 114 113, .i 115 (.bin .neq (.t 112) (.t 114)), .m 116 115, .mk (some 117) (some (116, false)) (.fieldAddr 1 (.t 5)) .no, .mk (some 118) (some (116, false)) (.load false 1 (.t 117)) .no, .mk (some 119) (some (116, false)) (.len false (.t 118)) .no, .mk (some 120) (some (116, false)) (.fieldAddr 1 (.t 7)) .no, .mk (some 121) (some (116, false)) (.load false 1 (.t 120)) .no, .mk (some 122) (some (116, false)) (.len false (.t 121)) .no, .mk (some 123) (some (116, false)) (.bin .neq (.t 119) (.t 122)) .no, .i 124 (.pick (.t 116) (.c (.one (.st (.bool true)))) (.t 123))]) (.cond (.t 124) (.seq (.ops [.i 2 (.mov (.c (.one (.full [])))), .i 3 (.mov (.n 5))]) .ret) .skip)) (.seq (.ops [.i 13 (.mov (.c (.one (.full []))))]) (.seq (.seq (.ops [.i 14 (.mov (.n 0))]) (.block 4 (.loop (.seq (.seq (.ops [.m 125 14, .f 126 1 5, .l 127 126, .i 128 (.len false (.t 127)), .i 129 (.bin .lss (.t 125) (.t 128))]) (.cond (.t 129) .skip (.exit 4))) (.seq (.block 5 (.ops [.m 132 13, .f 133 1 5, .l 134 133, .m 135 14, .i 136 (.indexAddr 2 (.t 134) (.t 135)), .L 137 2 136, .f 138 1 7, .l 139 138, .m 140 14, .i 141 (.indexAddr 2 (.t 139) (.t 140)), .L 142 2 141, .i 143 (.build [.st (.str (ByteArray.mk (#[]))), .full [], .st (.str (ByteArray.mk (#[]))), .full []] [(0, 2, .t 137), (2, 2, .t 142)]), .i 144 (.buildSlice false 91 4 [.t 143]), .i 145 (.append false 91 4 80 (.t 132) (.t 144)), .m 13 145])) (.ops [.m 130 14, .i 131 (.bin .add (.t 130) (.n 1)), .m 14 131])))))) (.ops [.m 146 13, .m 147 0, .i 148 (.append false 91 4 80 (.t 146) (.t 147)), .m 0 148])))))))))))))))) (.seq (.ops [.m 149 4, .m 2 149, .i 3 (.mov (.n 0))]) .ret))))
theorem ok_R_UnifyOf : OkF Tryz.prog 25 150 [] ir_R_UnifyOf [.t 2, .t 3] := .of Tryz.func25 rfl rfl (by kernel_rfl) rfl



theorem occurs_a (x : ByteArray) (t : Tm) : ACalls Tryz.prog 97 [aStr x, aTm t] (aBool (occ x t)) := by
 induction h : SizeOf.sizeOf t using Nat.strongRecOn generalizing t with
 | _ N ih =>
 subst h
 rw [occ_eq]
 refine ok_unify_occurs.ac fun C hC => ?_
 unfold ir_unify_occurs
 refine IWP.learn 1 (by omega) fun hkn => ?_
 have hkn := known_tm hkn
 by_cases hn : t.name = x
 ·repeat' (first | (with_reducible first | refine W ?_ | refine Z0 ?_) | ((with_reducible first | refine Wo (fun K hK => ?_) | refine Wp ?_ | refine Wq ?_ | refine Wr ?_); (try simp only [go_sem, fN, seval, eT, iR, hn, dT, dF, nL]); (repeat with_reducible refine Ai ?_); (try (refine hK _ ?_; clear hK K)); try with_reducible refine iC ?_))
  simp only [go_sem, fN, seval, FinQ, AS.result, resAll, resOne, tupV]
  rw [Bool.true_or]
 rw [decide_eq_false hn, Bool.false_or]
 repeat' (first | (with_reducible first | refine W ?_ | refine Z0 ?_) | ((with_reducible first | refine Wo (fun K hK => ?_) | refine Wp ?_ | refine Wq ?_ | refine Wr ?_); (try simp only [go_sem, fN, seval, eT, iR, hn, dT, dF, nL]); (repeat with_reducible refine Ai ?_); (try (refine hK _ ?_; clear hK K)); try with_reducible refine iC ?_))
 refine IWP.loopD [6] (fun m s => ∃ k, k ≤ t.args.length ∧ m = t.args.length - k ∧ (t.args.take k).any (occ x) = false ∧ s.env 0 = aStr x ∧ s.env 12 = .one (.st (.list (t.args.map encT))) ∧ s.env 13 = aInt t.args.length ∧ s.env 14 = aInt k ∧ s.S 6 = none) t.args.length ⟨0, Nat.zero_le _, rfl, rfl, rfl, rfl, rfl, rfl, rfl⟩ ?_
 rintro m ⟨env, S⟩ ⟨k, hk, rfl, h0, e0, e12, e13, e14, s6⟩
 simp only at e0 e12 e13 e14 s6
 by_cases hlt : (k : Int) < t.args.length
 ·obtain ⟨a, ha⟩ := get_lt (show k < t.args.length by omega)
  repeat' (first | (with_reducible first | refine W ?_ | refine Z0 ?_) | ((with_reducible first | refine Wo (fun K hK => ?_) | refine Wp ?_ | refine Wq ?_ | refine Wr ?_); (try simp only [go_sem, fN, seval, eT, iR, e0, e12, e13, e14, s6, hlt, ha, dT, dF, nL]); (repeat with_reducible refine Ai ?_); (try (refine hK _ ?_; clear hK K)); try with_reducible refine iC ?_))
  refine ⟨_, ih _ (Tm.lt_of_arg (mem_of_get ha)) a rfl, ?_⟩
  cases hc : occ x a with
  | true =>
   repeat' (first | (with_reducible first | refine W ?_ | refine Z0 ?_) | ((with_reducible first | refine Wo (fun K hK => ?_) | refine Wp ?_ | refine Wq ?_ | refine Wr ?_); (try simp only [go_sem, fN, seval, eT, iR, hc, dT, dF, nL]); (repeat with_reducible refine Ai ?_); (try (refine hK _ ?_; clear hK K)); try with_reducible refine iC ?_))
   simp only [go_sem, fN, seval, FinQ, AS.result, resAll, resOne, tupV]
   have : t.args.any (occ x) = true := List.any_eq_true.2 ⟨a, mem_of_get ha, hc⟩
   rw [this]
  | false =>
   repeat' (first | (with_reducible first | refine W ?_ | refine Z0 ?_) | ((with_reducible first | refine Wo (fun K hK => ?_) | refine Wp ?_ | refine Wq ?_ | refine Wr ?_); (try simp only [go_sem, fN, seval, eT, iR, hc, e0, e12, e13, e14, s6, dT, dF, nL]); (repeat with_reducible refine Ai ?_); (try (refine hK _ ?_; clear hK K)); try with_reducible refine iC ?_))
   refine then_normal ⟨t.args.length - (k + 1), by omega, k + 1, by omega, rfl, by rw [take_snoc ha, List.any_append, h0]; simp [hc], ?_⟩
   simp only [go_sem, fN, seval, AS.drop, dropS, AC.clears, AC.clear, AC.highs, AC.high, Bool.not_false, Bool.true_and, Bool.and_self, AV.purge, AV.purges, AC.purge, ABlk.purge, List.contains_cons, List.contains_nil, Nat.reduceBEq, Bool.or_self, Bool.or_false, Bool.false_or, Bool.or_true, eT, iR, e0, e12, e13, e14, s6]
   congr 3
 ·repeat' (first | (with_reducible first | refine W ?_ | refine Z0 ?_) | ((with_reducible first | refine Wo (fun K hK => ?_) | refine Wp ?_ | refine Wq ?_ | refine Wr ?_); (try simp only [go_sem, fN, seval, eT, iR, e0, e12, e13, e14, s6, hlt, dT, dF, nL]); (repeat with_reducible refine Ai ?_); (try (refine hK _ ?_; clear hK K)); try with_reducible refine iC ?_))
  simp only [go_sem, fN, seval, FinQ, AS.result, resAll, resOne, tupV]
  rw [List.take_of_length_le (by omega)] at h0
  rw [h0]

set_option maxHeartbeats 1000000
theorem uends_inv {m : Nat} {s : List Bd} {p : Pr} {l : List Pr} {r : List Bd × Int} (h : UEnds m s (p :: l) r) : (∃ e, stepU s p = .err e ∧ r = ([], e)) ∨ ∃ s' ps n, stepU s p = .go s' ps ∧ n < m ∧ UEnds n s' (ps ++ l) r := by
 cases h with
 | err h => exact .inl ⟨_, h, rfl⟩
 | go h1 h2 => exact .inr ⟨_, _, _, h1, by omega, h2⟩
structure TmOk (U : List ByteArray) (s : List Bd) (t : Tm) : Prop where
 chk : t.chk = 0
 siz : t.size ≤ 2000
 free : NoDom s t
 inU : ∀ y, occ y t = true → y ∈ U
abbrev boxT (t : Tm) : ABlk := .box 61 [.st (.str t.name), .st (.list (t.args.map encT))]
def Turned (U : List ByteArray) (s : List Bd) (p : Pr) (u t : Tm) : Prop := TmOk U s u ∧ TmOk U s t ∧
 ((isVar u.name = true ∧ stepU s p = bindV s u.name t) ∨ (isVar u.name = false ∧ stepU s p = if u.name = t.name ∧ u.args.length = t.args.length then .go s (u.args.zip t.args) else .err 5))
theorem turned_a {U : List ByteArray} {s : List Bd} {p : Pr} (ha : TmOk U s (p.1.on s)) (hb : TmOk U s (p.2.on s)) (hne : ¬ (isVar (p.1.on s).name = true ∧ (p.1.on s).name = (p.2.on s).name)) (hv : isVar (p.1.on s).name = true ∨ isVar (p.2.on s).name = false) : Turned U s p (p.1.on s) (p.2.on s) := by
 have h0 : ¬ (2000 < (p.1.on s).size ∨ 2000 < (p.2.on s).size) := by have := ha.siz; have := hb.siz; omega
 refine ⟨ha, hb, ?_⟩
 cases h1 : isVar (p.1.on s).name with
 | true =>
  refine .inl ⟨rfl, ?_⟩
  unfold stepU
  rw [if_neg h0, if_neg hne, if_pos h1]
 | false =>
  have h2 : isVar (p.2.on s).name = false := hv.resolve_left (by rw [h1]; simp)
  refine .inr ⟨rfl, ?_⟩
  unfold stepU
  rw [if_neg h0, if_neg hne, if_neg (by rw [h1]; simp), if_neg (by rw [h2]; simp)]
theorem turned_b {U : List ByteArray} {s : List Bd} {p : Pr} (ha : TmOk U s (p.1.on s)) (hb : TmOk U s (p.2.on s)) (h1 : isVar (p.1.on s).name = false) (h2 : isVar (p.2.on s).name = true) : Turned U s p (p.2.on s) (p.1.on s) := by
 have h0 : ¬ (2000 < (p.1.on s).size ∨ 2000 < (p.2.on s).size) := by have := ha.siz; have := hb.siz; omega
 refine ⟨hb, ha, .inl ⟨h2, ?_⟩⟩
 unfold stepU
 rw [if_neg h0, if_neg (by rw [h1]; simp), if_neg (by rw [h1]; simp), if_pos h2]
theorem unifyOf_a (U : List ByteArray) (hU : U.length ≤ 20000) (C0 : Nat) (hC0 : C0 ≤ 100000000000) (n : Nat) (l : List Pr) (r : List Bd × Int) (hr : UEnds n [] l r) (hg : UGood U C0 [] l) : ACalls Tryz.prog 25 [aPrs l] (.tup [aBds r.1, aInt r.2]) := by
 refine ok_R_UnifyOf.ac fun C hC => ?_
 unfold ir_R_UnifyOf
 repeat' (first | (with_reducible first | refine W ?_ | refine Z0 ?_) | ((with_reducible first | refine Wo (fun K hK => ?_) | refine Wp ?_ | refine Wq ?_ | refine Wr ?_); (try simp only [go_sem, fN, seval, eT, iR, dT, dF, nL]); (repeat with_reducible refine Ai ?_); (try (refine hK _ ?_; clear hK K)); try with_reducible refine iC ?_))
 refine IWP.loop (fun m x => ∃ s l, UEnds m s l r ∧ UGood U C0 s l ∧ outV x.S (x.env 0) = some (aPrs l) ∧ outV x.S (x.env 4) = some (aBds s) ∧ ∀ i, 1000 ≤ i → x.S i = none) n ⟨[], l, hr, hg, rfl, rfl, fun _ _ => rfl⟩ ?_
 rintro m ⟨env0, S0⟩ ⟨s, l, hr, hg, o0, o4, h1000⟩
 refine IWP.ghost (Ghost.settle 0 o0) ?_
 refine IWP.ghost (Ghost.settle 4 (v := aBds s) o4) ?_
 refine IWP.fresh h1000 fun env henv => ?_
 have e0 : env 0 = aPrs l := henv 0 _ rfl
 have e4 : env 4 = aBds s := henv 4 _ rfl
 clear henv o0 o4 h1000 env0 S0
 cases l with
 | nil =>
  cases hr
  repeat' (first | (with_reducible first | refine W ?_ | refine Z0 ?_) | ((with_reducible first | refine Wo (fun K hK => ?_) | refine Wp ?_ | refine Wq ?_ | refine Wr ?_); (try simp only [go_sem, fN, seval, eT, iR, e0, e4, dT, dF, nL]); (repeat with_reducible refine Ai ?_); (try (refine hK _ ?_; clear hK K)); try with_reducible refine iC ?_))
  simp only [go_sem, fN, seval, FinQ, AS.result, resAll, resOne, tupV]
 | cons p l =>
  have hinv := uends_inv hr
  obtain ⟨hc1, hc2⟩ := hg.lchk p (by simp)
  have hUp := hg.lU p (by simp)
  obtain ⟨hz1, hz2⟩ := hg.lsiz p (by simp)
  obtain ⟨a1, a2, a3⟩ := onU hg hc1 fun y => (hUp y).1
  obtain ⟨b1, b2, b3⟩ := onU hg hc2 fun y => (hUp y).2
  have hl0 : (0 : Int) < ((l.length + 1 : Nat) : Int) := by omega
  by_cases ha : (p.1.on s).size ≤ 2000
  case neg =>
   have he : onTo s p.1 = (Tm.nil, false) := by unfold onTo; rw [if_neg ha]
   have hst : stepU s p = .err 8 := by unfold stepU; rw [if_pos (by omega)]
   repeat' (first | (with_reducible first | refine W ?_ | refine Z0 ?_) | refine Cg _ (onRef_a s p.1 (by omega)) ?_ | ((with_reducible first | refine Wo (fun K hK => ?_) | refine Wp ?_ | refine Wq ?_ | refine Wr ?_); (try simp only [go_sem, fN, seval, eT, iR, e0, e4, hl0, encP, he, dT, dF, nL]); (repeat with_reducible refine Ai ?_); (try (refine hK _ ?_; clear hK K)); try with_reducible refine iC ?_))
   simp only [go_sem, fN, seval, FinQ, AS.result, resAll, resOne, tupV]
   rcases hinv with ⟨e, h1, rfl⟩ | ⟨s', ps, q, h1, _⟩
   ·rw [hst] at h1
    cases h1
    rfl
   ·rw [hst] at h1
    cases h1
  by_cases hb : (p.2.on s).size ≤ 2000
  case neg =>
   have he : onTo s p.1 = (p.1.on s, true) := by unfold onTo; rw [if_pos ha]
   have he2 : onTo s p.2 = (Tm.nil, false) := by unfold onTo; rw [if_neg hb]
   have hst : stepU s p = .err 8 := by unfold stepU; rw [if_pos (by omega)]
   repeat' (first | (with_reducible first | refine W ?_ | refine Z0 ?_) | refine Cg _ (onRef_a s p.1 (by omega)) ?_ | refine Cg _ (onRef_a s p.2 (by omega)) ?_ | ((with_reducible first | refine Wo (fun K hK => ?_) | refine Wp ?_ | refine Wq ?_ | refine Wr ?_); (try simp only [go_sem, fN, seval, eT, iR, e0, e4, hl0, encP, he, he2, dT, dF, nL]); (repeat with_reducible refine Ai ?_); (try (refine hK _ ?_; clear hK K)); try with_reducible refine iC ?_))
   simp only [go_sem, fN, seval, FinQ, AS.result, resAll, resOne, tupV]
   rcases hinv with ⟨e, h1, rfl⟩ | ⟨s', ps, q, h1, _⟩
   ·rw [hst] at h1
    cases h1
    rfl
   ·rw [hst] at h1
    cases h1
  have he : onTo s p.1 = (p.1.on s, true) := by unfold onTo; rw [if_pos ha]
  have he2 : onTo s p.2 = (p.2.on s, true) := by unfold onTo; rw [if_pos hb]
  have htk : List.take l.length (List.map encP l) = l.map encP := List.take_of_length_le (by simp)
  have hta : TmOk U s (p.1.on s) := ⟨a1, ha, a2, a3⟩
  have htb : TmOk U s (p.2.on s) := ⟨b1, hb, b2, b3⟩
  repeat' (first | (with_reducible first | refine W ?_ | refine Z0 ?_) | refine Cg _ (onRef_a s p.1 (by omega)) ?_ | refine Cg _ (onRef_a s p.2 (by omega)) ?_ | ((with_reducible first | refine Wo (fun K hK => ?_) | refine Wp ?_ | refine Wq ?_ | refine Wr ?_); (try simp only [go_sem, fN, seval, eT, iR, e0, e4, hl0, encP, he, he2, dT, dF, nL]); (repeat with_reducible refine Ai ?_); (try (refine hK _ ?_; clear hK K)); try with_reducible refine iC ?_))
  refine ⟨_, isVar_a _, ?_⟩
  by_cases hsame : isVar (p.1.on s).name = true ∧ (p.1.on s).name = (p.2.on s).name
  ·have hst : stepU s p = .go s [] := by unfold stepU; rw [if_neg (by omega), if_pos hsame]
   have hsv : isVar (p.2.on s).name = true := by rw [← hsame.2]; exact hsame.1
   repeat' (first | (with_reducible first | refine W ?_ | refine Z0 ?_) | ((with_reducible first | refine Wo (fun K hK => ?_) | refine Wp ?_ | refine Wq ?_ | refine Wr ?_); (try simp only [go_sem, fN, seval, eT, iR, hsame.1, hsv, hsame.2, e0, e4, dT, dF, nL]); (repeat with_reducible refine Ai ?_); (try (refine hK _ ?_; clear hK K)); try with_reducible refine iC ?_))
   rcases hinv with ⟨e, h1, _⟩ | ⟨s', ps, q, h1, h2, h3⟩
   ·rw [hst] at h1
    cases h1
   rw [hst] at h1
   cases h1
   refine then_normal ⟨q, h2, s, l, h3, hg.tail, ?_, ?_, fun i hi => ?_⟩
   ·simp only [go_sem, fN, seval, eT, iR, htk]
   ·simp only [go_sem, fN, seval, eT, iR, e4]
   ·have i5 : ¬ i = 5 := by omega
    have i7 : ¬ i = 7 := by omega
    simp only [go_sem, fN, seval, eT, iR, i5, i7]
  apply once
  ·intro rest
   cases hv : isVar (p.1.on s).name with
   | true =>
    have hne : ¬ (p.1.on s).name = (p.2.on s).name := fun h => hsame ⟨hv, h⟩
    repeat' (first | (with_reducible first | refine W ?_ | refine Z0 ?_) | ((with_reducible first | refine Wo (fun K hK => ?_) | refine Wq ?_ | refine Wr ?_); (try simp only [go_sem, fN, seval, eT, iR, hv, hne]); (repeat with_reducible refine Ai ?_); (try (with_reducible refine hK _ ?_; skip))))
    with_reducible refine Wp ?_
    simp only [go_sem, fN, seval, true_implies, false_implies, implies_true, dT, dF, nL]
    (try with_reducible refine iC ?_)
    refine Wd ?_
    refine Wb ?_
    refine IWP.mid (fun x => ∃ u t, Turned U s p u t ∧ x.env 0 = aPrs l ∧ x.env 4 = aBds s ∧ x.env 5 = .one (.ptr 5 1 0 0) ∧ x.env 7 = .one (.ptr 7 1 0 0) ∧ x.S 5 = some (boxT u) ∧ x.S 7 = some (boxT t) ∧ ∀ i, i ≠ 5 → i ≠ 7 → x.S i = none) ?_ rest
    repeat' (first | (with_reducible first | refine W ?_ | refine Z0 ?_) | ((with_reducible first | refine Wo (fun K hK => ?_) | refine Wp ?_ | refine Wq ?_ | refine Wr ?_); (try simp only [go_sem, fN, seval, eT, iR, dT, dF, nL]); (repeat with_reducible refine Ai ?_); (try (with_reducible refine hK _ ?_; skip)); try with_reducible refine iC ?_))
    refine ⟨_, isVar_a _, ?_⟩
    repeat' (first | (with_reducible first | refine W ?_ | refine Z0 ?_) | ((with_reducible first | refine Wo (fun K hK => ?_) | refine Wp ?_ | refine Wq ?_ | refine Wr ?_); (try simp only [go_sem, fN, seval, eT, iR, hv, dT, dF, nL]); (repeat with_reducible refine Ai ?_); (try (with_reducible refine hK _ ?_; skip)); try with_reducible refine iC ?_))
    refine ⟨rfl, _, _, turned_a hta htb hsame (.inl hv), ?_⟩
    simp only [go_sem, fN, seval, eT, iR, e0, e4, htk]
    exact fun i h5 h7 => by (simp only [go_sem, fN, seval, eT, iR, h5, h7])
   | false =>
    repeat' (first | (with_reducible first | refine W ?_ | refine Z0 ?_) | ((with_reducible first | refine Wo (fun K hK => ?_) | refine Wq ?_ | refine Wr ?_); (try simp only [go_sem, fN, seval, eT, iR, hv]); (repeat with_reducible refine Ai ?_); (try (with_reducible refine hK _ ?_; skip))))
    with_reducible refine Wp ?_
    simp only [go_sem, fN, seval, true_implies, false_implies, implies_true, dT, dF, nL]
    (try with_reducible refine iC ?_)
    refine Wd ?_
    refine Wb ?_
    refine IWP.mid (fun x => ∃ u t, Turned U s p u t ∧ x.env 0 = aPrs l ∧ x.env 4 = aBds s ∧ x.env 5 = .one (.ptr 5 1 0 0) ∧ x.env 7 = .one (.ptr 7 1 0 0) ∧ x.S 5 = some (boxT u) ∧ x.S 7 = some (boxT t) ∧ ∀ i, i ≠ 5 → i ≠ 7 → x.S i = none) ?_ rest
    repeat' (first | (with_reducible first | refine W ?_ | refine Z0 ?_) | ((with_reducible first | refine Wo (fun K hK => ?_) | refine Wp ?_ | refine Wq ?_ | refine Wr ?_); (try simp only [go_sem, fN, seval, eT, iR, dT, dF, nL]); (repeat with_reducible refine Ai ?_); (try (with_reducible refine hK _ ?_; skip)); try with_reducible refine iC ?_))
    refine ⟨_, isVar_a _, ?_⟩
    repeat' (first | (with_reducible first | refine W ?_ | refine Z0 ?_) | ((with_reducible first | refine Wo (fun K hK => ?_) | refine Wp ?_ | refine Wq ?_ | refine Wr ?_); (try simp only [go_sem, fN, seval, eT, iR, hv, dT, dF, nL]); (repeat with_reducible refine Ai ?_); (try (with_reducible refine hK _ ?_; skip)); try with_reducible refine iC ?_))
    refine ⟨_, isVar_a _, ?_⟩
    cases hw : isVar (p.2.on s).name with
    | true =>
     repeat' (first | (with_reducible first | refine W ?_ | refine Z0 ?_) | ((with_reducible first | refine Wo (fun K hK => ?_) | refine Wp ?_ | refine Wq ?_ | refine Wr ?_); (try simp only [go_sem, fN, seval, eT, iR, hv, hw, dT, dF, nL]); (repeat with_reducible refine Ai ?_); (try (with_reducible refine hK _ ?_; skip)); try with_reducible refine iC ?_))
     refine ⟨rfl, _, _, turned_b hta htb hv hw, ?_⟩
     simp only [go_sem, fN, seval, eT, iR, e0, e4, htk]
     exact fun i h5 h7 => by (simp only [go_sem, fN, seval, eT, iR, h5, h7])
    | false =>
     repeat' (first | (with_reducible first | refine W ?_ | refine Z0 ?_) | ((with_reducible first | refine Wo (fun K hK => ?_) | refine Wp ?_ | refine Wq ?_ | refine Wr ?_); (try simp only [go_sem, fN, seval, eT, iR, hv, hw, dT, dF, nL]); (repeat with_reducible refine Ai ?_); (try (with_reducible refine hK _ ?_; skip)); try with_reducible refine iC ?_))
     refine ⟨rfl, _, _, turned_a hta htb hsame (.inr hw), ?_⟩
     simp only [go_sem, fN, seval, eT, iR, e0, e4, htk]
     exact fun i h5 h7 => by (simp only [go_sem, fN, seval, eT, iR, h5, h7])
  rintro ⟨env, S⟩ ⟨u, t, ⟨hu, ht, hst⟩, e0, e4, e5, e7, s5, s7, sno⟩
  simp only at e0 e4 e5 e7 s5 s7 sno
  rcases hst with ⟨hv, hst⟩ | ⟨hv, hst⟩
  ·-- a variable
   rw [hst] at hinv
   repeat' (first | (with_reducible first | refine W ?_ | refine Z0 ?_) | refine Cg _ (isVar_a _) ?_ | refine Cg _ (varsOf_a t (by have := ht.siz; omega)) ?_ | ((with_reducible first | refine Wo (fun K hK => ?_) | refine Wp ?_ | refine Wq ?_ | refine Wr ?_); (try simp only [go_sem, fN, seval, eT, iR, e5, s5, hv, e0, e4, e7, s7, dT, dF, nL]); (repeat with_reducible refine Ai ?_); (try (refine hK _ ?_; clear hK K)); try with_reducible refine iC ?_))
   refine ⟨_, in_a u.name t.varsOf, ?_⟩
   have hio := isIn_varsOf hv t
   cases ho : occ u.name t with
   | true =>
    have hbv : bindV s u.name t = .err 6 := by unfold bindV; rw [if_pos ho]
    rw [ho] at hio
    repeat' (first | (with_reducible first | refine W ?_ | refine Z0 ?_) | ((with_reducible first | refine Wo (fun K hK => ?_) | refine Wp ?_ | refine Wq ?_ | refine Wr ?_); (try simp only [go_sem, fN, seval, eT, iR, hio, dT, dF, nL]); (repeat with_reducible refine Ai ?_); (try (refine hK _ ?_; clear hK K)); try with_reducible refine iC ?_))
    simp only [go_sem, fN, seval, FinQ, AS.result, resAll, resOne, tupV]
    rcases hinv with ⟨e, h1, rfl⟩ | ⟨s', ps, q, h1, _⟩
    ·rw [hbv] at h1
     cases h1
     rfl
    ·rw [hbv] at h1
     cases h1
   | false =>
    rw [ho] at hio
    repeat' (first | (with_reducible first | refine W ?_ | refine Z0 ?_) | ((with_reducible first | refine Wo (fun K hK => ?_) | refine Wp ?_ | refine Wq ?_ | refine Wr ?_); (try simp only [go_sem, fN, seval, eT, iR, hio, e0, e4, e5, e7, s5, s7, dT, dF, nL]); (repeat with_reducible refine Ai ?_); (try (refine hK _ ?_; clear hK K)); try with_reducible refine iC ?_))
    have hsl : s.length ≤ 20000 := Nat.le_trans hg.len hU
    have s900 : S 900 = none := sno 900 (by omega) (by omega)
    have s11 : S 11 = none := sno 11 (by omega) (by omega)
    refine IWP.ghost (Ghost.own 9 900 95 3 (xs := []) rfl s900 (by simp) (by rw [hC]; decide)) ?_
    refine IWP.loopD [11] (fun m x => ∃ i, i ≤ s.length ∧ m = s.length - i ∧ (∀ c ∈ s.take i, (c.2.on [(u.name, t)]).size ≤ 2000) ∧ x.env 0 = aPrs l ∧ x.env 4 = aBds s ∧ x.env 8 = .one (.full [encB (u.name, t)]) ∧ x.env 9 = .one (.row 900 i) ∧ x.env 10 = aInt i ∧ x.S 900 = some (.arow 95 3 (((s.take i).map fun b => (b.1, b.2.on [(u.name, t)])).map encB)) ∧ x.S 11 = none ∧ ∀ i, 1000 ≤ i → x.S i = none)
     s.length ⟨0, Nat.zero_le _, rfl, by simp, ?_⟩ ?_
    ·simp only [go_sem, fN, seval, eT, iR, e0, e4, encB]
     refine ⟨s11, fun i hi => ?_⟩
     have i9 : ¬ i = 900 := by omega
     simp only [go_sem, fN, seval, eT, iR, i9]
     exact sno i (by omega) (by omega)
    rintro mm ⟨env2, S2⟩ ⟨i, hi, rfl, h20, e0, e4, e8, e9, e10, s900, s11, sno⟩
    simp only at e0 e4 e8 e9 e10 s900 s11 sno
    have hli : (s.take i).length = i := by rw [List.length_take]; omega
    by_cases hlt : (i : Int) < s.length
    ·obtain ⟨b, hb⟩ := get_lt (show i < s.length by omega)
     have hbz := hg.siz b (mem_of_get hb)
     repeat' (first | (with_reducible first | refine W ?_ | refine Z0 ?_) | ((with_reducible first | refine Wo (fun K hK => ?_) | refine Wp ?_ | refine Wq ?_ | refine Wr ?_); (try simp only [go_sem, fN, seval, eT, iR, e0, e4, e8, e9, e10, s11, hlt, hb, encB, dT, dF, nL]); (repeat with_reducible refine Ai ?_); (try (refine hK _ ?_; clear hK K)); try with_reducible refine iC ?_))
     refine ⟨_, onRef_a [(u.name, t)] b.2 (by omega), ?_⟩
     by_cases hz : (b.2.on [(u.name, t)]).size ≤ 2000
     ·have hon : onTo [(u.name, t)] b.2 = (b.2.on [(u.name, t)], true) := by unfold onTo; rw [if_pos hz]
      repeat' (first | (with_reducible first | refine W ?_ | refine Z0 ?_) | ((with_reducible first | refine Wo (fun K hK => ?_) | refine Wp ?_ | refine Wq ?_ | refine Wr ?_); (try simp only [go_sem, fN, seval, eT, iR, hon, e0, e4, e8, e9, e10, s900, s11, hb, hli, encB, dT, dF, nL]); (repeat with_reducible refine Ai ?_); (try (refine hK _ ?_; clear hK K)); try with_reducible refine iC ?_))
      refine then_normal ⟨s.length - (i + 1), by omega, i + 1, by omega, rfl, fun c hc => ?_, ?_⟩
      ·rw [take_snoc hb] at hc
       rcases List.mem_append.1 hc with hc | hc
       ·exact h20 c hc
       ·rw [List.mem_singleton.1 hc]; exact hz
      ·simp only [go_sem, fN, seval, AS.drop, dropS, AC.clears, AC.clear, AC.highs, AC.high, Bool.not_false, Bool.true_and, Bool.and_self, AV.purge, AV.purges, AC.purge, ABlk.purge, List.contains_cons, List.contains_nil, Nat.reduceBEq, Bool.or_self, Bool.or_false, Bool.false_or, Bool.or_true, eT, iR, e0, e4, e8, e9, e10, s900, s11]
       refine ⟨rfl, by congr 3, ?_, fun j hj => ?_⟩
       ·rw [take_snoc hb, List.map_append, List.map_append]
        rfl
       ·have j11b : (j == 11) = false := by simp; omega
        have j11 : ¬ j = 11 := by omega
        have j900 : ¬ j = 900 := by omega
        simp only [go_sem, fN, seval, AS.drop, dropS, AC.clears, AC.clear, AC.highs, AC.high, Bool.not_false, Bool.true_and, Bool.and_self, AV.purge, AV.purges, AC.purge, ABlk.purge, List.contains_cons, List.contains_nil, Nat.reduceBEq, Bool.or_self, Bool.or_false, Bool.false_or, Bool.or_true, eT, iR, j11b, j11, j900]
        rw [sno j hj]
        rfl
     ·have hon : onTo [(u.name, t)] b.2 = (Tm.nil, false) := by unfold onTo; rw [if_neg hz]
      have hbv : bindV s u.name t = .err 8 := by
       unfold bindV
       rw [if_neg (by rw [ho]; simp), if_neg]
       intro hall
       have := List.all_eq_true.1 hall b (mem_of_get hb)
       exact hz (by simpa using this)
      repeat' (first | (with_reducible first | refine W ?_ | refine Z0 ?_) | ((with_reducible first | refine Wo (fun K hK => ?_) | refine Wp ?_ | refine Wq ?_ | refine Wr ?_); (try simp only [go_sem, fN, seval, eT, iR, hon, dT, dF, nL]); (repeat with_reducible refine Ai ?_); (try (refine hK _ ?_; clear hK K)); try with_reducible refine iC ?_))
      simp only [go_sem, fN, seval, FinQ, AS.result, resAll, resOne, tupV]
      rcases hinv with ⟨e, h1, rfl⟩ | ⟨s', ps, q, h1, _⟩
      ·rw [hbv] at h1
       cases h1
       rfl
      ·rw [hbv] at h1
       cases h1
    ·have hall : s.take i = s := List.take_of_length_le (by omega)
     obtain rfl : i = s.length := by omega
     rw [hall] at s900 h20
     have hbv : bindV s u.name t = .go (sortB (s.map (fun b => (b.1, b.2.on [(u.name, t)])) ++ [(u.name, t)])) [] := by
      unfold bindV
      rw [if_neg (by rw [ho]; simp), if_pos]
      exact List.all_eq_true.2 fun b hb => by simpa using h20 b hb
     obtain ⟨hg', _⟩ := step_good hg (hst.trans hbv)
     rcases hinv with ⟨e, h1, _⟩ | ⟨s', ps, q, h1, h2, h3⟩
     ·rw [hbv] at h1
      cases h1
     rw [hbv] at h1
     cases h1
     have hnamed := named_perm (sortB_perm _) (ordered_named hg'.ord)
     have hL : (s.map (fun b => (b.1, b.2.on [(u.name, t)]))).map encB ++ [[SV.str u.name, SV.str t.name, SV.list (t.args.map encT)]] = (s.map (fun b => (b.1, b.2.on [(u.name, t)])) ++ [(u.name, t)]).map encB := by
      rw [List.map_append]
      rfl
     repeat' (first | (with_reducible first | refine W ?_ | refine Z0 ?_) | ((with_reducible first | refine Wo (fun K hK => ?_) | refine Wp ?_ | refine Wq ?_ | refine Wr ?_); (try simp only [go_sem, fN, seval, eT, iR, e0, e4, e8, e9, e10, s900, hlt, encB, dT, dF, nL]); (repeat with_reducible refine Ai ?_); (try (refine hK _ ?_; clear hK K)); try with_reducible refine iC ?_))
     rw [hL]
     refine ⟨_, sortedR_a _ hnamed (by simp; omega), ?_⟩
     repeat' (first | (with_reducible first | refine W ?_ | refine Z0 ?_) | ((with_reducible first | refine Wo (fun K hK => ?_) | refine Wp ?_ | refine Wq ?_ | refine Wr ?_); (try simp only [go_sem, fN, seval, eT, iR, e0, dT, dF, nL]); (repeat with_reducible refine Ai ?_); (try (refine hK _ ?_; clear hK K)); try with_reducible refine iC ?_))
     refine then_normal ⟨q, h2, _, l, h3, hg', ?_, ?_, fun j hj => ?_⟩
     ·simp only [go_sem, fN, seval, eT, iR, e0]
     ·simp only [go_sem, fN, seval, eT, iR]
     ·have j900 : ¬ j = 900 := by omega
      simp only [go_sem, fN, seval, eT, iR, j900]
      exact sno j hj
  ·-- two knots
   rw [hst] at hinv
   have husz := ht.siz
   have huk := Tm.length_le u.args
   have hus := Tm.size_eq u
   have husz := hu.siz
   by_cases hsame : u.name = t.name ∧ u.args.length = t.args.length
   ·rw [if_pos hsame] at hst hinv
    obtain ⟨hg', _⟩ := step_good hg hst
    rcases hinv with ⟨e, h1, _⟩ | ⟨s', ps, q, h1, h2, h3⟩
    ·cases h1
    cases h1
    have hargs : (u.args.length : Int) = t.args.length := by rw [hsame.2]
    repeat' (first | (with_reducible first | refine W ?_ | refine Z0 ?_) | ((with_reducible first | refine Wo (fun K hK => ?_) | refine Wp ?_ | refine Wq ?_ | refine Wr ?_); (try simp only [go_sem, fN, seval, eT, iR, e5, s5, dT, dF, nL]); (repeat with_reducible refine Ai ?_); (try (refine hK _ ?_; clear hK K)); try with_reducible refine iC ?_))
    refine ⟨_, isVar_a _, ?_⟩
    have hvt : isVar t.name = false := by rw [← hsame.1]; exact hv
    repeat' (first | (with_reducible first | refine W ?_ | refine Z0 ?_) | ((with_reducible first | refine Wo (fun K hK => ?_) | refine Wp ?_ | refine Wq ?_ | refine Wr ?_); (try simp only [go_sem, fN, seval, eT, iR, hv, hvt, e0, e4, e5, e7, s5, s7, hsame.1, hsame.2, dT, dF, nL]); (repeat with_reducible refine Ai ?_); (try (refine hK _ ?_; clear hK K)); try with_reducible refine iC ?_))
    have s901 : S 901 = none := sno 901 (by omega) (by omega)
    refine IWP.ghost (Ghost.own 13 901 91 4 (xs := []) rfl s901 (by simp) (by rw [hC]; decide)) ?_
    refine IWP.loop (fun m x => ∃ i, i ≤ u.args.length ∧ m = u.args.length - i ∧ x.env 0 = aPrs l ∧ x.env 4 = aBds s ∧ x.env 5 = .one (.ptr 5 1 0 0) ∧ x.env 7 = .one (.ptr 7 1 0 0) ∧ x.env 13 = .one (.row 901 i) ∧ x.env 14 = aInt i ∧ x.S 5 = some (boxT u) ∧ x.S 7 = some (boxT t) ∧ x.S 901 = some (.arow 91 4 (((u.args.zip t.args).take i).map encP)) ∧ ∀ i, 1000 ≤ i → x.S i = none)
     u.args.length ⟨0, Nat.zero_le _, rfl, ?_⟩ ?_
    ·simp only [go_sem, fN, seval, eT, iR, e0, e4, e5, e7, s5, s7]
     intro i hi
     have i9 : ¬ i = 901 := by omega
     simp only [go_sem, fN, seval, eT, iR, i9]
     exact sno i (by omega) (by omega)
    have hzl : (u.args.zip t.args).length = u.args.length := by rw [List.length_zip, hsame.2, Nat.min_self]
    have hstk : l.length ≤ 100000000000 := by have := hg.stack; rw [List.length_cons] at this; omega
    rintro mm ⟨env2, S2⟩ ⟨i, hi, rfl, e0, e4, e5, e7, e13, e14, s5, s7, s901, sno⟩
    simp only at e0 e4 e5 e7 e13 e14 s5 s7 s901 sno
    have hli : ((u.args.zip t.args).take i).length = i := by rw [List.length_take]; omega
    by_cases hlt : (i : Int) < u.args.length
    ·obtain ⟨a, ha⟩ := get_lt (show i < u.args.length by omega)
     obtain ⟨c, hc⟩ := get_lt (show i < t.args.length by omega)
     have hac : (u.args.zip t.args)[i]? = some (a, c) := List.getElem?_zip_eq_some.2 ⟨ha, hc⟩
     repeat' (first | (with_reducible first | refine W ?_ | refine Z0 ?_) | ((with_reducible first | refine Wo (fun K hK => ?_) | refine Wp ?_ | refine Wq ?_ | refine Wr ?_); (try simp only [go_sem, fN, seval, eT, iR, e0, e4, e5, e7, e13, e14, s5, s7, s901, hlt, ha, hc, hli, encP, dT, dF, nL]); (repeat with_reducible refine Ai ?_); (try (refine hK _ ?_; clear hK K)); try with_reducible refine iC ?_))
     refine then_normal ⟨u.args.length - (i + 1), by omega, i + 1, by omega, rfl, ?_⟩
     simp only [go_sem, fN, seval, eT, iR, e0, e4, e5, e7, e13, e14, s5, s7, s901]
     refine ⟨by congr 3, ?_, fun j hj => ?_⟩
     ·rw [take_snoc hac, List.map_append]
      rfl
     ·have j901 : ¬ j = 901 := by omega
      simp only [go_sem, fN, seval, eT, iR, j901]
      exact sno j hj
    ·obtain rfl : i = u.args.length := by omega
     have hall : (u.args.zip t.args).take u.args.length = u.args.zip t.args := List.take_of_length_le (by omega)
     rw [hall] at s901 hli
     repeat' (first | (with_reducible first | refine W ?_ | refine Z0 ?_) | ((with_reducible first | refine Wo (fun K hK => ?_) | refine Wp ?_ | refine Wq ?_ | refine Wr ?_); (try simp only [go_sem, fN, seval, eT, iR, e0, e4, e5, e7, e13, e14, s5, s7, s901, hlt, hli, encP, dT, dF, nL]); (repeat with_reducible refine Ai ?_); (try (refine hK _ ?_; clear hK K)); try with_reducible refine iC ?_))
     refine then_normal ⟨q, h2, s, u.args.zip t.args ++ l, h3, hg', ?_, ?_, fun j hj => ?_⟩
     ·simp only [go_sem, fN, seval, eT, iR, hzl]
      rw [← List.map_append]
     ·simp only [go_sem, fN, seval, eT, iR, e4]
     ·have j901 : ¬ j = 901 := by omega
      simp only [go_sem, fN, seval, eT, iR, j901]
      exact sno j hj
   ·rw [if_neg hsame] at hst hinv
    repeat' (first | (with_reducible first | refine W ?_ | refine Z0 ?_) | ((with_reducible first | refine Wo (fun K hK => ?_) | refine Wp ?_ | refine Wq ?_ | refine Wr ?_); (try simp only [go_sem, fN, seval, eT, iR, e5, s5, dT, dF, nL]); (repeat with_reducible refine Ai ?_); (try (refine hK _ ?_; clear hK K)); try with_reducible refine iC ?_))
    refine ⟨_, isVar_a _, ?_⟩
    by_cases hn : u.name = t.name
    ·have hl : ¬ (u.args.length : Int) = t.args.length := fun h => hsame ⟨hn, by omega⟩
     have hvt : isVar t.name = false := by rw [← hn]; exact hv
     repeat' (first | (with_reducible first | refine W ?_ | refine Z0 ?_) | ((with_reducible first | refine Wo (fun K hK => ?_) | refine Wp ?_ | refine Wq ?_ | refine Wr ?_); (try simp only [go_sem, fN, seval, eT, iR, hv, hvt, e0, e4, e5, e7, s5, s7, hn, hl, dT, dF, nL]); (repeat with_reducible refine Ai ?_); (try (refine hK _ ?_; clear hK K)); try with_reducible refine iC ?_))
     simp only [go_sem, fN, seval, FinQ, AS.result, resAll, resOne, tupV]
     rcases hinv with ⟨e, h1, rfl⟩ | ⟨s', ps, q, h1, _⟩
     ·cases h1
      rfl
     ·cases h1
    ·repeat' (first | (with_reducible first | refine W ?_ | refine Z0 ?_) | ((with_reducible first | refine Wo (fun K hK => ?_) | refine Wp ?_ | refine Wq ?_ | refine Wr ?_); (try simp only [go_sem, fN, seval, eT, iR, hv, e0, e4, e5, e7, s5, s7, hn, dT, dF, nL]); (repeat with_reducible refine Ai ?_); (try (refine hK _ ?_; clear hK K)); try with_reducible refine iC ?_))
     simp only [go_sem, fN, seval, FinQ, AS.result, resAll, resOne, tupV]
     rcases hinv with ⟨e, h1, rfl⟩ | ⟨s', ps, q, h1, _⟩
     ·cases h1
      rfl
     ·cases h1

set_option maxHeartbeats 2000000
def Stk (xs : List (List SV)) (l : List Pr) : Prop := xs.take l.length = l.reverse.map encP ∧ l.length ≤ xs.length
theorem Stk.push {xs : List (List SV)} {l : List Pr} (h : Stk xs l) (p : Pr) : Stk (xs.take l.length ++ [encP p] ++ xs.drop (l.length + 1)) (p :: l) := by
 obtain ⟨h1, h2⟩ := h
 have hl : (xs.take l.length).length = l.length := by rw [List.length_take]; omega
 refine ⟨?_, by simp only [List.length_append, List.length_take, List.length_cons, List.length_nil]; omega⟩
 rw [List.length_cons, List.take_append_of_le_length (by rw [List.length_append, hl]; simp), List.take_of_length_le (by rw [List.length_append, hl]; simp), h1, List.reverse_cons, List.map_append]
 rfl
theorem Stk.pushLen {xs : List (List SV)} {l : List Pr} (h : Stk xs l) (p : Pr) : (xs.take l.length ++ [encP p] ++ xs.drop (l.length + 1)).length = if xs.length ≤ l.length + 1 then l.length + 1 else xs.length := by
 have := h.2
 simp only [List.length_append, List.length_take, List.length_drop, List.length_cons, List.length_nil]
 split <;> omega
theorem Stk.top {xs : List (List SV)} {p : Pr} {l : List Pr} (h : Stk xs (p :: l)) : xs[l.length]? = some (encP p) := by
 obtain ⟨h1, h2⟩ := h
 have e : (xs.take (p :: l).length)[l.length]? = xs[l.length]? := by rw [List.getElem?_take, if_pos (by simp)]
 rw [← e, h1, List.reverse_cons, List.map_append, List.getElem?_append_right (by simp)]
 simp
theorem Stk.pop {xs : List (List SV)} {p : Pr} {l : List Pr} (h : Stk xs (p :: l)) : Stk xs l := by
 obtain ⟨h1, h2⟩ := h
 rw [List.length_cons] at h2
 refine ⟨?_, by omega⟩
 have e : xs.take l.length = (xs.take (p :: l).length).take l.length := by rw [List.take_take, List.length_cons, Nat.min_eq_left (by omega)]
 rw [e, h1, List.reverse_cons, List.map_append, List.take_append_of_le_length (by simp), List.take_of_length_le (by simp)]
def halfOn (s : List Bd) (x : ByteArray) (t : Tm) (i : Nat) : List Bd := (s.take i).map (fun b => (b.1, b.2.on [(x, t)])) ++ s.drop i
theorem halfOn_len (s : List Bd) (x : ByteArray) (t : Tm) (i : Nat) : (halfOn s x t i).length = s.length := by
 have := congrArg List.length (List.take_append_drop i s)
 unfold halfOn
 rw [List.length_append] at this ⊢
 rw [List.length_map]
 exact this
theorem halfOn_get {s : List Bd} {x : ByteArray} {t : Tm} {i : Nat} {b : Bd} (h : s[i]? = some b) : (halfOn s x t i)[i]? = some b := by
 have := lt_of_get h
 unfold halfOn
 rw [List.getElem?_append_right (by rw [List.length_map, List.length_take]; omega), List.length_map, List.length_take, Nat.min_eq_left (by omega), Nat.sub_self, drop_get h]
 rfl
theorem halfOn_set {s : List Bd} {x : ByteArray} {t : Tm} {i : Nat} {b : Bd} (h : s[i]? = some b) : (halfOn s x t i).set i (b.1, b.2.on [(x, t)]) = halfOn s x t (i + 1) := by
 have := lt_of_get h
 unfold halfOn
 rw [List.set_append_right _ _ (by rw [List.length_map, List.length_take]; omega), List.length_map, List.length_take, Nat.min_eq_left (by omega), Nat.sub_self, drop_get h, take_snoc h, List.map_append, List.append_assoc]
 rfl
theorem halfOn_all (s : List Bd) (x : ByteArray) (t : Tm) : halfOn s x t s.length = s.map fun b => (b.1, b.2.on [(x, t)]) := by
 unfold halfOn
 rw [List.take_length, List.drop_length, List.append_nil]
theorem solve_a (U : List ByteArray) (hU : U.length ≤ 20000) (C0 : Nat) (hC0 : C0 ≤ 100000000000) (n : Nat) (l : List Pr) (r : List Bd × Int) (hr : UEnds n [] l r) (hg : UGood U C0 [] l) : ACalls Tryz.prog 79 [aPrs l] (.tup [aBds r.1, aInt r.2]) := by
 have hll : l.length ≤ 100000000001 := by have := hg.stack; omega
 refine ok_unify_Solve.ac fun C hC => ?_
 unfold ir_unify_Solve
 repeat' (first | (with_reducible first | refine W ?_ | refine Z0 ?_) | ((with_reducible first | refine Wo (fun K hK => ?_) | refine Wp ?_ | refine Wq ?_ | refine Wr ?_); (try simp only [go_sem, fN, seval, eT, iR, dT, dF, nL]); (repeat with_reducible refine Ai ?_); (try (refine hK _ ?_; clear hK K)); try with_reducible refine iC ?_))
 refine IWP.ghost (Ghost.ownM 4 500 95 3 rfl rfl (by rw [hC]; decide)) ?_
 refine IWP.ghost (Ghost.ownM 5 501 91 4 rfl rfl (by rw [hC]; decide)) ?_
 refine IWP.ghost (Ghost.toPart 5 501 0 rfl (by rw [hC]; decide)) ?_
 refine IWP.loop (fun m x => ∃ (k : Nat) (xs : List (List SV)), k ≤ l.length ∧ m = k ∧ Stk xs (l.drop k) ∧ x.env 0 = aPrs l ∧ x.env 4 = .one (.row 500 0) ∧ x.env 5 = .one (.part 501 (l.drop k).length xs.length) ∧ x.env 6 = .one (.st (.int .i64 ((k : Int) - 1))) ∧ x.S 500 = some (rowBd []) ∧ x.S 501 = some (.mrow 91 4 xs) ∧ x.S 7 = none ∧ x.S 8 = none ∧ x.S 10 = none) l.length ⟨l.length, [], Nat.le_refl _, rfl, ?_⟩ ?_
 ·rw [List.drop_length]
  exact ⟨⟨rfl, Nat.le_refl _⟩, rfl, rfl, rfl, rfl, rfl, rfl, rfl, rfl, rfl⟩
 ·rintro k ⟨env, S⟩ ⟨_, xs, hk, rfl, hstk, e0, e4, e5, e6, s500, s501, s7, s8, s10⟩
  simp only at e0 e4 e5 e6 s500 s501 s7 s8 s10
  by_cases hk0 : 0 ≤ (k : Int) - 1
  ·obtain ⟨k, rfl⟩ : ∃ q, k = q + 1 := ⟨k - 1, by omega⟩
   obtain ⟨p, hp⟩ := get_lt (show k < l.length by omega)
   have hz : (((k + 1 : Nat) : Int) - 1).toNat = k := by omega
   have hp' : l[(((k + 1 : Nat) : Int) - 1).toNat]? = some p := by rw [hz]; exact hp
   have hdl : (List.drop (k + 1) l).length ≤ 100000000001 := by rw [List.length_drop]; omega
   repeat' (first | (with_reducible first | refine W ?_ | refine Z0 ?_) | ((with_reducible first | refine Wo (fun K hK => ?_) | refine Wp ?_ | refine Wq ?_ | refine Wr ?_); (try simp only [go_sem, fN, seval, eT, iR, e0, e4, e5, e6, s500, s501, s7, s8, s10, hk0, hz, hp, encP, dT, dF, nL]); (repeat with_reducible refine Ai ?_); (try (refine hK _ ?_; clear hK K)); try with_reducible refine iC ?_))
   refine then_normal ⟨k, by omega, k, _, by omega, rfl, by rw [drop_get hp]; exact hstk.push p, ?_⟩
   simp only [go_sem, fN, seval, eT, iR, e0, e4, e5, e6, s500, s7, s8, s10]
   have hpl : (List.take (List.drop (k + 1) l).length xs).length + 1 + (List.drop ((List.drop (k + 1) l).length + 1) xs).length = if xs.length ≤ (List.drop (k + 1) l).length + 1 then (List.drop (k + 1) l).length + 1 else xs.length := by
    have := hstk.pushLen p
    simpa only [List.length_append, List.length_cons, List.length_nil, Nat.zero_add] using this
   rw [hpl, drop_get hp]
   refine ⟨rfl, ?_, rfl⟩
   congr 3
   omega
  ·obtain rfl : k = 0 := by omega
   rw [List.drop_zero] at hstk e5
   repeat' (first | (with_reducible first | refine W ?_ | refine Z0 ?_) | ((with_reducible first | refine Wo (fun K hK => ?_) | refine Wp ?_ | refine Wq ?_ | refine Wr ?_); (try simp only [go_sem, fN, seval, eT, iR, e6, hk0, dT, dF, nL]); (repeat with_reducible refine Ai ?_); (try (refine hK _ ?_; clear hK K)); try with_reducible refine iC ?_))
   refine IWP.loopD [7, 8, 10] (fun m x => ∃ s l xs, UEnds m s l r ∧ UGood U C0 s l ∧ Stk xs l ∧ x.env 4 = .one (.row 500 s.length) ∧ x.env 5 = .one (.part 501 l.length xs.length) ∧ x.S 500 = some (rowBd s) ∧ x.S 501 = some (.mrow 91 4 xs) ∧ x.S 7 = none ∧ x.S 8 = none ∧ x.S 10 = none) n ⟨[], l, xs, hr, hg, hstk, ?_⟩ ?_
   ·simp only [go_sem, fN, seval, eT, iR, e4, e5, s500, s501, s7, s8, s10]
   clear hr hg hstk e0 e4 e5 e6 s500 s501 s7 s8 s10 hll hk hk0 env S xs
   rintro m ⟨env, S⟩ ⟨s, l, xs, hr, hg, hstk, e4, e5, s500, s501, s7, s8, s10⟩
   simp only at e4 e5 s500 s501 s7 s8 s10
   have hsl : s.length ≤ 20000 := Nat.le_trans hg.len hU
   cases l with
   | nil =>
    cases hr
    refine IWP.ghost (Ghost.share (id := 500) s500) ?_
    repeat' (first | (with_reducible first | refine W ?_ | refine Z0 ?_) | ((with_reducible first | refine Wo (fun K hK => ?_) | refine Wp ?_ | refine Wq ?_ | refine Wr ?_); (try simp only [go_sem, fN, seval, eT, iR, e4, e5, s501, dT, dF, nL]); (repeat with_reducible refine Ai ?_); (try (refine hK _ ?_; clear hK K)); try with_reducible refine iC ?_))
    simp only [go_sem, fN, seval, FinQ, AS.result, resAll, resOne, tupV]
   | cons p l =>
    have hinv := uends_inv hr
    obtain ⟨hc1, hc2⟩ := hg.lchk p (by simp)
    have hUp := hg.lU p (by simp)
    obtain ⟨hz1, hz2⟩ := hg.lsiz p (by simp)
    obtain ⟨a1, a2, a3⟩ := onU hg hc1 fun y => (hUp y).1
    obtain ⟨b1, b2, b3⟩ := onU hg hc2 fun y => (hUp y).2
    have hl0 : (0 : Int) < ((l.length + 1 : Nat) : Int) := by omega
    have hl1 : (((l.length + 1 : Nat) : Int) - 1) = (l.length : Int) := by omega
    have hl2 : (l.length : Int) < ((l.length + 1 : Nat) : Int) := by omega
    have hl3 : (l.length : Int) ≤ ((l.length + 1 : Nat) : Int) := by omega
    have hlb : l.length ≤ 100000000000 := by have := hg.stack; rw [List.length_cons] at this; omega
    have htop := hstk.top
    have hstk' := hstk.pop
    rw [List.length_cons] at e5
    have onc : ∀ t : Tm, t.chk = 0 → ∀ T : AStore, (∀ q ∈ [(500, rowBd s)], T q.1 = some q.2) → ACallsS Tryz.prog 80 [.one (.row (up1 500) s.length), aTm t] (upS T) (.tup [aTm (onTo s t).1, aBool (onTo s t).2]) (upS T) :=
     fun t ht T hT => on_M s (by omega) hg.ord t hg.var ht (up1 500) (up1_le 500) (upS T) (by rw [upS_up, hT _ (List.mem_singleton.2 rfl)]; rfl)
    by_cases ha : (p.1.on s).size ≤ 2000
    case neg =>
     have he : onTo s p.1 = (Tm.nil, false) := by unfold onTo; rw [if_neg ha]
     have hst : stepU s p = .err 8 := by unfold stepU; rw [if_pos (by omega)]
     repeat' (first | (with_reducible first | refine W ?_ | refine Z0 ?_) | ((with_reducible first | refine Wo (fun K hK => ?_) | refine Wp ?_ | refine Wq ?_ | refine Wr ?_); (try simp only [go_sem, fN, seval, eT, iR, e4, e5, s500, s501, s7, s8, s10, hl0, hl1, hl2, hl3, htop, encP, dT, dF, nL]); (repeat with_reducible refine Ai ?_); (try (refine hK _ ?_; clear hK K)); try with_reducible refine iC ?_))
     refine ⟨_, [(500, rowBd s)], rows_one (by (simp only [go_sem, fN, seval, eT, iR, s500])), onc p.1 hc1, ?_⟩
     repeat' (first | (with_reducible first | refine W ?_ | refine Z0 ?_) | ((with_reducible first | refine Wo (fun K hK => ?_) | refine Wp ?_ | refine Wq ?_ | refine Wr ?_); (try simp only [go_sem, fN, seval, eT, iR, he, e4, e5, s8, s10, dT, dF, nL]); (repeat with_reducible refine Ai ?_); (try (refine hK _ ?_; clear hK K)); try with_reducible refine iC ?_))
     refine ⟨_, [(500, rowBd s)], rows_one (by (simp only [go_sem, fN, seval, eT, iR, s500])), onc p.2 hc2, ?_⟩
     repeat' (first | (with_reducible first | refine W ?_ | refine Z0 ?_) | ((with_reducible first | refine Wo (fun K hK => ?_) | refine Wp ?_ | refine Wq ?_ | refine Wr ?_); (try simp only [go_sem, fN, seval, eT, iR, he, e4, e5, s8, s10, dT, dF, nL]); (repeat with_reducible refine Ai ?_); (try (refine hK _ ?_; clear hK K)); try with_reducible refine iC ?_))
     simp only [go_sem, fN, seval, FinQ, AS.result, resAll, resOne, tupV]
     rcases hinv with ⟨e, h1, rfl⟩ | ⟨s', ps, q, h1, _⟩
     ·rw [hst] at h1
      cases h1
      rfl
     ·rw [hst] at h1
      cases h1
    by_cases hb : (p.2.on s).size ≤ 2000
    case neg =>
     have he : onTo s p.1 = (p.1.on s, true) := by unfold onTo; rw [if_pos ha]
     have he2 : onTo s p.2 = (Tm.nil, false) := by unfold onTo; rw [if_neg hb]
     have hst : stepU s p = .err 8 := by unfold stepU; rw [if_pos (by omega)]
     repeat' (first | (with_reducible first | refine W ?_ | refine Z0 ?_) | ((with_reducible first | refine Wo (fun K hK => ?_) | refine Wp ?_ | refine Wq ?_ | refine Wr ?_); (try simp only [go_sem, fN, seval, eT, iR, e4, e5, s500, s501, s7, s8, s10, hl0, hl1, hl2, hl3, htop, encP, dT, dF, nL]); (repeat with_reducible refine Ai ?_); (try (refine hK _ ?_; clear hK K)); try with_reducible refine iC ?_))
     refine ⟨_, [(500, rowBd s)], rows_one (by (simp only [go_sem, fN, seval, eT, iR, s500])), onc p.1 hc1, ?_⟩
     repeat' (first | (with_reducible first | refine W ?_ | refine Z0 ?_) | ((with_reducible first | refine Wo (fun K hK => ?_) | refine Wp ?_ | refine Wq ?_ | refine Wr ?_); (try simp only [go_sem, fN, seval, eT, iR, he, e4, e5, s8, s10, dT, dF, nL]); (repeat with_reducible refine Ai ?_); (try (refine hK _ ?_; clear hK K)); try with_reducible refine iC ?_))
     refine ⟨_, [(500, rowBd s)], rows_one (by (simp only [go_sem, fN, seval, eT, iR, s500])), onc p.2 hc2, ?_⟩
     repeat' (first | (with_reducible first | refine W ?_ | refine Z0 ?_) | ((with_reducible first | refine Wo (fun K hK => ?_) | refine Wp ?_ | refine Wq ?_ | refine Wr ?_); (try simp only [go_sem, fN, seval, eT, iR, he, he2, e4, e5, s8, s10, dT, dF, nL]); (repeat with_reducible refine Ai ?_); (try (refine hK _ ?_; clear hK K)); try with_reducible refine iC ?_))
     simp only [go_sem, fN, seval, FinQ, AS.result, resAll, resOne, tupV]
     rcases hinv with ⟨e, h1, rfl⟩ | ⟨s', ps, q, h1, _⟩
     ·rw [hst] at h1
      cases h1
      rfl
     ·rw [hst] at h1
      cases h1
    have he : onTo s p.1 = (p.1.on s, true) := by unfold onTo; rw [if_pos ha]
    have he2 : onTo s p.2 = (p.2.on s, true) := by unfold onTo; rw [if_pos hb]
    have hta : TmOk U s (p.1.on s) := ⟨a1, ha, a2, a3⟩
    have htb : TmOk U s (p.2.on s) := ⟨b1, hb, b2, b3⟩
    repeat' (first | (with_reducible first | refine W ?_ | refine Z0 ?_) | ((with_reducible first | refine Wo (fun K hK => ?_) | refine Wp ?_ | refine Wq ?_ | refine Wr ?_); (try simp only [go_sem, fN, seval, eT, iR, e4, e5, s500, s501, s7, s8, s10, hl0, hl1, hl2, hl3, htop, encP, dT, dF, nL]); (repeat with_reducible refine Ai ?_); (try (refine hK _ ?_; clear hK K)); try with_reducible refine iC ?_))
    refine ⟨_, [(500, rowBd s)], rows_one (by (simp only [go_sem, fN, seval, eT, iR, s500])), onc p.1 hc1, ?_⟩
    repeat' (first | (with_reducible first | refine W ?_ | refine Z0 ?_) | ((with_reducible first | refine Wo (fun K hK => ?_) | refine Wp ?_ | refine Wq ?_ | refine Wr ?_); (try simp only [go_sem, fN, seval, eT, iR, he, e4, e5, s8, s10, dT, dF, nL]); (repeat with_reducible refine Ai ?_); (try (refine hK _ ?_; clear hK K)); try with_reducible refine iC ?_))
    refine ⟨_, [(500, rowBd s)], rows_one (by (simp only [go_sem, fN, seval, eT, iR, s500])), onc p.2 hc2, ?_⟩
    repeat' (first | (with_reducible first | refine W ?_ | refine Z0 ?_) | ((with_reducible first | refine Wo (fun K hK => ?_) | refine Wp ?_ | refine Wq ?_ | refine Wr ?_); (try simp only [go_sem, fN, seval, eT, iR, he, he2, e4, e5, s8, s10, dT, dF, nL]); (repeat with_reducible refine Ai ?_); (try (refine hK _ ?_; clear hK K)); try with_reducible refine iC ?_))
    refine ⟨_, variable_a _, ?_⟩
    by_cases hsame : isVar (p.1.on s).name = true ∧ (p.1.on s).name = (p.2.on s).name
    ·have hst : stepU s p = .go s [] := by unfold stepU; rw [if_neg (by omega), if_pos hsame]
     have hsv : isVar (p.2.on s).name = true := by rw [← hsame.2]; exact hsame.1
     repeat' (first | (with_reducible first | refine W ?_ | refine Z0 ?_) | ((with_reducible first | refine Wo (fun K hK => ?_) | refine Wp ?_ | refine Wq ?_ | refine Wr ?_); (try simp only [go_sem, fN, seval, eT, iR, hsame.1, hsv, hsame.2, e4, e5, dT, dF, nL]); (repeat with_reducible refine Ai ?_); (try (refine hK _ ?_; clear hK K)); try with_reducible refine iC ?_))
     rcases hinv with ⟨e, h1, _⟩ | ⟨s', ps, q, h1, h2, h3⟩
     ·rw [hst] at h1
      cases h1
     rw [hst] at h1
     cases h1
     refine then_normal ⟨q, h2, s, l, xs, h3, hg.tail, hstk', ?_⟩
     simp only [go_sem, fN, seval, AS.drop, dropS, AC.clears, AC.clear, AC.highs, AC.high, Bool.not_false, Bool.true_and, Bool.and_self, AV.purge, AV.purges, AC.purge, ABlk.purge, List.contains_cons, List.contains_nil, Nat.reduceBEq, Bool.or_self, Bool.or_false, Bool.false_or, Bool.or_true, eT, iR, e4, s500, s501]
    by_cases hvv : isVar (p.1.on s).name = true ∨ isVar (p.2.on s).name = true
    ·apply once
     ·intro rest
      cases hv : isVar (p.1.on s).name with
      | true =>
       have hne : ¬ (p.1.on s).name = (p.2.on s).name := fun h => hsame ⟨hv, h⟩
       repeat' (first | (with_reducible first | refine W ?_ | refine Z0 ?_) | ((with_reducible first | refine Wo (fun K hK => ?_) | refine Wp ?_ | refine Wq ?_ | refine Wr ?_); (try simp only [go_sem, fN, seval, eT, iR, hv, hne, dT, dF, nL]); (repeat with_reducible refine Ai ?_); (try (with_reducible refine hK _ ?_; skip)); try with_reducible refine iC ?_))
       refine ⟨_, variable_a _, ?_⟩
       repeat' (first | (with_reducible first | refine W ?_ | refine Z0 ?_) | ((with_reducible first | refine Wo (fun K hK => ?_) | refine Wq ?_ | refine Wr ?_); (try simp only [go_sem, fN, seval, eT, iR, hv]); (repeat with_reducible refine Ai ?_); (try (with_reducible refine hK _ ?_; skip))))
       with_reducible refine Wp ?_
       simp only [go_sem, fN, seval, true_implies, false_implies, implies_true, dT, dF, nL]
       (try with_reducible refine iC ?_)
       refine IWP.mid (fun x => ∃ u t, Turned U s p u t ∧ isVar u.name = true ∧ x.env 4 = .one (.row 500 s.length) ∧ x.env 5 = .one (.part 501 l.length xs.length) ∧ x.env 8 = .one (.ptr 8 1 0 0) ∧ x.env 10 = .one (.ptr 10 1 0 0) ∧ x.S 500 = some (rowBd s) ∧ x.S 501 = some (.mrow 91 4 xs) ∧ x.S 8 = some (boxT u) ∧ x.S 10 = some (boxT t)) ?_ rest
       repeat' (first | (with_reducible first | refine W ?_ | refine Z0 ?_) | ((with_reducible first | refine Wo (fun K hK => ?_) | refine Wp ?_ | refine Wq ?_ | refine Wr ?_); (try simp only [go_sem, fN, seval, eT, iR, dT, dF, nL]); (repeat with_reducible refine Ai ?_); (try (with_reducible refine hK _ ?_; skip)); try with_reducible refine iC ?_))
       refine ⟨_, variable_a _, ?_⟩
       repeat' (first | (with_reducible first | refine W ?_ | refine Z0 ?_) | ((with_reducible first | refine Wo (fun K hK => ?_) | refine Wp ?_ | refine Wq ?_ | refine Wr ?_); (try simp only [go_sem, fN, seval, eT, iR, hv, dT, dF, nL]); (repeat with_reducible refine Ai ?_); (try (with_reducible refine hK _ ?_; skip)); try with_reducible refine iC ?_))
       refine ⟨rfl, _, _, turned_a hta htb hsame (.inl hv), hv, ?_⟩
       simp only [go_sem, fN, seval, eT, iR, e4, s500, s501]
      | false =>
       have hw : isVar (p.2.on s).name = true := hvv.resolve_left (by rw [hv]; simp)
       repeat' (first | (with_reducible first | refine W ?_ | refine Z0 ?_) | ((with_reducible first | refine Wo (fun K hK => ?_) | refine Wp ?_ | refine Wq ?_ | refine Wr ?_); (try simp only [go_sem, fN, seval, eT, iR, hv, dT, dF, nL]); (repeat with_reducible refine Ai ?_); (try (with_reducible refine hK _ ?_; skip)); try with_reducible refine iC ?_))
       refine ⟨_, variable_a _, ?_⟩
       repeat' (first | (with_reducible first | refine W ?_ | refine Z0 ?_) | ((with_reducible first | refine Wo (fun K hK => ?_) | refine Wp ?_ | refine Wq ?_ | refine Wr ?_); (try simp only [go_sem, fN, seval, eT, iR, hv, dT, dF, nL]); (repeat with_reducible refine Ai ?_); (try (with_reducible refine hK _ ?_; skip)); try with_reducible refine iC ?_))
       refine ⟨_, variable_a _, ?_⟩
       repeat' (first | (with_reducible first | refine W ?_ | refine Z0 ?_) | ((with_reducible first | refine Wo (fun K hK => ?_) | refine Wq ?_ | refine Wr ?_); (try simp only [go_sem, fN, seval, eT, iR, hv, hw]); (repeat with_reducible refine Ai ?_); (try (with_reducible refine hK _ ?_; skip))))
       with_reducible refine Wp ?_
       simp only [go_sem, fN, seval, true_implies, false_implies, implies_true, dT, dF, nL]
       (try with_reducible refine iC ?_)
       refine IWP.mid (fun x => ∃ u t, Turned U s p u t ∧ isVar u.name = true ∧ x.env 4 = .one (.row 500 s.length) ∧ x.env 5 = .one (.part 501 l.length xs.length) ∧ x.env 8 = .one (.ptr 8 1 0 0) ∧ x.env 10 = .one (.ptr 10 1 0 0) ∧ x.S 500 = some (rowBd s) ∧ x.S 501 = some (.mrow 91 4 xs) ∧ x.S 8 = some (boxT u) ∧ x.S 10 = some (boxT t)) ?_ rest
       repeat' (first | (with_reducible first | refine W ?_ | refine Z0 ?_) | ((with_reducible first | refine Wo (fun K hK => ?_) | refine Wp ?_ | refine Wq ?_ | refine Wr ?_); (try simp only [go_sem, fN, seval, eT, iR, dT, dF, nL]); (repeat with_reducible refine Ai ?_); (try (with_reducible refine hK _ ?_; skip)); try with_reducible refine iC ?_))
       refine ⟨_, variable_a _, ?_⟩
       repeat' (first | (with_reducible first | refine W ?_ | refine Z0 ?_) | ((with_reducible first | refine Wo (fun K hK => ?_) | refine Wp ?_ | refine Wq ?_ | refine Wr ?_); (try simp only [go_sem, fN, seval, eT, iR, hv, dT, dF, nL]); (repeat with_reducible refine Ai ?_); (try (with_reducible refine hK _ ?_; skip)); try with_reducible refine iC ?_))
       refine ⟨rfl, _, _, turned_b hta htb hv hw, hw, ?_⟩
       simp only [go_sem, fN, seval, eT, iR, e4, s500, s501]
     clear e4 e5 s500 s501 s7 s8 s10
     rintro ⟨env, S⟩ ⟨u, t, ⟨hu, ht, hst⟩, hv, e4, e5, e8, e10, s500, s501, s8, s10⟩
     simp only at e4 e5 e8 e10 s500 s501 s8 s10
     have hst : stepU s p = bindV s u.name t := by
      rcases hst with ⟨_, h⟩ | ⟨h, _⟩
      ·exact h
      ·rw [hv] at h; cases h
     rw [hst] at hinv
     repeat' (first | (with_reducible first | refine W ?_ | refine Z0 ?_) | ((with_reducible first | refine Wo (fun K hK => ?_) | refine Wp ?_ | refine Wq ?_ | refine Wr ?_); (try simp only [go_sem, fN, seval, eT, iR, e4, e5, e8, e10, s500, s501, s8, s10, dT, dF, nL]); (repeat with_reducible refine Ai ?_); (try (refine hK _ ?_; clear hK K)); try with_reducible refine iC ?_))
     refine ⟨_, occurs_a u.name t, ?_⟩
     cases ho : occ u.name t with
     | true =>
      have hbv : bindV s u.name t = .err 6 := by unfold bindV; rw [if_pos ho]
      repeat' (first | (with_reducible first | refine W ?_ | refine Z0 ?_) | ((with_reducible first | refine Wo (fun K hK => ?_) | refine Wp ?_ | refine Wq ?_ | refine Wr ?_); (try simp only [go_sem, fN, seval, eT, iR, ho, dT, dF, nL]); (repeat with_reducible refine Ai ?_); (try (refine hK _ ?_; clear hK K)); try with_reducible refine iC ?_))
      simp only [go_sem, fN, seval, FinQ, AS.result, resAll, resOne, tupV]
      rcases hinv with ⟨e, h1, rfl⟩ | ⟨s', ps, q, h1, _⟩
      ·rw [hbv] at h1
       cases h1
       rfl
      ·rw [hbv] at h1
       cases h1
     | false =>
      repeat' (first | (with_reducible first | refine W ?_ | refine Z0 ?_) | ((with_reducible first | refine Wo (fun K hK => ?_) | refine Wp ?_ | refine Wq ?_ | refine Wr ?_); (try simp only [go_sem, fN, seval, eT, iR, ho, e4, e5, e8, e10, s500, s501, s8, s10, dT, dF, nL]); (repeat with_reducible refine Ai ?_); (try (refine hK _ ?_; clear hK K)); try with_reducible refine iC ?_))
      refine IWP.loop (fun m x => ∃ i, i ≤ s.length ∧ m = s.length - i ∧ (∀ c ∈ s.take i, (c.2.on [(u.name, t)]).size ≤ 2000) ∧ x.env 4 = .one (.row 500 s.length) ∧ x.env 5 = .one (.part 501 l.length xs.length) ∧ x.env 12 = .one (.full [encB (u.name, t)]) ∧ x.env 121 = aInt s.length ∧ x.env 122 = aInt i ∧ x.S 500 = some (rowBd (halfOn s u.name t i)) ∧ x.S 501 = some (.mrow 91 4 xs)) s.length ⟨0, Nat.zero_le _, rfl, by simp, ?_⟩ ?_
      ·simp only [go_sem, fN, seval, eT, iR, e4, e5, s500, s501, encB]
       rfl
      rintro mm ⟨env, S⟩ ⟨i, hi, rfl, h20, e4, e5, e12, e121, e122, s500, s501⟩
      simp only at e4 e5 e12 e121 e122 s500 s501
      have hhl := halfOn_len s u.name t i
      by_cases hlt : (i : Int) < s.length
      ·have hlt' : i < s.length := by omega
       obtain ⟨b, hb⟩ := get_lt hlt'
       have hbz := hg.siz b (mem_of_get hb)
       have hbh := halfOn_get (x := u.name) (t := t) hb
       have hone : ∀ c ∈ ([(u.name, t)] : List Bd), isVar c.1 = true := by simp [hv]
       repeat' (first | (with_reducible first | refine W ?_ | refine Z0 ?_) | ((with_reducible first | refine Wo (fun K hK => ?_) | refine Wp ?_ | refine Wq ?_ | refine Wr ?_); (try simp only [go_sem, fN, seval, eT, iR, e4, e5, e12, e121, e122, s500, s501, hlt, hlt', hhl, hbh, encB, dT, dF, nL]); (repeat with_reducible refine Ai ?_); (try (refine hK _ ?_; clear hK K)); try with_reducible refine iC ?_))
       refine ⟨_, onP_a [(u.name, t)] (by simp) (List.pairwise_singleton _ _) b.2 hone (hg.chk b (mem_of_get hb)), ?_⟩
       by_cases hz : (b.2.on [(u.name, t)]).size ≤ 2000
       ·have hon : onTo [(u.name, t)] b.2 = (b.2.on [(u.name, t)], true) := by unfold onTo; rw [if_pos hz]
        repeat' (first | (with_reducible first | refine W ?_ | refine Z0 ?_) | ((with_reducible first | refine Wo (fun K hK => ?_) | refine Wp ?_ | refine Wq ?_ | refine Wr ?_); (try simp only [go_sem, fN, seval, eT, iR, hon, e4, e5, e12, e121, e122, s500, s501, hlt, hlt', hhl, hbh, encB, dT, dF, nL]); (repeat with_reducible refine Ai ?_); (try (refine hK _ ?_; clear hK K)); try with_reducible refine iC ?_))
        refine then_normal ⟨s.length - (i + 1), by omega, i + 1, by omega, rfl, fun c hc => ?_, ?_⟩
        ·rw [take_snoc hb] at hc
         rcases List.mem_append.1 hc with hc | hc
         ·exact h20 c hc
         ·rw [List.mem_singleton.1 hc]; exact hz
        ·simp only [go_sem, fN, seval, eT, iR, e4, e5, e12, e121, e122, s500, s501]
         refine ⟨rfl, by congr 3, ?_⟩
         show ABlk.mrow _ _ (((halfOn s u.name t i).map encB).set i (encB (b.1, b.2.on [(u.name, t)]))) = _
         rw [← List.map_set, halfOn_set hb]
       ·have hon : onTo [(u.name, t)] b.2 = (Tm.nil, false) := by unfold onTo; rw [if_neg hz]
        have hbv : bindV s u.name t = .err 8 := by
         unfold bindV
         rw [if_neg (by rw [ho]; simp), if_neg]
         intro hall
         have := List.all_eq_true.1 hall b (mem_of_get hb)
         exact hz (by simpa using this)
        repeat' (first | (with_reducible first | refine W ?_ | refine Z0 ?_) | ((with_reducible first | refine Wo (fun K hK => ?_) | refine Wp ?_ | refine Wq ?_ | refine Wr ?_); (try simp only [go_sem, fN, seval, eT, iR, hon, e4, e5, e12, e121, e122, s500, s501, hlt, hlt', hhl, hbh, encB, dT, dF, nL]); (repeat with_reducible refine Ai ?_); (try (refine hK _ ?_; clear hK K)); try with_reducible refine iC ?_))
        simp only [go_sem, fN, seval, FinQ, AS.result, resAll, resOne, tupV]
        rcases hinv with ⟨e, h1, rfl⟩ | ⟨s', ps, q, h1, _⟩
        ·rw [hbv] at h1
         cases h1
         rfl
        ·rw [hbv] at h1
         cases h1
      ·obtain rfl : i = s.length := by omega
       rw [List.take_of_length_le (Nat.le_refl _)] at h20
       rw [halfOn_all] at s500
       have hbv : bindV s u.name t = .go (sortB (s.map (fun b => (b.1, b.2.on [(u.name, t)])) ++ [(u.name, t)])) [] := by
        unfold bindV
        rw [if_neg (by rw [ho]; simp), if_pos]
        exact List.all_eq_true.2 fun b hb => by simpa using h20 b hb
       obtain ⟨hg', _⟩ := step_good hg (hst.trans hbv)
       rcases hinv with ⟨e, h1, _⟩ | ⟨s', ps, q, h1, h2, h3⟩
       ·rw [hbv] at h1
        cases h1
       rw [hbv] at h1
       cases h1
       have hnamed := named_perm (sortB_perm _) (ordered_named hg'.ord)
       have hL : (s.map (fun b => (b.1, b.2.on [(u.name, t)]))).map encB ++ [[SV.str u.name, SV.str t.name, SV.list (t.args.map encT)]] = (s.map (fun b => (b.1, b.2.on [(u.name, t)])) ++ [(u.name, t)]).map encB := by
        rw [List.map_append]
        rfl
       have hLl : (s.map (fun b => (b.1, b.2.on [(u.name, t)])) ++ [(u.name, t)]).length = s.length + 1 := by simp
       have hsort := fun S h => sort_M _ hnamed (by omega) (up1 500) (up1_le 500) S h
       have hsl2 := sortB_length (s.map (fun b => (b.1, b.2.on [(u.name, t)])) ++ [(u.name, t)])
       rw [hLl] at hsort hsl2
       repeat' (first | (with_reducible first | refine W ?_ | refine Z0 ?_) | ((with_reducible first | refine Wo (fun K hK => ?_) | refine Wp ?_ | refine Wq ?_ | refine Wr ?_); (try simp only [go_sem, fN, seval, eT, iR, e4, e5, e12, e121, e122, s500, s501, hlt, encB, dT, dF, nL]); (repeat with_reducible refine Ai ?_); (try (refine hK _ ?_; clear hK K)); try with_reducible refine iC ?_))
       rw [hL]
       refine ⟨_, _, hsort _ (by rw [upS_up, updE_same]; rfl), ?_⟩
       repeat' (first | (with_reducible first | refine W ?_ | refine Z0 ?_) | ((with_reducible first | refine Wo (fun K hK => ?_) | refine Wp ?_ | refine Wq ?_ | refine Wr ?_); (try simp only [go_sem, fN, seval, eT, iR, e5, s501, dT, dF, nL]); (repeat with_reducible refine Ai ?_); (try (refine hK _ ?_; clear hK K)); try with_reducible refine iC ?_))
       refine then_normal ⟨q, h2, _, l, xs, h3, hg', hstk', ?_⟩
       simp only [go_sem, fN, seval, AS.drop, dropS, AC.clears, AC.clear, AC.highs, AC.high, Bool.not_false, Bool.true_and, Bool.and_self, AV.purge, AV.purges, AC.purge, ABlk.purge, List.contains_cons, List.contains_nil, Nat.reduceBEq, Bool.or_self, Bool.or_false, Bool.false_or, Bool.or_true, eT, iR, e5, s501, hsl2]
    ·-- two knots
     have hv : isVar (p.1.on s).name = false := by
      cases h : isVar (p.1.on s).name with
      | false => rfl
      | true => exact absurd (.inl h) hvv
     have hw : isVar (p.2.on s).name = false := by
      cases h : isVar (p.2.on s).name with
      | false => rfl
      | true => exact absurd (.inr h) hvv
     have hst : stepU s p = if (p.1.on s).name = (p.2.on s).name ∧ (p.1.on s).args.length = (p.2.on s).args.length then .go s ((p.1.on s).args.zip (p.2.on s).args) else .err 5 := by
      unfold stepU
      rw [if_neg (by omega), if_neg hsame, if_neg (by rw [hv]; simp), if_neg (by rw [hw]; simp)]
     rw [hst] at hinv
     have huk := Tm.length_le (p.1.on s).args
     have hus := Tm.size_eq (p.1.on s)
     have htk := Tm.length_le (p.2.on s).args
     have hts := Tm.size_eq (p.2.on s)
     by_cases hsame2 : (p.1.on s).name = (p.2.on s).name ∧ (p.1.on s).args.length = (p.2.on s).args.length
     ·rw [if_pos hsame2] at hst hinv
      obtain ⟨hg', _⟩ := step_good hg hst
      rcases hinv with ⟨e, h1, _⟩ | ⟨s', ps, q, h1, h2, h3⟩
      ·cases h1
      cases h1
      repeat' (first | (with_reducible first | refine W ?_ | refine Z0 ?_) | refine Cg _ (variable_a _) ?_ | ((with_reducible first | refine Wo (fun K hK => ?_) | refine Wp ?_ | refine Wq ?_ | refine Wr ?_); (try simp only [go_sem, fN, seval, eT, iR, hv, hw, e4, e5, s500, s501, hsame2.1, hsame2.2, dT, dF, nL]); (repeat with_reducible refine Ai ?_); (try (refine hK _ ?_; clear hK K)); try with_reducible refine iC ?_))
      have hzl : ((p.1.on s).args.zip (p.2.on s).args).length = (p.2.on s).args.length := by rw [List.length_zip, hsame2.2, Nat.min_self]
      refine IWP.loop (fun m x => ∃ (k : Nat) (xs : List (List SV)) (n1 n2 : ByteArray), k ≤ (p.2.on s).args.length ∧ m = k ∧ Stk xs (((p.1.on s).args.zip (p.2.on s).args).drop k ++ l) ∧ x.env 4 = .one (.row 500 s.length) ∧ x.env 5 = .one (.part 501 (((p.1.on s).args.zip (p.2.on s).args).drop k ++ l).length xs.length) ∧ x.env 8 = .one (.ptr 8 1 0 0) ∧ x.env 10 = .one (.ptr 10 1 0 0) ∧ x.env 14 = .one (.st (.int .i64 ((k : Int) - 1))) ∧ x.S 500 = some (rowBd s) ∧ x.S 501 = some (.mrow 91 4 xs) ∧
        x.S 8 = some (.box 61 [.st (.str n1), .st (.list ((p.1.on s).args.map encT))]) ∧ x.S 10 = some (.box 61 [.st (.str n2), .st (.list ((p.2.on s).args.map encT))])) (p.2.on s).args.length ⟨(p.2.on s).args.length, xs, (p.2.on s).name, (p.2.on s).name, Nat.le_refl _, rfl, ?_⟩ ?_
      ·rw [← hzl, List.drop_length, hzl]
       refine ⟨hstk', ?_⟩
       simp only [go_sem, fN, seval, eT, iR, e4, s500, s501, hsame2.1]
      rintro k ⟨env, S⟩ ⟨_, xs, n1, n2, hk, rfl, hstk, e4, e5, e8, e10, e14, s500, s501, s8, s10⟩
      simp only at e4 e5 e8 e10 e14 s500 s501 s8 s10
      by_cases hk0 : 0 ≤ (k : Int) - 1
      ·obtain ⟨k, rfl⟩ : ∃ q, k = q + 1 := ⟨k - 1, by omega⟩
       obtain ⟨x, hx⟩ := get_lt (show k < (p.1.on s).args.length by omega)
       obtain ⟨y, hy⟩ := get_lt (show k < (p.2.on s).args.length by omega)
       have hxy : ((p.1.on s).args.zip (p.2.on s).args)[k]? = some (x, y) := List.getElem?_zip_eq_some.2 ⟨hx, hy⟩
       have hz : (((k + 1 : Nat) : Int) - 1).toNat = k := by omega
       have hdl : (((p.1.on s).args.zip (p.2.on s).args).drop (k + 1) ++ l).length ≤ 100000002000 := by rw [List.length_append, List.length_drop, hzl]; omega
       generalize hD : ((p.1.on s).args.zip (p.2.on s).args).drop (k + 1) ++ l = D at *
       repeat' (first | (with_reducible first | refine W ?_ | refine Z0 ?_) | ((with_reducible first | refine Wo (fun K hK => ?_) | refine Wp ?_ | refine Wq ?_ | refine Wr ?_); (try simp only [go_sem, fN, seval, eT, iR, e4, e5, e8, e10, e14, s500, s501, s8, s10, hk0, hz, hx, hy, dT, dF, nL]); (repeat with_reducible refine Ai ?_); (try (refine hK _ ?_; clear hK K)); try with_reducible refine iC ?_))
       have hcons : ((p.1.on s).args.zip (p.2.on s).args).drop k ++ l = (x, y) :: D := by rw [drop_get hxy, List.cons_append, hD]
       have hDl : (((p.1.on s).args.zip (p.2.on s).args).drop k).length + l.length = D.length + 1 := by rw [← List.length_append, hcons, List.length_cons]
       refine then_normal ⟨k, by omega, k, _, n1, n2, by omega, rfl, by rw [hcons]; exact hstk.push (x, y), ?_⟩
       have hpl : (List.take D.length xs).length + 1 + (List.drop (D.length + 1) xs).length = if xs.length ≤ D.length + 1 then D.length + 1 else xs.length := by
        have := hstk.pushLen (x, y)
        simpa only [List.length_append, List.length_cons, List.length_nil, Nat.zero_add] using this
       simp only [go_sem, fN, seval, eT, iR, e4, e5, e8, e10, e14, s500, s501, s8, s10, hDl, hpl]
       refine ⟨?_, rfl⟩
       congr 3
       omega
      ·obtain rfl : k = 0 := by omega
       rw [List.drop_zero] at hstk e5
       repeat' (first | (with_reducible first | refine W ?_ | refine Z0 ?_) | ((with_reducible first | refine Wo (fun K hK => ?_) | refine Wp ?_ | refine Wq ?_ | refine Wr ?_); (try simp only [go_sem, fN, seval, eT, iR, e4, e5, e14, hk0, dT, dF, nL]); (repeat with_reducible refine Ai ?_); (try (refine hK _ ?_; clear hK K)); try with_reducible refine iC ?_))
       refine then_normal ⟨q, h2, s, _, xs, h3, hg', hstk, ?_⟩
       simp only [go_sem, fN, seval, AS.drop, dropS, AC.clears, AC.clear, AC.highs, AC.high, Bool.not_false, Bool.true_and, Bool.and_self, AV.purge, AV.purges, AC.purge, ABlk.purge, List.contains_cons, List.contains_nil, Nat.reduceBEq, Bool.or_self, Bool.or_false, Bool.false_or, Bool.or_true, eT, iR, e4, e5, s500, s501]
     ·rw [if_neg hsame2] at hst hinv
      by_cases hn : (p.1.on s).name = (p.2.on s).name
      ·have hl : ¬ ((p.1.on s).args.length : Int) = (p.2.on s).args.length := fun h => hsame2 ⟨hn, by omega⟩
       repeat' (first | (with_reducible first | refine W ?_ | refine Z0 ?_) | refine Cg _ (variable_a _) ?_ | ((with_reducible first | refine Wo (fun K hK => ?_) | refine Wp ?_ | refine Wq ?_ | refine Wr ?_); (try simp only [go_sem, fN, seval, eT, iR, hv, hw, e4, e5, hn, hl, dT, dF, nL]); (repeat with_reducible refine Ai ?_); (try (refine hK _ ?_; clear hK K)); try with_reducible refine iC ?_))
       simp only [go_sem, fN, seval, FinQ, AS.result, resAll, resOne, tupV]
       rcases hinv with ⟨e, h1, rfl⟩ | ⟨s', ps, q, h1, _⟩
       ·cases h1
        rfl
       ·cases h1
      ·repeat' (first | (with_reducible first | refine W ?_ | refine Z0 ?_) | refine Cg _ (variable_a _) ?_ | ((with_reducible first | refine Wo (fun K hK => ?_) | refine Wp ?_ | refine Wq ?_ | refine Wr ?_); (try simp only [go_sem, fN, seval, eT, iR, hv, hw, e4, e5, hn, dT, dF, nL]); (repeat with_reducible refine Ai ?_); (try (refine hK _ ?_; clear hK K)); try with_reducible refine iC ?_))
       simp only [go_sem, fN, seval, FinQ, AS.result, resAll, resOne, tupV]
       rcases hinv with ⟨e, h1, rfl⟩ | ⟨s', ps, q, h1, _⟩
       ·cases h1
        rfl
       ·cases h1

def ir_match_into : IR :=
 (.seq (.ops [.i 3 (.box 61 (.t 0)), .i 4 (.box 61 (.t 1)), .i 6 (.mov (.c (.one (.st (.bool false)))))]) (.seq (.seq (.ops [.f 10 0 3, .l 11 10, .i 12 (.call 96 [.t 11])]) (.cond (.t 12) (.seq (.seq (.ops [.m 14 2, .f 15 0 3, .l 16 15, .i 17 (.lookup none true (.agg [.st (.str (ByteArray.mk (#[]))), .full []]) (.t 14) (.t 16)), .m 13 17, .i 18 (.extract 0 (.t 13)), .i 19 (.extract 1 (.t 13)), .i 7 (.alloc 61 [.st (.str (ByteArray.mk (#[]))), .full []]), .s 2 7 18, .m 8 19]) (.seq (.ops [.m 20 8]) (.cond (.t 20) (.seq (.ops [.L 21 2 7, .L 22 2 4, .i 23 (.call 99 [.t 21, .t 22]), .m 6 23]) .ret) .skip))) (.seq (.ops [.m 24 2, .f 25 0 3, .l 26 25, .L 27 2 4, .mk none none (.mapSet none (.t 24) (.t 26) (.t 27)) .no]) (.seq (.ops [.i 6 (.mov (.c (.one (.st (.bool true)))))]) .ret))) .skip)) (.seq (.seq (.ops [.f 28 0 3, .l 29 28, .f 30 0 4, .l 31 30, .i 32 (.bin .neq (.t 29) (.t 31)), .m 33 32, .mk (some 34) (some (33, false)) (.fieldAddr 1 (.t 3)) .no, .mk (some 35) (some (33, false)) (.load false 1 (.t 34)) .no, .mk (some 36) (some (33, false)) (.len false (.t 35)) .no, .mk (some 37) (some (33, false)) (.fieldAddr 1 (.t 4)) .no, .mk (some 38) (some (33, false)) (.load false 1 (.t 37)) .no, .mk (some 39) (some (33, false)) (.len false (.t 38)) .no, .mk (some 40) (some (33, false)) (.bin .neq (.t 36) (.t 39)) .no, .i 41 (.pick (.t 33) (.c (.one (.st (.bool true)))) (.t 40))]) (.cond (.t 41) (.seq (.ops [.i 6 (.mov (.c (.one (.st (.bool false)))))]) .ret) .skip)) (.seq (.seq (.ops [.f 42 1 3, .l 43 42, .i 44 (.len false (.t 43)), .i 45 (.mov (.n 0))]) (.block 0 (.loop (.seq (.ops [.i 46 (.bin .lss (.t 45) (.t 44))]) (.seq (.cond (.t 46) .skip (.exit 0)) (.seq (.block 1 (.seq (.ops [.m 47 45, .m 9 47]) (.seq (.ops [.f 48 1 3, .l 49 48, .m 50 9, .i 51 (.indexAddr 2 (.t 49) (.t 50)), .L 52 2 51, .f 53 1 4, .l 54 53, .m 55 9, .i 56 (.indexAddr 2 (.t 54) (.t 55)), .L 57 2 56, .m 58 2, .i 59 (.callS 82 [.t 52, .t 57, .t 58]), .i 60 (.un .not (.t 59))]) (.cond (.t 60) (.seq (.ops [.i 6 (.mov (.c (.one (.st (.bool false)))))]) .ret) .skip)))) (.ops [.i 61 (.bin .add (.t 45) (.n 1)), .m 45 61]))))))) (.seq (.ops [.i 6 (.mov (.c (.one (.st (.bool true)))))]) .ret)))))
theorem ok_match_into : OkF Tryz.prog 82 62 [59] ir_match_into [.t 6] := .of Tryz.func82 rfl rfl (by kernel_rfl) rfl
def ir_match_Case : IR :=
 (.seq (.ops [.i 2 (.box 61 (.t 0)), .i 3 (.box 61 (.t 1)), .i 4 (.mov (.c (.one (.full [])))), .i 5 (.mov (.c (.one (.st (.bool false)))))]) (.seq (.ops [.i 10 (.makeMap none), .m 6 10]) (.seq (.seq (.ops [.L 11 2 2, .L 12 2 3, .m 13 6, .i 14 (.callS 82 [.t 11, .t 12, .t 13]), .i 15 (.un .not (.t 14))]) (.cond (.t 15) (.seq (.ops [.i 4 (.mov (.c (.one (.full [])))), .i 5 (.mov (.c (.one (.st (.bool false)))))]) .ret) .skip)) (.seq (.ops [.i 7 (.mov (.c (.one (.full []))))]) (.seq (.seq (.ops [.m 16 6, .i 17 (.rangeM (.t 16))]) (.block 0 (.loop (.seq (.ops [.i 18 (.next (.t 17)), .i 19 (.extract 0 (.t 18))]) (.seq (.cond (.t 19) .skip (.exit 0)) (.block 1 (.seq (.ops [.i 20 (.entry (.t 17)), .i 21 (.extract 0 (.t 20)), .i 22 (.extract 1 (.t 20)), .i 9 (.alloc 61 [.st (.str (ByteArray.mk (#[]))), .full []]), .m 8 21, .s 2 9 22]) (.ops [.m 23 7, .m 24 8, .L 25 2 9, .i 26 (.call 83 [.t 25]), .i 27 (.build [.st (.str (ByteArray.mk (#[]))), .st (.str (ByteArray.mk (#[]))), .full []] [(0, 1, .t 24), (1, 2, .t 26)]), .i 28 (.buildSlice false 95 3 [.t 27]), .i 29 (.append true 95 3 56 (.t 23) (.t 28)), .m 7 29])))))))) (.seq (.ops [.m 30 7, .i 31 (.callS 84 [.t 30]), .m 4 31, .i 5 (.mov (.c (.one (.st (.bool true)))))]) .ret))))))
theorem ok_match_Case : OkF Tryz.prog 57 32 [14, 29, 31] ir_match_Case [.t 4, .t 5] := .of Tryz.func57 rfl rfl (by kernel_rfl) rfl

def met {α : Type} (l : List α) (seen : List Nat) : List α := seen.filterMap fun j => l[j]?
theorem met_snoc {α : Type} {l : List α} {seen : List Nat} {j : Nat} {b : α} (h : l[j]? = some b) : met l (seen ++ [j]) = met l seen ++ [b] := by
 unfold met
 rw [List.filterMap_append, List.filterMap_cons_some h]
 rfl
theorem met_len {α : Type} {l : List α} : ∀ {seen : List Nat}, (∀ j ∈ seen, j < l.length) → (met l seen).length = seen.length
 | [], _ => rfl
 | j :: seen, h => by
  have hj := h j (by simp)
  unfold met
  rw [List.filterMap_cons_some (List.getElem?_eq_getElem hj), List.length_cons, List.length_cons]
  exact congrArg (· + 1) (met_len fun i hi => h i (by simp [hi]))
theorem seen_len {n : Nat} {seen : List Nat} (hn : seen.Nodup) (h : ∀ j ∈ seen, j < n) : seen.length ≤ n := by
 have h1 : seen.Perm ((List.range n).filter fun j => decide (j ∈ seen)) := (List.perm_ext_iff_of_nodup hn (List.nodup_range.filter _)).2 fun j => by
  rw [List.mem_filter, List.mem_range, decide_eq_true_eq]
  exact ⟨fun hj => ⟨h j hj, hj⟩, fun hj => hj.2⟩
 rw [h1.length_eq]
 exact Nat.le_trans (List.length_filter_le _ _) (Nat.le_of_eq List.length_range)
theorem met_perm {α : Type} {l : List α} {seen : List Nat} (hn : seen.Nodup) (h : ∀ j ∈ seen, j < l.length) (hall : ∀ j, j < l.length → j ∈ seen) : (met l seen).Perm l := by
 have hp : seen.Perm (List.range l.length) := (List.perm_ext_iff_of_nodup hn List.nodup_range).2 fun j => ⟨fun hj => List.mem_range.2 (h j hj), fun hj => hall j (List.mem_range.1 hj)⟩
 have := hp.filterMap fun j => l[j]?
 rw [filterMap_range] at this
 exact this

def ir_slices_EqualFunc_metaprune_api_Term_metaprune_api_Term_metaprune_api_Term_metaprune_api_Term : IR :=
 (.seq (.ops [.i 6 (.mov (.c (.one (.st (.bool false)))))]) (.seq (.seq (.ops [.m 10 0, .i 11 (.len false (.t 10)), .m 12 1, .i 13 (.len false (.t 12)), .i 14 (.bin .neq (.t 11) (.t 13))]) (.cond (.t 14) (.seq (.ops [.i 6 (.mov (.c (.one (.st (.bool false)))))]) .ret) .skip)) (.seq (.seq (.ops [.m 15 0, .i 16 (.len false (.t 15)), .i 17 (.mov (.n 0))]) (.block 0 (.loop (.seq (.ops [.i 18 (.bin .lss (.t 17) (.t 16))]) (.seq (.cond (.t 18) .skip (.exit 0)) (.seq (.block 1 (.seq (.ops [.m 19 17, .i 20 (.indexAddr 2 (.t 15) (.t 17)), .L 21 2 20, .i 8 (.alloc 61 [.st (.str (ByteArray.mk (#[]))), .full []]), .m 7 19, .s 2 8 21]) (.seq (.ops [.m 22 1, .m 23 7, .i 24 (.indexAddr 2 (.t 22) (.t 23)), .L 25 2 24, .i 9 (.alloc 61 [.st (.str (ByteArray.mk (#[]))), .full []]), .s 2 9 25]) (.seq (.ops [.m 26 2, .L 27 2 8, .L 28 2 9, .i 29 (.callV (.t 26) [.t 27, .t 28]), .i 30 (.un .not (.t 29))]) (.cond (.t 30) (.seq (.ops [.i 6 (.mov (.c (.one (.st (.bool false)))))]) .ret) .skip))))) (.ops [.i 31 (.bin .add (.t 17) (.n 1)), .m 17 31]))))))) (.seq (.ops [.i 6 (.mov (.c (.one (.st (.bool true)))))]) .ret))))
theorem ok_slices_EqualFunc_metaprune_api_Term_metaprune_api_Term_metaprune_api_Term_metaprune_api_Term : OkF Tryz.prog 109 32 [] ir_slices_EqualFunc_metaprune_api_Term_metaprune_api_Term_metaprune_api_Term_metaprune_api_Term [.t 6] := .of Tryz.func109 rfl rfl (by kernel_rfl) rfl
def ir_term_Same : IR :=
 (.seq (.ops [.i 2 (.box 61 (.t 0)), .i 3 (.box 61 (.t 1)), .i 4 (.mov (.c (.one (.st (.bool false)))))]) (.seq (.ops [.f 5 0 2, .l 6 5, .f 7 0 3, .l 8 7, .i 9 (.bin .eql (.t 6) (.t 8)), .m 10 9, .mk (some 11) (some (10, true)) (.fieldAddr 1 (.t 2)) .no, .mk (some 12) (some (10, true)) (.load false 1 (.t 11)) .no, .mk (some 13) (some (10, true)) (.fieldAddr 1 (.t 3)) .no, .mk (some 14) (some (10, true)) (.load false 1 (.t 13)) .no, .mk (some 15) (some (10, true)) (.call 109 [.t 12, .t 14, .c (.one (.fn 99 []))]) .no, .i 16 (.pick (.t 10) (.t 15) (.c (.one (.st (.bool false))))), .m 4 16]) .ret))
theorem ok_term_Same : OkF Tryz.prog 99 17 [] ir_term_Same [.t 4] := .of Tryz.func99 rfl rfl (by kernel_rfl) rfl

theorem Tm.beqL_no {xs ys : List Tm} (h : xs ≠ ys) : Tm.beqL xs ys = false := by
 rw [← Bool.not_eq_true, Tm.beqL_iff]
 exact h
theorem equalFunc_a (xs ys : List Tm) (ih : ∀ x ∈ xs, ∀ y, ACalls Tryz.prog 99 [aTm x, aTm y] (aBool (x.beq y))) :
  ACalls Tryz.prog 109 [aTms xs, aTms ys, .one (.fn 99 [])] (aBool (Tm.beqL xs ys)) := by
 have hplain : plainF Tryz.prog 99 = true := by kernel_rfl
 refine ok_slices_EqualFunc_metaprune_api_Term_metaprune_api_Term_metaprune_api_Term_metaprune_api_Term.ac fun C hC => ?_
 unfold ir_slices_EqualFunc_metaprune_api_Term_metaprune_api_Term_metaprune_api_Term_metaprune_api_Term
 refine IWP.learn 0 (by omega) fun hkn => ?_
 have hkx := known_len hkn
 rw [List.length_map] at hkx
 by_cases hl : xs.length = ys.length
 ·have hl' : (xs.length : Int) = ys.length := by omega
  repeat' (first | (with_reducible first | refine W ?_ | refine Z0 ?_) | ((with_reducible first | refine Wo (fun K hK => ?_) | refine Wp ?_ | refine Wq ?_ | refine Wr ?_); (try simp only [go_sem, fN, seval, eT, iR, hl', dT, dF, nL]); (repeat with_reducible refine Ai ?_); (try (refine hK _ ?_; clear hK K)); try with_reducible refine iC ?_))
  refine IWP.loopD [8, 9] (fun n s => ∃ k, k ≤ xs.length ∧ n = xs.length - k ∧ xs.take k = ys.take k ∧ s.env 1 = aTms ys ∧ s.env 2 = .one (.fn 99 []) ∧ s.env 15 = aTms xs ∧ s.env 16 = aInt xs.length ∧ s.env 17 = aInt k ∧ s.S 8 = none ∧ s.S 9 = none) xs.length ⟨0, Nat.zero_le _, rfl, rfl, rfl, rfl, rfl, by simp only [go_sem, fN, seval, eT, iR, hl'], rfl, rfl, rfl⟩ ?_
  rintro n ⟨env, S⟩ ⟨k, hk, rfl, h0, e1, e2, e15, e16, e17, s8, s9⟩
  simp only at e1 e2 e15 e16 e17 s8 s9
  by_cases hlt : (k : Int) < xs.length
  ·obtain ⟨x, hx⟩ := get_lt (show k < xs.length by omega)
   obtain ⟨y, hy⟩ := get_lt (show k < ys.length by omega)
   repeat' (first | (with_reducible first | refine W ?_ | refine Z0 ?_) | ((with_reducible first | refine Wo (fun K hK => ?_) | refine Wp ?_ | refine Wq ?_ | refine Wr ?_); (try simp only [go_sem, fN, seval, eT, iR, e1, e2, e15, e16, e17, s8, s9, hlt, hx, hy, hplain, dT, dF, nL]); (repeat with_reducible refine Ai ?_); (try (refine hK _ ?_; clear hK K)); try with_reducible refine iC ?_))
   refine ⟨_, _, (ih x (mem_of_get hx) y).toS rfl, ?_⟩
   cases hxy : x.beq y with
   | false =>
    repeat' (first | (with_reducible first | refine W ?_ | refine Z0 ?_) | ((with_reducible first | refine Wo (fun K hK => ?_) | refine Wp ?_ | refine Wq ?_ | refine Wr ?_); (try simp only [go_sem, fN, seval, eT, iR, hxy, dT, dF, nL]); (repeat with_reducible refine Ai ?_); (try (refine hK _ ?_; clear hK K)); try with_reducible refine iC ?_))
    simp only [go_sem, fN, seval, FinQ, AS.result, resAll, resOne, tupV]
    rw [Tm.beqL_no fun e => by
     subst e
     rw [hx] at hy
     cases hy
     rw [Tm.beq_refl] at hxy
     cases hxy]
   | true =>
    have hxy' := (Tm.beq_iff x y).1 hxy
    repeat' (first | (with_reducible first | refine W ?_ | refine Z0 ?_) | ((with_reducible first | refine Wo (fun K hK => ?_) | refine Wp ?_ | refine Wq ?_ | refine Wr ?_); (try simp only [go_sem, fN, seval, eT, iR, hxy, e1, e2, e15, e16, e17, s8, s9, dT, dF, nL]); (repeat with_reducible refine Ai ?_); (try (refine hK _ ?_; clear hK K)); try with_reducible refine iC ?_))
    refine then_normal ⟨xs.length - (k + 1), by omega, k + 1, by omega, rfl, ?_, ?_⟩
    ·rw [take_snoc hx, take_snoc hy, h0, hxy']
    ·simp only [go_sem, fN, seval, AS.drop, dropS, AC.clears, AC.clear, AC.highs, AC.high, Bool.not_false, Bool.true_and, Bool.and_self, AV.purge, AV.purges, AC.purge, ABlk.purge, List.contains_cons, List.contains_nil, Nat.reduceBEq, Bool.or_self, Bool.or_false, Bool.false_or, Bool.or_true, eT, iR, e1, e2, e15, e16, e17, s8, s9]
     congr 3
  ·repeat' (first | (with_reducible first | refine W ?_ | refine Z0 ?_) | ((with_reducible first | refine Wo (fun K hK => ?_) | refine Wp ?_ | refine Wq ?_ | refine Wr ?_); (try simp only [go_sem, fN, seval, eT, iR, e1, e2, e15, e16, e17, hlt, dT, dF, nL]); (repeat with_reducible refine Ai ?_); (try (refine hK _ ?_; clear hK K)); try with_reducible refine iC ?_))
   simp only [go_sem, fN, seval, FinQ, AS.result, resAll, resOne, tupV]
   rw [List.take_of_length_le (by omega), List.take_of_length_le (by omega)] at h0
   rw [(Tm.beqL_iff xs ys).2 h0]
 ·have hl' : ¬ (xs.length : Int) = ys.length := by omega
  repeat' (first | (with_reducible first | refine W ?_ | refine Z0 ?_) | ((with_reducible first | refine Wo (fun K hK => ?_) | refine Wp ?_ | refine Wq ?_ | refine Wr ?_); (try simp only [go_sem, fN, seval, eT, iR, hl', dT, dF, nL]); (repeat with_reducible refine Ai ?_); (try (refine hK _ ?_; clear hK K)); try with_reducible refine iC ?_))
  simp only [go_sem, fN, seval, FinQ, AS.result, resAll, resOne, tupV]
  rw [Tm.beqL_no fun e => hl (by rw [e])]
theorem same_a (a b : Tm) : ACalls Tryz.prog 99 [aTm a, aTm b] (aBool (a.beq b)) := by
 induction h : SizeOf.sizeOf a using Nat.strongRecOn generalizing a b with
 | _ N ih =>
 subst h
 have hE := equalFunc_a a.args b.args fun x hx y => ih _ (Tm.lt_of_arg hx) x y rfl
 have he : a.beq b = (decide (a.name = b.name) && Tm.beqL a.args b.args) := by cases a; cases b; rfl
 refine ok_term_Same.ac fun C hC => ?_
 unfold ir_term_Same
 by_cases hn : a.name = b.name
 ·repeat' (first | (with_reducible first | refine W ?_ | refine Z0 ?_) | refine Cg _ (hE) ?_ | ((with_reducible first | refine Wo (fun K hK => ?_) | refine Wp ?_ | refine Wq ?_ | refine Wr ?_); (try simp only [go_sem, fN, seval, eT, iR, hn, dT, dF, nL]); (repeat with_reducible refine Ai ?_); (try (refine hK _ ?_; clear hK K)); try with_reducible refine iC ?_))
  simp only [go_sem, fN, seval, FinQ, AS.result, resAll, resOne, tupV]
  rw [he, decide_eq_true hn]
  rfl
 ·repeat' (first | (with_reducible first | refine W ?_ | refine Z0 ?_) | ((with_reducible first | refine Wo (fun K hK => ?_) | refine Wp ?_ | refine Wq ?_ | refine Wr ?_); (try simp only [go_sem, fN, seval, eT, iR, hn, dT, dF, nL]); (repeat with_reducible refine Ai ?_); (try (refine hK _ ?_; clear hK K)); try with_reducible refine iC ?_))
  simp only [go_sem, fN, seval, FinQ, AS.result, resAll, resOne, tupV]
  rw [he, decide_eq_false hn]
  rfl

def entB (b : Bd) : KV × AV := (.s b.1, aTm b.2)
abbrev mapB (l : List Bd) : ABlk := .map none (l.map entB)
theorem mGet_mapB (l : List Bd) (n : ByteArray) : mGet (l.map entB) (.s n) = (lookup l n).map fun t => aTm t := by
 induction l with
 | nil => rfl
 | cons b l ih =>
  unfold lookup
  rw [List.map_cons, mGet, List.find?_cons]
  by_cases h : b.1 = n
  ·have h1 : decide (b.1 = n) = true := decide_eq_true h
   rw [if_pos (show (entB b).1 = KV.s n from congrArg KV.s h)]
   simp only [h1]
   rfl
  ·have h1 : decide (b.1 = n) = false := decide_eq_false h
   rw [if_neg (show ¬ (entB b).1 = KV.s n from fun e => h (KV.s.inj e)), ih]
   simp only [h1]
   rfl
theorem mPut_mapB {l : List Bd} {n : ByteArray} (h : lookup l n = none) (t : Tm) : mPut (l.map entB) (.s n) (aTm t) = (l ++ [(n, t)]).map entB := by
 rw [mPut_none (by rw [mGet_mapB, h]; rfl), List.map_append]
 rfl
theorem into_M (p : Tm) (hz : p.size ≤ 1000000) : ∀ (t : Tm) (a0 : Nat) (l : List Bd) (S : AStore), 1000 ≤ a0 → S a0 = some (mapB l) →
  ACallsS Tryz.prog 82 [aTm p, aTm t, .one (.mptr a0)] S (aBool (p.mt t l).2) (updE S a0 (some (mapB (p.mt t l).1))) := by
 induction h : SizeOf.sizeOf p using Nat.strongRecOn generalizing p with
 | _ N ih =>
 subst h
 intro t a0 l S ha0 hSa
 have hs := Tm.size_eq p
 have hln := Tm.length_le p.args
 refine ok_match_into.acS fun hS C hC => ?_
 have n3 : S 3 = none := clean_none hS (by omega)
 have n4 : S 4 = none := clean_none hS (by omega)
 have n7 : S 7 = none := clean_none hS (by omega)
 have d3 : ¬ 3 = a0 := by omega
 have d4 : ¬ 4 = a0 := by omega
 have d7 : ¬ 7 = a0 := by omega
 have e3 : ¬ a0 = 3 := by omega
 have e4 : ¬ a0 = 4 := by omega
 have e7 : ¬ a0 = 7 := by omega
 unfold ir_match_into
 repeat' (first | (with_reducible first | refine W ?_ | refine Z0 ?_) | ((with_reducible first | refine Wo (fun K hK => ?_) | refine Wp ?_ | refine Wq ?_ | refine Wr ?_); (try simp only [go_sem, fN, seval, eT, iR, n3, n4, dT, dF, nL]); (repeat with_reducible refine Ai ?_); (try (refine hK _ ?_; clear hK K)); try with_reducible refine iC ?_))
 refine ⟨_, variable_a _, ?_⟩
 cases hv : isVar p.name with
 | true =>
  cases hl : lookup l p.name with
  | some x =>
   repeat' (first | (with_reducible first | refine W ?_ | refine Z0 ?_) | refine Cg _ (same_a _ _) ?_ | ((with_reducible first | refine Wo (fun K hK => ?_) | refine Wp ?_ | refine Wq ?_ | refine Wr ?_); (try simp only [go_sem, fN, seval, eT, iR, hv, hSa, n3, n4, n7, d3, d4, d7, e3, e4, e7, mapOf, keyOf, KV.of, lookA, mGet_mapB, hl, dT, dF, nL]); (repeat with_reducible refine Ai ?_); (try (refine hK _ ?_; clear hK K)); try with_reducible refine iC ?_))
   rw [Tm.mt_old hv hl]
   refine finS_one (aBool (x.beq t)) hS ha0 rfl trivial rfl rfl (by simp only [go_sem, fN, seval, eT, iR, e3, e4, e7, hSa]) fun i hi hne => ?_
   have i3 : ¬ i = 3 := by omega
   have i4 : ¬ i = 4 := by omega
   have i7 : ¬ i = 7 := by omega
   simp only [go_sem, fN, seval, eT, iR, i3, i4, i7]
  | none =>
   repeat' (first | (with_reducible first | refine W ?_ | refine Z0 ?_) | ((with_reducible first | refine Wo (fun K hK => ?_) | refine Wp ?_ | refine Wq ?_ | refine Wr ?_); (try simp only [go_sem, fN, seval, eT, iR, hv, hSa, n3, n4, n7, d3, d4, d7, e3, e4, e7, mapOf, keyOf, KV.of, lookA, mGet_mapB, hl, mPut_mapB, dT, dF, nL]); (repeat with_reducible refine Ai ?_); (try (refine hK _ ?_; clear hK K)); try with_reducible refine iC ?_))
   rw [Tm.mt_new hv hl]
   refine finS_one (aBool true) hS ha0 rfl trivial rfl rfl (by simp only [go_sem, fN, seval, eT, iR, e3, e4, e7, hSa]) fun i hi hne => ?_
   have i3 : ¬ i = 3 := by omega
   have i4 : ¬ i = 4 := by omega
   have i7 : ¬ i = 7 := by omega
   simp only [go_sem, fN, seval, eT, iR, i3, i4, i7, hne]
 | false =>
  by_cases hn : p.name = t.name
  case neg =>
   have hc : ¬ (p.name = t.name ∧ p.args.length = t.args.length) := fun h => hn h.1
   repeat' (first | (with_reducible first | refine W ?_ | refine Z0 ?_) | ((with_reducible first | refine Wo (fun K hK => ?_) | refine Wp ?_ | refine Wq ?_ | refine Wr ?_); (try simp only [go_sem, fN, seval, eT, iR, hv, hSa, n3, n4, n7, d3, d4, d7, e3, e4, e7, hn, dT, dF, nL]); (repeat with_reducible refine Ai ?_); (try (refine hK _ ?_; clear hK K)); try with_reducible refine iC ?_))
   rw [Tm.mt_clash hv hc]
   refine finS_one (aBool false) hS ha0 rfl trivial rfl rfl (by simp only [go_sem, fN, seval, eT, iR, e3, e4, hSa]) fun i hi hne => ?_
   have i3 : ¬ i = 3 := by omega
   have i4 : ¬ i = 4 := by omega
   simp only [go_sem, fN, seval, eT, iR, i3, i4]
  by_cases hlen : p.args.length = t.args.length
  case neg =>
   have hc : ¬ (p.name = t.name ∧ p.args.length = t.args.length) := fun h => hlen h.2
   have hlen' : ¬ (p.args.length : Int) = t.args.length := by omega
   repeat' (first | (with_reducible first | refine W ?_ | refine Z0 ?_) | ((with_reducible first | refine Wo (fun K hK => ?_) | refine Wp ?_ | refine Wq ?_ | refine Wr ?_); (try simp only [go_sem, fN, seval, eT, iR, hv, hSa, n3, n4, n7, d3, d4, d7, e3, e4, e7, hn, hlen', dT, dF, nL]); (repeat with_reducible refine Ai ?_); (try (refine hK _ ?_; clear hK K)); try with_reducible refine iC ?_))
   rw [Tm.mt_clash hv hc]
   refine finS_one (aBool false) hS ha0 rfl trivial rfl rfl (by simp only [go_sem, fN, seval, eT, iR, e3, e4, hSa]) fun i hi hne => ?_
   have i3 : ¬ i = 3 := by omega
   have i4 : ¬ i = 4 := by omega
   simp only [go_sem, fN, seval, eT, iR, i3, i4]
  have hlen' : (p.args.length : Int) = t.args.length := by omega
  have hknot : p.mt t l = Tm.mtL p.args t.args l := Tm.mt_knot hv hn hlen
  repeat' (first | (with_reducible first | refine W ?_ | refine Z0 ?_) | ((with_reducible first | refine Wo (fun K hK => ?_) | refine Wp ?_ | refine Wq ?_ | refine Wr ?_); (try simp only [go_sem, fN, seval, eT, iR, hv, hSa, n3, n4, n7, d3, d4, d7, e3, e4, e7, hn, hlen', dT, dF, nL]); (repeat with_reducible refine Ai ?_); (try (refine hK _ ?_; clear hK K)); try with_reducible refine iC ?_))
  refine IWP.loop (fun m x => ∃ k, k ≤ p.args.length ∧ m = p.args.length - k ∧ (Tm.mtL (p.args.take k) (t.args.take k) l).2 = true ∧ x.env 2 = .one (.mptr a0) ∧ x.env 3 = .one (.ptr 3 1 0 0) ∧ x.env 4 = .one (.ptr 4 1 0 0) ∧ x.env 44 = aInt p.args.length ∧ x.env 45 = aInt k ∧
    x.S 3 = some (.box 61 [.st (.str t.name), .st (.list (p.args.map encT))]) ∧ x.S 4 = some (.box 61 [.st (.str t.name), .st (.list (t.args.map encT))]) ∧ x.S a0 = some (mapB (Tm.mtL (p.args.take k) (t.args.take k) l).1) ∧ ∀ i, 1000 ≤ i → i ≠ a0 → x.S i = S i)
   p.args.length ⟨0, Nat.zero_le _, rfl, by simp [Tm.mtL], rfl, rfl, rfl, by simp only [go_sem, fN, seval, eT, iR, hlen'], rfl, by simp only [go_sem, fN, seval, eT, iR, hn], rfl, by (simp only [go_sem, fN, seval, eT, iR, e3, e4, hSa]); simp [Tm.mtL], fun i hi hne => ?_⟩ ?_
  ·have i3 : ¬ i = 3 := by omega
   have i4 : ¬ i = 4 := by omega
   simp only [go_sem, fN, seval, eT, iR, i3, i4]
  rintro m ⟨env, S1⟩ ⟨k, hk, rfl, hok, e2, e3', e4', e44, e45, s3, s4, sa, hrest⟩
  simp only at e2 e3' e4' e44 e45 s3 s4 sa hrest
  have hend : ∀ (b : Bool) (r : List Bd) (env : Nat → AV) (S2 : AStore), env 6 = aBool b → S2 a0 = some (mapB r) → (∀ i, 1000 ≤ i → i ≠ a0 → S2 i = S i) → FinS C [.t 6] (aBool b) (updE S a0 (some (mapB r))) .ret ⟨env, S2⟩ := fun b r env S2 h6 h1 h2 =>
   finS_one (aBool b) hS ha0 rfl trivial (by simp only [resAll, resOne, tupV, h6, Option.map_some]) rfl h1 h2
  by_cases hlt : (k : Int) < p.args.length
  ·obtain ⟨a, ha⟩ := get_lt (show k < p.args.length by omega)
   obtain ⟨c, hc⟩ := get_lt (show k < t.args.length by omega)
   have hstep := Tm.mtL_take hlen ha hc hok
   repeat' (first | (with_reducible first | refine W ?_ | refine Z0 ?_) | ((with_reducible first | refine Wo (fun K hK => ?_) | refine Wp ?_ | refine Wq ?_ | refine Wr ?_); (try simp only [go_sem, fN, seval, eT, iR, e2, e3', e4', e44, e45, s3, s4, sa, hlt, ha, hc, dT, dF, nL]); (repeat with_reducible refine Ai ?_); (try (refine hK _ ?_; clear hK K)); try with_reducible refine iC ?_))
   refine ⟨_, _, ih _ (Tm.lt_of_arg (mem_of_get ha)) a (by have := Tm.size_mem (mem_of_get ha); omega) rfl c (up1 a0) (Tm.mtL (p.args.take k) (t.args.take k) l).1 (upS S1) (up1_le a0) (by rw [upS_up, sa]; rfl), ?_⟩
   rw [← hstep]
   cases hb : (Tm.mtL (p.args.take (k + 1)) (t.args.take (k + 1)) l).2 with
   | true =>
    repeat' (first | (with_reducible first | refine W ?_ | refine Z0 ?_) | ((with_reducible first | refine Wo (fun K hK => ?_) | refine Wp ?_ | refine Wq ?_ | refine Wr ?_); (try simp only [go_sem, fN, seval, eT, iR, hb, e2, e3', e4', e44, e45, s3, s4, dT, dF, nL]); (repeat with_reducible refine Ai ?_); (try (refine hK _ ?_; clear hK K)); try with_reducible refine iC ?_))
    refine then_normal ⟨p.args.length - (k + 1), by omega, k + 1, by omega, rfl, hb, ?_⟩
    simp only [go_sem, fN, seval, eT, iR, e2, e3', e4', e44, s3, s4, d3, d4]
    refine ⟨by congr 3, fun i hi hne => ?_⟩
    simp only [go_sem, fN, seval, eT, iR, hne]
    exact hrest i hi hne
   | false =>
    have hno := Tm.mtL_no hlen hb
    repeat' (first | (with_reducible first | refine W ?_ | refine Z0 ?_) | ((with_reducible first | refine Wo (fun K hK => ?_) | refine Wp ?_ | refine Wq ?_ | refine Wr ?_); (try simp only [go_sem, fN, seval, eT, iR, hb, e2, e3', e4', e44, e45, s3, s4, dT, dF, nL]); (repeat with_reducible refine Ai ?_); (try (refine hK _ ?_; clear hK K)); try with_reducible refine iC ?_))
    rw [hknot, hno]
    refine hend false _ _ _ rfl (by simp only [go_sem, fN, seval, eT, iR]) fun i hi hne => ?_
    simp only [go_sem, fN, seval, eT, iR, hne]
    exact hrest i hi hne
  ·rw [List.take_of_length_le (by omega), List.take_of_length_le (by omega)] at hok sa
   repeat' (first | (with_reducible first | refine W ?_ | refine Z0 ?_) | ((with_reducible first | refine Wo (fun K hK => ?_) | refine Wp ?_ | refine Wq ?_ | refine Wr ?_); (try simp only [go_sem, fN, seval, eT, iR, e44, e45, hlt, dT, dF, nL]); (repeat with_reducible refine Ai ?_); (try (refine hK _ ?_; clear hK K)); try with_reducible refine iC ?_))
   rw [hknot, hok]
   exact hend true _ _ _ rfl sa hrest
theorem sortB_perm_eq {l m : List Bd} (h : l.Perm m) (hn : Named m) : sortB l = sortB m :=
 ordered_unique (sortB_ordered (named_perm h.symm hn)) (sortB_ordered hn) ((sortB_perm l).trans (h.trans (sortB_perm m).symm))
theorem case_a (p t : Tm) (hp : p.size ≤ 100000) (ht : t.size ≤ 1000000) : ACalls Tryz.prog 57 [aTm p, aTm t] (.tup [aBds (caseOf p t), aBool (isCase p t)]) := by
 have hnm := mt_named p t
 have hml := mt_len p t
 have hms := mt_size p t
 refine ok_match_Case.ac fun C hC => ?_
 unfold ir_match_Case
 repeat' (first | (with_reducible first | refine W ?_ | refine Z0 ?_) | ((with_reducible first | refine Wo (fun K hK => ?_) | refine Wp ?_ | refine Wq ?_ | refine Wr ?_); (try simp only [go_sem, fN, seval, eT, iR, dT, dF, nL]); (repeat with_reducible refine Ai ?_); (try (refine hK _ ?_; clear hK K)); try with_reducible refine iC ?_))
 refine ⟨_, _, into_M p (by omega) t (up1 10) [] _ (up1_le 10) (by rw [upS_up]; rfl), ?_⟩
 cases hc : (p.mt t []).2 with
 | false =>
  repeat' (first | (with_reducible first | refine W ?_ | refine Z0 ?_) | ((with_reducible first | refine Wo (fun K hK => ?_) | refine Wp ?_ | refine Wq ?_ | refine Wr ?_); (try simp only [go_sem, fN, seval, eT, iR, hc, dT, dF, nL]); (repeat with_reducible refine Ai ?_); (try (refine hK _ ?_; clear hK K)); try with_reducible refine iC ?_))
  simp only [go_sem, fN, seval, FinQ, AS.result, resAll, resOne, tupV]
  unfold caseOf isCase
  rw [hc]
  rfl
 | true =>
  have hca : caseOf p t = sortB (p.mt t []).1 := by unfold caseOf; rw [if_pos hc]
  have his : isCase p t = true := hc
  repeat' (first | (with_reducible first | refine W ?_ | refine Z0 ?_) | ((with_reducible first | refine Wo (fun K hK => ?_) | refine Wp ?_ | refine Wq ?_ | refine Wr ?_); (try simp only [go_sem, fN, seval, eT, iR, hc, mapOf, dT, dF, nL]); (repeat with_reducible refine Ai ?_); (try (refine hK _ ?_; clear hK K)); try with_reducible refine iC ?_))
  rw [hca, his]
  generalize (p.mt t []).1 = l at *
  refine IWP.ghost (Ghost.ownM 7 500 95 3 (by rfl) (by rfl) (by rw [hC]; decide)) ?_
  refine IWP.loopD [9] (fun m x => ∃ seen : List Nat, seen.Nodup ∧ (∀ j ∈ seen, j < l.length) ∧ m = l.length - seen.length ∧ x.env 7 = .one (.row 500 seen.length) ∧ x.env 17 = .one (.ptr 17 1 0 0) ∧ x.S 10 = some (mapB l) ∧ x.S 17 = some (.iter (.mptr 10) l.length seen) ∧ x.S 500 = some (rowBd (met l seen)) ∧ x.S 9 = none) l.length ⟨[], List.nodup_nil, by simp, rfl, rfl, rfl, by simp only [go_sem, fN, seval, eT, iR], by simp only [go_sem, fN, seval, eT, iR], rfl, rfl⟩ ?_
  rintro m ⟨env, S⟩ ⟨seen, hnd, hlt, rfl, e7, e17, s10, s17, s500, s9⟩
  simp only at e7 e17 s10 s17 s500 s9
  have hsl := seen_len hnd hlt
  have hmt := met_len hlt
  repeat' (first | (with_reducible first | refine W ?_ | refine Z0 ?_) | ((with_reducible first | refine Wo (fun K hK => ?_) | refine Wp ?_ | refine Wq ?_ | refine Wr ?_); (try simp only [go_sem, fN, seval, eT, iR, e7, e17, s10, s17, iterOf, dT, dF, nL]); (repeat with_reducible refine Ai ?_); (try (refine hK _ ?_; clear hK K)); try with_reducible refine iC ?_))
  refine ⟨fun hall => ?_, fun j x c hx hj hkv => ?_⟩
  ·have hmp := met_perm hnd hlt hall
   have hl' : seen.length = l.length := by rw [← hmt]; exact hmp.length_eq
   refine hK _ ?_
   clear hK K
   refine Wb ?_
   refine Wa ?_
   with_reducible refine Wp ?_
   simp only [go_sem, fN, seval, true_implies, false_implies, implies_true, dT, dF, nL]
   (try with_reducible refine iC ?_)
   repeat' (with_reducible first | refine Wb ?_ | refine Wc ?_ | refine Wd ?_ | refine We ?_ | refine Wg ?_ | refine Wh ?_ | refine Wi ?_ | refine Wj ?_ | refine Wk (by decide) ?_ | refine Wl ?_ | refine Wm ?_ | refine Wn ?_)
   refine IWP.mid (fun x => x.env 4 = .one (.row 500 l.length) ∧ x.env 5 = aBool true ∧ x.S 500 = some (rowBd (sortB l))) ?_ ?_
   ·have hs := sort_M (met l seen) (named_perm hmp.symm hnm) (by omega) (up1 500) (up1_le 500) (upS S) (by rw [upS_up, s500]; rfl)
    rw [hmt, hl', sortB_perm_eq hmp hnm] at hs
    rw [hl'] at e7
    repeat' (first | (with_reducible first | refine W ?_ | refine Z0 ?_) | ((with_reducible first | refine Wo (fun K hK => ?_) | refine Wq ?_ | refine Wr ?_); (try simp only [go_sem, fN, seval, eT, iR, e7]); (repeat with_reducible refine Ai ?_); (try (refine hK _ ?_; clear hK K))))
    refine ⟨_, _, hs, ?_⟩
    repeat' (first | (with_reducible first | refine W ?_ | refine Z0 ?_) | ((with_reducible first | refine Wo (fun K hK => ?_) | refine Wq ?_ | refine Wr ?_); (try simp only [go_sem, fN, seval, eT, iR, e7]); (repeat with_reducible refine Ai ?_); (try (refine hK _ ?_; clear hK K))))
    refine ⟨rfl, ?_⟩
    simp only [go_sem, fN, seval, eT, iR]
   rintro ⟨env, S⟩ ⟨e4, e5, s500⟩
   simp only at e4 e5 s500
   refine IWP.ghost (Ghost.share (id := 500) s500) ?_
   repeat' (first | (with_reducible first | refine W ?_ | refine Z0 ?_) | ((with_reducible first | refine Wo (fun K hK => ?_) | refine Wq ?_ | refine Wr ?_); (try simp only [go_sem, fN, seval, eT, iR]); (repeat with_reducible refine Ai ?_); (try (refine hK _ ?_; clear hK K))))
   simp only [go_sem, fN, seval, FinQ, AS.result, resAll, resOne, tupV, e4, e5, sortB_length]
  ·rw [Option.map_eq_some_iff] at hx
   obtain ⟨b, hb, rfl⟩ := hx
   have hbz := hms b (mem_of_get hb)
   have hjl : j < l.length := by
    rcases Nat.lt_or_ge j l.length with h | h
    ·exact h
    ·rw [List.getElem?_eq_none h] at hb; cases hb
   have hcv : c = .str b.1 := by
    have : some (SV.str b.1) = some c := hkv
    cases this
    rfl
   subst hcv
   have hnd' : (seen ++ [j]).Nodup := by
    rw [List.nodup_append]
    exact ⟨hnd, by simp, fun a ha b hb e => hj (by rw [List.mem_singleton.1 hb] at e; rw [← e]; exact ha)⟩
   have hlt' : ∀ i ∈ seen ++ [j], i < l.length := fun i hi => by
    rcases List.mem_append.1 hi with h | h
    ·exact hlt i h
    ·rw [List.mem_singleton.1 h]; exact hjl
   have hsl' := seen_len hnd' hlt'
   rw [List.length_append, List.length_singleton] at hsl'
   refine hK _ ?_
   clear hK K
   refine Wb ?_
   repeat' (first | (with_reducible first | refine W ?_ | refine Z0 ?_) | refine Cg _ (copy_a b.2 (by omega)) ?_ | ((with_reducible first | refine Wo (fun K hK => ?_) | refine Wp ?_ | refine Wq ?_ | refine Wr ?_); (try simp only [go_sem, fN, seval, eT, iR, e7, e17, s10, s17, s500, s9, iterOf, List.getLast?_concat, hb, entB, KV.sv, hmt, encB, dT, dF, nL]); (repeat with_reducible refine Ai ?_); (try (refine hK _ ?_; clear hK K)); try with_reducible refine iC ?_))
   refine then_normal ⟨l.length - (seen.length + 1), by omega, seen ++ [j], hnd', hlt', by rw [List.length_append, List.length_singleton], ?_⟩
   rw [met_snoc hb]
   simp only [go_sem, fN, seval, AS.drop, dropS, AC.clears, AC.clear, AC.highs, AC.high, Bool.not_false, Bool.true_and, Bool.and_self, AV.purge, AV.purges, AC.purge, ABlk.purge, List.contains_cons, List.contains_nil, Nat.reduceBEq, Bool.or_self, Bool.or_false, Bool.false_or, Bool.or_true, eT, iR, e7, e17, s10, s500]
   show ABlk.mrow _ _ ((met l seen).map encB ++ [encB b]) = rowBd _
   rw [rowBd, List.map_append]
   rfl

theorem Ghost.ownCellA {C : Ctx} {s : AS} {id r : Nat} {e e' : TypeId} {cs : List AC} (j wd : Nat) (hS : s.S id = some (.box e cs)) (hj : cs[j]? = some (.full [])) (hr : s.S r = none) (hne : id ≠ r) :
  Ghost C s ((s.set r (.arow e' wd [])).set id (.box e (cs.set j (.row r 0)))) := fun a w ⟨σ, ι, R⟩ => by
 have hb := R.blk _ _ hS
 cases hb with
 | @box _ _ g vs k1 k2 k3 k4 k5 =>
  obtain ⟨v, hv, hvr⟩ := k4.get hj
  cases hvr with
  | @full p len xs hs =>
   have hl : len = 0 := by
    obtain ⟨p', cap', e1, _⟩ := srep_slice hs
    cases e1
    rfl
   subst hl
   obtain ⟨hu, R'⟩ := R.fresh (w' := w) hr (.arow e' wd []) ⟨p, 0, none⟩ (Ext.refl _ _) R.fit (Below.refl _ _) (by simp) (fun S' ι' hu => .afull rfl rfl (by simp) hs)
   have hS' : (s.set r (.arow e' wd [])).S id = some (.box e cs) := by simp [AS.set, updE_ne _ hne, hS]
   have hι : updE ι r ⟨p, 0, none⟩ id = ι id := updE_ne _ hne _
   obtain ⟨hu2, R2⟩ := R'.turn (w' := w) hS' (.box e (cs.set j (.row r 0))) (updE ι r ⟨p, 0, none⟩ id) (σ' := σ) (fun _ _ h => h) (fun _ _ _ => rfl) R.fit (by simp [ABlk.len]) (fun _ => ⟨rfl, rfl⟩) ⟨rfl, rfl, rfl⟩ (Nat.le_refl _) (fun _ _ _ => rfl) (fun g h => .inl h)
    (fun hu2 => by
     rw [hι] at hu2 ⊢
     refine .box k1 k2 k3 (All2.of_get (by rw [List.length_set]; exact k4.len) fun q u c hu3 hc => ?_) k5
     by_cases e2 : q = j
     ·subst e2
      rw [hv] at hu3
      cases hu3
      rw [List.getElem?_set_self (List.getElem?_eq_some_iff.1 hj).1] at hc
      cases hc
      refine .row (b := .arow e' wd []) (by simp [AS.set, updE, Ne.symm hne]) (Nat.le_refl _) rfl fun _ => ?_
      simp [updE, Ne.symm hne]
     ·rw [List.getElem?_set_ne (fun e => e2 e.symm)] at hc
      obtain ⟨u', hu', hr'⟩ := k4.get hc
      rw [hu3] at hu'
      cases hu'
      exact (hr'.mono (fun _ _ h => h) hu).mono (fun _ _ h => h) hu2)
   exact ⟨σ, _, R2⟩
theorem acallsS_full {P : Program} {f : FuncId} {x y : AV} {S : AStore} {r : AV} {S' : AStore} {xs : List (List SV)} (h : ACallsS P f [x, y, .one (.st (.list xs))] S r S') : ACallsS P f [x, y, .one (.full xs)] S r S' := by
 intro hc σ w vs ι hg hf ho hv
 refine h hc σ w vs ι hg hf ho ?_
 cases hv with
 | cons h1 hv =>
 cases hv with
 | cons h2 hv =>
 cases hv with
 | cons h3 hv =>
 cases hv
 exact .cons h1 (.cons h2 (.cons (.one (.st (arep_full (vrep_one h3)))) .nil))
def tNames (n : Nat) : List ByteArray := fS :: (List.range (n + 1)).map (lName 84)
theorem inT_names {n : Nat} {t : Tm} (h : inT n t) : ∀ y, occ y t = true → y ∈ tNames n := fun y hy => by
 rcases h.2 y hy with rfl | ⟨k, k1, k2, rfl⟩
 ·exact List.mem_cons_self
 ·exact List.mem_cons_of_mem _ (List.mem_map.2 ⟨k, List.mem_range.2 (by omega), rfl⟩)
theorem fits_long (v : Nat) (hv : v ≤ 5000) (s : List Bd) : ∀ (l : List Pr), l.length ≤ 1000000 → Fits 100000000000 v s l
 | [], _ => trivial
 | p :: l, h => by
  rw [List.length_cons] at h
  have := Nat.min_le_right (p.1.on s).size 2000
  exact ⟨by omega, fits_long v hv s l (by omega)⟩
theorem good_eqs {K : Nat} (hK : K ≤ 2000) {m : List Pr × Nat} (hm : TyOk K m) (hn : m.2 ≤ 2000) (hl : m.1.length ≤ 2000) : UGood (tNames m.2) 100000000000 [] m.1 := by
 refine ⟨List.Pairwise.nil, by simp, by simp, by simp, by simp, by simp, by simp, fun p hp => ⟨(hm.eqs p hp).1.1.1.chk, (hm.eqs p hp).2.1.1.chk⟩, fun p hp y => ⟨inT_names (hm.eqs p hp).1.1 y, inT_names (hm.eqs p hp).2.1 y⟩, fun p hp => ?_, fits_long _ (by simp [tNames]; omega) [] m.1 (by omega)⟩
 have := hm.eqs p hp
 omega

structure RelE (env : Nat → Option BT) (hv kn : List (List SV)) : Prop where
 hl : hv.length = 2001
 kl : kn.length = 2001
 hw : ∀ x ∈ hv, x.length = 2
 kn : ∀ i, i < 2001 → kn[i]? = some [.bool (env i).isSome]
 hv : ∀ i b, i < 2001 → env i = some b → hv[i]? = some (encY b.ty)
abbrev tyT : TypeId := 27
abbrev boT : TypeId := 4
def csS (S : AStore) (h k : Nat) (hv kn : List (List SV)) : AStore := updE (updE S h (some (.mrow tyT 2 hv))) k (some (.mrow boT 1 kn))
def CaseC (p t : BT) (b : Bool) (hv kn hv' kn' : List (List SV)) : Prop :=
 ∀ (h k : Nat) (S : AStore), 1000 ≤ h → 1000 ≤ k → h ≠ k → S h = some (.mrow tyT 2 hv) → S k = some (.mrow boT 1 kn) →
  ACallsS Tryz.prog 29 [aTy p.ty, aTy t.ty, .one (.row h 2001), .one (.row k 2001)] S (aBool b) (csS S h k hv' kn')
theorem csS_end {C : Ctx} {rs : List RV} {r : AV} {e : AX} {s : AS} {S : AStore} {h k : Nat} {hv kn : List (List SV)} (rv : AV) (hS : Clean S) (hh : 1000 ≤ h) (hk : 1000 ≤ k) (hne : h ≠ k) (he : match e with | .normal => True | .ret => True | _ => False)
  (h1 : (resAll s rs).map tupV = some rv) (h2 : outV s.S rv = some r) (h3 : s.S h = some (.mrow tyT 2 hv)) (h3' : s.S k = some (.mrow boT 1 kn)) (h4 : ∀ i, 1000 ≤ i → i ≠ h → i ≠ k → s.S i = S i) : FinS C rs r (csS S h k hv kn) e s :=
 finS_two rv hS hh hk (fun e => hne e.symm) rfl rfl he h1 h2 h3 h3' h4
set_option maxHeartbeats 8000000 in
theorem typeCase_S (p : BT) (hp : p.low 2001) : ∀ (t : BT) {env : Nat → Option BT} {hv kn : List (List SV)}, RelE env hv kn → ∃ hv' kn', (∀ e, p.cs t env = some e → RelE e hv' kn') ∧ hv'.length = 2001 ∧ kn'.length = 2001 ∧ CaseC p t (p.cs t env).isSome hv kn hv' kn' := by
 induction p with
 | b n =>
  intro t env hv kn R
  have hp : n < 2001 := hp
  have hkn := R.kn n hp
  have hvl := R.hl
  have knl := R.kl
  obtain ⟨x0, hx0⟩ := get_lt (show n < hv.length by omega)
  obtain ⟨u0, v0, rfl⟩ := list_two (R.hw x0 (mem_of_get hx0))
  rw [BT.cs]
  cases he : env n with
  | some x =>
   rw [he] at hkn
   have hxv := R.hv n x hp he
   rw [hx0] at hxv
   simp only [encY_eq, Option.some.injEq, List.cons.injEq, and_true] at hxv
   obtain ⟨rfl, rfl⟩ := hxv
   refine ⟨hv, kn, fun e hh => ?_, hvl, knl, ?_⟩
   ·simp only at hh
    split at hh
    ·cases hh; exact R
    ·cases hh
   ·intro h k S hh hk hne hSh hSk
    have hne2 : ¬ k = h := fun e => hne e.symm
    have h4 : ¬ h = 4 := by omega
    have h5 : ¬ h = 5 := by omega
    have k4 : ¬ k = 4 := by omega
    have k5 : ¬ k = 5 := by omega
    refine ok_R_TypeCase.acS fun hS C hC => ?_
    have s4 : S 4 = none := clean_none hS (by omega)
    have s5 : S 5 = none := clean_none hS (by omega)
    have hn2 : n < kn.length := by omega
    have hn3 : n < hv.length := by omega
    unfold ir_R_TypeCase
    repeat' (first | (with_reducible first | refine W ?_ | refine Z0 ?_) | refine Cg _ (sameTy_a x t) ?_ | ((with_reducible first | refine Wo (fun K hK => ?_) | refine Wp ?_ | refine Wq ?_ | refine Wr ?_); (try simp only [go_sem, fN, seval, eT, iR, s4, s5, h4, h5, k4, k5, hSh, hSk, hkn, hvl, knl, hx0, hp, Option.isSome_some, Option.isSome_none, dT, dF, nL]); (repeat with_reducible refine Ai ?_); (try (refine hK _ ?_; clear hK K)); try with_reducible refine iC ?_))
    refine csS_end (aBool (decide (x = t))) hS hh hk hne trivial ?_ ?_ ?_ ?_ fun i hi i1 i2 => ?_
    ·simp only [go_sem, fN, seval, eT, iR, resAll, resOne, tupV]
    ·simp only [go_sem, fN, seval, eT, iR]
     by_cases hxt : x = t <;> simp [hxt]
    ·simp only [go_sem, fN, seval, eT, iR, h4, h5, hSh]
    ·simp only [go_sem, fN, seval, eT, iR, k4, k5, hSk]
    ·have i4 : ¬ i = 4 := by omega
     have i5 : ¬ i = 5 := by omega
     simp only [go_sem, fN, seval, eT, iR, i4, i5]
  | none =>
   rw [he] at hkn
   refine ⟨hv.set n (encY t.ty), kn.set n [.bool true], fun e hh => ?_, by rw [List.length_set]; exact hvl, by rw [List.length_set]; exact knl, ?_⟩
   ·simp only [Option.some.injEq] at hh
    subst hh
    refine ⟨by rw [List.length_set]; exact hvl, by rw [List.length_set]; exact knl, fun x hx => ?_, fun i hi => ?_, fun i b hi hb => ?_⟩
    ·rcases List.mem_or_eq_of_mem_set hx with hx | rfl
     ·exact R.hw x hx
     ·rw [encY_eq]; rfl
    ·by_cases e : i = n
     ·subst e
      rw [List.getElem?_set_self (by omega), if_pos rfl]
      rfl
     ·rw [List.getElem?_set_ne (fun e' => e e'.symm), if_neg e, R.kn i hi]
    ·by_cases e : i = n
     ·subst e
      rw [if_pos rfl] at hb
      cases hb
      rw [List.getElem?_set_self (by omega)]
     ·rw [if_neg e] at hb
      rw [List.getElem?_set_ne (fun e' => e e'.symm), R.hv i b hi hb]
   ·intro h k S hh hk hne hSh hSk
    have hne2 : ¬ k = h := fun e => hne e.symm
    have h4 : ¬ h = 4 := by omega
    have h5 : ¬ h = 5 := by omega
    have k4 : ¬ k = 4 := by omega
    have k5 : ¬ k = 5 := by omega
    have q4 : ¬ 4 = h := by omega
    have q5 : ¬ 5 = h := by omega
    have p4 : ¬ 4 = k := by omega
    have p5 : ¬ 5 = k := by omega
    refine ok_R_TypeCase.acS fun hS C hC => ?_
    have s4 : S 4 = none := clean_none hS (by omega)
    have s5 : S 5 = none := clean_none hS (by omega)
    unfold ir_R_TypeCase
    repeat' (first | (with_reducible first | refine W ?_ | refine Z0 ?_) | ((with_reducible first | refine Wo (fun K hK => ?_) | refine Wp ?_ | refine Wq ?_ | refine Wr ?_); (try simp only [go_sem, fN, seval, eT, iR, s4, s5, h4, h5, k4, k5, q4, q5, p4, p5, hne, hne2, hSh, hSk, hkn, hvl, knl, hx0, hp, Option.isSome_some, Option.isSome_none, List.length_set, dT, dF, nL]); (repeat with_reducible refine Ai ?_); (try (refine hK _ ?_; clear hK K)); try with_reducible refine iC ?_))
    refine csS_end (aBool true) hS hh hk hne trivial ?_ ?_ ?_ ?_ fun i hi i1 i2 => ?_
    ·simp only [go_sem, fN, seval, eT, iR, resAll, resOne, tupV]
    ·simp only [go_sem, fN, seval, eT, iR]
     try rfl
    ·simp only [go_sem, fN, seval, eT, iR, h4, h5, hne, hSh]
    ·simp only [go_sem, fN, seval, eT, iR, k4, k5, hne2, hSk]
    ·have i4 : ¬ i = 4 := by omega
     have i5 : ¬ i = 5 := by omega
     simp only [go_sem, fN, seval, eT, iR, i1, i2, i4, i5]
 | a x y ix iy =>
  intro t env hv kn R
  have hvl := R.hl
  have knl := R.kl
  cases t with
  | b n =>
   rw [BT.cs]
   refine ⟨hv, kn, fun e hh => (by cases hh), hvl, knl, ?_⟩
   intro h k S hh hk hne hSh hSk
   have h4 : ¬ h = 4 := by omega
   have h5 : ¬ h = 5 := by omega
   have k4 : ¬ k = 4 := by omega
   have k5 : ¬ k = 5 := by omega
   refine ok_R_TypeCase.acS fun hS C hC => ?_
   have s4 : S 4 = none := clean_none hS (by omega)
   have s5 : S 5 = none := clean_none hS (by omega)
   unfold ir_R_TypeCase
   repeat' (first | (with_reducible first | refine W ?_ | refine Z0 ?_) | ((with_reducible first | refine Wo (fun K hK => ?_) | refine Wp ?_ | refine Wq ?_ | refine Wr ?_); (try simp only [go_sem, fN, seval, eT, iR, s4, s5, h4, h5, k4, k5, hSh, hSk, dT, dF, nL]); (repeat with_reducible refine Ai ?_); (try (refine hK _ ?_; clear hK K)); try with_reducible refine iC ?_))
   refine csS_end (aBool false) hS hh hk hne trivial ?_ ?_ ?_ ?_ fun i hi i1 i2 => ?_
   ·simp only [go_sem, fN, seval, eT, iR, resAll, resOne, tupV]
   ·simp only [go_sem, fN, seval, eT, iR]
    try rfl
   ·simp only [go_sem, fN, seval, eT, iR, h4, h5, hSh]
   ·simp only [go_sem, fN, seval, eT, iR, k4, k5, hSk]
   ·have i4 : ¬ i = 4 := by omega
    have i5 : ¬ i = 5 := by omega
    simp only [go_sem, fN, seval, eT, iR, i4, i5]
  | a u v =>
   obtain ⟨hv1, kn1, r1, l1, m1, c1⟩ := ix hp.1 u R
   cases hc : x.cs u env with
   | none =>
    rw [hc] at c1
    rw [BT.cs, hc]
    refine ⟨hv1, kn1, fun e hh => (by cases hh), l1, m1, ?_⟩
    intro h k S hh hk hne hSh hSk
    have hne2 : ¬ k = h := fun e => hne e.symm
    have h4 : ¬ h = 4 := by omega
    have h5 : ¬ h = 5 := by omega
    have k4 : ¬ k = 4 := by omega
    have k5 : ¬ k = 5 := by omega
    have q4 : ¬ 4 = h := by omega
    have q5 : ¬ 5 = h := by omega
    have p4 : ¬ 4 = k := by omega
    have p5 : ¬ 5 = k := by omega
    refine ok_R_TypeCase.acS fun hS C hC => ?_
    have s4 : S 4 = none := clean_none hS (by omega)
    have s5 : S 5 = none := clean_none hS (by omega)
    unfold ir_R_TypeCase
    repeat' (first | (with_reducible first | refine W ?_ | refine Z0 ?_) | ((with_reducible first | refine Wo (fun K hK => ?_) | refine Wp ?_ | refine Wq ?_ | refine Wr ?_); (try simp only [go_sem, fN, seval, eT, iR, s4, s5, h4, h5, k4, k5, hSh, hSk, dT, dF, nL]); (repeat with_reducible refine Ai ?_); (try (refine hK _ ?_; clear hK K)); try with_reducible refine iC ?_))
    refine ⟨_, _, c1 (up1 h) (up1 k) _ (up1_le _) (up1_le _) (fun e => hne (Nat.add_right_cancel e)) (by rw [upS_up]; (simp only [go_sem, fN, seval, eT, iR, h4, h5, hSh]; try rfl)) (by rw [upS_up]; (simp only [go_sem, fN, seval, eT, iR, k4, k5, hSk]; try rfl)), ?_⟩
    repeat' (first | (with_reducible first | refine W ?_ | refine Z0 ?_) | ((with_reducible first | refine Wo (fun K hK => ?_) | refine Wp ?_ | refine Wq ?_ | refine Wr ?_); (try simp only [go_sem, fN, seval, eT, iR, csS, s4, s5, h4, h5, k4, k5, q4, q5, p4, p5, hne, hne2, Option.isSome_none, dT, dF, nL]); (repeat with_reducible refine Ai ?_); (try (refine hK _ ?_; clear hK K)); try with_reducible refine iC ?_))
    refine csS_end (aBool false) hS hh hk hne trivial ?_ ?_ ?_ ?_ fun i hi i1 i2 => ?_
    ·simp only [go_sem, fN, seval, eT, iR, resAll, resOne, tupV]
    ·simp only [go_sem, fN, seval, eT, iR]
     try rfl
    ·simp only [go_sem, fN, seval, eT, iR, h4, h5, hne]
    ·simp only [go_sem, fN, seval, eT, iR, k4, k5, hne2]
    ·have i4 : ¬ i = 4 := by omega
     have i5 : ¬ i = 5 := by omega
     simp only [go_sem, fN, seval, eT, iR, i1, i2, i4, i5]
   | some e1 =>
    rw [hc] at c1
    obtain ⟨hv2, kn2, r2, l2, m2, c2⟩ := iy hp.2 v (r1 e1 hc)
    rw [BT.cs, hc]
    refine ⟨hv2, kn2, r2, l2, m2, ?_⟩
    intro h k S hh hk hne hSh hSk
    have hne2 : ¬ k = h := fun e => hne e.symm
    have h4 : ¬ h = 4 := by omega
    have h5 : ¬ h = 5 := by omega
    have k4 : ¬ k = 4 := by omega
    have k5 : ¬ k = 5 := by omega
    have q4 : ¬ 4 = h := by omega
    have q5 : ¬ 5 = h := by omega
    have p4 : ¬ 4 = k := by omega
    have p5 : ¬ 5 = k := by omega
    refine ok_R_TypeCase.acS fun hS C hC => ?_
    have s4 : S 4 = none := clean_none hS (by omega)
    have s5 : S 5 = none := clean_none hS (by omega)
    unfold ir_R_TypeCase
    repeat' (first | (with_reducible first | refine W ?_ | refine Z0 ?_) | ((with_reducible first | refine Wo (fun K hK => ?_) | refine Wp ?_ | refine Wq ?_ | refine Wr ?_); (try simp only [go_sem, fN, seval, eT, iR, s4, s5, h4, h5, k4, k5, hSh, hSk, dT, dF, nL]); (repeat with_reducible refine Ai ?_); (try (refine hK _ ?_; clear hK K)); try with_reducible refine iC ?_))
    refine ⟨_, _, c1 (up1 h) (up1 k) _ (up1_le _) (up1_le _) (fun e => hne (Nat.add_right_cancel e)) (by rw [upS_up]; (simp only [go_sem, fN, seval, eT, iR, h4, h5, hSh]; try rfl)) (by rw [upS_up]; (simp only [go_sem, fN, seval, eT, iR, k4, k5, hSk]; try rfl)), ?_⟩
    repeat' (first | (with_reducible first | refine W ?_ | refine Z0 ?_) | ((with_reducible first | refine Wo (fun K hK => ?_) | refine Wp ?_ | refine Wq ?_ | refine Wr ?_); (try simp only [go_sem, fN, seval, eT, iR, csS, s4, s5, h4, h5, k4, k5, q4, q5, p4, p5, hne, hne2, Option.isSome_some, dT, dF, nL]); (repeat with_reducible refine Ai ?_); (try (refine hK _ ?_; clear hK K)); try with_reducible refine iC ?_))
    refine ⟨_, _, c2 (up1 h) (up1 k) _ (up1_le _) (up1_le _) (fun e => hne (Nat.add_right_cancel e)) (by rw [upS_up]; (simp only [go_sem, fN, seval, eT, iR, h4, h5, hne]; try rfl)) (by rw [upS_up]; (simp only [go_sem, fN, seval, eT, iR, k4, k5, hne2]; try rfl)), ?_⟩
    repeat' (first | (with_reducible first | refine W ?_ | refine Z0 ?_) | ((with_reducible first | refine Wo (fun K hK => ?_) | refine Wp ?_ | refine Wq ?_ | refine Wr ?_); (try simp only [go_sem, fN, seval, eT, iR, csS, s4, s5, h4, h5, k4, k5, q4, q5, p4, p5, hne, hne2, dT, dF, nL]); (repeat with_reducible refine Ai ?_); (try (refine hK _ ?_; clear hK K)); try with_reducible refine iC ?_))
    refine csS_end (aBool (y.cs v e1).isSome) hS hh hk hne trivial ?_ ?_ ?_ ?_ fun i hi i1 i2 => ?_
    ·simp only [go_sem, fN, seval, eT, iR, resAll, resOne, tupV]
    ·simp only [go_sem, fN, seval, eT, iR]
     try rfl
    ·simp only [go_sem, fN, seval, eT, iR, h4, h5, hne]
    ·simp only [go_sem, fN, seval, eT, iR, k4, k5, hne2]
    ·have i4 : ¬ i = 4 := by omega
     have i5 : ¬ i = 5 := by omega
     simp only [go_sem, fN, seval, eT, iR, i1, i2, i4, i5]
theorem relE_start : RelE (fun _ => none) (List.replicate 2001 [.int .i64 0, .list []]) (List.replicate 2001 [.bool false]) := by
 refine ⟨List.length_replicate, List.length_replicate, fun x hx => ?_, fun i hi => ?_, fun i b hi hb => by cases hb⟩
 ·rw [List.eq_of_mem_replicate hx]; rfl
 ·rw [List.getElem?_replicate, if_pos hi]; rfl
theorem caseOfType_a (p t : BT) (hp : p.low 2001) : ACalls Tryz.prog 12 [aTy p.ty, aTy t.ty] (aBool (isCaseB p t)) := by
 obtain ⟨hv1, kn1, r1, l1, m1, c1⟩ := typeCase_S p hp t relE_start
 refine ok_R_CaseOfType.ac fun C hC => ?_
 unfold ir_R_CaseOfType
 repeat' (first | (with_reducible first | refine W ?_ | refine Z0 ?_) | ((with_reducible first | refine Wo (fun K hK => ?_) | refine Wp ?_ | refine Wq ?_ | refine Wr ?_); (try simp only [go_sem, fN, seval, eT, iR, -List.reduceReplicate, dT, dF, nL]); (repeat with_reducible refine Ai ?_); (try (refine hK _ ?_; clear hK K)); try with_reducible refine iC ?_))
 refine ⟨_, _, c1 (up1 7) (up1 8) _ (up1_le _) (up1_le _) (by decide) (by rw [upS_up]; (simp only [go_sem, fN, seval, eT, iR, -List.reduceReplicate]; try rfl)) (by rw [upS_up]; (simp only [go_sem, fN, seval, eT, iR, -List.reduceReplicate]; try rfl)), ?_⟩
 repeat' (first | (with_reducible first | refine W ?_ | refine Z0 ?_) | ((with_reducible first | refine Wo (fun K hK => ?_) | refine Wp ?_ | refine Wq ?_ | refine Wr ?_); (try simp only [go_sem, fN, seval, eT, iR, -List.reduceReplicate, dT, dF, nL]); (repeat with_reducible refine Ai ?_); (try (refine hK _ ?_; clear hK K)); try with_reducible refine iC ?_))
 simp only [go_sem, fN, seval, FinQ, AS.result, resAll, resOne, tupV, -List.reduceReplicate]
 rfl

end Go.Proofs.YtkjlddlllofenaaGreatDoor
