/-
  Proved: rules that go down make every step go down, and what comes out at last has no step left: the law TopDown returns true. Conditions: none.
-/
import Derived.Test.YtlbpdlnndnfnlaaToD8
import Derived.Test.YtlbpdlnndnfnlaaRows
import Derived.ProofKit
import Derived.OpenShut
import Derived.JoinedCond
import Derived.Deep.Slices
namespace Go.Proofs.Ytlbpdlnndnfnlaa
open Go Go.RowKit
set_option maxRecDepth 100000
def E7 : IR :=
 (.seq (.ops [.i 2 (.mov (.c (.one (.full []))))]) (.seq (.ops [.i 11 (.buildFlat [.c (.one (.st (.str (ByteArray.mk (#[102, 40, 97, 44, 88, 41]))))), .c (.one (.st (.str (ByteArray.mk (#[88]))))), .c (.one (.st (.str (ByteArray.mk (#[102, 40, 104, 40, 88, 41, 44, 89, 41]))))), .c (.one (.st (.str (ByteArray.mk (#[104, 40, 102, 40, 88, 44, 89, 41, 41])))))]), .i 12 (.buildFlat [.c (.one (.st (.str (ByteArray.mk (#[102, 40, 88, 44, 97, 41]))))), .c (.one (.st (.str (ByteArray.mk (#[88]))))), .c (.one (.st (.str (ByteArray.mk (#[102, 40, 88, 44, 104, 40, 89, 41, 41]))))), .c (.one (.st (.str (ByteArray.mk (#[104, 40, 102, 40, 88, 44, 89, 41, 41]))))), .c (.one (.st (.str (ByteArray.mk (#[102, 40, 97, 44, 88, 41]))))), .c (.one (.st (.str (ByteArray.mk (#[88])))))]), .i 13 (.buildFlat [.c (.one (.st (.str (ByteArray.mk (#[102, 40, 102, 40, 88, 44, 89, 41, 44, 90, 41]))))), .c (.one (.st (.str (ByteArray.mk (#[102, 40, 88, 44, 102, 40, 89, 44, 90, 41, 41])))))]), .i 14 (.buildFlat [.c (.one (.st (.str (ByteArray.mk (#[107, 40, 107, 40, 88, 41, 41]))))), .c (.one (.st (.str (ByteArray.mk (#[88]))))), .c (.one (.st (.str (ByteArray.mk (#[107, 40, 97, 41]))))), .c (.one (.st (.str (ByteArray.mk (#[97]))))), .c (.one (.st (.str (ByteArray.mk (#[107, 40, 102, 40, 88, 44, 89, 41, 41]))))), .c (.one (.st (.str (ByteArray.mk (#[102, 40, 107, 40, 89, 41, 44, 107, 40, 88, 41, 41])))))]), .i 15 (.buildFlat [.c (.one (.st (.str (ByteArray.mk (#[102, 40, 88, 44, 88, 41]))))), .c (.one (.st (.str (ByteArray.mk (#[88])))))]), .i 16 (.buildFlat [.c (.one (.st (.str (ByteArray.mk (#[104, 40, 107, 40, 88, 41, 41]))))), .c (.one (.st (.str (ByteArray.mk (#[107, 40, 104, 40, 88, 41, 41]))))), .c (.one (.st (.str (ByteArray.mk (#[104, 40, 104, 40, 88, 41, 41]))))), .c (.one (.st (.str (ByteArray.mk (#[104, 40, 88, 41])))))]), .i 17 (.buildFlat [.c (.one (.st (.str (ByteArray.mk (#[102, 40, 97, 44, 98, 41]))))), .c (.one (.st (.str (ByteArray.mk (#[99]))))), .c (.one (.st (.str (ByteArray.mk (#[97]))))), .c (.one (.st (.str (ByteArray.mk (#[98])))))]), .i 18 (.buildFlat [.c (.one (.st (.str (ByteArray.mk (#[103, 40, 88, 44, 89, 41]))))), .c (.one (.st (.str (ByteArray.mk (#[102, 40, 89, 44, 88, 41])))))]), .i 19 (.buildFlat [.c (.one (.st (.str (ByteArray.mk (#[104, 40, 97, 41]))))), .c (.one (.st (.str (ByteArray.mk (#[98]))))), .c (.one (.st (.str (ByteArray.mk (#[104, 40, 97, 41]))))), .c (.one (.st (.str (ByteArray.mk (#[99])))))]), .i 20 (.buildFlat [.c (.one (.st (.str (ByteArray.mk (#[102, 40, 88, 44, 103, 40, 89, 44, 90, 41, 41]))))), .c (.one (.st (.str (ByteArray.mk (#[103, 40, 102, 40, 88, 44, 89, 41, 44, 102, 40, 88, 44, 90, 41, 41])))))]), .i 21 (.buildSlice false 38 1 [.t 11, .t 12, .t 13, .t 14, .t 15, .t 16, .t 17, .t 18, .t 19, .t 20]), .m 3 21]) (.seq (.ops [.m 22 3, .m 23 0, .m 24 3, .i 25 (.len false (.t 24)), .i 26 (.call 6 [.t 23, .t 25]), .i 27 (.indexAddr 1 (.t 22) (.t 26)), .l 28 27, .m 4 28]) (.seq (.ops [.i 5 (.mov (.c (.one (.full []))))]) (.seq (.seq (.ops [.i 6 (.mov (.n 0))]) (.block 0 (.loop (.seq (.seq (.ops [.m 29 6, .i 30 (.bin .add (.t 29) (.n 1)), .m 31 4, .i 32 (.len false (.t 31)), .i 33 (.bin .lss (.t 30) (.t 32))]) (.cond (.t 33) .skip (.exit 0))) (.seq (.block 1 (.seq (.ops [.m 37 4, .m 38 6, .i 39 (.indexAddr 1 (.t 37) (.t 38)), .l 40 39, .i 41 (.call 15 [.t 40]), .m 36 41, .i 42 (.extract 0 (.t 36)), .i 43 (.extract 1 (.t 36)), .i 7 (.alloc 27 [.st (.str (ByteArray.mk (#[]))), .full []]), .s 2 7 42, .m 8 43]) (.seq (.ops [.m 45 4, .m 46 6, .i 47 (.bin .add (.t 46) (.n 1)), .i 48 (.indexAddr 1 (.t 45) (.t 47)), .l 49 48, .i 50 (.call 15 [.t 49]), .m 44 50, .i 51 (.extract 0 (.t 44)), .i 52 (.extract 1 (.t 44)), .i 9 (.alloc 27 [.st (.str (ByteArray.mk (#[]))), .full []]), .s 2 9 51, .m 10 52]) (.ops [.m 53 5, .L 54 2 7, .L 55 2 9, .i 56 (.build [.st (.str (ByteArray.mk (#[]))), .full [], .st (.str (ByteArray.mk (#[]))), .full []] [(0, 2, .t 54), (2, 2, .t 55)]), .i 57 (.buildSlice false 48 4 [.t 56]), .i 58 (.append false 48 4 80 (.t 53) (.t 57)), .m 5 58])))) (.ops [.m 34 6, .i 35 (.bin .add (.t 34) (.n 2)), .m 6 35])))))) (.seq (.ops [.m 59 5, .m 2 59]) .ret))))))
theorem Il : OkF Try.prog 4 60 [] E7 [.t 2] := .of Try.func4 rfl rfl (by kernel_rfl) rfl

def K6 : IR :=
 (.seq (.ops [.i 4 (.mov (.n 0))]) (.seq (.seq (.ops [.m 5 0, .i 6 (.bin .lss (.t 5) (.n 0))]) (.cond (.t 6) (.ops [.m 7 0, .i 8 (.bin .add (.t 7) (.n 1)), .i 9 (.un .neg (.t 8)), .m 0 9]) .skip)) (.seq (.ops [.m 10 0, .m 11 1, .i 12 (.bin .rem (.t 10) (.t 11)), .m 4 12]) .ret)))
theorem QF : OkF Try.prog 6 13 [] K6 [.t 4] := .of Try.func6 rfl rfl (by kernel_rfl) rfl
def Mj : IR :=
 (.seq (.ops [.i 4 (.mov (.n 0))]) (.seq (.seq (.ops [.m 5 0, .i 6 (.len false (.t 5)), .i 7 (.bin .eql (.t 6) (.n 0))]) (.cond (.t 7) (.seq (.ops [.m 8 1, .i 9 (.bin .mul (.t 8) (.n 31)), .m 4 9]) .ret) .skip)) (.seq (.ops [.m 10 0, .m 11 1, .m 12 0, .i 13 (.len false (.t 12)), .i 14 (.bin .rem (.t 11) (.t 13)), .i 15 (.indexAddr 1 (.t 10) (.t 14)), .l 16 15, .i 17 (.call 6 [.t 16, .n 1000003]), .m 18 1, .m 19 0, .i 20 (.len false (.t 19)), .i 21 (.bin .quo (.t 18) (.t 20)), .i 22 (.bin .mul (.t 21) (.n 7919)), .i 23 (.bin .add (.t 17) (.t 22)), .m 4 23]) .ret)))
theorem QX : OkF Try.prog 24 24 [] Mj [.t 4] := .of Try.func24 rfl rfl (by kernel_rfl) rfl
def LA : IR :=
 (.seq (.ops [.i 2 (.alloc 27 [.st (.str (ByteArray.mk (#[]))), .full []])]) (.seq (.ops [.m 3 0, .i 4 (.build [.st (.str (ByteArray.mk (#[]))), .full []] [(0, 1, .t 3)]), .s 2 2 4]) .ret))
theorem Pv : OkF Try.prog 10 5 [] LA [.cell 2 true 2] := .of Try.func10 rfl rfl (by kernel_rfl) rfl
def DC : IR :=
 (.seq (.ops [.i 8 (.alloc 27 [.st (.str (ByteArray.mk (#[]))), .full []]), .i 9 (.mov (.n 0))]) (.seq (.ops [.m 18 0, .m 19 1, .i 20 (.call 24 [.t 18, .t 19]), .m 10 20]) (.seq (.ops [.m 21 1, .i 22 (.bin .add (.t 21) (.n 1)), .m 1 22]) (.seq (.seq (.ops [.m 23 2, .i 24 (.bin .lss (.t 23) (.n 3)), .m 25 24, .mk (some 26) (some (25, false)) (.mov (.t 10)) .no, .mk (some 27) (some (25, false)) (.call 6 [.t 26, .n 5]) .no, .mk (some 28) (some (25, false)) (.bin .lss (.t 27) (.n 2)) .no, .i 29 (.pick (.t 25) (.c (.one (.st (.bool true)))) (.t 28))]) (.cond (.t 29) (.seq (.seq (.ops [.m 30 3, .i 31 (.bin .gtr (.t 30) (.n 0)), .m 32 31, .mk (some 33) (some (32, true)) (.mov (.t 10)) .no, .mk (some 34) (some (32, true)) (.bin .quo (.t 33) (.n 5)) .no, .mk (some 35) (some (32, true)) (.call 6 [.t 34, .n 3]) .no, .mk (some 36) (some (32, true)) (.bin .gtr (.t 35) (.n 0)) .no, .i 37 (.pick (.t 32) (.t 36) (.c (.one (.st (.bool false)))))]) (.cond (.t 37) (.seq (.ops [.i 38 (.buildFlat [.c (.one (.st (.str (ByteArray.mk (#[88]))))), .c (.one (.st (.str (ByteArray.mk (#[89]))))), .c (.one (.st (.str (ByteArray.mk (#[90]))))), .c (.one (.st (.str (ByteArray.mk (#[85])))))]), .m 39 10, .i 40 (.bin .quo (.t 39) (.n 15)), .m 41 3, .i 42 (.call 6 [.t 40, .t 41]), .i 43 (.indexAddr 1 (.t 38) (.t 42)), .l 44 43, .i 45 (.call 10 [.t 44]), .m 46 1, .s 2 8 45, .m 9 46]) .ret) .skip)) (.seq (.ops [.i 47 (.buildFlat [.c (.one (.st (.str (ByteArray.mk (#[97]))))), .c (.one (.st (.str (ByteArray.mk (#[98]))))), .c (.one (.st (.str (ByteArray.mk (#[99])))))]), .m 48 10, .i 49 (.bin .quo (.t 48) (.n 15)), .i 50 (.call 6 [.t 49, .n 3]), .i 51 (.indexAddr 1 (.t 47) (.t 50)), .l 52 51, .i 53 (.call 10 [.t 52]), .m 54 1, .s 2 8 53, .m 9 54]) .ret)) .skip)) (.seq (.seq (.ops [.m 55 10, .i 56 (.bin .quo (.t 55) (.n 5)), .i 57 (.call 6 [.t 56, .n 4])]) (.block 0 (.seq (.ops [.i 59 (.bin .eql (.t 57) (.n 0)), .m 58 59]) (.cond (.t 58) (.seq (.ops [.m 61 0, .m 62 1, .m 63 2, .i 64 (.bin .sub (.t 63) (.n 1)), .m 65 3, .i 66 (.call 16 [.t 61, .t 62, .t 64, .t 65]), .m 60 66, .i 67 (.extract 0 (.t 60)), .i 68 (.extract 1 (.t 60)), .i 11 (.alloc 27 [.st (.str (ByteArray.mk (#[]))), .full []]), .s 2 11 67, .m 12 68]) (.seq (.ops [.L 69 2 11, .i 70 (.buildSlice false 27 2 [.t 69]), .i 71 (.build [.st (.str (ByteArray.mk (#[]))), .full []] [(0, 1, .c (.one (.st (.str (ByteArray.mk (#[104])))))), (1, 1, .t 70)]), .m 72 12, .s 2 8 71, .m 9 72]) .ret)) (.seq (.ops [.i 74 (.bin .eql (.t 57) (.n 1)), .m 73 74]) (.cond (.t 73) (.seq (.ops [.m 76 0, .m 77 1, .m 78 2, .i 79 (.bin .sub (.t 78) (.n 1)), .m 80 3, .i 81 (.call 16 [.t 76, .t 77, .t 79, .t 80]), .m 75 81, .i 82 (.extract 0 (.t 75)), .i 83 (.extract 1 (.t 75)), .i 13 (.alloc 27 [.st (.str (ByteArray.mk (#[]))), .full []]), .s 2 13 82, .m 14 83]) (.seq (.ops [.L 84 2 13, .i 85 (.buildSlice false 27 2 [.t 84]), .i 86 (.build [.st (.str (ByteArray.mk (#[]))), .full []] [(0, 1, .c (.one (.st (.str (ByteArray.mk (#[107])))))), (1, 1, .t 85)]), .m 87 14, .s 2 8 86, .m 9 87]) .ret)) .skip)))))) (.seq (.ops [.m 89 0, .m 90 1, .m 91 2, .i 92 (.bin .quo (.t 91) (.n 2)), .m 93 3, .i 94 (.call 16 [.t 89, .t 90, .t 92, .t 93]), .m 88 94, .i 95 (.extract 0 (.t 88)), .i 96 (.extract 1 (.t 88)), .i 15 (.alloc 27 [.st (.str (ByteArray.mk (#[]))), .full []]), .s 2 15 95, .m 16 96]) (.seq (.ops [.m 98 0, .m 99 16, .m 100 2, .i 101 (.bin .quo (.t 100) (.n 2)), .m 102 3, .i 103 (.call 16 [.t 98, .t 99, .t 101, .t 102]), .m 97 103, .i 104 (.extract 0 (.t 97)), .i 105 (.extract 1 (.t 97)), .i 17 (.alloc 27 [.st (.str (ByteArray.mk (#[]))), .full []]), .s 2 17 104, .m 16 105]) (.seq (.ops [.i 106 (.buildFlat [.c (.one (.st (.str (ByteArray.mk (#[102]))))), .c (.one (.st (.str (ByteArray.mk (#[103])))))]), .m 107 10, .i 108 (.bin .quo (.t 107) (.n 5)), .i 109 (.call 6 [.t 108, .n 4]), .i 110 (.bin .sub (.t 109) (.n 2)), .i 111 (.indexAddr 1 (.t 106) (.t 110)), .l 112 111, .L 113 2 15, .L 114 2 17, .i 115 (.buildSlice false 27 2 [.t 113, .t 114]), .i 116 (.build [.st (.str (ByteArray.mk (#[]))), .full []] [(0, 1, .t 112), (1, 1, .t 115)]), .m 117 16, .s 2 8 116, .m 9 117]) .ret))))))))
theorem EB : OkF Try.prog 16 118 [] DC [.cell 8 true 2, .t 9] := .of Try.func16 rfl rfl (by kernel_rfl) rfl
def Hp : IR :=
 (.seq (.ops [.i 8 (.alloc 27 [.st (.str (ByteArray.mk (#[]))), .full []])]) (.seq (.ops [.m 12 0, .m 13 1, .m 14 2, .m 15 3, .i 16 (.call 16 [.t 12, .t 13, .t 14, .t 15]), .m 11 16, .i 17 (.extract 0 (.t 11)), .i 18 (.extract 1 (.t 11)), .i 9 (.alloc 27 [.st (.str (ByteArray.mk (#[]))), .full []]), .s 2 9 17, .m 10 18]) (.seq (.ops [.L 19 2 9, .s 2 8 19]) .ret)))
theorem Mo : OkF Try.prog 5 20 [] Hp [.cell 8 true 2] := .of Try.func5 rfl rfl (by kernel_rfl) rfl

set_option linter.unusedVariables false
set_option linter.unusedSimpArgs false
set_option maxHeartbeats 800000
def Cc (c n : Int) : Int := (if c < 0 then -(c + 1) else c) % n
theorem BK (c n : Int) (hn : 1 ≤ n) : 0 ≤ Cc c n ∧ Cc c n < n := ⟨Int.emod_nonneg _ (by omega), Int.emod_lt_of_pos _ (by omega)⟩
theorem GC {x n : Int} (hx : 0 ≤ x) (hn : 1 ≤ n) : x.tmod n = x % n ∧ 0 ≤ x % n ∧ x % n < n ∧ x % n ≤ x := by
 rw [Int.tmod_eq_emod_of_nonneg hx]
 refine ⟨rfl, Int.emod_nonneg _ (by omega), Int.emod_lt_of_pos _ (by omega), ?_⟩
 by_cases h : x < n
 ·rw [Int.emod_eq_of_lt hx h]; exact Int.le_refl _
 ·have := Int.emod_lt_of_pos x (show 0 < n by omega); omega
theorem EN {x n : Int} (hx : 0 ≤ x) (hn : 1 ≤ n) : x.tdiv n = x / n ∧ 0 ≤ x / n ∧ x / n ≤ x := by
 rw [Int.tdiv_eq_ediv_of_nonneg hx]
 exact ⟨rfl, Int.ediv_nonneg hx (by omega), Int.ediv_le_self _ hx⟩
theorem EP (c n : Int) (hc : inR .i64 c) (hn : 1 ≤ n) : AT Try.prog 6 [AR c, AR n] (AR (Cc c n)) := by
 rw [Dg] at hc
 refine QF.ac fun C hC => ?_
 unfold K6
 repeat' with_reducible first | refine W ?_ | refine Z0 ?_ | ((first | refine Wo fun K hK => ?_ | refine Wq ?_ | refine Wr ?_); (try simp only [go_sem, fN, seval, eT, iR]); (repeat refine Ai ?_); (try (refine hK _ ?_; clear hK K)))
 with_reducible refine Wp ?_
 simp only [go_sem, fN, seval, true_implies, false_implies, implies_true, dT, dF, nL]
 (try with_reducible refine iC ?_)
 refine ⟨fun h0 => ?_, fun h0 => ?_⟩
 ·have h1 := GC (x := 0 - (c + 1)) (n := n) (by omega) hn
  repeat' with_reducible first | refine W ?_ | refine Z0 ?_ | ((first | refine Wo fun K hK => ?_ | refine Wq ?_ | refine Wr ?_); (try simp only [go_sem, fN, seval, eT, iR, h1.1]); (repeat refine Ai ?_); (try (refine hK _ ?_; clear hK K)))
  simp only [go_sem, fN, seval, AN, AS.result, AB, AD, AK]
  unfold Cc
  rw [if_pos h0]
  congr 5
  omega
 ·have h1 := GC (x := c) (n := n) (by omega) hn
  repeat' with_reducible first | refine W ?_ | refine Z0 ?_ | ((first | refine Wo fun K hK => ?_ | refine Wq ?_ | refine Wr ?_); (try simp only [go_sem, fN, seval, eT, iR, h1.1]); (repeat refine Ai ?_); (try (refine hK _ ?_; clear hK K)))
  simp only [go_sem, fN, seval, AN, AS.result, AB, AD, AK]
  unfold Cc
  rw [if_neg h0]
def OJ (l : List Int) (i : Nat) : Int := if l.length = 0 then i * 31 else Cc (l.getD (i % l.length) 0) 1000003 + ((i / l.length : Nat) : Int) * 7919
theorem N1 (l : List Int) (i : Nat) : 0 ≤ OJ l i ∧ OJ l i ≤ 1000003 + i * 7919 := by
 unfold OJ
 split
 ·omega
 ·have := BK (l.getD (i % l.length) 0) 1000003 (by omega)
  have h2 : i / l.length ≤ i := Nat.div_le_self _ _
  generalize i / l.length = q at *
  omega
theorem Ti (l : List Int) (i : Nat) (hi : i ≤ 1000000) (hl : ∀ n ∈ l, inR .i64 n) (hm : l.length ≤ maxLen) : AT Try.prog 24 [JQ l, AR i] (AR (OJ l i)) := by
 rw [FV] at hm
 refine QX.ac fun C hC => ?_
 unfold Mj
 repeat' with_reducible first | refine W ?_ | refine Z0 ?_ | ((first | refine Wo fun K hK => ?_ | refine Wq ?_ | refine Wr ?_); (try simp only [go_sem, fN, seval, eT, iR]); (repeat refine Ai ?_); (try (refine hK _ ?_; clear hK K)))
 with_reducible refine Wp ?_
 simp only [go_sem, fN, seval, true_implies, false_implies, implies_true, dT, dF, nL]
 (try with_reducible refine iC ?_)
 refine ⟨fun h0 => ?_, fun h0 => ?_⟩
 ·repeat' with_reducible first | refine W ?_ | refine Z0 ?_ | ((first | refine Wo fun K hK => ?_ | refine Wq ?_ | refine Wr ?_); (try simp only [go_sem, fN, seval, eT, iR]); (repeat refine Ai ?_); (try (refine hK _ ?_; clear hK K)))
  simp only [go_sem, fN, seval, AN, AS.result, AB, AD, AK]
  unfold OJ
  rw [if_pos (by omega)]
 ·have h1 := GC (x := (i : Int)) (n := (l.length : Int)) (by omega) (by omega)
  have h2 := EN (x := (i : Int)) (n := (l.length : Int)) (by omega) (by omega)
  have hlt : i % l.length < l.length := Nat.mod_lt _ (by omega)
  obtain ⟨a, ha⟩ := Ay hlt
  have e1 : ((i : Int) % (l.length : Int)) = ((i % l.length : Nat) : Int) := by omega
  have e2 : ((i : Int) / (l.length : Int)) = ((i / l.length : Nat) : Int) := by omega
  have h3 : i / l.length ≤ i := Nat.div_le_self _ _
  repeat' with_reducible first | refine W ?_ | refine Z0 ?_ | ((first | refine Wo fun K hK => ?_ | refine Wq ?_ | refine Wr ?_); (try simp only [go_sem, fN, seval, eT, iR, h1.1, h2.1, e1, e2, ha]); (repeat refine Ai ?_); (try (refine hK _ ?_; clear hK K)))
  refine ⟨_, EP a 1000003 (hl a (Ah ha)) (by omega), ?_⟩
  have hp := BK a 1000003 (by omega)
  repeat' with_reducible first | refine W ?_ | refine Z0 ?_ | ((first | refine Wo fun K hK => ?_ | refine Wq ?_ | refine Wr ?_); (try simp only [go_sem, fN, seval, eT, iR, h1.1, h2.1, e1, e2]); (repeat refine Ai ?_); (try (refine hK _ ?_; clear hK K)))
  simp only [go_sem, fN, seval, AN, AS.result, AB, AD, AK]
  unfold OJ
  rw [if_neg (by omega), List.getD_eq_getElem?_getD, ha]
  rfl
theorem IS (s : ByteArray) : AT Try.prog 10 [Cb s] (aTm (.mk s [])) := by
 refine Pv.ac fun C hC => ?_
 unfold LA
 repeat' with_reducible first | refine W ?_ | refine Z0 ?_ | ((first | refine Wo fun K hK => ?_ | refine Wq ?_ | refine Wr ?_); (try simp only [go_sem, fN, seval, eT, iR]); (repeat refine Ai ?_); (try (refine hK _ ?_; clear hK K)))
 simp only [go_sem, fN, seval, AN, AS.result, AB, AD, AK]
 rfl
theorem JB {n : ByteArray} {xs : List Tm} (h1 : Aw n = true) (h2 : AZ n = false) (hx : ∀ x ∈ xs, x.chk = 0) : (Tm.mk n xs).chk = 0 := by
 have h0 : B5 (Tm.mk n xs) = 0 := by
  unfold B5
  rw [Tm.name_mk, if_pos h1, if_neg (by rw [h2]; simp)]
 rw [Tm.chk_eq, if_pos h0, Tm.args_mk]
 induction xs with
 | nil => rfl
 | cons x xs ih =>
  simp only [Tm.chkL]
  rw [if_pos (hx x (by simp))]
  refine ih (fun y hy => hx y (by simp [hy])) ?_
  unfold B5
  rw [Tm.name_mk, if_pos h1, if_neg (by rw [h2]; simp)]
def DK (l : List Int) (at_ : Nat) (most vars : Int) (t : Tm) : Prop :=
 AT Try.prog 16 [JQ l, AR at_, AR most, AR vars] (.tup [aTm t, AR ((at_ + t.size : Nat) : Int)])
abbrev CG : List ByteArray := [⟨#[88]⟩, ⟨#[89]⟩, ⟨#[90]⟩, ⟨#[85]⟩, ⟨#[97]⟩, ⟨#[98]⟩, ⟨#[99]⟩, ⟨#[102]⟩, ⟨#[103]⟩, ⟨#[104]⟩, ⟨#[107]⟩]
def II (vars : Int) (t : Tm) : Prop := ∀ k ∈ t.knots, k.name ∈ CG ∧ (vars = 1 → AZ k.name = true → k.name = ⟨#[88]⟩)
theorem LE {k : Tm} : ∀ {xs : List Tm}, k ∈ Tm.knotsL xs → ∃ x ∈ xs, k ∈ x.knots
 | [], h => by cases h
 | x :: xs, h => by
  rw [Tm.knotsL, List.mem_append] at h
  rcases h with h | h
  ·exact ⟨x, by simp, h⟩
  ·obtain ⟨y, hy, hk⟩ := LE h
   exact ⟨y, by simp [hy], hk⟩
theorem DQ {vars : Int} {n : ByteArray} {xs : List Tm} (hn : n ∈ CG) (hv : AZ n = true → vars = 1 → n = ⟨#[88]⟩) (hx : ∀ x ∈ xs, II vars x) : II vars (.mk n xs) := by
 intro k hk
 rw [Tm.knots] at hk
 rcases List.mem_cons.1 hk with rfl | hk
 ·exact ⟨hn, fun h1 h2 => hv h2 h1⟩
 ·obtain ⟨x, hx', hk⟩ := LE hk
  exact hx x hx' k hk
mutual
def Tm.lvs : Tm → Nat
 | .mk _ xs => (if xs.isEmpty then 1 else 0) + Tm.lvsL xs
def Tm.lvsL : List Tm → Nat
 | [] => 0
 | t :: ts => t.lvs + Tm.lvsL ts
end
def Fx (m : Nat) : Nat := if m < 3 then 1 else if m < 6 then 2 else if m < 10 then 4 else m
theorem KL (m : Nat) : 1 ≤ Fx m := by unfold Fx; split <;> (try split) <;> (try split) <;> omega
theorem K8 {m : Nat} (h : 3 ≤ m) : Fx (m - 1) ≤ Fx m := by unfold Fx; (repeat' split) <;> omega
theorem Py {m : Nat} (h : 3 ≤ m) : Fx (m / 2) + Fx (m / 2) ≤ Fx m := by unfold Fx; (repeat' split) <;> omega
def NoU (t : Tm) : Prop := ∀ k ∈ t.knots, k.name ≠ ⟨#[85]⟩
theorem JH {n : ByteArray} {xs : List Tm} (hn : n ≠ ⟨#[85]⟩) (hx : ∀ x ∈ xs, NoU x) : NoU (.mk n xs) := by
 intro k hk
 rw [Tm.knots] at hk
 rcases List.mem_cons.1 hk with rfl | hk
 ·exact hn
 ·obtain ⟨x, hx', hk⟩ := LE hk
  exact hx x hx' k hk
theorem TG (l : List Int) (hl : ∀ n ∈ l, inR .i64 n) (hm : l.length ≤ maxLen) (vars : Int) (hv : 1 ≤ vars ∧ vars ≤ 4) : ∀ (most : Nat) (at_ : Nat), most ≤ 1000 → at_ + 2 * most ≤ 900000 → ∃ t : Tm, DK l at_ most vars t ∧ t.size + 1 ≤ max 2 (2 * most) ∧ t.chk = 0 ∧ II vars t ∧ (t.lvs ≤ Fx most ∧ (vars = 3 → NoU t)) := by
 intro most
 induction most using Nat.strongRecOn with
 | _ most ih =>
 intro at_ h1000 hat
 have hraw := Ti l at_ (by omega) hl hm
 have hr := N1 l at_
 generalize OJ l at_ = c at hraw hr
 have d5 := EN (x := c) (n := 5) (by omega) (by omega)
 have d15 := EN (x := c) (n := 15) (by omega) (by omega)
 have p5 := EP c 5 (by rw [Dg]; omega) (by omega)
 have q5 := BK c 5 (by omega)
 have p53 := EP (c / 5) 3 (by rw [Dg]; omega) (by omega)
 have q53 := BK (c / 5) 3 (by omega)
 have p54 := EP (c / 5) 4 (by rw [Dg]; omega) (by omega)
 have q54 := BK (c / 5) 4 (by omega)
 have p15 := EP (c / 15) vars (by rw [Dg]; omega) (by omega)
 have q15 := BK (c / 15) vars (by omega)
 have p153 := EP (c / 15) 3 (by rw [Dg]; omega) (by omega)
 have q153 := BK (c / 15) 3 (by omega)
 generalize Cc c 5 = x5 at p5 q5
 generalize Cc (c / 5) 3 = x53 at p53 q53
 generalize Cc (c / 5) 4 = x54 at p54 q54
 generalize Cc (c / 15) vars = x15 at p15 q15
 generalize Cc (c / 15) 3 = x153 at p153 q153
 have hv0 : vars > 0 := by omega
 by_cases hleaf : (most : Int) < 3 ∨ x5 < 2
 ·by_cases hvar : 0 < x53
  ·obtain ⟨nm, hnm, hch, hX0, hX, hXU⟩ : ∃ nm, [([.str ⟨#[88]⟩] : List SV), [.str ⟨#[89]⟩], [.str ⟨#[90]⟩], [.str ⟨#[85]⟩]][x15.toNat]? = some [.str nm] ∧ (Tm.mk nm []).chk = 0 ∧ nm ∈ CG ∧ (vars = 1 → nm = ⟨#[88]⟩) ∧ (vars = 3 → nm ≠ ⟨#[85]⟩) := by
    have : x15.toNat = 0 ∨ x15.toNat = 1 ∨ x15.toNat = 2 ∨ x15.toNat = 3 := by omega
    rcases this with h | h | h | h <;> rw [h] <;> first | exact ⟨_, rfl, by decide, by simp [CG], fun _ => rfl, fun _ => by decide⟩ | exact ⟨_, rfl, by decide, by simp [CG], fun h1 => by omega, fun _ => by decide⟩ | exact ⟨_, rfl, by decide, by simp [CG], fun h1 => by omega, fun h1 => by omega⟩
   refine ⟨.mk nm [], ?_, by simp only [Tm.size, Tm.sizes]; omega, hch, DQ hX0 (fun _ h1 => hX h1) (by simp), (by have := KL most; simp [Tm.lvs, Tm.lvsL]; omega), fun h3 => JH (hXU h3) (by simp)⟩
   unfold DK
   refine EB.ac fun C hC => ?_
   unfold DC
   repeat' with_reducible first | refine W ?_ | refine Z0 ?_ | ((first | refine Wo fun K hK => ?_ | refine Wq ?_ | refine Wr ?_); (try simp only [go_sem, fN, seval, eT, iR]); (repeat refine Ai ?_); (try (refine hK _ ?_; clear hK K)))
   refine ⟨_, hraw, ?_⟩
   by_cases hm3 : (most : Int) < 3
   ·repeat' with_reducible first | refine W ?_ | refine Z0 ?_ | ((first | refine Wo fun K hK => ?_ | refine Wq ?_ | refine Wr ?_); (try simp only [go_sem, fN, seval, eT, iR, hm3]); (repeat refine Ai ?_); (try (refine hK _ ?_; clear hK K)))
    with_reducible refine Wp ?_
    simp only [go_sem, fN, seval, true_implies, false_implies, implies_true, dT, dF, nL]
    (try with_reducible refine iC ?_)
    repeat' with_reducible first | refine W ?_ | refine Z0 ?_ | ((first | refine Wo fun K hK => ?_ | refine Wq ?_ | refine Wr ?_); (try simp only [go_sem, fN, seval, eT, iR, hv0, d5.1]); (repeat refine Ai ?_); (try (refine hK _ ?_; clear hK K)))
    refine ⟨_, p53, ?_⟩
    repeat' with_reducible first | refine W ?_ | refine Z0 ?_ | ((first | refine Wo fun K hK => ?_ | refine Wq ?_ | refine Wr ?_); (try simp only [go_sem, fN, seval, eT, iR, hv0, d5.1, hvar]); (repeat refine Ai ?_); (try (refine hK _ ?_; clear hK K)))
    with_reducible refine Wp ?_
    simp only [go_sem, fN, seval, true_implies, false_implies, implies_true, dT, dF, nL]
    (try with_reducible refine iC ?_)
    repeat' with_reducible first | refine W ?_ | refine Z0 ?_ | ((first | refine Wo fun K hK => ?_ | refine Wq ?_ | refine Wr ?_); (try simp only [go_sem, fN, seval, eT, iR, d15.1]); (repeat refine Ai ?_); (try (refine hK _ ?_; clear hK K)))
    refine ⟨_, p15, ?_⟩
    repeat' with_reducible first | refine W ?_ | refine Z0 ?_ | ((first | refine Wo fun K hK => ?_ | refine Wq ?_ | refine Wr ?_); (try simp only [go_sem, fN, seval, eT, iR, hnm, q15.1]); (repeat refine Ai ?_); (try (refine hK _ ?_; clear hK K)))
    refine ⟨_, IS nm, ?_⟩
    repeat' with_reducible first | refine W ?_ | refine Z0 ?_ | ((first | refine Wo fun K hK => ?_ | refine Wq ?_ | refine Wr ?_); (try simp only [go_sem, fN, seval, eT, iR]); (repeat refine Ai ?_); (try (refine hK _ ?_; clear hK K)))
    simp only [go_sem, fN, seval, AN, AS.result, AB, AD, AK]
    simp only [AV.tup.injEq, AV.agg.injEq, AV.one.injEq, AC.st.injEq, SV.int.injEq, SV.str.injEq, SV.bool.injEq, SV.list.injEq, List.cons.injEq, Option.some.injEq, true_and, and_true, eq_self, Aa, Tm.args_mk, Tm.name_mk, List.map_cons, List.map_nil, List.map_append, Tm.size, Tm.sizes]
    omega
   ·have h5 : x5 < 2 := by omega
    repeat' (first | (with_reducible first | refine W ?_ | refine Z0 ?_ | ((first | refine Wo fun K hK => ?_ | refine Wq ?_ | refine Wr ?_); (try simp only [go_sem, fN, seval, eT, iR, hm3, h5]); (repeat refine Ai ?_); (try (refine hK _ ?_; clear hK K)))) | refine Cg _ (p5) ?_)
    with_reducible refine Wp ?_
    simp only [go_sem, fN, seval, true_implies, false_implies, implies_true, dT, dF, nL]
    (try with_reducible refine iC ?_)
    repeat' with_reducible first | refine W ?_ | refine Z0 ?_ | ((first | refine Wo fun K hK => ?_ | refine Wq ?_ | refine Wr ?_); (try simp only [go_sem, fN, seval, eT, iR, hv0, d5.1]); (repeat refine Ai ?_); (try (refine hK _ ?_; clear hK K)))
    refine ⟨_, p53, ?_⟩
    repeat' with_reducible first | refine W ?_ | refine Z0 ?_ | ((first | refine Wo fun K hK => ?_ | refine Wq ?_ | refine Wr ?_); (try simp only [go_sem, fN, seval, eT, iR, hv0, d5.1, hvar]); (repeat refine Ai ?_); (try (refine hK _ ?_; clear hK K)))
    with_reducible refine Wp ?_
    simp only [go_sem, fN, seval, true_implies, false_implies, implies_true, dT, dF, nL]
    (try with_reducible refine iC ?_)
    repeat' with_reducible first | refine W ?_ | refine Z0 ?_ | ((first | refine Wo fun K hK => ?_ | refine Wq ?_ | refine Wr ?_); (try simp only [go_sem, fN, seval, eT, iR, d15.1]); (repeat refine Ai ?_); (try (refine hK _ ?_; clear hK K)))
    refine ⟨_, p15, ?_⟩
    repeat' with_reducible first | refine W ?_ | refine Z0 ?_ | ((first | refine Wo fun K hK => ?_ | refine Wq ?_ | refine Wr ?_); (try simp only [go_sem, fN, seval, eT, iR, hnm, q15.1]); (repeat refine Ai ?_); (try (refine hK _ ?_; clear hK K)))
    refine ⟨_, IS nm, ?_⟩
    repeat' with_reducible first | refine W ?_ | refine Z0 ?_ | ((first | refine Wo fun K hK => ?_ | refine Wq ?_ | refine Wr ?_); (try simp only [go_sem, fN, seval, eT, iR]); (repeat refine Ai ?_); (try (refine hK _ ?_; clear hK K)))
    simp only [go_sem, fN, seval, AN, AS.result, AB, AD, AK]
    simp only [AV.tup.injEq, AV.agg.injEq, AV.one.injEq, AC.st.injEq, SV.int.injEq, SV.str.injEq, SV.bool.injEq, SV.list.injEq, List.cons.injEq, Option.some.injEq, true_and, and_true, eq_self, Aa, Tm.args_mk, Tm.name_mk, List.map_cons, List.map_nil, List.map_append, Tm.size, Tm.sizes]
    omega
  ·obtain ⟨nm, hnm, hch, hX0, hX⟩ : ∃ nm, [([.str ⟨#[97]⟩] : List SV), [.str ⟨#[98]⟩], [.str ⟨#[99]⟩]][x153.toNat]? = some [.str nm] ∧ (Tm.mk nm []).chk = 0 ∧ nm ∈ CG ∧ AZ nm = false := by
    have : x153.toNat = 0 ∨ x153.toNat = 1 ∨ x153.toNat = 2 := by omega
    rcases this with h | h | h <;> rw [h] <;> exact ⟨_, rfl, by decide, by simp [CG], by decide⟩
   refine ⟨.mk nm [], ?_, by simp only [Tm.size, Tm.sizes]; omega, hch, DQ hX0 (fun h => by rw [hX] at h; cases h) (by simp), (by have := KL most; simp [Tm.lvs, Tm.lvsL]; omega), fun h3 => JH (fun e => by rw [e] at hX; exact absurd hX (by decide)) (by simp)⟩
   unfold DK
   refine EB.ac fun C hC => ?_
   unfold DC
   repeat' with_reducible first | refine W ?_ | refine Z0 ?_ | ((first | refine Wo fun K hK => ?_ | refine Wq ?_ | refine Wr ?_); (try simp only [go_sem, fN, seval, eT, iR]); (repeat refine Ai ?_); (try (refine hK _ ?_; clear hK K)))
   refine ⟨_, hraw, ?_⟩
   by_cases hm3 : (most : Int) < 3
   ·repeat' with_reducible first | refine W ?_ | refine Z0 ?_ | ((first | refine Wo fun K hK => ?_ | refine Wq ?_ | refine Wr ?_); (try simp only [go_sem, fN, seval, eT, iR, hm3]); (repeat refine Ai ?_); (try (refine hK _ ?_; clear hK K)))
    with_reducible refine Wp ?_
    simp only [go_sem, fN, seval, true_implies, false_implies, implies_true, dT, dF, nL]
    (try with_reducible refine iC ?_)
    repeat' with_reducible first | refine W ?_ | refine Z0 ?_ | ((first | refine Wo fun K hK => ?_ | refine Wq ?_ | refine Wr ?_); (try simp only [go_sem, fN, seval, eT, iR, hv0, d5.1]); (repeat refine Ai ?_); (try (refine hK _ ?_; clear hK K)))
    refine ⟨_, p53, ?_⟩
    repeat' with_reducible first | refine W ?_ | refine Z0 ?_ | ((first | refine Wo fun K hK => ?_ | refine Wq ?_ | refine Wr ?_); (try simp only [go_sem, fN, seval, eT, iR, hv0, d5.1, hvar]); (repeat refine Ai ?_); (try (refine hK _ ?_; clear hK K)))
    with_reducible refine Wp ?_
    simp only [go_sem, fN, seval, true_implies, false_implies, implies_true, dT, dF, nL]
    (try with_reducible refine iC ?_)
    repeat' with_reducible first | refine W ?_ | refine Z0 ?_ | ((first | refine Wo fun K hK => ?_ | refine Wq ?_ | refine Wr ?_); (try simp only [go_sem, fN, seval, eT, iR, d15.1]); (repeat refine Ai ?_); (try (refine hK _ ?_; clear hK K)))
    refine ⟨_, p153, ?_⟩
    repeat' with_reducible first | refine W ?_ | refine Z0 ?_ | ((first | refine Wo fun K hK => ?_ | refine Wq ?_ | refine Wr ?_); (try simp only [go_sem, fN, seval, eT, iR, hnm, q153.1]); (repeat refine Ai ?_); (try (refine hK _ ?_; clear hK K)))
    refine ⟨_, IS nm, ?_⟩
    repeat' with_reducible first | refine W ?_ | refine Z0 ?_ | ((first | refine Wo fun K hK => ?_ | refine Wq ?_ | refine Wr ?_); (try simp only [go_sem, fN, seval, eT, iR]); (repeat refine Ai ?_); (try (refine hK _ ?_; clear hK K)))
    simp only [go_sem, fN, seval, AN, AS.result, AB, AD, AK]
    simp only [AV.tup.injEq, AV.agg.injEq, AV.one.injEq, AC.st.injEq, SV.int.injEq, SV.str.injEq, SV.bool.injEq, SV.list.injEq, List.cons.injEq, Option.some.injEq, true_and, and_true, eq_self, Aa, Tm.args_mk, Tm.name_mk, List.map_cons, List.map_nil, List.map_append, Tm.size, Tm.sizes]
    omega
   ·have h5 : x5 < 2 := by omega
    repeat' (first | (with_reducible first | refine W ?_ | refine Z0 ?_ | ((first | refine Wo fun K hK => ?_ | refine Wq ?_ | refine Wr ?_); (try simp only [go_sem, fN, seval, eT, iR, hm3, h5]); (repeat refine Ai ?_); (try (refine hK _ ?_; clear hK K)))) | refine Cg _ (p5) ?_)
    with_reducible refine Wp ?_
    simp only [go_sem, fN, seval, true_implies, false_implies, implies_true, dT, dF, nL]
    (try with_reducible refine iC ?_)
    repeat' with_reducible first | refine W ?_ | refine Z0 ?_ | ((first | refine Wo fun K hK => ?_ | refine Wq ?_ | refine Wr ?_); (try simp only [go_sem, fN, seval, eT, iR, hv0, d5.1]); (repeat refine Ai ?_); (try (refine hK _ ?_; clear hK K)))
    refine ⟨_, p53, ?_⟩
    repeat' with_reducible first | refine W ?_ | refine Z0 ?_ | ((first | refine Wo fun K hK => ?_ | refine Wq ?_ | refine Wr ?_); (try simp only [go_sem, fN, seval, eT, iR, hv0, d5.1, hvar]); (repeat refine Ai ?_); (try (refine hK _ ?_; clear hK K)))
    with_reducible refine Wp ?_
    simp only [go_sem, fN, seval, true_implies, false_implies, implies_true, dT, dF, nL]
    (try with_reducible refine iC ?_)
    repeat' with_reducible first | refine W ?_ | refine Z0 ?_ | ((first | refine Wo fun K hK => ?_ | refine Wq ?_ | refine Wr ?_); (try simp only [go_sem, fN, seval, eT, iR, d15.1]); (repeat refine Ai ?_); (try (refine hK _ ?_; clear hK K)))
    refine ⟨_, p153, ?_⟩
    repeat' with_reducible first | refine W ?_ | refine Z0 ?_ | ((first | refine Wo fun K hK => ?_ | refine Wq ?_ | refine Wr ?_); (try simp only [go_sem, fN, seval, eT, iR, hnm, q153.1]); (repeat refine Ai ?_); (try (refine hK _ ?_; clear hK K)))
    refine ⟨_, IS nm, ?_⟩
    repeat' with_reducible first | refine W ?_ | refine Z0 ?_ | ((first | refine Wo fun K hK => ?_ | refine Wq ?_ | refine Wr ?_); (try simp only [go_sem, fN, seval, eT, iR]); (repeat refine Ai ?_); (try (refine hK _ ?_; clear hK K)))
    simp only [go_sem, fN, seval, AN, AS.result, AB, AD, AK]
    simp only [AV.tup.injEq, AV.agg.injEq, AV.one.injEq, AC.st.injEq, SV.int.injEq, SV.str.injEq, SV.bool.injEq, SV.list.injEq, List.cons.injEq, Option.some.injEq, true_and, and_true, eq_self, Aa, Tm.args_mk, Tm.name_mk, List.map_cons, List.map_nil, List.map_append, Tm.size, Tm.sizes]
    omega
 ·have hm3 : ¬ (most : Int) < 3 := by omega
  have h5 : ¬ x5 < 2 := by omega
  by_cases h0 : x54 = 0
  ·obtain ⟨t, ht, hs, hc1, hX1, hL1, hU1⟩ := ih (most - 1) (by omega) (at_ + 1) (by omega) (by omega)
   unfold DK at ht
   rw [show (((at_ + 1 : Nat) : Int)) = (at_ : Int) + 1 by omega, show (((most - 1 : Nat) : Int)) = (most : Int) - 1 by omega] at ht
   refine ⟨.mk ⟨#[104]⟩ [t], ?_, by simp only [Tm.size, Tm.sizes]; omega, JB (by decide) (by decide) (by simp [hc1]), DQ (by simp [CG]) (fun h => absurd h (by decide)) (by simp [hX1]), (by have := K8 (m := most) (by omega); simp [Tm.lvs, Tm.lvsL]; omega), fun h3 => JH (by decide) (by simp [hU1 h3])⟩
   unfold DK
   subst h0
   refine EB.ac fun C hC => ?_
   unfold DC
   repeat' with_reducible first | refine W ?_ | refine Z0 ?_ | ((first | refine Wo fun K hK => ?_ | refine Wq ?_ | refine Wr ?_); (try simp only [go_sem, fN, seval, eT, iR]); (repeat refine Ai ?_); (try (refine hK _ ?_; clear hK K)))
   refine ⟨_, hraw, ?_⟩
   repeat' with_reducible first | refine W ?_ | refine Z0 ?_ | ((first | refine Wo fun K hK => ?_ | refine Wq ?_ | refine Wr ?_); (try simp only [go_sem, fN, seval, eT, iR, hm3]); (repeat refine Ai ?_); (try (refine hK _ ?_; clear hK K)))
   refine ⟨_, p5, ?_⟩
   repeat' with_reducible first | refine W ?_ | refine Z0 ?_ | ((first | refine Wo fun K hK => ?_ | refine Wq ?_ | refine Wr ?_); (try simp only [go_sem, fN, seval, eT, iR, h5]); (repeat refine Ai ?_); (try (refine hK _ ?_; clear hK K)))
   with_reducible refine Wp ?_
   simp only [go_sem, fN, seval, true_implies, false_implies, implies_true, dT, dF, nL]
   (try with_reducible refine iC ?_)
   repeat' with_reducible first | refine W ?_ | refine Z0 ?_ | ((first | refine Wo fun K hK => ?_ | refine Wq ?_ | refine Wr ?_); (try simp only [go_sem, fN, seval, eT, iR, d5.1]); (repeat refine Ai ?_); (try (refine hK _ ?_; clear hK K)))
   refine ⟨_, p54, ?_⟩
   repeat' with_reducible first | refine W ?_ | refine Z0 ?_ | ((first | refine Wo fun K hK => ?_ | refine Wq ?_ | refine Wr ?_); (try simp only [go_sem, fN, seval, eT, iR]); (repeat refine Ai ?_); (try (refine hK _ ?_; clear hK K)))
   with_reducible refine Wp ?_
   simp only [go_sem, fN, seval, true_implies, false_implies, implies_true, dT, dF, nL]
   (try with_reducible refine iC ?_)
   repeat' with_reducible first | refine W ?_ | refine Z0 ?_ | ((first | refine Wo fun K hK => ?_ | refine Wq ?_ | refine Wr ?_); (try simp only [go_sem, fN, seval, eT, iR]); (repeat refine Ai ?_); (try (refine hK _ ?_; clear hK K)))
   refine ⟨_, ht, ?_⟩
   repeat' with_reducible first | refine W ?_ | refine Z0 ?_ | ((first | refine Wo fun K hK => ?_ | refine Wq ?_ | refine Wr ?_); (try simp only [go_sem, fN, seval, eT, iR]); (repeat refine Ai ?_); (try (refine hK _ ?_; clear hK K)))
   simp only [go_sem, fN, seval, AN, AS.result, AB, AD, AK]
   simp only [AV.tup.injEq, AV.agg.injEq, AV.one.injEq, AC.st.injEq, SV.int.injEq, SV.str.injEq, SV.bool.injEq, SV.list.injEq, List.cons.injEq, Option.some.injEq, true_and, and_true, eq_self, Aa, Tm.args_mk, Tm.name_mk, List.map_cons, List.map_nil, List.map_append, Tm.size, Tm.sizes]
   omega
  by_cases h1 : x54 = 1
  ·obtain ⟨t, ht, hs, hc1, hX1, hL1, hU1⟩ := ih (most - 1) (by omega) (at_ + 1) (by omega) (by omega)
   unfold DK at ht
   rw [show (((at_ + 1 : Nat) : Int)) = (at_ : Int) + 1 by omega, show (((most - 1 : Nat) : Int)) = (most : Int) - 1 by omega] at ht
   refine ⟨.mk ⟨#[107]⟩ [t], ?_, by simp only [Tm.size, Tm.sizes]; omega, JB (by decide) (by decide) (by simp [hc1]), DQ (by simp [CG]) (fun h => absurd h (by decide)) (by simp [hX1]), (by have := K8 (m := most) (by omega); simp [Tm.lvs, Tm.lvsL]; omega), fun h3 => JH (by decide) (by simp [hU1 h3])⟩
   unfold DK
   subst h1
   refine EB.ac fun C hC => ?_
   unfold DC
   repeat' with_reducible first | refine W ?_ | refine Z0 ?_ | ((first | refine Wo fun K hK => ?_ | refine Wq ?_ | refine Wr ?_); (try simp only [go_sem, fN, seval, eT, iR]); (repeat refine Ai ?_); (try (refine hK _ ?_; clear hK K)))
   refine ⟨_, hraw, ?_⟩
   repeat' with_reducible first | refine W ?_ | refine Z0 ?_ | ((first | refine Wo fun K hK => ?_ | refine Wq ?_ | refine Wr ?_); (try simp only [go_sem, fN, seval, eT, iR, hm3]); (repeat refine Ai ?_); (try (refine hK _ ?_; clear hK K)))
   refine ⟨_, p5, ?_⟩
   repeat' with_reducible first | refine W ?_ | refine Z0 ?_ | ((first | refine Wo fun K hK => ?_ | refine Wq ?_ | refine Wr ?_); (try simp only [go_sem, fN, seval, eT, iR, h5]); (repeat refine Ai ?_); (try (refine hK _ ?_; clear hK K)))
   with_reducible refine Wp ?_
   simp only [go_sem, fN, seval, true_implies, false_implies, implies_true, dT, dF, nL]
   (try with_reducible refine iC ?_)
   repeat' with_reducible first | refine W ?_ | refine Z0 ?_ | ((first | refine Wo fun K hK => ?_ | refine Wq ?_ | refine Wr ?_); (try simp only [go_sem, fN, seval, eT, iR, d5.1]); (repeat refine Ai ?_); (try (refine hK _ ?_; clear hK K)))
   refine ⟨_, p54, ?_⟩
   repeat' with_reducible first | refine W ?_ | refine Z0 ?_ | ((first | refine Wo fun K hK => ?_ | refine Wq ?_ | refine Wr ?_); (try simp only [go_sem, fN, seval, eT, iR]); (repeat refine Ai ?_); (try (refine hK _ ?_; clear hK K)))
   with_reducible refine Wp ?_
   simp only [go_sem, fN, seval, true_implies, false_implies, implies_true, dT, dF, nL]
   (try with_reducible refine iC ?_)
   repeat' with_reducible first | refine W ?_ | refine Z0 ?_ | ((first | refine Wo fun K hK => ?_ | refine Wq ?_ | refine Wr ?_); (try simp only [go_sem, fN, seval, eT, iR]); (repeat refine Ai ?_); (try (refine hK _ ?_; clear hK K)))
   with_reducible refine Wp ?_
   simp only [go_sem, fN, seval, true_implies, false_implies, implies_true, dT, dF, nL]
   (try with_reducible refine iC ?_)
   repeat' (first | (with_reducible first | refine W ?_ | refine Z0 ?_ | ((first | refine Wo fun K hK => ?_ | refine Wq ?_ | refine Wr ?_); (try simp only [go_sem, fN, seval, eT, iR]); (repeat refine Ai ?_); (try (refine hK _ ?_; clear hK K)))) | refine Cg _ (ht) ?_)
   simp only [go_sem, fN, seval, AN, AS.result, AB, AD, AK]
   simp only [AV.tup.injEq, AV.agg.injEq, AV.one.injEq, AC.st.injEq, SV.int.injEq, SV.str.injEq, SV.bool.injEq, SV.list.injEq, List.cons.injEq, Option.some.injEq, true_and, and_true, eq_self, Aa, Tm.args_mk, Tm.name_mk, List.map_cons, List.map_nil, List.map_append, Tm.size, Tm.sizes]
   omega
  have d2 := EN (x := (most : Int)) (n := 2) (by omega) (by omega)
  have e2 : (most : Int) / 2 = ((most / 2 : Nat) : Int) := by omega
  obtain ⟨t, ht, hs, hc1, hX1, hL1, hU1⟩ := ih (most / 2) (by omega) (at_ + 1) (by omega) (by omega)
  obtain ⟨u, hu, hs', hc2, hX2, hL2, hU2⟩ := ih (most / 2) (by omega) (at_ + 1 + t.size) (by omega) (by omega)
  obtain ⟨nm, hnm, hok, hnv, hin⟩ : ∃ nm, [([.str ⟨#[102]⟩] : List SV), [.str ⟨#[103]⟩]][(x54 - 2).toNat]? = some [.str nm] ∧ Aw nm = true ∧ AZ nm = false ∧ nm ∈ CG := by
   have : (x54 - 2).toNat = 0 ∨ (x54 - 2).toNat = 1 := by omega
   rcases this with h | h <;> rw [h] <;> exact ⟨_, rfl, by decide, by decide, by simp [CG]⟩
  refine ⟨.mk nm [t, u], ?_, by simp only [Tm.size, Tm.sizes]; omega, JB hok hnv (by simp [hc1, hc2]), DQ hin (fun h => by rw [hnv] at h; cases h) (by simp [hX1, hX2]), (by have := Py (m := most) (by omega); simp [Tm.lvs, Tm.lvsL]; omega), fun h3 => JH (fun e => by rw [e] at hnv; exact absurd hnv (by decide)) (by simp [hU1 h3, hU2 h3])⟩
  unfold DK at ht hu ⊢
  rw [show (((at_ + 1 : Nat) : Int)) = (at_ : Int) + 1 by omega] at ht
  refine EB.ac fun C hC => ?_
  unfold DC
  repeat' with_reducible first | refine W ?_ | refine Z0 ?_ | ((first | refine Wo fun K hK => ?_ | refine Wq ?_ | refine Wr ?_); (try simp only [go_sem, fN, seval, eT, iR]); (repeat refine Ai ?_); (try (refine hK _ ?_; clear hK K)))
  refine ⟨_, hraw, ?_⟩
  repeat' with_reducible first | refine W ?_ | refine Z0 ?_ | ((first | refine Wo fun K hK => ?_ | refine Wq ?_ | refine Wr ?_); (try simp only [go_sem, fN, seval, eT, iR, hm3]); (repeat refine Ai ?_); (try (refine hK _ ?_; clear hK K)))
  refine ⟨_, p5, ?_⟩
  repeat' with_reducible first | refine W ?_ | refine Z0 ?_ | ((first | refine Wo fun K hK => ?_ | refine Wq ?_ | refine Wr ?_); (try simp only [go_sem, fN, seval, eT, iR, h5]); (repeat refine Ai ?_); (try (refine hK _ ?_; clear hK K)))
  with_reducible refine Wp ?_
  simp only [go_sem, fN, seval, true_implies, false_implies, implies_true, dT, dF, nL]
  (try with_reducible refine iC ?_)
  repeat' with_reducible first | refine W ?_ | refine Z0 ?_ | ((first | refine Wo fun K hK => ?_ | refine Wq ?_ | refine Wr ?_); (try simp only [go_sem, fN, seval, eT, iR, d5.1]); (repeat refine Ai ?_); (try (refine hK _ ?_; clear hK K)))
  refine ⟨_, p54, ?_⟩
  repeat' with_reducible first | refine W ?_ | refine Z0 ?_ | ((first | refine Wo fun K hK => ?_ | refine Wq ?_ | refine Wr ?_); (try simp only [go_sem, fN, seval, eT, iR]); (repeat refine Ai ?_); (try (refine hK _ ?_; clear hK K)))
  with_reducible refine Wp ?_
  simp only [go_sem, fN, seval, true_implies, false_implies, implies_true, dT, dF, nL, h0]
  (try with_reducible refine iC ?_)
  repeat' with_reducible first | refine W ?_ | refine Z0 ?_ | ((first | refine Wo fun K hK => ?_ | refine Wq ?_ | refine Wr ?_); (try simp only [go_sem, fN, seval, eT, iR]); (repeat refine Ai ?_); (try (refine hK _ ?_; clear hK K)))
  with_reducible refine Wp ?_
  simp only [go_sem, fN, seval, true_implies, false_implies, implies_true, dT, dF, nL, h1]
  (try with_reducible refine iC ?_)
  repeat' (first | (with_reducible first | refine W ?_ | refine Z0 ?_ | ((first | refine Wo fun K hK => ?_ | refine Wq ?_ | refine Wr ?_); (try simp only [go_sem, fN, seval, eT, iR, d2.1, e2, d5.1, hnm]); (repeat refine Ai ?_); (try (refine hK _ ?_; clear hK K)))) | refine Cg _ (ht) ?_ | refine Cg _ (hu) ?_ | refine Cg _ (p54) ?_)
  simp only [go_sem, fN, seval, AN, AS.result, AB, AD, AK]
  simp only [AV.tup.injEq, AV.agg.injEq, AV.one.injEq, AC.st.injEq, SV.int.injEq, SV.str.injEq, SV.bool.injEq, SV.list.injEq, List.cons.injEq, Option.some.injEq, true_and, and_true, eq_self, Aa, Tm.args_mk, Tm.name_mk, List.map_cons, List.map_nil, List.map_append, Tm.size, Tm.sizes]
  omega
theorem TV (l : List Int) (hl : ∀ n ∈ l, inR .i64 n) (hm : l.length ≤ maxLen) (vars : Int) (hv : 1 ≤ vars ∧ vars ≤ 4) (most at_ : Nat) (h1 : most ≤ 1000) (h2 : at_ + 2 * most ≤ 900000) : ∃ t : Tm, DK l at_ most vars t ∧ t.size + 1 ≤ max 2 (2 * most) ∧ t.chk = 0 ∧ II vars t := by
 obtain ⟨t, a, b, c, d, _⟩ := TG l hl hm vars hv most at_ h1 h2
 exact ⟨t, a, b, c, d⟩
theorem S_ (l : List Int) (hl : ∀ n ∈ l, inR .i64 n) (hm : l.length ≤ maxLen) (vars : Int) (hv : 1 ≤ vars ∧ vars ≤ 4) (most at_ : Nat) (h1 : most ≤ 1000) (h2 : at_ + 2 * most ≤ 900000) : ∃ t : Tm, DK l at_ most vars t ∧ t.size + 1 ≤ max 2 (2 * most) ∧ t.chk = 0 := by
 obtain ⟨t, a, b, c, _⟩ := TV l hl hm vars hv most at_ h1 h2
 exact ⟨t, a, b, c⟩
theorem Qk (l : List Int) (hl : ∀ n ∈ l, inR .i64 n) (hm : l.length ≤ maxLen) (vars : Int) (hv : 1 ≤ vars ∧ vars ≤ 4) (most at_ : Nat) (h1 : most ≤ 1000) (h2 : at_ + 2 * most ≤ 900000) :
  ∃ t : Tm, AT Try.prog 5 [JQ l, AR at_, AR most, AR vars] (aTm t) ∧ t.size + 1 ≤ max 2 (2 * most) ∧ t.chk = 0 := by
 obtain ⟨t, ht, hs, hc⟩ := S_ l hl hm vars hv most at_ h1 h2
 refine ⟨t, ?_, hs, hc⟩
 unfold DK at ht
 refine Mo.ac fun C hC => ?_
 unfold Hp
 repeat' (first | (with_reducible first | refine W ?_ | refine Z0 ?_ | ((first | refine Wo fun K hK => ?_ | refine Wq ?_ | refine Wr ?_); (try simp only [go_sem, fN, seval, eT, iR]); (repeat refine Ai ?_); (try (refine hK _ ?_; clear hK K)))) | refine Cg _ (ht) ?_)
 simp only [go_sem, fN, seval, AN, AS.result, AB, AD, AK]

set_option maxHeartbeats 1600000
def B2 : List (List ByteArray) := [[⟨#[102, 40, 97, 44, 88, 41]⟩, ⟨#[88]⟩, ⟨#[102, 40, 104, 40, 88, 41, 44, 89, 41]⟩, ⟨#[104, 40, 102, 40, 88, 44, 89, 41, 41]⟩],
 [⟨#[102, 40, 88, 44, 97, 41]⟩, ⟨#[88]⟩, ⟨#[102, 40, 88, 44, 104, 40, 89, 41, 41]⟩, ⟨#[104, 40, 102, 40, 88, 44, 89, 41, 41]⟩, ⟨#[102, 40, 97, 44, 88, 41]⟩, ⟨#[88]⟩],
 [⟨#[102, 40, 102, 40, 88, 44, 89, 41, 44, 90, 41]⟩, ⟨#[102, 40, 88, 44, 102, 40, 89, 44, 90, 41, 41]⟩],
 [⟨#[107, 40, 107, 40, 88, 41, 41]⟩, ⟨#[88]⟩, ⟨#[107, 40, 97, 41]⟩, ⟨#[97]⟩, ⟨#[107, 40, 102, 40, 88, 44, 89, 41, 41]⟩, ⟨#[102, 40, 107, 40, 89, 41, 44, 107, 40, 88, 41, 41]⟩],
 [⟨#[102, 40, 88, 44, 88, 41]⟩, ⟨#[88]⟩],
 [⟨#[104, 40, 107, 40, 88, 41, 41]⟩, ⟨#[107, 40, 104, 40, 88, 41, 41]⟩, ⟨#[104, 40, 104, 40, 88, 41, 41]⟩, ⟨#[104, 40, 88, 41]⟩],
 [⟨#[102, 40, 97, 44, 98, 41]⟩, ⟨#[99]⟩, ⟨#[97]⟩, ⟨#[98]⟩],
 [⟨#[103, 40, 88, 44, 89, 41]⟩, ⟨#[102, 40, 89, 44, 88, 41]⟩],
 [⟨#[104, 40, 97, 41]⟩, ⟨#[98]⟩, ⟨#[104, 40, 97, 41]⟩, ⟨#[99]⟩],
 [⟨#[102, 40, 88, 44, 103, 40, 89, 44, 90, 41, 41]⟩, ⟨#[103, 40, 102, 40, 88, 44, 89, 41, 44, 102, 40, 88, 44, 90, 41, 41]⟩]]
noncomputable def Dx : List ByteArray → List Pr
 | a :: b :: l => ((FM a).1, (FM b).1) :: Dx l
 | _ => []
noncomputable def GH (k : Nat) : List Pr := Dx (B2.getD k [])
theorem P7 {L : List ByteArray} {i : Nat} {a b : ByteArray} (ha : L[i]? = some a) (hb : L[i + 1]? = some b) : Dx (L.drop i) = ((FM a).1, (FM b).1) :: Dx (L.drop (i + 2)) := by
 rw [C0 ha, C0 hb, Dx]
theorem Px {L : List ByteArray} {i : Nat} (h : L.length ≤ i + 1) : Dx (L.drop i) = [] := by
 have hl : (L.drop i).length ≤ 1 := by rw [List.length_drop]; omega
 match hd : L.drop i, hl with
 | [], _ => rfl
 | [x], _ => rfl
 | x :: y :: l, hl => exact absurd hl (by simp)
theorem KZ : ∀ L : List ByteArray, 2 * (Dx L).length ≤ L.length
 | [] => by simp [Dx]
 | [x] => by simp [Dx]
 | a :: b :: l => by
  have := KZ l
  simp only [Dx, List.length_cons]
  omega
theorem N8 (k : Nat) (hk : k < 10) : (GH k).length ≤ 3 := by
 have h1 := KZ (B2.getD k [])
 have h2 : ∀ k, k < 10 → (B2.getD k []).length ≤ 6 := by decide
 have h3 := h2 k hk
 unfold GH
 omega
theorem M2 (m : Int) (hm : inR .i64 m) : ∃ k : Nat, k < 10 ∧ Cc m 10 = (k : Int) ∧ EO Try.prog 4 [AR m] 48 4 ((GH k).map EH) := by
 have r1 := BK m 10 (by omega)
 have p1 := EP m 10 hm (by omega)
 obtain ⟨k, e1⟩ : ∃ k : Nat, Cc m 10 = k := ⟨(Cc m 10).toNat, by omega⟩
 rw [e1] at p1 r1
 refine ⟨k, by omega, e1, ?_⟩
 have key : ∀ L : List ByteArray, L.length ≤ 6 → ([[.list [[.str ⟨#[102, 40, 97, 44, 88, 41]⟩], [.str ⟨#[88]⟩], [.str ⟨#[102, 40, 104, 40, 88, 41, 44, 89, 41]⟩], [.str ⟨#[104, 40, 102, 40, 88, 44, 89, 41, 41]⟩]]], [.list [[.str ⟨#[102, 40, 88, 44, 97, 41]⟩], [.str ⟨#[88]⟩], [.str ⟨#[102, 40, 88, 44, 104, 40, 89, 41, 41]⟩], [.str ⟨#[104, 40, 102, 40, 88, 44, 89, 41, 41]⟩], [.str ⟨#[102, 40, 97, 44, 88, 41]⟩], [.str ⟨#[88]⟩]]], [.list [[.str ⟨#[102, 40, 102, 40, 88, 44, 89, 41, 44, 90, 41]⟩], [.str ⟨#[102, 40, 88, 44, 102, 40, 89, 44, 90, 41, 41]⟩]]], [.list [[.str ⟨#[107, 40, 107, 40, 88, 41, 41]⟩], [.str ⟨#[88]⟩], [.str ⟨#[107, 40, 97, 41]⟩], [.str ⟨#[97]⟩], [.str ⟨#[107, 40, 102, 40, 88, 44, 89, 41, 41]⟩], [.str ⟨#[102, 40, 107, 40, 89, 41, 44, 107, 40, 88, 41, 41]⟩]]], [.list [[.str ⟨#[102, 40, 88, 44, 88, 41]⟩], [.str ⟨#[88]⟩]]], [.list [[.str ⟨#[104, 40, 107, 40, 88, 41, 41]⟩], [.str ⟨#[107, 40, 104, 40, 88, 41, 41]⟩], [.str ⟨#[104, 40, 104, 40, 88, 41, 41]⟩], [.str ⟨#[104, 40, 88, 41]⟩]]], [.list [[.str ⟨#[102, 40, 97, 44, 98, 41]⟩], [.str ⟨#[99]⟩], [.str ⟨#[97]⟩], [.str ⟨#[98]⟩]]], [.list [[.str ⟨#[103, 40, 88, 44, 89, 41]⟩], [.str ⟨#[102, 40, 89, 44, 88, 41]⟩]]], [.list [[.str ⟨#[104, 40, 97, 41]⟩], [.str ⟨#[98]⟩], [.str ⟨#[104, 40, 97, 41]⟩], [.str ⟨#[99]⟩]]], [.list [[.str ⟨#[102, 40, 88, 44, 103, 40, 89, 44, 90, 41, 41]⟩], [.str ⟨#[103, 40, 102, 40, 88, 44, 89, 41, 44, 102, 40, 88, 44, 90, 41, 41]⟩]]]] : List (List SV))[k]? = some [.list (L.map C5)] → EO Try.prog 4 [AR m] 48 4 ((Dx L).map EH) := fun L hL hrow => by
  unfold EO
  rw [List.length_map]
  refine Il.acS fun hS C hC => ?_
  unfold E7
  repeat' (first | (with_reducible first | refine W ?_ | refine Z0 ?_ | ((first | refine Wo fun K hK => ?_ | refine Wp ?_ | refine Wq ?_ | refine Wr ?_); (try simp only [go_sem, fN, seval, eT, iR, hrow, dT, dF, nL]); (repeat refine Ai ?_); (try (refine hK _ ?_; clear hK K)); try refine iC ?_)) | refine Cg _ (p1) ?_)
  refine IWP.ghost (Ac.own 5 500 48 4 (xs := ([] : List Pr).map EH) (by rfl) (by rfl) Pk (by rw [hC]; decide)) ?_
  refine IWP.loopD [7, 9] (fun z s => ∃ i acc, i ≤ L.length + 1 ∧ z = L.length + 1 - i ∧ acc.length ≤ i ∧ Dx L = acc ++ Dx (L.drop i) ∧ s.env 4 = Bu L ∧ s.env 5 = .one (.row 500 acc.length) ∧ s.env 6 = AR i ∧ s.S 7 = none ∧ s.S 9 = none ∧ s.S 500 = some (.arow 48 4 (acc.map EH)) ∧ ∀ j, 1000 ≤ j → s.S j = none) (L.length + 1) ⟨0, [], Nat.zero_le _, rfl, Nat.le_refl _, rfl, rfl, rfl, rfl, rfl, rfl, rfl, ?_⟩ ?_
  ·intro j hj
   show AG _ _ _ _ = _
   rw [AH _ (by omega)]
   rfl
  rintro z ⟨env, S⟩ ⟨i, acc, hi, rfl, hal, htot, e4, e5, e6, s7, s9, s500, sh⟩
  simp only at e4 e5 e6 s7 s9 s500 sh
  have hl : (acc.map EH).length = acc.length := by simp
  by_cases hlt : i + 1 < L.length
  ·have hlt' : ((i : Int) + 1 < L.length) := by omega
   obtain ⟨a, ha⟩ := Ay (show i < L.length by omega)
   obtain ⟨b, hb⟩ := Ay hlt
   have hi0 : ((i : Int) + 1).toNat = i + 1 := by omega
   have hra := Oo a
   have hrb := Oo b
   unfold Ky at hra hrb
   repeat' (first | (with_reducible first | refine W ?_ | refine Z0 ?_ | ((first | refine Wo fun K hK => ?_ | refine Wp ?_ | refine Wq ?_ | refine Wr ?_); (try simp only [go_sem, fN, seval, eT, iR, e4, e5, e6, s7, s9, s500, hlt', ha, hb, hi0, EH, hl, dT, dF, nL]); (repeat refine Ai ?_); (try (refine hK _ ?_; clear hK K)); try refine iC ?_)) | refine Cg _ (hra) ?_ | refine Cg _ (hrb) ?_)
   refine AO ⟨L.length + 1 - (i + 2), by omega, i + 2, acc ++ [((FM a).1, (FM b).1)], by omega, rfl, by simp; omega, ?_, ?_⟩
   ·rw [htot, P7 ha hb, List.append_assoc]
    rfl
   ·simp only [go_sem, fN, seval, AS.drop, As, AC.clears, AC.clear, AC.highs, AC.high, Bool.not_false, Bool.true_and, Bool.and_self, AV.purge, AV.purges, AC.purge, AJ.purge, List.contains_cons, List.contains_nil, Nat.reduceBEq, Bool.or_self, Bool.or_false, Bool.false_or, Bool.or_true, eT, iR, e4, e5, e6, s7, s9, s500]
    refine ⟨by congr 3, ?_, fun j hj => ?_⟩
    ·rw [List.map_append]
     rfl
    ·have n7 : (j = 7) = False := eq_false (by omega)
     have n9 : (j = 9) = False := eq_false (by omega)
     have n500 : (j = 500) = False := eq_false (by omega)
     simp [n7, n9, n500, sh j hj]
  ·have hlt' : ¬ ((i : Int) + 1 < L.length) := by omega
   rw [Px (by omega), List.append_nil] at htot
   rw [htot]
   repeat' with_reducible first | refine W ?_ | refine Z0 ?_ | ((first | refine Wo fun K hK => ?_ | refine Wp ?_ | refine Wq ?_ | refine Wr ?_); (try simp only [go_sem, fN, seval, eT, iR, e4, e5, e6, s500, hlt', hl, dT, dF, nL]); (repeat refine Ai ?_); (try (refine hK _ ?_; clear hK K)); try refine iC ?_)
   exact Tg (mu := false) trivial 500 (by decide) s500 sh (by simp [AB, AD, AK, AG])
 match k, (show k < 10 by omega) with
 | 0, _ => exact key (B2.getD 0 []) (by decide) rfl
 | 1, _ => exact key (B2.getD 1 []) (by decide) rfl
 | 2, _ => exact key (B2.getD 2 []) (by decide) rfl
 | 3, _ => exact key (B2.getD 3 []) (by decide) rfl
 | 4, _ => exact key (B2.getD 4 []) (by decide) rfl
 | 5, _ => exact key (B2.getD 5 []) (by decide) rfl
 | 6, _ => exact key (B2.getD 6 []) (by decide) rfl
 | 7, _ => exact key (B2.getD 7 []) (by decide) rfl
 | 8, _ => exact key (B2.getD 8 []) (by decide) rfl
 | 9, _ => exact key (B2.getD 9 []) (by decide) rfl


theorem Lr {t : Tm} (hc : t.chk = 0) (hz : t.size ≤ 200) : t.may = 0 := by
 unfold Tm.may
 rw [if_neg (by omega)]
 exact hc

def Ga : IR :=
 (.seq (.ops [.i 2 (.mov (.c (.one (.full []))))]) (.seq (.ops [.i 4 (.buildFlat [.c (.one (.st (.str (ByteArray.mk (#[97]))))), .c (.one (.st (.str (ByteArray.mk (#[98]))))), .c (.one (.st (.str (ByteArray.mk (#[99]))))), .c (.one (.st (.str (ByteArray.mk (#[104]))))), .c (.one (.st (.str (ByteArray.mk (#[107]))))), .c (.one (.st (.str (ByteArray.mk (#[102]))))), .c (.one (.st (.str (ByteArray.mk (#[103])))))]), .i 5 (.buildFlat [.c (.one (.st (.str (ByteArray.mk (#[103]))))), .c (.one (.st (.str (ByteArray.mk (#[102]))))), .c (.one (.st (.str (ByteArray.mk (#[107]))))), .c (.one (.st (.str (ByteArray.mk (#[104]))))), .c (.one (.st (.str (ByteArray.mk (#[99]))))), .c (.one (.st (.str (ByteArray.mk (#[98]))))), .c (.one (.st (.str (ByteArray.mk (#[97])))))]), .i 6 (.buildFlat [.c (.one (.st (.str (ByteArray.mk (#[102]))))), .c (.one (.st (.str (ByteArray.mk (#[104])))))]), .i 7 (.buildFlat [.c (.one (.st (.str (ByteArray.mk (#[101]))))), .c (.one (.st (.str (ByteArray.mk (#[102]))))), .c (.one (.st (.str (ByteArray.mk (#[105])))))]), .i 8 (.buildFlat [.c (.one (.st (.str (ByteArray.mk (#[99]))))), .c (.one (.st (.str (ByteArray.mk (#[97]))))), .c (.one (.st (.str (ByteArray.mk (#[107]))))), .c (.one (.st (.str (ByteArray.mk (#[104]))))), .c (.one (.st (.str (ByteArray.mk (#[103]))))), .c (.one (.st (.str (ByteArray.mk (#[102])))))]), .i 9 (.buildSlice false 38 1 [.t 4, .t 5, .t 6, .c (.one (.full [])), .t 7, .t 8]), .m 3 9]) (.seq (.ops [.m 10 3, .m 11 0, .m 12 3, .i 13 (.len false (.t 12)), .i 14 (.call 6 [.t 11, .t 13]), .i 15 (.indexAddr 1 (.t 10) (.t 14)), .l 16 15, .m 2 16]) .ret)))
theorem LW : OkF Try.prog 12 17 [] Ga [.t 2] := .of Try.func12 rfl rfl (by kernel_rfl) rfl

theorem Pu (m : Int) (hm : inR .i64 m) : ∃ row, AT Try.prog 12 [AR m] (Bu row) ∧ C3 row = 0 := by
 have r1 := BK m 6 (by omega)
 have p1 := EP m 6 hm (by omega)
 obtain ⟨k, e1⟩ : ∃ k : Nat, Cc m 6 = k := ⟨(Cc m 6).toNat, by omega⟩
 rw [e1] at p1 r1
 have key : ∀ row : List ByteArray, [([.list [[.str ⟨#[97]⟩], [.str ⟨#[98]⟩], [.str ⟨#[99]⟩], [.str ⟨#[104]⟩], [.str ⟨#[107]⟩], [.str ⟨#[102]⟩], [.str ⟨#[103]⟩]]] : List SV), [.list [[.str ⟨#[103]⟩], [.str ⟨#[102]⟩], [.str ⟨#[107]⟩], [.str ⟨#[104]⟩], [.str ⟨#[99]⟩], [.str ⟨#[98]⟩], [.str ⟨#[97]⟩]]], [.list [[.str ⟨#[102]⟩], [.str ⟨#[104]⟩]]], [.list []], [.list [[.str ⟨#[101]⟩], [.str ⟨#[102]⟩], [.str ⟨#[105]⟩]]], [.list [[.str ⟨#[99]⟩], [.str ⟨#[97]⟩], [.str ⟨#[107]⟩], [.str ⟨#[104]⟩], [.str ⟨#[103]⟩], [.str ⟨#[102]⟩]]]][k]? = some [.list (row.map C5)] → AT Try.prog 12 [AR m] (Bu row) := fun row hrow => by
  refine LW.ac fun C hC => ?_
  unfold Ga
  repeat' (first | (with_reducible first | refine W ?_ | refine Z0 ?_ | ((first | refine Wo fun K hK => ?_ | refine Wp ?_ | refine Wq ?_ | refine Wr ?_); (try simp only [go_sem, fN, seval, eT, iR, hrow, dT, dF, nL]); (repeat refine Ai ?_); (try (refine hK _ ?_; clear hK K)); try refine iC ?_)) | refine Cg _ (p1) ?_)
  simp only [go_sem, fN, seval, AN, AS.result, AB, AD, AK]
 match k, (show k < 6 by omega) with
 | 0, _ => exact ⟨[⟨#[97]⟩, ⟨#[98]⟩, ⟨#[99]⟩, ⟨#[104]⟩, ⟨#[107]⟩, ⟨#[102]⟩, ⟨#[103]⟩], key _ rfl, by decide +kernel⟩
 | 1, _ => exact ⟨[⟨#[103]⟩, ⟨#[102]⟩, ⟨#[107]⟩, ⟨#[104]⟩, ⟨#[99]⟩, ⟨#[98]⟩, ⟨#[97]⟩], key _ rfl, by decide +kernel⟩
 | 2, _ => exact ⟨[⟨#[102]⟩, ⟨#[104]⟩], key _ rfl, by decide +kernel⟩
 | 3, _ => exact ⟨[], key _ rfl, by decide +kernel⟩
 | 4, _ => exact ⟨[⟨#[101]⟩, ⟨#[102]⟩, ⟨#[105]⟩], key _ rfl, by decide +kernel⟩
 | 5, _ => exact ⟨[⟨#[99]⟩, ⟨#[97]⟩, ⟨#[107]⟩, ⟨#[104]⟩, ⟨#[103]⟩, ⟨#[102]⟩], key _ rfl, by decide +kernel⟩

def Ce : IR :=
 (.seq (.ops [.i 4 (.mov (.c (.one (.st (.bool false)))))]) (.seq (.seq (.ops [.i 5 (.mov (.n 0))]) (.block 0 (.loop (.seq (.seq (.ops [.m 8 5, .m 9 1, .i 10 (.len false (.t 9)), .i 11 (.bin .lss (.t 8) (.t 10))]) (.cond (.t 11) .skip (.exit 0))) (.seq (.block 1 (.seq (.ops [.m 15 0, .m 16 1, .m 17 5, .i 18 (.indexAddr 4 (.t 16) (.t 17)), .f 19 0 18, .L 20 2 19, .m 21 1, .m 22 5, .i 23 (.indexAddr 4 (.t 21) (.t 22)), .f 24 2 23, .L 25 2 24, .i 26 (.call 8 [.t 15, .t 20, .t 25]), .m 14 26, .i 27 (.extract 0 (.t 14)), .i 28 (.extract 1 (.t 14)), .m 6 27, .m 7 28]) (.seq (.ops [.m 29 7, .i 30 (.bin .neq (.t 29) (.n 0)), .m 31 30, .mk (some 32) (some (31, false)) (.mov (.t 6)) .no, .mk (some 33) (some (31, false)) (.un .not (.t 32)) .no, .i 34 (.pick (.t 31) (.c (.one (.st (.bool true)))) (.t 33))]) (.cond (.t 34) (.seq (.ops [.i 4 (.mov (.c (.one (.st (.bool false)))))]) .ret) .skip)))) (.ops [.m 12 5, .i 13 (.bin .add (.t 12) (.n 1)), .m 5 13])))))) (.seq (.ops [.i 4 (.mov (.c (.one (.st (.bool true)))))]) .ret)))
theorem Ez : OkF Try.prog 11 35 [] Ce [.t 4] := .of Try.func11 rfl rfl (by kernel_rfl) rfl
def Be : IR :=
 (.seq (.ops [.i 8 (.mov (.c (.one (.st (.bool false)))))]) (.seq (.seq (.ops [.m 22 0, .i 23 (.len false (.t 22)), .i 24 (.bin .gtr (.t 23) (.n 256))]) (.cond (.t 24) (.seq (.ops [.i 8 (.mov (.c (.one (.st (.bool true)))))]) .ret) .skip)) (.seq (.ops [.m 25 1, .i 26 (.callN 4 [.t 25]), .m 9 26]) (.seq (.ops [.m 27 0, .m 28 3, .i 29 (.call 6 [.t 28, .n 9]), .i 30 (.bin .add (.n 2) (.t 29)), .i 31 (.call 5 [.t 27, .n 0, .t 30, .n 2]), .i 10 (.alloc 27 [.st (.str (ByteArray.mk (#[]))), .full []]), .s 2 10 31]) (.seq (.ops [.m 33 9, .L 34 2 10, .i 35 (.call 7 [.t 33, .t 34]), .m 32 35, .i 36 (.extract 0 (.t 32)), .i 37 (.extract 1 (.t 32)), .m 11 36, .m 12 37]) (.seq (.ops [.i 39 (.call 10 [.c (.one (.st (.str (ByteArray.mk (#[97])))))]), .i 40 (.call 10 [.c (.one (.st (.str (ByteArray.mk (#[97])))))]), .i 41 (.call 9 [.t 39, .t 40]), .i 42 (.call 10 [.c (.one (.st (.str (ByteArray.mk (#[97])))))]), .i 43 (.call 8 [.c (.one (.full [])), .t 41, .t 42]), .m 38 43, .i 44 (.extract 0 (.t 38)), .i 45 (.extract 1 (.t 38)), .m 13 44, .m 14 45]) (.seq (.seq (.ops [.m 46 12, .i 47 (.bin .neq (.t 46) (.n 0)), .m 48 47, .mk (some 49) (some (48, false)) (.mov (.t 14)) .no, .mk (some 50) (some (48, false)) (.bin .neq (.t 49) (.n 0)) .no, .i 51 (.pick (.t 48) (.c (.one (.st (.bool true)))) (.t 50)), .m 52 51, .mk (some 53) (some (52, false)) (.mov (.t 13)) .no, .mk (some 54) (some (52, false)) (.un .not (.t 53)) .no, .i 55 (.pick (.t 52) (.c (.one (.st (.bool true)))) (.t 54))]) (.cond (.t 55) (.seq (.ops [.i 8 (.mov (.c (.one (.st (.bool false)))))]) .ret) .skip)) (.seq (.seq (.ops [.m 56 2, .i 57 (.call 12 [.t 56]), .m 58 9, .i 59 (.call 11 [.t 57, .t 58]), .i 60 (.un .not (.t 59))]) (.cond (.t 60) (.seq (.ops [.i 8 (.mov (.c (.one (.st (.bool true)))))]) .ret) .skip)) (.seq (.seq (.ops [.i 15 (.mov (.n 0))]) (.block 0 (.loop (.seq (.seq (.ops [.m 61 15, .m 62 11, .i 63 (.len false (.t 62)), .i 64 (.bin .lss (.t 61) (.t 63))]) (.cond (.t 64) .skip (.exit 0))) (.seq (.block 1 (.seq (.ops [.m 68 2, .i 69 (.call 12 [.t 68]), .L 70 2 10, .m 71 11, .m 72 15, .i 73 (.indexAddr 2 (.t 71) (.t 72)), .L 74 2 73, .i 75 (.call 8 [.t 69, .t 70, .t 74]), .m 67 75, .i 76 (.extract 0 (.t 67)), .i 77 (.extract 1 (.t 67)), .m 16 76, .m 17 77]) (.seq (.ops [.m 78 17, .i 79 (.bin .neq (.t 78) (.n 0)), .m 80 79, .mk (some 81) (some (80, false)) (.mov (.t 16)) .no, .mk (some 82) (some (80, false)) (.un .not (.t 81)) .no, .i 83 (.pick (.t 80) (.c (.one (.st (.bool true)))) (.t 82))]) (.cond (.t 83) (.seq (.ops [.i 8 (.mov (.c (.one (.st (.bool false)))))]) .ret) .skip)))) (.ops [.m 65 15, .i 66 (.bin .add (.t 65) (.n 1)), .m 15 66])))))) (.seq (.ops [.m 85 9, .L 86 2 10, .i 87 (.call 13 [.t 85, .t 86, .n 400]), .m 84 87, .i 88 (.extract 0 (.t 84)), .i 89 (.extract 1 (.t 84)), .i 90 (.extract 2 (.t 84)), .i 18 (.alloc 27 [.st (.str (ByteArray.mk (#[]))), .full []]), .s 2 18 88, .m 19 89, .m 12 90]) (.seq (.seq (.ops [.m 91 12, .i 92 (.bin .neq (.t 91) (.n 0))]) (.cond (.t 92) (.seq (.ops [.m 93 12, .i 94 (.bin .eql (.t 93) (.n 9)), .m 95 94, .mk (some 96) (some (95, false)) (.mov (.t 12)) .no, .mk (some 97) (some (95, false)) (.bin .eql (.t 96) (.n 8)) .no, .i 98 (.pick (.t 95) (.c (.one (.st (.bool true)))) (.t 97)), .m 8 98]) .ret) .skip)) (.seq (.seq (.ops [.L 99 2 18, .i 100 (.call 14 [.t 99, .n 200]), .i 101 (.bin .gtr (.t 100) (.n 200))]) (.cond (.t 101) (.seq (.ops [.i 8 (.mov (.c (.one (.st (.bool true)))))]) .ret) .skip)) (.seq (.ops [.m 103 9, .L 104 2 18, .i 105 (.call 7 [.t 103, .t 104]), .m 102 105, .i 106 (.extract 0 (.t 102)), .i 107 (.extract 1 (.t 102)), .m 20 106, .m 21 107]) (.seq (.ops [.m 108 21, .i 109 (.bin .eql (.t 108) (.n 0)), .m 110 109, .mk (some 111) (some (110, true)) (.mov (.t 20)) .no, .mk (some 112) (some (110, true)) (.len false (.t 111)) .no, .mk (some 113) (some (110, true)) (.bin .eql (.t 112) (.n 0)) .no, .i 114 (.pick (.t 110) (.t 113) (.c (.one (.st (.bool false))))), .m 115 114, .mk (some 116) (some (115, true)) (.mov (.t 19)) .no, .mk (some 117) (some (115, true)) (.bin .gtr (.t 116) (.n 0)) .no, .mk (some 118) (some (115, true)) (.mov (.t 11)) .no, .mk (some 119) (some (115, true)) (.len false (.t 118)) .no, .mk (some 120) (some (115, true)) (.bin .gtr (.t 119) (.n 0)) .no, .mk (some 121) (some (115, true)) (.eqB false (.t 117) (.t 120)) .no, .i 122 (.pick (.t 115) (.t 121) (.c (.one (.st (.bool false))))), .m 8 122]) .ret))))))))))))))
theorem CK : OkF Try.prog 3 123 [20000026] Be [.t 8] := .of Try.func3 rfl rfl (by kernel_rfl) rfl
def K9 : IR :=
 (.seq (.ops [.i 2 (.box 27 (.t 0)), .i 3 (.box 27 (.t 1)), .i 4 (.alloc 27 [.st (.str (ByteArray.mk (#[]))), .full []])]) (.seq (.ops [.L 5 2 2, .L 6 2 3, .i 7 (.buildSlice false 27 2 [.t 5, .t 6]), .i 8 (.build [.st (.str (ByteArray.mk (#[]))), .full []] [(0, 1, .c (.one (.st (.str (ByteArray.mk (#[97, 112])))))), (1, 1, .t 7)]), .s 2 4 8]) .ret))
theorem Pq : OkF Try.prog 9 9 [] K9 [.cell 4 true 2] := .of Try.func9 rfl rfl (by kernel_rfl) rfl

set_option maxHeartbeats 2000000
set_option maxRecDepth 100000 in
theorem MM : ∀ k, k < 10 → By (GH k) = 0 ∧ (GH k).all (fun r => decide (r.2.size ≤ 7)) = true
 | 0, _ => ⟨by kernel_rfl, by kernel_rfl⟩
 | 1, _ => ⟨by kernel_rfl, by kernel_rfl⟩
 | 2, _ => ⟨by kernel_rfl, by kernel_rfl⟩
 | 3, _ => ⟨by kernel_rfl, by kernel_rfl⟩
 | 4, _ => ⟨by kernel_rfl, by kernel_rfl⟩
 | 5, _ => ⟨by kernel_rfl, by kernel_rfl⟩
 | 6, _ => ⟨by kernel_rfl, by kernel_rfl⟩
 | 7, _ => ⟨by kernel_rfl, by kernel_rfl⟩
 | 8, _ => ⟨by kernel_rfl, by kernel_rfl⟩
 | 9, _ => ⟨by kernel_rfl, by kernel_rfl⟩
 | k + 10, h => by omega
abbrev TK (f x : Tm) : Tm := .mk ⟨#[97, 112]⟩ [f, x]
theorem SM (f x : Tm) : AT Try.prog 9 [aTm f, aTm x] (aTm (TK f x)) := by
 refine Pq.ac fun C hC => ?_
 unfold K9
 repeat' with_reducible first | refine W ?_ | refine Z0 ?_ | ((first | refine Wo fun K hK => ?_ | refine Wp ?_ | refine Wq ?_ | refine Wr ?_); (try simp only [go_sem, fN, seval, eT, iR, dT, dF, nL]); (repeat refine Ai ?_); (try (refine hK _ ?_; clear hK K)); try refine iC ?_)
 simp only [go_sem, fN, seval, AN, AS.result, AB, AD, AK]
 unfold aTm
 simp only [Tm.args_mk, Tm.name_mk, List.map_cons, List.map_nil, Aa]
theorem Ln {row : List ByteArray} (hrm : C3 row = 0) {t u : Tm} (k1 : t.chk = 0) (q1 : t.size ≤ 200) (k2 : u.chk = 0) (q2 : u.size ≤ 200) : AT Try.prog 8 [Bu row, aTm t, aTm u] (.tup [Ad (paB row t u), AR 0]) := by
 have e : DA row t u = 0 := by
  unfold DA CO
  rw [if_pos hrm, if_pos (Lr k1 q1)]
  exact Lr k2 q2
 have := MV row t u
 unfold OP at this
 rw [if_pos e, e] at this
 exact this
theorem SS {row : List ByteArray} (hrm : C3 row = 0) {R : List Pr} (hR : A_ R) : AT Try.prog 11 [Bu row, Fj R] (Ad (R.all fun r => paB row r.1 r.2)) := by
 have h40 := hR.len
 refine Ez.ac fun C hC => ?_
 unfold Ce
 repeat' with_reducible first | refine W ?_ | refine Z0 ?_ | ((first | refine Wo fun K hK => ?_ | refine Wp ?_ | refine Wq ?_ | refine Wr ?_); (try simp only [go_sem, fN, seval, eT, iR, dT, dF, nL]); (repeat refine Ai ?_); (try (refine hK _ ?_; clear hK K)); try refine iC ?_)
 refine IWP.loop (fun m s => ∃ k, k ≤ R.length ∧ m = R.length - k ∧ (R.take k).all (fun r => paB row r.1 r.2) = true ∧ s.env 0 = Bu row ∧ s.env 1 = Fj R ∧ s.env 5 = AR k) R.length ⟨0, Nat.zero_le _, rfl, rfl, rfl, rfl, rfl⟩ ?_
 rintro m ⟨env, S⟩ ⟨k, hk, rfl, hall, e0, e1, e5⟩
 simp only at e0 e1 e5
 by_cases hkl : k < R.length
 case neg =>
  have hkl' : ¬ (k : Int) < R.length := by omega
  rw [List.take_of_length_le (by omega)] at hall
  repeat' with_reducible first | refine W ?_ | refine Z0 ?_ | ((first | refine Wo fun K hK => ?_ | refine Wp ?_ | refine Wq ?_ | refine Wr ?_); (try simp only [go_sem, fN, seval, eT, iR, e0, e1, e5, hkl', dT, dF, nL]); (repeat refine Ai ?_); (try (refine hK _ ?_; clear hK K)); try refine iC ?_)
  simp only [go_sem, fN, seval, AN, AS.result, AB, AD, AK, hall]
 have hkl' : (k : Int) < R.length := by omega
 obtain ⟨q, hq⟩ := Ay hkl
 have mq := Ah hq
 have a1 := Tm.may_chk (hR.left q mq)
 have a2 := Tm.may_chk (hR.right q mq)
 have cp := Ln hrm a1.1 a1.2 a2.1 a2.2
 cases hb : paB row q.1 q.2 with
 | true =>
  rw [hb] at cp
  repeat' (first | (with_reducible first | refine W ?_ | refine Z0 ?_ | ((first | refine Wo fun K hK => ?_ | refine Wp ?_ | refine Wq ?_ | refine Wr ?_); (try simp only [go_sem, fN, seval, eT, iR, e0, e1, e5, hkl', hq, EH, dT, dF, nL]); (repeat refine Ai ?_); (try (refine hK _ ?_; clear hK K)); try refine iC ?_)) | refine Cg _ (cp) ?_)
  refine AO ⟨R.length - (k + 1), by omega, k + 1, by omega, rfl, ?_, ?_⟩
  ·rw [A0 hq, List.all_append, hall]
   simp [hb]
  ·simp only [go_sem, fN, seval, eT, iR, e0, e1, e5]
   congr 3
 | false =>
  rw [hb] at cp
  have hno : (R.all fun r => paB row r.1 r.2) = false := by
   rw [List.all_eq_false]
   exact ⟨q, mq, by simp [hb]⟩
  repeat' (first | (with_reducible first | refine W ?_ | refine Z0 ?_ | ((first | refine Wo fun K hK => ?_ | refine Wp ?_ | refine Wq ?_ | refine Wr ?_); (try simp only [go_sem, fN, seval, eT, iR, e0, e1, e5, hkl', hq, EH, dT, dF, nL]); (repeat refine Ai ?_); (try (refine hK _ ?_; clear hK K)); try refine iC ?_)) | refine Cg _ (cp) ?_)
  simp only [go_sem, fN, seval, AN, AS.result, AB, AD, AK, hno]
set_option maxRecDepth 100000 in
theorem PF (l : List Int) (m1 m2 m3 : Int) (hl : ∀ n ∈ l, inR .i64 n) (hm : l.length ≤ maxLen) (h1 : inR .i64 m1) (h2 : inR .i64 m2) (h3 : inR .i64 m3) : AT Try.prog 3 [JQ l, AR m1, AR m2, AR m3] (Ad true) := by
 by_cases h256 : (256 : Int) < l.length
 ·refine CK.ac fun C hC => ?_
  unfold Be
  repeat' with_reducible first | refine W ?_ | refine Z0 ?_ | ((first | refine Wo fun K hK => ?_ | refine Wp ?_ | refine Wq ?_ | refine Wr ?_); (try simp only [go_sem, fN, seval, eT, iR, h256, dT, dF, nL]); (repeat refine Ai ?_); (try (refine hK _ ?_; clear hK K)); try refine iC ?_)
  simp only [go_sem, fN, seval, AN, AS.result, AB, AD, AK]
 have r3 := BK m3 9 (by omega)
 have p3 := EP m3 9 h3 (by omega)
 obtain ⟨k3, e3⟩ : ∃ k : Nat, Cc m3 9 = k := ⟨(Cc m3 9).toNat, by omega⟩
 rw [e3] at p3 r3
 obtain ⟨kr, qr, -, c1⟩ := M2 m1 h1
 obtain ⟨g1, g2⟩ := MM kr qr
 have z1 : (GH kr).length ≤ 3 := N8 kr qr
 obtain ⟨row, hrow, hrm⟩ := Pu m2 h2
 obtain ⟨t, ht, zt, ct⟩ := Qk l hl hm 2 (by omega) (2 + k3) 0 (by omega) (by omega)
 rw [show (((2 + k3 : Nat) : Int)) = 2 + (k3 : Int) by omega] at ht
 have zt : t.size ≤ 19 := by omega
 generalize GH kr = R at *
 have hR := Ku g1
 have h7 : ∀ r ∈ R, r.2.size ≤ 7 := fun r hr => of_decide_eq_true (List.all_eq_true.1 g2 r hr)
 obtain ⟨ls, hls, hlz⟩ := Mf h7 ct zt
 have hlc := PS hR ct hls
 have hlen : ls.length ≤ 800 := by
  have hq := F_ (show Ax R (t.places.map (En [] t)) = some ls from hls)
  rw [List.length_map, Tm.places_length] at hq
  have := Nat.mul_le_mul zt hR.len
  omega
 have mt := Lr ct (by omega : t.size ≤ 200)
 have ha : De R t = 0 := by unfold De; rw [if_pos g1]; exact mt
 have cS := M0 R t
 rw [show Eh R t = (ls, 0) by unfold Eh Hc; rw [if_pos ha, hls]] at cS
 dsimp only at cS
 have la : (Tm.mk ⟨#[97]⟩ []).chk = 0 := by decide +kernel
 have lap : (TK (.mk ⟨#[97]⟩ []) (.mk ⟨#[97]⟩ [])).chk = 0 := by decide +kernel
 have cK := Ln (row := []) (by decide +kernel) lap (by decide +kernel) la (by decide +kernel)
 rw [show paB [] (TK (.mk ⟨#[97]⟩ []) (.mk ⟨#[97]⟩ [])) (.mk ⟨#[97]⟩ []) = true from Cu.2 (TI (by decide +kernel) (by simp))] at cK
 have cP2 := SM (.mk ⟨#[97]⟩ []) (.mk ⟨#[97]⟩ [])
 have cL := IS ⟨#[97]⟩
 have cF := SS hrm hR
 have lR : (R.map EH).length = R.length := List.length_map _
 have cI := Sn R t 400
 rw [show IH R t 400 = BV (Tm.inn R) 400 0 t by unfold IH; rw [if_pos ha, show Da 400 = 0 from by decide, if_pos rfl]; rfl] at cI
 unfold Nn at cI
 have hS9 : ∀ (env : Nat → AV) (S : AA), env 9 = .one (.row 26 R.length) → S 26 = some (.arow 48 4 (R.map EH)) → outV S (env 9) = some (Fj R) := fun env S a b => by
  rw [a]
  simp [outV, outC, stC, b, lR]
 unfold aTm at cK cP2 cL
 simp only [Tm.args_mk, Tm.name_mk, List.map_cons, List.map_nil, Aa] at cK cP2 cL
 refine CK.ac fun C hC => ?_
 unfold Be
 cases hb : R.all fun r => paB row r.1 r.2 with
 | false =>
  rw [hb] at cF
  repeat' (first | (with_reducible first | refine W ?_ | refine Z0 ?_ | ((first | refine Wo fun K hK => ?_ | refine Wp ?_ | refine Wq ?_ | refine Wr ?_); (try simp only [go_sem, fN, seval, eT, iR, h256, lR, dT, dF, nL]); (repeat refine Ai ?_); (try (refine hK _ ?_; clear hK K)); try refine iC ?_)) | (first | refine ⟨_, _, _, _, c1, by simp [AG, noS], ?_⟩) | refine Cg _ (p3) ?_ | refine Cg _ (ht) ?_ | refine Cg _ (cS) ?_ | refine Cg _ (cL) ?_ | refine Cg _ (cP2) ?_ | refine Cg _ (cK) ?_ | refine Cg _ (hrow) ?_ | refine Cg _ (cF) ?_)
  simp only [go_sem, fN, seval, AN, AS.result, AB, AD, AK]
 | true =>
  rw [hb] at cF
  have hdown : ∀ r ∈ R, r.1.chk = 0 ∧ Pa row r.1 r.2 := fun r hr => ⟨(Tm.may_chk (hR.left r hr)).1, Cu.1 (List.all_eq_true.1 hb r hr)⟩
  have hdl := Np hdown ct hls
  repeat' (first | (with_reducible first | refine W ?_ | refine Z0 ?_ | ((first | refine Wo fun K hK => ?_ | refine Wp ?_ | refine Wq ?_ | refine Wr ?_); (try simp only [go_sem, fN, seval, eT, iR, h256, lR, dT, dF, nL]); (repeat refine Ai ?_); (try (refine hK _ ?_; clear hK K)); try refine iC ?_)) | (first | refine ⟨_, _, _, _, c1, by simp [AG, noS], ?_⟩) | refine Cg _ (p3) ?_ | refine Cg _ (ht) ?_ | refine Cg _ (cS) ?_ | refine Cg _ (cL) ?_ | refine Cg _ (cP2) ?_ | refine Cg _ (cK) ?_ | refine Cg _ (hrow) ?_ | refine Cg _ (cF) ?_)
  refine IWP.ghost (Ac.settle 9 (hS9 _ _ (by simp [AG]) (by simp [AG]))) ?_
  refine IWP.loop (fun m s => ∃ i, i ≤ ls.length ∧ m = ls.length - i ∧ s.env 2 = AR m2 ∧ s.env 9 = Fj R ∧ s.env 10 = .one (.ptr 10 1 0 0) ∧ s.env 11 = Iq ls ∧ s.env 15 = AR i ∧ s.S 10 = some (.box 27 [.st (.str t.name), .st (.list (t.args.map Ap))]) ∧ s.S 18 = none) ls.length ⟨0, Nat.zero_le _, rfl, rfl, rfl, rfl, rfl, rfl, rfl, rfl⟩ ?_
  rintro m ⟨env, S⟩ ⟨i, hi, rfl, e2, e9, e10, e11, e15, s10, s18⟩
  simp only at e2 e9 e10 e11 e15 s10 s18
  by_cases hil : i < ls.length
  ·have hil' : (i : Int) < ls.length := by omega
   obtain ⟨x, hx⟩ := Ay hil
   have mx := Ah hx
   have cp := Ln hrm ct (by omega) (hlc x mx).1 (by have := hlz x mx; omega)
   rw [Cu.2 (hdl x mx)] at cp
   repeat' (first | (with_reducible first | refine W ?_ | refine Z0 ?_ | ((first | refine Wo fun K hK => ?_ | refine Wp ?_ | refine Wq ?_ | refine Wr ?_); (try simp only [go_sem, fN, seval, eT, iR, e2, e9, e10, e11, e15, s10, s18, hil', hx, dT, dF, nL]); (repeat refine Ai ?_); (try (refine hK _ ?_; clear hK K)); try refine iC ?_)) | refine Cg _ (hrow) ?_ | refine Cg _ (cp) ?_)
   refine AO ⟨ls.length - (i + 1), by omega, i + 1, by omega, rfl, ?_⟩
   simp only [go_sem, fN, seval, eT, iR, e2, e9, e10, e11, e15, s10, s18]
   congr 3
  have hil' : ¬ (i : Int) < ls.length := by omega
  have herr := Jz hR 400 0 t ct
  have hstop := KU (step := Tm.inn R) 400 0 t
  have hxz := I3 (step := Tm.inn R) 400 0 t
  have hxc := Oj (inner := true) hR 400 0 t ct
  rw [show Oe true R = Tm.inn R from rfl] at hxc
  generalize BV (Tm.inn R) 400 0 t = X at *
  obtain ⟨x, n, e⟩ := X
  simp only at herr hstop hxz hxc cI
  by_cases he : e = 0
  case neg =>
   rcases herr with rfl | rfl | rfl
   ·exact absurd rfl he
   ·repeat' (first | (with_reducible first | refine W ?_ | refine Z0 ?_ | ((first | refine Wo fun K hK => ?_ | refine Wp ?_ | refine Wq ?_ | refine Wr ?_); (try simp only [go_sem, fN, seval, eT, iR, e2, e9, e10, e11, e15, s10, s18, hil', dT, dF, nL]); (repeat refine Ai ?_); (try (refine hK _ ?_; clear hK K)); try refine iC ?_)) | refine Cg _ (cI) ?_)
    simp only [go_sem, fN, seval, AN, AS.result, AB, AD, AK]
   ·repeat' (first | (with_reducible first | refine W ?_ | refine Z0 ?_ | ((first | refine Wo fun K hK => ?_ | refine Wp ?_ | refine Wq ?_ | refine Wr ?_); (try simp only [go_sem, fN, seval, eT, iR, e2, e9, e10, e11, e15, s10, s18, hil', dT, dF, nL]); (repeat refine Ai ?_); (try (refine hK _ ?_; clear hK K)); try refine iC ?_)) | refine Cg _ (cI) ?_)
    simp only [go_sem, fN, seval, AN, AS.result, AB, AD, AK]
  subst he
  obtain ⟨q1, q2⟩ := hstop rfl
  have hxc : x.chk = 0 := hxc.resolve_right (by simp)
  have s2 := Sy x 200 (by omega) (by omega)
  by_cases g : 200 < Bz x.size 200
  ·repeat' (first | (with_reducible first | refine W ?_ | refine Z0 ?_ | ((first | refine Wo fun K hK => ?_ | refine Wp ?_ | refine Wq ?_ | refine Wr ?_); (try simp only [go_sem, fN, seval, eT, iR, e2, e9, e10, e11, e15, s10, s18, hil', g, dT, dF, nL]); (repeat refine Ai ?_); (try (refine hK _ ?_; clear hK K)); try refine iC ?_)) | refine Cg _ (cI) ?_ | refine Cg _ (s2) ?_)
   simp only [go_sem, fN, seval, AN, AS.result, AB, AD, AK]
  have hx200 : x.size ≤ 200 := by
   unfold Bz at g
   split at g <;> omega
  have cM := M0 R x
  have ha2 : De R x = 0 := by unfold De; rw [if_pos g1]; exact Lr hxc hx200
  rw [show Eh R x = ([], 0) by unfold Eh Hc; rw [if_pos ha2, Iz q1]] at cM
  dsimp only at cM
  have hfin : decide ((0 : Int) < n) = decide ((0 : Int) < (ls.length : Int)) := by
   rcases q2 with ⟨h1, h2⟩ | ⟨h1, h2⟩
   ·rw [Iz h2] at hls
    cases hls
    rw [h1]
    rfl
   ·have := OH h2 hls
    have h3 : 0 < ls.length := List.length_pos_iff.2 this
    rw [decide_eq_true h1, decide_eq_true (show (0 : Int) < ls.length by omega)]
  repeat' (first | (with_reducible first | refine W ?_ | refine Z0 ?_ | ((first | refine Wo fun K hK => ?_ | refine Wp ?_ | refine Wq ?_ | refine Wr ?_); (try simp only [go_sem, fN, seval, eT, iR, e2, e9, e10, e11, e15, s10, s18, hil', g, hfin, dT, dF, nL]); (repeat refine Ai ?_); (try (refine hK _ ?_; clear hK K)); try refine iC ?_)) | refine Cg _ (cI) ?_ | refine Cg _ (s2) ?_ | refine Cg _ (cM) ?_)
  simp only [go_sem, fN, seval, AN, AS.result, AB, AD, AK]

open Go.ChangeShapes Go.WideShapes Go.ChangeAt
section
variable {H : Type} {enc : TypeId × Value → H} {P : Program}
theorem Fp (hl : laidOutB P = true) : ∀ {ts : List TypeId} {vs : List Value} {ds : List (DataW H)} {ps : List MemPlace} {W W' : World} {sp : Nat → Bool},
  (∀ t ∈ ts, P.readableRec t = true ∧ t < P.types.size) → DataW.TrodAll enc P W 0 (fun _ => true) true ts vs ds ps → (∀ p ∈ ps, W.sameAt W' p) → (∀ p ∈ ps, sp p.block = true) → DataW.TrodAll enc P W' 0 sp true ts vs ds ps
 | [], [], [], _, _, _, _, _, h, _, _ => h
 | _ :: _, _ :: _, _ :: _, _, _, _, _, hT, ⟨p, q, h1, h2, e⟩, hsame, hs => ⟨p, q, WideElems.Trod_stays hl (hT _ (List.mem_cons.2 (Or.inl rfl))).1 (hT _ (List.mem_cons.2 (Or.inl rfl))).2 h1 (fun x hx => hsame x (by rw [e]; exact List.mem_append_left _ hx)) (fun x hx => hs x (by rw [e]; exact List.mem_append_left _ hx)),
   Fp hl (fun t ht => hT t (List.mem_cons.2 (Or.inr ht))) h2 (fun x hx => hsame x (by rw [e]; exact List.mem_append_right _ hx)) (fun x hx => hs x (by rw [e]; exact List.mem_append_right _ hx)), e⟩
 | [], _ :: _, _, _, _, _, _, _, h, _, _ => h.elim
 | [], [], _ :: _, _, _, _, _, _, h, _, _ => h.elim
 | _ :: _, [], _, _, _, _, _, _, h, _, _ => h.elim
 | _ :: _, _ :: _, [], _, _, _, _, _, h, _, _ => h.elim
theorem QR {f : Func} {s : ChangeSpec} {apart fresh handsOn : Bool} {W W' : World} {args : Array Value} {ds : List (DataW H)} {before : List MemPlace} {tb : TypeId}
  (hW : DataW.Whole enc P f.params.toList s.vars apart W args.toList ds [] before) (hv : s.vars = []) (hr : f.resultTypes = #[tb]) (htb : P.underlying tb = some .bool)
  (hres : (s.fn H (ds ++ [])).results = [.lit (.bool true)]) (hargs : (s.fn H (ds ++ [])).args = ds) (hvs : (s.fn H (ds ++ [])).vars = [])
  (hl : laidOutB P = true) (hT : (f.params.toList.all fun t => P.readableRec t && decide (t < P.types.size)) = true) (hb : Below W.heap.size W W') :
  s.post enc P f apart fresh handsOn false W args (.bool true) W' := by
 have hlt : ∀ p ∈ before, p.block < W.heap.size := fun p hp => hW.lt p hp
 have hT' : ∀ t ∈ f.params.toList, P.readableRec t = true ∧ t < P.types.size := fun t ht => by
  have := List.all_eq_true.1 hT t ht
  simpa using this
 obtain ⟨p, q, hA, hV, rfl, hz, hn⟩ := hW
 rw [hv] at hV
 obtain ⟨_, rfl⟩ := trodVars_none hV
 have hargs' : ∀ sp : Nat → Bool, (∀ x ∈ p, sp x.block = true) → DataW.TrodAll enc P W' 0 sp true f.params.toList args.toList ds p := fun sp hsp =>
  Fp hl hT' hA (fun x hx => hb.same (hlt x (by simpa using hx))) hsp
 have hres' : ∀ (b : Nat) (sp : Nat → Bool) (hd : Bool), DataW.TrodAll enc P W' b sp hd f.resultTypes.toList ((Value.bool true).resultList f.resultTypes.size) (s.fn H (ds ++ [])).results [] := fun b sp hd => by
  rw [hres, hr]
  exact trodAll_cons_mk (shut_bool htb true) trodAll_mk0
 refine ⟨ds, [], p ++ [], [], p, [], ⟨p, [], hA, by rw [hv]; exact rfl, rfl, hz, hn⟩, hres' _ _ _, by rw [hargs]; exact hargs' _ (fun x hx => by simpa using hlt x (by simpa using hx)), by rw [hv, hvs]; exact rfl,
  World.keptBut_mono (fun x hx => ⟨hx, Or.inr (by simpa using hx)⟩) (hb.frame (· ∈ p ++ [])), fun h => by cases h⟩
variable {W : World} {sp : Nat → Bool} {hd : Bool} {base : Nat}
def sto (W : World) : Sto := Ca W
theorem R_ (W : World) : Fit (sto W) W := fun _ _ h => h
theorem KE {W : World} {a : Addr} {v : Value} (h : W.cell? a = some v) : a.spot = none := by
 cases hs : a.spot with
 | none => rfl
 | some n =>
  unfold World.cell? at h
  split at h
  ·simp [hs] at h
  ·cases h
theorem MB {α : Type} {p : Nat → α → Prop} {n : Nat} (h : ∀ i, i < n → ∃ b, p i b) : ∃ xs : List α, xs.length = n ∧ ∀ i (h : i < xs.length), p i xs[i] := by
 induction n with
 | zero => exact ⟨[], rfl, fun i h => absurd h (by simp)⟩
 | succ m ih =>
  obtain ⟨xs, h1, h2⟩ := ih (fun i hi => h i (by omega))
  obtain ⟨b, h3⟩ := h m (by omega)
  refine ⟨xs ++ [b], by simp [h1], fun i hi => ?_⟩
  by_cases him : i < xs.length
  ·rw [List.getElem_append_left him]
   exact h2 i him
  ·have : i = xs.length := by simp at hi; omega
   subst this
   rw [show (xs ++ [b])[xs.length]'hi = b by simp, h1]
   exact h3
theorem Lz {α : Type} {e0 : α → List SV} {t e : TypeId} {k : Nat} {fuel : Nat} {cs : List Value} {x : DataW H × List MemPlace} (ht : P.underlying t = some (.slice e)) (hc : P.cellsOf e = k) (hlen : ∀ a, (e0 a).length = k) (hk : 0 < k)
  (f : ∀ (n : Nat) (cs : List Value) (y : DataW H × List MemPlace), n < fuel → DataW.trod enc P W base sp hd n e cs = some y → ∃ a : α, AY (Ak (sto W)) cs (e0 a))
  (h : DataW.trod enc P W base sp hd fuel t cs = some x) (hs : BS = true → k < 2 := by decide) : ∃ xs : List α, AY (Ak (sto W)) cs [.list (xs.map e0)] := by
 rcases DataW.trod_slice ht h with ⟨rfl, _⟩ | ⟨a, len, cap, Cw, rest, n, hfu, rfl, _, hb, hl, hm, hlen', hel, _, _⟩
 ·exact ⟨[], .cons MT .nil⟩
 ·have key : ∀ i, i < len → ∃ (b : α), ∃ (cs' : List Value), cs'.length = k ∧ (∀ j u, cs'[j]? = some u → W.cell? ((a.add (i * k)).add j) = some u) ∧ AY (Ak (sto W)) cs' (e0 b) := fun i hi => by
   have h1 := hel i hi
   rw [List.getElem?_eq_getElem (by omega)] at h1
   obtain ⟨cs', h2, h3⟩ := Option.bind_eq_some_iff.1 h1
   obtain ⟨_, h4, h5⟩ := World.cells?_some h2
   obtain ⟨b, hb⟩ := f n cs' _ (by omega) h3
   rw [hc] at h4 h5
   refine ⟨b, cs', h4, fun j u hj => ?_, hb⟩
   rw [h5 j (by have := (List.getElem?_eq_some_iff.1 hj).1; omega)]
   exact hj
  obtain ⟨xs, hxl, hxs⟩ : ∃ xs : List α, xs.length = len ∧ ∀ i (h : i < xs.length), ∃ cs' : List Value, cs'.length = k ∧ (∀ j u, cs'[j]? = some u → W.cell? ((a.add (i * k)).add j) = some u) ∧ AY (Ak (sto W)) cs' (e0 xs[i]) := MB key
  have cell : ∀ m y j z, (xs.map e0)[m]? = some y → y[j]? = some z → ∃ v, W.cell? ⟨a.block, a.off + m * k + j, none⟩ = some v ∧ Ak (sto W) v z := fun m y j z hy hz => by
   rw [List.getElem?_map, Option.map_eq_some_iff] at hy
   obtain ⟨b, hb', rfl⟩ := hy
   obtain ⟨hm', hbe⟩ := List.getElem?_eq_some_iff.1 hb'
   obtain ⟨cs', c1, c2, c3⟩ := hxs m hm'
   rw [hbe] at c3
   obtain ⟨v, v1, v2⟩ := c3.get hz
   refine ⟨v, ?_, v2⟩
   have := c2 j v v1
   have hsp := KE this
   rw [← this]
   congr 1
   have h7 : ((a.add (m * k)).add j).block = a.block ∧ ((a.add (m * k)).add j).off = a.off + m * k + j := by
    unfold Addr.add
    split <;> split <;> simp_all
   generalize (a.add (m * k)).add j = q at *
   cases q
   simp_all
  refine ⟨xs, .cons (.list (b := a.block) (o := a.off) (w := k) (fun m j => (W.cell? ⟨a.block, a.off + m * k + j, none⟩).getD undef) (by simp [hxl]) hl hm (by simp) (fun h0 => ?_) (fun y hy => ?_) (fun q1 q2 _ => absurd (hs q1) (by omega)) (fun m y j z hy hz => ?_) (fun m y j z hy hz => ?_)) .nil⟩
  ·obtain ⟨cs', h1, h2, h3⟩ := hxs 0 (by omega)
   have h4 : W.cell? a = some (cs'[0]'(by omega)) := by
    have := h2 0 _ (List.getElem?_eq_getElem (by omega))
    simpa [Addr.add] using this
   have := KE h4
   cases a
   simp_all
  ·obtain ⟨b, _, rfl⟩ := List.mem_map.1 hy
   exact hlen b
  ·obtain ⟨v, v1, v2⟩ := cell m y j z hy hz
   show W.cell? _ = _
   rw [v1]; rfl
  ·obtain ⟨v, v1, v2⟩ := cell m y j z hy hz
   rw [v1]; exact v2
theorem NJ {t : TypeId} (ht : P.underlying t = some (.int .i64)) (fuel : Nat) (cs : List Value) (x : DataW H × List MemPlace) (h : DataW.trod enc P W base sp hd fuel t cs = some x) : ∃ n : Int, AY (Ak (sto W)) cs (Qj n) := by
 obtain ⟨n, rfl, _, hn⟩ := DataW.trod_int ht h
 exact ⟨n, .cons (.int (by rw [Dg]; simpa [Lit.wf, IntKind.min, IntKind.max, IntKind.signed, IntKind.bits] using hn)) .nil⟩
theorem LM {t : TypeId} (ht : P.underlying t = some (.int .i64)) {r : Reach} {b0 : Nat} {v : Value} {d : DataW H} {p : List MemPlace} (hv : Value.okWide P W r b0 t v) (h : DataW.Trod enc P W base sp hd t v d p) : ∃ n : Int, AM (sto W) noS noH v (AR n) := by
 obtain ⟨n, rfl⟩ := okWide_int ht hv
 obtain ⟨fuel, hf⟩ := h
 obtain ⟨m, hm⟩ := NJ ht fuel _ _ hf
 have : AY (Ak (sto W)) [.int .i64 n] (Qj m) := hm
 cases this with
 | cons h1 h2 => exact ⟨m, .one (.st h1)⟩
theorem QU {α : Type} {e0 : α → List SV} {t e : TypeId} {k : Nat} (ht : P.underlying t = some (.slice e)) (hc : P.cellsOf e = k) (hlen : ∀ a, (e0 a).length = k) (hk : 0 < k) {r : Reach} {b0 : Nat} {v : Value} {d : DataW H} {p : List MemPlace} (hv : Value.okWide P W r b0 t v)
  (f : ∀ (n : Nat) (cs : List Value) (y : DataW H × List MemPlace), DataW.trod enc P W base sp hd n e cs = some y → ∃ a : α, AY (Ak (sto W)) cs (e0 a)) (h : DataW.Trod enc P W base sp hd t v d p) (hs : BS = true → k < 2 := by decide) : ∃ xs : List α, AM (sto W) noS noH v (.one (.st (.list (xs.map e0)))) := by
 obtain ⟨a, len, cap, rfl⟩ := okWide_slice ht hv
 obtain ⟨fuel, hf⟩ := h
 obtain ⟨xs, hxs⟩ := Lz ht hc hlen hk (fun n cs y _ hy => f n cs y hy) hf hs
 have : AY (Ak (sto W)) [.slice a len cap] [.list (xs.map e0)] := hxs
 cases this with
 | cons h1 h2 => exact ⟨xs, .one (.st h1)⟩
end
theorem OD {σ : Sto} (h : L4 = [] := by rfl) : B6 σ := fun x hx => by simp [h] at hx
theorem Mw {P : Program} {f : FuncId} {xs : List AV} {b : Bool} (h : AT P f xs (Ad b)) {σ : Sto} {w : World} {vs : List Value} (hg : B6 σ) (hf : Fit σ w) (hv : AY (AM σ noS noH) vs xs) :
  Calls P f vs.toArray w fun e w' => e = .returned (.bool b) ∧ Below w.heap.size w w' := (h σ w vs hg hf hv).mono fun e w' ⟨v, σ', he, hv, _, _, hb⟩ => by
 rw [Ci hv] at he
 exact ⟨he, hb⟩

section
variable {H : Type} {enc : TypeId × Value → H} {W : World} {sp : Nat → Bool} {hd : Bool} {base : Nat}
set_option maxRecDepth 100000 in
theorem RD {r : Reach} {b0 : Nat} {v : Value} {d : DataW H} {p : List MemPlace} (hv : Value.okWide Try.prog W r b0 22 v) (h : DataW.Trod enc Try.prog W base sp hd 22 v d p) : ∃ l : List Int, AM (sto W) noS noH v (JQ l) :=
 QU (k := 1) Try.underlying22 (by kernel_rfl) (fun _ => rfl) (by decide) hv (NJ Try.underlying3) h
end

end Go.Proofs.Ytlbpdlnndnfnlaa
namespace Go.Proofs.Ytlbpdlnndnfnlaa.topDown
open Go Go.RowKit Go.ChangeShapes Go.WideShapes Go.ChangeAt
set_option linter.unusedVariables false
theorem own : ownKnob Try.prog.godebug = none := by kernel_rfl
theorem Ts : laidOutB Try.prog = true := by kernel_rfl
set_option maxRecDepth 100000 in
theorem RY (H : Type) (enc : TypeId × Value → H) (W : World) (base : Nat) (args : Array Value) (ds gs : List (DataW H)) (before : List MemPlace)
  (hval : ∀ (j : Nat) t v, Try.f3.params[j]? = some t → args[j]? = some v → Value.okWide Try.prog W .any base t v)
  (hW : DataW.Whole enc Try.prog Try.f3.params.toList Rows.topDownSpec.vars false W args.toList ds gs before) :
  Calls Try.prog 3 args W fun e W' => ∃ v, e = .returned v ∧ Rows.topDownSpec.post enc Try.prog Try.f3 false true false false W args v W' := by
 obtain ⟨p, q, hA0, hV, rfl, hfz, hnd⟩ := id hW
 obtain ⟨rfl, rfl⟩ := trodVars_none hV
 have hA : DataW.TrodAll enc Try.prog W 0 (fun _ => true) true Try.f3.params.toList args.toList ds p := hA0
 rw [Try.params3] at hA hval
 obtain ⟨v0, v1, v2, v3, d0, d1, d2, d3, p0, p1, p2, p3, hargs, rfl, rfl, h0, h1, h2, h3⟩ := trodAll_four hA
 obtain rfl : args = #[v0, v1, v2, v3] := by cases args; simp_all
 obtain ⟨l, r0⟩ := RD (hval 0 22 v0 rfl rfl) h0
 obtain ⟨m1, r1⟩ := LM Try.underlying3 (hval 1 3 v1 rfl rfl) h1
 obtain ⟨m2, r2⟩ := LM Try.underlying3 (hval 2 3 v2 rfl rfl) h2
 obtain ⟨m3, r3⟩ := LM Try.underlying3 (hval 3 3 v3 rfl rfl) h3
 have k0 := OB r0.known
 refine (Mw (PF l m1 m2 m3 k0.2 k0.1 r1.known r2.known r3.known) OD (R_ W) (vs := [v0, v1, v2, v3]) (.cons r0 (.cons r1 (.cons r2 (.cons r3 .nil))))).mono fun e W' ⟨he, hb⟩ => ⟨_, he, ?_⟩
 exact QR hW rfl rfl Try.underlying4 rfl rfl rfl Ts (by kernel_rfl) hb
set_option maxRecDepth 100000 in
theorem TN (os : Os) (started : os.Started) (H : Type) (enc : TypeId × Value → H) :
  ReturnsInHanded {} Try.checked os 3 .any (Rows.topDownSpec.pre6 enc Try.prog Try.f3 Rows.topDownRow.domain false) (Rows.topDownSpec.post enc Try.prog Try.f3 false true false false) := by
 refine returnsInHanded_of_change (C := Try.checked) own started (by kernel_rfl) Try.func3
  (ChangeSpec.witness6 (enc := enc) (C := Try.checked) false ⟨#[], #[.slice none 0 0, .int .i64 0, .int .i64 0, .int .i64 0], []⟩ 8 (by kernel_rfl) (by kernel_rfl) (by kernel_rfl) (by kernel_rfl)) ?_
 intro W base args ds gs before hval hW _ _
 exact RY H enc W base args ds gs before hval hW
theorem proved : Rows.TopDownSaid :=
 OpenClaim.holds_of_wide 3 Try.f3 rfl rfl rfl rfl rfl rfl rfl ⟨rfl, rfl, rfl, rfl, rfl⟩ rfl rfl rfl rfl rfl (by kernel_rfl) Try.func3 (by kernel_rfl)
  (of_decide_eq_true (by kernel_rfl)) (by unfold Func.isWrapper; first | (rw [if_pos (by decide +kernel)]; kernel_rfl) | (rw [if_neg (by decide +kernel)]; exact ⟨rfl, rfl⟩))
  (fun os started H enc _ => TN os started H enc)

end Go.Proofs.Ytlbpdlnndnfnlaa.topDown
