/-
  Part 9 of the texts. Conditions: none.
-/
import Derived.Test.YtkjlddlllofenaaGreatDoorLoM8
namespace Go.Proofs.YtkjlddlllofenaaGreatDoor
open Go Go.RowKit
set_option maxRecDepth 100000
def ir_R_For : IR :=
 (.seq (.ops [.i 4 (.alloc 61 [.st (.str (ByteArray.mk (#[]))), .full []]), .i 5 (.mov (.c (.one (.st (.bool false)))))]) (.seq (.seq (.ops [.i 6 (.mov (.n 0))]) (.block 0 (.loop (.seq (.seq (.ops [.m 7 6, .m 8 0, .i 9 (.len false (.t 8)), .i 10 (.bin .lss (.t 7) (.t 9))]) (.cond (.t 10) .skip (.exit 0))) (.seq (.block 1 (.seq (.ops [.m 13 0, .m 14 6, .i 15 (.indexAddr 3 (.t 13) (.t 14)), .f 16 0 15, .l 17 16, .m 18 1, .i 19 (.bin .eql (.t 17) (.t 18))]) (.cond (.t 19) (.seq (.ops [.m 20 0, .m 21 6, .i 22 (.indexAddr 3 (.t 20) (.t 21)), .f 23 1 22, .L 24 2 23, .s 2 4 24, .i 5 (.mov (.c (.one (.st (.bool true)))))]) .ret) .skip))) (.ops [.m 11 6, .i 12 (.bin .add (.t 11) (.n 1)), .m 6 12])))))) (.seq (.ops [.i 25 (.build [.st (.str (ByteArray.mk (#[]))), .full []] []), .s 2 4 25, .i 5 (.mov (.c (.one (.st (.bool false)))))]) .ret)))
theorem ok_R_For : OkF Tryz.prog 71 26 [] ir_R_For [.cell 4 true 2, .t 5] := .of Tryz.func71 rfl rfl (by kernel_rfl) rfl
def ir_R_grown : IR :=
 (.seq (.ops [.i 4 (.box 61 (.t 1)), .i 6 (.mov (.n 0))]) (.seq (.ops [.m 12 0, .f 13 0 4, .l 14 13, .i 15 (.call 71 [.t 12, .t 14]), .m 11 15, .i 16 (.extract 0 (.t 11)), .i 17 (.extract 1 (.t 11)), .i 7 (.alloc 61 [.st (.str (ByteArray.mk (#[]))), .full []]), .s 2 7 16, .m 8 17]) (.seq (.seq (.ops [.m 18 8, .m 19 18, .mk (some 20) (some (19, true)) (.fieldAddr 1 (.t 4)) .no, .mk (some 21) (some (19, true)) (.load false 1 (.t 20)) .no, .mk (some 22) (some (19, true)) (.len false (.t 21)) .no, .mk (some 23) (some (19, true)) (.bin .eql (.t 22) (.n 0)) .no, .i 24 (.pick (.t 19) (.t 23) (.c (.one (.st (.bool false)))))]) (.cond (.t 24) (.seq (.ops [.L 25 2 7, .m 26 2, .i 27 (.call 72 [.t 25, .t 26]), .m 6 27]) .ret) .skip)) (.seq (.ops [.i 9 (.mov (.n 1))]) (.seq (.seq (.ops [.i 10 (.mov (.n 0))]) (.block 0 (.loop (.seq (.seq (.ops [.m 28 10, .f 29 1 4, .l 30 29, .i 31 (.len false (.t 30)), .i 32 (.bin .lss (.t 28) (.t 31)), .m 33 32, .mk (some 34) (some (33, true)) (.mov (.t 9)) .no, .mk (some 35) (some (33, true)) (.mov (.t 2)) .no, .mk (some 36) (some (33, true)) (.bin .leq (.t 34) (.t 35)) .no, .i 37 (.pick (.t 33) (.t 36) (.c (.one (.st (.bool false)))))]) (.cond (.t 37) .skip (.exit 0))) (.seq (.block 1 (.ops [.m 40 9, .m 41 0, .f 42 1 4, .l 43 42, .m 44 10, .i 45 (.indexAddr 2 (.t 43) (.t 44)), .L 46 2 45, .m 47 2, .m 48 9, .i 49 (.bin .sub (.t 47) (.t 48)), .i 50 (.call 50 [.t 41, .t 46, .t 49]), .i 51 (.bin .add (.t 40) (.t 50)), .m 9 51])) (.ops [.m 38 10, .i 39 (.bin .add (.t 38) (.n 1)), .m 10 39])))))) (.seq (.seq (.ops [.m 52 9, .m 53 2, .i 54 (.bin .gtr (.t 52) (.t 53))]) (.cond (.t 54) (.seq (.ops [.m 55 2, .i 56 (.bin .add (.t 55) (.n 1)), .m 6 56]) .ret) .skip)) (.seq (.ops [.m 57 9, .m 6 57]) .ret)))))))
theorem ok_R_grown : OkF Tryz.prog 50 58 [] ir_R_grown [.t 6] := .of Tryz.func50 rfl rfl (by kernel_rfl) rfl
def ir_R_on : IR :=
 (.seq (.ops [.i 3 (.box 61 (.t 1)), .i 4 (.alloc 61 [.st (.str (ByteArray.mk (#[]))), .full []])]) (.seq (.ops [.m 10 0, .f 11 0 3, .l 12 11, .i 13 (.call 71 [.t 10, .t 12]), .m 9 13, .i 14 (.extract 0 (.t 9)), .i 15 (.extract 1 (.t 9)), .i 5 (.alloc 61 [.st (.str (ByteArray.mk (#[]))), .full []]), .s 2 5 14, .m 6 15]) (.seq (.seq (.ops [.m 16 6, .m 17 16, .mk (some 18) (some (17, true)) (.fieldAddr 1 (.t 3)) .no, .mk (some 19) (some (17, true)) (.load false 1 (.t 18)) .no, .mk (some 20) (some (17, true)) (.len false (.t 19)) .no, .mk (some 21) (some (17, true)) (.bin .eql (.t 20) (.n 0)) .no, .i 22 (.pick (.t 17) (.t 21) (.c (.one (.st (.bool false)))))]) (.cond (.t 22) (.seq (.ops [.L 23 2 5, .s 2 4 23]) .ret) .skip)) (.seq (.ops [.f 24 0 3, .l 25 24, .i 26 (.build [.st (.str (ByteArray.mk (#[]))), .full []] [(0, 1, .t 25)]), .i 7 (.alloc 61 [.st (.str (ByteArray.mk (#[]))), .full []]), .s 2 7 26]) (.seq (.seq (.ops [.i 8 (.mov (.n 0))]) (.block 0 (.loop (.seq (.seq (.ops [.m 27 8, .f 28 1 3, .l 29 28, .i 30 (.len false (.t 29)), .i 31 (.bin .lss (.t 27) (.t 30))]) (.cond (.t 31) .skip (.exit 0))) (.seq (.block 1 (.ops [.f 34 1 7, .l 35 34, .m 36 0, .f 37 1 3, .l 38 37, .m 39 8, .i 40 (.indexAddr 2 (.t 38) (.t 39)), .L 41 2 40, .i 42 (.call 51 [.t 36, .t 41]), .i 43 (.buildSlice false 61 2 [.t 42]), .i 44 (.append false 61 2 40 (.t 35) (.t 43)), .f 45 1 7, .s 1 45 44])) (.ops [.m 32 8, .i 33 (.bin .add (.t 32) (.n 1)), .m 8 33])))))) (.seq (.ops [.L 46 2 7, .s 2 4 46]) .ret))))))
theorem ok_R_on : OkF Tryz.prog 51 47 [] ir_R_on [.cell 4 true 2] := .of Tryz.func51 rfl rfl (by kernel_rfl) rfl
def ir_R_On : IR :=
 (.seq (.ops [.i 3 (.box 61 (.t 1)), .i 4 (.alloc 61 [.st (.str (ByteArray.mk (#[]))), .full []]), .i 5 (.mov (.c (.one (.st (.bool false)))))]) (.seq (.seq (.ops [.m 6 0, .L 7 2 3, .i 8 (.call 50 [.t 6, .t 7, .n 2000]), .i 9 (.bin .gtr (.t 8) (.n 2000))]) (.cond (.t 9) (.seq (.ops [.i 10 (.build [.st (.str (ByteArray.mk (#[]))), .full []] []), .s 2 4 10, .i 5 (.mov (.c (.one (.st (.bool false)))))]) .ret) .skip)) (.seq (.ops [.m 11 0, .L 12 2 3, .i 13 (.call 51 [.t 11, .t 12]), .s 2 4 13, .i 5 (.mov (.c (.one (.st (.bool true)))))]) .ret)))
theorem ok_R_On : OkF Tryz.prog 26 14 [] ir_R_On [.cell 4 true 2, .t 5] := .of Tryz.func26 rfl rfl (by kernel_rfl) rfl
def ir_cmp_isNaN_string : IR :=
 (.seq (.ops [.i 2 (.mov (.c (.one (.st (.bool false)))))]) (.seq (.ops [.m 3 0, .m 4 0, .i 5 (.bin .neq (.t 3) (.t 4)), .m 2 5]) .ret))
theorem ok_cmp_isNaN_string : OkF Tryz.prog 112 6 [] ir_cmp_isNaN_string [.t 2] := .of Tryz.func112 rfl rfl (by kernel_rfl) rfl
def ir_cmp_Compare_string : IR :=
 (.seq (.ops [.i 4 (.mov (.n 0))]) (.seq (.ops [.m 7 0, .i 8 (.call 112 [.t 7]), .m 5 8]) (.seq (.ops [.m 9 1, .i 10 (.call 112 [.t 9]), .m 6 10]) (.seq (.seq (.ops [.m 11 5]) (.cond (.t 11) (.seq (.seq (.ops [.m 12 6]) (.cond (.t 12) (.seq (.ops [.i 4 (.mov (.n 0))]) .ret) .skip)) (.seq (.ops [.i 4 (.mov (.c (.one (.st (.int .i64 (-1))))))]) .ret)) .skip)) (.seq (.seq (.ops [.m 13 6]) (.cond (.t 13) (.seq (.ops [.i 4 (.mov (.n 1))]) .ret) .skip)) (.seq (.seq (.ops [.m 14 0, .m 15 1, .i 16 (.bin .lss (.t 14) (.t 15))]) (.cond (.t 16) (.seq (.ops [.i 4 (.mov (.c (.one (.st (.int .i64 (-1))))))]) .ret) .skip)) (.seq (.seq (.ops [.m 17 0, .m 18 1, .i 19 (.bin .gtr (.t 17) (.t 18))]) (.cond (.t 19) (.seq (.ops [.i 4 (.mov (.n 1))]) .ret) .skip)) (.seq (.ops [.i 4 (.mov (.n 0))]) .ret))))))))
theorem ok_cmp_Compare_string : OkF Tryz.prog 102 20 [] ir_cmp_Compare_string [.t 4] := .of Tryz.func102 rfl rfl (by kernel_rfl) rfl
def ir_subst_Find_1 : IR :=
 (.seq (.ops [.i 2 (.box 95 (.t 0)), .i 4 (.mov (.n 0))]) (.seq (.ops [.f 5 0 2, .l 6 5, .m 7 1, .i 8 (.call 102 [.t 6, .t 7]), .m 4 8]) .ret))
theorem ok_subst_Find_1 : OkF Tryz.prog 116 9 [] ir_subst_Find_1 [.t 4] := .of Tryz.func116 rfl rfl (by kernel_rfl) rfl
def ir_slices_BinarySearchFunc_metaprune_api_Bind_metaprune_api_Bind_string : IR :=
 (.seq (.ops [.i 6 (.mov (.n 0)), .i 7 (.mov (.c (.one (.st (.bool false)))))]) (.seq (.ops [.m 12 0, .i 13 (.len false (.t 12)), .m 8 13]) (.seq (.ops [.m 14 8, .i 9 (.mov (.n 0)), .m 10 14]) (.seq (.block 0 (.loop (.seq (.seq (.ops [.m 15 9, .m 16 10, .i 17 (.bin .lss (.t 15) (.t 16))]) (.cond (.t 17) .skip (.exit 0))) (.block 1 (.seq (.ops [.m 18 9, .m 19 10, .i 20 (.bin .add (.t 18) (.t 19)), .i 21 (.conv .u64 (.t 20)), .i 22 (.bin .shr (.t 21) (.c (.one (.st (.int .u64 1))))), .i 23 (.conv .i64 (.t 22)), .m 11 23]) (.seq (.ops [.m 24 2, .m 25 0, .m 26 11, .i 27 (.indexAddr 3 (.t 25) (.t 26)), .L 28 3 27, .m 29 1, .i 30 (.callV (.t 24) [.t 28, .t 29]), .i 31 (.bin .lss (.t 30) (.n 0))]) (.cond (.t 31) (.ops [.m 32 11, .i 33 (.bin .add (.t 32) (.n 1)), .m 9 33]) (.ops [.m 34 11, .m 10 34])))))))) (.seq (.ops [.m 35 9, .m 36 9, .m 37 8, .i 38 (.bin .lss (.t 36) (.t 37)), .m 39 38, .mk (some 40) (some (39, true)) (.mov (.t 2)) .no, .mk (some 41) (some (39, true)) (.mov (.t 0)) .no, .mk (some 42) (some (39, true)) (.mov (.t 9)) .no, .mk (some 43) (some (39, true)) (.indexAddr 3 (.t 41) (.t 42)) .no, .mk (some 44) (some (39, true)) (.load true 3 (.t 43)) .no, .mk (some 45) (some (39, true)) (.mov (.t 1)) .no, .mk (some 46) (some (39, true)) (.callV (.t 40) [.t 44, .t 45]) .no, .mk (some 47) (some (39, true)) (.bin .eql (.t 46) (.n 0)) .no, .i 48 (.pick (.t 39) (.t 47) (.c (.one (.st (.bool false))))), .m 6 35, .m 7 48]) .ret)))))
theorem ok_slices_BinarySearchFunc_metaprune_api_Bind_metaprune_api_Bind_string : OkF Tryz.prog 115 49 [] ir_slices_BinarySearchFunc_metaprune_api_Bind_metaprune_api_Bind_string [.t 6, .t 7] := .of Tryz.func115 rfl rfl (by kernel_rfl) rfl
def ir_subst_Find : IR :=
 (.seq (.ops [.i 4 (.alloc 61 [.st (.str (ByteArray.mk (#[]))), .full []]), .i 5 (.mov (.c (.one (.st (.bool false)))))]) (.seq (.ops [.m 9 0, .m 10 1, .i 11 (.call 115 [.t 9, .t 10, .c (.one (.fn 116 []))]), .m 8 11, .i 12 (.extract 0 (.t 8)), .i 13 (.extract 1 (.t 8)), .m 6 12, .m 7 13]) (.seq (.seq (.ops [.m 14 7, .i 15 (.un .not (.t 14))]) (.cond (.t 15) (.seq (.ops [.i 16 (.build [.st (.str (ByteArray.mk (#[]))), .full []] []), .s 2 4 16, .i 5 (.mov (.c (.one (.st (.bool false)))))]) .ret) .skip)) (.seq (.ops [.m 17 0, .m 18 6, .i 19 (.indexAddr 3 (.t 17) (.t 18)), .f 20 1 19, .L 21 2 20, .s 2 4 21, .i 5 (.mov (.c (.one (.st (.bool true)))))]) .ret))))
theorem ok_subst_Find : OkF Tryz.prog 108 22 [] ir_subst_Find [.cell 4 true 2, .t 5] := .of Tryz.func108 rfl rfl (by kernel_rfl) rfl
def ir_metaprune_subst_maker_copy : IR :=
 (.seq (.ops [.i 4 (.box 61 (.t 1)), .i 6 (.alloc 61 [.st (.str (ByteArray.mk (#[]))), .full []])]) (.seq (.seq (.ops [.m 12 2]) (.cond (.t 12) (.seq (.ops [.m 14 0, .i 15 (.nilCheck (.t 14)), .f 16 0 15, .l 17 16, .f 18 0 4, .l 19 18, .i 20 (.call 108 [.t 17, .t 19]), .m 13 20, .i 21 (.extract 0 (.t 13)), .i 22 (.extract 1 (.t 13)), .i 7 (.alloc 61 [.st (.str (ByteArray.mk (#[]))), .full []]), .s 2 7 21, .m 8 22]) (.seq (.ops [.m 23 8]) (.cond (.t 23) (.seq (.ops [.m 24 0, .L 25 2 7, .i 26 (.callS 98 [.t 24, .t 25, .c (.one (.st (.bool false)))]), .s 2 6 26]) .ret) .skip))) .skip)) (.seq (.seq (.ops [.m 27 0, .i 28 (.nilCheck (.t 27)), .f 29 1 28, .l 30 29, .i 31 (.bin .sub (.t 30) (.n 1)), .i 32 (.nilCheck (.t 27)), .f 33 1 32, .s 1 33 31]) (.seq (.ops [.m 34 0, .i 35 (.nilCheck (.t 34)), .f 36 1 35, .l 37 36, .i 38 (.bin .lss (.t 37) (.n 0))]) (.cond (.t 38) (.seq (.ops [.i 39 (.build [.st (.str (ByteArray.mk (#[]))), .full []] []), .s 2 6 39]) .ret) .skip))) (.seq (.ops [.f 40 0 4, .l 41 40, .i 42 (.build [.st (.str (ByteArray.mk (#[]))), .full []] [(0, 1, .t 41)]), .i 9 (.alloc 61 [.st (.str (ByteArray.mk (#[]))), .full []]), .s 2 9 42]) (.seq (.seq (.ops [.f 43 1 4, .l 44 43, .i 45 (.len false (.t 44)), .i 46 (.mov (.n 0))]) (.block 0 (.loop (.seq (.ops [.i 47 (.bin .lss (.t 46) (.t 45))]) (.seq (.cond (.t 47) .skip (.exit 0)) (.seq (.block 1 (.seq (.ops [.i 48 (.indexAddr 2 (.t 44) (.t 46)), .L 49 2 48, .i 11 (.alloc 61 [.st (.str (ByteArray.mk (#[]))), .full []]), .s 2 11 49]) (.seq (.ops [.mk (some 50) none (.fieldAddr 1 (.t 9)) (.onb 9), .mk (some 51) none (.load false 1 (.t 50)) (.onb 9), .m 52 0, .L 53 2 11, .m 54 2, .mk (some 55) none (.callS 98 [.t 52, .t 53, .t 54]) (.keeps [9, 9]), .i 56 (.buildSlice false 61 2 [.t 55]), .i 57 (.append false 61 2 40 (.t 51) (.t 56)), .f 58 1 9, .s 1 58 57]) (.seq (.ops [.m 59 0, .i 60 (.nilCheck (.t 59)), .f 61 1 60, .l 62 61, .i 63 (.bin .lss (.t 62) (.n 0))]) (.cond (.t 63) (.seq (.ops [.i 64 (.build [.st (.str (ByteArray.mk (#[]))), .full []] []), .s 2 6 64]) .ret) .skip))))) (.ops [.i 65 (.bin .add (.t 46) (.n 1)), .m 46 65]))))))) (.seq (.ops [.L 66 2 9, .s 2 6 66]) .ret))))))
theorem ok_metaprune_subst_maker_copy : OkF Tryz.prog 98 67 [26, 55] ir_metaprune_subst_maker_copy [.cell 6 true 2] := .of Tryz.func98 rfl rfl (by kernel_rfl) rfl
def ir_subst_On : IR :=
 (.seq (.ops [.i 3 (.box 61 (.t 1)), .i 4 (.alloc 61 [.st (.str (ByteArray.mk (#[]))), .full []]), .i 5 (.mov (.c (.one (.st (.bool false)))))]) (.seq (.ops [.m 8 0, .i 9 (.build [.full [], .st (.int .i64 0)] [(0, 1, .t 8), (1, 1, .n 2000)]), .i 10 (.box 131 (.t 9)), .m 6 10]) (.seq (.ops [.m 11 6, .L 12 2 3, .i 13 (.callS 98 [.t 11, .t 12, .c (.one (.st (.bool true)))]), .i 7 (.alloc 61 [.st (.str (ByteArray.mk (#[]))), .full []]), .s 2 7 13]) (.seq (.ops [.L 14 2 7, .m 15 6, .mk (some 16) none (.nilCheck (.t 15)) (.onb 10), .mk (some 17) none (.fieldAddr 1 (.t 16)) (.onb 10), .mk (some 18) none (.load false 1 (.t 17)) (.onb 10), .i 19 (.bin .geq (.t 18) (.n 0)), .mk none none (.store 2 (.t 4) (.t 14)) (.onb 4), .m 5 19]) .ret))))
theorem ok_subst_On : OkF Tryz.prog 80 20 [13, 10060010] ir_subst_On [.cell 4 true 2, .t 5] := .of Tryz.func80 rfl rfl (by kernel_rfl) rfl

set_option linter.unusedVariables false
set_option linter.unusedSimpArgs false
set_option maxHeartbeats 400000
theorem for_a (l : List Bd) (n : ByteArray) : ACalls Tryz.prog 71 [aBds l, aStr n] (.tup [aTm ((lookup l n).getD Tm.nil), aBool (lookup l n).isSome]) := by
 refine ok_R_For.ac fun C hC => ?_
 unfold ir_R_For
 refine IWP.learn 0 (by omega) fun hkn => ?_
 have hkn := known_len hkn
 rw [List.length_map] at hkn
 repeat' (first | (with_reducible first | refine W ?_ | refine Z0 ?_) | ((with_reducible first | refine Wo (fun K hK => ?_) | refine Wq ?_ | refine Wr ?_); (try simp only [go_sem, fN, seval, eT, iR]); (repeat with_reducible refine Ai ?_); (try (refine hK _ ?_; clear hK K))))
 refine IWP.loop (fun m s => ∃ k, k ≤ l.length ∧ m = l.length - k ∧ (∀ c ∈ l.take k, c.1 ≠ n) ∧ s.env 0 = aBds l ∧ s.env 1 = aStr n ∧ s.env 4 = .one (.ptr 4 1 0 0) ∧ s.S 4 = some (.box 61 [.st (.str ⟨#[]⟩), .full []]) ∧ s.env 6 = aInt k) l.length ⟨0, Nat.zero_le _, rfl, by simp, rfl, rfl, rfl, rfl, rfl⟩ ?_
 rintro m ⟨env, S⟩ ⟨k, hk, rfl, h0, e0, e1, e4, s4, e6⟩
 simp only at e0 e1 e4 s4 e6
 by_cases hlt : (k : Int) < l.length
 ·obtain ⟨b, hb⟩ := get_lt (show k < l.length by omega)
  repeat' (first | (with_reducible first | refine W ?_ | refine Z0 ?_) | ((with_reducible first | refine Wo (fun K hK => ?_) | refine Wq ?_ | refine Wr ?_); (try simp only [go_sem, fN, seval, eT, iR, e0, e1, e4, s4, e6, hlt]); (repeat with_reducible refine Ai ?_); (try (refine hK _ ?_; clear hK K))))
  with_reducible refine Wp ?_
  simp only [go_sem, fN, seval, true_implies, false_implies, implies_true, dT, dF, nL, hlt]
  (try with_reducible refine iC ?_)
  repeat' (first | (with_reducible first | refine W ?_ | refine Z0 ?_) | ((with_reducible first | refine Wo (fun K hK => ?_) | refine Wq ?_ | refine Wr ?_); (try simp only [go_sem, fN, seval, eT, iR, e0, e1, e4, s4, e6, hb, encB]); (repeat with_reducible refine Ai ?_); (try (refine hK _ ?_; clear hK K))))
  by_cases he : b.1 = n
  ·with_reducible refine Wp ?_
   simp only [go_sem, fN, seval, true_implies, false_implies, implies_true, dT, dF, nL, he]
   (try with_reducible refine iC ?_)
   repeat' (first | (with_reducible first | refine W ?_ | refine Z0 ?_) | ((with_reducible first | refine Wo (fun K hK => ?_) | refine Wq ?_ | refine Wr ?_); (try simp only [go_sem, fN, seval, eT, iR, e0, e1, e4, s4, e6, hb, encB]); (repeat with_reducible refine Ai ?_); (try (refine hK _ ?_; clear hK K))))
   simp only [go_sem, fN, seval, FinQ, AS.result, resAll, resOne, tupV, e4]
   rw [lookup_take hb he h0]
   rfl
  ·with_reducible refine Wp ?_
   simp only [go_sem, fN, seval, true_implies, false_implies, implies_true, dT, dF, nL, he]
   (try with_reducible refine iC ?_)
   repeat' (first | (with_reducible first | refine W ?_ | refine Z0 ?_) | ((with_reducible first | refine Wo (fun K hK => ?_) | refine Wq ?_ | refine Wr ?_); (try simp only [go_sem, fN, seval, eT, iR, e0, e1, e4, s4, e6]); (repeat with_reducible refine Ai ?_); (try (refine hK _ ?_; clear hK K))))
   refine then_normal ⟨l.length - (k + 1), by omega, k + 1, by omega, rfl, ?_, ?_⟩
   ·rw [take_snoc hb]
    intro c hc
    rcases List.mem_append.1 hc with hc | hc
    ·exact h0 c hc
    ·rw [List.mem_singleton.1 hc]; exact he
   ·simp only [go_sem, fN, seval, eT, iR, e0, e1, e4, s4, e6]
    congr 3
 ·repeat' (first | (with_reducible first | refine W ?_ | refine Z0 ?_) | ((with_reducible first | refine Wo (fun K hK => ?_) | refine Wq ?_ | refine Wr ?_); (try simp only [go_sem, fN, seval, eT, iR, e0, e1, e4, s4, e6, hlt]); (repeat with_reducible refine Ai ?_); (try (refine hK _ ?_; clear hK K))))
  with_reducible refine Wp ?_
  simp only [go_sem, fN, seval, true_implies, false_implies, implies_true, dT, dF, nL, hlt]
  (try with_reducible refine iC ?_)
  repeat' (first | (with_reducible first | refine W ?_ | refine Z0 ?_) | ((with_reducible first | refine Wo (fun K hK => ?_) | refine Wq ?_ | refine Wr ?_); (try simp only [go_sem, fN, seval, eT, iR, e0, e1, e4, s4, e6]); (repeat with_reducible refine Ai ?_); (try (refine hK _ ?_; clear hK K))))
  simp only [go_sem, fN, seval, FinQ, AS.result, resAll, resOne, tupV, e4]
  rw [List.take_of_length_le (by omega)] at h0
  rw [lookup_none h0]
  rfl
theorem isNaN_a (a : ByteArray) : ACalls Tryz.prog 112 [aStr a] (aBool false) := by
 refine ok_cmp_isNaN_string.ac fun C hC => ?_
 unfold ir_cmp_isNaN_string
 repeat' (first | (with_reducible first | refine W ?_ | refine Z0 ?_) | ((with_reducible first | refine Wo (fun K hK => ?_) | refine Wq ?_ | refine Wr ?_); (try simp only [go_sem, fN, seval, eT, iR]); (repeat with_reducible refine Ai ?_); (try (refine hK _ ?_; clear hK K))))
 simp only [go_sem, fN, seval, FinQ, AS.result, resAll, resOne, tupV]
theorem compare_a (a b : ByteArray) : ACalls Tryz.prog 102 [aStr a, aStr b] (aInt (cmpI a b)) := by
 refine ok_cmp_Compare_string.ac fun C hC => ?_
 unfold ir_cmp_Compare_string
 repeat' (first | (with_reducible first | refine W ?_ | refine Z0 ?_) | refine Cg _ (isNaN_a a) ?_ | refine Cg _ (isNaN_a b) ?_ | ((with_reducible first | refine Wo (fun K hK => ?_) | refine Wq ?_ | refine Wr ?_); (try simp only [go_sem, fN, seval, eT, iR]); (repeat with_reducible refine Ai ?_); (try (refine hK _ ?_; clear hK K))))
 with_reducible refine Wp ?_
 simp only [go_sem, fN, seval, true_implies, false_implies, implies_true, dT, dF, nL]
 (try with_reducible refine iC ?_)
 repeat' (first | (with_reducible first | refine W ?_ | refine Z0 ?_) | ((with_reducible first | refine Wo (fun K hK => ?_) | refine Wq ?_ | refine Wr ?_); (try simp only [go_sem, fN, seval, eT, iR]); (repeat with_reducible refine Ai ?_); (try (refine hK _ ?_; clear hK K))))
 with_reducible refine Wp ?_
 simp only [go_sem, fN, seval, true_implies, false_implies, implies_true, dT, dF, nL]
 (try with_reducible refine iC ?_)
 repeat' (first | (with_reducible first | refine W ?_ | refine Z0 ?_) | ((with_reducible first | refine Wo (fun K hK => ?_) | refine Wq ?_ | refine Wr ?_); (try simp only [go_sem, fN, seval, eT, iR]); (repeat with_reducible refine Ai ?_); (try (refine hK _ ?_; clear hK K))))
 unfold cmpI
 cases h : sLt a b with
 | true =>
  with_reducible refine Wp ?_
  simp only [go_sem, fN, seval, true_implies, false_implies, implies_true, dT, dF, nL]
  (try with_reducible refine iC ?_)
  repeat' (first | (with_reducible first | refine W ?_ | refine Z0 ?_) | ((with_reducible first | refine Wo (fun K hK => ?_) | refine Wq ?_ | refine Wr ?_); (try simp only [go_sem, fN, seval, eT, iR]); (repeat with_reducible refine Ai ?_); (try (refine hK _ ?_; clear hK K))))
  simp only [go_sem, fN, seval, FinQ, AS.result, resAll, resOne, tupV]
 | false =>
  with_reducible refine Wp ?_
  simp only [go_sem, fN, seval, true_implies, false_implies, implies_true, dT, dF, nL]
  (try with_reducible refine iC ?_)
  by_cases he : a = b
  ·repeat' (first | (with_reducible first | refine W ?_ | refine Z0 ?_) | ((with_reducible first | refine Wo (fun K hK => ?_) | refine Wq ?_ | refine Wr ?_); (try simp only [go_sem, fN, seval, eT, iR, h, he, Bool.or_true, Bool.or_false]); (repeat with_reducible refine Ai ?_); (try (refine hK _ ?_; clear hK K))))
   with_reducible refine Wp ?_
   simp only [go_sem, fN, seval, true_implies, false_implies, implies_true, dT, dF, nL, h, he, Bool.or_true, Bool.or_false]
   (try with_reducible refine iC ?_)
   repeat' (first | (with_reducible first | refine W ?_ | refine Z0 ?_) | ((with_reducible first | refine Wo (fun K hK => ?_) | refine Wq ?_ | refine Wr ?_); (try simp only [go_sem, fN, seval, eT, iR]); (repeat with_reducible refine Ai ?_); (try (refine hK _ ?_; clear hK K))))
   simp only [go_sem, fN, seval, FinQ, AS.result, resAll, resOne, tupV, h, he]
  ·repeat' (first | (with_reducible first | refine W ?_ | refine Z0 ?_) | ((with_reducible first | refine Wo (fun K hK => ?_) | refine Wq ?_ | refine Wr ?_); (try simp only [go_sem, fN, seval, eT, iR, h, he, Bool.or_true, Bool.or_false]); (repeat with_reducible refine Ai ?_); (try (refine hK _ ?_; clear hK K))))
   with_reducible refine Wp ?_
   simp only [go_sem, fN, seval, true_implies, false_implies, implies_true, dT, dF, nL, h, he, Bool.or_true, Bool.or_false]
   (try with_reducible refine iC ?_)
   repeat' (first | (with_reducible first | refine W ?_ | refine Z0 ?_) | ((with_reducible first | refine Wo (fun K hK => ?_) | refine Wq ?_ | refine Wr ?_); (try simp only [go_sem, fN, seval, eT, iR]); (repeat with_reducible refine Ai ?_); (try (refine hK _ ?_; clear hK K))))
   simp only [go_sem, fN, seval, FinQ, AS.result, resAll, resOne, tupV, h, he]
theorem find1_a (b : Bd) (n : ByteArray) : ACalls Tryz.prog 116 [aBd b, aStr n] (aInt (cmpI b.1 n)) := by
 refine ok_subst_Find_1.ac fun C hC => ?_
 unfold ir_subst_Find_1
 repeat' (first | (with_reducible first | refine W ?_ | refine Z0 ?_) | refine Cg _ (compare_a b.1 n) ?_ | ((with_reducible first | refine Wo (fun K hK => ?_) | refine Wq ?_ | refine Wr ?_); (try simp only [go_sem, fN, seval, eT, iR]); (repeat with_reducible refine Ai ?_); (try (refine hK _ ?_; clear hK K))))
 simp only [go_sem, fN, seval, FinQ, AS.result, resAll, resOne, tupV]
theorem cmpI_neg {a b : ByteArray} : cmpI a b < 0 ↔ sLt a b = true := by
 unfold cmpI
 split
 ·rename_i h; simp [h]
 ·rename_i h
  split <;> simp [h]
theorem cmpI_zero {a b : ByteArray} : cmpI a b = 0 ↔ a = b := by
 unfold cmpI
 split
 ·rename_i h
  constructor
  ·intro h'; cases h'
  ·intro e; subst e; rw [sLt_irrefl] at h; cases h
 ·split <;> simp_all
def foundAt (l : List Bd) (n : ByteArray) (i : Nat) : Bool := match l[i]? with
 | some b => decide (b.1 = n)
 | none => false
theorem find1_S (b : Bd) (n : ByteArray) (S : AStore) : ACallsS Tryz.prog 116 [aBd b, aStr n] S (aInt (cmpI b.1 n)) S := (find1_a b n).toS rfl
theorem half {i j : Nat} (h : i < j) : (((i : Int) + j).fdiv 2) = (((i + j) / 2 : Nat) : Int) ∧ i ≤ (i + j) / 2 ∧ (i + j) / 2 < j := by
 refine ⟨?_, by omega, by omega⟩
 rw [Int.fdiv_eq_ediv_of_nonneg _ (by omega)]
 omega
theorem inR_u64 (n : Int) : inR .u64 n ↔ 0 ≤ n ∧ n ≤ 18446744073709551615 := by
 simp [inR, IntKind.min, IntKind.max, IntKind.signed, IntKind.bits]
theorem search_a (l : List Bd) (h40 : l.length ≤ 100000) (ho : Ordered l) (n : ByteArray) :
  ∃ i : Nat, i ≤ l.length ∧ (∀ k b, l[k]? = some b → k < i → sLt b.1 n = true) ∧ (∀ k b, l[k]? = some b → i ≤ k → sLt b.1 n = false) ∧
   ACalls Tryz.prog 115 [aBds l, aStr n, .one (.fn 116 [])] (.tup [aInt i, aBool (foundAt l n i)]) := by
 obtain ⟨i0, hi0, hlo, hhi⟩ : ∃ i : Nat, i ≤ l.length ∧ (∀ k b, l[k]? = some b → k < i → sLt b.1 n = true) ∧ (∀ k b, l[k]? = some b → i ≤ k → sLt b.1 n = false) := by
  clear h40
  induction l with
  | nil => exact ⟨0, by simp, by simp, by simp⟩
  | cons c l ih =>
   obtain ⟨o1, o2⟩ := List.pairwise_cons.1 ho
   obtain ⟨i, q1, q2, q3⟩ := ih o2
   cases hc : sLt c.1 n with
   | true =>
    refine ⟨i + 1, by simp; omega, fun k b hk hki => ?_, fun k b hk hki => ?_⟩
    ·cases k with
     | zero => simp at hk; subst hk; exact hc
     | succ k => exact q2 k b (by simpa using hk) (by omega)
    ·cases k with
     | zero => omega
     | succ k => exact q3 k b (by simpa using hk) (by omega)
   | false =>
    refine ⟨0, by simp, fun k b hk hki => by omega, fun k b hk hki => ?_⟩
    cases k with
    | zero => simp at hk; subst hk; exact hc
    | succ k =>
     have hm := mem_of_get (show l[k]? = some b by simpa using hk)
     cases hb : sLt b.1 n with
     | false => rfl
     | true => have := sLt_trans (o1 b hm) hb; rw [hc] at this; cases this
 refine ⟨i0, hi0, hlo, hhi, ?_⟩
 have hplain : plainF Tryz.prog 116 = true := by kernel_rfl
 refine ok_slices_BinarySearchFunc_metaprune_api_Bind_metaprune_api_Bind_string.ac fun C hC => ?_
 unfold ir_slices_BinarySearchFunc_metaprune_api_Bind_metaprune_api_Bind_string
 repeat' (first | (with_reducible first | refine W ?_ | refine Z0 ?_) | ((with_reducible first | refine Wo (fun K hK => ?_) | refine Wq ?_ | refine Wr ?_); (try simp only [go_sem, fN, seval, eT, iR]); (repeat with_reducible refine Ai ?_); (try (refine hK _ ?_; clear hK K))))
 refine IWP.loop (fun m s => ∃ i j : Nat, i ≤ i0 ∧ i0 ≤ j ∧ j ≤ l.length ∧ m = j - i ∧ s.env 0 = aBds l ∧ s.env 1 = aStr n ∧ s.env 2 = .one (.fn 116 []) ∧ s.env 8 = aInt l.length ∧ s.env 9 = aInt i ∧ s.env 10 = aInt j) l.length ⟨0, l.length, Nat.zero_le _, hi0, Nat.le_refl _, rfl, rfl, rfl, rfl, rfl, rfl, rfl⟩ ?_
 rintro m ⟨env, S⟩ ⟨i, j, hi, hj, hjl, rfl, e0, e1, e2, e8, e9, e10⟩
 simp only at e0 e1 e2 e8 e9 e10
 by_cases hlt : (i : Int) < j
 ·obtain ⟨z1, z2, z3⟩ := half (show i < j by omega)
  obtain ⟨b, hb⟩ := get_lt (show (i + j) / 2 < l.length by omega)
  repeat' (first | (with_reducible first | refine W ?_ | refine Z0 ?_) | ((with_reducible first | refine Wo (fun K hK => ?_) | refine Wq ?_ | refine Wr ?_); (try simp only [go_sem, fN, seval, eT, iR, e0, e1, e2, e8, e9, e10, hlt]); (repeat with_reducible refine Ai ?_); (try (refine hK _ ?_; clear hK K))))
  with_reducible refine Wp ?_
  simp only [go_sem, fN, seval, true_implies, false_implies, implies_true, dT, dF, nL, hlt]
  (try with_reducible refine iC ?_)
  have hbits : (1 : Nat) ≤ IntKind.u64.bits := by show 1 ≤ 64; omega
  repeat' (first | (with_reducible first | refine W ?_ | refine Z0 ?_) | ((with_reducible first | refine Wo (fun K hK => ?_) | refine Wq ?_ | refine Wr ?_); (try simp only [go_sem, fN, seval, eT, iR, e0, e1, e2, e8, e9, e10, hlt, z1, inR_u64, hbits, hb, encB, hplain]); (repeat with_reducible refine Ai ?_); (try (refine hK _ ?_; clear hK K))))
  refine ⟨_, _, find1_S b n _, ?_⟩
  cases hc : sLt b.1 n with
  | true =>
   have hneg : cmpI b.1 n < 0 := cmpI_neg.2 hc
   repeat' (first | (with_reducible first | refine W ?_ | refine Z0 ?_) | ((with_reducible first | refine Wo (fun K hK => ?_) | refine Wq ?_ | refine Wr ?_); (try simp only [go_sem, fN, seval, eT, iR, hneg]); (repeat with_reducible refine Ai ?_); (try (refine hK _ ?_; clear hK K))))
   with_reducible refine Wp ?_
   simp only [go_sem, fN, seval, true_implies, false_implies, implies_true, dT, dF, nL, hneg]
   (try with_reducible refine iC ?_)
   repeat' (first | (with_reducible first | refine W ?_ | refine Z0 ?_) | ((with_reducible first | refine Wo (fun K hK => ?_) | refine Wq ?_ | refine Wr ?_); (try simp only [go_sem, fN, seval, eT, iR, e0, e1, e2, e8, e9, e10]); (repeat with_reducible refine Ai ?_); (try (refine hK _ ?_; clear hK K))))
   refine then_normal ⟨j - ((i + j) / 2 + 1), by omega, (i + j) / 2 + 1, j, ?_, hj, hjl, rfl, ?_⟩
   ·rcases Nat.lt_or_ge ((i + j) / 2) i0 with h | h
    ·omega
    ·rw [hhi _ b hb h] at hc; cases hc
   ·simp only [go_sem, fN, seval, eT, iR, e0, e1, e2, e8, e9, e10]
    congr 3
  | false =>
   have hneg : ¬ cmpI b.1 n < 0 := fun h => by rw [cmpI_neg.1 h] at hc; cases hc
   repeat' (first | (with_reducible first | refine W ?_ | refine Z0 ?_) | ((with_reducible first | refine Wo (fun K hK => ?_) | refine Wq ?_ | refine Wr ?_); (try simp only [go_sem, fN, seval, eT, iR, hneg]); (repeat with_reducible refine Ai ?_); (try (refine hK _ ?_; clear hK K))))
   with_reducible refine Wp ?_
   simp only [go_sem, fN, seval, true_implies, false_implies, implies_true, dT, dF, nL, hneg]
   (try with_reducible refine iC ?_)
   repeat' (first | (with_reducible first | refine W ?_ | refine Z0 ?_) | ((with_reducible first | refine Wo (fun K hK => ?_) | refine Wq ?_ | refine Wr ?_); (try simp only [go_sem, fN, seval, eT, iR, e0, e1, e2, e8, e9, e10]); (repeat with_reducible refine Ai ?_); (try (refine hK _ ?_; clear hK K))))
   refine then_normal ⟨(i + j) / 2 - i, by omega, i, (i + j) / 2, hi, ?_, by omega, rfl, ?_⟩
   ·rcases Nat.lt_or_ge ((i + j) / 2) i0 with h | h
    ·rw [hlo _ b hb h] at hc; cases hc
    ·omega
   ·simp only [go_sem, fN, seval, eT, iR, e0, e1, e2, e8, e9, e10]
 ·have hii : i = i0 := by omega
  subst hii
  have hjj : j = i := by omega
  subst hjj
  repeat' (first | (with_reducible first | refine W ?_ | refine Z0 ?_) | ((with_reducible first | refine Wo (fun K hK => ?_) | refine Wq ?_ | refine Wr ?_); (try simp only [go_sem, fN, seval, eT, iR, e0, e1, e2, e8, e9, e10, hlt]); (repeat with_reducible refine Ai ?_); (try (refine hK _ ?_; clear hK K))))
  with_reducible refine Wp ?_
  simp only [go_sem, fN, seval, true_implies, false_implies, implies_true, dT, dF, nL, hlt]
  (try with_reducible refine iC ?_)
  by_cases hil : (j : Int) < l.length
  ·obtain ⟨b, hb⟩ := get_lt (show j < l.length by omega)
   repeat' (first | (with_reducible first | refine W ?_ | refine Z0 ?_) | ((with_reducible first | refine Wo (fun K hK => ?_) | refine Wq ?_ | refine Wr ?_); (try simp only [go_sem, fN, seval, eT, iR, e0, e1, e2, e8, e9, e10, hil, hb, encB, hplain]); (repeat with_reducible refine Ai ?_); (try (refine hK _ ?_; clear hK K))))
   refine ⟨_, _, find1_S b n _, ?_⟩
   repeat' (first | (with_reducible first | refine W ?_ | refine Z0 ?_) | ((with_reducible first | refine Wo (fun K hK => ?_) | refine Wq ?_ | refine Wr ?_); (try simp only [go_sem, fN, seval, eT, iR]); (repeat with_reducible refine Ai ?_); (try (refine hK _ ?_; clear hK K))))
   simp only [go_sem, fN, seval, FinQ, AS.result, resAll, resOne, tupV]
   unfold foundAt
   rw [hb]
   simp only [cmpI_zero]
  ·repeat' (first | (with_reducible first | refine W ?_ | refine Z0 ?_) | ((with_reducible first | refine Wo (fun K hK => ?_) | refine Wq ?_ | refine Wr ?_); (try simp only [go_sem, fN, seval, eT, iR, e0, e1, e2, e8, e9, e10, hil]); (repeat with_reducible refine Ai ?_); (try (refine hK _ ?_; clear hK K))))
   simp only [go_sem, fN, seval, FinQ, AS.result, resAll, resOne, tupV]
   unfold foundAt
   rw [List.getElem?_eq_none (by omega)]
theorem found_lookup {l : List Bd} {n : ByteArray} {i : Nat} (hlo : ∀ k b, l[k]? = some b → k < i → sLt b.1 n = true) (hhi : ∀ k b, l[k]? = some b → i ≤ k → sLt b.1 n = false) (ho : Ordered l) :
  (∃ b, l[i]? = some b ∧ b.1 = n ∧ lookup l n = some b.2) ∨ (foundAt l n i = false ∧ lookup l n = none) := by
 have hlow : ∀ c ∈ l.take i, c.1 ≠ n := fun c hc e => by
  obtain ⟨k, hk, rfl⟩ := List.getElem_of_mem hc
  rw [List.length_take] at hk
  have := hlo k l[k] (List.getElem?_eq_getElem (by omega)) (by omega)
  rw [List.getElem_take] at e
  rw [e, sLt_irrefl] at this
  cases this
 by_cases hil : i < l.length
 ·obtain ⟨b, hb⟩ := get_lt hil
  by_cases he : b.1 = n
  ·exact .inl ⟨b, hb, he, lookup_take hb he hlow⟩
  ·refine .inr ⟨by unfold foundAt; rw [hb]; exact decide_eq_false he, lookup_none fun c hc e => ?_⟩
   obtain ⟨k, hk, rfl⟩ := List.getElem_of_mem hc
   have hck := List.getElem?_eq_getElem hk
   rcases Nat.lt_trichotomy k i with h | h | h
   ·have := hlo k _ hck h
    rw [e, sLt_irrefl] at this
    cases this
   ·subst h
    rw [hb] at hck
    cases hck
    exact he e
   ·have h1 := ordered_get ho hb hck h
    rw [e, hhi i b hb (Nat.le_refl _)] at h1
    cases h1
 ·refine .inr ⟨by unfold foundAt; rw [List.getElem?_eq_none (by omega)], lookup_none fun c hc => hlow c ?_⟩
  rw [List.take_of_length_le (by omega)]
  exact hc
theorem find_a (l : List Bd) (h40 : l.length ≤ 100000) (ho : Ordered l) (n : ByteArray) : ACalls Tryz.prog 108 [aBds l, aStr n] (.tup [aTm ((lookup l n).getD Tm.nil), aBool (lookup l n).isSome]) := by
 obtain ⟨i, hi, hlo, hhi, hs⟩ := search_a l h40 ho n
 refine ok_subst_Find.ac fun C hC => ?_
 unfold ir_subst_Find
 repeat' (first | (with_reducible first | refine W ?_ | refine Z0 ?_) | ((with_reducible first | refine Wo (fun K hK => ?_) | refine Wq ?_ | refine Wr ?_); (try simp only [go_sem, fN, seval, eT, iR]); (repeat with_reducible refine Ai ?_); (try (refine hK _ ?_; clear hK K))))
 refine ⟨_, hs, ?_⟩
 rcases found_lookup hlo hhi ho with ⟨b, hb, he, hl⟩ | ⟨hf, hl⟩
 ·have hf : foundAt l n i = true := by unfold foundAt; rw [hb]; exact decide_eq_true he
  repeat' (first | (with_reducible first | refine W ?_ | refine Z0 ?_) | ((with_reducible first | refine Wo (fun K hK => ?_) | refine Wq ?_ | refine Wr ?_); (try simp only [go_sem, fN, seval, eT, iR, hf]); (repeat with_reducible refine Ai ?_); (try (refine hK _ ?_; clear hK K))))
  with_reducible refine Wp ?_
  simp only [go_sem, fN, seval, true_implies, false_implies, implies_true, dT, dF, nL, hf]
  (try with_reducible refine iC ?_)
  repeat' (first | (with_reducible first | refine W ?_ | refine Z0 ?_) | ((with_reducible first | refine Wo (fun K hK => ?_) | refine Wq ?_ | refine Wr ?_); (try simp only [go_sem, fN, seval, eT, iR, hb, encB]); (repeat with_reducible refine Ai ?_); (try (refine hK _ ?_; clear hK K))))
  simp only [go_sem, fN, seval, FinQ, AS.result, resAll, resOne, tupV]
  rw [hl]
  rfl
 ·repeat' (first | (with_reducible first | refine W ?_ | refine Z0 ?_) | ((with_reducible first | refine Wo (fun K hK => ?_) | refine Wq ?_ | refine Wr ?_); (try simp only [go_sem, fN, seval, eT, iR, hf]); (repeat with_reducible refine Ai ?_); (try (refine hK _ ?_; clear hK K))))
  with_reducible refine Wp ?_
  simp only [go_sem, fN, seval, true_implies, false_implies, implies_true, dT, dF, nL, hf]
  (try with_reducible refine iC ?_)
  repeat' (first | (with_reducible first | refine W ?_ | refine Z0 ?_) | ((with_reducible first | refine Wo (fun K hK => ?_) | refine Wq ?_ | refine Wr ?_); (try simp only [go_sem, fN, seval, eT, iR]); (repeat with_reducible refine Ai ?_); (try (refine hK _ ?_; clear hK K))))
  simp only [go_sem, fN, seval, FinQ, AS.result, resAll, resOne, tupV]
  rw [hl]
  rfl

theorem onR_a (s : List Bd) (t : Tm) (hz : t.size ≤ 1000000) : ACalls Tryz.prog 51 [aBds s, aTm t] (aTm (t.on s)) := by
 induction h : SizeOf.sizeOf t using Nat.strongRecOn generalizing t with
 | _ N ih =>
 subst h
 have hs := Tm.size_eq t
 have hkn := Tm.length_le t.args
 by_cases hleaf : (∃ x, lookup s t.name = some x) ∧ t.args = []
 ·obtain ⟨⟨x, hx⟩, h0⟩ := hleaf
  have h0' : (t.args.length : Int) = 0 := by rw [h0]; rfl
  rw [Tm.on_leaf hx h0]
  refine ok_R_on.ac fun C hC => ?_
  unfold ir_R_on
  repeat' (first | (with_reducible first | refine W ?_ | refine Z0 ?_) | refine Cg _ (for_a s t.name) ?_ | ((with_reducible first | refine Wo (fun K hK => ?_) | refine Wq ?_ | refine Wr ?_); (try simp only [go_sem, fN, seval, eT, iR, hx, h0', Option.isSome_some]); (repeat with_reducible refine Ai ?_); (try (refine hK _ ?_; clear hK K))))
  with_reducible refine Wp ?_
  simp only [go_sem, fN, seval, true_implies, false_implies, implies_true, dT, dF, nL]
  (try with_reducible refine iC ?_)
  repeat' (first | (with_reducible first | refine W ?_ | refine Z0 ?_) | ((with_reducible first | refine Wo (fun K hK => ?_) | refine Wq ?_ | refine Wr ?_); (try simp only [go_sem, fN, seval, eT, iR]); (repeat with_reducible refine Ai ?_); (try (refine hK _ ?_; clear hK K))))
  simp only [go_sem, fN, seval, FinQ, AS.result, resAll, resOne, tupV]
 ·have hon : t.on s = .mk t.name (t.args.map (Tm.on s)) := Tm.on_knot (by
   cases hl : lookup s t.name with
   | none => exact .inl rfl
   | some x => exact .inr fun h0 => hleaf ⟨⟨x, hl⟩, h0⟩)
  rw [hon]
  refine ok_R_on.ac fun C hC => ?_
  unfold ir_R_on
  repeat' (first | (with_reducible first | refine W ?_ | refine Z0 ?_) | ((with_reducible first | refine Wo (fun K hK => ?_) | refine Wq ?_ | refine Wr ?_); (try simp only [go_sem, fN, seval, eT, iR]); (repeat with_reducible refine Ai ?_); (try (refine hK _ ?_; clear hK K))))
  refine ⟨_, for_a s t.name, ?_⟩
  cases hl : lookup s t.name
  case' none =>
   repeat' (first | (with_reducible first | refine W ?_ | refine Z0 ?_) | ((with_reducible first | refine Wo (fun K hK => ?_) | refine Wq ?_ | refine Wr ?_); (try simp only [go_sem, fN, seval, eT, iR, hl, Option.isSome_none]); (repeat with_reducible refine Ai ?_); (try (refine hK _ ?_; clear hK K))))
   with_reducible refine Wp ?_
   simp only [go_sem, fN, seval, true_implies, false_implies, implies_true, dT, dF, nL]
   (try with_reducible refine iC ?_)
   repeat' (first | (with_reducible first | refine W ?_ | refine Z0 ?_) | ((with_reducible first | refine Wo (fun K hK => ?_) | refine Wq ?_ | refine Wr ?_); (try simp only [go_sem, fN, seval, eT, iR]); (repeat with_reducible refine Ai ?_); (try (refine hK _ ?_; clear hK K))))
  case' some x =>
   have h0' : ¬ (t.args.length : Int) = 0 := fun h => hleaf ⟨⟨_, hl⟩, List.eq_nil_of_length_eq_zero (by omega)⟩
   repeat' (first | (with_reducible first | refine W ?_ | refine Z0 ?_) | ((with_reducible first | refine Wo (fun K hK => ?_) | refine Wq ?_ | refine Wr ?_); (try simp only [go_sem, fN, seval, eT, iR, hl, h0', Option.isSome_some]); (repeat with_reducible refine Ai ?_); (try (refine hK _ ?_; clear hK K))))
   with_reducible refine Wp ?_
   simp only [go_sem, fN, seval, true_implies, false_implies, implies_true, dT, dF, nL]
   (try with_reducible refine iC ?_)
   repeat' (first | (with_reducible first | refine W ?_ | refine Z0 ?_) | ((with_reducible first | refine Wo (fun K hK => ?_) | refine Wq ?_ | refine Wr ?_); (try simp only [go_sem, fN, seval, eT, iR]); (repeat with_reducible refine Ai ?_); (try (refine hK _ ?_; clear hK K))))
  all_goals
   refine IWP.ghost (Ghost.ownC 7 1 44 61 2 (xs := ([] : List Tm).map encT) rfl rfl rfl lens_encT) ?_
   refine IWP.loop (fun m x => ∃ k, k ≤ t.args.length ∧ m = t.args.length - k ∧ x.env 0 = aBds s ∧ x.env 3 = .one (.ptr 3 1 0 0) ∧ x.env 4 = .one (.ptr 4 1 0 0) ∧ x.env 7 = .one (.ptr 7 1 0 0) ∧ x.S 3 = some (.box 61 [.st (.str t.name), .st (.list (t.args.map encT))]) ∧ x.S 4 = some (.box 61 [.st (.str ⟨#[]⟩), .full []]) ∧ x.S 7 = some (.box 61 [.st (.str t.name), .row 44 k]) ∧ x.S 44 = some (.arow 61 2 (((t.args.take k).map (Tm.on s)).map encT)) ∧ x.env 8 = aInt k)
    t.args.length ⟨0, Nat.zero_le _, rfl, rfl, rfl, rfl, rfl, rfl, rfl, rfl, rfl, rfl⟩ ?_
   rintro m ⟨env, S⟩ ⟨k, hk, rfl, e0, e3, e4, e7, s3, s4, s7, s44, e8⟩
   simp only at e0 e3 e4 e7 s3 s4 s7 s44 e8
   have hlk : (t.args.take k).length = k := by rw [List.length_take]; omega
   by_cases hlt : (k : Int) < t.args.length
   ·obtain ⟨a, ha⟩ := get_lt (show k < t.args.length by omega)
    repeat' (first | (with_reducible first | refine W ?_ | refine Z0 ?_) | ((with_reducible first | refine Wo (fun K hK => ?_) | refine Wq ?_ | refine Wr ?_); (try simp only [go_sem, fN, seval, eT, iR, e0, e3, e4, e7, s3, s4, s7, s44, e8, hlt]); (repeat with_reducible refine Ai ?_); (try (refine hK _ ?_; clear hK K))))
    with_reducible refine Wp ?_
    simp only [go_sem, fN, seval, true_implies, false_implies, implies_true, dT, dF, nL, hlt]
    (try with_reducible refine iC ?_)
    repeat' (first | (with_reducible first | refine W ?_ | refine Z0 ?_) | refine Cg _ (ih _ (Tm.lt_of_arg (mem_of_get ha)) a (by have := Tm.size_mem (mem_of_get ha); omega) rfl) ?_ | ((with_reducible first | refine Wo (fun K hK => ?_) | refine Wq ?_ | refine Wr ?_); (try simp only [go_sem, fN, seval, eT, iR, e0, e3, e4, e7, s3, s4, s7, s44, e8, ha, hlk]); (repeat with_reducible refine Ai ?_); (try (refine hK _ ?_; clear hK K))))
    refine then_normal ⟨t.args.length - (k + 1), by omega, k + 1, by omega, rfl, ?_⟩
    simp only [go_sem, fN, seval, eT, iR, e0, e3, e4, e7, s3, s4, s7, s44, e8]
    exact ⟨by rw [take_snoc ha]; simp [encT_eq], by congr 3⟩
   ·repeat' (first | (with_reducible first | refine W ?_ | refine Z0 ?_) | ((with_reducible first | refine Wo (fun K hK => ?_) | refine Wq ?_ | refine Wr ?_); (try simp only [go_sem, fN, seval, eT, iR, e0, e3, e4, e7, s3, s4, s7, s44, e8, hlt]); (repeat with_reducible refine Ai ?_); (try (refine hK _ ?_; clear hK K))))
    with_reducible refine Wp ?_
    simp only [go_sem, fN, seval, true_implies, false_implies, implies_true, dT, dF, nL, hlt]
    (try with_reducible refine iC ?_)
    have hall : t.args.take k = t.args := List.take_of_length_le (by omega)
    rw [hall] at hlk s44
    repeat' (first | (with_reducible first | refine W ?_ | refine Z0 ?_) | ((with_reducible first | refine Wo (fun K hK => ?_) | refine Wq ?_ | refine Wr ?_); (try simp only [go_sem, fN, seval, eT, iR, e0, e3, e4, e7, s3, s4, s7, s44, e8, hlk]); (repeat with_reducible refine Ai ?_); (try (refine hK _ ?_; clear hK K))))
    simp only [go_sem, fN, seval, FinQ, AS.result, resAll, resOne, tupV, e4, s44, hlk]
    rfl
theorem grown_a (s : List Bd) (t : Tm) (m : Int) (h0 : 0 ≤ m) (h1 : m ≤ 9223372036854775806) : ACalls Tryz.prog 50 [aBds s, aTm t, aInt m] (aInt (capTo (t.on s).size m)) := by
 induction h : SizeOf.sizeOf t using Nat.strongRecOn generalizing t m with
 | _ N ih =>
 subst h
 by_cases hleaf : (∃ x, lookup s t.name = some x) ∧ t.args = []
 ·obtain ⟨⟨x, hx⟩, ha0⟩ := hleaf
  have h0' : (t.args.length : Int) = 0 := by rw [ha0]; rfl
  rw [Tm.on_leaf hx ha0]
  refine ok_R_grown.ac fun C hC => ?_
  unfold ir_R_grown
  repeat' (first | (with_reducible first | refine W ?_ | refine Z0 ?_) | refine Cg _ (for_a s t.name) ?_ | ((with_reducible first | refine Wo (fun K hK => ?_) | refine Wq ?_ | refine Wr ?_); (try simp only [go_sem, fN, seval, eT, iR, hx, h0', Option.isSome_some]); (repeat with_reducible refine Ai ?_); (try (refine hK _ ?_; clear hK K))))
  with_reducible refine Wp ?_
  simp only [go_sem, fN, seval, true_implies, false_implies, implies_true, dT, dF, nL]
  (try with_reducible refine iC ?_)
  repeat' (first | (with_reducible first | refine W ?_ | refine Z0 ?_) | refine Cg _ (sizeR_a x m h0 h1) ?_ | ((with_reducible first | refine Wo (fun K hK => ?_) | refine Wq ?_ | refine Wr ?_); (try simp only [go_sem, fN, seval, eT, iR]); (repeat with_reducible refine Ai ?_); (try (refine hK _ ?_; clear hK K))))
  simp only [go_sem, fN, seval, FinQ, AS.result, resAll, resOne, tupV]
 ·have hon : t.on s = .mk t.name (t.args.map (Tm.on s)) := Tm.on_knot (by
   cases hl : lookup s t.name with
   | none => exact .inl rfl
   | some x => exact .inr fun h0 => hleaf ⟨⟨x, hl⟩, h0⟩)
  have hs : (t.on s).size = 1 + Tm.sizes (t.args.map (Tm.on s)) := by rw [hon]; rfl
  refine ok_R_grown.ac fun C hC => ?_
  unfold ir_R_grown
  refine IWP.learn 1 (by omega) fun hkn => ?_
  have hkn := known_tm hkn
  repeat' (first | (with_reducible first | refine W ?_ | refine Z0 ?_) | ((with_reducible first | refine Wo (fun K hK => ?_) | refine Wq ?_ | refine Wr ?_); (try simp only [go_sem, fN, seval, eT, iR]); (repeat with_reducible refine Ai ?_); (try (refine hK _ ?_; clear hK K))))
  refine ⟨_, for_a s t.name, ?_⟩
  cases hl : lookup s t.name
  case' none =>
   repeat' (first | (with_reducible first | refine W ?_ | refine Z0 ?_) | ((with_reducible first | refine Wo (fun K hK => ?_) | refine Wq ?_ | refine Wr ?_); (try simp only [go_sem, fN, seval, eT, iR, hl, Option.isSome_none]); (repeat with_reducible refine Ai ?_); (try (refine hK _ ?_; clear hK K))))
   with_reducible refine Wp ?_
   simp only [go_sem, fN, seval, true_implies, false_implies, implies_true, dT, dF, nL]
   (try with_reducible refine iC ?_)
   repeat' (first | (with_reducible first | refine W ?_ | refine Z0 ?_) | ((with_reducible first | refine Wo (fun K hK => ?_) | refine Wq ?_ | refine Wr ?_); (try simp only [go_sem, fN, seval, eT, iR]); (repeat with_reducible refine Ai ?_); (try (refine hK _ ?_; clear hK K))))
  case' some x =>
   have h0' : ¬ (t.args.length : Int) = 0 := fun h => hleaf ⟨⟨_, hl⟩, List.eq_nil_of_length_eq_zero (by omega)⟩
   repeat' (first | (with_reducible first | refine W ?_ | refine Z0 ?_) | ((with_reducible first | refine Wo (fun K hK => ?_) | refine Wq ?_ | refine Wr ?_); (try simp only [go_sem, fN, seval, eT, iR, hl, h0', Option.isSome_some]); (repeat with_reducible refine Ai ?_); (try (refine hK _ ?_; clear hK K))))
   with_reducible refine Wp ?_
   simp only [go_sem, fN, seval, true_implies, false_implies, implies_true, dT, dF, nL]
   (try with_reducible refine iC ?_)
   repeat' (first | (with_reducible first | refine W ?_ | refine Z0 ?_) | ((with_reducible first | refine Wo (fun K hK => ?_) | refine Wq ?_ | refine Wr ?_); (try simp only [go_sem, fN, seval, eT, iR]); (repeat with_reducible refine Ai ?_); (try (refine hK _ ?_; clear hK K))))
  all_goals
   refine IWP.loop (fun n x => ∃ k, k ≤ t.args.length ∧ n = t.args.length - k ∧ x.env 9 = aInt (capTo (1 + Tm.sizes ((t.args.take k).map (Tm.on s))) m) ∧ x.env 0 = aBds s ∧ x.env 2 = aInt m ∧ x.env 4 = .one (.ptr 4 1 0 0) ∧ x.env 10 = aInt k ∧ x.S 4 = some (.box 61 [.st (.str t.name), .st (.list (t.args.map encT))])) t.args.length ⟨0, Nat.zero_le _, rfl, by
    simp only [go_sem, fN, seval, eT, iR]
    rw [capTo]
    have z0 : Tm.sizes [] = 0 := rfl
    congr 3
    split <;> omega, rfl, rfl, rfl, rfl, rfl⟩ ?_
   rintro n ⟨env, S⟩ ⟨k, hk, rfl, e9, e0, e2, e4, e10, s4⟩
   simp only at e9 e0 e2 e4 e10 s4
   have z4 := capTo_le (1 + Tm.sizes ((t.args.take k).map (Tm.on s))) m h0
   have zle : 1 + Tm.sizes ((t.args.take k).map (Tm.on s)) ≤ (t.on s).size := by
    rw [hs, List.map_take]
    have := Tm.sizes_take_le (t.args.map (Tm.on s)) k
    omega
   by_cases hlt : (k : Int) < t.args.length
   ·obtain ⟨a, ha⟩ := get_lt (show k < t.args.length by omega)
    have ha' : (t.args.map (Tm.on s))[k]? = some (a.on s) := by rw [List.getElem?_map, ha]; rfl
    have z1 := Tm.sizes_take ha'
    rw [← List.map_take, ← List.map_take] at z1
    by_cases hb : m < capTo (1 + Tm.sizes ((t.args.take k).map (Tm.on s))) m
    ·have hb' : ¬ capTo (1 + Tm.sizes ((t.args.take k).map (Tm.on s))) m ≤ m := by omega
     repeat' (first | (with_reducible first | refine W ?_ | refine Z0 ?_) | ((with_reducible first | refine Wo (fun K hK => ?_) | refine Wq ?_ | refine Wr ?_); (try simp only [go_sem, fN, seval, eT, iR, e9, e0, e2, e4, e10, s4, hlt, hb']); (repeat with_reducible refine Ai ?_); (try (refine hK _ ?_; clear hK K))))
     with_reducible refine Wp ?_
     simp only [go_sem, fN, seval, true_implies, false_implies, implies_true, dT, dF, nL, hb']
     (try with_reducible refine iC ?_)
     repeat' (first | (with_reducible first | refine W ?_ | refine Z0 ?_) | ((with_reducible first | refine Wo (fun K hK => ?_) | refine Wq ?_ | refine Wr ?_); (try simp only [go_sem, fN, seval, eT, iR, e9, e2]); (repeat with_reducible refine Ai ?_); (try (refine hK _ ?_; clear hK K))))
     with_reducible refine Wp ?_
     simp only [go_sem, fN, seval, true_implies, false_implies, implies_true, dT, dF, nL, hb]
     (try with_reducible refine iC ?_)
     repeat' (first | (with_reducible first | refine W ?_ | refine Z0 ?_) | ((with_reducible first | refine Wo (fun K hK => ?_) | refine Wq ?_ | refine Wr ?_); (try simp only [go_sem, fN, seval, eT, iR, e2]); (repeat with_reducible refine Ai ?_); (try (refine hK _ ?_; clear hK K))))
     simp only [go_sem, fN, seval, FinQ, AS.result, resAll, resOne, tupV]
     rw [capTo_over hb zle]
    ·have hb' : capTo (1 + Tm.sizes ((t.args.take k).map (Tm.on s))) m ≤ m := by omega
     obtain ⟨b1, b2⟩ := capTo_in hb
     repeat' (first | (with_reducible first | refine W ?_ | refine Z0 ?_) | ((with_reducible first | refine Wo (fun K hK => ?_) | refine Wq ?_ | refine Wr ?_); (try simp only [go_sem, fN, seval, eT, iR, e9, e0, e2, e4, e10, s4, hlt, hb']); (repeat with_reducible refine Ai ?_); (try (refine hK _ ?_; clear hK K))))
     with_reducible refine Wp ?_
     simp only [go_sem, fN, seval, true_implies, false_implies, implies_true, dT, dF, nL, hb']
     (try with_reducible refine iC ?_)
     repeat' (first | (with_reducible first | refine W ?_ | refine Z0 ?_) | ((with_reducible first | refine Wo (fun K hK => ?_) | refine Wq ?_ | refine Wr ?_); (try simp only [go_sem, fN, seval, eT, iR, e9, e0, e2, e4, e10, s4, ha]); (repeat with_reducible refine Ai ?_); (try (refine hK _ ?_; clear hK K))))
     refine ⟨_, ih _ (Tm.lt_of_arg (mem_of_get ha)) a (m - capTo (1 + Tm.sizes ((t.args.take k).map (Tm.on s))) m) (by omega) (by omega) rfl, ?_⟩
     have z5 := capTo_le (a.on s).size (m - capTo (1 + Tm.sizes ((t.args.take k).map (Tm.on s))) m) (by omega)
     repeat' (first | (with_reducible first | refine W ?_ | refine Z0 ?_) | ((with_reducible first | refine Wo (fun K hK => ?_) | refine Wq ?_ | refine Wr ?_); (try simp only [go_sem, fN, seval, eT, iR, e9, e0, e2, e4, e10, s4]); (repeat with_reducible refine Ai ?_); (try (refine hK _ ?_; clear hK K))))
     refine then_normal ⟨t.args.length - (k + 1), by omega, k + 1, by omega, rfl, ?_⟩
     simp only [go_sem, fN, seval, eT, iR, e9, e0, e2, e4, e10, s4]
     exact ⟨by rw [b1, capTo_step b2, z1]; congr 4; omega, by congr 3⟩
   ·repeat' (first | (with_reducible first | refine W ?_ | refine Z0 ?_) | ((with_reducible first | refine Wo (fun K hK => ?_) | refine Wq ?_ | refine Wr ?_); (try simp only [go_sem, fN, seval, eT, iR, e9, e0, e2, e4, e10, s4, hlt]); (repeat with_reducible refine Ai ?_); (try (refine hK _ ?_; clear hK K))))
    with_reducible refine Wp ?_
    simp only [go_sem, fN, seval, true_implies, false_implies, implies_true, dT, dF, nL]
    (try with_reducible refine iC ?_)
    have hfull : 1 + Tm.sizes ((t.args.take k).map (Tm.on s)) = (t.on s).size := by rw [List.take_of_length_le (by omega), hs]
    rw [hfull] at e9 z4
    repeat' (first | (with_reducible first | refine W ?_ | refine Z0 ?_) | ((with_reducible first | refine Wo (fun K hK => ?_) | refine Wq ?_ | refine Wr ?_); (try simp only [go_sem, fN, seval, eT, iR, e9, e2]); (repeat with_reducible refine Ai ?_); (try (refine hK _ ?_; clear hK K))))
    by_cases hb : m < capTo (t.on s).size m
    ·with_reducible refine Wp ?_
     simp only [go_sem, fN, seval, true_implies, false_implies, implies_true, dT, dF, nL, hb]
     (try with_reducible refine iC ?_)
     repeat' (first | (with_reducible first | refine W ?_ | refine Z0 ?_) | ((with_reducible first | refine Wo (fun K hK => ?_) | refine Wq ?_ | refine Wr ?_); (try simp only [go_sem, fN, seval, eT, iR, e2]); (repeat with_reducible refine Ai ?_); (try (refine hK _ ?_; clear hK K))))
     simp only [go_sem, fN, seval, FinQ, AS.result, resAll, resOne, tupV]
     rw [capTo_over hb (Nat.le_refl _)]
    ·with_reducible refine Wp ?_
     simp only [go_sem, fN, seval, true_implies, false_implies, implies_true, dT, dF, nL, hb]
     (try with_reducible refine iC ?_)
     repeat' (first | (with_reducible first | refine W ?_ | refine Z0 ?_) | ((with_reducible first | refine Wo (fun K hK => ?_) | refine Wq ?_ | refine Wr ?_); (try simp only [go_sem, fN, seval, eT, iR, e9]); (repeat with_reducible refine Ai ?_); (try (refine hK _ ?_; clear hK K))))
     simp only [go_sem, fN, seval, FinQ, AS.result, resAll, resOne, tupV, e9]
def onTo (s : List Bd) (t : Tm) : Tm × Bool := if (t.on s).size ≤ 2000 then (t.on s, true) else (Tm.nil, false)
theorem onRef_a (s : List Bd) (t : Tm) (hz : t.size ≤ 1000000) : ACalls Tryz.prog 26 [aBds s, aTm t] (.tup [aTm (onTo s t).1, aBool (onTo s t).2]) := by
 by_cases hb : (2000 : Int) < capTo (t.on s).size 2000
 ·have e : onTo s t = (Tm.nil, false) := by
   unfold onTo
   rw [if_neg]
   intro h
   unfold capTo at hb
   split at hb <;> omega
  rw [e]
  refine ok_R_On.ac fun C hC => ?_
  unfold ir_R_On
  repeat' (first | (with_reducible first | refine W ?_ | refine Z0 ?_) | refine Cg _ (grown_a s t 2000 (by omega) (by omega)) ?_ | ((with_reducible first | refine Wo (fun K hK => ?_) | refine Wq ?_ | refine Wr ?_); (try simp only [go_sem, fN, seval, eT, iR, hb]); (repeat with_reducible refine Ai ?_); (try (refine hK _ ?_; clear hK K))))
  with_reducible refine Wp ?_
  simp only [go_sem, fN, seval, true_implies, false_implies, implies_true, dT, dF, nL, hb]
  (try with_reducible refine iC ?_)
  repeat' (first | (with_reducible first | refine W ?_ | refine Z0 ?_) | ((with_reducible first | refine Wo (fun K hK => ?_) | refine Wq ?_ | refine Wr ?_); (try simp only [go_sem, fN, seval, eT, iR]); (repeat with_reducible refine Ai ?_); (try (refine hK _ ?_; clear hK K))))
  simp only [go_sem, fN, seval, FinQ, AS.result, resAll, resOne, tupV]
  rfl
 ·have e : onTo s t = (t.on s, true) := by
   unfold onTo
   rw [if_pos]
   have := (capTo_in hb).2
   omega
  rw [e]
  refine ok_R_On.ac fun C hC => ?_
  unfold ir_R_On
  repeat' (first | (with_reducible first | refine W ?_ | refine Z0 ?_) | refine Cg _ (grown_a s t 2000 (by omega) (by omega)) ?_ | ((with_reducible first | refine Wo (fun K hK => ?_) | refine Wq ?_ | refine Wr ?_); (try simp only [go_sem, fN, seval, eT, iR, hb]); (repeat with_reducible refine Ai ?_); (try (refine hK _ ?_; clear hK K))))
  with_reducible refine Wp ?_
  simp only [go_sem, fN, seval, true_implies, false_implies, implies_true, dT, dF, nL, hb]
  (try with_reducible refine iC ?_)
  repeat' (first | (with_reducible first | refine W ?_ | refine Z0 ?_) | refine Cg _ (onR_a s t hz) ?_ | ((with_reducible first | refine Wo (fun K hK => ?_) | refine Wq ?_ | refine Wr ?_); (try simp only [go_sem, fN, seval, eT, iR]); (repeat with_reducible refine Ai ?_); (try (refine hK _ ?_; clear hK K))))
  simp only [go_sem, fN, seval, FinQ, AS.result, resAll, resOne, tupV]

set_option maxHeartbeats 800000
def fitIn (u : Tm) (left : Int) : Tm × Int := if (u.size : Int) ≤ left then (u, left - u.size) else (Tm.nil, -1)
abbrev mkBlk (s : List Bd) (left : Int) : ABlk := .box 131 [.st (.list (s.map encB)), .st (.int .i64 left)]
theorem fitIn_yes {u : Tm} {left : Int} (h : (u.size : Int) ≤ left) : fitIn u left = (u, left - u.size) := if_pos h
theorem fitIn_no {u : Tm} {left : Int} (h : ¬ (u.size : Int) ≤ left) : fitIn u left = (Tm.nil, -1) := if_neg h
theorem copy_core (s : List Bd) (h40 : s.length ≤ 100000) (ho : Ordered s) (turn : Bool) (f : Tm → Tm) (t : Tm) (hl : turn = true → lookup s t.name = none)
  (ih : ∀ a ∈ t.args, ∀ (a0 : Nat) (left : Int) (S : AStore), 1000 ≤ a0 → 0 ≤ left → left ≤ 1000000 → S a0 = some (mkBlk s left) →
   ACallsS Tryz.prog 98 [.one (.ptr a0 1 0 0), aTm a, aBool turn] S (aTm (fitIn (f a) left).1) (updE S a0 (some (mkBlk s (fitIn (f a) left).2))))
  (a0 : Nat) (left : Int) (S : AStore) (ha0 : 1000 ≤ a0) (h0 : 0 ≤ left) (h1 : left ≤ 1000000) (hSa : S a0 = some (mkBlk s left)) :
  ACallsS Tryz.prog 98 [.one (.ptr a0 1 0 0), aTm t, aBool turn] S (aTm (fitIn (.mk t.name (t.args.map f)) left).1) (updE S a0 (some (mkBlk s (fitIn (.mk t.name (t.args.map f)) left).2))) := by
 refine ok_metaprune_subst_maker_copy.acS fun hS C hC => ?_
 have hu : (Tm.mk t.name (t.args.map f)).size = 1 + Tm.sizes (t.args.map f) := rfl
 have hlen := Tm.length_le (t.args.map f)
 rw [List.length_map] at hlen
 have n4 : S 4 = none := clean_none hS (by omega)
 have n6 : S 6 = none := clean_none hS (by omega)
 have n7 : S 7 = none := clean_none hS (by omega)
 have n9 : S 9 = none := clean_none hS (by omega)
 have n11 : S 11 = none := clean_none hS (by omega)
 have n900 : S 900 = none := clean_none hS (by omega)
 have d4 : ¬ 4 = a0 := by omega
 have d6 : ¬ 6 = a0 := by omega
 have d7 : ¬ 7 = a0 := by omega
 have d9 : ¬ 9 = a0 := by omega
 have d11 : ¬ 11 = a0 := by omega
 have d900 : ¬ 900 = a0 := by omega
 have e4 : ¬ a0 = 4 := by omega
 have e6 : ¬ a0 = 6 := by omega
 have e7 : ¬ a0 = 7 := by omega
 have e9 : ¬ a0 = 9 := by omega
 have e11 : ¬ a0 = 11 := by omega
 have e900 : ¬ a0 = 900 := by omega
 unfold ir_metaprune_subst_maker_copy
 cases turn
 case' false =>
  repeat' (first | (with_reducible first | refine W ?_ | refine Z0 ?_) | ((with_reducible first | refine Wo (fun K hK => ?_) | refine Wq ?_ | refine Wr ?_); (try simp only [go_sem, fN, seval, eT, iR, hSa, n4, n6, n7, d4, d6, d7, e4, e6, e7]); (repeat with_reducible refine Ai ?_); (try (refine hK _ ?_; clear hK K))))
  with_reducible refine Wp ?_
  simp only [go_sem, fN, seval, true_implies, false_implies, implies_true, dT, dF, nL]
  (try with_reducible refine iC ?_)
  repeat' (first | (with_reducible first | refine W ?_ | refine Z0 ?_) | ((with_reducible first | refine Wo (fun K hK => ?_) | refine Wq ?_ | refine Wr ?_); (try simp only [go_sem, fN, seval, eT, iR, hSa, n4, n6, n7, n9, d4, d6, d7, d9, e4, e6, e7, e9]); (repeat with_reducible refine Ai ?_); (try (refine hK _ ?_; clear hK K))))
 case' true =>
  have hln := hl rfl
  repeat' (first | (with_reducible first | refine W ?_ | refine Z0 ?_) | ((with_reducible first | refine Wo (fun K hK => ?_) | refine Wq ?_ | refine Wr ?_); (try simp only [go_sem, fN, seval, eT, iR, hSa, n4, n6, n7, d4, d6, d7, e4, e6, e7]); (repeat with_reducible refine Ai ?_); (try (refine hK _ ?_; clear hK K))))
  with_reducible refine Wp ?_
  simp only [go_sem, fN, seval, true_implies, false_implies, implies_true, dT, dF, nL]
  (try with_reducible refine iC ?_)
  repeat' (first | (with_reducible first | refine W ?_ | refine Z0 ?_) | refine Cg _ (find_a s h40 ho t.name) ?_ | ((with_reducible first | refine Wo (fun K hK => ?_) | refine Wq ?_ | refine Wr ?_); (try simp only [go_sem, fN, seval, eT, iR, hSa, n4, n6, n7, d4, d6, d7, e4, e6, e7, hln]); (repeat with_reducible refine Ai ?_); (try (refine hK _ ?_; clear hK K))))
  with_reducible refine Wp ?_
  simp only [go_sem, fN, seval, true_implies, false_implies, implies_true, dT, dF, nL]
  (try with_reducible refine iC ?_)
  repeat' (first | (with_reducible first | refine W ?_ | refine Z0 ?_) | ((with_reducible first | refine Wo (fun K hK => ?_) | refine Wq ?_ | refine Wr ?_); (try simp only [go_sem, fN, seval, eT, iR, hSa, n4, n6, n7, n9, d4, d6, d7, d9, e4, e6, e7, e9]); (repeat with_reducible refine Ai ?_); (try (refine hK _ ?_; clear hK K))))
 all_goals
  by_cases hz : left = 0
  ·subst hz
   have hno : ¬ ((Tm.mk t.name (t.args.map f)).size : Int) ≤ 0 := by rw [hu]; omega
   rw [fitIn_no hno]
   with_reducible refine Wp ?_
   simp only [go_sem, fN, seval, true_implies, false_implies, implies_true, dT, dF, nL]
   (try with_reducible refine iC ?_)
   repeat' (first | (with_reducible first | refine W ?_ | refine Z0 ?_) | ((with_reducible first | refine Wo (fun K hK => ?_) | refine Wq ?_ | refine Wr ?_); (try simp only [go_sem, fN, seval, eT, iR, hSa, n4, n6, n7, n9, d4, d6, d7, d9, e4, e6, e7, e9]); (repeat with_reducible refine Ai ?_); (try (refine hK _ ?_; clear hK K))))
   refine finS_one (.agg [.st (.str ⟨#[]⟩), .full []]) hS ha0 rfl trivial ?_ ?_ ?_ fun i hi hne => ?_
   ·simp only [go_sem, fN, seval, eT, iR, resAll, resOne, tupV, e4, e6, e7, e9, d4, d6, d7, d9]
   ·simp only [go_sem, fN, seval, eT, iR, Tm.nil]
    rfl
   ·simp only [go_sem, fN, seval, eT, iR, e4, e6, e7, e9]
   ·have i4 : ¬ i = 4 := by omega
    have i6 : ¬ i = 6 := by omega
    have i7 : ¬ i = 7 := by omega
    simp only [go_sem, fN, seval, eT, iR, i4, i6, i7, hne]
  have hz' : ¬ left - 1 < 0 := by omega
  with_reducible refine Wp ?_
  simp only [go_sem, fN, seval, true_implies, false_implies, implies_true, dT, dF, nL, hz']
  (try with_reducible refine iC ?_)
  repeat' (first | (with_reducible first | refine W ?_ | refine Z0 ?_) | ((with_reducible first | refine Wo (fun K hK => ?_) | refine Wq ?_ | refine Wr ?_); (try simp only [go_sem, fN, seval, eT, iR, hSa, n4, n6, n7, n9, d4, d6, d7, d9, e4, e6, e7, e9]); (repeat with_reducible refine Ai ?_); (try (refine hK _ ?_; clear hK K))))
  refine IWP.ghost (Ghost.ownC 9 1 900 61 2 (xs := ([] : List Tm).map encT) (by simp only [go_sem, fN, seval, eT, iR, d9, d4, d6, d7, e9]; rfl) rfl (by simp only [go_sem, fN, seval, eT, iR, n900, d900]) lens_encT) ?_
  refine IWP.loopD [11] (fun m x => ∃ k, k ≤ t.args.length ∧ m = t.args.length - k ∧ (Tm.sizes ((t.args.take k).map f) : Int) ≤ left - 1 ∧ x.env 0 = .one (.ptr a0 1 0 0) ∧ x.env 2 = aBool _ ∧ x.env 6 = .one (.ptr 6 1 0 0) ∧ x.env 9 = .one (.ptr 9 1 0 0) ∧ x.env 44 = .one (.st (.list (t.args.map encT))) ∧ x.env 45 = aInt t.args.length ∧ x.env 46 = aInt k ∧
    x.S 6 = some (.box 61 [.st (.str ⟨#[]⟩), .full []]) ∧ x.S 9 = some (.box 61 [.st (.str t.name), .row 900 k]) ∧ x.S 900 = some (.arow 61 2 (((t.args.take k).map f).map encT)) ∧ x.S 11 = none ∧ x.S a0 = some (mkBlk s (left - 1 - Tm.sizes ((t.args.take k).map f))) ∧ ∀ i, 1000 ≤ i → i ≠ a0 → x.S i = S i)
   t.args.length ⟨0, Nat.zero_le _, rfl, by show (0 : Int) ≤ _; omega, rfl, rfl, rfl, rfl, rfl, rfl, rfl, by simp only [go_sem, fN, seval, eT, iR, d6, d4, d7, d9, e6], by (simp only [go_sem, fN, seval, eT, iR, d9]); rfl, by simp only [go_sem, fN, seval, eT, iR, e9], by simp only [go_sem, fN, seval, eT, iR, n11, d11], by (simp only [go_sem, fN, seval, eT, iR, e9, e900]); simp [Tm.sizes], fun i hi hne => ?_⟩ ?_
  ·have i4 : ¬ i = 4 := by omega
   have i6 : ¬ i = 6 := by omega
   have i7 : ¬ i = 7 := by omega
   have i9 : ¬ i = 9 := by omega
   have i900 : ¬ i = 900 := by omega
   simp only [go_sem, fN, seval, eT, iR, i4, i6, i7, i9, i900, hne]
  rintro m ⟨env, S1⟩ ⟨k, hk, rfl, hsz, e0, e2, e6', e9', e44, e45, e46, s6, s9, s900, s11, sa, hrest⟩
  simp only at e0 e2 e6' e9' e44 e45 e46 s6 s9 s900 s11 sa hrest
  have hlk : (t.args.take k).length = k := by rw [List.length_take]; omega
  have hle := Tm.sizes_take_le (t.args.map f) k
  rw [← List.map_take] at hle
  have hkl := Tm.length_le ((t.args.take k).map f)
  rw [List.length_map, hlk] at hkl
  by_cases hlt : (k : Int) < t.args.length
  ·obtain ⟨a, ha⟩ := get_lt (show k < t.args.length by omega)
   have ha' : (t.args.map f)[k]? = some (f a) := by rw [List.getElem?_map, ha]; rfl
   have z1 := Tm.sizes_take ha'
   have z2 := Tm.sizes_take_le (t.args.map f) (k + 1)
   rw [← List.map_take, ← List.map_take] at z1
   rw [← List.map_take] at z2
   repeat' (first | (with_reducible first | refine W ?_ | refine Z0 ?_) | ((with_reducible first | refine Wo (fun K hK => ?_) | refine Wq ?_ | refine Wr ?_); (try simp only [go_sem, fN, seval, eT, iR, e0, e2, e6', e9', e44, e45, e46, s6, s9, s900, s11, sa, hlt]); (repeat with_reducible refine Ai ?_); (try (refine hK _ ?_; clear hK K))))
   with_reducible refine Wp ?_
   simp only [go_sem, fN, seval, true_implies, false_implies, implies_true, dT, dF, nL, hlt]
   (try with_reducible refine iC ?_)
   repeat' (first | (with_reducible first | refine W ?_ | refine Z0 ?_) | ((with_reducible first | refine Wo (fun K hK => ?_) | refine Wq ?_ | refine Wr ?_); (try simp only [go_sem, fN, seval, eT, iR, e0, e2, e6', e9', e44, e45, e46, s6, s9, s900, s11, sa, d11, d9, e11, ha]); (repeat with_reducible refine Ai ?_); (try (refine hK _ ?_; clear hK K))))
   have hcall := ih a (mem_of_get ha) (up1 a0) (left - 1 - Tm.sizes ((t.args.take k).map f)) (upS (updE (updE S1 11 (some (.box 61 [.st (.str ⟨#[]⟩), .full []]))) 11 (some (.box 61 [.st (.str a.name), .st (.list (a.args.map encT))])))) (up1_le a0) (by omega) (by omega) (by rw [upS_up, updE_ne _ e11, updE_ne _ e11, sa]; rfl)
   by_cases hfit : ((f a).size : Int) ≤ left - 1 - Tm.sizes ((t.args.take k).map f)
   ·rw [fitIn_yes hfit] at hcall
    refine ⟨_, _, hcall, ?_⟩
    have hge : ¬ left - 1 - Tm.sizes ((t.args.take k).map f) - (f a).size < 0 := by omega
    repeat' (first | (with_reducible first | refine W ?_ | refine Z0 ?_) | ((with_reducible first | refine Wo (fun K hK => ?_) | refine Wq ?_ | refine Wr ?_); (try simp only [go_sem, fN, seval, eT, iR, e0, e2, e6', e9', e44, e45, e46, s6, s9, s900, s11, d11, d9, e11, e9, e900, d900, hlk]); (repeat with_reducible refine Ai ?_); (try (refine hK _ ?_; clear hK K))))
    with_reducible refine Wp ?_
    simp only [go_sem, fN, seval, true_implies, false_implies, implies_true, dT, dF, nL, hge]
    (try with_reducible refine iC ?_)
    repeat' (first | (with_reducible first | refine W ?_ | refine Z0 ?_) | ((with_reducible first | refine Wo (fun K hK => ?_) | refine Wq ?_ | refine Wr ?_); (try simp only [go_sem, fN, seval, eT, iR, e0, e2, e6', e9', e44, e45, e46, s6, s9, s900, s11, d11, d9, e11]); (repeat with_reducible refine Ai ?_); (try (refine hK _ ?_; clear hK K))))
    refine then_normal ⟨t.args.length - (k + 1), by omega, k + 1, by omega, rfl, ?_⟩
    have hib : (a0 == 11) = false := by simp; omega
    have hzz : ((Tm.sizes ((t.args.take (k + 1)).map f) : Nat) : Int) = Tm.sizes ((t.args.take k).map f) + (f a).size := by omega
    refine ⟨by omega, ?_⟩
    simp only [go_sem, fN, seval, AS.drop, dropS, AC.clears, AC.clear, AC.highs, AC.high, Bool.not_false, Bool.true_and, Bool.and_self, AV.purge, AV.purges, AC.purge, ABlk.purge, List.contains_cons, List.contains_nil, Nat.reduceBEq, Bool.or_self, Bool.or_false, Bool.false_or, Bool.or_true, eT, iR, e0, e2, e6', e9', e44, e45, s6, s9, s900, d11, d9, e11, e9, e900, d900, d6, hib]
    refine ⟨by congr 3, by rw [take_snoc ha, List.map_append, List.map_append, List.map_cons, List.map_nil, List.map_cons, List.map_nil, encT_eq], ?_, fun i hi hne => ?_⟩
    ·congr 5
     omega
    ·have i9 : ¬ i = 9 := by omega
     have i11 : ¬ i = 11 := by omega
     have i900 : ¬ i = 900 := by omega
     have i11b : (i == 11) = false := by simp; omega
     simp only [go_sem, fN, seval, AS.drop, dropS, AC.clears, AC.clear, AC.highs, AC.high, Bool.not_false, Bool.true_and, Bool.and_self, AV.purge, AV.purges, AC.purge, ABlk.purge, List.contains_cons, List.contains_nil, Nat.reduceBEq, Bool.or_self, Bool.or_false, Bool.false_or, Bool.or_true, eT, iR, i9, i11, i11b, i900, hne]
     rw [hrest i hi hne]
     exact purgeS (by decide) fun b hb => (hS i b hb).2
   ·have hno : ¬ ((Tm.mk t.name (t.args.map f)).size : Int) ≤ left := by rw [hu]; omega
    rw [fitIn_no hfit] at hcall
    refine ⟨_, _, hcall, ?_⟩
    repeat' (first | (with_reducible first | refine W ?_ | refine Z0 ?_) | ((with_reducible first | refine Wo (fun K hK => ?_) | refine Wq ?_ | refine Wr ?_); (try simp only [go_sem, fN, seval, eT, iR, e0, e2, e6', e9', e44, e45, e46, s6, s9, s900, s11, d11, d9, e11, e9, e900, d900, hlk]); (repeat with_reducible refine Ai ?_); (try (refine hK _ ?_; clear hK K))))
    with_reducible refine Wp ?_
    simp only [go_sem, fN, seval, true_implies, false_implies, implies_true, dT, dF, nL]
    (try with_reducible refine iC ?_)
    repeat' (first | (with_reducible first | refine W ?_ | refine Z0 ?_) | ((with_reducible first | refine Wo (fun K hK => ?_) | refine Wq ?_ | refine Wr ?_); (try simp only [go_sem, fN, seval, eT, iR, e0, e2, e6', e9', e44, e45, e46, s6, s9, s900, s11, d11, d9, e11, e6, d6, d900, e900]); (repeat with_reducible refine Ai ?_); (try (refine hK _ ?_; clear hK K))))
    rw [fitIn_no hno]
    refine finS_one (.agg [.st (.str ⟨#[]⟩), .full []]) hS ha0 rfl trivial ?_ ?_ ?_ fun i hi hne => ?_
    ·simp only [go_sem, fN, seval, eT, iR, resAll, resOne, tupV, e6', s6, e6, e9, e11, e900, d6, d9, d11, d900]
    ·simp only [go_sem, fN, seval, eT, iR, Tm.nil]
     rfl
    ·simp only [go_sem, fN, seval, eT, iR, e6, e9, e11, e900]
    ·have i6 : ¬ i = 6 := by omega
     have i9 : ¬ i = 9 := by omega
     have i11 : ¬ i = 11 := by omega
     have i900 : ¬ i = 900 := by omega
     simp only [go_sem, fN, seval, eT, iR, i6, i9, i11, i900, hne]
     exact hrest i hi hne
  ·have hall : t.args.take k = t.args := List.take_of_length_le (by omega)
   rw [hall] at hlk s900 hsz sa
   have hyes : ((Tm.mk t.name (t.args.map f)).size : Int) ≤ left := by rw [hu]; omega
   repeat' (first | (with_reducible first | refine W ?_ | refine Z0 ?_) | ((with_reducible first | refine Wo (fun K hK => ?_) | refine Wq ?_ | refine Wr ?_); (try simp only [go_sem, fN, seval, eT, iR, e0, e2, e6', e9', e44, e45, e46, s6, s9, s900, s11, sa, hlt]); (repeat with_reducible refine Ai ?_); (try (refine hK _ ?_; clear hK K))))
   with_reducible refine Wp ?_
   simp only [go_sem, fN, seval, true_implies, false_implies, implies_true, dT, dF, nL, hlt]
   (try with_reducible refine iC ?_)
   repeat' (first | (with_reducible first | refine W ?_ | refine Z0 ?_) | ((with_reducible first | refine Wo (fun K hK => ?_) | refine Wq ?_ | refine Wr ?_); (try simp only [go_sem, fN, seval, eT, iR, e0, e2, e6', e9', e44, e45, e46, s6, s9, s900, s11, sa, d6]); (repeat with_reducible refine Ai ?_); (try (refine hK _ ?_; clear hK K))))
   rw [fitIn_yes hyes]
   refine finS_one (.agg [.st (.str t.name), .row 900 k]) hS ha0 rfl trivial ?_ ?_ ?_ fun i hi hne => ?_
   ·simp only [go_sem, fN, seval, eT, iR, resAll, resOne, tupV, e6', s6]
   ·simp only [go_sem, fN, seval, eT, iR, s900, hlk]
    rfl
   ·simp only [go_sem, fN, seval, eT, iR, e6, sa, hu]
    rw [show left - 1 - (Tm.sizes (t.args.map f) : Int) = left - ((1 + Tm.sizes (t.args.map f) : Nat) : Int) by omega]
   ·have i6 : ¬ i = 6 := by omega
    simp only [go_sem, fN, seval, eT, iR, i6]
    exact hrest i hi hne
theorem copyF_a (s : List Bd) (h40 : s.length ≤ 100000) (ho : Ordered s) (t : Tm) : ∀ (a0 : Nat) (left : Int) (S : AStore), 1000 ≤ a0 → 0 ≤ left → left ≤ 1000000 → S a0 = some (mkBlk s left) →
  ACallsS Tryz.prog 98 [.one (.ptr a0 1 0 0), aTm t, aBool false] S (aTm (fitIn t left).1) (updE S a0 (some (mkBlk s (fitIn t left).2))) := by
 induction h : SizeOf.sizeOf t using Nat.strongRecOn generalizing t with
 | _ N ih =>
 subst h
 intro a0 left S h1 h2 h3 h4
 have := copy_core s h40 ho false id t (fun h => by cases h) (fun a ha => ih _ (Tm.lt_of_arg ha) a rfl) a0 left S h1 h2 h3 h4
 rw [List.map_id, Tm.eta] at this
 exact this
theorem copyT_a (s : List Bd) (h40 : s.length ≤ 100000) (ho : Ordered s) (t : Tm) (hv : ∀ b ∈ s, isVar b.1 = true) (hchk : t.chk = 0) : ∀ (a0 : Nat) (left : Int) (S : AStore), 1000 ≤ a0 → 0 ≤ left → left ≤ 1000000 → S a0 = some (mkBlk s left) →
  ACallsS Tryz.prog 98 [.one (.ptr a0 1 0 0), aTm t, aBool true] S (aTm (fitIn (t.on s) left).1) (updE S a0 (some (mkBlk s (fitIn (t.on s) left).2))) := by
 induction h : SizeOf.sizeOf t using Nat.strongRecOn generalizing t with
 | _ N ih =>
 subst h
 intro a0 left S ha0 h0 h1 hSa
 obtain ⟨c1, c2⟩ := Tm.chk_args hchk
 cases hl : lookup s t.name with
 | none =>
  have := copy_core s h40 ho true (Tm.on s) t (fun _ => hl) (fun a ha => ih _ (Tm.lt_of_arg ha) a (c2 a ha) rfl) a0 left S ha0 h0 h1 hSa
  rw [← Tm.on_knot (.inl hl)] at this
  exact this
 | some x =>
  obtain ⟨b, hb, hbn, _⟩ := lookup_mem hl
  have hargs := c1 (by rw [← hbn]; exact hv b hb)
  rw [Tm.on_leaf hl hargs]
  refine ok_metaprune_subst_maker_copy.acS fun hS C hC => ?_
  have n4 : S 4 = none := clean_none hS (by omega)
  have n6 : S 6 = none := clean_none hS (by omega)
  have n7 : S 7 = none := clean_none hS (by omega)
  have e4 : ¬ a0 = 4 := by omega
  have e6 : ¬ a0 = 6 := by omega
  have e7 : ¬ a0 = 7 := by omega
  have d4 : ¬ 4 = a0 := by omega
  have d6 : ¬ 6 = a0 := by omega
  have d7 : ¬ 7 = a0 := by omega
  unfold ir_metaprune_subst_maker_copy
  repeat' (first | (with_reducible first | refine W ?_ | refine Z0 ?_) | ((with_reducible first | refine Wo (fun K hK => ?_) | refine Wq ?_ | refine Wr ?_); (try simp only [go_sem, fN, seval, eT, iR, hSa, n4, n6, n7, d4, d6, d7, e4, e6, e7]); (repeat with_reducible refine Ai ?_); (try (refine hK _ ?_; clear hK K))))
  with_reducible refine Wp ?_
  simp only [go_sem, fN, seval, true_implies, false_implies, implies_true, dT, dF, nL]
  (try with_reducible refine iC ?_)
  repeat' (first | (with_reducible first | refine W ?_ | refine Z0 ?_) | refine Cg _ (find_a s h40 ho t.name) ?_ | ((with_reducible first | refine Wo (fun K hK => ?_) | refine Wq ?_ | refine Wr ?_); (try simp only [go_sem, fN, seval, eT, iR, hSa, n4, n6, n7, d4, d6, d7, e4, e6, e7, hl]); (repeat with_reducible refine Ai ?_); (try (refine hK _ ?_; clear hK K))))
  with_reducible refine Wp ?_
  simp only [go_sem, fN, seval, true_implies, false_implies, implies_true, dT, dF, nL]
  (try with_reducible refine iC ?_)
  repeat' (first | (with_reducible first | refine W ?_ | refine Z0 ?_) | ((with_reducible first | refine Wo (fun K hK => ?_) | refine Wq ?_ | refine Wr ?_); (try simp only [go_sem, fN, seval, eT, iR, hSa, n4, n6, n7, d4, d6, d7, e4, e6, e7]); (repeat with_reducible refine Ai ?_); (try (refine hK _ ?_; clear hK K))))
  have hcall := fun S' h => copyF_a s h40 ho x (up1 a0) left S' (up1_le a0) h0 h1 h
  refine ⟨_, _, hcall _ (by rw [upS_up]; (simp only [go_sem, fN, seval, eT, iR, e4, e6, e7, hSa])), ?_⟩
  repeat' (first | (with_reducible first | refine W ?_ | refine Z0 ?_) | ((with_reducible first | refine Wo (fun K hK => ?_) | refine Wq ?_ | refine Wr ?_); (try simp only [go_sem, fN, seval, eT, iR, e4, e6, e7, d4, d6, d7]); (repeat with_reducible refine Ai ?_); (try (refine hK _ ?_; clear hK K))))
  refine finS_one (aTm (fitIn x left).1) hS ha0 rfl trivial ?_ ?_ ?_ fun i hi hne => ?_
  ·simp only [go_sem, fN, seval, eT, iR, resAll, resOne, tupV, e4, e6, e7, d4, d6, d7]
  ·simp only [go_sem, fN, seval, eT, iR]
  ·simp only [go_sem, fN, seval, eT, iR, e4, e6, e7]
  ·have i4 : ¬ i = 4 := by omega
   have i6 : ¬ i = 6 := by omega
   have i7 : ¬ i = 7 := by omega
   simp only [go_sem, fN, seval, eT, iR, i4, i6, i7, hne]
theorem onP_a (s : List Bd) (h40 : s.length ≤ 100000) (ho : Ordered s) (t : Tm) (hv : ∀ b ∈ s, isVar b.1 = true) (hchk : t.chk = 0) : ACalls Tryz.prog 80 [aBds s, aTm t] (.tup [aTm (onTo s t).1, aBool (onTo s t).2]) := by
 refine ok_subst_On.ac fun C hC => ?_
 unfold ir_subst_On
 repeat' (first | (with_reducible first | refine W ?_ | refine Z0 ?_) | ((with_reducible first | refine Wo (fun K hK => ?_) | refine Wq ?_ | refine Wr ?_); (try simp only [go_sem, fN, seval, eT, iR]); (repeat with_reducible refine Ai ?_); (try (refine hK _ ?_; clear hK K))))
 have hcall := fun S' h => copyT_a s h40 ho t hv hchk (up1 10) 2000 S' (up1_le 10) (by omega) (by omega) h
 refine ⟨_, _, hcall _ (by rw [upS_up]; rfl), ?_⟩
 by_cases hfit : ((t.on s).size : Int) ≤ 2000
 ·have e : onTo s t = (t.on s, true) := by
   unfold onTo
   rw [if_pos (by omega)]
  rw [fitIn_yes hfit]
  have hge : (0 : Int) ≤ 2000 - (t.on s).size := by omega
  repeat' (first | (with_reducible first | refine W ?_ | refine Z0 ?_) | ((with_reducible first | refine Wo (fun K hK => ?_) | refine Wq ?_ | refine Wr ?_); (try simp only [go_sem, fN, seval, eT, iR, hge]); (repeat with_reducible refine Ai ?_); (try (refine hK _ ?_; clear hK K))))
  rw [e]
  simp only [go_sem, fN, seval, FinQ, AS.result, resAll, resOne, tupV]
 ·have e : onTo s t = (Tm.nil, false) := by
   unfold onTo
   rw [if_neg (by omega)]
  rw [fitIn_no hfit]
  repeat' (first | (with_reducible first | refine W ?_ | refine Z0 ?_) | ((with_reducible first | refine Wo (fun K hK => ?_) | refine Wq ?_ | refine Wr ?_); (try simp only [go_sem, fN, seval, eT, iR]); (repeat with_reducible refine Ai ?_); (try (refine hK _ ?_; clear hK K))))
  rw [e]
  simp only [go_sem, fN, seval, FinQ, AS.result, resAll, resOne, tupV]

def ir_slices_BinarySearchFunc_metaprune_api_Bind_metaprune_api_Bind_stringM : IR :=
 (.seq (.ops [.i 6 (.mov (.n 0)), .i 7 (.mov (.c (.one (.st (.bool false)))))]) (.seq (.ops [.m 12 0, .i 13 (.len false (.t 12)), .m 8 13]) (.seq (.ops [.m 14 8, .i 9 (.mov (.n 0)), .m 10 14]) (.seq (.block 0 (.loop (.seq (.seq (.ops [.m 15 9, .m 16 10, .i 17 (.bin .lss (.t 15) (.t 16))]) (.cond (.t 17) .skip (.exit 0))) (.block 1 (.seq (.ops [.m 18 9, .m 19 10, .i 20 (.bin .add (.t 18) (.t 19)), .i 21 (.conv .u64 (.t 20)), .i 22 (.bin .shr (.t 21) (.c (.one (.st (.int .u64 1))))), .i 23 (.conv .i64 (.t 22)), .m 11 23]) (.seq (.ops [.m 24 2, .m 25 0, .m 26 11, .i 27 (.indexAddr 3 (.t 25) (.t 26)), .L 28 3 27, .m 29 1, .i 30 (.callV (.t 24) [.t 28, .t 29]), .i 31 (.bin .lss (.t 30) (.n 0))]) (.cond (.t 31) (.ops [.m 32 11, .i 33 (.bin .add (.t 32) (.n 1)), .m 9 33]) (.ops [.m 34 11, .m 10 34])))))))) (.seq (.ops [.m 35 9, .m 36 9, .m 37 8, .i 38 (.bin .lss (.t 36) (.t 37)), .m 39 38, .mk (some 40) (some (39, true)) (.mov (.t 2)) .no, .mk (some 41) (some (39, true)) (.mov (.t 0)) .no, .mk (some 42) (some (39, true)) (.mov (.t 9)) .no, .mk (some 43) (some (39, true)) (.indexAddr 3 (.t 41) (.t 42)) .no, .mk (some 44) (some (39, true)) (.load true 3 (.t 43)) .no, .mk (some 45) (some (39, true)) (.mov (.t 1)) .no, .mk (some 46) (some (39, true)) (.callV (.t 40) [.t 44, .t 45]) .no, .mk (some 47) (some (39, true)) (.bin .eql (.t 46) (.n 0)) .no, .i 48 (.pick (.t 39) (.t 47) (.c (.one (.st (.bool false))))), .m 6 35, .m 7 48]) .ret)))))
theorem ok_slices_BinarySearchFunc_metaprune_api_Bind_metaprune_api_Bind_stringM : OkF Tryz.prog 115 49 [] ir_slices_BinarySearchFunc_metaprune_api_Bind_metaprune_api_Bind_stringM [.t 6, .t 7] := .of Tryz.func115 rfl rfl (by kernel_rfl) rfl
def ir_subst_FindM : IR :=
 (.seq (.ops [.i 4 (.alloc 61 [.st (.str (ByteArray.mk (#[]))), .full []]), .i 5 (.mov (.c (.one (.st (.bool false)))))]) (.seq (.ops [.m 9 0, .m 10 1, .i 11 (.callR 115 [.t 9, .t 10, .c (.one (.fn 116 []))]), .m 8 11, .i 12 (.extract 0 (.t 8)), .i 13 (.extract 1 (.t 8)), .m 6 12, .m 7 13]) (.seq (.seq (.ops [.m 14 7, .i 15 (.un .not (.t 14))]) (.cond (.t 15) (.seq (.ops [.i 16 (.build [.st (.str (ByteArray.mk (#[]))), .full []] []), .s 2 4 16, .i 5 (.mov (.c (.one (.st (.bool false)))))]) .ret) .skip)) (.seq (.ops [.m 17 0, .m 18 6, .i 19 (.indexAddr 3 (.t 17) (.t 18)), .f 20 1 19, .L 21 2 20, .s 2 4 21, .i 5 (.mov (.c (.one (.st (.bool true)))))]) .ret))))
theorem ok_subst_FindM : OkF Tryz.prog 108 22 [40000011] ir_subst_FindM [.cell 4 true 2, .t 5] := .of Tryz.func108 rfl rfl (by kernel_rfl) rfl
def ir_metaprune_subst_maker_copyM : IR :=
 (.seq (.ops [.i 4 (.box 61 (.t 1)), .i 6 (.alloc 61 [.st (.str (ByteArray.mk (#[]))), .full []])]) (.seq (.seq (.ops [.m 12 2]) (.cond (.t 12) (.seq (.ops [.m 14 0, .i 15 (.nilCheck (.t 14)), .f 16 0 15, .l 17 16, .f 18 0 4, .l 19 18, .i 20 (.callR 108 [.t 17, .t 19]), .m 13 20, .i 21 (.extract 0 (.t 13)), .i 22 (.extract 1 (.t 13)), .i 7 (.alloc 61 [.st (.str (ByteArray.mk (#[]))), .full []]), .s 2 7 21, .m 8 22]) (.seq (.ops [.m 23 8]) (.cond (.t 23) (.seq (.ops [.m 24 0, .L 25 2 7, .i 26 (.callS 98 [.t 24, .t 25, .c (.one (.st (.bool false)))]), .s 2 6 26]) .ret) .skip))) .skip)) (.seq (.seq (.ops [.m 27 0, .i 28 (.nilCheck (.t 27)), .f 29 1 28, .l 30 29, .i 31 (.bin .sub (.t 30) (.n 1)), .i 32 (.nilCheck (.t 27)), .f 33 1 32, .s 1 33 31]) (.seq (.ops [.m 34 0, .i 35 (.nilCheck (.t 34)), .f 36 1 35, .l 37 36, .i 38 (.bin .lss (.t 37) (.n 0))]) (.cond (.t 38) (.seq (.ops [.i 39 (.build [.st (.str (ByteArray.mk (#[]))), .full []] []), .s 2 6 39]) .ret) .skip))) (.seq (.ops [.f 40 0 4, .l 41 40, .i 42 (.build [.st (.str (ByteArray.mk (#[]))), .full []] [(0, 1, .t 41)]), .i 9 (.alloc 61 [.st (.str (ByteArray.mk (#[]))), .full []]), .s 2 9 42]) (.seq (.seq (.ops [.f 43 1 4, .l 44 43, .i 45 (.len false (.t 44)), .i 46 (.mov (.n 0))]) (.block 0 (.loop (.seq (.ops [.i 47 (.bin .lss (.t 46) (.t 45))]) (.seq (.cond (.t 47) .skip (.exit 0)) (.seq (.block 1 (.seq (.ops [.i 48 (.indexAddr 2 (.t 44) (.t 46)), .L 49 2 48, .i 11 (.alloc 61 [.st (.str (ByteArray.mk (#[]))), .full []]), .s 2 11 49]) (.seq (.ops [.mk (some 50) none (.fieldAddr 1 (.t 9)) (.onb 9), .mk (some 51) none (.load false 1 (.t 50)) (.onb 9), .m 52 0, .L 53 2 11, .m 54 2, .mk (some 55) none (.callS 98 [.t 52, .t 53, .t 54]) (.keeps [9, 9]), .i 56 (.buildSlice false 61 2 [.t 55]), .i 57 (.append false 61 2 40 (.t 51) (.t 56)), .f 58 1 9, .s 1 58 57]) (.seq (.ops [.m 59 0, .i 60 (.nilCheck (.t 59)), .f 61 1 60, .l 62 61, .i 63 (.bin .lss (.t 62) (.n 0))]) (.cond (.t 63) (.seq (.ops [.i 64 (.build [.st (.str (ByteArray.mk (#[]))), .full []] []), .s 2 6 64]) .ret) .skip))))) (.ops [.i 65 (.bin .add (.t 46) (.n 1)), .m 46 65]))))))) (.seq (.ops [.L 66 2 9, .s 2 6 66]) .ret))))))
theorem ok_metaprune_subst_maker_copyM : OkF Tryz.prog 98 67 [40000020, 26, 55] ir_metaprune_subst_maker_copyM [.cell 6 true 2] := .of Tryz.func98 rfl rfl (by kernel_rfl) rfl
def ir_subst_OnM : IR :=
 (.seq (.ops [.i 3 (.box 61 (.t 1)), .i 4 (.alloc 61 [.st (.str (ByteArray.mk (#[]))), .full []]), .i 5 (.mov (.c (.one (.st (.bool false)))))]) (.seq (.ops [.m 8 0, .i 9 (.build [.full [], .st (.int .i64 0)] [(0, 1, .t 8), (1, 1, .n 2000)]), .i 10 (.box 131 (.t 9)), .m 6 10]) (.seq (.ops [.m 11 6, .L 12 2 3, .i 13 (.callS 98 [.t 11, .t 12, .c (.one (.st (.bool true)))]), .i 7 (.alloc 61 [.st (.str (ByteArray.mk (#[]))), .full []]), .s 2 7 13]) (.seq (.ops [.L 14 2 7, .m 15 6, .mk (some 16) none (.nilCheck (.t 15)) (.onb 10), .mk (some 17) none (.fieldAddr 1 (.t 16)) (.onb 10), .mk (some 18) none (.load false 1 (.t 17)) (.onb 10), .i 19 (.bin .geq (.t 18) (.n 0)), .mk none none (.store 2 (.t 4) (.t 14)) (.onb 4), .m 5 19]) .ret))))
theorem ok_subst_OnM : OkF Tryz.prog 80 20 [13, 10060010] ir_subst_OnM [.cell 4 true 2, .t 5] := .of Tryz.func80 rfl rfl (by kernel_rfl) rfl

abbrev rowBd (l : List Bd) : ABlk := .mrow 95 3 (l.map encB)

theorem search_M (l : List Bd) (n : ByteArray) (i0 : Nat) (hi0 : i0 ≤ l.length) (h40 : l.length ≤ 100000) (hlo : ∀ k b, l[k]? = some b → k < i0 → sLt b.1 n = true) (hhi : ∀ k b, l[k]? = some b → i0 ≤ k → sLt b.1 n = false) (r : Nat) (hr : 1000 ≤ r) (S : AStore) (sr : S r = some (rowBd l)) :
  ACallsS Tryz.prog 115 [.one (.row r l.length), aStr n, .one (.fn 116 [])] S (.tup [aInt i0, aBool (foundAt l n i0)]) S := by
 have hplain : plainF Tryz.prog 116 = true := by kernel_rfl
 refine ok_slices_BinarySearchFunc_metaprune_api_Bind_metaprune_api_Bind_stringM.acS fun hS C hC => ?_
 unfold ir_slices_BinarySearchFunc_metaprune_api_Bind_metaprune_api_Bind_stringM
 repeat' (first | (with_reducible first | refine W ?_ | refine Z0 ?_) | ((with_reducible first | refine Wo (fun K hK => ?_) | refine Wq ?_ | refine Wr ?_); (try simp only [go_sem, fN, seval, eT, iR, sr]); (repeat with_reducible refine Ai ?_); (try (refine hK _ ?_; clear hK K))))
 refine IWP.loop (fun m s => ∃ i j : Nat, i ≤ i0 ∧ i0 ≤ j ∧ j ≤ l.length ∧ m = j - i ∧ s.env 0 = .one (.row r l.length) ∧ s.env 1 = aStr n ∧ s.env 2 = .one (.fn 116 []) ∧ s.env 8 = aInt l.length ∧ s.env 9 = aInt i ∧ s.env 10 = aInt j ∧ s.S = S) l.length ⟨0, l.length, Nat.zero_le _, hi0, Nat.le_refl _, rfl, rfl, rfl, rfl, rfl, rfl, rfl, rfl⟩ ?_
 rintro m ⟨env, S1⟩ ⟨i, j, hi, hj, hjl, rfl, e0, e1, e2, e8, e9, e10, hS1⟩
 simp only at e0 e1 e2 e8 e9 e10 hS1
 subst hS1
 by_cases hlt : (i : Int) < j
 ·obtain ⟨z1, z2, z3⟩ := half (show i < j by omega)
  obtain ⟨b, hb⟩ := get_lt (show (i + j) / 2 < l.length by omega)
  repeat' (first | (with_reducible first | refine W ?_ | refine Z0 ?_) | ((with_reducible first | refine Wo (fun K hK => ?_) | refine Wq ?_ | refine Wr ?_); (try simp only [go_sem, fN, seval, eT, iR, e0, e1, e2, e8, e9, e10, hlt, sr]); (repeat with_reducible refine Ai ?_); (try (refine hK _ ?_; clear hK K))))
  with_reducible refine Wp ?_
  simp only [go_sem, fN, seval, true_implies, false_implies, implies_true, dT, dF, nL, hlt]
  (try with_reducible refine iC ?_)
  have hbits : (1 : Nat) ≤ IntKind.u64.bits := by show 1 ≤ 64; omega
  have hz0 : (0 : Int) ≤ (((i + j) / 2 : Nat) : Int) := Int.natCast_nonneg _
  repeat' (first | (with_reducible first | refine W ?_ | refine Z0 ?_) | ((with_reducible first | refine Wo (fun K hK => ?_) | refine Wq ?_ | refine Wr ?_); (try simp only [go_sem, fN, seval, eT, iR, e0, e1, e2, e8, e9, e10, hlt, z1, z3, inR_u64, hbits, hb, encB, hplain, sr]); (repeat with_reducible refine Ai ?_); (try (refine hK _ ?_; clear hK K))))
  refine ⟨_, _, find1_S b n _, ?_⟩
  cases hc : sLt b.1 n with
  | true =>
   have hneg : cmpI b.1 n < 0 := cmpI_neg.2 hc
   repeat' (first | (with_reducible first | refine W ?_ | refine Z0 ?_) | ((with_reducible first | refine Wo (fun K hK => ?_) | refine Wq ?_ | refine Wr ?_); (try simp only [go_sem, fN, seval, eT, iR, hneg]); (repeat with_reducible refine Ai ?_); (try (refine hK _ ?_; clear hK K))))
   with_reducible refine Wp ?_
   simp only [go_sem, fN, seval, true_implies, false_implies, implies_true, dT, dF, nL, hneg]
   (try with_reducible refine iC ?_)
   repeat' (first | (with_reducible first | refine W ?_ | refine Z0 ?_) | ((with_reducible first | refine Wo (fun K hK => ?_) | refine Wq ?_ | refine Wr ?_); (try simp only [go_sem, fN, seval, eT, iR, e0, e1, e2, e8, e9, e10]); (repeat with_reducible refine Ai ?_); (try (refine hK _ ?_; clear hK K))))
   refine then_normal ⟨j - ((i + j) / 2 + 1), by omega, (i + j) / 2 + 1, j, ?_, hj, hjl, rfl, ?_⟩
   ·rcases Nat.lt_or_ge ((i + j) / 2) i0 with h | h
    ·omega
    ·rw [hhi _ b hb h] at hc; cases hc
   ·simp only [go_sem, fN, seval, eT, iR, e0, e1, e2, e8, e9, e10]
    congr 3
  | false =>
   have hneg : ¬ cmpI b.1 n < 0 := fun h => by rw [cmpI_neg.1 h] at hc; cases hc
   repeat' (first | (with_reducible first | refine W ?_ | refine Z0 ?_) | ((with_reducible first | refine Wo (fun K hK => ?_) | refine Wq ?_ | refine Wr ?_); (try simp only [go_sem, fN, seval, eT, iR, hneg]); (repeat with_reducible refine Ai ?_); (try (refine hK _ ?_; clear hK K))))
   with_reducible refine Wp ?_
   simp only [go_sem, fN, seval, true_implies, false_implies, implies_true, dT, dF, nL, hneg]
   (try with_reducible refine iC ?_)
   repeat' (first | (with_reducible first | refine W ?_ | refine Z0 ?_) | ((with_reducible first | refine Wo (fun K hK => ?_) | refine Wq ?_ | refine Wr ?_); (try simp only [go_sem, fN, seval, eT, iR, e0, e1, e2, e8, e9, e10]); (repeat with_reducible refine Ai ?_); (try (refine hK _ ?_; clear hK K))))
   refine then_normal ⟨(i + j) / 2 - i, by omega, i, (i + j) / 2, hi, ?_, by omega, rfl, ?_⟩
   ·rcases Nat.lt_or_ge ((i + j) / 2) i0 with h | h
    ·rw [hlo _ b hb h] at hc; cases hc
    ·omega
   ·simp only [go_sem, fN, seval, eT, iR, e0, e1, e2, e8, e9, e10]
 ·have hii : i = i0 := by omega
  subst hii
  have hjj : j = i := by omega
  subst hjj
  repeat' (first | (with_reducible first | refine W ?_ | refine Z0 ?_) | ((with_reducible first | refine Wo (fun K hK => ?_) | refine Wq ?_ | refine Wr ?_); (try simp only [go_sem, fN, seval, eT, iR, e0, e1, e2, e8, e9, e10, hlt, sr]); (repeat with_reducible refine Ai ?_); (try (refine hK _ ?_; clear hK K))))
  with_reducible refine Wp ?_
  simp only [go_sem, fN, seval, true_implies, false_implies, implies_true, dT, dF, nL, hlt]
  (try with_reducible refine iC ?_)
  by_cases hil : (j : Int) < l.length
  ·have hil' : j < l.length := by omega
   obtain ⟨b, hb⟩ := get_lt hil'
   repeat' (first | (with_reducible first | refine W ?_ | refine Z0 ?_) | ((with_reducible first | refine Wo (fun K hK => ?_) | refine Wq ?_ | refine Wr ?_); (try simp only [go_sem, fN, seval, eT, iR, e0, e1, e2, e8, e9, e10, hil, hil', hb, encB, hplain, sr]); (repeat with_reducible refine Ai ?_); (try (refine hK _ ?_; clear hK K))))
   refine ⟨_, _, find1_S b n _, ?_⟩
   repeat' (first | (with_reducible first | refine W ?_ | refine Z0 ?_) | ((with_reducible first | refine Wo (fun K hK => ?_) | refine Wq ?_ | refine Wr ?_); (try simp only [go_sem, fN, seval, eT, iR]); (repeat with_reducible refine Ai ?_); (try (refine hK _ ?_; clear hK K))))
   refine finS_same (.tup [aInt j, aBool (foundAt l n j)]) hS trivial ?_ ?_ fun _ _ => rfl
   ·simp only [go_sem, fN, seval, eT, iR, resAll, resOne, tupV, e9, e10]
    unfold foundAt
    rw [hb]
    simp only [cmpI_zero]
   ·rfl
  ·repeat' (first | (with_reducible first | refine W ?_ | refine Z0 ?_) | ((with_reducible first | refine Wo (fun K hK => ?_) | refine Wq ?_ | refine Wr ?_); (try simp only [go_sem, fN, seval, eT, iR, e0, e1, e2, e8, e9, e10, hil]); (repeat with_reducible refine Ai ?_); (try (refine hK _ ?_; clear hK K))))
   refine finS_same (.tup [aInt j, aBool (foundAt l n j)]) hS trivial ?_ ?_ fun _ _ => rfl
   ·simp only [go_sem, fN, seval, eT, iR, resAll, resOne, tupV, e9, e10]
    unfold foundAt
    rw [List.getElem?_eq_none (by omega)]
   ·rfl
theorem find_M (l : List Bd) (h40 : l.length ≤ 100000) (ho : Ordered l) (n : ByteArray) (r : Nat) (hr : 1000 ≤ r) (S : AStore) (sr : S r = some (rowBd l)) : ACallsS Tryz.prog 108 [.one (.row r l.length), aStr n] S (.tup [aTm ((lookup l n).getD Tm.nil), aBool (lookup l n).isSome]) S := by
 obtain ⟨i, hi, hlo, hhi, _⟩ := search_a l h40 ho n
 refine ok_subst_FindM.acS fun hS C hC => ?_
 unfold ir_subst_FindM
 have n4 : S 4 = none := clean_none hS (by omega)
 have r4 : ¬ r = 4 := by omega
 repeat' (first | (with_reducible first | refine W ?_ | refine Z0 ?_) | ((with_reducible first | refine Wo (fun K hK => ?_) | refine Wq ?_ | refine Wr ?_); (try simp only [go_sem, fN, seval, eT, iR, n4]); (repeat with_reducible refine Ai ?_); (try (refine hK _ ?_; clear hK K))))
 refine ⟨_, [(r, rowBd l)], rows_one (by (simp only [go_sem, fN, seval, eT, iR, r4, sr])), fun T hT => search_M l n i hi h40 hlo hhi (up1 r) (up1_le r) (upS T) (by rw [upS_up, hT _ (List.mem_singleton.2 rfl)]; rfl), ?_⟩
 rcases found_lookup hlo hhi ho with ⟨b, hb, he, hl⟩ | ⟨hf, hl⟩
 ·have hf : foundAt l n i = true := by unfold foundAt; rw [hb]; exact decide_eq_true he
  have hil := lt_of_get hb
  repeat' (first | (with_reducible first | refine W ?_ | refine Z0 ?_) | ((with_reducible first | refine Wo (fun K hK => ?_) | refine Wq ?_ | refine Wr ?_); (try simp only [go_sem, fN, seval, eT, iR, hf]); (repeat with_reducible refine Ai ?_); (try (refine hK _ ?_; clear hK K))))
  with_reducible refine Wp ?_
  simp only [go_sem, fN, seval, true_implies, false_implies, implies_true, dT, dF, nL, hf]
  (try with_reducible refine iC ?_)
  repeat' (first | (with_reducible first | refine W ?_ | refine Z0 ?_) | ((with_reducible first | refine Wo (fun K hK => ?_) | refine Wq ?_ | refine Wr ?_); (try simp only [go_sem, fN, seval, eT, iR, hb, encB, sr, r4, hil]); (repeat with_reducible refine Ai ?_); (try (refine hK _ ?_; clear hK K))))
  refine finS_same (.tup [aTm b.2, aBool true]) hS trivial ?_ ?_ fun k hk => ?_
  ·simp only [go_sem, fN, seval, eT, iR, resAll, resOne, tupV]
  ·simp only [go_sem, fN, seval, eT, iR]
   rw [hl]
   rfl
  ·have k4 : ¬ k = 4 := by omega
   simp only [go_sem, fN, seval, eT, iR, k4]
 ·repeat' (first | (with_reducible first | refine W ?_ | refine Z0 ?_) | ((with_reducible first | refine Wo (fun K hK => ?_) | refine Wq ?_ | refine Wr ?_); (try simp only [go_sem, fN, seval, eT, iR, hf]); (repeat with_reducible refine Ai ?_); (try (refine hK _ ?_; clear hK K))))
  with_reducible refine Wp ?_
  simp only [go_sem, fN, seval, true_implies, false_implies, implies_true, dT, dF, nL, hf]
  (try with_reducible refine iC ?_)
  repeat' (first | (with_reducible first | refine W ?_ | refine Z0 ?_) | ((with_reducible first | refine Wo (fun K hK => ?_) | refine Wq ?_ | refine Wr ?_); (try simp only [go_sem, fN, seval, eT, iR]); (repeat with_reducible refine Ai ?_); (try (refine hK _ ?_; clear hK K))))
  refine finS_same (.tup [.agg [.st (.str ⟨#[]⟩), .full []], aBool false]) hS trivial ?_ ?_ fun k hk => ?_
  ·simp only [go_sem, fN, seval, eT, iR, resAll, resOne, tupV]
  ·simp only [go_sem, fN, seval, eT, iR]
   rw [hl]
   rfl
  ·have k4 : ¬ k = 4 := by omega
   simp only [go_sem, fN, seval, eT, iR, k4]
abbrev mkBlkR (r n : Nat) (left : Int) : ABlk := .box 131 [.row r n, .st (.int .i64 left)]
theorem copy_coreM (s : List Bd) (h40 : s.length ≤ 100000) (ho : Ordered s) (turn : Bool) (f : Tm → Tm) (t : Tm) (hl : turn = true → lookup s t.name = none)
  (ih : ∀ a ∈ t.args, ∀ (a0 r : Nat) (left : Int) (S : AStore), 1000 ≤ a0 → 1000 ≤ r → ¬ r = a0 → 0 ≤ left → left ≤ 1000000 → S a0 = some (mkBlkR r s.length left) → S r = some (rowBd s) →
   ACallsS Tryz.prog 98 [.one (.ptr a0 1 0 0), aTm a, aBool turn] S (aTm (fitIn (f a) left).1) (updE S a0 (some (mkBlkR r s.length (fitIn (f a) left).2))))
  (a0 r : Nat) (left : Int) (S : AStore) (ha0 : 1000 ≤ a0) (hr0 : 1000 ≤ r) (hra : ¬ r = a0) (h0 : 0 ≤ left) (h1 : left ≤ 1000000) (hSa : S a0 = some (mkBlkR r s.length left)) (hSr : S r = some (rowBd s)) :
  ACallsS Tryz.prog 98 [.one (.ptr a0 1 0 0), aTm t, aBool turn] S (aTm (fitIn (.mk t.name (t.args.map f)) left).1) (updE S a0 (some (mkBlkR r s.length (fitIn (.mk t.name (t.args.map f)) left).2))) := by
 refine ok_metaprune_subst_maker_copyM.acS fun hS C hC => ?_
 have hu : (Tm.mk t.name (t.args.map f)).size = 1 + Tm.sizes (t.args.map f) := rfl
 have hlen := Tm.length_le (t.args.map f)
 rw [List.length_map] at hlen
 have hhigh : ∀ left, (mkBlkR r s.length left).high = true := fun left => by
  show ((AC.row r s.length).high && AC.highs [.st (.int .i64 left)]) = true
  rw [high_row hr0]
  rfl
 have n4 : S 4 = none := clean_none hS (by omega)
 have n6 : S 6 = none := clean_none hS (by omega)
 have n7 : S 7 = none := clean_none hS (by omega)
 have n9 : S 9 = none := clean_none hS (by omega)
 have n11 : S 11 = none := clean_none hS (by omega)
 have n900 : S 900 = none := clean_none hS (by omega)
 have d4 : ¬ 4 = a0 := by omega
 have d6 : ¬ 6 = a0 := by omega
 have d7 : ¬ 7 = a0 := by omega
 have d9 : ¬ 9 = a0 := by omega
 have d11 : ¬ 11 = a0 := by omega
 have d900 : ¬ 900 = a0 := by omega
 have e4 : ¬ a0 = 4 := by omega
 have e6 : ¬ a0 = 6 := by omega
 have e7 : ¬ a0 = 7 := by omega
 have e9 : ¬ a0 = 9 := by omega
 have e11 : ¬ a0 = 11 := by omega
 have e900 : ¬ a0 = 900 := by omega
 have f4 : ¬ r = 4 := by omega
 have f6 : ¬ r = 6 := by omega
 have f7 : ¬ r = 7 := by omega
 have f9 : ¬ r = 9 := by omega
 have f11 : ¬ r = 11 := by omega
 have f900 : ¬ r = 900 := by omega
 unfold ir_metaprune_subst_maker_copyM
 cases turn
 case' false =>
  repeat' (first | (with_reducible first | refine W ?_ | refine Z0 ?_) | ((with_reducible first | refine Wo (fun K hK => ?_) | refine Wq ?_ | refine Wr ?_); (try simp only [go_sem, fN, seval, eT, iR, hSa, n4, n6, n7, d4, d6, d7, e4, e6, e7]); (repeat with_reducible refine Ai ?_); (try (refine hK _ ?_; clear hK K))))
  with_reducible refine Wp ?_
  simp only [go_sem, fN, seval, true_implies, false_implies, implies_true, dT, dF, nL]
  (try with_reducible refine iC ?_)
  repeat' (first | (with_reducible first | refine W ?_ | refine Z0 ?_) | ((with_reducible first | refine Wo (fun K hK => ?_) | refine Wq ?_ | refine Wr ?_); (try simp only [go_sem, fN, seval, eT, iR, hSa, n4, n6, n7, n9, d4, d6, d7, d9, e4, e6, e7, e9]); (repeat with_reducible refine Ai ?_); (try (refine hK _ ?_; clear hK K))))
 case' true =>
  have hln := hl rfl
  repeat' (first | (with_reducible first | refine W ?_ | refine Z0 ?_) | ((with_reducible first | refine Wo (fun K hK => ?_) | refine Wq ?_ | refine Wr ?_); (try simp only [go_sem, fN, seval, eT, iR, hSa, n4, n6, n7, d4, d6, d7, e4, e6, e7]); (repeat with_reducible refine Ai ?_); (try (refine hK _ ?_; clear hK K))))
  with_reducible refine Wp ?_
  simp only [go_sem, fN, seval, true_implies, false_implies, implies_true, dT, dF, nL]
  (try with_reducible refine iC ?_)
  repeat' (first | (with_reducible first | refine W ?_ | refine Z0 ?_) | ((with_reducible first | refine Wo (fun K hK => ?_) | refine Wq ?_ | refine Wr ?_); (try simp only [go_sem, fN, seval, eT, iR, hSa, n4, n6, n7, d4, d6, d7, e4, e6, e7]); (repeat with_reducible refine Ai ?_); (try (refine hK _ ?_; clear hK K))))
  refine ⟨_, [(r, rowBd s)], rows_one (by (simp only [go_sem, fN, seval, eT, iR, f4, f6, f7, hSr])), fun T hT => find_M s h40 ho t.name (up1 r) (up1_le r) (upS T) (by rw [upS_up, hT _ (List.mem_singleton.2 rfl)]; rfl), ?_⟩
  repeat' (first | (with_reducible first | refine W ?_ | refine Z0 ?_) | ((with_reducible first | refine Wo (fun K hK => ?_) | refine Wq ?_ | refine Wr ?_); (try simp only [go_sem, fN, seval, eT, iR, hln, n7]); (repeat with_reducible refine Ai ?_); (try (refine hK _ ?_; clear hK K))))
  with_reducible refine Wp ?_
  simp only [go_sem, fN, seval, true_implies, false_implies, implies_true, dT, dF, nL]
  (try with_reducible refine iC ?_)
  repeat' (first | (with_reducible first | refine W ?_ | refine Z0 ?_) | ((with_reducible first | refine Wo (fun K hK => ?_) | refine Wq ?_ | refine Wr ?_); (try simp only [go_sem, fN, seval, eT, iR, hSa, n4, n6, n7, n9, d4, d6, d7, d9, e4, e6, e7, e9]); (repeat with_reducible refine Ai ?_); (try (refine hK _ ?_; clear hK K))))
 all_goals
  by_cases hz : left = 0
  ·subst hz
   have hno : ¬ ((Tm.mk t.name (t.args.map f)).size : Int) ≤ 0 := by rw [hu]; omega
   rw [fitIn_no hno]
   with_reducible refine Wp ?_
   simp only [go_sem, fN, seval, true_implies, false_implies, implies_true, dT, dF, nL]
   (try with_reducible refine iC ?_)
   repeat' (first | (with_reducible first | refine W ?_ | refine Z0 ?_) | ((with_reducible first | refine Wo (fun K hK => ?_) | refine Wq ?_ | refine Wr ?_); (try simp only [go_sem, fN, seval, eT, iR, hSa, n4, n6, n7, n9, d4, d6, d7, d9, e4, e6, e7, e9]); (repeat with_reducible refine Ai ?_); (try (refine hK _ ?_; clear hK K))))
   refine finS_one (.agg [.st (.str ⟨#[]⟩), .full []]) hS ha0 (hhigh _) trivial ?_ ?_ ?_ fun i hi hne => ?_
   ·simp only [go_sem, fN, seval, eT, iR, resAll, resOne, tupV, e4, e6, e7, e9, d4, d6, d7, d9]
   ·simp only [go_sem, fN, seval, eT, iR, Tm.nil]
    rfl
   ·simp only [go_sem, fN, seval, eT, iR, e4, e6, e7, e9]
   ·have i4 : ¬ i = 4 := by omega
    have i6 : ¬ i = 6 := by omega
    have i7 : ¬ i = 7 := by omega
    simp only [go_sem, fN, seval, eT, iR, i4, i6, i7, hne]
  have hz' : ¬ left - 1 < 0 := by omega
  with_reducible refine Wp ?_
  simp only [go_sem, fN, seval, true_implies, false_implies, implies_true, dT, dF, nL, hz']
  (try with_reducible refine iC ?_)
  repeat' (first | (with_reducible first | refine W ?_ | refine Z0 ?_) | ((with_reducible first | refine Wo (fun K hK => ?_) | refine Wq ?_ | refine Wr ?_); (try simp only [go_sem, fN, seval, eT, iR, hSa, n4, n6, n7, n9, d4, d6, d7, d9, e4, e6, e7, e9]); (repeat with_reducible refine Ai ?_); (try (refine hK _ ?_; clear hK K))))
  refine IWP.ghost (Ghost.ownC 9 1 900 61 2 (xs := ([] : List Tm).map encT) (by simp only [go_sem, fN, seval, eT, iR, d9, d4, d6, d7, e9]; rfl) rfl (by simp only [go_sem, fN, seval, eT, iR, n900, d900]) lens_encT) ?_
  refine IWP.loopD [11] (fun m x => ∃ k, k ≤ t.args.length ∧ m = t.args.length - k ∧ (Tm.sizes ((t.args.take k).map f) : Int) ≤ left - 1 ∧ x.env 0 = .one (.ptr a0 1 0 0) ∧ x.env 2 = aBool _ ∧ x.env 6 = .one (.ptr 6 1 0 0) ∧ x.env 9 = .one (.ptr 9 1 0 0) ∧ x.env 44 = .one (.st (.list (t.args.map encT))) ∧ x.env 45 = aInt t.args.length ∧ x.env 46 = aInt k ∧
    x.S 6 = some (.box 61 [.st (.str ⟨#[]⟩), .full []]) ∧ x.S 9 = some (.box 61 [.st (.str t.name), .row 900 k]) ∧ x.S 900 = some (.arow 61 2 (((t.args.take k).map f).map encT)) ∧ x.S 11 = none ∧ x.S a0 = some (mkBlkR r s.length (left - 1 - Tm.sizes ((t.args.take k).map f))) ∧ ∀ i, 1000 ≤ i → i ≠ a0 → x.S i = S i)
   t.args.length ⟨0, Nat.zero_le _, rfl, by show (0 : Int) ≤ _; omega, rfl, rfl, rfl, rfl, rfl, rfl, rfl, by simp only [go_sem, fN, seval, eT, iR, d6, d4, d7, d9, e6], by (simp only [go_sem, fN, seval, eT, iR, d9]); rfl, by simp only [go_sem, fN, seval, eT, iR, e9], by simp only [go_sem, fN, seval, eT, iR, n11, d11], by (simp only [go_sem, fN, seval, eT, iR, e9, e900]); simp [Tm.sizes], fun i hi hne => ?_⟩ ?_
  ·have i4 : ¬ i = 4 := by omega
   have i6 : ¬ i = 6 := by omega
   have i7 : ¬ i = 7 := by omega
   have i9 : ¬ i = 9 := by omega
   have i900 : ¬ i = 900 := by omega
   simp only [go_sem, fN, seval, eT, iR, i4, i6, i7, i9, i900, hne]
  rintro m ⟨env, S1⟩ ⟨k, hk, rfl, hsz, e0, e2, e6', e9', e44, e45, e46, s6, s9, s900, s11, sa, hrest⟩
  simp only at e0 e2 e6' e9' e44 e45 e46 s6 s9 s900 s11 sa hrest
  have hlk : (t.args.take k).length = k := by rw [List.length_take]; omega
  have hle := Tm.sizes_take_le (t.args.map f) k
  rw [← List.map_take] at hle
  have hkl := Tm.length_le ((t.args.take k).map f)
  rw [List.length_map, hlk] at hkl
  have hSr1 : S1 r = some (rowBd s) := (hrest r hr0 hra).trans hSr
  by_cases hlt : (k : Int) < t.args.length
  ·obtain ⟨a, ha⟩ := get_lt (show k < t.args.length by omega)
   have ha' : (t.args.map f)[k]? = some (f a) := by rw [List.getElem?_map, ha]; rfl
   have z1 := Tm.sizes_take ha'
   have z2 := Tm.sizes_take_le (t.args.map f) (k + 1)
   rw [← List.map_take, ← List.map_take] at z1
   rw [← List.map_take] at z2
   repeat' (first | (with_reducible first | refine W ?_ | refine Z0 ?_) | ((with_reducible first | refine Wo (fun K hK => ?_) | refine Wq ?_ | refine Wr ?_); (try simp only [go_sem, fN, seval, eT, iR, e0, e2, e6', e9', e44, e45, e46, s6, s9, s900, s11, sa, hlt]); (repeat with_reducible refine Ai ?_); (try (refine hK _ ?_; clear hK K))))
   with_reducible refine Wp ?_
   simp only [go_sem, fN, seval, true_implies, false_implies, implies_true, dT, dF, nL, hlt]
   (try with_reducible refine iC ?_)
   repeat' (first | (with_reducible first | refine W ?_ | refine Z0 ?_) | ((with_reducible first | refine Wo (fun K hK => ?_) | refine Wq ?_ | refine Wr ?_); (try simp only [go_sem, fN, seval, eT, iR, e0, e2, e6', e9', e44, e45, e46, s6, s9, s900, s11, sa, d11, d9, e11, ha]); (repeat with_reducible refine Ai ?_); (try (refine hK _ ?_; clear hK K))))
   have hcall := ih a (mem_of_get ha) (up1 a0) (up1 r) (left - 1 - Tm.sizes ((t.args.take k).map f)) (upS (updE (updE S1 11 (some (.box 61 [.st (.str ⟨#[]⟩), .full []]))) 11 (some (.box 61 [.st (.str a.name), .st (.list (a.args.map encT))])))) (up1_le a0) (up1_le r) (by unfold up1; omega) (by omega) (by omega) (by rw [upS_up, updE_ne _ e11, updE_ne _ e11, sa]; rfl) (by rw [upS_up, updE_ne _ f11, updE_ne _ f11, hSr1]; rfl)
   by_cases hfit : ((f a).size : Int) ≤ left - 1 - Tm.sizes ((t.args.take k).map f)
   ·rw [fitIn_yes hfit] at hcall
    refine ⟨_, _, hcall, ?_⟩
    have hge : ¬ left - 1 - Tm.sizes ((t.args.take k).map f) - (f a).size < 0 := by omega
    repeat' (first | (with_reducible first | refine W ?_ | refine Z0 ?_) | ((with_reducible first | refine Wo (fun K hK => ?_) | refine Wq ?_ | refine Wr ?_); (try simp only [go_sem, fN, seval, eT, iR, e0, e2, e6', e9', e44, e45, e46, s6, s9, s900, s11, d11, d9, e11, e9, e900, d900, hlk]); (repeat with_reducible refine Ai ?_); (try (refine hK _ ?_; clear hK K))))
    with_reducible refine Wp ?_
    simp only [go_sem, fN, seval, true_implies, false_implies, implies_true, dT, dF, nL, hge]
    (try with_reducible refine iC ?_)
    repeat' (first | (with_reducible first | refine W ?_ | refine Z0 ?_) | ((with_reducible first | refine Wo (fun K hK => ?_) | refine Wq ?_ | refine Wr ?_); (try simp only [go_sem, fN, seval, eT, iR, e0, e2, e6', e9', e44, e45, e46, s6, s9, s900, s11, d11, d9, e11]); (repeat with_reducible refine Ai ?_); (try (refine hK _ ?_; clear hK K))))
    refine then_normal ⟨t.args.length - (k + 1), by omega, k + 1, by omega, rfl, ?_⟩
    have hib : (a0 == 11) = false := by simp; omega
    have hrb : (r == 11) = false := by simp; omega
    have hzz : ((Tm.sizes ((t.args.take (k + 1)).map f) : Nat) : Int) = Tm.sizes ((t.args.take k).map f) + (f a).size := by omega
    refine ⟨by omega, ?_⟩
    simp only [go_sem, fN, seval, AS.drop, dropS, AC.clears, AC.clear, AC.highs, AC.high, Bool.not_false, Bool.true_and, Bool.and_self, AV.purge, AV.purges, AC.purge, ABlk.purge, List.contains_cons, List.contains_nil, Nat.reduceBEq, Bool.or_self, Bool.or_false, Bool.false_or, Bool.or_true, eT, iR, e0, e2, e6', e9', e44, e45, s6, s9, s900, d11, d9, e11, e9, e900, d900, d6, hib, hrb]
    refine ⟨by congr 3, by rw [take_snoc ha, List.map_append, List.map_append, List.map_cons, List.map_nil, List.map_cons, List.map_nil, encT_eq], ?_, fun i hi hne => ?_⟩
    ·congr 5
     omega
    ·have i9 : ¬ i = 9 := by omega
     have i11 : ¬ i = 11 := by omega
     have i900 : ¬ i = 900 := by omega
     have i11b : (i == 11) = false := by simp; omega
     simp only [go_sem, fN, seval, AS.drop, dropS, AC.clears, AC.clear, AC.highs, AC.high, Bool.not_false, Bool.true_and, Bool.and_self, AV.purge, AV.purges, AC.purge, ABlk.purge, List.contains_cons, List.contains_nil, Nat.reduceBEq, Bool.or_self, Bool.or_false, Bool.false_or, Bool.or_true, eT, iR, i9, i11, i11b, i900, hne]
     rw [hrest i hi hne]
     exact purgeS (by decide) fun b hb => (hS i b hb).2
   ·have hno : ¬ ((Tm.mk t.name (t.args.map f)).size : Int) ≤ left := by rw [hu]; omega
    rw [fitIn_no hfit] at hcall
    refine ⟨_, _, hcall, ?_⟩
    repeat' (first | (with_reducible first | refine W ?_ | refine Z0 ?_) | ((with_reducible first | refine Wo (fun K hK => ?_) | refine Wq ?_ | refine Wr ?_); (try simp only [go_sem, fN, seval, eT, iR, e0, e2, e6', e9', e44, e45, e46, s6, s9, s900, s11, d11, d9, e11, e9, e900, d900, hlk]); (repeat with_reducible refine Ai ?_); (try (refine hK _ ?_; clear hK K))))
    with_reducible refine Wp ?_
    simp only [go_sem, fN, seval, true_implies, false_implies, implies_true, dT, dF, nL]
    (try with_reducible refine iC ?_)
    repeat' (first | (with_reducible first | refine W ?_ | refine Z0 ?_) | ((with_reducible first | refine Wo (fun K hK => ?_) | refine Wq ?_ | refine Wr ?_); (try simp only [go_sem, fN, seval, eT, iR, e0, e2, e6', e9', e44, e45, e46, s6, s9, s900, s11, d11, d9, e11, e6, d6, d900, e900]); (repeat with_reducible refine Ai ?_); (try (refine hK _ ?_; clear hK K))))
    rw [fitIn_no hno]
    refine finS_one (.agg [.st (.str ⟨#[]⟩), .full []]) hS ha0 (hhigh _) trivial ?_ ?_ ?_ fun i hi hne => ?_
    ·simp only [go_sem, fN, seval, eT, iR, resAll, resOne, tupV, e6', s6, e6, e9, e11, e900, d6, d9, d11, d900]
    ·simp only [go_sem, fN, seval, eT, iR, Tm.nil]
     rfl
    ·simp only [go_sem, fN, seval, eT, iR, e6, e9, e11, e900]
    ·have i6 : ¬ i = 6 := by omega
     have i9 : ¬ i = 9 := by omega
     have i11 : ¬ i = 11 := by omega
     have i900 : ¬ i = 900 := by omega
     simp only [go_sem, fN, seval, eT, iR, i6, i9, i11, i900, hne]
     exact hrest i hi hne
  ·have hall : t.args.take k = t.args := List.take_of_length_le (by omega)
   rw [hall] at hlk s900 hsz sa
   have hyes : ((Tm.mk t.name (t.args.map f)).size : Int) ≤ left := by rw [hu]; omega
   repeat' (first | (with_reducible first | refine W ?_ | refine Z0 ?_) | ((with_reducible first | refine Wo (fun K hK => ?_) | refine Wq ?_ | refine Wr ?_); (try simp only [go_sem, fN, seval, eT, iR, e0, e2, e6', e9', e44, e45, e46, s6, s9, s900, s11, sa, hlt]); (repeat with_reducible refine Ai ?_); (try (refine hK _ ?_; clear hK K))))
   with_reducible refine Wp ?_
   simp only [go_sem, fN, seval, true_implies, false_implies, implies_true, dT, dF, nL, hlt]
   (try with_reducible refine iC ?_)
   repeat' (first | (with_reducible first | refine W ?_ | refine Z0 ?_) | ((with_reducible first | refine Wo (fun K hK => ?_) | refine Wq ?_ | refine Wr ?_); (try simp only [go_sem, fN, seval, eT, iR, e0, e2, e6', e9', e44, e45, e46, s6, s9, s900, s11, sa, d6]); (repeat with_reducible refine Ai ?_); (try (refine hK _ ?_; clear hK K))))
   rw [fitIn_yes hyes]
   refine finS_one (.agg [.st (.str t.name), .row 900 k]) hS ha0 (hhigh _) trivial ?_ ?_ ?_ fun i hi hne => ?_
   ·simp only [go_sem, fN, seval, eT, iR, resAll, resOne, tupV, e6', s6]
   ·simp only [go_sem, fN, seval, eT, iR, s900, hlk]
    rfl
   ·simp only [go_sem, fN, seval, eT, iR, e6, sa, hu]
    rw [show left - 1 - (Tm.sizes (t.args.map f) : Int) = left - ((1 + Tm.sizes (t.args.map f) : Nat) : Int) by omega]
   ·have i6 : ¬ i = 6 := by omega
    simp only [go_sem, fN, seval, eT, iR, i6]
    exact hrest i hi hne
theorem copyF_M (s : List Bd) (h40 : s.length ≤ 100000) (ho : Ordered s) (t : Tm) : ∀ (a0 r : Nat) (left : Int) (S : AStore), 1000 ≤ a0 → 1000 ≤ r → ¬ r = a0 → 0 ≤ left → left ≤ 1000000 → S a0 = some (mkBlkR r s.length left) → S r = some (rowBd s) →
  ACallsS Tryz.prog 98 [.one (.ptr a0 1 0 0), aTm t, aBool false] S (aTm (fitIn t left).1) (updE S a0 (some (mkBlkR r s.length (fitIn t left).2))) := by
 induction h : SizeOf.sizeOf t using Nat.strongRecOn generalizing t with
 | _ N ih =>
 subst h
 intro a0 r left S h1 h1' h1'' h2 h3 h4 h5
 have := copy_coreM s h40 ho false id t (fun h => by cases h) (fun a ha => ih _ (Tm.lt_of_arg ha) a rfl) a0 r left S h1 h1' h1'' h2 h3 h4 h5
 rw [List.map_id, Tm.eta] at this
 exact this
theorem copyT_M (s : List Bd) (h40 : s.length ≤ 100000) (ho : Ordered s) (t : Tm) (hv : ∀ b ∈ s, isVar b.1 = true) (hchk : t.chk = 0) : ∀ (a0 r : Nat) (left : Int) (S : AStore), 1000 ≤ a0 → 1000 ≤ r → ¬ r = a0 → 0 ≤ left → left ≤ 1000000 → S a0 = some (mkBlkR r s.length left) → S r = some (rowBd s) →
  ACallsS Tryz.prog 98 [.one (.ptr a0 1 0 0), aTm t, aBool true] S (aTm (fitIn (t.on s) left).1) (updE S a0 (some (mkBlkR r s.length (fitIn (t.on s) left).2))) := by
 induction h : SizeOf.sizeOf t using Nat.strongRecOn generalizing t with
 | _ N ih =>
 subst h
 intro a0 r left S ha0 hr0 hra h0 h1 hSa hSr
 obtain ⟨c1, c2⟩ := Tm.chk_args hchk
 cases hl : lookup s t.name with
 | none =>
  have := copy_coreM s h40 ho true (Tm.on s) t (fun _ => hl) (fun a ha => ih _ (Tm.lt_of_arg ha) a (c2 a ha) rfl) a0 r left S ha0 hr0 hra h0 h1 hSa hSr
  rw [← Tm.on_knot (.inl hl)] at this
  exact this
 | some x =>
  obtain ⟨b, hb, hbn, _⟩ := lookup_mem hl
  have hargs := c1 (by rw [← hbn]; exact hv b hb)
  rw [Tm.on_leaf hl hargs]
  refine ok_metaprune_subst_maker_copyM.acS fun hS C hC => ?_
  have n4 : S 4 = none := clean_none hS (by omega)
  have n6 : S 6 = none := clean_none hS (by omega)
  have n7 : S 7 = none := clean_none hS (by omega)
  have e4 : ¬ a0 = 4 := by omega
  have e6 : ¬ a0 = 6 := by omega
  have e7 : ¬ a0 = 7 := by omega
  have d4 : ¬ 4 = a0 := by omega
  have d6 : ¬ 6 = a0 := by omega
  have d7 : ¬ 7 = a0 := by omega
  have f4 : ¬ r = 4 := by omega
  have f6 : ¬ r = 6 := by omega
  have f7 : ¬ r = 7 := by omega
  have hhigh : ∀ left, (mkBlkR r s.length left).high = true := fun left => by
   show ((AC.row r s.length).high && AC.highs [.st (.int .i64 left)]) = true
   rw [high_row hr0]
   rfl
  unfold ir_metaprune_subst_maker_copyM
  repeat' (first | (with_reducible first | refine W ?_ | refine Z0 ?_) | ((with_reducible first | refine Wo (fun K hK => ?_) | refine Wq ?_ | refine Wr ?_); (try simp only [go_sem, fN, seval, eT, iR, hSa, n4, n6, n7, d4, d6, d7, e4, e6, e7]); (repeat with_reducible refine Ai ?_); (try (refine hK _ ?_; clear hK K))))
  with_reducible refine Wp ?_
  simp only [go_sem, fN, seval, true_implies, false_implies, implies_true, dT, dF, nL]
  (try with_reducible refine iC ?_)
  repeat' (first | (with_reducible first | refine W ?_ | refine Z0 ?_) | ((with_reducible first | refine Wo (fun K hK => ?_) | refine Wq ?_ | refine Wr ?_); (try simp only [go_sem, fN, seval, eT, iR, hSa, n4, n6, n7, d4, d6, d7, e4, e6, e7]); (repeat with_reducible refine Ai ?_); (try (refine hK _ ?_; clear hK K))))
  refine ⟨_, [(r, rowBd s)], rows_one (by (simp only [go_sem, fN, seval, eT, iR, f4, f6, f7, hSr])), fun T hT => find_M s h40 ho t.name (up1 r) (up1_le r) (upS T) (by rw [upS_up, hT _ (List.mem_singleton.2 rfl)]; rfl), ?_⟩
  repeat' (first | (with_reducible first | refine W ?_ | refine Z0 ?_) | ((with_reducible first | refine Wo (fun K hK => ?_) | refine Wq ?_ | refine Wr ?_); (try simp only [go_sem, fN, seval, eT, iR, hl, n7]); (repeat with_reducible refine Ai ?_); (try (refine hK _ ?_; clear hK K))))
  with_reducible refine Wp ?_
  simp only [go_sem, fN, seval, true_implies, false_implies, implies_true, dT, dF, nL]
  (try with_reducible refine iC ?_)
  repeat' (first | (with_reducible first | refine W ?_ | refine Z0 ?_) | ((with_reducible first | refine Wo (fun K hK => ?_) | refine Wq ?_ | refine Wr ?_); (try simp only [go_sem, fN, seval, eT, iR, hSa, n4, n6, n7, d4, d6, d7, e4, e6, e7]); (repeat with_reducible refine Ai ?_); (try (refine hK _ ?_; clear hK K))))
  have hcall := fun S' h h' => copyF_M s h40 ho x (up1 a0) (up1 r) left S' (up1_le a0) (up1_le r) (by unfold up1; omega) h0 h1 h h'
  refine ⟨_, _, hcall _ (by rw [upS_up]; (simp only [go_sem, fN, seval, eT, iR, e4, e6, e7, hSa])) (by rw [upS_up]; (simp only [go_sem, fN, seval, eT, iR, f4, f6, f7, hSr])), ?_⟩
  repeat' (first | (with_reducible first | refine W ?_ | refine Z0 ?_) | ((with_reducible first | refine Wo (fun K hK => ?_) | refine Wq ?_ | refine Wr ?_); (try simp only [go_sem, fN, seval, eT, iR, e4, e6, e7, d4, d6, d7]); (repeat with_reducible refine Ai ?_); (try (refine hK _ ?_; clear hK K))))
  refine finS_one (aTm (fitIn x left).1) hS ha0 (hhigh _) trivial ?_ ?_ ?_ fun i hi hne => ?_
  ·simp only [go_sem, fN, seval, eT, iR, resAll, resOne, tupV, e4, e6, e7, d4, d6, d7]
  ·simp only [go_sem, fN, seval, eT, iR]
  ·simp only [go_sem, fN, seval, eT, iR, e4, e6, e7]
  ·have i4 : ¬ i = 4 := by omega
   have i6 : ¬ i = 6 := by omega
   have i7 : ¬ i = 7 := by omega
   simp only [go_sem, fN, seval, eT, iR, i4, i6, i7, hne]
theorem on_M (s : List Bd) (h40 : s.length ≤ 100000) (ho : Ordered s) (t : Tm) (hv : ∀ b ∈ s, isVar b.1 = true) (hchk : t.chk = 0) (r : Nat) (hr : 1000 ≤ r) (S : AStore) (sr : S r = some (rowBd s)) :
  ACallsS Tryz.prog 80 [.one (.row r s.length), aTm t] S (.tup [aTm (onTo s t).1, aBool (onTo s t).2]) S := by
 refine ok_subst_OnM.acS fun hS C hC => ?_
 unfold ir_subst_OnM
 have n3 : S 3 = none := clean_none hS (by omega)
 have n4 : S 4 = none := clean_none hS (by omega)
 have n7 : S 7 = none := clean_none hS (by omega)
 have n10 : S 10 = none := clean_none hS (by omega)
 have r3 : ¬ r = 3 := by omega
 have r4 : ¬ r = 4 := by omega
 have r7 : ¬ r = 7 := by omega
 have r10 : ¬ r = 10 := by omega
 repeat' (first | (with_reducible first | refine W ?_ | refine Z0 ?_) | ((with_reducible first | refine Wo (fun K hK => ?_) | refine Wq ?_ | refine Wr ?_); (try simp only [go_sem, fN, seval, eT, iR, n3, n4, n7, n10]); (repeat with_reducible refine Ai ?_); (try (refine hK _ ?_; clear hK K))))
 have hcall := fun S' h h' => copyT_M s h40 ho t hv hchk (up1 10) (up1 r) 2000 S' (up1_le 10) (up1_le r) (by unfold up1; omega) (by omega) (by omega) h h'
 refine ⟨_, _, hcall _ (by rw [upS_up]; rfl) (by rw [upS_up]; (simp only [go_sem, fN, seval, eT, iR, r3, r4, r10, sr])), ?_⟩
 by_cases hfit : ((t.on s).size : Int) ≤ 2000
 ·have e : onTo s t = (t.on s, true) := by
   unfold onTo
   rw [if_pos (by omega)]
  rw [fitIn_yes hfit]
  have hge : (0 : Int) ≤ 2000 - (t.on s).size := by omega
  repeat' (first | (with_reducible first | refine W ?_ | refine Z0 ?_) | ((with_reducible first | refine Wo (fun K hK => ?_) | refine Wq ?_ | refine Wr ?_); (try simp only [go_sem, fN, seval, eT, iR, hge, n7]); (repeat with_reducible refine Ai ?_); (try (refine hK _ ?_; clear hK K))))
  rw [e]
  refine finS_same (.tup [aTm (t.on s), aBool true]) hS trivial ?_ ?_ fun k hk => ?_
  ·simp only [go_sem, fN, seval, eT, iR, resAll, resOne, tupV]
  ·simp only [go_sem, fN, seval, eT, iR]
  ·have k3 : ¬ k = 3 := by omega
   have k4 : ¬ k = 4 := by omega
   have k7 : ¬ k = 7 := by omega
   have k10 : ¬ k = 10 := by omega
   simp only [go_sem, fN, seval, eT, iR, k3, k4, k7, k10]
 ·have e : onTo s t = (Tm.nil, false) := by
   unfold onTo
   rw [if_neg (by omega)]
  rw [fitIn_no hfit]
  repeat' (first | (with_reducible first | refine W ?_ | refine Z0 ?_) | ((with_reducible first | refine Wo (fun K hK => ?_) | refine Wq ?_ | refine Wr ?_); (try simp only [go_sem, fN, seval, eT, iR, n7]); (repeat with_reducible refine Ai ?_); (try (refine hK _ ?_; clear hK K))))
  rw [e]
  refine finS_same (.tup [aTm Tm.nil, aBool false]) hS trivial ?_ ?_ fun k hk => ?_
  ·simp only [go_sem, fN, seval, eT, iR, resAll, resOne, tupV]
  ·simp only [go_sem, fN, seval, eT, iR]
  ·have k3 : ¬ k = 3 := by omega
   have k4 : ¬ k = 4 := by omega
   have k7 : ¬ k = 7 := by omega
   have k10 : ¬ k = 10 := by omega
   simp only [go_sem, fN, seval, eT, iR, k3, k4, k7, k10]

def ir_subst_SortM : IR :=
 (.seq (.ops [.i 2 (.mov (.c (.one (.full []))))]) (.seq (.ops [.m 3 0, .i 4 (.callS 100 [.t 3, .c (.one (.fn 101 []))])]) (.seq (.ops [.m 5 0, .m 2 5]) .ret)))
theorem ok_subst_SortM : OkF Tryz.prog 84 6 [4] ir_subst_SortM [.t 2] := .of Tryz.func84 rfl rfl (by kernel_rfl) rfl

open Go.Lib Go.Sort Go.Shelf
set_option maxHeartbeats 1000000
theorem run_gtr {P : Program} {w : World} (t : TypeId) (x y : ByteArray) : (binOp .gtr t (.string x) (.string y)).run P w = .ok (.bool (!(sLt x y || decide (x = y)))) w := by
 simp only [binOp, Op.stringOp, toList_eq_iff]
 rfl
attribute [go_sem] run_gtr
theorem isNaN_C (s : ByteArray) (W : World) : Calls Tryz.prog 112 #[.string s] W fun e w' => e = .returned (.bool false) ∧ w' = W := by
 go_enter Tryz.func112, Tryz.ntmps112
 go_wp2_with fail
 go_ret
 exact ⟨rfl, rfl⟩
theorem compare_C (a b : ByteArray) (W : World) : Calls Tryz.prog 102 #[.string a, .string b] W fun e w' => e = .returned (.int .i64 (cmpI a b)) ∧ w' = W := by
 have h1 := isNaN_C
 have hl : sLt a b = Op.bytesLess a.toList b.toList := rfl
 have hc : cmpI a b = if sLt a b = true then -1 else if a = b then 0 else 1 := rfl
 generalize cmpI a b = r at hc ⊢
 go_enter Tryz.func102, Tryz.ntmps102
 go_wp2_with (go_at_call 112; refine (h1 _ _).mono ?_; rintro e w' ⟨rfl, rfl⟩)
 all_goals go_ret
 all_goals refine ⟨?_, rfl⟩
 all_goals simp_all
abbrev SCell := ByteArray × ByteArray × Option Addr × Nat × Nat
def encSC (x : SCell) : List Value := [.string x.1, .string x.2.1, .slice x.2.2.1 x.2.2.2.1 x.2.2.2.2]
theorem sort1_C (x y : SCell) (W : World) : Calls Tryz.prog 101 #[.agg (encSC x).toArray, .agg (encSC y).toArray] W fun e w' => e = .returned (.int .i64 (cmpI x.1 y.1)) ∧ ∃ q os', w' = grow (W.drewN q) os' := by
 have hcon := fun W' => compare_C x.1 y.1 W'
 generalize cmpI x.1 y.1 = r at hcon ⊢
 unfold encSC
 go_enter Tryz.func101, Tryz.ntmps101
 go_wp2_with (go_at_call 102; refine (hcon _).mono ?_; rintro e w' ⟨rfl, rfl⟩)
 go_ret
 exact ⟨rfl, 0, _, by rw [alloc_eq_grow, alloc_eq_grow, grow_grow]; rfl⟩
theorem swo_names : SWO (ltOf fun x y : SCell => cmpI x.1 y.1) where
 irrefl x := by
  simp only [ltOf, decide_eq_false_iff_not]
  intro h
  have := cmpI_neg.1 h
  rw [sLt_irrefl] at this
  cases this
 trans x y z h k := by
  simp only [ltOf, decide_eq_true_eq] at *
  exact cmpI_neg.2 (sLt_trans (cmpI_neg.1 h) (cmpI_neg.1 k))
 ntrans x y z h k := by
  simp only [ltOf, decide_eq_false_iff_not] at *
  intro e
  have e := cmpI_neg.1 e
  have h : sLt x.1 y.1 = false := by
   cases hx : sLt x.1 y.1 with
   | false => rfl
   | true => exact absurd (cmpI_neg.2 hx) h
  have k : sLt y.1 z.1 = false := by
   cases hx : sLt y.1 z.1 with
   | false => rfl
   | true => exact absurd (cmpI_neg.2 hx) k
  rcases sLt_total y.1 z.1 with q | q | q
  ·rw [q] at k; cases k
  ·rw [q] at h; rw [e] at h; cases h
  ·have := sLt_trans e q
   rw [this] at h
   cases h
def CellIs (σ : Sto) (x : SCell) (b : Bd) : Prop := x.1 = b.1 ∧ All2 (SRep σ) (encSC x) (encB b)
theorem all2_perm {α β : Type} {R : α → β → Prop} {l1 l2 : List α} (hp : l1.Perm l2) : ∀ {m1 : List β}, All2 R l1 m1 → ∃ m2, All2 R l2 m2 ∧ m1.Perm m2 := by
 induction hp with
 | nil => intro m1 h; exact ⟨m1, h, List.Perm.refl _⟩
 | cons x _ ih =>
  intro m1 h
  cases h with
  | cons h1 h2 =>
   obtain ⟨m2, q1, q2⟩ := ih h2
   exact ⟨_ :: m2, .cons h1 q1, q2.cons _⟩
 | swap x y l =>
  intro m1 h
  cases h with
  | cons h1 h2 =>
   cases h2 with
   | cons h2 h3 => exact ⟨_, .cons h2 (.cons h1 h3), List.Perm.swap _ _ _⟩
 | trans _ _ ih1 ih2 =>
  intro m1 h
  obtain ⟨m2, q1, q2⟩ := ih1 h
  obtain ⟨m3, q3, q4⟩ := ih2 q1
  exact ⟨m3, q3, q2.trans q4⟩
theorem cell_is {σ : Sto} {b : Bd} {v1 v2 v3 : Value} (h1 : SRep σ v1 (.str b.1)) (h2 : SRep σ v2 (.str b.2.name)) (h3 : SRep σ v3 (.list (b.2.args.map encT))) : ∃ x : SCell, [v1, v2, v3] = encSC x ∧ CellIs σ x b := by
 have e1 := (vrep_str (S := noS) (ι := noH) (.one (.st h1))).1
 have e2 := (vrep_str (S := noS) (ι := noH) (.one (.st h2))).1
 obtain ⟨p, cap, e3, _⟩ := srep_slice h3
 subst e1 e2 e3
 exact ⟨(b.1, b.2.name, p, _, cap), rfl, rfl, .cons h1 (.cons h2 (.cons h3 .nil))⟩
theorem sort_cells {σ : Sto} {vs : Array Value} : ∀ (l : List Bd) (base : Nat), (∀ k b, l[k]? = some b → ∀ j a, (encB b)[j]? = some a → ∃ v, vs[base + k * 3 + j]? = some v ∧ SRep σ v a) →
  ∃ d : List SCell, All2 (CellIs σ) d l ∧ ∀ k x j v, d[k]? = some x → (encSC x)[j]? = some v → vs[base + k * 3 + j]? = some v
 | [], base, _ => ⟨[], .nil, by simp⟩
 | b :: l, base, h => by
  obtain ⟨d, d1, d2⟩ := sort_cells l (base + 3) (fun k c hc j a ha => by
   obtain ⟨v, v1, v2⟩ := h (k + 1) c (by simpa using hc) j a ha
   exact ⟨v, by rw [← v1]; congr 1; omega, v2⟩)
  obtain ⟨u1, p1, q1⟩ := h 0 b rfl 0 _ rfl
  obtain ⟨u2, p2, q2⟩ := h 0 b rfl 1 _ rfl
  obtain ⟨u3, p3, q3⟩ := h 0 b rfl 2 _ rfl
  obtain ⟨x, x1, x2⟩ := cell_is q1 q2 q3
  refine ⟨x :: d, .cons x2 d1, fun k y j v hy hv => ?_⟩
  cases k with
  | zero =>
   simp only [List.getElem?_cons_zero, Option.some.injEq] at hy
   subst hy
   rw [← x1] at hv
   match j, hv with
   | 0, hv => cases hv; exact p1
   | 1, hv => cases hv; exact p2
   | 2, hv => cases hv; exact p3
   | j + 3, hv => simp at hv
  | succ k =>
   have := d2 k y j v (by simpa using hy) hv
   rw [← this]
   congr 1
   omega
theorem encSC_len (x : SCell) : (encSC x).length = 3 := rfl
theorem flat_get {d : Array SCell} {t : Nat} (h : t < d.size * 3) : ∃ x v, d[t / 3]? = some x ∧ (encSC x)[t % 3]? = some v ∧ (flatK encSC 3 d)[t]! = v := by
 have hk : t / 3 < d.size := by omega
 have hj : t % 3 < (encSC d[t / 3]).length := by rw [encSC_len]; omega
 refine ⟨d[t / 3], (encSC d[t / 3])[t % 3], Array.getElem?_eq_getElem hk, List.getElem?_eq_getElem hj, ?_⟩
 rw [get_flatK _ _ _ _ h, getElem!_pos d (t / 3) hk, getElem!_pos (encSC d[t / 3]) (t % 3) hj]
theorem sort_heap (w : World) (g n : Nat) (d : Array SCell) (os : Array Obj) (vs : Array Value) (e : TypeId) (hg : w.heap[g]? = some (.cells vs e (0, 0))) :
  (sortWorldK encSC 3 w g 0 n d os).heap[g]? = some (.cells (putCells id 0 (flatK encSC 3 d) vs) e (0, 0)) ∧ (∀ k, k < w.heap.size → k ≠ g → (sortWorldK encSC 3 w g 0 n d os).heap[k]? = w.heap[k]?) ∧ w.heap.size ≤ (sortWorldK encSC 3 w g 0 n d os).heap.size := by
 have hlt := (Array.getElem?_eq_some_iff.1 hg).1
 have hsz : (putRowK encSC 3 (Sort.ahead w n) g 0 d).heap.size = w.heap.size := by simp [putRowK, putRow, mapBlock, Sort.ahead]
 refine ⟨?_, fun k hk hne => ?_, ?_⟩
 ·unfold sortWorldK
  rw [heap_grow_old _ _ (by rw [hsz]; exact hlt)]
  simp [putRowK, putRow, mapBlock, Sort.ahead, Array.getElem?_modify, hg, onCells]
 ·unfold sortWorldK
  rw [heap_grow_old _ _ (by rw [hsz]; exact hk)]
  simp [putRowK, putRow, mapBlock, Sort.ahead, Array.getElem?_modify, Ne.symm hne]
 ·unfold sortWorldK
  rw [Go.Sort.size_grow, hsz]
  omega
theorem put_get {d : Array SCell} {vs : Array Value} (hs : d.size * 3 ≤ vs.size) {k : Nat} {x : SCell} {j : Nat} {v : Value} (hx : d[k]? = some x) (hv : (encSC x)[j]? = some v) : (putCells id 0 (flatK encSC 3 d) vs)[k * 3 + j]? = some v := by
 have hk := (Array.getElem?_eq_some_iff.1 hx).1
 have hj : j < 3 := by have := (List.getElem?_eq_some_iff.1 hv).1; rw [encSC_len] at this; exact this
 have hlt : k * 3 + j < d.size * 3 := by omega
 obtain ⟨y, u, h1, h2, h3⟩ := flat_get hlt
 have e1 : (k * 3 + j) / 3 = k := by omega
 have e2 : (k * 3 + j) % 3 = j := by omega
 rw [e1, hx] at h1
 cases h1
 rw [e2, hv] at h2
 cases h2
 unfold putCells
 rw [Array.getElem?_mapIdx, Array.getElem?_eq_getElem (by omega), Option.map_some, if_pos (by rw [size_flatK]; omega)]
 simp only [Nat.sub_zero, id, h3]
theorem put_size (d : Array SCell) (vs : Array Value) : (putCells id 0 (flatK encSC 3 d) vs).size = vs.size := by simp [putCells]
theorem updE_eq {S : AStore} {r : Nat} {b : ABlk} (h : S r = some b) : updE S r (some b) = S := by
 funext k
 unfold updE
 split
 ·rename_i e; rw [e, h]
 ·rfl
theorem put_other {d : Array SCell} {vs : Array Value} {t : Nat} (h : d.size * 3 ≤ t) : (putCells id 0 (flatK encSC 3 d) vs)[t]? = vs[t]? := by
 unfold putCells
 rw [Array.getElem?_mapIdx]
 cases hv : vs[t]? with
 | none => rfl
 | some v => rw [Option.map_some, if_neg (by rw [size_flatK]; omega)]
abbrev rowBy (l : List Bd) (ys : List (List SV)) : ABlk := .mrow 95 3 (l.map encB ++ ys)
theorem sort_core (l : List Bd) (ys : List (List SV)) (hys : ∀ y ∈ ys, y.length = 3) (hn : Named l) (hl : l.length ≤ 100000) (r : Nat) (hr : 1000 ≤ r) (S : AStore) (sr : S r = some (rowBy l ys)) (hS : Clean S) (σ : Sto) (w : World) (ι : AHnd) (hF : Fit σ w) (hO : Owned σ S ι w) :
  Calls Tryz.prog 100 #[.slice (ι r).p l.length (ι r).cap, .func (.func 101) #[] #[]] w fun e w' => ∃ v σ' ι', e = .returned v ∧ Clean (updE S r (some (rowBy (sortB l) ys))) ∧ Upd S ι (updE S r (some (rowBy (sortB l) ys))) ι' ∧ Owned σ' (updE S r (some (rowBy (sortB l) ys))) ι' w' ∧ VRep σ' (updE S r (some (rowBy (sortB l) ys))) ι' v (.tup []) ∧ Fit σ' w' ∧ (∀ p x, σ p = some x → σ' p = some x) ∧
   (∀ p : Addr, p.block < w.heap.size → notOf S ι p.block → σ' p = σ p) ∧ (w'.os = w.os ∧ w'.tape = w.tape ∧ w'.output = w.output) ∧ w.heap.size ≤ w'.heap.size ∧
   (∀ g, g < w.heap.size → notOf S ι g → w'.heap[g]? = w.heap[g]?) ∧ (∀ id b g, updE S r (some (rowBy (sortB l) ys)) id = some b → (ι' id).g = some g → w.heap.size ≤ g ∨ ¬ notOf S ι g) := by
 have hS' : Clean (updE S r (some (rowBy (sortB l) ys))) := clean_upd hS hr rfl
 have hb : BRep σ S ι w (ι r) (.mrow 95 3 (l.map encB ++ ys)) := hO.1 r _ sr
 generalize hxs : l.map encB ++ ys = xs at hb
 have hlen : xs.length = l.length + ys.length := by rw [← hxs, List.length_append, List.length_map]
 generalize hh : ι r = hd at hb
 cases hb with
 | mnil k1 k2 =>
  obtain ⟨hl0, hy0⟩ : l = [] ∧ ys = [] := by simpa using hxs
  subst hl0 hy0
  refine (AnyF.slices_SortFunc_none Tryz.sortBd hd.p hd.cap _ w).mono fun e w' ⟨he, hw⟩ => ?_
  subst hw
  have hid : updE S r (some (rowBy (sortB []) [])) = S := updE_eq sr
  rw [hid]
  exact ⟨_, σ, ι, he, hS, Upd.refl _ _, hO, .tup (fun _ => undef) rfl (by simp) (by simp), hF, fun _ _ h => h, fun _ _ _ => rfl, ⟨rfl, rfl, rfl⟩, Nat.le_refl _, fun _ _ _ => rfl, fun id b g h1 h2 => .inr fun hno => hno id b h1 h2⟩
 | @mrow _ _ _ g cs k1 k2 k3 k4 k5 k6 k7 k8 k9 =>
  subst hxs
  obtain ⟨d, d1, d2⟩ := sort_cells (σ := σ) (vs := cs) l 0 (fun k b hb j a ha => by
   obtain ⟨v, v1, v2⟩ := k8 k (encB b) j a (by rw [List.getElem?_append_left (by rw [List.length_map]; exact lt_of_get hb), List.getElem?_map, hb]; rfl) ha
   exact ⟨v, by rw [Nat.zero_add]; exact v1, v2⟩)
  have dlen : d.length = l.length := d1.len
  have hcap : l.length ≤ hd.cap := by omega
  have hfits : d.toArray.size * 3 ≤ cs.size := by
   rw [k6]
   simp only [List.size_toArray, dlen]
   exact Nat.mul_le_mul_right 3 hcap
  have hH : HoldsK encSC 3 w g 0 d.toArray := fun j hj => by
   rw [size_flatK] at hj
   obtain ⟨x, v, q1, q2, q3⟩ := flat_get hj
   have q1 : d[j / 3]? = some x := by simpa using q1
   have hc := d2 _ _ _ _ q1 q2
   have e : 0 + j / 3 * 3 + j % 3 = j := by omega
   rw [e] at hc
   refine ⟨?_, ?_⟩
   ·rw [cell_of_row w g _ _ _ _ k3, Nat.zero_add, hc, q3]
    rfl
   ·exact Blk.frozen k3 _
  have eg : ∀ args w, (callFunc 101 args).run Tryz.prog w = .ok (.enter 101 args) w := enters_of Tryz.func101 (by kernel_rfl) rfl
  have hgl : g < w.heap.size := (Array.getElem?_eq_some_iff.1 k3).1
  have hcon := AnyQ.slices_SortFunc Tryz.sortBd 3 Tryz.isAgg95 Tryz.sizeOf95 encSC encSC_len (fun x v hv => by simp [encSC] at hv; rcases hv with rfl | rfl | rfl <;> rfl) (fun x y : SCell => cmpI x.1 y.1) swo_names 101 #[] g 0 hd.cap d.toArray w eg (fun _ _ _ _ x y => sort1_C x y _) hH hgl (by simp [dlen]; omega)
  rw [show d.toArray.size = l.length by simp [dlen]] at hcon
  rw [k2, show (l.length) = l.length from rfl]
  refine Calls.mono hcon fun e w' ⟨he, d', n, os, hp, hs, hw⟩ => ?_
  obtain ⟨hp1, hp2, hp3⟩ := hp
  have hd'l : d'.size = l.length := by rw [hp1]; simp [dlen]
  have hperm : d.Perm d'.toList := by
   have e1 : d'.extract 0 l.length = d' := by rw [← hd'l]; exact Array.extract_size
   have e2 : d.toArray.extract 0 l.length = d.toArray := by
    rw [show l.length = d.toArray.size by simp [dlen]]
    exact Array.extract_size
   rw [e1, e2] at hp3
   exact hp3.symm
  obtain ⟨l', l1, l2⟩ := all2_perm hperm d1
  have hl'len : l'.length = l.length := l2.length_eq.symm
  have hord : Ordered l' := by
   unfold Ordered
   rw [List.pairwise_iff_getElem]
   intro i j hi hj hij
   obtain ⟨x, x1, x2, _⟩ := l1.get (List.getElem?_eq_getElem hi)
   obtain ⟨y, y1, y2, _⟩ := l1.get (List.getElem?_eq_getElem hj)
   have hso := hs i j (Nat.zero_le _) hij (by omega)
   have e1 : d'[i]! = x := by
    rw [Array.getElem?_toList] at x1
    rw [getElem!_def, x1]
   have e2 : d'[j]! = y := by
    rw [Array.getElem?_toList] at y1
    rw [getElem!_def, y1]
   rw [e1, e2] at hso
   simp only [ltOf, decide_eq_false_iff_not] at hso
   have hno : sLt l'[j].1 l'[i].1 = false := by
    cases hx : sLt l'[j].1 l'[i].1 with
    | false => rfl
    | true => exact absurd (cmpI_neg.2 (by rw [x2, y2]; exact hx)) hso
   have hdiff : l'[i].1 ≠ l'[j].1 := by
    have hn' := named_perm l2 hn
    unfold Named at hn'
    rw [List.nodup_iff_pairwise_ne, List.pairwise_map, List.pairwise_iff_getElem] at hn'
    exact hn' i j hi hj hij
   rcases sLt_total l'[i].1 l'[j].1 with q | q | q
   ·exact q
   ·exact absurd q hdiff
   ·rw [q] at hno; cases hno
  have hl' : l' = sortB l := ordered_unique hord (sortB_ordered hn) ((l2.symm).trans (sortB_perm l).symm)
  subst hl'
  obtain ⟨w1, w2, w3⟩ := sort_heap w g n d' os cs _ k3
  rw [← hw] at w1 w2 w3
  have hfits' : d'.size * 3 ≤ cs.size := by rw [hd'l]; rw [← dlen]; simpa using hfits
  have hupd : Upd S ι (updE S r (some (rowBy (sortB l) ys))) ι := fun id b hb => by
   by_cases e : id = r
   ·subst e
    rw [sr] at hb
    cases hb
    exact ⟨_, updE_same _ _ _, by simp [ABlk.len, sortB_length], fun _ => ⟨rfl, rfl⟩⟩
   ·exact ⟨b, by rw [updE_ne _ e]; exact hb, Nat.le_refl _, fun _ => ⟨rfl, rfl⟩⟩
  have hotherg : ∀ id b g', id ≠ r → S id = some b → (ι id).g = some g' → g' ≠ g := fun id b g' hne hb hg' e => by
   subst e
   exact hne (hO.2 id r b _ g' hb sr hg' (by rw [hh]; exact k1))
  have hFit : Fit σ w' := fun p x hp => by
   have hlt := hF.lt hp
   by_cases e : p.block = g
   ·rw [k9 p e] at hp; cases hp
   ·exact (look_of_block (w2 _ hlt e)).trans (hF p x hp)
  refine ⟨_, σ, ι, he, hS', hupd, ⟨fun id b hb => ?_, fun id id' b b' g' q1 q2 q3 q4 => ?_⟩, .tup (fun _ => undef) rfl (by simp) (by simp), hFit, fun _ _ h => h, fun _ _ _ => rfl, ?_, w3, fun g' q1 q2 => ?_, fun id b g' q1 q2 => ?_⟩
  ·by_cases e : id = r
   ·subst e
    rw [updE_same] at hb
    cases hb
    rw [hh]
    have hlen' : ((sortB l).map encB ++ ys).length = l.length + ys.length := by rw [List.length_append, List.length_map, sortB_length]
    refine .mrow k1 k2 w1 (by rw [hlen', ← hlen]; exact k4) k5 (by rw [put_size]; exact k6) (fun x hx => ?_) (fun k x j a hx ha => ?_) k9
    ·rcases List.mem_append.1 hx with hx | hx
     ·exact lens_encB x hx
     ·exact hys x hx
    rcases Nat.lt_or_ge k l.length with hk | hk
    ·rw [List.getElem?_append_left (by rw [List.length_map, sortB_length]; exact hk), List.getElem?_map, Option.map_eq_some_iff] at hx
     obtain ⟨b, hb, rfl⟩ := hx
     obtain ⟨y, y1, y2, y3⟩ := l1.get hb
     obtain ⟨v, v1, v2⟩ := y3.get ha
     exact ⟨v, put_get hfits' (by simpa using y1) v1, v2⟩
    ·rw [List.getElem?_append_right (by rw [List.length_map, sortB_length]; exact hk), List.length_map, sortB_length] at hx
     obtain ⟨v, v1, v2⟩ := k8 k x j a (by rw [List.getElem?_append_right (by rw [List.length_map]; exact hk), List.length_map]; exact hx) ha
     exact ⟨v, by rw [put_other (by rw [hd'l]; omega)]; exact v1, v2⟩
   ·rw [updE_ne _ e] at hb
    refine (hO.1 id b hb).mono (fun _ _ h => h) hupd (fun g' hg' => w2 g' ((hO.1 id b hb).gsome hg') (hotherg id b g' e hb hg')) (fun _ _ _ _ => rfl)
  ·have back : ∀ i c, updE S r (some (rowBy (sortB l) ys)) i = some c → ∃ c', S i = some c' := fun i c hc => by
    by_cases e : i = r
    ·subst e; exact ⟨_, sr⟩
    ·rw [updE_ne _ e] at hc; exact ⟨c, hc⟩
   obtain ⟨c1, c1'⟩ := back _ _ q1
   obtain ⟨c2, c2'⟩ := back _ _ q2
   exact hO.2 _ _ _ _ _ c1' c2' q3 q4
  ·rw [hw]
   exact ⟨rfl, rfl, rfl⟩
  ·exact w2 g' q1 fun e => q2 r _ sr (by rw [hh, e]; exact k1)
  ·refine .inr fun hno => ?_
   by_cases e : id = r
   ·subst e; exact hno id _ sr q2
   ·rw [updE_ne _ e] at q1; exact hno id _ q1 q2
theorem sortFunc_M (l : List Bd) (hn : Named l) (hl : l.length ≤ 100000) (r : Nat) (hr : 1000 ≤ r) (S : AStore) (sr : S r = some (rowBd l)) :
  ACallsS Tryz.prog 100 [.one (.row r l.length), .one (.fn 101 [])] S (.tup []) (updE S r (some (rowBd (sortB l)))) := by
 intro hS σ w vs ι hG hF hO hv
 cases hv with
 | @cons v1 _ _ _ h1 hv =>
 cases hv with
 | @cons v2 _ _ _ h2 hv =>
 cases hv
 obtain ⟨b, b1, b2, b3⟩ := arep_row (vrep_one h1)
 rw [sr] at b1
 cases b1
 have hv1 := b3 (by simp [ABlk.len])
 subst hv1
 have hv2 : v2 = .func (.func 101) #[] #[] := by
  cases vrep_one h2 with
  | @fn _ vs _ c q1 q2 q3 =>
   have e : vs = #[] := Array.eq_empty_of_size_eq_zero (by simpa using q1)
   rw [e]
 subst hv2
 have e : ∀ m : List Bd, rowBd m = rowBy m [] := fun m => by rw [rowBy, List.append_nil]
 rw [e] at sr ⊢
 exact sort_core l [] (by simp) hn hl r hr S sr hS σ w ι hF hO
theorem sort_M (l : List Bd) (hn : Named l) (hl : l.length ≤ 100000) (r : Nat) (hr : 1000 ≤ r) (S : AStore) (sr : S r = some (rowBd l)) :
  ACallsS Tryz.prog 84 [.one (.row r l.length)] S (.one (.row r l.length)) (updE S r (some (rowBd (sortB l)))) := by
 refine ok_subst_SortM.acS fun hS C hC => ?_
 unfold ir_subst_SortM
 repeat' (first | (with_reducible first | refine W ?_ | refine Z0 ?_) | ((with_reducible first | refine Wo (fun K hK => ?_) | refine Wq ?_ | refine Wr ?_); (try simp only [go_sem, fN, seval, eT, iR]); (repeat with_reducible refine Ai ?_); (try (refine hK _ ?_; clear hK K))))
 refine ⟨_, _, sortFunc_M l hn hl (up1 r) (up1_le r) (upS S) (by rw [upS_up, sr]; rfl), ?_⟩
 repeat' (first | (with_reducible first | refine W ?_ | refine Z0 ?_) | ((with_reducible first | refine Wo (fun K hK => ?_) | refine Wq ?_ | refine Wr ?_); (try simp only [go_sem, fN, seval, eT, iR]); (repeat with_reducible refine Ai ?_); (try (refine hK _ ?_; clear hK K))))
 have hc := clean_upd (b := rowBd (sortB l)) hS hr rfl
 refine finS_high trivial ?_ (high_row (n := l.length) hr) (fun i b _ h => (hc i b h).2) (lowS_clean hc) hc
 simp only [go_sem, fN, seval, eT, iR, resAll, resOne, tupV]

def ir_R_Sorted : IR :=
 (.seq (.ops [.i 2 (.mov (.c (.one (.full []))))]) (.seq (.ops [.i 3 (.mov (.c (.one (.full []))))]) (.seq (.seq (.ops [.i 4 (.mov (.n 0))]) (.block 0 (.loop (.seq (.seq (.ops [.m 7 4, .m 8 0, .i 9 (.len false (.t 8)), .i 10 (.bin .lss (.t 7) (.t 9))]) (.cond (.t 10) .skip (.exit 0))) (.seq (.block 1 (.seq (.ops [.m 13 3, .m 14 0, .m 15 4, .i 16 (.indexAddr 3 (.t 14) (.t 15)), .L 17 3 16, .i 18 (.buildSlice false 95 3 [.t 17]), .i 19 (.append true 95 3 56 (.t 13) (.t 18)), .m 3 19]) (.seq (.ops [.m 20 3, .i 21 (.len false (.t 20)), .i 22 (.bin .sub (.t 21) (.n 1)), .m 5 22]) (.block 2 (.loop (.seq (.seq (.ops [.m 23 5, .i 24 (.bin .gtr (.t 23) (.n 0)), .m 25 24, .mk (some 26) (some (25, true)) (.mov (.t 3)) .no, .mk (some 27) (some (25, true)) (.mov (.t 5)) .no, .mk (some 28) (some (25, true)) (.indexAddr 3 (.t 26) (.t 27)) .no, .mk (some 29) (some (25, true)) (.fieldAddr 0 (.t 28)) .no, .mk (some 30) (some (25, true)) (.load false 1 (.t 29)) .no, .mk (some 31) (some (25, true)) (.mov (.t 3)) .no, .mk (some 32) (some (25, true)) (.mov (.t 5)) .no, .mk (some 33) (some (25, true)) (.bin .sub (.t 32) (.n 1)) .no, .mk (some 34) (some (25, true)) (.indexAddr 3 (.t 31) (.t 33)) .no, .mk (some 35) (some (25, true)) (.fieldAddr 0 (.t 34)) .no, .mk (some 36) (some (25, true)) (.load false 1 (.t 35)) .no, .mk (some 37) (some (25, true)) (.bin .lss (.t 30) (.t 36)) .no, .i 38 (.pick (.t 25) (.t 37) (.c (.one (.st (.bool false)))))]) (.cond (.t 38) .skip (.exit 2))) (.seq (.block 3 (.seq (.ops [.m 41 3, .m 42 5, .i 43 (.indexAddr 3 (.t 41) (.t 42)), .L 44 3 43, .i 6 (.alloc 95 [.st (.str (ByteArray.mk (#[]))), .st (.str (ByteArray.mk (#[]))), .full []]), .s 3 6 44]) (.seq (.ops [.m 45 3, .m 46 5, .m 47 3, .m 48 5, .i 49 (.bin .sub (.t 48) (.n 1)), .i 50 (.indexAddr 3 (.t 47) (.t 49)), .L 51 3 50, .i 52 (.indexAddr 3 (.t 45) (.t 46)), .s 3 52 51]) (.ops [.m 53 3, .m 54 5, .i 55 (.bin .sub (.t 54) (.n 1)), .L 56 3 6, .i 57 (.indexAddr 3 (.t 53) (.t 55)), .s 3 57 56])))) (.ops [.m 39 5, .i 40 (.bin .sub (.t 39) (.n 1)), .m 5 40])))))))) (.ops [.m 11 4, .i 12 (.bin .add (.t 11) (.n 1)), .m 4 12])))))) (.seq (.ops [.m 58 3, .m 2 58]) .ret))))
theorem ok_R_Sorted : OkF Tryz.prog 49 59 [28, 34, 43, 50, 52, 57, 19] ir_R_Sorted [.t 2] := .of Tryz.func49 rfl rfl (by kernel_rfl) rfl

end Go.Proofs.YtkjlddlllofenaaGreatDoor
