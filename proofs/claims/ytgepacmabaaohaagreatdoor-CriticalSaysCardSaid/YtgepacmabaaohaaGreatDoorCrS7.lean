/-
  Part 7 of the texts. Conditions: none.
-/
import Derived.Test.YtgepacmabaaohaaGreatDoorCrS6
namespace Go.Proofs.YtgepacmabaaohaaGreatDoor
open Go Go.RowKit
set_option maxRecDepth 100000
def ir_R_For : IR :=
 (.seq (.ops [.i 4 (.alloc 29 [.st (.str (ByteArray.mk (#[]))), .full []]), .i 5 (.mov (.c (.one (.st (.bool false)))))]) (.seq (.seq (.ops [.i 6 (.mov (.n 0))]) (.block 0 (.loop (.seq (.seq (.ops [.m 7 6, .m 8 0, .i 9 (.len false (.t 8)), .i 10 (.bin .lss (.t 7) (.t 9))]) (.cond (.t 10) .skip (.exit 0))) (.seq (.block 1 (.seq (.ops [.m 13 0, .m 14 6, .i 15 (.indexAddr 3 (.t 13) (.t 14)), .f 16 0 15, .l 17 16, .m 18 1, .i 19 (.bin .eql (.t 17) (.t 18))]) (.cond (.t 19) (.seq (.ops [.m 20 0, .m 21 6, .i 22 (.indexAddr 3 (.t 20) (.t 21)), .f 23 1 22, .L 24 2 23, .s 2 4 24, .i 5 (.mov (.c (.one (.st (.bool true)))))]) .ret) .skip))) (.ops [.m 11 6, .i 12 (.bin .add (.t 11) (.n 1)), .m 6 12])))))) (.seq (.ops [.i 25 (.build [.st (.str (ByteArray.mk (#[]))), .full []] []), .s 2 4 25, .i 5 (.mov (.c (.one (.st (.bool false)))))]) .ret)))
theorem ok_R_For : OkF Tryz.prog 79 26 [] ir_R_For [.cell 4 true 2, .t 5] := .of Tryz.func79 rfl rfl (by kernel_rfl) rfl
def ir_R_grown : IR :=
 (.seq (.ops [.i 4 (.box 29 (.t 1)), .i 6 (.mov (.n 0))]) (.seq (.ops [.m 12 0, .f 13 0 4, .l 14 13, .i 15 (.call 79 [.t 12, .t 14]), .m 11 15, .i 16 (.extract 0 (.t 11)), .i 17 (.extract 1 (.t 11)), .i 7 (.alloc 29 [.st (.str (ByteArray.mk (#[]))), .full []]), .s 2 7 16, .m 8 17]) (.seq (.seq (.ops [.m 18 8, .m 19 18, .mk (some 20) (some (19, true)) (.fieldAddr 1 (.t 4)) .no, .mk (some 21) (some (19, true)) (.load false 1 (.t 20)) .no, .mk (some 22) (some (19, true)) (.len false (.t 21)) .no, .mk (some 23) (some (19, true)) (.bin .eql (.t 22) (.n 0)) .no, .i 24 (.pick (.t 19) (.t 23) (.c (.one (.st (.bool false)))))]) (.cond (.t 24) (.seq (.ops [.L 25 2 7, .m 26 2, .i 27 (.call 7 [.t 25, .t 26]), .m 6 27]) .ret) .skip)) (.seq (.ops [.i 9 (.mov (.n 1))]) (.seq (.seq (.ops [.i 10 (.mov (.n 0))]) (.block 0 (.loop (.seq (.seq (.ops [.m 28 10, .f 29 1 4, .l 30 29, .i 31 (.len false (.t 30)), .i 32 (.bin .lss (.t 28) (.t 31)), .m 33 32, .mk (some 34) (some (33, true)) (.mov (.t 9)) .no, .mk (some 35) (some (33, true)) (.mov (.t 2)) .no, .mk (some 36) (some (33, true)) (.bin .leq (.t 34) (.t 35)) .no, .i 37 (.pick (.t 33) (.t 36) (.c (.one (.st (.bool false)))))]) (.cond (.t 37) .skip (.exit 0))) (.seq (.block 1 (.ops [.m 40 9, .m 41 0, .f 42 1 4, .l 43 42, .m 44 10, .i 45 (.indexAddr 2 (.t 43) (.t 44)), .L 46 2 45, .m 47 2, .m 48 9, .i 49 (.bin .sub (.t 47) (.t 48)), .i 50 (.call 61 [.t 41, .t 46, .t 49]), .i 51 (.bin .add (.t 40) (.t 50)), .m 9 51])) (.ops [.m 38 10, .i 39 (.bin .add (.t 38) (.n 1)), .m 10 39])))))) (.seq (.seq (.ops [.m 52 9, .m 53 2, .i 54 (.bin .gtr (.t 52) (.t 53))]) (.cond (.t 54) (.seq (.ops [.m 55 2, .i 56 (.bin .add (.t 55) (.n 1)), .m 6 56]) .ret) .skip)) (.seq (.ops [.m 57 9, .m 6 57]) .ret)))))))
theorem ok_R_grown : OkF Tryz.prog 61 58 [] ir_R_grown [.t 6] := .of Tryz.func61 rfl rfl (by kernel_rfl) rfl
def ir_R_on : IR :=
 (.seq (.ops [.i 3 (.box 29 (.t 1)), .i 4 (.alloc 29 [.st (.str (ByteArray.mk (#[]))), .full []])]) (.seq (.ops [.m 10 0, .f 11 0 3, .l 12 11, .i 13 (.call 79 [.t 10, .t 12]), .m 9 13, .i 14 (.extract 0 (.t 9)), .i 15 (.extract 1 (.t 9)), .i 5 (.alloc 29 [.st (.str (ByteArray.mk (#[]))), .full []]), .s 2 5 14, .m 6 15]) (.seq (.seq (.ops [.m 16 6, .m 17 16, .mk (some 18) (some (17, true)) (.fieldAddr 1 (.t 3)) .no, .mk (some 19) (some (17, true)) (.load false 1 (.t 18)) .no, .mk (some 20) (some (17, true)) (.len false (.t 19)) .no, .mk (some 21) (some (17, true)) (.bin .eql (.t 20) (.n 0)) .no, .i 22 (.pick (.t 17) (.t 21) (.c (.one (.st (.bool false)))))]) (.cond (.t 22) (.seq (.ops [.L 23 2 5, .s 2 4 23]) .ret) .skip)) (.seq (.ops [.f 24 0 3, .l 25 24, .i 26 (.build [.st (.str (ByteArray.mk (#[]))), .full []] [(0, 1, .t 25)]), .i 7 (.alloc 29 [.st (.str (ByteArray.mk (#[]))), .full []]), .s 2 7 26]) (.seq (.seq (.ops [.i 8 (.mov (.n 0))]) (.block 0 (.loop (.seq (.seq (.ops [.m 27 8, .f 28 1 3, .l 29 28, .i 30 (.len false (.t 29)), .i 31 (.bin .lss (.t 27) (.t 30))]) (.cond (.t 31) .skip (.exit 0))) (.seq (.block 1 (.ops [.f 34 1 7, .l 35 34, .m 36 0, .f 37 1 3, .l 38 37, .m 39 8, .i 40 (.indexAddr 2 (.t 38) (.t 39)), .L 41 2 40, .i 42 (.call 59 [.t 36, .t 41]), .i 43 (.buildSlice false 29 2 [.t 42]), .i 44 (.append false 29 2 40 (.t 35) (.t 43)), .f 45 1 7, .s 1 45 44])) (.ops [.m 32 8, .i 33 (.bin .add (.t 32) (.n 1)), .m 8 33])))))) (.seq (.ops [.L 46 2 7, .s 2 4 46]) .ret))))))
theorem ok_R_on : OkF Tryz.prog 59 47 [] ir_R_on [.cell 4 true 2] := .of Tryz.func59 rfl rfl (by kernel_rfl) rfl
def ir_R_On : IR :=
 (.seq (.ops [.i 3 (.box 29 (.t 1)), .i 4 (.alloc 29 [.st (.str (ByteArray.mk (#[]))), .full []]), .i 5 (.mov (.c (.one (.st (.bool false)))))]) (.seq (.seq (.ops [.m 6 0, .L 7 2 3, .i 8 (.call 61 [.t 6, .t 7, .n 2000]), .i 9 (.bin .gtr (.t 8) (.n 2000))]) (.cond (.t 9) (.seq (.ops [.i 10 (.build [.st (.str (ByteArray.mk (#[]))), .full []] []), .s 2 4 10, .i 5 (.mov (.c (.one (.st (.bool false)))))]) .ret) .skip)) (.seq (.ops [.m 11 0, .L 12 2 3, .i 13 (.call 59 [.t 11, .t 12]), .s 2 4 13, .i 5 (.mov (.c (.one (.st (.bool true)))))]) .ret)))
theorem ok_R_On : OkF Tryz.prog 35 14 [] ir_R_On [.cell 4 true 2, .t 5] := .of Tryz.func35 rfl rfl (by kernel_rfl) rfl
def ir_cmp_isNaN_string : IR :=
 (.seq (.ops [.i 2 (.mov (.c (.one (.st (.bool false)))))]) (.seq (.ops [.m 3 0, .m 4 0, .i 5 (.bin .neq (.t 3) (.t 4)), .m 2 5]) .ret))
theorem ok_cmp_isNaN_string : OkF Tryz.prog 96 6 [] ir_cmp_isNaN_string [.t 2] := .of Tryz.func96 rfl rfl (by kernel_rfl) rfl
def ir_cmp_Compare_string : IR :=
 (.seq (.ops [.i 4 (.mov (.n 0))]) (.seq (.ops [.m 7 0, .i 8 (.call 96 [.t 7]), .m 5 8]) (.seq (.ops [.m 9 1, .i 10 (.call 96 [.t 9]), .m 6 10]) (.seq (.seq (.ops [.m 11 5]) (.cond (.t 11) (.seq (.seq (.ops [.m 12 6]) (.cond (.t 12) (.seq (.ops [.i 4 (.mov (.n 0))]) .ret) .skip)) (.seq (.ops [.i 4 (.mov (.c (.one (.st (.int .i64 (-1))))))]) .ret)) .skip)) (.seq (.seq (.ops [.m 13 6]) (.cond (.t 13) (.seq (.ops [.i 4 (.mov (.n 1))]) .ret) .skip)) (.seq (.seq (.ops [.m 14 0, .m 15 1, .i 16 (.bin .lss (.t 14) (.t 15))]) (.cond (.t 16) (.seq (.ops [.i 4 (.mov (.c (.one (.st (.int .i64 (-1))))))]) .ret) .skip)) (.seq (.seq (.ops [.m 17 0, .m 18 1, .i 19 (.bin .gtr (.t 17) (.t 18))]) (.cond (.t 19) (.seq (.ops [.i 4 (.mov (.n 1))]) .ret) .skip)) (.seq (.ops [.i 4 (.mov (.n 0))]) .ret))))))))
theorem ok_cmp_Compare_string : OkF Tryz.prog 87 20 [] ir_cmp_Compare_string [.t 4] := .of Tryz.func87 rfl rfl (by kernel_rfl) rfl
def ir_subst_Find_1 : IR :=
 (.seq (.ops [.i 2 (.box 81 (.t 0)), .i 4 (.mov (.n 0))]) (.seq (.ops [.f 5 0 2, .l 6 5, .m 7 1, .i 8 (.call 87 [.t 6, .t 7]), .m 4 8]) .ret))
theorem ok_subst_Find_1 : OkF Tryz.prog 98 9 [] ir_subst_Find_1 [.t 4] := .of Tryz.func98 rfl rfl (by kernel_rfl) rfl
def ir_slices_BinarySearchFunc_metaprune_api_Bind_metaprune_api_Bind_string : IR :=
 (.seq (.ops [.i 6 (.mov (.n 0)), .i 7 (.mov (.c (.one (.st (.bool false)))))]) (.seq (.ops [.m 12 0, .i 13 (.len false (.t 12)), .m 8 13]) (.seq (.ops [.m 14 8, .i 9 (.mov (.n 0)), .m 10 14]) (.seq (.block 0 (.loop (.seq (.seq (.ops [.m 15 9, .m 16 10, .i 17 (.bin .lss (.t 15) (.t 16))]) (.cond (.t 17) .skip (.exit 0))) (.block 1 (.seq (.ops [.m 18 9, .m 19 10, .i 20 (.bin .add (.t 18) (.t 19)), .i 21 (.conv .u64 (.t 20)), .i 22 (.bin .shr (.t 21) (.c (.one (.st (.int .u64 1))))), .i 23 (.conv .i64 (.t 22)), .m 11 23]) (.seq (.ops [.m 24 2, .m 25 0, .m 26 11, .i 27 (.indexAddr 3 (.t 25) (.t 26)), .L 28 3 27, .m 29 1, .i 30 (.callV (.t 24) [.t 28, .t 29]), .i 31 (.bin .lss (.t 30) (.n 0))]) (.cond (.t 31) (.ops [.m 32 11, .i 33 (.bin .add (.t 32) (.n 1)), .m 9 33]) (.ops [.m 34 11, .m 10 34])))))))) (.seq (.ops [.m 35 9, .m 36 9, .m 37 8, .i 38 (.bin .lss (.t 36) (.t 37)), .m 39 38, .mk (some 40) (some (39, true)) (.mov (.t 2)) .no, .mk (some 41) (some (39, true)) (.mov (.t 0)) .no, .mk (some 42) (some (39, true)) (.mov (.t 9)) .no, .mk (some 43) (some (39, true)) (.indexAddr 3 (.t 41) (.t 42)) .no, .mk (some 44) (some (39, true)) (.load true 3 (.t 43)) .no, .mk (some 45) (some (39, true)) (.mov (.t 1)) .no, .mk (some 46) (some (39, true)) (.callV (.t 40) [.t 44, .t 45]) .no, .mk (some 47) (some (39, true)) (.bin .eql (.t 46) (.n 0)) .no, .i 48 (.pick (.t 39) (.t 47) (.c (.one (.st (.bool false))))), .m 6 35, .m 7 48]) .ret)))))
theorem ok_slices_BinarySearchFunc_metaprune_api_Bind_metaprune_api_Bind_string : OkF Tryz.prog 97 49 [] ir_slices_BinarySearchFunc_metaprune_api_Bind_metaprune_api_Bind_string [.t 6, .t 7] := .of Tryz.func97 rfl rfl (by kernel_rfl) rfl
def ir_subst_Find : IR :=
 (.seq (.ops [.i 4 (.alloc 29 [.st (.str (ByteArray.mk (#[]))), .full []]), .i 5 (.mov (.c (.one (.st (.bool false)))))]) (.seq (.ops [.m 9 0, .m 10 1, .i 11 (.call 97 [.t 9, .t 10, .c (.one (.fn 98 []))]), .m 8 11, .i 12 (.extract 0 (.t 8)), .i 13 (.extract 1 (.t 8)), .m 6 12, .m 7 13]) (.seq (.seq (.ops [.m 14 7, .i 15 (.un .not (.t 14))]) (.cond (.t 15) (.seq (.ops [.i 16 (.build [.st (.str (ByteArray.mk (#[]))), .full []] []), .s 2 4 16, .i 5 (.mov (.c (.one (.st (.bool false)))))]) .ret) .skip)) (.seq (.ops [.m 17 0, .m 18 6, .i 19 (.indexAddr 3 (.t 17) (.t 18)), .f 20 1 19, .L 21 2 20, .s 2 4 21, .i 5 (.mov (.c (.one (.st (.bool true)))))]) .ret))))
theorem ok_subst_Find : OkF Tryz.prog 88 22 [] ir_subst_Find [.cell 4 true 2, .t 5] := .of Tryz.func88 rfl rfl (by kernel_rfl) rfl
def ir_metaprune_subst_maker_copy : IR :=
 (.seq (.ops [.i 4 (.box 29 (.t 1)), .i 6 (.alloc 29 [.st (.str (ByteArray.mk (#[]))), .full []])]) (.seq (.seq (.ops [.m 12 2]) (.cond (.t 12) (.seq (.ops [.m 14 0, .i 15 (.nilCheck (.t 14)), .f 16 0 15, .l 17 16, .f 18 0 4, .l 19 18, .i 20 (.call 88 [.t 17, .t 19]), .m 13 20, .i 21 (.extract 0 (.t 13)), .i 22 (.extract 1 (.t 13)), .i 7 (.alloc 29 [.st (.str (ByteArray.mk (#[]))), .full []]), .s 2 7 21, .m 8 22]) (.seq (.ops [.m 23 8]) (.cond (.t 23) (.seq (.ops [.m 24 0, .L 25 2 7, .i 26 (.callS 71 [.t 24, .t 25, .c (.one (.st (.bool false)))]), .s 2 6 26]) .ret) .skip))) .skip)) (.seq (.seq (.ops [.m 27 0, .i 28 (.nilCheck (.t 27)), .f 29 1 28, .l 30 29, .i 31 (.bin .sub (.t 30) (.n 1)), .i 32 (.nilCheck (.t 27)), .f 33 1 32, .s 1 33 31]) (.seq (.ops [.m 34 0, .i 35 (.nilCheck (.t 34)), .f 36 1 35, .l 37 36, .i 38 (.bin .lss (.t 37) (.n 0))]) (.cond (.t 38) (.seq (.ops [.i 39 (.build [.st (.str (ByteArray.mk (#[]))), .full []] []), .s 2 6 39]) .ret) .skip))) (.seq (.ops [.f 40 0 4, .l 41 40, .i 42 (.build [.st (.str (ByteArray.mk (#[]))), .full []] [(0, 1, .t 41)]), .i 9 (.alloc 29 [.st (.str (ByteArray.mk (#[]))), .full []]), .s 2 9 42]) (.seq (.seq (.ops [.f 43 1 4, .l 44 43, .i 45 (.len false (.t 44)), .i 46 (.mov (.n 0))]) (.block 0 (.loop (.seq (.ops [.i 47 (.bin .lss (.t 46) (.t 45))]) (.seq (.cond (.t 47) .skip (.exit 0)) (.seq (.block 1 (.seq (.ops [.i 48 (.indexAddr 2 (.t 44) (.t 46)), .L 49 2 48, .i 11 (.alloc 29 [.st (.str (ByteArray.mk (#[]))), .full []]), .s 2 11 49]) (.seq (.ops [.mk (some 50) none (.fieldAddr 1 (.t 9)) (.onb 9), .mk (some 51) none (.load false 1 (.t 50)) (.onb 9), .m 52 0, .L 53 2 11, .m 54 2, .mk (some 55) none (.callS 71 [.t 52, .t 53, .t 54]) (.keeps [9, 9]), .i 56 (.buildSlice false 29 2 [.t 55]), .i 57 (.append false 29 2 40 (.t 51) (.t 56)), .f 58 1 9, .s 1 58 57]) (.seq (.ops [.m 59 0, .i 60 (.nilCheck (.t 59)), .f 61 1 60, .l 62 61, .i 63 (.bin .lss (.t 62) (.n 0))]) (.cond (.t 63) (.seq (.ops [.i 64 (.build [.st (.str (ByteArray.mk (#[]))), .full []] []), .s 2 6 64]) .ret) .skip))))) (.ops [.i 65 (.bin .add (.t 46) (.n 1)), .m 46 65]))))))) (.seq (.ops [.L 66 2 9, .s 2 6 66]) .ret))))))
theorem ok_metaprune_subst_maker_copy : OkF Tryz.prog 71 67 [26, 55] ir_metaprune_subst_maker_copy [.cell 6 true 2] := .of Tryz.func71 rfl rfl (by kernel_rfl) rfl
def ir_subst_On : IR :=
 (.seq (.ops [.i 3 (.box 29 (.t 1)), .i 4 (.alloc 29 [.st (.str (ByteArray.mk (#[]))), .full []]), .i 5 (.mov (.c (.one (.st (.bool false)))))]) (.seq (.ops [.m 8 0, .i 9 (.build [.full [], .st (.int .i64 0)] [(0, 1, .t 8), (1, 1, .n 2000)]), .i 10 (.box 95 (.t 9)), .m 6 10]) (.seq (.ops [.m 11 6, .L 12 2 3, .i 13 (.callS 71 [.t 11, .t 12, .c (.one (.st (.bool true)))]), .i 7 (.alloc 29 [.st (.str (ByteArray.mk (#[]))), .full []]), .s 2 7 13]) (.seq (.ops [.L 14 2 7, .m 15 6, .mk (some 16) none (.nilCheck (.t 15)) (.onb 10), .mk (some 17) none (.fieldAddr 1 (.t 16)) (.onb 10), .mk (some 18) none (.load false 1 (.t 17)) (.onb 10), .i 19 (.bin .geq (.t 18) (.n 0)), .mk none none (.store 2 (.t 4) (.t 14)) (.onb 4), .m 5 19]) .ret))))
theorem ok_subst_On : OkF Tryz.prog 49 20 [13, 10060010] ir_subst_On [.cell 4 true 2, .t 5] := .of Tryz.func49 rfl rfl (by kernel_rfl) rfl

set_option linter.unusedVariables false
set_option linter.unusedSimpArgs false
set_option maxHeartbeats 400000
theorem for_a (l : List Bd) (n : ByteArray) : ACalls Tryz.prog 79 [aBds l, aStr n] (.tup [aTm ((lookup l n).getD Tm.nil), aBool (lookup l n).isSome]) := by
 refine ok_R_For.ac fun C hC => ?_
 unfold ir_R_For
 refine IWP.learn 0 (by omega) fun hkn => ?_
 have hkn := known_len hkn
 rw [List.length_map] at hkn
 repeat' (first | (with_reducible first | refine W ?_ | refine Z0 ?_) | ((with_reducible first | refine Wo (fun K hK => ?_) | refine Wq ?_ | refine Wr ?_); (try simp only [go_sem, fN, seval, eT, iR]); (repeat with_reducible refine Ai ?_); (try (refine hK _ ?_; clear hK K))))
 refine IWP.loop (fun m s => ∃ k, k ≤ l.length ∧ m = l.length - k ∧ (∀ c ∈ l.take k, c.1 ≠ n) ∧ s.env 0 = aBds l ∧ s.env 1 = aStr n ∧ s.env 4 = .one (.ptr 4 1 0 0) ∧ s.S 4 = some (.box 29 [.st (.str ⟨#[]⟩), .full []]) ∧ s.env 6 = aInt k) l.length ⟨0, Nat.zero_le _, rfl, by simp, rfl, rfl, rfl, rfl, rfl⟩ ?_
 rintro m ⟨env, S⟩ ⟨k, hk, rfl, h0, e0, e1, e4, s4, e6⟩
 simp only at e0 e1 e4 s4 e6
 by_cases hlt : (k : Int) < l.length
 ·obtain ⟨b, hb⟩ := get_lt (show k < l.length by omega)
  repeat' (first | (with_reducible first | refine W ?_ | refine Z0 ?_) | ((with_reducible first | refine Wo (fun K hK => ?_) | refine Wq ?_ | refine Wr ?_); (try simp only [go_sem, fN, seval, eT, iR, e0, e1, e4, s4, e6, hlt]); (repeat with_reducible refine Ai ?_); (try (refine hK _ ?_; clear hK K))))
  with_reducible refine Wp ?_
  simp only [go_sem, fN, seval, true_implies, false_implies, implies_true, dT, dF, nL, hlt]
  (try with_reducible refine iC ?_)
  repeat' (first | (with_reducible first | refine W ?_ | refine Z0 ?_) | ((with_reducible first | refine Wo (fun K hK => ?_) | refine Wq ?_ | refine Wr ?_); (try simp only [go_sem, fN, seval, eT, iR, e0, e1, e4, s4, e6, hb, encB]); (repeat with_reducible refine Ai ?_); (try (refine hK _ ?_; clear hK K))))
  by_cases he : b.1 = n
  ·with_reducible refine Wp ?_
   simp only [go_sem, fN, seval, true_implies, false_implies, implies_true, dT, dF, nL, he]
   (try with_reducible refine iC ?_)
   repeat' (first | (with_reducible first | refine W ?_ | refine Z0 ?_) | ((with_reducible first | refine Wo (fun K hK => ?_) | refine Wq ?_ | refine Wr ?_); (try simp only [go_sem, fN, seval, eT, iR, e0, e1, e4, s4, e6, hb, encB]); (repeat with_reducible refine Ai ?_); (try (refine hK _ ?_; clear hK K))))
   simp only [go_sem, fN, seval, FinQ, AS.result, resAll, resOne, tupV, e4]
   rw [lookup_take hb he h0]
   rfl
  ·with_reducible refine Wp ?_
   simp only [go_sem, fN, seval, true_implies, false_implies, implies_true, dT, dF, nL, he]
   (try with_reducible refine iC ?_)
   repeat' (first | (with_reducible first | refine W ?_ | refine Z0 ?_) | ((with_reducible first | refine Wo (fun K hK => ?_) | refine Wq ?_ | refine Wr ?_); (try simp only [go_sem, fN, seval, eT, iR, e0, e1, e4, s4, e6]); (repeat with_reducible refine Ai ?_); (try (refine hK _ ?_; clear hK K))))
   refine then_normal ⟨l.length - (k + 1), by omega, k + 1, by omega, rfl, ?_, ?_⟩
   ·rw [take_snoc hb]
    intro c hc
    rcases List.mem_append.1 hc with hc | hc
    ·exact h0 c hc
    ·rw [List.mem_singleton.1 hc]; exact he
   ·simp only [go_sem, fN, seval, eT, iR, e0, e1, e4, s4, e6]
    congr 3
 ·repeat' (first | (with_reducible first | refine W ?_ | refine Z0 ?_) | ((with_reducible first | refine Wo (fun K hK => ?_) | refine Wq ?_ | refine Wr ?_); (try simp only [go_sem, fN, seval, eT, iR, e0, e1, e4, s4, e6, hlt]); (repeat with_reducible refine Ai ?_); (try (refine hK _ ?_; clear hK K))))
  with_reducible refine Wp ?_
  simp only [go_sem, fN, seval, true_implies, false_implies, implies_true, dT, dF, nL, hlt]
  (try with_reducible refine iC ?_)
  repeat' (first | (with_reducible first | refine W ?_ | refine Z0 ?_) | ((with_reducible first | refine Wo (fun K hK => ?_) | refine Wq ?_ | refine Wr ?_); (try simp only [go_sem, fN, seval, eT, iR, e0, e1, e4, s4, e6]); (repeat with_reducible refine Ai ?_); (try (refine hK _ ?_; clear hK K))))
  simp only [go_sem, fN, seval, FinQ, AS.result, resAll, resOne, tupV, e4]
  rw [List.take_of_length_le (by omega)] at h0
  rw [lookup_none h0]
  rfl
theorem isNaN_a (a : ByteArray) : ACalls Tryz.prog 96 [aStr a] (aBool false) := by
 refine ok_cmp_isNaN_string.ac fun C hC => ?_
 unfold ir_cmp_isNaN_string
 repeat' (first | (with_reducible first | refine W ?_ | refine Z0 ?_) | ((with_reducible first | refine Wo (fun K hK => ?_) | refine Wq ?_ | refine Wr ?_); (try simp only [go_sem, fN, seval, eT, iR]); (repeat with_reducible refine Ai ?_); (try (refine hK _ ?_; clear hK K))))
 simp only [go_sem, fN, seval, FinQ, AS.result, resAll, resOne, tupV]
theorem compare_a (a b : ByteArray) : ACalls Tryz.prog 87 [aStr a, aStr b] (aInt (cmpI a b)) := by
 refine ok_cmp_Compare_string.ac fun C hC => ?_
 unfold ir_cmp_Compare_string
 repeat' (first | (with_reducible first | refine W ?_ | refine Z0 ?_) | refine Cg _ (isNaN_a a) ?_ | refine Cg _ (isNaN_a b) ?_ | ((with_reducible first | refine Wo (fun K hK => ?_) | refine Wq ?_ | refine Wr ?_); (try simp only [go_sem, fN, seval, eT, iR]); (repeat with_reducible refine Ai ?_); (try (refine hK _ ?_; clear hK K))))
 with_reducible refine Wp ?_
 simp only [go_sem, fN, seval, true_implies, false_implies, implies_true, dT, dF, nL]
 (try with_reducible refine iC ?_)
 repeat' (first | (with_reducible first | refine W ?_ | refine Z0 ?_) | ((with_reducible first | refine Wo (fun K hK => ?_) | refine Wq ?_ | refine Wr ?_); (try simp only [go_sem, fN, seval, eT, iR]); (repeat with_reducible refine Ai ?_); (try (refine hK _ ?_; clear hK K))))
 with_reducible refine Wp ?_
 simp only [go_sem, fN, seval, true_implies, false_implies, implies_true, dT, dF, nL]
 (try with_reducible refine iC ?_)
 repeat' (first | (with_reducible first | refine W ?_ | refine Z0 ?_) | ((with_reducible first | refine Wo (fun K hK => ?_) | refine Wq ?_ | refine Wr ?_); (try simp only [go_sem, fN, seval, eT, iR]); (repeat with_reducible refine Ai ?_); (try (refine hK _ ?_; clear hK K))))
 unfold cmpI
 cases h : sLt a b with
 | true =>
  with_reducible refine Wp ?_
  simp only [go_sem, fN, seval, true_implies, false_implies, implies_true, dT, dF, nL]
  (try with_reducible refine iC ?_)
  repeat' (first | (with_reducible first | refine W ?_ | refine Z0 ?_) | ((with_reducible first | refine Wo (fun K hK => ?_) | refine Wq ?_ | refine Wr ?_); (try simp only [go_sem, fN, seval, eT, iR]); (repeat with_reducible refine Ai ?_); (try (refine hK _ ?_; clear hK K))))
  simp only [go_sem, fN, seval, FinQ, AS.result, resAll, resOne, tupV]
 | false =>
  with_reducible refine Wp ?_
  simp only [go_sem, fN, seval, true_implies, false_implies, implies_true, dT, dF, nL]
  (try with_reducible refine iC ?_)
  by_cases he : a = b
  ·repeat' (first | (with_reducible first | refine W ?_ | refine Z0 ?_) | ((with_reducible first | refine Wo (fun K hK => ?_) | refine Wq ?_ | refine Wr ?_); (try simp only [go_sem, fN, seval, eT, iR, h, he, Bool.or_true, Bool.or_false]); (repeat with_reducible refine Ai ?_); (try (refine hK _ ?_; clear hK K))))
   with_reducible refine Wp ?_
   simp only [go_sem, fN, seval, true_implies, false_implies, implies_true, dT, dF, nL, h, he, Bool.or_true, Bool.or_false]
   (try with_reducible refine iC ?_)
   repeat' (first | (with_reducible first | refine W ?_ | refine Z0 ?_) | ((with_reducible first | refine Wo (fun K hK => ?_) | refine Wq ?_ | refine Wr ?_); (try simp only [go_sem, fN, seval, eT, iR]); (repeat with_reducible refine Ai ?_); (try (refine hK _ ?_; clear hK K))))
   simp only [go_sem, fN, seval, FinQ, AS.result, resAll, resOne, tupV, h, he]
  ·repeat' (first | (with_reducible first | refine W ?_ | refine Z0 ?_) | ((with_reducible first | refine Wo (fun K hK => ?_) | refine Wq ?_ | refine Wr ?_); (try simp only [go_sem, fN, seval, eT, iR, h, he, Bool.or_true, Bool.or_false]); (repeat with_reducible refine Ai ?_); (try (refine hK _ ?_; clear hK K))))
   with_reducible refine Wp ?_
   simp only [go_sem, fN, seval, true_implies, false_implies, implies_true, dT, dF, nL, h, he, Bool.or_true, Bool.or_false]
   (try with_reducible refine iC ?_)
   repeat' (first | (with_reducible first | refine W ?_ | refine Z0 ?_) | ((with_reducible first | refine Wo (fun K hK => ?_) | refine Wq ?_ | refine Wr ?_); (try simp only [go_sem, fN, seval, eT, iR]); (repeat with_reducible refine Ai ?_); (try (refine hK _ ?_; clear hK K))))
   simp only [go_sem, fN, seval, FinQ, AS.result, resAll, resOne, tupV, h, he]
theorem find1_a (b : Bd) (n : ByteArray) : ACalls Tryz.prog 98 [aBd b, aStr n] (aInt (cmpI b.1 n)) := by
 refine ok_subst_Find_1.ac fun C hC => ?_
 unfold ir_subst_Find_1
 repeat' (first | (with_reducible first | refine W ?_ | refine Z0 ?_) | refine Cg _ (compare_a b.1 n) ?_ | ((with_reducible first | refine Wo (fun K hK => ?_) | refine Wq ?_ | refine Wr ?_); (try simp only [go_sem, fN, seval, eT, iR]); (repeat with_reducible refine Ai ?_); (try (refine hK _ ?_; clear hK K))))
 simp only [go_sem, fN, seval, FinQ, AS.result, resAll, resOne, tupV]
theorem cmpI_neg {a b : ByteArray} : cmpI a b < 0 ↔ sLt a b = true := by
 unfold cmpI
 split
 ·rename_i h; simp [h]
 ·rename_i h
  split <;> simp [h]
theorem cmpI_zero {a b : ByteArray} : cmpI a b = 0 ↔ a = b := by
 unfold cmpI
 split
 ·rename_i h
  constructor
  ·intro h'; cases h'
  ·intro e; subst e; rw [sLt_irrefl] at h; cases h
 ·split <;> simp_all
def foundAt (l : List Bd) (n : ByteArray) (i : Nat) : Bool := match l[i]? with
 | some b => decide (b.1 = n)
 | none => false
theorem find1_S (b : Bd) (n : ByteArray) (S : AStore) : ACallsS Tryz.prog 98 [aBd b, aStr n] S (aInt (cmpI b.1 n)) S := (find1_a b n).toS rfl
theorem half {i j : Nat} (h : i < j) : (((i : Int) + j).fdiv 2) = (((i + j) / 2 : Nat) : Int) ∧ i ≤ (i + j) / 2 ∧ (i + j) / 2 < j := by
 refine ⟨?_, by omega, by omega⟩
 rw [Int.fdiv_eq_ediv_of_nonneg _ (by omega)]
 omega
theorem inR_u64 (n : Int) : inR .u64 n ↔ 0 ≤ n ∧ n ≤ 18446744073709551615 := by
 simp [inR, IntKind.min, IntKind.max, IntKind.signed, IntKind.bits]
theorem search_a (l : List Bd) (h40 : l.length ≤ 100000) (ho : Ordered l) (n : ByteArray) :
  ∃ i : Nat, i ≤ l.length ∧ (∀ k b, l[k]? = some b → k < i → sLt b.1 n = true) ∧ (∀ k b, l[k]? = some b → i ≤ k → sLt b.1 n = false) ∧
   ACalls Tryz.prog 97 [aBds l, aStr n, .one (.fn 98 [])] (.tup [aInt i, aBool (foundAt l n i)]) := by
 obtain ⟨i0, hi0, hlo, hhi⟩ : ∃ i : Nat, i ≤ l.length ∧ (∀ k b, l[k]? = some b → k < i → sLt b.1 n = true) ∧ (∀ k b, l[k]? = some b → i ≤ k → sLt b.1 n = false) := by
  clear h40
  induction l with
  | nil => exact ⟨0, by simp, by simp, by simp⟩
  | cons c l ih =>
   obtain ⟨o1, o2⟩ := List.pairwise_cons.1 ho
   obtain ⟨i, q1, q2, q3⟩ := ih o2
   cases hc : sLt c.1 n with
   | true =>
    refine ⟨i + 1, by simp; omega, fun k b hk hki => ?_, fun k b hk hki => ?_⟩
    ·cases k with
     | zero => simp at hk; subst hk; exact hc
     | succ k => exact q2 k b (by simpa using hk) (by omega)
    ·cases k with
     | zero => omega
     | succ k => exact q3 k b (by simpa using hk) (by omega)
   | false =>
    refine ⟨0, by simp, fun k b hk hki => by omega, fun k b hk hki => ?_⟩
    cases k with
    | zero => simp at hk; subst hk; exact hc
    | succ k =>
     have hm := mem_of_get (show l[k]? = some b by simpa using hk)
     cases hb : sLt b.1 n with
     | false => rfl
     | true => have := sLt_trans (o1 b hm) hb; rw [hc] at this; cases this
 refine ⟨i0, hi0, hlo, hhi, ?_⟩
 have hplain : plainF Tryz.prog 98 = true := by kernel_rfl
 refine ok_slices_BinarySearchFunc_metaprune_api_Bind_metaprune_api_Bind_string.ac fun C hC => ?_
 unfold ir_slices_BinarySearchFunc_metaprune_api_Bind_metaprune_api_Bind_string
 repeat' (first | (with_reducible first | refine W ?_ | refine Z0 ?_) | ((with_reducible first | refine Wo (fun K hK => ?_) | refine Wq ?_ | refine Wr ?_); (try simp only [go_sem, fN, seval, eT, iR]); (repeat with_reducible refine Ai ?_); (try (refine hK _ ?_; clear hK K))))
 refine IWP.loop (fun m s => ∃ i j : Nat, i ≤ i0 ∧ i0 ≤ j ∧ j ≤ l.length ∧ m = j - i ∧ s.env 0 = aBds l ∧ s.env 1 = aStr n ∧ s.env 2 = .one (.fn 98 []) ∧ s.env 8 = aInt l.length ∧ s.env 9 = aInt i ∧ s.env 10 = aInt j) l.length ⟨0, l.length, Nat.zero_le _, hi0, Nat.le_refl _, rfl, rfl, rfl, rfl, rfl, rfl, rfl⟩ ?_
 rintro m ⟨env, S⟩ ⟨i, j, hi, hj, hjl, rfl, e0, e1, e2, e8, e9, e10⟩
 simp only at e0 e1 e2 e8 e9 e10
 by_cases hlt : (i : Int) < j
 ·obtain ⟨z1, z2, z3⟩ := half (show i < j by omega)
  obtain ⟨b, hb⟩ := get_lt (show (i + j) / 2 < l.length by omega)
  repeat' (first | (with_reducible first | refine W ?_ | refine Z0 ?_) | ((with_reducible first | refine Wo (fun K hK => ?_) | refine Wq ?_ | refine Wr ?_); (try simp only [go_sem, fN, seval, eT, iR, e0, e1, e2, e8, e9, e10, hlt]); (repeat with_reducible refine Ai ?_); (try (refine hK _ ?_; clear hK K))))
  with_reducible refine Wp ?_
  simp only [go_sem, fN, seval, true_implies, false_implies, implies_true, dT, dF, nL, hlt]
  (try with_reducible refine iC ?_)
  have hbits : (1 : Nat) ≤ IntKind.u64.bits := by show 1 ≤ 64; omega
  repeat' (first | (with_reducible first | refine W ?_ | refine Z0 ?_) | ((with_reducible first | refine Wo (fun K hK => ?_) | refine Wq ?_ | refine Wr ?_); (try simp only [go_sem, fN, seval, eT, iR, e0, e1, e2, e8, e9, e10, hlt, z1, inR_u64, hbits, hb, encB, hplain]); (repeat with_reducible refine Ai ?_); (try (refine hK _ ?_; clear hK K))))
  refine ⟨_, _, find1_S b n _, ?_⟩
  cases hc : sLt b.1 n with
  | true =>
   have hneg : cmpI b.1 n < 0 := cmpI_neg.2 hc
   repeat' (first | (with_reducible first | refine W ?_ | refine Z0 ?_) | ((with_reducible first | refine Wo (fun K hK => ?_) | refine Wq ?_ | refine Wr ?_); (try simp only [go_sem, fN, seval, eT, iR, hneg]); (repeat with_reducible refine Ai ?_); (try (refine hK _ ?_; clear hK K))))
   with_reducible refine Wp ?_
   simp only [go_sem, fN, seval, true_implies, false_implies, implies_true, dT, dF, nL, hneg]
   (try with_reducible refine iC ?_)
   repeat' (first | (with_reducible first | refine W ?_ | refine Z0 ?_) | ((with_reducible first | refine Wo (fun K hK => ?_) | refine Wq ?_ | refine Wr ?_); (try simp only [go_sem, fN, seval, eT, iR, e0, e1, e2, e8, e9, e10]); (repeat with_reducible refine Ai ?_); (try (refine hK _ ?_; clear hK K))))
   refine then_normal ⟨j - ((i + j) / 2 + 1), by omega, (i + j) / 2 + 1, j, ?_, hj, hjl, rfl, ?_⟩
   ·rcases Nat.lt_or_ge ((i + j) / 2) i0 with h | h
    ·omega
    ·rw [hhi _ b hb h] at hc; cases hc
   ·simp only [go_sem, fN, seval, eT, iR, e0, e1, e2, e8, e9, e10]
    congr 3
  | false =>
   have hneg : ¬ cmpI b.1 n < 0 := fun h => by rw [cmpI_neg.1 h] at hc; cases hc
   repeat' (first | (with_reducible first | refine W ?_ | refine Z0 ?_) | ((with_reducible first | refine Wo (fun K hK => ?_) | refine Wq ?_ | refine Wr ?_); (try simp only [go_sem, fN, seval, eT, iR, hneg]); (repeat with_reducible refine Ai ?_); (try (refine hK _ ?_; clear hK K))))
   with_reducible refine Wp ?_
   simp only [go_sem, fN, seval, true_implies, false_implies, implies_true, dT, dF, nL, hneg]
   (try with_reducible refine iC ?_)
   repeat' (first | (with_reducible first | refine W ?_ | refine Z0 ?_) | ((with_reducible first | refine Wo (fun K hK => ?_) | refine Wq ?_ | refine Wr ?_); (try simp only [go_sem, fN, seval, eT, iR, e0, e1, e2, e8, e9, e10]); (repeat with_reducible refine Ai ?_); (try (refine hK _ ?_; clear hK K))))
   refine then_normal ⟨(i + j) / 2 - i, by omega, i, (i + j) / 2, hi, ?_, by omega, rfl, ?_⟩
   ·rcases Nat.lt_or_ge ((i + j) / 2) i0 with h | h
    ·rw [hlo _ b hb h] at hc; cases hc
    ·omega
   ·simp only [go_sem, fN, seval, eT, iR, e0, e1, e2, e8, e9, e10]
 ·have hii : i = i0 := by omega
  subst hii
  have hjj : j = i := by omega
  subst hjj
  repeat' (first | (with_reducible first | refine W ?_ | refine Z0 ?_) | ((with_reducible first | refine Wo (fun K hK => ?_) | refine Wq ?_ | refine Wr ?_); (try simp only [go_sem, fN, seval, eT, iR, e0, e1, e2, e8, e9, e10, hlt]); (repeat with_reducible refine Ai ?_); (try (refine hK _ ?_; clear hK K))))
  with_reducible refine Wp ?_
  simp only [go_sem, fN, seval, true_implies, false_implies, implies_true, dT, dF, nL, hlt]
  (try with_reducible refine iC ?_)
  by_cases hil : (j : Int) < l.length
  ·obtain ⟨b, hb⟩ := get_lt (show j < l.length by omega)
   repeat' (first | (with_reducible first | refine W ?_ | refine Z0 ?_) | ((with_reducible first | refine Wo (fun K hK => ?_) | refine Wq ?_ | refine Wr ?_); (try simp only [go_sem, fN, seval, eT, iR, e0, e1, e2, e8, e9, e10, hil, hb, encB, hplain]); (repeat with_reducible refine Ai ?_); (try (refine hK _ ?_; clear hK K))))
   refine ⟨_, _, find1_S b n _, ?_⟩
   repeat' (first | (with_reducible first | refine W ?_ | refine Z0 ?_) | ((with_reducible first | refine Wo (fun K hK => ?_) | refine Wq ?_ | refine Wr ?_); (try simp only [go_sem, fN, seval, eT, iR]); (repeat with_reducible refine Ai ?_); (try (refine hK _ ?_; clear hK K))))
   simp only [go_sem, fN, seval, FinQ, AS.result, resAll, resOne, tupV]
   unfold foundAt
   rw [hb]
   simp only [cmpI_zero]
  ·repeat' (first | (with_reducible first | refine W ?_ | refine Z0 ?_) | ((with_reducible first | refine Wo (fun K hK => ?_) | refine Wq ?_ | refine Wr ?_); (try simp only [go_sem, fN, seval, eT, iR, e0, e1, e2, e8, e9, e10, hil]); (repeat with_reducible refine Ai ?_); (try (refine hK _ ?_; clear hK K))))
   simp only [go_sem, fN, seval, FinQ, AS.result, resAll, resOne, tupV]
   unfold foundAt
   rw [List.getElem?_eq_none (by omega)]
theorem found_lookup {l : List Bd} {n : ByteArray} {i : Nat} (hlo : ∀ k b, l[k]? = some b → k < i → sLt b.1 n = true) (hhi : ∀ k b, l[k]? = some b → i ≤ k → sLt b.1 n = false) (ho : Ordered l) :
  (∃ b, l[i]? = some b ∧ b.1 = n ∧ lookup l n = some b.2) ∨ (foundAt l n i = false ∧ lookup l n = none) := by
 have hlow : ∀ c ∈ l.take i, c.1 ≠ n := fun c hc e => by
  obtain ⟨k, hk, rfl⟩ := List.getElem_of_mem hc
  rw [List.length_take] at hk
  have := hlo k l[k] (List.getElem?_eq_getElem (by omega)) (by omega)
  rw [List.getElem_take] at e
  rw [e, sLt_irrefl] at this
  cases this
 by_cases hil : i < l.length
 ·obtain ⟨b, hb⟩ := get_lt hil
  by_cases he : b.1 = n
  ·exact .inl ⟨b, hb, he, lookup_take hb he hlow⟩
  ·refine .inr ⟨by unfold foundAt; rw [hb]; exact decide_eq_false he, lookup_none fun c hc e => ?_⟩
   obtain ⟨k, hk, rfl⟩ := List.getElem_of_mem hc
   have hck := List.getElem?_eq_getElem hk
   rcases Nat.lt_trichotomy k i with h | h | h
   ·have := hlo k _ hck h
    rw [e, sLt_irrefl] at this
    cases this
   ·subst h
    rw [hb] at hck
    cases hck
    exact he e
   ·have h1 := ordered_get ho hb hck h
    rw [e, hhi i b hb (Nat.le_refl _)] at h1
    cases h1
 ·refine .inr ⟨by unfold foundAt; rw [List.getElem?_eq_none (by omega)], lookup_none fun c hc => hlow c ?_⟩
  rw [List.take_of_length_le (by omega)]
  exact hc
theorem find_a (l : List Bd) (h40 : l.length ≤ 100000) (ho : Ordered l) (n : ByteArray) : ACalls Tryz.prog 88 [aBds l, aStr n] (.tup [aTm ((lookup l n).getD Tm.nil), aBool (lookup l n).isSome]) := by
 obtain ⟨i, hi, hlo, hhi, hs⟩ := search_a l h40 ho n
 refine ok_subst_Find.ac fun C hC => ?_
 unfold ir_subst_Find
 repeat' (first | (with_reducible first | refine W ?_ | refine Z0 ?_) | ((with_reducible first | refine Wo (fun K hK => ?_) | refine Wq ?_ | refine Wr ?_); (try simp only [go_sem, fN, seval, eT, iR]); (repeat with_reducible refine Ai ?_); (try (refine hK _ ?_; clear hK K))))
 refine ⟨_, hs, ?_⟩
 rcases found_lookup hlo hhi ho with ⟨b, hb, he, hl⟩ | ⟨hf, hl⟩
 ·have hf : foundAt l n i = true := by unfold foundAt; rw [hb]; exact decide_eq_true he
  repeat' (first | (with_reducible first | refine W ?_ | refine Z0 ?_) | ((with_reducible first | refine Wo (fun K hK => ?_) | refine Wq ?_ | refine Wr ?_); (try simp only [go_sem, fN, seval, eT, iR, hf]); (repeat with_reducible refine Ai ?_); (try (refine hK _ ?_; clear hK K))))
  with_reducible refine Wp ?_
  simp only [go_sem, fN, seval, true_implies, false_implies, implies_true, dT, dF, nL, hf]
  (try with_reducible refine iC ?_)
  repeat' (first | (with_reducible first | refine W ?_ | refine Z0 ?_) | ((with_reducible first | refine Wo (fun K hK => ?_) | refine Wq ?_ | refine Wr ?_); (try simp only [go_sem, fN, seval, eT, iR, hb, encB]); (repeat with_reducible refine Ai ?_); (try (refine hK _ ?_; clear hK K))))
  simp only [go_sem, fN, seval, FinQ, AS.result, resAll, resOne, tupV]
  rw [hl]
  rfl
 ·repeat' (first | (with_reducible first | refine W ?_ | refine Z0 ?_) | ((with_reducible first | refine Wo (fun K hK => ?_) | refine Wq ?_ | refine Wr ?_); (try simp only [go_sem, fN, seval, eT, iR, hf]); (repeat with_reducible refine Ai ?_); (try (refine hK _ ?_; clear hK K))))
  with_reducible refine Wp ?_
  simp only [go_sem, fN, seval, true_implies, false_implies, implies_true, dT, dF, nL, hf]
  (try with_reducible refine iC ?_)
  repeat' (first | (with_reducible first | refine W ?_ | refine Z0 ?_) | ((with_reducible first | refine Wo (fun K hK => ?_) | refine Wq ?_ | refine Wr ?_); (try simp only [go_sem, fN, seval, eT, iR]); (repeat with_reducible refine Ai ?_); (try (refine hK _ ?_; clear hK K))))
  simp only [go_sem, fN, seval, FinQ, AS.result, resAll, resOne, tupV]
  rw [hl]
  rfl

theorem onR_a (s : List Bd) (t : Tm) (hz : t.size ≤ 1000000) : ACalls Tryz.prog 59 [aBds s, aTm t] (aTm (t.on s)) := by
 induction h : SizeOf.sizeOf t using Nat.strongRecOn generalizing t with
 | _ N ih =>
 subst h
 have hs := Tm.size_eq t
 have hkn := Tm.length_le t.args
 by_cases hleaf : (∃ x, lookup s t.name = some x) ∧ t.args = []
 ·obtain ⟨⟨x, hx⟩, h0⟩ := hleaf
  have h0' : (t.args.length : Int) = 0 := by rw [h0]; rfl
  rw [Tm.on_leaf hx h0]
  refine ok_R_on.ac fun C hC => ?_
  unfold ir_R_on
  repeat' (first | (with_reducible first | refine W ?_ | refine Z0 ?_) | refine Cg _ (for_a s t.name) ?_ | ((with_reducible first | refine Wo (fun K hK => ?_) | refine Wq ?_ | refine Wr ?_); (try simp only [go_sem, fN, seval, eT, iR, hx, h0', Option.isSome_some]); (repeat with_reducible refine Ai ?_); (try (refine hK _ ?_; clear hK K))))
  with_reducible refine Wp ?_
  simp only [go_sem, fN, seval, true_implies, false_implies, implies_true, dT, dF, nL]
  (try with_reducible refine iC ?_)
  repeat' (first | (with_reducible first | refine W ?_ | refine Z0 ?_) | ((with_reducible first | refine Wo (fun K hK => ?_) | refine Wq ?_ | refine Wr ?_); (try simp only [go_sem, fN, seval, eT, iR]); (repeat with_reducible refine Ai ?_); (try (refine hK _ ?_; clear hK K))))
  simp only [go_sem, fN, seval, FinQ, AS.result, resAll, resOne, tupV]
 ·have hon : t.on s = .mk t.name (t.args.map (Tm.on s)) := Tm.on_knot (by
   cases hl : lookup s t.name with
   | none => exact .inl rfl
   | some x => exact .inr fun h0 => hleaf ⟨⟨x, hl⟩, h0⟩)
  rw [hon]
  refine ok_R_on.ac fun C hC => ?_
  unfold ir_R_on
  repeat' (first | (with_reducible first | refine W ?_ | refine Z0 ?_) | ((with_reducible first | refine Wo (fun K hK => ?_) | refine Wq ?_ | refine Wr ?_); (try simp only [go_sem, fN, seval, eT, iR]); (repeat with_reducible refine Ai ?_); (try (refine hK _ ?_; clear hK K))))
  refine ⟨_, for_a s t.name, ?_⟩
  cases hl : lookup s t.name
  case' none =>
   repeat' (first | (with_reducible first | refine W ?_ | refine Z0 ?_) | ((with_reducible first | refine Wo (fun K hK => ?_) | refine Wq ?_ | refine Wr ?_); (try simp only [go_sem, fN, seval, eT, iR, hl, Option.isSome_none]); (repeat with_reducible refine Ai ?_); (try (refine hK _ ?_; clear hK K))))
   with_reducible refine Wp ?_
   simp only [go_sem, fN, seval, true_implies, false_implies, implies_true, dT, dF, nL]
   (try with_reducible refine iC ?_)
   repeat' (first | (with_reducible first | refine W ?_ | refine Z0 ?_) | ((with_reducible first | refine Wo (fun K hK => ?_) | refine Wq ?_ | refine Wr ?_); (try simp only [go_sem, fN, seval, eT, iR]); (repeat with_reducible refine Ai ?_); (try (refine hK _ ?_; clear hK K))))
  case' some x =>
   have h0' : ¬ (t.args.length : Int) = 0 := fun h => hleaf ⟨⟨_, hl⟩, List.eq_nil_of_length_eq_zero (by omega)⟩
   repeat' (first | (with_reducible first | refine W ?_ | refine Z0 ?_) | ((with_reducible first | refine Wo (fun K hK => ?_) | refine Wq ?_ | refine Wr ?_); (try simp only [go_sem, fN, seval, eT, iR, hl, h0', Option.isSome_some]); (repeat with_reducible refine Ai ?_); (try (refine hK _ ?_; clear hK K))))
   with_reducible refine Wp ?_
   simp only [go_sem, fN, seval, true_implies, false_implies, implies_true, dT, dF, nL]
   (try with_reducible refine iC ?_)
   repeat' (first | (with_reducible first | refine W ?_ | refine Z0 ?_) | ((with_reducible first | refine Wo (fun K hK => ?_) | refine Wq ?_ | refine Wr ?_); (try simp only [go_sem, fN, seval, eT, iR]); (repeat with_reducible refine Ai ?_); (try (refine hK _ ?_; clear hK K))))
  all_goals
   refine IWP.ghost (Ghost.ownC 7 1 44 29 2 (xs := ([] : List Tm).map encT) rfl rfl rfl lens_encT) ?_
   refine IWP.loop (fun m x => ∃ k, k ≤ t.args.length ∧ m = t.args.length - k ∧ x.env 0 = aBds s ∧ x.env 3 = .one (.ptr 3 1 0 0) ∧ x.env 4 = .one (.ptr 4 1 0 0) ∧ x.env 7 = .one (.ptr 7 1 0 0) ∧ x.S 3 = some (.box 29 [.st (.str t.name), .st (.list (t.args.map encT))]) ∧ x.S 4 = some (.box 29 [.st (.str ⟨#[]⟩), .full []]) ∧ x.S 7 = some (.box 29 [.st (.str t.name), .row 44 k]) ∧ x.S 44 = some (.arow 29 2 (((t.args.take k).map (Tm.on s)).map encT)) ∧ x.env 8 = aInt k)
    t.args.length ⟨0, Nat.zero_le _, rfl, rfl, rfl, rfl, rfl, rfl, rfl, rfl, rfl, rfl⟩ ?_
   rintro m ⟨env, S⟩ ⟨k, hk, rfl, e0, e3, e4, e7, s3, s4, s7, s44, e8⟩
   simp only at e0 e3 e4 e7 s3 s4 s7 s44 e8
   have hlk : (t.args.take k).length = k := by rw [List.length_take]; omega
   by_cases hlt : (k : Int) < t.args.length
   ·obtain ⟨a, ha⟩ := get_lt (show k < t.args.length by omega)
    repeat' (first | (with_reducible first | refine W ?_ | refine Z0 ?_) | ((with_reducible first | refine Wo (fun K hK => ?_) | refine Wq ?_ | refine Wr ?_); (try simp only [go_sem, fN, seval, eT, iR, e0, e3, e4, e7, s3, s4, s7, s44, e8, hlt]); (repeat with_reducible refine Ai ?_); (try (refine hK _ ?_; clear hK K))))
    with_reducible refine Wp ?_
    simp only [go_sem, fN, seval, true_implies, false_implies, implies_true, dT, dF, nL, hlt]
    (try with_reducible refine iC ?_)
    repeat' (first | (with_reducible first | refine W ?_ | refine Z0 ?_) | refine Cg _ (ih _ (Tm.lt_of_arg (mem_of_get ha)) a (by have := Tm.size_mem (mem_of_get ha); omega) rfl) ?_ | ((with_reducible first | refine Wo (fun K hK => ?_) | refine Wq ?_ | refine Wr ?_); (try simp only [go_sem, fN, seval, eT, iR, e0, e3, e4, e7, s3, s4, s7, s44, e8, ha, hlk]); (repeat with_reducible refine Ai ?_); (try (refine hK _ ?_; clear hK K))))
    refine then_normal ⟨t.args.length - (k + 1), by omega, k + 1, by omega, rfl, ?_⟩
    simp only [go_sem, fN, seval, eT, iR, e0, e3, e4, e7, s3, s4, s7, s44, e8]
    exact ⟨by rw [take_snoc ha]; simp [encT_eq], by congr 3⟩
   ·repeat' (first | (with_reducible first | refine W ?_ | refine Z0 ?_) | ((with_reducible first | refine Wo (fun K hK => ?_) | refine Wq ?_ | refine Wr ?_); (try simp only [go_sem, fN, seval, eT, iR, e0, e3, e4, e7, s3, s4, s7, s44, e8, hlt]); (repeat with_reducible refine Ai ?_); (try (refine hK _ ?_; clear hK K))))
    with_reducible refine Wp ?_
    simp only [go_sem, fN, seval, true_implies, false_implies, implies_true, dT, dF, nL, hlt]
    (try with_reducible refine iC ?_)
    have hall : t.args.take k = t.args := List.take_of_length_le (by omega)
    rw [hall] at hlk s44
    repeat' (first | (with_reducible first | refine W ?_ | refine Z0 ?_) | ((with_reducible first | refine Wo (fun K hK => ?_) | refine Wq ?_ | refine Wr ?_); (try simp only [go_sem, fN, seval, eT, iR, e0, e3, e4, e7, s3, s4, s7, s44, e8, hlk]); (repeat with_reducible refine Ai ?_); (try (refine hK _ ?_; clear hK K))))
    simp only [go_sem, fN, seval, FinQ, AS.result, resAll, resOne, tupV, e4, s44, hlk]
    rfl
theorem grown_a (s : List Bd) (t : Tm) (m : Int) (h0 : 0 ≤ m) (h1 : m ≤ 9223372036854775806) : ACalls Tryz.prog 61 [aBds s, aTm t, aInt m] (aInt (capTo (t.on s).size m)) := by
 induction h : SizeOf.sizeOf t using Nat.strongRecOn generalizing t m with
 | _ N ih =>
 subst h
 by_cases hleaf : (∃ x, lookup s t.name = some x) ∧ t.args = []
 ·obtain ⟨⟨x, hx⟩, ha0⟩ := hleaf
  have h0' : (t.args.length : Int) = 0 := by rw [ha0]; rfl
  rw [Tm.on_leaf hx ha0]
  refine ok_R_grown.ac fun C hC => ?_
  unfold ir_R_grown
  repeat' (first | (with_reducible first | refine W ?_ | refine Z0 ?_) | refine Cg _ (for_a s t.name) ?_ | ((with_reducible first | refine Wo (fun K hK => ?_) | refine Wq ?_ | refine Wr ?_); (try simp only [go_sem, fN, seval, eT, iR, hx, h0', Option.isSome_some]); (repeat with_reducible refine Ai ?_); (try (refine hK _ ?_; clear hK K))))
  with_reducible refine Wp ?_
  simp only [go_sem, fN, seval, true_implies, false_implies, implies_true, dT, dF, nL]
  (try with_reducible refine iC ?_)
  repeat' (first | (with_reducible first | refine W ?_ | refine Z0 ?_) | refine Cg _ (sizeR_a x m h0 h1) ?_ | ((with_reducible first | refine Wo (fun K hK => ?_) | refine Wq ?_ | refine Wr ?_); (try simp only [go_sem, fN, seval, eT, iR]); (repeat with_reducible refine Ai ?_); (try (refine hK _ ?_; clear hK K))))
  simp only [go_sem, fN, seval, FinQ, AS.result, resAll, resOne, tupV]
 ·have hon : t.on s = .mk t.name (t.args.map (Tm.on s)) := Tm.on_knot (by
   cases hl : lookup s t.name with
   | none => exact .inl rfl
   | some x => exact .inr fun h0 => hleaf ⟨⟨x, hl⟩, h0⟩)
  have hs : (t.on s).size = 1 + Tm.sizes (t.args.map (Tm.on s)) := by rw [hon]; rfl
  refine ok_R_grown.ac fun C hC => ?_
  unfold ir_R_grown
  refine IWP.learn 1 (by omega) fun hkn => ?_
  have hkn := known_tm hkn
  repeat' (first | (with_reducible first | refine W ?_ | refine Z0 ?_) | ((with_reducible first | refine Wo (fun K hK => ?_) | refine Wq ?_ | refine Wr ?_); (try simp only [go_sem, fN, seval, eT, iR]); (repeat with_reducible refine Ai ?_); (try (refine hK _ ?_; clear hK K))))
  refine ⟨_, for_a s t.name, ?_⟩
  cases hl : lookup s t.name
  case' none =>
   repeat' (first | (with_reducible first | refine W ?_ | refine Z0 ?_) | ((with_reducible first | refine Wo (fun K hK => ?_) | refine Wq ?_ | refine Wr ?_); (try simp only [go_sem, fN, seval, eT, iR, hl, Option.isSome_none]); (repeat with_reducible refine Ai ?_); (try (refine hK _ ?_; clear hK K))))
   with_reducible refine Wp ?_
   simp only [go_sem, fN, seval, true_implies, false_implies, implies_true, dT, dF, nL]
   (try with_reducible refine iC ?_)
   repeat' (first | (with_reducible first | refine W ?_ | refine Z0 ?_) | ((with_reducible first | refine Wo (fun K hK => ?_) | refine Wq ?_ | refine Wr ?_); (try simp only [go_sem, fN, seval, eT, iR]); (repeat with_reducible refine Ai ?_); (try (refine hK _ ?_; clear hK K))))
  case' some x =>
   have h0' : ¬ (t.args.length : Int) = 0 := fun h => hleaf ⟨⟨_, hl⟩, List.eq_nil_of_length_eq_zero (by omega)⟩
   repeat' (first | (with_reducible first | refine W ?_ | refine Z0 ?_) | ((with_reducible first | refine Wo (fun K hK => ?_) | refine Wq ?_ | refine Wr ?_); (try simp only [go_sem, fN, seval, eT, iR, hl, h0', Option.isSome_some]); (repeat with_reducible refine Ai ?_); (try (refine hK _ ?_; clear hK K))))
   with_reducible refine Wp ?_
   simp only [go_sem, fN, seval, true_implies, false_implies, implies_true, dT, dF, nL]
   (try with_reducible refine iC ?_)
   repeat' (first | (with_reducible first | refine W ?_ | refine Z0 ?_) | ((with_reducible first | refine Wo (fun K hK => ?_) | refine Wq ?_ | refine Wr ?_); (try simp only [go_sem, fN, seval, eT, iR]); (repeat with_reducible refine Ai ?_); (try (refine hK _ ?_; clear hK K))))
  all_goals
   refine IWP.loop (fun n x => ∃ k, k ≤ t.args.length ∧ n = t.args.length - k ∧ x.env 9 = aInt (capTo (1 + Tm.sizes ((t.args.take k).map (Tm.on s))) m) ∧ x.env 0 = aBds s ∧ x.env 2 = aInt m ∧ x.env 4 = .one (.ptr 4 1 0 0) ∧ x.env 10 = aInt k ∧ x.S 4 = some (.box 29 [.st (.str t.name), .st (.list (t.args.map encT))])) t.args.length ⟨0, Nat.zero_le _, rfl, by
    simp only [go_sem, fN, seval, eT, iR]
    rw [capTo]
    have z0 : Tm.sizes [] = 0 := rfl
    congr 3
    split <;> omega, rfl, rfl, rfl, rfl, rfl⟩ ?_
   rintro n ⟨env, S⟩ ⟨k, hk, rfl, e9, e0, e2, e4, e10, s4⟩
   simp only at e9 e0 e2 e4 e10 s4
   have z4 := capTo_le (1 + Tm.sizes ((t.args.take k).map (Tm.on s))) m h0
   have zle : 1 + Tm.sizes ((t.args.take k).map (Tm.on s)) ≤ (t.on s).size := by
    rw [hs, List.map_take]
    have := Tm.sizes_take_le (t.args.map (Tm.on s)) k
    omega
   by_cases hlt : (k : Int) < t.args.length
   ·obtain ⟨a, ha⟩ := get_lt (show k < t.args.length by omega)
    have ha' : (t.args.map (Tm.on s))[k]? = some (a.on s) := by rw [List.getElem?_map, ha]; rfl
    have z1 := Tm.sizes_take ha'
    rw [← List.map_take, ← List.map_take] at z1
    by_cases hb : m < capTo (1 + Tm.sizes ((t.args.take k).map (Tm.on s))) m
    ·have hb' : ¬ capTo (1 + Tm.sizes ((t.args.take k).map (Tm.on s))) m ≤ m := by omega
     repeat' (first | (with_reducible first | refine W ?_ | refine Z0 ?_) | ((with_reducible first | refine Wo (fun K hK => ?_) | refine Wq ?_ | refine Wr ?_); (try simp only [go_sem, fN, seval, eT, iR, e9, e0, e2, e4, e10, s4, hlt, hb']); (repeat with_reducible refine Ai ?_); (try (refine hK _ ?_; clear hK K))))
     with_reducible refine Wp ?_
     simp only [go_sem, fN, seval, true_implies, false_implies, implies_true, dT, dF, nL, hb']
     (try with_reducible refine iC ?_)
     repeat' (first | (with_reducible first | refine W ?_ | refine Z0 ?_) | ((with_reducible first | refine Wo (fun K hK => ?_) | refine Wq ?_ | refine Wr ?_); (try simp only [go_sem, fN, seval, eT, iR, e9, e2]); (repeat with_reducible refine Ai ?_); (try (refine hK _ ?_; clear hK K))))
     with_reducible refine Wp ?_
     simp only [go_sem, fN, seval, true_implies, false_implies, implies_true, dT, dF, nL, hb]
     (try with_reducible refine iC ?_)
     repeat' (first | (with_reducible first | refine W ?_ | refine Z0 ?_) | ((with_reducible first | refine Wo (fun K hK => ?_) | refine Wq ?_ | refine Wr ?_); (try simp only [go_sem, fN, seval, eT, iR, e2]); (repeat with_reducible refine Ai ?_); (try (refine hK _ ?_; clear hK K))))
     simp only [go_sem, fN, seval, FinQ, AS.result, resAll, resOne, tupV]
     rw [capTo_over hb zle]
    ·have hb' : capTo (1 + Tm.sizes ((t.args.take k).map (Tm.on s))) m ≤ m := by omega
     obtain ⟨b1, b2⟩ := capTo_in hb
     repeat' (first | (with_reducible first | refine W ?_ | refine Z0 ?_) | ((with_reducible first | refine Wo (fun K hK => ?_) | refine Wq ?_ | refine Wr ?_); (try simp only [go_sem, fN, seval, eT, iR, e9, e0, e2, e4, e10, s4, hlt, hb']); (repeat with_reducible refine Ai ?_); (try (refine hK _ ?_; clear hK K))))
     with_reducible refine Wp ?_
     simp only [go_sem, fN, seval, true_implies, false_implies, implies_true, dT, dF, nL, hb']
     (try with_reducible refine iC ?_)
     repeat' (first | (with_reducible first | refine W ?_ | refine Z0 ?_) | ((with_reducible first | refine Wo (fun K hK => ?_) | refine Wq ?_ | refine Wr ?_); (try simp only [go_sem, fN, seval, eT, iR, e9, e0, e2, e4, e10, s4, ha]); (repeat with_reducible refine Ai ?_); (try (refine hK _ ?_; clear hK K))))
     refine ⟨_, ih _ (Tm.lt_of_arg (mem_of_get ha)) a (m - capTo (1 + Tm.sizes ((t.args.take k).map (Tm.on s))) m) (by omega) (by omega) rfl, ?_⟩
     have z5 := capTo_le (a.on s).size (m - capTo (1 + Tm.sizes ((t.args.take k).map (Tm.on s))) m) (by omega)
     repeat' (first | (with_reducible first | refine W ?_ | refine Z0 ?_) | ((with_reducible first | refine Wo (fun K hK => ?_) | refine Wq ?_ | refine Wr ?_); (try simp only [go_sem, fN, seval, eT, iR, e9, e0, e2, e4, e10, s4]); (repeat with_reducible refine Ai ?_); (try (refine hK _ ?_; clear hK K))))
     refine then_normal ⟨t.args.length - (k + 1), by omega, k + 1, by omega, rfl, ?_⟩
     simp only [go_sem, fN, seval, eT, iR, e9, e0, e2, e4, e10, s4]
     exact ⟨by rw [b1, capTo_step b2, z1]; congr 4; omega, by congr 3⟩
   ·repeat' (first | (with_reducible first | refine W ?_ | refine Z0 ?_) | ((with_reducible first | refine Wo (fun K hK => ?_) | refine Wq ?_ | refine Wr ?_); (try simp only [go_sem, fN, seval, eT, iR, e9, e0, e2, e4, e10, s4, hlt]); (repeat with_reducible refine Ai ?_); (try (refine hK _ ?_; clear hK K))))
    with_reducible refine Wp ?_
    simp only [go_sem, fN, seval, true_implies, false_implies, implies_true, dT, dF, nL]
    (try with_reducible refine iC ?_)
    have hfull : 1 + Tm.sizes ((t.args.take k).map (Tm.on s)) = (t.on s).size := by rw [List.take_of_length_le (by omega), hs]
    rw [hfull] at e9 z4
    repeat' (first | (with_reducible first | refine W ?_ | refine Z0 ?_) | ((with_reducible first | refine Wo (fun K hK => ?_) | refine Wq ?_ | refine Wr ?_); (try simp only [go_sem, fN, seval, eT, iR, e9, e2]); (repeat with_reducible refine Ai ?_); (try (refine hK _ ?_; clear hK K))))
    by_cases hb : m < capTo (t.on s).size m
    ·with_reducible refine Wp ?_
     simp only [go_sem, fN, seval, true_implies, false_implies, implies_true, dT, dF, nL, hb]
     (try with_reducible refine iC ?_)
     repeat' (first | (with_reducible first | refine W ?_ | refine Z0 ?_) | ((with_reducible first | refine Wo (fun K hK => ?_) | refine Wq ?_ | refine Wr ?_); (try simp only [go_sem, fN, seval, eT, iR, e2]); (repeat with_reducible refine Ai ?_); (try (refine hK _ ?_; clear hK K))))
     simp only [go_sem, fN, seval, FinQ, AS.result, resAll, resOne, tupV]
     rw [capTo_over hb (Nat.le_refl _)]
    ·with_reducible refine Wp ?_
     simp only [go_sem, fN, seval, true_implies, false_implies, implies_true, dT, dF, nL, hb]
     (try with_reducible refine iC ?_)
     repeat' (first | (with_reducible first | refine W ?_ | refine Z0 ?_) | ((with_reducible first | refine Wo (fun K hK => ?_) | refine Wq ?_ | refine Wr ?_); (try simp only [go_sem, fN, seval, eT, iR, e9]); (repeat with_reducible refine Ai ?_); (try (refine hK _ ?_; clear hK K))))
     simp only [go_sem, fN, seval, FinQ, AS.result, resAll, resOne, tupV, e9]
def onTo (s : List Bd) (t : Tm) : Tm × Bool := if (t.on s).size ≤ 2000 then (t.on s, true) else (Tm.nil, false)
theorem onRef_a (s : List Bd) (t : Tm) (hz : t.size ≤ 1000000) : ACalls Tryz.prog 35 [aBds s, aTm t] (.tup [aTm (onTo s t).1, aBool (onTo s t).2]) := by
 by_cases hb : (2000 : Int) < capTo (t.on s).size 2000
 ·have e : onTo s t = (Tm.nil, false) := by
   unfold onTo
   rw [if_neg]
   intro h
   unfold capTo at hb
   split at hb <;> omega
  rw [e]
  refine ok_R_On.ac fun C hC => ?_
  unfold ir_R_On
  repeat' (first | (with_reducible first | refine W ?_ | refine Z0 ?_) | refine Cg _ (grown_a s t 2000 (by omega) (by omega)) ?_ | ((with_reducible first | refine Wo (fun K hK => ?_) | refine Wq ?_ | refine Wr ?_); (try simp only [go_sem, fN, seval, eT, iR, hb]); (repeat with_reducible refine Ai ?_); (try (refine hK _ ?_; clear hK K))))
  with_reducible refine Wp ?_
  simp only [go_sem, fN, seval, true_implies, false_implies, implies_true, dT, dF, nL, hb]
  (try with_reducible refine iC ?_)
  repeat' (first | (with_reducible first | refine W ?_ | refine Z0 ?_) | ((with_reducible first | refine Wo (fun K hK => ?_) | refine Wq ?_ | refine Wr ?_); (try simp only [go_sem, fN, seval, eT, iR]); (repeat with_reducible refine Ai ?_); (try (refine hK _ ?_; clear hK K))))
  simp only [go_sem, fN, seval, FinQ, AS.result, resAll, resOne, tupV]
  rfl
 ·have e : onTo s t = (t.on s, true) := by
   unfold onTo
   rw [if_pos]
   have := (capTo_in hb).2
   omega
  rw [e]
  refine ok_R_On.ac fun C hC => ?_
  unfold ir_R_On
  repeat' (first | (with_reducible first | refine W ?_ | refine Z0 ?_) | refine Cg _ (grown_a s t 2000 (by omega) (by omega)) ?_ | ((with_reducible first | refine Wo (fun K hK => ?_) | refine Wq ?_ | refine Wr ?_); (try simp only [go_sem, fN, seval, eT, iR, hb]); (repeat with_reducible refine Ai ?_); (try (refine hK _ ?_; clear hK K))))
  with_reducible refine Wp ?_
  simp only [go_sem, fN, seval, true_implies, false_implies, implies_true, dT, dF, nL, hb]
  (try with_reducible refine iC ?_)
  repeat' (first | (with_reducible first | refine W ?_ | refine Z0 ?_) | refine Cg _ (onR_a s t hz) ?_ | ((with_reducible first | refine Wo (fun K hK => ?_) | refine Wq ?_ | refine Wr ?_); (try simp only [go_sem, fN, seval, eT, iR]); (repeat with_reducible refine Ai ?_); (try (refine hK _ ?_; clear hK K))))
  simp only [go_sem, fN, seval, FinQ, AS.result, resAll, resOne, tupV]

structure Ren (f : ByteArray → ByteArray) : Prop where
 inv : ∀ n, f (f n) = n
 var : ∀ n, isVar (f n) = isVar n
 con : ∀ n, isVar n = false → f n = n
theorem Ren.inj {f : ByteArray → ByteArray} (hf : Ren f) {a b : ByteArray} : f a = f b ↔ a = b := ⟨fun h => by rw [← hf.inv a, h, hf.inv], fun h => by rw [h]⟩
mutual
def Tm.ren (f : ByteArray → ByteArray) : Tm → Tm
 | .mk n xs => .mk (f n) (Tm.renL f xs)
def Tm.renL (f : ByteArray → ByteArray) : List Tm → List Tm
 | [] => []
 | x :: xs => x.ren f :: Tm.renL f xs
end
section
variable {f : ByteArray → ByteArray}
theorem Tm.renL_eq : ∀ xs : List Tm, Tm.renL f xs = xs.map (Tm.ren f)
 | [] => rfl
 | x :: xs => by rw [Tm.renL, Tm.renL_eq xs]; rfl
theorem Tm.ren_eq (t : Tm) : t.ren f = .mk (f t.name) (t.args.map (Tm.ren f)) := by
 cases t
 rw [Tm.ren, Tm.renL_eq]
 rfl
theorem Tm.ren_name (t : Tm) : (t.ren f).name = f t.name := by rw [Tm.ren_eq]; rfl
theorem Tm.ren_args (t : Tm) : (t.ren f).args = t.args.map (Tm.ren f) := by rw [Tm.ren_eq]; rfl
mutual
theorem Tm.ren_size : ∀ t : Tm, (t.ren f).size = t.size
 | .mk n xs => by rw [Tm.ren, Tm.size, Tm.size, Tm.renL_sizes xs]
theorem Tm.renL_sizes : ∀ xs : List Tm, Tm.sizes (Tm.renL f xs) = Tm.sizes xs
 | [] => rfl
 | x :: xs => by rw [Tm.renL, Tm.sizes, Tm.sizes, Tm.ren_size x, Tm.renL_sizes xs]
end
theorem occ_ren (hf : Ren f) (x : ByteArray) (t : Tm) : occ (f x) (t.ren f) = occ x t := by
 induction h : SizeOf.sizeOf t using Nat.strongRecOn generalizing t with
 | _ N ih =>
 subst h
 rw [occ_eq, occ_eq, Tm.ren_name, Tm.ren_args, List.any_map]
 congr 1
 ·exact decide_eq_decide.2 hf.inj
 ·rw [Bool.eq_iff_iff, List.any_eq_true, List.any_eq_true]
  constructor
  ·rintro ⟨a, ha, h⟩
   exact ⟨a, ha, by rw [← ih _ (Tm.lt_of_arg ha) a rfl]; exact h⟩
  ·rintro ⟨a, ha, h⟩
   exact ⟨a, ha, by rw [Function.comp_apply, ih _ (Tm.lt_of_arg ha) a rfl]; exact h⟩
theorem lookup_at : ∀ {l : List Bd}, Named l → ∀ {n : ByteArray} {t : Tm}, lookup l n = some t ↔ (n, t) ∈ l
 | [], _, n, t => by simp [lookup]
 | b :: l, h, n, t => by
  have h' : b.1 ∉ l.map (·.1) ∧ Named l := by
   unfold Named at h
   rw [List.map_cons, List.nodup_cons] at h
   exact h
  have ih := lookup_at h'.2 (n := n) (t := t)
  unfold lookup at ih ⊢
  rw [List.find?_cons]
  by_cases hb : b.1 = n
  ·rw [decide_eq_true hb]
   constructor
   ·intro h2
    cases h2
    exact List.mem_cons.2 (.inl (by rw [← hb]))
   ·intro h2
    rcases List.mem_cons.1 h2 with h2 | h2
    ·rw [← h2]
     rfl
    ·exact absurd (List.mem_map.2 ⟨_, h2, hb.symm⟩) h'.1
  ·rw [decide_eq_false hb, ih]
   constructor
   ·exact fun h2 => List.mem_cons_of_mem _ h2
   ·intro h2
    rcases List.mem_cons.1 h2 with h2 | h2
    ·rw [← h2] at hb
     exact absurd rfl hb
    ·exact h2
theorem lookup_perm {l m : List Bd} (hp : l.Perm m) (hn : Named m) (n : ByteArray) : lookup l n = lookup m n := by
 have hl := named_perm hp.symm hn
 cases h : lookup m n with
 | some t => exact (lookup_at hl).2 (hp.mem_iff.2 ((lookup_at hn).1 h))
 | none =>
  cases h2 : lookup l n with
  | none => rfl
  | some t =>
   rw [(lookup_at hn).2 (hp.mem_iff.1 ((lookup_at hl).1 h2))] at h
   cases h
theorem lookup_mapOn (h : Tm → Tm) : ∀ (s : List Bd) (n : ByteArray), lookup (s.map fun b => (b.1, h b.2)) n = (lookup s n).map h
 | [], n => rfl
 | b :: s, n => by
  have ih := lookup_mapOn h s n
  unfold lookup at ih ⊢
  rw [List.map_cons, List.find?_cons, List.find?_cons]
  by_cases hb : b.1 = n
  ·simp [hb]
  ·rw [decide_eq_false hb]
   simpa [hb] using ih
theorem lookup_end (s : List Bd) (x n : ByteArray) (t : Tm) : lookup (s ++ [(x, t)]) n = (lookup s n).or (if x = n then some t else none) := by
 unfold lookup
 rw [List.find?_append]
 cases h : s.find? fun b => decide (b.1 = n) with
 | some b => simp
 | none =>
  by_cases hx : x = n
  ·simp [hx]
  ·simp [hx]
structure SubR (f : ByteArray → ByteArray) (s s' : List Bd) : Prop where
 n1 : Named s
 n2 : Named s'
 eq : ∀ n, lookup s' (f n) = (lookup s n).map (Tm.ren f)
theorem SubR.nil (f : ByteArray → ByteArray) : SubR f [] [] := ⟨List.nodup_nil, List.nodup_nil, fun _ => rfl⟩
theorem SubR.one (hf : Ren f) (x : ByteArray) (t : Tm) : SubR f [(x, t)] [(f x, t.ren f)] := ⟨by simp [Named], by simp [Named], fun n => by
 have h1 := lookup_end [] x n t
 have h2 := lookup_end [] (f x) (f n) (t.ren f)
 rw [List.nil_append] at h1 h2
 rw [h1, h2]
 by_cases h : x = n
 ·simp [lookup, h]
 ·simp [lookup, h, mt hf.inj.1 h]⟩
theorem on_ren (hf : Ren f) {s s' : List Bd} (h : SubR f s s') (t : Tm) : (t.ren f).on s' = (t.on s).ren f := by
 induction hN : SizeOf.sizeOf t using Nat.strongRecOn generalizing t with
 | _ N ih =>
 subst hN
 have hmap : (t.ren f).args.map (Tm.on s') = (t.args.map (Tm.on s)).map (Tm.ren f) := by
  rw [Tm.ren_args, List.map_map, List.map_map]
  exact List.map_congr_left fun a ha => ih _ (Tm.lt_of_arg ha) a rfl
 by_cases h0 : t.args = []
 ·have h0' : (t.ren f).args = [] := by rw [Tm.ren_args, h0]; rfl
  have hl := h.eq t.name
  cases hx : lookup s t.name with
  | some x =>
   rw [hx] at hl
   rw [Tm.on_leaf hx h0, Tm.on_leaf (x := x.ren f) (by rw [Tm.ren_name]; exact hl) h0']
  | none =>
   rw [hx] at hl
   rw [Tm.on_knot (.inl hx), Tm.on_knot (.inl (by rw [Tm.ren_name]; exact hl)), hmap, Tm.ren_name, Tm.ren_eq (.mk t.name _)]
   rfl
 ·have h0' : (t.ren f).args ≠ [] := by
   rw [Tm.ren_args]
   intro h
   exact h0 (List.map_eq_nil_iff.1 h)
  rw [Tm.on_knot (.inr h0), Tm.on_knot (.inr h0'), hmap, Tm.ren_name, Tm.ren_eq (.mk t.name _)]
  rfl
theorem onTo_ren (hf : Ren f) {s s' : List Bd} (h : SubR f s s') (t : Tm) : onTo s' (t.ren f) = ((onTo s t).1.ren f, (onTo s t).2) ∨ (onTo s t).2 = false ∧ (onTo s' (t.ren f)).2 = false := by
 unfold onTo
 rw [on_ren hf h, Tm.ren_size]
 split
 ·exact .inl rfl
 ·exact .inr ⟨rfl, rfl⟩
def renP (f : ByteArray → ByteArray) (p : Pr) : Pr := (p.1.ren f, p.2.ren f)
theorem bindV_ren (hf : Ren f) {s s' : List Bd} (h : SubR f s s') {x : ByteArray} (hx : ∀ b ∈ s, b.1 ≠ x) (t : Tm) :
  (∃ e, bindV s x t = .err e ∧ bindV s' (f x) (t.ren f) = .err e) ∨ ∃ s1 s1', bindV s x t = .go s1 [] ∧ bindV s' (f x) (t.ren f) = .go s1' [] ∧ SubR f s1 s1' := by
 have hlx : lookup s x = none := lookup_none hx
 have hlx' : lookup s' (f x) = none := by rw [h.eq, hlx]; rfl
 have hx' : ∀ b ∈ s', b.1 ≠ f x := fun b hb e => by
  have := (lookup_at h.n2).2 (show (b.1, b.2) ∈ s' from hb)
  rw [e, hlx'] at this
  cases this
 have h1 := SubR.one hf x t
 unfold bindV
 rw [occ_ren hf]
 by_cases ho : occ x t = true
 ·rw [if_pos ho, if_pos ho]
  exact .inl ⟨6, rfl, rfl⟩
 rw [if_neg ho, if_neg ho]
 have hall : (s.all fun b => decide ((b.2.on [(x, t)]).size ≤ 2000)) = (s'.all fun b => decide ((b.2.on [(f x, t.ren f)]).size ≤ 2000)) := by
  rw [Bool.eq_iff_iff, List.all_eq_true, List.all_eq_true]
  constructor
  ·intro ha b hb
   have hl := (lookup_at h.n2).2 (show (b.1, b.2) ∈ s' from hb)
   have he := h.eq (f b.1)
   rw [hf.inv, hl] at he
   cases hs : lookup s (f b.1) with
   | none => rw [hs] at he; cases he
   | some t0 =>
    rw [hs] at he
    have he : b.2 = t0.ren f := by simpa using he
    have := ha _ ((lookup_at h.n1).1 hs)
    rw [he, on_ren hf h1, Tm.ren_size]
    exact this
  ·intro ha b hb
   have hl := (lookup_at h.n1).2 (show (b.1, b.2) ∈ s from hb)
   have he := h.eq b.1
   rw [hl] at he
   have := ha _ ((lookup_at h.n2).1 he)
   rw [on_ren hf h1, Tm.ren_size] at this
   exact this
 rw [← hall]
 by_cases ha : (s.all fun b => decide ((b.2.on [(x, t)]).size ≤ 2000)) = true
 case neg =>
  rw [if_neg ha, if_neg ha]
  exact .inl ⟨8, rfl, rfl⟩
 rw [if_pos ha, if_pos ha]
 have nm : ∀ {s : List Bd} {x : ByteArray} {t : Tm} {g : Tm → Tm}, Named s → (∀ b ∈ s, b.1 ≠ x) → Named (s.map (fun b => (b.1, g b.2)) ++ [(x, t)]) := fun {s x t g} hn hx => by
  unfold Named at *
  rw [List.map_append, List.map_map, List.nodup_append]
  refine ⟨hn, by simp, fun a ha b hb => ?_⟩
  obtain ⟨c, hc, rfl⟩ := List.mem_map.1 ha
  have hb : b = x := by simpa using hb
  rw [hb]
  exact hx c hc
 have m1 := nm (t := t) (g := Tm.on [(x, t)]) h.n1 hx
 have m2 := nm (t := t.ren f) (g := Tm.on [(f x, t.ren f)]) h.n2 hx'
 refine .inr ⟨_, _, rfl, rfl, named_perm (sortB_perm _).symm m1, named_perm (sortB_perm _).symm m2, fun n => ?_⟩
 rw [lookup_perm (sortB_perm _) m1, lookup_perm (sortB_perm _) m2, lookup_end, lookup_end, lookup_mapOn, lookup_mapOn, h.eq]
 by_cases hn : x = n
 ·subst hn
  rw [hlx]
  simp
 ·rw [if_neg hn, if_neg (mt hf.inj.1 hn)]
  cases lookup s n with
  | none => rfl
  | some t0 => simp [on_ren hf h1]
theorem stepU_ren (hf : Ren f) {U : List ByteArray} {C : Nat} {s s' : List Bd} {p : Pr} {l : List Pr} (hg : UGood U C s (p :: l)) (h : SubR f s s') :
  (∃ e, stepU s p = .err e ∧ stepU s' (renP f p) = .err e) ∨ ∃ s1 s1' ps, stepU s p = .go s1 ps ∧ stepU s' (renP f p) = .go s1' (ps.map (renP f)) ∧ SubR f s1 s1' := by
 obtain ⟨c1, c2⟩ := hg.lchk p List.mem_cons_self
 have hU := hg.lU p List.mem_cons_self
 obtain ⟨a1, a2, a3⟩ := onU hg c1 fun y hy => (hU y).1 hy
 obtain ⟨b1, b2, b3⟩ := onU hg c2 fun y hy => (hU y).2 hy
 have nd : ∀ {t : Tm}, NoDom s t → ∀ b ∈ s, b.1 ≠ t.name := fun {t} ht b hb e => by
  have := ht b hb
  rw [e] at this
  have h2 : occ t.name t = true := occ_iff.2 (.inl rfl)
  rw [this] at h2
  cases h2
 unfold stepU
 rw [show (renP f p).1 = p.1.ren f from rfl, show (renP f p).2 = p.2.ren f from rfl, on_ren hf h, on_ren hf h]
 generalize p.1.on s = x at *
 generalize p.2.on s = y at *
 simp only [Tm.ren_size, Tm.ren_name, hf.var, hf.inj]
 by_cases q1 : 2000 < x.size ∨ 2000 < y.size
 ·rw [if_pos q1, if_pos q1]
  exact .inl ⟨8, rfl, rfl⟩
 rw [if_neg q1, if_neg q1]
 by_cases q2 : isVar x.name = true ∧ x.name = y.name
 ·rw [if_pos q2, if_pos q2]
  exact .inr ⟨s, s', [], rfl, rfl, h⟩
 rw [if_neg q2, if_neg q2]
 by_cases q3 : isVar x.name = true
 ·rw [if_pos q3, if_pos q3]
  rcases bindV_ren hf h (nd a2) y with ⟨e, h1, h2⟩ | ⟨s1, s1', h1, h2, h3⟩
  ·exact .inl ⟨e, h1, h2⟩
  ·exact .inr ⟨s1, s1', [], h1, h2, h3⟩
 rw [if_neg q3, if_neg q3]
 by_cases q4 : isVar y.name = true
 ·rw [if_pos q4, if_pos q4]
  rcases bindV_ren hf h (nd b2) x with ⟨e, h1, h2⟩ | ⟨s1, s1', h1, h2, h3⟩
  ·exact .inl ⟨e, h1, h2⟩
  ·exact .inr ⟨s1, s1', [], h1, h2, h3⟩
 rw [if_neg q4, if_neg q4]
 simp only [Tm.ren_args, List.length_map]
 by_cases q5 : x.name = y.name ∧ x.args.length = y.args.length
 ·rw [if_pos q5, if_pos q5]
  refine .inr ⟨s, s', _, rfl, ?_, h⟩
  rw [List.zip_map]
  rfl
 ·rw [if_neg q5, if_neg q5]
  exact .inl ⟨5, rfl, rfl⟩
theorem uends_ren (hf : Ren f) {U : List ByteArray} {C : Nat} : ∀ {n : Nat} {s : List Bd} {l : List Pr} {r : List Bd × Int}, UEnds n s l r → UGood U C s l → ∀ {s'}, SubR f s s' → ∃ r', UEnds n s' (l.map (renP f)) r' ∧ r'.2 = r.2 ∧ SubR f r.1 r'.1 := by
 intro n s l r hu
 induction hu with
 | nil => exact fun _ s' h => ⟨(s', 0), .nil, rfl, h⟩
 | err he =>
  intro hg s' h
  rcases stepU_ren hf hg h with ⟨e, h1, h2⟩ | ⟨s1, s1', ps, h1, h2, h3⟩
  ·rw [he] at h1
   cases h1
   exact ⟨([], _), .err h2, rfl, .nil f⟩
  ·rw [he] at h1
   cases h1
 | go hgo hr ih =>
  intro hg s' h
  rcases stepU_ren hf hg h with ⟨e, h1, h2⟩ | ⟨s1, s1', ps, h1, h2, h3⟩
  ·rw [hgo] at h1
   cases h1
  ·rw [hgo] at h1
   cases h1
   obtain ⟨r', k1, k2, k3⟩ := ih (step_good hg hgo).1 h3
   rw [List.map_append] at k1
   exact ⟨r', .go h2 k1, k2, k3⟩
theorem posN_ren (hf : Ren f) : ∀ (l : List ByteArray) (n : ByteArray), posN (l.map f) (f n) = posN l n
 | [], n => rfl
 | m :: l, n => by
  have ih := posN_ren hf l n
  rw [List.map_cons, posN, posN, ih]
  by_cases h : m = n
  ·simp [h]
  ·simp [h, mt hf.inj.1 h]
theorem addN_ren (hf : Ren f) (l : List ByteArray) (n : ByteArray) : addN (l.map f) (f n) = (addN l n).map f := by
 unfold addN
 rw [posN_ren hf, List.length_map]
 split <;> simp
mutual
theorem cn_ren (hf : Ren f) : ∀ (t : Tm) (l : List ByteArray), (t.ren f).cn (l.map f) = ((t.cn l).1, (t.cn l).2.map f)
 | .mk n xs, l => by
  rw [Tm.ren, Tm.cn, Tm.cn, hf.var, posN_ren hf, addN_ren hf, cnL_ren hf xs l]
  by_cases h : isVar n = true
  ·rw [if_pos h, if_pos h]
  ·rw [if_neg h, if_neg h, hf.con n (by simpa using h)]
theorem cnL_ren (hf : Ren f) : ∀ (xs : List Tm) (l : List ByteArray), Tm.cnL (Tm.renL f xs) (l.map f) = ((Tm.cnL xs l).1, (Tm.cnL xs l).2.map f)
 | [], l => rfl
 | x :: xs, l => by rw [Tm.renL, Tm.cnL, Tm.cnL, cn_ren hf x l, cnL_ren hf xs]
end
end

mutual
def Tm.mt : Tm → Tm → List Bd → List Bd × Bool
 | .mk n xs, t, l => if isVar n = true then (match lookup l n with
   | some x => (l, x.beq t)
   | none => (l ++ [(n, t)], true))
  else if n = t.name ∧ xs.length = t.args.length then Tm.mtL xs t.args l else (l, false)
def Tm.mtL : List Tm → List Tm → List Bd → List Bd × Bool
 | x :: xs, y :: ys, l => if (x.mt y l).2 = true then Tm.mtL xs ys (x.mt y l).1 else ((x.mt y l).1, false)
 | _, _, l => (l, true)
end
section
variable {p t : Tm} {l : List Bd}
theorem Tm.mt_old (hv : isVar p.name = true) {x : Tm} (h : lookup l p.name = some x) : p.mt t l = (l, x.beq t) := by
 cases p with
 | mk n xs =>
  simp only [Tm.name_mk] at hv h
  rw [Tm.mt, if_pos hv, h]
theorem Tm.mt_new (hv : isVar p.name = true) (h : lookup l p.name = none) : p.mt t l = (l ++ [(p.name, t)], true) := by
 cases p with
 | mk n xs =>
  simp only [Tm.name_mk] at hv h
  rw [Tm.mt, if_pos hv, h]
  rfl
theorem Tm.mt_clash (hv : isVar p.name = false) (h : ¬ (p.name = t.name ∧ p.args.length = t.args.length)) : p.mt t l = (l, false) := by
 cases p with
 | mk n xs =>
  simp only [Tm.name_mk, Tm.args_mk] at hv h
  rw [Tm.mt, if_neg (by simp [hv]), if_neg h]
theorem Tm.mt_knot (hv : isVar p.name = false) (h1 : p.name = t.name) (h2 : p.args.length = t.args.length) : p.mt t l = Tm.mtL p.args t.args l := by
 cases p with
 | mk n xs =>
  simp only [Tm.name_mk, Tm.args_mk] at hv h1 h2
  rw [Tm.mt, if_neg (by simp [hv]), if_pos ⟨h1, h2⟩]
  rfl
end
theorem Tm.mtL_nil (ys : List Tm) (l : List Bd) : Tm.mtL [] ys l = (l, true) := by cases ys <;> simp [Tm.mtL]
theorem Tm.mtL_append : ∀ (xs ys xs' ys' : List Tm) (l : List Bd), xs.length = ys.length → Tm.mtL (xs ++ xs') (ys ++ ys') l = if (Tm.mtL xs ys l).2 = true then Tm.mtL xs' ys' (Tm.mtL xs ys l).1 else ((Tm.mtL xs ys l).1, false)
 | [], [], xs', ys', l, _ => by simp [Tm.mtL_nil]
 | x :: xs, y :: ys, xs', ys', l, h => by
  simp only [List.cons_append, Tm.mtL]
  by_cases hx : (x.mt y l).2 = true
  ·simp only [hx, if_true]
   exact Tm.mtL_append xs ys xs' ys' _ (by simpa using h)
  ·simp only [hx]
   simp
 | [], y :: ys, _, _, _, h => by simp at h
 | x :: xs, [], _, _, _, h => by simp at h
theorem Tm.mtL_take {xs ys : List Tm} {k : Nat} {x y : Tm} {l : List Bd} (hl : xs.length = ys.length) (hx : xs[k]? = some x) (hy : ys[k]? = some y) (h : (Tm.mtL (xs.take k) (ys.take k) l).2 = true) :
  Tm.mtL (xs.take (k + 1)) (ys.take (k + 1)) l = x.mt y (Tm.mtL (xs.take k) (ys.take k) l).1 := by
 rw [take_snoc hx, take_snoc hy, Tm.mtL_append _ _ _ _ _ (by simp [hl]), if_pos h]
 generalize Tm.mtL (xs.take k) (ys.take k) l = q
 simp only [Tm.mtL]
 split
 ·rename_i h1
  exact Prod.ext rfl h1.symm
 ·rename_i h1
  exact Prod.ext rfl (by simpa using h1)
theorem Tm.mtL_no {xs ys : List Tm} {k : Nat} {l : List Bd} (hl : xs.length = ys.length) (h : (Tm.mtL (xs.take k) (ys.take k) l).2 = false) : Tm.mtL xs ys l = ((Tm.mtL (xs.take k) (ys.take k) l).1, false) := by
 have e : Tm.mtL xs ys l = Tm.mtL (xs.take k ++ xs.drop k) (ys.take k ++ ys.drop k) l := by rw [List.take_append_drop, List.take_append_drop]
 rw [e, Tm.mtL_append _ _ _ _ _ (by simp [hl]), h]
 rfl
structure MtOk (l l' : List Bd) (many most : Nat) : Prop where
 named : Named l → Named l'
 len : l'.length ≤ l.length + many
 size : ∀ b ∈ l', b ∈ l ∨ b.2.size ≤ most
theorem MtOk.refl (l : List Bd) (n m : Nat) : MtOk l l n m := ⟨fun h => h, by omega, fun b hb => .inl hb⟩
theorem MtOk.trans {a b c : List Bd} {n m k n' m' : Nat} (h : MtOk a b n m) (h' : MtOk b c n' m') (hn : n + n' ≤ k) {M : Nat} (h1 : m ≤ M) (h2 : m' ≤ M) : MtOk a c k M := by
 refine ⟨fun q => h'.named (h.named q), by have := h.len; have := h'.len; omega, fun x hx => ?_⟩
 rcases h'.size x hx with h3 | h3
 ·rcases h.size x h3 with h4 | h4
  ·exact .inl h4
  ·exact .inr (by omega)
 ·exact .inr (by omega)
theorem lookup_names {l : List Bd} {n : ByteArray} (h : lookup l n = none) : n ∉ l.map (·.1) := by
 intro hm
 obtain ⟨b, hb, rfl⟩ := List.mem_map.1 hm
 unfold lookup at h
 rw [Option.map_eq_none_iff, List.find?_eq_none] at h
 exact h b hb (by simp)
theorem named_snoc {l : List Bd} {b : Bd} (h : lookup l b.1 = none) (hn : Named l) : Named (l ++ [b]) := by
 unfold Named at *
 rw [List.map_append, List.nodup_append]
 refine ⟨hn, by simp, fun x hx y hy e => ?_⟩
 simp only [List.map_cons, List.map_nil, List.mem_singleton] at hy
 subst hy
 subst e
 exact lookup_names h hx
mutual
theorem Tm.mt_ok : ∀ (p t : Tm) (l : List Bd), MtOk l (p.mt t l).1 p.size t.size
 | .mk n xs, t, l => by
  rw [Tm.mt]
  split
  ·split
   ·exact MtOk.refl _ _ _
   ·rename_i h
    refine ⟨fun hn => named_snoc h hn, ?_, fun b hb => ?_⟩
    ·have := Tm.size_pos (.mk n xs)
     rw [List.length_append, List.length_singleton]
     omega
    ·rcases List.mem_append.1 hb with hb | hb
     ·exact .inl hb
     ·rw [List.mem_singleton] at hb
      subst hb
      exact .inr (Nat.le_refl _)
  ·split
   ·have := Tm.mtL_ok xs t.args l
    have h1 := Tm.size_eq t
    exact ⟨this.named, by have := this.len; rw [Tm.size]; omega, fun b hb => (this.size b hb).imp_right (by omega)⟩
   ·exact MtOk.refl _ _ _
theorem Tm.mtL_ok : ∀ (xs ys : List Tm) (l : List Bd), MtOk l (Tm.mtL xs ys l).1 (Tm.sizes xs) (Tm.sizes ys)
 | [], ys, l => by rw [Tm.mtL_nil]; exact MtOk.refl _ _ _
 | x :: xs, [], l => by rw [Tm.mtL]; exact MtOk.refl _ _ _; simp
 | x :: xs, y :: ys, l => by
  rw [Tm.mtL]
  have h1 := Tm.mt_ok x y l
  split
  ·exact h1.trans (Tm.mtL_ok xs ys _) (by rw [Tm.sizes]; exact Nat.le_refl _) (by rw [Tm.sizes]; omega) (by rw [Tm.sizes]; omega)
  ·exact ⟨h1.named, by have := h1.len; rw [Tm.sizes]; show (x.mt y l).1.length ≤ _; omega, fun b hb => (h1.size b hb).imp_right (by rw [Tm.sizes]; omega)⟩
end
def caseOf (p t : Tm) : List Bd := if (p.mt t []).2 = true then sortB (p.mt t []).1 else []
def isCase (p t : Tm) : Bool := (p.mt t []).2
theorem named_nil : Named [] := List.nodup_nil
theorem mt_named (p t : Tm) : Named (p.mt t []).1 := (Tm.mt_ok p t []).named named_nil
theorem mt_len (p t : Tm) : (p.mt t []).1.length ≤ p.size := by have := (Tm.mt_ok p t []).len; simpa using this
theorem mt_size (p t : Tm) : ∀ b ∈ (p.mt t []).1, b.2.size ≤ t.size := fun b hb => ((Tm.mt_ok p t []).size b hb).resolve_left (by simp)

def Tm.atP : Tm → List Int → Option Tm
 | t, [] => some t
 | t, i :: p => if i < 0 then none else match t.args[i.toNat]? with
  | some a => a.atP p
  | none => none
def Tm.putP : Tm → List Int → Tm → Tm
 | t, [], x => x
 | t, i :: p, x => match t.args[i.toNat]? with
  | some a => .mk t.name (t.args.set i.toNat (a.putP p x))
  | none => t
theorem Tm.atP_nil (t : Tm) : t.atP [] = some t := by cases t; rfl
theorem Tm.putP_nil (t x : Tm) : t.putP [] x = x := by cases t; rfl
theorem Tm.atP_cons (t : Tm) (i : Int) (p : List Int) : t.atP (i :: p) = if i < 0 then none else match t.args[i.toNat]? with
  | some a => a.atP p
  | none => none := by cases t; rfl
theorem Tm.putP_cons (t : Tm) (i : Int) (p : List Int) (x : Tm) : t.putP (i :: p) x = match t.args[i.toNat]? with
  | some a => .mk t.name (t.args.set i.toNat (a.putP p x))
  | none => t := by cases t; rfl
theorem Tm.atP_at {t a : Tm} {k : Nat} (h : t.args[k]? = some a) (p : List Int) : t.atP ((k : Int) :: p) = a.atP p := by
 rw [Tm.atP_cons, if_neg (by omega), Int.toNat_natCast, h]
theorem Tm.putP_at {t a : Tm} {k : Nat} (h : t.args[k]? = some a) (p : List Int) (x : Tm) : t.putP ((k : Int) :: p) x = .mk t.name (t.args.set k (a.putP p x)) := by
 rw [Tm.putP_cons, Int.toNat_natCast, h]
def atT (T : Tm → Bool) (t : Tm) (p : List Int) : Bool := match t.atP p with
 | some x => T x
 | none => false
mutual
def Tm.findP (T : Tm → Bool) : Tm → Option (List Int)
 | .mk n xs => if T (.mk n xs) = true then some [] else Tm.findPL T 0 xs
def Tm.findPL (T : Tm → Bool) : Nat → List Tm → Option (List Int)
 | _, [] => none
 | k, x :: xs => match x.findP T with
  | some p => some ((k : Int) :: p)
  | none => Tm.findPL T (k + 1) xs
end
mutual
theorem Tm.places_find (T : Tm → Bool) : ∀ t : Tm, t.places.find? (atT T t) = t.findP T
 | .mk n xs => by
  rw [Tm.places, Tm.findP, List.find?_cons]
  by_cases h : T (.mk n xs) = true
  ·rw [show atT T (.mk n xs) [] = true from h, if_pos h]
  ·rw [show atT T (.mk n xs) [] = false by
    rw [← Bool.not_eq_true]
    exact h, if_neg h]
   exact Tm.placesFrom_find T n xs 0 xs (by simp)
theorem Tm.placesFrom_find (T : Tm → Bool) (n : ByteArray) (all : List Tm) : ∀ (k : Nat) (xs : List Tm), all.drop k = xs → (Tm.placesFrom k xs).find? (atT T (.mk n all)) = Tm.findPL T k xs
 | _, [], _ => rfl
 | k, x :: xs, h => by
  have hk : all[k]? = some x := by
   have := congrArg (fun l => l[0]?) h
   simpa using this
  rw [Tm.placesFrom, Tm.findPL, List.find?_append, List.find?_map]
  have e : (atT T (.mk n all) ∘ fun p => (k : Int) :: p) = atT T x := by
   funext p
   show atT T (.mk n all) ((k : Int) :: p) = atT T x p
   unfold atT
   rw [Tm.atP_at (t := .mk n all) hk]
  rw [e, Tm.places_find T x, Tm.placesFrom_find T n all (k + 1) xs (by rw [← List.tail_drop, h]; rfl)]
  cases x.findP T <;> rfl
end
mutual
theorem Tm.findP_at (T : Tm → Bool) : ∀ (t : Tm) (p : List Int), t.findP T = some p → ∃ x, t.atP p = some x ∧ T x = true ∧ x ∈ t.knots
 | .mk n xs, p, h => by
  rw [Tm.findP] at h
  split at h
  ·rename_i ht
   cases h
   exact ⟨_, rfl, ht, by rw [Tm.knots]; exact List.mem_cons_self⟩
  ·obtain ⟨x, h1, h2, h3⟩ := Tm.findPL_at T n xs 0 xs p (by simp) h
   exact ⟨x, h1, h2, by rw [Tm.knots]; exact List.mem_cons_of_mem _ h3⟩
theorem Tm.findPL_at (T : Tm → Bool) (n : ByteArray) (all : List Tm) : ∀ (k : Nat) (xs : List Tm) (p : List Int), all.drop k = xs → Tm.findPL T k xs = some p → ∃ x, (Tm.mk n all).atP p = some x ∧ T x = true ∧ x ∈ Tm.knotsL xs
 | _, [], p, _, h => by cases h
 | k, x :: xs, p, h, hf => by
  have hk : all[k]? = some x := by
   have := congrArg (fun l => l[0]?) h
   simpa using this
  rw [Tm.findPL] at hf
  split at hf
  ·rename_i q hq
   cases hf
   obtain ⟨y, h1, h2, h3⟩ := Tm.findP_at T x q hq
   exact ⟨y, by rw [Tm.atP_at (t := .mk n all) hk]; exact h1, h2, by rw [Tm.knotsL]; exact List.mem_append_left _ h3⟩
  ·obtain ⟨y, h1, h2, h3⟩ := Tm.findPL_at T n all (k + 1) xs p (by rw [← List.tail_drop, h]; rfl) hf
   exact ⟨y, h1, h2, by rw [Tm.knotsL]; exact List.mem_append_right _ h3⟩
end
def fitR (R : List Pr) (t : Tm) : Bool := R.any fun r => isCase r.1 t
def rootFrom (R : List Pr) (t : Tm) : List Pr → Option (Tm × Int)
 | [] => none
 | r :: l => if isCase r.1 t = true then (if (onTo (caseOf r.1 t) r.2).2 = true then some ((onTo (caseOf r.1 t) r.2).1, 0) else some (Tm.nil, 8)) else rootFrom R t l
def rootS (R : List Pr) (t : Tm) : Option (Tm × Int) := rootFrom R t R
theorem rootFrom_none (R : List Pr) (t : Tm) : ∀ l : List Pr, rootFrom R t l = none ↔ l.any (fun r => isCase r.1 t) = false
 | [] => by simp [rootFrom]
 | r :: l => by
  rw [rootFrom, List.any_cons, Bool.or_eq_false_iff, ← rootFrom_none R t l]
  by_cases h : isCase r.1 t = true
  ·rw [if_pos h, h]
   split <;> simp
  ·rw [if_neg h]
   simp only [Bool.not_eq_true] at h
   simp [h]
theorem rootS_none {R : List Pr} {t : Tm} : rootS R t = none ↔ fitR R t = false := rootFrom_none R t R
theorem rootS_err {R : List Pr} {t x : Tm} {e : Int} : ∀ {l : List Pr}, rootFrom R t l = some (x, e) → (e = 0 ∨ e = 8) ∧ x.size ≤ 2000 ∧ (e = 8 → x = Tm.nil)
 | [], h => by cases h
 | r :: l, h => by
  rw [rootFrom] at h
  split at h
  ·split at h
   ·cases h
    refine ⟨.inl rfl, ?_, by simp⟩
    unfold onTo
    split
    ·assumption
    ·decide
   ·cases h
    exact ⟨.inr rfl, by decide, fun _ => rfl⟩
  ·exact rootS_err h
mutual
def Tm.inn (R : List Pr) : Tm → Option (Tm × Int)
 | .mk n xs => match Tm.innL R xs with
  | some (ys, e) => some (.mk n ys, e)
  | none => rootS R (.mk n xs)
def Tm.innL (R : List Pr) : List Tm → Option (List Tm × Int)
 | [] => none
 | x :: xs => match Tm.inn R x with
  | some (y, e) => some (y :: xs, e)
  | none => match Tm.innL R xs with
   | some (ys, e) => some (x :: ys, e)
   | none => none
end
mutual
def Tm.out (R : List Pr) : Tm → Option (Tm × Int)
 | .mk n xs => match rootS R (.mk n xs) with
  | some r => some r
  | none => match Tm.outL R xs with
   | some (ys, e) => some (.mk n ys, e)
   | none => none
def Tm.outL (R : List Pr) : List Tm → Option (List Tm × Int)
 | [] => none
 | x :: xs => match Tm.out R x with
  | some (y, e) => some (y :: xs, e)
  | none => match Tm.outL R xs with
   | some (ys, e) => some (x :: ys, e)
   | none => none
end
theorem Tm.inn_eq (R : List Pr) (t : Tm) : t.inn R = match Tm.innL R t.args with
  | some (ys, e) => some (.mk t.name ys, e)
  | none => rootS R t := by cases t; rfl
def redL (R : List Pr) (xs : List Tm) : Bool := (Tm.knotsL xs).any (fitR R)
def redI (R : List Pr) (x : Tm) : Bool := fitR R x && !redL R x.args
mutual
theorem Tm.inn_none (R : List Pr) : ∀ t : Tm, t.inn R = none ↔ t.knots.any (fitR R) = false
 | .mk n xs => by
  rw [Tm.inn, Tm.knots, List.any_cons, Bool.or_eq_false_iff, ← Tm.innL_none R xs]
  cases Tm.innL R xs with
  | none => simp [rootS_none]
  | some r => simp
theorem Tm.innL_none (R : List Pr) : ∀ xs : List Tm, Tm.innL R xs = none ↔ (Tm.knotsL xs).any (fitR R) = false
 | [] => by simp [Tm.innL, Tm.knotsL]
 | x :: xs => by
  rw [Tm.innL, Tm.knotsL, List.any_append, Bool.or_eq_false_iff, ← Tm.innL_none R xs, ← Tm.inn_none R x]
  cases Tm.inn R x with
  | some r => simp
  | none => cases Tm.innL R xs <;> simp
end
def stepAt (R : List Pr) (t : Tm) : Option (List Int) → Option (Tm × Int)
 | none => none
 | some p => match t.atP p with
  | none => none
  | some x => (rootS R x).map fun r => (t.putP p r.1, r.2)
mutual
theorem Tm.inn_find (R : List Pr) : ∀ t : Tm, t.inn R = stepAt R t (t.findP (redI R))
 | .mk n xs => by
  rw [Tm.inn, Tm.findP]
  by_cases h : redI R (.mk n xs) = true
  ·rw [if_pos h]
   unfold redI at h
   rw [Bool.and_eq_true, Bool.not_eq_true'] at h
   rw [(Tm.innL_none R xs).2 h.2]
   simp only [stepAt, Tm.atP]
   cases rootS R (.mk n xs) <;> simp [Tm.putP]
  ·rw [if_neg h]
   have key := Tm.innL_find R n xs 0 xs (by simp)
   cases hi : Tm.innL R xs with
   | some r =>
    rw [← key, hi]
    simp
   | none =>
    rw [hi] at key
    rw [← key]
    have h1 := (Tm.innL_none R xs).1 hi
    show rootS R (.mk n xs) = none
    rw [rootS_none, ← Bool.not_eq_true]
    intro hf
    exact h (by unfold redI; rw [hf, show redL R (Tm.mk n xs).args = false from h1]; rfl)
theorem Tm.innL_find (R : List Pr) (n : ByteArray) (all : List Tm) : ∀ (k : Nat) (xs : List Tm), all.drop k = xs → (match Tm.innL R xs with
   | some r => some (Tm.mk n (all.take k ++ r.1), r.2)
   | none => none) = stepAt R (.mk n all) (Tm.findPL (redI R) k xs)
 | _, [], _ => rfl
 | k, x :: xs, h => by
  have hk : all[k]? = some x := by
   have := congrArg (fun l => l[0]?) h
   simpa using this
  have hlt : k < all.length := (List.getElem?_eq_some_iff.1 hk).1
  have hd : all.drop (k + 1) = xs := by rw [← List.tail_drop, h]; rfl
  rw [Tm.innL, Tm.findPL, Tm.inn_find R x]
  cases hp : x.findP (redI R) with
  | some p =>
   simp only [stepAt]
   rw [Tm.atP_at (t := .mk n all) hk]
   cases hx : x.atP p with
   | none =>
    obtain ⟨y, hy, _⟩ := Tm.findP_at _ x p hp
    rw [hx] at hy
    cases hy
   | some y =>
    cases hr : rootS R y with
    | none =>
     obtain ⟨y', hy, h1, _⟩ := Tm.findP_at _ x p hp
     rw [hx] at hy
     cases hy
     unfold redI at h1
     rw [Bool.and_eq_true] at h1
     rw [rootS_none.1 hr] at h1
     exact absurd h1.1 (by simp)
    | some r =>
     simp only [Option.map_some, hr]
     rw [Tm.putP_at (t := .mk n all) hk]
     simp only [Tm.name_mk, Tm.args_mk]
     rw [List.set_eq_take_append_cons_drop, if_pos hlt, hd]
  | none =>
   have key := Tm.innL_find R n all (k + 1) xs hd
   simp only [stepAt] at key ⊢
   rw [← key]
   cases Tm.innL R xs with
   | none => rfl
   | some r =>
    simp only
    rw [List.take_add_one, hk]
    simp
end
mutual
theorem Tm.out_find (R : List Pr) : ∀ t : Tm, t.out R = stepAt R t (t.findP (fitR R))
 | .mk n xs => by
  rw [Tm.out, Tm.findP]
  by_cases h : fitR R (.mk n xs) = true
  ·rw [if_pos h]
   simp only [stepAt, Tm.atP]
   cases hr : rootS R (.mk n xs) with
   | none =>
    rw [rootS_none.1 hr] at h
    cases h
   | some r => simp [Tm.putP]
  ·rw [if_neg h, ← Tm.outL_find R n xs 0 xs (by simp), rootS_none.2 (by simpa using h)]
   cases Tm.outL R xs <;> simp
theorem Tm.outL_find (R : List Pr) (n : ByteArray) (all : List Tm) : ∀ (k : Nat) (xs : List Tm), all.drop k = xs → (match Tm.outL R xs with
   | some r => some (Tm.mk n (all.take k ++ r.1), r.2)
   | none => none) = stepAt R (.mk n all) (Tm.findPL (fitR R) k xs)
 | _, [], _ => rfl
 | k, x :: xs, h => by
  have hk : all[k]? = some x := by
   have := congrArg (fun l => l[0]?) h
   simpa using this
  have hlt : k < all.length := (List.getElem?_eq_some_iff.1 hk).1
  have hd : all.drop (k + 1) = xs := by rw [← List.tail_drop, h]; rfl
  rw [Tm.outL, Tm.findPL, Tm.out_find R x]
  cases hp : x.findP (fitR R) with
  | some p =>
   simp only [stepAt]
   rw [Tm.atP_at (t := .mk n all) hk]
   cases hx : x.atP p with
   | none =>
    obtain ⟨y, hy, _⟩ := Tm.findP_at _ x p hp
    rw [hx] at hy
    cases hy
   | some y =>
    cases hr : rootS R y with
    | none =>
     obtain ⟨y', hy, h1, _⟩ := Tm.findP_at _ x p hp
     rw [hx] at hy
     cases hy
     rw [rootS_none.1 hr] at h1
     cases h1
    | some r =>
     simp only [Option.map_some, hr]
     rw [Tm.putP_at (t := .mk n all) hk]
     simp only [Tm.name_mk, Tm.args_mk]
     rw [List.set_eq_take_append_cons_drop, if_pos hlt, hd]
  | none =>
   have key := Tm.outL_find R n all (k + 1) xs hd
   simp only [stepAt] at key ⊢
   rw [← key]
   cases Tm.outL R xs with
   | none => rfl
   | some r =>
    simp only
    rw [List.take_add_one, hk]
    simp
end
def endR (step : Tm → Option (Tm × Int)) : Nat → Int → Tm → Tm × Int × Int
 | 0, n, t => match step t with
  | none => (t, n, 0)
  | some _ => (Tm.nil, 0, 9)
 | k + 1, n, t => match step t with
  | none => (t, n, 0)
  | some (x, e) => if e ≠ 0 then (Tm.nil, 0, e) else if 2000 < x.size then (Tm.nil, 0, 8) else endR step k (n + 1) x

def MtExt (l m : List Bd) : Prop := ∀ n x, lookup l n = some x → lookup m n = some x
theorem MtExt.trans {a b c : List Bd} (h : MtExt a b) (k : MtExt b c) : MtExt a c := fun n x e => k n x (h n x e)
def GoodB (b : Bd) : Prop := isVar b.1 = true ∧ nameOk b.1 = true ∧ b.2.chk = 0
theorem nameOk_of {t : Tm} (h : t.chk = 0) : nameOk t.name = true := by
 have := chk_parts h
 unfold chkOne at this
 split at this
 ·assumption
 ·cases this
mutual
theorem mt_good : ∀ (p : Tm), p.chk = 0 → ∀ (t : Tm), t.chk = 0 → ∀ (l : List Bd), (∀ b ∈ l, GoodB b) → ∀ b ∈ (p.mt t l).1, GoodB b
 | .mk n xs, hc, t, ht, l, hl => by
  obtain ⟨c1, c2⟩ := Tm.chk_args hc
  simp only [Tm.name_mk, Tm.args_mk] at c1 c2
  rw [Tm.mt]
  split
  ·rename_i hv
   split
   ·exact hl
   ·intro b hb
    rcases List.mem_append.1 hb with hb | hb
    ·exact hl b hb
    ·rw [List.mem_singleton] at hb
     subst hb
     exact ⟨hv, nameOk_of hc, ht⟩
  ·split
   ·exact mtL_good xs c2 t.args (Tm.chk_args ht).2 l hl
   ·exact hl
theorem mtL_good : ∀ (xs : List Tm), (∀ x ∈ xs, x.chk = 0) → ∀ (ys : List Tm), (∀ y ∈ ys, y.chk = 0) → ∀ (l : List Bd), (∀ b ∈ l, GoodB b) → ∀ b ∈ (Tm.mtL xs ys l).1, GoodB b
 | [], _, ys, _, l, hl => by rw [Tm.mtL_nil]; exact hl
 | x :: xs, _, [], _, l, hl => by rw [Tm.mtL]; exact hl; simp
 | x :: xs, hc, y :: ys, hy, l, hl => by
  rw [Tm.mtL]
  have h1 := mt_good x (hc x (by simp)) y (hy y (by simp)) l hl
  split
  ·exact mtL_good xs (fun a ha => hc a (by simp [ha])) ys (fun a ha => hy a (by simp [ha])) _ h1
  ·exact h1
end
section
variable {p t : Tm}
theorem case_ok (hp : p.chk = 0) (ht : t.chk = 0) : OkB (caseOf p t) := by
 unfold caseOf
 have hg := mt_good p hp t ht [] (by simp)
 split
 ·exact ⟨sortB_ordered (mt_named p t), fun b hb => (hg b (sortB_mem.1 hb)).1, fun b hb => (hg b (sortB_mem.1 hb)).2.1, fun b hb => (hg b (sortB_mem.1 hb)).2.2⟩
 ·exact ⟨List.Pairwise.nil, by simp, by simp, by simp⟩
theorem case_len_le : (caseOf p t).length ≤ p.size := by
 unfold caseOf
 split
 ·rw [sortB_length]; exact mt_len p t
 ·simp
end

def errL {α : Type} (f : α → Int) : List α → Int
 | [] => 0
 | x :: xs => if f x = 0 then errL f xs else f x
theorem errL_append {α : Type} (f : α → Int) : ∀ xs ys : List α, errL f (xs ++ ys) = if errL f xs = 0 then errL f ys else errL f xs
 | [], ys => rfl
 | x :: xs, ys => by
  by_cases h : f x = 0
  ·have e1 : errL f (x :: (xs ++ ys)) = errL f (xs ++ ys) := if_pos h
   have e2 : errL f (x :: xs) = errL f xs := if_pos h
   rw [List.cons_append, e1, e2, errL_append f xs ys]
  ·have e1 : errL f (x :: (xs ++ ys)) = f x := if_neg h
   have e2 : errL f (x :: xs) = f x := if_neg h
   rw [List.cons_append, e1, e2, if_neg h]
theorem errL_get {α : Type} {f : α → Int} {xs : List α} {k : Nat} {a : α} (h : xs[k]? = some a) (h0 : errL f (xs.take k) = 0) : (f a = 0 → errL f (xs.take (k + 1)) = 0) ∧ (f a ≠ 0 → errL f xs = f a) := by
 refine ⟨fun ha => ?_, fun ha => ?_⟩
 ·rw [take_snoc h, errL_append, if_pos h0]
  simp [errL, ha]
 ·have e : xs = xs.take k ++ a :: xs.drop (k + 1) := by
   rw [← drop_get h, List.take_append_drop]
  rw [e, errL_append, if_pos h0]
  simp [errL, ha]
theorem errL_zero {α : Type} {f : α → Int} : ∀ {xs : List α}, errL f xs = 0 → ∀ x ∈ xs, f x = 0
 | [], _, x, h => by cases h
 | y :: ys, h0, x, hx => by
  rw [errL] at h0
  by_cases hy : f y = 0
  ·rw [if_pos hy] at h0
   rcases List.mem_cons.1 hx with rfl | hx
   ·exact hy
   ·exact errL_zero h0 x hx
  ·rw [if_neg hy] at h0
   exact absurd h0 hy
def openR (r : Pr) : Bool := r.2.varsOf.any fun v => !isIn v r.1.varsOf
def ruleErr (r : Pr) : Int := if twoMay r.1 r.2 = 0 then (if isVar r.1.name = true then 2 else if openR r = true then 15 else 0) else twoMay r.1 r.2
def rulesMay (R : List Pr) : Int := if 40 < R.length then 3 else errL ruleErr R
structure GoodRules (R : List Pr) : Prop where
 len : R.length ≤ 40
 left : ∀ r ∈ R, r.1.may = 0
 right : ∀ r ∈ R, r.2.may = 0
 head : ∀ r ∈ R, isVar r.1.name = false
 vars : ∀ r ∈ R, ∀ v ∈ r.2.varsOf, v ∈ r.1.varsOf
theorem ruleErr_zero {r : Pr} (h : ruleErr r = 0) : r.1.may = 0 ∧ r.2.may = 0 ∧ isVar r.1.name = false ∧ openR r = false := by
 unfold ruleErr at h
 by_cases h1 : twoMay r.1 r.2 = 0
 ·rw [if_pos h1] at h
  by_cases h2 : isVar r.1.name = true
  ·rw [if_pos h2] at h; cases h
  ·rw [if_neg h2] at h
   by_cases h3 : openR r = true
   ·rw [if_pos h3] at h; cases h
   ·unfold twoMay at h1
    by_cases h4 : r.1.may = 0
    ·rw [if_pos h4] at h1
     exact ⟨h4, h1, by simpa using h2, by simpa using h3⟩
    ·rw [if_neg h4] at h1
     exact absurd h1 h4
 ·rw [if_neg h1] at h
  exact absurd h h1
theorem goodRules {R : List Pr} (h : rulesMay R = 0) : GoodRules R := by
 unfold rulesMay at h
 by_cases h0 : 40 < R.length
 ·rw [if_pos h0] at h; cases h
 ·rw [if_neg h0] at h
  have key := fun r hr => ruleErr_zero (errL_zero h r hr)
  refine ⟨by omega, fun r hr => (key r hr).1, fun r hr => (key r hr).2.1, fun r hr => (key r hr).2.2.1, fun r hr v hv => ?_⟩
  have := (key r hr).2.2.2
  unfold openR at this
  rw [List.any_eq_false] at this
  have := this v hv
  simp only [Bool.not_eq_true', Bool.not_eq_false] at this
  exact isIn_iff.1 this
def rootK (t : Tm) : Nat → List Pr → Tm × Int × Int
 | _, [] => (Tm.nil, -1, 0)
 | k, r :: l => if isCase r.1 t = true then ((onTo (caseOf r.1 t) r.2).1, (k : Int), if (onTo (caseOf r.1 t) r.2).2 = true then 0 else 8) else rootK t (k + 1) l
theorem onTo_no {s : List Bd} {t : Tm} (h : ¬ (onTo s t).2 = true) : (onTo s t).1 = Tm.nil := by
 unfold onTo at *
 split
 ·rename_i h1
  rw [if_pos h1] at h
  exact absurd rfl h
 ·rfl
theorem rootK_eq (R : List Pr) (t : Tm) : ∀ (l : List Pr) (k : Nat), match rootFrom R t l with
  | none => rootK t k l = (Tm.nil, -1, 0)
  | some (x, e) => ∃ i : Nat, rootK t k l = (x, (i : Int), e)
 | [], k => rfl
 | r :: l, k => by
  rw [rootFrom, rootK]
  by_cases h : isCase r.1 t = true
  ·rw [if_pos h, if_pos h]
   by_cases h2 : (onTo (caseOf r.1 t) r.2).2 = true
   ·rw [if_pos h2, if_pos h2]
    exact ⟨k, rfl⟩
   ·rw [if_neg h2, if_neg h2]
    exact ⟨k, by rw [onTo_no h2]⟩
  ·rw [if_neg h, if_neg h]
   exact rootK_eq R t l (k + 1)
theorem innL_at {R : List Pr} : ∀ {xs : List Tm} {k : Nat} {a y : Tm} {e : Int}, xs[k]? = some a → (∀ b ∈ xs.take k, b.inn R = none) → a.inn R = some (y, e) → Tm.innL R xs = some (xs.set k y, e)
 | [], k, a, y, e, h, _, _ => by simp at h
 | x :: xs, 0, a, y, e, h, _, hy => by
  simp at h
  subst h
  rw [Tm.innL, hy]
  rfl
 | x :: xs, k + 1, a, y, e, h, hn, hy => by
  rw [Tm.innL, hn x (by simp), innL_at (xs := xs) (k := k) (by simpa using h) (fun b hb => hn b (by rw [List.take_succ_cons]; exact List.mem_cons_of_mem _ hb)) hy]
  rfl
theorem innL_all {R : List Pr} : ∀ {xs : List Tm}, (∀ b ∈ xs, b.inn R = none) → Tm.innL R xs = none
 | [], _ => rfl
 | x :: xs, h => by rw [Tm.innL, h x (by simp), innL_all (fun b hb => h b (List.mem_cons_of_mem _ hb))]
theorem rootS_chk {R : List Pr} (hR : GoodRules R) {t x : Tm} {e : Int} (ht : t.chk = 0) : ∀ {l : List Pr}, (∀ r ∈ l, r ∈ R) → rootFrom R t l = some (x, e) → x.chk = 0 ∨ e = 8
 | [], _, h => by cases h
 | r :: l, hl, h => by
  rw [rootFrom] at h
  have hr := hl r (by simp)
  split at h
  ·rename_i hc
   split at h
   ·rename_i h2
    cases h
    left
    have e1 : (onTo (caseOf r.1 t) r.2).1 = r.2.on (caseOf r.1 t) := by
     unfold onTo at h2 ⊢
     split
     ·rfl
     ·rename_i h3
      rw [if_neg h3] at h2
      cases h2
    rw [e1]
    exact chk_sub (case_ok (Tm.may_chk (hR.left r hr)).1 ht).chk (Tm.may_chk (hR.right r hr)).1
   ·cases h
    exact .inr rfl
  ·exact rootS_chk hR ht (fun r hr => hl r (List.mem_cons_of_mem _ hr)) h
theorem chk_set {n : ByteArray} {xs : List Tm} {k : Nat} {y : Tm} (h : (Tm.mk n xs).chk = 0) (hk : k < xs.length) (hy : y.chk = 0) : (Tm.mk n (xs.set k y)).chk = 0 := by
 refine chk_make h (by simp) fun z hz => ?_
 rcases List.mem_or_eq_of_mem_set hz with hz | rfl
 ·exact (Tm.chk_args h).2 z hz
 ·exact hy
theorem sizes_set : ∀ {xs : List Tm} {k : Nat} {a : Tm} (y : Tm), xs[k]? = some a → Tm.sizes (xs.set k y) + a.size = Tm.sizes xs + y.size
 | [], k, a, y, h => by simp at h
 | x :: xs, 0, a, y, h => by
  simp at h
  subst h
  simp only [List.set_cons_zero, Tm.sizes]
  omega
 | x :: xs, k + 1, a, y, h => by
  have := sizes_set (xs := xs) (k := k) y (by simpa using h)
  simp only [List.set_cons_succ, Tm.sizes]
  omega
mutual
theorem inn_good {R : List Pr} (hR : GoodRules R) : ∀ {t x : Tm} {e : Int}, t.chk = 0 → t.inn R = some (x, e) → (e = 0 ∨ e = 8) ∧ (e = 0 → x.chk = 0) ∧ x.size ≤ t.size + 2000
 | .mk n xs, x, e, hc, h => by
  rw [Tm.inn] at h
  split at h
  ·rename_i ys e' hy
   cases h
   obtain ⟨k, a, y, h1, h2, h3, h4, h5, h6⟩ := innL_good (xs := xs) hR (fun b hb => (Tm.chk_args hc).2 b hb) hy
   subst h2
   have h7 := sizes_set y h1
   have hk := lt_of_get h1
   refine ⟨h4, fun he => chk_set hc hk (h5 he), ?_⟩
   have z1 : (Tm.mk n (xs.set k y)).size = 1 + Tm.sizes (xs.set k y) := rfl
   have z2 : (Tm.mk n xs).size = 1 + Tm.sizes xs := rfl
   omega
  ·obtain ⟨h1, h2, h3⟩ := rootS_err h
   refine ⟨h1, fun he => (rootS_chk hR hc (fun r hr => hr) h).resolve_right (by omega), by omega⟩
theorem innL_good {R : List Pr} (hR : GoodRules R) : ∀ {xs ys : List Tm} {e : Int}, (∀ b ∈ xs, b.chk = 0) → Tm.innL R xs = some (ys, e) → ∃ k a y, xs[k]? = some a ∧ ys = xs.set k y ∧ a.inn R = some (y, e) ∧ (e = 0 ∨ e = 8) ∧ (e = 0 → y.chk = 0) ∧ y.size ≤ a.size + 2000
 | [], ys, e, _, h => by cases h
 | x :: xs, ys, e, hc, h => by
  rw [Tm.innL] at h
  split at h
  ·rename_i y e' hy
   cases h
   obtain ⟨q1, q2, q3⟩ := inn_good hR (hc x (by simp)) hy
   exact ⟨0, x, y, rfl, rfl, hy, q1, q2, q3⟩
  ·split at h
   ·rename_i ys' e' hy
    cases h
    obtain ⟨k, a, y, h1, h2, h3, h4⟩ := innL_good hR (fun b hb => hc b (List.mem_cons_of_mem _ hb)) hy
    exact ⟨k + 1, a, y, by simpa using h1, by rw [h2]; rfl, h3, h4⟩
   ·cases h
end
mutual
theorem out_good {R : List Pr} (hR : GoodRules R) : ∀ {t x : Tm} {e : Int}, t.chk = 0 → t.out R = some (x, e) → (e = 0 ∨ e = 8) ∧ (e = 0 → x.chk = 0) ∧ x.size ≤ t.size + 2000
 | .mk n xs, x, e, hc, h => by
  rw [Tm.out] at h
  split at h
  ·rename_i r hr
   obtain ⟨x', e'⟩ := r
   cases h
   obtain ⟨h1, h2, h3⟩ := rootS_err hr
   refine ⟨h1, fun he => (rootS_chk hR hc (fun r hr => hr) hr).resolve_right (by omega), by omega⟩
  ·split at h
   ·rename_i ys e' hy
    cases h
    obtain ⟨k, a, y, h1, h2, h3, h4, h5, h6⟩ := outL_good (xs := xs) hR (fun b hb => (Tm.chk_args hc).2 b hb) hy
    subst h2
    have h7 := sizes_set y h1
    have hk := lt_of_get h1
    refine ⟨h4, fun he => chk_set hc hk (h5 he), ?_⟩
    have z1 : (Tm.mk n (xs.set k y)).size = 1 + Tm.sizes (xs.set k y) := rfl
    have z2 : (Tm.mk n xs).size = 1 + Tm.sizes xs := rfl
    omega
   ·cases h
theorem outL_good {R : List Pr} (hR : GoodRules R) : ∀ {xs ys : List Tm} {e : Int}, (∀ b ∈ xs, b.chk = 0) → Tm.outL R xs = some (ys, e) → ∃ k a y, xs[k]? = some a ∧ ys = xs.set k y ∧ a.out R = some (y, e) ∧ (e = 0 ∨ e = 8) ∧ (e = 0 → y.chk = 0) ∧ y.size ≤ a.size + 2000
 | [], ys, e, _, h => by cases h
 | x :: xs, ys, e, hc, h => by
  rw [Tm.outL] at h
  split at h
  ·rename_i y e' hy
   cases h
   obtain ⟨q1, q2, q3⟩ := out_good hR (hc x (by simp)) hy
   exact ⟨0, x, y, rfl, rfl, hy, q1, q2, q3⟩
  ·split at h
   ·rename_i ys' e' hy
    cases h
    obtain ⟨k, a, y, h1, h2, h3, h4⟩ := outL_good hR (fun b hb => hc b (List.mem_cons_of_mem _ hb)) hy
    exact ⟨k + 1, a, y, by simpa using h1, by rw [h2]; rfl, h3, h4⟩
   ·cases h
end

mutual
theorem places_at : ∀ (t : Tm) (p : List Int), p ∈ t.places → ∃ x, t.atP p = some x ∧ x ∈ t.knots
 | .mk n xs, p, h => by
  rw [Tm.places] at h
  rcases List.mem_cons.1 h with rfl | h
  ·exact ⟨_, rfl, by rw [Tm.knots]; exact List.mem_cons_self⟩
  ·obtain ⟨x, h1, h2⟩ := placesFrom_at n xs 0 xs p (by simp) h
   exact ⟨x, h1, by rw [Tm.knots]; exact List.mem_cons_of_mem _ h2⟩
theorem placesFrom_at (n : ByteArray) (all : List Tm) : ∀ (k : Nat) (xs : List Tm) (p : List Int), all.drop k = xs → p ∈ Tm.placesFrom k xs → ∃ x, (Tm.mk n all).atP p = some x ∧ x ∈ Tm.knotsL xs
 | _, [], p, _, h => by simp [Tm.placesFrom] at h
 | k, x :: xs, p, hd, h => by
  have hk : all[k]? = some x := by
   have := congrArg (fun l => l[0]?) hd
   simpa using this
  rw [Tm.placesFrom] at h
  rcases List.mem_append.1 h with h | h
  ·obtain ⟨q, hq, rfl⟩ := List.mem_map.1 h
   obtain ⟨y, h1, h2⟩ := places_at x q hq
   exact ⟨y, by rw [Tm.atP_at (t := .mk n all) hk]; exact h1, by rw [Tm.knotsL]; exact List.mem_append_left _ h2⟩
  ·obtain ⟨y, h1, h2⟩ := placesFrom_at n all (k + 1) xs p (by rw [← List.tail_drop, hd]; rfl) h
   exact ⟨y, h1, by rw [Tm.knotsL]; exact List.mem_append_right _ h2⟩
end
mutual
theorem knot_chk : ∀ (t x : Tm), t.chk = 0 → x ∈ t.knots → x.chk = 0
 | .mk n xs, x, hc, h => by
  rw [Tm.knots] at h
  rcases List.mem_cons.1 h with rfl | h
  ·exact hc
  ·exact knotL_chk xs x (fun b hb => (Tm.chk_args hc).2 b hb) h
theorem knotL_chk : ∀ (xs : List Tm) (x : Tm), (∀ b ∈ xs, b.chk = 0) → x ∈ Tm.knotsL xs → x.chk = 0
 | [], x, _, h => by simp [Tm.knotsL] at h
 | y :: ys, x, hc, h => by
  rw [Tm.knotsL] at h
  rcases List.mem_append.1 h with h | h
  ·exact knot_chk y x (hc y (by simp)) h
  ·exact knotL_chk ys x (fun b hb => hc b (List.mem_cons_of_mem _ hb)) h
end
mutual
theorem knot_size : ∀ (t x : Tm), x ∈ t.knots → x.size ≤ t.size
 | .mk n xs, x, h => by
  rw [Tm.knots] at h
  rcases List.mem_cons.1 h with rfl | h
  ·exact Nat.le_refl _
  ·have := knotL_size xs x h
   simp only [Tm.size]
   omega
theorem knotL_size : ∀ (xs : List Tm) (x : Tm), x ∈ Tm.knotsL xs → x.size ≤ Tm.sizes xs
 | [], x, h => by simp [Tm.knotsL] at h
 | y :: ys, x, h => by
  rw [Tm.knotsL] at h
  simp only [Tm.sizes]
  rcases List.mem_append.1 h with h | h
  ·have := knot_size y x h; omega
  ·have := knotL_size ys x h; omega
end
def stepB (inner : Bool) (R : List Pr) (t : Tm) : Option (Tm × Int) := if inner = true then t.inn R else t.out R
def testB (inner : Bool) (R : List Pr) : Tm → Bool := if inner = true then redI R else fitR R
theorem stepB_find (inner : Bool) (R : List Pr) (t : Tm) : stepB inner R t = stepAt R t (t.findP (testB inner R)) := by
 cases inner with
 | true => exact Tm.inn_find R t
 | false => exact Tm.out_find R t
theorem stepB_good {inner : Bool} {R : List Pr} (hR : GoodRules R) {t x : Tm} {e : Int} (hc : t.chk = 0) (h : stepB inner R t = some (x, e)) : (e = 0 ∨ e = 8) ∧ (e = 0 → x.chk = 0) ∧ x.size ≤ t.size + 2000 := by
 cases inner with
 | true => exact inn_good hR hc h
 | false => exact out_good hR hc h
theorem testB_fit {inner : Bool} {R : List Pr} {x : Tm} (h : testB inner R x = true) : fitR R x = true := by
 cases inner with
 | true =>
  unfold testB redI at h
  simp only [if_true, Bool.and_eq_true] at h
  exact h.1
 | false => exact h
def metOf (R : List Pr) (most : Nat) (a b : Tm) : Bool × Int :=
 let x := endR (Tm.inn R) most 0 a
 let y := endR (Tm.inn R) most 0 b
 if x.2.2 ≠ 0 then (false, x.2.2) else if y.2.2 ≠ 0 then (false, y.2.2) else (x.1.beq y.1, 0)

theorem onTo_size {s : List Bd} {t : Tm} : (onTo s t).1.size ≤ 2000 := by
 unfold onTo
 split
 ·assumption
 ·decide
theorem putP_size : ∀ (p : List Int) (t y : Tm), (t.putP p y).size ≤ t.size + y.size
 | [], t, y => by rw [Tm.putP_nil]; omega
 | i :: p, t, y => by
  rw [Tm.putP_cons]
  split
  ·rename_i a ha
   have h1 := sizes_set (a.putP p y) ha
   have h2 := putP_size p a y
   have h3 := Tm.size_eq t
   simp only [Tm.size]
   omega
  ·omega

theorem purgeS {ds : List Nat} (hds : ∀ d ∈ ds, d < 1000) {x : Option ABlk} (hb : ∀ b, x = some b → b.high = true) : x.map (ABlk.purge ds) = x := by
 cases h : x with
 | none => rfl
 | some b => rw [Option.map_some, ABlk.purge_high hds (hb b h)]
theorem lowS_is {S S1 : AStore} {a0 : Nat} {b : ABlk} (hS : Clean S) (ha : 1000 ≤ a0) (h1 : S1 a0 = some b) (h2 : ∀ i, 1000 ≤ i → i ≠ a0 → S1 i = S i) : lowS S1 = updE S a0 (some b) := by
 funext i
 show (if i < 1000 then none else S1 i) = _
 by_cases e : i = a0
 ·subst e
  rw [if_neg (by omega), updE_same, h1]
 ·rw [updE_ne _ e]
  by_cases hi : i < 1000
  ·rw [if_pos hi, clean_none hS hi]
  ·rw [if_neg hi, h2 i (by omega) e]
theorem highs_is {S S1 : AStore} {a0 : Nat} {b : ABlk} (hS : Clean S) (hb : b.high = true) (h1 : S1 a0 = some b) (h2 : ∀ i, 1000 ≤ i → i ≠ a0 → S1 i = S i) : ∀ i c, 1000 ≤ i → S1 i = some c → c.high = true := fun i c hi hc => by
 by_cases e : i = a0
 ·subst e
  rw [h1] at hc
  cases hc
  exact hb
 ·rw [h2 i hi e] at hc
  exact (hS i c hc).2
theorem finS_one {C : Ctx} {rs : List RV} {r : AV} {e : AX} {s : AS} {S : AStore} {a0 : Nat} {b : ABlk} (r0 : AV) (hS : Clean S) (ha : 1000 ≤ a0) (hb : b.high = true) (he : match e with | .normal => True | .ret => True | _ => False)
  (h1 : (resAll s rs).map tupV = some r0) (h2 : outV s.S r0 = some r) (h3 : s.S a0 = some b) (h4 : ∀ i, 1000 ≤ i → i ≠ a0 → s.S i = S i) : FinS C rs r (updE S a0 (some b)) e s :=
 finS_low he r0 h1 h2 (highs_is hS hb h3 h4) (lowS_is hS ha h3 h4) (clean_upd hS ha hb)
theorem oneTo_same (i a0 : Nat) : oneTo i a0 i = a0 := by simp [oneTo]

set_option maxHeartbeats 800000
def fitIn (u : Tm) (left : Int) : Tm × Int := if (u.size : Int) ≤ left then (u, left - u.size) else (Tm.nil, -1)
abbrev mkBlk (s : List Bd) (left : Int) : ABlk := .box 95 [.st (.list (s.map encB)), .st (.int .i64 left)]
theorem fitIn_yes {u : Tm} {left : Int} (h : (u.size : Int) ≤ left) : fitIn u left = (u, left - u.size) := if_pos h
theorem fitIn_no {u : Tm} {left : Int} (h : ¬ (u.size : Int) ≤ left) : fitIn u left = (Tm.nil, -1) := if_neg h
theorem copy_core (s : List Bd) (h40 : s.length ≤ 100000) (ho : Ordered s) (turn : Bool) (f : Tm → Tm) (t : Tm) (hl : turn = true → lookup s t.name = none)
  (ih : ∀ a ∈ t.args, ∀ (a0 : Nat) (left : Int) (S : AStore), 1000 ≤ a0 → 0 ≤ left → left ≤ 1000000 → S a0 = some (mkBlk s left) →
   ACallsS Tryz.prog 71 [.one (.ptr a0 1 0 0), aTm a, aBool turn] S (aTm (fitIn (f a) left).1) (updE S a0 (some (mkBlk s (fitIn (f a) left).2))))
  (a0 : Nat) (left : Int) (S : AStore) (ha0 : 1000 ≤ a0) (h0 : 0 ≤ left) (h1 : left ≤ 1000000) (hSa : S a0 = some (mkBlk s left)) :
  ACallsS Tryz.prog 71 [.one (.ptr a0 1 0 0), aTm t, aBool turn] S (aTm (fitIn (.mk t.name (t.args.map f)) left).1) (updE S a0 (some (mkBlk s (fitIn (.mk t.name (t.args.map f)) left).2))) := by
 refine ok_metaprune_subst_maker_copy.acS fun hS C hC => ?_
 have hu : (Tm.mk t.name (t.args.map f)).size = 1 + Tm.sizes (t.args.map f) := rfl
 have hlen := Tm.length_le (t.args.map f)
 rw [List.length_map] at hlen
 have n4 : S 4 = none := clean_none hS (by omega)
 have n6 : S 6 = none := clean_none hS (by omega)
 have n7 : S 7 = none := clean_none hS (by omega)
 have n9 : S 9 = none := clean_none hS (by omega)
 have n11 : S 11 = none := clean_none hS (by omega)
 have n900 : S 900 = none := clean_none hS (by omega)
 have d4 : ¬ 4 = a0 := by omega
 have d6 : ¬ 6 = a0 := by omega
 have d7 : ¬ 7 = a0 := by omega
 have d9 : ¬ 9 = a0 := by omega
 have d11 : ¬ 11 = a0 := by omega
 have d900 : ¬ 900 = a0 := by omega
 have e4 : ¬ a0 = 4 := by omega
 have e6 : ¬ a0 = 6 := by omega
 have e7 : ¬ a0 = 7 := by omega
 have e9 : ¬ a0 = 9 := by omega
 have e11 : ¬ a0 = 11 := by omega
 have e900 : ¬ a0 = 900 := by omega
 unfold ir_metaprune_subst_maker_copy
 cases turn
 case' false =>
  repeat' (first | (with_reducible first | refine W ?_ | refine Z0 ?_) | ((with_reducible first | refine Wo (fun K hK => ?_) | refine Wq ?_ | refine Wr ?_); (try simp only [go_sem, fN, seval, eT, iR, hSa, n4, n6, n7, d4, d6, d7, e4, e6, e7]); (repeat with_reducible refine Ai ?_); (try (refine hK _ ?_; clear hK K))))
  with_reducible refine Wp ?_
  simp only [go_sem, fN, seval, true_implies, false_implies, implies_true, dT, dF, nL]
  (try with_reducible refine iC ?_)
  repeat' (first | (with_reducible first | refine W ?_ | refine Z0 ?_) | ((with_reducible first | refine Wo (fun K hK => ?_) | refine Wq ?_ | refine Wr ?_); (try simp only [go_sem, fN, seval, eT, iR, hSa, n4, n6, n7, n9, d4, d6, d7, d9, e4, e6, e7, e9]); (repeat with_reducible refine Ai ?_); (try (refine hK _ ?_; clear hK K))))
 case' true =>
  have hln := hl rfl
  repeat' (first | (with_reducible first | refine W ?_ | refine Z0 ?_) | ((with_reducible first | refine Wo (fun K hK => ?_) | refine Wq ?_ | refine Wr ?_); (try simp only [go_sem, fN, seval, eT, iR, hSa, n4, n6, n7, d4, d6, d7, e4, e6, e7]); (repeat with_reducible refine Ai ?_); (try (refine hK _ ?_; clear hK K))))
  with_reducible refine Wp ?_
  simp only [go_sem, fN, seval, true_implies, false_implies, implies_true, dT, dF, nL]
  (try with_reducible refine iC ?_)
  repeat' (first | (with_reducible first | refine W ?_ | refine Z0 ?_) | refine Cg _ (find_a s h40 ho t.name) ?_ | ((with_reducible first | refine Wo (fun K hK => ?_) | refine Wq ?_ | refine Wr ?_); (try simp only [go_sem, fN, seval, eT, iR, hSa, n4, n6, n7, d4, d6, d7, e4, e6, e7, hln]); (repeat with_reducible refine Ai ?_); (try (refine hK _ ?_; clear hK K))))
  with_reducible refine Wp ?_
  simp only [go_sem, fN, seval, true_implies, false_implies, implies_true, dT, dF, nL]
  (try with_reducible refine iC ?_)
  repeat' (first | (with_reducible first | refine W ?_ | refine Z0 ?_) | ((with_reducible first | refine Wo (fun K hK => ?_) | refine Wq ?_ | refine Wr ?_); (try simp only [go_sem, fN, seval, eT, iR, hSa, n4, n6, n7, n9, d4, d6, d7, d9, e4, e6, e7, e9]); (repeat with_reducible refine Ai ?_); (try (refine hK _ ?_; clear hK K))))
 all_goals
  by_cases hz : left = 0
  ·subst hz
   have hno : ¬ ((Tm.mk t.name (t.args.map f)).size : Int) ≤ 0 := by rw [hu]; omega
   rw [fitIn_no hno]
   with_reducible refine Wp ?_
   simp only [go_sem, fN, seval, true_implies, false_implies, implies_true, dT, dF, nL]
   (try with_reducible refine iC ?_)
   repeat' (first | (with_reducible first | refine W ?_ | refine Z0 ?_) | ((with_reducible first | refine Wo (fun K hK => ?_) | refine Wq ?_ | refine Wr ?_); (try simp only [go_sem, fN, seval, eT, iR, hSa, n4, n6, n7, n9, d4, d6, d7, d9, e4, e6, e7, e9]); (repeat with_reducible refine Ai ?_); (try (refine hK _ ?_; clear hK K))))
   refine finS_one (.agg [.st (.str ⟨#[]⟩), .full []]) hS ha0 rfl trivial ?_ ?_ ?_ fun i hi hne => ?_
   ·simp only [go_sem, fN, seval, eT, iR, resAll, resOne, tupV, e4, e6, e7, e9, d4, d6, d7, d9]
   ·simp only [go_sem, fN, seval, eT, iR, Tm.nil]
    rfl
   ·simp only [go_sem, fN, seval, eT, iR, e4, e6, e7, e9]
   ·have i4 : ¬ i = 4 := by omega
    have i6 : ¬ i = 6 := by omega
    have i7 : ¬ i = 7 := by omega
    simp only [go_sem, fN, seval, eT, iR, i4, i6, i7, hne]
  have hz' : ¬ left - 1 < 0 := by omega
  with_reducible refine Wp ?_
  simp only [go_sem, fN, seval, true_implies, false_implies, implies_true, dT, dF, nL, hz']
  (try with_reducible refine iC ?_)
  repeat' (first | (with_reducible first | refine W ?_ | refine Z0 ?_) | ((with_reducible first | refine Wo (fun K hK => ?_) | refine Wq ?_ | refine Wr ?_); (try simp only [go_sem, fN, seval, eT, iR, hSa, n4, n6, n7, n9, d4, d6, d7, d9, e4, e6, e7, e9]); (repeat with_reducible refine Ai ?_); (try (refine hK _ ?_; clear hK K))))
  refine IWP.ghost (Ghost.ownC 9 1 900 29 2 (xs := ([] : List Tm).map encT) (by simp only [go_sem, fN, seval, eT, iR, d9, d4, d6, d7, e9]; rfl) rfl (by simp only [go_sem, fN, seval, eT, iR, n900, d900]) lens_encT) ?_
  refine IWP.loopD [11] (fun m x => ∃ k, k ≤ t.args.length ∧ m = t.args.length - k ∧ (Tm.sizes ((t.args.take k).map f) : Int) ≤ left - 1 ∧ x.env 0 = .one (.ptr a0 1 0 0) ∧ x.env 2 = aBool _ ∧ x.env 6 = .one (.ptr 6 1 0 0) ∧ x.env 9 = .one (.ptr 9 1 0 0) ∧ x.env 44 = .one (.st (.list (t.args.map encT))) ∧ x.env 45 = aInt t.args.length ∧ x.env 46 = aInt k ∧
    x.S 6 = some (.box 29 [.st (.str ⟨#[]⟩), .full []]) ∧ x.S 9 = some (.box 29 [.st (.str t.name), .row 900 k]) ∧ x.S 900 = some (.arow 29 2 (((t.args.take k).map f).map encT)) ∧ x.S 11 = none ∧ x.S a0 = some (mkBlk s (left - 1 - Tm.sizes ((t.args.take k).map f))) ∧ ∀ i, 1000 ≤ i → i ≠ a0 → x.S i = S i)
   t.args.length ⟨0, Nat.zero_le _, rfl, by show (0 : Int) ≤ _; omega, rfl, rfl, rfl, rfl, rfl, rfl, rfl, by simp only [go_sem, fN, seval, eT, iR, d6, d4, d7, d9, e6], by (simp only [go_sem, fN, seval, eT, iR, d9]); rfl, by simp only [go_sem, fN, seval, eT, iR, e9], by simp only [go_sem, fN, seval, eT, iR, n11, d11], by (simp only [go_sem, fN, seval, eT, iR, e9, e900]); simp [Tm.sizes], fun i hi hne => ?_⟩ ?_
  ·have i4 : ¬ i = 4 := by omega
   have i6 : ¬ i = 6 := by omega
   have i7 : ¬ i = 7 := by omega
   have i9 : ¬ i = 9 := by omega
   have i900 : ¬ i = 900 := by omega
   simp only [go_sem, fN, seval, eT, iR, i4, i6, i7, i9, i900, hne]
  rintro m ⟨env, S1⟩ ⟨k, hk, rfl, hsz, e0, e2, e6', e9', e44, e45, e46, s6, s9, s900, s11, sa, hrest⟩
  simp only at e0 e2 e6' e9' e44 e45 e46 s6 s9 s900 s11 sa hrest
  have hlk : (t.args.take k).length = k := by rw [List.length_take]; omega
  have hle := Tm.sizes_take_le (t.args.map f) k
  rw [← List.map_take] at hle
  have hkl := Tm.length_le ((t.args.take k).map f)
  rw [List.length_map, hlk] at hkl
  by_cases hlt : (k : Int) < t.args.length
  ·obtain ⟨a, ha⟩ := get_lt (show k < t.args.length by omega)
   have ha' : (t.args.map f)[k]? = some (f a) := by rw [List.getElem?_map, ha]; rfl
   have z1 := Tm.sizes_take ha'
   have z2 := Tm.sizes_take_le (t.args.map f) (k + 1)
   rw [← List.map_take, ← List.map_take] at z1
   rw [← List.map_take] at z2
   repeat' (first | (with_reducible first | refine W ?_ | refine Z0 ?_) | ((with_reducible first | refine Wo (fun K hK => ?_) | refine Wq ?_ | refine Wr ?_); (try simp only [go_sem, fN, seval, eT, iR, e0, e2, e6', e9', e44, e45, e46, s6, s9, s900, s11, sa, hlt]); (repeat with_reducible refine Ai ?_); (try (refine hK _ ?_; clear hK K))))
   with_reducible refine Wp ?_
   simp only [go_sem, fN, seval, true_implies, false_implies, implies_true, dT, dF, nL, hlt]
   (try with_reducible refine iC ?_)
   repeat' (first | (with_reducible first | refine W ?_ | refine Z0 ?_) | ((with_reducible first | refine Wo (fun K hK => ?_) | refine Wq ?_ | refine Wr ?_); (try simp only [go_sem, fN, seval, eT, iR, e0, e2, e6', e9', e44, e45, e46, s6, s9, s900, s11, sa, d11, d9, e11, ha]); (repeat with_reducible refine Ai ?_); (try (refine hK _ ?_; clear hK K))))
   have hcall := ih a (mem_of_get ha) (up1 a0) (left - 1 - Tm.sizes ((t.args.take k).map f)) (upS (updE (updE S1 11 (some (.box 29 [.st (.str ⟨#[]⟩), .full []]))) 11 (some (.box 29 [.st (.str a.name), .st (.list (a.args.map encT))])))) (up1_le a0) (by omega) (by omega) (by rw [upS_up, updE_ne _ e11, updE_ne _ e11, sa]; rfl)
   by_cases hfit : ((f a).size : Int) ≤ left - 1 - Tm.sizes ((t.args.take k).map f)
   ·rw [fitIn_yes hfit] at hcall
    refine ⟨_, _, hcall, ?_⟩
    have hge : ¬ left - 1 - Tm.sizes ((t.args.take k).map f) - (f a).size < 0 := by omega
    repeat' (first | (with_reducible first | refine W ?_ | refine Z0 ?_) | ((with_reducible first | refine Wo (fun K hK => ?_) | refine Wq ?_ | refine Wr ?_); (try simp only [go_sem, fN, seval, eT, iR, e0, e2, e6', e9', e44, e45, e46, s6, s9, s900, s11, d11, d9, e11, e9, e900, d900, hlk]); (repeat with_reducible refine Ai ?_); (try (refine hK _ ?_; clear hK K))))
    with_reducible refine Wp ?_
    simp only [go_sem, fN, seval, true_implies, false_implies, implies_true, dT, dF, nL, hge]
    (try with_reducible refine iC ?_)
    repeat' (first | (with_reducible first | refine W ?_ | refine Z0 ?_) | ((with_reducible first | refine Wo (fun K hK => ?_) | refine Wq ?_ | refine Wr ?_); (try simp only [go_sem, fN, seval, eT, iR, e0, e2, e6', e9', e44, e45, e46, s6, s9, s900, s11, d11, d9, e11]); (repeat with_reducible refine Ai ?_); (try (refine hK _ ?_; clear hK K))))
    refine then_normal ⟨t.args.length - (k + 1), by omega, k + 1, by omega, rfl, ?_⟩
    have hib : (a0 == 11) = false := by simp; omega
    have hzz : ((Tm.sizes ((t.args.take (k + 1)).map f) : Nat) : Int) = Tm.sizes ((t.args.take k).map f) + (f a).size := by omega
    refine ⟨by omega, ?_⟩
    simp only [go_sem, fN, seval, AS.drop, dropS, AC.clears, AC.clear, AC.highs, AC.high, Bool.not_false, Bool.true_and, Bool.and_self, AV.purge, AV.purges, AC.purge, ABlk.purge, List.contains_cons, List.contains_nil, Nat.reduceBEq, Bool.or_self, Bool.or_false, Bool.false_or, Bool.or_true, eT, iR, e0, e2, e6', e9', e44, e45, s6, s9, s900, d11, d9, e11, e9, e900, d900, d6, hib]
    refine ⟨by congr 3, by rw [take_snoc ha, List.map_append, List.map_append, List.map_cons, List.map_nil, List.map_cons, List.map_nil, encT_eq], ?_, fun i hi hne => ?_⟩
    ·congr 5
     omega
    ·have i9 : ¬ i = 9 := by omega
     have i11 : ¬ i = 11 := by omega
     have i900 : ¬ i = 900 := by omega
     have i11b : (i == 11) = false := by simp; omega
     simp only [go_sem, fN, seval, AS.drop, dropS, AC.clears, AC.clear, AC.highs, AC.high, Bool.not_false, Bool.true_and, Bool.and_self, AV.purge, AV.purges, AC.purge, ABlk.purge, List.contains_cons, List.contains_nil, Nat.reduceBEq, Bool.or_self, Bool.or_false, Bool.false_or, Bool.or_true, eT, iR, i9, i11, i11b, i900, hne]
     rw [hrest i hi hne]
     exact purgeS (by decide) fun b hb => (hS i b hb).2
   ·have hno : ¬ ((Tm.mk t.name (t.args.map f)).size : Int) ≤ left := by rw [hu]; omega
    rw [fitIn_no hfit] at hcall
    refine ⟨_, _, hcall, ?_⟩
    repeat' (first | (with_reducible first | refine W ?_ | refine Z0 ?_) | ((with_reducible first | refine Wo (fun K hK => ?_) | refine Wq ?_ | refine Wr ?_); (try simp only [go_sem, fN, seval, eT, iR, e0, e2, e6', e9', e44, e45, e46, s6, s9, s900, s11, d11, d9, e11, e9, e900, d900, hlk]); (repeat with_reducible refine Ai ?_); (try (refine hK _ ?_; clear hK K))))
    with_reducible refine Wp ?_
    simp only [go_sem, fN, seval, true_implies, false_implies, implies_true, dT, dF, nL]
    (try with_reducible refine iC ?_)
    repeat' (first | (with_reducible first | refine W ?_ | refine Z0 ?_) | ((with_reducible first | refine Wo (fun K hK => ?_) | refine Wq ?_ | refine Wr ?_); (try simp only [go_sem, fN, seval, eT, iR, e0, e2, e6', e9', e44, e45, e46, s6, s9, s900, s11, d11, d9, e11, e6, d6, d900, e900]); (repeat with_reducible refine Ai ?_); (try (refine hK _ ?_; clear hK K))))
    rw [fitIn_no hno]
    refine finS_one (.agg [.st (.str ⟨#[]⟩), .full []]) hS ha0 rfl trivial ?_ ?_ ?_ fun i hi hne => ?_
    ·simp only [go_sem, fN, seval, eT, iR, resAll, resOne, tupV, e6', s6, e6, e9, e11, e900, d6, d9, d11, d900]
    ·simp only [go_sem, fN, seval, eT, iR, Tm.nil]
     rfl
    ·simp only [go_sem, fN, seval, eT, iR, e6, e9, e11, e900]
    ·have i6 : ¬ i = 6 := by omega
     have i9 : ¬ i = 9 := by omega
     have i11 : ¬ i = 11 := by omega
     have i900 : ¬ i = 900 := by omega
     simp only [go_sem, fN, seval, eT, iR, i6, i9, i11, i900, hne]
     exact hrest i hi hne
  ·have hall : t.args.take k = t.args := List.take_of_length_le (by omega)
   rw [hall] at hlk s900 hsz sa
   have hyes : ((Tm.mk t.name (t.args.map f)).size : Int) ≤ left := by rw [hu]; omega
   repeat' (first | (with_reducible first | refine W ?_ | refine Z0 ?_) | ((with_reducible first | refine Wo (fun K hK => ?_) | refine Wq ?_ | refine Wr ?_); (try simp only [go_sem, fN, seval, eT, iR, e0, e2, e6', e9', e44, e45, e46, s6, s9, s900, s11, sa, hlt]); (repeat with_reducible refine Ai ?_); (try (refine hK _ ?_; clear hK K))))
   with_reducible refine Wp ?_
   simp only [go_sem, fN, seval, true_implies, false_implies, implies_true, dT, dF, nL, hlt]
   (try with_reducible refine iC ?_)
   repeat' (first | (with_reducible first | refine W ?_ | refine Z0 ?_) | ((with_reducible first | refine Wo (fun K hK => ?_) | refine Wq ?_ | refine Wr ?_); (try simp only [go_sem, fN, seval, eT, iR, e0, e2, e6', e9', e44, e45, e46, s6, s9, s900, s11, sa, d6]); (repeat with_reducible refine Ai ?_); (try (refine hK _ ?_; clear hK K))))
   rw [fitIn_yes hyes]
   refine finS_one (.agg [.st (.str t.name), .row 900 k]) hS ha0 rfl trivial ?_ ?_ ?_ fun i hi hne => ?_
   ·simp only [go_sem, fN, seval, eT, iR, resAll, resOne, tupV, e6', s6]
   ·simp only [go_sem, fN, seval, eT, iR, s900, hlk]
    rfl
   ·simp only [go_sem, fN, seval, eT, iR, e6, sa, hu]
    rw [show left - 1 - (Tm.sizes (t.args.map f) : Int) = left - ((1 + Tm.sizes (t.args.map f) : Nat) : Int) by omega]
   ·have i6 : ¬ i = 6 := by omega
    simp only [go_sem, fN, seval, eT, iR, i6]
    exact hrest i hi hne
theorem copyF_a (s : List Bd) (h40 : s.length ≤ 100000) (ho : Ordered s) (t : Tm) : ∀ (a0 : Nat) (left : Int) (S : AStore), 1000 ≤ a0 → 0 ≤ left → left ≤ 1000000 → S a0 = some (mkBlk s left) →
  ACallsS Tryz.prog 71 [.one (.ptr a0 1 0 0), aTm t, aBool false] S (aTm (fitIn t left).1) (updE S a0 (some (mkBlk s (fitIn t left).2))) := by
 induction h : SizeOf.sizeOf t using Nat.strongRecOn generalizing t with
 | _ N ih =>
 subst h
 intro a0 left S h1 h2 h3 h4
 have := copy_core s h40 ho false id t (fun h => by cases h) (fun a ha => ih _ (Tm.lt_of_arg ha) a rfl) a0 left S h1 h2 h3 h4
 rw [List.map_id, Tm.eta] at this
 exact this
theorem copyT_a (s : List Bd) (h40 : s.length ≤ 100000) (ho : Ordered s) (t : Tm) (hv : ∀ b ∈ s, isVar b.1 = true) (hchk : t.chk = 0) : ∀ (a0 : Nat) (left : Int) (S : AStore), 1000 ≤ a0 → 0 ≤ left → left ≤ 1000000 → S a0 = some (mkBlk s left) →
  ACallsS Tryz.prog 71 [.one (.ptr a0 1 0 0), aTm t, aBool true] S (aTm (fitIn (t.on s) left).1) (updE S a0 (some (mkBlk s (fitIn (t.on s) left).2))) := by
 induction h : SizeOf.sizeOf t using Nat.strongRecOn generalizing t with
 | _ N ih =>
 subst h
 intro a0 left S ha0 h0 h1 hSa
 obtain ⟨c1, c2⟩ := Tm.chk_args hchk
 cases hl : lookup s t.name with
 | none =>
  have := copy_core s h40 ho true (Tm.on s) t (fun _ => hl) (fun a ha => ih _ (Tm.lt_of_arg ha) a (c2 a ha) rfl) a0 left S ha0 h0 h1 hSa
  rw [← Tm.on_knot (.inl hl)] at this
  exact this
 | some x =>
  obtain ⟨b, hb, hbn, _⟩ := lookup_mem hl
  have hargs := c1 (by rw [← hbn]; exact hv b hb)
  rw [Tm.on_leaf hl hargs]
  refine ok_metaprune_subst_maker_copy.acS fun hS C hC => ?_
  have n4 : S 4 = none := clean_none hS (by omega)
  have n6 : S 6 = none := clean_none hS (by omega)
  have n7 : S 7 = none := clean_none hS (by omega)
  have e4 : ¬ a0 = 4 := by omega
  have e6 : ¬ a0 = 6 := by omega
  have e7 : ¬ a0 = 7 := by omega
  have d4 : ¬ 4 = a0 := by omega
  have d6 : ¬ 6 = a0 := by omega
  have d7 : ¬ 7 = a0 := by omega
  unfold ir_metaprune_subst_maker_copy
  repeat' (first | (with_reducible first | refine W ?_ | refine Z0 ?_) | ((with_reducible first | refine Wo (fun K hK => ?_) | refine Wq ?_ | refine Wr ?_); (try simp only [go_sem, fN, seval, eT, iR, hSa, n4, n6, n7, d4, d6, d7, e4, e6, e7]); (repeat with_reducible refine Ai ?_); (try (refine hK _ ?_; clear hK K))))
  with_reducible refine Wp ?_
  simp only [go_sem, fN, seval, true_implies, false_implies, implies_true, dT, dF, nL]
  (try with_reducible refine iC ?_)
  repeat' (first | (with_reducible first | refine W ?_ | refine Z0 ?_) | refine Cg _ (find_a s h40 ho t.name) ?_ | ((with_reducible first | refine Wo (fun K hK => ?_) | refine Wq ?_ | refine Wr ?_); (try simp only [go_sem, fN, seval, eT, iR, hSa, n4, n6, n7, d4, d6, d7, e4, e6, e7, hl]); (repeat with_reducible refine Ai ?_); (try (refine hK _ ?_; clear hK K))))
  with_reducible refine Wp ?_
  simp only [go_sem, fN, seval, true_implies, false_implies, implies_true, dT, dF, nL]
  (try with_reducible refine iC ?_)
  repeat' (first | (with_reducible first | refine W ?_ | refine Z0 ?_) | ((with_reducible first | refine Wo (fun K hK => ?_) | refine Wq ?_ | refine Wr ?_); (try simp only [go_sem, fN, seval, eT, iR, hSa, n4, n6, n7, d4, d6, d7, e4, e6, e7]); (repeat with_reducible refine Ai ?_); (try (refine hK _ ?_; clear hK K))))
  have hcall := fun S' h => copyF_a s h40 ho x (up1 a0) left S' (up1_le a0) h0 h1 h
  refine ⟨_, _, hcall _ (by rw [upS_up]; (simp only [go_sem, fN, seval, eT, iR, e4, e6, e7, hSa])), ?_⟩
  repeat' (first | (with_reducible first | refine W ?_ | refine Z0 ?_) | ((with_reducible first | refine Wo (fun K hK => ?_) | refine Wq ?_ | refine Wr ?_); (try simp only [go_sem, fN, seval, eT, iR, e4, e6, e7, d4, d6, d7]); (repeat with_reducible refine Ai ?_); (try (refine hK _ ?_; clear hK K))))
  refine finS_one (aTm (fitIn x left).1) hS ha0 rfl trivial ?_ ?_ ?_ fun i hi hne => ?_
  ·simp only [go_sem, fN, seval, eT, iR, resAll, resOne, tupV, e4, e6, e7, d4, d6, d7]
  ·simp only [go_sem, fN, seval, eT, iR]
  ·simp only [go_sem, fN, seval, eT, iR, e4, e6, e7]
  ·have i4 : ¬ i = 4 := by omega
   have i6 : ¬ i = 6 := by omega
   have i7 : ¬ i = 7 := by omega
   simp only [go_sem, fN, seval, eT, iR, i4, i6, i7, hne]
theorem onP_a (s : List Bd) (h40 : s.length ≤ 100000) (ho : Ordered s) (t : Tm) (hv : ∀ b ∈ s, isVar b.1 = true) (hchk : t.chk = 0) : ACalls Tryz.prog 49 [aBds s, aTm t] (.tup [aTm (onTo s t).1, aBool (onTo s t).2]) := by
 refine ok_subst_On.ac fun C hC => ?_
 unfold ir_subst_On
 repeat' (first | (with_reducible first | refine W ?_ | refine Z0 ?_) | ((with_reducible first | refine Wo (fun K hK => ?_) | refine Wq ?_ | refine Wr ?_); (try simp only [go_sem, fN, seval, eT, iR]); (repeat with_reducible refine Ai ?_); (try (refine hK _ ?_; clear hK K))))
 have hcall := fun S' h => copyT_a s h40 ho t hv hchk (up1 10) 2000 S' (up1_le 10) (by omega) (by omega) h
 refine ⟨_, _, hcall _ (by rw [upS_up]; rfl), ?_⟩
 by_cases hfit : ((t.on s).size : Int) ≤ 2000
 ·have e : onTo s t = (t.on s, true) := by
   unfold onTo
   rw [if_pos (by omega)]
  rw [fitIn_yes hfit]
  have hge : (0 : Int) ≤ 2000 - (t.on s).size := by omega
  repeat' (first | (with_reducible first | refine W ?_ | refine Z0 ?_) | ((with_reducible first | refine Wo (fun K hK => ?_) | refine Wq ?_ | refine Wr ?_); (try simp only [go_sem, fN, seval, eT, iR, hge]); (repeat with_reducible refine Ai ?_); (try (refine hK _ ?_; clear hK K))))
  rw [e]
  simp only [go_sem, fN, seval, FinQ, AS.result, resAll, resOne, tupV]
 ·have e : onTo s t = (Tm.nil, false) := by
   unfold onTo
   rw [if_neg (by omega)]
  rw [fitIn_no hfit]
  repeat' (first | (with_reducible first | refine W ?_ | refine Z0 ?_) | ((with_reducible first | refine Wo (fun K hK => ?_) | refine Wq ?_ | refine Wr ?_); (try simp only [go_sem, fN, seval, eT, iR]); (repeat with_reducible refine Ai ?_); (try (refine hK _ ?_; clear hK K))))
  rw [e]
  simp only [go_sem, fN, seval, FinQ, AS.result, resAll, resOne, tupV]

def ir_slices_BinarySearchFunc_metaprune_api_Bind_metaprune_api_Bind_stringM : IR :=
 (.seq (.ops [.i 6 (.mov (.n 0)), .i 7 (.mov (.c (.one (.st (.bool false)))))]) (.seq (.ops [.m 12 0, .i 13 (.len false (.t 12)), .m 8 13]) (.seq (.ops [.m 14 8, .i 9 (.mov (.n 0)), .m 10 14]) (.seq (.block 0 (.loop (.seq (.seq (.ops [.m 15 9, .m 16 10, .i 17 (.bin .lss (.t 15) (.t 16))]) (.cond (.t 17) .skip (.exit 0))) (.block 1 (.seq (.ops [.m 18 9, .m 19 10, .i 20 (.bin .add (.t 18) (.t 19)), .i 21 (.conv .u64 (.t 20)), .i 22 (.bin .shr (.t 21) (.c (.one (.st (.int .u64 1))))), .i 23 (.conv .i64 (.t 22)), .m 11 23]) (.seq (.ops [.m 24 2, .m 25 0, .m 26 11, .i 27 (.indexAddr 3 (.t 25) (.t 26)), .L 28 3 27, .m 29 1, .i 30 (.callV (.t 24) [.t 28, .t 29]), .i 31 (.bin .lss (.t 30) (.n 0))]) (.cond (.t 31) (.ops [.m 32 11, .i 33 (.bin .add (.t 32) (.n 1)), .m 9 33]) (.ops [.m 34 11, .m 10 34])))))))) (.seq (.ops [.m 35 9, .m 36 9, .m 37 8, .i 38 (.bin .lss (.t 36) (.t 37)), .m 39 38, .mk (some 40) (some (39, true)) (.mov (.t 2)) .no, .mk (some 41) (some (39, true)) (.mov (.t 0)) .no, .mk (some 42) (some (39, true)) (.mov (.t 9)) .no, .mk (some 43) (some (39, true)) (.indexAddr 3 (.t 41) (.t 42)) .no, .mk (some 44) (some (39, true)) (.load true 3 (.t 43)) .no, .mk (some 45) (some (39, true)) (.mov (.t 1)) .no, .mk (some 46) (some (39, true)) (.callV (.t 40) [.t 44, .t 45]) .no, .mk (some 47) (some (39, true)) (.bin .eql (.t 46) (.n 0)) .no, .i 48 (.pick (.t 39) (.t 47) (.c (.one (.st (.bool false))))), .m 6 35, .m 7 48]) .ret)))))
theorem ok_slices_BinarySearchFunc_metaprune_api_Bind_metaprune_api_Bind_stringM : OkF Tryz.prog 97 49 [] ir_slices_BinarySearchFunc_metaprune_api_Bind_metaprune_api_Bind_stringM [.t 6, .t 7] := .of Tryz.func97 rfl rfl (by kernel_rfl) rfl
def ir_subst_FindM : IR :=
 (.seq (.ops [.i 4 (.alloc 29 [.st (.str (ByteArray.mk (#[]))), .full []]), .i 5 (.mov (.c (.one (.st (.bool false)))))]) (.seq (.ops [.m 9 0, .m 10 1, .i 11 (.callR 97 [.t 9, .t 10, .c (.one (.fn 98 []))]), .m 8 11, .i 12 (.extract 0 (.t 8)), .i 13 (.extract 1 (.t 8)), .m 6 12, .m 7 13]) (.seq (.seq (.ops [.m 14 7, .i 15 (.un .not (.t 14))]) (.cond (.t 15) (.seq (.ops [.i 16 (.build [.st (.str (ByteArray.mk (#[]))), .full []] []), .s 2 4 16, .i 5 (.mov (.c (.one (.st (.bool false)))))]) .ret) .skip)) (.seq (.ops [.m 17 0, .m 18 6, .i 19 (.indexAddr 3 (.t 17) (.t 18)), .f 20 1 19, .L 21 2 20, .s 2 4 21, .i 5 (.mov (.c (.one (.st (.bool true)))))]) .ret))))
theorem ok_subst_FindM : OkF Tryz.prog 88 22 [40000011] ir_subst_FindM [.cell 4 true 2, .t 5] := .of Tryz.func88 rfl rfl (by kernel_rfl) rfl
def ir_metaprune_subst_maker_copyM : IR :=
 (.seq (.ops [.i 4 (.box 29 (.t 1)), .i 6 (.alloc 29 [.st (.str (ByteArray.mk (#[]))), .full []])]) (.seq (.seq (.ops [.m 12 2]) (.cond (.t 12) (.seq (.ops [.m 14 0, .i 15 (.nilCheck (.t 14)), .f 16 0 15, .l 17 16, .f 18 0 4, .l 19 18, .i 20 (.callR 88 [.t 17, .t 19]), .m 13 20, .i 21 (.extract 0 (.t 13)), .i 22 (.extract 1 (.t 13)), .i 7 (.alloc 29 [.st (.str (ByteArray.mk (#[]))), .full []]), .s 2 7 21, .m 8 22]) (.seq (.ops [.m 23 8]) (.cond (.t 23) (.seq (.ops [.m 24 0, .L 25 2 7, .i 26 (.callS 71 [.t 24, .t 25, .c (.one (.st (.bool false)))]), .s 2 6 26]) .ret) .skip))) .skip)) (.seq (.seq (.ops [.m 27 0, .i 28 (.nilCheck (.t 27)), .f 29 1 28, .l 30 29, .i 31 (.bin .sub (.t 30) (.n 1)), .i 32 (.nilCheck (.t 27)), .f 33 1 32, .s 1 33 31]) (.seq (.ops [.m 34 0, .i 35 (.nilCheck (.t 34)), .f 36 1 35, .l 37 36, .i 38 (.bin .lss (.t 37) (.n 0))]) (.cond (.t 38) (.seq (.ops [.i 39 (.build [.st (.str (ByteArray.mk (#[]))), .full []] []), .s 2 6 39]) .ret) .skip))) (.seq (.ops [.f 40 0 4, .l 41 40, .i 42 (.build [.st (.str (ByteArray.mk (#[]))), .full []] [(0, 1, .t 41)]), .i 9 (.alloc 29 [.st (.str (ByteArray.mk (#[]))), .full []]), .s 2 9 42]) (.seq (.seq (.ops [.f 43 1 4, .l 44 43, .i 45 (.len false (.t 44)), .i 46 (.mov (.n 0))]) (.block 0 (.loop (.seq (.ops [.i 47 (.bin .lss (.t 46) (.t 45))]) (.seq (.cond (.t 47) .skip (.exit 0)) (.seq (.block 1 (.seq (.ops [.i 48 (.indexAddr 2 (.t 44) (.t 46)), .L 49 2 48, .i 11 (.alloc 29 [.st (.str (ByteArray.mk (#[]))), .full []]), .s 2 11 49]) (.seq (.ops [.mk (some 50) none (.fieldAddr 1 (.t 9)) (.onb 9), .mk (some 51) none (.load false 1 (.t 50)) (.onb 9), .m 52 0, .L 53 2 11, .m 54 2, .mk (some 55) none (.callS 71 [.t 52, .t 53, .t 54]) (.keeps [9, 9]), .i 56 (.buildSlice false 29 2 [.t 55]), .i 57 (.append false 29 2 40 (.t 51) (.t 56)), .f 58 1 9, .s 1 58 57]) (.seq (.ops [.m 59 0, .i 60 (.nilCheck (.t 59)), .f 61 1 60, .l 62 61, .i 63 (.bin .lss (.t 62) (.n 0))]) (.cond (.t 63) (.seq (.ops [.i 64 (.build [.st (.str (ByteArray.mk (#[]))), .full []] []), .s 2 6 64]) .ret) .skip))))) (.ops [.i 65 (.bin .add (.t 46) (.n 1)), .m 46 65]))))))) (.seq (.ops [.L 66 2 9, .s 2 6 66]) .ret))))))
theorem ok_metaprune_subst_maker_copyM : OkF Tryz.prog 71 67 [40000020, 26, 55] ir_metaprune_subst_maker_copyM [.cell 6 true 2] := .of Tryz.func71 rfl rfl (by kernel_rfl) rfl
def ir_subst_OnM : IR :=
 (.seq (.ops [.i 3 (.box 29 (.t 1)), .i 4 (.alloc 29 [.st (.str (ByteArray.mk (#[]))), .full []]), .i 5 (.mov (.c (.one (.st (.bool false)))))]) (.seq (.ops [.m 8 0, .i 9 (.build [.full [], .st (.int .i64 0)] [(0, 1, .t 8), (1, 1, .n 2000)]), .i 10 (.box 95 (.t 9)), .m 6 10]) (.seq (.ops [.m 11 6, .L 12 2 3, .i 13 (.callS 71 [.t 11, .t 12, .c (.one (.st (.bool true)))]), .i 7 (.alloc 29 [.st (.str (ByteArray.mk (#[]))), .full []]), .s 2 7 13]) (.seq (.ops [.L 14 2 7, .m 15 6, .mk (some 16) none (.nilCheck (.t 15)) (.onb 10), .mk (some 17) none (.fieldAddr 1 (.t 16)) (.onb 10), .mk (some 18) none (.load false 1 (.t 17)) (.onb 10), .i 19 (.bin .geq (.t 18) (.n 0)), .mk none none (.store 2 (.t 4) (.t 14)) (.onb 4), .m 5 19]) .ret))))
theorem ok_subst_OnM : OkF Tryz.prog 49 20 [13, 10060010] ir_subst_OnM [.cell 4 true 2, .t 5] := .of Tryz.func49 rfl rfl (by kernel_rfl) rfl

abbrev rowBd (l : List Bd) : ABlk := .mrow 81 3 (l.map encB)

end Go.Proofs.YtgepacmabaaohaaGreatDoor
