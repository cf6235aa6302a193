/-
  Part 7 of the texts. Conditions: none.
-/
import Derived.Test.YtgepacmabaaohaaGreatDoorCrM6
namespace Go.Proofs.YtgepacmabaaohaaGreatDoor
open Go Go.RowKit
set_option maxRecDepth 100000
def Nc : IR :=
 (.seq (.ops [.i 4 (.alloc 29 [.st (.str (ByteArray.mk (#[]))), .full []]), .i 5 (.mov (.c (.one (.st (.bool false)))))]) (.seq (.seq (.ops [.i 6 (.mov (.n 0))]) (.block 0 (.loop (.seq (.seq (.ops [.m 7 6, .m 8 0, .i 9 (.len false (.t 8)), .i 10 (.bin .lss (.t 7) (.t 9))]) (.cond (.t 10) .skip (.exit 0))) (.seq (.block 1 (.seq (.ops [.m 13 0, .m 14 6, .i 15 (.indexAddr 3 (.t 13) (.t 14)), .f 16 0 15, .l 17 16, .m 18 1, .i 19 (.bin .eql (.t 17) (.t 18))]) (.cond (.t 19) (.seq (.ops [.m 20 0, .m 21 6, .i 22 (.indexAddr 3 (.t 20) (.t 21)), .f 23 1 22, .L 24 2 23, .s 2 4 24, .i 5 (.mov (.c (.one (.st (.bool true)))))]) .ret) .skip))) (.ops [.m 11 6, .i 12 (.bin .add (.t 11) (.n 1)), .m 6 12])))))) (.seq (.ops [.i 25 (.build [.st (.str (ByteArray.mk (#[]))), .full []] []), .s 2 4 25, .i 5 (.mov (.c (.one (.st (.bool false)))))]) .ret)))
theorem TN : OkF Tryz.prog 79 26 [] Nc [.cell 4 true 2, .t 5] := .of Tryz.func79 rfl rfl (by kernel_rfl) rfl
def G6 : IR :=
 (.seq (.ops [.i 4 (.box 29 (.t 1)), .i 6 (.mov (.n 0))]) (.seq (.ops [.m 12 0, .f 13 0 4, .l 14 13, .i 15 (.call 79 [.t 12, .t 14]), .m 11 15, .i 16 (.extract 0 (.t 11)), .i 17 (.extract 1 (.t 11)), .i 7 (.alloc 29 [.st (.str (ByteArray.mk (#[]))), .full []]), .s 2 7 16, .m 8 17]) (.seq (.seq (.ops [.m 18 8, .m 19 18, .mk (some 20) (some (19, true)) (.fieldAddr 1 (.t 4)) .no, .mk (some 21) (some (19, true)) (.load false 1 (.t 20)) .no, .mk (some 22) (some (19, true)) (.len false (.t 21)) .no, .mk (some 23) (some (19, true)) (.bin .eql (.t 22) (.n 0)) .no, .i 24 (.pick (.t 19) (.t 23) (.c (.one (.st (.bool false)))))]) (.cond (.t 24) (.seq (.ops [.L 25 2 7, .m 26 2, .i 27 (.call 7 [.t 25, .t 26]), .m 6 27]) .ret) .skip)) (.seq (.ops [.i 9 (.mov (.n 1))]) (.seq (.seq (.ops [.i 10 (.mov (.n 0))]) (.block 0 (.loop (.seq (.seq (.ops [.m 28 10, .f 29 1 4, .l 30 29, .i 31 (.len false (.t 30)), .i 32 (.bin .lss (.t 28) (.t 31)), .m 33 32, .mk (some 34) (some (33, true)) (.mov (.t 9)) .no, .mk (some 35) (some (33, true)) (.mov (.t 2)) .no, .mk (some 36) (some (33, true)) (.bin .leq (.t 34) (.t 35)) .no, .i 37 (.pick (.t 33) (.t 36) (.c (.one (.st (.bool false)))))]) (.cond (.t 37) .skip (.exit 0))) (.seq (.block 1 (.ops [.m 40 9, .m 41 0, .f 42 1 4, .l 43 42, .m 44 10, .i 45 (.indexAddr 2 (.t 43) (.t 44)), .L 46 2 45, .m 47 2, .m 48 9, .i 49 (.bin .sub (.t 47) (.t 48)), .i 50 (.call 61 [.t 41, .t 46, .t 49]), .i 51 (.bin .add (.t 40) (.t 50)), .m 9 51])) (.ops [.m 38 10, .i 39 (.bin .add (.t 38) (.n 1)), .m 10 39])))))) (.seq (.seq (.ops [.m 52 9, .m 53 2, .i 54 (.bin .gtr (.t 52) (.t 53))]) (.cond (.t 54) (.seq (.ops [.m 55 2, .i 56 (.bin .add (.t 55) (.n 1)), .m 6 56]) .ret) .skip)) (.seq (.ops [.m 57 9, .m 6 57]) .ret)))))))
theorem Jt : OkF Tryz.prog 61 58 [] G6 [.t 6] := .of Tryz.func61 rfl rfl (by kernel_rfl) rfl
def Mt : IR :=
 (.seq (.ops [.i 3 (.box 29 (.t 1)), .i 4 (.alloc 29 [.st (.str (ByteArray.mk (#[]))), .full []])]) (.seq (.ops [.m 10 0, .f 11 0 3, .l 12 11, .i 13 (.call 79 [.t 10, .t 12]), .m 9 13, .i 14 (.extract 0 (.t 9)), .i 15 (.extract 1 (.t 9)), .i 5 (.alloc 29 [.st (.str (ByteArray.mk (#[]))), .full []]), .s 2 5 14, .m 6 15]) (.seq (.seq (.ops [.m 16 6, .m 17 16, .mk (some 18) (some (17, true)) (.fieldAddr 1 (.t 3)) .no, .mk (some 19) (some (17, true)) (.load false 1 (.t 18)) .no, .mk (some 20) (some (17, true)) (.len false (.t 19)) .no, .mk (some 21) (some (17, true)) (.bin .eql (.t 20) (.n 0)) .no, .i 22 (.pick (.t 17) (.t 21) (.c (.one (.st (.bool false)))))]) (.cond (.t 22) (.seq (.ops [.L 23 2 5, .s 2 4 23]) .ret) .skip)) (.seq (.ops [.f 24 0 3, .l 25 24, .i 26 (.build [.st (.str (ByteArray.mk (#[]))), .full []] [(0, 1, .t 25)]), .i 7 (.alloc 29 [.st (.str (ByteArray.mk (#[]))), .full []]), .s 2 7 26]) (.seq (.seq (.ops [.i 8 (.mov (.n 0))]) (.block 0 (.loop (.seq (.seq (.ops [.m 27 8, .f 28 1 3, .l 29 28, .i 30 (.len false (.t 29)), .i 31 (.bin .lss (.t 27) (.t 30))]) (.cond (.t 31) .skip (.exit 0))) (.seq (.block 1 (.ops [.f 34 1 7, .l 35 34, .m 36 0, .f 37 1 3, .l 38 37, .m 39 8, .i 40 (.indexAddr 2 (.t 38) (.t 39)), .L 41 2 40, .i 42 (.call 59 [.t 36, .t 41]), .i 43 (.buildSlice false 29 2 [.t 42]), .i 44 (.append false 29 2 40 (.t 35) (.t 43)), .f 45 1 7, .s 1 45 44])) (.ops [.m 32 8, .i 33 (.bin .add (.t 32) (.n 1)), .m 8 33])))))) (.seq (.ops [.L 46 2 7, .s 2 4 46]) .ret))))))
theorem Qg : OkF Tryz.prog 59 47 [] Mt [.cell 4 true 2] := .of Tryz.func59 rfl rfl (by kernel_rfl) rfl
def NP : IR :=
 (.seq (.ops [.i 3 (.box 29 (.t 1)), .i 4 (.alloc 29 [.st (.str (ByteArray.mk (#[]))), .full []]), .i 5 (.mov (.c (.one (.st (.bool false)))))]) (.seq (.seq (.ops [.m 6 0, .L 7 2 3, .i 8 (.call 61 [.t 6, .t 7, .n 2000]), .i 9 (.bin .gtr (.t 8) (.n 2000))]) (.cond (.t 9) (.seq (.ops [.i 10 (.build [.st (.str (ByteArray.mk (#[]))), .full []] []), .s 2 4 10, .i 5 (.mov (.c (.one (.st (.bool false)))))]) .ret) .skip)) (.seq (.ops [.m 11 0, .L 12 2 3, .i 13 (.call 59 [.t 11, .t 12]), .s 2 4 13, .i 5 (.mov (.c (.one (.st (.bool true)))))]) .ret)))
theorem RR : OkF Tryz.prog 35 14 [] NP [.cell 4 true 2, .t 5] := .of Tryz.func35 rfl rfl (by kernel_rfl) rfl
def Dk : IR :=
 (.seq (.ops [.i 2 (.mov (.c (.one (.st (.bool false)))))]) (.seq (.ops [.m 3 0, .m 4 0, .i 5 (.bin .neq (.t 3) (.t 4)), .m 2 5]) .ret))
theorem GR : OkF Tryz.prog 96 6 [] Dk [.t 2] := .of Tryz.func96 rfl rfl (by kernel_rfl) rfl
def DH : IR :=
 (.seq (.ops [.i 4 (.mov (.n 0))]) (.seq (.ops [.m 7 0, .i 8 (.call 96 [.t 7]), .m 5 8]) (.seq (.ops [.m 9 1, .i 10 (.call 96 [.t 9]), .m 6 10]) (.seq (.seq (.ops [.m 11 5]) (.cond (.t 11) (.seq (.seq (.ops [.m 12 6]) (.cond (.t 12) (.seq (.ops [.i 4 (.mov (.n 0))]) .ret) .skip)) (.seq (.ops [.i 4 (.mov (.c (.one (.st (.int .i64 (-1))))))]) .ret)) .skip)) (.seq (.seq (.ops [.m 13 6]) (.cond (.t 13) (.seq (.ops [.i 4 (.mov (.n 1))]) .ret) .skip)) (.seq (.seq (.ops [.m 14 0, .m 15 1, .i 16 (.bin .lss (.t 14) (.t 15))]) (.cond (.t 16) (.seq (.ops [.i 4 (.mov (.c (.one (.st (.int .i64 (-1))))))]) .ret) .skip)) (.seq (.seq (.ops [.m 17 0, .m 18 1, .i 19 (.bin .gtr (.t 17) (.t 18))]) (.cond (.t 19) (.seq (.ops [.i 4 (.mov (.n 1))]) .ret) .skip)) (.seq (.ops [.i 4 (.mov (.n 0))]) .ret))))))))
theorem FS : OkF Tryz.prog 87 20 [] DH [.t 4] := .of Tryz.func87 rfl rfl (by kernel_rfl) rfl
def FJ : IR :=
 (.seq (.ops [.i 2 (.box 81 (.t 0)), .i 4 (.mov (.n 0))]) (.seq (.ops [.f 5 0 2, .l 6 5, .m 7 1, .i 8 (.call 87 [.t 6, .t 7]), .m 4 8]) .ret))
theorem JM : OkF Tryz.prog 98 9 [] FJ [.t 4] := .of Tryz.func98 rfl rfl (by kernel_rfl) rfl
def Am : IR :=
 (.seq (.ops [.i 6 (.mov (.n 0)), .i 7 (.mov (.c (.one (.st (.bool false)))))]) (.seq (.ops [.m 12 0, .i 13 (.len false (.t 12)), .m 8 13]) (.seq (.ops [.m 14 8, .i 9 (.mov (.n 0)), .m 10 14]) (.seq (.block 0 (.loop (.seq (.seq (.ops [.m 15 9, .m 16 10, .i 17 (.bin .lss (.t 15) (.t 16))]) (.cond (.t 17) .skip (.exit 0))) (.block 1 (.seq (.ops [.m 18 9, .m 19 10, .i 20 (.bin .add (.t 18) (.t 19)), .i 21 (.conv .u64 (.t 20)), .i 22 (.bin .shr (.t 21) (.c (.one (.st (.int .u64 1))))), .i 23 (.conv .i64 (.t 22)), .m 11 23]) (.seq (.ops [.m 24 2, .m 25 0, .m 26 11, .i 27 (.indexAddr 3 (.t 25) (.t 26)), .L 28 3 27, .m 29 1, .i 30 (.callV (.t 24) [.t 28, .t 29]), .i 31 (.bin .lss (.t 30) (.n 0))]) (.cond (.t 31) (.ops [.m 32 11, .i 33 (.bin .add (.t 32) (.n 1)), .m 9 33]) (.ops [.m 34 11, .m 10 34])))))))) (.seq (.ops [.m 35 9, .m 36 9, .m 37 8, .i 38 (.bin .lss (.t 36) (.t 37)), .m 39 38, .mk (some 40) (some (39, true)) (.mov (.t 2)) .no, .mk (some 41) (some (39, true)) (.mov (.t 0)) .no, .mk (some 42) (some (39, true)) (.mov (.t 9)) .no, .mk (some 43) (some (39, true)) (.indexAddr 3 (.t 41) (.t 42)) .no, .mk (some 44) (some (39, true)) (.load true 3 (.t 43)) .no, .mk (some 45) (some (39, true)) (.mov (.t 1)) .no, .mk (some 46) (some (39, true)) (.callV (.t 40) [.t 44, .t 45]) .no, .mk (some 47) (some (39, true)) (.bin .eql (.t 46) (.n 0)) .no, .i 48 (.pick (.t 39) (.t 47) (.c (.one (.st (.bool false))))), .m 6 35, .m 7 48]) .ret)))))
theorem A8 : OkF Tryz.prog 97 49 [] Am [.t 6, .t 7] := .of Tryz.func97 rfl rfl (by kernel_rfl) rfl
def Gh : IR :=
 (.seq (.ops [.i 4 (.alloc 29 [.st (.str (ByteArray.mk (#[]))), .full []]), .i 5 (.mov (.c (.one (.st (.bool false)))))]) (.seq (.ops [.m 9 0, .m 10 1, .i 11 (.call 97 [.t 9, .t 10, .c (.one (.fn 98 []))]), .m 8 11, .i 12 (.extract 0 (.t 8)), .i 13 (.extract 1 (.t 8)), .m 6 12, .m 7 13]) (.seq (.seq (.ops [.m 14 7, .i 15 (.un .not (.t 14))]) (.cond (.t 15) (.seq (.ops [.i 16 (.build [.st (.str (ByteArray.mk (#[]))), .full []] []), .s 2 4 16, .i 5 (.mov (.c (.one (.st (.bool false)))))]) .ret) .skip)) (.seq (.ops [.m 17 0, .m 18 6, .i 19 (.indexAddr 3 (.t 17) (.t 18)), .f 20 1 19, .L 21 2 20, .s 2 4 21, .i 5 (.mov (.c (.one (.st (.bool true)))))]) .ret))))
theorem LC : OkF Tryz.prog 88 22 [] Gh [.cell 4 true 2, .t 5] := .of Tryz.func88 rfl rfl (by kernel_rfl) rfl
def Be : IR :=
 (.seq (.ops [.i 4 (.box 29 (.t 1)), .i 6 (.alloc 29 [.st (.str (ByteArray.mk (#[]))), .full []])]) (.seq (.seq (.ops [.m 12 2]) (.cond (.t 12) (.seq (.ops [.m 14 0, .i 15 (.nilCheck (.t 14)), .f 16 0 15, .l 17 16, .f 18 0 4, .l 19 18, .i 20 (.call 88 [.t 17, .t 19]), .m 13 20, .i 21 (.extract 0 (.t 13)), .i 22 (.extract 1 (.t 13)), .i 7 (.alloc 29 [.st (.str (ByteArray.mk (#[]))), .full []]), .s 2 7 21, .m 8 22]) (.seq (.ops [.m 23 8]) (.cond (.t 23) (.seq (.ops [.m 24 0, .L 25 2 7, .i 26 (.callS 71 [.t 24, .t 25, .c (.one (.st (.bool false)))]), .s 2 6 26]) .ret) .skip))) .skip)) (.seq (.seq (.ops [.m 27 0, .i 28 (.nilCheck (.t 27)), .f 29 1 28, .l 30 29, .i 31 (.bin .sub (.t 30) (.n 1)), .i 32 (.nilCheck (.t 27)), .f 33 1 32, .s 1 33 31]) (.seq (.ops [.m 34 0, .i 35 (.nilCheck (.t 34)), .f 36 1 35, .l 37 36, .i 38 (.bin .lss (.t 37) (.n 0))]) (.cond (.t 38) (.seq (.ops [.i 39 (.build [.st (.str (ByteArray.mk (#[]))), .full []] []), .s 2 6 39]) .ret) .skip))) (.seq (.ops [.f 40 0 4, .l 41 40, .i 42 (.build [.st (.str (ByteArray.mk (#[]))), .full []] [(0, 1, .t 41)]), .i 9 (.alloc 29 [.st (.str (ByteArray.mk (#[]))), .full []]), .s 2 9 42]) (.seq (.seq (.ops [.f 43 1 4, .l 44 43, .i 45 (.len false (.t 44)), .i 46 (.mov (.n 0))]) (.block 0 (.loop (.seq (.ops [.i 47 (.bin .lss (.t 46) (.t 45))]) (.seq (.cond (.t 47) .skip (.exit 0)) (.seq (.block 1 (.seq (.ops [.i 48 (.indexAddr 2 (.t 44) (.t 46)), .L 49 2 48, .i 11 (.alloc 29 [.st (.str (ByteArray.mk (#[]))), .full []]), .s 2 11 49]) (.seq (.ops [.mk (some 50) none (.fieldAddr 1 (.t 9)) (.onb 9), .mk (some 51) none (.load false 1 (.t 50)) (.onb 9), .m 52 0, .L 53 2 11, .m 54 2, .mk (some 55) none (.callS 71 [.t 52, .t 53, .t 54]) (.keeps [9, 9]), .i 56 (.buildSlice false 29 2 [.t 55]), .i 57 (.append false 29 2 40 (.t 51) (.t 56)), .f 58 1 9, .s 1 58 57]) (.seq (.ops [.m 59 0, .i 60 (.nilCheck (.t 59)), .f 61 1 60, .l 62 61, .i 63 (.bin .lss (.t 62) (.n 0))]) (.cond (.t 63) (.seq (.ops [.i 64 (.build [.st (.str (ByteArray.mk (#[]))), .full []] []), .s 2 6 64]) .ret) .skip))))) (.ops [.i 65 (.bin .add (.t 46) (.n 1)), .m 46 65]))))))) (.seq (.ops [.L 66 2 9, .s 2 6 66]) .ret))))))
theorem CB : OkF Tryz.prog 71 67 [26, 55] Be [.cell 6 true 2] := .of Tryz.func71 rfl rfl (by kernel_rfl) rfl
def I_ : IR :=
 (.seq (.ops [.i 3 (.box 29 (.t 1)), .i 4 (.alloc 29 [.st (.str (ByteArray.mk (#[]))), .full []]), .i 5 (.mov (.c (.one (.st (.bool false)))))]) (.seq (.ops [.m 8 0, .i 9 (.build [.full [], .st (.int .i64 0)] [(0, 1, .t 8), (1, 1, .n 2000)]), .i 10 (.box 95 (.t 9)), .m 6 10]) (.seq (.ops [.m 11 6, .L 12 2 3, .i 13 (.callS 71 [.t 11, .t 12, .c (.one (.st (.bool true)))]), .i 7 (.alloc 29 [.st (.str (ByteArray.mk (#[]))), .full []]), .s 2 7 13]) (.seq (.ops [.L 14 2 7, .m 15 6, .mk (some 16) none (.nilCheck (.t 15)) (.onb 10), .mk (some 17) none (.fieldAddr 1 (.t 16)) (.onb 10), .mk (some 18) none (.load false 1 (.t 17)) (.onb 10), .i 19 (.bin .geq (.t 18) (.n 0)), .mk none none (.store 2 (.t 4) (.t 14)) (.onb 4), .m 5 19]) .ret))))
theorem N7 : OkF Tryz.prog 49 20 [13, 10060010] I_ [.cell 4 true 2, .t 5] := .of Tryz.func49 rfl rfl (by kernel_rfl) rfl

set_option linter.unusedVariables false
set_option linter.unusedSimpArgs false
set_option maxHeartbeats 400000
theorem Nb (l : List Bd) (n : ByteArray) : AQ Tryz.prog 79 [Dc l, Bi n] (.tup [aTm ((lookup l n).getD Tm.nil), Ab (lookup l n).isSome]) := by
 refine TN.ac fun C hC => ?_
 unfold Nc
 refine IWP.learn 0 (by omega) fun hkn => ?_
 have hkn := Dt hkn
 rw [List.length_map] at hkn
 repeat' with_reducible first | refine W ?_ | refine Z0 ?_ | ((first | refine Wo fun K hK => ?_ | refine Wq ?_ | refine Wr ?_); (try simp only [go_sem, fN, seval, eT, iR]); (repeat refine Ai ?_); (try (refine hK _ ?_; clear hK K)))
 refine IWP.loop (fun m s => ∃ k, k ≤ l.length ∧ m = l.length - k ∧ (∀ c ∈ l.take k, c.1 ≠ n) ∧ s.env 0 = Dc l ∧ s.env 1 = Bi n ∧ s.env 4 = .one (.ptr 4 1 0 0) ∧ s.S 4 = some (.box 29 [.st (.str ⟨#[]⟩), .full []]) ∧ s.env 6 = AK k) l.length ⟨0, Nat.zero_le _, rfl, by simp, rfl, rfl, rfl, rfl, rfl⟩ ?_
 rintro m ⟨env, S⟩ ⟨k, hk, rfl, h0, e0, e1, e4, s4, e6⟩
 simp only at e0 e1 e4 s4 e6
 by_cases hlt : (k : Int) < l.length
 ·obtain ⟨b, hb⟩ := AT (show k < l.length by omega)
  repeat' with_reducible first | refine W ?_ | refine Z0 ?_ | ((first | refine Wo fun K hK => ?_ | refine Wq ?_ | refine Wr ?_); (try simp only [go_sem, fN, seval, eT, iR, e0, e1, e4, s4, e6, hlt]); (repeat refine Ai ?_); (try (refine hK _ ?_; clear hK K)))
  with_reducible refine Wp ?_
  simp only [go_sem, fN, seval, true_implies, false_implies, implies_true, dT, dF, nL, hlt]
  (try with_reducible refine iC ?_)
  repeat' with_reducible first | refine W ?_ | refine Z0 ?_ | ((first | refine Wo fun K hK => ?_ | refine Wq ?_ | refine Wr ?_); (try simp only [go_sem, fN, seval, eT, iR, e0, e1, e4, s4, e6, hb, BG]); (repeat refine Ai ?_); (try (refine hK _ ?_; clear hK K)))
  by_cases he : b.1 = n
  ·with_reducible refine Wp ?_
   simp only [go_sem, fN, seval, true_implies, false_implies, implies_true, dT, dF, nL, he]
   (try with_reducible refine iC ?_)
   repeat' with_reducible first | refine W ?_ | refine Z0 ?_ | ((first | refine Wo fun K hK => ?_ | refine Wq ?_ | refine Wr ?_); (try simp only [go_sem, fN, seval, eT, iR, e0, e1, e4, s4, e6, hb, BG]); (repeat refine Ai ?_); (try (refine hK _ ?_; clear hK K)))
   simp only [go_sem, fN, seval, AJ, AS.result, AA, AB, AH, e4]
   rw [Ij hb he h0]
   rfl
  ·with_reducible refine Wp ?_
   simp only [go_sem, fN, seval, true_implies, false_implies, implies_true, dT, dF, nL, he]
   (try with_reducible refine iC ?_)
   repeat' with_reducible first | refine W ?_ | refine Z0 ?_ | ((first | refine Wo fun K hK => ?_ | refine Wq ?_ | refine Wr ?_); (try simp only [go_sem, fN, seval, eT, iR, e0, e1, e4, s4, e6]); (repeat refine Ai ?_); (try (refine hK _ ?_; clear hK K)))
   refine AE ⟨l.length - (k + 1), by omega, k + 1, by omega, rfl, ?_, ?_⟩
   ·rw [AY hb]
    intro c hc
    rcases List.mem_append.1 hc with hc | hc
    ·exact h0 c hc
    ·rw [List.mem_singleton.1 hc]; exact he
   ·simp only [go_sem, fN, seval, eT, iR, e0, e1, e4, s4, e6]
    congr 3
 ·repeat' with_reducible first | refine W ?_ | refine Z0 ?_ | ((first | refine Wo fun K hK => ?_ | refine Wq ?_ | refine Wr ?_); (try simp only [go_sem, fN, seval, eT, iR, e0, e1, e4, s4, e6, hlt]); (repeat refine Ai ?_); (try (refine hK _ ?_; clear hK K)))
  with_reducible refine Wp ?_
  simp only [go_sem, fN, seval, true_implies, false_implies, implies_true, dT, dF, nL, hlt]
  (try with_reducible refine iC ?_)
  repeat' with_reducible first | refine W ?_ | refine Z0 ?_ | ((first | refine Wo fun K hK => ?_ | refine Wq ?_ | refine Wr ?_); (try simp only [go_sem, fN, seval, eT, iR, e0, e1, e4, s4, e6]); (repeat refine Ai ?_); (try (refine hK _ ?_; clear hK K)))
  simp only [go_sem, fN, seval, AJ, AS.result, AA, AB, AH, e4]
  rw [List.take_of_length_le (by omega)] at h0
  rw [C3 h0]
  rfl
theorem Qu (a : ByteArray) : AQ Tryz.prog 96 [Bi a] (Ab false) := by
 refine GR.ac fun C hC => ?_
 unfold Dk
 repeat' with_reducible first | refine W ?_ | refine Z0 ?_ | ((first | refine Wo fun K hK => ?_ | refine Wq ?_ | refine Wr ?_); (try simp only [go_sem, fN, seval, eT, iR]); (repeat refine Ai ?_); (try (refine hK _ ?_; clear hK K)))
 simp only [go_sem, fN, seval, AJ, AS.result, AA, AB, AH]
theorem Rk (a b : ByteArray) : AQ Tryz.prog 87 [Bi a, Bi b] (AK (FB a b)) := by
 refine FS.ac fun C hC => ?_
 unfold DH
 repeat' (first | (with_reducible first | refine W ?_ | refine Z0 ?_ | ((first | refine Wo fun K hK => ?_ | refine Wq ?_ | refine Wr ?_); (try simp only [go_sem, fN, seval, eT, iR]); (repeat refine Ai ?_); (try (refine hK _ ?_; clear hK K)))) | refine Cg _ (Qu a) ?_ | refine Cg _ (Qu b) ?_)
 with_reducible refine Wp ?_
 simp only [go_sem, fN, seval, true_implies, false_implies, implies_true, dT, dF, nL]
 (try with_reducible refine iC ?_)
 repeat' with_reducible first | refine W ?_ | refine Z0 ?_ | ((first | refine Wo fun K hK => ?_ | refine Wq ?_ | refine Wr ?_); (try simp only [go_sem, fN, seval, eT, iR]); (repeat refine Ai ?_); (try (refine hK _ ?_; clear hK K)))
 with_reducible refine Wp ?_
 simp only [go_sem, fN, seval, true_implies, false_implies, implies_true, dT, dF, nL]
 (try with_reducible refine iC ?_)
 repeat' with_reducible first | refine W ?_ | refine Z0 ?_ | ((first | refine Wo fun K hK => ?_ | refine Wq ?_ | refine Wr ?_); (try simp only [go_sem, fN, seval, eT, iR]); (repeat refine Ai ?_); (try (refine hK _ ?_; clear hK K)))
 unfold FB
 cases h : sLt a b with
 | true =>
  with_reducible refine Wp ?_
  simp only [go_sem, fN, seval, true_implies, false_implies, implies_true, dT, dF, nL]
  (try with_reducible refine iC ?_)
  repeat' with_reducible first | refine W ?_ | refine Z0 ?_ | ((first | refine Wo fun K hK => ?_ | refine Wq ?_ | refine Wr ?_); (try simp only [go_sem, fN, seval, eT, iR]); (repeat refine Ai ?_); (try (refine hK _ ?_; clear hK K)))
  simp only [go_sem, fN, seval, AJ, AS.result, AA, AB, AH]
 | false =>
  with_reducible refine Wp ?_
  simp only [go_sem, fN, seval, true_implies, false_implies, implies_true, dT, dF, nL]
  (try with_reducible refine iC ?_)
  by_cases he : a = b
  ·repeat' with_reducible first | refine W ?_ | refine Z0 ?_ | ((first | refine Wo fun K hK => ?_ | refine Wq ?_ | refine Wr ?_); (try simp only [go_sem, fN, seval, eT, iR, h, he, Bool.or_true, Bool.or_false]); (repeat refine Ai ?_); (try (refine hK _ ?_; clear hK K)))
   with_reducible refine Wp ?_
   simp only [go_sem, fN, seval, true_implies, false_implies, implies_true, dT, dF, nL, h, he, Bool.or_true, Bool.or_false]
   (try with_reducible refine iC ?_)
   repeat' with_reducible first | refine W ?_ | refine Z0 ?_ | ((first | refine Wo fun K hK => ?_ | refine Wq ?_ | refine Wr ?_); (try simp only [go_sem, fN, seval, eT, iR]); (repeat refine Ai ?_); (try (refine hK _ ?_; clear hK K)))
   simp only [go_sem, fN, seval, AJ, AS.result, AA, AB, AH, h, he]
  ·repeat' with_reducible first | refine W ?_ | refine Z0 ?_ | ((first | refine Wo fun K hK => ?_ | refine Wq ?_ | refine Wr ?_); (try simp only [go_sem, fN, seval, eT, iR, h, he, Bool.or_true, Bool.or_false]); (repeat refine Ai ?_); (try (refine hK _ ?_; clear hK K)))
   with_reducible refine Wp ?_
   simp only [go_sem, fN, seval, true_implies, false_implies, implies_true, dT, dF, nL, h, he, Bool.or_true, Bool.or_false]
   (try with_reducible refine iC ?_)
   repeat' with_reducible first | refine W ?_ | refine Z0 ?_ | ((first | refine Wo fun K hK => ?_ | refine Wq ?_ | refine Wr ?_); (try simp only [go_sem, fN, seval, eT, iR]); (repeat refine Ai ?_); (try (refine hK _ ?_; clear hK K)))
   simp only [go_sem, fN, seval, AJ, AS.result, AA, AB, AH, h, he]
theorem VI (b : Bd) (n : ByteArray) : AQ Tryz.prog 98 [aBd b, Bi n] (AK (FB b.1 n)) := by
 refine JM.ac fun C hC => ?_
 unfold FJ
 repeat' (first | (with_reducible first | refine W ?_ | refine Z0 ?_ | ((first | refine Wo fun K hK => ?_ | refine Wq ?_ | refine Wr ?_); (try simp only [go_sem, fN, seval, eT, iR]); (repeat refine Ai ?_); (try (refine hK _ ?_; clear hK K)))) | refine Cg _ (Rk b.1 n) ?_)
 simp only [go_sem, fN, seval, AJ, AS.result, AA, AB, AH]
theorem CL {a b : ByteArray} : FB a b < 0 ↔ sLt a b = true := by
 unfold FB
 split
 ·rename_i h; simp [h]
 ·rename_i h
  split <;> simp [h]
theorem MO {a b : ByteArray} : FB a b = 0 ↔ a = b := by
 unfold FB
 split
 ·rename_i h
  constructor
  ·intro h'; cases h'
  ·intro e; subst e; rw [DP] at h; cases h
 ·split <;> simp_all
def CJ (l : List Bd) (n : ByteArray) (i : Nat) : Bool := match l[i]? with
 | some b => decide (b.1 = n)
 | none => false
theorem JY (b : Bd) (n : ByteArray) (S : AD) : An Tryz.prog 98 [aBd b, Bi n] S (AK (FB b.1 n)) S := (VI b n).toS rfl
theorem Wt {i j : Nat} (h : i < j) : (((i : Int) + j).fdiv 2) = (((i + j) / 2 : Nat) : Int) ∧ i ≤ (i + j) / 2 ∧ (i + j) / 2 < j := by
 refine ⟨?_, by omega, by omega⟩
 rw [Int.fdiv_eq_ediv_of_nonneg _ (by omega)]
 omega
theorem Qq (n : Int) : inR .u64 n ↔ 0 ≤ n ∧ n ≤ 18446744073709551615 := by
 simp [inR, IntKind.min, IntKind.max, IntKind.signed, IntKind.bits]
theorem Ng (l : List Bd) (h40 : l.length ≤ 100000) (ho : BA l) (n : ByteArray) :
  ∃ i : Nat, i ≤ l.length ∧ (∀ k b, l[k]? = some b → k < i → sLt b.1 n = true) ∧ (∀ k b, l[k]? = some b → i ≤ k → sLt b.1 n = false) ∧
   AQ Tryz.prog 97 [Dc l, Bi n, .one (.fn 98 [])] (.tup [AK i, Ab (CJ l n i)]) := by
 obtain ⟨i0, hi0, hlo, hhi⟩ : ∃ i : Nat, i ≤ l.length ∧ (∀ k b, l[k]? = some b → k < i → sLt b.1 n = true) ∧ (∀ k b, l[k]? = some b → i ≤ k → sLt b.1 n = false) := by
  clear h40
  induction l with
  | nil => exact ⟨0, by simp, by simp, by simp⟩
  | cons c l ih =>
   obtain ⟨o1, o2⟩ := List.pairwise_cons.1 ho
   obtain ⟨i, q1, q2, q3⟩ := ih o2
   cases hc : sLt c.1 n with
   | true =>
    refine ⟨i + 1, by simp; omega, fun k b hk hki => ?_, fun k b hk hki => ?_⟩
    ·cases k with
     | zero => simp at hk; subst hk; exact hc
     | succ k => exact q2 k b (by simpa using hk) (by omega)
    ·cases k with
     | zero => omega
     | succ k => exact q3 k b (by simpa using hk) (by omega)
   | false =>
    refine ⟨0, by simp, fun k b hk hki => by omega, fun k b hk hki => ?_⟩
    cases k with
    | zero => simp at hk; subst hk; exact hc
    | succ k =>
     have hm := AI (show l[k]? = some b by simpa using hk)
     cases hb : sLt b.1 n with
     | false => rfl
     | true => have := Dy (o1 b hm) hb; rw [hc] at this; cases this
 refine ⟨i0, hi0, hlo, hhi, ?_⟩
 have hplain : CT Tryz.prog 98 = true := by kernel_rfl
 refine A8.ac fun C hC => ?_
 unfold Am
 repeat' with_reducible first | refine W ?_ | refine Z0 ?_ | ((first | refine Wo fun K hK => ?_ | refine Wq ?_ | refine Wr ?_); (try simp only [go_sem, fN, seval, eT, iR]); (repeat refine Ai ?_); (try (refine hK _ ?_; clear hK K)))
 refine IWP.loop (fun m s => ∃ i j : Nat, i ≤ i0 ∧ i0 ≤ j ∧ j ≤ l.length ∧ m = j - i ∧ s.env 0 = Dc l ∧ s.env 1 = Bi n ∧ s.env 2 = .one (.fn 98 []) ∧ s.env 8 = AK l.length ∧ s.env 9 = AK i ∧ s.env 10 = AK j) l.length ⟨0, l.length, Nat.zero_le _, hi0, Nat.le_refl _, rfl, rfl, rfl, rfl, rfl, rfl, rfl⟩ ?_
 rintro m ⟨env, S⟩ ⟨i, j, hi, hj, hjl, rfl, e0, e1, e2, e8, e9, e10⟩
 simp only at e0 e1 e2 e8 e9 e10
 by_cases hlt : (i : Int) < j
 ·obtain ⟨z1, z2, z3⟩ := Wt (show i < j by omega)
  obtain ⟨b, hb⟩ := AT (show (i + j) / 2 < l.length by omega)
  repeat' with_reducible first | refine W ?_ | refine Z0 ?_ | ((first | refine Wo fun K hK => ?_ | refine Wq ?_ | refine Wr ?_); (try simp only [go_sem, fN, seval, eT, iR, e0, e1, e2, e8, e9, e10, hlt]); (repeat refine Ai ?_); (try (refine hK _ ?_; clear hK K)))
  with_reducible refine Wp ?_
  simp only [go_sem, fN, seval, true_implies, false_implies, implies_true, dT, dF, nL, hlt]
  (try with_reducible refine iC ?_)
  have hbits : (1 : Nat) ≤ IntKind.u64.bits := by show 1 ≤ 64; omega
  repeat' with_reducible first | refine W ?_ | refine Z0 ?_ | ((first | refine Wo fun K hK => ?_ | refine Wq ?_ | refine Wr ?_); (try simp only [go_sem, fN, seval, eT, iR, e0, e1, e2, e8, e9, e10, hlt, z1, Qq, hbits, hb, BG, hplain]); (repeat refine Ai ?_); (try (refine hK _ ?_; clear hK K)))
  refine ⟨_, _, JY b n _, ?_⟩
  cases hc : sLt b.1 n with
  | true =>
   have hneg : FB b.1 n < 0 := CL.2 hc
   repeat' with_reducible first | refine W ?_ | refine Z0 ?_ | ((first | refine Wo fun K hK => ?_ | refine Wq ?_ | refine Wr ?_); (try simp only [go_sem, fN, seval, eT, iR, hneg]); (repeat refine Ai ?_); (try (refine hK _ ?_; clear hK K)))
   with_reducible refine Wp ?_
   simp only [go_sem, fN, seval, true_implies, false_implies, implies_true, dT, dF, nL, hneg]
   (try with_reducible refine iC ?_)
   repeat' with_reducible first | refine W ?_ | refine Z0 ?_ | ((first | refine Wo fun K hK => ?_ | refine Wq ?_ | refine Wr ?_); (try simp only [go_sem, fN, seval, eT, iR, e0, e1, e2, e8, e9, e10]); (repeat refine Ai ?_); (try (refine hK _ ?_; clear hK K)))
   refine AE ⟨j - ((i + j) / 2 + 1), by omega, (i + j) / 2 + 1, j, ?_, hj, hjl, rfl, ?_⟩
   ·rcases Nat.lt_or_ge ((i + j) / 2) i0 with h | h
    ·omega
    ·rw [hhi _ b hb h] at hc; cases hc
   ·simp only [go_sem, fN, seval, eT, iR, e0, e1, e2, e8, e9, e10]
    congr 3
  | false =>
   have hneg : ¬ FB b.1 n < 0 := fun h => by rw [CL.1 h] at hc; cases hc
   repeat' with_reducible first | refine W ?_ | refine Z0 ?_ | ((first | refine Wo fun K hK => ?_ | refine Wq ?_ | refine Wr ?_); (try simp only [go_sem, fN, seval, eT, iR, hneg]); (repeat refine Ai ?_); (try (refine hK _ ?_; clear hK K)))
   with_reducible refine Wp ?_
   simp only [go_sem, fN, seval, true_implies, false_implies, implies_true, dT, dF, nL, hneg]
   (try with_reducible refine iC ?_)
   repeat' with_reducible first | refine W ?_ | refine Z0 ?_ | ((first | refine Wo fun K hK => ?_ | refine Wq ?_ | refine Wr ?_); (try simp only [go_sem, fN, seval, eT, iR, e0, e1, e2, e8, e9, e10]); (repeat refine Ai ?_); (try (refine hK _ ?_; clear hK K)))
   refine AE ⟨(i + j) / 2 - i, by omega, i, (i + j) / 2, hi, ?_, by omega, rfl, ?_⟩
   ·rcases Nat.lt_or_ge ((i + j) / 2) i0 with h | h
    ·rw [hlo _ b hb h] at hc; cases hc
    ·omega
   ·simp only [go_sem, fN, seval, eT, iR, e0, e1, e2, e8, e9, e10]
 ·have hii : i = i0 := by omega
  subst hii
  have hjj : j = i := by omega
  subst hjj
  repeat' with_reducible first | refine W ?_ | refine Z0 ?_ | ((first | refine Wo fun K hK => ?_ | refine Wq ?_ | refine Wr ?_); (try simp only [go_sem, fN, seval, eT, iR, e0, e1, e2, e8, e9, e10, hlt]); (repeat refine Ai ?_); (try (refine hK _ ?_; clear hK K)))
  with_reducible refine Wp ?_
  simp only [go_sem, fN, seval, true_implies, false_implies, implies_true, dT, dF, nL, hlt]
  (try with_reducible refine iC ?_)
  by_cases hil : (j : Int) < l.length
  ·obtain ⟨b, hb⟩ := AT (show j < l.length by omega)
   repeat' with_reducible first | refine W ?_ | refine Z0 ?_ | ((first | refine Wo fun K hK => ?_ | refine Wq ?_ | refine Wr ?_); (try simp only [go_sem, fN, seval, eT, iR, e0, e1, e2, e8, e9, e10, hil, hb, BG, hplain]); (repeat refine Ai ?_); (try (refine hK _ ?_; clear hK K)))
   refine ⟨_, _, JY b n _, ?_⟩
   repeat' with_reducible first | refine W ?_ | refine Z0 ?_ | ((first | refine Wo fun K hK => ?_ | refine Wq ?_ | refine Wr ?_); (try simp only [go_sem, fN, seval, eT, iR]); (repeat refine Ai ?_); (try (refine hK _ ?_; clear hK K)))
   simp only [go_sem, fN, seval, AJ, AS.result, AA, AB, AH]
   unfold CJ
   rw [hb]
   simp only [MO]
  ·repeat' with_reducible first | refine W ?_ | refine Z0 ?_ | ((first | refine Wo fun K hK => ?_ | refine Wq ?_ | refine Wr ?_); (try simp only [go_sem, fN, seval, eT, iR, e0, e1, e2, e8, e9, e10, hil]); (repeat refine Ai ?_); (try (refine hK _ ?_; clear hK K)))
   simp only [go_sem, fN, seval, AJ, AS.result, AA, AB, AH]
   unfold CJ
   rw [List.getElem?_eq_none (by omega)]
theorem HE {l : List Bd} {n : ByteArray} {i : Nat} (hlo : ∀ k b, l[k]? = some b → k < i → sLt b.1 n = true) (hhi : ∀ k b, l[k]? = some b → i ≤ k → sLt b.1 n = false) (ho : BA l) :
  (∃ b, l[i]? = some b ∧ b.1 = n ∧ lookup l n = some b.2) ∨ (CJ l n i = false ∧ lookup l n = none) := by
 have hlow : ∀ c ∈ l.take i, c.1 ≠ n := fun c hc e => by
  obtain ⟨k, hk, rfl⟩ := List.getElem_of_mem hc
  rw [List.length_take] at hk
  have := hlo k l[k] (List.getElem?_eq_getElem (by omega)) (by omega)
  rw [List.getElem_take] at e
  rw [e, DP] at this
  cases this
 by_cases hil : i < l.length
 ·obtain ⟨b, hb⟩ := AT hil
  by_cases he : b.1 = n
  ·exact .inl ⟨b, hb, he, Ij hb he hlow⟩
  ·refine .inr ⟨by unfold CJ; rw [hb]; exact decide_eq_false he, C3 fun c hc e => ?_⟩
   obtain ⟨k, hk, rfl⟩ := List.getElem_of_mem hc
   have hck := List.getElem?_eq_getElem hk
   rcases Nat.lt_trichotomy k i with h | h | h
   ·have := hlo k _ hck h
    rw [e, DP] at this
    cases this
   ·subst h
    rw [hb] at hck
    cases hck
    exact he e
   ·have h1 := Io ho hb hck h
    rw [e, hhi i b hb (Nat.le_refl _)] at h1
    cases h1
 ·refine .inr ⟨by unfold CJ; rw [List.getElem?_eq_none (by omega)], C3 fun c hc => hlow c ?_⟩
  rw [List.take_of_length_le (by omega)]
  exact hc
theorem Ty (l : List Bd) (h40 : l.length ≤ 100000) (ho : BA l) (n : ByteArray) : AQ Tryz.prog 88 [Dc l, Bi n] (.tup [aTm ((lookup l n).getD Tm.nil), Ab (lookup l n).isSome]) := by
 obtain ⟨i, hi, hlo, hhi, hs⟩ := Ng l h40 ho n
 refine LC.ac fun C hC => ?_
 unfold Gh
 repeat' with_reducible first | refine W ?_ | refine Z0 ?_ | ((first | refine Wo fun K hK => ?_ | refine Wq ?_ | refine Wr ?_); (try simp only [go_sem, fN, seval, eT, iR]); (repeat refine Ai ?_); (try (refine hK _ ?_; clear hK K)))
 refine ⟨_, hs, ?_⟩
 rcases HE hlo hhi ho with ⟨b, hb, he, hl⟩ | ⟨hf, hl⟩
 ·have hf : CJ l n i = true := by unfold CJ; rw [hb]; exact decide_eq_true he
  repeat' with_reducible first | refine W ?_ | refine Z0 ?_ | ((first | refine Wo fun K hK => ?_ | refine Wq ?_ | refine Wr ?_); (try simp only [go_sem, fN, seval, eT, iR, hf]); (repeat refine Ai ?_); (try (refine hK _ ?_; clear hK K)))
  with_reducible refine Wp ?_
  simp only [go_sem, fN, seval, true_implies, false_implies, implies_true, dT, dF, nL, hf]
  (try with_reducible refine iC ?_)
  repeat' with_reducible first | refine W ?_ | refine Z0 ?_ | ((first | refine Wo fun K hK => ?_ | refine Wq ?_ | refine Wr ?_); (try simp only [go_sem, fN, seval, eT, iR, hb, BG]); (repeat refine Ai ?_); (try (refine hK _ ?_; clear hK K)))
  simp only [go_sem, fN, seval, AJ, AS.result, AA, AB, AH]
  rw [hl]
  rfl
 ·repeat' with_reducible first | refine W ?_ | refine Z0 ?_ | ((first | refine Wo fun K hK => ?_ | refine Wq ?_ | refine Wr ?_); (try simp only [go_sem, fN, seval, eT, iR, hf]); (repeat refine Ai ?_); (try (refine hK _ ?_; clear hK K)))
  with_reducible refine Wp ?_
  simp only [go_sem, fN, seval, true_implies, false_implies, implies_true, dT, dF, nL, hf]
  (try with_reducible refine iC ?_)
  repeat' with_reducible first | refine W ?_ | refine Z0 ?_ | ((first | refine Wo fun K hK => ?_ | refine Wq ?_ | refine Wr ?_); (try simp only [go_sem, fN, seval, eT, iR]); (repeat refine Ai ?_); (try (refine hK _ ?_; clear hK K)))
  simp only [go_sem, fN, seval, AJ, AS.result, AA, AB, AH]
  rw [hl]
  rfl

theorem Q7 (s : List Bd) (t : Tm) (hz : t.size ≤ 1000000) : AQ Tryz.prog 59 [Dc s, aTm t] (aTm (t.on s)) := by
 induction h : SizeOf.sizeOf t using Nat.strongRecOn generalizing t with
 | _ N ih =>
 subst h
 have hs := Tm.size_eq t
 have hkn := Tm.length_le t.args
 by_cases hleaf : (∃ x, lookup s t.name = some x) ∧ t.args = []
 ·obtain ⟨⟨x, hx⟩, h0⟩ := hleaf
  have h0' : (t.args.length : Int) = 0 := by rw [h0]; rfl
  rw [Tm.on_leaf hx h0]
  refine Qg.ac fun C hC => ?_
  unfold Mt
  repeat' (first | (with_reducible first | refine W ?_ | refine Z0 ?_ | ((first | refine Wo fun K hK => ?_ | refine Wq ?_ | refine Wr ?_); (try simp only [go_sem, fN, seval, eT, iR, hx, h0', Option.isSome_some]); (repeat refine Ai ?_); (try (refine hK _ ?_; clear hK K)))) | refine Cg _ (Nb s t.name) ?_)
  with_reducible refine Wp ?_
  simp only [go_sem, fN, seval, true_implies, false_implies, implies_true, dT, dF, nL]
  (try with_reducible refine iC ?_)
  repeat' with_reducible first | refine W ?_ | refine Z0 ?_ | ((first | refine Wo fun K hK => ?_ | refine Wq ?_ | refine Wr ?_); (try simp only [go_sem, fN, seval, eT, iR]); (repeat refine Ai ?_); (try (refine hK _ ?_; clear hK K)))
  simp only [go_sem, fN, seval, AJ, AS.result, AA, AB, AH]
 ·have hon : t.on s = .mk t.name (t.args.map (Tm.on s)) := Tm.on_knot (by
   cases hl : lookup s t.name with
   | none => exact .inl rfl
   | some x => exact .inr fun h0 => hleaf ⟨⟨x, hl⟩, h0⟩)
  rw [hon]
  refine Qg.ac fun C hC => ?_
  unfold Mt
  repeat' with_reducible first | refine W ?_ | refine Z0 ?_ | ((first | refine Wo fun K hK => ?_ | refine Wq ?_ | refine Wr ?_); (try simp only [go_sem, fN, seval, eT, iR]); (repeat refine Ai ?_); (try (refine hK _ ?_; clear hK K)))
  refine ⟨_, Nb s t.name, ?_⟩
  cases hl : lookup s t.name
  case' none =>
   repeat' with_reducible first | refine W ?_ | refine Z0 ?_ | ((first | refine Wo fun K hK => ?_ | refine Wq ?_ | refine Wr ?_); (try simp only [go_sem, fN, seval, eT, iR, hl, Option.isSome_none]); (repeat refine Ai ?_); (try (refine hK _ ?_; clear hK K)))
   with_reducible refine Wp ?_
   simp only [go_sem, fN, seval, true_implies, false_implies, implies_true, dT, dF, nL]
   (try with_reducible refine iC ?_)
   repeat' with_reducible first | refine W ?_ | refine Z0 ?_ | ((first | refine Wo fun K hK => ?_ | refine Wq ?_ | refine Wr ?_); (try simp only [go_sem, fN, seval, eT, iR]); (repeat refine Ai ?_); (try (refine hK _ ?_; clear hK K)))
  case' some x =>
   have h0' : ¬ (t.args.length : Int) = 0 := fun h => hleaf ⟨⟨_, hl⟩, List.eq_nil_of_length_eq_zero (by omega)⟩
   repeat' with_reducible first | refine W ?_ | refine Z0 ?_ | ((first | refine Wo fun K hK => ?_ | refine Wq ?_ | refine Wr ?_); (try simp only [go_sem, fN, seval, eT, iR, hl, h0', Option.isSome_some]); (repeat refine Ai ?_); (try (refine hK _ ?_; clear hK K)))
   with_reducible refine Wp ?_
   simp only [go_sem, fN, seval, true_implies, false_implies, implies_true, dT, dF, nL]
   (try with_reducible refine iC ?_)
   repeat' with_reducible first | refine W ?_ | refine Z0 ?_ | ((first | refine Wo fun K hK => ?_ | refine Wq ?_ | refine Wr ?_); (try simp only [go_sem, fN, seval, eT, iR]); (repeat refine Ai ?_); (try (refine hK _ ?_; clear hK K)))
  all_goals
   refine IWP.ghost (Af.ownC 7 1 44 29 2 (xs := ([] : List Tm).map Ap) rfl rfl rfl CS) ?_
   refine IWP.loop (fun m x => ∃ k, k ≤ t.args.length ∧ m = t.args.length - k ∧ x.env 0 = Dc s ∧ x.env 3 = .one (.ptr 3 1 0 0) ∧ x.env 4 = .one (.ptr 4 1 0 0) ∧ x.env 7 = .one (.ptr 7 1 0 0) ∧ x.S 3 = some (.box 29 [.st (.str t.name), .st (.list (t.args.map Ap))]) ∧ x.S 4 = some (.box 29 [.st (.str ⟨#[]⟩), .full []]) ∧ x.S 7 = some (.box 29 [.st (.str t.name), .row 44 k]) ∧ x.S 44 = some (.arow 29 2 (((t.args.take k).map (Tm.on s)).map Ap)) ∧ x.env 8 = AK k)
    t.args.length ⟨0, Nat.zero_le _, rfl, rfl, rfl, rfl, rfl, rfl, rfl, rfl, rfl, rfl⟩ ?_
   rintro m ⟨env, S⟩ ⟨k, hk, rfl, e0, e3, e4, e7, s3, s4, s7, s44, e8⟩
   simp only at e0 e3 e4 e7 s3 s4 s7 s44 e8
   have hlk : (t.args.take k).length = k := by rw [List.length_take]; omega
   by_cases hlt : (k : Int) < t.args.length
   ·obtain ⟨a, ha⟩ := AT (show k < t.args.length by omega)
    repeat' with_reducible first | refine W ?_ | refine Z0 ?_ | ((first | refine Wo fun K hK => ?_ | refine Wq ?_ | refine Wr ?_); (try simp only [go_sem, fN, seval, eT, iR, e0, e3, e4, e7, s3, s4, s7, s44, e8, hlt]); (repeat refine Ai ?_); (try (refine hK _ ?_; clear hK K)))
    with_reducible refine Wp ?_
    simp only [go_sem, fN, seval, true_implies, false_implies, implies_true, dT, dF, nL, hlt]
    (try with_reducible refine iC ?_)
    repeat' (first | (with_reducible first | refine W ?_ | refine Z0 ?_ | ((first | refine Wo fun K hK => ?_ | refine Wq ?_ | refine Wr ?_); (try simp only [go_sem, fN, seval, eT, iR, e0, e3, e4, e7, s3, s4, s7, s44, e8, ha, hlk]); (repeat refine Ai ?_); (try (refine hK _ ?_; clear hK K)))) | refine Cg _ (ih _ (Tm.lt_of_arg (AI ha)) a (by have := Tm.size_mem (AI ha); omega) rfl) ?_)
    refine AE ⟨t.args.length - (k + 1), by omega, k + 1, by omega, rfl, ?_⟩
    simp only [go_sem, fN, seval, eT, iR, e0, e3, e4, e7, s3, s4, s7, s44, e8]
    exact ⟨by rw [AY ha]; simp [BC], by congr 3⟩
   ·repeat' with_reducible first | refine W ?_ | refine Z0 ?_ | ((first | refine Wo fun K hK => ?_ | refine Wq ?_ | refine Wr ?_); (try simp only [go_sem, fN, seval, eT, iR, e0, e3, e4, e7, s3, s4, s7, s44, e8, hlt]); (repeat refine Ai ?_); (try (refine hK _ ?_; clear hK K)))
    with_reducible refine Wp ?_
    simp only [go_sem, fN, seval, true_implies, false_implies, implies_true, dT, dF, nL, hlt]
    (try with_reducible refine iC ?_)
    have hall : t.args.take k = t.args := List.take_of_length_le (by omega)
    rw [hall] at hlk s44
    repeat' with_reducible first | refine W ?_ | refine Z0 ?_ | ((first | refine Wo fun K hK => ?_ | refine Wq ?_ | refine Wr ?_); (try simp only [go_sem, fN, seval, eT, iR, e0, e3, e4, e7, s3, s4, s7, s44, e8, hlk]); (repeat refine Ai ?_); (try (refine hK _ ?_; clear hK K)))
    simp only [go_sem, fN, seval, AJ, AS.result, AA, AB, AH, e4, s44, hlk]
    rfl
theorem RN (s : List Bd) (t : Tm) (m : Int) (h0 : 0 ≤ m) (h1 : m ≤ 9223372036854775806) : AQ Tryz.prog 61 [Dc s, aTm t, AK m] (AK (BE (t.on s).size m)) := by
 induction h : SizeOf.sizeOf t using Nat.strongRecOn generalizing t m with
 | _ N ih =>
 subst h
 by_cases hleaf : (∃ x, lookup s t.name = some x) ∧ t.args = []
 ·obtain ⟨⟨x, hx⟩, ha0⟩ := hleaf
  have h0' : (t.args.length : Int) = 0 := by rw [ha0]; rfl
  rw [Tm.on_leaf hx ha0]
  refine Jt.ac fun C hC => ?_
  unfold G6
  repeat' (first | (with_reducible first | refine W ?_ | refine Z0 ?_ | ((first | refine Wo fun K hK => ?_ | refine Wq ?_ | refine Wr ?_); (try simp only [go_sem, fN, seval, eT, iR, hx, h0', Option.isSome_some]); (repeat refine Ai ?_); (try (refine hK _ ?_; clear hK K)))) | refine Cg _ (Nb s t.name) ?_)
  with_reducible refine Wp ?_
  simp only [go_sem, fN, seval, true_implies, false_implies, implies_true, dT, dF, nL]
  (try with_reducible refine iC ?_)
  repeat' (first | (with_reducible first | refine W ?_ | refine Z0 ?_ | ((first | refine Wo fun K hK => ?_ | refine Wq ?_ | refine Wr ?_); (try simp only [go_sem, fN, seval, eT, iR]); (repeat refine Ai ?_); (try (refine hK _ ?_; clear hK K)))) | refine Cg _ (GL x m h0 h1) ?_)
  simp only [go_sem, fN, seval, AJ, AS.result, AA, AB, AH]
 ·have hon : t.on s = .mk t.name (t.args.map (Tm.on s)) := Tm.on_knot (by
   cases hl : lookup s t.name with
   | none => exact .inl rfl
   | some x => exact .inr fun h0 => hleaf ⟨⟨x, hl⟩, h0⟩)
  have hs : (t.on s).size = 1 + Tm.sizes (t.args.map (Tm.on s)) := by rw [hon]; rfl
  refine Jt.ac fun C hC => ?_
  unfold G6
  refine IWP.learn 1 (by omega) fun hkn => ?_
  have hkn := Ei hkn
  repeat' with_reducible first | refine W ?_ | refine Z0 ?_ | ((first | refine Wo fun K hK => ?_ | refine Wq ?_ | refine Wr ?_); (try simp only [go_sem, fN, seval, eT, iR]); (repeat refine Ai ?_); (try (refine hK _ ?_; clear hK K)))
  refine ⟨_, Nb s t.name, ?_⟩
  cases hl : lookup s t.name
  case' none =>
   repeat' with_reducible first | refine W ?_ | refine Z0 ?_ | ((first | refine Wo fun K hK => ?_ | refine Wq ?_ | refine Wr ?_); (try simp only [go_sem, fN, seval, eT, iR, hl, Option.isSome_none]); (repeat refine Ai ?_); (try (refine hK _ ?_; clear hK K)))
   with_reducible refine Wp ?_
   simp only [go_sem, fN, seval, true_implies, false_implies, implies_true, dT, dF, nL]
   (try with_reducible refine iC ?_)
   repeat' with_reducible first | refine W ?_ | refine Z0 ?_ | ((first | refine Wo fun K hK => ?_ | refine Wq ?_ | refine Wr ?_); (try simp only [go_sem, fN, seval, eT, iR]); (repeat refine Ai ?_); (try (refine hK _ ?_; clear hK K)))
  case' some x =>
   have h0' : ¬ (t.args.length : Int) = 0 := fun h => hleaf ⟨⟨_, hl⟩, List.eq_nil_of_length_eq_zero (by omega)⟩
   repeat' with_reducible first | refine W ?_ | refine Z0 ?_ | ((first | refine Wo fun K hK => ?_ | refine Wq ?_ | refine Wr ?_); (try simp only [go_sem, fN, seval, eT, iR, hl, h0', Option.isSome_some]); (repeat refine Ai ?_); (try (refine hK _ ?_; clear hK K)))
   with_reducible refine Wp ?_
   simp only [go_sem, fN, seval, true_implies, false_implies, implies_true, dT, dF, nL]
   (try with_reducible refine iC ?_)
   repeat' with_reducible first | refine W ?_ | refine Z0 ?_ | ((first | refine Wo fun K hK => ?_ | refine Wq ?_ | refine Wr ?_); (try simp only [go_sem, fN, seval, eT, iR]); (repeat refine Ai ?_); (try (refine hK _ ?_; clear hK K)))
  all_goals
   refine IWP.loop (fun n x => ∃ k, k ≤ t.args.length ∧ n = t.args.length - k ∧ x.env 9 = AK (BE (1 + Tm.sizes ((t.args.take k).map (Tm.on s))) m) ∧ x.env 0 = Dc s ∧ x.env 2 = AK m ∧ x.env 4 = .one (.ptr 4 1 0 0) ∧ x.env 10 = AK k ∧ x.S 4 = some (.box 29 [.st (.str t.name), .st (.list (t.args.map Ap))])) t.args.length ⟨0, Nat.zero_le _, rfl, by
    simp only [go_sem, fN, seval, eT, iR]
    rw [BE]
    have z0 : Tm.sizes [] = 0 := rfl
    congr 3
    split <;> omega, rfl, rfl, rfl, rfl, rfl⟩ ?_
   rintro n ⟨env, S⟩ ⟨k, hk, rfl, e9, e0, e2, e4, e10, s4⟩
   simp only at e9 e0 e2 e4 e10 s4
   have z4 := HU (1 + Tm.sizes ((t.args.take k).map (Tm.on s))) m h0
   have zle : 1 + Tm.sizes ((t.args.take k).map (Tm.on s)) ≤ (t.on s).size := by
    rw [hs, List.map_take]
    have := Tm.sizes_take_le (t.args.map (Tm.on s)) k
    omega
   by_cases hlt : (k : Int) < t.args.length
   ·obtain ⟨a, ha⟩ := AT (show k < t.args.length by omega)
    have ha' : (t.args.map (Tm.on s))[k]? = some (a.on s) := by rw [List.getElem?_map, ha]; rfl
    have z1 := Tm.sizes_take ha'
    rw [← List.map_take, ← List.map_take] at z1
    by_cases hb : m < BE (1 + Tm.sizes ((t.args.take k).map (Tm.on s))) m
    ·have hb' : ¬ BE (1 + Tm.sizes ((t.args.take k).map (Tm.on s))) m ≤ m := by omega
     repeat' with_reducible first | refine W ?_ | refine Z0 ?_ | ((first | refine Wo fun K hK => ?_ | refine Wq ?_ | refine Wr ?_); (try simp only [go_sem, fN, seval, eT, iR, e9, e0, e2, e4, e10, s4, hlt, hb']); (repeat refine Ai ?_); (try (refine hK _ ?_; clear hK K)))
     with_reducible refine Wp ?_
     simp only [go_sem, fN, seval, true_implies, false_implies, implies_true, dT, dF, nL, hb']
     (try with_reducible refine iC ?_)
     repeat' with_reducible first | refine W ?_ | refine Z0 ?_ | ((first | refine Wo fun K hK => ?_ | refine Wq ?_ | refine Wr ?_); (try simp only [go_sem, fN, seval, eT, iR, e9, e2]); (repeat refine Ai ?_); (try (refine hK _ ?_; clear hK K)))
     with_reducible refine Wp ?_
     simp only [go_sem, fN, seval, true_implies, false_implies, implies_true, dT, dF, nL, hb]
     (try with_reducible refine iC ?_)
     repeat' with_reducible first | refine W ?_ | refine Z0 ?_ | ((first | refine Wo fun K hK => ?_ | refine Wq ?_ | refine Wr ?_); (try simp only [go_sem, fN, seval, eT, iR, e2]); (repeat refine Ai ?_); (try (refine hK _ ?_; clear hK K)))
     simp only [go_sem, fN, seval, AJ, AS.result, AA, AB, AH]
     rw [FH hb zle]
    ·have hb' : BE (1 + Tm.sizes ((t.args.take k).map (Tm.on s))) m ≤ m := by omega
     obtain ⟨b1, b2⟩ := Hg hb
     repeat' with_reducible first | refine W ?_ | refine Z0 ?_ | ((first | refine Wo fun K hK => ?_ | refine Wq ?_ | refine Wr ?_); (try simp only [go_sem, fN, seval, eT, iR, e9, e0, e2, e4, e10, s4, hlt, hb']); (repeat refine Ai ?_); (try (refine hK _ ?_; clear hK K)))
     with_reducible refine Wp ?_
     simp only [go_sem, fN, seval, true_implies, false_implies, implies_true, dT, dF, nL, hb']
     (try with_reducible refine iC ?_)
     repeat' with_reducible first | refine W ?_ | refine Z0 ?_ | ((first | refine Wo fun K hK => ?_ | refine Wq ?_ | refine Wr ?_); (try simp only [go_sem, fN, seval, eT, iR, e9, e0, e2, e4, e10, s4, ha]); (repeat refine Ai ?_); (try (refine hK _ ?_; clear hK K)))
     refine ⟨_, ih _ (Tm.lt_of_arg (AI ha)) a (m - BE (1 + Tm.sizes ((t.args.take k).map (Tm.on s))) m) (by omega) (by omega) rfl, ?_⟩
     have z5 := HU (a.on s).size (m - BE (1 + Tm.sizes ((t.args.take k).map (Tm.on s))) m) (by omega)
     repeat' with_reducible first | refine W ?_ | refine Z0 ?_ | ((first | refine Wo fun K hK => ?_ | refine Wq ?_ | refine Wr ?_); (try simp only [go_sem, fN, seval, eT, iR, e9, e0, e2, e4, e10, s4]); (repeat refine Ai ?_); (try (refine hK _ ?_; clear hK K)))
     refine AE ⟨t.args.length - (k + 1), by omega, k + 1, by omega, rfl, ?_⟩
     simp only [go_sem, fN, seval, eT, iR, e9, e0, e2, e4, e10, s4]
     exact ⟨by rw [b1, KY b2, z1]; congr 4; omega, by congr 3⟩
   ·repeat' with_reducible first | refine W ?_ | refine Z0 ?_ | ((first | refine Wo fun K hK => ?_ | refine Wq ?_ | refine Wr ?_); (try simp only [go_sem, fN, seval, eT, iR, e9, e0, e2, e4, e10, s4, hlt]); (repeat refine Ai ?_); (try (refine hK _ ?_; clear hK K)))
    with_reducible refine Wp ?_
    simp only [go_sem, fN, seval, true_implies, false_implies, implies_true, dT, dF, nL]
    (try with_reducible refine iC ?_)
    have hfull : 1 + Tm.sizes ((t.args.take k).map (Tm.on s)) = (t.on s).size := by rw [List.take_of_length_le (by omega), hs]
    rw [hfull] at e9 z4
    repeat' with_reducible first | refine W ?_ | refine Z0 ?_ | ((first | refine Wo fun K hK => ?_ | refine Wq ?_ | refine Wr ?_); (try simp only [go_sem, fN, seval, eT, iR, e9, e2]); (repeat refine Ai ?_); (try (refine hK _ ?_; clear hK K)))
    by_cases hb : m < BE (t.on s).size m
    ·with_reducible refine Wp ?_
     simp only [go_sem, fN, seval, true_implies, false_implies, implies_true, dT, dF, nL, hb]
     (try with_reducible refine iC ?_)
     repeat' with_reducible first | refine W ?_ | refine Z0 ?_ | ((first | refine Wo fun K hK => ?_ | refine Wq ?_ | refine Wr ?_); (try simp only [go_sem, fN, seval, eT, iR, e2]); (repeat refine Ai ?_); (try (refine hK _ ?_; clear hK K)))
     simp only [go_sem, fN, seval, AJ, AS.result, AA, AB, AH]
     rw [FH hb (Nat.le_refl _)]
    ·with_reducible refine Wp ?_
     simp only [go_sem, fN, seval, true_implies, false_implies, implies_true, dT, dF, nL, hb]
     (try with_reducible refine iC ?_)
     repeat' with_reducible first | refine W ?_ | refine Z0 ?_ | ((first | refine Wo fun K hK => ?_ | refine Wq ?_ | refine Wr ?_); (try simp only [go_sem, fN, seval, eT, iR, e9]); (repeat refine Ai ?_); (try (refine hK _ ?_; clear hK K)))
     simp only [go_sem, fN, seval, AJ, AS.result, AA, AB, AH, e9]
def Aq (s : List Bd) (t : Tm) : Tm × Bool := if (t.on s).size ≤ 2000 then (t.on s, true) else (Tm.nil, false)
theorem Dr (s : List Bd) (t : Tm) (hz : t.size ≤ 1000000) : AQ Tryz.prog 35 [Dc s, aTm t] (.tup [aTm (Aq s t).1, Ab (Aq s t).2]) := by
 by_cases hb : (2000 : Int) < BE (t.on s).size 2000
 ·have e : Aq s t = (Tm.nil, false) := by
   unfold Aq
   rw [if_neg]
   intro h
   unfold BE at hb
   split at hb <;> omega
  rw [e]
  refine RR.ac fun C hC => ?_
  unfold NP
  repeat' (first | (with_reducible first | refine W ?_ | refine Z0 ?_ | ((first | refine Wo fun K hK => ?_ | refine Wq ?_ | refine Wr ?_); (try simp only [go_sem, fN, seval, eT, iR, hb]); (repeat refine Ai ?_); (try (refine hK _ ?_; clear hK K)))) | refine Cg _ (RN s t 2000 (by omega) (by omega)) ?_)
  with_reducible refine Wp ?_
  simp only [go_sem, fN, seval, true_implies, false_implies, implies_true, dT, dF, nL, hb]
  (try with_reducible refine iC ?_)
  repeat' with_reducible first | refine W ?_ | refine Z0 ?_ | ((first | refine Wo fun K hK => ?_ | refine Wq ?_ | refine Wr ?_); (try simp only [go_sem, fN, seval, eT, iR]); (repeat refine Ai ?_); (try (refine hK _ ?_; clear hK K)))
  simp only [go_sem, fN, seval, AJ, AS.result, AA, AB, AH]
  rfl
 ·have e : Aq s t = (t.on s, true) := by
   unfold Aq
   rw [if_pos]
   have := (Hg hb).2
   omega
  rw [e]
  refine RR.ac fun C hC => ?_
  unfold NP
  repeat' (first | (with_reducible first | refine W ?_ | refine Z0 ?_ | ((first | refine Wo fun K hK => ?_ | refine Wq ?_ | refine Wr ?_); (try simp only [go_sem, fN, seval, eT, iR, hb]); (repeat refine Ai ?_); (try (refine hK _ ?_; clear hK K)))) | refine Cg _ (RN s t 2000 (by omega) (by omega)) ?_)
  with_reducible refine Wp ?_
  simp only [go_sem, fN, seval, true_implies, false_implies, implies_true, dT, dF, nL, hb]
  (try with_reducible refine iC ?_)
  repeat' (first | (with_reducible first | refine W ?_ | refine Z0 ?_ | ((first | refine Wo fun K hK => ?_ | refine Wq ?_ | refine Wr ?_); (try simp only [go_sem, fN, seval, eT, iR]); (repeat refine Ai ?_); (try (refine hK _ ?_; clear hK K)))) | refine Cg _ (Q7 s t hz) ?_)
  simp only [go_sem, fN, seval, AJ, AS.result, AA, AB, AH]

structure Ren (f : ByteArray → ByteArray) : Prop where
 inv : ∀ n, f (f n) = n
 var : ∀ n, AL (f n) = AL n
 con : ∀ n, AL n = false → f n = n
theorem Ren.inj {f : ByteArray → ByteArray} (hf : Ren f) {a b : ByteArray} : f a = f b ↔ a = b := ⟨fun h => by rw [← hf.inv a, h, hf.inv], fun h => by rw [h]⟩
mutual
def Tm.ren (f : ByteArray → ByteArray) : Tm → Tm
 | .mk n xs => .mk (f n) (Tm.renL f xs)
def Tm.renL (f : ByteArray → ByteArray) : List Tm → List Tm
 | [] => []
 | x :: xs => x.ren f :: Tm.renL f xs
end
section
variable {f : ByteArray → ByteArray}
theorem Tm.renL_eq : ∀ xs : List Tm, Tm.renL f xs = xs.map (Tm.ren f)
 | [] => rfl
 | x :: xs => by rw [Tm.renL, Tm.renL_eq xs]; rfl
theorem Tm.ren_eq (t : Tm) : t.ren f = .mk (f t.name) (t.args.map (Tm.ren f)) := by
 cases t
 rw [Tm.ren, Tm.renL_eq]
 rfl
theorem Tm.ren_name (t : Tm) : (t.ren f).name = f t.name := by rw [Tm.ren_eq]; rfl
theorem Tm.ren_args (t : Tm) : (t.ren f).args = t.args.map (Tm.ren f) := by rw [Tm.ren_eq]; rfl
mutual
theorem Tm.ren_size : ∀ t : Tm, (t.ren f).size = t.size
 | .mk n xs => by rw [Tm.ren, Tm.size, Tm.size, Tm.renL_sizes xs]
theorem Tm.renL_sizes : ∀ xs : List Tm, Tm.sizes (Tm.renL f xs) = Tm.sizes xs
 | [] => rfl
 | x :: xs => by rw [Tm.renL, Tm.sizes, Tm.sizes, Tm.ren_size x, Tm.renL_sizes xs]
end
theorem Vq (hf : Ren f) (x : ByteArray) (t : Tm) : occ (f x) (t.ren f) = occ x t := by
 induction h : SizeOf.sizeOf t using Nat.strongRecOn generalizing t with
 | _ N ih =>
 subst h
 rw [J0, J0, Tm.ren_name, Tm.ren_args, List.any_map]
 congr 1
 ·exact decide_eq_decide.2 hf.inj
 ·rw [Bool.eq_iff_iff, List.any_eq_true, List.any_eq_true]
  constructor
  ·rintro ⟨a, ha, h⟩
   exact ⟨a, ha, by rw [← ih _ (Tm.lt_of_arg ha) a rfl]; exact h⟩
  ·rintro ⟨a, ha, h⟩
   exact ⟨a, ha, by rw [Function.comp_apply, ih _ (Tm.lt_of_arg ha) a rfl]; exact h⟩
theorem CN : ∀ {l : List Bd}, BK l → ∀ {n : ByteArray} {t : Tm}, lookup l n = some t ↔ (n, t) ∈ l
 | [], _, n, t => by simp [lookup]
 | b :: l, h, n, t => by
  have h' : b.1 ∉ l.map (·.1) ∧ BK l := by
   unfold BK at h
   rw [List.map_cons, List.nodup_cons] at h
   exact h
  have ih := CN h'.2 (n := n) (t := t)
  unfold lookup at ih ⊢
  rw [List.find?_cons]
  by_cases hb : b.1 = n
  ·rw [decide_eq_true hb]
   constructor
   ·intro h2
    cases h2
    exact List.mem_cons.2 (.inl (by rw [← hb]))
   ·intro h2
    rcases List.mem_cons.1 h2 with h2 | h2
    ·rw [← h2]
     rfl
    ·exact absurd (List.mem_map.2 ⟨_, h2, hb.symm⟩) h'.1
  ·rw [decide_eq_false hb, ih]
   constructor
   ·exact fun h2 => List.mem_cons_of_mem _ h2
   ·intro h2
    rcases List.mem_cons.1 h2 with h2 | h2
    ·rw [← h2] at hb
     exact absurd rfl hb
    ·exact h2
theorem Fs {l m : List Bd} (hp : l.Perm m) (hn : BK m) (n : ByteArray) : lookup l n = lookup m n := by
 have hl := Ca hp.symm hn
 cases h : lookup m n with
 | some t => exact (CN hl).2 (hp.mem_iff.2 ((CN hn).1 h))
 | none =>
  cases h2 : lookup l n with
  | none => rfl
  | some t =>
   rw [(CN hn).2 (hp.mem_iff.1 ((CN hl).1 h2))] at h
   cases h
theorem Ex (h : Tm → Tm) : ∀ (s : List Bd) (n : ByteArray), lookup (s.map fun b => (b.1, h b.2)) n = (lookup s n).map h
 | [], n => rfl
 | b :: s, n => by
  have ih := Ex h s n
  unfold lookup at ih ⊢
  rw [List.map_cons, List.find?_cons, List.find?_cons]
  by_cases hb : b.1 = n
  ·simp [hb]
  ·rw [decide_eq_false hb]
   simpa [hb] using ih
theorem E3 (s : List Bd) (x n : ByteArray) (t : Tm) : lookup (s ++ [(x, t)]) n = (lookup s n).or (if x = n then some t else none) := by
 unfold lookup
 rw [List.find?_append]
 cases h : s.find? fun b => decide (b.1 = n) with
 | some b => simp
 | none =>
  by_cases hx : x = n
  ·simp [hx]
  ·simp [hx]
structure HJ (f : ByteArray → ByteArray) (s s' : List Bd) : Prop where
 n1 : BK s
 n2 : BK s'
 eq : ∀ n, lookup s' (f n) = (lookup s n).map (Tm.ren f)
theorem HJ.nil (f : ByteArray → ByteArray) : HJ f [] [] := ⟨List.nodup_nil, List.nodup_nil, fun _ => rfl⟩
theorem HJ.one (hf : Ren f) (x : ByteArray) (t : Tm) : HJ f [(x, t)] [(f x, t.ren f)] := ⟨by simp [BK], by simp [BK], fun n => by
 have h1 := E3 [] x n t
 have h2 := E3 [] (f x) (f n) (t.ren f)
 rw [List.nil_append] at h1 h2
 rw [h1, h2]
 by_cases h : x = n
 ·simp [lookup, h]
 ·simp [lookup, h, mt hf.inj.1 h]⟩
theorem H6 (hf : Ren f) {s s' : List Bd} (h : HJ f s s') (t : Tm) : (t.ren f).on s' = (t.on s).ren f := by
 induction hN : SizeOf.sizeOf t using Nat.strongRecOn generalizing t with
 | _ N ih =>
 subst hN
 have hmap : (t.ren f).args.map (Tm.on s') = (t.args.map (Tm.on s)).map (Tm.ren f) := by
  rw [Tm.ren_args, List.map_map, List.map_map]
  exact List.map_congr_left fun a ha => ih _ (Tm.lt_of_arg ha) a rfl
 by_cases h0 : t.args = []
 ·have h0' : (t.ren f).args = [] := by rw [Tm.ren_args, h0]; rfl
  have hl := h.eq t.name
  cases hx : lookup s t.name with
  | some x =>
   rw [hx] at hl
   rw [Tm.on_leaf hx h0, Tm.on_leaf (x := x.ren f) (by rw [Tm.ren_name]; exact hl) h0']
  | none =>
   rw [hx] at hl
   rw [Tm.on_knot (.inl hx), Tm.on_knot (.inl (by rw [Tm.ren_name]; exact hl)), hmap, Tm.ren_name, Tm.ren_eq (.mk t.name _)]
   rfl
 ·have h0' : (t.ren f).args ≠ [] := by
   rw [Tm.ren_args]
   intro h
   exact h0 (List.map_eq_nil_iff.1 h)
  rw [Tm.on_knot (.inr h0), Tm.on_knot (.inr h0'), hmap, Tm.ren_name, Tm.ren_eq (.mk t.name _)]
  rfl
theorem Oo (hf : Ren f) {s s' : List Bd} (h : HJ f s s') (t : Tm) : Aq s' (t.ren f) = ((Aq s t).1.ren f, (Aq s t).2) ∨ (Aq s t).2 = false ∧ (Aq s' (t.ren f)).2 = false := by
 unfold Aq
 rw [H6 hf h, Tm.ren_size]
 split
 ·exact .inl rfl
 ·exact .inr ⟨rfl, rfl⟩
def EE (f : ByteArray → ByteArray) (p : Pr) : Pr := (p.1.ren f, p.2.ren f)
theorem MM (hf : Ren f) {s s' : List Bd} (h : HJ f s s') {x : ByteArray} (hx : ∀ b ∈ s, b.1 ≠ x) (t : Tm) :
  (∃ e, B5 s x t = .err e ∧ B5 s' (f x) (t.ren f) = .err e) ∨ ∃ s1 s1', B5 s x t = .go s1 [] ∧ B5 s' (f x) (t.ren f) = .go s1' [] ∧ HJ f s1 s1' := by
 have hlx : lookup s x = none := C3 hx
 have hlx' : lookup s' (f x) = none := by rw [h.eq, hlx]; rfl
 have hx' : ∀ b ∈ s', b.1 ≠ f x := fun b hb e => by
  have := (CN h.n2).2 (show (b.1, b.2) ∈ s' from hb)
  rw [e, hlx'] at this
  cases this
 have h1 := HJ.one hf x t
 unfold B5
 rw [Vq hf]
 by_cases ho : occ x t = true
 ·rw [if_pos ho, if_pos ho]
  exact .inl ⟨6, rfl, rfl⟩
 rw [if_neg ho, if_neg ho]
 have hall : (s.all fun b => decide ((b.2.on [(x, t)]).size ≤ 2000)) = (s'.all fun b => decide ((b.2.on [(f x, t.ren f)]).size ≤ 2000)) := by
  rw [Bool.eq_iff_iff, List.all_eq_true, List.all_eq_true]
  constructor
  ·intro ha b hb
   have hl := (CN h.n2).2 (show (b.1, b.2) ∈ s' from hb)
   have he := h.eq (f b.1)
   rw [hf.inv, hl] at he
   cases hs : lookup s (f b.1) with
   | none => rw [hs] at he; cases he
   | some t0 =>
    rw [hs] at he
    have he : b.2 = t0.ren f := by simpa using he
    have := ha _ ((CN h.n1).1 hs)
    rw [he, H6 hf h1, Tm.ren_size]
    exact this
  ·intro ha b hb
   have hl := (CN h.n1).2 (show (b.1, b.2) ∈ s from hb)
   have he := h.eq b.1
   rw [hl] at he
   have := ha _ ((CN h.n2).1 he)
   rw [H6 hf h1, Tm.ren_size] at this
   exact this
 rw [← hall]
 by_cases ha : (s.all fun b => decide ((b.2.on [(x, t)]).size ≤ 2000)) = true
 case neg =>
  rw [if_neg ha, if_neg ha]
  exact .inl ⟨8, rfl, rfl⟩
 rw [if_pos ha, if_pos ha]
 have nm : ∀ {s : List Bd} {x : ByteArray} {t : Tm} {g : Tm → Tm}, BK s → (∀ b ∈ s, b.1 ≠ x) → BK (s.map (fun b => (b.1, g b.2)) ++ [(x, t)]) := fun {s x t g} hn hx => by
  unfold BK at *
  rw [List.map_append, List.map_map, List.nodup_append]
  refine ⟨hn, by simp, fun a ha b hb => ?_⟩
  obtain ⟨c, hc, rfl⟩ := List.mem_map.1 ha
  have hb : b = x := by simpa using hb
  rw [hb]
  exact hx c hc
 have m1 := nm (t := t) (g := Tm.on [(x, t)]) h.n1 hx
 have m2 := nm (t := t.ren f) (g := Tm.on [(f x, t.ren f)]) h.n2 hx'
 refine .inr ⟨_, _, rfl, rfl, Ca (BW _).symm m1, Ca (BW _).symm m2, fun n => ?_⟩
 rw [Fs (BW _) m1, Fs (BW _) m2, E3, E3, Ex, Ex, h.eq]
 by_cases hn : x = n
 ·subst hn
  rw [hlx]
  simp
 ·rw [if_neg hn, if_neg (mt hf.inj.1 hn)]
  cases lookup s n with
  | none => rfl
  | some t0 => simp [H6 hf h1]
theorem Lr (hf : Ren f) {U : List ByteArray} {C : Nat} {s s' : List Bd} {p : Pr} {l : List Pr} (hg : B6 U C s (p :: l)) (h : HJ f s s') :
  (∃ e, BZ s p = .err e ∧ BZ s' (EE f p) = .err e) ∨ ∃ s1 s1' ps, BZ s p = .go s1 ps ∧ BZ s' (EE f p) = .go s1' (ps.map (EE f)) ∧ HJ f s1 s1' := by
 obtain ⟨c1, c2⟩ := hg.lchk p List.mem_cons_self
 have hU := hg.lU p List.mem_cons_self
 obtain ⟨a1, a2, a3⟩ := onU hg c1 fun y hy => (hU y).1 hy
 obtain ⟨b1, b2, b3⟩ := onU hg c2 fun y hy => (hU y).2 hy
 have nd : ∀ {t : Tm}, I8 s t → ∀ b ∈ s, b.1 ≠ t.name := fun {t} ht b hb e => by
  have := ht b hb
  rw [e] at this
  have h2 : occ t.name t = true := GJ.2 (.inl rfl)
  rw [this] at h2
  cases h2
 unfold BZ
 rw [show (EE f p).1 = p.1.ren f from rfl, show (EE f p).2 = p.2.ren f from rfl, H6 hf h, H6 hf h]
 generalize p.1.on s = x at *
 generalize p.2.on s = y at *
 simp only [Tm.ren_size, Tm.ren_name, hf.var, hf.inj]
 by_cases q1 : 2000 < x.size ∨ 2000 < y.size
 ·rw [if_pos q1, if_pos q1]
  exact .inl ⟨8, rfl, rfl⟩
 rw [if_neg q1, if_neg q1]
 by_cases q2 : AL x.name = true ∧ x.name = y.name
 ·rw [if_pos q2, if_pos q2]
  exact .inr ⟨s, s', [], rfl, rfl, h⟩
 rw [if_neg q2, if_neg q2]
 by_cases q3 : AL x.name = true
 ·rw [if_pos q3, if_pos q3]
  rcases MM hf h (nd a2) y with ⟨e, h1, h2⟩ | ⟨s1, s1', h1, h2, h3⟩
  ·exact .inl ⟨e, h1, h2⟩
  ·exact .inr ⟨s1, s1', [], h1, h2, h3⟩
 rw [if_neg q3, if_neg q3]
 by_cases q4 : AL y.name = true
 ·rw [if_pos q4, if_pos q4]
  rcases MM hf h (nd b2) x with ⟨e, h1, h2⟩ | ⟨s1, s1', h1, h2, h3⟩
  ·exact .inl ⟨e, h1, h2⟩
  ·exact .inr ⟨s1, s1', [], h1, h2, h3⟩
 rw [if_neg q4, if_neg q4]
 simp only [Tm.ren_args, List.length_map]
 by_cases q5 : x.name = y.name ∧ x.args.length = y.args.length
 ·rw [if_pos q5, if_pos q5]
  refine .inr ⟨s, s', _, rfl, ?_, h⟩
  rw [List.zip_map]
  rfl
 ·rw [if_neg q5, if_neg q5]
  exact .inl ⟨5, rfl, rfl⟩
theorem Si (hf : Ren f) {U : List ByteArray} {C : Nat} : ∀ {n : Nat} {s : List Bd} {l : List Pr} {r : List Bd × Int}, Ck n s l r → B6 U C s l → ∀ {s'}, HJ f s s' → ∃ r', Ck n s' (l.map (EE f)) r' ∧ r'.2 = r.2 ∧ HJ f r.1 r'.1 := by
 intro n s l r hu
 induction hu with
 | nil => exact fun _ s' h => ⟨(s', 0), .nil, rfl, h⟩
 | err he =>
  intro hg s' h
  rcases Lr hf hg h with ⟨e, h1, h2⟩ | ⟨s1, s1', ps, h1, h2, h3⟩
  ·rw [he] at h1
   cases h1
   exact ⟨([], _), .err h2, rfl, .nil f⟩
  ·rw [he] at h1
   cases h1
 | go hgo hr ih =>
  intro hg s' h
  rcases Lr hf hg h with ⟨e, h1, h2⟩ | ⟨s1, s1', ps, h1, h2, h3⟩
  ·rw [hgo] at h1
   cases h1
  ·rw [hgo] at h1
   cases h1
   obtain ⟨r', k1, k2, k3⟩ := ih (DJ hg hgo).1 h3
   rw [List.map_append] at k1
   exact ⟨r', .go h2 k1, k2, k3⟩
theorem Jv (hf : Ren f) : ∀ (l : List ByteArray) (n : ByteArray), BI (l.map f) (f n) = BI l n
 | [], n => rfl
 | m :: l, n => by
  have ih := Jv hf l n
  rw [List.map_cons, BI, BI, ih]
  by_cases h : m = n
  ·simp [h]
  ·simp [h, mt hf.inj.1 h]
theorem Tb (hf : Ren f) (l : List ByteArray) (n : ByteArray) : Bn (l.map f) (f n) = (Bn l n).map f := by
 unfold Bn
 rw [Jv hf, List.length_map]
 split <;> simp
mutual
theorem Pv (hf : Ren f) : ∀ (t : Tm) (l : List ByteArray), (t.ren f).cn (l.map f) = ((t.cn l).1, (t.cn l).2.map f)
 | .mk n xs, l => by
  rw [Tm.ren, Tm.cn, Tm.cn, hf.var, Jv hf, Tb hf, RJ hf xs l]
  by_cases h : AL n = true
  ·rw [if_pos h, if_pos h]
  ·rw [if_neg h, if_neg h, hf.con n (by simpa using h)]
theorem RJ (hf : Ren f) : ∀ (xs : List Tm) (l : List ByteArray), Tm.cnL (Tm.renL f xs) (l.map f) = ((Tm.cnL xs l).1, (Tm.cnL xs l).2.map f)
 | [], l => rfl
 | x :: xs, l => by rw [Tm.renL, Tm.cnL, Tm.cnL, Pv hf x l, RJ hf xs]
end
end

mutual
def Tm.mt : Tm → Tm → List Bd → List Bd × Bool
 | .mk n xs, t, l => if AL n = true then (match lookup l n with
   | some x => (l, x.beq t)
   | none => (l ++ [(n, t)], true))
  else if n = t.name ∧ xs.length = t.args.length then Tm.mtL xs t.args l else (l, false)
def Tm.mtL : List Tm → List Tm → List Bd → List Bd × Bool
 | x :: xs, y :: ys, l => if (x.mt y l).2 = true then Tm.mtL xs ys (x.mt y l).1 else ((x.mt y l).1, false)
 | _, _, l => (l, true)
end
section
variable {p t : Tm} {l : List Bd}
theorem Tm.mt_old (hv : AL p.name = true) {x : Tm} (h : lookup l p.name = some x) : p.mt t l = (l, x.beq t) := by
 cases p with
 | mk n xs =>
  simp only [Tm.name_mk] at hv h
  rw [Tm.mt, if_pos hv, h]
theorem Tm.mt_new (hv : AL p.name = true) (h : lookup l p.name = none) : p.mt t l = (l ++ [(p.name, t)], true) := by
 cases p with
 | mk n xs =>
  simp only [Tm.name_mk] at hv h
  rw [Tm.mt, if_pos hv, h]
  rfl
theorem Tm.mt_clash (hv : AL p.name = false) (h : ¬ (p.name = t.name ∧ p.args.length = t.args.length)) : p.mt t l = (l, false) := by
 cases p with
 | mk n xs =>
  simp only [Tm.name_mk, Tm.args_mk] at hv h
  rw [Tm.mt, if_neg (by simp [hv]), if_neg h]
theorem Tm.mt_knot (hv : AL p.name = false) (h1 : p.name = t.name) (h2 : p.args.length = t.args.length) : p.mt t l = Tm.mtL p.args t.args l := by
 cases p with
 | mk n xs =>
  simp only [Tm.name_mk, Tm.args_mk] at hv h1 h2
  rw [Tm.mt, if_neg (by simp [hv]), if_pos ⟨h1, h2⟩]
  rfl
end
theorem Tm.mtL_nil (ys : List Tm) (l : List Bd) : Tm.mtL [] ys l = (l, true) := by cases ys <;> simp [Tm.mtL]
theorem Tm.mtL_append : ∀ (xs ys xs' ys' : List Tm) (l : List Bd), xs.length = ys.length → Tm.mtL (xs ++ xs') (ys ++ ys') l = if (Tm.mtL xs ys l).2 = true then Tm.mtL xs' ys' (Tm.mtL xs ys l).1 else ((Tm.mtL xs ys l).1, false)
 | [], [], xs', ys', l, _ => by simp [Tm.mtL_nil]
 | x :: xs, y :: ys, xs', ys', l, h => by
  simp only [List.cons_append, Tm.mtL]
  by_cases hx : (x.mt y l).2 = true
  ·simp only [hx, if_true]
   exact Tm.mtL_append xs ys xs' ys' _ (by simpa using h)
  ·simp only [hx]
   simp
 | [], y :: ys, _, _, _, h => by simp at h
 | x :: xs, [], _, _, _, h => by simp at h
theorem Tm.mtL_take {xs ys : List Tm} {k : Nat} {x y : Tm} {l : List Bd} (hl : xs.length = ys.length) (hx : xs[k]? = some x) (hy : ys[k]? = some y) (h : (Tm.mtL (xs.take k) (ys.take k) l).2 = true) :
  Tm.mtL (xs.take (k + 1)) (ys.take (k + 1)) l = x.mt y (Tm.mtL (xs.take k) (ys.take k) l).1 := by
 rw [AY hx, AY hy, Tm.mtL_append _ _ _ _ _ (by simp [hl]), if_pos h]
 generalize Tm.mtL (xs.take k) (ys.take k) l = q
 simp only [Tm.mtL]
 split
 ·rename_i h1
  exact Prod.ext rfl h1.symm
 ·rename_i h1
  exact Prod.ext rfl (by simpa using h1)
theorem Tm.mtL_no {xs ys : List Tm} {k : Nat} {l : List Bd} (hl : xs.length = ys.length) (h : (Tm.mtL (xs.take k) (ys.take k) l).2 = false) : Tm.mtL xs ys l = ((Tm.mtL (xs.take k) (ys.take k) l).1, false) := by
 have e : Tm.mtL xs ys l = Tm.mtL (xs.take k ++ xs.drop k) (ys.take k ++ ys.drop k) l := by rw [List.take_append_drop, List.take_append_drop]
 rw [e, Tm.mtL_append _ _ _ _ _ (by simp [hl]), h]
 rfl
structure JK (l l' : List Bd) (many most : Nat) : Prop where
 named : BK l → BK l'
 len : l'.length ≤ l.length + many
 size : ∀ b ∈ l', b ∈ l ∨ b.2.size ≤ most
theorem JK.refl (l : List Bd) (n m : Nat) : JK l l n m := ⟨fun h => h, by omega, fun b hb => .inl hb⟩
theorem JK.trans {a b c : List Bd} {n m k n' m' : Nat} (h : JK a b n m) (h' : JK b c n' m') (hn : n + n' ≤ k) {M : Nat} (h1 : m ≤ M) (h2 : m' ≤ M) : JK a c k M := by
 refine ⟨fun q => h'.named (h.named q), by have := h.len; have := h'.len; omega, fun x hx => ?_⟩
 rcases h'.size x hx with h3 | h3
 ·rcases h.size x h3 with h4 | h4
  ·exact .inl h4
  ·exact .inr (by omega)
 ·exact .inr (by omega)
theorem M4 {l : List Bd} {n : ByteArray} (h : lookup l n = none) : n ∉ l.map (·.1) := by
 intro hm
 obtain ⟨b, hb, rfl⟩ := List.mem_map.1 hm
 unfold lookup at h
 rw [Option.map_eq_none_iff, List.find?_eq_none] at h
 exact h b hb (by simp)
theorem Px {l : List Bd} {b : Bd} (h : lookup l b.1 = none) (hn : BK l) : BK (l ++ [b]) := by
 unfold BK at *
 rw [List.map_append, List.nodup_append]
 refine ⟨hn, by simp, fun x hx y hy e => ?_⟩
 simp only [List.map_cons, List.map_nil, List.mem_singleton] at hy
 subst hy
 subst e
 exact M4 h hx
mutual
theorem Tm.mt_ok : ∀ (p t : Tm) (l : List Bd), JK l (p.mt t l).1 p.size t.size
 | .mk n xs, t, l => by
  rw [Tm.mt]
  split
  ·split
   ·exact JK.refl _ _ _
   ·rename_i h
    refine ⟨fun hn => Px h hn, ?_, fun b hb => ?_⟩
    ·have := Tm.size_pos (.mk n xs)
     rw [List.length_append, List.length_singleton]
     omega
    ·rcases List.mem_append.1 hb with hb | hb
     ·exact .inl hb
     ·rw [List.mem_singleton] at hb
      subst hb
      exact .inr (Nat.le_refl _)
  ·split
   ·have := Tm.mtL_ok xs t.args l
    have h1 := Tm.size_eq t
    exact ⟨this.named, by have := this.len; rw [Tm.size]; omega, fun b hb => (this.size b hb).imp_right (by omega)⟩
   ·exact JK.refl _ _ _
theorem Tm.mtL_ok : ∀ (xs ys : List Tm) (l : List Bd), JK l (Tm.mtL xs ys l).1 (Tm.sizes xs) (Tm.sizes ys)
 | [], ys, l => by rw [Tm.mtL_nil]; exact JK.refl _ _ _
 | x :: xs, [], l => by rw [Tm.mtL]; exact JK.refl _ _ _; simp
 | x :: xs, y :: ys, l => by
  rw [Tm.mtL]
  have h1 := Tm.mt_ok x y l
  split
  ·exact h1.trans (Tm.mtL_ok xs ys _) (by rw [Tm.sizes]; exact Nat.le_refl _) (by rw [Tm.sizes]; omega) (by rw [Tm.sizes]; omega)
  ·exact ⟨h1.named, by have := h1.len; rw [Tm.sizes]; show (x.mt y l).1.length ≤ _; omega, fun b hb => (h1.size b hb).imp_right (by rw [Tm.sizes]; omega)⟩
end
def BT (p t : Tm) : List Bd := if (p.mt t []).2 = true then Ay (p.mt t []).1 else []
def CF (p t : Tm) : Bool := (p.mt t []).2
theorem Sq : BK [] := List.nodup_nil
theorem Je (p t : Tm) : BK (p.mt t []).1 := (Tm.mt_ok p t []).named Sq
theorem Pp (p t : Tm) : (p.mt t []).1.length ≤ p.size := by have := (Tm.mt_ok p t []).len; simpa using this
theorem VG (p t : Tm) : ∀ b ∈ (p.mt t []).1, b.2.size ≤ t.size := fun b hb => ((Tm.mt_ok p t []).size b hb).resolve_left (by simp)

def Tm.atP : Tm → List Int → Option Tm
 | t, [] => some t
 | t, i :: p => if i < 0 then none else match t.args[i.toNat]? with
  | some a => a.atP p
  | none => none
def Tm.putP : Tm → List Int → Tm → Tm
 | t, [], x => x
 | t, i :: p, x => match t.args[i.toNat]? with
  | some a => .mk t.name (t.args.set i.toNat (a.putP p x))
  | none => t
theorem Tm.atP_nil (t : Tm) : t.atP [] = some t := by cases t; rfl
theorem Tm.putP_nil (t x : Tm) : t.putP [] x = x := by cases t; rfl
theorem Tm.atP_cons (t : Tm) (i : Int) (p : List Int) : t.atP (i :: p) = if i < 0 then none else match t.args[i.toNat]? with
  | some a => a.atP p
  | none => none := by cases t; rfl
theorem Tm.putP_cons (t : Tm) (i : Int) (p : List Int) (x : Tm) : t.putP (i :: p) x = match t.args[i.toNat]? with
  | some a => .mk t.name (t.args.set i.toNat (a.putP p x))
  | none => t := by cases t; rfl
theorem Tm.atP_at {t a : Tm} {k : Nat} (h : t.args[k]? = some a) (p : List Int) : t.atP ((k : Int) :: p) = a.atP p := by
 rw [Tm.atP_cons, if_neg (by omega), Int.toNat_natCast, h]
theorem Tm.putP_at {t a : Tm} {k : Nat} (h : t.args[k]? = some a) (p : List Int) (x : Tm) : t.putP ((k : Int) :: p) x = .mk t.name (t.args.set k (a.putP p x)) := by
 rw [Tm.putP_cons, Int.toNat_natCast, h]
def atT (T : Tm → Bool) (t : Tm) (p : List Int) : Bool := match t.atP p with
 | some x => T x
 | none => false
mutual
def Tm.findP (T : Tm → Bool) : Tm → Option (List Int)
 | .mk n xs => if T (.mk n xs) = true then some [] else Tm.findPL T 0 xs
def Tm.findPL (T : Tm → Bool) : Nat → List Tm → Option (List Int)
 | _, [] => none
 | k, x :: xs => match x.findP T with
  | some p => some ((k : Int) :: p)
  | none => Tm.findPL T (k + 1) xs
end
mutual
theorem Tm.places_find (T : Tm → Bool) : ∀ t : Tm, t.places.find? (atT T t) = t.findP T
 | .mk n xs => by
  rw [Tm.places, Tm.findP, List.find?_cons]
  by_cases h : T (.mk n xs) = true
  ·rw [show atT T (.mk n xs) [] = true from h, if_pos h]
  ·rw [show atT T (.mk n xs) [] = false by
    rw [← Bool.not_eq_true]
    exact h, if_neg h]
   exact Tm.placesFrom_find T n xs 0 xs (by simp)
theorem Tm.placesFrom_find (T : Tm → Bool) (n : ByteArray) (all : List Tm) : ∀ (k : Nat) (xs : List Tm), all.drop k = xs → (Tm.placesFrom k xs).find? (atT T (.mk n all)) = Tm.findPL T k xs
 | _, [], _ => rfl
 | k, x :: xs, h => by
  have hk : all[k]? = some x := by
   have := congrArg (fun l => l[0]?) h
   simpa using this
  rw [Tm.placesFrom, Tm.findPL, List.find?_append, List.find?_map]
  have e : (atT T (.mk n all) ∘ fun p => (k : Int) :: p) = atT T x := by
   funext p
   show atT T (.mk n all) ((k : Int) :: p) = atT T x p
   unfold atT
   rw [Tm.atP_at (t := .mk n all) hk]
  rw [e, Tm.places_find T x, Tm.placesFrom_find T n all (k + 1) xs (by rw [← List.tail_drop, h]; rfl)]
  cases x.findP T <;> rfl
end
mutual
theorem Tm.findP_at (T : Tm → Bool) : ∀ (t : Tm) (p : List Int), t.findP T = some p → ∃ x, t.atP p = some x ∧ T x = true ∧ x ∈ t.knots
 | .mk n xs, p, h => by
  rw [Tm.findP] at h
  split at h
  ·rename_i ht
   cases h
   exact ⟨_, rfl, ht, by rw [Tm.knots]; exact List.mem_cons_self⟩
  ·obtain ⟨x, h1, h2, h3⟩ := Tm.findPL_at T n xs 0 xs p (by simp) h
   exact ⟨x, h1, h2, by rw [Tm.knots]; exact List.mem_cons_of_mem _ h3⟩
theorem Tm.findPL_at (T : Tm → Bool) (n : ByteArray) (all : List Tm) : ∀ (k : Nat) (xs : List Tm) (p : List Int), all.drop k = xs → Tm.findPL T k xs = some p → ∃ x, (Tm.mk n all).atP p = some x ∧ T x = true ∧ x ∈ Tm.knotsL xs
 | _, [], p, _, h => by cases h
 | k, x :: xs, p, h, hf => by
  have hk : all[k]? = some x := by
   have := congrArg (fun l => l[0]?) h
   simpa using this
  rw [Tm.findPL] at hf
  split at hf
  ·rename_i q hq
   cases hf
   obtain ⟨y, h1, h2, h3⟩ := Tm.findP_at T x q hq
   exact ⟨y, by rw [Tm.atP_at (t := .mk n all) hk]; exact h1, h2, by rw [Tm.knotsL]; exact List.mem_append_left _ h3⟩
  ·obtain ⟨y, h1, h2, h3⟩ := Tm.findPL_at T n all (k + 1) xs p (by rw [← List.tail_drop, h]; rfl) hf
   exact ⟨y, h1, h2, by rw [Tm.knotsL]; exact List.mem_append_right _ h3⟩
end
def Fo (R : List Pr) (t : Tm) : Bool := R.any fun r => CF r.1 t
def Bw (R : List Pr) (t : Tm) : List Pr → Option (Tm × Int)
 | [] => none
 | r :: l => if CF r.1 t = true then (if (Aq (BT r.1 t) r.2).2 = true then some ((Aq (BT r.1 t) r.2).1, 0) else some (Tm.nil, 8)) else Bw R t l
def DR (R : List Pr) (t : Tm) : Option (Tm × Int) := Bw R t R
theorem GW (R : List Pr) (t : Tm) : ∀ l : List Pr, Bw R t l = none ↔ l.any (fun r => CF r.1 t) = false
 | [] => by simp [Bw]
 | r :: l => by
  rw [Bw, List.any_cons, Bool.or_eq_false_iff, ← GW R t l]
  by_cases h : CF r.1 t = true
  ·rw [if_pos h, h]
   split <;> simp
  ·rw [if_neg h]
   simp only [Bool.not_eq_true] at h
   simp [h]
theorem Cu {R : List Pr} {t : Tm} : DR R t = none ↔ Fo R t = false := GW R t R
theorem IW {R : List Pr} {t x : Tm} {e : Int} : ∀ {l : List Pr}, Bw R t l = some (x, e) → (e = 0 ∨ e = 8) ∧ x.size ≤ 2000 ∧ (e = 8 → x = Tm.nil)
 | [], h => by cases h
 | r :: l, h => by
  rw [Bw] at h
  split at h
  ·split at h
   ·cases h
    refine ⟨.inl rfl, ?_, by simp⟩
    unfold Aq
    split
    ·assumption
    ·decide
   ·cases h
    exact ⟨.inr rfl, by decide, fun _ => rfl⟩
  ·exact IW h
mutual
def Tm.inn (R : List Pr) : Tm → Option (Tm × Int)
 | .mk n xs => match Tm.innL R xs with
  | some (ys, e) => some (.mk n ys, e)
  | none => DR R (.mk n xs)
def Tm.innL (R : List Pr) : List Tm → Option (List Tm × Int)
 | [] => none
 | x :: xs => match Tm.inn R x with
  | some (y, e) => some (y :: xs, e)
  | none => match Tm.innL R xs with
   | some (ys, e) => some (x :: ys, e)
   | none => none
end
mutual
def Tm.out (R : List Pr) : Tm → Option (Tm × Int)
 | .mk n xs => match DR R (.mk n xs) with
  | some r => some r
  | none => match Tm.outL R xs with
   | some (ys, e) => some (.mk n ys, e)
   | none => none
def Tm.outL (R : List Pr) : List Tm → Option (List Tm × Int)
 | [] => none
 | x :: xs => match Tm.out R x with
  | some (y, e) => some (y :: xs, e)
  | none => match Tm.outL R xs with
   | some (ys, e) => some (x :: ys, e)
   | none => none
end
theorem Tm.inn_eq (R : List Pr) (t : Tm) : t.inn R = match Tm.innL R t.args with
  | some (ys, e) => some (.mk t.name ys, e)
  | none => DR R t := by cases t; rfl
def SR (R : List Pr) (xs : List Tm) : Bool := (Tm.knotsL xs).any (Fo R)
def G9 (R : List Pr) (x : Tm) : Bool := Fo R x && !SR R x.args
mutual
theorem Tm.inn_none (R : List Pr) : ∀ t : Tm, t.inn R = none ↔ t.knots.any (Fo R) = false
 | .mk n xs => by
  rw [Tm.inn, Tm.knots, List.any_cons, Bool.or_eq_false_iff, ← Tm.innL_none R xs]
  cases Tm.innL R xs with
  | none => simp [Cu]
  | some r => simp
theorem Tm.innL_none (R : List Pr) : ∀ xs : List Tm, Tm.innL R xs = none ↔ (Tm.knotsL xs).any (Fo R) = false
 | [] => by simp [Tm.innL, Tm.knotsL]
 | x :: xs => by
  rw [Tm.innL, Tm.knotsL, List.any_append, Bool.or_eq_false_iff, ← Tm.innL_none R xs, ← Tm.inn_none R x]
  cases Tm.inn R x with
  | some r => simp
  | none => cases Tm.innL R xs <;> simp
end
def Di (R : List Pr) (t : Tm) : Option (List Int) → Option (Tm × Int)
 | none => none
 | some p => match t.atP p with
  | none => none
  | some x => (DR R x).map fun r => (t.putP p r.1, r.2)
mutual
theorem Tm.inn_find (R : List Pr) : ∀ t : Tm, t.inn R = Di R t (t.findP (G9 R))
 | .mk n xs => by
  rw [Tm.inn, Tm.findP]
  by_cases h : G9 R (.mk n xs) = true
  ·rw [if_pos h]
   unfold G9 at h
   rw [Bool.and_eq_true, Bool.not_eq_true'] at h
   rw [(Tm.innL_none R xs).2 h.2]
   simp only [Di, Tm.atP]
   cases DR R (.mk n xs) <;> simp [Tm.putP]
  ·rw [if_neg h]
   have key := Tm.innL_find R n xs 0 xs (by simp)
   cases hi : Tm.innL R xs with
   | some r =>
    rw [← key, hi]
    simp
   | none =>
    rw [hi] at key
    rw [← key]
    have h1 := (Tm.innL_none R xs).1 hi
    show DR R (.mk n xs) = none
    rw [Cu, ← Bool.not_eq_true]
    intro hf
    exact h (by unfold G9; rw [hf, show SR R (Tm.mk n xs).args = false from h1]; rfl)
theorem Tm.innL_find (R : List Pr) (n : ByteArray) (all : List Tm) : ∀ (k : Nat) (xs : List Tm), all.drop k = xs → (match Tm.innL R xs with
   | some r => some (Tm.mk n (all.take k ++ r.1), r.2)
   | none => none) = Di R (.mk n all) (Tm.findPL (G9 R) k xs)
 | _, [], _ => rfl
 | k, x :: xs, h => by
  have hk : all[k]? = some x := by
   have := congrArg (fun l => l[0]?) h
   simpa using this
  have hlt : k < all.length := (List.getElem?_eq_some_iff.1 hk).1
  have hd : all.drop (k + 1) = xs := by rw [← List.tail_drop, h]; rfl
  rw [Tm.innL, Tm.findPL, Tm.inn_find R x]
  cases hp : x.findP (G9 R) with
  | some p =>
   simp only [Di]
   rw [Tm.atP_at (t := .mk n all) hk]
   cases hx : x.atP p with
   | none =>
    obtain ⟨y, hy, _⟩ := Tm.findP_at _ x p hp
    rw [hx] at hy
    cases hy
   | some y =>
    cases hr : DR R y with
    | none =>
     obtain ⟨y', hy, h1, _⟩ := Tm.findP_at _ x p hp
     rw [hx] at hy
     cases hy
     unfold G9 at h1
     rw [Bool.and_eq_true] at h1
     rw [Cu.1 hr] at h1
     exact absurd h1.1 (by simp)
    | some r =>
     simp only [Option.map_some, hr]
     rw [Tm.putP_at (t := .mk n all) hk]
     simp only [Tm.name_mk, Tm.args_mk]
     rw [List.set_eq_take_append_cons_drop, if_pos hlt, hd]
  | none =>
   have key := Tm.innL_find R n all (k + 1) xs hd
   simp only [Di] at key ⊢
   rw [← key]
   cases Tm.innL R xs with
   | none => rfl
   | some r =>
    simp only
    rw [List.take_add_one, hk]
    simp
end
mutual
theorem Tm.out_find (R : List Pr) : ∀ t : Tm, t.out R = Di R t (t.findP (Fo R))
 | .mk n xs => by
  rw [Tm.out, Tm.findP]
  by_cases h : Fo R (.mk n xs) = true
  ·rw [if_pos h]
   simp only [Di, Tm.atP]
   cases hr : DR R (.mk n xs) with
   | none =>
    rw [Cu.1 hr] at h
    cases h
   | some r => simp [Tm.putP]
  ·rw [if_neg h, ← Tm.outL_find R n xs 0 xs (by simp), Cu.2 (by simpa using h)]
   cases Tm.outL R xs <;> simp
theorem Tm.outL_find (R : List Pr) (n : ByteArray) (all : List Tm) : ∀ (k : Nat) (xs : List Tm), all.drop k = xs → (match Tm.outL R xs with
   | some r => some (Tm.mk n (all.take k ++ r.1), r.2)
   | none => none) = Di R (.mk n all) (Tm.findPL (Fo R) k xs)
 | _, [], _ => rfl
 | k, x :: xs, h => by
  have hk : all[k]? = some x := by
   have := congrArg (fun l => l[0]?) h
   simpa using this
  have hlt : k < all.length := (List.getElem?_eq_some_iff.1 hk).1
  have hd : all.drop (k + 1) = xs := by rw [← List.tail_drop, h]; rfl
  rw [Tm.outL, Tm.findPL, Tm.out_find R x]
  cases hp : x.findP (Fo R) with
  | some p =>
   simp only [Di]
   rw [Tm.atP_at (t := .mk n all) hk]
   cases hx : x.atP p with
   | none =>
    obtain ⟨y, hy, _⟩ := Tm.findP_at _ x p hp
    rw [hx] at hy
    cases hy
   | some y =>
    cases hr : DR R y with
    | none =>
     obtain ⟨y', hy, h1, _⟩ := Tm.findP_at _ x p hp
     rw [hx] at hy
     cases hy
     rw [Cu.1 hr] at h1
     cases h1
    | some r =>
     simp only [Option.map_some, hr]
     rw [Tm.putP_at (t := .mk n all) hk]
     simp only [Tm.name_mk, Tm.args_mk]
     rw [List.set_eq_take_append_cons_drop, if_pos hlt, hd]
  | none =>
   have key := Tm.outL_find R n all (k + 1) xs hd
   simp only [Di] at key ⊢
   rw [← key]
   cases Tm.outL R xs with
   | none => rfl
   | some r =>
    simp only
    rw [List.take_add_one, hk]
    simp
end
def CW (step : Tm → Option (Tm × Int)) : Nat → Int → Tm → Tm × Int × Int
 | 0, n, t => match step t with
  | none => (t, n, 0)
  | some _ => (Tm.nil, 0, 9)
 | k + 1, n, t => match step t with
  | none => (t, n, 0)
  | some (x, e) => if e ≠ 0 then (Tm.nil, 0, e) else if 2000 < x.size then (Tm.nil, 0, 8) else CW step k (n + 1) x

def RS (l m : List Bd) : Prop := ∀ n x, lookup l n = some x → lookup m n = some x
theorem RS.trans {a b c : List Bd} (h : RS a b) (k : RS b c) : RS a c := fun n x e => k n x (h n x e)
def RD (b : Bd) : Prop := AL b.1 = true ∧ Ax b.1 = true ∧ b.2.chk = 0
theorem Sw {t : Tm} (h : t.chk = 0) : Ax t.name = true := by
 have := MK h
 unfold BQ at this
 split at this
 ·assumption
 ·cases this
mutual
theorem RM : ∀ (p : Tm), p.chk = 0 → ∀ (t : Tm), t.chk = 0 → ∀ (l : List Bd), (∀ b ∈ l, RD b) → ∀ b ∈ (p.mt t l).1, RD b
 | .mk n xs, hc, t, ht, l, hl => by
  obtain ⟨c1, c2⟩ := Tm.chk_args hc
  simp only [Tm.name_mk, Tm.args_mk] at c1 c2
  rw [Tm.mt]
  split
  ·rename_i hv
   split
   ·exact hl
   ·intro b hb
    rcases List.mem_append.1 hb with hb | hb
    ·exact hl b hb
    ·rw [List.mem_singleton] at hb
     subst hb
     exact ⟨hv, Sw hc, ht⟩
  ·split
   ·exact O8 xs c2 t.args (Tm.chk_args ht).2 l hl
   ·exact hl
theorem O8 : ∀ (xs : List Tm), (∀ x ∈ xs, x.chk = 0) → ∀ (ys : List Tm), (∀ y ∈ ys, y.chk = 0) → ∀ (l : List Bd), (∀ b ∈ l, RD b) → ∀ b ∈ (Tm.mtL xs ys l).1, RD b
 | [], _, ys, _, l, hl => by rw [Tm.mtL_nil]; exact hl
 | x :: xs, _, [], _, l, hl => by rw [Tm.mtL]; exact hl; simp
 | x :: xs, hc, y :: ys, hy, l, hl => by
  rw [Tm.mtL]
  have h1 := RM x (hc x (by simp)) y (hy y (by simp)) l hl
  split
  ·exact O8 xs (fun a ha => hc a (by simp [ha])) ys (fun a ha => hy a (by simp [ha])) _ h1
  ·exact h1
end
section
variable {p t : Tm}
theorem Qz (hp : p.chk = 0) (ht : t.chk = 0) : OkB (BT p t) := by
 unfold BT
 have hg := RM p hp t ht [] (by simp)
 split
 ·exact ⟨Bb (Je p t), fun b hb => (hg b (Bq.1 hb)).1, fun b hb => (hg b (Bq.1 hb)).2.1, fun b hb => (hg b (Bq.1 hb)).2.2⟩
 ·exact ⟨List.Pairwise.nil, by simp, by simp, by simp⟩
theorem Np : (BT p t).length ≤ p.size := by
 unfold BT
 split
 ·rw [BM]; exact Pp p t
 ·simp
end

def D9 {α : Type} (f : α → Int) : List α → Int
 | [] => 0
 | x :: xs => if f x = 0 then D9 f xs else f x
theorem Fn {α : Type} (f : α → Int) : ∀ xs ys : List α, D9 f (xs ++ ys) = if D9 f xs = 0 then D9 f ys else D9 f xs
 | [], ys => rfl
 | x :: xs, ys => by
  by_cases h : f x = 0
  ·have e1 : D9 f (x :: (xs ++ ys)) = D9 f (xs ++ ys) := if_pos h
   have e2 : D9 f (x :: xs) = D9 f xs := if_pos h
   rw [List.cons_append, e1, e2, Fn f xs ys]
  ·have e1 : D9 f (x :: (xs ++ ys)) = f x := if_neg h
   have e2 : D9 f (x :: xs) = f x := if_neg h
   rw [List.cons_append, e1, e2, if_neg h]
theorem NY {α : Type} {f : α → Int} {xs : List α} {k : Nat} {a : α} (h : xs[k]? = some a) (h0 : D9 f (xs.take k) = 0) : (f a = 0 → D9 f (xs.take (k + 1)) = 0) ∧ (f a ≠ 0 → D9 f xs = f a) := by
 refine ⟨fun ha => ?_, fun ha => ?_⟩
 ·rw [AY h, Fn, if_pos h0]
  simp [D9, ha]
 ·have e : xs = xs.take k ++ a :: xs.drop (k + 1) := by
   rw [← BS h, List.take_append_drop]
  rw [e, Fn, if_pos h0]
  simp [D9, ha]
theorem LU {α : Type} {f : α → Int} : ∀ {xs : List α}, D9 f xs = 0 → ∀ x ∈ xs, f x = 0
 | [], _, x, h => by cases h
 | y :: ys, h0, x, hx => by
  rw [D9] at h0
  by_cases hy : f y = 0
  ·rw [if_pos hy] at h0
   rcases List.mem_cons.1 hx with rfl | hx
   ·exact hy
   ·exact LU h0 x hx
  ·rw [if_neg hy] at h0
   exact absurd h0 hy
def Gn (r : Pr) : Bool := r.2.varsOf.any fun v => !B_ v r.1.varsOf
def Dm (r : Pr) : Int := if Bu r.1 r.2 = 0 then (if AL r.1.name = true then 2 else if Gn r = true then 15 else 0) else Bu r.1 r.2
def Bv (R : List Pr) : Int := if 40 < R.length then 3 else D9 Dm R
structure Au (R : List Pr) : Prop where
 len : R.length ≤ 40
 left : ∀ r ∈ R, r.1.may = 0
 right : ∀ r ∈ R, r.2.may = 0
 head : ∀ r ∈ R, AL r.1.name = false
 vars : ∀ r ∈ R, ∀ v ∈ r.2.varsOf, v ∈ r.1.varsOf
theorem M2 {r : Pr} (h : Dm r = 0) : r.1.may = 0 ∧ r.2.may = 0 ∧ AL r.1.name = false ∧ Gn r = false := by
 unfold Dm at h
 by_cases h1 : Bu r.1 r.2 = 0
 ·rw [if_pos h1] at h
  by_cases h2 : AL r.1.name = true
  ·rw [if_pos h2] at h; cases h
  ·rw [if_neg h2] at h
   by_cases h3 : Gn r = true
   ·rw [if_pos h3] at h; cases h
   ·unfold Bu at h1
    by_cases h4 : r.1.may = 0
    ·rw [if_pos h4] at h1
     exact ⟨h4, h1, by simpa using h2, by simpa using h3⟩
    ·rw [if_neg h4] at h1
     exact absurd h1 h4
 ·rw [if_neg h1] at h
  exact absurd h h1
theorem Sd {R : List Pr} (h : Bv R = 0) : Au R := by
 unfold Bv at h
 by_cases h0 : 40 < R.length
 ·rw [if_pos h0] at h; cases h
 ·rw [if_neg h0] at h
  have key := fun r hr => M2 (LU h r hr)
  refine ⟨by omega, fun r hr => (key r hr).1, fun r hr => (key r hr).2.1, fun r hr => (key r hr).2.2.1, fun r hr v hv => ?_⟩
  have := (key r hr).2.2.2
  unfold Gn at this
  rw [List.any_eq_false] at this
  have := this v hv
  simp only [Bool.not_eq_true', Bool.not_eq_false] at this
  exact Cc.1 this
def Ga (t : Tm) : Nat → List Pr → Tm × Int × Int
 | _, [] => (Tm.nil, -1, 0)
 | k, r :: l => if CF r.1 t = true then ((Aq (BT r.1 t) r.2).1, (k : Int), if (Aq (BT r.1 t) r.2).2 = true then 0 else 8) else Ga t (k + 1) l
theorem RC {s : List Bd} {t : Tm} (h : ¬ (Aq s t).2 = true) : (Aq s t).1 = Tm.nil := by
 unfold Aq at *
 split
 ·rename_i h1
  rw [if_pos h1] at h
  exact absurd rfl h
 ·rfl
theorem J3 (R : List Pr) (t : Tm) : ∀ (l : List Pr) (k : Nat), match Bw R t l with
  | none => Ga t k l = (Tm.nil, -1, 0)
  | some (x, e) => ∃ i : Nat, Ga t k l = (x, (i : Int), e)
 | [], k => rfl
 | r :: l, k => by
  rw [Bw, Ga]
  by_cases h : CF r.1 t = true
  ·rw [if_pos h, if_pos h]
   by_cases h2 : (Aq (BT r.1 t) r.2).2 = true
   ·rw [if_pos h2, if_pos h2]
    exact ⟨k, rfl⟩
   ·rw [if_neg h2, if_neg h2]
    exact ⟨k, by rw [RC h2]⟩
  ·rw [if_neg h, if_neg h]
   exact J3 R t l (k + 1)
theorem RX {R : List Pr} : ∀ {xs : List Tm} {k : Nat} {a y : Tm} {e : Int}, xs[k]? = some a → (∀ b ∈ xs.take k, b.inn R = none) → a.inn R = some (y, e) → Tm.innL R xs = some (xs.set k y, e)
 | [], k, a, y, e, h, _, _ => by simp at h
 | x :: xs, 0, a, y, e, h, _, hy => by
  simp at h
  subst h
  rw [Tm.innL, hy]
  rfl
 | x :: xs, k + 1, a, y, e, h, hn, hy => by
  rw [Tm.innL, hn x (by simp), RX (xs := xs) (k := k) (by simpa using h) (fun b hb => hn b (by rw [List.take_succ_cons]; exact List.mem_cons_of_mem _ hb)) hy]
  rfl
theorem PB {R : List Pr} : ∀ {xs : List Tm}, (∀ b ∈ xs, b.inn R = none) → Tm.innL R xs = none
 | [], _ => rfl
 | x :: xs, h => by rw [Tm.innL, h x (by simp), PB (fun b hb => h b (List.mem_cons_of_mem _ hb))]
theorem Hx {R : List Pr} (hR : Au R) {t x : Tm} {e : Int} (ht : t.chk = 0) : ∀ {l : List Pr}, (∀ r ∈ l, r ∈ R) → Bw R t l = some (x, e) → x.chk = 0 ∨ e = 8
 | [], _, h => by cases h
 | r :: l, hl, h => by
  rw [Bw] at h
  have hr := hl r (by simp)
  split at h
  ·rename_i hc
   split at h
   ·rename_i h2
    cases h
    left
    have e1 : (Aq (BT r.1 t) r.2).1 = r.2.on (BT r.1 t) := by
     unfold Aq at h2 ⊢
     split
     ·rfl
     ·rename_i h3
      rw [if_neg h3] at h2
      cases h2
    rw [e1]
    exact VW (Qz (Tm.may_chk (hR.left r hr)).1 ht).chk (Tm.may_chk (hR.right r hr)).1
   ·cases h
    exact .inr rfl
  ·exact Hx hR ht (fun r hr => hl r (List.mem_cons_of_mem _ hr)) h
theorem NN {n : ByteArray} {xs : List Tm} {k : Nat} {y : Tm} (h : (Tm.mk n xs).chk = 0) (hk : k < xs.length) (hy : y.chk = 0) : (Tm.mk n (xs.set k y)).chk = 0 := by
 refine PG h (by simp) fun z hz => ?_
 rcases List.mem_or_eq_of_mem_set hz with hz | rfl
 ·exact (Tm.chk_args h).2 z hz
 ·exact hy
theorem GM : ∀ {xs : List Tm} {k : Nat} {a : Tm} (y : Tm), xs[k]? = some a → Tm.sizes (xs.set k y) + a.size = Tm.sizes xs + y.size
 | [], k, a, y, h => by simp at h
 | x :: xs, 0, a, y, h => by
  simp at h
  subst h
  simp only [List.set_cons_zero, Tm.sizes]
  omega
 | x :: xs, k + 1, a, y, h => by
  have := GM (xs := xs) (k := k) y (by simpa using h)
  simp only [List.set_cons_succ, Tm.sizes]
  omega
mutual
theorem Ku {R : List Pr} (hR : Au R) : ∀ {t x : Tm} {e : Int}, t.chk = 0 → t.inn R = some (x, e) → (e = 0 ∨ e = 8) ∧ (e = 0 → x.chk = 0) ∧ x.size ≤ t.size + 2000
 | .mk n xs, x, e, hc, h => by
  rw [Tm.inn] at h
  split at h
  ·rename_i ys e' hy
   cases h
   obtain ⟨k, a, y, h1, h2, h3, h4, h5, h6⟩ := Lt (xs := xs) hR (fun b hb => (Tm.chk_args hc).2 b hb) hy
   subst h2
   have h7 := GM y h1
   have hk := Bh h1
   refine ⟨h4, fun he => NN hc hk (h5 he), ?_⟩
   have z1 : (Tm.mk n (xs.set k y)).size = 1 + Tm.sizes (xs.set k y) := rfl
   have z2 : (Tm.mk n xs).size = 1 + Tm.sizes xs := rfl
   omega
  ·obtain ⟨h1, h2, h3⟩ := IW h
   refine ⟨h1, fun he => (Hx hR hc (fun r hr => hr) h).resolve_right (by omega), by omega⟩
theorem Lt {R : List Pr} (hR : Au R) : ∀ {xs ys : List Tm} {e : Int}, (∀ b ∈ xs, b.chk = 0) → Tm.innL R xs = some (ys, e) → ∃ k a y, xs[k]? = some a ∧ ys = xs.set k y ∧ a.inn R = some (y, e) ∧ (e = 0 ∨ e = 8) ∧ (e = 0 → y.chk = 0) ∧ y.size ≤ a.size + 2000
 | [], ys, e, _, h => by cases h
 | x :: xs, ys, e, hc, h => by
  rw [Tm.innL] at h
  split at h
  ·rename_i y e' hy
   cases h
   obtain ⟨q1, q2, q3⟩ := Ku hR (hc x (by simp)) hy
   exact ⟨0, x, y, rfl, rfl, hy, q1, q2, q3⟩
  ·split at h
   ·rename_i ys' e' hy
    cases h
    obtain ⟨k, a, y, h1, h2, h3, h4⟩ := Lt hR (fun b hb => hc b (List.mem_cons_of_mem _ hb)) hy
    exact ⟨k + 1, a, y, by simpa using h1, by rw [h2]; rfl, h3, h4⟩
   ·cases h
end
mutual
theorem PL {R : List Pr} (hR : Au R) : ∀ {t x : Tm} {e : Int}, t.chk = 0 → t.out R = some (x, e) → (e = 0 ∨ e = 8) ∧ (e = 0 → x.chk = 0) ∧ x.size ≤ t.size + 2000
 | .mk n xs, x, e, hc, h => by
  rw [Tm.out] at h
  split at h
  ·rename_i r hr
   obtain ⟨x', e'⟩ := r
   cases h
   obtain ⟨h1, h2, h3⟩ := IW hr
   refine ⟨h1, fun he => (Hx hR hc (fun r hr => hr) hr).resolve_right (by omega), by omega⟩
  ·split at h
   ·rename_i ys e' hy
    cases h
    obtain ⟨k, a, y, h1, h2, h3, h4, h5, h6⟩ := L4 (xs := xs) hR (fun b hb => (Tm.chk_args hc).2 b hb) hy
    subst h2
    have h7 := GM y h1
    have hk := Bh h1
    refine ⟨h4, fun he => NN hc hk (h5 he), ?_⟩
    have z1 : (Tm.mk n (xs.set k y)).size = 1 + Tm.sizes (xs.set k y) := rfl
    have z2 : (Tm.mk n xs).size = 1 + Tm.sizes xs := rfl
    omega
   ·cases h
theorem L4 {R : List Pr} (hR : Au R) : ∀ {xs ys : List Tm} {e : Int}, (∀ b ∈ xs, b.chk = 0) → Tm.outL R xs = some (ys, e) → ∃ k a y, xs[k]? = some a ∧ ys = xs.set k y ∧ a.out R = some (y, e) ∧ (e = 0 ∨ e = 8) ∧ (e = 0 → y.chk = 0) ∧ y.size ≤ a.size + 2000
 | [], ys, e, _, h => by cases h
 | x :: xs, ys, e, hc, h => by
  rw [Tm.outL] at h
  split at h
  ·rename_i y e' hy
   cases h
   obtain ⟨q1, q2, q3⟩ := PL hR (hc x (by simp)) hy
   exact ⟨0, x, y, rfl, rfl, hy, q1, q2, q3⟩
  ·split at h
   ·rename_i ys' e' hy
    cases h
    obtain ⟨k, a, y, h1, h2, h3, h4⟩ := L4 hR (fun b hb => hc b (List.mem_cons_of_mem _ hb)) hy
    exact ⟨k + 1, a, y, by simpa using h1, by rw [h2]; rfl, h3, h4⟩
   ·cases h
end

mutual
theorem Ds : ∀ (t : Tm) (p : List Int), p ∈ t.places → ∃ x, t.atP p = some x ∧ x ∈ t.knots
 | .mk n xs, p, h => by
  rw [Tm.places] at h
  rcases List.mem_cons.1 h with rfl | h
  ·exact ⟨_, rfl, by rw [Tm.knots]; exact List.mem_cons_self⟩
  ·obtain ⟨x, h1, h2⟩ := Gl n xs 0 xs p (by simp) h
   exact ⟨x, h1, by rw [Tm.knots]; exact List.mem_cons_of_mem _ h2⟩
theorem Gl (n : ByteArray) (all : List Tm) : ∀ (k : Nat) (xs : List Tm) (p : List Int), all.drop k = xs → p ∈ Tm.placesFrom k xs → ∃ x, (Tm.mk n all).atP p = some x ∧ x ∈ Tm.knotsL xs
 | _, [], p, _, h => by simp [Tm.placesFrom] at h
 | k, x :: xs, p, hd, h => by
  have hk : all[k]? = some x := by
   have := congrArg (fun l => l[0]?) hd
   simpa using this
  rw [Tm.placesFrom] at h
  rcases List.mem_append.1 h with h | h
  ·obtain ⟨q, hq, rfl⟩ := List.mem_map.1 h
   obtain ⟨y, h1, h2⟩ := Ds x q hq
   exact ⟨y, by rw [Tm.atP_at (t := .mk n all) hk]; exact h1, by rw [Tm.knotsL]; exact List.mem_append_left _ h2⟩
  ·obtain ⟨y, h1, h2⟩ := Gl n all (k + 1) xs p (by rw [← List.tail_drop, hd]; rfl) h
   exact ⟨y, h1, by rw [Tm.knotsL]; exact List.mem_append_right _ h2⟩
end
mutual
theorem Hi : ∀ (t x : Tm), t.chk = 0 → x ∈ t.knots → x.chk = 0
 | .mk n xs, x, hc, h => by
  rw [Tm.knots] at h
  rcases List.mem_cons.1 h with rfl | h
  ·exact hc
  ·exact Lc xs x (fun b hb => (Tm.chk_args hc).2 b hb) h
theorem Lc : ∀ (xs : List Tm) (x : Tm), (∀ b ∈ xs, b.chk = 0) → x ∈ Tm.knotsL xs → x.chk = 0
 | [], x, _, h => by simp [Tm.knotsL] at h
 | y :: ys, x, hc, h => by
  rw [Tm.knotsL] at h
  rcases List.mem_append.1 h with h | h
  ·exact Hi y x (hc y (by simp)) h
  ·exact Lc ys x (fun b hb => hc b (List.mem_cons_of_mem _ hb)) h
end
mutual
theorem Cj : ∀ (t x : Tm), x ∈ t.knots → x.size ≤ t.size
 | .mk n xs, x, h => by
  rw [Tm.knots] at h
  rcases List.mem_cons.1 h with rfl | h
  ·exact Nat.le_refl _
  ·have := Jx xs x h
   simp only [Tm.size]
   omega
theorem Jx : ∀ (xs : List Tm) (x : Tm), x ∈ Tm.knotsL xs → x.size ≤ Tm.sizes xs
 | [], x, h => by simp [Tm.knotsL] at h
 | y :: ys, x, h => by
  rw [Tm.knotsL] at h
  simp only [Tm.sizes]
  rcases List.mem_append.1 h with h | h
  ·have := Cj y x h; omega
  ·have := Jx ys x h; omega
end
def LS (inner : Bool) (R : List Pr) (t : Tm) : Option (Tm × Int) := if inner = true then t.inn R else t.out R
def EJ (inner : Bool) (R : List Pr) : Tm → Bool := if inner = true then G9 R else Fo R
theorem P4 (inner : Bool) (R : List Pr) (t : Tm) : LS inner R t = Di R t (t.findP (EJ inner R)) := by
 cases inner with
 | true => exact Tm.inn_find R t
 | false => exact Tm.out_find R t
theorem P1 {inner : Bool} {R : List Pr} (hR : Au R) {t x : Tm} {e : Int} (hc : t.chk = 0) (h : LS inner R t = some (x, e)) : (e = 0 ∨ e = 8) ∧ (e = 0 → x.chk = 0) ∧ x.size ≤ t.size + 2000 := by
 cases inner with
 | true => exact Ku hR hc h
 | false => exact PL hR hc h
theorem Ly {inner : Bool} {R : List Pr} {x : Tm} (h : EJ inner R x = true) : Fo R x = true := by
 cases inner with
 | true =>
  unfold EJ G9 at h
  simp only [if_true, Bool.and_eq_true] at h
  exact h.1
 | false => exact h
def Fe (R : List Pr) (most : Nat) (a b : Tm) : Bool × Int :=
 let x := CW (Tm.inn R) most 0 a
 let y := CW (Tm.inn R) most 0 b
 if x.2.2 ≠ 0 then (false, x.2.2) else if y.2.2 ≠ 0 then (false, y.2.2) else (x.1.beq y.1, 0)

theorem Dv {s : List Bd} {t : Tm} : (Aq s t).1.size ≤ 2000 := by
 unfold Aq
 split
 ·assumption
 ·decide
theorem LX : ∀ (p : List Int) (t y : Tm), (t.putP p y).size ≤ t.size + y.size
 | [], t, y => by rw [Tm.putP_nil]; omega
 | i :: p, t, y => by
  rw [Tm.putP_cons]
  split
  ·rename_i a ha
   have h1 := GM (a.putP p y) ha
   have h2 := LX p a y
   have h3 := Tm.size_eq t
   simp only [Tm.size]
   omega
  ·omega

theorem QK {ds : List Nat} (hds : ∀ d ∈ ds, d < 1000) {x : Option AN} (hb : ∀ b, x = some b → b.high = true) : x.map (AN.purge ds) = x := by
 cases h : x with
 | none => rfl
 | some b => rw [Option.map_some, AN.purge_high hds (hb b h)]
theorem RI {S S1 : AD} {a0 : Nat} {b : AN} (hS : BJ S) (ha : 1000 ≤ a0) (h1 : S1 a0 = some b) (h2 : ∀ i, 1000 ≤ i → i ≠ a0 → S1 i = S i) : CX S1 = AM S a0 (some b) := by
 funext i
 show (if i < 1000 then none else S1 i) = _
 by_cases e : i = a0
 ·subst e
  rw [if_neg (by omega), AG, h1]
 ·rw [AO _ e]
  by_cases hi : i < 1000
  ·rw [if_pos hi, AR hS hi]
  ·rw [if_neg hi, h2 i (by omega) e]
theorem OE {S S1 : AD} {a0 : Nat} {b : AN} (hS : BJ S) (hb : b.high = true) (h1 : S1 a0 = some b) (h2 : ∀ i, 1000 ≤ i → i ≠ a0 → S1 i = S i) : ∀ i c, 1000 ≤ i → S1 i = some c → c.high = true := fun i c hi hc => by
 by_cases e : i = a0
 ·subst e
  rw [h1] at hc
  cases hc
  exact hb
 ·rw [h2 i hi e] at hc
  exact (hS i c hc).2
theorem Bj {C : Ctx} {rs : List RV} {r : AV} {e : AX} {s : AS} {S : AD} {a0 : Nat} {b : AN} (r0 : AV) (hS : BJ S) (ha : 1000 ≤ a0) (hb : b.high = true) (he : match e with | .normal => True | .ret => True | _ => False)
  (h1 : (AA s rs).map AH = some r0) (h2 : outV s.S r0 = some r) (h3 : s.S a0 = some b) (h4 : ∀ i, 1000 ≤ i → i ≠ a0 → s.S i = S i) : JE C rs r (AM S a0 (some b)) e s :=
 Of he r0 h1 h2 (OE hS hb h3 h4) (RI hS ha h3 h4) (C2 hS ha hb)
theorem P6 (i a0 : Nat) : BP i a0 i = a0 := by simp [BP]

set_option maxHeartbeats 800000
def C5 (u : Tm) (left : Int) : Tm × Int := if (u.size : Int) ≤ left then (u, left - u.size) else (Tm.nil, -1)
abbrev Hp (s : List Bd) (left : Int) : AN := .box 95 [.st (.list (s.map BG)), .st (.int .i64 left)]
theorem Dw {u : Tm} {left : Int} (h : (u.size : Int) ≤ left) : C5 u left = (u, left - u.size) := if_pos h
theorem DS {u : Tm} {left : Int} (h : ¬ (u.size : Int) ≤ left) : C5 u left = (Tm.nil, -1) := if_neg h
theorem MI (s : List Bd) (h40 : s.length ≤ 100000) (ho : BA s) (turn : Bool) (f : Tm → Tm) (t : Tm) (hl : turn = true → lookup s t.name = none)
  (ih : ∀ a ∈ t.args, ∀ (a0 : Nat) (left : Int) (S : AD), 1000 ≤ a0 → 0 ≤ left → left ≤ 1000000 → S a0 = some (Hp s left) →
   An Tryz.prog 71 [.one (.ptr a0 1 0 0), aTm a, Ab turn] S (aTm (C5 (f a) left).1) (AM S a0 (some (Hp s (C5 (f a) left).2))))
  (a0 : Nat) (left : Int) (S : AD) (ha0 : 1000 ≤ a0) (h0 : 0 ≤ left) (h1 : left ≤ 1000000) (hSa : S a0 = some (Hp s left)) :
  An Tryz.prog 71 [.one (.ptr a0 1 0 0), aTm t, Ab turn] S (aTm (C5 (.mk t.name (t.args.map f)) left).1) (AM S a0 (some (Hp s (C5 (.mk t.name (t.args.map f)) left).2))) := by
 refine CB.acS fun hS C hC => ?_
 have hu : (Tm.mk t.name (t.args.map f)).size = 1 + Tm.sizes (t.args.map f) := rfl
 have hlen := Tm.length_le (t.args.map f)
 rw [List.length_map] at hlen
 have n4 : S 4 = none := AR hS (by omega)
 have n6 : S 6 = none := AR hS (by omega)
 have n7 : S 7 = none := AR hS (by omega)
 have n9 : S 9 = none := AR hS (by omega)
 have n11 : S 11 = none := AR hS (by omega)
 have n900 : S 900 = none := AR hS (by omega)
 have d4 : ¬ 4 = a0 := by omega
 have d6 : ¬ 6 = a0 := by omega
 have d7 : ¬ 7 = a0 := by omega
 have d9 : ¬ 9 = a0 := by omega
 have d11 : ¬ 11 = a0 := by omega
 have d900 : ¬ 900 = a0 := by omega
 have e4 : ¬ a0 = 4 := by omega
 have e6 : ¬ a0 = 6 := by omega
 have e7 : ¬ a0 = 7 := by omega
 have e9 : ¬ a0 = 9 := by omega
 have e11 : ¬ a0 = 11 := by omega
 have e900 : ¬ a0 = 900 := by omega
 unfold Be
 cases turn
 case' false =>
  repeat' with_reducible first | refine W ?_ | refine Z0 ?_ | ((first | refine Wo fun K hK => ?_ | refine Wq ?_ | refine Wr ?_); (try simp only [go_sem, fN, seval, eT, iR, hSa, n4, n6, n7, d4, d6, d7, e4, e6, e7]); (repeat refine Ai ?_); (try (refine hK _ ?_; clear hK K)))
  with_reducible refine Wp ?_
  simp only [go_sem, fN, seval, true_implies, false_implies, implies_true, dT, dF, nL]
  (try with_reducible refine iC ?_)
  repeat' with_reducible first | refine W ?_ | refine Z0 ?_ | ((first | refine Wo fun K hK => ?_ | refine Wq ?_ | refine Wr ?_); (try simp only [go_sem, fN, seval, eT, iR, hSa, n4, n6, n7, n9, d4, d6, d7, d9, e4, e6, e7, e9]); (repeat refine Ai ?_); (try (refine hK _ ?_; clear hK K)))
 case' true =>
  have hln := hl rfl
  repeat' with_reducible first | refine W ?_ | refine Z0 ?_ | ((first | refine Wo fun K hK => ?_ | refine Wq ?_ | refine Wr ?_); (try simp only [go_sem, fN, seval, eT, iR, hSa, n4, n6, n7, d4, d6, d7, e4, e6, e7]); (repeat refine Ai ?_); (try (refine hK _ ?_; clear hK K)))
  with_reducible refine Wp ?_
  simp only [go_sem, fN, seval, true_implies, false_implies, implies_true, dT, dF, nL]
  (try with_reducible refine iC ?_)
  repeat' (first | (with_reducible first | refine W ?_ | refine Z0 ?_ | ((first | refine Wo fun K hK => ?_ | refine Wq ?_ | refine Wr ?_); (try simp only [go_sem, fN, seval, eT, iR, hSa, n4, n6, n7, d4, d6, d7, e4, e6, e7, hln]); (repeat refine Ai ?_); (try (refine hK _ ?_; clear hK K)))) | refine Cg _ (Ty s h40 ho t.name) ?_)
  with_reducible refine Wp ?_
  simp only [go_sem, fN, seval, true_implies, false_implies, implies_true, dT, dF, nL]
  (try with_reducible refine iC ?_)
  repeat' with_reducible first | refine W ?_ | refine Z0 ?_ | ((first | refine Wo fun K hK => ?_ | refine Wq ?_ | refine Wr ?_); (try simp only [go_sem, fN, seval, eT, iR, hSa, n4, n6, n7, n9, d4, d6, d7, d9, e4, e6, e7, e9]); (repeat refine Ai ?_); (try (refine hK _ ?_; clear hK K)))
 all_goals
  by_cases hz : left = 0
  ·subst hz
   have hno : ¬ ((Tm.mk t.name (t.args.map f)).size : Int) ≤ 0 := by rw [hu]; omega
   rw [DS hno]
   with_reducible refine Wp ?_
   simp only [go_sem, fN, seval, true_implies, false_implies, implies_true, dT, dF, nL]
   (try with_reducible refine iC ?_)
   repeat' with_reducible first | refine W ?_ | refine Z0 ?_ | ((first | refine Wo fun K hK => ?_ | refine Wq ?_ | refine Wr ?_); (try simp only [go_sem, fN, seval, eT, iR, hSa, n4, n6, n7, n9, d4, d6, d7, d9, e4, e6, e7, e9]); (repeat refine Ai ?_); (try (refine hK _ ?_; clear hK K)))
   refine Bj (.agg [.st (.str ⟨#[]⟩), .full []]) hS ha0 rfl trivial ?_ ?_ ?_ fun i hi hne => ?_
   ·simp only [go_sem, fN, seval, eT, iR, AA, AB, AH, e4, e6, e7, e9, d4, d6, d7, d9]
   ·simp only [go_sem, fN, seval, eT, iR, Tm.nil]
    rfl
   ·simp only [go_sem, fN, seval, eT, iR, e4, e6, e7, e9]
   ·have i4 : ¬ i = 4 := by omega
    have i6 : ¬ i = 6 := by omega
    have i7 : ¬ i = 7 := by omega
    simp only [go_sem, fN, seval, eT, iR, i4, i6, i7, hne]
  have hz' : ¬ left - 1 < 0 := by omega
  with_reducible refine Wp ?_
  simp only [go_sem, fN, seval, true_implies, false_implies, implies_true, dT, dF, nL, hz']
  (try with_reducible refine iC ?_)
  repeat' with_reducible first | refine W ?_ | refine Z0 ?_ | ((first | refine Wo fun K hK => ?_ | refine Wq ?_ | refine Wr ?_); (try simp only [go_sem, fN, seval, eT, iR, hSa, n4, n6, n7, n9, d4, d6, d7, d9, e4, e6, e7, e9]); (repeat refine Ai ?_); (try (refine hK _ ?_; clear hK K)))
  refine IWP.ghost (Af.ownC 9 1 900 29 2 (xs := ([] : List Tm).map Ap) (by simp only [go_sem, fN, seval, eT, iR, d9, d4, d6, d7, e9]; rfl) rfl (by simp only [go_sem, fN, seval, eT, iR, n900, d900]) CS) ?_
  refine IWP.loopD [11] (fun m x => ∃ k, k ≤ t.args.length ∧ m = t.args.length - k ∧ (Tm.sizes ((t.args.take k).map f) : Int) ≤ left - 1 ∧ x.env 0 = .one (.ptr a0 1 0 0) ∧ x.env 2 = Ab _ ∧ x.env 6 = .one (.ptr 6 1 0 0) ∧ x.env 9 = .one (.ptr 9 1 0 0) ∧ x.env 44 = .one (.st (.list (t.args.map Ap))) ∧ x.env 45 = AK t.args.length ∧ x.env 46 = AK k ∧
    x.S 6 = some (.box 29 [.st (.str ⟨#[]⟩), .full []]) ∧ x.S 9 = some (.box 29 [.st (.str t.name), .row 900 k]) ∧ x.S 900 = some (.arow 29 2 (((t.args.take k).map f).map Ap)) ∧ x.S 11 = none ∧ x.S a0 = some (Hp s (left - 1 - Tm.sizes ((t.args.take k).map f))) ∧ ∀ i, 1000 ≤ i → i ≠ a0 → x.S i = S i)
   t.args.length ⟨0, Nat.zero_le _, rfl, by show (0 : Int) ≤ _; omega, rfl, rfl, rfl, rfl, rfl, rfl, rfl, by simp only [go_sem, fN, seval, eT, iR, d6, d4, d7, d9, e6], by (simp only [go_sem, fN, seval, eT, iR, d9]); rfl, by simp only [go_sem, fN, seval, eT, iR, e9], by simp only [go_sem, fN, seval, eT, iR, n11, d11], by (simp only [go_sem, fN, seval, eT, iR, e9, e900]); simp [Tm.sizes], fun i hi hne => ?_⟩ ?_
  ·have i4 : ¬ i = 4 := by omega
   have i6 : ¬ i = 6 := by omega
   have i7 : ¬ i = 7 := by omega
   have i9 : ¬ i = 9 := by omega
   have i900 : ¬ i = 900 := by omega
   simp only [go_sem, fN, seval, eT, iR, i4, i6, i7, i9, i900, hne]
  rintro m ⟨env, S1⟩ ⟨k, hk, rfl, hsz, e0, e2, e6', e9', e44, e45, e46, s6, s9, s900, s11, sa, hrest⟩
  simp only at e0 e2 e6' e9' e44 e45 e46 s6 s9 s900 s11 sa hrest
  have hlk : (t.args.take k).length = k := by rw [List.length_take]; omega
  have hle := Tm.sizes_take_le (t.args.map f) k
  rw [← List.map_take] at hle
  have hkl := Tm.length_le ((t.args.take k).map f)
  rw [List.length_map, hlk] at hkl
  by_cases hlt : (k : Int) < t.args.length
  ·obtain ⟨a, ha⟩ := AT (show k < t.args.length by omega)
   have ha' : (t.args.map f)[k]? = some (f a) := by rw [List.getElem?_map, ha]; rfl
   have z1 := Tm.sizes_take ha'
   have z2 := Tm.sizes_take_le (t.args.map f) (k + 1)
   rw [← List.map_take, ← List.map_take] at z1
   rw [← List.map_take] at z2
   repeat' with_reducible first | refine W ?_ | refine Z0 ?_ | ((first | refine Wo fun K hK => ?_ | refine Wq ?_ | refine Wr ?_); (try simp only [go_sem, fN, seval, eT, iR, e0, e2, e6', e9', e44, e45, e46, s6, s9, s900, s11, sa, hlt]); (repeat refine Ai ?_); (try (refine hK _ ?_; clear hK K)))
   with_reducible refine Wp ?_
   simp only [go_sem, fN, seval, true_implies, false_implies, implies_true, dT, dF, nL, hlt]
   (try with_reducible refine iC ?_)
   repeat' with_reducible first | refine W ?_ | refine Z0 ?_ | ((first | refine Wo fun K hK => ?_ | refine Wq ?_ | refine Wr ?_); (try simp only [go_sem, fN, seval, eT, iR, e0, e2, e6', e9', e44, e45, e46, s6, s9, s900, s11, sa, d11, d9, e11, ha]); (repeat refine Ai ?_); (try (refine hK _ ?_; clear hK K)))
   have hcall := ih a (AI ha) (up1 a0) (left - 1 - Tm.sizes ((t.args.take k).map f)) (upS (AM (AM S1 11 (some (.box 29 [.st (.str ⟨#[]⟩), .full []]))) 11 (some (.box 29 [.st (.str a.name), .st (.list (a.args.map Ap))])))) (Aw a0) (by omega) (by omega) (by rw [A7, AO _ e11, AO _ e11, sa]; rfl)
   by_cases hfit : ((f a).size : Int) ≤ left - 1 - Tm.sizes ((t.args.take k).map f)
   ·rw [Dw hfit] at hcall
    refine ⟨_, _, hcall, ?_⟩
    have hge : ¬ left - 1 - Tm.sizes ((t.args.take k).map f) - (f a).size < 0 := by omega
    repeat' with_reducible first | refine W ?_ | refine Z0 ?_ | ((first | refine Wo fun K hK => ?_ | refine Wq ?_ | refine Wr ?_); (try simp only [go_sem, fN, seval, eT, iR, e0, e2, e6', e9', e44, e45, e46, s6, s9, s900, s11, d11, d9, e11, e9, e900, d900, hlk]); (repeat refine Ai ?_); (try (refine hK _ ?_; clear hK K)))
    with_reducible refine Wp ?_
    simp only [go_sem, fN, seval, true_implies, false_implies, implies_true, dT, dF, nL, hge]
    (try with_reducible refine iC ?_)
    repeat' with_reducible first | refine W ?_ | refine Z0 ?_ | ((first | refine Wo fun K hK => ?_ | refine Wq ?_ | refine Wr ?_); (try simp only [go_sem, fN, seval, eT, iR, e0, e2, e6', e9', e44, e45, e46, s6, s9, s900, s11, d11, d9, e11]); (repeat refine Ai ?_); (try (refine hK _ ?_; clear hK K)))
    refine AE ⟨t.args.length - (k + 1), by omega, k + 1, by omega, rfl, ?_⟩
    have hib : (a0 == 11) = false := by simp; omega
    have hzz : ((Tm.sizes ((t.args.take (k + 1)).map f) : Nat) : Int) = Tm.sizes ((t.args.take k).map f) + (f a).size := by omega
    refine ⟨by omega, ?_⟩
    simp only [go_sem, fN, seval, AS.drop, Ak, AC.clears, AC.clear, AC.highs, AC.high, Bool.not_false, Bool.true_and, Bool.and_self, AV.purge, AV.purges, AC.purge, AN.purge, List.contains_cons, List.contains_nil, Nat.reduceBEq, Bool.or_self, Bool.or_false, Bool.false_or, Bool.or_true, eT, iR, e0, e2, e6', e9', e44, e45, s6, s9, s900, d11, d9, e11, e9, e900, d900, d6, hib]
    refine ⟨by congr 3, by rw [AY ha, List.map_append, List.map_append, List.map_cons, List.map_nil, List.map_cons, List.map_nil, BC], ?_, fun i hi hne => ?_⟩
    ·congr 5
     omega
    ·have i9 : ¬ i = 9 := by omega
     have i11 : ¬ i = 11 := by omega
     have i900 : ¬ i = 900 := by omega
     have i11b : (i == 11) = false := by simp; omega
     simp only [go_sem, fN, seval, AS.drop, Ak, AC.clears, AC.clear, AC.highs, AC.high, Bool.not_false, Bool.true_and, Bool.and_self, AV.purge, AV.purges, AC.purge, AN.purge, List.contains_cons, List.contains_nil, Nat.reduceBEq, Bool.or_self, Bool.or_false, Bool.false_or, Bool.or_true, eT, iR, i9, i11, i11b, i900, hne]
     rw [hrest i hi hne]
     exact QK (by decide) fun b hb => (hS i b hb).2
   ·have hno : ¬ ((Tm.mk t.name (t.args.map f)).size : Int) ≤ left := by rw [hu]; omega
    rw [DS hfit] at hcall
    refine ⟨_, _, hcall, ?_⟩
    repeat' with_reducible first | refine W ?_ | refine Z0 ?_ | ((first | refine Wo fun K hK => ?_ | refine Wq ?_ | refine Wr ?_); (try simp only [go_sem, fN, seval, eT, iR, e0, e2, e6', e9', e44, e45, e46, s6, s9, s900, s11, d11, d9, e11, e9, e900, d900, hlk]); (repeat refine Ai ?_); (try (refine hK _ ?_; clear hK K)))
    with_reducible refine Wp ?_
    simp only [go_sem, fN, seval, true_implies, false_implies, implies_true, dT, dF, nL]
    (try with_reducible refine iC ?_)
    repeat' with_reducible first | refine W ?_ | refine Z0 ?_ | ((first | refine Wo fun K hK => ?_ | refine Wq ?_ | refine Wr ?_); (try simp only [go_sem, fN, seval, eT, iR, e0, e2, e6', e9', e44, e45, e46, s6, s9, s900, s11, d11, d9, e11, e6, d6, d900, e900]); (repeat refine Ai ?_); (try (refine hK _ ?_; clear hK K)))
    rw [DS hno]
    refine Bj (.agg [.st (.str ⟨#[]⟩), .full []]) hS ha0 rfl trivial ?_ ?_ ?_ fun i hi hne => ?_
    ·simp only [go_sem, fN, seval, eT, iR, AA, AB, AH, e6', s6, e6, e9, e11, e900, d6, d9, d11, d900]
    ·simp only [go_sem, fN, seval, eT, iR, Tm.nil]
     rfl
    ·simp only [go_sem, fN, seval, eT, iR, e6, e9, e11, e900]
    ·have i6 : ¬ i = 6 := by omega
     have i9 : ¬ i = 9 := by omega
     have i11 : ¬ i = 11 := by omega
     have i900 : ¬ i = 900 := by omega
     simp only [go_sem, fN, seval, eT, iR, i6, i9, i11, i900, hne]
     exact hrest i hi hne
  ·have hall : t.args.take k = t.args := List.take_of_length_le (by omega)
   rw [hall] at hlk s900 hsz sa
   have hyes : ((Tm.mk t.name (t.args.map f)).size : Int) ≤ left := by rw [hu]; omega
   repeat' with_reducible first | refine W ?_ | refine Z0 ?_ | ((first | refine Wo fun K hK => ?_ | refine Wq ?_ | refine Wr ?_); (try simp only [go_sem, fN, seval, eT, iR, e0, e2, e6', e9', e44, e45, e46, s6, s9, s900, s11, sa, hlt]); (repeat refine Ai ?_); (try (refine hK _ ?_; clear hK K)))
   with_reducible refine Wp ?_
   simp only [go_sem, fN, seval, true_implies, false_implies, implies_true, dT, dF, nL, hlt]
   (try with_reducible refine iC ?_)
   repeat' with_reducible first | refine W ?_ | refine Z0 ?_ | ((first | refine Wo fun K hK => ?_ | refine Wq ?_ | refine Wr ?_); (try simp only [go_sem, fN, seval, eT, iR, e0, e2, e6', e9', e44, e45, e46, s6, s9, s900, s11, sa, d6]); (repeat refine Ai ?_); (try (refine hK _ ?_; clear hK K)))
   rw [Dw hyes]
   refine Bj (.agg [.st (.str t.name), .row 900 k]) hS ha0 rfl trivial ?_ ?_ ?_ fun i hi hne => ?_
   ·simp only [go_sem, fN, seval, eT, iR, AA, AB, AH, e6', s6]
   ·simp only [go_sem, fN, seval, eT, iR, s900, hlk]
    rfl
   ·simp only [go_sem, fN, seval, eT, iR, e6, sa, hu]
    rw [show left - 1 - (Tm.sizes (t.args.map f) : Int) = left - ((1 + Tm.sizes (t.args.map f) : Nat) : Int) by omega]
   ·have i6 : ¬ i = 6 := by omega
    simp only [go_sem, fN, seval, eT, iR, i6]
    exact hrest i hi hne
theorem Vw (s : List Bd) (h40 : s.length ≤ 100000) (ho : BA s) (t : Tm) : ∀ (a0 : Nat) (left : Int) (S : AD), 1000 ≤ a0 → 0 ≤ left → left ≤ 1000000 → S a0 = some (Hp s left) →
  An Tryz.prog 71 [.one (.ptr a0 1 0 0), aTm t, Ab false] S (aTm (C5 t left).1) (AM S a0 (some (Hp s (C5 t left).2))) := by
 induction h : SizeOf.sizeOf t using Nat.strongRecOn generalizing t with
 | _ N ih =>
 subst h
 intro a0 left S h1 h2 h3 h4
 have := MI s h40 ho false id t (fun h => by cases h) (fun a ha => ih _ (Tm.lt_of_arg ha) a rfl) a0 left S h1 h2 h3 h4
 rw [List.map_id, Tm.eta] at this
 exact this
theorem Vf (s : List Bd) (h40 : s.length ≤ 100000) (ho : BA s) (t : Tm) (hv : ∀ b ∈ s, AL b.1 = true) (hchk : t.chk = 0) : ∀ (a0 : Nat) (left : Int) (S : AD), 1000 ≤ a0 → 0 ≤ left → left ≤ 1000000 → S a0 = some (Hp s left) →
  An Tryz.prog 71 [.one (.ptr a0 1 0 0), aTm t, Ab true] S (aTm (C5 (t.on s) left).1) (AM S a0 (some (Hp s (C5 (t.on s) left).2))) := by
 induction h : SizeOf.sizeOf t using Nat.strongRecOn generalizing t with
 | _ N ih =>
 subst h
 intro a0 left S ha0 h0 h1 hSa
 obtain ⟨c1, c2⟩ := Tm.chk_args hchk
 cases hl : lookup s t.name with
 | none =>
  have := MI s h40 ho true (Tm.on s) t (fun _ => hl) (fun a ha => ih _ (Tm.lt_of_arg ha) a (c2 a ha) rfl) a0 left S ha0 h0 h1 hSa
  rw [← Tm.on_knot (.inl hl)] at this
  exact this
 | some x =>
  obtain ⟨b, hb, hbn, _⟩ := Cw hl
  have hargs := c1 (by rw [← hbn]; exact hv b hb)
  rw [Tm.on_leaf hl hargs]
  refine CB.acS fun hS C hC => ?_
  have n4 : S 4 = none := AR hS (by omega)
  have n6 : S 6 = none := AR hS (by omega)
  have n7 : S 7 = none := AR hS (by omega)
  have e4 : ¬ a0 = 4 := by omega
  have e6 : ¬ a0 = 6 := by omega
  have e7 : ¬ a0 = 7 := by omega
  have d4 : ¬ 4 = a0 := by omega
  have d6 : ¬ 6 = a0 := by omega
  have d7 : ¬ 7 = a0 := by omega
  unfold Be
  repeat' with_reducible first | refine W ?_ | refine Z0 ?_ | ((first | refine Wo fun K hK => ?_ | refine Wq ?_ | refine Wr ?_); (try simp only [go_sem, fN, seval, eT, iR, hSa, n4, n6, n7, d4, d6, d7, e4, e6, e7]); (repeat refine Ai ?_); (try (refine hK _ ?_; clear hK K)))
  with_reducible refine Wp ?_
  simp only [go_sem, fN, seval, true_implies, false_implies, implies_true, dT, dF, nL]
  (try with_reducible refine iC ?_)
  repeat' (first | (with_reducible first | refine W ?_ | refine Z0 ?_ | ((first | refine Wo fun K hK => ?_ | refine Wq ?_ | refine Wr ?_); (try simp only [go_sem, fN, seval, eT, iR, hSa, n4, n6, n7, d4, d6, d7, e4, e6, e7, hl]); (repeat refine Ai ?_); (try (refine hK _ ?_; clear hK K)))) | refine Cg _ (Ty s h40 ho t.name) ?_)
  with_reducible refine Wp ?_
  simp only [go_sem, fN, seval, true_implies, false_implies, implies_true, dT, dF, nL]
  (try with_reducible refine iC ?_)
  repeat' with_reducible first | refine W ?_ | refine Z0 ?_ | ((first | refine Wo fun K hK => ?_ | refine Wq ?_ | refine Wr ?_); (try simp only [go_sem, fN, seval, eT, iR, hSa, n4, n6, n7, d4, d6, d7, e4, e6, e7]); (repeat refine Ai ?_); (try (refine hK _ ?_; clear hK K)))
  have hcall := fun S' h => Vw s h40 ho x (up1 a0) left S' (Aw a0) h0 h1 h
  refine ⟨_, _, hcall _ (by rw [A7]; (simp only [go_sem, fN, seval, eT, iR, e4, e6, e7, hSa])), ?_⟩
  repeat' with_reducible first | refine W ?_ | refine Z0 ?_ | ((first | refine Wo fun K hK => ?_ | refine Wq ?_ | refine Wr ?_); (try simp only [go_sem, fN, seval, eT, iR, e4, e6, e7, d4, d6, d7]); (repeat refine Ai ?_); (try (refine hK _ ?_; clear hK K)))
  refine Bj (aTm (C5 x left).1) hS ha0 rfl trivial ?_ ?_ ?_ fun i hi hne => ?_
  ·simp only [go_sem, fN, seval, eT, iR, AA, AB, AH, e4, e6, e7, d4, d6, d7]
  ·simp only [go_sem, fN, seval, eT, iR]
  ·simp only [go_sem, fN, seval, eT, iR, e4, e6, e7]
  ·have i4 : ¬ i = 4 := by omega
   have i6 : ¬ i = 6 := by omega
   have i7 : ¬ i = 7 := by omega
   simp only [go_sem, fN, seval, eT, iR, i4, i6, i7, hne]
theorem Lq (s : List Bd) (h40 : s.length ≤ 100000) (ho : BA s) (t : Tm) (hv : ∀ b ∈ s, AL b.1 = true) (hchk : t.chk = 0) : AQ Tryz.prog 49 [Dc s, aTm t] (.tup [aTm (Aq s t).1, Ab (Aq s t).2]) := by
 refine N7.ac fun C hC => ?_
 unfold I_
 repeat' with_reducible first | refine W ?_ | refine Z0 ?_ | ((first | refine Wo fun K hK => ?_ | refine Wq ?_ | refine Wr ?_); (try simp only [go_sem, fN, seval, eT, iR]); (repeat refine Ai ?_); (try (refine hK _ ?_; clear hK K)))
 have hcall := fun S' h => Vf s h40 ho t hv hchk (up1 10) 2000 S' (Aw 10) (by omega) (by omega) h
 refine ⟨_, _, hcall _ (by rw [A7]; rfl), ?_⟩
 by_cases hfit : ((t.on s).size : Int) ≤ 2000
 ·have e : Aq s t = (t.on s, true) := by
   unfold Aq
   rw [if_pos (by omega)]
  rw [Dw hfit]
  have hge : (0 : Int) ≤ 2000 - (t.on s).size := by omega
  repeat' with_reducible first | refine W ?_ | refine Z0 ?_ | ((first | refine Wo fun K hK => ?_ | refine Wq ?_ | refine Wr ?_); (try simp only [go_sem, fN, seval, eT, iR, hge]); (repeat refine Ai ?_); (try (refine hK _ ?_; clear hK K)))
  rw [e]
  simp only [go_sem, fN, seval, AJ, AS.result, AA, AB, AH]
 ·have e : Aq s t = (Tm.nil, false) := by
   unfold Aq
   rw [if_neg (by omega)]
  rw [DS hfit]
  repeat' with_reducible first | refine W ?_ | refine Z0 ?_ | ((first | refine Wo fun K hK => ?_ | refine Wq ?_ | refine Wr ?_); (try simp only [go_sem, fN, seval, eT, iR]); (repeat refine Ai ?_); (try (refine hK _ ?_; clear hK K)))
  rw [e]
  simp only [go_sem, fN, seval, AJ, AS.result, AA, AB, AH]

def Al : IR :=
 (.seq (.ops [.i 6 (.mov (.n 0)), .i 7 (.mov (.c (.one (.st (.bool false)))))]) (.seq (.ops [.m 12 0, .i 13 (.len false (.t 12)), .m 8 13]) (.seq (.ops [.m 14 8, .i 9 (.mov (.n 0)), .m 10 14]) (.seq (.block 0 (.loop (.seq (.seq (.ops [.m 15 9, .m 16 10, .i 17 (.bin .lss (.t 15) (.t 16))]) (.cond (.t 17) .skip (.exit 0))) (.block 1 (.seq (.ops [.m 18 9, .m 19 10, .i 20 (.bin .add (.t 18) (.t 19)), .i 21 (.conv .u64 (.t 20)), .i 22 (.bin .shr (.t 21) (.c (.one (.st (.int .u64 1))))), .i 23 (.conv .i64 (.t 22)), .m 11 23]) (.seq (.ops [.m 24 2, .m 25 0, .m 26 11, .i 27 (.indexAddr 3 (.t 25) (.t 26)), .L 28 3 27, .m 29 1, .i 30 (.callV (.t 24) [.t 28, .t 29]), .i 31 (.bin .lss (.t 30) (.n 0))]) (.cond (.t 31) (.ops [.m 32 11, .i 33 (.bin .add (.t 32) (.n 1)), .m 9 33]) (.ops [.m 34 11, .m 10 34])))))))) (.seq (.ops [.m 35 9, .m 36 9, .m 37 8, .i 38 (.bin .lss (.t 36) (.t 37)), .m 39 38, .mk (some 40) (some (39, true)) (.mov (.t 2)) .no, .mk (some 41) (some (39, true)) (.mov (.t 0)) .no, .mk (some 42) (some (39, true)) (.mov (.t 9)) .no, .mk (some 43) (some (39, true)) (.indexAddr 3 (.t 41) (.t 42)) .no, .mk (some 44) (some (39, true)) (.load true 3 (.t 43)) .no, .mk (some 45) (some (39, true)) (.mov (.t 1)) .no, .mk (some 46) (some (39, true)) (.callV (.t 40) [.t 44, .t 45]) .no, .mk (some 47) (some (39, true)) (.bin .eql (.t 46) (.n 0)) .no, .i 48 (.pick (.t 39) (.t 47) (.c (.one (.st (.bool false))))), .m 6 35, .m 7 48]) .ret)))))
theorem A6 : OkF Tryz.prog 97 49 [] Al [.t 6, .t 7] := .of Tryz.func97 rfl rfl (by kernel_rfl) rfl
def Fh : IR :=
 (.seq (.ops [.i 4 (.alloc 29 [.st (.str (ByteArray.mk (#[]))), .full []]), .i 5 (.mov (.c (.one (.st (.bool false)))))]) (.seq (.ops [.m 9 0, .m 10 1, .i 11 (.callR 97 [.t 9, .t 10, .c (.one (.fn 98 []))]), .m 8 11, .i 12 (.extract 0 (.t 8)), .i 13 (.extract 1 (.t 8)), .m 6 12, .m 7 13]) (.seq (.seq (.ops [.m 14 7, .i 15 (.un .not (.t 14))]) (.cond (.t 15) (.seq (.ops [.i 16 (.build [.st (.str (ByteArray.mk (#[]))), .full []] []), .s 2 4 16, .i 5 (.mov (.c (.one (.st (.bool false)))))]) .ret) .skip)) (.seq (.ops [.m 17 0, .m 18 6, .i 19 (.indexAddr 3 (.t 17) (.t 18)), .f 20 1 19, .L 21 2 20, .s 2 4 21, .i 5 (.mov (.c (.one (.st (.bool true)))))]) .ret))))
theorem Jo : OkF Tryz.prog 88 22 [40000011] Fh [.cell 4 true 2, .t 5] := .of Tryz.func88 rfl rfl (by kernel_rfl) rfl
def BV : IR :=
 (.seq (.ops [.i 4 (.box 29 (.t 1)), .i 6 (.alloc 29 [.st (.str (ByteArray.mk (#[]))), .full []])]) (.seq (.seq (.ops [.m 12 2]) (.cond (.t 12) (.seq (.ops [.m 14 0, .i 15 (.nilCheck (.t 14)), .f 16 0 15, .l 17 16, .f 18 0 4, .l 19 18, .i 20 (.callR 88 [.t 17, .t 19]), .m 13 20, .i 21 (.extract 0 (.t 13)), .i 22 (.extract 1 (.t 13)), .i 7 (.alloc 29 [.st (.str (ByteArray.mk (#[]))), .full []]), .s 2 7 21, .m 8 22]) (.seq (.ops [.m 23 8]) (.cond (.t 23) (.seq (.ops [.m 24 0, .L 25 2 7, .i 26 (.callS 71 [.t 24, .t 25, .c (.one (.st (.bool false)))]), .s 2 6 26]) .ret) .skip))) .skip)) (.seq (.seq (.ops [.m 27 0, .i 28 (.nilCheck (.t 27)), .f 29 1 28, .l 30 29, .i 31 (.bin .sub (.t 30) (.n 1)), .i 32 (.nilCheck (.t 27)), .f 33 1 32, .s 1 33 31]) (.seq (.ops [.m 34 0, .i 35 (.nilCheck (.t 34)), .f 36 1 35, .l 37 36, .i 38 (.bin .lss (.t 37) (.n 0))]) (.cond (.t 38) (.seq (.ops [.i 39 (.build [.st (.str (ByteArray.mk (#[]))), .full []] []), .s 2 6 39]) .ret) .skip))) (.seq (.ops [.f 40 0 4, .l 41 40, .i 42 (.build [.st (.str (ByteArray.mk (#[]))), .full []] [(0, 1, .t 41)]), .i 9 (.alloc 29 [.st (.str (ByteArray.mk (#[]))), .full []]), .s 2 9 42]) (.seq (.seq (.ops [.f 43 1 4, .l 44 43, .i 45 (.len false (.t 44)), .i 46 (.mov (.n 0))]) (.block 0 (.loop (.seq (.ops [.i 47 (.bin .lss (.t 46) (.t 45))]) (.seq (.cond (.t 47) .skip (.exit 0)) (.seq (.block 1 (.seq (.ops [.i 48 (.indexAddr 2 (.t 44) (.t 46)), .L 49 2 48, .i 11 (.alloc 29 [.st (.str (ByteArray.mk (#[]))), .full []]), .s 2 11 49]) (.seq (.ops [.mk (some 50) none (.fieldAddr 1 (.t 9)) (.onb 9), .mk (some 51) none (.load false 1 (.t 50)) (.onb 9), .m 52 0, .L 53 2 11, .m 54 2, .mk (some 55) none (.callS 71 [.t 52, .t 53, .t 54]) (.keeps [9, 9]), .i 56 (.buildSlice false 29 2 [.t 55]), .i 57 (.append false 29 2 40 (.t 51) (.t 56)), .f 58 1 9, .s 1 58 57]) (.seq (.ops [.m 59 0, .i 60 (.nilCheck (.t 59)), .f 61 1 60, .l 62 61, .i 63 (.bin .lss (.t 62) (.n 0))]) (.cond (.t 63) (.seq (.ops [.i 64 (.build [.st (.str (ByteArray.mk (#[]))), .full []] []), .s 2 6 64]) .ret) .skip))))) (.ops [.i 65 (.bin .add (.t 46) (.n 1)), .m 46 65]))))))) (.seq (.ops [.L 66 2 9, .s 2 6 66]) .ret))))))
theorem B7 : OkF Tryz.prog 71 67 [40000020, 26, 55] BV [.cell 6 true 2] := .of Tryz.func71 rfl rfl (by kernel_rfl) rfl
def HP : IR :=
 (.seq (.ops [.i 3 (.box 29 (.t 1)), .i 4 (.alloc 29 [.st (.str (ByteArray.mk (#[]))), .full []]), .i 5 (.mov (.c (.one (.st (.bool false)))))]) (.seq (.ops [.m 8 0, .i 9 (.build [.full [], .st (.int .i64 0)] [(0, 1, .t 8), (1, 1, .n 2000)]), .i 10 (.box 95 (.t 9)), .m 6 10]) (.seq (.ops [.m 11 6, .L 12 2 3, .i 13 (.callS 71 [.t 11, .t 12, .c (.one (.st (.bool true)))]), .i 7 (.alloc 29 [.st (.str (ByteArray.mk (#[]))), .full []]), .s 2 7 13]) (.seq (.ops [.L 14 2 7, .m 15 6, .mk (some 16) none (.nilCheck (.t 15)) (.onb 10), .mk (some 17) none (.fieldAddr 1 (.t 16)) (.onb 10), .mk (some 18) none (.load false 1 (.t 17)) (.onb 10), .i 19 (.bin .geq (.t 18) (.n 0)), .mk none none (.store 2 (.t 4) (.t 14)) (.onb 4), .m 5 19]) .ret))))
theorem M9 : OkF Tryz.prog 49 20 [13, 10060010] HP [.cell 4 true 2, .t 5] := .of Tryz.func49 rfl rfl (by kernel_rfl) rfl

abbrev BN (l : List Bd) : AN := .mrow 81 3 (l.map BG)

end Go.Proofs.YtgepacmabaaohaaGreatDoor
