/-
  Part 6 of the texts. Conditions: none.
-/
import Derived.Test.YtgepacmabaaohaaGreatDoorCrS5
import Derived.Lib.ItoaNum
namespace Go.Proofs.YtgepacmabaaohaaGreatDoor
open Go Go.RowKit
set_option maxRecDepth 100000
def ir_term_letter : IR :=
 (.seq (.ops [.i 2 (.mov (.c (.one (.st (.bool false)))))]) (.seq (.ops [.m 3 0, .i 4 (.bin .geq (.t 3) (.c (.one (.st (.int .u8 97))))), .m 5 4, .mk (some 6) (some (5, true)) (.mov (.t 0)) .no, .mk (some 7) (some (5, true)) (.bin .leq (.t 6) (.c (.one (.st (.int .u8 122))))) .no, .i 8 (.pick (.t 5) (.t 7) (.c (.one (.st (.bool false))))), .m 9 8, .mk (some 10) (some (9, false)) (.mov (.t 0)) .no, .mk (some 11) (some (9, false)) (.bin .geq (.t 10) (.c (.one (.st (.int .u8 65))))) .no, .mk (some 12) (some (9, false)) (.mov (.t 11)) .no, .mk (some 13) (some (12, true)) (.mov (.t 0)) .no, .mk (some 14) (some (12, true)) (.bin .leq (.t 13) (.c (.one (.st (.int .u8 90))))) .no, .mk (some 15) (some (9, false)) (.pick (.t 12) (.t 14) (.c (.one (.st (.bool false))))) .no, .i 16 (.pick (.t 9) (.c (.one (.st (.bool true)))) (.t 15)), .m 17 16, .mk (some 18) (some (17, false)) (.mov (.t 0)) .no, .mk (some 19) (some (17, false)) (.bin .geq (.t 18) (.c (.one (.st (.int .u8 48))))) .no, .mk (some 20) (some (17, false)) (.mov (.t 19)) .no, .mk (some 21) (some (20, true)) (.mov (.t 0)) .no, .mk (some 22) (some (20, true)) (.bin .leq (.t 21) (.c (.one (.st (.int .u8 57))))) .no, .mk (some 23) (some (17, false)) (.pick (.t 20) (.t 22) (.c (.one (.st (.bool false))))) .no, .i 24 (.pick (.t 17) (.c (.one (.st (.bool true)))) (.t 23)), .m 2 24]) .ret))
theorem ok_term_letter : OkF Tryz.prog 100 25 [] ir_term_letter [.t 2] := .of Tryz.func100 rfl rfl (by kernel_rfl) rfl
def ir_R_IsLetter : IR :=
 (.seq (.ops [.i 2 (.mov (.c (.one (.st (.bool false)))))]) (.seq (.ops [.m 3 0, .i 4 (.bin .geq (.t 3) (.c (.one (.st (.int .u8 97))))), .m 5 4, .mk (some 6) (some (5, true)) (.mov (.t 0)) .no, .mk (some 7) (some (5, true)) (.bin .leq (.t 6) (.c (.one (.st (.int .u8 122))))) .no, .i 8 (.pick (.t 5) (.t 7) (.c (.one (.st (.bool false))))), .m 9 8, .mk (some 10) (some (9, false)) (.mov (.t 0)) .no, .mk (some 11) (some (9, false)) (.bin .geq (.t 10) (.c (.one (.st (.int .u8 65))))) .no, .mk (some 12) (some (9, false)) (.mov (.t 11)) .no, .mk (some 13) (some (12, true)) (.mov (.t 0)) .no, .mk (some 14) (some (12, true)) (.bin .leq (.t 13) (.c (.one (.st (.int .u8 90))))) .no, .mk (some 15) (some (9, false)) (.pick (.t 12) (.t 14) (.c (.one (.st (.bool false))))) .no, .i 16 (.pick (.t 9) (.c (.one (.st (.bool true)))) (.t 15)), .m 17 16, .mk (some 18) (some (17, false)) (.mov (.t 0)) .no, .mk (some 19) (some (17, false)) (.bin .geq (.t 18) (.c (.one (.st (.int .u8 48))))) .no, .mk (some 20) (some (17, false)) (.mov (.t 19)) .no, .mk (some 21) (some (20, true)) (.mov (.t 0)) .no, .mk (some 22) (some (20, true)) (.bin .leq (.t 21) (.c (.one (.st (.int .u8 57))))) .no, .mk (some 23) (some (17, false)) (.pick (.t 20) (.t 22) (.c (.one (.st (.bool false))))) .no, .i 24 (.pick (.t 17) (.c (.one (.st (.bool true)))) (.t 23)), .m 2 24]) .ret))
theorem ok_R_IsLetter : OkF Tryz.prog 78 25 [] ir_R_IsLetter [.t 2] := .of Tryz.func78 rfl rfl (by kernel_rfl) rfl
def ir_term_Name : IR :=
 (.seq (.ops [.i 2 (.mov (.c (.one (.st (.bool false)))))]) (.seq (.seq (.ops [.m 4 0, .i 5 (.len true (.t 4)), .i 6 (.bin .lss (.t 5) (.n 1)), .m 7 6, .mk (some 8) (some (7, false)) (.mov (.t 0)) .no, .mk (some 9) (some (7, false)) (.len true (.t 8)) .no, .mk (some 10) (some (7, false)) (.bin .gtr (.t 9) (.n 8)) .no, .i 11 (.pick (.t 7) (.c (.one (.st (.bool true)))) (.t 10)), .m 12 11, .mk (some 13) (some (12, false)) (.mov (.t 0)) .no, .mk (some 14) (some (12, false)) (.indexStr (.t 13) (.n 0)) .no, .mk (some 15) (some (12, false)) (.bin .geq (.t 14) (.c (.one (.st (.int .u8 48))))) .no, .mk (some 16) (some (12, false)) (.mov (.t 15)) .no, .mk (some 17) (some (16, true)) (.mov (.t 0)) .no, .mk (some 18) (some (16, true)) (.indexStr (.t 17) (.n 0)) .no, .mk (some 19) (some (16, true)) (.bin .leq (.t 18) (.c (.one (.st (.int .u8 57))))) .no, .mk (some 20) (some (12, false)) (.pick (.t 16) (.t 19) (.c (.one (.st (.bool false))))) .no, .i 21 (.pick (.t 12) (.c (.one (.st (.bool true)))) (.t 20))]) (.cond (.t 21) (.seq (.ops [.i 2 (.mov (.c (.one (.st (.bool false)))))]) .ret) .skip)) (.seq (.seq (.ops [.m 22 0, .i 23 (.len true (.t 22)), .i 24 (.mov (.n 0))]) (.block 0 (.loop (.seq (.ops [.i 25 (.bin .lss (.t 24) (.t 23))]) (.seq (.cond (.t 25) .skip (.exit 0)) (.seq (.block 1 (.seq (.ops [.m 26 24, .m 3 26]) (.seq (.ops [.m 27 0, .m 28 3, .i 29 (.indexStr (.t 27) (.t 28)), .i 30 (.call 100 [.t 29]), .i 31 (.un .not (.t 30))]) (.cond (.t 31) (.seq (.ops [.i 2 (.mov (.c (.one (.st (.bool false)))))]) .ret) .skip)))) (.ops [.i 32 (.bin .add (.t 24) (.n 1)), .m 24 32]))))))) (.seq (.ops [.i 2 (.mov (.c (.one (.st (.bool true)))))]) .ret))))
theorem ok_term_Name : OkF Tryz.prog 92 33 [] ir_term_Name [.t 2] := .of Tryz.func92 rfl rfl (by kernel_rfl) rfl
def ir_R_IsName : IR :=
 (.seq (.ops [.i 2 (.mov (.c (.one (.st (.bool false)))))]) (.seq (.seq (.ops [.m 4 0, .i 5 (.bin .eql (.t 4) (.c (.one (.st (.str (ByteArray.mk (#[]))))))), .m 6 5, .mk (some 7) (some (6, false)) (.mov (.t 0)) .no, .mk (some 8) (some (6, false)) (.len true (.t 7)) .no, .mk (some 9) (some (6, false)) (.bin .gtr (.t 8) (.n 8)) .no, .i 10 (.pick (.t 6) (.c (.one (.st (.bool true)))) (.t 9)), .m 11 10, .mk (some 12) (some (11, false)) (.mov (.t 0)) .no, .mk (some 13) (some (11, false)) (.indexStr (.t 12) (.n 0)) .no, .mk (some 14) (some (11, false)) (.bin .geq (.t 13) (.c (.one (.st (.int .u8 48))))) .no, .mk (some 15) (some (11, false)) (.mov (.t 14)) .no, .mk (some 16) (some (15, true)) (.mov (.t 0)) .no, .mk (some 17) (some (15, true)) (.indexStr (.t 16) (.n 0)) .no, .mk (some 18) (some (15, true)) (.bin .leq (.t 17) (.c (.one (.st (.int .u8 57))))) .no, .mk (some 19) (some (11, false)) (.pick (.t 15) (.t 18) (.c (.one (.st (.bool false))))) .no, .i 20 (.pick (.t 11) (.c (.one (.st (.bool true)))) (.t 19))]) (.cond (.t 20) (.seq (.ops [.i 2 (.mov (.c (.one (.st (.bool false)))))]) .ret) .skip)) (.seq (.seq (.ops [.i 3 (.mov (.n 0))]) (.block 0 (.loop (.seq (.seq (.ops [.m 21 3, .m 22 0, .i 23 (.len true (.t 22)), .i 24 (.bin .lss (.t 21) (.t 23))]) (.cond (.t 24) .skip (.exit 0))) (.seq (.block 1 (.seq (.ops [.m 27 0, .m 28 3, .i 29 (.indexStr (.t 27) (.t 28)), .i 30 (.call 78 [.t 29]), .i 31 (.un .not (.t 30))]) (.cond (.t 31) (.seq (.ops [.i 2 (.mov (.c (.one (.st (.bool false)))))]) .ret) .skip))) (.ops [.m 25 3, .i 26 (.bin .add (.t 25) (.n 1)), .m 3 26])))))) (.seq (.ops [.i 2 (.mov (.c (.one (.st (.bool true)))))]) .ret))))
theorem ok_R_IsName : OkF Tryz.prog 57 32 [] ir_R_IsName [.t 2] := .of Tryz.func57 rfl rfl (by kernel_rfl) rfl
def ir_term_Variable : IR :=
 (.seq (.ops [.i 2 (.mov (.c (.one (.st (.bool false)))))]) (.seq (.ops [.m 3 0, .i 4 (.bin .neq (.t 3) (.c (.one (.st (.str (ByteArray.mk (#[]))))))), .m 5 4, .mk (some 6) (some (5, true)) (.mov (.t 0)) .no, .mk (some 7) (some (5, true)) (.indexStr (.t 6) (.n 0)) .no, .mk (some 8) (some (5, true)) (.bin .geq (.t 7) (.c (.one (.st (.int .u8 65))))) .no, .i 9 (.pick (.t 5) (.t 8) (.c (.one (.st (.bool false))))), .m 10 9, .mk (some 11) (some (10, true)) (.mov (.t 0)) .no, .mk (some 12) (some (10, true)) (.indexStr (.t 11) (.n 0)) .no, .mk (some 13) (some (10, true)) (.bin .leq (.t 12) (.c (.one (.st (.int .u8 90))))) .no, .i 14 (.pick (.t 10) (.t 13) (.c (.one (.st (.bool false))))), .m 2 14]) .ret))
theorem ok_term_Variable : OkF Tryz.prog 40 15 [] ir_term_Variable [.t 2] := .of Tryz.func40 rfl rfl (by kernel_rfl) rfl
def ir_R_IsVar : IR :=
 (.seq (.ops [.i 2 (.mov (.c (.one (.st (.bool false)))))]) (.seq (.ops [.m 3 0, .i 4 (.bin .neq (.t 3) (.c (.one (.st (.str (ByteArray.mk (#[]))))))), .m 5 4, .mk (some 6) (some (5, true)) (.mov (.t 0)) .no, .mk (some 7) (some (5, true)) (.indexStr (.t 6) (.n 0)) .no, .mk (some 8) (some (5, true)) (.bin .geq (.t 7) (.c (.one (.st (.int .u8 65))))) .no, .i 9 (.pick (.t 5) (.t 8) (.c (.one (.st (.bool false))))), .m 10 9, .mk (some 11) (some (10, true)) (.mov (.t 0)) .no, .mk (some 12) (some (10, true)) (.indexStr (.t 11) (.n 0)) .no, .mk (some 13) (some (10, true)) (.bin .leq (.t 12) (.c (.one (.st (.int .u8 90))))) .no, .i 14 (.pick (.t 10) (.t 13) (.c (.one (.st (.bool false))))), .m 2 14]) .ret))
theorem ok_R_IsVar : OkF Tryz.prog 18 15 [] ir_R_IsVar [.t 2] := .of Tryz.func18 rfl rfl (by kernel_rfl) rfl
def ir_term_within : IR :=
 (.seq (.ops [.i 2 (.box 29 (.t 0)), .i 4 (.mov (.n 0))]) (.seq (.ops [.m 7 1, .i 8 (.bin .sub (.t 7) (.n 1)), .m 1 8]) (.seq (.seq (.ops [.f 9 1 2, .l 10 9, .i 11 (.len false (.t 10)), .i 12 (.mov (.n 0))]) (.block 0 (.loop (.seq (.ops [.i 13 (.bin .lss (.t 12) (.t 11))]) (.seq (.cond (.t 13) .skip (.exit 0)) (.seq (.block 1 (.seq (.ops [.i 14 (.indexAddr 2 (.t 10) (.t 12)), .L 15 2 14, .i 6 (.alloc 29 [.st (.str (ByteArray.mk (#[]))), .full []]), .s 2 6 15]) (.seq (.seq (.ops [.m 16 1, .i 17 (.bin .lss (.t 16) (.n 0))]) (.cond (.t 17) (.exit 0) .skip)) (.ops [.L 18 2 6, .m 19 1, .i 20 (.call 82 [.t 18, .t 19]), .m 1 20])))) (.ops [.i 21 (.bin .add (.t 12) (.n 1)), .m 12 21]))))))) (.seq (.ops [.m 22 1, .m 4 22]) .ret))))
theorem ok_term_within : OkF Tryz.prog 82 23 [] ir_term_within [.t 4] := .of Tryz.func82 rfl rfl (by kernel_rfl) rfl
def ir_R_Size : IR :=
 (.seq (.ops [.i 2 (.box 29 (.t 0)), .i 4 (.mov (.n 0))]) (.seq (.ops [.i 5 (.mov (.n 1))]) (.seq (.seq (.ops [.i 6 (.mov (.n 0))]) (.block 0 (.loop (.seq (.seq (.ops [.m 7 6, .f 8 1 2, .l 9 8, .i 10 (.len false (.t 9)), .i 11 (.bin .lss (.t 7) (.t 10)), .m 12 11, .mk (some 13) (some (12, true)) (.mov (.t 5)) .no, .mk (some 14) (some (12, true)) (.mov (.t 1)) .no, .mk (some 15) (some (12, true)) (.bin .leq (.t 13) (.t 14)) .no, .i 16 (.pick (.t 12) (.t 15) (.c (.one (.st (.bool false)))))]) (.cond (.t 16) .skip (.exit 0))) (.seq (.block 1 (.ops [.m 19 5, .f 20 1 2, .l 21 20, .m 22 6, .i 23 (.indexAddr 2 (.t 21) (.t 22)), .L 24 2 23, .m 25 1, .m 26 5, .i 27 (.bin .sub (.t 25) (.t 26)), .i 28 (.call 7 [.t 24, .t 27]), .i 29 (.bin .add (.t 19) (.t 28)), .m 5 29])) (.ops [.m 17 6, .i 18 (.bin .add (.t 17) (.n 1)), .m 6 18])))))) (.seq (.seq (.ops [.m 30 5, .m 31 1, .i 32 (.bin .gtr (.t 30) (.t 31))]) (.cond (.t 32) (.seq (.ops [.m 33 1, .i 34 (.bin .add (.t 33) (.n 1)), .m 4 34]) .ret) .skip)) (.seq (.ops [.m 35 5, .m 4 35]) .ret)))))
theorem ok_R_Size : OkF Tryz.prog 7 36 [] ir_R_Size [.t 4] := .of Tryz.func7 rfl rfl (by kernel_rfl) rfl
def ir_term_check : IR :=
 (.seq (.ops [.i 1 (.box 29 (.t 0)), .i 2 (.mov (.n 0))]) (.seq (.seq (.ops [.f 6 0 1, .l 7 6, .i 8 (.call 92 [.t 7]), .i 9 (.un .not (.t 8))]) (.cond (.t 9) (.seq (.ops [.i 2 (.mov (.n 1))]) .ret) .skip)) (.seq (.seq (.ops [.f 10 0 1, .l 11 10, .i 12 (.call 40 [.t 11]), .m 13 12, .mk (some 14) (some (13, true)) (.fieldAddr 1 (.t 1)) .no, .mk (some 15) (some (13, true)) (.load false 1 (.t 14)) .no, .mk (some 16) (some (13, true)) (.len false (.t 15)) .no, .mk (some 17) (some (13, true)) (.bin .gtr (.t 16) (.n 0)) .no, .i 18 (.pick (.t 13) (.t 17) (.c (.one (.st (.bool false)))))]) (.cond (.t 18) (.seq (.ops [.i 2 (.mov (.n 2))]) .ret) .skip)) (.seq (.seq (.ops [.f 19 1 1, .l 20 19, .i 21 (.len false (.t 20)), .i 22 (.mov (.n 0))]) (.block 0 (.loop (.seq (.ops [.i 23 (.bin .lss (.t 22) (.t 21))]) (.seq (.cond (.t 23) .skip (.exit 0)) (.seq (.block 1 (.seq (.ops [.i 24 (.indexAddr 2 (.t 20) (.t 22)), .L 25 2 24, .i 4 (.alloc 29 [.st (.str (ByteArray.mk (#[]))), .full []]), .s 2 4 25]) (.seq (.ops [.L 26 2 4, .i 27 (.call 83 [.t 26]), .m 5 27]) (.seq (.ops [.m 28 5, .i 29 (.bin .neq (.t 28) (.n 0))]) (.cond (.t 29) (.seq (.ops [.m 30 5, .m 2 30]) .ret) .skip))))) (.ops [.i 31 (.bin .add (.t 22) (.n 1)), .m 22 31]))))))) (.seq (.ops [.i 2 (.mov (.n 0))]) .ret)))))
theorem ok_term_check : OkF Tryz.prog 83 32 [] ir_term_check [.t 2] := .of Tryz.func83 rfl rfl (by kernel_rfl) rfl
def ir_term_Check : IR :=
 (.seq (.ops [.i 1 (.box 29 (.t 0)), .i 2 (.mov (.n 0))]) (.seq (.seq (.ops [.L 3 2 1, .i 4 (.call 82 [.t 3, .n 200]), .i 5 (.bin .lss (.t 4) (.n 0))]) (.cond (.t 5) (.seq (.ops [.i 2 (.mov (.n 3))]) .ret) .skip)) (.seq (.ops [.L 6 2 1, .i 7 (.call 83 [.t 6]), .m 2 7]) .ret)))
theorem ok_term_Check : OkF Tryz.prog 64 8 [] ir_term_Check [.t 2] := .of Tryz.func64 rfl rfl (by kernel_rfl) rfl
def ir_R_Knots : IR :=
 (.seq (.ops [.i 1 (.box 29 (.t 0)), .i 2 (.mov (.c (.one (.full []))))]) (.seq (.ops [.L 5 2 1, .i 6 (.buildSlice false 29 2 [.t 5]), .m 3 6]) (.seq (.seq (.ops [.i 4 (.mov (.n 0))]) (.block 0 (.loop (.seq (.seq (.ops [.m 7 4, .f 8 1 1, .l 9 8, .i 10 (.len false (.t 9)), .i 11 (.bin .lss (.t 7) (.t 10))]) (.cond (.t 11) .skip (.exit 0))) (.seq (.block 1 (.ops [.m 14 3, .f 15 1 1, .l 16 15, .m 17 4, .i 18 (.indexAddr 2 (.t 16) (.t 17)), .L 19 2 18, .i 20 (.call 30 [.t 19]), .i 21 (.append false 29 2 40 (.t 14) (.t 20)), .m 3 21])) (.ops [.m 12 4, .i 13 (.bin .add (.t 12) (.n 1)), .m 4 13])))))) (.seq (.ops [.m 22 3, .m 2 22]) .ret))))
theorem ok_R_Knots : OkF Tryz.prog 30 23 [] ir_R_Knots [.t 2] := .of Tryz.func30 rfl rfl (by kernel_rfl) rfl
def ir_R_TermMay : IR :=
 (.seq (.ops [.i 1 (.box 29 (.t 0)), .i 2 (.mov (.n 0))]) (.seq (.seq (.ops [.L 5 2 1, .i 6 (.call 7 [.t 5, .n 200]), .i 7 (.bin .gtr (.t 6) (.n 200))]) (.cond (.t 7) (.seq (.ops [.i 2 (.mov (.n 3))]) .ret) .skip)) (.seq (.ops [.L 8 2 1, .i 9 (.call 30 [.t 8]), .m 3 9]) (.seq (.seq (.ops [.i 4 (.mov (.n 0))]) (.block 0 (.loop (.seq (.seq (.ops [.m 10 4, .m 11 3, .i 12 (.len false (.t 11)), .i 13 (.bin .lss (.t 10) (.t 12))]) (.cond (.t 13) .skip (.exit 0))) (.seq (.block 1 (.seq (.seq (.ops [.m 16 3, .m 17 4, .i 18 (.indexAddr 2 (.t 16) (.t 17)), .f 19 0 18, .l 20 19, .i 21 (.call 57 [.t 20]), .i 22 (.un .not (.t 21))]) (.cond (.t 22) (.seq (.ops [.i 2 (.mov (.n 1))]) .ret) .skip)) (.seq (.ops [.m 23 3, .m 24 4, .i 25 (.indexAddr 2 (.t 23) (.t 24)), .f 26 0 25, .l 27 26, .i 28 (.call 18 [.t 27]), .m 29 28, .mk (some 30) (some (29, true)) (.mov (.t 3)) .no, .mk (some 31) (some (29, true)) (.mov (.t 4)) .no, .mk (some 32) (some (29, true)) (.indexAddr 2 (.t 30) (.t 31)) .no, .mk (some 33) (some (29, true)) (.fieldAddr 1 (.t 32)) .no, .mk (some 34) (some (29, true)) (.load false 1 (.t 33)) .no, .mk (some 35) (some (29, true)) (.len false (.t 34)) .no, .mk (some 36) (some (29, true)) (.bin .gtr (.t 35) (.n 0)) .no, .i 37 (.pick (.t 29) (.t 36) (.c (.one (.st (.bool false)))))]) (.cond (.t 37) (.seq (.ops [.i 2 (.mov (.n 2))]) .ret) .skip)))) (.ops [.m 14 4, .i 15 (.bin .add (.t 14) (.n 1)), .m 4 15])))))) (.seq (.ops [.i 2 (.mov (.n 0))]) .ret)))))
theorem ok_R_TermMay : OkF Tryz.prog 29 38 [] ir_R_TermMay [.t 2] := .of Tryz.func29 rfl rfl (by kernel_rfl) rfl
def ir_R_TwoMay : IR :=
 (.seq (.ops [.i 2 (.box 29 (.t 0)), .i 3 (.box 29 (.t 1)), .i 4 (.mov (.n 0))]) (.seq (.ops [.L 6 2 2, .i 7 (.call 29 [.t 6]), .m 5 7]) (.seq (.seq (.ops [.m 8 5, .i 9 (.bin .eql (.t 8) (.n 0))]) (.cond (.t 9) (.ops [.L 10 2 3, .i 11 (.call 29 [.t 10]), .m 5 11]) .skip)) (.seq (.ops [.m 12 5, .m 4 12]) .ret))))
theorem ok_R_TwoMay : OkF Tryz.prog 17 13 [] ir_R_TwoMay [.t 4] := .of Tryz.func17 rfl rfl (by kernel_rfl) rfl
def ir_R_Same : IR :=
 (.seq (.ops [.i 2 (.box 29 (.t 0)), .i 3 (.box 29 (.t 1)), .i 4 (.mov (.c (.one (.st (.bool false)))))]) (.seq (.seq (.ops [.f 6 0 2, .l 7 6, .f 8 0 3, .l 9 8, .i 10 (.bin .neq (.t 7) (.t 9)), .m 11 10, .mk (some 12) (some (11, false)) (.fieldAddr 1 (.t 2)) .no, .mk (some 13) (some (11, false)) (.load false 1 (.t 12)) .no, .mk (some 14) (some (11, false)) (.len false (.t 13)) .no, .mk (some 15) (some (11, false)) (.fieldAddr 1 (.t 3)) .no, .mk (some 16) (some (11, false)) (.load false 1 (.t 15)) .no, .mk (some 17) (some (11, false)) (.len false (.t 16)) .no, .mk (some 18) (some (11, false)) (.bin .neq (.t 14) (.t 17)) .no, .i 19 (.pick (.t 11) (.c (.one (.st (.bool true)))) (.t 18))]) (.cond (.t 19) (.seq (.ops [.i 4 (.mov (.c (.one (.st (.bool false)))))]) .ret) .skip)) (.seq (.seq (.ops [.i 5 (.mov (.n 0))]) (.block 0 (.loop (.seq (.seq (.ops [.m 20 5, .f 21 1 2, .l 22 21, .i 23 (.len false (.t 22)), .i 24 (.bin .lss (.t 20) (.t 23))]) (.cond (.t 24) .skip (.exit 0))) (.seq (.block 1 (.seq (.ops [.f 27 1 2, .l 28 27, .m 29 5, .i 30 (.indexAddr 2 (.t 28) (.t 29)), .L 31 2 30, .f 32 1 3, .l 33 32, .m 34 5, .i 35 (.indexAddr 2 (.t 33) (.t 34)), .L 36 2 35, .i 37 (.call 26 [.t 31, .t 36]), .i 38 (.un .not (.t 37))]) (.cond (.t 38) (.seq (.ops [.i 4 (.mov (.c (.one (.st (.bool false)))))]) .ret) .skip))) (.ops [.m 25 5, .i 26 (.bin .add (.t 25) (.n 1)), .m 5 26])))))) (.seq (.ops [.i 4 (.mov (.c (.one (.st (.bool true)))))]) .ret))))
theorem ok_R_Same : OkF Tryz.prog 26 39 [] ir_R_Same [.t 4] := .of Tryz.func26 rfl rfl (by kernel_rfl) rfl
def ir_R_In : IR :=
 (.seq (.ops [.i 4 (.mov (.c (.one (.st (.bool false)))))]) (.seq (.seq (.ops [.i 5 (.mov (.n 0))]) (.block 0 (.loop (.seq (.seq (.ops [.m 6 5, .m 7 1, .i 8 (.len false (.t 7)), .i 9 (.bin .lss (.t 6) (.t 8))]) (.cond (.t 9) .skip (.exit 0))) (.seq (.block 1 (.seq (.ops [.m 12 1, .m 13 5, .i 14 (.indexAddr 1 (.t 12) (.t 13)), .l 15 14, .m 16 0, .i 17 (.bin .eql (.t 15) (.t 16))]) (.cond (.t 17) (.seq (.ops [.i 4 (.mov (.c (.one (.st (.bool true)))))]) .ret) .skip))) (.ops [.m 10 5, .i 11 (.bin .add (.t 10) (.n 1)), .m 5 11])))))) (.seq (.ops [.i 4 (.mov (.c (.one (.st (.bool false)))))]) .ret)))
theorem ok_R_In : OkF Tryz.prog 20 18 [] ir_R_In [.t 4] := .of Tryz.func20 rfl rfl (by kernel_rfl) rfl
def ir_R_VarsOf : IR :=
 (.seq (.ops [.i 1 (.box 29 (.t 0)), .i 2 (.mov (.c (.one (.full []))))]) (.seq (.ops [.L 6 2 1, .i 7 (.call 30 [.t 6]), .m 3 7]) (.seq (.ops [.i 4 (.mov (.c (.one (.full []))))]) (.seq (.seq (.ops [.i 5 (.mov (.n 0))]) (.block 0 (.loop (.seq (.seq (.ops [.m 8 5, .m 9 3, .i 10 (.len false (.t 9)), .i 11 (.bin .lss (.t 8) (.t 10))]) (.cond (.t 11) .skip (.exit 0))) (.seq (.block 1 (.seq (.ops [.m 14 3, .m 15 5, .i 16 (.indexAddr 2 (.t 14) (.t 15)), .f 17 0 16, .l 18 17, .i 19 (.call 18 [.t 18]), .m 20 19, .mk (some 21) (some (20, true)) (.mov (.t 3)) .no, .mk (some 22) (some (20, true)) (.mov (.t 5)) .no, .mk (some 23) (some (20, true)) (.indexAddr 2 (.t 21) (.t 22)) .no, .mk (some 24) (some (20, true)) (.fieldAddr 0 (.t 23)) .no, .mk (some 25) (some (20, true)) (.load false 1 (.t 24)) .no, .mk (some 26) (some (20, true)) (.mov (.t 4)) .no, .mk (some 27) (some (20, true)) (.call 20 [.t 25, .t 26]) .no, .mk (some 28) (some (20, true)) (.un .not (.t 27)) .no, .i 29 (.pick (.t 20) (.t 28) (.c (.one (.st (.bool false)))))]) (.cond (.t 29) (.ops [.m 30 4, .m 31 3, .m 32 5, .i 33 (.indexAddr 2 (.t 31) (.t 32)), .f 34 0 33, .l 35 34, .i 36 (.buildFlat [.t 35]), .i 37 (.append false 9 1 16 (.t 30) (.t 36)), .m 4 37]) .skip))) (.ops [.m 12 5, .i 13 (.bin .add (.t 12) (.n 1)), .m 5 13])))))) (.seq (.ops [.m 38 4, .m 2 38]) .ret)))))
theorem ok_R_VarsOf : OkF Tryz.prog 19 39 [] ir_R_VarsOf [.t 2] := .of Tryz.func19 rfl rfl (by kernel_rfl) rfl
def ir_L_huge : IR :=
 (.seq (.ops [.i 1 (.box 29 (.t 0)), .i 2 (.mov (.c (.one (.st (.bool false)))))]) (.seq (.ops [.L 3 2 1, .i 4 (.call 7 [.t 3, .n 3000]), .i 5 (.bin .gtr (.t 4) (.n 3000)), .m 2 5]) .ret))
theorem ok_L_huge : OkF Tryz.prog 16 6 [] ir_L_huge [.t 2] := .of Tryz.func16 rfl rfl (by kernel_rfl) rfl
def ir_term_Copy : IR :=
 (.seq (.ops [.i 1 (.box 29 (.t 0)), .i 2 (.alloc 29 [.st (.str (ByteArray.mk (#[]))), .full []])]) (.seq (.ops [.f 6 0 1, .l 7 6, .i 8 (.build [.st (.str (ByteArray.mk (#[]))), .full []] [(0, 1, .t 7)]), .i 3 (.alloc 29 [.st (.str (ByteArray.mk (#[]))), .full []]), .s 2 3 8]) (.seq (.seq (.ops [.f 9 1 1, .l 10 9, .i 11 (.len false (.t 10)), .i 12 (.mov (.n 0))]) (.block 0 (.loop (.seq (.ops [.i 13 (.bin .lss (.t 12) (.t 11))]) (.seq (.cond (.t 13) .skip (.exit 0)) (.seq (.block 1 (.seq (.ops [.i 14 (.indexAddr 2 (.t 10) (.t 12)), .L 15 2 14, .i 5 (.alloc 29 [.st (.str (ByteArray.mk (#[]))), .full []]), .s 2 5 15]) (.ops [.f 16 1 3, .l 17 16, .L 18 2 5, .i 19 (.call 72 [.t 18]), .i 20 (.buildSlice false 29 2 [.t 19]), .i 21 (.append false 29 2 40 (.t 17) (.t 20)), .f 22 1 3, .s 1 22 21]))) (.ops [.i 23 (.bin .add (.t 12) (.n 1)), .m 12 23]))))))) (.seq (.ops [.L 24 2 3, .s 2 2 24]) .ret))))
theorem ok_term_Copy : OkF Tryz.prog 72 25 [] ir_term_Copy [.cell 2 true 2] := .of Tryz.func72 rfl rfl (by kernel_rfl) rfl
def ir_slices_Index_string_string : IR :=
 (.seq (.ops [.i 4 (.mov (.n 0))]) (.seq (.seq (.ops [.m 6 0, .i 7 (.len false (.t 6)), .i 8 (.mov (.n 0))]) (.block 0 (.loop (.seq (.ops [.i 9 (.bin .lss (.t 8) (.t 7))]) (.seq (.cond (.t 9) .skip (.exit 0)) (.seq (.block 1 (.seq (.ops [.m 10 8, .m 5 10]) (.seq (.ops [.m 11 1, .m 12 0, .m 13 5, .i 14 (.indexAddr 1 (.t 12) (.t 13)), .l 15 14, .i 16 (.bin .eql (.t 11) (.t 15))]) (.cond (.t 16) (.seq (.ops [.m 17 5, .m 4 17]) .ret) .skip)))) (.ops [.i 18 (.bin .add (.t 8) (.n 1)), .m 8 18]))))))) (.seq (.ops [.i 4 (.mov (.c (.one (.st (.int .i64 (-1))))))]) .ret)))
theorem ok_slices_Index_string_string : OkF Tryz.prog 67 19 [] ir_slices_Index_string_string [.t 4] := .of Tryz.func67 rfl rfl (by kernel_rfl) rfl
def ir_slices_Contains_string_string : IR :=
 (.seq (.ops [.i 4 (.mov (.c (.one (.st (.bool false)))))]) (.seq (.ops [.m 5 0, .m 6 1, .i 7 (.call 67 [.t 5, .t 6]), .i 8 (.bin .geq (.t 7) (.n 0)), .m 4 8]) .ret))
theorem ok_slices_Contains_string_string : OkF Tryz.prog 44 9 [] ir_slices_Contains_string_string [.t 4] := .of Tryz.func44 rfl rfl (by kernel_rfl) rfl
def ir_term_vars : IR :=
 (.seq (.ops [.i 2 (.box 29 (.t 0)), .i 4 (.mov (.c (.one (.full []))))]) (.seq (.seq (.ops [.f 7 0 2, .l 8 7, .i 9 (.call 40 [.t 8]), .m 10 9, .mk (some 11) (some (10, true)) (.mov (.t 1)) .no, .mk (some 12) (some (10, true)) (.fieldAddr 0 (.t 2)) .no, .mk (some 13) (some (10, true)) (.load false 1 (.t 12)) .no, .mk (some 14) (some (10, true)) (.call 44 [.t 11, .t 13]) .no, .mk (some 15) (some (10, true)) (.un .not (.t 14)) .no, .i 16 (.pick (.t 10) (.t 15) (.c (.one (.st (.bool false)))))]) (.cond (.t 16) (.ops [.m 17 1, .f 18 0 2, .l 19 18, .i 20 (.buildFlat [.t 19]), .i 21 (.append false 9 1 16 (.t 17) (.t 20)), .m 1 21]) .skip)) (.seq (.seq (.ops [.f 22 1 2, .l 23 22, .i 24 (.len false (.t 23)), .i 25 (.mov (.n 0))]) (.block 0 (.loop (.seq (.ops [.i 26 (.bin .lss (.t 25) (.t 24))]) (.seq (.cond (.t 26) .skip (.exit 0)) (.seq (.block 1 (.seq (.ops [.i 27 (.indexAddr 2 (.t 23) (.t 25)), .L 28 2 27, .i 6 (.alloc 29 [.st (.str (ByteArray.mk (#[]))), .full []]), .s 2 6 28]) (.ops [.L 29 2 6, .m 30 1, .i 31 (.callS 65 [.t 29, .t 30]), .m 1 31]))) (.ops [.i 32 (.bin .add (.t 25) (.n 1)), .m 25 32]))))))) (.seq (.ops [.m 33 1, .m 4 33]) .ret))))
theorem ok_term_vars : OkF Tryz.prog 65 34 [31] ir_term_vars [.t 4] := .of Tryz.func65 rfl rfl (by kernel_rfl) rfl
def ir_term_Vars : IR :=
 (.seq (.ops [.i 1 (.box 29 (.t 0)), .i 2 (.mov (.c (.one (.full []))))]) (.seq (.ops [.L 3 2 1, .i 4 (.callS 65 [.t 3, .c (.one (.full []))]), .m 2 4]) .ret))
theorem ok_term_Vars : OkF Tryz.prog 41 5 [4] ir_term_Vars [.t 2] := .of Tryz.func41 rfl rfl (by kernel_rfl) rfl

set_option linter.unusedVariables false
set_option linter.unusedSimpArgs false
set_option maxHeartbeats 400000
theorem byteN_eq (s : ByteArray) (k : Nat) : byteN s k = byteAt s k := rfl
theorem size_ne {s : ByteArray} (h : ¬ s.size = 0) : ¬ s = ⟨#[]⟩ := fun e => h (by rw [e]; rfl)
theorem size_eq0 {s : ByteArray} (h : s.size = 0) : s = ⟨#[]⟩ := by
 have := ByteArray.size_eq_zero_iff.1 h
 exact this
theorem letter_a (n : Int) (h0 : 0 ≤ n) : ACalls Tryz.prog 100 [.one (.st (.int .u8 n))] (aBool (letterI n)) := by
 refine ok_term_letter.ac fun C hC => ?_
 unfold ir_term_letter
 have hc : (97 ≤ n ∧ n ≤ 122) ∨ (122 < n) ∨ (n < 97 ∧ 65 ≤ n ∧ n ≤ 90) ∨ (n < 97 ∧ 90 < n) ∨ (n < 65 ∧ 48 ≤ n ∧ n ≤ 57) ∨ (n < 65 ∧ 57 < n) ∨ (n < 48) := by omega
 rcases hc with h | h | h | h | h | h | h
 ·have h1 : 97 ≤ n := h.1
  have h2 : n ≤ 122 := h.2
  repeat' (first | (with_reducible first | refine W ?_ | refine Z0 ?_) | ((with_reducible first | refine Wo (fun K hK => ?_) | refine Wq ?_ | refine Wr ?_); (try simp only [go_sem, fN, seval, eT, iR, h1, h2]); (repeat with_reducible refine Ai ?_); (try (refine hK _ ?_; clear hK K))))
  simp only [go_sem, fN, seval, FinQ, AS.result, resAll, resOne, tupV, letterI, h1, h2]
  try simp
 ·have h1 : 97 ≤ n := by omega
  have h2 : ¬ n ≤ 122 := by omega
  have h3 : 65 ≤ n := by omega
  have h4 : ¬ n ≤ 90 := by omega
  have h5 : 48 ≤ n := by omega
  have h6 : ¬ n ≤ 57 := by omega
  repeat' (first | (with_reducible first | refine W ?_ | refine Z0 ?_) | ((with_reducible first | refine Wo (fun K hK => ?_) | refine Wq ?_ | refine Wr ?_); (try simp only [go_sem, fN, seval, eT, iR, h1, h2, h3, h4, h5, h6]); (repeat with_reducible refine Ai ?_); (try (refine hK _ ?_; clear hK K))))
  simp only [go_sem, fN, seval, FinQ, AS.result, resAll, resOne, tupV, letterI, h1, h2, h3, h4, h5, h6]
  try simp
 ·have h1 : ¬ 97 ≤ n := by omega
  have h3 : 65 ≤ n := by omega
  have h4 : n ≤ 90 := by omega
  repeat' (first | (with_reducible first | refine W ?_ | refine Z0 ?_) | ((with_reducible first | refine Wo (fun K hK => ?_) | refine Wq ?_ | refine Wr ?_); (try simp only [go_sem, fN, seval, eT, iR, h1, h3, h4]); (repeat with_reducible refine Ai ?_); (try (refine hK _ ?_; clear hK K))))
  simp only [go_sem, fN, seval, FinQ, AS.result, resAll, resOne, tupV, letterI, h1, h3, h4]
  try simp
 ·have h1 : ¬ 97 ≤ n := by omega
  have h3 : 65 ≤ n := by omega
  have h4 : ¬ n ≤ 90 := by omega
  have h5 : 48 ≤ n := by omega
  have h6 : ¬ n ≤ 57 := by omega
  repeat' (first | (with_reducible first | refine W ?_ | refine Z0 ?_) | ((with_reducible first | refine Wo (fun K hK => ?_) | refine Wq ?_ | refine Wr ?_); (try simp only [go_sem, fN, seval, eT, iR, h1, h3, h4, h5, h6]); (repeat with_reducible refine Ai ?_); (try (refine hK _ ?_; clear hK K))))
  simp only [go_sem, fN, seval, FinQ, AS.result, resAll, resOne, tupV, letterI, h1, h3, h4, h5, h6]
  try simp
 ·have h1 : ¬ 97 ≤ n := by omega
  have h3 : ¬ 65 ≤ n := by omega
  have h5 : 48 ≤ n := by omega
  have h6 : n ≤ 57 := by omega
  repeat' (first | (with_reducible first | refine W ?_ | refine Z0 ?_) | ((with_reducible first | refine Wo (fun K hK => ?_) | refine Wq ?_ | refine Wr ?_); (try simp only [go_sem, fN, seval, eT, iR, h1, h3, h5, h6]); (repeat with_reducible refine Ai ?_); (try (refine hK _ ?_; clear hK K))))
  simp only [go_sem, fN, seval, FinQ, AS.result, resAll, resOne, tupV, letterI, h1, h3, h5, h6]
  try simp
 ·have h1 : ¬ 97 ≤ n := by omega
  have h3 : ¬ 65 ≤ n := by omega
  have h5 : 48 ≤ n := by omega
  have h6 : ¬ n ≤ 57 := by omega
  repeat' (first | (with_reducible first | refine W ?_ | refine Z0 ?_) | ((with_reducible first | refine Wo (fun K hK => ?_) | refine Wq ?_ | refine Wr ?_); (try simp only [go_sem, fN, seval, eT, iR, h1, h3, h5, h6]); (repeat with_reducible refine Ai ?_); (try (refine hK _ ?_; clear hK K))))
  simp only [go_sem, fN, seval, FinQ, AS.result, resAll, resOne, tupV, letterI, h1, h3, h5, h6]
  try simp
 ·have h1 : ¬ 97 ≤ n := by omega
  have h3 : ¬ 65 ≤ n := by omega
  have h5 : ¬ 48 ≤ n := by omega
  repeat' (first | (with_reducible first | refine W ?_ | refine Z0 ?_) | ((with_reducible first | refine Wo (fun K hK => ?_) | refine Wq ?_ | refine Wr ?_); (try simp only [go_sem, fN, seval, eT, iR, h1, h3, h5]); (repeat with_reducible refine Ai ?_); (try (refine hK _ ?_; clear hK K))))
  simp only [go_sem, fN, seval, FinQ, AS.result, resAll, resOne, tupV, letterI, h1, h3, h5]
  try simp
theorem isLetter_a (n : Int) (h0 : 0 ≤ n) : ACalls Tryz.prog 78 [.one (.st (.int .u8 n))] (aBool (letterI n)) := by
 refine ok_R_IsLetter.ac fun C hC => ?_
 unfold ir_R_IsLetter
 have hc : (97 ≤ n ∧ n ≤ 122) ∨ (122 < n) ∨ (n < 97 ∧ 65 ≤ n ∧ n ≤ 90) ∨ (n < 97 ∧ 90 < n) ∨ (n < 65 ∧ 48 ≤ n ∧ n ≤ 57) ∨ (n < 65 ∧ 57 < n) ∨ (n < 48) := by omega
 rcases hc with h | h | h | h | h | h | h
 ·have h1 : 97 ≤ n := h.1
  have h2 : n ≤ 122 := h.2
  repeat' (first | (with_reducible first | refine W ?_ | refine Z0 ?_) | ((with_reducible first | refine Wo (fun K hK => ?_) | refine Wq ?_ | refine Wr ?_); (try simp only [go_sem, fN, seval, eT, iR, h1, h2]); (repeat with_reducible refine Ai ?_); (try (refine hK _ ?_; clear hK K))))
  simp only [go_sem, fN, seval, FinQ, AS.result, resAll, resOne, tupV, letterI, h1, h2]
  try simp
 ·have h1 : 97 ≤ n := by omega
  have h2 : ¬ n ≤ 122 := by omega
  have h3 : 65 ≤ n := by omega
  have h4 : ¬ n ≤ 90 := by omega
  have h5 : 48 ≤ n := by omega
  have h6 : ¬ n ≤ 57 := by omega
  repeat' (first | (with_reducible first | refine W ?_ | refine Z0 ?_) | ((with_reducible first | refine Wo (fun K hK => ?_) | refine Wq ?_ | refine Wr ?_); (try simp only [go_sem, fN, seval, eT, iR, h1, h2, h3, h4, h5, h6]); (repeat with_reducible refine Ai ?_); (try (refine hK _ ?_; clear hK K))))
  simp only [go_sem, fN, seval, FinQ, AS.result, resAll, resOne, tupV, letterI, h1, h2, h3, h4, h5, h6]
  try simp
 ·have h1 : ¬ 97 ≤ n := by omega
  have h3 : 65 ≤ n := by omega
  have h4 : n ≤ 90 := by omega
  repeat' (first | (with_reducible first | refine W ?_ | refine Z0 ?_) | ((with_reducible first | refine Wo (fun K hK => ?_) | refine Wq ?_ | refine Wr ?_); (try simp only [go_sem, fN, seval, eT, iR, h1, h3, h4]); (repeat with_reducible refine Ai ?_); (try (refine hK _ ?_; clear hK K))))
  simp only [go_sem, fN, seval, FinQ, AS.result, resAll, resOne, tupV, letterI, h1, h3, h4]
  try simp
 ·have h1 : ¬ 97 ≤ n := by omega
  have h3 : 65 ≤ n := by omega
  have h4 : ¬ n ≤ 90 := by omega
  have h5 : 48 ≤ n := by omega
  have h6 : ¬ n ≤ 57 := by omega
  repeat' (first | (with_reducible first | refine W ?_ | refine Z0 ?_) | ((with_reducible first | refine Wo (fun K hK => ?_) | refine Wq ?_ | refine Wr ?_); (try simp only [go_sem, fN, seval, eT, iR, h1, h3, h4, h5, h6]); (repeat with_reducible refine Ai ?_); (try (refine hK _ ?_; clear hK K))))
  simp only [go_sem, fN, seval, FinQ, AS.result, resAll, resOne, tupV, letterI, h1, h3, h4, h5, h6]
  try simp
 ·have h1 : ¬ 97 ≤ n := by omega
  have h3 : ¬ 65 ≤ n := by omega
  have h5 : 48 ≤ n := by omega
  have h6 : n ≤ 57 := by omega
  repeat' (first | (with_reducible first | refine W ?_ | refine Z0 ?_) | ((with_reducible first | refine Wo (fun K hK => ?_) | refine Wq ?_ | refine Wr ?_); (try simp only [go_sem, fN, seval, eT, iR, h1, h3, h5, h6]); (repeat with_reducible refine Ai ?_); (try (refine hK _ ?_; clear hK K))))
  simp only [go_sem, fN, seval, FinQ, AS.result, resAll, resOne, tupV, letterI, h1, h3, h5, h6]
  try simp
 ·have h1 : ¬ 97 ≤ n := by omega
  have h3 : ¬ 65 ≤ n := by omega
  have h5 : 48 ≤ n := by omega
  have h6 : ¬ n ≤ 57 := by omega
  repeat' (first | (with_reducible first | refine W ?_ | refine Z0 ?_) | ((with_reducible first | refine Wo (fun K hK => ?_) | refine Wq ?_ | refine Wr ?_); (try simp only [go_sem, fN, seval, eT, iR, h1, h3, h5, h6]); (repeat with_reducible refine Ai ?_); (try (refine hK _ ?_; clear hK K))))
  simp only [go_sem, fN, seval, FinQ, AS.result, resAll, resOne, tupV, letterI, h1, h3, h5, h6]
  try simp
 ·have h1 : ¬ 97 ≤ n := by omega
  have h3 : ¬ 65 ≤ n := by omega
  have h5 : ¬ 48 ≤ n := by omega
  repeat' (first | (with_reducible first | refine W ?_ | refine Z0 ?_) | ((with_reducible first | refine Wo (fun K hK => ?_) | refine Wq ?_ | refine Wr ?_); (try simp only [go_sem, fN, seval, eT, iR, h1, h3, h5]); (repeat with_reducible refine Ai ?_); (try (refine hK _ ?_; clear hK K))))
  simp only [go_sem, fN, seval, FinQ, AS.result, resAll, resOne, tupV, letterI, h1, h3, h5]
  try simp
theorem variable_a (s : ByteArray) : ACalls Tryz.prog 40 [aStr s] (aBool (isVar s)) := by
 by_cases h0 : s.size = 0
 ·have := size_eq0 h0
  subst this
  refine ok_term_Variable.ac fun C hC => ?_
  unfold ir_term_Variable
  repeat' (first | (with_reducible first | refine W ?_ | refine Z0 ?_) | ((with_reducible first | refine Wo (fun K hK => ?_) | refine Wq ?_ | refine Wr ?_); (try simp only [go_sem, fN, seval, eT, iR]); (repeat with_reducible refine Ai ?_); (try (refine hK _ ?_; clear hK K))))
  simp only [go_sem, fN, seval, FinQ, AS.result, resAll, resOne, tupV]
  rfl
 ·have h1 := size_ne h0
  have h2 : 0 < s.size := by omega
  refine ok_term_Variable.ac fun C hC => ?_
  unfold ir_term_Variable
  by_cases h3 : 65 ≤ byteAt s 0 <;> by_cases h4 : byteAt s 0 ≤ 90
  all_goals
   repeat' (first | (with_reducible first | refine W ?_ | refine Z0 ?_) | ((with_reducible first | refine Wo (fun K hK => ?_) | refine Wq ?_ | refine Wr ?_); (try simp only [go_sem, fN, seval, eT, iR, h1, h2, byteN_eq, h3, h4]); (repeat with_reducible refine Ai ?_); (try (refine hK _ ?_; clear hK K))))
   simp only [go_sem, fN, seval, FinQ, AS.result, resAll, resOne, tupV, isVar, h3, h4, h2]
   try simp
theorem isVar_a (s : ByteArray) : ACalls Tryz.prog 18 [aStr s] (aBool (isVar s)) := by
 by_cases h0 : s.size = 0
 ·have := size_eq0 h0
  subst this
  refine ok_R_IsVar.ac fun C hC => ?_
  unfold ir_R_IsVar
  repeat' (first | (with_reducible first | refine W ?_ | refine Z0 ?_) | ((with_reducible first | refine Wo (fun K hK => ?_) | refine Wq ?_ | refine Wr ?_); (try simp only [go_sem, fN, seval, eT, iR]); (repeat with_reducible refine Ai ?_); (try (refine hK _ ?_; clear hK K))))
  simp only [go_sem, fN, seval, FinQ, AS.result, resAll, resOne, tupV]
  rfl
 ·have h1 := size_ne h0
  have h2 : 0 < s.size := by omega
  refine ok_R_IsVar.ac fun C hC => ?_
  unfold ir_R_IsVar
  by_cases h3 : 65 ≤ byteAt s 0 <;> by_cases h4 : byteAt s 0 ≤ 90
  all_goals
   repeat' (first | (with_reducible first | refine W ?_ | refine Z0 ?_) | ((with_reducible first | refine Wo (fun K hK => ?_) | refine Wq ?_ | refine Wr ?_); (try simp only [go_sem, fN, seval, eT, iR, h1, h2, byteN_eq, h3, h4]); (repeat with_reducible refine Ai ?_); (try (refine hK _ ?_; clear hK K))))
   simp only [go_sem, fN, seval, FinQ, AS.result, resAll, resOne, tupV, isVar, h3, h4, h2]
   try simp
theorem nameOk_eq (s : ByteArray) (h1 : 1 ≤ s.size) (h8 : s.size ≤ 8) (hd : ¬ (48 ≤ byteAt s 0 ∧ byteAt s 0 ≤ 57)) : nameOk s = lettersTo s s.size := by
 unfold nameOk
 have : (decide (48 ≤ byteAt s 0) && decide (byteAt s 0 ≤ 57)) = false := by
  rw [Bool.and_eq_false_iff]
  simp
  omega
 rw [this]
 simp [h1, h8]
theorem name_a (s : ByteArray) : ACalls Tryz.prog 92 [aStr s] (aBool (nameOk s)) := by
 by_cases h0 : s.size < 1
 ·have e : nameOk s = false := by simp [nameOk]; omega
  rw [e]
  have h0' : (s.size : Int) < 1 := by omega
  refine ok_term_Name.ac fun C hC => ?_
  unfold ir_term_Name
  repeat' (first | (with_reducible first | refine W ?_ | refine Z0 ?_) | ((with_reducible first | refine Wo (fun K hK => ?_) | refine Wq ?_ | refine Wr ?_); (try simp only [go_sem, fN, seval, eT, iR, h0']); (repeat with_reducible refine Ai ?_); (try (refine hK _ ?_; clear hK K))))
  with_reducible refine Wp ?_
  simp only [go_sem, fN, seval, true_implies, false_implies, implies_true, dT, dF, nL, h0']
  (try with_reducible refine iC ?_)
  repeat' (first | (with_reducible first | refine W ?_ | refine Z0 ?_) | ((with_reducible first | refine Wo (fun K hK => ?_) | refine Wq ?_ | refine Wr ?_); (try simp only [go_sem, fN, seval, eT, iR]); (repeat with_reducible refine Ai ?_); (try (refine hK _ ?_; clear hK K))))
  simp only [go_sem, fN, seval, FinQ, AS.result, resAll, resOne, tupV]
 have h0' : ¬ (s.size : Int) < 1 := by omega
 by_cases h8 : 8 < s.size
 ·have e : nameOk s = false := by simp [nameOk]; omega
  rw [e]
  have h8' : (8 : Int) < s.size := by omega
  refine ok_term_Name.ac fun C hC => ?_
  unfold ir_term_Name
  repeat' (first | (with_reducible first | refine W ?_ | refine Z0 ?_) | ((with_reducible first | refine Wo (fun K hK => ?_) | refine Wq ?_ | refine Wr ?_); (try simp only [go_sem, fN, seval, eT, iR, h0', h8']); (repeat with_reducible refine Ai ?_); (try (refine hK _ ?_; clear hK K))))
  with_reducible refine Wp ?_
  simp only [go_sem, fN, seval, true_implies, false_implies, implies_true, dT, dF, nL, h0']
  (try with_reducible refine iC ?_)
  repeat' (first | (with_reducible first | refine W ?_ | refine Z0 ?_) | ((with_reducible first | refine Wo (fun K hK => ?_) | refine Wq ?_ | refine Wr ?_); (try simp only [go_sem, fN, seval, eT, iR]); (repeat with_reducible refine Ai ?_); (try (refine hK _ ?_; clear hK K))))
  simp only [go_sem, fN, seval, FinQ, AS.result, resAll, resOne, tupV]
 have h8' : ¬ (8 : Int) < s.size := by omega
 have hpos : 0 < s.size := by omega
 by_cases hd : 48 ≤ byteAt s 0 ∧ byteAt s 0 ≤ 57
 ·have e : nameOk s = false := by simp [nameOk, hd.1, hd.2]
  rw [e]
  refine ok_term_Name.ac fun C hC => ?_
  unfold ir_term_Name
  repeat' (first | (with_reducible first | refine W ?_ | refine Z0 ?_) | ((with_reducible first | refine Wo (fun K hK => ?_) | refine Wq ?_ | refine Wr ?_); (try simp only [go_sem, fN, seval, eT, iR, h0', h8', hpos, byteN_eq, hd.1, hd.2]); (repeat with_reducible refine Ai ?_); (try (refine hK _ ?_; clear hK K))))
  with_reducible refine Wp ?_
  simp only [go_sem, fN, seval, true_implies, false_implies, implies_true, dT, dF, nL, h0']
  (try with_reducible refine iC ?_)
  repeat' (first | (with_reducible first | refine W ?_ | refine Z0 ?_) | ((with_reducible first | refine Wo (fun K hK => ?_) | refine Wq ?_ | refine Wr ?_); (try simp only [go_sem, fN, seval, eT, iR]); (repeat with_reducible refine Ai ?_); (try (refine hK _ ?_; clear hK K))))
  simp only [go_sem, fN, seval, FinQ, AS.result, resAll, resOne, tupV]
 rw [nameOk_eq s (by omega) (by omega) hd]
 have hd2 : (48 ≤ byteAt s 0 ∧ ¬ byteAt s 0 ≤ 57) ∨ (¬ 48 ≤ byteAt s 0) := by omega
 refine ok_term_Name.ac fun C hC => ?_
 unfold ir_term_Name
 have h57 : 48 ≤ byteAt s 0 → ¬ byteAt s 0 ≤ 57 := fun h h' => hd ⟨h, h'⟩
 by_cases h48 : 48 ≤ byteAt s 0
 all_goals
  simp only [h48, true_implies, false_implies] at h57
  repeat' (first | (with_reducible first | refine W ?_ | refine Z0 ?_) | ((with_reducible first | refine Wo (fun K hK => ?_) | refine Wq ?_ | refine Wr ?_); (try simp only [go_sem, fN, seval, eT, iR, h0', h8', hpos, byteN_eq, h48, h57]); (repeat with_reducible refine Ai ?_); (try (refine hK _ ?_; clear hK K))))
  with_reducible refine Wp ?_
  simp only [go_sem, fN, seval, true_implies, false_implies, implies_true, dT, dF, nL, h0']
  (try with_reducible refine iC ?_)
  repeat' (first | (with_reducible first | refine W ?_ | refine Z0 ?_) | ((with_reducible first | refine Wo (fun K hK => ?_) | refine Wq ?_ | refine Wr ?_); (try simp only [go_sem, fN, seval, eT, iR]); (repeat with_reducible refine Ai ?_); (try (refine hK _ ?_; clear hK K))))
  refine IWP.loop (fun m x => ∃ k, k ≤ s.size ∧ m = s.size - k ∧ lettersTo s k = true ∧ x.env 0 = aStr s ∧ x.env 23 = aInt s.size ∧ x.env 24 = aInt k) s.size ⟨0, Nat.zero_le _, rfl, rfl, rfl, rfl, rfl⟩ ?_
  rintro m ⟨env, S⟩ ⟨k, hk, rfl, hl, e0, e23, e24⟩
  simp only at e0 e23 e24
  repeat' (first | (with_reducible first | refine W ?_ | refine Z0 ?_) | ((with_reducible first | refine Wo (fun K hK => ?_) | refine Wq ?_ | refine Wr ?_); (try simp only [go_sem, fN, seval, eT, iR, e0, e23, e24]); (repeat with_reducible refine Ai ?_); (try (refine hK _ ?_; clear hK K))))
  with_reducible refine Wp ?_
  simp only [go_sem, fN, seval, true_implies, false_implies, implies_true, dT, dF, nL, e0, e23, e24]
  (try with_reducible refine iC ?_)
  refine ⟨fun hlt => ?_, fun hge => ?_⟩
  ·have hlt' : k < s.size := by omega
   repeat' (first | (with_reducible first | refine W ?_ | refine Z0 ?_) | refine Cg _ (letter_a _ (byteAt_range s k).1) ?_ | ((with_reducible first | refine Wo (fun K hK => ?_) | refine Wq ?_ | refine Wr ?_); (try simp only [go_sem, fN, seval, eT, iR, e0, e23, e24, hlt', byteN_eq]); (repeat with_reducible refine Ai ?_); (try (refine hK _ ?_; clear hK K))))
   with_reducible refine Wp ?_
   simp only [go_sem, fN, seval, true_implies, false_implies, implies_true, dT, dF, nL]
   (try with_reducible refine iC ?_)
   refine ⟨fun hn => ?_, fun hn => ?_⟩
   ·repeat' (first | (with_reducible first | refine W ?_ | refine Z0 ?_) | ((with_reducible first | refine Wo (fun K hK => ?_) | refine Wq ?_ | refine Wr ?_); (try simp only [go_sem, fN, seval, eT, iR]); (repeat with_reducible refine Ai ?_); (try (refine hK _ ?_; clear hK K))))
    simp only [go_sem, fN, seval, FinQ, AS.result, resAll, resOne, tupV]
    rw [lettersTo_no s k hlt' (by simpa using hn)]
   ·repeat' (first | (with_reducible first | refine W ?_ | refine Z0 ?_) | ((with_reducible first | refine Wo (fun K hK => ?_) | refine Wq ?_ | refine Wr ?_); (try simp only [go_sem, fN, seval, eT, iR, e0, e23, e24]); (repeat with_reducible refine Ai ?_); (try (refine hK _ ?_; clear hK K))))
    refine then_normal ⟨s.size - (k + 1), by omega, k + 1, by omega, rfl, ?_, ?_⟩
    ·rw [lettersTo_succ s k hlt', hl]
     simpa using hn
    ·simp only [go_sem, fN, seval, eT, iR, e0, e23, e24]
     congr 3
  ·repeat' (first | (with_reducible first | refine W ?_ | refine Z0 ?_) | ((with_reducible first | refine Wo (fun K hK => ?_) | refine Wq ?_ | refine Wr ?_); (try simp only [go_sem, fN, seval, eT, iR]); (repeat with_reducible refine Ai ?_); (try (refine hK _ ?_; clear hK K))))
   simp only [go_sem, fN, seval, FinQ, AS.result, resAll, resOne, tupV]
   rw [show s.size = k by omega, hl]
theorem isName_a (s : ByteArray) : ACalls Tryz.prog 57 [aStr s] (aBool (nameOk s)) := by
 by_cases h0 : s.size < 1
 ·have e : nameOk s = false := by simp [nameOk]; omega
  rw [e]
  have h0' : s = ⟨#[]⟩ := size_eq0 (by omega)
  subst h0'
  refine ok_R_IsName.ac fun C hC => ?_
  unfold ir_R_IsName
  repeat' (first | (with_reducible first | refine W ?_ | refine Z0 ?_) | ((with_reducible first | refine Wo (fun K hK => ?_) | refine Wq ?_ | refine Wr ?_); (try simp only [go_sem, fN, seval, eT, iR]); (repeat with_reducible refine Ai ?_); (try (refine hK _ ?_; clear hK K))))
  with_reducible refine Wp ?_
  simp only [go_sem, fN, seval, true_implies, false_implies, implies_true, dT, dF, nL]
  (try with_reducible refine iC ?_)
  repeat' (first | (with_reducible first | refine W ?_ | refine Z0 ?_) | ((with_reducible first | refine Wo (fun K hK => ?_) | refine Wq ?_ | refine Wr ?_); (try simp only [go_sem, fN, seval, eT, iR]); (repeat with_reducible refine Ai ?_); (try (refine hK _ ?_; clear hK K))))
  simp only [go_sem, fN, seval, FinQ, AS.result, resAll, resOne, tupV]
 have h0' : ¬ s = ⟨#[]⟩ := size_ne (by omega)
 by_cases h8 : 8 < s.size
 ·have e : nameOk s = false := by simp [nameOk]; omega
  rw [e]
  have h8' : (8 : Int) < s.size := by omega
  refine ok_R_IsName.ac fun C hC => ?_
  unfold ir_R_IsName
  repeat' (first | (with_reducible first | refine W ?_ | refine Z0 ?_) | ((with_reducible first | refine Wo (fun K hK => ?_) | refine Wq ?_ | refine Wr ?_); (try simp only [go_sem, fN, seval, eT, iR, h0', h8']); (repeat with_reducible refine Ai ?_); (try (refine hK _ ?_; clear hK K))))
  with_reducible refine Wp ?_
  simp only [go_sem, fN, seval, true_implies, false_implies, implies_true, dT, dF, nL, h0']
  (try with_reducible refine iC ?_)
  repeat' (first | (with_reducible first | refine W ?_ | refine Z0 ?_) | ((with_reducible first | refine Wo (fun K hK => ?_) | refine Wq ?_ | refine Wr ?_); (try simp only [go_sem, fN, seval, eT, iR]); (repeat with_reducible refine Ai ?_); (try (refine hK _ ?_; clear hK K))))
  simp only [go_sem, fN, seval, FinQ, AS.result, resAll, resOne, tupV]
 have h8' : ¬ (8 : Int) < s.size := by omega
 have hpos : 0 < s.size := by omega
 by_cases hd : 48 ≤ byteAt s 0 ∧ byteAt s 0 ≤ 57
 ·have e : nameOk s = false := by simp [nameOk, hd.1, hd.2]
  rw [e]
  refine ok_R_IsName.ac fun C hC => ?_
  unfold ir_R_IsName
  repeat' (first | (with_reducible first | refine W ?_ | refine Z0 ?_) | ((with_reducible first | refine Wo (fun K hK => ?_) | refine Wq ?_ | refine Wr ?_); (try simp only [go_sem, fN, seval, eT, iR, h0', h8', hpos, byteN_eq, hd.1, hd.2]); (repeat with_reducible refine Ai ?_); (try (refine hK _ ?_; clear hK K))))
  with_reducible refine Wp ?_
  simp only [go_sem, fN, seval, true_implies, false_implies, implies_true, dT, dF, nL, h0']
  (try with_reducible refine iC ?_)
  repeat' (first | (with_reducible first | refine W ?_ | refine Z0 ?_) | ((with_reducible first | refine Wo (fun K hK => ?_) | refine Wq ?_ | refine Wr ?_); (try simp only [go_sem, fN, seval, eT, iR]); (repeat with_reducible refine Ai ?_); (try (refine hK _ ?_; clear hK K))))
  simp only [go_sem, fN, seval, FinQ, AS.result, resAll, resOne, tupV]
 rw [nameOk_eq s (by omega) (by omega) hd]
 refine ok_R_IsName.ac fun C hC => ?_
 unfold ir_R_IsName
 have h57 : 48 ≤ byteAt s 0 → ¬ byteAt s 0 ≤ 57 := fun h h' => hd ⟨h, h'⟩
 by_cases h48 : 48 ≤ byteAt s 0
 all_goals
  simp only [h48, true_implies, false_implies] at h57
  repeat' (first | (with_reducible first | refine W ?_ | refine Z0 ?_) | ((with_reducible first | refine Wo (fun K hK => ?_) | refine Wq ?_ | refine Wr ?_); (try simp only [go_sem, fN, seval, eT, iR, h0', h8', hpos, byteN_eq, h48, h57]); (repeat with_reducible refine Ai ?_); (try (refine hK _ ?_; clear hK K))))
  with_reducible refine Wp ?_
  simp only [go_sem, fN, seval, true_implies, false_implies, implies_true, dT, dF, nL, h0']
  (try with_reducible refine iC ?_)
  repeat' (first | (with_reducible first | refine W ?_ | refine Z0 ?_) | ((with_reducible first | refine Wo (fun K hK => ?_) | refine Wq ?_ | refine Wr ?_); (try simp only [go_sem, fN, seval, eT, iR]); (repeat with_reducible refine Ai ?_); (try (refine hK _ ?_; clear hK K))))
  refine IWP.loop (fun m x => ∃ k, k ≤ s.size ∧ m = s.size - k ∧ lettersTo s k = true ∧ x.env 0 = aStr s ∧ x.env 3 = aInt k) s.size ⟨0, Nat.zero_le _, rfl, rfl, rfl, rfl⟩ ?_
  rintro m ⟨env, S⟩ ⟨k, hk, rfl, hl, e0, e3⟩
  simp only at e0 e3
  repeat' (first | (with_reducible first | refine W ?_ | refine Z0 ?_) | ((with_reducible first | refine Wo (fun K hK => ?_) | refine Wq ?_ | refine Wr ?_); (try simp only [go_sem, fN, seval, eT, iR, e0, e3]); (repeat with_reducible refine Ai ?_); (try (refine hK _ ?_; clear hK K))))
  with_reducible refine Wp ?_
  simp only [go_sem, fN, seval, true_implies, false_implies, implies_true, dT, dF, nL, e0, e3]
  (try with_reducible refine iC ?_)
  refine ⟨fun hlt => ?_, fun hge => ?_⟩
  ·have hlt' : k < s.size := by omega
   repeat' (first | (with_reducible first | refine W ?_ | refine Z0 ?_) | refine Cg _ (isLetter_a _ (byteAt_range s k).1) ?_ | ((with_reducible first | refine Wo (fun K hK => ?_) | refine Wq ?_ | refine Wr ?_); (try simp only [go_sem, fN, seval, eT, iR, e0, e3, hlt', byteN_eq]); (repeat with_reducible refine Ai ?_); (try (refine hK _ ?_; clear hK K))))
   with_reducible refine Wp ?_
   simp only [go_sem, fN, seval, true_implies, false_implies, implies_true, dT, dF, nL]
   (try with_reducible refine iC ?_)
   refine ⟨fun hn => ?_, fun hn => ?_⟩
   ·repeat' (first | (with_reducible first | refine W ?_ | refine Z0 ?_) | ((with_reducible first | refine Wo (fun K hK => ?_) | refine Wq ?_ | refine Wr ?_); (try simp only [go_sem, fN, seval, eT, iR]); (repeat with_reducible refine Ai ?_); (try (refine hK _ ?_; clear hK K))))
    simp only [go_sem, fN, seval, FinQ, AS.result, resAll, resOne, tupV]
    rw [lettersTo_no s k hlt' (by simpa using hn)]
   ·repeat' (first | (with_reducible first | refine W ?_ | refine Z0 ?_) | ((with_reducible first | refine Wo (fun K hK => ?_) | refine Wq ?_ | refine Wr ?_); (try simp only [go_sem, fN, seval, eT, iR, e0, e3]); (repeat with_reducible refine Ai ?_); (try (refine hK _ ?_; clear hK K))))
    refine then_normal ⟨s.size - (k + 1), by omega, k + 1, by omega, rfl, ?_, ?_⟩
    ·rw [lettersTo_succ s k hlt', hl]
     simpa using hn
    ·simp only [go_sem, fN, seval, eT, iR, e0, e3]
     congr 3
  ·repeat' (first | (with_reducible first | refine W ?_ | refine Z0 ?_) | ((with_reducible first | refine Wo (fun K hK => ?_) | refine Wq ?_ | refine Wr ?_); (try simp only [go_sem, fN, seval, eT, iR]); (repeat with_reducible refine Ai ?_); (try (refine hK _ ?_; clear hK K))))
   simp only [go_sem, fN, seval, FinQ, AS.result, resAll, resOne, tupV]
   rw [show s.size = k by omega, hl]
theorem within_a (t : Tm) (m : Int) (h0 : 0 ≤ m) (h1 : m ≤ 9223372036854775807) : ACalls Tryz.prog 82 [aTm t, aInt m] (aInt (lessBy t.size m)) := by
 induction h : SizeOf.sizeOf t using Nat.strongRecOn generalizing t m with
 | _ N ih =>
 subst h
 have hs := Tm.size_eq t
 refine ok_term_within.ac fun C hC => ?_
 unfold ir_term_within
 refine IWP.learn 0 (by omega) fun hkn => ?_
 have hkn := known_tm hkn
 repeat' (first | (with_reducible first | refine W ?_ | refine Z0 ?_) | ((with_reducible first | refine Wo (fun K hK => ?_) | refine Wq ?_ | refine Wr ?_); (try simp only [go_sem, fN, seval, eT, iR]); (repeat with_reducible refine Ai ?_); (try (refine hK _ ?_; clear hK K))))
 refine IWP.loopD [6] (fun n s => ∃ k, k ≤ t.args.length ∧ n = t.args.length - k ∧ s.env 1 = aInt (lessBy (1 + Tm.sizes (t.args.take k)) m) ∧ s.env 10 = .one (.st (.list (t.args.map encT))) ∧ s.env 11 = aInt t.args.length ∧ s.env 12 = aInt k ∧ s.S 6 = none) t.args.length ⟨0, Nat.zero_le _, rfl, by
  simp only [go_sem, fN, seval, eT, iR]
  rw [lessBy]
  have z0 : Tm.sizes [] = 0 := rfl
  congr 3
  split <;> omega, rfl, rfl, rfl, rfl⟩ ?_
 rintro n ⟨env, S⟩ ⟨k, hk, rfl, e1, e10, e11, e12, s6⟩
 simp only at e1 e10 e11 e12 s6
 repeat' (first | (with_reducible first | refine W ?_ | refine Z0 ?_) | ((with_reducible first | refine Wo (fun K hK => ?_) | refine Wq ?_ | refine Wr ?_); (try simp only [go_sem, fN, seval, eT, iR, e1, e10, e11, e12, s6]); (repeat with_reducible refine Ai ?_); (try (refine hK _ ?_; clear hK K))))
 with_reducible refine Wp ?_
 simp only [go_sem, fN, seval, true_implies, false_implies, implies_true, dT, dF, nL, e1, e10, e11, e12, s6]
 (try with_reducible refine iC ?_)
 refine ⟨fun hlt => ?_, fun hge => ?_⟩
 ·obtain ⟨a, ha⟩ := get_lt (show k < t.args.length by omega)
  have z1 := Tm.sizes_take ha
  have z2 := Tm.sizes_take_le t.args (k + 1)
  have z3 := Tm.length_le t.args
  have z4 := lessBy_le (1 + Tm.sizes (t.args.take k)) m h0
  repeat' (first | (with_reducible first | refine W ?_ | refine Z0 ?_) | ((with_reducible first | refine Wo (fun K hK => ?_) | refine Wq ?_ | refine Wr ?_); (try simp only [go_sem, fN, seval, eT, iR, e1, e10, e11, e12, s6, ha]); (repeat with_reducible refine Ai ?_); (try (refine hK _ ?_; clear hK K))))
  with_reducible refine Wp ?_
  simp only [go_sem, fN, seval, true_implies, false_implies, implies_true, dT, dF, nL, e1]
  (try with_reducible refine iC ?_)
  refine ⟨fun hb => ?_, fun hb => ?_⟩
  ·repeat' (first | (with_reducible first | refine W ?_ | refine Z0 ?_) | ((with_reducible first | refine Wo (fun K hK => ?_) | refine Wq ?_ | refine Wr ?_); (try simp only [go_sem, fN, seval, eT, iR, e1]); (repeat with_reducible refine Ai ?_); (try (refine hK _ ?_; clear hK K))))
   simp only [go_sem, fN, seval, FinQ, AS.result, resAll, resOne, tupV, e1]
   rw [lessBy_neg hb (show _ ≤ t.size by rw [hs]; omega)]
  ·repeat' (first | (with_reducible first | refine W ?_ | refine Z0 ?_) | refine Cg _ (ih _ (Tm.lt_of_arg (mem_of_get ha)) a _ (by omega) (by omega) rfl) ?_ | ((with_reducible first | refine Wo (fun K hK => ?_) | refine Wq ?_ | refine Wr ?_); (try simp only [go_sem, fN, seval, eT, iR, e1, e10, e11, e12, s6, ha]); (repeat with_reducible refine Ai ?_); (try (refine hK _ ?_; clear hK K))))
   refine then_normal ⟨t.args.length - (k + 1), by omega, k + 1, by omega, rfl, ?_⟩
   simp only [go_sem, fN, seval, AS.drop, dropS, AC.clears, AC.clear, AC.highs, AC.high, Bool.not_false, Bool.true_and, Bool.and_self, AV.purge, AV.purges, AC.purge, ABlk.purge, List.contains_cons, List.contains_nil, Nat.reduceBEq, Bool.or_self, Bool.or_false, Bool.false_or, Bool.or_true, eT, iR, e1, e10, e11, e12, s6]
   exact ⟨by rw [lessBy_step (by omega), z1]; congr 4; omega, by congr 3⟩
 ·repeat' (first | (with_reducible first | refine W ?_ | refine Z0 ?_) | ((with_reducible first | refine Wo (fun K hK => ?_) | refine Wq ?_ | refine Wr ?_); (try simp only [go_sem, fN, seval, eT, iR, e1]); (repeat with_reducible refine Ai ?_); (try (refine hK _ ?_; clear hK K))))
  simp only [go_sem, fN, seval, FinQ, AS.result, resAll, resOne, tupV, e1]
  rw [List.take_of_length_le (by omega), hs]
theorem sizeR_a (t : Tm) (m : Int) (h0 : 0 ≤ m) (h1 : m ≤ 9223372036854775806) : ACalls Tryz.prog 7 [aTm t, aInt m] (aInt (capTo t.size m)) := by
 induction h : SizeOf.sizeOf t using Nat.strongRecOn generalizing t m with
 | _ N ih =>
 subst h
 have hs := Tm.size_eq t
 refine ok_R_Size.ac fun C hC => ?_
 unfold ir_R_Size
 refine IWP.learn 0 (by omega) fun hkn => ?_
 have hkn := known_tm hkn
 repeat' (first | (with_reducible first | refine W ?_ | refine Z0 ?_) | ((with_reducible first | refine Wo (fun K hK => ?_) | refine Wq ?_ | refine Wr ?_); (try simp only [go_sem, fN, seval, eT, iR]); (repeat with_reducible refine Ai ?_); (try (refine hK _ ?_; clear hK K))))
 refine IWP.loop (fun n s => ∃ k, k ≤ t.args.length ∧ n = t.args.length - k ∧ s.env 5 = aInt (capTo (1 + Tm.sizes (t.args.take k)) m) ∧ s.env 1 = aInt m ∧ s.env 2 = .one (.ptr 2 1 0 0) ∧ s.env 6 = aInt k ∧ s.S 2 = some (.box 29 [.st (.str t.name), .st (.list (t.args.map encT))])) t.args.length ⟨0, Nat.zero_le _, rfl, by
  simp only [go_sem, fN, seval, eT, iR]
  rw [capTo]
  have z0 : Tm.sizes [] = 0 := rfl
  congr 3
  split <;> omega, rfl, rfl, rfl, rfl⟩ ?_
 rintro n ⟨env, S⟩ ⟨k, hk, rfl, e5, e1, e2, e6, s2⟩
 simp only at e5 e1 e2 e6 s2
 have z4 := capTo_le (1 + Tm.sizes (t.args.take k)) m h0
 by_cases hlt : (k : Int) < t.args.length
 ·obtain ⟨a, ha⟩ := get_lt (show k < t.args.length by omega)
  have z1 := Tm.sizes_take ha
  have z2 := Tm.sizes_take_le t.args (k + 1)
  by_cases hb : m < capTo (1 + Tm.sizes (t.args.take k)) m
  ·have hb' : ¬ capTo (1 + Tm.sizes (t.args.take k)) m ≤ m := by omega
   repeat' (first | (with_reducible first | refine W ?_ | refine Z0 ?_) | ((with_reducible first | refine Wo (fun K hK => ?_) | refine Wq ?_ | refine Wr ?_); (try simp only [go_sem, fN, seval, eT, iR, e5, e1, e2, e6, s2, hlt, hb']); (repeat with_reducible refine Ai ?_); (try (refine hK _ ?_; clear hK K))))
   with_reducible refine Wp ?_
   simp only [go_sem, fN, seval, true_implies, false_implies, implies_true, dT, dF, nL, hb']
   (try with_reducible refine iC ?_)
   repeat' (first | (with_reducible first | refine W ?_ | refine Z0 ?_) | ((with_reducible first | refine Wo (fun K hK => ?_) | refine Wq ?_ | refine Wr ?_); (try simp only [go_sem, fN, seval, eT, iR, e5, e1, e2, e6, s2]); (repeat with_reducible refine Ai ?_); (try (refine hK _ ?_; clear hK K))))
   with_reducible refine Wp ?_
   simp only [go_sem, fN, seval, true_implies, false_implies, implies_true, dT, dF, nL, hb]
   (try with_reducible refine iC ?_)
   repeat' (first | (with_reducible first | refine W ?_ | refine Z0 ?_) | ((with_reducible first | refine Wo (fun K hK => ?_) | refine Wq ?_ | refine Wr ?_); (try simp only [go_sem, fN, seval, eT, iR, e1]); (repeat with_reducible refine Ai ?_); (try (refine hK _ ?_; clear hK K))))
   simp only [go_sem, fN, seval, FinQ, AS.result, resAll, resOne, tupV]
   rw [capTo_over hb (show _ ≤ t.size by rw [hs]; omega)]
  ·have hb' : capTo (1 + Tm.sizes (t.args.take k)) m ≤ m := by omega
   obtain ⟨b1, b2⟩ := capTo_in hb
   repeat' (first | (with_reducible first | refine W ?_ | refine Z0 ?_) | ((with_reducible first | refine Wo (fun K hK => ?_) | refine Wq ?_ | refine Wr ?_); (try simp only [go_sem, fN, seval, eT, iR, e5, e1, e2, e6, s2, hlt, hb']); (repeat with_reducible refine Ai ?_); (try (refine hK _ ?_; clear hK K))))
   with_reducible refine Wp ?_
   simp only [go_sem, fN, seval, true_implies, false_implies, implies_true, dT, dF, nL, hb']
   (try with_reducible refine iC ?_)
   repeat' (first | (with_reducible first | refine W ?_ | refine Z0 ?_) | ((with_reducible first | refine Wo (fun K hK => ?_) | refine Wq ?_ | refine Wr ?_); (try simp only [go_sem, fN, seval, eT, iR, e5, e1, e2, e6, s2, ha]); (repeat with_reducible refine Ai ?_); (try (refine hK _ ?_; clear hK K))))
   refine ⟨_, ih _ (Tm.lt_of_arg (mem_of_get ha)) a (m - capTo (1 + Tm.sizes (t.args.take k)) m) (by omega) (by omega) rfl, ?_⟩
   have z5 := capTo_le a.size (m - capTo (1 + Tm.sizes (t.args.take k)) m) (by omega)
   repeat' (first | (with_reducible first | refine W ?_ | refine Z0 ?_) | ((with_reducible first | refine Wo (fun K hK => ?_) | refine Wq ?_ | refine Wr ?_); (try simp only [go_sem, fN, seval, eT, iR, e5, e1, e2, e6, s2]); (repeat with_reducible refine Ai ?_); (try (refine hK _ ?_; clear hK K))))
   refine then_normal ⟨t.args.length - (k + 1), by omega, k + 1, by omega, rfl, ?_⟩
   simp only [go_sem, fN, seval, eT, iR, e5, e1, e2, e6, s2]
   exact ⟨by rw [b1, capTo_step b2, z1]; congr 4; omega, by congr 3⟩
 ·repeat' (first | (with_reducible first | refine W ?_ | refine Z0 ?_) | ((with_reducible first | refine Wo (fun K hK => ?_) | refine Wq ?_ | refine Wr ?_); (try simp only [go_sem, fN, seval, eT, iR, e5, e1, e2, e6, s2, hlt]); (repeat with_reducible refine Ai ?_); (try (refine hK _ ?_; clear hK K))))
  with_reducible refine Wp ?_
  simp only [go_sem, fN, seval, true_implies, false_implies, implies_true, dT, dF, nL]
  (try with_reducible refine iC ?_)
  have hfull : 1 + Tm.sizes (t.args.take k) = t.size := by rw [List.take_of_length_le (by omega), hs]
  rw [hfull] at e5 z4
  repeat' (first | (with_reducible first | refine W ?_ | refine Z0 ?_) | ((with_reducible first | refine Wo (fun K hK => ?_) | refine Wq ?_ | refine Wr ?_); (try simp only [go_sem, fN, seval, eT, iR, e5, e1]); (repeat with_reducible refine Ai ?_); (try (refine hK _ ?_; clear hK K))))
  by_cases hb : m < capTo t.size m
  ·with_reducible refine Wp ?_
   simp only [go_sem, fN, seval, true_implies, false_implies, implies_true, dT, dF, nL, hb]
   (try with_reducible refine iC ?_)
   repeat' (first | (with_reducible first | refine W ?_ | refine Z0 ?_) | ((with_reducible first | refine Wo (fun K hK => ?_) | refine Wq ?_ | refine Wr ?_); (try simp only [go_sem, fN, seval, eT, iR, e1]); (repeat with_reducible refine Ai ?_); (try (refine hK _ ?_; clear hK K))))
   simp only [go_sem, fN, seval, FinQ, AS.result, resAll, resOne, tupV]
   rw [capTo_over hb (Nat.le_refl _)]
  ·with_reducible refine Wp ?_
   simp only [go_sem, fN, seval, true_implies, false_implies, implies_true, dT, dF, nL, hb]
   (try with_reducible refine iC ?_)
   repeat' (first | (with_reducible first | refine W ?_ | refine Z0 ?_) | ((with_reducible first | refine Wo (fun K hK => ?_) | refine Wq ?_ | refine Wr ?_); (try simp only [go_sem, fN, seval, eT, iR, e5]); (repeat with_reducible refine Ai ?_); (try (refine hK _ ?_; clear hK K))))
   simp only [go_sem, fN, seval, FinQ, AS.result, resAll, resOne, tupV, e5]
theorem check_a (t : Tm) : ACalls Tryz.prog 83 [aTm t] (aInt t.chk) := by
 induction h : SizeOf.sizeOf t using Nat.strongRecOn generalizing t with
 | _ N ih =>
 subst h
 have hc := Tm.chk_eq t
 have hc1 : chkOne t = if nameOk t.name = true then (if isVar t.name = true ∧ 0 < t.args.length then 2 else 0) else 1 := rfl
 refine ok_term_check.ac fun C hC => ?_
 unfold ir_term_check
 refine IWP.learn 0 (by omega) fun hkn => ?_
 have hkn := known_tm hkn
 repeat' (first | (with_reducible first | refine W ?_ | refine Z0 ?_) | ((with_reducible first | refine Wo (fun K hK => ?_) | refine Wq ?_ | refine Wr ?_); (try simp only [go_sem, fN, seval, eT, iR]); (repeat with_reducible refine Ai ?_); (try (refine hK _ ?_; clear hK K))))
 refine ⟨_, name_a _, ?_⟩
 cases hn : nameOk t.name with
 | false =>
  rw [hn, if_neg (by simp)] at hc1
  repeat' (first | (with_reducible first | refine W ?_ | refine Z0 ?_) | ((with_reducible first | refine Wo (fun K hK => ?_) | refine Wq ?_ | refine Wr ?_); (try simp only [go_sem, fN, seval, eT, iR]); (repeat with_reducible refine Ai ?_); (try (refine hK _ ?_; clear hK K))))
  with_reducible refine Wp ?_
  simp only [go_sem, fN, seval, true_implies, false_implies, implies_true, dT, dF, nL]
  (try with_reducible refine iC ?_)
  repeat' (first | (with_reducible first | refine W ?_ | refine Z0 ?_) | ((with_reducible first | refine Wo (fun K hK => ?_) | refine Wq ?_ | refine Wr ?_); (try simp only [go_sem, fN, seval, eT, iR]); (repeat with_reducible refine Ai ?_); (try (refine hK _ ?_; clear hK K))))
  simp only [go_sem, fN, seval, FinQ, AS.result, resAll, resOne, tupV]
  rw [hc, hc1]
  rfl
 | true =>
  rw [hn, if_pos rfl] at hc1
  repeat' (first | (with_reducible first | refine W ?_ | refine Z0 ?_) | ((with_reducible first | refine Wo (fun K hK => ?_) | refine Wq ?_ | refine Wr ?_); (try simp only [go_sem, fN, seval, eT, iR]); (repeat with_reducible refine Ai ?_); (try (refine hK _ ?_; clear hK K))))
  with_reducible refine Wp ?_
  simp only [go_sem, fN, seval, true_implies, false_implies, implies_true, dT, dF, nL]
  (try with_reducible refine iC ?_)
  repeat' (first | (with_reducible first | refine W ?_ | refine Z0 ?_) | ((with_reducible first | refine Wo (fun K hK => ?_) | refine Wq ?_ | refine Wr ?_); (try simp only [go_sem, fN, seval, eT, iR]); (repeat with_reducible refine Ai ?_); (try (refine hK _ ?_; clear hK K))))
  refine ⟨_, variable_a _, ?_⟩
  by_cases hv : isVar t.name = true ∧ 0 < t.args.length
  ·obtain ⟨hv1, hv2⟩ := hv
   have hv2' : (0 : Int) < t.args.length := by omega
   rw [if_pos ⟨hv1, hv2⟩] at hc1
   rw [hv1]
   repeat' (first | (with_reducible first | refine W ?_ | refine Z0 ?_) | ((with_reducible first | refine Wo (fun K hK => ?_) | refine Wq ?_ | refine Wr ?_); (try simp only [go_sem, fN, seval, eT, iR, hv2']); (repeat with_reducible refine Ai ?_); (try (refine hK _ ?_; clear hK K))))
   with_reducible refine Wp ?_
   simp only [go_sem, fN, seval, true_implies, false_implies, implies_true, dT, dF, nL, hv2']
   (try with_reducible refine iC ?_)
   repeat' (first | (with_reducible first | refine W ?_ | refine Z0 ?_) | ((with_reducible first | refine Wo (fun K hK => ?_) | refine Wq ?_ | refine Wr ?_); (try simp only [go_sem, fN, seval, eT, iR]); (repeat with_reducible refine Ai ?_); (try (refine hK _ ?_; clear hK K))))
   simp only [go_sem, fN, seval, FinQ, AS.result, resAll, resOne, tupV]
   rw [hc, hc1]
   rfl
  ·rw [if_neg hv] at hc1
   rw [if_pos hc1] at hc
   have hv2 : isVar t.name = true → ¬ (0 : Int) < t.args.length := fun h h' => hv ⟨h, by omega⟩
   cases hvv : isVar t.name
   all_goals
    simp only [hvv, true_implies, false_implies, Bool.false_eq_true] at hv2
    repeat' (first | (with_reducible first | refine W ?_ | refine Z0 ?_) | ((with_reducible first | refine Wo (fun K hK => ?_) | refine Wq ?_ | refine Wr ?_); (try simp only [go_sem, fN, seval, eT, iR, hv2]); (repeat with_reducible refine Ai ?_); (try (refine hK _ ?_; clear hK K))))
    with_reducible refine Wp ?_
    simp only [go_sem, fN, seval, true_implies, false_implies, implies_true, dT, dF, nL, hv2]
    (try with_reducible refine iC ?_)
    repeat' (first | (with_reducible first | refine W ?_ | refine Z0 ?_) | ((with_reducible first | refine Wo (fun K hK => ?_) | refine Wq ?_ | refine Wr ?_); (try simp only [go_sem, fN, seval, eT, iR]); (repeat with_reducible refine Ai ?_); (try (refine hK _ ?_; clear hK K))))
    refine IWP.loopD [4] (fun n s => ∃ k, k ≤ t.args.length ∧ n = t.args.length - k ∧ Tm.chkL (t.args.take k) = 0 ∧ s.env 20 = .one (.st (.list (t.args.map encT))) ∧ s.env 21 = aInt t.args.length ∧ s.env 22 = aInt k ∧ s.S 4 = none) t.args.length ⟨0, Nat.zero_le _, rfl, rfl, rfl, rfl, rfl, rfl⟩ ?_
    rintro n ⟨env, S⟩ ⟨k, hk, rfl, h0, e20, e21, e22, s4⟩
    simp only at e20 e21 e22 s4
    repeat' (first | (with_reducible first | refine W ?_ | refine Z0 ?_) | ((with_reducible first | refine Wo (fun K hK => ?_) | refine Wq ?_ | refine Wr ?_); (try simp only [go_sem, fN, seval, eT, iR, e20, e21, e22, s4]); (repeat with_reducible refine Ai ?_); (try (refine hK _ ?_; clear hK K))))
    with_reducible refine Wp ?_
    simp only [go_sem, fN, seval, true_implies, false_implies, implies_true, dT, dF, nL, e20, e21, e22, s4]
    (try with_reducible refine iC ?_)
    refine ⟨fun hlt => ?_, fun hge => ?_⟩
    ·obtain ⟨a, ha⟩ := get_lt (show k < t.args.length by omega)
     obtain ⟨g1, g2⟩ := Tm.chkL_get ha h0
     repeat' (first | (with_reducible first | refine W ?_ | refine Z0 ?_) | refine Cg _ (ih _ (Tm.lt_of_arg (mem_of_get ha)) a rfl) ?_ | ((with_reducible first | refine Wo (fun K hK => ?_) | refine Wq ?_ | refine Wr ?_); (try simp only [go_sem, fN, seval, eT, iR, e20, e21, e22, s4, ha]); (repeat with_reducible refine Ai ?_); (try (refine hK _ ?_; clear hK K))))
     with_reducible refine Wp ?_
     simp only [go_sem, fN, seval, true_implies, false_implies, implies_true, dT, dF, nL]
     (try with_reducible refine iC ?_)
     refine ⟨fun hb => ?_, fun hb => ?_⟩
     ·repeat' (first | (with_reducible first | refine W ?_ | refine Z0 ?_) | ((with_reducible first | refine Wo (fun K hK => ?_) | refine Wq ?_ | refine Wr ?_); (try simp only [go_sem, fN, seval, eT, iR]); (repeat with_reducible refine Ai ?_); (try (refine hK _ ?_; clear hK K))))
      simp only [go_sem, fN, seval, FinQ, AS.result, resAll, resOne, tupV]
      rw [hc, g2 hb]
     ·repeat' (first | (with_reducible first | refine W ?_ | refine Z0 ?_) | ((with_reducible first | refine Wo (fun K hK => ?_) | refine Wq ?_ | refine Wr ?_); (try simp only [go_sem, fN, seval, eT, iR, e20, e21, e22, s4]); (repeat with_reducible refine Ai ?_); (try (refine hK _ ?_; clear hK K))))
      refine then_normal ⟨t.args.length - (k + 1), by omega, k + 1, by omega, rfl, g1 (by omega), ?_⟩
      simp only [go_sem, fN, seval, AS.drop, dropS, AC.clears, AC.clear, AC.highs, AC.high, Bool.not_false, Bool.true_and, Bool.and_self, AV.purge, AV.purges, AC.purge, ABlk.purge, List.contains_cons, List.contains_nil, Nat.reduceBEq, Bool.or_self, Bool.or_false, Bool.false_or, Bool.or_true, eT, iR, e20, e21, e22, s4]
      congr 3
    ·repeat' (first | (with_reducible first | refine W ?_ | refine Z0 ?_) | ((with_reducible first | refine Wo (fun K hK => ?_) | refine Wq ?_ | refine Wr ?_); (try simp only [go_sem, fN, seval, eT, iR]); (repeat with_reducible refine Ai ?_); (try (refine hK _ ?_; clear hK K))))
     simp only [go_sem, fN, seval, FinQ, AS.result, resAll, resOne, tupV]
     rw [List.take_of_length_le (by omega)] at h0
     rw [hc, h0]
theorem checkT_a (t : Tm) : ACalls Tryz.prog 64 [aTm t] (aInt t.may) := by
 have hm : t.may = if 200 < t.size then 3 else t.chk := rfl
 refine ok_term_Check.ac fun C hC => ?_
 unfold ir_term_Check
 repeat' (first | (with_reducible first | refine W ?_ | refine Z0 ?_) | ((with_reducible first | refine Wo (fun K hK => ?_) | refine Wq ?_ | refine Wr ?_); (try simp only [go_sem, fN, seval, eT, iR]); (repeat with_reducible refine Ai ?_); (try (refine hK _ ?_; clear hK K))))
 refine ⟨_, within_a t 200 (by omega) (by omega), ?_⟩
 by_cases h : lessBy t.size 200 < 0
 ·repeat' (first | (with_reducible first | refine W ?_ | refine Z0 ?_) | ((with_reducible first | refine Wo (fun K hK => ?_) | refine Wq ?_ | refine Wr ?_); (try simp only [go_sem, fN, seval, eT, iR, h]); (repeat with_reducible refine Ai ?_); (try (refine hK _ ?_; clear hK K))))
  with_reducible refine Wp ?_
  simp only [go_sem, fN, seval, true_implies, false_implies, implies_true, dT, dF, nL, h]
  (try with_reducible refine iC ?_)
  repeat' (first | (with_reducible first | refine W ?_ | refine Z0 ?_) | ((with_reducible first | refine Wo (fun K hK => ?_) | refine Wq ?_ | refine Wr ?_); (try simp only [go_sem, fN, seval, eT, iR]); (repeat with_reducible refine Ai ?_); (try (refine hK _ ?_; clear hK K))))
  simp only [go_sem, fN, seval, FinQ, AS.result, resAll, resOne, tupV]
  unfold lessBy at h
  rw [hm, if_pos (by split at h <;> omega)]
 ·repeat' (first | (with_reducible first | refine W ?_ | refine Z0 ?_) | ((with_reducible first | refine Wo (fun K hK => ?_) | refine Wq ?_ | refine Wr ?_); (try simp only [go_sem, fN, seval, eT, iR, h]); (repeat with_reducible refine Ai ?_); (try (refine hK _ ?_; clear hK K))))
  with_reducible refine Wp ?_
  simp only [go_sem, fN, seval, true_implies, false_implies, implies_true, dT, dF, nL, h]
  (try with_reducible refine iC ?_)
  repeat' (first | (with_reducible first | refine W ?_ | refine Z0 ?_) | refine Cg _ (check_a t) ?_ | ((with_reducible first | refine Wo (fun K hK => ?_) | refine Wq ?_ | refine Wr ?_); (try simp only [go_sem, fN, seval, eT, iR]); (repeat with_reducible refine Ai ?_); (try (refine hK _ ?_; clear hK K))))
  simp only [go_sem, fN, seval, FinQ, AS.result, resAll, resOne, tupV]
  unfold lessBy at h
  rw [hm, if_neg (by split at h <;> omega)]
theorem knots_a (t : Tm) (hz : t.size ≤ 1000000) : ACalls Tryz.prog 30 [aTm t] (aTms t.knots) := by
 induction h : SizeOf.sizeOf t using Nat.strongRecOn generalizing t with
 | _ N ih =>
 subst h
 have hs := Tm.size_eq t
 refine ok_R_Knots.ac fun C hC => ?_
 unfold ir_R_Knots
 repeat' (first | (with_reducible first | refine W ?_ | refine Z0 ?_) | ((with_reducible first | refine Wo (fun K hK => ?_) | refine Wq ?_ | refine Wr ?_); (try simp only [go_sem, fN, seval, eT, iR]); (repeat with_reducible refine Ai ?_); (try (refine hK _ ?_; clear hK K))))
 refine IWP.ghost (Ghost.own 3 21 29 2 (xs := ([t].map encT)) (by simp only [go_sem, fN, seval, eT, iR]) rfl lens_encT (by omega)) ?_
 have hlen := Tm.length_le t.args
 refine IWP.loopD [] (fun m s => ∃ k, k ≤ t.args.length ∧ m = t.args.length - k ∧ s.env 1 = .one (.ptr 1 1 0 0) ∧ s.S 1 = some (.box 29 [.st (.str t.name), .st (.list (t.args.map encT))]) ∧ s.env 3 = .one (.row 21 (t :: Tm.knotsL (t.args.take k)).length) ∧ s.S 21 = some (.arow 29 2 ((t :: Tm.knotsL (t.args.take k)).map encT)) ∧ s.env 4 = aInt k)
  t.args.length ⟨0, Nat.zero_le _, rfl, rfl, rfl, rfl, rfl, rfl⟩ ?_
 rintro m ⟨env, S⟩ ⟨k, hk, rfl, e1, s1, e3, s21, e4⟩
 simp only at e1 s1 e3 s21 e4
 repeat' (first | (with_reducible first | refine W ?_ | refine Z0 ?_) | ((with_reducible first | refine Wo (fun K hK => ?_) | refine Wq ?_ | refine Wr ?_); (try simp only [go_sem, fN, seval, eT, iR, e1, s1, e3, s21, e4]); (repeat with_reducible refine Ai ?_); (try (refine hK _ ?_; clear hK K))))
 with_reducible refine Wp ?_
 simp only [go_sem, fN, seval, true_implies, false_implies, implies_true, dT, dF, nL]
 (try with_reducible refine iC ?_)
 refine ⟨fun hlt => ?_, fun hge => ?_⟩
 ·obtain ⟨a, ha⟩ := get_lt (show k < t.args.length by omega)
  have z1 := Tm.sizes_take ha
  have z2 := Tm.sizes_take_le t.args (k + 1)
  have z3 := Tm.knots_length a
  have z4 := Tm.knotsL_length (t.args.take k)
  repeat' (first | (with_reducible first | refine W ?_ | refine Z0 ?_) | refine Cg _ (ih _ (Tm.lt_of_arg (mem_of_get ha)) a (by omega) rfl) ?_ | ((with_reducible first | refine Wo (fun K hK => ?_) | refine Wq ?_ | refine Wr ?_); (try simp only [go_sem, fN, seval, eT, iR, e1, s1, e3, s21, e4, ha]); (repeat with_reducible refine Ai ?_); (try (refine hK _ ?_; clear hK K))))
  refine then_normal ⟨t.args.length - (k + 1), by omega, k + 1, by omega, rfl, ?_⟩
  simp only [go_sem, fN, seval, AS.drop, dropS, AC.clears, AC.clear, AC.highs, AC.high, Bool.not_false, Bool.true_and, Bool.and_self, AV.purge, AV.purges, AC.purge, ABlk.purge, List.contains_cons, List.contains_nil, Nat.reduceBEq, Bool.or_self, Bool.or_false, Bool.false_or, Bool.or_true, eT, iR, e1, s1, e3, s21, e4]
  rw [Tm.knotsL_take ha]
  exact ⟨by simp <;> omega, by simp [encT_eq], rfl⟩
 ·repeat' (first | (with_reducible first | refine W ?_ | refine Z0 ?_) | ((with_reducible first | refine Wo (fun K hK => ?_) | refine Wq ?_ | refine Wr ?_); (try simp only [go_sem, fN, seval, eT, iR, e1, s1, e3, s21, e4]); (repeat with_reducible refine Ai ?_); (try (refine hK _ ?_; clear hK K))))
  simp only [go_sem, fN, seval, FinQ, AS.result, resAll, resOne, tupV, e3, s21]
  rw [List.take_of_length_le (by omega), Tm.knots_eq]
  rfl
theorem termMay_a (t : Tm) : ACalls Tryz.prog 29 [aTm t] (aInt t.may) := by
 have hm : t.may = if 200 < t.size then 3 else t.chk := rfl
 refine ok_R_TermMay.ac fun C hC => ?_
 unfold ir_R_TermMay
 repeat' (first | (with_reducible first | refine W ?_ | refine Z0 ?_) | ((with_reducible first | refine Wo (fun K hK => ?_) | refine Wq ?_ | refine Wr ?_); (try simp only [go_sem, fN, seval, eT, iR]); (repeat with_reducible refine Ai ?_); (try (refine hK _ ?_; clear hK K))))
 refine ⟨_, sizeR_a t 200 (by omega) (by omega), ?_⟩
 by_cases h : (200 : Int) < capTo t.size 200
 ·repeat' (first | (with_reducible first | refine W ?_ | refine Z0 ?_) | ((with_reducible first | refine Wo (fun K hK => ?_) | refine Wq ?_ | refine Wr ?_); (try simp only [go_sem, fN, seval, eT, iR, h]); (repeat with_reducible refine Ai ?_); (try (refine hK _ ?_; clear hK K))))
  with_reducible refine Wp ?_
  simp only [go_sem, fN, seval, true_implies, false_implies, implies_true, dT, dF, nL, h]
  (try with_reducible refine iC ?_)
  repeat' (first | (with_reducible first | refine W ?_ | refine Z0 ?_) | ((with_reducible first | refine Wo (fun K hK => ?_) | refine Wq ?_ | refine Wr ?_); (try simp only [go_sem, fN, seval, eT, iR]); (repeat with_reducible refine Ai ?_); (try (refine hK _ ?_; clear hK K))))
  simp only [go_sem, fN, seval, FinQ, AS.result, resAll, resOne, tupV]
  unfold capTo at h
  rw [hm, if_pos (by split at h <;> omega)]
 have hz := (capTo_in h).2
 rw [if_neg (by omega)] at hm
 repeat' (first | (with_reducible first | refine W ?_ | refine Z0 ?_) | ((with_reducible first | refine Wo (fun K hK => ?_) | refine Wq ?_ | refine Wr ?_); (try simp only [go_sem, fN, seval, eT, iR, h]); (repeat with_reducible refine Ai ?_); (try (refine hK _ ?_; clear hK K))))
 with_reducible refine Wp ?_
 simp only [go_sem, fN, seval, true_implies, false_implies, implies_true, dT, dF, nL, h]
 (try with_reducible refine iC ?_)
 repeat' (first | (with_reducible first | refine W ?_ | refine Z0 ?_) | refine Cg _ (knots_a t (by omega)) ?_ | ((with_reducible first | refine Wo (fun K hK => ?_) | refine Wq ?_ | refine Wr ?_); (try simp only [go_sem, fN, seval, eT, iR]); (repeat with_reducible refine Ai ?_); (try (refine hK _ ?_; clear hK K))))
 have hl := Tm.knots_length t
 have hc := Tm.firstErr_knots t
 refine IWP.loop (fun n s => ∃ k, k ≤ t.knots.length ∧ n = t.knots.length - k ∧ firstErr (t.knots.take k) = 0 ∧ s.env 3 = aTms t.knots ∧ s.env 4 = aInt k) t.knots.length ⟨0, Nat.zero_le _, rfl, rfl, rfl, rfl⟩ ?_
 rintro n ⟨env, S⟩ ⟨k, hk, rfl, h0, e3, e4⟩
 simp only at e3 e4
 repeat' (first | (with_reducible first | refine W ?_ | refine Z0 ?_) | ((with_reducible first | refine Wo (fun K hK => ?_) | refine Wq ?_ | refine Wr ?_); (try simp only [go_sem, fN, seval, eT, iR, e3, e4]); (repeat with_reducible refine Ai ?_); (try (refine hK _ ?_; clear hK K))))
 with_reducible refine Wp ?_
 simp only [go_sem, fN, seval, true_implies, false_implies, implies_true, dT, dF, nL]
 (try with_reducible refine iC ?_)
 refine ⟨fun hlt => ?_, fun hge => ?_⟩
 ·obtain ⟨a, ha⟩ := get_lt (show k < t.knots.length by omega)
  obtain ⟨g1, g2⟩ := firstErr_get ha h0
  have hc1 : chkOne a = if nameOk a.name = true then (if isVar a.name = true ∧ 0 < a.args.length then 2 else 0) else 1 := rfl
  repeat' (first | (with_reducible first | refine W ?_ | refine Z0 ?_) | ((with_reducible first | refine Wo (fun K hK => ?_) | refine Wq ?_ | refine Wr ?_); (try simp only [go_sem, fN, seval, eT, iR, e3, e4, ha]); (repeat with_reducible refine Ai ?_); (try (refine hK _ ?_; clear hK K))))
  refine ⟨_, isName_a _, ?_⟩
  cases hn : nameOk a.name with
  | false =>
   rw [hn, if_neg (by simp)] at hc1
   repeat' (first | (with_reducible first | refine W ?_ | refine Z0 ?_) | ((with_reducible first | refine Wo (fun K hK => ?_) | refine Wq ?_ | refine Wr ?_); (try simp only [go_sem, fN, seval, eT, iR]); (repeat with_reducible refine Ai ?_); (try (refine hK _ ?_; clear hK K))))
   with_reducible refine Wp ?_
   simp only [go_sem, fN, seval, true_implies, false_implies, implies_true, dT, dF, nL]
   (try with_reducible refine iC ?_)
   repeat' (first | (with_reducible first | refine W ?_ | refine Z0 ?_) | ((with_reducible first | refine Wo (fun K hK => ?_) | refine Wq ?_ | refine Wr ?_); (try simp only [go_sem, fN, seval, eT, iR]); (repeat with_reducible refine Ai ?_); (try (refine hK _ ?_; clear hK K))))
   simp only [go_sem, fN, seval, FinQ, AS.result, resAll, resOne, tupV]
   rw [hm, ← hc, g2 (by omega), hc1]
  | true =>
   rw [hn, if_pos rfl] at hc1
   repeat' (first | (with_reducible first | refine W ?_ | refine Z0 ?_) | ((with_reducible first | refine Wo (fun K hK => ?_) | refine Wq ?_ | refine Wr ?_); (try simp only [go_sem, fN, seval, eT, iR]); (repeat with_reducible refine Ai ?_); (try (refine hK _ ?_; clear hK K))))
   with_reducible refine Wp ?_
   simp only [go_sem, fN, seval, true_implies, false_implies, implies_true, dT, dF, nL]
   (try with_reducible refine iC ?_)
   repeat' (first | (with_reducible first | refine W ?_ | refine Z0 ?_) | ((with_reducible first | refine Wo (fun K hK => ?_) | refine Wq ?_ | refine Wr ?_); (try simp only [go_sem, fN, seval, eT, iR, e3, e4, ha]); (repeat with_reducible refine Ai ?_); (try (refine hK _ ?_; clear hK K))))
   refine ⟨_, isVar_a _, ?_⟩
   by_cases hv : isVar a.name = true ∧ 0 < a.args.length
   ·obtain ⟨hv1, hv2⟩ := hv
    have hv2' : (0 : Int) < a.args.length := by omega
    rw [if_pos ⟨hv1, hv2⟩] at hc1
    rw [hv1]
    repeat' (first | (with_reducible first | refine W ?_ | refine Z0 ?_) | ((with_reducible first | refine Wo (fun K hK => ?_) | refine Wq ?_ | refine Wr ?_); (try simp only [go_sem, fN, seval, eT, iR, e3, e4, ha, hv2']); (repeat with_reducible refine Ai ?_); (try (refine hK _ ?_; clear hK K))))
    with_reducible refine Wp ?_
    simp only [go_sem, fN, seval, true_implies, false_implies, implies_true, dT, dF, nL, hv2']
    (try with_reducible refine iC ?_)
    repeat' (first | (with_reducible first | refine W ?_ | refine Z0 ?_) | ((with_reducible first | refine Wo (fun K hK => ?_) | refine Wq ?_ | refine Wr ?_); (try simp only [go_sem, fN, seval, eT, iR]); (repeat with_reducible refine Ai ?_); (try (refine hK _ ?_; clear hK K))))
    simp only [go_sem, fN, seval, FinQ, AS.result, resAll, resOne, tupV]
    rw [hm, ← hc, g2 (by omega), hc1]
   ·rw [if_neg hv] at hc1
    have hv2 : isVar a.name = true → ¬ (0 : Int) < a.args.length := fun h h' => hv ⟨h, by omega⟩
    cases hvv : isVar a.name
    all_goals
     simp only [hvv, true_implies, false_implies, Bool.false_eq_true] at hv2
     repeat' (first | (with_reducible first | refine W ?_ | refine Z0 ?_) | ((with_reducible first | refine Wo (fun K hK => ?_) | refine Wq ?_ | refine Wr ?_); (try simp only [go_sem, fN, seval, eT, iR, e3, e4, ha, hv2]); (repeat with_reducible refine Ai ?_); (try (refine hK _ ?_; clear hK K))))
     with_reducible refine Wp ?_
     simp only [go_sem, fN, seval, true_implies, false_implies, implies_true, dT, dF, nL, hv2]
     (try with_reducible refine iC ?_)
     repeat' (first | (with_reducible first | refine W ?_ | refine Z0 ?_) | ((with_reducible first | refine Wo (fun K hK => ?_) | refine Wq ?_ | refine Wr ?_); (try simp only [go_sem, fN, seval, eT, iR, e3, e4]); (repeat with_reducible refine Ai ?_); (try (refine hK _ ?_; clear hK K))))
     refine then_normal ⟨t.knots.length - (k + 1), by omega, k + 1, by omega, rfl, g1 hc1, ?_⟩
     simp only [go_sem, fN, seval, eT, iR, e3, e4]
     congr 3
 ·repeat' (first | (with_reducible first | refine W ?_ | refine Z0 ?_) | ((with_reducible first | refine Wo (fun K hK => ?_) | refine Wq ?_ | refine Wr ?_); (try simp only [go_sem, fN, seval, eT, iR]); (repeat with_reducible refine Ai ?_); (try (refine hK _ ?_; clear hK K))))
  simp only [go_sem, fN, seval, FinQ, AS.result, resAll, resOne, tupV]
  rw [List.take_of_length_le (by omega)] at h0
  rw [hm, ← hc, h0]
def twoMay (a b : Tm) : Int := if a.may = 0 then b.may else a.may
theorem twoMay_a (t u : Tm) : ACalls Tryz.prog 17 [aTm t, aTm u] (aInt (twoMay t u)) := by
 refine ok_R_TwoMay.ac fun C hC => ?_
 unfold ir_R_TwoMay
 repeat' (first | (with_reducible first | refine W ?_ | refine Z0 ?_) | ((with_reducible first | refine Wo (fun K hK => ?_) | refine Wq ?_ | refine Wr ?_); (try simp only [go_sem, fN, seval, eT, iR]); (repeat with_reducible refine Ai ?_); (try (refine hK _ ?_; clear hK K))))
 refine ⟨_, termMay_a t, ?_⟩
 by_cases h : t.may = 0
 ·repeat' (first | (with_reducible first | refine W ?_ | refine Z0 ?_) | ((with_reducible first | refine Wo (fun K hK => ?_) | refine Wq ?_ | refine Wr ?_); (try simp only [go_sem, fN, seval, eT, iR, h]); (repeat with_reducible refine Ai ?_); (try (refine hK _ ?_; clear hK K))))
  with_reducible refine Wp ?_
  simp only [go_sem, fN, seval, true_implies, false_implies, implies_true, dT, dF, nL, h]
  (try with_reducible refine iC ?_)
  repeat' (first | (with_reducible first | refine W ?_ | refine Z0 ?_) | refine Cg _ (termMay_a u) ?_ | ((with_reducible first | refine Wo (fun K hK => ?_) | refine Wq ?_ | refine Wr ?_); (try simp only [go_sem, fN, seval, eT, iR]); (repeat with_reducible refine Ai ?_); (try (refine hK _ ?_; clear hK K))))
  simp only [go_sem, fN, seval, FinQ, AS.result, resAll, resOne, tupV]
  rw [twoMay, if_pos h]
 ·repeat' (first | (with_reducible first | refine W ?_ | refine Z0 ?_) | ((with_reducible first | refine Wo (fun K hK => ?_) | refine Wq ?_ | refine Wr ?_); (try simp only [go_sem, fN, seval, eT, iR, h]); (repeat with_reducible refine Ai ?_); (try (refine hK _ ?_; clear hK K))))
  with_reducible refine Wp ?_
  simp only [go_sem, fN, seval, true_implies, false_implies, implies_true, dT, dF, nL, h]
  (try with_reducible refine iC ?_)
  repeat' (first | (with_reducible first | refine W ?_ | refine Z0 ?_) | ((with_reducible first | refine Wo (fun K hK => ?_) | refine Wq ?_ | refine Wr ?_); (try simp only [go_sem, fN, seval, eT, iR]); (repeat with_reducible refine Ai ?_); (try (refine hK _ ?_; clear hK K))))
  simp only [go_sem, fN, seval, FinQ, AS.result, resAll, resOne, tupV]
  rw [twoMay, if_neg h]
theorem huge_a (t : Tm) : ACalls Tryz.prog 16 [aTm t] (aBool (decide (3000 < t.size))) := by
 have hc : ((3000 : Int) < capTo t.size 3000) = (3000 < t.size) := by
  unfold capTo
  by_cases h : (3000 : Int) < t.size
  ·rw [if_pos h]; simp; omega
  ·rw [if_neg h]; simp; omega
 refine ok_L_huge.ac fun C hC => ?_
 unfold ir_L_huge
 repeat' (first | (with_reducible first | refine W ?_ | refine Z0 ?_) | refine Cg _ (sizeR_a t 3000 (by omega) (by omega)) ?_ | ((with_reducible first | refine Wo (fun K hK => ?_) | refine Wq ?_ | refine Wr ?_); (try simp only [go_sem, fN, seval, eT, iR]); (repeat with_reducible refine Ai ?_); (try (refine hK _ ?_; clear hK K))))
 simp only [go_sem, fN, seval, FinQ, AS.result, resAll, resOne, tupV, hc]
theorem in_a (x : ByteArray) (l : List ByteArray) : ACalls Tryz.prog 20 [aStr x, aStrs l] (aBool (isIn x l)) := by
 refine ok_R_In.ac fun C hC => ?_
 unfold ir_R_In
 refine IWP.learn 1 (by omega) fun hkn => ?_
 have hkn := known_len hkn
 rw [List.length_map] at hkn
 repeat' (first | (with_reducible first | refine W ?_ | refine Z0 ?_) | ((with_reducible first | refine Wo (fun K hK => ?_) | refine Wq ?_ | refine Wr ?_); (try simp only [go_sem, fN, seval, eT, iR]); (repeat with_reducible refine Ai ?_); (try (refine hK _ ?_; clear hK K))))
 refine IWP.loop (fun n s => ∃ k, k ≤ l.length ∧ n = l.length - k ∧ isIn x (l.take k) = false ∧ s.env 0 = aStr x ∧ s.env 1 = aStrs l ∧ s.env 5 = aInt k) l.length ⟨0, Nat.zero_le _, rfl, rfl, rfl, rfl, rfl⟩ ?_
 rintro n ⟨env, S⟩ ⟨k, hk, rfl, h0, e0, e1, e5⟩
 simp only at e0 e1 e5
 repeat' (first | (with_reducible first | refine W ?_ | refine Z0 ?_) | ((with_reducible first | refine Wo (fun K hK => ?_) | refine Wq ?_ | refine Wr ?_); (try simp only [go_sem, fN, seval, eT, iR, e0, e1, e5]); (repeat with_reducible refine Ai ?_); (try (refine hK _ ?_; clear hK K))))
 with_reducible refine Wp ?_
 simp only [go_sem, fN, seval, true_implies, false_implies, implies_true, dT, dF, nL]
 (try with_reducible refine iC ?_)
 refine ⟨fun hlt => ?_, fun hge => ?_⟩
 ·obtain ⟨a, ha⟩ := get_lt (show k < l.length by omega)
  repeat' (first | (with_reducible first | refine W ?_ | refine Z0 ?_) | ((with_reducible first | refine Wo (fun K hK => ?_) | refine Wq ?_ | refine Wr ?_); (try simp only [go_sem, fN, seval, eT, iR, e0, e1, e5, ha]); (repeat with_reducible refine Ai ?_); (try (refine hK _ ?_; clear hK K))))
  with_reducible refine Wp ?_
  simp only [go_sem, fN, seval, true_implies, false_implies, implies_true, dT, dF, nL]
  (try with_reducible refine iC ?_)
  refine ⟨fun hb => ?_, fun hb => ?_⟩
  ·repeat' (first | (with_reducible first | refine W ?_ | refine Z0 ?_) | ((with_reducible first | refine Wo (fun K hK => ?_) | refine Wq ?_ | refine Wr ?_); (try simp only [go_sem, fN, seval, eT, iR]); (repeat with_reducible refine Ai ?_); (try (refine hK _ ?_; clear hK K))))
   simp only [go_sem, fN, seval, FinQ, AS.result, resAll, resOne, tupV]
   rw [isIn_iff.2 (by rw [← hb]; exact mem_of_get ha)]
  ·repeat' (first | (with_reducible first | refine W ?_ | refine Z0 ?_) | ((with_reducible first | refine Wo (fun K hK => ?_) | refine Wq ?_ | refine Wr ?_); (try simp only [go_sem, fN, seval, eT, iR, e0, e1, e5]); (repeat with_reducible refine Ai ?_); (try (refine hK _ ?_; clear hK K))))
   refine then_normal ⟨l.length - (k + 1), by omega, k + 1, by omega, rfl, ?_, ?_⟩
   ·rw [take_snoc ha, isIn_no]
    rw [isIn_no] at h0
    simp only [List.mem_append, List.mem_singleton, not_or]
    exact ⟨h0, fun e => hb e.symm⟩
   ·simp only [go_sem, fN, seval, eT, iR, e0, e1, e5]
    congr 3
 ·repeat' (first | (with_reducible first | refine W ?_ | refine Z0 ?_) | ((with_reducible first | refine Wo (fun K hK => ?_) | refine Wq ?_ | refine Wr ?_); (try simp only [go_sem, fN, seval, eT, iR]); (repeat with_reducible refine Ai ?_); (try (refine hK _ ?_; clear hK K))))
  simp only [go_sem, fN, seval, FinQ, AS.result, resAll, resOne, tupV]
  rw [List.take_of_length_le (by omega)] at h0
  rw [h0]
theorem index_a (l : List ByteArray) (x : ByteArray) : ∃ i : Int, ACalls Tryz.prog 67 [aStrs l, aStr x] (aInt i) ∧ (0 ≤ i ↔ isIn x l = true) := by
 by_cases hin : isIn x l = true
 ·obtain ⟨k0, hk0, hmin⟩ : ∃ k, l[k]? = some x ∧ ∀ j, j < k → l[j]? ≠ some x := by
   have hx := isIn_iff.1 hin
   have ⟨k, hk⟩ := List.getElem?_of_mem hx
   induction k using Nat.strongRecOn with
   | _ k ih =>
    by_cases h : ∃ j, j < k ∧ l[j]? = some x
    ·obtain ⟨j, hj, hjx⟩ := h
     exact ih j hj hjx
    ·exact ⟨k, hk, fun j hj hjx => h ⟨j, hj, hjx⟩⟩
  have hlt0 := lt_of_get hk0
  refine ⟨k0, ?_, by simp [hin]⟩
  refine ok_slices_Index_string_string.ac fun C hC => ?_
  unfold ir_slices_Index_string_string
  refine IWP.learn 0 (by omega) fun hkn => ?_
  have hkn := known_len hkn
  rw [List.length_map] at hkn
  repeat' (first | (with_reducible first | refine W ?_ | refine Z0 ?_) | ((with_reducible first | refine Wo (fun K hK => ?_) | refine Wq ?_ | refine Wr ?_); (try simp only [go_sem, fN, seval, eT, iR]); (repeat with_reducible refine Ai ?_); (try (refine hK _ ?_; clear hK K))))
  refine IWP.loop (fun n s => ∃ k, k ≤ k0 ∧ n = k0 - k ∧ s.env 0 = aStrs l ∧ s.env 1 = aStr x ∧ s.env 7 = aInt l.length ∧ s.env 8 = aInt k) k0 ⟨0, Nat.zero_le _, rfl, rfl, rfl, rfl, rfl⟩ ?_
  rintro n ⟨env, S⟩ ⟨k, hk, rfl, e0, e1, e7, e8⟩
  simp only at e0 e1 e7 e8
  have hlt : (k : Int) < l.length := by omega
  repeat' (first | (with_reducible first | refine W ?_ | refine Z0 ?_) | ((with_reducible first | refine Wo (fun K hK => ?_) | refine Wq ?_ | refine Wr ?_); (try simp only [go_sem, fN, seval, eT, iR, e0, e1, e7, e8, hlt]); (repeat with_reducible refine Ai ?_); (try (refine hK _ ?_; clear hK K))))
  with_reducible refine Wp ?_
  simp only [go_sem, fN, seval, true_implies, false_implies, implies_true, dT, dF, nL, e0, e1, e7, e8, hlt]
  (try with_reducible refine iC ?_)
  obtain ⟨a, ha⟩ := get_lt (show k < l.length by omega)
  repeat' (first | (with_reducible first | refine W ?_ | refine Z0 ?_) | ((with_reducible first | refine Wo (fun K hK => ?_) | refine Wq ?_ | refine Wr ?_); (try simp only [go_sem, fN, seval, eT, iR, e0, e1, e7, e8, ha]); (repeat with_reducible refine Ai ?_); (try (refine hK _ ?_; clear hK K))))
  by_cases he : k = k0
  ·subst he
   rw [hk0] at ha
   cases ha
   with_reducible refine Wp ?_
   simp only [go_sem, fN, seval, true_implies, false_implies, implies_true, dT, dF, nL]
   (try with_reducible refine iC ?_)
   repeat' (first | (with_reducible first | refine W ?_ | refine Z0 ?_) | ((with_reducible first | refine Wo (fun K hK => ?_) | refine Wq ?_ | refine Wr ?_); (try simp only [go_sem, fN, seval, eT, iR, e0, e1, e7, e8]); (repeat with_reducible refine Ai ?_); (try (refine hK _ ?_; clear hK K))))
   simp only [go_sem, fN, seval, FinQ, AS.result, resAll, resOne, tupV]
  ·have hne : ¬ x = a := fun e => hmin k (by omega) (by rw [ha, e])
   with_reducible refine Wp ?_
   simp only [go_sem, fN, seval, true_implies, false_implies, implies_true, dT, dF, nL, hne]
   (try with_reducible refine iC ?_)
   repeat' (first | (with_reducible first | refine W ?_ | refine Z0 ?_) | ((with_reducible first | refine Wo (fun K hK => ?_) | refine Wq ?_ | refine Wr ?_); (try simp only [go_sem, fN, seval, eT, iR, e0, e1, e7, e8]); (repeat with_reducible refine Ai ?_); (try (refine hK _ ?_; clear hK K))))
   refine then_normal ⟨k0 - (k + 1), by omega, k + 1, by omega, rfl, ?_⟩
   simp only [go_sem, fN, seval, eT, iR, e0, e1, e7, e8]
   congr 3
 ·rw [Bool.not_eq_true] at hin
  refine ⟨-1, ?_, by simp [hin]⟩
  refine ok_slices_Index_string_string.ac fun C hC => ?_
  unfold ir_slices_Index_string_string
  refine IWP.learn 0 (by omega) fun hkn => ?_
  have hkn := known_len hkn
  rw [List.length_map] at hkn
  repeat' (first | (with_reducible first | refine W ?_ | refine Z0 ?_) | ((with_reducible first | refine Wo (fun K hK => ?_) | refine Wq ?_ | refine Wr ?_); (try simp only [go_sem, fN, seval, eT, iR]); (repeat with_reducible refine Ai ?_); (try (refine hK _ ?_; clear hK K))))
  refine IWP.loop (fun n s => ∃ k, k ≤ l.length ∧ n = l.length - k ∧ s.env 0 = aStrs l ∧ s.env 1 = aStr x ∧ s.env 7 = aInt l.length ∧ s.env 8 = aInt k) l.length ⟨0, Nat.zero_le _, rfl, rfl, rfl, rfl, rfl⟩ ?_
  rintro n ⟨env, S⟩ ⟨k, hk, rfl, e0, e1, e7, e8⟩
  simp only at e0 e1 e7 e8
  by_cases hlt : (k : Int) < l.length
  ·repeat' (first | (with_reducible first | refine W ?_ | refine Z0 ?_) | ((with_reducible first | refine Wo (fun K hK => ?_) | refine Wq ?_ | refine Wr ?_); (try simp only [go_sem, fN, seval, eT, iR, e0, e1, e7, e8, hlt]); (repeat with_reducible refine Ai ?_); (try (refine hK _ ?_; clear hK K))))
   with_reducible refine Wp ?_
   simp only [go_sem, fN, seval, true_implies, false_implies, implies_true, dT, dF, nL, e0, e1, e7, e8, hlt]
   (try with_reducible refine iC ?_)
   obtain ⟨a, ha⟩ := get_lt (show k < l.length by omega)
   have hne : ¬ x = a := fun e => by
    rw [isIn_no] at hin
    exact hin (by rw [e]; exact mem_of_get ha)
   repeat' (first | (with_reducible first | refine W ?_ | refine Z0 ?_) | ((with_reducible first | refine Wo (fun K hK => ?_) | refine Wq ?_ | refine Wr ?_); (try simp only [go_sem, fN, seval, eT, iR, e0, e1, e7, e8, ha]); (repeat with_reducible refine Ai ?_); (try (refine hK _ ?_; clear hK K))))
   with_reducible refine Wp ?_
   simp only [go_sem, fN, seval, true_implies, false_implies, implies_true, dT, dF, nL, hne]
   (try with_reducible refine iC ?_)
   repeat' (first | (with_reducible first | refine W ?_ | refine Z0 ?_) | ((with_reducible first | refine Wo (fun K hK => ?_) | refine Wq ?_ | refine Wr ?_); (try simp only [go_sem, fN, seval, eT, iR, e0, e1, e7, e8]); (repeat with_reducible refine Ai ?_); (try (refine hK _ ?_; clear hK K))))
   refine then_normal ⟨l.length - (k + 1), by omega, k + 1, by omega, rfl, ?_⟩
   simp only [go_sem, fN, seval, eT, iR, e0, e1, e7, e8]
   congr 3
  ·repeat' (first | (with_reducible first | refine W ?_ | refine Z0 ?_) | ((with_reducible first | refine Wo (fun K hK => ?_) | refine Wq ?_ | refine Wr ?_); (try simp only [go_sem, fN, seval, eT, iR, e0, e1, e7, e8, hlt]); (repeat with_reducible refine Ai ?_); (try (refine hK _ ?_; clear hK K))))
   with_reducible refine Wp ?_
   simp only [go_sem, fN, seval, true_implies, false_implies, implies_true, dT, dF, nL, e0, e1, e7, e8, hlt]
   (try with_reducible refine iC ?_)
   repeat' (first | (with_reducible first | refine W ?_ | refine Z0 ?_) | ((with_reducible first | refine Wo (fun K hK => ?_) | refine Wq ?_ | refine Wr ?_); (try simp only [go_sem, fN, seval, eT, iR]); (repeat with_reducible refine Ai ?_); (try (refine hK _ ?_; clear hK K))))
   simp only [go_sem, fN, seval, FinQ, AS.result, resAll, resOne, tupV]
theorem contains_a (l : List ByteArray) (x : ByteArray) : ACalls Tryz.prog 44 [aStrs l, aStr x] (aBool (isIn x l)) := by
 obtain ⟨i, h1, h2⟩ := index_a l x
 refine ok_slices_Contains_string_string.ac fun C hC => ?_
 unfold ir_slices_Contains_string_string
 repeat' (first | (with_reducible first | refine W ?_ | refine Z0 ?_) | refine Cg _ (h1) ?_ | ((with_reducible first | refine Wo (fun K hK => ?_) | refine Wq ?_ | refine Wr ?_); (try simp only [go_sem, fN, seval, eT, iR]); (repeat with_reducible refine Ai ?_); (try (refine hK _ ?_; clear hK K))))
 simp only [go_sem, fN, seval, FinQ, AS.result, resAll, resOne, tupV]
 congr 4
 cases hi : isIn x l with
 | true => exact decide_eq_true (h2.2 hi)
 | false =>
  refine decide_eq_false fun h => ?_
  rw [h2.1 h] at hi
  cases hi
mutual
def Tm.beq : Tm → Tm → Bool
 | .mk n xs, .mk m ys => decide (n = m) && Tm.beqL xs ys
def Tm.beqL : List Tm → List Tm → Bool
 | [], [] => true
 | x :: xs, y :: ys => x.beq y && Tm.beqL xs ys
 | _, _ => false
end
mutual
theorem Tm.beq_iff : ∀ a b : Tm, a.beq b = true ↔ a = b
 | .mk n xs, .mk m ys => by
  rw [Tm.beq, Bool.and_eq_true, Tm.beqL_iff xs ys, decide_eq_true_eq, Tm.mk.injEq]
theorem Tm.beqL_iff : ∀ xs ys : List Tm, Tm.beqL xs ys = true ↔ xs = ys
 | [], [] => by simp [Tm.beqL]
 | x :: xs, y :: ys => by rw [Tm.beqL, Bool.and_eq_true, Tm.beq_iff x y, Tm.beqL_iff xs ys, List.cons.injEq]
 | [], y :: ys => by simp [Tm.beqL]
 | x :: xs, [] => by simp [Tm.beqL]
end
theorem Tm.beq_refl (a : Tm) : a.beq a = true := (Tm.beq_iff a a).2 rfl
theorem Tm.eq_of {a b : Tm} (h1 : a.name = b.name) (h2 : a.args = b.args) : a = b := by
 cases a; cases b
 simp only [Tm.name_mk, Tm.args_mk] at h1 h2
 rw [h1, h2]
theorem sameR_a (a b : Tm) : ACalls Tryz.prog 26 [aTm a, aTm b] (aBool (a.beq b)) := by
 induction h : SizeOf.sizeOf a using Nat.strongRecOn generalizing a b with
 | _ N ih =>
 subst h
 have hno : a ≠ b → a.beq b = false := fun h => by
  rw [← Bool.not_eq_true, Tm.beq_iff]
  exact h
 refine ok_R_Same.ac fun C hC => ?_
 unfold ir_R_Same
 refine IWP.learn 0 (by omega) fun hkn => ?_
 have hkn := known_tm hkn
 by_cases hn : a.name = b.name
 ·by_cases hl : a.args.length = b.args.length
  ·have hl' : (a.args.length : Int) = b.args.length := by omega
   repeat' (first | (with_reducible first | refine W ?_ | refine Z0 ?_) | ((with_reducible first | refine Wo (fun K hK => ?_) | refine Wq ?_ | refine Wr ?_); (try simp only [go_sem, fN, seval, eT, iR, hn, hl']); (repeat with_reducible refine Ai ?_); (try (refine hK _ ?_; clear hK K))))
   with_reducible refine Wp ?_
   simp only [go_sem, fN, seval, true_implies, false_implies, implies_true, dT, dF, nL, hn, hl']
   (try with_reducible refine iC ?_)
   repeat' (first | (with_reducible first | refine W ?_ | refine Z0 ?_) | ((with_reducible first | refine Wo (fun K hK => ?_) | refine Wq ?_ | refine Wr ?_); (try simp only [go_sem, fN, seval, eT, iR]); (repeat with_reducible refine Ai ?_); (try (refine hK _ ?_; clear hK K))))
   refine IWP.loop (fun n s => ∃ k, k ≤ a.args.length ∧ n = a.args.length - k ∧ a.args.take k = b.args.take k ∧ s.env 2 = .one (.ptr 2 1 0 0) ∧ s.env 3 = .one (.ptr 3 1 0 0) ∧ s.S 2 = some (.box 29 [.st (.str b.name), .st (.list (a.args.map encT))]) ∧ s.S 3 = some (.box 29 [.st (.str b.name), .st (.list (b.args.map encT))]) ∧ s.env 5 = aInt k) a.args.length ⟨0, Nat.zero_le _, rfl, rfl, rfl, rfl, rfl, rfl, rfl⟩ ?_
   rintro n ⟨env, S⟩ ⟨k, hk, rfl, h0, e2, e3, s2, s3, e5⟩
   simp only at e2 e3 s2 s3 e5
   repeat' (first | (with_reducible first | refine W ?_ | refine Z0 ?_) | ((with_reducible first | refine Wo (fun K hK => ?_) | refine Wq ?_ | refine Wr ?_); (try simp only [go_sem, fN, seval, eT, iR, e2, e3, s2, s3, e5]); (repeat with_reducible refine Ai ?_); (try (refine hK _ ?_; clear hK K))))
   with_reducible refine Wp ?_
   simp only [go_sem, fN, seval, true_implies, false_implies, implies_true, dT, dF, nL]
   (try with_reducible refine iC ?_)
   refine ⟨fun hlt => ?_, fun hge => ?_⟩
   ·obtain ⟨x, hx⟩ := get_lt (show k < a.args.length by omega)
    obtain ⟨y, hy⟩ := get_lt (show k < b.args.length by omega)
    repeat' (first | (with_reducible first | refine W ?_ | refine Z0 ?_) | refine Cg _ (ih _ (Tm.lt_of_arg (mem_of_get hx)) x y rfl) ?_ | ((with_reducible first | refine Wo (fun K hK => ?_) | refine Wq ?_ | refine Wr ?_); (try simp only [go_sem, fN, seval, eT, iR, e2, e3, s2, s3, e5, hx, hy]); (repeat with_reducible refine Ai ?_); (try (refine hK _ ?_; clear hK K))))
    cases hxy : x.beq y with
    | false =>
     with_reducible refine Wp ?_
     simp only [go_sem, fN, seval, true_implies, false_implies, implies_true, dT, dF, nL]
     (try with_reducible refine iC ?_)
     repeat' (first | (with_reducible first | refine W ?_ | refine Z0 ?_) | ((with_reducible first | refine Wo (fun K hK => ?_) | refine Wq ?_ | refine Wr ?_); (try simp only [go_sem, fN, seval, eT, iR]); (repeat with_reducible refine Ai ?_); (try (refine hK _ ?_; clear hK K))))
     simp only [go_sem, fN, seval, FinQ, AS.result, resAll, resOne, tupV]
     rw [hno fun e => by
      subst e
      rw [hx] at hy
      cases hy
      rw [Tm.beq_refl] at hxy
      cases hxy]
    | true =>
     have hxy := (Tm.beq_iff x y).1 hxy
     with_reducible refine Wp ?_
     simp only [go_sem, fN, seval, true_implies, false_implies, implies_true, dT, dF, nL]
     (try with_reducible refine iC ?_)
     repeat' (first | (with_reducible first | refine W ?_ | refine Z0 ?_) | ((with_reducible first | refine Wo (fun K hK => ?_) | refine Wq ?_ | refine Wr ?_); (try simp only [go_sem, fN, seval, eT, iR, e2, e3, s2, s3, e5]); (repeat with_reducible refine Ai ?_); (try (refine hK _ ?_; clear hK K))))
     refine then_normal ⟨a.args.length - (k + 1), by omega, k + 1, by omega, rfl, ?_, ?_⟩
     ·rw [take_snoc hx, take_snoc hy, h0, hxy]
     ·simp only [go_sem, fN, seval, eT, iR, e2, e3, s2, s3, e5]
      congr 3
   ·repeat' (first | (with_reducible first | refine W ?_ | refine Z0 ?_) | ((with_reducible first | refine Wo (fun K hK => ?_) | refine Wq ?_ | refine Wr ?_); (try simp only [go_sem, fN, seval, eT, iR]); (repeat with_reducible refine Ai ?_); (try (refine hK _ ?_; clear hK K))))
    simp only [go_sem, fN, seval, FinQ, AS.result, resAll, resOne, tupV]
    rw [List.take_of_length_le (by omega), List.take_of_length_le (by omega)] at h0
    rw [Tm.eq_of hn h0, Tm.beq_refl]
  ·have hl' : ¬ (a.args.length : Int) = b.args.length := by omega
   repeat' (first | (with_reducible first | refine W ?_ | refine Z0 ?_) | ((with_reducible first | refine Wo (fun K hK => ?_) | refine Wq ?_ | refine Wr ?_); (try simp only [go_sem, fN, seval, eT, iR, hn, hl']); (repeat with_reducible refine Ai ?_); (try (refine hK _ ?_; clear hK K))))
   with_reducible refine Wp ?_
   simp only [go_sem, fN, seval, true_implies, false_implies, implies_true, dT, dF, nL, hn, hl']
   (try with_reducible refine iC ?_)
   repeat' (first | (with_reducible first | refine W ?_ | refine Z0 ?_) | ((with_reducible first | refine Wo (fun K hK => ?_) | refine Wq ?_ | refine Wr ?_); (try simp only [go_sem, fN, seval, eT, iR]); (repeat with_reducible refine Ai ?_); (try (refine hK _ ?_; clear hK K))))
   simp only [go_sem, fN, seval, FinQ, AS.result, resAll, resOne, tupV]
   rw [hno fun e => hl (by rw [e])]
 ·repeat' (first | (with_reducible first | refine W ?_ | refine Z0 ?_) | ((with_reducible first | refine Wo (fun K hK => ?_) | refine Wq ?_ | refine Wr ?_); (try simp only [go_sem, fN, seval, eT, iR, hn]); (repeat with_reducible refine Ai ?_); (try (refine hK _ ?_; clear hK K))))
  with_reducible refine Wp ?_
  simp only [go_sem, fN, seval, true_implies, false_implies, implies_true, dT, dF, nL, hn]
  (try with_reducible refine iC ?_)
  repeat' (first | (with_reducible first | refine W ?_ | refine Z0 ?_) | ((with_reducible first | refine Wo (fun K hK => ?_) | refine Wq ?_ | refine Wr ?_); (try simp only [go_sem, fN, seval, eT, iR]); (repeat with_reducible refine Ai ?_); (try (refine hK _ ?_; clear hK K))))
  simp only [go_sem, fN, seval, FinQ, AS.result, resAll, resOne, tupV]
  rw [hno fun e => hn (by rw [e])]
def Tm.nil : Tm := .mk ⟨#[]⟩ []

theorem lens_encS {ts : List ByteArray} : ∀ x ∈ ts.map encS, x.length = 1 := by
 intro x hx
 obtain ⟨a, _, rfl⟩ := List.mem_map.1 hx
 rfl
theorem varsOf_a (t : Tm) (hz : t.size ≤ 1000000) : ACalls Tryz.prog 19 [aTm t] (aStrs t.varsOf) := by
 have hl := Tm.knots_length t
 refine ok_R_VarsOf.ac fun C hC => ?_
 unfold ir_R_VarsOf
 repeat' (first | (with_reducible first | refine W ?_ | refine Z0 ?_) | refine Cg _ (knots_a t hz) ?_ | ((with_reducible first | refine Wo (fun K hK => ?_) | refine Wq ?_ | refine Wr ?_); (try simp only [go_sem, fN, seval, eT, iR]); (repeat with_reducible refine Ai ?_); (try (refine hK _ ?_; clear hK K))))
 refine IWP.ghost (Ghost.own 4 37 9 1 (xs := ([] : List ByteArray).map encS) rfl rfl lens_encS (by omega)) ?_
 refine IWP.loopD [] (fun m s => ∃ k, k ≤ t.knots.length ∧ m = t.knots.length - k ∧ s.env 3 = aTms t.knots ∧ s.env 4 = .one (.row 37 (addVars [] (t.knots.take k)).length) ∧ s.S 37 = some (.arow 9 1 ((addVars [] (t.knots.take k)).map encS)) ∧ s.env 5 = aInt k)
  t.knots.length ⟨0, Nat.zero_le _, rfl, rfl, rfl, rfl, rfl⟩ ?_
 rintro m ⟨env, S⟩ ⟨k, hk, rfl, e3, e4, s37, e5⟩
 simp only at e3 e4 s37 e5
 have hlen := addVars_length (t.knots.take k) []
 rw [List.length_take, List.length_nil] at hlen
 by_cases hlt : (k : Int) < t.knots.length
 ·obtain ⟨a, ha⟩ := get_lt (show k < t.knots.length by omega)
  repeat' (first | (with_reducible first | refine W ?_ | refine Z0 ?_) | ((with_reducible first | refine Wo (fun K hK => ?_) | refine Wq ?_ | refine Wr ?_); (try simp only [go_sem, fN, seval, eT, iR, e3, e4, s37, e5, hlt]); (repeat with_reducible refine Ai ?_); (try (refine hK _ ?_; clear hK K))))
  with_reducible refine Wp ?_
  simp only [go_sem, fN, seval, true_implies, false_implies, implies_true, dT, dF, nL, hlt]
  (try with_reducible refine iC ?_)
  repeat' (first | (with_reducible first | refine W ?_ | refine Z0 ?_) | ((with_reducible first | refine Wo (fun K hK => ?_) | refine Wq ?_ | refine Wr ?_); (try simp only [go_sem, fN, seval, eT, iR, e3, e4, s37, e5, ha]); (repeat with_reducible refine Ai ?_); (try (refine hK _ ?_; clear hK K))))
  refine ⟨_, isVar_a _, ?_⟩
  have hstep : addVars [] (t.knots.take (k + 1)) = addVar (addVars [] (t.knots.take k)) a.name := by rw [take_snoc ha, addVars_snoc]
  cases hv : isVar a.name with
  | false =>
   rw [addVar_no hv] at hstep
   repeat' (first | (with_reducible first | refine W ?_ | refine Z0 ?_) | ((with_reducible first | refine Wo (fun K hK => ?_) | refine Wq ?_ | refine Wr ?_); (try simp only [go_sem, fN, seval, eT, iR, e3, e4, s37, e5, ha]); (repeat with_reducible refine Ai ?_); (try (refine hK _ ?_; clear hK K))))
   with_reducible refine Wp ?_
   simp only [go_sem, fN, seval, true_implies, false_implies, implies_true, dT, dF, nL]
   (try with_reducible refine iC ?_)
   repeat' (first | (with_reducible first | refine W ?_ | refine Z0 ?_) | ((with_reducible first | refine Wo (fun K hK => ?_) | refine Wq ?_ | refine Wr ?_); (try simp only [go_sem, fN, seval, eT, iR, e3, e4, s37, e5]); (repeat with_reducible refine Ai ?_); (try (refine hK _ ?_; clear hK K))))
   refine then_normal ⟨t.knots.length - (k + 1), by omega, k + 1, by omega, rfl, ?_⟩
   simp only [go_sem, fN, seval, AS.drop, dropS, AC.clears, AC.clear, AC.highs, AC.high, Bool.not_false, Bool.true_and, Bool.and_self, AV.purge, AV.purges, AC.purge, ABlk.purge, List.contains_cons, List.contains_nil, Nat.reduceBEq, Bool.or_self, Bool.or_false, Bool.false_or, Bool.or_true, eT, iR, e3, e4, s37, e5, hstep]
   congr 3
  | true =>
   repeat' (first | (with_reducible first | refine W ?_ | refine Z0 ?_) | ((with_reducible first | refine Wo (fun K hK => ?_) | refine Wq ?_ | refine Wr ?_); (try simp only [go_sem, fN, seval, eT, iR, e3, e4, s37, e5, ha]); (repeat with_reducible refine Ai ?_); (try (refine hK _ ?_; clear hK K))))
   refine ⟨_, in_a _ _, ?_⟩
   cases hi : isIn a.name (addVars [] (t.knots.take k)) with
   | true =>
    rw [addVar_in hi] at hstep
    repeat' (first | (with_reducible first | refine W ?_ | refine Z0 ?_) | ((with_reducible first | refine Wo (fun K hK => ?_) | refine Wq ?_ | refine Wr ?_); (try simp only [go_sem, fN, seval, eT, iR, e3, e4, s37, e5]); (repeat with_reducible refine Ai ?_); (try (refine hK _ ?_; clear hK K))))
    with_reducible refine Wp ?_
    simp only [go_sem, fN, seval, true_implies, false_implies, implies_true, dT, dF, nL]
    (try with_reducible refine iC ?_)
    repeat' (first | (with_reducible first | refine W ?_ | refine Z0 ?_) | ((with_reducible first | refine Wo (fun K hK => ?_) | refine Wq ?_ | refine Wr ?_); (try simp only [go_sem, fN, seval, eT, iR, e3, e4, s37, e5]); (repeat with_reducible refine Ai ?_); (try (refine hK _ ?_; clear hK K))))
    refine then_normal ⟨t.knots.length - (k + 1), by omega, k + 1, by omega, rfl, ?_⟩
    simp only [go_sem, fN, seval, AS.drop, dropS, AC.clears, AC.clear, AC.highs, AC.high, Bool.not_false, Bool.true_and, Bool.and_self, AV.purge, AV.purges, AC.purge, ABlk.purge, List.contains_cons, List.contains_nil, Nat.reduceBEq, Bool.or_self, Bool.or_false, Bool.false_or, Bool.or_true, eT, iR, e3, e4, s37, e5, hstep]
    congr 3
   | false =>
    rw [addVar_yes hv hi] at hstep
    repeat' (first | (with_reducible first | refine W ?_ | refine Z0 ?_) | ((with_reducible first | refine Wo (fun K hK => ?_) | refine Wq ?_ | refine Wr ?_); (try simp only [go_sem, fN, seval, eT, iR, e3, e4, s37, e5]); (repeat with_reducible refine Ai ?_); (try (refine hK _ ?_; clear hK K))))
    with_reducible refine Wp ?_
    simp only [go_sem, fN, seval, true_implies, false_implies, implies_true, dT, dF, nL]
    (try with_reducible refine iC ?_)
    repeat' (first | (with_reducible first | refine W ?_ | refine Z0 ?_) | ((with_reducible first | refine Wo (fun K hK => ?_) | refine Wq ?_ | refine Wr ?_); (try simp only [go_sem, fN, seval, eT, iR, e3, e4, s37, e5, ha]); (repeat with_reducible refine Ai ?_); (try (refine hK _ ?_; clear hK K))))
    refine then_normal ⟨t.knots.length - (k + 1), by omega, k + 1, by omega, rfl, ?_⟩
    simp only [go_sem, fN, seval, AS.drop, dropS, AC.clears, AC.clear, AC.highs, AC.high, Bool.not_false, Bool.true_and, Bool.and_self, AV.purge, AV.purges, AC.purge, ABlk.purge, List.contains_cons, List.contains_nil, Nat.reduceBEq, Bool.or_self, Bool.or_false, Bool.false_or, Bool.or_true, eT, iR, e3, e4, s37, e5, hstep]
    exact ⟨by rw [List.map_append]; rfl, by congr 3⟩
 ·repeat' (first | (with_reducible first | refine W ?_ | refine Z0 ?_) | ((with_reducible first | refine Wo (fun K hK => ?_) | refine Wq ?_ | refine Wr ?_); (try simp only [go_sem, fN, seval, eT, iR, e3, e4, s37, e5, hlt]); (repeat with_reducible refine Ai ?_); (try (refine hK _ ?_; clear hK K))))
  with_reducible refine Wp ?_
  simp only [go_sem, fN, seval, true_implies, false_implies, implies_true, dT, dF, nL, hlt]
  (try with_reducible refine iC ?_)
  repeat' (first | (with_reducible first | refine W ?_ | refine Z0 ?_) | ((with_reducible first | refine Wo (fun K hK => ?_) | refine Wq ?_ | refine Wr ?_); (try simp only [go_sem, fN, seval, eT, iR, e4, s37]); (repeat with_reducible refine Ai ?_); (try (refine hK _ ?_; clear hK K))))
  simp only [go_sem, fN, seval, FinQ, AS.result, resAll, resOne, tupV, e4, s37]
  rw [List.take_of_length_le (by omega)]
  rfl
theorem updE_twice {α : Type} (f : Nat → α) (i : Nat) (a b : α) : updE (updE f i a) i b = updE f i b := by
 funext k
 unfold updE
 split <;> rfl
theorem updE_comm {α : Type} (f : Nat → α) {i j : Nat} (h : ¬ i = j) (a b : α) : updE (updE f i a) j b = updE (updE f j b) i a := by
 funext k
 unfold updE
 split
 ·rename_i e
  subst e
  rw [if_neg (fun e => h e.symm)]
 ·rfl
theorem vars_core (t : Tm) (hz : t.size ≤ 1000000)
  (ih : ∀ a ∈ t.args, ∀ (i : Nat) (l : List ByteArray) (S : AStore), 1000 ≤ i → l.length + a.size ≤ 3000000 → S i = some (.arow 9 1 (l.map encS)) →
   ACallsS Tryz.prog 65 [aTm a, .one (.row i l.length)] S (.one (.row i (addVars l a.knots).length)) (updE S i (some (.arow 9 1 ((addVars l a.knots).map encS)))))
  (C : Ctx) (hC : C.n = 34) (i : Nat) (hi : 20 < i) (l : List ByteArray) (hlz : l.length + t.size ≤ 3000000) (S : AStore) (hS : Clean S) (env : Nat → AV) (e0 : env 0 = aTm t) (e1 : env 1 = .one (.row i l.length))
  (Q : AX → AS → Prop) (hQ : ∀ env', env' 4 = .one (.row i (addVars l t.knots).length) → Q .ret ⟨env', updE (updE S 2 (some (.box 29 [.st (.str t.name), .st (.list (t.args.map encT))]))) i (some (.arow 9 1 ((addVars l t.knots).map encS)))⟩) :
  IWP Tryz.prog C [31] ir_term_vars Q ⟨env, updE S i (some (.arow 9 1 (l.map encS)))⟩ := by
 have hs := Tm.size_eq t
 have hk := Tm.knots_eq t
 have hc2 := clean_none hS (i := 2) (by omega)
 have hc6 := clean_none hS (i := 6) (by omega)
 have hi2 : ¬ 2 = i := by omega
 have hi6 : ¬ 6 = i := by omega
 have hi2' : ¬ i = 2 := by omega
 have hi6' : ¬ i = 6 := by omega
 unfold ir_term_vars
 have hlk : ∀ k, (addVars (addVar l t.name) (Tm.knotsL (t.args.take k))).length ≤ l.length + 1 + Tm.sizes (t.args.take k) := fun k => by
  have h1 := addVars_length (Tm.knotsL (t.args.take k)) (addVar l t.name)
  have h2 := addVar_length l t.name
  have h3 := Tm.knotsL_length (t.args.take k)
  omega
 repeat' (first | (with_reducible first | refine W ?_ | refine Z0 ?_) | ((with_reducible first | refine Wo (fun K hK => ?_) | refine Wq ?_ | refine Wr ?_); (try simp only [go_sem, fN, seval, eT, iR, e0, e1, hc2, hi2, hi6, hi2', hi6']); (repeat with_reducible refine Ai ?_); (try (refine hK _ ?_; clear hK K))))
 refine ⟨_, variable_a _, ?_⟩
 rcases (show isVar t.name = false ∨ (isVar t.name = true ∧ isIn t.name l = true) ∨ (isVar t.name = true ∧ isIn t.name l = false) by cases isVar t.name <;> cases isIn t.name l <;> simp) with hv | ⟨hv, hin⟩ | ⟨hv, hin⟩
 case' inl =>
  have hl1 := addVar_no (l := l) hv
  repeat' (first | (with_reducible first | refine W ?_ | refine Z0 ?_) | ((with_reducible first | refine Wo (fun K hK => ?_) | refine Wq ?_ | refine Wr ?_); (try simp only [go_sem, fN, seval, eT, iR, e0, e1, hv, hi2, hi2']); (repeat with_reducible refine Ai ?_); (try (refine hK _ ?_; clear hK K))))
  with_reducible refine Wp ?_
  simp only [go_sem, fN, seval, true_implies, false_implies, implies_true, dT, dF, nL, hv]
  (try with_reducible refine iC ?_)
  repeat' (first | (with_reducible first | refine W ?_ | refine Z0 ?_) | ((with_reducible first | refine Wo (fun K hK => ?_) | refine Wq ?_ | refine Wr ?_); (try simp only [go_sem, fN, seval, eT, iR, e0, e1, hi2, hi2']); (repeat with_reducible refine Ai ?_); (try (refine hK _ ?_; clear hK K))))
 case' inr.inl =>
  have hl1 := addVar_in (l := l) hin
  repeat' (first | (with_reducible first | refine W ?_ | refine Z0 ?_) | refine Cg _ (contains_a _ _) ?_ | ((with_reducible first | refine Wo (fun K hK => ?_) | refine Wq ?_ | refine Wr ?_); (try simp only [go_sem, fN, seval, eT, iR, e0, e1, hv, hi2, hi2', hin]); (repeat with_reducible refine Ai ?_); (try (refine hK _ ?_; clear hK K))))
  with_reducible refine Wp ?_
  simp only [go_sem, fN, seval, true_implies, false_implies, implies_true, dT, dF, nL, hv]
  (try with_reducible refine iC ?_)
  repeat' (first | (with_reducible first | refine W ?_ | refine Z0 ?_) | ((with_reducible first | refine Wo (fun K hK => ?_) | refine Wq ?_ | refine Wr ?_); (try simp only [go_sem, fN, seval, eT, iR, e0, e1, hi2, hi2']); (repeat with_reducible refine Ai ?_); (try (refine hK _ ?_; clear hK K))))
 case' inr.inr =>
  have hl1 := addVar_yes (l := l) hv hin
  repeat' (first | (with_reducible first | refine W ?_ | refine Z0 ?_) | refine Cg _ (contains_a _ _) ?_ | ((with_reducible first | refine Wo (fun K hK => ?_) | refine Wq ?_ | refine Wr ?_); (try simp only [go_sem, fN, seval, eT, iR, e0, e1, hv, hi2, hi2', hin]); (repeat with_reducible refine Ai ?_); (try (refine hK _ ?_; clear hK K))))
  with_reducible refine Wp ?_
  simp only [go_sem, fN, seval, true_implies, false_implies, implies_true, dT, dF, nL, hv]
  (try with_reducible refine iC ?_)
  repeat' (first | (with_reducible first | refine W ?_ | refine Z0 ?_) | ((with_reducible first | refine Wo (fun K hK => ?_) | refine Wq ?_ | refine Wr ?_); (try simp only [go_sem, fN, seval, eT, iR, e0, e1, hi2, hi2']); (repeat with_reducible refine Ai ?_); (try (refine hK _ ?_; clear hK K))))
 all_goals
  refine IWP.loopD [6] (fun m s => ∃ k, k ≤ t.args.length ∧ m = t.args.length - k ∧ s.env 1 = .one (.row i (addVars (addVar l t.name) (Tm.knotsL (t.args.take k))).length) ∧ s.env 23 = .one (.st (.list (t.args.map encT))) ∧ s.env 24 = aInt t.args.length ∧ s.env 25 = aInt k ∧ s.S = updE (updE S 2 (some (.box 29 [.st (.str t.name), .st (.list (t.args.map encT))]))) i (some (.arow 9 1 ((addVars (addVar l t.name) (Tm.knotsL (t.args.take k))).map encS)))) t.args.length ⟨0, Nat.zero_le _, rfl, ?_, rfl, rfl, rfl, ?_⟩ ?_
  ·show _ = AV.one (.row i (addVar l t.name).length)
   rw [hl1]
   simp only [go_sem, fN, seval, eT, iR, e1]
  ·show _ = updE (updE S 2 _) i (some (.arow 9 1 ((addVar l t.name).map encS)))
   rw [hl1]
   first
    | (simp only [updE_twice]; exact updE_comm _ hi2' _ _)
    | (simp only [updE_comm _ hi2', updE_twice, List.map_append]; rfl)
  rintro m ⟨env', S'⟩ ⟨k, hk', rfl, e1', e23, e24, e25, hS'⟩
  simp only at e1' e23 e24 e25 hS'
  have s6 : S' 6 = none := by rw [hS', updE_ne _ hi6, updE_ne _ (by omega), hc6]
  have si : S' i = some (.arow 9 1 ((addVars (addVar l t.name) (Tm.knotsL (t.args.take k))).map encS)) := by rw [hS', updE_same]
  have hlk' := hlk k
  have z3 := Tm.length_le t.args
  by_cases hlt : (k : Int) < t.args.length
  ·obtain ⟨a, ha⟩ := get_lt (show k < t.args.length by omega)
   have z1 := Tm.sizes_take ha
   have z2 := Tm.sizes_take_le t.args (k + 1)
   repeat' (first | (with_reducible first | refine W ?_ | refine Z0 ?_) | ((with_reducible first | refine Wo (fun K hK => ?_) | refine Wq ?_ | refine Wr ?_); (try simp only [go_sem, fN, seval, eT, iR, e1', e23, e24, e25, s6, si, hlt]); (repeat with_reducible refine Ai ?_); (try (refine hK _ ?_; clear hK K))))
   with_reducible refine Wp ?_
   simp only [go_sem, fN, seval, true_implies, false_implies, implies_true, dT, dF, nL, e1', e23, e24, e25, s6, si, hlt]
   (try with_reducible refine iC ?_)
   repeat' (first | (with_reducible first | refine W ?_ | refine Z0 ?_) | ((with_reducible first | refine Wo (fun K hK => ?_) | refine Wq ?_ | refine Wr ?_); (try simp only [go_sem, fN, seval, eT, iR, e1', e23, e24, e25, s6, si, ha]); (repeat with_reducible refine Ai ?_); (try (refine hK _ ?_; clear hK K))))
   have hni : ([6] : List Nat).contains i = false := by simp; omega
   refine ⟨_, _, ih a (mem_of_get ha) (up1 i) _ _ (up1_le i) (by omega) (by rw [upS_up, updE_ne _ hi6', updE_ne _ hi6', si]; rfl), ?_⟩
   repeat' (first | (with_reducible first | refine W ?_ | refine Z0 ?_) | ((with_reducible first | refine Wo (fun K hK => ?_) | refine Wq ?_ | refine Wr ?_); (try simp only [go_sem, fN, seval, eT, iR, e23, e24, e25]); (repeat with_reducible refine Ai ?_); (try (refine hK _ ?_; clear hK K))))
   refine then_normal ⟨t.args.length - (k + 1), by omega, k + 1, by omega, rfl, ?_⟩
   have hib : (i == 6) = false := by simp; omega
   simp only [go_sem, fN, seval, AS.drop, AC.clears, AC.clear, AC.highs, AC.high, Bool.not_false, Bool.true_and, Bool.and_self, AV.purge, AV.purges, AC.purge, ABlk.purge, List.contains_cons, List.contains_nil, Nat.reduceBEq, Bool.or_self, Bool.or_false, Bool.false_or, Bool.or_true, eT, iR, e23, e24, hib]
   rw [Tm.knotsL_take ha, addVars_append]
   refine ⟨rfl, by congr 3, ?_⟩
   rw [dropS_out hni, dropS_in rfl, dropS_in rfl, hS', dropS_out hni, dropS_out rfl, dropS_clean (by decide) hS, updE_twice]
   rfl
  ·repeat' (first | (with_reducible first | refine W ?_ | refine Z0 ?_) | ((with_reducible first | refine Wo (fun K hK => ?_) | refine Wq ?_ | refine Wr ?_); (try simp only [go_sem, fN, seval, eT, iR, e1', e23, e24, e25, hlt]); (repeat with_reducible refine Ai ?_); (try (refine hK _ ?_; clear hK K))))
   with_reducible refine Wp ?_
   simp only [go_sem, fN, seval, true_implies, false_implies, implies_true, dT, dF, nL, e1', e23, e24, e25, hlt]
   (try with_reducible refine iC ?_)
   repeat' (first | (with_reducible first | refine W ?_ | refine Z0 ?_) | ((with_reducible first | refine Wo (fun K hK => ?_) | refine Wq ?_ | refine Wr ?_); (try simp only [go_sem, fN, seval, eT, iR, e1']); (repeat with_reducible refine Ai ?_); (try (refine hK _ ?_; clear hK K))))
   rw [hS']
   have hfin : addVars (addVar l t.name) (Tm.knotsL (t.args.take k)) = addVars l t.knots := by rw [List.take_of_length_le (by omega), hk]; rfl
   rw [hfin]
   refine hQ _ ?_
   simp only [go_sem, fN, seval, eT, iR]
theorem updE_self {α : Type} {f : Nat → α} {i : Nat} {a : α} (h : f i = a) : updE f i a = f := by
 funext k
 unfold updE
 split
 ·rename_i e
  rw [e, h]
 ·rfl
theorem vars_row (t : Tm) (hz : t.size ≤ 1000000) : ∀ (i : Nat) (l : List ByteArray) (S : AStore), 1000 ≤ i → l.length + t.size ≤ 3000000 → S i = some (.arow 9 1 (l.map encS)) →
   ACallsS Tryz.prog 65 [aTm t, .one (.row i l.length)] S (.one (.row i (addVars l t.knots).length)) (updE S i (some (.arow 9 1 ((addVars l t.knots).map encS)))) := by
 induction h : SizeOf.sizeOf t using Nat.strongRecOn generalizing t with
 | _ N ih =>
 subst h
 have hs := Tm.size_eq t
 intro i l S hi hl hSi
 refine ok_term_vars.acS fun hS C hC => ?_
 have hcore := vars_core t hz (fun a ha => ih _ (Tm.lt_of_arg ha) a (by have := Tm.size_mem ha; omega) rfl) C hC i (by omega) l hl S hS (fun j => ([aTm t, .one (.row i l.length)][j]?).getD (.tup [])) rfl rfl
  (FinS C [.t 4] (.one (.row i (addVars l t.knots).length)) (updE S i (some (.arow 9 1 ((addVars l t.knots).map encS))))) ?_
 ·rw [updE_self hSi] at hcore
  exact hcore
 ·intro env' e4
  have hc' : Clean (updE S i (some (.arow 9 1 ((addVars l t.knots).map encS)))) := clean_upd hS hi rfl
  refine finS_at trivial ⟨_, Ghost.low (high_upd (high_updL (by omega) fun k c _ hk => (hS k c hk).2) rfl), ?_, ?_, hc'⟩
  ·simp only [resAll, resOne, tupV, e4, AV.low, AV.high, AC.high, hi, decide_true, if_true, Option.map_some]
  ·show lowS _ = _
   rw [lowS_high _ hi, lowS_low _ (by omega), lowS_clean hS]
theorem vars_nil (t : Tm) (hz : t.size ≤ 1000000) (a0 : Nat) (S : AStore) (ha : 1000 ≤ a0) (hSa : S a0 = none) :
   ACallsS Tryz.prog 65 [aTm t, .one (.full [])] S (.one (.row a0 (addVars [] t.knots).length)) (updE S a0 (some (.arow 9 1 ((addVars [] t.knots).map encS)))) := by
 have hs := Tm.size_eq t
 refine ok_term_vars.acS fun hS C hC => ?_
 refine IWP.ghost (Ghost.own 1 21 9 1 (xs := ([] : List ByteArray).map encS) rfl (clean_none hS (by omega)) lens_encS (by omega)) ?_
 refine vars_core t hz (fun a ha => vars_row a (by have := Tm.size_mem ha; omega)) C hC 21 (by omega) [] (by simp; omega) S hS _ rfl rfl _ ?_
 intro env' e4
 have hb : ∀ i b, 1000 ≤ i → updE (updE S 2 (some (.box 29 [.st (.str t.name), .st (.list (t.args.map encT))]))) 21 (some (.arow 9 1 ((addVars [] t.knots).map encS))) i = some b → b.high = true := high_updL (by omega) (high_updL (by omega) fun k c _ hk => (hS k c hk).2)
 refine finS_at trivial ⟨_, Ghost.hand 21 a0 (b0 := .arow 9 1 ((addVars [] t.knots).map encS)) (by omega) ha (by show updE _ _ _ _ = _; rw [updE_ne _ (by omega), updE_ne _ (by omega), hSa]) (by simp only [updE_same]) rfl hb, ?_, ?_, clean_upd hS ha rfl⟩
 ·simp only [resAll, resOne, tupV, e4, AV.hand, AV.ren, AC.ren, oneTo, if_true, AV.high, AC.high, ha, decide_true, Option.map_some]
 ·show updE (lowS _) _ _ = _
  rw [lowS_low _ (by omega), lowS_low _ (by omega), lowS_clean hS]
theorem vars_a (t : Tm) (hz : t.size ≤ 1000000) : ACalls Tryz.prog 41 [aTm t] (aStrs t.varsOf) := by
 refine ok_term_Vars.ac fun C hC => ?_
 unfold ir_term_Vars
 repeat' (first | (with_reducible first | refine W ?_ | refine Z0 ?_) | ((with_reducible first | refine Wo (fun K hK => ?_) | refine Wq ?_ | refine Wr ?_); (try simp only [go_sem, fN, seval, eT, iR]); (repeat with_reducible refine Ai ?_); (try (refine hK _ ?_; clear hK K))))
 refine ⟨_, _, vars_nil t hz (up1 10) _ (up1_le 10) (by rw [upS_up]; rfl), ?_⟩
 repeat' (first | (with_reducible first | refine W ?_ | refine Z0 ?_) | ((with_reducible first | refine Wo (fun K hK => ?_) | refine Wq ?_ | refine Wr ?_); (try simp only [go_sem, fN, seval, eT, iR]); (repeat with_reducible refine Ai ?_); (try (refine hK _ ?_; clear hK K))))
 simp only [go_sem, fN, seval, FinQ, AS.result, resAll, resOne, tupV]
 rfl
theorem copy_a (t : Tm) (hz : t.size ≤ 1000000) : ACalls Tryz.prog 72 [aTm t] (aTm t) := by
 induction h : SizeOf.sizeOf t using Nat.strongRecOn generalizing t with
 | _ N ih =>
 subst h
 have hs := Tm.size_eq t
 have hkn := Tm.length_le t.args
 refine ok_term_Copy.ac fun C hC => ?_
 unfold ir_term_Copy
 repeat' (first | (with_reducible first | refine W ?_ | refine Z0 ?_) | ((with_reducible first | refine Wo (fun K hK => ?_) | refine Wq ?_ | refine Wr ?_); (try simp only [go_sem, fN, seval, eT, iR]); (repeat with_reducible refine Ai ?_); (try (refine hK _ ?_; clear hK K))))
 refine IWP.ghost (Ghost.ownC 3 1 21 29 2 (xs := ([] : List Tm).map encT) rfl rfl rfl lens_encT) ?_
 refine IWP.loopD [5] (fun m s => ∃ k, k ≤ t.args.length ∧ m = t.args.length - k ∧ s.env 2 = .one (.ptr 2 1 0 0) ∧ s.env 3 = .one (.ptr 3 1 0 0) ∧ s.S 2 = some (.box 29 [.st (.str ⟨#[]⟩), .full []]) ∧ s.S 3 = some (.box 29 [.st (.str t.name), .row 21 k]) ∧ s.S 21 = some (.arow 29 2 ((t.args.take k).map encT)) ∧ s.env 10 = .one (.st (.list (t.args.map encT))) ∧ s.env 11 = aInt t.args.length ∧ s.env 12 = aInt k ∧ s.S 5 = none)
  t.args.length ⟨0, Nat.zero_le _, rfl, rfl, rfl, rfl, rfl, rfl, rfl, rfl, rfl, rfl⟩ ?_
 rintro m ⟨env, S⟩ ⟨k, hk, rfl, e2, e3, s2, s3, s21, e10, e11, e12, s5⟩
 simp only at e2 e3 s2 s3 s21 e10 e11 e12 s5
 have hlk : (t.args.take k).length = k := by rw [List.length_take]; omega
 by_cases hlt : (k : Int) < t.args.length
 ·obtain ⟨a, ha⟩ := get_lt (show k < t.args.length by omega)
  repeat' (first | (with_reducible first | refine W ?_ | refine Z0 ?_) | ((with_reducible first | refine Wo (fun K hK => ?_) | refine Wq ?_ | refine Wr ?_); (try simp only [go_sem, fN, seval, eT, iR, e2, e3, s2, s3, s21, e10, e11, e12, s5, hlt]); (repeat with_reducible refine Ai ?_); (try (refine hK _ ?_; clear hK K))))
  with_reducible refine Wp ?_
  simp only [go_sem, fN, seval, true_implies, false_implies, implies_true, dT, dF, nL, e10, e11, e12, hlt]
  (try with_reducible refine iC ?_)
  repeat' (first | (with_reducible first | refine W ?_ | refine Z0 ?_) | refine Cg _ (ih _ (Tm.lt_of_arg (mem_of_get ha)) a (by have := Tm.size_mem (mem_of_get ha); omega) rfl) ?_ | ((with_reducible first | refine Wo (fun K hK => ?_) | refine Wq ?_ | refine Wr ?_); (try simp only [go_sem, fN, seval, eT, iR, e2, e3, s2, s3, s21, e10, e11, e12, s5, ha, hlk]); (repeat with_reducible refine Ai ?_); (try (refine hK _ ?_; clear hK K))))
  refine then_normal ⟨t.args.length - (k + 1), by omega, k + 1, by omega, rfl, ?_⟩
  simp only [go_sem, fN, seval, AS.drop, dropS, AC.clears, AC.clear, AC.highs, AC.high, Bool.not_false, Bool.true_and, Bool.and_self, AV.purge, AV.purges, AC.purge, ABlk.purge, List.contains_cons, List.contains_nil, Nat.reduceBEq, Bool.or_self, Bool.or_false, Bool.false_or, Bool.or_true, eT, iR, e2, e3, s2, s3, s21, e10, e11, e12, s5]
  exact ⟨by rw [take_snoc ha]; simp [encT_eq], by congr 3⟩
 ·repeat' (first | (with_reducible first | refine W ?_ | refine Z0 ?_) | ((with_reducible first | refine Wo (fun K hK => ?_) | refine Wq ?_ | refine Wr ?_); (try simp only [go_sem, fN, seval, eT, iR, e2, e3, s2, s3, s21, e10, e11, e12, s5, hlt]); (repeat with_reducible refine Ai ?_); (try (refine hK _ ?_; clear hK K))))
  with_reducible refine Wp ?_
  simp only [go_sem, fN, seval, true_implies, false_implies, implies_true, dT, dF, nL, e10, e11, e12, hlt]
  (try with_reducible refine iC ?_)
  repeat' (first | (with_reducible first | refine W ?_ | refine Z0 ?_) | ((with_reducible first | refine Wo (fun K hK => ?_) | refine Wq ?_ | refine Wr ?_); (try simp only [go_sem, fN, seval, eT, iR, e2, e3, s2, s3, s21, e10, e11, e12, s5]); (repeat with_reducible refine Ai ?_); (try (refine hK _ ?_; clear hK K))))
  have hall : t.args.take k = t.args := List.take_of_length_le (by omega)
  rw [hall] at hlk s21
  simp only [go_sem, fN, seval, FinQ, AS.result, resAll, resOne, tupV, e2, s2, s21, hlk]

def digV (l : List UInt8) : Nat := l.foldl (fun v d => v * 10 + (d.toNat - 48)) 0
theorem digV_snoc (l : List UInt8) (d : UInt8) : digV (l ++ [d]) = digV l * 10 + (d.toNat - 48) := by unfold digV; rw [List.foldl_append]; rfl
theorem dig_one {k : Nat} (h : k < 10) : (UInt8.ofNat (48 + k)).toNat - 48 = k := by
 rw [UInt8.toNat_ofNat_of_lt' (by show _ < 256; omega)]
 omega
theorem digV_dec (u : Nat) : digV (Lib.decDigits u) = u := by
 induction u using Nat.strongRecOn with
 | _ u ih =>
  by_cases h : u < 10
  ·rw [Lib.decDigits, dif_pos h]
   show 0 * 10 + _ = u
   rw [dig_one h]
   omega
  ·rw [Lib.decDigits, dif_neg h, digV_snoc, ih _ (by omega), dig_one (Nat.mod_lt _ (by omega))]
   omega
def decS (n : Nat) : ByteArray := ⟨(Lib.decDigits n).toArray⟩
theorem decS_small {n : Nat} (h : n < 10) : decS n = ⟨#[UInt8.ofNat (48 + n)]⟩ := by unfold decS; rw [Lib.decDigits, dif_pos h]
theorem decS_big {n : Nat} (h : ¬ n < 10) : decS n = decS (n / 10) ++ decS (n % 10) := by
 rw [decS_small (n := n % 10) (Nat.mod_lt _ (by omega))]
 unfold decS
 conv => lhs; rw [Lib.decDigits, dif_neg h]
 apply ByteArray.ext
 simp
def zName (k : Nat) : ByteArray := ⟨#[90]⟩ ++ decS (k + 1)
def zLeaf (k : Nat) : Tm := .mk (zName k) []
theorem zName_list (k : Nat) : (zName k).data.toList = 90 :: Lib.decDigits (k + 1) := by
 unfold zName decS
 simp
theorem nDig_le {u k : Nat} (h : u < 10 ^ k) (hk : 1 ≤ k) : Lib.nDigits u ≤ k := by
 induction k generalizing u with
 | zero => omega
 | succ k ih =>
  by_cases h1 : u < 10
  ·rw [Lib.nDigits_small h1]; omega
  ·rw [Lib.nDigits_big h1]
   have : 1 ≤ k := by
    rcases Nat.eq_zero_or_pos k with h0 | h0
    ·subst h0; rw [Nat.zero_add, Nat.pow_one] at h; omega
    ·exact h0
   have := ih (u := u / 10) (by rw [Nat.pow_succ] at h; omega) this
   omega
theorem decS_size (n : Nat) : (decS n).size = Lib.nDigits n := by
 show (Lib.decDigits n).toArray.size = _
 rw [List.size_toArray, Lib.decDigits_length]
theorem decS_size_le {n : Nat} (h : n < 1000000) : (decS n).size ≤ 6 := by rw [decS_size]; exact nDig_le (k := 6) (by omega) (by omega)
theorem digits_letters (u : Nat) : ∀ d ∈ Lib.decDigits u, 48 ≤ d.toNat ∧ d.toNat ≤ 57 := by
 induction u using Nat.strongRecOn with
 | _ u ih =>
  by_cases h : u < 10
  ·rw [Lib.decDigits, dif_pos h]
   intro d hd
   rw [List.mem_singleton] at hd
   subst hd
   rw [UInt8.toNat_ofNat_of_lt' (by show _ < 256; omega)]
   omega
  ·rw [Lib.decDigits, dif_neg h]
   intro d hd
   rcases List.mem_append.1 hd with hd | hd
   ·exact ih _ (by omega) d hd
   ·rw [List.mem_singleton] at hd
    subst hd
    rw [UInt8.toNat_ofNat_of_lt' (by show _ < 256; omega)]
    omega
theorem zName_at (k : Nat) : byteAt (zName k) 0 = 90 := by
 unfold byteAt
 rw [zName_list]
 rfl
theorem zName_size (k : Nat) : (zName k).size = 1 + Lib.nDigits (k + 1) := by
 have : (zName k).size = (zName k).data.toList.length := by
  show (zName k).data.size = _
  rw [Array.length_toList]
 rw [this, zName_list, List.length_cons, Lib.decDigits_length]
 omega
theorem zName_ok {k : Nat} (h : k + 1 < 1000000) : nameOk (zName k) = true := by
 have h6 := nDig_le (u := k + 1) (k := 6) (by omega) (by omega)
 unfold nameOk
 rw [zName_at, zName_size, decide_eq_true (show 1 ≤ 1 + Lib.nDigits (k + 1) by omega), decide_eq_true (show 1 + Lib.nDigits (k + 1) ≤ 8 by omega)]
 have : lettersTo (zName k) (1 + Lib.nDigits (k + 1)) = true := by
  unfold lettersTo
  rw [zName_list]
  refine List.all_eq_true.2 fun c hc => ?_
  have hc := List.mem_of_mem_take hc
  rcases List.mem_cons.1 hc with rfl | hc
  ·decide
  ·have := digits_letters _ c hc
   unfold letterI
   rw [decide_eq_true (show 48 ≤ (c.toNat : Int) ∧ (c.toNat : Int) ≤ 57 by omega), Bool.or_true]
 rw [this]
 decide
theorem zLeaf_chk {k : Nat} (h : k + 1 < 1000000) : (zLeaf k).chk = 0 := leaf_chk (zName_ok h)
def headEq (n : ByteArray) (xs : List Tm) (b : Tm) : Prop := isVar n = false ∧ n = b.name ∧ xs.length = b.args.length
instance (n : ByteArray) (xs : List Tm) (b : Tm) : Decidable (headEq n xs b) := by unfold headEq; infer_instance
def Goes (l m : List Pr) : Prop := ∃ r, m = l ++ r
theorem Goes.refl (l : List Pr) : Goes l l := ⟨[], by simp⟩
theorem Goes.trans {a b c : List Pr} (h : Goes a b) (k : Goes b c) : Goes a c := by
 obtain ⟨r, rfl⟩ := h
 obtain ⟨q, rfl⟩ := k
 exact ⟨r ++ q, by simp⟩


def posN : List ByteArray → ByteArray → Nat
 | [], _ => 0
 | x :: l, n => if x = n then 0 else posN l n + 1
def addN (l : List ByteArray) (n : ByteArray) : List ByteArray := if posN l n < l.length then l else l ++ [n]
theorem posN_le (l : List ByteArray) (n : ByteArray) : posN l n ≤ l.length := by
 induction l with
 | nil => exact Nat.le_refl _
 | cons p l ih => rw [posN]; split <;> simp; omega
theorem posN_iff {l : List ByteArray} {n : ByteArray} : posN l n < l.length ↔ n ∈ l := by
 induction l with
 | nil => simp [posN]
 | cons x l ih =>
  rw [posN]
  by_cases e : x = n
  ·rw [if_pos e]; simp [e]
  ·rw [if_neg e, List.length_cons, List.mem_cons]
   constructor
   ·intro h; exact .inr (ih.1 (by omega))
   ·rintro (h | h)
    ·exact absurd h.symm e
    ·have := ih.2 h; omega
theorem posN_append {l m : List ByteArray} {n : ByteArray} (h : posN l n < l.length) : posN (l ++ m) n = posN l n := by
 induction l with
 | nil => simp [posN] at h
 | cons x l ih =>
  rw [posN] at h
  rw [List.cons_append, posN, posN]
  by_cases e : x = n
  ·rw [if_pos e, if_pos e]
  ·rw [if_neg e] at h
   rw [if_neg e, if_neg e, ih (by simpa using h)]
theorem posN_snoc {l : List ByteArray} {n : ByteArray} (h : ¬ posN l n < l.length) : posN (l ++ [n]) n = l.length := by
 induction l with
 | nil => simp [posN]
 | cons x l ih =>
  rw [posN] at h
  rw [List.cons_append, posN]
  by_cases e : x = n
  ·rw [if_pos e] at h; simp at h
  ·rw [if_neg e] at h
   rw [if_neg e, ih (by simpa using h), List.length_cons]
theorem addN_var {l : List ByteArray} {n : ByteArray} (hv : isVar n = true) : addN l n = addVar l n := by
 unfold addN
 by_cases h : n ∈ l
 ·rw [if_pos (posN_iff.2 h), addVar_in (isIn_iff.2 h)]
 ·rw [if_neg (fun k => h (posN_iff.1 k)), addVar_yes hv (isIn_no.2 h)]
mutual
def Tm.cn : Tm → List ByteArray → Tm × List ByteArray
 | .mk n xs, l => if isVar n = true then (zLeaf (posN l n), addN l n) else (.mk n (Tm.cnL xs l).1, (Tm.cnL xs l).2)
def Tm.cnL : List Tm → List ByteArray → List Tm × List ByteArray
 | [], l => ([], l)
 | x :: xs, l => ((x.cn l).1 :: (Tm.cnL xs (x.cn l).2).1, (Tm.cnL xs (x.cn l).2).2)
end
theorem cn_var {t : Tm} {l : List ByteArray} (h : isVar t.name = true) : t.cn l = (zLeaf (posN l t.name), addN l t.name) := by
 cases t with
 | mk n xs =>
  have h : isVar n = true := h
  rw [Tm.cn, if_pos h]
  rfl
theorem cn_knot {t : Tm} {l : List ByteArray} (h : isVar t.name = false) : t.cn l = (.mk t.name (Tm.cnL t.args l).1, (Tm.cnL t.args l).2) := by
 cases t with
 | mk n xs =>
  have h : isVar n = false := h
  rw [Tm.cn, if_neg (by rw [h]; simp)]
  rfl
theorem cnL_append : ∀ (xs ys : List Tm) (l : List ByteArray), Tm.cnL (xs ++ ys) l = ((Tm.cnL xs l).1 ++ (Tm.cnL ys (Tm.cnL xs l).2).1, (Tm.cnL ys (Tm.cnL xs l).2).2)
 | [], ys, l => by simp [Tm.cnL]
 | x :: xs, ys, l => by
  simp only [List.cons_append, Tm.cnL]
  rw [cnL_append xs ys]
theorem cnL_take {xs : List Tm} {k : Nat} {x : Tm} {l : List ByteArray} (hx : xs[k]? = some x) : Tm.cnL (xs.take (k + 1)) l = ((Tm.cnL (xs.take k) l).1 ++ [(x.cn (Tm.cnL (xs.take k) l).2).1], (x.cn (Tm.cnL (xs.take k) l).2).2) := by
 rw [take_snoc hx, cnL_append]
 simp [Tm.cnL]
theorem cnL_len : ∀ (xs : List Tm) (l : List ByteArray), (Tm.cnL xs l).1.length = xs.length
 | [], l => rfl
 | x :: xs, l => by simp only [Tm.cnL, List.length_cons]; rw [cnL_len xs]
def zNames (k : Nat) : List ByteArray → List Bd
 | [] => []
 | n :: l => (n, zLeaf k) :: zNames (k + 1) l
theorem zNames_lookup : ∀ (l : List ByteArray) (k : Nat) (n : ByteArray), lookup (zNames k l) n = if posN l n < l.length then some (zLeaf (k + posN l n)) else none
 | [], k, n => by simp [zNames, lookup_nil, posN]
 | x :: l, k, n => by
  rw [zNames, lookup_cons, posN]
  by_cases e : x = n
  ·rw [if_pos e, if_pos e]
   simp
  ·rw [if_neg e, if_neg e, zNames_lookup l (k + 1) n, List.length_cons]
   by_cases h : posN l n < l.length
   ·rw [if_pos h, if_pos (by omega)]
    congr 2
    omega
   ·rw [if_neg h, if_neg (by omega)]
theorem zNames_snoc : ∀ (l : List ByteArray) (k : Nat) (n : ByteArray), zNames k (l ++ [n]) = zNames k l ++ [(n, zLeaf (k + l.length))]
 | [], k, n => by simp [zNames]
 | x :: l, k, n => by
  rw [List.cons_append, zNames, zNames_snoc l (k + 1) n, zNames, List.cons_append, List.length_cons, show k + 1 + l.length = k + (l.length + 1) by omega]
theorem zNames_len : ∀ (l : List ByteArray) (k : Nat), (zNames k l).length = l.length
 | [], _ => rfl
 | n :: l, k => by rw [zNames, List.length_cons, List.length_cons, zNames_len l]
def GoesN (l m : List ByteArray) : Prop := ∃ r, m = l ++ r
theorem GoesN.trans {a b c : List ByteArray} (h : GoesN a b) (k : GoesN b c) : GoesN a c := by
 obtain ⟨r, rfl⟩ := h
 obtain ⟨q, rfl⟩ := k
 exact ⟨r ++ q, by simp⟩
theorem goesN_add (l : List ByteArray) (n : ByteArray) : GoesN l (addN l n) := by
 unfold addN
 split
 ·exact ⟨[], by simp⟩
 ·exact ⟨_, rfl⟩
mutual
theorem cn_goes : ∀ (t : Tm) (l : List ByteArray), GoesN l (t.cn l).2
 | .mk n xs, l => by
  rw [Tm.cn]
  split
  ·exact goesN_add l n
  ·exact cnL_goes xs l
theorem cnL_goes : ∀ (xs : List Tm) (l : List ByteArray), GoesN l (Tm.cnL xs l).2
 | [], l => ⟨[], by simp [Tm.cnL]⟩
 | x :: xs, l => by
  simp only [Tm.cnL]
  exact (cn_goes x l).trans (cnL_goes xs _)
end
theorem goesN_pos {l m : List ByteArray} {n : ByteArray} (hg : GoesN (addN l n) m) : posN m n = posN l n ∧ posN m n < m.length := by
 obtain ⟨r, rfl⟩ := hg
 unfold addN
 by_cases h : posN l n < l.length
 ·rw [if_pos h, posN_append h, List.length_append]
  exact ⟨rfl, by omega⟩
 ·rw [if_neg h, posN_append (by rw [posN_snoc h]; simp), posN_snoc h]
  have := posN_le l n
  refine ⟨by omega, by rw [List.length_append, List.length_append, List.length_singleton]; omega⟩
mutual
theorem cn_names : ∀ (t : Tm), t.chk = 0 → ∀ l, (t.cn l).2 = addVars l t.knots
 | .mk n xs, hc, l => by
  obtain ⟨c1, c2⟩ := Tm.chk_args hc
  simp only [Tm.name_mk, Tm.args_mk] at c1 c2
  have hk : addVars l (Tm.mk n xs).knots = addVars (addVar l n) (Tm.knotsL xs) := rfl
  rw [hk, Tm.cn]
  cases hv : isVar n with
  | true =>
   have h0 := c1 hv
   subst h0
   rw [if_pos rfl]
   exact addN_var hv
  | false =>
   rw [if_neg (by simp), addVar_no hv]
   exact cnL_names xs c2 l
theorem cnL_names : ∀ (xs : List Tm), (∀ x ∈ xs, x.chk = 0) → ∀ l, (Tm.cnL xs l).2 = addVars l (Tm.knotsL xs)
 | [], _, l => rfl
 | x :: xs, hc, l => by
  simp only [Tm.cnL]
  rw [cnL_names xs (fun a ha => hc a (by simp [ha])), cn_names x (hc x (by simp)), Tm.knotsL, addVars_append]
end
mutual
theorem cn_on : ∀ (t : Tm), t.chk = 0 → ∀ l m, (∀ n ∈ m, isVar n = true) → GoesN (t.cn l).2 m → (t.cn l).1 = t.on (zNames 0 m)
 | .mk n xs, hc, l, m, hm, hg => by
  obtain ⟨c1, c2⟩ := Tm.chk_args hc
  simp only [Tm.name_mk, Tm.args_mk] at c1 c2
  rw [Tm.cn] at hg ⊢
  cases hv : isVar n with
  | true =>
   have h0 := c1 hv
   subst h0
   rw [hv, if_pos rfl] at hg
   rw [if_pos rfl]
   obtain ⟨p1, p2⟩ := goesN_pos (show GoesN (addN l n) m from hg)
   rw [Tm.on_leaf (t := .mk n []) (x := zLeaf (posN l n)) (by rw [Tm.name_mk, zNames_lookup, if_pos p2, p1, Nat.zero_add]) rfl]
  | false =>
   rw [hv, if_neg (by simp)] at hg
   rw [if_neg (by simp)]
   have hl : lookup (zNames 0 m) n = none := by
    rw [zNames_lookup, if_neg]
    intro h
    have := hm n (posN_iff.1 h)
    rw [hv] at this
    cases this
   rw [Tm.on_knot (t := .mk n xs) (.inl hl), Tm.name_mk, Tm.args_mk, cnL_on xs c2 l m hm hg]
theorem cnL_on : ∀ (xs : List Tm), (∀ x ∈ xs, x.chk = 0) → ∀ l m, (∀ n ∈ m, isVar n = true) → GoesN (Tm.cnL xs l).2 m → (Tm.cnL xs l).1 = xs.map (Tm.on (zNames 0 m))
 | [], _, l, m, _, _ => rfl
 | x :: xs, hc, l, m, hm, hg => by
  simp only [Tm.cnL] at hg ⊢
  rw [List.map_cons, cn_on x (hc x (by simp)) l m hm ((cnL_goes xs _).trans hg), cnL_on xs (fun a ha => hc a (by simp [ha])) _ m hm hg]
end
theorem addN_len (l : List ByteArray) (n : ByteArray) : (addN l n).length ≤ l.length + 1 := by unfold addN; split <;> simp
mutual
theorem cn_names_len : ∀ (t : Tm) (l : List ByteArray), (t.cn l).2.length ≤ l.length + t.size
 | .mk n xs, l => by
  rw [Tm.cn, Tm.size]
  split
  ·have := addN_len l n
   show (addN l n).length ≤ _
   omega
  ·have := cnL_names_len xs l
   show (Tm.cnL xs l).2.length ≤ _
   omega
theorem cnL_names_len : ∀ (xs : List Tm) (l : List ByteArray), (Tm.cnL xs l).2.length ≤ l.length + Tm.sizes xs
 | [], l => by simp [Tm.cnL]
 | x :: xs, l => by
  simp only [Tm.cnL, Tm.sizes]
  have h1 := cn_names_len x l
  have h2 := cnL_names_len xs (x.cn l).2
  omega
end
theorem addVars_vars (ks : List Tm) : ∀ l : List ByteArray, (∀ n ∈ l, isVar n = true) → ∀ n ∈ addVars l ks, isVar n = true := by
 induction ks with
 | nil => exact fun l h => h
 | cons k ks ih =>
  intro l h
  have e : addVars l (k :: ks) = addVars (addVar l k.name) ks := rfl
  rw [e]
  refine ih _ fun n hn => ?_
  unfold addVar at hn
  split at hn
  ·rename_i h1
   rcases List.mem_append.1 hn with h2 | h2
   ·exact h n h2
   ·rw [List.mem_singleton.1 h2]
    rw [Bool.and_eq_true] at h1
    exact h1.1
  ·exact h n hn
theorem varsOf_vars (t : Tm) : ∀ n ∈ t.varsOf, isVar n = true := addVars_vars _ [] (by simp)
theorem addVars_nodup (ks : List Tm) : ∀ l : List ByteArray, l.Nodup → (addVars l ks).Nodup := by
 induction ks with
 | nil => exact fun l h => h
 | cons k ks ih =>
  intro l h
  have e : addVars l (k :: ks) = addVars (addVar l k.name) ks := rfl
  rw [e]
  refine ih _ ?_
  unfold addVar
  split
  ·rename_i h1
   rw [Bool.and_eq_true, Bool.not_eq_true'] at h1
   have h2 := isIn_no.1 h1.2
   rw [List.nodup_append]
   exact ⟨h, by simp, fun a ha b hb e => h2 (by rw [List.mem_singleton.1 hb] at e; rw [← e]; exact ha)⟩
  ·exact h
theorem varsOf_nodup (t : Tm) : t.varsOf.Nodup := addVars_nodup _ [] List.nodup_nil

end Go.Proofs.YtgepacmabaaohaaGreatDoor
