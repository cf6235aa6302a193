/-
  Part 8 of the texts. Conditions: none.
-/
import Derived.Test.YtbknconogoegaaaASA7
import Derived.Sort.Walk0
import Derived.Lib.FrozenHead2
import Derived.Lib.OthersKept
import Derived.Shelf.Strings.BuilderK
namespace Go.Proofs.Ytbknconogoegaaa
open Go Go.RowKit
set_option maxRecDepth 100000
def EH : IR :=
 (.seq (.ops [.i 3 (.box 25 (.t 0)), .i 6 (.mov (.c (.one (.st (.int .u64 0)))))]) (.seq (.ops [.i 7 (.mov (.c (.one (.st (.int .u64 0)))))]) (.seq (.seq (.ops [.f 13 1 3, .l 14 13, .i 15 (.len false (.t 14)), .i 16 (.mov (.n 0))]) (.block 0 (.loop (.seq (.ops [.i 17 (.bin .lss (.t 16) (.t 15))]) (.seq (.cond (.t 17) .skip (.exit 0)) (.seq (.block 1 (.seq (.ops [.i 18 (.indexAddr 3 (.t 14) (.t 16)), .L 19 3 18, .i 9 (.alloc 50 [.st (.str (ByteArray.mk (#[]))), .full [], .st (.int .i64 0)]), .s 3 9 19]) (.seq (.seq (.ops [.f 20 0 9, .l 21 20, .m 22 1, .i 23 (.bin .neq (.t 21) (.t 22)), .m 24 23, .mk (some 25) (some (24, false)) (.fieldAddr 1 (.t 9)) .no, .mk (some 26) (some (24, false)) (.load false 1 (.t 25)) .no, .mk (some 27) (some (24, false)) (.len false (.t 26)) .no, .mk (some 28) (some (24, false)) (.mov (.t 2)) .no, .mk (some 29) (some (24, false)) (.len false (.t 28)) .no, .mk (some 30) (some (24, false)) (.bin .neq (.t 27) (.t 29)) .no, .i 31 (.pick (.t 24) (.c (.one (.st (.bool true)))) (.t 30))]) (.cond (.t 31) (.exit 1) .skip)) (.seq (.ops [.i 10 (.mov (.c (.one (.st (.bool true)))))]) (.seq (.seq (.ops [.f 32 1 9, .l 33 32, .i 34 (.len false (.t 33)), .i 35 (.mov (.n 0))]) (.block 2 (.loop (.seq (.ops [.i 36 (.bin .lss (.t 35) (.t 34))]) (.seq (.cond (.t 36) .skip (.exit 2)) (.seq (.block 3 (.seq (.ops [.m 37 35, .i 38 (.indexAddr 1 (.t 33) (.t 35)), .l 39 38, .m 11 37, .m 12 39]) (.ops [.m 40 10, .m 41 40, .mk (some 42) (some (41, true)) (.mov (.t 2)) .no, .mk (some 43) (some (41, true)) (.mov (.t 11)) .no, .mk (some 44) (some (41, true)) (.indexAddr 1 (.t 42) (.t 43)) .no, .mk (some 45) (some (41, true)) (.load false 1 (.t 44)) .no, .mk (some 46) (some (41, true)) (.mov (.t 12)) .no, .mk (some 47) (some (41, true)) (.bits .shr (.t 45) (.t 46)) .no, .mk (some 48) (some (41, true)) (.bits .and (.t 47) (.c (.one (.st (.int .u64 1))))) .no, .mk (some 49) (some (41, true)) (.bin .eql (.t 48) (.c (.one (.st (.int .u64 1))))) .no, .i 50 (.pick (.t 41) (.t 49) (.c (.one (.st (.bool false))))), .m 10 50]))) (.ops [.i 51 (.bin .add (.t 35) (.n 1)), .m 35 51]))))))) (.seq (.ops [.m 52 10]) (.cond (.t 52) (.ops [.m 53 7, .f 54 2 9, .l 55 54, .i 56 (.bits .shl (.c (.one (.st (.int .u64 1)))) (.t 55)), .i 57 (.bits .or (.t 53) (.t 56)), .m 7 57]) .skip))))))) (.ops [.i 58 (.bin .add (.t 16) (.n 1)), .m 16 58]))))))) (.seq (.ops [.m 59 7, .m 6 59]) .ret))))
theorem HG : OkF Try.prog 44 60 [90000047] EH [.t 6] := .of Try.func44 rfl rfl (by kernel_rfl) rfl
def Fm : IR :=
 (.seq (.ops [.i 2 (.box 25 (.t 0)), .i 3 (.box 28 (.t 1)), .i 4 (.mov (.c (.one (.st (.int .u64 0)))))]) (.seq (.ops [.i 5 (.mov (.c (.one (.full []))))]) (.seq (.seq (.ops [.f 8 1 3, .l 9 8, .i 10 (.len false (.t 9)), .i 11 (.mov (.n 0))]) (.block 0 (.loop (.seq (.ops [.i 12 (.bin .lss (.t 11) (.t 10))]) (.seq (.cond (.t 12) .skip (.exit 0)) (.seq (.block 1 (.seq (.ops [.i 13 (.indexAddr 2 (.t 9) (.t 11)), .L 14 2 13, .i 7 (.alloc 28 [.st (.str (ByteArray.mk (#[]))), .full []]), .s 2 7 14]) (.ops [.m 15 5, .L 16 3 2, .L 17 2 7, .i 18 (.call 30 [.t 16, .t 17]), .i 19 (.buildFlat [.t 18]), .i 20 (.append false 61 1 8 (.t 15) (.t 19)), .m 5 20]))) (.ops [.i 21 (.bin .add (.t 11) (.n 1)), .m 11 21]))))))) (.seq (.ops [.L 22 3 2, .f 23 0 3, .l 24 23, .m 25 5, .i 26 (.call 44 [.t 22, .t 24, .t 25]), .m 4 26]) .ret))))
theorem JX : OkF Try.prog 30 27 [] Fm [.t 4] := .of Try.func30 rfl rfl (by kernel_rfl) rfl
def EK : IR :=
 (.seq (.ops [.i 1 (.box 25 (.t 0)), .i 2 (.mov (.c (.one (.st (.int .u64 0)))))]) (.seq (.ops [.i 3 (.mov (.c (.one (.st (.int .u64 0)))))]) (.seq (.seq (.ops [.f 6 2 1, .l 7 6, .i 8 (.len false (.t 7)), .i 9 (.mov (.n 0))]) (.block 0 (.loop (.seq (.ops [.i 10 (.bin .lss (.t 9) (.t 8))]) (.seq (.cond (.t 10) .skip (.exit 0)) (.seq (.block 1 (.seq (.ops [.i 11 (.indexAddr 1 (.t 7) (.t 9)), .l 12 11, .m 5 12]) (.ops [.m 13 3, .m 14 5, .i 15 (.bits .shl (.c (.one (.st (.int .u64 1)))) (.t 14)), .i 16 (.bits .or (.t 13) (.t 15)), .m 3 16]))) (.ops [.i 17 (.bin .add (.t 9) (.n 1)), .m 9 17]))))))) (.seq (.ops [.m 18 3, .m 2 18]) .ret))))
theorem HE : OkF Try.prog 31 19 [] EK [.t 2] := .of Try.func31 rfl rfl (by kernel_rfl) rfl
def BE : IR :=
 (.seq (.ops [.i 2 (.box 25 (.t 0)), .i 3 (.box 28 (.t 1)), .i 4 (.mov (.c (.one (.st (.bool false))))), .i 5 (.mov (.n 0))]) (.seq (.ops [.L 7 3 2, .i 8 (.call 14 [.t 7]), .m 6 8]) (.seq (.seq (.ops [.m 9 6, .i 10 (.bin .eql (.t 9) (.n 0))]) (.cond (.t 10) (.ops [.L 11 2 3, .i 12 (.call 28 [.t 11]), .m 6 12]) .skip)) (.seq (.seq (.ops [.m 13 6, .i 14 (.bin .eql (.t 13) (.n 0)), .m 15 14, .mk (some 16) (some (15, true)) (.load true 2 (.t 3)) .no, .mk (some 17) (some (15, true)) (.call 29 [.t 16]) .no, .mk (some 18) (some (15, true)) (.len false (.t 17)) .no, .mk (some 19) (some (15, true)) (.bin .gtr (.t 18) (.n 0)) .no, .i 20 (.pick (.t 15) (.t 19) (.c (.one (.st (.bool false)))))]) (.cond (.t 20) (.ops [.i 6 (.mov (.n 15))]) .skip)) (.seq (.seq (.ops [.m 21 6, .i 22 (.bin .neq (.t 21) (.n 0))]) (.cond (.t 22) (.seq (.ops [.m 23 6, .i 4 (.mov (.c (.one (.st (.bool false))))), .m 5 23]) .ret) .skip)) (.seq (.ops [.L 24 3 2, .L 25 2 3, .i 26 (.call 30 [.t 24, .t 25]), .L 27 3 2, .i 28 (.call 31 [.t 27]), .i 29 (.bits .and (.t 26) (.t 28)), .i 30 (.bin .neq (.t 29) (.c (.one (.st (.int .u64 0))))), .m 4 30, .i 5 (.mov (.n 0))]) .ret))))))
theorem BP : OkF Try.prog 12 31 [] BE [.t 4, .t 5] := .of Try.func12 rfl rfl (by kernel_rfl) rfl
def DC : IR :=
 (.seq (.ops [.i 2 (.box 28 (.t 0)), .i 3 (.box 28 (.t 1)), .i 4 (.mov (.c (.one (.st (.bool false)))))]) (.seq (.seq (.ops [.L 6 2 2, .i 7 (.call 32 [.t 6]), .L 8 2 3, .i 9 (.call 32 [.t 8]), .i 10 (.bin .sub (.t 7) (.t 9)), .m 5 10]) (.seq (.ops [.m 11 5, .i 12 (.bin .neq (.t 11) (.n 0))]) (.cond (.t 12) (.seq (.ops [.m 13 5, .i 14 (.bin .lss (.t 13) (.n 0)), .m 4 14]) .ret) .skip))) (.seq (.ops [.L 15 2 2, .i 16 (.call 45 [.t 15]), .L 17 2 3, .i 18 (.call 45 [.t 17]), .i 19 (.bin .lss (.t 16) (.t 18)), .m 4 19]) .ret)))
theorem Et : OkF Try.prog 33 20 [] DC [.t 4] := .of Try.func33 rfl rfl (by kernel_rfl) rfl
def DO : IR :=
 (.seq (.ops [.i 1 (.box 25 (.t 0)), .i 2 (.alloc 28 [.st (.str (ByteArray.mk (#[]))), .full []]), .i 3 (.mov (.n 0))]) (.seq (.seq (.ops [.L 15 3 1, .i 16 (.call 14 [.t 15]), .m 4 16]) (.seq (.ops [.m 17 4, .i 18 (.bin .neq (.t 17) (.n 0))]) (.cond (.t 18) (.seq (.ops [.i 19 (.build [.st (.str (ByteArray.mk (#[]))), .full []] []), .m 20 4, .s 2 2 19, .m 3 20]) .ret) .skip))) (.seq (.ops [.f 21 0 1, .l 22 21, .i 23 (.makeSlice 65 1 8 [.lit (.pointer none)] (.t 22) (.t 22)), .m 5 23]) (.seq (.seq (.ops [.i 6 (.mov (.c (.one (.st (.bool true)))))]) (.block 0 (.loop (.seq (.seq (.ops [.m 24 6]) (.cond (.t 24) .skip (.exit 0))) (.block 1 (.seq (.ops [.i 6 (.mov (.c (.one (.st (.bool false)))))]) (.seq (.ops [.f 25 1 1, .l 26 25, .i 27 (.len false (.t 26)), .i 28 (.mov (.n 0))]) (.block 2 (.loop (.seq (.ops [.i 29 (.bin .lss (.t 28) (.t 27))]) (.seq (.cond (.t 29) .skip (.exit 2)) (.seq (.block 3 (.seq (.ops [.i 30 (.indexAddr 3 (.t 26) (.t 28)), .L 31 3 30, .i 8 (.alloc 50 [.st (.str (ByteArray.mk (#[]))), .full [], .st (.int .i64 0)]), .s 3 8 31]) (.seq (.ops [.f 32 0 8, .l 33 32, .i 34 (.build [.st (.str (ByteArray.mk (#[]))), .full []] [(0, 1, .t 33)]), .i 9 (.alloc 28 [.st (.str (ByteArray.mk (#[]))), .full []]), .s 2 9 34]) (.seq (.seq (.ops [.f 35 1 8, .l 36 35, .i 37 (.len false (.t 36)), .i 38 (.mov (.n 0))]) (.block 4 (.loop (.seq (.ops [.i 39 (.bin .lss (.t 38) (.t 37))]) (.seq (.cond (.t 39) .skip (.exit 4)) (.seq (.block 5 (.seq (.ops [.i 40 (.indexAddr 1 (.t 36) (.t 38)), .l 41 40, .m 11 41]) (.seq (.seq (.ops [.m 42 5, .m 43 11, .i 44 (.indexAddr 1 (.t 42) (.t 43)), .l 45 44, .i 46 (.eqP false (.t 45))]) (.cond (.t 46) (.seq (.ops [.f 47 0 9, .mk none none (.store 1 (.t 47) (.c (.one (.st (.str (ByteArray.mk (#[]))))))) .no]) (.exit 4)) .skip)) (.ops [.f 48 1 9, .l 49 48, .m 50 5, .m 51 11, .i 52 (.indexAddr 1 (.t 50) (.t 51)), .l 53 52, .i 54 (.nilCheck (.t 53)), .L 55 2 54, .i 56 (.len false (.t 49)), .i 57 (.buildSlice false 28 2 [.c (.agg [.st (.str (ByteArray.mk (#[]))), .full []])]), .i 58 (.append true 28 2 40 (.t 49) (.t 57)), .i 59 (.indexAddr 2 (.t 58) (.t 56)), .mk none none (.store 2 (.t 59) (.t 55)) (.onb 959), .mk (some 60) none (.fieldAddr 1 (.t 9)) (.onb 9), .mk none none (.store 1 (.t 60) (.t 58)) (.onb 9)])))) (.ops [.i 61 (.bin .add (.t 38) (.n 1)), .m 38 61]))))))) (.seq (.seq (.ops [.f 62 0 9, .l 63 62, .i 64 (.bin .eql (.t 63) (.c (.one (.st (.str (ByteArray.mk (#[]))))))), .m 65 64, .mk (some 66) (some (65, false)) (.load true 2 (.t 9)) .no, .mk (some 67) (some (65, false)) (.call 32 [.t 66]) .no, .mk (some 68) (some (65, false)) (.bin .gtr (.t 67) (.n 2000)) .no, .i 69 (.pick (.t 65) (.c (.one (.st (.bool true)))) (.t 68))]) (.cond (.t 69) (.exit 3) .skip)) (.seq (.ops [.m 70 5, .f 71 2 8, .l 72 71, .i 73 (.indexAddr 1 (.t 70) (.t 72)), .l 74 73, .i 75 (.eqP false (.t 74)), .m 76 75, .mk (some 77) (some (76, false)) (.load true 2 (.t 9)) .no, .mk (some 78) (some (76, false)) (.mov (.t 5)) .no, .mk (some 79) (some (76, false)) (.fieldAddr 2 (.t 8)) .no, .mk (some 80) (some (76, false)) (.load false 1 (.t 79)) .no, .mk (some 81) (some (76, false)) (.indexAddr 1 (.t 78) (.t 80)) .no, .mk (some 82) (some (76, false)) (.load false 1 (.t 81)) .no, .mk (some 83) (some (76, false)) (.nilCheck (.t 82)) .no, .mk (some 84) (some (76, false)) (.load true 2 (.t 83)) .no, .mk (some 85) (some (76, false)) (.call 33 [.t 77, .t 84]) .no, .i 86 (.pick (.t 76) (.c (.one (.st (.bool true)))) (.t 85))]) (.cond (.t 86) (.seq (.ops [.m 87 5, .f 88 2 8, .l 89 88, .i 90 (.indexAddr 1 (.t 87) (.t 89)), .s 1 90 9]) (.ops [.i 6 (.mov (.c (.one (.st (.bool true)))))])) .skip))))))) (.ops [.i 91 (.bin .add (.t 28) (.n 1)), .m 28 91]))))))))))))) (.seq (.ops [.i 12 (.mov (.c (.one (.st (.lit (.pointer none))))))]) (.seq (.seq (.ops [.f 92 2 1, .l 93 92, .i 94 (.len false (.t 93)), .i 95 (.mov (.n 0))]) (.block 6 (.loop (.seq (.ops [.i 96 (.bin .lss (.t 95) (.t 94))]) (.seq (.cond (.t 96) .skip (.exit 6)) (.seq (.block 7 (.seq (.ops [.i 97 (.indexAddr 1 (.t 93) (.t 95)), .l 98 97, .m 14 98]) (.seq (.ops [.m 99 5, .m 100 14, .i 101 (.indexAddr 1 (.t 99) (.t 100)), .l 102 101, .i 103 (.eqP true (.t 102)), .m 104 103, .mk (some 105) (some (104, true)) (.mov (.t 12)) .no, .mk (some 106) (some (104, true)) (.eqP false (.t 105)) .no, .mk (some 107) (some (104, true)) (.mov (.t 106)) .no, .mk (some 108) (some (107, false)) (.mov (.t 5)) .no, .mk (some 109) (some (107, false)) (.mov (.t 14)) .no, .mk (some 110) (some (107, false)) (.indexAddr 1 (.t 108) (.t 109)) .no, .mk (some 111) (some (107, false)) (.load false 1 (.t 110)) .no, .mk (some 112) (some (107, false)) (.nilCheck (.t 111)) .no, .mk (some 113) (some (107, false)) (.load true 2 (.t 112)) .no, .mk (some 114) (some (107, false)) (.mov (.t 12)) .no, .mk (some 115) (some (107, false)) (.nilCheck (.t 114)) .no, .mk (some 116) (some (107, false)) (.load true 2 (.t 115)) .no, .mk (some 117) (some (107, false)) (.call 33 [.t 113, .t 116]) .no, .mk (some 118) (some (104, true)) (.pick (.t 107) (.c (.one (.st (.bool true)))) (.t 117)) .no, .i 119 (.pick (.t 104) (.t 118) (.c (.one (.st (.bool false)))))]) (.cond (.t 119) (.ops [.m 120 5, .m 121 14, .i 122 (.indexAddr 1 (.t 120) (.t 121)), .l 123 122, .m 12 123]) .skip)))) (.ops [.i 124 (.bin .add (.t 95) (.n 1)), .m 95 124]))))))) (.seq (.seq (.ops [.m 125 12, .i 126 (.eqP false (.t 125))]) (.cond (.t 126) (.seq (.ops [.i 127 (.build [.st (.str (ByteArray.mk (#[]))), .full []] []), .s 2 2 127, .i 3 (.mov (.n 7))]) .ret) .skip)) (.seq (.ops [.m 128 12, .i 129 (.nilCheck (.t 128)), .L 130 2 129, .i 131 (.call 34 [.t 130]), .s 2 2 131, .i 3 (.mov (.n 0))]) .ret))))))))
theorem Ez : OkF Try.prog 13 132 [58, 10590959] DO [.cell 2 true 2, .t 3] := .of Try.func13 rfl rfl (by kernel_rfl) rfl
def DJ : IR :=
 (.seq (.ops [.i 2 (.box 28 (.t 0)), .i 3 (.box 28 (.t 1)), .i 4 (.mov (.c (.one (.st (.bool false)))))]) (.seq (.ops [.L 7 2 2, .i 8 (.call 20 [.t 7, .n 2000]), .m 5 8]) (.seq (.ops [.L 9 2 3, .i 10 (.call 20 [.t 9, .n 2000]), .m 6 10]) (.seq (.seq (.ops [.m 11 5, .m 12 6, .i 13 (.bin .neq (.t 11) (.t 12))]) (.cond (.t 13) (.seq (.ops [.m 14 5, .m 15 6, .i 16 (.bin .lss (.t 14) (.t 15)), .m 4 16]) .ret) .skip)) (.seq (.ops [.L 17 2 2, .i 18 (.call 40 [.t 17]), .L 19 2 3, .i 20 (.call 40 [.t 19]), .i 21 (.bin .lss (.t 18) (.t 20)), .m 4 21]) .ret)))))
theorem E4 : OkF Try.prog 27 22 [] DJ [.t 4] := .of Try.func27 rfl rfl (by kernel_rfl) rfl
def Ff : IR :=
 (.seq (.ops [.i 1 (.box 25 (.t 0)), .i 2 (.alloc 28 [.st (.str (ByteArray.mk (#[]))), .full []]), .i 3 (.mov (.c (.one (.st (.bool false)))))]) (.seq (.ops [.f 15 0 1, .l 16 15, .i 17 (.makeSlice 4 1 1 [.bool false] (.t 16) (.t 16)), .m 4 17]) (.seq (.ops [.f 18 0 1, .l 19 18, .i 20 (.makeSlice 28 2 40 [.str (ByteArray.mk (#[])), .list []] (.t 19) (.t 19)), .m 5 20]) (.seq (.seq (.ops [.i 6 (.mov (.c (.one (.st (.bool true)))))]) (.block 0 (.loop (.seq (.seq (.ops [.m 21 6]) (.cond (.t 21) .skip (.exit 0))) (.block 1 (.seq (.ops [.i 6 (.mov (.c (.one (.st (.bool false)))))]) (.seq (.ops [.i 7 (.mov (.n 0))]) (.block 2 (.loop (.seq (.seq (.ops [.m 22 7, .f 23 1 1, .l 24 23, .i 25 (.len false (.t 24)), .i 26 (.bin .lss (.t 22) (.t 25))]) (.cond (.t 26) .skip (.exit 2))) (.seq (.block 3 (.seq (.ops [.f 29 1 1, .l 30 29, .m 31 7, .i 32 (.indexAddr 3 (.t 30) (.t 31)), .L 33 3 32, .i 8 (.alloc 50 [.st (.str (ByteArray.mk (#[]))), .full [], .st (.int .i64 0)]), .s 3 8 33]) (.seq (.ops [.f 34 0 8, .l 35 34, .i 36 (.build [.st (.str (ByteArray.mk (#[]))), .full []] [(0, 1, .t 35)]), .i 9 (.alloc 28 [.st (.str (ByteArray.mk (#[]))), .full []]), .s 2 9 36]) (.seq (.ops [.i 10 (.mov (.c (.one (.st (.bool true)))))]) (.seq (.seq (.ops [.i 11 (.mov (.n 0))]) (.block 4 (.loop (.seq (.seq (.ops [.m 37 11, .f 38 1 8, .l 39 38, .i 40 (.len false (.t 39)), .i 41 (.bin .lss (.t 37) (.t 40))]) (.cond (.t 41) .skip (.exit 4))) (.seq (.block 5 (.seq (.ops [.m 44 10, .m 45 44, .mk (some 46) (some (45, true)) (.mov (.t 4)) .no, .mk (some 47) (some (45, true)) (.fieldAddr 1 (.t 8)) .no, .mk (some 48) (some (45, true)) (.load false 1 (.t 47)) .no, .mk (some 49) (some (45, true)) (.mov (.t 11)) .no, .mk (some 50) (some (45, true)) (.indexAddr 1 (.t 48) (.t 49)) .no, .mk (some 51) (some (45, true)) (.load false 1 (.t 50)) .no, .mk (some 52) (some (45, true)) (.indexAddr 1 (.t 46) (.t 51)) .no, .mk (some 53) (some (45, true)) (.load false 1 (.t 52)) .no, .i 54 (.pick (.t 45) (.t 53) (.c (.one (.st (.bool false))))), .m 10 54]) (.seq (.ops [.m 55 10]) (.cond (.t 55) (.ops [.f 56 1 9, .l 57 56, .m 58 5, .f 59 1 8, .l 60 59, .m 61 11, .i 62 (.indexAddr 1 (.t 60) (.t 61)), .l 63 62, .i 64 (.indexAddr 2 (.t 58) (.t 63)), .L 65 2 64, .i 66 (.buildSlice false 28 2 [.t 65]), .i 67 (.append false 28 2 40 (.t 57) (.t 66)), .f 68 1 9, .s 1 68 67]) .skip)))) (.ops [.m 42 11, .i 43 (.bin .add (.t 42) (.n 1)), .m 11 43])))))) (.seq (.seq (.ops [.m 69 10, .i 70 (.un .not (.t 69)), .m 71 70, .mk (some 72) (some (71, false)) (.load true 2 (.t 9)) .no, .mk (some 73) (some (71, false)) (.call 20 [.t 72, .n 2000]) .no, .mk (some 74) (some (71, false)) (.bin .gtr (.t 73) (.n 2000)) .no, .i 75 (.pick (.t 71) (.c (.one (.st (.bool true)))) (.t 74))]) (.cond (.t 75) (.exit 3) .skip)) (.seq (.ops [.m 76 4, .f 77 2 8, .l 78 77, .i 79 (.indexAddr 1 (.t 76) (.t 78)), .l 80 79, .i 81 (.un .not (.t 80)), .m 82 81, .mk (some 83) (some (82, false)) (.load true 2 (.t 9)) .no, .mk (some 84) (some (82, false)) (.mov (.t 5)) .no, .mk (some 85) (some (82, false)) (.fieldAddr 2 (.t 8)) .no, .mk (some 86) (some (82, false)) (.load false 1 (.t 85)) .no, .mk (some 87) (some (82, false)) (.indexAddr 2 (.t 84) (.t 86)) .no, .mk (some 88) (some (82, false)) (.load true 2 (.t 87)) .no, .mk (some 89) (some (82, false)) (.call 27 [.t 83, .t 88]) .no, .i 90 (.pick (.t 82) (.c (.one (.st (.bool true)))) (.t 89))]) (.cond (.t 90) (.seq (.ops [.m 91 4, .f 92 2 8, .l 93 92, .i 94 (.indexAddr 1 (.t 91) (.t 93)), .mk none none (.store 1 (.t 94) (.c (.one (.st (.bool true))))) .no]) (.seq (.ops [.m 95 5, .f 96 2 8, .l 97 96, .L 98 2 9, .i 99 (.indexAddr 2 (.t 95) (.t 97)), .s 2 99 98]) (.ops [.i 6 (.mov (.c (.one (.st (.bool true)))))]))) .skip)))))))) (.ops [.m 27 7, .i 28 (.bin .add (.t 27) (.n 1)), .m 7 28])))))))))))) (.seq (.ops [.i 12 (.mov (.c (.one (.st (.int .i64 (-1))))))]) (.seq (.seq (.ops [.i 13 (.mov (.n 0))]) (.block 6 (.loop (.seq (.seq (.ops [.m 100 13, .f 101 2 1, .l 102 101, .i 103 (.len false (.t 102)), .i 104 (.bin .lss (.t 100) (.t 103))]) (.cond (.t 104) .skip (.exit 6))) (.seq (.block 7 (.seq (.ops [.f 107 2 1, .l 108 107, .m 109 13, .i 110 (.indexAddr 1 (.t 108) (.t 109)), .l 111 110, .m 14 111]) (.seq (.ops [.m 112 4, .m 113 14, .i 114 (.indexAddr 1 (.t 112) (.t 113)), .l 115 114, .m 116 115, .mk (some 117) (some (116, true)) (.mov (.t 12)) .no, .mk (some 118) (some (116, true)) (.bin .lss (.t 117) (.n 0)) .no, .mk (some 119) (some (116, true)) (.mov (.t 118)) .no, .mk (some 120) (some (119, false)) (.mov (.t 5)) .no, .mk (some 121) (some (119, false)) (.mov (.t 14)) .no, .mk (some 122) (some (119, false)) (.indexAddr 2 (.t 120) (.t 121)) .no, .mk (some 123) (some (119, false)) (.load true 2 (.t 122)) .no, .mk (some 124) (some (119, false)) (.mov (.t 5)) .no, .mk (some 125) (some (119, false)) (.mov (.t 12)) .no, .mk (some 126) (some (119, false)) (.indexAddr 2 (.t 124) (.t 125)) .no, .mk (some 127) (some (119, false)) (.load true 2 (.t 126)) .no, .mk (some 128) (some (119, false)) (.call 27 [.t 123, .t 127]) .no, .mk (some 129) (some (116, true)) (.pick (.t 119) (.c (.one (.st (.bool true)))) (.t 128)) .no, .i 130 (.pick (.t 116) (.t 129) (.c (.one (.st (.bool false)))))]) (.cond (.t 130) (.ops [.m 131 14, .m 12 131]) .skip)))) (.ops [.m 105 13, .i 106 (.bin .add (.t 105) (.n 1)), .m 13 106])))))) (.seq (.seq (.ops [.m 132 12, .i 133 (.bin .lss (.t 132) (.n 0))]) (.cond (.t 133) (.seq (.ops [.i 134 (.build [.st (.str (ByteArray.mk (#[]))), .full []] []), .s 2 2 134, .i 3 (.mov (.c (.one (.st (.bool false)))))]) .ret) .skip)) (.seq (.ops [.m 135 5, .m 136 12, .i 137 (.indexAddr 2 (.t 135) (.t 136)), .L 138 2 137, .s 2 2 138, .i 3 (.mov (.c (.one (.st (.bool true)))))]) .ret))))))))
theorem Jv : OkF Try.prog 11 139 [] Ff [.cell 2 true 2, .t 3] := .of Try.func11 rfl rfl (by kernel_rfl) rfl
def At : IR :=
 (.seq (.ops [.i 2 (.box 25 (.t 0)), .i 3 (.box 28 (.t 1)), .i 4 (.mov (.c (.one (.st (.bool false)))))]) (.seq (.seq (.ops [.L 16 3 2, .i 17 (.call 5 [.t 16]), .m 18 17, .mk (some 19) (some (18, false)) (.load true 2 (.t 3)) .no, .mk (some 20) (some (18, false)) (.call 6 [.t 19]) .no, .i 21 (.pick (.t 18) (.c (.one (.st (.bool true)))) (.t 20))]) (.cond (.t 21) (.seq (.ops [.i 4 (.mov (.c (.one (.st (.bool true)))))]) .ret) .skip)) (.seq (.ops [.L 22 3 2, .i 23 (.call 7 [.t 22, .n 8, .n 40]), .m 5 23]) (.seq (.ops [.m 24 5, .m 6 24]) (.seq (.seq (.ops [.m 25 6, .i 26 (.bin .eql (.t 25) (.n 0))]) (.cond (.t 26) (.ops [.L 27 2 3, .i 28 (.call 8 [.t 27]), .m 6 28]) .skip)) (.seq (.seq (.ops [.m 29 6, .i 30 (.bin .eql (.t 29) (.n 0)), .m 31 30, .mk (some 32) (some (31, true)) (.load true 2 (.t 3)) .no, .mk (some 33) (some (31, true)) (.call 9 [.t 32]) .no, .mk (some 34) (some (31, true)) (.len false (.t 33)) .no, .mk (some 35) (some (31, true)) (.bin .gtr (.t 34) (.n 0)) .no, .i 36 (.pick (.t 31) (.t 35) (.c (.one (.st (.bool false)))))]) (.cond (.t 36) (.ops [.i 6 (.mov (.n 15))]) .skip)) (.seq (.ops [.i 7 (.mov (.c (.one (.st (.bool false)))))]) (.seq (.seq (.ops [.m 37 6, .i 38 (.bin .eql (.t 37) (.n 0))]) (.cond (.t 38) (.ops [.L 39 3 2, .L 40 2 3, .i 41 (.call 10 [.t 39, .t 40]), .m 7 41]) .skip)) (.seq (.ops [.m 42 5, .m 8 42]) (.seq (.ops [.i 43 (.build [.st (.str (ByteArray.mk (#[]))), .full []] []), .i 9 (.alloc 28 [.st (.str (ByteArray.mk (#[]))), .full []]), .s 2 9 43]) (.seq (.seq (.ops [.m 44 5, .i 45 (.bin .eql (.t 44) (.n 0))]) (.cond (.t 45) (.seq (.ops [.L 47 3 2, .i 48 (.call 11 [.t 47]), .m 46 48, .i 49 (.extract 0 (.t 46)), .i 50 (.extract 1 (.t 46)), .i 10 (.alloc 28 [.st (.str (ByteArray.mk (#[]))), .full []]), .s 2 10 49, .m 11 50]) (.seq (.ops [.L 51 2 10, .s 2 9 51]) (.seq (.ops [.m 52 11, .i 53 (.un .not (.t 52))]) (.cond (.t 53) (.ops [.i 8 (.mov (.n 7))]) .skip)))) .skip)) (.seq (.ops [.L 55 3 2, .L 56 2 3, .i 57 (.call 12 [.t 55, .t 56]), .m 54 57, .i 58 (.extract 0 (.t 54)), .i 59 (.extract 1 (.t 54)), .m 12 58, .m 13 59]) (.seq (.ops [.L 61 3 2, .i 62 (.call 13 [.t 61]), .m 60 62, .i 63 (.extract 0 (.t 60)), .i 64 (.extract 1 (.t 60)), .i 14 (.alloc 28 [.st (.str (ByteArray.mk (#[]))), .full []]), .s 2 14 63, .m 15 64]) (.seq (.ops [.L 65 3 2, .i 66 (.call 14 [.t 65]), .m 67 5, .i 68 (.bin .eql (.t 66) (.t 67)), .m 69 68, .mk (some 70) (some (69, true)) (.mov (.t 12)) .no, .mk (some 71) (some (69, true)) (.mov (.t 7)) .no, .mk (some 72) (some (69, true)) (.eqB false (.t 70) (.t 71)) .no, .i 73 (.pick (.t 69) (.t 72) (.c (.one (.st (.bool false))))), .m 74 73, .mk (some 75) (some (74, true)) (.mov (.t 13)) .no, .mk (some 76) (some (74, true)) (.mov (.t 6)) .no, .mk (some 77) (some (74, true)) (.bin .eql (.t 75) (.t 76)) .no, .i 78 (.pick (.t 74) (.t 77) (.c (.one (.st (.bool false))))), .m 79 78, .mk (some 80) (some (79, true)) (.load true 2 (.t 14)) .no, .mk (some 81) (some (79, true)) (.mov (.t 15)) .no, .mk (some 82) (some (79, true)) (.load true 2 (.t 9)) .no, .mk (some 83) (some (79, true)) (.mov (.t 8)) .no, .mk (some 84) (some (79, true)) (.call 15 [.t 80, .t 81, .t 82, .t 83]) .no, .i 85 (.pick (.t 79) (.t 84) (.c (.one (.st (.bool false))))), .m 4 85]) .ret))))))))))))))
theorem A1 : OkF Try.prog 3 86 [] At [.t 4] := .of Try.func3 rfl rfl (by kernel_rfl) rfl

set_option linter.unusedVariables false
def bN : List Bool → Nat
 | [] => 0
 | b :: bs => b.toNat + 2 * bN bs
theorem Np (b : Bool) (bs : List Bool) : (b.toNat + 2 * bN bs) / 2 = bN bs := by cases b <;> simp [Bool.toNat] <;> omega
theorem Bi : ∀ (l : List Bool) (i : Nat), (bN l).testBit i = l.getD i false
 | [], i => by simp [bN]
 | b :: bs, 0 => by
  rw [bN, Nat.testBit_zero]
  cases b <;> simp [Bool.toNat] <;> omega
 | b :: bs, i + 1 => by
  rw [bN, Nat.testBit_succ, Np, Bi bs i]
  simp
theorem OY : ∀ l : List Bool, bN l < 2 ^ l.length
 | [] => by simp [bN]
 | b :: bs => by
  have h := OY bs
  rw [bN, List.length_cons, Nat.pow_succ]
  cases b <;> simp [Bool.toNat] <;> omega
theorem LO (n : Nat) : bN (List.replicate n false) = 0 := by
 induction n with
 | zero => rfl
 | succ n ih => rw [List.replicate_succ, bN, ih]; rfl
theorem MX {l : List Bool} {i : Nat} (h : i < l.length) : bN l ||| 2 ^ i = bN (l.set i true) := by
 refine Nat.eq_of_testBit_eq fun j => ?_
 rw [Nat.testBit_or, Bi, Bi, Nat.testBit_two_pow]
 by_cases hj : i = j
 ·subst hj
  simp [List.getD_eq_getElem?_getD, h]
 ·simp [List.getD_eq_getElem?_getD, List.getElem?_set_ne hj, hj]
theorem Ox (l : List Bool) (s : Nat) : bN l / 2 ^ s % 2 = (l.getD s false).toNat := by
 rw [← Bi, Nat.testBit_eq_decide_div_mod_eq]
 have : bN l / 2 ^ s % 2 < 2 := Nat.mod_lt _ (by omega)
 by_cases h : bN l / 2 ^ s % 2 = 1
 ·simp [h]
 ·simp [h]; omega
theorem OI (x : Nat) : x &&& 1 = x % 2 := Nat.and_one_is_mod x
theorem Gb {l : List Bool} (h : l.length ≤ 64) : bN l ≤ 18446744073709551615 := by
 have h1 := OY l
 have h2 : 2 ^ l.length ≤ 2 ^ 64 := Nat.pow_le_pow_right (by omega) h
 have h3 : (2 : Nat) ^ 64 = 18446744073709551616 := by decide
 omega
def Au.lastB (a : Au) : List Bool := a.last.foldl (fun l s => l.set s.toNat true) (List.replicate a.states.toNat false)
theorem CO : ∀ (ss : List Int) (l : List Bool), (ss.foldl (fun l s => l.set s.toNat true) l).length = l.length
 | [], _ => rfl
 | s :: ss, l => by rw [List.foldl_cons, CO ss]; simp
theorem Es (i : Nat) : ∀ (ss : List Int) (l : List Bool), i < l.length → (ss.foldl (fun l s => l.set s.toNat true) l).getD i false = (l.getD i false || ss.any fun s => decide (s.toNat = i))
 | [], l, h => by simp
 | s :: ss, l, h => by
  rw [List.foldl_cons, Es i ss _ (by simpa using h), List.any_cons, ← Bool.or_assoc]
  congr 1
  by_cases he : s.toNat = i
  ·subst he
   simp [List.getD_eq_getElem?_getD, h]
  ·simp [List.getD_eq_getElem?_getD, List.getElem?_set_ne he, he]
theorem Au.lastB_length (a : Au) : a.lastB.length = a.states.toNat := by
 unfold Au.lastB
 rw [CO]
 simp
theorem Au.lastB_get (a : Au) (i : Nat) (h : i < a.states.toNat) : a.lastB.getD i false = a.last.any fun s => decide (s.toNat = i) := by
 unfold Au.lastB
 rw [Es _ _ _ (by simpa using h)]
 simp [List.getD_eq_getElem?_getD, h]
theorem MM {a : Au} (ga : a.Good) (t : Tm) : (bN (a.ends t) &&& bN a.lastB ≠ 0) ↔ a.acc t = true := by
 unfold Au.acc
 rw [List.any_eq_true]
 constructor
 ·intro h
  obtain ⟨i, hi⟩ := Nat.exists_testBit_of_ne_zero h
  rw [Nat.testBit_and, Bi, Bi, Bool.and_eq_true] at hi
  have hl : i < a.states.toNat := by
   rcases Nat.lt_or_ge i a.lastB.length with q | q
   ·rwa [← a.lastB_length]
   ·have h2 := hi.2
    rw [List.getD_eq_getElem?_getD, List.getElem?_eq_none q] at h2
    cases h2
  rw [a.lastB_get i hl, List.any_eq_true] at hi
  obtain ⟨h1, s, hs, he⟩ := hi
  exact ⟨s, hs, by rw [of_decide_eq_true he]; exact h1⟩
 ·rintro ⟨s, hs, h⟩ h0
  have hb := ga.last s hs
  have := congrArg (fun n => Nat.testBit n s.toNat) h0
  simp only [Nat.testBit_and, Bi, Nat.zero_testBit] at this
  rw [h, a.lastB_get _ (by omega), Bool.true_and, List.any_eq_false] at this
  exact this s hs (by simp)

set_option linter.unusedSimpArgs false
set_option maxHeartbeats 2000000
def MK (l : List Bool) : List SV := [.int .u64 (bN l)]
abbrev aU (l : List Bool) : AV := .one (.st (.int .u64 (bN l)))
abbrev aUs (l : List (List Bool)) : AV := .one (.st (.list (l.map MK)))
theorem M4 (n k : Nat) : ((n : Int)).fdiv (2 ^ k) = ((n / 2 ^ k : Nat) : Int) := by
 rw [show ((2 : Int) ^ k) = ((2 ^ k : Nat) : Int) by simp, Int.fdiv_eq_ediv_of_nonneg _ (Int.natCast_nonneg _)]
 exact (Int.natCast_ediv _ _).symm
theorem ML (k : Nat) : (1 : Int) * 2 ^ k = ((2 ^ k : Nat) : Int) := by simp
theorem K5 {k : Nat} (h : k < 64) : inR .u64 ((2 ^ k : Nat) : Int) := by
 rw [DE]
 have h2 : 2 ^ k ≤ 2 ^ 63 := Nat.pow_le_pow_right (by omega) (by omega)
 have h3 : (2 : Nat) ^ 63 = 9223372036854775808 := by decide
 generalize 2 ^ k = p at *
 omega
theorem Mf {l : List Bool} (h : l.length ≤ 64) : inR .u64 (bN l) := by
 rw [DE]
 have := Gb h
 omega
theorem Oj {l : List Bool} (h : l.length ≤ 64) (k : Nat) : inR .u64 ((bN l / 2 ^ k : Nat) : Int) := by
 rw [DE]
 have := Gb h
 have h2 := Nat.div_le_self (bN l) (2 ^ k)
 generalize bN l / 2 ^ k = p at *
 omega
theorem OO : (1 : Int).toNat = 1 := rfl
theorem L3 {ts : List (List Bool)} : ∀ x ∈ ts.map MK, x.length = 1 := by
 intro x hx
 obtain ⟨a, _, rfl⟩ := List.mem_map.1 hx
 rfl
theorem N4 (a : Au) (ga : a.Good) (hs64 : a.states ≤ 64) (hm : a.moves.length ≤ 100000) (n : ByteArray) (below : List (List Bool)) (hb : ∀ l ∈ below, l.length = a.states.toNat) (hbl : below.length ≤ 1000000) :
  AW Try.prog 44 [aAu a, Cj n, aUs below] (aU (a.ending n below)) := by
 have hst := ga.states
 have h0 : bN (List.replicate a.states.toNat false) = 0 := LO _
 refine HG.ac fun C hC => ?_
 unfold EH
 repeat' with_reducible first | refine W ?_ | refine Z0 ?_ | ((first | refine Wo fun K hK => ?_ | refine Wp ?_ | refine Wq ?_ | refine Wr ?_); (try simp only [go_sem, fN, seval, eT, iR, dT, dF, nL]); (repeat refine Ai ?_); (try (refine hK _ ?_; clear hK K)); try refine iC ?_)
 refine IWP.loopD [9] (fun q s => ∃ k, k ≤ a.moves.length ∧ q = a.moves.length - k ∧ s.env 1 = Cj n ∧ s.env 2 = aUs below ∧ s.env 3 = .one (.ptr 3 1 0 0) ∧ s.S 3 = some (AT a) ∧ s.env 7 = aU ((a.moves.take k).foldl (BU n below) (List.replicate a.states.toNat false)) ∧ s.env 14 = .one (.st (.list (a.moves.map A0))) ∧ s.env 15 = AY a.moves.length ∧ s.env 16 = AY k ∧ s.S 9 = none) a.moves.length
  ⟨0, Nat.zero_le _, rfl, rfl, rfl, rfl, rfl, by simp [AH, h0], by simp [AH], by simp [AH], rfl, rfl⟩ ?_
 rintro q ⟨env, St⟩ ⟨k, hk, rfl, e1, e2, e3, s3, e7, e14, e15, e16, s9⟩
 simp only at e1 e2 e3 s3 e7 e14 e15 e16 s9
 unfold AT at s3
 by_cases hlt : (k : Int) < a.moves.length
 ·obtain ⟨m, hmk⟩ := Ah (show k < a.moves.length by omega)
  have hmm := AN hmk
  have hto := ga.to_ m hmm
  have hfold : (a.moves.take (k + 1)).foldl (BU n below) (List.replicate a.states.toNat false) = BU n below ((a.moves.take k).foldl (BU n below) (List.replicate a.states.toNat false)) m := by
   rw [Af hmk, List.foldl_append]
   rfl
  have hfl := Cp n below (a.moves.take k) (List.replicate a.states.toNat false)
  rw [List.length_replicate] at hfl
  generalize (a.moves.take k).foldl (BU n below) (List.replicate a.states.toNat false) = L at *
  by_cases g1 : m.name = n
  case neg =>
   have hf : m.fits n below = false := by simp [Mv.fits, g1]
   repeat' with_reducible first | refine W ?_ | refine Z0 ?_ | ((first | refine Wo fun K hK => ?_ | refine Wp ?_ | refine Wq ?_ | refine Wr ?_); (try simp only [go_sem, fN, seval, eT, iR, e1, e2, e3, s3, e7, e14, e15, e16, s9, hlt, hmk, A0, g1, dT, dF, nL]); (repeat refine Ai ?_); (try (refine hK _ ?_; clear hK K)); try refine iC ?_)
   refine AB ⟨a.moves.length - (k + 1), by omega, k + 1, by omega, rfl, ?_⟩
   simp only [go_sem, fN, seval, AS.drop, Ag, AC.clears, AC.clear, AC.highs, AC.high, Bool.not_false, Bool.true_and, Bool.and_self, AV.purge, AV.purges, AC.purge, AJ.purge, List.contains_cons, List.contains_nil, Nat.reduceBEq, Bool.or_self, Bool.or_false, Bool.false_or, Bool.or_true, eT, iR, e1, e2, e3, s3, e7, e14, e15, e16, s9, AT]
   simp [hfold, BU, hf]
  case pos =>
  by_cases g2 : (m.frm.length : Int) = below.length
  case neg =>
   have hf : m.fits n below = false := by
    unfold Mv.fits
    rw [FU (by omega)]
    simp
   repeat' with_reducible first | refine W ?_ | refine Z0 ?_ | ((first | refine Wo fun K hK => ?_ | refine Wp ?_ | refine Wq ?_ | refine Wr ?_); (try simp only [go_sem, fN, seval, eT, iR, e1, e2, e3, s3, e7, e14, e15, e16, s9, hlt, hmk, A0, g1, g2, dT, dF, nL]); (repeat refine Ai ?_); (try (refine hK _ ?_; clear hK K)); try refine iC ?_)
   refine AB ⟨a.moves.length - (k + 1), by omega, k + 1, by omega, rfl, ?_⟩
   simp only [go_sem, fN, seval, AS.drop, Ag, AC.clears, AC.clear, AC.highs, AC.high, Bool.not_false, Bool.true_and, Bool.and_self, AV.purge, AV.purges, AC.purge, AJ.purge, List.contains_cons, List.contains_nil, Nat.reduceBEq, Bool.or_self, Bool.or_false, Bool.false_or, Bool.or_true, eT, iR, e1, e2, e3, s3, e7, e14, e15, e16, s9, AT]
   simp [hfold, BU, hf]
  case pos =>
  have g2' : m.frm.length = below.length := by omega
  repeat' with_reducible first | refine W ?_ | refine Z0 ?_ | ((first | refine Wo fun K hK => ?_ | refine Wp ?_ | refine Wq ?_ | refine Wr ?_); (try simp only [go_sem, fN, seval, eT, iR, e1, e2, e3, s3, e7, e14, e15, e16, s9, hlt, hmk, A0, g1, g2, dT, dF, nL]); (repeat refine Ai ?_); (try (refine hK _ ?_; clear hK K)); try refine iC ?_)
  refine IWP.loop (fun q s => ∃ j, j ≤ below.length ∧ q = below.length - j ∧ s.env 1 = Cj n ∧ s.env 2 = aUs below ∧ s.env 3 = .one (.ptr 3 1 0 0) ∧ s.S 3 = some (AT a) ∧ s.env 7 = aU L ∧ s.env 14 = .one (.st (.list (a.moves.map A0))) ∧ s.env 15 = AY a.moves.length ∧ s.env 16 = AY k ∧ s.env 9 = .one (.ptr 9 1 0 0) ∧ s.S 9 = some (.box 50 [.st (.str m.name), .st (.list (m.frm.map CU)), .st (.int .i64 m.to_)]) ∧ s.env 10 = Al (Bp (below.take j) (m.frm.take j)) ∧ s.env 33 = .one (.st (.list (m.frm.map CU))) ∧ s.env 34 = AY below.length ∧ s.env 35 = AY j) below.length
   ⟨0, Nat.zero_le _, rfl, by simp [AH, e1], by simp [AH, e2], by simp [AH, e3], by simp [AH, AT, s3], by simp [AH, e7], by simp [AH, e14], by simp [AH, e15], by simp [AH, e16], by simp [AH], by simp [AH, g1], by simp [AH, Bp], by simp [AH], by simp [AH, g2], by simp [AH]⟩ ?_
  rintro q ⟨env2, S2⟩ ⟨j, hj, rfl, f1, f2, f3, t3, f7, f14, f15, f16, f9, t9, f10, f33, f34, f35⟩
  simp only at f1 f2 f3 t3 f7 f14 f15 f16 f9 t9 f10 f33 f34 f35
  unfold AT at t3
  by_cases hjl : (j : Int) < below.length
  ·obtain ⟨bl, hbj⟩ := Ah (show j < below.length by omega)
   obtain ⟨x, hx⟩ := Ah (show j < m.frm.length by omega)
   have qx := ga.frm m hmm x (AN hx)
   have hbll := hb bl (AN hbj)
   have hst2 := EX hbj hx
   have hsh := Oj (l := bl) (by omega) x.toNat
   have hbit := Ox bl x.toNat
   rw [← OI] at hbit
   have q64 : 0 ≤ x ∧ x.toNat ≤ 64 := by omega
   generalize bl.getD x.toNat false = y at hbit hst2
   generalize Bp (below.take j) (m.frm.take j) = ok at f10 hst2
   cases ok with
   | true =>
    cases y <;> simp only [Bool.toNat_true, Bool.toNat_false] at hbit
    all_goals
     repeat' with_reducible first | refine W ?_ | refine Z0 ?_ | ((first | refine Wo fun K hK => ?_ | refine Wp ?_ | refine Wq ?_ | refine Wr ?_); (try simp only [go_sem, fN, seval, eT, iR, f1, f2, f3, t3, f7, f14, f15, f16, f9, t9, f10, f33, f34, f35, hjl, hbj, hx, MK, M4, hsh, hbit, q64, OO, Int.toNat_natCast, HO, IntKind.bits, dT, dF, nL]); (repeat refine Ai ?_); (try (refine hK _ ?_; clear hK K)); try refine iC ?_)
     refine AB ⟨below.length - (j + 1), by omega, j + 1, by omega, rfl, ?_⟩
     simp only [go_sem, fN, seval, eT, iR, f1, f2, f3, t3, f7, f14, f15, f16, f9, t9, f10, f33, f34, f35, AT]
     simp [hst2]
   | false =>
    repeat' with_reducible first | refine W ?_ | refine Z0 ?_ | ((first | refine Wo fun K hK => ?_ | refine Wp ?_ | refine Wq ?_ | refine Wr ?_); (try simp only [go_sem, fN, seval, eT, iR, f1, f2, f3, t3, f7, f14, f15, f16, f9, t9, f10, f33, f34, f35, hjl, hbj, hx, dT, dF, nL]); (repeat refine Ai ?_); (try (refine hK _ ?_; clear hK K)); try refine iC ?_)
    refine AB ⟨below.length - (j + 1), by omega, j + 1, by omega, rfl, ?_⟩
    simp only [go_sem, fN, seval, eT, iR, f1, f2, f3, t3, f7, f14, f15, f16, f9, t9, f10, f33, f34, f35, AT]
    simp [hst2]
  ·rw [List.take_of_length_le (l := below) (i := j) (by omega), List.take_of_length_le (l := m.frm) (i := j) (by omega)] at f10
   have hf : m.fits n below = Bp below m.frm := by simp [Mv.fits, g1]
   have hor := MX (l := L) (i := m.to_.toNat) (by omega)
   have hip := K5 (k := m.to_.toNat) (by omega)
   have q64 : 0 ≤ m.to_ ∧ m.to_.toNat ≤ 64 := by omega
   by_cases g3 : Bp below m.frm = true
   ·rw [g3] at f10 hf
    repeat' with_reducible first | refine W ?_ | refine Z0 ?_ | ((first | refine Wo fun K hK => ?_ | refine Wp ?_ | refine Wq ?_ | refine Wr ?_); (try simp only [go_sem, fN, seval, eT, iR, f1, f2, f3, t3, f7, f14, f15, f16, f9, t9, f10, f33, f34, f35, hjl, ML, hip, q64, Int.toNat_natCast, HO, IntKind.bits, hor, dT, dF, nL]); (repeat refine Ai ?_); (try (refine hK _ ?_; clear hK K)); try refine iC ?_)
    refine AB ⟨a.moves.length - (k + 1), by omega, k + 1, by omega, rfl, ?_⟩
    simp only [go_sem, fN, seval, AS.drop, Ag, AC.clears, AC.clear, AC.highs, AC.high, Bool.not_false, Bool.true_and, Bool.and_self, AV.purge, AV.purges, AC.purge, AJ.purge, List.contains_cons, List.contains_nil, Nat.reduceBEq, Bool.or_self, Bool.or_false, Bool.false_or, Bool.or_true, eT, iR, f1, f2, f3, t3, f7, f14, f15, f16, f9, t9, f10, AT]
    simp [hfold, BU, hf]
   ·have g3' : Bp below m.frm = false := by simpa using g3
    rw [g3'] at f10 hf
    repeat' with_reducible first | refine W ?_ | refine Z0 ?_ | ((first | refine Wo fun K hK => ?_ | refine Wp ?_ | refine Wq ?_ | refine Wr ?_); (try simp only [go_sem, fN, seval, eT, iR, f1, f2, f3, t3, f7, f14, f15, f16, f9, t9, f10, f33, f34, f35, hjl, dT, dF, nL]); (repeat refine Ai ?_); (try (refine hK _ ?_; clear hK K)); try refine iC ?_)
    refine AB ⟨a.moves.length - (k + 1), by omega, k + 1, by omega, rfl, ?_⟩
    simp only [go_sem, fN, seval, AS.drop, Ag, AC.clears, AC.clear, AC.highs, AC.high, Bool.not_false, Bool.true_and, Bool.and_self, AV.purge, AV.purges, AC.purge, AJ.purge, List.contains_cons, List.contains_nil, Nat.reduceBEq, Bool.or_self, Bool.or_false, Bool.false_or, Bool.or_true, eT, iR, f1, f2, f3, t3, f7, f14, f15, f16, f9, t9, f10, AT]
    simp [hfold, BU, hf]
 ·rw [List.take_of_length_le (l := a.moves) (i := k) (by omega)] at e7
  have hle : a.ending n below = a.moves.foldl (BU n below) (List.replicate a.states.toNat false) := rfl
  rw [← hle] at e7
  repeat' with_reducible first | refine W ?_ | refine Z0 ?_ | ((first | refine Wo fun K hK => ?_ | refine Wp ?_ | refine Wq ?_ | refine Wr ?_); (try simp only [go_sem, fN, seval, eT, iR, e1, e2, e3, s3, e7, e14, e15, e16, hlt, dT, dF, nL]); (repeat refine Ai ?_); (try (refine hK _ ?_; clear hK K)); try refine iC ?_)
  simp only [go_sem, fN, seval, AR, AS.result, AF, AG, AQ, e7]
theorem Oz (a : Au) (ga : a.Good) (hs64 : a.states ≤ 64) (hm : a.moves.length ≤ 100000) (t : Tm) (hz : t.size ≤ 1000000) : AW Try.prog 30 [aAu a, aTm t] (aU (a.ends t)) := by
 induction h : SizeOf.sizeOf t using Nat.strongRecOn generalizing t with
 | _ N ih =>
 subst h
 have hs := Tm.size_eq t
 have hkn := Tm.length_le t.args
 refine JX.ac fun C hC => ?_
 unfold Fm
 repeat' with_reducible first | refine W ?_ | refine Z0 ?_ | ((first | refine Wo fun K hK => ?_ | refine Wp ?_ | refine Wq ?_ | refine Wr ?_); (try simp only [go_sem, fN, seval, eT, iR, dT, dF, nL]); (repeat refine Ai ?_); (try (refine hK _ ?_; clear hK K)); try refine iC ?_)
 refine IWP.ghost (Ad.own (C := C) 5 50 61 1 (xs := ([] : List (List Bool)).map MK) rfl rfl L3 (by omega)) ?_
 refine IWP.loopD [7] (fun q s => ∃ k, k ≤ t.args.length ∧ q = t.args.length - k ∧ s.env 2 = .one (.ptr 2 1 0 0) ∧ s.S 2 = some (AT a) ∧ s.env 3 = .one (.ptr 3 1 0 0) ∧ s.S 3 = some (.box 28 [.st (.str t.name), .st (.list (t.args.map BC))]) ∧ s.env 5 = .one (.row 50 k) ∧ s.S 50 = some (.arow 61 1 (((t.args.take k).map a.ends).map MK)) ∧ s.env 9 = NO t.args ∧ s.env 10 = AY t.args.length ∧ s.env 11 = AY k ∧ s.S 7 = none) t.args.length
  ⟨0, Nat.zero_le _, rfl, rfl, rfl, rfl, rfl, rfl, rfl, rfl, rfl, rfl, rfl⟩ ?_
 rintro q ⟨env, St⟩ ⟨k, hk, rfl, e2, s2, e3, s3, e5, s50, e9, e10, e11, s7⟩
 simp only at e2 s2 e3 s3 e5 s50 e9 e10 e11 s7
 unfold AT at s2
 by_cases hlt : (k : Int) < t.args.length
 ·obtain ⟨x, hx⟩ := Ah (show k < t.args.length by omega)
  have hxm := AN hx
  have hsz := Tm.size_mem hxm
  have hkl : ((t.args.take k).map a.ends).length = k := by
   rw [List.length_map, List.length_take]
   omega
  repeat' (first | (with_reducible first | refine W ?_ | refine Z0 ?_ | ((first | refine Wo fun K hK => ?_ | refine Wp ?_ | refine Wq ?_ | refine Wr ?_); (try simp only [go_sem, fN, seval, eT, iR, e2, s2, e3, s3, e5, s50, e9, e10, e11, s7, hlt, hx, hkl, dT, dF, nL]); (repeat refine Ai ?_); (try (refine hK _ ?_; clear hK K)); try refine iC ?_)) | refine Cg _ (ih _ (Tm.lt_of_arg hxm) x (by omega) rfl) ?_)
  refine AB ⟨t.args.length - (k + 1), by omega, k + 1, by omega, rfl, ?_⟩
  simp only [go_sem, fN, seval, AS.drop, Ag, AC.clears, AC.clear, AC.highs, AC.high, Bool.not_false, Bool.true_and, Bool.and_self, AV.purge, AV.purges, AC.purge, AJ.purge, List.contains_cons, List.contains_nil, Nat.reduceBEq, Bool.or_self, Bool.or_false, Bool.false_or, Bool.or_true, eT, iR, e2, s2, e3, s3, e5, s50, e9, e10, e11, s7, AT]
  rw [Af hx]
  simp [MK]
  try omega
 ·rw [List.take_of_length_le (l := t.args) (i := k) (by omega)] at s50
  have hkl : (t.args.map a.ends).length = t.args.length := List.length_map _
  have hke : k = t.args.length := by omega
  have hE := N4 a ga hs64 hm t.name (t.args.map a.ends) (fun l hl => by
   obtain ⟨y, _, rfl⟩ := List.mem_map.1 hl
   exact a.ends_length y) (by omega)
  repeat' (first | (with_reducible first | refine W ?_ | refine Z0 ?_ | ((first | refine Wo fun K hK => ?_ | refine Wp ?_ | refine Wq ?_ | refine Wr ?_); (try simp only [go_sem, fN, seval, eT, iR, e2, s2, e3, s3, e5, s50, e9, e10, e11, hlt, hke, hkl, Nat.lt_irrefl, dT, dF, nL]); (repeat refine Ai ?_); (try (refine hK _ ?_; clear hK K)); try refine iC ?_)) | refine Cg _ (hE) ?_)
  simp only [go_sem, fN, seval, AR, AS.result, AF, AG, AQ]
  rw [Au.ends_eq, Au.endsL_eq]
theorem NN (a : Au) (ga : a.Good) (hs64 : a.states ≤ 64) (hl : a.last.length ≤ 100000) : AW Try.prog 31 [aAu a] (aU a.lastB) := by
 have hst := ga.states
 have h0 : bN (List.replicate a.states.toNat false) = 0 := LO _
 refine HE.ac fun C hC => ?_
 unfold EK
 repeat' with_reducible first | refine W ?_ | refine Z0 ?_ | ((first | refine Wo fun K hK => ?_ | refine Wp ?_ | refine Wq ?_ | refine Wr ?_); (try simp only [go_sem, fN, seval, eT, iR, dT, dF, nL]); (repeat refine Ai ?_); (try (refine hK _ ?_; clear hK K)); try refine iC ?_)
 refine IWP.loop (fun q s => ∃ k, k ≤ a.last.length ∧ q = a.last.length - k ∧ s.env 3 = aU ((a.last.take k).foldl (fun l s => l.set s.toNat true) (List.replicate a.states.toNat false)) ∧ s.env 7 = .one (.st (.list (a.last.map CU))) ∧ s.env 8 = AY a.last.length ∧ s.env 9 = AY k) a.last.length ⟨0, Nat.zero_le _, rfl, by simp [AH, h0], rfl, rfl, rfl⟩ ?_
 rintro q ⟨env, St⟩ ⟨k, hk, rfl, e3, e7, e8, e9⟩
 simp only at e3 e7 e8 e9
 by_cases hlt : (k : Int) < a.last.length
 ·obtain ⟨x, hx⟩ := Ah (show k < a.last.length by omega)
  have qx := ga.last x (AN hx)
  have hfold : (a.last.take (k + 1)).foldl (fun l s => l.set s.toNat true) (List.replicate a.states.toNat false) = ((a.last.take k).foldl (fun l s => l.set s.toNat true) (List.replicate a.states.toNat false)).set x.toNat true := by
   rw [Af hx, List.foldl_append]
   rfl
  have hfl := CO (a.last.take k) (List.replicate a.states.toNat false)
  rw [List.length_replicate] at hfl
  generalize (a.last.take k).foldl (fun l s => l.set s.toNat true) (List.replicate a.states.toNat false) = L at *
  have hor := MX (l := L) (i := x.toNat) (by omega)
  have hip := K5 (k := x.toNat) (by omega)
  have q64 : 0 ≤ x ∧ x.toNat ≤ 64 := by omega
  repeat' with_reducible first | refine W ?_ | refine Z0 ?_ | ((first | refine Wo fun K hK => ?_ | refine Wp ?_ | refine Wq ?_ | refine Wr ?_); (try simp only [go_sem, fN, seval, eT, iR, e3, e7, e8, e9, hlt, hx, ML, hip, q64, Int.toNat_natCast, HO, IntKind.bits, hor, dT, dF, nL]); (repeat refine Ai ?_); (try (refine hK _ ?_; clear hK K)); try refine iC ?_)
  refine AB ⟨a.last.length - (k + 1), by omega, k + 1, by omega, rfl, ?_⟩
  simp only [go_sem, fN, seval, eT, iR, e3, e7, e8, e9]
  simp [hfold]
 ·rw [List.take_of_length_le (l := a.last) (i := k) (by omega)] at e3
  have hle : a.lastB = a.last.foldl (fun l s => l.set s.toNat true) (List.replicate a.states.toNat false) := rfl
  rw [← hle] at e3
  repeat' with_reducible first | refine W ?_ | refine Z0 ?_ | ((first | refine Wo fun K hK => ?_ | refine Wp ?_ | refine Wq ?_ | refine Wr ?_); (try simp only [go_sem, fN, seval, eT, iR, e3, e7, e8, e9, hlt, dT, dF, nL]); (repeat refine Ai ?_); (try (refine hK _ ?_; clear hK K)); try refine iC ?_)
  simp only [go_sem, fN, seval, AR, AS.result, AF, AG, AQ, e3]

def sep (k : Nat) : ByteArray := if k = 0 then ⟨#[40]⟩ else ⟨#[44]⟩
mutual
def Tm.text : Tm → ByteArray
 | .mk n xs => n ++ Tm.textsFrom 0 xs ++ (if xs.length = 0 then ⟨#[]⟩ else ⟨#[41]⟩)
def Tm.textsFrom : Nat → List Tm → ByteArray
 | _, [] => ⟨#[]⟩
 | k, t :: ts => sep k ++ t.text ++ Tm.textsFrom (k+1) ts
end
theorem empty_append (b : ByteArray) : (⟨#[]⟩ : ByteArray) ++ b = b := ByteArray.empty_append
theorem append_empty (b : ByteArray) : b ++ (⟨#[]⟩ : ByteArray) = b := ByteArray.append_empty
theorem Tm.text_eq (t : Tm) : t.text = t.name ++ Tm.textsFrom 0 t.args ++ (if t.args.length = 0 then ⟨#[]⟩ else ⟨#[41]⟩) := by cases t; rfl
theorem Tm.textsFrom_snoc (a : Tm) : ∀ (k : Nat) (xs : List Tm), Tm.textsFrom k (xs ++ [a]) = Tm.textsFrom k xs ++ (sep (k + xs.length) ++ a.text)
 | k, [] => by simp [Tm.textsFrom, empty_append, append_empty]
 | k, t :: ts => by
  rw [List.cons_append, Tm.textsFrom, Tm.textsFrom_snoc a (k+1) ts, Tm.textsFrom, List.length_cons, show k + 1 + ts.length = k + (ts.length + 1) by omega]
  simp only [ByteArray.append_assoc]
theorem Tm.textsFrom_append : ∀ (k : Nat) (xs ys : List Tm), Tm.textsFrom k (xs ++ ys) = Tm.textsFrom k xs ++ Tm.textsFrom (k + xs.length) ys
 | k, [], ys => by simp [Tm.textsFrom, empty_append]
 | k, t :: ts, ys => by
  rw [List.cons_append, Tm.textsFrom, Tm.textsFrom_append (k+1) ts, Tm.textsFrom, List.length_cons, show k + 1 + ts.length = k + (ts.length + 1) by omega]
  simp only [ByteArray.append_assoc]
theorem Eb (k : Nat) : (sep k).size = 1 := by unfold sep; split <;> rfl
def Tm.ahead (t : Tm) (k : Nat) : ByteArray := t.name ++ Tm.textsFrom 0 (t.args.take k)
theorem Tm.ahead_zero (t : Tm) : t.ahead 0 = t.name := by simp [Tm.ahead, Tm.textsFrom, append_empty]
theorem Tm.ahead_succ {t : Tm} {k : Nat} {a : Tm} (h : t.args[k]? = some a) : t.ahead (k+1) = t.ahead k ++ sep k ++ a.text := by
 have hl := D7 h
 unfold Tm.ahead
 rw [Af h, Tm.textsFrom_snoc, List.length_take, Nat.min_eq_left (by omega), Nat.zero_add]
 simp only [ByteArray.append_assoc]
theorem Tm.ahead_all {t : Tm} {k : Nat} (h : k = t.args.length) : t.text = t.ahead k ++ (if k = 0 then ⟨#[]⟩ else ⟨#[41]⟩) := by
 subst h
 rw [Tm.text_eq, Tm.ahead, List.take_length]
theorem Tm.ahead_le (t : Tm) (k : Nat) : (t.ahead k).size ≤ t.text.size := by
 rw [Tm.text_eq, Tm.ahead]
 have : t.args = t.args.take k ++ t.args.drop k := (List.take_append_drop k t.args).symm
 conv => rhs; rw [this]
 rw [Tm.textsFrom_append]
 simp only [ByteArray.size_append]
 omega
theorem Fr {t : Tm} (h : Bb t = 0) : 1 ≤ t.name.size ∧ t.name.size ≤ 8 := by
 unfold Bb at h
 split at h
 ·split at h
  ·rename_i h1 _
   simp [Ak] at h1
   omega
  ·rename_i h1 _
   simp [Ak] at h1
   omega
 ·omega
mutual
theorem Tm.text_le : ∀ t : Tm, t.chk = 0 → t.text.size + 1 ≤ 10 * t.size
 | .mk n xs, h => by
  rw [Tm.chk_eq] at h
  split at h
  ·rename_i h0
   have h1 := Fr h0
   have h2 := Tm.textsFrom_le 0 xs h
   have h3 : (if xs.length = 0 then (⟨#[]⟩ : ByteArray) else ⟨#[41]⟩).size ≤ 1 := by split <;> simp [ByteArray.size]
   simp only [Tm.name] at h1
   simp only [Tm.text, Tm.size, ByteArray.size_append]
   omega
  ·omega
theorem Tm.textsFrom_le : ∀ (k : Nat) (xs : List Tm), Tm.chkL xs = 0 → (Tm.textsFrom k xs).size ≤ 10 * Tm.sizes xs
 | _, [], _ => by simp [Tm.textsFrom, Tm.sizes, ByteArray.size]
 | k, t :: ts, h => by
  rw [Tm.chkL] at h
  split at h
  ·rename_i h0
   have h1 := Tm.text_le t h0
   have h2 := Tm.textsFrom_le (k+1) ts h
   simp only [Tm.textsFrom, Tm.sizes, ByteArray.size_append, Eb]
   omega
  ·omega
end

def CR (a b : Tm) : Bool := if a.size = b.size then sLt a.text b.text else decide (a.size < b.size)
abbrev Av := List (Option Tm)
def By (best : Av) : List Int → Option (List Tm)
 | [] => some []
 | s :: ss => match best.getD s.toNat none with
  | none => none
  | some t => (By best ss).map (t :: ·)
def Mv.cand (best : Av) (m : Mv) : Option Tm := match By best m.frm with
 | none => none
 | some ts => if (Tm.mk m.name ts).size ≤ 2000 then some (.mk m.name ts) else none
def Mv.gain (best : Av) (m : Mv) : Option Tm := match m.cand best with
 | none => none
 | some t => match best.getD m.to_.toNat none with
  | none => some t
  | some b => if CR t b = true then some t else none
def Be (best : Av) (m : Mv) : Av := match m.gain best with
 | none => best
 | some t => best.set m.to_.toNat (some t)
def A4 (p : Av × Bool) (m : Mv) : Av × Bool := (Be p.1 m, p.2 || (m.gain p.1).isSome)
def Ek (ms : List Mv) (best : Av) : Av × Bool := ms.foldl A4 (best, false)
def Fq (ms : List Mv) : Nat → Av → Av → Prop
 | 0, best, out => Ek ms best = (out, false)
 | n + 1, best, out => (Ek ms best).2 = true ∧ Fq ms n (Ek ms best).1 out
def J2 (best : Av) (o : Option Tm) (s : Int) : Option Tm := match best.getD s.toNat none with
 | none => o
 | some t => match o with
  | none => some t
  | some u => if CR t u = true then some t else o
def Cc (best : Av) (ss : List Int) : Option Tm := ss.foldl (J2 best) none
theorem EU {best : Av} {s : Int} : ∀ {ss : List Int} {ts : List Tm}, By best ss = some ts → By best (ss ++ [s]) = (best.getD s.toNat none).map fun t => ts ++ [t]
 | [], ts, h => by
  cases h
  rw [List.nil_append, By]
  cases best.getD s.toNat none <;> rfl
 | x :: xs, ts, h => by
  rw [By] at h
  rw [List.cons_append, By]
  cases hx : best.getD x.toNat none with
  | none => rw [hx] at h; cases h
  | some t =>
   rw [hx] at h
   simp only at h ⊢
   cases hc : By best xs with
   | none => rw [hc] at h; cases h
   | some us =>
    rw [hc] at h
    cases h
    rw [EU hc]
    cases best.getD s.toNat none <;> rfl
theorem ER {best : Av} : ∀ {ss : List Int} {s : Int}, s ∈ ss → best.getD s.toNat none = none → By best ss = none
 | x :: xs, s, h, e => by
  rw [By]
  rcases List.mem_cons.1 h with h | h
  ·subst h
   rw [e]
  ·rw [ER h e]
   cases best.getD x.toNat none <;> rfl
theorem Hc {best : Av} : ∀ {ss : List Int} {ts : List Tm}, By best ss = some ts → ts.length = ss.length
 | [], ts, h => by cases h; rfl
 | x :: xs, ts, h => by
  rw [By] at h
  cases hx : best.getD x.toNat none with
  | none => rw [hx] at h; cases h
  | some t =>
   rw [hx] at h
   simp only at h
   cases hc : By best xs with
   | none => rw [hc] at h; cases h
   | some us =>
    rw [hc] at h
    cases h
    simp [Hc hc]
theorem Fb {best : Av} : ∀ {ss : List Int} {ts : List Tm}, By best ss = some ts → ∀ t ∈ ts, some t ∈ best
 | [], ts, h, t, ht => by cases h; cases ht
 | x :: xs, ts, h, t, ht => by
  rw [By] at h
  cases hx : best.getD x.toNat none with
  | none => rw [hx] at h; cases h
  | some u =>
   rw [hx] at h
   simp only at h
   cases hc : By best xs with
   | none => rw [hc] at h; cases h
   | some us =>
    rw [hc] at h
    cases h
    rcases List.mem_cons.1 ht with ht | ht
    ·subst ht
     rw [List.getD_eq_getElem?_getD] at hx
     cases hg : best[x.toNat]? with
     | none => rw [hg] at hx; cases hx
     | some o =>
      rw [hg] at hx
      cases hx
      exact List.mem_of_getElem? hg
    ·exact Fb hc t ht
theorem H4 (best : Av) (m : Mv) : (Be best m).length = best.length := by
 unfold Be
 split <;> simp
theorem Bn : ∀ (ms : List Mv) (p : Av × Bool), (ms.foldl A4 p).1.length = p.1.length
 | [], p => rfl
 | m :: ms, p => by rw [List.foldl_cons, Bn ms]; exact H4 _ _
def OkB (t : Tm) : Prop := t.chk = 0 ∧ t.size ≤ 2000
def Dj (best : Av) : Prop := ∀ t, some t ∈ best → OkB t
def IK (m : Mv) : Prop := (Ak m.name = true ∧ A6 m.name = false) ∧ m.frm.length ≤ 4
theorem Jz : ∀ {ts : List Tm}, (∀ t ∈ ts, t.chk = 0) → Tm.chkL ts = 0
 | [], _ => rfl
 | t :: ts, h => by rw [Tm.chkL, if_pos (h t (by simp))]; exact Jz fun x hx => h x (by simp [hx])
theorem Fd {best : Av} {m : Mv} {t : Tm} (h : m.gain best = some t) : m.cand best = some t := by
 unfold Mv.gain at h
 split at h
 ·cases h
 ·rename_i u hu
  split at h
  ·cases h
   exact hu
  ·split at h
   ·cases h
    exact hu
   ·cases h
theorem F_ {best : Av} (hb : Dj best) {m : Mv} (hm : IK m) {t : Tm} (h : m.cand best = some t) : OkB t := by
 unfold Mv.cand at h
 split at h
 ·cases h
 ·rename_i ts hts
  split at h
  ·rename_i hs
   cases h
   refine ⟨?_, hs⟩
   have hl := Hc hts
   have h1 : Bb (.mk m.name ts) = 0 := by
    unfold Bb
    simp [Tm.name, hm.1.1, hm.1.2]
   rw [Tm.chk_eq, if_pos h1]
   exact Jz fun x hx => (hb x (Fb hts x hx)).1
  ·cases h
theorem JN {best : Av} (hb : Dj best) {m : Mv} (hm : IK m) : Dj (Be best m) := by
 unfold Be
 split
 ·exact hb
 ·rename_i t ht
  intro x hx
  rcases List.mem_or_eq_of_mem_set hx with hx | hx
  ·exact hb x hx
  ·cases hx
   exact F_ hb hm (Fd ht)
theorem CJ : ∀ {ms : List Mv} {p : Av × Bool}, Dj p.1 → (∀ m ∈ ms, IK m) → Dj (ms.foldl A4 p).1
 | [], p, h, _ => h
 | m :: ms, p, h, hm => by
  rw [List.foldl_cons]
  exact CJ (JN h (hm m (by simp))) fun x hx => hm x (by simp [hx])
def F8 : Nat → List UInt8 → Nat
 | 0, _ => 0
 | _ + 1, [] => 0
 | L + 1, c :: cs => (c.toNat + 1) * 257 ^ L + F8 L cs
theorem GD : ∀ (L : Nat) (l : List UInt8), F8 L l < 257 ^ L
 | 0, _ => by simp [F8]
 | L + 1, [] => by
  rw [F8]
  exact Nat.pow_pos (by omega)
 | L + 1, c :: cs => by
  have h1 := GD L cs
  have h2 : c.toNat < 256 := c.toNat_lt
  have h3 : (c.toNat + 1) * 257 ^ L ≤ 256 * 257 ^ L := Nat.mul_le_mul_right _ (by omega)
  rw [F8, Nat.pow_succ]
  omega
theorem Ha : ∀ {L : Nat} {a b : List UInt8}, b.length ≤ L → Op.bytesLess a b = true → F8 L a < F8 L b
 | _, a, [], _, h => by simp [Op.bytesLess] at h
 | 0, a, y :: ys, hl, h => by simp at hl
 | L + 1, [], y :: ys, hl, h => by
  rw [F8, F8]
  have := Nat.pow_pos (n := L) (show 0 < 257 by omega)
  have h3 : 1 * 257 ^ L ≤ (y.toNat + 1) * 257 ^ L := Nat.mul_le_mul_right _ (by omega)
  omega
 | L + 1, x :: xs, y :: ys, hl, h => by
  simp only [Op.bytesLess, Bool.or_eq_true, Bool.and_eq_true, decide_eq_true_eq, beq_iff_eq] at h
  rw [F8, F8]
  rcases h with h | ⟨rfl, h⟩
  ·have h0 : x.toNat < y.toNat := h
   have h1 := GD L xs
   have h3 : (x.toNat + 1 + 1) * 257 ^ L ≤ (y.toNat + 1) * 257 ^ L := Nat.mul_le_mul_right _ (by omega)
   rw [Nat.add_mul (x.toNat + 1) 1] at h3
   omega
  ·have := Ha (by simpa using hl) h
   omega
def JM (L : Nat) (t : Tm) : Nat := t.size * 257 ^ L + F8 L t.text.toList
theorem Kg {L : Nat} {a b : Tm} (hb : b.text.toList.length ≤ L) (h : CR a b = true) : JM L a < JM L b := by
 unfold CR at h
 unfold JM
 split at h
 ·rename_i e
  have := Ha hb h
  rw [e]
  omega
 ·have h0 := of_decide_eq_true h
  have h1 := GD L a.text.toList
  have h2 : (a.size + 1) * 257 ^ L ≤ b.size * 257 ^ L := Nat.mul_le_mul_right _ h0
  rw [Nat.add_mul] at h2
  omega
def Hd (L : Nat) : Option Tm → Nat
 | none => 2001 * 257 ^ L
 | some t => JM L t
theorem Lf {L : Nat} {t : Tm} (h : t.size ≤ 2000) : Hd L (some t) < Hd L none := by
 have h1 := GD L t.text.toList
 have h2 : (t.size + 1) * 257 ^ L ≤ 2001 * 257 ^ L := Nat.mul_le_mul_right _ (by omega)
 rw [Nat.add_mul] at h2
 simp only [Hd, JM]
 omega
def DA (L : Nat) (best : Av) : Nat := (best.map (Hd L)).sum
theorem H3 {L : Nat} : ∀ {best : Av} {i : Nat} {o o' : Option Tm}, best[i]? = some o → Hd L o' < Hd L o → DA L (best.set i o') < DA L best
 | [], i, o, o', h, _ => by simp at h
 | x :: xs, 0, o, o', h, hl => by
  simp only [List.getElem?_cons_zero, Option.some.injEq] at h
  subst h
  simp only [DA, List.set_cons_zero, List.map_cons, List.sum_cons]
  omega
 | x :: xs, i + 1, o, o', h, hl => by
  have := H3 (best := xs) (i := i) (by simpa using h) hl
  simp only [DA, List.set_cons_succ, List.map_cons, List.sum_cons] at this ⊢
  omega
@[irreducible] def F6 : Nat := 20000
theorem OL : F6 = 20000 := by unfold F6; rfl
theorem DX {t : Tm} (h : OkB t) : t.text.size ≤ 20000 := by
 have h1 := Tm.text_le t h.1
 have := h.2
 omega
theorem OU {t : Tm} (h : OkB t) : t.text.toList.length ≤ F6 := by
 have := DX h
 rw [Lib.toList_data, Array.length_toList, OL]
 exact this
theorem KZ {best : Av} (hb : Dj best) {m : Mv} (hm : IK m) (ht : m.to_.toNat < best.length) : (m.gain best).isSome = true → DA F6 (Be best m) < DA F6 best := by
 intro h
 unfold Be
 cases hg : m.gain best with
 | none => rw [hg] at h; cases h
 | some t =>
  have hok := F_ hb hm (Fd hg)
  obtain ⟨o, ho⟩ : ∃ o, best[m.to_.toNat]? = some o := ⟨_, List.getElem?_eq_getElem ht⟩
  have hd : best.getD m.to_.toNat none = o := by rw [List.getD_eq_getElem?_getD, ho]; rfl
  refine H3 ho ?_
  cases o with
  | none => exact Lf hok.2
  | some b =>
   unfold Mv.gain at hg
   rw [Fd (best := best) (m := m) (t := t) (by unfold Mv.gain; exact hg), hd] at hg
   simp only at hg
   split at hg
   ·rename_i hl
    exact Kg (OU (hb b (List.mem_of_getElem? ho))) hl
   ·cases hg
theorem Ke {best : Av} {m : Mv} (h : (m.gain best).isSome = false) : Be best m = best := by
 unfold Be
 cases hg : m.gain best with
 | none => rfl
 | some t => rw [hg] at h; cases h
theorem Gi : ∀ {ms : List Mv} {p : Av × Bool}, Dj p.1 → (∀ m ∈ ms, IK m ∧ m.to_.toNat < p.1.length) → DA F6 (ms.foldl A4 p).1 ≤ DA F6 p.1 ∧ ((ms.foldl A4 p).2 = true → p.2 = true ∨ DA F6 (ms.foldl A4 p).1 < DA F6 p.1)
 | [], p, _, _ => ⟨Nat.le_refl _, fun h => .inl h⟩
 | m :: ms, p, h, hm => by
  have hm0 := hm m (by simp)
  obtain ⟨h1, h2⟩ := Gi (ms := ms) (p := A4 p m) (JN h hm0.1) fun x hx => ⟨(hm x (by simp [hx])).1, by
   show _ < (Be p.1 m).length
   rw [H4]
   exact (hm x (by simp [hx])).2⟩
  rw [List.foldl_cons]
  have e1 : (A4 p m).1 = Be p.1 m := rfl
  have e2 : (A4 p m).2 = (p.2 || (m.gain p.1).isSome) := rfl
  rw [e1] at h1 h2
  rw [e2] at h2
  cases hg : (m.gain p.1).isSome with
  | true =>
   have h3 := KZ h hm0.1 hm0.2 hg
   exact ⟨by omega, fun _ => .inr (by omega)⟩
  | false =>
   rw [hg, Bool.or_false] at h2
   rw [Ke hg] at h1 h2
   exact ⟨h1, h2⟩
theorem LM {ms : List Mv} : ∀ (N : Nat) (best : Av), Dj best → (∀ m ∈ ms, IK m ∧ m.to_.toNat < best.length) → DA F6 best < N → ∃ n out, Fq ms n best out
 | 0, _, _, _, h => absurd h (by omega)
 | N + 1, best, hb, hm, hN => by
  cases hp : (Ek ms best).2 with
  | false => exact ⟨0, (Ek ms best).1, by show Ek ms best = _; rw [← hp]⟩
  | true =>
   obtain ⟨_, h2⟩ := Gi (ms := ms) (p := (best, false)) hb hm
   rcases h2 hp with h | h
   ·cases h
   ·have hl : (Ek ms best).1.length = best.length := Bn ms (best, false)
    obtain ⟨n, out, hn⟩ := LM N (Ek ms best).1 (CJ hb fun m h => (hm m h).1) (fun m h => by rw [hl]; exact hm m h) (by
     have h : DA F6 (Ek ms best).1 < DA F6 best := h
     omega)
    exact ⟨n + 1, out, hp, hn⟩
theorem G6 {ms : List Mv} (hm : ∀ m ∈ ms, IK m) : ∀ {n : Nat} {best out : Av}, Dj best → Fq ms n best out → Dj out ∧ out.length = best.length
 | 0, best, out, hb, h => by
  have h : Ek ms best = (out, false) := h
  have h1 := CJ (ms := ms) (p := (best, false)) hb hm
  have h2 := Bn ms (best, false)
  have e : (ms.foldl A4 (best, false)).1 = out := congrArg Prod.fst h
  rw [e] at h1 h2
  exact ⟨h1, h2⟩
 | n + 1, best, out, hb, h => by
  have h1 := CJ (ms := ms) (p := (best, false)) hb hm
  have h2 := Bn ms (best, false)
  obtain ⟨q1, q2⟩ := G6 hm h1 h.2
  exact ⟨q1, q2.trans h2⟩
def B5 (a : Au) : Av := List.replicate a.states.toNat none
theorem DW (a : Au) : Dj (B5 a) := fun t h => by
 have := List.eq_of_mem_replicate h
 cases this
theorem OR {a : Au} (ha : a.may 8 40 = 0) : ∃ n out, Fq a.moves n (B5 a) out := by
 obtain ⟨_, h2, _⟩ := Au.may_ok.1 ha
 have ga := Au.may_good ha
 refine LM _ (B5 a) (DW a) (fun m hm => ?_) (Nat.lt_succ_self _)
 have h := Mv.err_ok.1 (h2 m hm)
 have := ga.to_ m hm
 refine ⟨⟨h.1, h.2.1⟩, ?_⟩
 simp only [B5, List.length_replicate]
 omega

theorem Hh {ts : List ByteArray} : ∀ x ∈ ts.map C_, x.length = 1 := by
 intro x hx
 obtain ⟨a, _, rfl⟩ := List.mem_map.1 hx
 rfl
theorem NL (t : Tm) (hz : t.size ≤ 1000000) : AW Try.prog 9 [aTm t] (Fx t.varsOf) := by
 have hl := Tm.knots_length t
 refine Jk.ac fun C hC => ?_
 unfold Fy
 repeat' (first | (with_reducible first | refine W ?_ | refine Z0 ?_ | ((first | refine Wo fun K hK => ?_ | refine Wq ?_ | refine Wr ?_); (try simp only [go_sem, fN, seval, eT, iR]); (repeat refine Ai ?_); (try (refine hK _ ?_; clear hK K)))) | refine Cg _ (LK t hz) ?_)
 refine IWP.ghost (Ad.own 4 37 9 1 (xs := ([] : List ByteArray).map C_) rfl rfl Hh (by omega)) ?_
 refine IWP.loopD [] (fun m s => ∃ k, k ≤ t.knots.length ∧ m = t.knots.length - k ∧ s.env 3 = NO t.knots ∧ s.env 4 = .one (.row 37 (Ac [] (t.knots.take k)).length) ∧ s.S 37 = some (.arow 9 1 ((Ac [] (t.knots.take k)).map C_)) ∧ s.env 5 = AY k)
  t.knots.length ⟨0, Nat.zero_le _, rfl, rfl, rfl, rfl, rfl⟩ ?_
 rintro m ⟨env, S⟩ ⟨k, hk, rfl, e3, e4, s37, e5⟩
 simp only at e3 e4 s37 e5
 have hlen := Ci (t.knots.take k) []
 rw [List.length_take, List.length_nil] at hlen
 by_cases hlt : (k : Int) < t.knots.length
 ·obtain ⟨a, ha⟩ := Ah (show k < t.knots.length by omega)
  repeat' with_reducible first | refine W ?_ | refine Z0 ?_ | ((first | refine Wo fun K hK => ?_ | refine Wq ?_ | refine Wr ?_); (try simp only [go_sem, fN, seval, eT, iR, e3, e4, s37, e5, hlt]); (repeat refine Ai ?_); (try (refine hK _ ?_; clear hK K)))
  with_reducible refine Wp ?_
  simp only [go_sem, fN, seval, true_implies, false_implies, implies_true, dT, dF, nL, hlt]
  (try with_reducible refine iC ?_)
  repeat' with_reducible first | refine W ?_ | refine Z0 ?_ | ((first | refine Wo fun K hK => ?_ | refine Wq ?_ | refine Wr ?_); (try simp only [go_sem, fN, seval, eT, iR, e3, e4, s37, e5, ha]); (repeat refine Ai ?_); (try (refine hK _ ?_; clear hK K)))
  refine ⟨_, Em _, ?_⟩
  have hstep : Ac [] (t.knots.take (k + 1)) = BG (Ac [] (t.knots.take k)) a.name := by rw [Af ha, IN]
  cases hv : A6 a.name with
  | false =>
   rw [H6 hv] at hstep
   repeat' with_reducible first | refine W ?_ | refine Z0 ?_ | ((first | refine Wo fun K hK => ?_ | refine Wq ?_ | refine Wr ?_); (try simp only [go_sem, fN, seval, eT, iR, e3, e4, s37, e5, ha]); (repeat refine Ai ?_); (try (refine hK _ ?_; clear hK K)))
   with_reducible refine Wp ?_
   simp only [go_sem, fN, seval, true_implies, false_implies, implies_true, dT, dF, nL]
   (try with_reducible refine iC ?_)
   repeat' with_reducible first | refine W ?_ | refine Z0 ?_ | ((first | refine Wo fun K hK => ?_ | refine Wq ?_ | refine Wr ?_); (try simp only [go_sem, fN, seval, eT, iR, e3, e4, s37, e5]); (repeat refine Ai ?_); (try (refine hK _ ?_; clear hK K)))
   refine AB ⟨t.knots.length - (k + 1), by omega, k + 1, by omega, rfl, ?_⟩
   simp only [go_sem, fN, seval, AS.drop, Ag, AC.clears, AC.clear, AC.highs, AC.high, Bool.not_false, Bool.true_and, Bool.and_self, AV.purge, AV.purges, AC.purge, AJ.purge, List.contains_cons, List.contains_nil, Nat.reduceBEq, Bool.or_self, Bool.or_false, Bool.false_or, Bool.or_true, eT, iR, e3, e4, s37, e5, hstep]
   congr 3
  | true =>
   repeat' with_reducible first | refine W ?_ | refine Z0 ?_ | ((first | refine Wo fun K hK => ?_ | refine Wq ?_ | refine Wr ?_); (try simp only [go_sem, fN, seval, eT, iR, e3, e4, s37, e5, ha]); (repeat refine Ai ?_); (try (refine hK _ ?_; clear hK K)))
   refine ⟨_, O8 _ _, ?_⟩
   cases hi : EA a.name (Ac [] (t.knots.take k)) with
   | true =>
    rw [Hb hi] at hstep
    repeat' with_reducible first | refine W ?_ | refine Z0 ?_ | ((first | refine Wo fun K hK => ?_ | refine Wq ?_ | refine Wr ?_); (try simp only [go_sem, fN, seval, eT, iR, e3, e4, s37, e5]); (repeat refine Ai ?_); (try (refine hK _ ?_; clear hK K)))
    with_reducible refine Wp ?_
    simp only [go_sem, fN, seval, true_implies, false_implies, implies_true, dT, dF, nL]
    (try with_reducible refine iC ?_)
    repeat' with_reducible first | refine W ?_ | refine Z0 ?_ | ((first | refine Wo fun K hK => ?_ | refine Wq ?_ | refine Wr ?_); (try simp only [go_sem, fN, seval, eT, iR, e3, e4, s37, e5]); (repeat refine Ai ?_); (try (refine hK _ ?_; clear hK K)))
    refine AB ⟨t.knots.length - (k + 1), by omega, k + 1, by omega, rfl, ?_⟩
    simp only [go_sem, fN, seval, AS.drop, Ag, AC.clears, AC.clear, AC.highs, AC.high, Bool.not_false, Bool.true_and, Bool.and_self, AV.purge, AV.purges, AC.purge, AJ.purge, List.contains_cons, List.contains_nil, Nat.reduceBEq, Bool.or_self, Bool.or_false, Bool.false_or, Bool.or_true, eT, iR, e3, e4, s37, e5, hstep]
    congr 3
   | false =>
    rw [HA hv hi] at hstep
    repeat' with_reducible first | refine W ?_ | refine Z0 ?_ | ((first | refine Wo fun K hK => ?_ | refine Wq ?_ | refine Wr ?_); (try simp only [go_sem, fN, seval, eT, iR, e3, e4, s37, e5]); (repeat refine Ai ?_); (try (refine hK _ ?_; clear hK K)))
    with_reducible refine Wp ?_
    simp only [go_sem, fN, seval, true_implies, false_implies, implies_true, dT, dF, nL]
    (try with_reducible refine iC ?_)
    repeat' with_reducible first | refine W ?_ | refine Z0 ?_ | ((first | refine Wo fun K hK => ?_ | refine Wq ?_ | refine Wr ?_); (try simp only [go_sem, fN, seval, eT, iR, e3, e4, s37, e5, ha]); (repeat refine Ai ?_); (try (refine hK _ ?_; clear hK K)))
    refine AB ⟨t.knots.length - (k + 1), by omega, k + 1, by omega, rfl, ?_⟩
    simp only [go_sem, fN, seval, AS.drop, Ag, AC.clears, AC.clear, AC.highs, AC.high, Bool.not_false, Bool.true_and, Bool.and_self, AV.purge, AV.purges, AC.purge, AJ.purge, List.contains_cons, List.contains_nil, Nat.reduceBEq, Bool.or_self, Bool.or_false, Bool.false_or, Bool.or_true, eT, iR, e3, e4, s37, e5, hstep]
    exact ⟨by rw [List.map_append]; rfl, by congr 3⟩
 ·repeat' with_reducible first | refine W ?_ | refine Z0 ?_ | ((first | refine Wo fun K hK => ?_ | refine Wq ?_ | refine Wr ?_); (try simp only [go_sem, fN, seval, eT, iR, e3, e4, s37, e5, hlt]); (repeat refine Ai ?_); (try (refine hK _ ?_; clear hK K)))
  with_reducible refine Wp ?_
  simp only [go_sem, fN, seval, true_implies, false_implies, implies_true, dT, dF, nL, hlt]
  (try with_reducible refine iC ?_)
  repeat' with_reducible first | refine W ?_ | refine Z0 ?_ | ((first | refine Wo fun K hK => ?_ | refine Wq ?_ | refine Wr ?_); (try simp only [go_sem, fN, seval, eT, iR, e4, s37]); (repeat refine Ai ?_); (try (refine hK _ ?_; clear hK K)))
  simp only [go_sem, fN, seval, AR, AS.result, AF, AG, AQ, e4, s37]
  rw [List.take_of_length_le (by omega)]
  rfl
theorem EQ {α : Type} (f : Nat → α) (i : Nat) (a b : α) : AH (AH f i a) i b = AH f i b := by
 funext k
 unfold AH
 split <;> rfl
theorem Ht {α : Type} (f : Nat → α) {i j : Nat} (h : ¬ i = j) (a b : α) : AH (AH f i a) j b = AH (AH f j b) i a := by
 funext k
 unfold AH
 split
 ·rename_i e
  subst e
  rw [if_neg (fun e => h e.symm)]
 ·rfl
theorem H1 (t : Tm) (hz : t.size ≤ 1000000)
  (ih : ∀ a ∈ t.args, ∀ (i : Nat) (l : List ByteArray) (S : AA), 1000 ≤ i → l.length + a.size ≤ 3000000 → S i = some (.arow 9 1 (l.map C_)) →
   Ap Try.prog 43 [aTm a, .one (.row i l.length)] S (.one (.row i (Ac l a.knots).length)) (AH S i (some (.arow 9 1 ((Ac l a.knots).map C_)))))
  (C : Ctx) (hC : C.n = 34) (i : Nat) (hi : 20 < i) (l : List ByteArray) (hlz : l.length + t.size ≤ 3000000) (S : AA) (hS : An S) (env : Nat → AV) (e0 : env 0 = aTm t) (e1 : env 1 = .one (.row i l.length))
  (Q : AX → AS → Prop) (hQ : ∀ env', env' 4 = .one (.row i (Ac l t.knots).length) → Q .ret ⟨env', AH (AH S 2 (some (.box 28 [.st (.str t.name), .st (.list (t.args.map BC))]))) i (some (.arow 9 1 ((Ac l t.knots).map C_)))⟩) :
  IWP Try.prog C [31] DP Q ⟨env, AH S i (some (.arow 9 1 (l.map C_)))⟩ := by
 have hs := Tm.size_eq t
 have hk := Tm.knots_eq t
 have hc2 := Bl hS (i := 2) (by omega)
 have hc6 := Bl hS (i := 6) (by omega)
 have hi2 : ¬ 2 = i := by omega
 have hi6 : ¬ 6 = i := by omega
 have hi2' : ¬ i = 2 := by omega
 have hi6' : ¬ i = 6 := by omega
 unfold DP
 have hlk : ∀ k, (Ac (BG l t.name) (Tm.knotsL (t.args.take k))).length ≤ l.length + 1 + Tm.sizes (t.args.take k) := fun k => by
  have h1 := Ci (Tm.knotsL (t.args.take k)) (BG l t.name)
  have h2 := EG l t.name
  have h3 := Tm.knotsL_length (t.args.take k)
  omega
 repeat' with_reducible first | refine W ?_ | refine Z0 ?_ | ((first | refine Wo fun K hK => ?_ | refine Wq ?_ | refine Wr ?_); (try simp only [go_sem, fN, seval, eT, iR, e0, e1, hc2, hi2, hi6, hi2', hi6']); (repeat refine Ai ?_); (try (refine hK _ ?_; clear hK K)))
 refine ⟨_, Cf _, ?_⟩
 rcases (show A6 t.name = false ∨ (A6 t.name = true ∧ EA t.name l = true) ∨ (A6 t.name = true ∧ EA t.name l = false) by cases A6 t.name <;> cases EA t.name l <;> simp) with hv | ⟨hv, hin⟩ | ⟨hv, hin⟩
 case' inl =>
  have hl1 := H6 (l := l) hv
  repeat' with_reducible first | refine W ?_ | refine Z0 ?_ | ((first | refine Wo fun K hK => ?_ | refine Wq ?_ | refine Wr ?_); (try simp only [go_sem, fN, seval, eT, iR, e0, e1, hv, hi2, hi2']); (repeat refine Ai ?_); (try (refine hK _ ?_; clear hK K)))
  with_reducible refine Wp ?_
  simp only [go_sem, fN, seval, true_implies, false_implies, implies_true, dT, dF, nL, hv]
  (try with_reducible refine iC ?_)
  repeat' with_reducible first | refine W ?_ | refine Z0 ?_ | ((first | refine Wo fun K hK => ?_ | refine Wq ?_ | refine Wr ?_); (try simp only [go_sem, fN, seval, eT, iR, e0, e1, hi2, hi2']); (repeat refine Ai ?_); (try (refine hK _ ?_; clear hK K)))
 case' inr.inl =>
  have hl1 := Hb (l := l) hin
  repeat' (first | (with_reducible first | refine W ?_ | refine Z0 ?_ | ((first | refine Wo fun K hK => ?_ | refine Wq ?_ | refine Wr ?_); (try simp only [go_sem, fN, seval, eT, iR, e0, e1, hv, hi2, hi2', hin]); (repeat refine Ai ?_); (try (refine hK _ ?_; clear hK K)))) | refine Cg _ (Gf _ _) ?_)
  with_reducible refine Wp ?_
  simp only [go_sem, fN, seval, true_implies, false_implies, implies_true, dT, dF, nL, hv]
  (try with_reducible refine iC ?_)
  repeat' with_reducible first | refine W ?_ | refine Z0 ?_ | ((first | refine Wo fun K hK => ?_ | refine Wq ?_ | refine Wr ?_); (try simp only [go_sem, fN, seval, eT, iR, e0, e1, hi2, hi2']); (repeat refine Ai ?_); (try (refine hK _ ?_; clear hK K)))
 case' inr.inr =>
  have hl1 := HA (l := l) hv hin
  repeat' (first | (with_reducible first | refine W ?_ | refine Z0 ?_ | ((first | refine Wo fun K hK => ?_ | refine Wq ?_ | refine Wr ?_); (try simp only [go_sem, fN, seval, eT, iR, e0, e1, hv, hi2, hi2', hin]); (repeat refine Ai ?_); (try (refine hK _ ?_; clear hK K)))) | refine Cg _ (Gf _ _) ?_)
  with_reducible refine Wp ?_
  simp only [go_sem, fN, seval, true_implies, false_implies, implies_true, dT, dF, nL, hv]
  (try with_reducible refine iC ?_)
  repeat' with_reducible first | refine W ?_ | refine Z0 ?_ | ((first | refine Wo fun K hK => ?_ | refine Wq ?_ | refine Wr ?_); (try simp only [go_sem, fN, seval, eT, iR, e0, e1, hi2, hi2']); (repeat refine Ai ?_); (try (refine hK _ ?_; clear hK K)))
 all_goals
  refine IWP.loopD [6] (fun m s => ∃ k, k ≤ t.args.length ∧ m = t.args.length - k ∧ s.env 1 = .one (.row i (Ac (BG l t.name) (Tm.knotsL (t.args.take k))).length) ∧ s.env 23 = .one (.st (.list (t.args.map BC))) ∧ s.env 24 = AY t.args.length ∧ s.env 25 = AY k ∧ s.S = AH (AH S 2 (some (.box 28 [.st (.str t.name), .st (.list (t.args.map BC))]))) i (some (.arow 9 1 ((Ac (BG l t.name) (Tm.knotsL (t.args.take k))).map C_)))) t.args.length ⟨0, Nat.zero_le _, rfl, ?_, rfl, rfl, rfl, ?_⟩ ?_
  ·show _ = AV.one (.row i (BG l t.name).length)
   rw [hl1]
   simp only [go_sem, fN, seval, eT, iR, e1]
  ·show _ = AH (AH S 2 _) i (some (.arow 9 1 ((BG l t.name).map C_)))
   rw [hl1]
   first
    | (simp only [EQ]; exact Ht _ hi2' _ _)
    | (simp only [Ht _ hi2', EQ, List.map_append]; rfl)
  rintro m ⟨env', S'⟩ ⟨k, hk', rfl, e1', e23, e24, e25, hS'⟩
  simp only at e1' e23 e24 e25 hS'
  have s6 : S' 6 = none := by rw [hS', AK _ hi6, AK _ (by omega), hc6]
  have si : S' i = some (.arow 9 1 ((Ac (BG l t.name) (Tm.knotsL (t.args.take k))).map C_)) := by rw [hS', AD]
  have hlk' := hlk k
  have z3 := Tm.length_le t.args
  by_cases hlt : (k : Int) < t.args.length
  ·obtain ⟨a, ha⟩ := Ah (show k < t.args.length by omega)
   have z1 := Tm.sizes_take ha
   have z2 := Tm.sizes_take_le t.args (k + 1)
   repeat' with_reducible first | refine W ?_ | refine Z0 ?_ | ((first | refine Wo fun K hK => ?_ | refine Wq ?_ | refine Wr ?_); (try simp only [go_sem, fN, seval, eT, iR, e1', e23, e24, e25, s6, si, hlt]); (repeat refine Ai ?_); (try (refine hK _ ?_; clear hK K)))
   with_reducible refine Wp ?_
   simp only [go_sem, fN, seval, true_implies, false_implies, implies_true, dT, dF, nL, e1', e23, e24, e25, s6, si, hlt]
   (try with_reducible refine iC ?_)
   repeat' with_reducible first | refine W ?_ | refine Z0 ?_ | ((first | refine Wo fun K hK => ?_ | refine Wq ?_ | refine Wr ?_); (try simp only [go_sem, fN, seval, eT, iR, e1', e23, e24, e25, s6, si, ha]); (repeat refine Ai ?_); (try (refine hK _ ?_; clear hK K)))
   have hni : ([6] : List Nat).contains i = false := by simp; omega
   refine ⟨_, _, ih a (AN ha) (up1 i) _ _ (BX i) (by omega) (by rw [Ce, AK _ hi6', AK _ hi6', si]; rfl), ?_⟩
   repeat' with_reducible first | refine W ?_ | refine Z0 ?_ | ((first | refine Wo fun K hK => ?_ | refine Wq ?_ | refine Wr ?_); (try simp only [go_sem, fN, seval, eT, iR, e23, e24, e25]); (repeat refine Ai ?_); (try (refine hK _ ?_; clear hK K)))
   refine AB ⟨t.args.length - (k + 1), by omega, k + 1, by omega, rfl, ?_⟩
   have hib : (i == 6) = false := by simp; omega
   simp only [go_sem, fN, seval, AS.drop, AC.clears, AC.clear, AC.highs, AC.high, Bool.not_false, Bool.true_and, Bool.and_self, AV.purge, AV.purges, AC.purge, AJ.purge, List.contains_cons, List.contains_nil, Nat.reduceBEq, Bool.or_self, Bool.or_false, Bool.false_or, Bool.or_true, eT, iR, e23, e24, hib]
   rw [Tm.knotsL_take ha, HB]
   refine ⟨rfl, by congr 3, ?_⟩
   rw [FL hni, Jp rfl, Jp rfl, hS', FL hni, FL rfl, JJ (by decide) hS, EQ]
   rfl
  ·repeat' with_reducible first | refine W ?_ | refine Z0 ?_ | ((first | refine Wo fun K hK => ?_ | refine Wq ?_ | refine Wr ?_); (try simp only [go_sem, fN, seval, eT, iR, e1', e23, e24, e25, hlt]); (repeat refine Ai ?_); (try (refine hK _ ?_; clear hK K)))
   with_reducible refine Wp ?_
   simp only [go_sem, fN, seval, true_implies, false_implies, implies_true, dT, dF, nL, e1', e23, e24, e25, hlt]
   (try with_reducible refine iC ?_)
   repeat' with_reducible first | refine W ?_ | refine Z0 ?_ | ((first | refine Wo fun K hK => ?_ | refine Wq ?_ | refine Wr ?_); (try simp only [go_sem, fN, seval, eT, iR, e1']); (repeat refine Ai ?_); (try (refine hK _ ?_; clear hK K)))
   rw [hS']
   have hfin : Ac (BG l t.name) (Tm.knotsL (t.args.take k)) = Ac l t.knots := by rw [List.take_of_length_le (by omega), hk]; rfl
   rw [hfin]
   refine hQ _ ?_
   simp only [go_sem, fN, seval, eT, iR]
theorem MB {α : Type} {f : Nat → α} {i : Nat} {a : α} (h : f i = a) : AH f i a = f := by
 funext k
 unfold AH
 split
 ·rename_i e
  rw [e, h]
 ·rfl
theorem NT (t : Tm) (hz : t.size ≤ 1000000) : ∀ (i : Nat) (l : List ByteArray) (S : AA), 1000 ≤ i → l.length + t.size ≤ 3000000 → S i = some (.arow 9 1 (l.map C_)) →
   Ap Try.prog 43 [aTm t, .one (.row i l.length)] S (.one (.row i (Ac l t.knots).length)) (AH S i (some (.arow 9 1 ((Ac l t.knots).map C_)))) := by
 induction h : SizeOf.sizeOf t using Nat.strongRecOn generalizing t with
 | _ N ih =>
 subst h
 have hs := Tm.size_eq t
 intro i l S hi hl hSi
 refine Ef.acS fun hS C hC => ?_
 have hcore := H1 t hz (fun a ha => ih _ (Tm.lt_of_arg ha) a (by have := Tm.size_mem ha; omega) rfl) C hC i (by omega) l hl S hS (fun j => ([aTm t, .one (.row i l.length)][j]?).getD (.tup [])) rfl rfl
  (FF C [.t 4] (.one (.row i (Ac l t.knots).length)) (AH S i (some (.arow 9 1 ((Ac l t.knots).map C_))))) ?_
 ·rw [MB hSi] at hcore
  exact hcore
 ·intro env' e4
  have hc' : An (AH S i (some (.arow 9 1 ((Ac l t.knots).map C_)))) := B8 hS hi rfl
  refine K0 trivial ⟨_, Ad.low (MO (FX (by omega) fun k c _ hk => (hS k c hk).2) rfl), ?_, ?_, hc'⟩
  ·simp only [AF, AG, AQ, e4, AV.low, AV.high, AC.high, hi, decide_true, if_true, Option.map_some]
  ·show Bt _ = _
   rw [LZ _ hi, GZ _ (by omega), Gu hS]
theorem Mj (t : Tm) (hz : t.size ≤ 1000000) (a0 : Nat) (S : AA) (ha : 1000 ≤ a0) (hSa : S a0 = none) :
   Ap Try.prog 43 [aTm t, .one (.full [])] S (.one (.row a0 (Ac [] t.knots).length)) (AH S a0 (some (.arow 9 1 ((Ac [] t.knots).map C_)))) := by
 have hs := Tm.size_eq t
 refine Ef.acS fun hS C hC => ?_
 refine IWP.ghost (Ad.own 1 21 9 1 (xs := ([] : List ByteArray).map C_) rfl (Bl hS (by omega)) Hh (by omega)) ?_
 refine H1 t hz (fun a ha => NT a (by have := Tm.size_mem ha; omega)) C hC 21 (by omega) [] (by simp; omega) S hS _ rfl rfl _ ?_
 intro env' e4
 have hb : ∀ i b, 1000 ≤ i → AH (AH S 2 (some (.box 28 [.st (.str t.name), .st (.list (t.args.map BC))]))) 21 (some (.arow 9 1 ((Ac [] t.knots).map C_))) i = some b → b.high = true := FX (by omega) (FX (by omega) fun k c _ hk => (hS k c hk).2)
 refine K0 trivial ⟨_, Ad.hand 21 a0 (b0 := .arow 9 1 ((Ac [] t.knots).map C_)) (by omega) ha (by show AH _ _ _ _ = _; rw [AK _ (by omega), AK _ (by omega), hSa]) (by simp only [AD]) rfl hb, ?_, ?_, B8 hS ha rfl⟩
 ·simp only [AF, AG, AQ, e4, AV.hand, AV.ren, AC.ren, BB, if_true, AV.high, AC.high, ha, decide_true, Option.map_some]
 ·show AH (Bt _) _ _ = _
  rw [GZ _ (by omega), GZ _ (by omega), Gu hS]
theorem J9 (t : Tm) (hz : t.size ≤ 1000000) : AW Try.prog 29 [aTm t] (Fx t.varsOf) := by
 refine Ia.ac fun C hC => ?_
 unfold E3
 repeat' with_reducible first | refine W ?_ | refine Z0 ?_ | ((first | refine Wo fun K hK => ?_ | refine Wq ?_ | refine Wr ?_); (try simp only [go_sem, fN, seval, eT, iR]); (repeat refine Ai ?_); (try (refine hK _ ?_; clear hK K)))
 refine ⟨_, _, Mj t hz (up1 10) _ (BX 10) (by rw [Ce]; rfl), ?_⟩
 repeat' with_reducible first | refine W ?_ | refine Z0 ?_ | ((first | refine Wo fun K hK => ?_ | refine Wq ?_ | refine Wr ?_); (try simp only [go_sem, fN, seval, eT, iR]); (repeat refine Ai ?_); (try (refine hK _ ?_; clear hK K)))
 simp only [go_sem, fN, seval, AR, AS.result, AF, AG, AQ]
 rfl
theorem Of (t : Tm) (hz : t.size ≤ 1000000) : AW Try.prog 34 [aTm t] (aTm t) := by
 induction h : SizeOf.sizeOf t using Nat.strongRecOn generalizing t with
 | _ N ih =>
 subst h
 have hs := Tm.size_eq t
 have hkn := Tm.length_le t.args
 refine Ib.ac fun C hC => ?_
 unfold FA
 repeat' with_reducible first | refine W ?_ | refine Z0 ?_ | ((first | refine Wo fun K hK => ?_ | refine Wq ?_ | refine Wr ?_); (try simp only [go_sem, fN, seval, eT, iR]); (repeat refine Ai ?_); (try (refine hK _ ?_; clear hK K)))
 refine IWP.ghost (Ad.ownC 3 1 21 28 2 (xs := ([] : List Tm).map BC) rfl rfl rfl FS) ?_
 refine IWP.loopD [5] (fun m s => ∃ k, k ≤ t.args.length ∧ m = t.args.length - k ∧ s.env 2 = .one (.ptr 2 1 0 0) ∧ s.env 3 = .one (.ptr 3 1 0 0) ∧ s.S 2 = some (.box 28 [.st (.str ⟨#[]⟩), .full []]) ∧ s.S 3 = some (.box 28 [.st (.str t.name), .row 21 k]) ∧ s.S 21 = some (.arow 28 2 ((t.args.take k).map BC)) ∧ s.env 10 = .one (.st (.list (t.args.map BC))) ∧ s.env 11 = AY t.args.length ∧ s.env 12 = AY k ∧ s.S 5 = none)
  t.args.length ⟨0, Nat.zero_le _, rfl, rfl, rfl, rfl, rfl, rfl, rfl, rfl, rfl, rfl⟩ ?_
 rintro m ⟨env, S⟩ ⟨k, hk, rfl, e2, e3, s2, s3, s21, e10, e11, e12, s5⟩
 simp only at e2 e3 s2 s3 s21 e10 e11 e12 s5
 have hlk : (t.args.take k).length = k := by rw [List.length_take]; omega
 by_cases hlt : (k : Int) < t.args.length
 ·obtain ⟨a, ha⟩ := Ah (show k < t.args.length by omega)
  repeat' with_reducible first | refine W ?_ | refine Z0 ?_ | ((first | refine Wo fun K hK => ?_ | refine Wq ?_ | refine Wr ?_); (try simp only [go_sem, fN, seval, eT, iR, e2, e3, s2, s3, s21, e10, e11, e12, s5, hlt]); (repeat refine Ai ?_); (try (refine hK _ ?_; clear hK K)))
  with_reducible refine Wp ?_
  simp only [go_sem, fN, seval, true_implies, false_implies, implies_true, dT, dF, nL, e10, e11, e12, hlt]
  (try with_reducible refine iC ?_)
  repeat' (first | (with_reducible first | refine W ?_ | refine Z0 ?_ | ((first | refine Wo fun K hK => ?_ | refine Wq ?_ | refine Wr ?_); (try simp only [go_sem, fN, seval, eT, iR, e2, e3, s2, s3, s21, e10, e11, e12, s5, ha, hlk]); (repeat refine Ai ?_); (try (refine hK _ ?_; clear hK K)))) | refine Cg _ (ih _ (Tm.lt_of_arg (AN ha)) a (by have := Tm.size_mem (AN ha); omega) rfl) ?_)
  refine AB ⟨t.args.length - (k + 1), by omega, k + 1, by omega, rfl, ?_⟩
  simp only [go_sem, fN, seval, AS.drop, Ag, AC.clears, AC.clear, AC.highs, AC.high, Bool.not_false, Bool.true_and, Bool.and_self, AV.purge, AV.purges, AC.purge, AJ.purge, List.contains_cons, List.contains_nil, Nat.reduceBEq, Bool.or_self, Bool.or_false, Bool.false_or, Bool.or_true, eT, iR, e2, e3, s2, s3, s21, e10, e11, e12, s5]
  exact ⟨by rw [Af ha]; simp [CG], by congr 3⟩
 ·repeat' with_reducible first | refine W ?_ | refine Z0 ?_ | ((first | refine Wo fun K hK => ?_ | refine Wq ?_ | refine Wr ?_); (try simp only [go_sem, fN, seval, eT, iR, e2, e3, s2, s3, s21, e10, e11, e12, s5, hlt]); (repeat refine Ai ?_); (try (refine hK _ ?_; clear hK K)))
  with_reducible refine Wp ?_
  simp only [go_sem, fN, seval, true_implies, false_implies, implies_true, dT, dF, nL, e10, e11, e12, hlt]
  (try with_reducible refine iC ?_)
  repeat' with_reducible first | refine W ?_ | refine Z0 ?_ | ((first | refine Wo fun K hK => ?_ | refine Wq ?_ | refine Wr ?_); (try simp only [go_sem, fN, seval, eT, iR, e2, e3, s2, s3, s21, e10, e11, e12, s5]); (repeat refine Ai ?_); (try (refine hK _ ?_; clear hK K)))
  have hall : t.args.take k = t.args := List.take_of_length_le (by omega)
  rw [hall] at hlk s21
  simp only [go_sem, fN, seval, AR, AS.result, AF, AG, AQ, e2, s2, s21, hlk]

section
variable {P : Program} {C : Ctx} {a : Act} {w : World} {σ : Sto} {ι : Aj} {s : AS} {Q : Exit → Act → World → Prop} {o : Oper}
end
section
variable {P : Program} {C : Ctx} {mu : List Nat} {Q : AX → AS → Prop} {s : AS}
end

def Hn : IR :=
 (.seq (.ops [.i 1 (.box 28 (.t 0)), .i 2 (.mov (.c (.one (.st (.str (ByteArray.mk (#[])))))))]) (.seq (.ops [.f 5 0 1, .l 6 5, .m 3 6]) (.seq (.seq (.ops [.i 4 (.mov (.n 0))]) (.block 0 (.loop (.seq (.seq (.ops [.m 7 4, .f 8 1 1, .l 9 8, .i 10 (.len false (.t 9)), .i 11 (.bin .lss (.t 7) (.t 10))]) (.cond (.t 11) .skip (.exit 0))) (.seq (.block 1 (.seq (.seq (.ops [.m 14 4, .i 15 (.bin .eql (.t 14) (.n 0))]) (.cond (.t 15) (.ops [.m 16 3, .i 17 (.bin .add (.t 16) (.c (.one (.st (.str (ByteArray.mk (#[40]))))))), .m 3 17]) (.ops [.m 18 3, .i 19 (.bin .add (.t 18) (.c (.one (.st (.str (ByteArray.mk (#[44]))))))), .m 3 19]))) (.ops [.m 20 3, .f 21 1 1, .l 22 21, .m 23 4, .i 24 (.indexAddr 2 (.t 22) (.t 23)), .L 25 2 24, .i 26 (.call 40 [.t 25]), .i 27 (.bin .add (.t 20) (.t 26)), .m 3 27]))) (.ops [.m 12 4, .i 13 (.bin .add (.t 12) (.n 1)), .m 4 13])))))) (.seq (.seq (.ops [.f 28 1 1, .l 29 28, .i 30 (.len false (.t 29)), .i 31 (.bin .gtr (.t 30) (.n 0))]) (.cond (.t 31) (.ops [.m 32 3, .i 33 (.bin .add (.t 32) (.c (.one (.st (.str (ByteArray.mk (#[41]))))))), .m 3 33]) .skip)) (.seq (.ops [.m 34 3, .m 2 34]) .ret)))))
theorem L2 : OkF Try.prog 40 35 [] Hn [.t 2] := .of Try.func40 rfl rfl (by kernel_rfl) rfl

theorem JU : sep 0 = ⟨#[40]⟩ := rfl
theorem It {k : Nat} (h : k ≠ 0) : sep k = ⟨#[44]⟩ := if_neg h
theorem Tm.text_lt {t x : Tm} (h : x ∈ t.args) : x.text.size ≤ t.text.size := by
 obtain ⟨k, hk⟩ := List.getElem?_of_mem h
 have h1 := t.ahead_le (k + 1)
 rw [Tm.ahead_succ hk, ByteArray.size_append] at h1
 omega
theorem Tm.textsFrom_ge : ∀ (k : Nat) (xs : List Tm), xs.length ≤ (Tm.textsFrom k xs).size
 | _, [] => Nat.zero_le _
 | k, t :: ts => by
  have := Tm.textsFrom_ge (k + 1) ts
  simp only [Tm.textsFrom, ByteArray.size_append, Eb, List.length_cons]
  omega
theorem Tm.args_text (t : Tm) : t.args.length ≤ t.text.size := by
 have := Tm.textsFrom_ge 0 t.args
 rw [Tm.text_eq, ByteArray.size_append, ByteArray.size_append]
 omega
theorem K4 (t : Tm) : t.text.size ≤ 1000000 → AW Try.prog 40 [aTm t] (Cj t.text) := by
 obtain ⟨N, hN⟩ : ∃ N, SizeOf.sizeOf t < N := ⟨_, Nat.lt_succ_self _⟩
 induction N generalizing t with
 | zero => omega
 | succ N ih =>
 intro hz
 have hal0 := t.args_text
 refine L2.ac fun C hC => ?_
 unfold Hn
 repeat' with_reducible first | refine W ?_ | refine Z0 ?_ | ((first | refine Wo fun K hK => ?_ | refine Wp ?_ | refine Wq ?_ | refine Wr ?_); (try simp only [go_sem, fN, seval, eT, iR, dT, dF, nL]); (repeat refine Ai ?_); (try (refine hK _ ?_; clear hK K)); try refine iC ?_)
 refine IWP.loop (fun m s => ∃ k, k ≤ t.args.length ∧ m = t.args.length - k ∧ s.env 3 = Cj (t.ahead k) ∧ s.env 4 = AY k ∧ s.env 1 = .one (.ptr 1 1 0 0) ∧ s.S 1 = some (.box 28 [.st (.str t.name), .st (.list (t.args.map BC))])) t.args.length ⟨0, Nat.zero_le _, rfl, by rw [Tm.ahead_zero]; rfl, rfl, rfl, rfl⟩ ?_
 rintro m ⟨env, S⟩ ⟨k, hk, rfl, e3, e4, e1, s1⟩
 simp only at e3 e4 e1 s1
 have hah := t.ahead_le k
 by_cases hlt : k < t.args.length
 ·have hlt' : (k : Int) < t.args.length := by omega
  obtain ⟨a, ha⟩ := Ah hlt
  have hm := AN ha
  have hta := Tm.text_lt hm
  have hs := ih a (by have := Tm.lt_of_arg hm; omega) (by omega)
  have hnx := Tm.ahead_succ ha
  have h1 := t.ahead_le (k + 1)
  rw [hnx, ByteArray.size_append, ByteArray.size_append, Eb] at h1
  have z1 : (⟨#[40]⟩ : ByteArray).size = 1 := rfl
  have z2 : (⟨#[44]⟩ : ByteArray).size = 1 := rfl
  by_cases h0 : k = 0
  ·subst h0
   rw [JU] at hnx
   have hl0 : (0 : Int) < t.args.length := by omega
   repeat' (first | (with_reducible first | refine W ?_ | refine Z0 ?_ | ((first | refine Wo fun K hK => ?_ | refine Wp ?_ | refine Wq ?_ | refine Wr ?_); (try simp only [go_sem, fN, seval, eT, iR, e3, e4, e1, s1, hl0, ha, dT, dF, nL]); (repeat refine Ai ?_); (try (refine hK _ ?_; clear hK K)); try refine iC ?_)) | refine Cg _ (hs) ?_)
   refine AB ⟨t.args.length - (0 + 1), by omega, 0 + 1, by omega, rfl, ?_⟩
   simp only [go_sem, fN, seval, eT, iR, e3, e4, e1, s1, hnx]
   try rfl
  ·rw [It h0] at hnx
   have h0' : ¬ (k : Int) = 0 := by omega
   repeat' (first | (with_reducible first | refine W ?_ | refine Z0 ?_ | ((first | refine Wo fun K hK => ?_ | refine Wp ?_ | refine Wq ?_ | refine Wr ?_); (try simp only [go_sem, fN, seval, eT, iR, e3, e4, e1, s1, hlt', h0', ha, dT, dF, nL]); (repeat refine Ai ?_); (try (refine hK _ ?_; clear hK K)); try refine iC ?_)) | refine Cg _ (hs) ?_)
   refine AB ⟨t.args.length - (k + 1), by omega, k + 1, by omega, rfl, ?_⟩
   simp only [go_sem, fN, seval, eT, iR, e3, e4, e1, s1, hnx]
   try (congr 3)
 ·have hlt' : ¬ (k : Int) < t.args.length := by omega
  have hal := Tm.ahead_all (t := t) (k := k) (by omega)
  by_cases h0 : k = 0
  ·rw [if_pos h0, append_empty] at hal
   have hl0 : ¬ (0 : Int) < t.args.length := by omega
   repeat' with_reducible first | refine W ?_ | refine Z0 ?_ | ((first | refine Wo fun K hK => ?_ | refine Wp ?_ | refine Wq ?_ | refine Wr ?_); (try simp only [go_sem, fN, seval, eT, iR, e3, e4, e1, s1, hlt', hl0, dT, dF, nL]); (repeat refine Ai ?_); (try (refine hK _ ?_; clear hK K)); try refine iC ?_)
   simp only [go_sem, fN, seval, AR, AS.result, AF, AG, AQ]
   rw [hal]
  ·rw [if_neg h0] at hal
   have z1 : (⟨#[41]⟩ : ByteArray).size = 1 := rfl
   rw [hal, ByteArray.size_append] at hz
   have hl0 : (0 : Int) < t.args.length := by omega
   repeat' with_reducible first | refine W ?_ | refine Z0 ?_ | ((first | refine Wo fun K hK => ?_ | refine Wp ?_ | refine Wq ?_ | refine Wr ?_); (try simp only [go_sem, fN, seval, eT, iR, e3, e4, e1, s1, hlt', hl0, dT, dF, nL]); (repeat refine Ai ?_); (try (refine hK _ ?_; clear hK K)); try refine iC ?_)
   simp only [go_sem, fN, seval, AR, AS.result, AF, AG, AQ]
   rw [hal]

theorem Nk {ds : List Nat} (hds : ∀ d ∈ ds, d < 1000) {x : Option AJ} (hb : ∀ b, x = some b → b.high = true) : x.map (AJ.purge ds) = x := by
 cases h : x with
 | none => rfl
 | some b => rw [Option.map_some, AJ.purge_high hds (hb b h)]
theorem Gv {C : Ctx} {rs : List RV} {r : AV} {e : AX} {s : AS} {S : AA} {a0 b0 : Nat} {b c : AJ} (r0 : AV) (hS : An S) (ha : 1000 ≤ a0) (hb0 : 1000 ≤ b0) (hne : b0 ≠ a0) (hb : b.high = true) (hc : c.high = true) (he : match e with | .normal => True | .ret => True | _ => False)
  (h1 : (AF s rs).map AQ = some r0) (h2 : outV s.S r0 = some r) (h3 : s.S a0 = some b) (h3' : s.S b0 = some c) (h4 : ∀ i, 1000 ≤ i → i ≠ a0 → i ≠ b0 → s.S i = S i) : FF C rs r (AH (AH S a0 (some b)) b0 (some c)) e s :=
 JB he r0 h1 h2 (fun i x hi hx => by
  by_cases e1 : i = a0
  ·subst e1; rw [h3] at hx; cases hx; exact hb
  ·by_cases e2 : i = b0
   ·subst e2; rw [h3'] at hx; cases hx; exact hc
   ·rw [h4 i hi e1 e2] at hx; exact (hS i x hx).2) (by
  funext i
  show (if i < 1000 then none else s.S i) = _
  by_cases e2 : i = b0
  ·subst e2
   rw [AD, if_neg (by omega), h3']
  ·rw [AK _ e2]
   by_cases e1 : i = a0
   ·subst e1
    rw [AD, if_neg (by omega), h3]
   ·rw [AK _ e1]
    by_cases hi : i < 1000
    ·rw [if_pos hi, Bl hS hi]
    ·rw [if_neg hi, h4 i (by omega) e1 e2]) (B8 (B8 hS ha hb) hb0 hc)

theorem E2 {P : Program} {f : FuncId} {xs : List AV} {S : AA} {r : AV} {S' : AA} (hS' : An S → An S')
  (h : An S → ∀ (C : Ctx) (σ : Sto) (ι : Aj) (vs : List Value) (w : World), C.n = xs.length → AL C σ ι (AS.startS xs S) { tmps := vs.toArray, defers := [] } w → AU (AM σ S ι) vs xs → Calls P f vs.toArray w fun e w' => ∃ v σ' ι' env', e = .returned v ∧ AL C σ' ι' ⟨env', S'⟩ { tmps := vs.toArray, defers := [] } w' ∧ AM σ' S' ι' v r) : Ap P f xs S r S' := by
 intro hclean σ w vs ι hglob hfit hown hvs
 have hl := hvs.len
 let C : Ctx := ⟨xs.length, w.heap.size, fun g => ¬ Bs S ι g, σ, w, S, ι, hclean, hglob, [], none, false⟩
 have R : AL C σ ι (AS.startS xs S) { tmps := vs.toArray, defers := [] } w := by
  refine ⟨by simp [C, hl], fun i hi => ?_, Dx, hfit, hown.1, hown.2, fun id b g h hg => .inr (fun hno => hno id b h hg), fun _ _ h => h, fun _ _ _ => rfl, ⟨rfl, rfl, rfl⟩, ⟨Nat.le_refl _, Nat.le_refl _⟩, fun _ _ _ => rfl, Upd.refl _ _⟩
  show AM σ S ι _ ((xs[i]?).getD (.tup []))
  have hi : i < xs.length := hi
  have hi2 : i < vs.length := by omega
  obtain ⟨b, hb1, hb2⟩ := hvs.get' (List.getElem?_eq_getElem hi2)
  rw [Array.getD_eq_getD_getElem?, hb1]
  simpa [hi2] using hb2
 refine (h hclean C σ ι vs w rfl R hvs).mono fun e w' ⟨v, σ', ι', env', he, R', hv⟩ => ?_
 exact ⟨v, σ', ι', he, hS' hclean, R'.upd, ⟨R'.blk, R'.inj⟩, hv, R'.fit, R'.ext, fun p h1 h2 => R'.old p h1 (fun h => h h2), R'.os, R'.grown.2, fun g h1 h2 => R'.same g h1 (fun h => h h2), fun id b g h1 h2 => R'.base id b g h1 h2⟩
theorem Ad.ownCell {C : Ctx} {s : AS} {id r : Nat} {e e' : TypeId} {cs : List AC} (j wd : Nat) (hS : s.S id = some (.box e cs)) (hj : cs[j]? = some (.full [])) (hr : s.S r = none) (hne : id ≠ r) :
  Ad C s ((s.set r (.mrow e' wd [])).set id (.box e (cs.set j (.row r 0)))) := fun a w ⟨σ, ι, R⟩ => by
 have hb := R.blk _ _ hS
 cases hb with
 | @box _ _ g vs k1 k2 k3 k4 k5 =>
  obtain ⟨v, hv, hvr⟩ := k4.get hj
  cases hvr with
  | @full p len xs hs =>
   have hl : len = 0 := by
    obtain ⟨p', cap', e1, _⟩ := Bk hs
    cases e1
    rfl
   subst hl
   obtain ⟨hu, R'⟩ := R.fresh (w' := w) hr (.mrow e' wd []) ⟨p, 0, none⟩ (Ext.refl _ _) R.fit (Below.refl _ _) (by simp) (fun S' ι' hu => .mnil rfl rfl)
   have hS' : (s.set r (.mrow e' wd [])).S id = some (.box e cs) := by simp [AS.set, AK _ hne, hS]
   have hι : AH ι r ⟨p, 0, none⟩ id = ι id := AK _ hne _
   have hrr : (s.set r (.mrow e' wd [])).S r = some (.mrow e' wd []) := by simp [AS.set, AD]
   obtain ⟨hu2, R2⟩ := R'.turn (w' := w) hS' (.box e (cs.set j (.row r 0))) (AH ι r ⟨p, 0, none⟩ id) (σ' := σ) (fun _ _ h => h) (fun _ _ _ => rfl) R.fit (by simp [AJ.len]) (fun _ => ⟨rfl, rfl⟩) ⟨rfl, rfl, rfl⟩ (Nat.le_refl _) (fun _ _ _ => rfl) (fun g h => .inl h)
    (fun hu2 => by
     rw [hι] at hu2 ⊢
     refine .box k1 k2 k3 (AU.of_get (by rw [List.length_set]; exact k4.len) fun q u c hu3 hc => ?_) k5
     by_cases e2 : q = j
     ·subst e2
      rw [hv] at hu3
      cases hu3
      rw [List.getElem?_set_self (List.getElem?_eq_some_iff.1 hj).1] at hc
      cases hc
      refine .row (b := .mrow e' wd []) (by simp [AS.set, AH, Ne.symm hne]) (Nat.le_refl _) rfl fun _ => ?_
      simp [AH, Ne.symm hne]
     ·rw [List.getElem?_set_ne (fun e => e2 e.symm)] at hc
      obtain ⟨u', hu', hr'⟩ := k4.get hc
      rw [hu3] at hu'
      cases hu'
      exact (hr'.mono (fun _ _ h => h) hu).mono (fun _ _ h => h) hu2)
   exact ⟨σ, _, R2⟩

def BI : IR :=
 (.seq (.ops [.i 4 (.mov (.n 0)), .i 5 (.mov (.c (.one (.st (.lit .nilIface)))))]) (.seq (.ops [.m 6 0, .i 7 (.callS 59 [.t 6])]) (.seq (.ops [.m 8 0, .m 9 0, .i 10 (.nilCheck (.t 9)), .f 11 1 10, .l 12 11, .m 13 1, .i 14 (.appS 5 (.t 12) (.t 13)), .i 15 (.nilCheck (.t 8)), .f 16 1 15, .s 1 16 14]) (.seq (.ops [.m 17 1, .i 18 (.len true (.t 17)), .m 4 18, .i 5 (.mov (.c (.one (.st (.lit .nilIface)))))]) .ret))))
theorem B6 : OkF Try.prog 57 19 [7] BI [.t 4, .t 5] := .of Try.func57 rfl rfl (by kernel_rfl) rfl
def BS : IR :=
 (.seq (.ops [.i 4 (.mov (.c (.one (.st (.lit .nilIface)))))]) (.seq (.ops [.m 5 0, .i 6 (.callS 59 [.t 5])]) (.seq (.ops [.m 7 0, .m 8 0, .i 9 (.nilCheck (.t 8)), .f 10 1 9, .l 11 10, .m 12 1, .i 13 (.buildFlat [.t 12]), .i 14 (.append true 5 1 1 (.t 11) (.t 13)), .i 15 (.nilCheck (.t 7)), .f 16 1 15, .s 1 16 14]) (.seq (.ops [.i 4 (.mov (.c (.one (.st (.lit .nilIface)))))]) .ret))))
theorem CP : OkF Try.prog 58 17 [6, 14] BS [.t 4] := .of Try.func58 rfl rfl (by kernel_rfl) rfl

theorem Eg : (Try.prog.info? 83).map (fun i => i.size) = some 2 := by kernel_rfl
set_option maxRecDepth 100000 in
theorem F2 (b : Nat) (w : World) (h0 : w.cell? ⟨b, 0, none⟩ = some (.pointer (some ⟨b, 0, none⟩))) :
  Calls Try.prog 59 #[.pointer (some ⟨b, 0, none⟩)] w fun e w' => e = .returned (.tuple #[]) ∧ w' = w := by
 obtain ⟨j, hj, _⟩ := Option.map_eq_some_iff.1 Eg
 go_enter Try.func59, Try.ntmps59
 go_wp2
 rw [Lib.run_neq_ptr_same w _ Try.underlying80 hj]
 go_wp2
 go_end0
 exact ⟨rfl, rfl⟩
set_option maxRecDepth 100000 in
theorem FP (b : Nat) (w : World) (h0 : w.cell? ⟨b, 0, none⟩ = some (.pointer none)) (hsh : w.shape? b = some (83, 2)) (hfz : w.frozen? ⟨b, 0, none⟩ = false) :
  Calls Try.prog 59 #[.pointer (some ⟨b, 0, none⟩)] w fun e w' => e = .returned (.tuple #[]) ∧ w' = w.setCell ⟨b, 0, none⟩ (.pointer (some ⟨b, 0, none⟩)) := by
 obtain ⟨j, hj, hjs⟩ := Option.map_eq_some_iff.1 Eg
 go_enter Try.func59, Try.ntmps59
 go_wp2
 rw [Lib.run_to_unsafe w ⟨b, 0, none⟩ Try.underlying80 Try.underlying94 hj (by rw [hjs]; decide) hsh (Nat.zero_lt_succ 1)]
 simp only [Result.andThen]
 rw [Oper.upon_value]
 go_wp2
 rw [run_callFunc_extern Try.func60 (by kernel_rfl) (by kernel_rfl) (by kernel_rfl) (e := Extern.AbiNoEscape.same) (by kernel_rfl)]
 rw [Lib.run_noEscape]
 simp only [Result.andThen]
 rw [Oper.upon_value]
 go_wp2
 rw [Lib.run_from_unsafe w ⟨b, 0, none⟩ Try.underlying94 Try.underlying80 hj hsh (by kernel_rfl)]
 simp only [Result.andThen]
 rw [Oper.upon_value]
 go_wp2
 go_end0
 exact ⟨rfl, rfl⟩
def Frz (w w' : World) (g : Nat) : Prop := w'.heap.size = w.heap.size ∧ (∀ k, k ≠ g → w'.heap[k]? = w.heap[k]?) ∧ w'.os = w.os ∧ w'.tape = w.tape ∧ w'.output = w.output ∧ ∀ cs e f, w.heap[g]? = some (.cells cs e f) → ∃ f', w'.heap[g]? = some (.cells cs e f')
theorem KF (w : World) (g n : Nat) : Frz w (w.drew.freeze ⟨g, 0, none⟩ n) g := by
 unfold World.freeze
 split
 ·exact ⟨rfl, fun _ _ => rfl, rfl, rfl, rfl, fun cs e f h => ⟨f, h⟩⟩
 ·refine ⟨by simp, fun k hk => ?_, rfl, rfl, rfl, fun cs e f h => ?_⟩
  ·simp only [Array.getElem?_modify]
   rw [if_neg (fun e => hk e.symm)]
   rfl
  ·obtain ⟨lo, hi⟩ := f
   have h' : w.drew.heap[g]? = some (.cells cs e (lo, hi)) := h
   refine ⟨if lo == hi then (0, 0 + n) else (min lo 0, max hi (0 + n)), ?_⟩
   simp only [Array.getElem?_modify, if_true, h', Option.map_some]
set_option maxRecDepth 100000 in
theorem FI (b g cap : Nat) (p : Value) (cur : Array Value) (l : List UInt8) (w : World) (h0 : l ≠ []) (hbk : w.heap[b]? = some (.cells #[p, .slice (some ⟨g, 0, none⟩) l.length cap] 83 (0, 0))) (hbg : w.heap[g]? = some (.cells cur 5 (0, 0)))
  (hcm : cap ≤ maxLen) (hnc : l.length ≤ cap) (hsz : l.length ≤ cur.size) (hcur : ∀ (j : Nat) (x : UInt8), l[j]? = some x → cur[j]? = some (Value.int .u8 (x.toNat : Int))) :
  Calls Try.prog 53 #[.pointer (some ⟨b, 0, none⟩)] w fun e w' => e = .returned (.string ⟨l.toArray⟩) ∧ Frz w w' g := by
 have hl0 : l.length ≠ 0 := by simpa using h0
 have c1 : w.drew.cell? ⟨b, 1, none⟩ = some (.slice (some ⟨g, 0, none⟩) l.length cap) := by
  have : w.drew.heap[b]? = some (.cells #[p, .slice (some ⟨g, 0, none⟩) l.length cap] 83 (0, 0)) := hbk
  rw [Lib.cell_of_heap this]; rfl
 have hSD : (Builtin.unsafeSliceData_ #[81] 93 #[.slice (some ⟨g, 0, none⟩) l.length cap]).run Try.prog w.drew = .ok (.pointer (some ⟨g, 0, none⟩)) w.drew :=
  Lib.run_unsafeSliceData_row _ _ _ _ _ _ (by omega)
 have hUS : (Builtin.unsafeString_ #[93, 3] 9 #[.pointer (some ⟨g, 0, none⟩), .int .i64 l.length]).run Try.prog w.drew = .ok (.string ⟨l.toArray⟩) (w.drew.freeze ⟨g, 0, none⟩ l.length) := by
  refine Lib.run_unsafeString_row w.drew 93 3 9 5 Try.underlying93 (by kernel_rfl) g cur.size (by have hg' : w.drew.heap[g]? = some (.cells cur 5 (0, 0)) := hbg; simp [World.shape?, hg']) l h0 (by omega) (by unfold maxLen at hcm; omega) ?_
  intro j x hx
  have hg' : w.drew.heap[g]? = some (.cells cur 5 (0, 0)) := hbg
  rw [A5, Nat.zero_add, cell_of_row w.drew g _ _ _ _ hg']
  exact hcur j x hx
 go_enter Try.func53, Try.ntmps53
 go_wp2
 have mixed : Try.prog.follows Departure.mixedOrders = true := by kernel_rfl
 go_region_o
 all_goals (go_wp2; go_ret; exact ⟨rfl, KF w g l.length⟩)
abbrev bT : TypeId := 83
abbrev u8T : TypeId := 5
structure Bld (S : AA) (a0 r : Nat) (bs : ByteArray) : Prop where
 ha : 1000 ≤ a0
 hr : 1000 ≤ r
 ne : a0 ≠ r
 box : ∃ p, (p = .st (.lit (.pointer none)) ∨ p = .ptr a0 1 0 0) ∧ S a0 = some (.box bT [p, .row r bs.size])
 row : S r = some (.mrow u8T 1 (Ab bs))
def E1 (S : AA) (a0 r : Nat) (bs : ByteArray) : AA := AH (AH S a0 (some (.box bT [.ptr a0 1 0 0, .row r bs.size]))) r (some (.mrow u8T 1 (Ab bs)))
theorem Bld.next {S : AA} {a0 r : Nat} {bs cs : ByteArray} (h : Bld S a0 r bs) : Bld (E1 S a0 r cs) a0 r cs :=
 ⟨h.ha, h.hr, h.ne, ⟨_, .inr rfl, by unfold E1; rw [AK _ h.ne, AD]⟩, by unfold E1; rw [AD]⟩
theorem Ig {σ : Sto} {S : AA} {ι : Aj} {v : Value} {a0 : Nat} {e : TypeId} {cs : List AC} (h : AM σ S ι v (.one (.ptr a0 1 0 0))) (hS : S a0 = some (.box e cs)) : ∃ g, (ι a0).g = some g ∧ v = .pointer (some ⟨g, 0, none⟩) := by
 have h := AP h
 cases h with
 | @ptr _ _ _ _ _ b h1 h2 h3 h4 =>
  rw [hS] at h1
  cases h1
  obtain ⟨g, g1, g2⟩ := h4 rfl
  exact ⟨g, g1, by rw [g2]; rfl⟩
theorem NZ {σ : Sto} {S : AA} {ι : Aj} {v : Value} {a0 : Nat} {e : TypeId} {cs : List AC} (h : Aa σ S ι v (.ptr a0 1 0 0)) (hS : S a0 = some (.box e cs)) : ∃ g, (ι a0).g = some g ∧ v = .pointer (some ⟨g, 0, none⟩) := Ig (.one h) hS
theorem JY {α : Type} {l : List α} (h : l.length = 2) : ∃ a b, l = [a, b] := by
 match l, h with
 | [a, b], _ => exact ⟨a, b, rfl⟩
theorem Fs {a0 r : Nat} {bs : ByteArray} {S : AA} (h : Bld S a0 r bs) : Ap Try.prog 59 [.one (.ptr a0 1 0 0)] S (.tup []) (AH S a0 (some (.box bT [.ptr a0 1 0 0, .row r bs.size]))) := by
 obtain ⟨p, hp, hSa⟩ := h.box
 refine E2 (fun hc => B8 hc h.ha (by simp only [AJ.high, AC.highs, AC.high, decide_eq_true h.ha, decide_eq_true h.hr, Bool.and_self])) fun hclean C σ ι vs w hn R hvs => ?_
 obtain ⟨v, rfl⟩ : ∃ v, vs = [v] := by
  have := hvs.len
  match vs, this with
  | [v], _ => exact ⟨v, rfl⟩
 have hv : AM σ S ι v (.one (.ptr a0 1 0 0)) := by cases hvs with | cons h _ => exact h
 obtain ⟨g, hg, rfl⟩ := Ig hv hSa
 have hb := R.blk a0 _ hSa
 cases hb with
 | @box _ _ g' vs k1 k2 k3 k4 k5 =>
 rw [hg] at k1
 cases k1
 obtain ⟨v0, v1, hvs2⟩ := JY (show vs.toList.length = 2 by rw [k4.len]; rfl)
 obtain rfl : vs = #[v0, v1] := Array.ext' hvs2
 have r0 : Aa σ S ι v0 p := by cases k4 with | cons h _ => exact h
 have r1 : Aa σ S ι v1 (.row r bs.size) := by cases k4 with | cons _ h => cases h with | cons h _ => exact h
 have c0 : w.cell? ⟨g, 0, none⟩ = some v0 := by rw [Lib.cell_of_heap k3]; rfl
 have key : ∀ w', w' = w.setRow g #[.pointer (some ⟨g, 0, none⟩), v1] → ∃ σ' ι' env', AL C σ' ι' ⟨env', AH S a0 (some (.box bT [.ptr a0 1 0 0, .row r bs.size]))⟩ { tmps := #[.pointer (some ⟨g, 0, none⟩)], defers := [] } w' ∧ AM σ' (AH S a0 (some (.box bT [.ptr a0 1 0 0, .row r bs.size]))) ι' (.tuple #[]) (.tup []) := fun w' hw' => by
  subst hw'
  obtain ⟨hu, R'⟩ := R.turn (w' := w.setRow g #[.pointer (some ⟨g, 0, none⟩), v1]) hSa (.box bT [.ptr a0 1 0 0, .row r bs.size]) (ι a0) (σ' := σ) (fun _ _ h => h) (fun _ _ _ => rfl) (R.fit.row k5 fun k hk => setRow_other _ _ _ _ hk) (by simp [AJ.len]) (fun _ => ⟨rfl, rfl⟩) (A9 _ _) (by simp)
   (fun k hk hne => setRow_other _ _ _ _ (fun e => hne (by rw [e]; exact hg))) (fun g h => .inl h) (fun hu => .box hg k2 (setRow_heap w _ _ _ _ _ k3) (.cons (.ptr (b := .box bT [.ptr a0 1 0 0, .row r bs.size]) (by simp [AS.set, AD]) (by simp [AJ.len]) rfl fun _ => ⟨g, by rw [AD]; exact hg, by simp [AJ.wid]⟩) (.cons (r1.mono (fun _ _ h => h) hu) .nil)) k5)
  exact ⟨σ, _, _, R', .tup (fun _ => undef) rfl (by simp) (by simp)⟩
 rcases hp with rfl | rfl
 ·have e0 : v0 = .pointer none := by cases r0 with | st h => cases h with | lit _ => rfl
  subst e0
  refine (FP g w c0 (by simp [World.shape?, k3]) (Lib.frozen_of_heap k3 0)).mono ?_
  rintro e w' ⟨rfl, rfl⟩
  obtain ⟨σ', ι', env', R', hv'⟩ := key _ (setCell_eq_setRow w g 0 _ _ _ _ k3)
  exact ⟨_, σ', ι', env', rfl, R', hv'⟩
 ·obtain ⟨g2, hg2, e0⟩ := NZ r0 hSa
  rw [hg] at hg2
  cases hg2
  subst e0
  refine (F2 g w c0).mono ?_
  rintro e w' ⟨rfl, rfl⟩
  obtain ⟨σ', ι', env', R', hv'⟩ := key _ (setRow_self w' g _ _ _ k3).symm
  exact ⟨_, σ', ι', env', rfl, R', hv'⟩
theorem Fh (a b : ByteArray) : Ab (a ++ b) = Ab a ++ Ab b := by unfold Ab; simp
theorem In {a0 r : Nat} {bs : ByteArray} {S : AA} (h : Bld S a0 r bs) : Bld (upS S) (up1 a0) (up1 r) bs := by
 obtain ⟨p, hp, hSa⟩ := h.box
 refine ⟨BX _, BX _, fun e => h.ne (Nat.add_right_cancel e), ?_, by rw [Di h.row]; rfl⟩
 rcases hp with rfl | rfl
 ·exact ⟨_, .inl rfl, by rw [Di hSa]; rfl⟩
 ·exact ⟨_, .inr rfl, by rw [Di hSa]; rfl⟩
theorem Gh {a0 r n : Nat} (ha : 1000 ≤ a0) (hr : 1000 ≤ r) : (AJ.box bT [.ptr a0 1 0 0, .row r n]).high = true := by simp only [AJ.high, AC.highs, AC.high, decide_eq_true ha, decide_eq_true hr, Bool.and_self]
theorem HU {a0 r : Nat} {bs : ByteArray} {S : AA} (h : Bld S a0 r bs) (s : ByteArray) (hz : bs.size + s.size ≤ 140737488355328) : Ap Try.prog 57 [.one (.ptr a0 1 0 0), Cj s] S (.tup [AY s.size, .one (.st (.lit .nilIface))]) (E1 S a0 r (bs ++ s)) := by
 obtain ⟨p, hp, hSa⟩ := h.box
 have hSr := h.row
 have ha := h.ha
 have hr := h.hr
 have hne := h.ne
 have hne2 : ¬ r = a0 := fun e => hne e.symm
 have hbl := Cv bs
 refine B6.acS fun hS C hC => ?_
 unfold BI
 repeat' with_reducible first | refine W ?_ | refine Z0 ?_ | ((first | refine Wo fun K hK => ?_ | refine Wp ?_ | refine Wq ?_ | refine Wr ?_); (try simp only [go_sem, fN, seval, eT, iR, hSa, dT, dF, nL]); (repeat refine Ai ?_); (try (refine hK _ ?_; clear hK K)); try refine iC ?_)
 refine ⟨_, _, Fs (In h), ?_⟩
 repeat' with_reducible first | refine W ?_ | refine Z0 ?_ | ((first | refine Wo fun K hK => ?_ | refine Wp ?_ | refine Wq ?_ | refine Wr ?_); (try simp only [go_sem, fN, seval, eT, iR, hSa, hSr, hne, hne2, hbl, dT, dF, nL]); (repeat refine Ai ?_); (try (refine hK _ ?_; clear hK K)); try refine iC ?_)
 refine Gv (.tup [AY s.size, .one (.st (.lit .nilIface))]) hS ha hr hne2 (Gh ha hr) rfl trivial ?_ ?_ ?_ ?_ fun i hi i1 i2 => ?_
 ·simp only [go_sem, fN, seval, eT, iR, AF, AG, AQ]
 ·simp only [go_sem, fN, seval, eT, iR]
  try rfl
 ·simp only [go_sem, fN, seval, eT, iR, hne, hne2]
  try (rw [ByteArray.size_append])
 ·simp only [go_sem, fN, seval, eT, iR, hne, hne2, Fh]
 ·simp only [go_sem, fN, seval, eT, iR, i1, i2]
theorem I_ (c : UInt8) : Ab ⟨#[c]⟩ = [[.int .u8 (c.toNat : Int)]] := rfl
theorem Dr {a0 r : Nat} {bs : ByteArray} {S : AA} (h : Bld S a0 r bs) (c : UInt8) (hz : bs.size + 1 ≤ 140737488355328) : Ap Try.prog 58 [.one (.ptr a0 1 0 0), .one (.st (.int .u8 (c.toNat : Int)))] S (.one (.st (.lit .nilIface))) (E1 S a0 r (bs ++ ⟨#[c]⟩)) := by
 obtain ⟨p, hp, hSa⟩ := h.box
 have hSr := h.row
 have ha := h.ha
 have hr := h.hr
 have hne := h.ne
 have hne2 : ¬ r = a0 := fun e => hne e.symm
 have hbl := Cv bs
 have hsz : (bs ++ ⟨#[c]⟩).size = bs.size + 1 := by rw [ByteArray.size_append]; rfl
 refine CP.acS fun hS C hC => ?_
 unfold BS
 repeat' with_reducible first | refine W ?_ | refine Z0 ?_ | ((first | refine Wo fun K hK => ?_ | refine Wp ?_ | refine Wq ?_ | refine Wr ?_); (try simp only [go_sem, fN, seval, eT, iR, hSa, dT, dF, nL]); (repeat refine Ai ?_); (try (refine hK _ ?_; clear hK K)); try refine iC ?_)
 refine ⟨_, _, Fs (In h), ?_⟩
 have h63 : bs.size + 1 ≤ maxLen := by rw [Ba]; omega
 repeat' with_reducible first | refine W ?_ | refine Z0 ?_ | ((first | refine Wo fun K hK => ?_ | refine Wp ?_ | refine Wq ?_ | refine Wr ?_); (try simp only [go_sem, fN, seval, eT, iR, hSa, hSr, hne, hne2, hbl, h63, dT, dF, nL]); (repeat refine Ai ?_); (try (refine hK _ ?_; clear hK K)); try refine iC ?_)
 refine Gv (.one (.st (.lit .nilIface))) hS ha hr hne2 (Gh ha hr) rfl trivial ?_ ?_ ?_ ?_ fun i hi i1 i2 => ?_
 ·simp only [go_sem, fN, seval, eT, iR, AF, AG, AQ]
 ·simp only [go_sem, fN, seval, eT, iR]
  try rfl
 ·simp only [go_sem, fN, seval, eT, iR, hne, hne2, hbl, hsz]
 ·simp only [go_sem, fN, seval, eT, iR, hne, hne2, Fh, I_]
 ·simp only [go_sem, fN, seval, eT, iR, i1, i2]
theorem F4 {a0 r : Nat} {bs : ByteArray} {S : AA} (h : Bld S a0 r bs) (h0 : 0 < bs.size) (hmx : bs.size ≤ 140737488355328) : Ap Try.prog 53 [.one (.ptr a0 1 0 0)] S (Cj bs) (AH S r (some (.dead bs.size 1))) := by
 obtain ⟨p, hp, hSa⟩ := h.box
 refine E2 (fun hc => B8 hc h.hr rfl) fun hclean C σ ι vs w hn R hvs => ?_
 obtain ⟨v, rfl⟩ : ∃ v, vs = [v] := by
  have := hvs.len
  match vs, this with
  | [v], _ => exact ⟨v, rfl⟩
 have hv : AM σ S ι v (.one (.ptr a0 1 0 0)) := by cases hvs with | cons h _ => exact h
 obtain ⟨g, hg, rfl⟩ := Ig hv hSa
 have hb := R.blk a0 _ hSa
 have hbr := R.blk r _ h.row
 have hlen : (Ab bs).length = bs.size := Cv bs
 cases hb with
 | @box _ _ g' vs k1 k2 k3 k4 k5 =>
 rw [hg] at k1
 cases k1
 obtain ⟨v0, v1, hvs2⟩ := JY (show vs.toList.length = 2 by rw [k4.len]; rfl)
 obtain rfl : vs = #[v0, v1] := Array.ext' hvs2
 have r1 : Aa σ S ι v1 (.row r bs.size) := by cases k4 with | cons _ h => cases h with | cons h _ => exact h
 generalize hrow : Ab bs = row at hbr hlen
 cases hbr with
 | mnil m1 m2 => simp at hlen; omega
 | @mrow _ _ _ gr cur m1 m2 m3 m4 m5 m6 m7 m8 m9 =>
 subst hrow
 have e1 : v1 = .slice (some ⟨gr, 0, none⟩) bs.size (ι r).cap := by
  cases r1 with
  | row q1 q2 q3 q4 =>
   rw [h.row] at q1
   cases q1
   rw [q4 hlen.symm, m2]
 subst e1
 have hl : bs.data.toList.length = bs.size := by rw [Array.length_toList]; rfl
 refine (FI g gr (ι r).cap v0 cur bs.data.toList w (fun e => by rw [e] at hl; simp at hl; omega) (by rw [hl]; exact k3) m3 m5 (by omega) (by rw [m6, hl]; omega) fun j x hx => ?_).mono ?_
 ·have hx' : (Ab bs)[j]? = some [SV.int .u8 (x.toNat : Int)] := by
   unfold Ab
   rw [List.getElem?_map, hx]
   rfl
  obtain ⟨u, u1, u2⟩ := m8 j _ 0 _ hx' rfl
  rw [Nat.mul_one, Nat.add_zero] at u1
  rw [u1]
  cases u2
  rfl
 ·rintro e w' ⟨rfl, f1, f2, f3, f4, f5, f6⟩
  obtain ⟨hu, R'⟩ := R.turn (w' := w') h.row (.dead bs.size 1) (ι r) (σ' := σ) (fun _ _ h => h) (fun _ _ _ => rfl) (R.fit.row m9 f2) (by simp [AJ.len, hlen]) (fun _ => ⟨rfl, rfl⟩) ⟨f3, f4, f5⟩ (by omega)
   (fun k hk hne => f2 k (fun e => hne (by rw [e]; exact m1))) (fun g h => .inl h) (fun hu => .dead fun g hg => by
    rw [m1] at hg
    cases hg
    obtain ⟨f', h'⟩ := f6 _ _ _ m3
    exact ⟨_, h', rfl⟩)
  refine ⟨_, σ, _, _, rfl, R', .one (.st (.str ?_))⟩
  show bs.size ≤ maxLen
  rw [Ba]
  omega

def El : IR :=
 (.seq (.ops [.i 1 (.box 28 (.t 0)), .i 2 (.mov (.c (.one (.st (.str (ByteArray.mk (#[])))))))]) (.seq (.ops [.i 3 (.alloc 83 [.st (.lit (.pointer none)), .full []])]) (.seq (.ops [.L 4 2 1, .i 5 (.callS 52 [.t 3, .t 4])]) (.seq (.ops [.i 6 (.callS 53 [.t 3]), .m 2 6]) .ret))))
theorem Ik : OkF Try.prog 45 7 [5, 6] El [.t 2] := .of Try.func45 rfl rfl (by kernel_rfl) rfl
def E6 : IR :=
 (.seq (.ops [.i 3 (.box 28 (.t 1))]) (.seq (.ops [.m 6 0, .f 7 0 3, .l 8 7, .i 9 (.callS 57 [.t 6, .t 8])]) (.seq (.seq (.ops [.f 10 1 3, .l 11 10, .i 12 (.len false (.t 11)), .i 13 (.mov (.n 0))]) (.block 0 (.loop (.seq (.ops [.i 14 (.bin .lss (.t 13) (.t 12))]) (.seq (.cond (.t 14) .skip (.exit 0)) (.seq (.block 1 (.seq (.ops [.m 15 13, .i 16 (.indexAddr 2 (.t 11) (.t 13)), .L 17 2 16, .i 5 (.alloc 28 [.st (.str (ByteArray.mk (#[]))), .full []]), .m 4 15, .s 2 5 17]) (.seq (.ops [.m 18 0, .m 19 4, .i 20 (.mm false (.t 19) (.n 1)), .i 21 (.indexStr (.c (.one (.st (.str (ByteArray.mk (#[40, 44])))))) (.t 20)), .i 22 (.callS 58 [.t 18, .t 21])]) (.ops [.m 23 0, .L 24 2 5, .i 25 (.callS 52 [.t 23, .t 24])])))) (.ops [.i 26 (.bin .add (.t 13) (.n 1)), .m 13 26]))))))) (.seq (.ops [.f 27 1 3, .l 28 27, .i 29 (.len false (.t 28)), .i 30 (.bin .gtr (.t 29) (.n 0))]) (.cond (.t 30) (.ops [.m 31 0, .i 32 (.callS 58 [.t 31, .c (.one (.st (.int .u8 41)))])]) .skip)))))
theorem If : OkF Try.prog 52 33 [9, 22, 25, 32] E6 [] := .of Try.func52 rfl rfl (by kernel_rfl) rfl

theorem F9 {S : AA} {a0 r : Nat} {bs : ByteArray} (ha : 1000 ≤ a0) (hr : 1000 ≤ r) (hne : a0 ≠ r) (h1 : S a0 = some (.box bT [.ptr a0 1 0 0, .row r bs.size])) (h2 : S r = some (.mrow u8T 1 (Ab bs))) : Bld (upS S) (up1 a0) (up1 r) bs :=
 In ⟨ha, hr, hne, ⟨_, .inr rfl, h1⟩, h2⟩
theorem N1 {S S' : AA} {a0 r : Nat} {bs : ByteArray} (h : Bld S a0 r bs) (h1 : S' a0 = S a0) (h2 : S' r = S r) : Bld (upS S') (up1 a0) (up1 r) bs := by
 obtain ⟨p, hp, hb⟩ := h.box
 exact In ⟨h.ha, h.hr, h.ne, ⟨p, hp, h1.trans hb⟩, h2.trans h.row⟩
theorem I3 {C : Ctx} {rs : List RV} {r : AV} {e : AX} {s : AS} {S : AA} {a0 r0 : Nat} {bs : ByteArray} (h : Bld S a0 r0 bs) {cs : ByteArray} (rv : AV) (hS : An S) (he : match e with | .normal => True | .ret => True | _ => False)
  (h1 : (AF s rs).map AQ = some rv) (h2 : outV s.S rv = some r) (h3 : s.S a0 = some (.box bT [.ptr a0 1 0 0, .row r0 cs.size])) (h3' : s.S r0 = some (.mrow u8T 1 (Ab cs))) (h4 : ∀ i, 1000 ≤ i → i ≠ a0 → i ≠ r0 → s.S i = S i) : FF C rs r (E1 S a0 r0 cs) e s :=
 Gv rv hS h.ha h.hr (fun e => h.ne e.symm) (Gh h.ha h.hr) rfl he h1 h2 h3 h3' h4
theorem Ob (t : Tm) : ∀ {a0 r : Nat} {bs : ByteArray} {S : AA}, Bld S a0 r bs → bs.size + t.text.size ≤ 1000000000 → Ap Try.prog 52 [.one (.ptr a0 1 0 0), aTm t] S (.tup []) (E1 S a0 r (bs ++ t.text)) := by
 obtain ⟨N, hN⟩ : ∃ N, SizeOf.sizeOf t < N := ⟨_, Nat.lt_succ_self _⟩
 induction N generalizing t with
 | zero => omega
 | succ N ih =>
 intro a0 r bs S h hz
 have ha := h.ha
 have hr := h.hr
 have hne := h.ne
 have hne2 : ¬ r = a0 := fun e => hne e.symm
 have a3 : ¬ a0 = 3 := by omega
 have r3 : ¬ r = 3 := by omega
 have q3 : ¬ 3 = a0 := by omega
 have s3 : ¬ 3 = r := by omega
 have a5 : ¬ a0 = 5 := by omega
 have r5 : ¬ r = 5 := by omega
 have q5 : ¬ 5 = a0 := by omega
 have s5 : ¬ 5 = r := by omega
 have hn0 := t.ahead_le 0
 rw [Tm.ahead_zero] at hn0
 refine If.acS fun hS C hC => ?_
 have k3 : S 3 = none := Bl hS (by omega)
 have k5 : S 5 = none := Bl hS (by omega)
 unfold E6
 repeat' with_reducible first | refine W ?_ | refine Z0 ?_ | ((first | refine Wo fun K hK => ?_ | refine Wp ?_ | refine Wq ?_ | refine Wr ?_); (try simp only [go_sem, fN, seval, eT, iR, k3, k5, dT, dF, nL]); (repeat refine Ai ?_); (try (refine hK _ ?_; clear hK K)); try refine iC ?_)
 refine ⟨_, _, HU (N1 h (by simp only [go_sem, fN, seval, eT, iR, a3]) (by simp only [go_sem, fN, seval, eT, iR, r3])) t.name (by omega), ?_⟩
 repeat' with_reducible first | refine W ?_ | refine Z0 ?_ | ((first | refine Wo fun K hK => ?_ | refine Wp ?_ | refine Wq ?_ | refine Wr ?_); (try simp only [go_sem, fN, seval, eT, iR, E1, q3, s3, hne, hne2, k5, dT, dF, nL]); (repeat refine Ai ?_); (try (refine hK _ ?_; clear hK K)); try refine iC ?_)
 refine IWP.loopD [5] (fun m s => ∃ k, k ≤ t.args.length ∧ m = t.args.length - k ∧ s.env 0 = .one (.ptr a0 1 0 0) ∧ s.env 3 = .one (.ptr 3 1 0 0) ∧ s.env 11 = .one (.st (.list (t.args.map BC))) ∧ s.env 12 = AY t.args.length ∧ s.env 13 = AY k ∧ s.S 3 = some (.box 28 [.st (.str t.name), .st (.list (t.args.map BC))]) ∧ s.S 5 = none ∧ s.S a0 = some (.box bT [.ptr a0 1 0 0, .row r (bs ++ t.ahead k).size]) ∧ s.S r = some (.mrow u8T 1 (Ab (bs ++ t.ahead k))) ∧ ∀ i, 1000 ≤ i → i ≠ a0 → i ≠ r → s.S i = S i) t.args.length ⟨0, Nat.zero_le _, rfl, rfl, rfl, rfl, rfl, rfl, ?_, ?_, ?_, ?_, fun i hi i1 i2 => ?_⟩ ?_
 ·simp only [go_sem, fN, seval, eT, iR, q3, s3]
 ·simp only [go_sem, fN, seval, eT, iR, q5, s5, k5]
 ·rw [Tm.ahead_zero]
  simp only [go_sem, fN, seval, eT, iR, hne, hne2]
 ·rw [Tm.ahead_zero]
  simp only [go_sem, fN, seval, eT, iR, hne, hne2]
 ·have i3 : ¬ i = 3 := by omega
  simp only [go_sem, fN, seval, eT, iR, i1, i2, i3]
 rintro m ⟨env, T⟩ ⟨k, hk, rfl, e0, e3, e11, e12, e13, t3, t5, ta, tr, th⟩
 simp only at e0 e3 e11 e12 e13 t3 t5 ta tr th
 have hah := t.ahead_le k
 have hal0 := t.args_text
 have hg := F9 ha hr hne ta tr
 by_cases hlt : k < t.args.length
 case neg =>
  have hlt' : ¬ (k : Int) < t.args.length := by omega
  have hal := Tm.ahead_all (t := t) (k := k) (by omega)
  by_cases h0 : k = 0
  ·rw [if_pos h0, append_empty] at hal
   have hl0 : ¬ (0 : Int) < t.args.length := by omega
   repeat' with_reducible first | refine W ?_ | refine Z0 ?_ | ((first | refine Wo fun K hK => ?_ | refine Wp ?_ | refine Wq ?_ | refine Wr ?_); (try simp only [go_sem, fN, seval, eT, iR, e0, e3, e11, e12, e13, t3, t5, ta, tr, hlt', hl0, dT, dF, nL]); (repeat refine Ai ?_); (try (refine hK _ ?_; clear hK K)); try refine iC ?_)
   refine I3 h (.tup []) hS trivial rfl rfl ?_ ?_ fun i hi i1 i2 => ?_
   ·rw [hal]
    simp only [go_sem, fN, seval, eT, iR, ta]
   ·rw [hal]
    simp only [go_sem, fN, seval, eT, iR, tr]
   ·exact th i hi i1 i2
  ·rw [if_neg h0] at hal
   have hl0 : (0 : Int) < t.args.length := by omega
   rw [hal, ByteArray.size_append] at hz
   have z1 : (⟨#[41]⟩ : ByteArray).size = 1 := rfl
   repeat' with_reducible first | refine W ?_ | refine Z0 ?_ | ((first | refine Wo fun K hK => ?_ | refine Wp ?_ | refine Wq ?_ | refine Wr ?_); (try simp only [go_sem, fN, seval, eT, iR, e0, e3, e11, e12, e13, t3, t5, ta, tr, hlt', hl0, dT, dF, nL]); (repeat refine Ai ?_); (try (refine hK _ ?_; clear hK K)); try refine iC ?_)
   refine ⟨_, _, (Dr hg 41 (by rw [ByteArray.size_append]; omega) : Ap _ _ [_, .one (.st (.int .u8 41))] _ _ _), ?_⟩
   repeat' with_reducible first | refine W ?_ | refine Z0 ?_ | ((first | refine Wo fun K hK => ?_ | refine Wp ?_ | refine Wq ?_ | refine Wr ?_); (try simp only [go_sem, fN, seval, eT, iR, E1, q3, s3, hne, hne2, dT, dF, nL]); (repeat refine Ai ?_); (try (refine hK _ ?_; clear hK K)); try refine iC ?_)
   rw [hal, ← ByteArray.append_assoc]
   refine I3 h (.tup []) hS trivial rfl rfl ?_ ?_ fun i hi i1 i2 => ?_
   ·simp only [go_sem, fN, seval, eT, iR, hne, hne2]
    try rfl
   ·simp only [go_sem, fN, seval, eT, iR, hne, hne2]
    try rfl
   ·simp only [go_sem, fN, seval, eT, iR, i1, i2]
    exact th i hi i1 i2
 have hlt' : (k : Int) < t.args.length := by omega
 obtain ⟨a, haa⟩ := Ah hlt
 have hm := AN haa
 have hta := Tm.text_lt hm
 have hs := @ih a (by have := Tm.lt_of_arg hm; omega)
 have hnx := Tm.ahead_succ haa
 have h1 := t.ahead_le (k + 1)
 rw [hnx, ByteArray.size_append, ByteArray.size_append, Eb] at h1
 have z1 : (⟨#[40]⟩ : ByteArray).size = 1 := rfl
 have z2 : (⟨#[44]⟩ : ByteArray).size = 1 := rfl
 have ab5 : (a0 == 5) = false := beq_false_of_ne (by omega)
 have rb5 : (r == 5) = false := beq_false_of_ne (by omega)
 have b0 : Fz (⟨#[40, 44]⟩ : ByteArray) 0 = 40 := by decide
 have b1 : Fz (⟨#[40, 44]⟩ : ByteArray) 1 = 44 := by decide
 have hg0 : ∀ B C : AJ, Bld (upS (AH (AH T 5 (some B)) 5 (some C))) (up1 a0) (up1 r) (bs ++ t.ahead k) := fun B C => F9 ha hr hne (by simp only [go_sem, fN, seval, eT, iR, a5, ta]) (by simp only [go_sem, fN, seval, eT, iR, r5, tr])
 by_cases h0 : k = 0
 ·subst h0
  rw [JU] at hnx
  have hl0 : (0 : Int) < t.args.length := by omega
  repeat' with_reducible first | refine W ?_ | refine Z0 ?_ | ((first | refine Wo fun K hK => ?_ | refine Wp ?_ | refine Wq ?_ | refine Wr ?_); (try simp only [go_sem, fN, seval, eT, iR, e0, e3, e11, e12, e13, t3, t5, ta, tr, hl0, haa, b0, dT, dF, nL]); (repeat refine Ai ?_); (try (refine hK _ ?_; clear hK K)); try refine iC ?_)
  refine ⟨_, _, (Dr (hg0 _ _) 40 (by rw [ByteArray.size_append]; omega) : Ap _ _ [_, .one (.st (.int .u8 40))] _ _ _), ?_⟩
  repeat' with_reducible first | refine W ?_ | refine Z0 ?_ | ((first | refine Wo fun K hK => ?_ | refine Wp ?_ | refine Wq ?_ | refine Wr ?_); (try simp only [go_sem, fN, seval, eT, iR, e0, e3, e11, e12, e13, t3, E1, q3, s3, q5, s5, hne, hne2, dT, dF, nL]); (repeat refine Ai ?_); (try (refine hK _ ?_; clear hK K)); try refine iC ?_)
  refine ⟨_, _, hs (F9 (bs := bs ++ t.ahead 0 ++ ⟨#[40]⟩) ha hr hne (by simp only [go_sem, fN, seval, eT, iR, hne, hne2]) (by simp only [go_sem, fN, seval, eT, iR, hne, hne2])) (by rw [ByteArray.size_append, ByteArray.size_append]; omega), ?_⟩
  repeat' with_reducible first | refine W ?_ | refine Z0 ?_ | ((first | refine Wo fun K hK => ?_ | refine Wp ?_ | refine Wq ?_ | refine Wr ?_); (try simp only [go_sem, fN, seval, eT, iR, e0, e3, e11, e12, e13, t3, E1, q3, s3, q5, s5, hne, hne2, dT, dF, nL]); (repeat refine Ai ?_); (try (refine hK _ ?_; clear hK K)); try refine iC ?_)
  refine AB ⟨t.args.length - (0 + 1), by omega, 0 + 1, by omega, rfl, ?_⟩
  simp only [go_sem, fN, seval, AS.drop, Ag, AC.clears, AC.clear, AC.highs, AC.high, Bool.not_false, Bool.true_and, Bool.and_self, AV.purge, AV.purges, AC.purge, AJ.purge, List.contains_cons, List.contains_nil, Nat.reduceBEq, Bool.or_self, Bool.or_false, Bool.false_or, Bool.or_true, eT, iR, e0, e3, e11, e12, e13, t3, hne, hne2, hnx, q3, s3, q5, s5, ab5, rb5]
  refine ⟨by simp only [Nat.add_assoc], by simp only [ByteArray.append_assoc], fun i hi i1 i2 => ?_⟩
  have i5 : ¬ i = 5 := by omega
  have i5b : (i == 5) = false := beq_false_of_ne i5
  simp only [i5b, i5, i1, i2, if_false, Bool.false_eq_true]
  rw [th i hi i1 i2]
  exact Nk (by decide) fun b hb => (hS i b hb).2
 ·rw [It h0] at hnx
  have h0' : (if (1 : Int) < (k : Int) then (1 : Int) else (k : Int)) = 1 := by split <;> omega
  repeat' with_reducible first | refine W ?_ | refine Z0 ?_ | ((first | refine Wo fun K hK => ?_ | refine Wp ?_ | refine Wq ?_ | refine Wr ?_); (try simp only [go_sem, fN, seval, eT, iR, e0, e3, e11, e12, e13, t3, t5, ta, tr, hlt', h0', haa, b1, dT, dF, nL]); (repeat refine Ai ?_); (try (refine hK _ ?_; clear hK K)); try refine iC ?_)
  refine ⟨_, _, (Dr (hg0 _ _) 44 (by rw [ByteArray.size_append]; omega) : Ap _ _ [_, .one (.st (.int .u8 44))] _ _ _), ?_⟩
  repeat' with_reducible first | refine W ?_ | refine Z0 ?_ | ((first | refine Wo fun K hK => ?_ | refine Wp ?_ | refine Wq ?_ | refine Wr ?_); (try simp only [go_sem, fN, seval, eT, iR, e0, e3, e11, e12, e13, t3, E1, q3, s3, q5, s5, hne, hne2, dT, dF, nL]); (repeat refine Ai ?_); (try (refine hK _ ?_; clear hK K)); try refine iC ?_)
  refine ⟨_, _, hs (F9 (bs := bs ++ t.ahead k ++ ⟨#[44]⟩) ha hr hne (by simp only [go_sem, fN, seval, eT, iR, hne, hne2]) (by simp only [go_sem, fN, seval, eT, iR, hne, hne2])) (by rw [ByteArray.size_append, ByteArray.size_append]; omega), ?_⟩
  repeat' with_reducible first | refine W ?_ | refine Z0 ?_ | ((first | refine Wo fun K hK => ?_ | refine Wp ?_ | refine Wq ?_ | refine Wr ?_); (try simp only [go_sem, fN, seval, eT, iR, e0, e3, e11, e12, e13, t3, E1, q3, s3, q5, s5, hne, hne2, dT, dF, nL]); (repeat refine Ai ?_); (try (refine hK _ ?_; clear hK K)); try refine iC ?_)
  refine AB ⟨t.args.length - (k + 1), by omega, k + 1, by omega, rfl, ?_⟩
  simp only [go_sem, fN, seval, AS.drop, Ag, AC.clears, AC.clear, AC.highs, AC.high, Bool.not_false, Bool.true_and, Bool.and_self, AV.purge, AV.purges, AC.purge, AJ.purge, List.contains_cons, List.contains_nil, Nat.reduceBEq, Bool.or_self, Bool.or_false, Bool.false_or, Bool.or_true, eT, iR, e0, e3, e11, e12, e13, t3, hne, hne2, hnx, q3, s3, q5, s5, ab5, rb5]
  refine ⟨by congr 3, by simp only [Nat.add_assoc], by simp only [ByteArray.append_assoc], fun i hi i1 i2 => ?_⟩
  have i5 : ¬ i = 5 := by omega
  have i5b : (i == 5) = false := beq_false_of_ne i5
  simp only [i5b, i5, i1, i2, if_false, Bool.false_eq_true]
  rw [th i hi i1 i2]
  exact Nk (by decide) fun b hb => (hS i b hb).2
theorem Mc (t : Tm) (h0 : 0 < t.name.size) (hz : t.text.size ≤ 100000000) : AW Try.prog 45 [aTm t] (Cj t.text) := by
 have hn0 := t.ahead_le 0
 rw [Tm.ahead_zero] at hn0
 have hne : ∀ b : ByteArray, (⟨#[]⟩ : ByteArray) ++ b = b := empty_append
 refine Ik.ac fun C hC => ?_
 unfold El
 refine W ?_
 refine Wo (fun K hK => ?_)
 (try simp only [go_sem, fN, seval, eT, iR])
 (repeat with_reducible refine Ai ?_)
 refine hK _ ?_
 clear hK K
 refine W ?_
 refine W ?_
 refine Wo (fun K hK => ?_)
 (try simp only [go_sem, fN, seval, eT, iR])
 (repeat with_reducible refine Ai ?_)
 refine hK _ ?_
 clear hK K
 refine W ?_
 refine IWP.ghost (Ad.ownCell (id := 3) (r := 900) (e' := u8T) 1 1 (by rfl) (by rfl) (by rfl) (by decide)) ?_
 repeat' with_reducible first | refine W ?_ | refine Z0 ?_ | ((first | refine Wo fun K hK => ?_ | refine Wp ?_ | refine Wq ?_ | refine Wr ?_); (try simp only [go_sem, fN, seval, eT, iR, dT, dF, nL]); (repeat refine Ai ?_); (try (refine hK _ ?_; clear hK K)); try refine iC ?_)
 refine ⟨_, _, Ob t (a0 := up1 3) (r := up1 900) (bs := ⟨#[]⟩) ⟨by decide, by decide, by decide, ⟨_, .inl rfl, by rw [Ce]; rfl⟩, by rw [Ce]; rfl⟩ (by show 0 + _ ≤ _; omega), ?_⟩
 repeat' with_reducible first | refine W ?_ | refine Z0 ?_ | ((first | refine Wo fun K hK => ?_ | refine Wp ?_ | refine Wq ?_ | refine Wr ?_); (try simp only [go_sem, fN, seval, eT, iR, E1, dT, dF, nL]); (repeat refine Ai ?_); (try (refine hK _ ?_; clear hK K)); try refine iC ?_)
 refine ⟨_, _, F4 (a0 := up1 3) (r := up1 900) (bs := ⟨#[]⟩ ++ t.text) ⟨by decide, by decide, by decide, ⟨_, .inr rfl, by rw [Ce]; (simp only [go_sem, fN, seval, eT, iR]; try rfl)⟩, by rw [Ce]; (simp only [go_sem, fN, seval, eT, iR]; try rfl)⟩ (by rw [hne]; omega) (by rw [hne]; omega), ?_⟩
 repeat' with_reducible first | refine W ?_ | refine Z0 ?_ | ((first | refine Wo fun K hK => ?_ | refine Wp ?_ | refine Wq ?_ | refine Wr ?_); (try simp only [go_sem, fN, seval, eT, iR, dT, dF, nL]); (repeat refine Ai ?_); (try (refine hK _ ?_; clear hK K)); try refine iC ?_)
 simp only [go_sem, fN, seval, AR, AS.result, AF, AG, AQ]
 rw [hne]

def Eh : IR :=
 (.seq (.ops [.i 1 (.box 28 (.t 0)), .i 2 (.mov (.n 0))]) (.seq (.ops [.i 3 (.mov (.n 1))]) (.seq (.seq (.ops [.f 6 1 1, .l 7 6, .i 8 (.len false (.t 7)), .i 9 (.mov (.n 0))]) (.block 0 (.loop (.seq (.ops [.i 10 (.bin .lss (.t 9) (.t 8))]) (.seq (.cond (.t 10) .skip (.exit 0)) (.seq (.block 1 (.seq (.ops [.i 11 (.indexAddr 2 (.t 7) (.t 9)), .L 12 2 11, .i 5 (.alloc 28 [.st (.str (ByteArray.mk (#[]))), .full []]), .s 2 5 12]) (.ops [.m 13 3, .L 14 2 5, .i 15 (.call 32 [.t 14]), .i 16 (.bin .add (.t 13) (.t 15)), .m 3 16]))) (.ops [.i 17 (.bin .add (.t 9) (.n 1)), .m 9 17]))))))) (.seq (.ops [.m 18 3, .m 2 18]) .ret))))
theorem IG : OkF Try.prog 32 19 [] Eh [.t 2] := .of Try.func32 rfl rfl (by kernel_rfl) rfl

theorem E0 (t : Tm) (hz : t.size ≤ 1000000) : AW Try.prog 32 [aTm t] (AY t.size) := by
 induction h : SizeOf.sizeOf t using Nat.strongRecOn generalizing t with
 | _ N ih =>
 subst h
 have hs := Tm.size_eq t
 have hln := Tm.length_le t.args
 refine IG.ac fun C hC => ?_
 unfold Eh
 repeat' with_reducible first | refine W ?_ | refine Z0 ?_ | ((first | refine Wo fun K hK => ?_ | refine Wp ?_ | refine Wq ?_ | refine Wr ?_); (try simp only [go_sem, fN, seval, eT, iR, dT, dF, nL]); (repeat refine Ai ?_); (try (refine hK _ ?_; clear hK K)); try refine iC ?_)
 refine IWP.loopD [5] (fun m s => ∃ k, k ≤ t.args.length ∧ m = t.args.length - k ∧ s.env 3 = AY ((1 + Tm.sizes (t.args.take k) : Nat) : Int) ∧ s.env 7 = NO t.args ∧ s.env 8 = AY t.args.length ∧ s.env 9 = AY k ∧ s.S 5 = none) t.args.length ⟨0, Nat.zero_le _, rfl, rfl, rfl, rfl, rfl, rfl⟩ ?_
 rintro m ⟨env, S⟩ ⟨k, hk, rfl, e3, e7, e8, e9, s5⟩
 simp only at e3 e7 e8 e9 s5
 by_cases hlt : (k : Int) < t.args.length
 ·obtain ⟨a, ha⟩ := Ah (show k < t.args.length by omega)
  have h1 := Tm.sizes_take ha
  have h2 := Tm.sizes_take_le t.args (k + 1)
  repeat' (first | (with_reducible first | refine W ?_ | refine Z0 ?_ | ((first | refine Wo fun K hK => ?_ | refine Wp ?_ | refine Wq ?_ | refine Wr ?_); (try simp only [go_sem, fN, seval, eT, iR, e3, e7, e8, e9, s5, hlt, ha, dT, dF, nL]); (repeat refine Ai ?_); (try (refine hK _ ?_; clear hK K)); try refine iC ?_)) | refine Cg _ (ih _ (Tm.lt_of_arg (AN ha)) a (by omega) rfl) ?_)
  refine AB ⟨t.args.length - (k + 1), by omega, k + 1, by omega, rfl, ?_⟩
  simp only [go_sem, fN, seval, AS.drop, Ag, AC.clears, AC.clear, AC.highs, AC.high, Bool.not_false, Bool.true_and, Bool.and_self, AV.purge, AV.purges, AC.purge, AJ.purge, List.contains_cons, List.contains_nil, Nat.reduceBEq, Bool.or_self, Bool.or_false, Bool.false_or, Bool.or_true, eT, iR, e3, e7, e8, e9, s5]
  exact ⟨by rw [h1]; congr 3; omega, by congr 3⟩
 ·repeat' with_reducible first | refine W ?_ | refine Z0 ?_ | ((first | refine Wo fun K hK => ?_ | refine Wp ?_ | refine Wq ?_ | refine Wr ?_); (try simp only [go_sem, fN, seval, eT, iR, e3, e7, e8, e9, hlt, dT, dF, nL]); (repeat refine Ai ?_); (try (refine hK _ ?_; clear hK K)); try refine iC ?_)
  simp only [go_sem, fN, seval, AR, AS.result, AF, AG, AQ]
  rw [List.take_of_length_le (by omega), hs]

def Dy (a : Au) (t : Tm) : Int := if a.may 8 40 = 0 then (if t.may = 0 then (if t.varsOf.length = 0 then 0 else 15) else t.may) else a.may 8 40
theorem Ly (a : Au) (t : Tm) (hl : a.last.length ≤ 100000) (hz : t.size ≤ 1000000) : AW Try.prog 12 [aAu a, aTm t] (.tup [Al (decide (Dy a t = 0) && a.acc t), AY (Dy a t)]) := by
 by_cases h1 : a.may 8 40 = 0
 case neg =>
  have e : Dy a t = a.may 8 40 := if_neg h1
  rw [e]
  refine BP.ac fun C hC => ?_
  unfold BE
  repeat' (first | (with_reducible first | refine W ?_ | refine Z0 ?_ | ((first | refine Wo fun K hK => ?_ | refine Wp ?_ | refine Wq ?_ | refine Wr ?_); (try simp only [go_sem, fN, seval, eT, iR, h1, dT, dF, nL]); (repeat refine Ai ?_); (try (refine hK _ ?_; clear hK K)); try refine iC ?_)) | refine Cg _ (Bo a) ?_)
  simp only [go_sem, fN, seval, AR, AS.result, AF, AG, AQ, h1]
  rfl
 case pos =>
 have e1 : Dy a t = if t.may = 0 then (if t.varsOf.length = 0 then 0 else 15) else t.may := if_pos h1
 have ga := Au.may_good h1
 obtain ⟨a1, _, _⟩ := Au.may_ok.1 h1
 by_cases h2 : t.may = 0
 case neg =>
  rw [e1, if_neg h2]
  refine BP.ac fun C hC => ?_
  unfold BE
  repeat' (first | (with_reducible first | refine W ?_ | refine Z0 ?_ | ((first | refine Wo fun K hK => ?_ | refine Wp ?_ | refine Wq ?_ | refine Wr ?_); (try simp only [go_sem, fN, seval, eT, iR, h1, h2, dT, dF, nL]); (repeat refine Ai ?_); (try (refine hK _ ?_; clear hK K)); try refine iC ?_)) | refine Cg _ (Bo a) ?_ | refine Cg _ (Ew t) ?_)
  simp only [go_sem, fN, seval, AR, AS.result, AF, AG, AQ, h2]
  rfl
 case pos =>
 rw [if_pos h2] at e1
 by_cases h3 : t.varsOf.length = 0
 case neg =>
  rw [if_neg h3] at e1
  rw [e1]
  have h3' : (0 : Int) < t.varsOf.length := by omega
  refine BP.ac fun C hC => ?_
  unfold BE
  repeat' (first | (with_reducible first | refine W ?_ | refine Z0 ?_ | ((first | refine Wo fun K hK => ?_ | refine Wp ?_ | refine Wq ?_ | refine Wr ?_); (try simp only [go_sem, fN, seval, eT, iR, h1, h2, h3', dT, dF, nL]); (repeat refine Ai ?_); (try (refine hK _ ?_; clear hK K)); try refine iC ?_)) | refine Cg _ (Bo a) ?_ | refine Cg _ (Ew t) ?_ | refine Cg _ (J9 t hz) ?_)
  simp only [go_sem, fN, seval, AR, AS.result, AF, AG, AQ]
  rfl
 case pos =>
 rw [if_pos h3] at e1
 rw [e1]
 have hacc := MM ga t
 have hE := Oz a ga (by omega) (by omega) t hz
 have hL := NN a ga (by omega) hl
 have iE := Mf (l := a.ends t) (by rw [a.ends_length]; omega)
 have iL := Mf (l := a.lastB) (by rw [a.lastB_length]; omega)
 have h0 : (0 : Int) ≤ (bN (a.ends t) : Int) ∧ (0 : Int) ≤ (bN a.lastB : Int) := ⟨Int.natCast_nonneg _, Int.natCast_nonneg _⟩
 cases hq : a.acc t with
 | true =>
  rw [hq] at hacc
  have hne : ¬ ((bN (a.ends t) &&& bN a.lastB : Nat) : Int) = 0 := fun e => hacc.2 rfl (by omega)
  refine BP.ac fun C hC => ?_
  unfold BE
  repeat' (first | (with_reducible first | refine W ?_ | refine Z0 ?_ | ((first | refine Wo fun K hK => ?_ | refine Wp ?_ | refine Wq ?_ | refine Wr ?_); (try simp only [go_sem, fN, seval, eT, iR, h1, h2, h3, HO, h0, Int.toNat_natCast, hne, dT, dF, nL]); (repeat refine Ai ?_); (try (refine hK _ ?_; clear hK K)); try refine iC ?_)) | refine Cg _ (Bo a) ?_ | refine Cg _ (Ew t) ?_ | refine Cg _ (J9 t hz) ?_ | refine Cg _ (hE) ?_ | refine Cg _ (hL) ?_)
  simp only [go_sem, fN, seval, AR, AS.result, AF, AG, AQ, hne]
  rfl
 | false =>
  rw [hq] at hacc
  have hne : ((bN (a.ends t) &&& bN a.lastB : Nat) : Int) = 0 := by
   by_cases e : bN (a.ends t) &&& bN a.lastB = 0
   ·rw [e]; rfl
   ·exact absurd (hacc.1 e) (by decide)
  refine BP.ac fun C hC => ?_
  unfold BE
  repeat' (first | (with_reducible first | refine W ?_ | refine Z0 ?_ | ((first | refine Wo fun K hK => ?_ | refine Wp ?_ | refine Wq ?_ | refine Wr ?_); (try simp only [go_sem, fN, seval, eT, iR, h1, h2, h3, HO, h0, Int.toNat_natCast, hne, dT, dF, nL]); (repeat refine Ai ?_); (try (refine hK _ ?_; clear hK K)); try refine iC ?_)) | refine Cg _ (Bo a) ?_ | refine Cg _ (Ew t) ?_ | refine Cg _ (J9 t hz) ?_ | refine Cg _ (hE) ?_ | refine Cg _ (hL) ?_)
  simp only [go_sem, fN, seval, AR, AS.result, AF, AG, AQ, hne]
  rfl
theorem JZ {t : Tm} (h : OkB t) : 0 < t.name.size := by
 have h1 := h.1
 rw [Tm.chk_eq] at h1
 split at h1
 ·rename_i h0
  have := Fr h0
  omega
 ·rename_i h0
  exact absurd h1 h0
theorem NV (a b : Tm) (ha : OkB a) (hb : OkB b) : AW Try.prog 33 [aTm a, aTm b] (Al (CR a b)) := by
 have za := ha.2
 have zb := hb.2
 have ta := DX ha
 have tb := DX hb
 by_cases h : a.size = b.size
 ·have e : CR a b = sLt a.text b.text := if_pos h
  rw [e]
  have h' : (a.size : Int) - b.size = 0 := by omega
  refine Et.ac fun C hC => ?_
  unfold DC
  repeat' (first | (with_reducible first | refine W ?_ | refine Z0 ?_ | ((first | refine Wo fun K hK => ?_ | refine Wp ?_ | refine Wq ?_ | refine Wr ?_); (try simp only [go_sem, fN, seval, eT, iR, h', dT, dF, nL]); (repeat refine Ai ?_); (try (refine hK _ ?_; clear hK K)); try refine iC ?_)) | refine Cg _ (E0 a (by omega)) ?_ | refine Cg _ (E0 b (by omega)) ?_ | refine Cg _ (Mc a (JZ ha) (by omega)) ?_ | refine Cg _ (Mc b (JZ hb) (by omega)) ?_)
  simp only [go_sem, fN, seval, AR, AS.result, AF, AG, AQ]
 ·have e : CR a b = decide (a.size < b.size) := if_neg h
  rw [e]
  have h' : ¬ (a.size : Int) - b.size = 0 := by omega
  have h2 : ((a.size : Int) - b.size < 0) = (a.size < b.size) := by rw [eq_iff_iff]; omega
  refine Et.ac fun C hC => ?_
  unfold DC
  repeat' (first | (with_reducible first | refine W ?_ | refine Z0 ?_ | ((first | refine Wo fun K hK => ?_ | refine Wp ?_ | refine Wq ?_ | refine Wr ?_); (try simp only [go_sem, fN, seval, eT, iR, h', h2, dT, dF, nL]); (repeat refine Ai ?_); (try (refine hK _ ?_; clear hK K)); try refine iC ?_)) | refine Cg _ (E0 a (by omega)) ?_ | refine Cg _ (E0 b (by omega)) ?_)
  simp only [go_sem, fN, seval, AR, AS.result, AF, AG, AQ]
theorem IB (a b : Tm) (ha : OkB a) (hb : OkB b) : AW Try.prog 27 [aTm a, aTm b] (Al (CR a b)) := by
 have za := ha.2
 have zb := hb.2
 have ta := DX ha
 have tb := DX hb
 have ca : A7 a.size 2000 = a.size := by unfold A7; split <;> omega
 have cb : A7 b.size 2000 = b.size := by unfold A7; split <;> omega
 have sa := Ey a 2000 (by decide) (by decide)
 have sb := Ey b 2000 (by decide) (by decide)
 rw [ca] at sa
 rw [cb] at sb
 by_cases h : a.size = b.size
 ·have e : CR a b = sLt a.text b.text := if_pos h
  rw [e]
  have h' : (a.size : Int) = b.size := by omega
  refine E4.ac fun C hC => ?_
  unfold DJ
  repeat' (first | (with_reducible first | refine W ?_ | refine Z0 ?_ | ((first | refine Wo fun K hK => ?_ | refine Wp ?_ | refine Wq ?_ | refine Wr ?_); (try simp only [go_sem, fN, seval, eT, iR, h', dT, dF, nL]); (repeat refine Ai ?_); (try (refine hK _ ?_; clear hK K)); try refine iC ?_)) | refine Cg _ (sa) ?_ | refine Cg _ (sb) ?_ | refine Cg _ (K4 a (by omega)) ?_ | refine Cg _ (K4 b (by omega)) ?_)
  simp only [go_sem, fN, seval, AR, AS.result, AF, AG, AQ]
 ·have e : CR a b = decide (a.size < b.size) := if_neg h
  rw [e]
  have h' : ¬ (a.size : Int) = b.size := by omega
  refine E4.ac fun C hC => ?_
  unfold DJ
  repeat' (first | (with_reducible first | refine W ?_ | refine Z0 ?_ | ((first | refine Wo fun K hK => ?_ | refine Wp ?_ | refine Wq ?_ | refine Wr ?_); (try simp only [go_sem, fN, seval, eT, iR, h', dT, dF, nL]); (repeat refine Ai ?_); (try (refine hK _ ?_; clear hK K)); try refine iC ?_)) | refine Cg _ (sa) ?_ | refine Cg _ (sb) ?_)
  simp only [go_sem, fN, seval, AR, AS.result, AF, AG, AQ]

end Go.Proofs.Ytbknconogoegaaa
