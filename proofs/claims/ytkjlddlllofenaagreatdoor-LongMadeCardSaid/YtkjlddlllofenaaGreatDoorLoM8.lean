/-
  Part 8 of the texts. Conditions: none.
-/
import Derived.Test.YtkjlddlllofenaaGreatDoorLoM7
import Derived.Shelf.Strconv.Itoa3
import Derived.Shelf.SlSortCmp.WholeK
import Derived.Shelf.SlSortCmp.NoneTotal
import Derived.Test.YtkjlddlllofenaaGreatDoorProg
import Derived.Lib.AppendIntMem
import Derived.Lib.ItoaLen
import Derived.Lib.ItoaMem
namespace Go.Proofs.YtkjlddlllofenaaGreatDoor
open Go Go.RowKit
set_option maxRecDepth 100000
def ir_infer_within : IR :=
 (.seq (.ops [.i 2 (.box 27 (.t 0)), .i 4 (.mov (.n 0))]) (.seq (.ops [.m 7 1, .i 8 (.bin .sub (.t 7) (.n 1)), .m 1 8]) (.seq (.seq (.ops [.f 9 1 2, .l 10 9, .i 11 (.len false (.t 10)), .i 12 (.mov (.n 0))]) (.block 0 (.loop (.seq (.ops [.i 13 (.bin .lss (.t 12) (.t 11))]) (.seq (.cond (.t 13) .skip (.exit 0)) (.seq (.block 1 (.seq (.ops [.i 14 (.indexAddr 2 (.t 10) (.t 12)), .L 15 2 14, .i 6 (.alloc 27 [.st (.int .i64 0), .full []]), .s 2 6 15]) (.seq (.seq (.ops [.m 16 1, .i 17 (.bin .lss (.t 16) (.n 0))]) (.cond (.t 17) (.exit 0) .skip)) (.ops [.L 18 2 6, .m 19 1, .i 20 (.call 74 [.t 18, .t 19]), .m 1 20])))) (.ops [.i 21 (.bin .add (.t 12) (.n 1)), .m 12 21]))))))) (.seq (.ops [.m 22 1, .m 4 22]) .ret))))
theorem ok_infer_within : OkF Tryz.prog 74 23 [] ir_infer_within [.t 4] := .of Tryz.func74 rfl rfl (by kernel_rfl) rfl
def ir_infer_check : IR :=
 (.seq (.ops [.i 1 (.box 27 (.t 0)), .i 2 (.mov (.n 0))]) (.seq (.block 0 (.seq (.ops [.f 7 1 1, .l 8 7, .i 9 (.len false (.t 8)), .i 10 (.bin .neq (.t 9) (.n 0)), .m 11 10, .mk (some 12) (some (11, true)) (.fieldAddr 1 (.t 1)) .no, .mk (some 13) (some (11, true)) (.load false 1 (.t 12)) .no, .mk (some 14) (some (11, true)) (.len false (.t 13)) .no, .mk (some 15) (some (11, true)) (.bin .neq (.t 14) (.n 2)) .no, .i 16 (.pick (.t 11) (.t 15) (.c (.one (.st (.bool false))))), .m 17 16, .mk (some 18) (some (17, false)) (.fieldAddr 1 (.t 1)) .no, .mk (some 19) (some (17, false)) (.load false 1 (.t 18)) .no, .mk (some 20) (some (17, false)) (.len false (.t 19)) .no, .mk (some 21) (some (17, false)) (.bin .eql (.t 20) (.n 2)) .no, .mk (some 22) (some (17, false)) (.mov (.t 21)) .no, .mk (some 23) (some (22, true)) (.fieldAddr 0 (.t 1)) .no, .mk (some 24) (some (22, true)) (.load false 1 (.t 23)) .no, .mk (some 25) (some (22, true)) (.bin .neq (.t 24) (.n 0)) .no, .mk (some 26) (some (17, false)) (.pick (.t 22) (.t 25) (.c (.one (.st (.bool false))))) .no, .i 27 (.pick (.t 17) (.c (.one (.st (.bool true)))) (.t 26)), .m 6 27]) (.cond (.t 6) (.seq (.ops [.i 2 (.mov (.n 2))]) .ret) (.seq (.ops [.f 29 0 1, .l 30 29, .i 31 (.bin .lss (.t 30) (.n 0)), .m 32 31, .mk (some 33) (some (32, false)) (.fieldAddr 0 (.t 1)) .no, .mk (some 34) (some (32, false)) (.load false 1 (.t 33)) .no, .mk (some 35) (some (32, false)) (.bin .gtr (.t 34) (.n 999)) .no, .i 36 (.pick (.t 32) (.c (.one (.st (.bool true)))) (.t 35)), .m 28 36]) (.cond (.t 28) (.seq (.ops [.i 2 (.mov (.n 10))]) .ret) .skip))))) (.seq (.seq (.ops [.f 37 1 1, .l 38 37, .i 39 (.len false (.t 38)), .i 40 (.mov (.n 0))]) (.block 1 (.loop (.seq (.ops [.i 41 (.bin .lss (.t 40) (.t 39))]) (.seq (.cond (.t 41) .skip (.exit 1)) (.seq (.block 2 (.seq (.ops [.i 42 (.indexAddr 2 (.t 38) (.t 40)), .L 43 2 42, .i 4 (.alloc 27 [.st (.int .i64 0), .full []]), .s 2 4 43]) (.seq (.ops [.L 44 2 4, .i 45 (.call 75 [.t 44]), .m 5 45]) (.seq (.ops [.m 46 5, .i 47 (.bin .neq (.t 46) (.n 0))]) (.cond (.t 47) (.seq (.ops [.m 48 5, .m 2 48]) .ret) .skip))))) (.ops [.i 49 (.bin .add (.t 40) (.n 1)), .m 40 49]))))))) (.seq (.ops [.i 2 (.mov (.n 0))]) .ret))))
theorem ok_infer_check : OkF Tryz.prog 75 50 [] ir_infer_check [.t 2] := .of Tryz.func75 rfl rfl (by kernel_rfl) rfl
def ir_infer_Check : IR :=
 (.seq (.ops [.i 1 (.box 27 (.t 0)), .i 2 (.mov (.n 0))]) (.seq (.seq (.ops [.L 3 2 1, .i 4 (.call 74 [.t 3, .n 200]), .i 5 (.bin .lss (.t 4) (.n 0))]) (.cond (.t 5) (.seq (.ops [.i 2 (.mov (.n 3))]) .ret) .skip)) (.seq (.ops [.L 6 2 1, .i 7 (.call 75 [.t 6]), .m 2 7]) .ret)))
theorem ok_infer_Check : OkF Tryz.prog 55 8 [] ir_infer_Check [.t 2] := .of Tryz.func55 rfl rfl (by kernel_rfl) rfl
def ir_infer_arrow : IR :=
 (.seq (.ops [.i 2 (.box 61 (.t 0)), .i 3 (.box 61 (.t 1)), .i 4 (.alloc 61 [.st (.str (ByteArray.mk (#[]))), .full []])]) (.seq (.ops [.L 5 2 2, .L 6 2 3, .i 7 (.buildSlice false 61 2 [.t 5, .t 6]), .i 8 (.build [.st (.str (ByteArray.mk (#[]))), .full []] [(0, 1, .c (.one (.st (.str (ByteArray.mk (#[102])))))), (1, 1, .t 7)]), .s 2 4 8]) .ret))
theorem ok_infer_arrow : OkF Tryz.prog 86 9 [] ir_infer_arrow [.cell 4 true 2] := .of Tryz.func86 rfl rfl (by kernel_rfl) rfl
def ir_infer_as : IR :=
 (.seq (.ops [.i 2 (.box 27 (.t 0)), .i 4 (.alloc 61 [.st (.str (ByteArray.mk (#[]))), .full []])]) (.seq (.seq (.ops [.f 5 1 2, .l 6 5, .i 7 (.len false (.t 6)), .i 8 (.bin .eql (.t 7) (.n 0))]) (.cond (.t 8) (.seq (.ops [.m 9 1, .f 10 0 2, .l 11 10, .i 12 (.call 85 [.t 11]), .i 13 (.bin .add (.t 9) (.t 12)), .i 14 (.build [.st (.str (ByteArray.mk (#[]))), .full []] [(0, 1, .t 13)]), .s 2 4 14]) .ret) .skip)) (.seq (.ops [.f 15 1 2, .l 16 15, .i 17 (.indexAddr 2 (.t 16) (.n 0)), .L 18 2 17, .m 19 1, .i 20 (.call 58 [.t 18, .t 19]), .f 21 1 2, .l 22 21, .i 23 (.indexAddr 2 (.t 22) (.n 1)), .L 24 2 23, .m 25 1, .i 26 (.call 58 [.t 24, .t 25]), .i 27 (.call 86 [.t 20, .t 26]), .s 2 4 27]) .ret)))
theorem ok_infer_as : OkF Tryz.prog 58 28 [] ir_infer_as [.cell 4 true 2] := .of Tryz.func58 rfl rfl (by kernel_rfl) rfl
def ir_metaprune_infer_maker_fresh : IR :=
 (.seq (.ops [.i 2 (.alloc 61 [.st (.str (ByteArray.mk (#[]))), .full []])]) (.seq (.ops [.m 3 0, .i 4 (.nilCheck (.t 3)), .f 5 1 4, .l 6 5, .i 7 (.bin .add (.t 6) (.n 1)), .i 8 (.nilCheck (.t 3)), .f 9 1 8, .s 1 9 7]) (.seq (.ops [.m 10 0, .i 11 (.nilCheck (.t 10)), .f 12 1 11, .l 13 12, .i 14 (.call 85 [.t 13]), .i 15 (.bin .add (.c (.one (.st (.str (ByteArray.mk (#[84])))))) (.t 14)), .i 16 (.build [.st (.str (ByteArray.mk (#[]))), .full []] [(0, 1, .t 15)]), .s 2 2 16]) .ret)))
theorem ok_metaprune_infer_maker_fresh : OkF Tryz.prog 94 17 [] ir_metaprune_infer_maker_fresh [.cell 2 true 2] := .of Tryz.func94 rfl rfl (by kernel_rfl) rfl
def ir_slices_Clone_metaprune_api_Term_metaprune_api_Term : IR :=
 (.seq (.ops [.i 2 (.mov (.c (.one (.full []))))]) (.seq (.seq (.ops [.m 3 0, .i 4 (.eqN false (.t 3))]) (.cond (.t 4) (.seq (.ops [.i 2 (.mov (.c (.one (.full []))))]) .ret) .skip)) (.seq (.ops [.i 5 (.buildSlice false 61 2 []), .m 6 0, .i 7 (.append false 61 2 40 (.t 5) (.t 6)), .m 2 7]) .ret)))
theorem ok_slices_Clone_metaprune_api_Term_metaprune_api_Term : OkF Tryz.prog 95 8 [] ir_slices_Clone_metaprune_api_Term_metaprune_api_Term [.t 2] := .of Tryz.func95 rfl rfl (by kernel_rfl) rfl
def ir_metaprune_infer_maker_of : IR :=
 (.seq (.ops [.i 4 (.box 24 (.t 1)), .i 6 (.alloc 61 [.st (.str (ByteArray.mk (#[]))), .full []])]) (.seq (.seq (.ops [.f 11 0 4, .l 12 11]) (.block 0 (.seq (.ops [.i 14 (.bin .eql (.t 12) (.n 1)), .m 13 14]) (.cond (.t 13) (.seq (.ops [.m 15 2, .m 16 2, .i 17 (.len false (.t 16)), .i 18 (.bin .sub (.t 17) (.n 1)), .f 19 1 4, .l 20 19, .i 21 (.bin .sub (.t 18) (.t 20)), .i 22 (.indexAddr 2 (.t 15) (.t 21)), .L 23 2 22, .s 2 6 23]) .ret) (.seq (.ops [.i 25 (.bin .eql (.t 12) (.n 2)), .m 24 25]) (.cond (.t 24) (.seq (.ops [.m 26 0, .i 27 (.callS 94 [.t 26]), .i 7 (.alloc 61 [.st (.str (ByteArray.mk (#[]))), .full []]), .s 2 7 27]) (.seq (.ops [.mk (some 28) none (.load true 2 (.t 7)) (.onb 7), .m 29 0, .mk (some 30) none (.fieldAddr 2 (.t 4)) (.onb 4), .mk (some 31) none (.load false 1 (.t 30)) (.onb 4), .i 32 (.indexL 3 (.t 31) (.n 0)), .i 33 (.loadL true 3 (.t 32)), .m 34 2, .mk (some 35) none (.callN 95 [.t 34]) (.keeps [7]), .mk (some 36) none (.load true 2 (.t 7)) (.onb 7), .i 37 (.buildL 2 [.t 36]), .mk (some 38) none (.append false 61 2 40 (.t 35) (.t 37)) (.keeps [7, 4, 4]), .mk (some 39) none (.callS 78 [.t 29, .t 33, .t 38]) (.keeps [7]), .i 40 (.call 86 [.t 28, .t 39]), .s 2 6 40]) .ret)) .skip)))))) (.seq (.ops [.m 41 0, .f 42 2 4, .l 43 42, .i 44 (.indexAddr 3 (.t 43) (.n 0)), .L 45 3 44, .m 46 2, .i 47 (.callS 78 [.t 41, .t 45, .t 46]), .i 8 (.alloc 61 [.st (.str (ByteArray.mk (#[]))), .full []]), .s 2 8 47]) (.seq (.ops [.m 48 0, .f 49 2 4, .l 50 49, .i 51 (.indexAddr 3 (.t 50) (.n 1)), .L 52 3 51, .m 53 2, .i 54 (.callS 78 [.t 48, .t 52, .t 53]), .i 9 (.alloc 61 [.st (.str (ByteArray.mk (#[]))), .full []]), .s 2 9 54]) (.seq (.ops [.m 55 0, .i 56 (.callS 94 [.t 55]), .i 10 (.alloc 61 [.st (.str (ByteArray.mk (#[]))), .full []]), .s 2 10 56]) (.seq (.ops [.m 57 0, .m 58 0, .i 59 (.nilCheck (.t 58)), .f 60 0 59, .l 61 60, .L 62 2 8, .L 63 2 9, .L 64 2 10, .i 65 (.call 86 [.t 63, .t 64]), .i 66 (.build [.st (.str (ByteArray.mk (#[]))), .full [], .st (.str (ByteArray.mk (#[]))), .full []] [(0, 2, .t 62), (2, 2, .t 65)]), .i 67 (.buildSlice false 91 4 [.t 66]), .i 68 (.append false 91 4 80 (.t 61) (.t 67)), .i 69 (.nilCheck (.t 57)), .f 70 0 69, .s 1 70 68]) (.seq (.ops [.L 71 2 10, .s 2 6 71]) .ret)))))))
theorem ok_metaprune_infer_maker_of : OkF Tryz.prog 78 72 [27, 20000035, 39, 47, 54, 56, 60000032, 60000033, 60000037] ir_metaprune_infer_maker_of [.cell 6 true 2] := .of Tryz.func78 rfl rfl (by kernel_rfl) rfl
def ir_slices_ContainsFunc_metaprune_api_Lam_metaprune_api_Lam : IR :=
 (.seq (.ops [.i 4 (.mov (.c (.one (.st (.bool false)))))]) (.seq (.ops [.m 5 0, .m 6 1, .i 7 (.call 107 [.t 5, .t 6]), .i 8 (.bin .geq (.t 7) (.n 0)), .m 4 8]) .ret))
theorem ok_slices_ContainsFunc_metaprune_api_Lam_metaprune_api_Lam : OkF Tryz.prog 92 9 [] ir_slices_ContainsFunc_metaprune_api_Lam_metaprune_api_Lam [.t 4] := .of Tryz.func92 rfl rfl (by kernel_rfl) rfl
def ir_slices_IndexFunc_metaprune_api_Lam_metaprune_api_Lam : IR :=
 (.seq (.ops [.i 4 (.mov (.n 0))]) (.seq (.seq (.ops [.m 6 0, .i 7 (.len false (.t 6)), .i 8 (.mov (.n 0))]) (.block 0 (.loop (.seq (.ops [.i 9 (.bin .lss (.t 8) (.t 7))]) (.seq (.cond (.t 9) .skip (.exit 0)) (.seq (.block 1 (.seq (.ops [.m 10 8, .m 5 10]) (.seq (.ops [.m 11 1, .m 12 0, .m 13 5, .i 14 (.indexAddr 3 (.t 12) (.t 13)), .L 15 3 14, .i 16 (.callV (.t 11) [.t 15])]) (.cond (.t 16) (.seq (.ops [.m 17 5, .m 4 17]) .ret) .skip)))) (.ops [.i 18 (.bin .add (.t 8) (.n 1)), .m 8 18]))))))) (.seq (.ops [.i 4 (.mov (.c (.one (.st (.int .i64 (-1))))))]) .ret)))
theorem ok_slices_IndexFunc_metaprune_api_Lam_metaprune_api_Lam : OkF Tryz.prog 107 19 [] ir_slices_IndexFunc_metaprune_api_Lam_metaprune_api_Lam [.t 4] := .of Tryz.func107 rfl rfl (by kernel_rfl) rfl
def ir_infer_pure_1 : IR :=
 (.seq (.ops [.i 1 (.box 24 (.t 0)), .i 2 (.mov (.c (.one (.st (.bool false)))))]) (.seq (.ops [.L 3 3 1, .i 4 (.call 77 [.t 3]), .i 5 (.un .not (.t 4)), .m 2 5]) .ret))
theorem ok_infer_pure_1 : OkF Tryz.prog 93 6 [] ir_infer_pure_1 [.t 2] := .of Tryz.func93 rfl rfl (by kernel_rfl) rfl
def ir_infer_pure : IR :=
 (.seq (.ops [.i 1 (.box 24 (.t 0)), .i 2 (.mov (.c (.one (.st (.bool false)))))]) (.seq (.ops [.f 3 0 1, .l 4 3, .i 5 (.bin .neq (.t 4) (.n 4)), .m 6 5, .mk (some 7) (some (6, true)) (.fieldAddr 2 (.t 1)) .no, .mk (some 8) (some (6, true)) (.load false 1 (.t 7)) .no, .mk (some 9) (some (6, true)) (.call 92 [.t 8, .c (.one (.fn 93 []))]) .no, .mk (some 10) (some (6, true)) (.un .not (.t 9)) .no, .i 11 (.pick (.t 6) (.t 10) (.c (.one (.st (.bool false))))), .m 2 11]) .ret))
theorem ok_infer_pure : OkF Tryz.prog 77 12 [] ir_infer_pure [.t 2] := .of Tryz.func77 rfl rfl (by kernel_rfl) rfl
def ir_infer_Principal : IR :=
 (.seq (.ops [.i 1 (.box 24 (.t 0)), .i 2 (.alloc 27 [.st (.int .i64 0), .full []]), .i 3 (.mov (.n 0))]) (.seq (.seq (.ops [.L 12 3 1, .i 13 (.call 76 [.t 12, .n 0]), .m 4 13]) (.seq (.ops [.m 14 4, .i 15 (.bin .neq (.t 14) (.n 0))]) (.cond (.t 15) (.seq (.ops [.i 16 (.build [.st (.int .i64 0), .full []] []), .m 17 4, .s 2 2 16, .m 3 17]) .ret) .skip))) (.seq (.seq (.ops [.L 18 3 1, .i 19 (.call 77 [.t 18]), .i 20 (.un .not (.t 19))]) (.cond (.t 20) (.seq (.ops [.i 21 (.build [.st (.int .i64 0), .full []] []), .s 2 2 21, .i 3 (.mov (.n 15))]) .ret) .skip)) (.seq (.ops [.i 22 (.build [.full [], .st (.int .i64 0)] []), .i 23 (.box 116 (.t 22)), .m 5 23]) (.seq (.ops [.m 24 5, .L 25 3 1, .i 26 (.callS 78 [.t 24, .t 25, .c (.one (.full []))]), .i 6 (.alloc 61 [.st (.str (ByteArray.mk (#[]))), .full []]), .s 2 6 26]) (.seq (.ops [.m 28 5, .i 29 (.nilCheck (.t 28)), .f 30 0 29, .l 31 30, .i 32 (.call 79 [.t 31]), .m 27 32, .i 33 (.extract 0 (.t 27)), .i 34 (.extract 1 (.t 27)), .m 7 33, .m 8 34]) (.seq (.seq (.ops [.m 35 8, .i 36 (.bin .eql (.t 35) (.n 6))]) (.cond (.t 36) (.ops [.i 8 (.mov (.n 11))]) .skip)) (.seq (.seq (.ops [.m 37 8, .i 38 (.bin .neq (.t 37) (.n 0))]) (.cond (.t 38) (.seq (.ops [.i 39 (.build [.st (.int .i64 0), .full []] []), .m 40 8, .s 2 2 39, .m 3 40]) .ret) .skip)) (.seq (.ops [.m 42 7, .L 43 2 6, .i 44 (.call 80 [.t 42, .t 43]), .m 41 44, .i 45 (.extract 0 (.t 41)), .i 46 (.extract 1 (.t 41)), .i 9 (.alloc 61 [.st (.str (ByteArray.mk (#[]))), .full []]), .s 2 9 45, .m 10 46]) (.seq (.seq (.ops [.m 47 10, .i 48 (.un .not (.t 47))]) (.cond (.t 48) (.seq (.ops [.i 49 (.build [.st (.int .i64 0), .full []] []), .s 2 2 49, .i 3 (.mov (.n 8))]) .ret) .skip)) (.seq (.ops [.i 50 (.makeMap none), .m 11 50]) (.seq (.ops [.L 51 2 9, .m 52 11, .i 53 (.callS 81 [.t 51, .t 52]), .s 2 2 53, .i 3 (.mov (.n 0))]) .ret))))))))))))
theorem ok_infer_Principal : OkF Tryz.prog 56 54 [26, 53] ir_infer_Principal [.cell 2 true 2, .t 3] := .of Tryz.func56 rfl rfl (by kernel_rfl) rfl
def ir_infer_back : IR :=
 (.seq (.ops [.i 2 (.box 61 (.t 0)), .i 4 (.alloc 27 [.st (.int .i64 0), .full []])]) (.seq (.seq (.ops [.f 8 1 2, .l 9 8, .i 10 (.len false (.t 9)), .i 11 (.bin .eql (.t 10) (.n 0))]) (.cond (.t 11) (.seq (.seq (.ops [.m 13 1, .f 14 0 2, .l 15 14, .i 16 (.lookup none true (.one (.st (.int .i64 0))) (.t 13) (.t 15)), .m 12 16, .i 17 (.extract 0 (.t 12)), .i 18 (.extract 1 (.t 12)), .m 5 17, .m 6 18]) (.seq (.ops [.m 19 6, .i 20 (.un .not (.t 19))]) (.cond (.t 20) (.ops [.m 21 1, .f 22 0 2, .l 23 22, .m 24 1, .i 25 (.lenM (.t 24)), .mk none none (.mapSet none (.t 21) (.t 23) (.t 25)) .no]) .skip))) (.seq (.ops [.m 26 1, .f 27 0 2, .l 28 27, .i 29 (.lookup none false (.one (.st (.int .i64 0))) (.t 26) (.t 28)), .i 30 (.build [.st (.int .i64 0), .full []] [(0, 1, .t 29)]), .s 2 4 30]) .ret)) .skip)) (.seq (.ops [.f 31 1 2, .l 32 31, .i 33 (.indexAddr 2 (.t 32) (.n 0)), .L 34 2 33, .m 35 1, .i 36 (.callS 81 [.t 34, .t 35]), .i 7 (.alloc 27 [.st (.int .i64 0), .full []]), .s 2 7 36]) (.seq (.ops [.mk (some 37) none (.load true 2 (.t 7)) (.onb 7), .f 38 1 2, .l 39 38, .i 40 (.indexAddr 2 (.t 39) (.n 1)), .L 41 2 40, .m 42 1, .mk (some 43) none (.callS 81 [.t 41, .t 42]) (.keeps [7]), .i 44 (.buildSlice false 27 2 [.t 37, .t 43]), .i 45 (.build [.st (.int .i64 0), .full []] [(1, 1, .t 44)]), .s 2 4 45]) .ret))))
theorem ok_infer_back : OkF Tryz.prog 81 46 [36, 43] ir_infer_back [.cell 4 true 2] := .of Tryz.func81 rfl rfl (by kernel_rfl) rfl
def ir_infer_Has : IR :=
 (.seq (.ops [.i 2 (.box 24 (.t 0)), .i 3 (.box 27 (.t 1)), .i 4 (.mov (.c (.one (.st (.bool false))))), .i 5 (.mov (.n 0))]) (.seq (.seq (.ops [.L 11 2 3, .i 12 (.call 55 [.t 11]), .m 6 12]) (.seq (.ops [.m 13 6, .i 14 (.bin .neq (.t 13) (.n 0))]) (.cond (.t 14) (.seq (.ops [.m 15 6, .i 4 (.mov (.c (.one (.st (.bool false))))), .m 5 15]) .ret) .skip))) (.seq (.ops [.L 17 3 2, .i 18 (.call 56 [.t 17]), .m 16 18, .i 19 (.extract 0 (.t 16)), .i 20 (.extract 1 (.t 16)), .i 7 (.alloc 27 [.st (.int .i64 0), .full []]), .s 2 7 19, .m 8 20]) (.seq (.seq (.ops [.m 21 8, .i 22 (.bin .eql (.t 21) (.n 11))]) (.cond (.t 22) (.seq (.ops [.i 4 (.mov (.c (.one (.st (.bool false))))), .i 5 (.mov (.n 0))]) .ret) .skip)) (.seq (.seq (.ops [.m 23 8, .i 24 (.bin .neq (.t 23) (.n 0))]) (.cond (.t 24) (.seq (.ops [.m 25 8, .i 4 (.mov (.c (.one (.st (.bool false))))), .m 5 25]) .ret) .skip)) (.seq (.ops [.L 27 2 7, .i 28 (.call 58 [.t 27, .c (.one (.st (.str (ByteArray.mk (#[80])))))]), .L 29 2 3, .i 30 (.call 58 [.t 29, .c (.one (.st (.str (ByteArray.mk (#[81])))))]), .i 31 (.call 57 [.t 28, .t 30]), .m 26 31, .i 32 (.extract 0 (.t 26)), .i 33 (.extract 1 (.t 26)), .m 9 32, .m 10 33]) (.seq (.ops [.m 34 10, .m 4 34, .i 5 (.mov (.n 0))]) .ret)))))))
theorem ok_infer_Has : OkF Tryz.prog 37 35 [] ir_infer_Has [.t 4, .t 5] := .of Tryz.func37 rfl rfl (by kernel_rfl) rfl
def ir_R_TypeSize : IR :=
 (.seq (.ops [.i 2 (.box 27 (.t 0)), .i 4 (.mov (.n 0))]) (.seq (.ops [.i 5 (.mov (.n 1))]) (.seq (.seq (.ops [.i 6 (.mov (.n 0))]) (.block 0 (.loop (.seq (.seq (.ops [.m 7 6, .f 8 1 2, .l 9 8, .i 10 (.len false (.t 9)), .i 11 (.bin .lss (.t 7) (.t 10)), .m 12 11, .mk (some 13) (some (12, true)) (.mov (.t 5)) .no, .mk (some 14) (some (12, true)) (.mov (.t 1)) .no, .mk (some 15) (some (12, true)) (.bin .leq (.t 13) (.t 14)) .no, .i 16 (.pick (.t 12) (.t 15) (.c (.one (.st (.bool false)))))]) (.cond (.t 16) .skip (.exit 0))) (.seq (.block 1 (.ops [.m 19 5, .f 20 1 2, .l 21 20, .m 22 6, .i 23 (.indexAddr 2 (.t 21) (.t 22)), .L 24 2 23, .m 25 1, .m 26 5, .i 27 (.bin .sub (.t 25) (.t 26)), .i 28 (.call 21 [.t 24, .t 27]), .i 29 (.bin .add (.t 19) (.t 28)), .m 5 29])) (.ops [.m 17 6, .i 18 (.bin .add (.t 17) (.n 1)), .m 6 18])))))) (.seq (.seq (.ops [.m 30 5, .m 31 1, .i 32 (.bin .gtr (.t 30) (.t 31))]) (.cond (.t 32) (.seq (.ops [.m 33 1, .i 34 (.bin .add (.t 33) (.n 1)), .m 4 34]) .ret) .skip)) (.seq (.ops [.m 35 5, .m 4 35]) .ret)))))
theorem ok_R_TypeSize : OkF Tryz.prog 21 36 [] ir_R_TypeSize [.t 4] := .of Tryz.func21 rfl rfl (by kernel_rfl) rfl
def ir_R_TypeMay : IR :=
 (.seq (.ops [.i 1 (.box 27 (.t 0)), .i 2 (.mov (.n 0))]) (.seq (.seq (.ops [.L 3 2 1, .i 4 (.call 21 [.t 3, .n 200]), .i 5 (.bin .gtr (.t 4) (.n 200))]) (.cond (.t 5) (.seq (.ops [.i 2 (.mov (.n 3))]) .ret) .skip)) (.seq (.ops [.L 6 2 1, .i 7 (.call 22 [.t 6]), .m 2 7]) .ret)))
theorem ok_R_TypeMay : OkF Tryz.prog 7 8 [] ir_R_TypeMay [.t 2] := .of Tryz.func7 rfl rfl (by kernel_rfl) rfl
def ir_R_typeMay : IR :=
 (.seq (.ops [.i 1 (.box 27 (.t 0)), .i 2 (.mov (.n 0))]) (.seq (.seq (.ops [.f 5 1 1, .l 6 5, .i 7 (.len false (.t 6)), .i 8 (.bin .neq (.t 7) (.n 0)), .m 9 8, .mk (some 10) (some (9, true)) (.fieldAddr 1 (.t 1)) .no, .mk (some 11) (some (9, true)) (.load false 1 (.t 10)) .no, .mk (some 12) (some (9, true)) (.len false (.t 11)) .no, .mk (some 13) (some (9, true)) (.bin .neq (.t 12) (.n 2)) .no, .i 14 (.pick (.t 9) (.t 13) (.c (.one (.st (.bool false))))), .m 15 14, .mk (some 16) (some (15, false)) (.fieldAddr 1 (.t 1)) .no, .mk (some 17) (some (15, false)) (.load false 1 (.t 16)) .no, .mk (some 18) (some (15, false)) (.len false (.t 17)) .no, .mk (some 19) (some (15, false)) (.bin .eql (.t 18) (.n 2)) .no, .mk (some 20) (some (15, false)) (.mov (.t 19)) .no, .mk (some 21) (some (20, true)) (.fieldAddr 0 (.t 1)) .no, .mk (some 22) (some (20, true)) (.load false 1 (.t 21)) .no, .mk (some 23) (some (20, true)) (.bin .neq (.t 22) (.n 0)) .no, .mk (some 24) (some (15, false)) (.pick (.t 20) (.t 23) (.c (.one (.st (.bool false))))) .no, .i 25 (.pick (.t 15) (.c (.one (.st (.bool true)))) (.t 24))]) (.cond (.t 25) (.seq (.ops [.i 2 (.mov (.n 2))]) .ret) .skip)) (.seq (.seq (.ops [.f 26 0 1, .l 27 26, .i 28 (.bin .lss (.t 27) (.n 0)), .m 29 28, .mk (some 30) (some (29, false)) (.fieldAddr 0 (.t 1)) .no, .mk (some 31) (some (29, false)) (.load false 1 (.t 30)) .no, .mk (some 32) (some (29, false)) (.bin .gtr (.t 31) (.n 999)) .no, .i 33 (.pick (.t 29) (.c (.one (.st (.bool true)))) (.t 32))]) (.cond (.t 33) (.seq (.ops [.i 2 (.mov (.n 10))]) .ret) .skip)) (.seq (.seq (.ops [.i 3 (.mov (.n 0))]) (.block 0 (.loop (.seq (.seq (.ops [.m 34 3, .f 35 1 1, .l 36 35, .i 37 (.len false (.t 36)), .i 38 (.bin .lss (.t 34) (.t 37))]) (.cond (.t 38) .skip (.exit 0))) (.seq (.block 1 (.seq (.ops [.f 41 1 1, .l 42 41, .m 43 3, .i 44 (.indexAddr 2 (.t 42) (.t 43)), .L 45 2 44, .i 46 (.call 22 [.t 45]), .m 4 46]) (.seq (.ops [.m 47 4, .i 48 (.bin .neq (.t 47) (.n 0))]) (.cond (.t 48) (.seq (.ops [.m 49 4, .m 2 49]) .ret) .skip)))) (.ops [.m 39 3, .i 40 (.bin .add (.t 39) (.n 1)), .m 3 40])))))) (.seq (.ops [.i 2 (.mov (.n 0))]) .ret)))))
theorem ok_R_typeMay : OkF Tryz.prog 22 50 [] ir_R_typeMay [.t 2] := .of Tryz.func22 rfl rfl (by kernel_rfl) rfl
def ir_R_SameType : IR :=
 (.seq (.ops [.i 2 (.box 27 (.t 0)), .i 3 (.box 27 (.t 1)), .i 4 (.mov (.c (.one (.st (.bool false)))))]) (.seq (.seq (.ops [.f 6 0 2, .l 7 6, .f 8 0 3, .l 9 8, .i 10 (.bin .neq (.t 7) (.t 9)), .m 11 10, .mk (some 12) (some (11, false)) (.fieldAddr 1 (.t 2)) .no, .mk (some 13) (some (11, false)) (.load false 1 (.t 12)) .no, .mk (some 14) (some (11, false)) (.len false (.t 13)) .no, .mk (some 15) (some (11, false)) (.fieldAddr 1 (.t 3)) .no, .mk (some 16) (some (11, false)) (.load false 1 (.t 15)) .no, .mk (some 17) (some (11, false)) (.len false (.t 16)) .no, .mk (some 18) (some (11, false)) (.bin .neq (.t 14) (.t 17)) .no, .i 19 (.pick (.t 11) (.c (.one (.st (.bool true)))) (.t 18))]) (.cond (.t 19) (.seq (.ops [.i 4 (.mov (.c (.one (.st (.bool false)))))]) .ret) .skip)) (.seq (.seq (.ops [.i 5 (.mov (.n 0))]) (.block 0 (.loop (.seq (.seq (.ops [.m 20 5, .f 21 1 2, .l 22 21, .i 23 (.len false (.t 22)), .i 24 (.bin .lss (.t 20) (.t 23))]) (.cond (.t 24) .skip (.exit 0))) (.seq (.block 1 (.seq (.ops [.f 27 1 2, .l 28 27, .m 29 5, .i 30 (.indexAddr 2 (.t 28) (.t 29)), .L 31 2 30, .f 32 1 3, .l 33 32, .m 34 5, .i 35 (.indexAddr 2 (.t 33) (.t 34)), .L 36 2 35, .i 37 (.call 44 [.t 31, .t 36]), .i 38 (.un .not (.t 37))]) (.cond (.t 38) (.seq (.ops [.i 4 (.mov (.c (.one (.st (.bool false)))))]) .ret) .skip))) (.ops [.m 25 5, .i 26 (.bin .add (.t 25) (.n 1)), .m 5 26])))))) (.seq (.ops [.i 4 (.mov (.c (.one (.st (.bool true)))))]) .ret))))
theorem ok_R_SameType : OkF Tryz.prog 44 39 [] ir_R_SameType [.t 4] := .of Tryz.func44 rfl rfl (by kernel_rfl) rfl
def ir_R_Arrow : IR :=
 (.seq (.ops [.i 2 (.box 61 (.t 0)), .i 3 (.box 61 (.t 1)), .i 4 (.alloc 61 [.st (.str (ByteArray.mk (#[]))), .full []])]) (.seq (.ops [.L 5 2 2, .L 6 2 3, .i 7 (.buildSlice false 61 2 [.t 5, .t 6]), .i 8 (.build [.st (.str (ByteArray.mk (#[]))), .full []] [(0, 1, .c (.one (.st (.str (ByteArray.mk (#[102])))))), (1, 1, .t 7)]), .s 2 4 8]) .ret))
theorem ok_R_Arrow : OkF Tryz.prog 46 9 [] ir_R_Arrow [.cell 4 true 2] := .of Tryz.func46 rfl rfl (by kernel_rfl) rfl
def ir_R_Leaf : IR :=
 (.seq (.ops [.i 2 (.alloc 61 [.st (.str (ByteArray.mk (#[]))), .full []])]) (.seq (.ops [.m 3 0, .i 4 (.build [.st (.str (ByteArray.mk (#[]))), .full []] [(0, 1, .t 3)]), .s 2 2 4]) .ret))
theorem ok_R_Leaf : OkF Tryz.prog 69 5 [] ir_R_Leaf [.cell 2 true 2] := .of Tryz.func69 rfl rfl (by kernel_rfl) rfl
def ir_metaprune_R_typing_fresh : IR :=
 (.seq (.ops [.i 2 (.alloc 61 [.st (.str (ByteArray.mk (#[]))), .full []])]) (.seq (.ops [.m 3 0, .i 4 (.nilCheck (.t 3)), .f 5 1 4, .l 6 5, .i 7 (.bin .add (.t 6) (.n 1)), .i 8 (.nilCheck (.t 3)), .f 9 1 8, .s 1 9 7]) (.seq (.ops [.m 10 0, .i 11 (.nilCheck (.t 10)), .f 12 1 11, .l 13 12, .i 14 (.call 70 [.t 13]), .i 15 (.bin .add (.c (.one (.st (.str (ByteArray.mk (#[84])))))) (.t 14)), .i 16 (.call 69 [.t 15]), .s 2 2 16]) .ret)))
theorem ok_metaprune_R_typing_fresh : OkF Tryz.prog 45 17 [] ir_metaprune_R_typing_fresh [.cell 2 true 2] := .of Tryz.func45 rfl rfl (by kernel_rfl) rfl
def ir_metaprune_R_typing_of : IR :=
 (.seq (.ops [.i 4 (.box 24 (.t 1)), .i 6 (.alloc 61 [.st (.str (ByteArray.mk (#[]))), .full []])]) (.seq (.seq (.ops [.f 12 0 4, .l 13 12]) (.block 0 (.seq (.ops [.i 15 (.bin .eql (.t 13) (.n 1)), .m 14 15]) (.cond (.t 14) (.seq (.ops [.m 16 2, .m 17 2, .i 18 (.len false (.t 17)), .i 19 (.bin .sub (.t 18) (.n 1)), .f 20 1 4, .l 21 20, .i 22 (.bin .sub (.t 19) (.t 21)), .i 23 (.indexAddr 2 (.t 16) (.t 22)), .L 24 2 23, .s 2 6 24]) .ret) (.seq (.ops [.i 26 (.bin .eql (.t 13) (.n 2)), .m 25 26]) (.cond (.t 25) (.seq (.ops [.m 27 0, .i 28 (.callS 45 [.t 27]), .i 7 (.alloc 61 [.st (.str (ByteArray.mk (#[]))), .full []]), .s 2 7 28]) (.seq (.ops [.m 29 0, .mk (some 30) none (.fieldAddr 2 (.t 4)) (.onb 4), .mk (some 31) none (.load false 1 (.t 30)) (.onb 4), .i 32 (.indexL 3 (.t 31) (.n 0)), .i 33 (.loadL true 3 (.t 32)), .i 34 (.buildL 2 []), .m 35 2, .mk (some 36) none (.append false 61 2 40 (.t 34) (.t 35)) (.keeps [4, 4, 7]), .mk (some 37) none (.load true 2 (.t 7)) (.onb 7), .i 38 (.buildL 2 [.t 37]), .mk (some 39) none (.append false 61 2 40 (.t 36) (.t 38)) (.keeps [4, 4]), .i 40 (.callW 24 [.t 29, .t 33, .t 39]), .i 8 (.alloc 61 [.st (.str (ByteArray.mk (#[]))), .full []]), .s 2 8 40]) (.seq (.ops [.L 41 2 7, .L 42 2 8, .i 43 (.call 46 [.t 41, .t 42]), .s 2 6 43]) .ret))) .skip)))))) (.seq (.ops [.m 44 0, .f 45 2 4, .l 46 45, .i 47 (.indexAddr 3 (.t 46) (.n 0)), .L 48 3 47, .m 49 2, .i 50 (.callS 24 [.t 44, .t 48, .t 49]), .i 9 (.alloc 61 [.st (.str (ByteArray.mk (#[]))), .full []]), .s 2 9 50]) (.seq (.ops [.m 51 0, .f 52 2 4, .l 53 52, .i 54 (.indexAddr 3 (.t 53) (.n 1)), .L 55 3 54, .m 56 2, .i 57 (.callS 24 [.t 51, .t 55, .t 56]), .i 10 (.alloc 61 [.st (.str (ByteArray.mk (#[]))), .full []]), .s 2 10 57]) (.seq (.ops [.m 58 0, .i 59 (.callS 45 [.t 58]), .i 11 (.alloc 61 [.st (.str (ByteArray.mk (#[]))), .full []]), .s 2 11 59]) (.seq (.ops [.m 60 0, .m 61 0, .i 62 (.nilCheck (.t 61)), .f 63 0 62, .l 64 63, .L 65 2 9, .L 66 2 10, .L 67 2 11, .i 68 (.call 46 [.t 66, .t 67]), .i 69 (.build [.st (.str (ByteArray.mk (#[]))), .full [], .st (.str (ByteArray.mk (#[]))), .full []] [(0, 2, .t 65), (2, 2, .t 68)]), .i 70 (.buildSlice false 91 4 [.t 69]), .i 71 (.append false 91 4 80 (.t 64) (.t 70)), .i 72 (.nilCheck (.t 60)), .f 73 0 72, .s 1 73 71]) (.seq (.ops [.L 74 2 11, .s 2 6 74]) .ret)))))))
theorem ok_metaprune_R_typing_of : OkF Tryz.prog 24 75 [28, 50000040, 50, 57, 59, 60000032, 60000033, 60000034, 60000038] ir_metaprune_R_typing_of [.cell 6 true 2] := .of Tryz.func24 rfl rfl (by kernel_rfl) rfl
def ir_R_HasConst : IR :=
 (.seq (.ops [.i 1 (.box 24 (.t 0)), .i 2 (.mov (.c (.one (.st (.bool false)))))]) (.seq (.seq (.ops [.f 4 0 1, .l 5 4, .i 6 (.bin .eql (.t 5) (.n 4))]) (.cond (.t 6) (.seq (.ops [.i 2 (.mov (.c (.one (.st (.bool true)))))]) .ret) .skip)) (.seq (.seq (.ops [.i 3 (.mov (.n 0))]) (.block 0 (.loop (.seq (.seq (.ops [.m 7 3, .f 8 2 1, .l 9 8, .i 10 (.len false (.t 9)), .i 11 (.bin .lss (.t 7) (.t 10))]) (.cond (.t 11) .skip (.exit 0))) (.seq (.block 1 (.seq (.ops [.f 14 2 1, .l 15 14, .m 16 3, .i 17 (.indexAddr 3 (.t 15) (.t 16)), .L 18 3 17, .i 19 (.call 9 [.t 18])]) (.cond (.t 19) (.seq (.ops [.i 2 (.mov (.c (.one (.st (.bool true)))))]) .ret) .skip))) (.ops [.m 12 3, .i 13 (.bin .add (.t 12) (.n 1)), .m 3 13])))))) (.seq (.ops [.i 2 (.mov (.c (.one (.st (.bool false)))))]) .ret))))
theorem ok_R_HasConst : OkF Tryz.prog 9 20 [] ir_R_HasConst [.t 2] := .of Tryz.func9 rfl rfl (by kernel_rfl) rfl
def ir_R_PrincipalOf : IR :=
 (.seq (.ops [.i 1 (.box 24 (.t 0)), .i 2 (.alloc 27 [.st (.int .i64 0), .full []]), .i 3 (.mov (.n 0))]) (.seq (.ops [.i 10 (.build [.full [], .st (.int .i64 0)] []), .i 11 (.box 58 (.t 10)), .m 4 11]) (.seq (.ops [.m 12 4, .L 13 3 1, .i 14 (.callS 24 [.t 12, .t 13, .c (.one (.full []))]), .i 5 (.alloc 61 [.st (.str (ByteArray.mk (#[]))), .full []]), .s 2 5 14]) (.seq (.ops [.m 16 4, .i 17 (.nilCheck (.t 16)), .f 18 0 17, .l 19 18, .i 20 (.call 25 [.t 19]), .m 15 20, .i 21 (.extract 0 (.t 15)), .i 22 (.extract 1 (.t 15)), .m 6 21, .m 7 22]) (.seq (.seq (.ops [.m 23 7, .i 24 (.bin .eql (.t 23) (.n 6))]) (.cond (.t 24) (.ops [.i 7 (.mov (.n 11))]) .skip)) (.seq (.seq (.ops [.m 25 7, .i 26 (.bin .neq (.t 25) (.n 0))]) (.cond (.t 26) (.seq (.ops [.i 27 (.build [.st (.int .i64 0), .full []] []), .m 28 7, .s 2 2 27, .m 3 28]) .ret) .skip)) (.seq (.ops [.m 30 6, .L 31 2 5, .i 32 (.call 26 [.t 30, .t 31]), .m 29 32, .i 33 (.extract 0 (.t 29)), .i 34 (.extract 1 (.t 29)), .i 8 (.alloc 61 [.st (.str (ByteArray.mk (#[]))), .full []]), .s 2 8 33, .m 9 34]) (.seq (.seq (.ops [.m 35 9, .i 36 (.un .not (.t 35))]) (.cond (.t 36) (.seq (.ops [.i 37 (.build [.st (.int .i64 0), .full []] []), .s 2 2 37, .i 3 (.mov (.n 8))]) .ret) .skip)) (.seq (.ops [.L 38 2 8, .L 39 2 8, .i 40 (.call 28 [.t 39]), .i 41 (.call 27 [.t 38, .t 40]), .s 2 2 41, .i 3 (.mov (.n 0))]) .ret)))))))))
theorem ok_R_PrincipalOf : OkF Tryz.prog 11 42 [14] ir_R_PrincipalOf [.cell 2 true 2, .t 3] := .of Tryz.func11 rfl rfl (by kernel_rfl) rfl
def ir_R_AsType : IR :=
 (.seq (.ops [.i 2 (.box 61 (.t 0)), .i 4 (.alloc 27 [.st (.int .i64 0), .full []])]) (.seq (.seq (.ops [.f 6 1 2, .l 7 6, .i 8 (.len false (.t 7)), .i 9 (.bin .eql (.t 8) (.n 0))]) (.cond (.t 9) (.seq (.ops [.i 5 (.mov (.n 0))]) (.seq (.block 0 (.loop (.seq (.seq (.ops [.m 10 1, .m 11 5, .i 12 (.indexAddr 1 (.t 10) (.t 11)), .l 13 12, .f 14 0 2, .l 15 14, .i 16 (.bin .neq (.t 13) (.t 15))]) (.cond (.t 16) .skip (.exit 0))) (.block 1 (.ops [.m 17 5, .i 18 (.bin .add (.t 17) (.n 1)), .m 5 18]))))) (.seq (.ops [.m 19 5, .i 20 (.build [.st (.int .i64 0), .full []] [(0, 1, .t 19)]), .s 2 4 20]) .ret))) .skip)) (.seq (.ops [.f 21 1 2, .l 22 21, .i 23 (.indexAddr 2 (.t 22) (.n 0)), .L 24 2 23, .m 25 1, .i 26 (.call 27 [.t 24, .t 25]), .f 27 1 2, .l 28 27, .i 29 (.indexAddr 2 (.t 28) (.n 1)), .L 30 2 29, .m 31 1, .i 32 (.call 27 [.t 30, .t 31]), .i 33 (.buildSlice false 27 2 [.t 26, .t 32]), .i 34 (.build [.st (.int .i64 0), .full []] [(1, 1, .t 33)]), .s 2 4 34]) .ret)))
theorem ok_R_AsType : OkF Tryz.prog 27 35 [] ir_R_AsType [.cell 4 true 2] := .of Tryz.func27 rfl rfl (by kernel_rfl) rfl
def ir_R_TypeCase : IR :=
 (.seq (.ops [.i 4 (.box 27 (.t 0)), .i 5 (.box 27 (.t 1)), .i 8 (.mov (.c (.one (.st (.bool false)))))]) (.seq (.seq (.ops [.f 9 1 4, .l 10 9, .i 11 (.len false (.t 10)), .i 12 (.bin .eql (.t 11) (.n 0))]) (.cond (.t 12) (.seq (.seq (.ops [.m 13 3, .f 14 0 4, .l 15 14, .i 16 (.indexAddr 1 (.t 13) (.t 15)), .l 17 16]) (.cond (.t 17) (.seq (.ops [.m 18 2, .f 19 0 4, .l 20 19, .i 21 (.indexAddr 2 (.t 18) (.t 20)), .L 22 2 21, .L 23 2 5, .i 24 (.call 44 [.t 22, .t 23]), .m 8 24]) .ret) .skip)) (.seq (.ops [.m 25 3, .f 26 0 4, .l 27 26, .i 28 (.indexAddr 1 (.t 25) (.t 27)), .mk none none (.store 1 (.t 28) (.c (.one (.st (.bool true))))) .no]) (.seq (.ops [.m 29 2, .f 30 0 4, .l 31 30, .L 32 2 5, .i 33 (.indexAddr 2 (.t 29) (.t 31)), .s 2 33 32]) (.seq (.ops [.i 8 (.mov (.c (.one (.st (.bool true)))))]) .ret)))) .skip)) (.seq (.ops [.f 34 1 5, .l 35 34, .i 36 (.len false (.t 35)), .i 37 (.bin .eql (.t 36) (.n 2)), .m 38 37, .mk (some 39) (some (38, true)) (.fieldAddr 1 (.t 4)) .no, .mk (some 40) (some (38, true)) (.load false 1 (.t 39)) .no, .mk (some 41) (some (38, true)) (.indexAddr 2 (.t 40) (.n 0)) .no, .mk (some 42) (some (38, true)) (.load true 2 (.t 41)) .no, .mk (some 43) (some (38, true)) (.fieldAddr 1 (.t 5)) .no, .mk (some 44) (some (38, true)) (.load false 1 (.t 43)) .no, .mk (some 45) (some (38, true)) (.indexAddr 2 (.t 44) (.n 0)) .no, .mk (some 46) (some (38, true)) (.load true 2 (.t 45)) .no, .mk (some 47) (some (38, true)) (.mov (.t 2)) .no, .mk (some 48) (some (38, true)) (.mov (.t 3)) .no, .mk (some 49) (some (38, true)) (.callS 29 [.t 42, .t 46, .t 47, .t 48]) .no, .i 50 (.pick (.t 38) (.t 49) (.c (.one (.st (.bool false))))), .m 51 50, .mk (some 52) (some (51, true)) (.fieldAddr 1 (.t 4)) .no, .mk (some 53) (some (51, true)) (.load false 1 (.t 52)) .no, .mk (some 54) (some (51, true)) (.indexAddr 2 (.t 53) (.n 1)) .no, .mk (some 55) (some (51, true)) (.load true 2 (.t 54)) .no, .mk (some 56) (some (51, true)) (.fieldAddr 1 (.t 5)) .no, .mk (some 57) (some (51, true)) (.load false 1 (.t 56)) .no, .mk (some 58) (some (51, true)) (.indexAddr 2 (.t 57) (.n 1)) .no, .mk (some 59) (some (51, true)) (.load true 2 (.t 58)) .no, .mk (some 60) (some (51, true)) (.mov (.t 2)) .no, .mk (some 61) (some (51, true)) (.mov (.t 3)) .no, .mk (some 62) (some (51, true)) (.callS 29 [.t 55, .t 59, .t 60, .t 61]) .no, .i 63 (.pick (.t 51) (.t 62) (.c (.one (.st (.bool false))))), .m 8 63]) .ret)))
theorem ok_R_TypeCase : OkF Tryz.prog 29 64 [49, 62] ir_R_TypeCase [.t 8] := .of Tryz.func29 rfl rfl (by kernel_rfl) rfl
def ir_R_CaseOfType : IR :=
 (.seq (.ops [.i 2 (.box 27 (.t 0)), .i 3 (.box 27 (.t 1)), .i 4 (.mov (.c (.one (.st (.bool false)))))]) (.seq (.ops [.L 5 2 2, .L 6 2 3, .i 7 (.makeSlice 27 2 32 [.int .i64 0, .list []] (.n 2001) (.n 2001)), .i 8 (.makeSlice 4 1 1 [.bool false] (.n 2001) (.n 2001)), .i 9 (.callS 29 [.t 5, .t 6, .t 7, .t 8]), .m 4 9]) .ret))
theorem ok_R_CaseOfType : OkF Tryz.prog 12 10 [7, 8, 9] ir_R_CaseOfType [.t 4] := .of Tryz.func12 rfl rfl (by kernel_rfl) rfl
def ir_L_hugeType : IR :=
 (.seq (.ops [.i 1 (.box 27 (.t 0)), .i 2 (.mov (.c (.one (.st (.bool false)))))]) (.seq (.ops [.L 3 2 1, .i 4 (.call 21 [.t 3, .n 3000]), .i 5 (.bin .gtr (.t 4) (.n 3000)), .m 2 5]) .ret))
theorem ok_L_hugeType : OkF Tryz.prog 6 6 [] ir_L_hugeType [.t 2] := .of Tryz.func6 rfl rfl (by kernel_rfl) rfl

open Go.Proofs Go.Shelf
def Tryz.laysM171_ren : Go.Shelf.Ren := ⟨fun | 171 => 85 | 243 => 103 | 246 => 113 | 283 => 127 | 284 => 128 | 285 => 129 | 286 => 130 | 129 => 126 | 317 => 136 | 318 => 137 | 319 => 138 | 320 => 139 | 337 => 141 | 338 => 142 | n => n, fun | 3 => 3 | 9 => 9 | 2 => 2 | 4 => 4 | 171 => 159 | 0 => 0 | 53 => 158 | 37 => 125 | 5 => 5 | 173 => 161 | 212 => 171 | 51 => 156 | 20 => 20 | 213 => 172 | 46 => 142 | 232 => 177 | 233 => 178 | n => n, fun | 17 => 1 | 18 => 2 | 19 => 3 | n => n⟩
theorem Tryz.laysM171 : Go.Proofs.LaysM.n171 Tryz.prog Tryz.laysM171_ren := {
 mixed := by kernel_rfl
 f129 := Tryz.func126.trans (congrArg some (by kernel_rfl))
 f171 := Tryz.func85.trans (congrArg some (by kernel_rfl))
 f243 := Tryz.func103.trans (congrArg some (by kernel_rfl))
 f246 := Tryz.func113.trans (congrArg some (by kernel_rfl))
 f283 := Tryz.func127.trans (congrArg some (by kernel_rfl))
 f284 := Tryz.func128.trans (congrArg some (by kernel_rfl))
 f285 := Tryz.func129.trans (congrArg some (by kernel_rfl))
 f286 := Tryz.func130.trans (congrArg some (by kernel_rfl))
 f317 := Tryz.func136.trans (congrArg some (by kernel_rfl))
 f318 := Tryz.func137.trans (congrArg some (by kernel_rfl))
 f319 := Tryz.func138.trans (congrArg some (by kernel_rfl))
 f320 := Tryz.func139.trans (congrArg some (by kernel_rfl))
 f337 := Tryz.func141.trans (congrArg some (by kernel_rfl))
 f338 := Tryz.func142.trans (congrArg some (by kernel_rfl))
 t0 := Tryz.underlying0
 a0 := Tryz.isAgg0
 z0 := Tryz.sizeOf0
 v0 := Tryz.zeroValue0
 t2 := Tryz.underlying2
 a2 := Tryz.isAgg2
 z2 := Tryz.sizeOf2
 v2 := Tryz.zeroValue2
 t3 := Tryz.underlying3
 a3 := Tryz.isAgg3
 z3 := Tryz.sizeOf3
 v3 := Tryz.zeroValue3
 t4 := Tryz.underlying4
 a4 := Tryz.isAgg4
 z4 := Tryz.sizeOf4
 v4 := Tryz.zeroValue4
 t5 := Tryz.underlying5
 a5 := Tryz.isAgg5
 z5 := Tryz.sizeOf5
 v5 := Tryz.zeroValue5
 t9 := Tryz.underlying9
 a9 := Tryz.isAgg9
 z9 := Tryz.sizeOf9
 v9 := Tryz.zeroValue9
 t20 := Tryz.underlying20
 a20 := Tryz.isAgg20
 z20 := Tryz.sizeOf20
 v20 := Tryz.zeroValue20
 t37 := Tryz.underlying125
 a37 := Tryz.isAgg125
 z37 := Tryz.sizeOf125
 v37 := Tryz.zeroValue125
 t46 := Tryz.underlying142
 a46 := Tryz.isAgg142
 z46 := Tryz.sizeOf142
 v46 := Tryz.zeroValue142
 t51 := Tryz.underlying156
 a51 := Tryz.isAgg156
 z51 := Tryz.sizeOf156
 v51 := Tryz.zeroValue156
 t53 := Tryz.underlying158
 a53 := Tryz.isAgg158
 z53 := Tryz.sizeOf158
 v53 := Tryz.zeroValue158
 t171 := Tryz.underlying159
 a171 := Tryz.isAgg159
 z171 := Tryz.sizeOf159
 v171 := Tryz.zeroValue159
 t173 := Tryz.underlying161
 a173 := Tryz.isAgg161
 z173 := Tryz.sizeOf161
 v173 := Tryz.zeroValue161
 t212 := Tryz.underlying171
 a212 := Tryz.isAgg171
 z212 := Tryz.sizeOf171
 v212 := Tryz.zeroValue171
 t213 := Tryz.underlying172
 a213 := Tryz.isAgg172
 z213 := Tryz.sizeOf172
 t232 := Tryz.underlying177
 a232 := Tryz.isAgg177
 z232 := Tryz.sizeOf177
 v232 := Tryz.zeroValue177
 t233 := Tryz.underlying178
 a233 := Tryz.isAgg178
 z233 := Tryz.sizeOf178
 v233 := Tryz.zeroValue178
 g17 := by kernel_rfl
 g18 := by kernel_rfl
 g19 := by kernel_rfl
 i0 := by kernel_rfl
 i2 := by kernel_rfl
 i3 := by kernel_rfl
 i4 := by kernel_rfl
 i5 := by kernel_rfl
 i9 := by kernel_rfl
 i20 := by kernel_rfl
 i37 := by kernel_rfl
 i46 := by kernel_rfl
 i51 := by kernel_rfl
 i53 := by kernel_rfl
 i171 := by kernel_rfl
 i173 := by kernel_rfl
 i212 := by kernel_rfl
 i232 := by kernel_rfl
 i233 := by kernel_rfl
 m17 := by kernel_rfl
 m18 := by kernel_rfl
 m19 := by kernel_rfl }
def Tryz.sortBd_ren : Go.Shelf.Ren := ⟨fun | 6 => 100 | 15 => 111 | 14 => 110 | 28 => 125 | 29 => 126 | 20 => 117 | 21 => 118 | 22 => 119 | 23 => 120 | 24 => 121 | 25 => 122 | 26 => 123 | 27 => 124 | 46 => 131 | 47 => 132 | 48 => 133 | 49 => 134 | 50 => 135 | 57 => 140 | n => n, fun | 22 => 63 | 24 => 95 | 25 => 137 | 3 => 3 | 39 => 142 | 0 => 0 | 53 => 156 | 55 => 158 | 4 => 4 | 46 => 150 | 45 => 149 | 50 => 133 | 5 => 5 | 9 => 9 | 66 => 163 | 70 => 167 | 76 => 174 | 77 => 175 | n => n, fun | n => n⟩
theorem Tryz.sortBd : Go.Proofs.SlLaysF0.n6 Tryz.prog Tryz.sortBd_ren := {
 mixed := by kernel_rfl
 f6 := ⟨Tryz.f100.name, by decide, Tryz.func100.trans (congrArg some (by kernel_rfl))⟩
 f14 := ⟨Tryz.f110.name, by decide, Tryz.func110.trans (congrArg some (by kernel_rfl))⟩
 f15 := Tryz.func111.trans (congrArg some (by kernel_rfl))
 f20 := ⟨Tryz.f117.name, by decide, Tryz.func117.trans (congrArg some (by kernel_rfl))⟩
 f21 := ⟨Tryz.f118.name, by decide, Tryz.func118.trans (congrArg some (by kernel_rfl))⟩
 f22 := ⟨Tryz.f119.name, by decide, Tryz.func119.trans (congrArg some (by kernel_rfl))⟩
 f23 := ⟨Tryz.f120.name, by decide, Tryz.func120.trans (congrArg some (by kernel_rfl))⟩
 f24 := ⟨Tryz.f121.name, by decide, Tryz.func121.trans (congrArg some (by kernel_rfl))⟩
 f25 := ⟨Tryz.f122.name, by decide, Tryz.func122.trans (congrArg some (by kernel_rfl))⟩
 f26 := ⟨Tryz.f123.name, by decide, Tryz.func123.trans (congrArg some (by kernel_rfl))⟩
 f27 := ⟨Tryz.f124.name, by decide, Tryz.func124.trans (congrArg some (by kernel_rfl))⟩
 f28 := Tryz.func125.trans (congrArg some (by kernel_rfl))
 f29 := Tryz.func126.trans (congrArg some (by kernel_rfl))
 f46 := ⟨Tryz.f131.name, by decide, Tryz.func131.trans (congrArg some (by kernel_rfl))⟩
 f47 := Tryz.func132.trans (congrArg some (by kernel_rfl))
 f48 := Tryz.func133.trans (congrArg some (by kernel_rfl))
 f49 := ⟨Tryz.f134.name, by decide, Tryz.func134.trans (congrArg some (by kernel_rfl))⟩
 f50 := ⟨Tryz.f135.name, by decide, Tryz.func135.trans (congrArg some (by kernel_rfl))⟩
 f57 := ⟨Tryz.f140.name, by decide, Tryz.func140.trans (congrArg some (by kernel_rfl))⟩
 t0 := Tryz.underlying0
 a0 := Tryz.isAgg0
 z0 := Tryz.sizeOf0
 v0 := Tryz.zeroValue0
 t3 := Tryz.underlying3
 a3 := Tryz.isAgg3
 z3 := Tryz.sizeOf3
 v3 := Tryz.zeroValue3
 t4 := Tryz.underlying4
 a4 := Tryz.isAgg4
 z4 := Tryz.sizeOf4
 v4 := Tryz.zeroValue4
 t5 := Tryz.underlying5
 a5 := Tryz.isAgg5
 z5 := Tryz.sizeOf5
 v5 := Tryz.zeroValue5
 t9 := Tryz.underlying9
 a9 := Tryz.isAgg9
 z9 := Tryz.sizeOf9
 v9 := Tryz.zeroValue9
 t22 := Tryz.underlying63
 a22 := Tryz.isAgg63
 z22 := Tryz.sizeOf63
 v22 := Tryz.zeroValue63
 t25 := Tryz.underlying137
 a25 := Tryz.isAgg137
 z25 := Tryz.sizeOf137
 v25 := Tryz.zeroValue137
 t39 := Tryz.underlying142
 a39 := Tryz.isAgg142
 z39 := Tryz.sizeOf142
 v39 := Tryz.zeroValue142
 t45 := Tryz.underlying149
 a45 := Tryz.isAgg149
 z45 := Tryz.sizeOf149
 v45 := Tryz.zeroValue149
 t46 := Tryz.underlying150
 a46 := Tryz.isAgg150
 z46 := Tryz.sizeOf150
 v46 := Tryz.zeroValue150
 t50 := Tryz.underlying133
 a50 := Tryz.isAgg133
 z50 := Tryz.sizeOf133
 v50 := Tryz.zeroValue133
 t53 := Tryz.underlying156
 a53 := Tryz.isAgg156
 z53 := Tryz.sizeOf156
 v53 := Tryz.zeroValue156
 t55 := Tryz.underlying158
 a55 := Tryz.isAgg158
 z55 := Tryz.sizeOf158
 v55 := Tryz.zeroValue158
 t66 := Tryz.underlying163
 a66 := Tryz.isAgg163
 z66 := Tryz.sizeOf163
 v66 := Tryz.zeroValue163
 t70 := Tryz.underlying167
 a70 := Tryz.isAgg167
 z70 := Tryz.sizeOf167
 v70 := Tryz.zeroValue167
 t76 := Tryz.underlying174
 a76 := Tryz.isAgg174
 z76 := Tryz.sizeOf174
 v76 := Tryz.zeroValue174
 t77 := Tryz.underlying175
 a77 := Tryz.isAgg175
 z77 := Tryz.sizeOf175
 v77 := Tryz.zeroValue175 }


set_option linter.unusedVariables false
set_option linter.unusedSimpArgs false
set_option maxHeartbeats 800000

def ir_R_Dec : IR :=
 (.seq (.ops [.i 2 (.mov (.c (.one (.st (.str (ByteArray.mk (#[])))))))]) (.seq (.seq (.ops [.m 3 0, .i 4 (.bin .lss (.t 3) (.n 10))]) (.cond (.t 4) (.seq (.ops [.m 5 0, .i 6 (.bin .add (.n 48) (.t 5)), .i 7 (.conv .u8 (.t 6)), .i 8 (.buildFlat [.t 7]), .i 9 (.strOf (.t 8)), .m 2 9]) .ret) .skip)) (.seq (.ops [.m 10 0, .i 11 (.bin .quo (.t 10) (.n 10)), .i 12 (.call 70 [.t 11]), .m 13 0, .i 14 (.bin .rem (.t 13) (.n 10)), .i 15 (.call 70 [.t 14]), .i 16 (.bin .add (.t 12) (.t 15)), .m 2 16]) .ret)))
theorem ok_R_Dec : OkF Tryz.prog 70 17 [] ir_R_Dec [.t 2] := .of Tryz.func70 rfl rfl (by kernel_rfl) rfl

set_option maxHeartbeats 1000000
theorem one_arg {σ : Sto} {vs : List Value} {x : AV} (h : All2 (VRep σ noS noH) vs [x]) : ∃ v, vs = [v] ∧ VRep σ noS noH v x := by
 cases h with
 | cons h1 h2 =>
  cases h2
  exact ⟨_, rfl, h1⟩
theorem itoa_a (n : Nat) (hn : n < 1000000) : ACalls Tryz.prog 85 [aInt n] (aStr (decS n)) := by
 intro σ w vs hG hF hv
 obtain ⟨v, rfl, h1⟩ := one_arg hv
 obtain ⟨rfl, hin⟩ := vrep_int h1
 have ht : Lib.TabIs Tryz.prog w "internal/strconv.uint64pow10" .u64 Lib.pow10Tab := hG.ints hF (g := 1) (by kernel_rfl) (by kernel_rfl)
 refine (Any.strconv_Itoa Tryz.laysM171 n (by omega) (by omega) w ht).mono fun e w' ⟨he, k, os, hw⟩ => ?_
 have hb : Below w.heap.size w w' := by
  rw [hw]
  exact Lib.below_grow _ _ (Nat.le_refl _) _ _
 have hd : (⟨(Lib.itoa (n : Int)).toArray⟩ : ByteArray) = decS n := by rw [Lib.itoa_nonneg]; rfl
 rw [hd] at he
 refine ⟨_, σ, he, .one (.st (.str ?_)), hF.below hb, Ext.refl _ _, hb⟩
 have := decS_size_le hn
 rw [maxLen_eq]
 omega
theorem decR_a (n : Nat) (hn : n < 1000000) : ACalls Tryz.prog 70 [aInt n] (aStr (decS n)) := by
 induction n using Nat.strongRecOn with
 | _ n ih =>
 refine ok_R_Dec.ac fun C hC => ?_
 unfold ir_R_Dec
 by_cases h : (n : Int) < 10
 ·have hb : bytesOf [[SV.int .u8 (48 + (n : Int))]] = some [48 + (n : Int)] := rfl
  have hr : inR .u8 (48 + (n : Int)) := by simp [inR, IntKind.min, IntKind.max, IntKind.signed, IntKind.bits]; omega
  have hs : strOfNums [48 + (n : Int)] = decS n := by
   rw [decS_small (by omega)]
   unfold strOfNums
   have e : (48 + (n : Int)).toNat = 48 + n := by omega
   simp only [List.map_cons, List.map_nil, e]
  repeat' (first | (with_reducible first | refine W ?_ | refine Z0 ?_) | ((with_reducible first | refine Wo (fun K hK => ?_) | refine Wp ?_ | refine Wq ?_ | refine Wr ?_); (try simp only [go_sem, fN, seval, eT, iR, h, hb, hr, hs, dT, dF, nL]); (repeat with_reducible refine Ai ?_); (try (refine hK _ ?_; clear hK K)); try with_reducible refine iC ?_))
  simp only [go_sem, fN, seval, FinQ, AS.result, resAll, resOne, tupV]
 ·have q1 : (n : Int).tdiv 10 = ((n / 10 : Nat) : Int) := by rw [Int.tdiv_eq_ediv_of_nonneg (by omega)]; omega
  have q2 : (n : Int).tmod 10 = ((n % 10 : Nat) : Int) := by rw [Int.tmod_eq_emod_of_nonneg (by omega)]; omega
  have h1 := ih (n / 10) (by omega) (by omega)
  have h2 := ih (n % 10) (by omega) (by omega)
  have z1 := decS_size_le (n := n / 10) (by omega)
  have z2 := decS_size_le (n := n % 10) (by omega)
  repeat' (first | (with_reducible first | refine W ?_ | refine Z0 ?_) | refine Cg _ (h1) ?_ | refine Cg _ (h2) ?_ | ((with_reducible first | refine Wo (fun K hK => ?_) | refine Wp ?_ | refine Wq ?_ | refine Wr ?_); (try simp only [go_sem, fN, seval, eT, iR, h, q1, q2, dT, dF, nL]); (repeat with_reducible refine Ai ?_); (try (refine hK _ ?_; clear hK K)); try with_reducible refine iC ?_))
  simp only [go_sem, fN, seval, FinQ, AS.result, resAll, resOne, tupV]
  rw [decS_big (n := n) (by omega)]

theorem ywithin_a (t : Ty) (m : Int) (h0 : 0 ≤ m) (h1 : m ≤ 9223372036854775807) : ACalls Tryz.prog 74 [aTy t, aInt m] (aInt (lessBy t.size m)) := by
 induction h : SizeOf.sizeOf t using Nat.strongRecOn generalizing t m with
 | _ N ih =>
 subst h
 have hs := Ty.size_eq t
 refine ok_infer_within.ac fun C hC => ?_
 unfold ir_infer_within
 refine IWP.learn 0 (by omega) fun hkn => ?_
 have hkn := (known_ty hkn).2
 repeat' (first | (with_reducible first | refine W ?_ | refine Z0 ?_) | ((with_reducible first | refine Wo (fun K hK => ?_) | refine Wq ?_ | refine Wr ?_); (try simp only [go_sem, fN, seval, eT, iR]); (repeat with_reducible refine Ai ?_); (try (refine hK _ ?_; clear hK K))))
 refine IWP.loopD [6] (fun n s => ∃ k, k ≤ t.subs.length ∧ n = t.subs.length - k ∧ s.env 1 = aInt (lessBy (1 + Ty.sizes (t.subs.take k)) m) ∧ s.env 10 = .one (.st (.list (t.subs.map encY))) ∧ s.env 11 = aInt t.subs.length ∧ s.env 12 = aInt k ∧ s.S 6 = none) t.subs.length ⟨0, Nat.zero_le _, rfl, by
  simp only [go_sem, fN, seval, eT, iR]
  rw [lessBy]
  have z0 : Ty.sizes [] = 0 := rfl
  congr 3
  split <;> omega, rfl, rfl, rfl, rfl⟩ ?_
 rintro n ⟨env, S⟩ ⟨k, hk, rfl, e1, e10, e11, e12, s6⟩
 simp only at e1 e10 e11 e12 s6
 repeat' (first | (with_reducible first | refine W ?_ | refine Z0 ?_) | ((with_reducible first | refine Wo (fun K hK => ?_) | refine Wq ?_ | refine Wr ?_); (try simp only [go_sem, fN, seval, eT, iR, e1, e10, e11, e12, s6]); (repeat with_reducible refine Ai ?_); (try (refine hK _ ?_; clear hK K))))
 with_reducible refine Wp ?_
 simp only [go_sem, fN, seval, true_implies, false_implies, implies_true, dT, dF, nL, e1, e10, e11, e12, s6]
 (try with_reducible refine iC ?_)
 refine ⟨fun hlt => ?_, fun hge => ?_⟩
 ·obtain ⟨a, ha⟩ := get_lt (show k < t.subs.length by omega)
  have z1 := Ty.sizes_take ha
  have z2 := Ty.sizes_take_le t.subs (k + 1)
  have z3 := Ty.length_le t.subs
  have z4 := lessBy_le (1 + Ty.sizes (t.subs.take k)) m h0
  repeat' (first | (with_reducible first | refine W ?_ | refine Z0 ?_) | ((with_reducible first | refine Wo (fun K hK => ?_) | refine Wq ?_ | refine Wr ?_); (try simp only [go_sem, fN, seval, eT, iR, e1, e10, e11, e12, s6, ha]); (repeat with_reducible refine Ai ?_); (try (refine hK _ ?_; clear hK K))))
  with_reducible refine Wp ?_
  simp only [go_sem, fN, seval, true_implies, false_implies, implies_true, dT, dF, nL, e1]
  (try with_reducible refine iC ?_)
  refine ⟨fun hb => ?_, fun hb => ?_⟩
  ·repeat' (first | (with_reducible first | refine W ?_ | refine Z0 ?_) | ((with_reducible first | refine Wo (fun K hK => ?_) | refine Wq ?_ | refine Wr ?_); (try simp only [go_sem, fN, seval, eT, iR, e1]); (repeat with_reducible refine Ai ?_); (try (refine hK _ ?_; clear hK K))))
   simp only [go_sem, fN, seval, FinQ, AS.result, resAll, resOne, tupV, e1]
   rw [lessBy_neg hb (show _ ≤ t.size by rw [hs]; omega)]
  ·repeat' (first | (with_reducible first | refine W ?_ | refine Z0 ?_) | refine Cg _ (ih _ (Ty.lt_of_sub (mem_of_get ha)) a _ (by omega) (by omega) rfl) ?_ | ((with_reducible first | refine Wo (fun K hK => ?_) | refine Wq ?_ | refine Wr ?_); (try simp only [go_sem, fN, seval, eT, iR, e1, e10, e11, e12, s6, ha]); (repeat with_reducible refine Ai ?_); (try (refine hK _ ?_; clear hK K))))
   refine then_normal ⟨t.subs.length - (k + 1), by omega, k + 1, by omega, rfl, ?_⟩
   simp only [go_sem, fN, seval, AS.drop, dropS, AC.clears, AC.clear, AC.highs, AC.high, Bool.not_false, Bool.true_and, Bool.and_self, AV.purge, AV.purges, AC.purge, ABlk.purge, List.contains_cons, List.contains_nil, Nat.reduceBEq, Bool.or_self, Bool.or_false, Bool.false_or, Bool.or_true, eT, iR, e1, e10, e11, e12, s6]
   exact ⟨by rw [lessBy_step (by omega), z1]; congr 4; omega, by congr 3⟩
 ·repeat' (first | (with_reducible first | refine W ?_ | refine Z0 ?_) | ((with_reducible first | refine Wo (fun K hK => ?_) | refine Wq ?_ | refine Wr ?_); (try simp only [go_sem, fN, seval, eT, iR, e1]); (repeat with_reducible refine Ai ?_); (try (refine hK _ ?_; clear hK K))))
  simp only [go_sem, fN, seval, FinQ, AS.result, resAll, resOne, tupV, e1]
  rw [List.take_of_length_le (by omega), hs]
theorem ysizeR_a (t : Ty) (m : Int) (h0 : 0 ≤ m) (h1 : m ≤ 9223372036854775806) : ACalls Tryz.prog 21 [aTy t, aInt m] (aInt (capTo t.size m)) := by
 induction h : SizeOf.sizeOf t using Nat.strongRecOn generalizing t m with
 | _ N ih =>
 subst h
 have hs := Ty.size_eq t
 refine ok_R_TypeSize.ac fun C hC => ?_
 unfold ir_R_TypeSize
 refine IWP.learn 0 (by omega) fun hkn => ?_
 have hkn := (known_ty hkn).2
 repeat' (first | (with_reducible first | refine W ?_ | refine Z0 ?_) | ((with_reducible first | refine Wo (fun K hK => ?_) | refine Wq ?_ | refine Wr ?_); (try simp only [go_sem, fN, seval, eT, iR]); (repeat with_reducible refine Ai ?_); (try (refine hK _ ?_; clear hK K))))
 refine IWP.loop (fun n s => ∃ k, k ≤ t.subs.length ∧ n = t.subs.length - k ∧ s.env 5 = aInt (capTo (1 + Ty.sizes (t.subs.take k)) m) ∧ s.env 1 = aInt m ∧ s.env 2 = .one (.ptr 2 1 0 0) ∧ s.env 6 = aInt k ∧ s.S 2 = some (.box 27 [.st (.int .i64 t.base), .st (.list (t.subs.map encY))])) t.subs.length ⟨0, Nat.zero_le _, rfl, by
  simp only [go_sem, fN, seval, eT, iR]
  rw [capTo]
  have z0 : Ty.sizes [] = 0 := rfl
  congr 3
  split <;> omega, rfl, rfl, rfl, rfl⟩ ?_
 rintro n ⟨env, S⟩ ⟨k, hk, rfl, e5, e1, e2, e6, s2⟩
 simp only at e5 e1 e2 e6 s2
 have z4 := capTo_le (1 + Ty.sizes (t.subs.take k)) m h0
 by_cases hlt : (k : Int) < t.subs.length
 ·obtain ⟨a, ha⟩ := get_lt (show k < t.subs.length by omega)
  have z1 := Ty.sizes_take ha
  have z2 := Ty.sizes_take_le t.subs (k + 1)
  by_cases hb : m < capTo (1 + Ty.sizes (t.subs.take k)) m
  ·have hb' : ¬ capTo (1 + Ty.sizes (t.subs.take k)) m ≤ m := by omega
   repeat' (first | (with_reducible first | refine W ?_ | refine Z0 ?_) | ((with_reducible first | refine Wo (fun K hK => ?_) | refine Wq ?_ | refine Wr ?_); (try simp only [go_sem, fN, seval, eT, iR, e5, e1, e2, e6, s2, hlt, hb']); (repeat with_reducible refine Ai ?_); (try (refine hK _ ?_; clear hK K))))
   with_reducible refine Wp ?_
   simp only [go_sem, fN, seval, true_implies, false_implies, implies_true, dT, dF, nL, hb']
   (try with_reducible refine iC ?_)
   repeat' (first | (with_reducible first | refine W ?_ | refine Z0 ?_) | ((with_reducible first | refine Wo (fun K hK => ?_) | refine Wq ?_ | refine Wr ?_); (try simp only [go_sem, fN, seval, eT, iR, e5, e1, e2, e6, s2]); (repeat with_reducible refine Ai ?_); (try (refine hK _ ?_; clear hK K))))
   with_reducible refine Wp ?_
   simp only [go_sem, fN, seval, true_implies, false_implies, implies_true, dT, dF, nL, hb]
   (try with_reducible refine iC ?_)
   repeat' (first | (with_reducible first | refine W ?_ | refine Z0 ?_) | ((with_reducible first | refine Wo (fun K hK => ?_) | refine Wq ?_ | refine Wr ?_); (try simp only [go_sem, fN, seval, eT, iR, e1]); (repeat with_reducible refine Ai ?_); (try (refine hK _ ?_; clear hK K))))
   simp only [go_sem, fN, seval, FinQ, AS.result, resAll, resOne, tupV]
   rw [capTo_over hb (show _ ≤ t.size by rw [hs]; omega)]
  ·have hb' : capTo (1 + Ty.sizes (t.subs.take k)) m ≤ m := by omega
   obtain ⟨b1, b2⟩ := capTo_in hb
   repeat' (first | (with_reducible first | refine W ?_ | refine Z0 ?_) | ((with_reducible first | refine Wo (fun K hK => ?_) | refine Wq ?_ | refine Wr ?_); (try simp only [go_sem, fN, seval, eT, iR, e5, e1, e2, e6, s2, hlt, hb']); (repeat with_reducible refine Ai ?_); (try (refine hK _ ?_; clear hK K))))
   with_reducible refine Wp ?_
   simp only [go_sem, fN, seval, true_implies, false_implies, implies_true, dT, dF, nL, hb']
   (try with_reducible refine iC ?_)
   repeat' (first | (with_reducible first | refine W ?_ | refine Z0 ?_) | ((with_reducible first | refine Wo (fun K hK => ?_) | refine Wq ?_ | refine Wr ?_); (try simp only [go_sem, fN, seval, eT, iR, e5, e1, e2, e6, s2, ha]); (repeat with_reducible refine Ai ?_); (try (refine hK _ ?_; clear hK K))))
   refine ⟨_, ih _ (Ty.lt_of_sub (mem_of_get ha)) a (m - capTo (1 + Ty.sizes (t.subs.take k)) m) (by omega) (by omega) rfl, ?_⟩
   have z5 := capTo_le a.size (m - capTo (1 + Ty.sizes (t.subs.take k)) m) (by omega)
   repeat' (first | (with_reducible first | refine W ?_ | refine Z0 ?_) | ((with_reducible first | refine Wo (fun K hK => ?_) | refine Wq ?_ | refine Wr ?_); (try simp only [go_sem, fN, seval, eT, iR, e5, e1, e2, e6, s2]); (repeat with_reducible refine Ai ?_); (try (refine hK _ ?_; clear hK K))))
   refine then_normal ⟨t.subs.length - (k + 1), by omega, k + 1, by omega, rfl, ?_⟩
   simp only [go_sem, fN, seval, eT, iR, e5, e1, e2, e6, s2]
   exact ⟨by rw [b1, capTo_step b2, z1]; congr 4; omega, by congr 3⟩
 ·repeat' (first | (with_reducible first | refine W ?_ | refine Z0 ?_) | ((with_reducible first | refine Wo (fun K hK => ?_) | refine Wq ?_ | refine Wr ?_); (try simp only [go_sem, fN, seval, eT, iR, e5, e1, e2, e6, s2, hlt]); (repeat with_reducible refine Ai ?_); (try (refine hK _ ?_; clear hK K))))
  with_reducible refine Wp ?_
  simp only [go_sem, fN, seval, true_implies, false_implies, implies_true, dT, dF, nL]
  (try with_reducible refine iC ?_)
  have hfull : 1 + Ty.sizes (t.subs.take k) = t.size := by rw [List.take_of_length_le (by omega), hs]
  rw [hfull] at e5 z4
  repeat' (first | (with_reducible first | refine W ?_ | refine Z0 ?_) | ((with_reducible first | refine Wo (fun K hK => ?_) | refine Wq ?_ | refine Wr ?_); (try simp only [go_sem, fN, seval, eT, iR, e5, e1]); (repeat with_reducible refine Ai ?_); (try (refine hK _ ?_; clear hK K))))
  by_cases hb : m < capTo t.size m
  ·with_reducible refine Wp ?_
   simp only [go_sem, fN, seval, true_implies, false_implies, implies_true, dT, dF, nL, hb]
   (try with_reducible refine iC ?_)
   repeat' (first | (with_reducible first | refine W ?_ | refine Z0 ?_) | ((with_reducible first | refine Wo (fun K hK => ?_) | refine Wq ?_ | refine Wr ?_); (try simp only [go_sem, fN, seval, eT, iR, e1]); (repeat with_reducible refine Ai ?_); (try (refine hK _ ?_; clear hK K))))
   simp only [go_sem, fN, seval, FinQ, AS.result, resAll, resOne, tupV]
   rw [capTo_over hb (Nat.le_refl _)]
  ·with_reducible refine Wp ?_
   simp only [go_sem, fN, seval, true_implies, false_implies, implies_true, dT, dF, nL, hb]
   (try with_reducible refine iC ?_)
   repeat' (first | (with_reducible first | refine W ?_ | refine Z0 ?_) | ((with_reducible first | refine Wo (fun K hK => ?_) | refine Wq ?_ | refine Wr ?_); (try simp only [go_sem, fN, seval, eT, iR, e5]); (repeat with_reducible refine Ai ?_); (try (refine hK _ ?_; clear hK K))))
   simp only [go_sem, fN, seval, FinQ, AS.result, resAll, resOne, tupV, e5]
theorem hugeType_a (t : Ty) : ACalls Tryz.prog 6 [aTy t] (aBool (decide (3000 < t.size))) := by
 refine ok_L_hugeType.ac fun C hC => ?_
 unfold ir_L_hugeType
 repeat' (first | (with_reducible first | refine W ?_ | refine Z0 ?_) | ((with_reducible first | refine Wo (fun K hK => ?_) | refine Wp ?_ | refine Wq ?_ | refine Wr ?_); (try simp only [go_sem, fN, seval, eT, iR, dT, dF, nL]); (repeat with_reducible refine Ai ?_); (try (refine hK _ ?_; clear hK K)); try with_reducible refine iC ?_))
 refine ⟨_, ysizeR_a t 3000 (by decide) (by decide), ?_⟩
 have hz : (3000 < capTo t.size 3000) ↔ 3000 < t.size := by unfold capTo; split <;> omega
 repeat' (first | (with_reducible first | refine W ?_ | refine Z0 ?_) | ((with_reducible first | refine Wo (fun K hK => ?_) | refine Wp ?_ | refine Wq ?_ | refine Wr ?_); (try simp only [go_sem, fN, seval, eT, iR, hz, dT, dF, nL]); (repeat with_reducible refine Ai ?_); (try (refine hK _ ?_; clear hK K)); try with_reducible refine iC ?_))
 simp only [go_sem, fN, seval, FinQ, AS.result, resAll, resOne, tupV]
theorem form_cases (t : Ty) : (¬ (t.subs.length = 0 ∨ (t.subs.length = 2 ∧ t.base = 0)) ∧ ((¬ (t.subs.length : Int) = 0 ∧ ¬ (t.subs.length : Int) = 2) ∨ ((t.subs.length : Int) = 2 ∧ ¬ t.base = 0))) ∨ ((t.subs.length = 0 ∨ (t.subs.length = 2 ∧ t.base = 0)) ∧ ((t.subs.length : Int) = 0 ∨ ((t.subs.length : Int) = 2 ∧ t.base = 0))) := by
 by_cases h0 : t.subs.length = 0 <;> by_cases h2 : t.subs.length = 2 <;> by_cases hb : t.base = 0 <;> omega
set_option maxHeartbeats 2000000 in
theorem ycheck_a (t : Ty) (hz : t.size ≤ 1000000000) : ACalls Tryz.prog 75 [aTy t] (aInt t.chk) := by
 induction h : SizeOf.sizeOf t using Nat.strongRecOn generalizing t with
 | _ N ih =>
 subst h
 have hs := Ty.size_eq t
 have hlen := Ty.length_le t.subs
 refine ok_infer_check.ac fun C hC => ?_
 unfold ir_infer_check
 rw [Ty.chk_eq]
 rcases form_cases t with ⟨hf, h1⟩ | ⟨hf, h1⟩
 ·rw [if_neg hf]
  rcases h1 with ⟨h0, h2⟩ | ⟨h2, hb⟩
  ·repeat' (first | (with_reducible first | refine W ?_ | refine Z0 ?_) | ((with_reducible first | refine Wo (fun K hK => ?_) | refine Wp ?_ | refine Wq ?_ | refine Wr ?_); (try simp only [go_sem, fN, seval, eT, iR, h0, h2, dT, dF, nL]); (repeat with_reducible refine Ai ?_); (try (refine hK _ ?_; clear hK K)); try with_reducible refine iC ?_))
   simp only [go_sem, fN, seval, FinQ, AS.result, resAll, resOne, tupV]
  ·repeat' (first | (with_reducible first | refine W ?_ | refine Z0 ?_) | ((with_reducible first | refine Wo (fun K hK => ?_) | refine Wp ?_ | refine Wq ?_ | refine Wr ?_); (try simp only [go_sem, fN, seval, eT, iR, h2, hb, dT, dF, nL]); (repeat with_reducible refine Ai ?_); (try (refine hK _ ?_; clear hK K)); try with_reducible refine iC ?_))
   simp only [go_sem, fN, seval, FinQ, AS.result, resAll, resOne, tupV]
 rw [if_pos hf]
 by_cases hr : 0 ≤ t.base ∧ t.base ≤ 999
 case neg =>
  rw [if_neg hr]
  by_cases hn : t.base < 0
  ·rcases h1 with h0 | ⟨h2, hb⟩
   ·repeat' (first | (with_reducible first | refine W ?_ | refine Z0 ?_) | ((with_reducible first | refine Wo (fun K hK => ?_) | refine Wp ?_ | refine Wq ?_ | refine Wr ?_); (try simp only [go_sem, fN, seval, eT, iR, h0, hn, dT, dF, nL]); (repeat with_reducible refine Ai ?_); (try (refine hK _ ?_; clear hK K)); try with_reducible refine iC ?_))
    simp only [go_sem, fN, seval, FinQ, AS.result, resAll, resOne, tupV]
   ·omega
  ·have h9 : 999 < t.base := by omega
   rcases h1 with h0 | ⟨h2, hb⟩
   ·repeat' (first | (with_reducible first | refine W ?_ | refine Z0 ?_) | ((with_reducible first | refine Wo (fun K hK => ?_) | refine Wp ?_ | refine Wq ?_ | refine Wr ?_); (try simp only [go_sem, fN, seval, eT, iR, h0, hn, h9, dT, dF, nL]); (repeat with_reducible refine Ai ?_); (try (refine hK _ ?_; clear hK K)); try with_reducible refine iC ?_))
    simp only [go_sem, fN, seval, FinQ, AS.result, resAll, resOne, tupV]
   ·omega
 rw [if_pos hr]
 have hn : ¬ t.base < 0 := by omega
 have h9 : ¬ 999 < t.base := by omega
 rcases h1 with h0 | ⟨h2, hb⟩
 ·repeat' (first | (with_reducible first | refine W ?_ | refine Z0 ?_) | ((with_reducible first | refine Wo (fun K hK => ?_) | refine Wp ?_ | refine Wq ?_ | refine Wr ?_); (try simp only [go_sem, fN, seval, eT, iR, h0, hn, h9, dT, dF, nL]); (repeat with_reducible refine Ai ?_); (try (refine hK _ ?_; clear hK K)); try with_reducible refine iC ?_))
  refine IWP.loopD [4] (fun n s => ∃ k, k ≤ t.subs.length ∧ n = t.subs.length - k ∧ Ty.chks (t.subs.take k) = 0 ∧ s.env 38 = .one (.st (.list (t.subs.map encY))) ∧ s.env 39 = aInt t.subs.length ∧ s.env 40 = aInt k ∧ s.S 4 = none) t.subs.length ⟨0, Nat.zero_le _, rfl, rfl, rfl, by first | (simp only [go_sem, fN, seval, eT, iR, h0]; done) | rfl, rfl, rfl⟩ ?_
  rintro n ⟨env, S⟩ ⟨k, hk', rfl, hc, e38, e39, e40, s4⟩
  simp only at e38 e39 e40 s4
  by_cases hlt : (k : Int) < t.subs.length
  ·obtain ⟨a, ha⟩ := get_lt (show k < t.subs.length by omega)
   have z3 := Ty.size_mem (mem_of_get ha)
   repeat' (first | (with_reducible first | refine W ?_ | refine Z0 ?_) | ((with_reducible first | refine Wo (fun K hK => ?_) | refine Wp ?_ | refine Wq ?_ | refine Wr ?_); (try simp only [go_sem, fN, seval, eT, iR, e38, e39, e40, s4, ha, hlt, dT, dF, nL]); (repeat with_reducible refine Ai ?_); (try (refine hK _ ?_; clear hK K)); try with_reducible refine iC ?_))
   refine ⟨_, ih _ (Ty.lt_of_sub (mem_of_get ha)) a (by omega) rfl, ?_⟩
   by_cases hr : a.chk = 0
   ·repeat' (first | (with_reducible first | refine W ?_ | refine Z0 ?_) | ((with_reducible first | refine Wo (fun K hK => ?_) | refine Wp ?_ | refine Wq ?_ | refine Wr ?_); (try simp only [go_sem, fN, seval, eT, iR, e38, e39, e40, s4, hr, dT, dF, nL]); (repeat with_reducible refine Ai ?_); (try (refine hK _ ?_; clear hK K)); try with_reducible refine iC ?_))
    refine then_normal ⟨t.subs.length - (k + 1), by omega, k + 1, by omega, rfl, ?_⟩
    simp only [go_sem, fN, seval, AS.drop, dropS, AC.clears, AC.clear, AC.highs, AC.high, Bool.not_false, Bool.true_and, Bool.and_self, AV.purge, AV.purges, AC.purge, ABlk.purge, List.contains_cons, List.contains_nil, Nat.reduceBEq, Bool.or_self, Bool.or_false, Bool.false_or, Bool.or_true, eT, iR, e38, e39, e40, s4, hr]
    exact ⟨by rw [Ty.chks_take ha hc, hr], by congr 3⟩
   ·repeat' (first | (with_reducible first | refine W ?_ | refine Z0 ?_) | ((with_reducible first | refine Wo (fun K hK => ?_) | refine Wp ?_ | refine Wq ?_ | refine Wr ?_); (try simp only [go_sem, fN, seval, eT, iR, e38, e39, e40, s4, hr, dT, dF, nL]); (repeat with_reducible refine Ai ?_); (try (refine hK _ ?_; clear hK K)); try with_reducible refine iC ?_))
    simp only [go_sem, fN, seval, FinQ, AS.result, resAll, resOne, tupV]
    rw [Ty.chks_bad (k := k + 1) (by rw [Ty.chks_take ha hc]; exact hr), Ty.chks_take ha hc]
  ·repeat' (first | (with_reducible first | refine W ?_ | refine Z0 ?_) | ((with_reducible first | refine Wo (fun K hK => ?_) | refine Wp ?_ | refine Wq ?_ | refine Wr ?_); (try simp only [go_sem, fN, seval, eT, iR, e38, e39, e40, s4, hlt, dT, dF, nL]); (repeat with_reducible refine Ai ?_); (try (refine hK _ ?_; clear hK K)); try with_reducible refine iC ?_))
   simp only [go_sem, fN, seval, FinQ, AS.result, resAll, resOne, tupV]
   rw [List.take_of_length_le (by omega)] at hc
   rw [hc]
 ·repeat' (first | (with_reducible first | refine W ?_ | refine Z0 ?_) | ((with_reducible first | refine Wo (fun K hK => ?_) | refine Wp ?_ | refine Wq ?_ | refine Wr ?_); (try simp only [go_sem, fN, seval, eT, iR, h2, hb, dT, dF, nL]); (repeat with_reducible refine Ai ?_); (try (refine hK _ ?_; clear hK K)); try with_reducible refine iC ?_))
  refine IWP.loopD [4] (fun n s => ∃ k, k ≤ t.subs.length ∧ n = t.subs.length - k ∧ Ty.chks (t.subs.take k) = 0 ∧ s.env 38 = .one (.st (.list (t.subs.map encY))) ∧ s.env 39 = aInt t.subs.length ∧ s.env 40 = aInt k ∧ s.S 4 = none) t.subs.length ⟨0, Nat.zero_le _, rfl, rfl, rfl, by first | (simp only [go_sem, fN, seval, eT, iR, h2, hb]; done) | rfl, rfl, rfl⟩ ?_
  rintro n ⟨env, S⟩ ⟨k, hk', rfl, hc, e38, e39, e40, s4⟩
  simp only at e38 e39 e40 s4
  by_cases hlt : (k : Int) < t.subs.length
  ·obtain ⟨a, ha⟩ := get_lt (show k < t.subs.length by omega)
   have z3 := Ty.size_mem (mem_of_get ha)
   repeat' (first | (with_reducible first | refine W ?_ | refine Z0 ?_) | ((with_reducible first | refine Wo (fun K hK => ?_) | refine Wp ?_ | refine Wq ?_ | refine Wr ?_); (try simp only [go_sem, fN, seval, eT, iR, e38, e39, e40, s4, ha, hlt, dT, dF, nL]); (repeat with_reducible refine Ai ?_); (try (refine hK _ ?_; clear hK K)); try with_reducible refine iC ?_))
   refine ⟨_, ih _ (Ty.lt_of_sub (mem_of_get ha)) a (by omega) rfl, ?_⟩
   by_cases hr : a.chk = 0
   ·repeat' (first | (with_reducible first | refine W ?_ | refine Z0 ?_) | ((with_reducible first | refine Wo (fun K hK => ?_) | refine Wp ?_ | refine Wq ?_ | refine Wr ?_); (try simp only [go_sem, fN, seval, eT, iR, e38, e39, e40, s4, hr, dT, dF, nL]); (repeat with_reducible refine Ai ?_); (try (refine hK _ ?_; clear hK K)); try with_reducible refine iC ?_))
    refine then_normal ⟨t.subs.length - (k + 1), by omega, k + 1, by omega, rfl, ?_⟩
    simp only [go_sem, fN, seval, AS.drop, dropS, AC.clears, AC.clear, AC.highs, AC.high, Bool.not_false, Bool.true_and, Bool.and_self, AV.purge, AV.purges, AC.purge, ABlk.purge, List.contains_cons, List.contains_nil, Nat.reduceBEq, Bool.or_self, Bool.or_false, Bool.false_or, Bool.or_true, eT, iR, e38, e39, e40, s4, hr]
    exact ⟨by rw [Ty.chks_take ha hc, hr], by congr 3⟩
   ·repeat' (first | (with_reducible first | refine W ?_ | refine Z0 ?_) | ((with_reducible first | refine Wo (fun K hK => ?_) | refine Wp ?_ | refine Wq ?_ | refine Wr ?_); (try simp only [go_sem, fN, seval, eT, iR, e38, e39, e40, s4, hr, dT, dF, nL]); (repeat with_reducible refine Ai ?_); (try (refine hK _ ?_; clear hK K)); try with_reducible refine iC ?_))
    simp only [go_sem, fN, seval, FinQ, AS.result, resAll, resOne, tupV]
    rw [Ty.chks_bad (k := k + 1) (by rw [Ty.chks_take ha hc]; exact hr), Ty.chks_take ha hc]
  ·repeat' (first | (with_reducible first | refine W ?_ | refine Z0 ?_) | ((with_reducible first | refine Wo (fun K hK => ?_) | refine Wp ?_ | refine Wq ?_ | refine Wr ?_); (try simp only [go_sem, fN, seval, eT, iR, e38, e39, e40, s4, hlt, dT, dF, nL]); (repeat with_reducible refine Ai ?_); (try (refine hK _ ?_; clear hK K)); try with_reducible refine iC ?_))
   simp only [go_sem, fN, seval, FinQ, AS.result, resAll, resOne, tupV]
   rw [List.take_of_length_le (by omega)] at hc
   rw [hc]
theorem yCheck_a (t : Ty) : ACalls Tryz.prog 55 [aTy t] (aInt t.may) := by
 refine ok_infer_Check.ac fun C hC => ?_
 unfold ir_infer_Check
 unfold Ty.may
 have hw := @lessBy_neg_iff t.size 200 (by decide)
 by_cases hz : 200 < t.size
 ·have hz' := hw.2 (by omega)
  rw [if_pos hz]
  repeat' (first | (with_reducible first | refine W ?_ | refine Z0 ?_) | refine Cg _ (ywithin_a t 200 (by decide) (by decide)) ?_ | ((with_reducible first | refine Wo (fun K hK => ?_) | refine Wp ?_ | refine Wq ?_ | refine Wr ?_); (try simp only [go_sem, fN, seval, eT, iR, hz', dT, dF, nL]); (repeat with_reducible refine Ai ?_); (try (refine hK _ ?_; clear hK K)); try with_reducible refine iC ?_))
  simp only [go_sem, fN, seval, FinQ, AS.result, resAll, resOne, tupV]
 ·have hz' : ¬ lessBy t.size 200 < 0 := fun h => hz (by have := hw.1 h; omega)
  rw [if_neg hz]
  repeat' (first | (with_reducible first | refine W ?_ | refine Z0 ?_) | refine Cg _ (ywithin_a t 200 (by decide) (by decide)) ?_ | refine Cg _ (ycheck_a t (by omega)) ?_ | ((with_reducible first | refine Wo (fun K hK => ?_) | refine Wp ?_ | refine Wq ?_ | refine Wr ?_); (try simp only [go_sem, fN, seval, eT, iR, hz', dT, dF, nL]); (repeat with_reducible refine Ai ?_); (try (refine hK _ ?_; clear hK K)); try with_reducible refine iC ?_))
  simp only [go_sem, fN, seval, FinQ, AS.result, resAll, resOne, tupV]
set_option maxHeartbeats 2000000 in
theorem ymayR_a (t : Ty) (hz : t.size ≤ 1000000000) : ACalls Tryz.prog 22 [aTy t] (aInt t.chk) := by
 induction h : SizeOf.sizeOf t using Nat.strongRecOn generalizing t with
 | _ N ih =>
 subst h
 have hs := Ty.size_eq t
 have hlen := Ty.length_le t.subs
 refine ok_R_typeMay.ac fun C hC => ?_
 unfold ir_R_typeMay
 rw [Ty.chk_eq]
 rcases form_cases t with ⟨hf, h1⟩ | ⟨hf, h1⟩
 ·rw [if_neg hf]
  rcases h1 with ⟨h0, h2⟩ | ⟨h2, hb⟩
  ·repeat' (first | (with_reducible first | refine W ?_ | refine Z0 ?_) | ((with_reducible first | refine Wo (fun K hK => ?_) | refine Wp ?_ | refine Wq ?_ | refine Wr ?_); (try simp only [go_sem, fN, seval, eT, iR, h0, h2, dT, dF, nL]); (repeat with_reducible refine Ai ?_); (try (refine hK _ ?_; clear hK K)); try with_reducible refine iC ?_))
   simp only [go_sem, fN, seval, FinQ, AS.result, resAll, resOne, tupV]
  ·repeat' (first | (with_reducible first | refine W ?_ | refine Z0 ?_) | ((with_reducible first | refine Wo (fun K hK => ?_) | refine Wp ?_ | refine Wq ?_ | refine Wr ?_); (try simp only [go_sem, fN, seval, eT, iR, h2, hb, dT, dF, nL]); (repeat with_reducible refine Ai ?_); (try (refine hK _ ?_; clear hK K)); try with_reducible refine iC ?_))
   simp only [go_sem, fN, seval, FinQ, AS.result, resAll, resOne, tupV]
 rw [if_pos hf]
 by_cases hr : 0 ≤ t.base ∧ t.base ≤ 999
 case neg =>
  rw [if_neg hr]
  by_cases hn : t.base < 0
  ·rcases h1 with h0 | ⟨h2, hb⟩
   ·repeat' (first | (with_reducible first | refine W ?_ | refine Z0 ?_) | ((with_reducible first | refine Wo (fun K hK => ?_) | refine Wp ?_ | refine Wq ?_ | refine Wr ?_); (try simp only [go_sem, fN, seval, eT, iR, h0, hn, dT, dF, nL]); (repeat with_reducible refine Ai ?_); (try (refine hK _ ?_; clear hK K)); try with_reducible refine iC ?_))
    simp only [go_sem, fN, seval, FinQ, AS.result, resAll, resOne, tupV]
   ·omega
  ·have h9 : 999 < t.base := by omega
   rcases h1 with h0 | ⟨h2, hb⟩
   ·repeat' (first | (with_reducible first | refine W ?_ | refine Z0 ?_) | ((with_reducible first | refine Wo (fun K hK => ?_) | refine Wp ?_ | refine Wq ?_ | refine Wr ?_); (try simp only [go_sem, fN, seval, eT, iR, h0, hn, h9, dT, dF, nL]); (repeat with_reducible refine Ai ?_); (try (refine hK _ ?_; clear hK K)); try with_reducible refine iC ?_))
    simp only [go_sem, fN, seval, FinQ, AS.result, resAll, resOne, tupV]
   ·omega
 rw [if_pos hr]
 have hn : ¬ t.base < 0 := by omega
 have h9 : ¬ 999 < t.base := by omega
 rcases h1 with h0 | ⟨h2, hb⟩
 ·repeat' (first | (with_reducible first | refine W ?_ | refine Z0 ?_) | ((with_reducible first | refine Wo (fun K hK => ?_) | refine Wp ?_ | refine Wq ?_ | refine Wr ?_); (try simp only [go_sem, fN, seval, eT, iR, h0, hn, h9, dT, dF, nL]); (repeat with_reducible refine Ai ?_); (try (refine hK _ ?_; clear hK K)); try with_reducible refine iC ?_))
  refine IWP.loopD [] (fun n s => ∃ k, k ≤ t.subs.length ∧ n = t.subs.length - k ∧ Ty.chks (t.subs.take k) = 0 ∧ s.env 1 = .one (.ptr 1 1 0 0) ∧ s.env 3 = aInt k ∧ s.S 1 = some (.box 27 [.st (.int .i64 t.base), .st (.list (t.subs.map encY))])) t.subs.length ⟨0, Nat.zero_le _, rfl, rfl, rfl, rfl, rfl⟩ ?_
  rintro n ⟨env, S⟩ ⟨k, hk', rfl, hc, e1, e3, s1⟩
  simp only at e1 e3 s1
  by_cases hlt : (k : Int) < t.subs.length
  ·obtain ⟨a, ha⟩ := get_lt (show k < t.subs.length by omega)
   have z3 := Ty.size_mem (mem_of_get ha)
   repeat' (first | (with_reducible first | refine W ?_ | refine Z0 ?_) | ((with_reducible first | refine Wo (fun K hK => ?_) | refine Wp ?_ | refine Wq ?_ | refine Wr ?_); (try simp only [go_sem, fN, seval, eT, iR, e1, e3, s1, ha, hlt, dT, dF, nL]); (repeat with_reducible refine Ai ?_); (try (refine hK _ ?_; clear hK K)); try with_reducible refine iC ?_))
   refine ⟨_, ih _ (Ty.lt_of_sub (mem_of_get ha)) a (by omega) rfl, ?_⟩
   by_cases hr : a.chk = 0
   ·repeat' (first | (with_reducible first | refine W ?_ | refine Z0 ?_) | ((with_reducible first | refine Wo (fun K hK => ?_) | refine Wp ?_ | refine Wq ?_ | refine Wr ?_); (try simp only [go_sem, fN, seval, eT, iR, e1, e3, s1, hr, dT, dF, nL]); (repeat with_reducible refine Ai ?_); (try (refine hK _ ?_; clear hK K)); try with_reducible refine iC ?_))
    refine then_normal ⟨t.subs.length - (k + 1), by omega, k + 1, by omega, rfl, ?_⟩
    simp only [go_sem, fN, seval, AS.drop, dropS, AC.clears, AC.clear, AC.highs, AC.high, Bool.not_false, Bool.true_and, Bool.and_self, AV.purge, AV.purges, AC.purge, ABlk.purge, List.contains_cons, List.contains_nil, Nat.reduceBEq, Bool.or_self, Bool.or_false, Bool.false_or, Bool.or_true, eT, iR, e1, e3, s1, hr]
    exact ⟨by rw [Ty.chks_take ha hc, hr], by congr 3⟩
   ·repeat' (first | (with_reducible first | refine W ?_ | refine Z0 ?_) | ((with_reducible first | refine Wo (fun K hK => ?_) | refine Wp ?_ | refine Wq ?_ | refine Wr ?_); (try simp only [go_sem, fN, seval, eT, iR, e1, e3, s1, hr, dT, dF, nL]); (repeat with_reducible refine Ai ?_); (try (refine hK _ ?_; clear hK K)); try with_reducible refine iC ?_))
    simp only [go_sem, fN, seval, FinQ, AS.result, resAll, resOne, tupV]
    rw [Ty.chks_bad (k := k + 1) (by rw [Ty.chks_take ha hc]; exact hr), Ty.chks_take ha hc]
  ·repeat' (first | (with_reducible first | refine W ?_ | refine Z0 ?_) | ((with_reducible first | refine Wo (fun K hK => ?_) | refine Wp ?_ | refine Wq ?_ | refine Wr ?_); (try simp only [go_sem, fN, seval, eT, iR, e1, e3, s1, hlt, dT, dF, nL]); (repeat with_reducible refine Ai ?_); (try (refine hK _ ?_; clear hK K)); try with_reducible refine iC ?_))
   simp only [go_sem, fN, seval, FinQ, AS.result, resAll, resOne, tupV]
   rw [List.take_of_length_le (by omega)] at hc
   rw [hc]
 ·repeat' (first | (with_reducible first | refine W ?_ | refine Z0 ?_) | ((with_reducible first | refine Wo (fun K hK => ?_) | refine Wp ?_ | refine Wq ?_ | refine Wr ?_); (try simp only [go_sem, fN, seval, eT, iR, h2, hb, dT, dF, nL]); (repeat with_reducible refine Ai ?_); (try (refine hK _ ?_; clear hK K)); try with_reducible refine iC ?_))
  refine IWP.loopD [] (fun n s => ∃ k, k ≤ t.subs.length ∧ n = t.subs.length - k ∧ Ty.chks (t.subs.take k) = 0 ∧ s.env 1 = .one (.ptr 1 1 0 0) ∧ s.env 3 = aInt k ∧ s.S 1 = some (.box 27 [.st (.int .i64 t.base), .st (.list (t.subs.map encY))])) t.subs.length ⟨0, Nat.zero_le _, rfl, rfl, rfl, rfl, by simp only [go_sem, fN, seval, eT, iR, hb]⟩ ?_
  rintro n ⟨env, S⟩ ⟨k, hk', rfl, hc, e1, e3, s1⟩
  simp only at e1 e3 s1
  by_cases hlt : (k : Int) < t.subs.length
  ·obtain ⟨a, ha⟩ := get_lt (show k < t.subs.length by omega)
   have z3 := Ty.size_mem (mem_of_get ha)
   repeat' (first | (with_reducible first | refine W ?_ | refine Z0 ?_) | ((with_reducible first | refine Wo (fun K hK => ?_) | refine Wp ?_ | refine Wq ?_ | refine Wr ?_); (try simp only [go_sem, fN, seval, eT, iR, e1, e3, s1, ha, hlt, dT, dF, nL]); (repeat with_reducible refine Ai ?_); (try (refine hK _ ?_; clear hK K)); try with_reducible refine iC ?_))
   refine ⟨_, ih _ (Ty.lt_of_sub (mem_of_get ha)) a (by omega) rfl, ?_⟩
   by_cases hr : a.chk = 0
   ·repeat' (first | (with_reducible first | refine W ?_ | refine Z0 ?_) | ((with_reducible first | refine Wo (fun K hK => ?_) | refine Wp ?_ | refine Wq ?_ | refine Wr ?_); (try simp only [go_sem, fN, seval, eT, iR, e1, e3, s1, hr, dT, dF, nL]); (repeat with_reducible refine Ai ?_); (try (refine hK _ ?_; clear hK K)); try with_reducible refine iC ?_))
    refine then_normal ⟨t.subs.length - (k + 1), by omega, k + 1, by omega, rfl, ?_⟩
    simp only [go_sem, fN, seval, AS.drop, dropS, AC.clears, AC.clear, AC.highs, AC.high, Bool.not_false, Bool.true_and, Bool.and_self, AV.purge, AV.purges, AC.purge, ABlk.purge, List.contains_cons, List.contains_nil, Nat.reduceBEq, Bool.or_self, Bool.or_false, Bool.false_or, Bool.or_true, eT, iR, e1, e3, s1, hr]
    exact ⟨by rw [Ty.chks_take ha hc, hr], by congr 3⟩
   ·repeat' (first | (with_reducible first | refine W ?_ | refine Z0 ?_) | ((with_reducible first | refine Wo (fun K hK => ?_) | refine Wp ?_ | refine Wq ?_ | refine Wr ?_); (try simp only [go_sem, fN, seval, eT, iR, e1, e3, s1, hr, dT, dF, nL]); (repeat with_reducible refine Ai ?_); (try (refine hK _ ?_; clear hK K)); try with_reducible refine iC ?_))
    simp only [go_sem, fN, seval, FinQ, AS.result, resAll, resOne, tupV]
    rw [Ty.chks_bad (k := k + 1) (by rw [Ty.chks_take ha hc]; exact hr), Ty.chks_take ha hc]
  ·repeat' (first | (with_reducible first | refine W ?_ | refine Z0 ?_) | ((with_reducible first | refine Wo (fun K hK => ?_) | refine Wp ?_ | refine Wq ?_ | refine Wr ?_); (try simp only [go_sem, fN, seval, eT, iR, e1, e3, s1, hlt, dT, dF, nL]); (repeat with_reducible refine Ai ?_); (try (refine hK _ ?_; clear hK K)); try with_reducible refine iC ?_))
   simp only [go_sem, fN, seval, FinQ, AS.result, resAll, resOne, tupV]
   rw [List.take_of_length_le (by omega)] at hc
   rw [hc]
theorem yMayR_a (t : Ty) : ACalls Tryz.prog 7 [aTy t] (aInt t.may) := by
 refine ok_R_TypeMay.ac fun C hC => ?_
 unfold ir_R_TypeMay
 unfold Ty.may
 have hc : (200 < capTo t.size 200) ↔ 200 < t.size := by unfold capTo; split <;> omega
 by_cases hz : 200 < t.size
 ·rw [if_pos hz]
  have hz' := hc.2 (by omega)
  repeat' (first | (with_reducible first | refine W ?_ | refine Z0 ?_) | refine Cg _ (ysizeR_a t 200 (by decide) (by decide)) ?_ | ((with_reducible first | refine Wo (fun K hK => ?_) | refine Wp ?_ | refine Wq ?_ | refine Wr ?_); (try simp only [go_sem, fN, seval, eT, iR, hz', dT, dF, nL]); (repeat with_reducible refine Ai ?_); (try (refine hK _ ?_; clear hK K)); try with_reducible refine iC ?_))
  simp only [go_sem, fN, seval, FinQ, AS.result, resAll, resOne, tupV]
 ·rw [if_neg hz]
  have hz' : ¬ 200 < capTo t.size 200 := fun h => hz (hc.1 h)
  repeat' (first | (with_reducible first | refine W ?_ | refine Z0 ?_) | refine Cg _ (ysizeR_a t 200 (by decide) (by decide)) ?_ | refine Cg _ (ymayR_a t (by omega)) ?_ | ((with_reducible first | refine Wo (fun K hK => ?_) | refine Wp ?_ | refine Wq ?_ | refine Wr ?_); (try simp only [go_sem, fN, seval, eT, iR, hz', dT, dF, nL]); (repeat with_reducible refine Ai ?_); (try (refine hK _ ?_; clear hK K)); try with_reducible refine iC ?_))
  simp only [go_sem, fN, seval, FinQ, AS.result, resAll, resOne, tupV]
theorem sameTy_a (x y : BT) : ACalls Tryz.prog 44 [aTy x.ty, aTy y.ty] (aBool (decide (x = y))) := by
 induction h : SizeOf.sizeOf x using Nat.strongRecOn generalizing x y with
 | _ N ih =>
 subst h
 refine ok_R_SameType.ac fun C hC => ?_
 unfold ir_R_SameType
 by_cases hb : x.ty.base = y.ty.base
 case neg =>
  have hne : ¬ x = y := fun e => hb (by rw [e])
  repeat' (first | (with_reducible first | refine W ?_ | refine Z0 ?_) | ((with_reducible first | refine Wo (fun K hK => ?_) | refine Wp ?_ | refine Wq ?_ | refine Wr ?_); (try simp only [go_sem, fN, seval, eT, iR, hb, dT, dF, nL]); (repeat with_reducible refine Ai ?_); (try (refine hK _ ?_; clear hK K)); try with_reducible refine iC ?_))
  simp only [go_sem, fN, seval, FinQ, AS.result, resAll, resOne, tupV, hne]
 by_cases hl : x.ty.subs.length = y.ty.subs.length
 case neg =>
  have hne : ¬ x = y := fun e => hl (by rw [e])
  have hl' : ¬ (x.ty.subs.length : Int) = y.ty.subs.length := by omega
  repeat' (first | (with_reducible first | refine W ?_ | refine Z0 ?_) | ((with_reducible first | refine Wo (fun K hK => ?_) | refine Wp ?_ | refine Wq ?_ | refine Wr ?_); (try simp only [go_sem, fN, seval, eT, iR, hb, hl', dT, dF, nL]); (repeat with_reducible refine Ai ?_); (try (refine hK _ ?_; clear hK K)); try with_reducible refine iC ?_))
  simp only [go_sem, fN, seval, FinQ, AS.result, resAll, resOne, tupV, hne]
 have hl' : (x.ty.subs.length : Int) = y.ty.subs.length := by omega
 have lx : x.ty.subs.length = x.sub.length := by rw [BT.ty_subs, List.length_map]
 have ly : y.ty.subs.length = y.sub.length := by rw [BT.ty_subs, List.length_map]
 have h2 : x.sub.length ≤ 2 := by cases x <;> simp [BT.sub]
 repeat' (first | (with_reducible first | refine W ?_ | refine Z0 ?_) | ((with_reducible first | refine Wo (fun K hK => ?_) | refine Wp ?_ | refine Wq ?_ | refine Wr ?_); (try simp only [go_sem, fN, seval, eT, iR, hb, hl', dT, dF, nL]); (repeat with_reducible refine Ai ?_); (try (refine hK _ ?_; clear hK K)); try with_reducible refine iC ?_))
 refine IWP.loopD [] (fun n s => ∃ k, k ≤ x.sub.length ∧ n = x.sub.length - k ∧ x.sub.take k = y.sub.take k ∧ s.env 2 = .one (.ptr 2 1 0 0) ∧ s.env 3 = .one (.ptr 3 1 0 0) ∧ s.env 5 = aInt k ∧ s.S 2 = some (.box 27 [.st (.int .i64 x.ty.base), .st (.list (x.ty.subs.map encY))]) ∧ s.S 3 = some (.box 27 [.st (.int .i64 y.ty.base), .st (.list (y.ty.subs.map encY))])) x.sub.length ⟨0, Nat.zero_le _, rfl, rfl, rfl, rfl, rfl, by simp only [go_sem, fN, seval, eT, iR, hb], by simp only [go_sem, fN, seval, eT, iR, hb]⟩ ?_
 rintro n ⟨env, S⟩ ⟨k, hk', rfl, hc, e2, e3, e5, s2, s3⟩
 simp only at e2 e3 e5 s2 s3
 by_cases hlt : (k : Int) < x.ty.subs.length
 ·obtain ⟨a, ha⟩ := get_lt (show k < x.sub.length by omega)
  obtain ⟨b, hb'⟩ := get_lt (show k < y.sub.length by omega)
  have ha' : x.ty.subs[k]? = some a.ty := by rw [BT.ty_subs, List.getElem?_map, ha]; rfl
  have hb'' : y.ty.subs[k]? = some b.ty := by rw [BT.ty_subs, List.getElem?_map, hb']; rfl
  repeat' (first | (with_reducible first | refine W ?_ | refine Z0 ?_) | ((with_reducible first | refine Wo (fun K hK => ?_) | refine Wp ?_ | refine Wq ?_ | refine Wr ?_); (try simp only [go_sem, fN, seval, eT, iR, e2, e3, e5, s2, s3, ha', hb'', hlt, dT, dF, nL]); (repeat with_reducible refine Ai ?_); (try (refine hK _ ?_; clear hK K)); try with_reducible refine iC ?_))
  refine ⟨_, ih _ (BT.lt_sub (mem_of_get ha)) a b rfl, ?_⟩
  by_cases hab : a = b
  ·subst hab
   repeat' (first | (with_reducible first | refine W ?_ | refine Z0 ?_) | ((with_reducible first | refine Wo (fun K hK => ?_) | refine Wp ?_ | refine Wq ?_ | refine Wr ?_); (try simp only [go_sem, fN, seval, eT, iR, e2, e3, e5, s2, s3, dT, dF, nL]); (repeat with_reducible refine Ai ?_); (try (refine hK _ ?_; clear hK K)); try with_reducible refine iC ?_))
   refine then_normal ⟨x.sub.length - (k + 1), by omega, k + 1, by omega, rfl, ?_⟩
   simp only [go_sem, fN, seval, AS.drop, dropS, AC.clears, AC.clear, AC.highs, AC.high, Bool.not_false, Bool.true_and, Bool.and_self, AV.purge, AV.purges, AC.purge, ABlk.purge, List.contains_cons, List.contains_nil, Nat.reduceBEq, Bool.or_self, Bool.or_false, Bool.false_or, Bool.or_true, eT, iR, e2, e3, e5, s2, s3]
   exact ⟨by rw [take_snoc ha, take_snoc hb', hc], by congr 3⟩
  ·have hne : ¬ x = y := fun e => hab (by
    subst e
    rw [ha] at hb'
    exact Option.some.inj hb')
   repeat' (first | (with_reducible first | refine W ?_ | refine Z0 ?_) | ((with_reducible first | refine Wo (fun K hK => ?_) | refine Wp ?_ | refine Wq ?_ | refine Wr ?_); (try simp only [go_sem, fN, seval, eT, iR, hab, dT, dF, nL]); (repeat with_reducible refine Ai ?_); (try (refine hK _ ?_; clear hK K)); try with_reducible refine iC ?_))
   simp only [go_sem, fN, seval, FinQ, AS.result, resAll, resOne, tupV, hne]
 ·have he : x = y := BT.eq_of hb (by rw [List.take_of_length_le (by omega), List.take_of_length_le (by omega)] at hc; exact hc)
  repeat' (first | (with_reducible first | refine W ?_ | refine Z0 ?_) | ((with_reducible first | refine Wo (fun K hK => ?_) | refine Wp ?_ | refine Wq ?_ | refine Wr ?_); (try simp only [go_sem, fN, seval, eT, iR, e2, e3, e5, s2, s3, hlt, dT, dF, nL]); (repeat with_reducible refine Ai ?_); (try (refine hK _ ?_; clear hK K)); try with_reducible refine iC ?_))
  simp only [go_sem, fN, seval, FinQ, AS.result, resAll, resOne, tupV, he]

theorem arrow_a (a b : Tm) : ACalls Tryz.prog 86 [aTm a, aTm b] (aTm (arrT a b)) := by
 refine ok_infer_arrow.ac fun C hC => ?_
 unfold ir_infer_arrow
 repeat' (first | (with_reducible first | refine W ?_ | refine Z0 ?_) | ((with_reducible first | refine Wo (fun K hK => ?_) | refine Wp ?_ | refine Wq ?_ | refine Wr ?_); (try simp only [go_sem, fN, seval, eT, iR, dT, dF, nL]); (repeat with_reducible refine Ai ?_); (try (refine hK _ ?_; clear hK K)); try with_reducible refine iC ?_))
 simp only [go_sem, fN, seval, FinQ, AS.result, resAll, resOne, tupV]
 show _ = AV.agg [.st (.str fS), .st (.list [encT a, encT b])]
 rw [encT_eq, encT_eq]
 rfl
theorem arrowR_a (a b : Tm) : ACalls Tryz.prog 46 [aTm a, aTm b] (aTm (arrT a b)) := by
 refine ok_R_Arrow.ac fun C hC => ?_
 unfold ir_R_Arrow
 repeat' (first | (with_reducible first | refine W ?_ | refine Z0 ?_) | ((with_reducible first | refine Wo (fun K hK => ?_) | refine Wp ?_ | refine Wq ?_ | refine Wr ?_); (try simp only [go_sem, fN, seval, eT, iR, dT, dF, nL]); (repeat with_reducible refine Ai ?_); (try (refine hK _ ?_; clear hK K)); try with_reducible refine iC ?_))
 simp only [go_sem, fN, seval, FinQ, AS.result, resAll, resOne, tupV]
 show _ = AV.agg [.st (.str fS), .st (.list [encT a, encT b])]
 rw [encT_eq, encT_eq]
 rfl
theorem leafI_a (s : ByteArray) : ACalls Tryz.prog 69 [aStr s] (aTm (.mk s [])) := by
 refine ok_R_Leaf.ac fun C hC => ?_
 unfold ir_R_Leaf
 repeat' (first | (with_reducible first | refine W ?_ | refine Z0 ?_) | ((with_reducible first | refine Wo (fun K hK => ?_) | refine Wq ?_ | refine Wr ?_); (try simp only [go_sem, fN, seval, eT, iR]); (repeat with_reducible refine Ai ?_); (try (refine hK _ ?_; clear hK K))))
 simp only [go_sem, fN, seval, FinQ, AS.result, resAll, resOne, tupV]
 rfl
theorem as_a (c : UInt8) (x : BT) (hl : x.low 1000000) : ACalls Tryz.prog 58 [aTy x.ty, aStr ⟨#[c]⟩] (aTm (x.tm c)) := by
 induction x with
 | b n =>
  have z1 := decS_size_le (n := n) hl
  have z2 : (⟨#[c]⟩ : ByteArray).size = 1 := rfl
  refine ok_infer_as.ac fun C hC => ?_
  unfold ir_infer_as
  repeat' (first | (with_reducible first | refine W ?_ | refine Z0 ?_) | refine Cg _ (itoa_a n hl) ?_ | ((with_reducible first | refine Wo (fun K hK => ?_) | refine Wp ?_ | refine Wq ?_ | refine Wr ?_); (try simp only [go_sem, fN, seval, eT, iR, z2, dT, dF, nL]); (repeat with_reducible refine Ai ?_); (try (refine hK _ ?_; clear hK K)); try with_reducible refine iC ?_))
  simp only [go_sem, fN, seval, FinQ, AS.result, resAll, resOne, tupV]
  rfl
 | a u v iu iv =>
  have hu := iu hl.1
  have hv := iv hl.2
  refine ok_infer_as.ac fun C hC => ?_
  unfold ir_infer_as
  repeat' (first | (with_reducible first | refine W ?_ | refine Z0 ?_) | refine Cg _ (hu) ?_ | refine Cg _ (hv) ?_ | refine Cg _ (arrow_a (u.tm c) (v.tm c)) ?_ | ((with_reducible first | refine Wo (fun K hK => ?_) | refine Wp ?_ | refine Wq ?_ | refine Wr ?_); (try simp only [go_sem, fN, seval, eT, iR, dT, dF, nL]); (repeat with_reducible refine Ai ?_); (try (refine hK _ ?_; clear hK K)); try with_reducible refine iC ?_))
  simp only [go_sem, fN, seval, FinQ, AS.result, resAll, resOne, tupV]
  rfl
theorem fresh_S {a0 : Nat} {c : AC} {n : Nat} {S : AStore} (ha : 1000 ≤ a0) (hc : c.high = true) (hn : n < 900000) (hSa : S a0 = some (.box 116 [c, .st (.int .i64 n)])) :
  ACallsS Tryz.prog 94 [.one (.ptr a0 1 0 0)] S (aTm (tvar (n + 1))) (updE S a0 (some (.box 116 [c, .st (.int .i64 ((n + 1 : Nat) : Int))]))) := by
 have z1 := decS_size_le (n := n + 1) (by omega)
 have z2 : (⟨#[84]⟩ : ByteArray).size = 1 := rfl
 have a2 : ¬ a0 = 2 := by omega
 have d2 : ¬ 2 = a0 := by omega
 have hi := itoa_a (n + 1) (by omega)
 rw [show (((n + 1 : Nat) : Int)) = (n : Int) + 1 by omega] at hi ⊢
 refine ok_metaprune_infer_maker_fresh.acS fun hS C hC => ?_
 have k2 : S 2 = none := clean_none hS (by omega)
 unfold ir_metaprune_infer_maker_fresh
 repeat' (first | (with_reducible first | refine W ?_ | refine Z0 ?_) | refine Cg _ (hi) ?_ | ((with_reducible first | refine Wo (fun K hK => ?_) | refine Wp ?_ | refine Wq ?_ | refine Wr ?_); (try simp only [go_sem, fN, seval, eT, iR, hSa, a2, d2, k2, z2, dT, dF, nL]); (repeat with_reducible refine Ai ?_); (try (refine hK _ ?_; clear hK K)); try with_reducible refine iC ?_))
 refine finS_one (.agg [.st (.str (lName 84 (n + 1))), .full []]) hS ha (by simp only [ABlk.high, AC.highs, hc, AC.high, Bool.and_self]) trivial ?_ ?_ ?_ fun i hi hne => ?_
 ·simp only [go_sem, fN, seval, eT, iR, resAll, resOne, tupV, a2, d2]
  rfl
 ·simp only [go_sem, fN, seval, eT, iR]
  try rfl
 ·simp only [go_sem, fN, seval, eT, iR, a2, hSa]
 ·have i2 : ¬ i = 2 := by omega
  simp only [go_sem, fN, seval, eT, iR, hne, i2]
theorem freshR_S {a0 : Nat} {c : AC} {n : Nat} {S : AStore} (ha : 1000 ≤ a0) (hc : c.high = true) (hn : n < 900000) (hSa : S a0 = some (.box 58 [c, .st (.int .i64 n)])) :
  ACallsS Tryz.prog 45 [.one (.ptr a0 1 0 0)] S (aTm (tvar (n + 1))) (updE S a0 (some (.box 58 [c, .st (.int .i64 ((n + 1 : Nat) : Int))]))) := by
 have z1 := decS_size_le (n := n + 1) (by omega)
 have z2 : (⟨#[84]⟩ : ByteArray).size = 1 := rfl
 have a2 : ¬ a0 = 2 := by omega
 have d2 : ¬ 2 = a0 := by omega
 have hi := decR_a (n + 1) (by omega)
 rw [show (((n + 1 : Nat) : Int)) = (n : Int) + 1 by omega] at hi ⊢
 refine ok_metaprune_R_typing_fresh.acS fun hS C hC => ?_
 have k2 : S 2 = none := clean_none hS (by omega)
 unfold ir_metaprune_R_typing_fresh
 repeat' (first | (with_reducible first | refine W ?_ | refine Z0 ?_) | refine Cg _ (hi) ?_ | refine Cg _ (leafI_a (lName 84 (n + 1))) ?_ | ((with_reducible first | refine Wo (fun K hK => ?_) | refine Wp ?_ | refine Wq ?_ | refine Wr ?_); (try simp only [go_sem, fN, seval, eT, iR, hSa, a2, d2, k2, z2, dT, dF, nL]); (repeat with_reducible refine Ai ?_); (try (refine hK _ ?_; clear hK K)); try with_reducible refine iC ?_))
 refine finS_one (aTm (tvar (n + 1))) hS ha (by simp only [ABlk.high, AC.highs, hc, AC.high, Bool.and_self]) trivial ?_ ?_ ?_ fun i hi hne => ?_
 ·simp only [go_sem, fN, seval, eT, iR, resAll, resOne, tupV, a2, d2]
  rfl
 ·simp only [go_sem, fN, seval, eT, iR]
  try rfl
 ·simp only [go_sem, fN, seval, eT, iR, a2, hSa]
 ·have i2 : ¬ i = 2 := by omega
  simp only [go_sem, fN, seval, eT, iR, hne, i2]
theorem hasConst_a (t : Lm) (hz : t.size ≤ 1000000) : ACalls Tryz.prog 9 [aLm t] (aBool (!t.pure)) := by
 induction h : SizeOf.sizeOf t using Nat.strongRecOn generalizing t with
 | _ N ih =>
 subst h
 have hs := Lm.size_eq t
 have hlen := Lm.length_le t.subs
 rw [Lm.pure_eq]
 refine ok_R_HasConst.ac fun C hC => ?_
 unfold ir_R_HasConst
 by_cases hk : t.kind = 4
 ·repeat' (first | (with_reducible first | refine W ?_ | refine Z0 ?_) | ((with_reducible first | refine Wo (fun K hK => ?_) | refine Wp ?_ | refine Wq ?_ | refine Wr ?_); (try simp only [go_sem, fN, seval, eT, iR, hk, dT, dF, nL]); (repeat with_reducible refine Ai ?_); (try (refine hK _ ?_; clear hK K)); try with_reducible refine iC ?_))
  simp only [go_sem, fN, seval, FinQ, AS.result, resAll, resOne, tupV, hk]
  try simp
 repeat' (first | (with_reducible first | refine W ?_ | refine Z0 ?_) | ((with_reducible first | refine Wo (fun K hK => ?_) | refine Wp ?_ | refine Wq ?_ | refine Wr ?_); (try simp only [go_sem, fN, seval, eT, iR, hk, dT, dF, nL]); (repeat with_reducible refine Ai ?_); (try (refine hK _ ?_; clear hK K)); try with_reducible refine iC ?_))
 refine IWP.loopD [] (fun n s => ∃ k, k ≤ t.subs.length ∧ n = t.subs.length - k ∧ Lm.pures (t.subs.take k) = true ∧ s.env 1 = .one (.ptr 1 1 0 0) ∧ s.env 3 = aInt k ∧ s.S 1 = some (.box 24 [.st (.int .i64 t.kind), .st (.int .i64 t.idx), .st (.list (t.subs.map encL))])) t.subs.length ⟨0, Nat.zero_le _, rfl, rfl, rfl, rfl, rfl⟩ ?_
 rintro n ⟨env, S⟩ ⟨k, hk', rfl, hc, e1, e3, s1⟩
 simp only at e1 e3 s1
 by_cases hlt : (k : Int) < t.subs.length
 ·obtain ⟨a, ha⟩ := get_lt (show k < t.subs.length by omega)
  have z3 := Lm.size_mem (mem_of_get ha)
  have hs := Lm.pures_take ha hc
  have hr := ih _ (Lm.lt_of_sub (mem_of_get ha)) a (by omega) rfl
  cases hp : a.pure with
  | true =>
   rw [hp] at hr hs
   repeat' (first | (with_reducible first | refine W ?_ | refine Z0 ?_) | refine Cg _ (hr) ?_ | ((with_reducible first | refine Wo (fun K hK => ?_) | refine Wp ?_ | refine Wq ?_ | refine Wr ?_); (try simp only [go_sem, fN, seval, eT, iR, e1, e3, s1, ha, hlt, dT, dF, nL]); (repeat with_reducible refine Ai ?_); (try (refine hK _ ?_; clear hK K)); try with_reducible refine iC ?_))
   refine then_normal ⟨t.subs.length - (k + 1), by omega, k + 1, by omega, rfl, ?_⟩
   simp only [go_sem, fN, seval, AS.drop, dropS, AC.clears, AC.clear, AC.highs, AC.high, Bool.not_false, Bool.true_and, Bool.and_self, AV.purge, AV.purges, AC.purge, ABlk.purge, List.contains_cons, List.contains_nil, Nat.reduceBEq, Bool.or_self, Bool.or_false, Bool.false_or, Bool.or_true, eT, iR, e1, e3, s1]
   exact ⟨hs, by congr 3⟩
  | false =>
   rw [hp] at hr hs
   repeat' (first | (with_reducible first | refine W ?_ | refine Z0 ?_) | refine Cg _ (hr) ?_ | ((with_reducible first | refine Wo (fun K hK => ?_) | refine Wp ?_ | refine Wq ?_ | refine Wr ?_); (try simp only [go_sem, fN, seval, eT, iR, e1, e3, s1, ha, hlt, dT, dF, nL]); (repeat with_reducible refine Ai ?_); (try (refine hK _ ?_; clear hK K)); try with_reducible refine iC ?_))
   simp only [go_sem, fN, seval, FinQ, AS.result, resAll, resOne, tupV]
   rw [Lm.pures_bad hs]
   simp
 ·rw [List.take_of_length_le (by omega)] at hc
  repeat' (first | (with_reducible first | refine W ?_ | refine Z0 ?_) | ((with_reducible first | refine Wo (fun K hK => ?_) | refine Wp ?_ | refine Wq ?_ | refine Wr ?_); (try simp only [go_sem, fN, seval, eT, iR, e1, e3, s1, hlt, dT, dF, nL]); (repeat with_reducible refine Ai ?_); (try (refine hK _ ?_; clear hK K)); try with_reducible refine iC ?_))
  simp only [go_sem, fN, seval, FinQ, AS.result, resAll, resOne, tupV]
  simp [hc, hk]
theorem pures_first : ∀ {xs : List Lm}, Lm.pures xs = false → ∃ (k : Nat) (x : Lm), xs[k]? = some x ∧ x.pure = false ∧ ∀ (j : Nat) (y : Lm), j < k → xs[j]? = some y → y.pure = true
 | [], h => by simp [Lm.pures] at h
 | x :: xs, h => by
  rw [Lm.pures, Bool.and_eq_false_iff] at h
  cases hx : x.pure with
  | false => exact ⟨0, x, rfl, hx, fun j y hj => by omega⟩
  | true =>
   obtain ⟨k, y, h1, h2, h3⟩ := pures_first (h.resolve_left (by rw [hx]; simp))
   refine ⟨k + 1, y, h1, h2, fun j z hj hz => ?_⟩
   cases j with
   | zero => simp at hz; subst hz; exact hx
   | succ j => exact h3 j z (by omega) (by simpa using hz)
theorem pures_mem {xs : List Lm} (h : Lm.pures xs = true) {x : Lm} (hx : x ∈ xs) : x.pure = true := by
 induction xs with
 | nil => simp at hx
 | cons y ys ih =>
  rw [Lm.pures, Bool.and_eq_true] at h
  rcases List.mem_cons.1 hx with rfl | hx
  ·exact h.1
  ·exact ih h.2 hx
theorem pure1_a (t : Lm) (ht : ACalls Tryz.prog 77 [aLm t] (aBool t.pure)) : ACalls Tryz.prog 93 [aLm t] (aBool (!t.pure)) := by
 refine ok_infer_pure_1.ac fun C hC => ?_
 unfold ir_infer_pure_1
 repeat' (first | (with_reducible first | refine W ?_ | refine Z0 ?_) | refine Cg _ (ht) ?_ | ((with_reducible first | refine Wo (fun K hK => ?_) | refine Wp ?_ | refine Wq ?_ | refine Wr ?_); (try simp only [go_sem, fN, seval, eT, iR, dT, dF, nL]); (repeat with_reducible refine Ai ?_); (try (refine hK _ ?_; clear hK K)); try with_reducible refine iC ?_))
 simp only [go_sem, fN, seval, FinQ, AS.result, resAll, resOne, tupV]
theorem indexPure_a (xs : List Lm) (hh : ∀ a ∈ xs, ACalls Tryz.prog 77 [aLm a] (aBool a.pure)) (hl : xs.length ≤ 1000000) : ∃ i : Int, (0 ≤ i ↔ Lm.pures xs = false) ∧ ACalls Tryz.prog 107 [aLms xs, .one (.fn 93 [])] (aInt i) := by
 have hplain : plainF Tryz.prog 93 = true := by kernel_rfl
 obtain ⟨i, hi, hk⟩ : ∃ i : Int, (0 ≤ i ↔ Lm.pures xs = false) ∧ ((i = -1 ∧ ∀ (j : Nat) (y : Lm), xs[j]? = some y → y.pure = true) ∨ ∃ (k : Nat) (x : Lm), i = k ∧ xs[k]? = some x ∧ x.pure = false ∧ ∀ (j : Nat) (y : Lm), j < k → xs[j]? = some y → y.pure = true) := by
  cases hp : Lm.pures xs with
  | true => exact ⟨-1, by simp, .inl ⟨rfl, fun j y hj => pures_mem hp (List.mem_of_getElem? hj)⟩⟩
  | false =>
   obtain ⟨k, x, h1, h2, h3⟩ := pures_first hp
   exact ⟨k, by simp, .inr ⟨k, x, rfl, h1, h2, h3⟩⟩
 refine ⟨i, hi, ?_⟩
 refine ok_slices_IndexFunc_metaprune_api_Lam_metaprune_api_Lam.ac fun C hC => ?_
 unfold ir_slices_IndexFunc_metaprune_api_Lam_metaprune_api_Lam
 repeat' (first | (with_reducible first | refine W ?_ | refine Z0 ?_) | ((with_reducible first | refine Wo (fun K hK => ?_) | refine Wp ?_ | refine Wq ?_ | refine Wr ?_); (try simp only [go_sem, fN, seval, eT, iR, dT, dF, nL]); (repeat with_reducible refine Ai ?_); (try (refine hK _ ?_; clear hK K)); try with_reducible refine iC ?_))
 refine IWP.loopD [] (fun n s => ∃ k : Nat, k ≤ xs.length ∧ n = xs.length - k ∧ (i = -1 ∨ (k : Int) ≤ i) ∧ s.env 0 = aLms xs ∧ s.env 1 = .one (.fn 93 []) ∧ s.env 7 = aInt xs.length ∧ s.env 8 = aInt k) xs.length ⟨0, Nat.zero_le _, rfl, (by rcases hk with ⟨h, _⟩ | ⟨k, x, h, _⟩ <;> omega), rfl, rfl, rfl, rfl⟩ ?_
 rintro n ⟨env, S⟩ ⟨k, hk', rfl, hp, e0, e1, e7, e8⟩
 simp only at e0 e1 e7 e8
 by_cases hlt : (k : Int) < xs.length
 ·obtain ⟨a, ha⟩ := get_lt (show k < xs.length by omega)
  have h1 := pure1_a a (hh a (mem_of_get ha))
  repeat' (first | (with_reducible first | refine W ?_ | refine Z0 ?_) | ((with_reducible first | refine Wo (fun K hK => ?_) | refine Wp ?_ | refine Wq ?_ | refine Wr ?_); (try simp only [go_sem, fN, seval, eT, iR, e0, e1, e7, e8, hlt, ha, hplain, dT, dF, nL]); (repeat with_reducible refine Ai ?_); (try (refine hK _ ?_; clear hK K)); try with_reducible refine iC ?_))
  refine ⟨_, _, h1.toS rfl, ?_⟩
  cases hpa : a.pure with
  | true =>
   repeat' (first | (with_reducible first | refine W ?_ | refine Z0 ?_) | ((with_reducible first | refine Wo (fun K hK => ?_) | refine Wp ?_ | refine Wq ?_ | refine Wr ?_); (try simp only [go_sem, fN, seval, eT, iR, hpa, e0, e1, e7, e8, dT, dF, nL]); (repeat with_reducible refine Ai ?_); (try (refine hK _ ?_; clear hK K)); try with_reducible refine iC ?_))
   refine then_normal ⟨xs.length - (k + 1), by omega, k + 1, by omega, rfl, ?_, ?_⟩
   ·rcases hk with ⟨h, _⟩ | ⟨q, x, h, hx, hxp, _⟩
    ·exact .inl h
    ·have : ¬ k = q := fun e => by
      subst e
      rw [ha] at hx
      cases hx
      rw [hpa] at hxp
      cases hxp
     right
     omega
   ·simp only [go_sem, fN, seval, AS.drop, dropS, AC.clears, AC.clear, AC.highs, AC.high, Bool.not_false, Bool.true_and, Bool.and_self, AV.purge, AV.purges, AC.purge, ABlk.purge, List.contains_cons, List.contains_nil, Nat.reduceBEq, Bool.or_self, Bool.or_false, Bool.false_or, Bool.or_true, eT, iR, e0, e1, e7, e8]
    congr 3
  | false =>
   have hik : i = k := by
    rcases hk with ⟨_, h⟩ | ⟨q, x, h, hx, hxp, hall⟩
    ·rw [h k a ha] at hpa; cases hpa
    ·rcases Nat.lt_trichotomy k q with hkq | hkq | hkq
     ·rw [hall k a hkq ha] at hpa; cases hpa
     ·omega
     ·omega
   repeat' (first | (with_reducible first | refine W ?_ | refine Z0 ?_) | ((with_reducible first | refine Wo (fun K hK => ?_) | refine Wp ?_ | refine Wq ?_ | refine Wr ?_); (try simp only [go_sem, fN, seval, eT, iR, hpa, e0, e1, e7, e8, dT, dF, nL]); (repeat with_reducible refine Ai ?_); (try (refine hK _ ?_; clear hK K)); try with_reducible refine iC ?_))
   simp only [go_sem, fN, seval, FinQ, AS.result, resAll, resOne, tupV, hik]
 ·have hi1 : i = -1 := by
   rcases hk with ⟨h, _⟩ | ⟨q, x, h, hx, _⟩
   ·exact h
   ·have := (List.getElem?_eq_some_iff.1 hx).1
    omega
  repeat' (first | (with_reducible first | refine W ?_ | refine Z0 ?_) | ((with_reducible first | refine Wo (fun K hK => ?_) | refine Wp ?_ | refine Wq ?_ | refine Wr ?_); (try simp only [go_sem, fN, seval, eT, iR, e0, e1, e7, e8, hlt, dT, dF, nL]); (repeat with_reducible refine Ai ?_); (try (refine hK _ ?_; clear hK K)); try with_reducible refine iC ?_))
  simp only [go_sem, fN, seval, FinQ, AS.result, resAll, resOne, tupV, hi1]
theorem pure_a (t : Lm) (hz : t.size ≤ 1000000) : ACalls Tryz.prog 77 [aLm t] (aBool t.pure) := by
 induction h : SizeOf.sizeOf t using Nat.strongRecOn generalizing t with
 | _ N ih =>
 subst h
 have hs := Lm.size_eq t
 have hlen := Lm.length_le t.subs
 obtain ⟨i, hi, hI⟩ := indexPure_a t.subs (fun a ha => ih _ (Lm.lt_of_sub ha) a (by have := Lm.size_mem ha; omega) rfl) (by omega)
 have hCF : ACalls Tryz.prog 92 [aLms t.subs, .one (.fn 93 [])] (aBool (!Lm.pures t.subs)) := by
  refine ok_slices_ContainsFunc_metaprune_api_Lam_metaprune_api_Lam.ac fun C hC => ?_
  unfold ir_slices_ContainsFunc_metaprune_api_Lam_metaprune_api_Lam
  repeat' (first | (with_reducible first | refine W ?_ | refine Z0 ?_) | refine Cg _ (hI) ?_ | ((with_reducible first | refine Wo (fun K hK => ?_) | refine Wp ?_ | refine Wq ?_ | refine Wr ?_); (try simp only [go_sem, fN, seval, eT, iR, dT, dF, nL]); (repeat with_reducible refine Ai ?_); (try (refine hK _ ?_; clear hK K)); try with_reducible refine iC ?_))
  simp only [go_sem, fN, seval, FinQ, AS.result, resAll, resOne, tupV]
  cases hp : Lm.pures t.subs with
  | true =>
   have h0 : ¬ 0 ≤ i := fun h => absurd (hi.1 h) (by rw [hp]; simp)
   simp [h0]
  | false =>
   have h0 : 0 ≤ i := hi.2 hp
   simp [h0]
 rw [Lm.pure_eq]
 refine ok_infer_pure.ac fun C hC => ?_
 unfold ir_infer_pure
 by_cases hk : t.kind = 4
 ·rw [decide_eq_true hk]
  repeat' (first | (with_reducible first | refine W ?_ | refine Z0 ?_) | refine Cg _ (hCF) ?_ | ((with_reducible first | refine Wo (fun K hK => ?_) | refine Wp ?_ | refine Wq ?_ | refine Wr ?_); (try simp only [go_sem, fN, seval, eT, iR, hk, dT, dF, nL]); (repeat with_reducible refine Ai ?_); (try (refine hK _ ?_; clear hK K)); try with_reducible refine iC ?_))
  exact ⟨trivial, rfl⟩
 ·rw [decide_eq_false hk]
  repeat' (first | (with_reducible first | refine W ?_ | refine Z0 ?_) | refine Cg _ (hCF) ?_ | ((with_reducible first | refine Wo (fun K hK => ?_) | refine Wp ?_ | refine Wq ?_ | refine Wr ?_); (try simp only [go_sem, fN, seval, eT, iR, hk, dT, dF, nL]); (repeat with_reducible refine Ai ?_); (try (refine hK _ ?_; clear hK K)); try with_reducible refine iC ?_))
  first | exact ⟨trivial, rfl⟩ | (refine ⟨trivial, ?_⟩; cases hp : Lm.pures t.subs <;> rfl)

set_option maxHeartbeats 2000000
theorem UL.v_kind (i : Nat) : (UL.v i).lm.kind = 1 := rfl
theorem UL.v_idx (i : Nat) : (UL.v i).lm.idx = i := rfl
theorem UL.v_subs (i : Nat) : (UL.v i).lm.subs = [] := rfl
theorem UL.l_kind (b : UL) : (UL.l b).lm.kind = 2 := rfl
theorem UL.l_idx (b : UL) : (UL.l b).lm.idx = 0 := rfl
theorem UL.l_subs (b : UL) : (UL.l b).lm.subs = [b.lm] := rfl
theorem UL.a_kind (f x : UL) : (UL.a f x).lm.kind = 3 := rfl
theorem UL.a_idx (f x : UL) : (UL.a f x).lm.idx = 0 := rfl
theorem UL.a_subs (f x : UL) : (UL.a f x).lm.subs = [f.lm, x.lm] := rfl
attribute [go_sem] UL.v_kind UL.v_idx UL.v_subs UL.l_kind UL.l_idx UL.l_subs UL.a_kind UL.a_idx UL.a_subs
theorem acallsS_told {P : Program} {f : FuncId} {x y : AV} {r0 n : Nat} {S : AStore} {r : AV} {S' : AStore} {e : TypeId} {wd : Nat} {xs : List (List SV)} (hS : S r0 = some (.arow e wd xs)) (hn : n = xs.length) (h : ACallsS P f [x, y, .one (.st (.list xs))] S r S') : ACallsS P f [x, y, .one (.row r0 n)] S r S' := by
 intro hc σ w vs ι hg hf ho hv
 refine h hc σ w vs ι hg hf ho ?_
 cases hv with
 | cons h1 hv =>
 cases hv with
 | cons h2 hv =>
 cases hv with
 | cons h3 hv =>
 cases hv
 refine .cons h1 (.cons h2 (.cons ?_ .nil))
 have h3 := vrep_one h3
 cases h3 with
 | row q1 q2 q3 q4 =>
  rw [hS] at q1
  cases q1
  rw [q4 hn, hn]
  exact .one (.st (ho.1 _ _ hS).srep)
theorem cloneA_N (l : List Tm) (hl : l.length ≤ 1000000) : ACallsN Tryz.prog 95 [aTms l] 61 2 (l.map encT) := by
 unfold ACallsN
 rw [List.length_map]
 refine ok_slices_Clone_metaprune_api_Term_metaprune_api_Term.acS fun hS C hC => ?_
 unfold ir_slices_Clone_metaprune_api_Term_metaprune_api_Term
 by_cases h0 : l.length = 0
 ·have hl : l = [] := List.eq_nil_of_length_eq_zero h0
  subst hl
  repeat' (first | (with_reducible first | refine W ?_ | refine Z0 ?_) | ((with_reducible first | refine Wo (fun K hK => ?_) | refine Wp ?_ | refine Wq ?_ | refine Wr ?_); (try simp only [go_sem, fN, seval, eT, iR, dT, dF, nL]); (repeat with_reducible refine Ai ?_); (try (refine hK _ ?_; clear hK K)); try with_reducible refine iC ?_))
  refine ⟨?_, ?_⟩
  ·repeat' (first | (with_reducible first | refine W ?_ | refine Z0 ?_) | ((with_reducible first | refine Wo (fun K hK => ?_) | refine Wp ?_ | refine Wq ?_ | refine Wr ?_); (try simp only [go_sem, fN, seval, eT, iR, dT, dF, nL]); (repeat with_reducible refine Ai ?_); (try (refine hK _ ?_; clear hK K)); try with_reducible refine iC ?_))
   refine finS_ghost (Ghost.own (C := C) 2 30 61 2 (xs := []) rfl rfl (by simp) (by omega)) ?_
   exact finN (mu := false) trivial 30 (by decide) rfl (fun i hi => by show updE _ _ _ _ = _; rw [updE_ne _ (by omega)]; rfl) rfl
  ·repeat' (first | (with_reducible first | refine W ?_ | refine Z0 ?_) | ((with_reducible first | refine Wo (fun K hK => ?_) | refine Wp ?_ | refine Wq ?_ | refine Wr ?_); (try simp only [go_sem, fN, seval, eT, iR, dT, dF, nL]); (repeat with_reducible refine Ai ?_); (try (refine hK _ ?_; clear hK K)); try with_reducible refine iC ?_))
   exact finN (mu := false) trivial 7 (by decide) rfl (fun i hi => by show updE _ _ _ _ = _; rw [updE_ne _ (by omega)]; rfl) rfl
 ·have hb : l.length * 40 ≤ 140737488355328 := by omega
  repeat' (first | (with_reducible first | refine W ?_ | refine Z0 ?_) | ((with_reducible first | refine Wo (fun K hK => ?_) | refine Wp ?_ | refine Wq ?_ | refine Wr ?_); (try simp only [go_sem, fN, seval, eT, iR, h0, hb, dT, dF, nL]); (repeat with_reducible refine Ai ?_); (try (refine hK _ ?_; clear hK K)); try with_reducible refine iC ?_))
  exact finN (mu := false) trivial 7 (by decide) rfl (fun i hi => by show updE _ _ _ _ = _; rw [updE_ne _ (by omega)]; rfl) rfl
structure Eqs (T : TypeId) (S : AStore) (a0 r : Nat) (m : List Pr × Nat) : Prop where
 ha : 1000 ≤ a0
 hr : 1000 ≤ r
 ne : a0 ≠ r
 box : S a0 = some (.box T [.row r m.1.length, .st (.int .i64 (m.2 : Int))])
 row : S r = some (.arow 91 4 (m.1.map encP))
def eqS (T : TypeId) (S : AStore) (a0 r : Nat) (m : List Pr × Nat) : AStore := updE (updE S a0 (some (.box T [.row r m.1.length, .st (.int .i64 (m.2 : Int))]))) r (some (.arow 91 4 (m.1.map encP)))
theorem eqs_up {T : TypeId} {S : AStore} {a0 r : Nat} {m : List Pr × Nat} (ha : 1000 ≤ a0) (hr : 1000 ≤ r) (hne : a0 ≠ r) (h1 : S a0 = some (.box T [.row r m.1.length, .st (.int .i64 (m.2 : Int))])) (h2 : S r = some (.arow 91 4 (m.1.map encP))) : Eqs T (upS S) (up1 a0) (up1 r) m :=
 ⟨up1_le _, up1_le _, fun e => hne (Nat.add_right_cancel e), by rw [upS_some h1]; rfl, by rw [upS_some h2]; rfl⟩
theorem eqs_end {C : Ctx} {rs : List RV} {r : AV} {e : AX} {s : AS} {T : TypeId} {S : AStore} {a0 r0 : Nat} {m m' : List Pr × Nat} (h : Eqs T S a0 r0 m) (rv : AV) (hS : Clean S) (he : match e with | .normal => True | .ret => True | _ => False)
  (h1 : (resAll s rs).map tupV = some rv) (h2 : outV s.S rv = some r) (h3 : s.S a0 = some (.box T [.row r0 m'.1.length, .st (.int .i64 (m'.2 : Int))])) (h3' : s.S r0 = some (.arow 91 4 (m'.1.map encP))) (h4 : ∀ i, 1000 ≤ i → i ≠ a0 → i ≠ r0 → s.S i = S i) : FinS C rs r (eqS T S a0 r0 m') e s :=
 finS_two rv hS h.ha h.hr (fun e => h.ne e.symm) (by simp only [ABlk.high, AC.highs, AC.high, decide_eq_true h.hr, Bool.and_self]) rfl he h1 h2 h3 h3' h4
theorem ty_v (i : Nat) (und : List Tm) (m : List Pr × Nat) {t : Tm} (h : und[und.length - 1 - i]? = some t) : (UL.v i).ty und m = (t, m) := by
 rw [UL.ty, List.getD_eq_getElem?_getD, h]
 rfl
set_option maxHeartbeats 8000000 in
theorem of_S (K : Nat) (hK : K ≤ 5000) (x : UL) : ∀ {und : List Tm} {m : List Pr × Nat} {a0 r : Nat} {S : AStore}, Eqs 116 S a0 r m → x.closed und.length → (∀ t ∈ und, inT m.2 t ∧ t.size = 1) → 2 * x.sz + 2 ≤ K → m.2 + x.sz < 800000 → m.1.length + x.sz ≤ 100000 → und.length + x.sz ≤ 100000 → TyOk K m →
  ACallsS Tryz.prog 78 [.one (.ptr a0 1 0 0), aLm x.lm, aTms und] S (aTm (x.ty und m).1) (eqS 116 S a0 r (x.ty und m).2) := by
 induction x with
 | v i =>
  intro und m a0 r S h hc hu hK hn hl1 hl2 hm
  have hc : i < und.length := hc
  obtain ⟨t, ht⟩ := get_lt (show und.length - 1 - i < und.length by omega)
  rw [ty_v i und m ht]
  have hbox := h.box
  have hrow := h.row
  have ha := h.ha
  have hr := h.hr
  have e1 : ((und.length : Int) - 1 - (i : Int)) = ((und.length - 1 - i : Nat) : Int) := by omega
  refine ok_metaprune_infer_maker_of.acS fun hS C hC => ?_
  have k4 : S 4 = none := clean_none hS (by omega)
  have k6 : S 6 = none := clean_none hS (by omega)
  unfold ir_metaprune_infer_maker_of
  repeat' (first | (with_reducible first | refine W ?_ | refine Z0 ?_) | ((with_reducible first | refine Wo (fun K hK => ?_) | refine Wp ?_ | refine Wq ?_ | refine Wr ?_); (try simp only [go_sem, fN, seval, eT, iR, k4, k6, e1, ht, dT, dF, nL]); (repeat with_reducible refine Ai ?_); (try (refine hK _ ?_; clear hK K)); try with_reducible refine iC ?_))
  have a4 : ¬ a0 = 4 := by omega
  have a6 : ¬ a0 = 6 := by omega
  have r4 : ¬ r = 4 := by omega
  have r6 : ¬ r = 6 := by omega
  refine eqs_end h (aTm t) hS trivial ?_ ?_ ?_ ?_ fun i hi i1 i2 => ?_
  ·simp only [go_sem, fN, seval, eT, iR, resAll, resOne, tupV]
  ·simp only [go_sem, fN, seval, eT, iR]
   try rfl
  ·simp only [go_sem, fN, seval, eT, iR, a4, a6, hbox]
  ·simp only [go_sem, fN, seval, eT, iR, r4, r6, hrow]
  ·have i4 : ¬ i = 4 := by omega
   have i6 : ¬ i = 6 := by omega
   simp only [go_sem, fN, seval, eT, iR, i4, i6]
 | l b ib =>
  intro und m a0 r S h hc hu hK hn hl1 hl2 hm
  have hbox := h.box
  have hrow := h.row
  have ha := h.ha
  have hr := h.hr
  have hne := h.ne
  have hne2 : ¬ r = a0 := fun e => hne e.symm
  simp only [UL.sz] at hK hn hl1 hl2
  have hv : inT (m.2 + 1) (tvar (m.2 + 1)) := inT_var (by omega) (by omega) (by omega)
  have hcN := cloneA_N und (by omega)
  refine ok_metaprune_infer_maker_of.acS fun hS C hC => ?_
  have k4 : S 4 = none := clean_none hS (by omega)
  have k6 : S 6 = none := clean_none hS (by omega)
  have k7 : S 7 = none := clean_none hS (by omega)
  have k35 : S 35 = none := clean_none hS (by omega)
  unfold ir_metaprune_infer_maker_of
  have a4 : ¬ a0 = 4 := by omega
  have a6 : ¬ a0 = 6 := by omega
  have a7 : ¬ a0 = 7 := by omega
  have a35 : ¬ a0 = 35 := by omega
  have r4 : ¬ r = 4 := by omega
  have r6 : ¬ r = 6 := by omega
  have r7 : ¬ r = 7 := by omega
  have r35 : ¬ r = 35 := by omega
  have b4 : ¬ 4 = a0 := by omega
  have b6 : ¬ 6 = a0 := by omega
  have b7 : ¬ 7 = a0 := by omega
  have b35 : ¬ 35 = a0 := by omega
  have c4 : ¬ 4 = r := by omega
  have c6 : ¬ 6 = r := by omega
  have c7 : ¬ 7 = r := by omega
  have c35 : ¬ 35 = r := by omega
  repeat' (first | (with_reducible first | refine W ?_ | refine Z0 ?_) | ((with_reducible first | refine Wo (fun K hK => ?_) | refine Wp ?_ | refine Wq ?_ | refine Wr ?_); (try simp only [go_sem, fN, seval, eT, iR, k4, k6, k7, dT, dF, nL]); (repeat with_reducible refine Ai ?_); (try (refine hK _ ?_; clear hK K)); try with_reducible refine iC ?_))
  refine ⟨_, _, fresh_S (n := m.2) (c := .row (up1 r) m.1.length) (up1_le a0) (high_row (up1_le r)) (by omega) (by rw [upS_up]; (simp only [go_sem, fN, seval, eT, iR, a4, a6, hbox])), ?_⟩
  repeat' (first | (with_reducible first | refine W ?_ | refine Z0 ?_) | ((with_reducible first | refine Wo (fun K hK => ?_) | refine Wp ?_ | refine Wq ?_ | refine Wr ?_); (try simp only [go_sem, fN, seval, eT, iR, k4, k6, k7, b4, b6, b7, b35, a4, a6, a7, k35, dT, dF, nL]); (repeat with_reducible refine Ai ?_); (try (refine hK _ ?_; clear hK K)); try with_reducible refine iC ?_))
  refine ⟨_, _, _, _, hcN, by simp only [go_sem, fN, seval, eT, iR, b35, k35], ?_⟩
  have hl1000 : und.length + 1 ≤ maxLen := by rw [maxLen_eq]; omega
  repeat' (first | (with_reducible first | refine W ?_ | refine Z0 ?_) | ((with_reducible first | refine Wo (fun K hK => ?_) | refine Wp ?_ | refine Wq ?_ | refine Wr ?_); (try simp only [go_sem, fN, seval, eT, iR, k4, k6, k7, b4, b6, b7, b35, a4, a6, a7, a35, k35, hl1000, dT, dF, nL]); (repeat with_reducible refine Ai ?_); (try (refine hK _ ?_; clear hK K)); try with_reducible refine iC ?_))
  refine ⟨_, _, acallsS_told (e := 61) (wd := 2) (xs := (und ++ [tvar (m.2 + 1)]).map encT) (by rw [upS_up]; (simp only [go_sem, fN, seval, eT, iR, b35, k35, List.map_append, List.map_cons, List.map_nil]; try rfl)) (by simp) (ib (und := und ++ [tvar (m.2 + 1)]) (m := (m.1, m.2 + 1)) (a0 := up1 a0) (r := up1 r) (eqs_up ha hr hne (by simp only [go_sem, fN, seval, eT, iR, a4, a6, a7, a35, hbox]) (by simp only [go_sem, fN, seval, eT, iR, r4, r6, r7, r35, hne2, hrow])) (by rw [List.length_append]; exact hc) (fun t ht => by
   rcases List.mem_append.1 ht with ht | ht
   ·exact ⟨(hu t ht).1.more (by simp), (hu t ht).2⟩
   ·rw [List.mem_singleton] at ht
    subst ht
    exact ⟨hv, rfl⟩) (by omega) (by show m.2 + 1 + b.sz < _; omega) (by show m.1.length + b.sz ≤ _; omega) (by rw [List.length_append, List.length_singleton]; omega) (TyOk.more (m := m.2) hm (by omega))), ?_⟩
  repeat' (first | (with_reducible first | refine W ?_ | refine Z0 ?_) | refine Cg _ (arrow_a _ _) ?_ | ((with_reducible first | refine Wo (fun K hK => ?_) | refine Wp ?_ | refine Wq ?_ | refine Wr ?_); (try simp only [go_sem, fN, seval, eT, iR, eqS, k4, k6, k7, b4, b6, b7, b35, a4, a6, a7, k35, c4, c6, c7, dT, dF, nL]); (repeat with_reducible refine Ai ?_); (try (refine hK _ ?_; clear hK K)); try with_reducible refine iC ?_))
  show FinS _ _ (aTm (arrT (tvar (m.2 + 1)) (b.ty (und ++ [tvar (m.2 + 1)]) (m.1, m.2 + 1)).1)) (eqS 116 S a0 r (b.ty (und ++ [tvar (m.2 + 1)]) (m.1, m.2 + 1)).2) _ _
  refine eqs_end h (aTm (arrT (tvar (m.2 + 1)) (b.ty (und ++ [tvar (m.2 + 1)]) (m.1, m.2 + 1)).1)) hS trivial ?_ ?_ ?_ ?_ fun i hi i1 i2 => ?_
  ·simp only [go_sem, fN, seval, eT, iR, resAll, resOne, tupV, b6, c6]
  ·simp only [go_sem, fN, seval, eT, iR]
   try rfl
  ·simp only [go_sem, fN, seval, eT, iR, a4, a6, a7, a35, hne]
  ·simp only [go_sem, fN, seval, eT, iR, r4, r6, r7, r35]
  ·have i4 : ¬ i = 4 := by omega
   have i6 : ¬ i = 6 := by omega
   have i7 : ¬ i = 7 := by omega
   have i35 : ¬ i = 35 := by omega
   simp only [go_sem, fN, seval, eT, iR, i1, i2, i4, i6, i7, i35]
 | a f x jf jx =>
  intro und m a0 r S h hc hu hK hn hl1 hl2 hm
  have hbox := h.box
  have hrow := h.row
  have ha := h.ha
  have hr := h.hr
  have hne := h.ne
  have hne2 : ¬ r = a0 := fun e => hne e.symm
  simp only [UL.sz] at hK hn hl1 hl2
  obtain ⟨h1, h2, h3, h4, h5, h6⟩ := ty_ok K f und m hc.1 hu (by omega) (by omega) hm
  obtain ⟨j1, j2, j3, j4, j5, j6⟩ := ty_ok K x und (f.ty und m).2 hc.2 (fun t ht => ⟨(hu t ht).1.more h2, (hu t ht).2⟩) (by omega) (by omega) h1
  refine ok_metaprune_infer_maker_of.acS fun hS C hC => ?_
  have k4 : S 4 = none := clean_none hS (by omega)
  have k6 : S 6 = none := clean_none hS (by omega)
  have k8 : S 8 = none := clean_none hS (by omega)
  have k9 : S 9 = none := clean_none hS (by omega)
  have k10 : S 10 = none := clean_none hS (by omega)
  unfold ir_metaprune_infer_maker_of
  have a4 : ¬ a0 = 4 := by omega
  have a6 : ¬ a0 = 6 := by omega
  have a8 : ¬ a0 = 8 := by omega
  have a9 : ¬ a0 = 9 := by omega
  have a10 : ¬ a0 = 10 := by omega
  have r4 : ¬ r = 4 := by omega
  have r6 : ¬ r = 6 := by omega
  have r8 : ¬ r = 8 := by omega
  have r9 : ¬ r = 9 := by omega
  have r10 : ¬ r = 10 := by omega
  have b4 : ¬ 4 = a0 := by omega
  have b6 : ¬ 6 = a0 := by omega
  have b8 : ¬ 8 = a0 := by omega
  have b9 : ¬ 9 = a0 := by omega
  have b10 : ¬ 10 = a0 := by omega
  have c4 : ¬ 4 = r := by omega
  have c6 : ¬ 6 = r := by omega
  have c8 : ¬ 8 = r := by omega
  have c9 : ¬ 9 = r := by omega
  have c10 : ¬ 10 = r := by omega
  repeat' (first | (with_reducible first | refine W ?_ | refine Z0 ?_) | ((with_reducible first | refine Wo (fun K hK => ?_) | refine Wp ?_ | refine Wq ?_ | refine Wr ?_); (try simp only [go_sem, fN, seval, eT, iR, k4, k6, dT, dF, nL]); (repeat with_reducible refine Ai ?_); (try (refine hK _ ?_; clear hK K)); try with_reducible refine iC ?_))
  refine ⟨_, _, jf (und := und) (m := m) (a0 := up1 a0) (r := up1 r) (eqs_up ha hr hne (by simp only [go_sem, fN, seval, eT, iR, a4, a6, hbox]) (by simp only [go_sem, fN, seval, eT, iR, r4, r6, hrow])) hc.1 hu (by omega) (by omega) (by omega) (by omega) hm, ?_⟩
  generalize hm1 : (f.ty und m) = m1 at *
  repeat' (first | (with_reducible first | refine W ?_ | refine Z0 ?_) | ((with_reducible first | refine Wo (fun K hK => ?_) | refine Wp ?_ | refine Wq ?_ | refine Wr ?_); (try simp only [go_sem, fN, seval, eT, iR, eqS, k4, k6, k8, b4, b6, b8, a4, a6, c4, c6, c8, dT, dF, nL]); (repeat with_reducible refine Ai ?_); (try (refine hK _ ?_; clear hK K)); try with_reducible refine iC ?_))
  refine ⟨_, _, jx (und := und) (m := m1.2) (a0 := up1 a0) (r := up1 r) (eqs_up ha hr hne (by simp only [go_sem, fN, seval, eT, iR, a4, a6, a8, hne]) (by simp only [go_sem, fN, seval, eT, iR, r4, r6, r8])) hc.2 (fun t ht => ⟨(hu t ht).1.more h2, (hu t ht).2⟩) (by omega) (by omega) (by omega) (by omega) h1, ?_⟩
  generalize hm2 : (x.ty und m1.2) = m2 at *
  repeat' (first | (with_reducible first | refine W ?_ | refine Z0 ?_) | ((with_reducible first | refine Wo (fun K hK => ?_) | refine Wp ?_ | refine Wq ?_ | refine Wr ?_); (try simp only [go_sem, fN, seval, eT, iR, eqS, k4, k6, k8, k9, b4, b6, b8, b9, a4, a6, a8, c4, c6, c8, c9, dT, dF, nL]); (repeat with_reducible refine Ai ?_); (try (refine hK _ ?_; clear hK K)); try with_reducible refine iC ?_))
  refine ⟨_, _, fresh_S (n := m2.2.2) (c := .row (up1 r) m2.2.1.length) (up1_le a0) (high_row (up1_le r)) (by omega) (by rw [upS_up]; (simp only [go_sem, fN, seval, eT, iR, a4, a6, a8, a9, hne])), ?_⟩
  have hx1 : m2.2.1.length + 1 ≤ maxLen := by rw [maxLen_eq]; omega
  repeat' (first | (with_reducible first | refine W ?_ | refine Z0 ?_) | refine Cg _ (arrow_a _ _) ?_ | ((with_reducible first | refine Wo (fun K hK => ?_) | refine Wp ?_ | refine Wq ?_ | refine Wr ?_); (try simp only [go_sem, fN, seval, eT, iR, k4, k6, k8, k9, k10, b4, b6, b8, b9, b10, a4, a6, a8, a9, hne, hne2, c4, c6, c8, c9, c10, a10, r4, r6, r8, r9, r10, hx1, dT, dF, nL]); (repeat with_reducible refine Ai ?_); (try (refine hK _ ?_; clear hK K)); try with_reducible refine iC ?_))
  have hty : (UL.a f x).ty und m = (tvar (m2.2.2 + 1), (m2.2.1 ++ [(m1.1, arrT m2.1 (tvar (m2.2.2 + 1)))], m2.2.2 + 1)) := by rw [UL.ty, hm1, hm2]
  rw [hty]
  refine eqs_end h (aTm (tvar (m2.2.2 + 1))) hS trivial ?_ ?_ ?_ ?_ fun i hi i1 i2 => ?_
  ·simp only [go_sem, fN, seval, eT, iR, resAll, resOne, tupV, b6, c6]
  ·simp only [go_sem, fN, seval, eT, iR]
   try rfl
  ·simp only [go_sem, fN, seval, eT, iR, a4, a6, a8, a9, a10, hne]
   try simp
  ·simp only [go_sem, fN, seval, eT, iR, r4, r6, r8, r9, r10, hne2]
   try simp [encP]
  ·have i4 : ¬ i = 4 := by omega
   have i6 : ¬ i = 6 := by omega
   have i8 : ¬ i = 8 := by omega
   have i9 : ¬ i = 9 := by omega
   have i10 : ¬ i = 10 := by omega
   simp only [go_sem, fN, seval, eT, iR, i1, i2, i4, i6, i8, i9, i10]
set_option maxHeartbeats 8000000 in
theorem ofR_S (K : Nat) (hK : K ≤ 5000) (x : UL) : ∀ {und : List Tm} {m : List Pr × Nat} {a0 r : Nat} {S : AStore}, Eqs 58 S a0 r m → x.closed und.length → (∀ t ∈ und, inT m.2 t ∧ t.size = 1) → 2 * x.sz + 2 ≤ K → m.2 + x.sz < 800000 → m.1.length + x.sz ≤ 100000 → und.length + x.sz ≤ 100000 → TyOk K m →
  ACallsS Tryz.prog 24 [.one (.ptr a0 1 0 0), aLm x.lm, aTms und] S (aTm (x.ty und m).1) (eqS 58 S a0 r (x.ty und m).2) := by
 induction x with
 | v i =>
  intro und m a0 r S h hc hu hK hn hl1 hl2 hm
  have hc : i < und.length := hc
  obtain ⟨t, ht⟩ := get_lt (show und.length - 1 - i < und.length by omega)
  rw [ty_v i und m ht]
  have hbox := h.box
  have hrow := h.row
  have ha := h.ha
  have hr := h.hr
  have e1 : ((und.length : Int) - 1 - (i : Int)) = ((und.length - 1 - i : Nat) : Int) := by omega
  refine ok_metaprune_R_typing_of.acS fun hS C hC => ?_
  have k4 : S 4 = none := clean_none hS (by omega)
  have k6 : S 6 = none := clean_none hS (by omega)
  unfold ir_metaprune_R_typing_of
  repeat' (first | (with_reducible first | refine W ?_ | refine Z0 ?_) | ((with_reducible first | refine Wo (fun K hK => ?_) | refine Wp ?_ | refine Wq ?_ | refine Wr ?_); (try simp only [go_sem, fN, seval, eT, iR, k4, k6, e1, ht, dT, dF, nL]); (repeat with_reducible refine Ai ?_); (try (refine hK _ ?_; clear hK K)); try with_reducible refine iC ?_))
  have a4 : ¬ a0 = 4 := by omega
  have a6 : ¬ a0 = 6 := by omega
  have r4 : ¬ r = 4 := by omega
  have r6 : ¬ r = 6 := by omega
  refine eqs_end h (aTm t) hS trivial ?_ ?_ ?_ ?_ fun i hi i1 i2 => ?_
  ·simp only [go_sem, fN, seval, eT, iR, resAll, resOne, tupV]
  ·simp only [go_sem, fN, seval, eT, iR]
   try rfl
  ·simp only [go_sem, fN, seval, eT, iR, a4, a6, hbox]
  ·simp only [go_sem, fN, seval, eT, iR, r4, r6, hrow]
  ·have i4 : ¬ i = 4 := by omega
   have i6 : ¬ i = 6 := by omega
   simp only [go_sem, fN, seval, eT, iR, i4, i6]
 | l b ib =>
  intro und m a0 r S h hc hu hK hn hl1 hl2 hm
  have hbox := h.box
  have hrow := h.row
  have ha := h.ha
  have hr := h.hr
  have hne := h.ne
  have hne2 : ¬ r = a0 := fun e => hne e.symm
  simp only [UL.sz] at hK hn hl1 hl2
  have hv : inT (m.2 + 1) (tvar (m.2 + 1)) := inT_var (by omega) (by omega) (by omega)
  refine ok_metaprune_R_typing_of.acS fun hS C hC => ?_
  have k4 : S 4 = none := clean_none hS (by omega)
  have k6 : S 6 = none := clean_none hS (by omega)
  have k7 : S 7 = none := clean_none hS (by omega)
  have k8 : S 8 = none := clean_none hS (by omega)
  have k36 : S 36 = none := clean_none hS (by omega)
  unfold ir_metaprune_R_typing_of
  have a4 : ¬ a0 = 4 := by omega
  have a6 : ¬ a0 = 6 := by omega
  have a7 : ¬ a0 = 7 := by omega
  have a8 : ¬ a0 = 8 := by omega
  have a36 : ¬ a0 = 36 := by omega
  have r4 : ¬ r = 4 := by omega
  have r6 : ¬ r = 6 := by omega
  have r7 : ¬ r = 7 := by omega
  have r8 : ¬ r = 8 := by omega
  have r36 : ¬ r = 36 := by omega
  have b4 : ¬ 4 = a0 := by omega
  have b6 : ¬ 6 = a0 := by omega
  have b7 : ¬ 7 = a0 := by omega
  have b8 : ¬ 8 = a0 := by omega
  have b36 : ¬ 36 = a0 := by omega
  have c4 : ¬ 4 = r := by omega
  have c6 : ¬ 6 = r := by omega
  have c7 : ¬ 7 = r := by omega
  have c8 : ¬ 8 = r := by omega
  have c36 : ¬ 36 = r := by omega
  repeat' (first | (with_reducible first | refine W ?_ | refine Z0 ?_) | ((with_reducible first | refine Wo (fun K hK => ?_) | refine Wp ?_ | refine Wq ?_ | refine Wr ?_); (try simp only [go_sem, fN, seval, eT, iR, k4, k6, k7, dT, dF, nL]); (repeat with_reducible refine Ai ?_); (try (refine hK _ ?_; clear hK K)); try with_reducible refine iC ?_))
  refine ⟨_, _, freshR_S (n := m.2) (c := .row (up1 r) m.1.length) (up1_le a0) (high_row (up1_le r)) (by omega) (by rw [upS_up]; (simp only [go_sem, fN, seval, eT, iR, a4, a6, hbox])), ?_⟩
  have hl999 : und.length ≤ maxLen := by rw [maxLen_eq]; omega
  have hl1000 : und.length + 1 ≤ maxLen := by rw [maxLen_eq]; omega
  repeat' (first | (with_reducible first | refine W ?_ | refine Z0 ?_) | ((with_reducible first | refine Wo (fun K hK => ?_) | refine Wp ?_ | refine Wq ?_ | refine Wr ?_); (try simp only [go_sem, fN, seval, eT, iR, k4, k6, k7, b4, b6, b7, b36, a4, a6, a7, a36, k36, hl999, hl1000, List.nil_append, dT, dF, nL]); (repeat with_reducible refine Ai ?_); (try (refine hK _ ?_; clear hK K)); try with_reducible refine iC ?_))
  refine ⟨aTm (b.ty (und ++ [tvar (m.2 + 1)]) (m.1, m.2 + 1)).1, [(36, .arow 61 2 ((und ++ [tvar (m.2 + 1)]).map encT), .arow 61 2 ((und ++ [tvar (m.2 + 1)]).map encT)), (a0, .box 58 [.row r m.1.length, .st (.int .i64 ((m.2 + 1 : Nat) : Int))], .box 58 [.row r (b.ty (und ++ [tvar (m.2 + 1)]) (m.1, m.2 + 1)).2.1.length, .st (.int .i64 ((b.ty (und ++ [tvar (m.2 + 1)]) (m.1, m.2 + 1)).2.2 : Int))]), (r, .arow 91 4 (m.1.map encP), .arow 91 4 ((b.ty (und ++ [tvar (m.2 + 1)]) (m.1, m.2 + 1)).2.1.map encP))], ?_, fun T hT => ?_, ?_⟩
  ·intro q hq
   simp only [List.mem_cons, List.not_mem_nil, or_false] at hq
   rcases hq with rfl | rfl | rfl
   ·simp only [go_sem, fN, seval, eT, iR, b36, k36, List.map_append, List.map_cons, List.map_nil]
    try rfl
   ·simp only [go_sem, fN, seval, eT, iR, a4, a6, a7, a36, hbox]
    try rfl
   ·simp only [go_sem, fN, seval, eT, iR, r4, r6, r7, r36, hne2, hrow]
  ·have t36 : T 36 = some (.arow 61 2 ((und ++ [tvar (m.2 + 1)]).map encT)) := hT (36, _, _) List.mem_cons_self
   have ta : T a0 = some (.box 58 [.row r m.1.length, .st (.int .i64 ((m.2 + 1 : Nat) : Int))]) := hT (a0, _, _) (List.mem_cons_of_mem _ List.mem_cons_self)
   have tr : T r = some (.arow 91 4 (m.1.map encP)) := hT (r, _, _) (List.mem_cons_of_mem _ (List.mem_cons_of_mem _ List.mem_cons_self))
   have hsame : updE T 36 (some (.arow 61 2 ((und ++ [tvar (m.2 + 1)]).map encT))) = T := by
    funext k
    unfold updE
    split
    ·rename_i e; rw [e, t36]
    ·rfl
   show ACallsS _ _ _ _ _ (upS (updE (updE (updE T 36 _) a0 (some _)) r (some _)))
   rw [hsame, upS_set, upS_set]
   exact acallsS_told (e := 61) (wd := 2) (xs := (und ++ [tvar (m.2 + 1)]).map encT) (by rw [upS_some t36]; rfl) (by simp) (ib (und := und ++ [tvar (m.2 + 1)]) (m := (m.1, m.2 + 1)) (a0 := up1 a0) (r := up1 r) (eqs_up ha hr hne ta tr) (by rw [List.length_append]; exact hc) (fun t ht => by
   rcases List.mem_append.1 ht with ht | ht
   ·exact ⟨(hu t ht).1.more (by simp), (hu t ht).2⟩
   ·rw [List.mem_singleton] at ht
    subst ht
    exact ⟨hv, rfl⟩) (by omega) (by show m.2 + 1 + b.sz < _; omega) (by show m.1.length + b.sz ≤ _; omega) (by rw [List.length_append, List.length_singleton]; omega) (TyOk.more (m := m.2) hm (by omega)))
  repeat' (first | (with_reducible first | refine W ?_ | refine Z0 ?_) | refine Cg _ (arrowR_a _ _) ?_ | ((with_reducible first | refine Wo (fun K hK => ?_) | refine Wp ?_ | refine Wq ?_ | refine Wr ?_); (try simp only [go_sem, fN, seval, eT, iR, k4, k6, k7, k8, b4, b6, b7, b8, b36, a4, a6, a7, k36, c4, c6, c7, c8, dT, dF, nL]); (repeat with_reducible refine Ai ?_); (try (refine hK _ ?_; clear hK K)); try with_reducible refine iC ?_))
  show FinS _ _ (aTm (arrT (tvar (m.2 + 1)) (b.ty (und ++ [tvar (m.2 + 1)]) (m.1, m.2 + 1)).1)) (eqS 58 S a0 r (b.ty (und ++ [tvar (m.2 + 1)]) (m.1, m.2 + 1)).2) _ _
  refine eqs_end h (aTm (arrT (tvar (m.2 + 1)) (b.ty (und ++ [tvar (m.2 + 1)]) (m.1, m.2 + 1)).1)) hS trivial ?_ ?_ ?_ ?_ fun i hi i1 i2 => ?_
  ·simp only [go_sem, fN, seval, eT, iR, resAll, resOne, tupV, b6, c6]
  ·simp only [go_sem, fN, seval, eT, iR]
   try rfl
  ·simp only [go_sem, fN, seval, eT, iR, a4, a6, a7, a8, a36, hne]
  ·simp only [go_sem, fN, seval, eT, iR, r4, r6, r7, r8, r36]
  ·have i4 : ¬ i = 4 := by omega
   have i6 : ¬ i = 6 := by omega
   have i7 : ¬ i = 7 := by omega
   have i8 : ¬ i = 8 := by omega
   have i36 : ¬ i = 36 := by omega
   simp only [go_sem, fN, seval, eT, iR, i1, i2, i4, i6, i7, i8, i36]
 | a f x jf jx =>
  intro und m a0 r S h hc hu hK hn hl1 hl2 hm
  have hbox := h.box
  have hrow := h.row
  have ha := h.ha
  have hr := h.hr
  have hne := h.ne
  have hne2 : ¬ r = a0 := fun e => hne e.symm
  simp only [UL.sz] at hK hn hl1 hl2
  obtain ⟨h1, h2, h3, h4, h5, h6⟩ := ty_ok K f und m hc.1 hu (by omega) (by omega) hm
  obtain ⟨j1, j2, j3, j4, j5, j6⟩ := ty_ok K x und (f.ty und m).2 hc.2 (fun t ht => ⟨(hu t ht).1.more h2, (hu t ht).2⟩) (by omega) (by omega) h1
  refine ok_metaprune_R_typing_of.acS fun hS C hC => ?_
  have k4 : S 4 = none := clean_none hS (by omega)
  have k6 : S 6 = none := clean_none hS (by omega)
  have k9 : S 9 = none := clean_none hS (by omega)
  have k10 : S 10 = none := clean_none hS (by omega)
  have k11 : S 11 = none := clean_none hS (by omega)
  unfold ir_metaprune_R_typing_of
  have a4 : ¬ a0 = 4 := by omega
  have a6 : ¬ a0 = 6 := by omega
  have a9 : ¬ a0 = 9 := by omega
  have a10 : ¬ a0 = 10 := by omega
  have a11 : ¬ a0 = 11 := by omega
  have r4 : ¬ r = 4 := by omega
  have r6 : ¬ r = 6 := by omega
  have r9 : ¬ r = 9 := by omega
  have r10 : ¬ r = 10 := by omega
  have r11 : ¬ r = 11 := by omega
  have b4 : ¬ 4 = a0 := by omega
  have b6 : ¬ 6 = a0 := by omega
  have b9 : ¬ 9 = a0 := by omega
  have b10 : ¬ 10 = a0 := by omega
  have b11 : ¬ 11 = a0 := by omega
  have c4 : ¬ 4 = r := by omega
  have c6 : ¬ 6 = r := by omega
  have c9 : ¬ 9 = r := by omega
  have c10 : ¬ 10 = r := by omega
  have c11 : ¬ 11 = r := by omega
  repeat' (first | (with_reducible first | refine W ?_ | refine Z0 ?_) | ((with_reducible first | refine Wo (fun K hK => ?_) | refine Wp ?_ | refine Wq ?_ | refine Wr ?_); (try simp only [go_sem, fN, seval, eT, iR, k4, k6, dT, dF, nL]); (repeat with_reducible refine Ai ?_); (try (refine hK _ ?_; clear hK K)); try with_reducible refine iC ?_))
  refine ⟨_, _, jf (und := und) (m := m) (a0 := up1 a0) (r := up1 r) (eqs_up ha hr hne (by simp only [go_sem, fN, seval, eT, iR, a4, a6, hbox]) (by simp only [go_sem, fN, seval, eT, iR, r4, r6, hrow])) hc.1 hu (by omega) (by omega) (by omega) (by omega) hm, ?_⟩
  generalize hm1 : (f.ty und m) = m1 at *
  repeat' (first | (with_reducible first | refine W ?_ | refine Z0 ?_) | ((with_reducible first | refine Wo (fun K hK => ?_) | refine Wp ?_ | refine Wq ?_ | refine Wr ?_); (try simp only [go_sem, fN, seval, eT, iR, eqS, k4, k6, k9, b4, b6, b9, a4, a6, c4, c6, c9, dT, dF, nL]); (repeat with_reducible refine Ai ?_); (try (refine hK _ ?_; clear hK K)); try with_reducible refine iC ?_))
  refine ⟨_, _, jx (und := und) (m := m1.2) (a0 := up1 a0) (r := up1 r) (eqs_up ha hr hne (by simp only [go_sem, fN, seval, eT, iR, a4, a6, a9, hne]) (by simp only [go_sem, fN, seval, eT, iR, r4, r6, r9])) hc.2 (fun t ht => ⟨(hu t ht).1.more h2, (hu t ht).2⟩) (by omega) (by omega) (by omega) (by omega) h1, ?_⟩
  generalize hm2 : (x.ty und m1.2) = m2 at *
  repeat' (first | (with_reducible first | refine W ?_ | refine Z0 ?_) | ((with_reducible first | refine Wo (fun K hK => ?_) | refine Wp ?_ | refine Wq ?_ | refine Wr ?_); (try simp only [go_sem, fN, seval, eT, iR, eqS, k4, k6, k9, k10, b4, b6, b9, b10, a4, a6, a9, c4, c6, c9, c10, dT, dF, nL]); (repeat with_reducible refine Ai ?_); (try (refine hK _ ?_; clear hK K)); try with_reducible refine iC ?_))
  refine ⟨_, _, freshR_S (n := m2.2.2) (c := .row (up1 r) m2.2.1.length) (up1_le a0) (high_row (up1_le r)) (by omega) (by rw [upS_up]; (simp only [go_sem, fN, seval, eT, iR, a4, a6, a9, a10, hne])), ?_⟩
  have hx1 : m2.2.1.length + 1 ≤ maxLen := by rw [maxLen_eq]; omega
  repeat' (first | (with_reducible first | refine W ?_ | refine Z0 ?_) | refine Cg _ (arrowR_a _ _) ?_ | ((with_reducible first | refine Wo (fun K hK => ?_) | refine Wp ?_ | refine Wq ?_ | refine Wr ?_); (try simp only [go_sem, fN, seval, eT, iR, k4, k6, k9, k10, k11, b4, b6, b9, b10, b11, a4, a6, a9, a10, hne, hne2, c4, c6, c9, c10, c11, a11, r4, r6, r9, r10, r11, hx1, dT, dF, nL]); (repeat with_reducible refine Ai ?_); (try (refine hK _ ?_; clear hK K)); try with_reducible refine iC ?_))
  have hty : (UL.a f x).ty und m = (tvar (m2.2.2 + 1), (m2.2.1 ++ [(m1.1, arrT m2.1 (tvar (m2.2.2 + 1)))], m2.2.2 + 1)) := by rw [UL.ty, hm1, hm2]
  rw [hty]
  refine eqs_end h (aTm (tvar (m2.2.2 + 1))) hS trivial ?_ ?_ ?_ ?_ fun i hi i1 i2 => ?_
  ·simp only [go_sem, fN, seval, eT, iR, resAll, resOne, tupV, b6, c6]
  ·simp only [go_sem, fN, seval, eT, iR]
   try rfl
  ·simp only [go_sem, fN, seval, eT, iR, a4, a6, a9, a10, a11, hne]
   try simp
  ·simp only [go_sem, fN, seval, eT, iR, r4, r6, r9, r10, r11, hne2]
   try simp [encP]
  ·have i4 : ¬ i = 4 := by omega
   have i6 : ¬ i = 6 := by omega
   have i9 : ¬ i = 9 := by omega
   have i10 : ¬ i = 10 := by omega
   have i11 : ¬ i = 11 := by omega
   simp only [go_sem, fN, seval, eT, iR, i1, i2, i4, i6, i9, i10, i11]

def entI (k : Nat) : List ByteArray → List (KV × AV)
 | [] => []
 | n :: l => (.s n, aInt k) :: entI (k + 1) l
abbrev mapI (l : List ByteArray) : ABlk := .map none (entI 0 l)
theorem entI_len : ∀ (l : List ByteArray) (k : Nat), (entI k l).length = l.length
 | [], _ => rfl
 | n :: l, k => by rw [entI, List.length_cons, List.length_cons, entI_len l]
theorem mGet_entI : ∀ (l : List ByteArray) (k : Nat) (n : ByteArray), mGet (entI k l) (.s n) = if posN l n < l.length then some (aInt ((k + posN l n : Nat) : Int)) else none
 | [], k, n => by simp [entI, mGet, posN]
 | x :: l, k, n => by
  rw [entI, mGet, posN]
  by_cases e : x = n
  ·rw [if_pos (congrArg KV.s e), if_pos e]
   simp
  ·rw [if_neg (fun h => e (KV.s.inj h)), if_neg e, mGet_entI l (k + 1) n, List.length_cons]
   by_cases h : posN l n < l.length
   ·rw [if_pos h, if_pos (by omega), show k + 1 + posN l n = k + (posN l n + 1) by omega]
   ·rw [if_neg h, if_neg (by omega)]
theorem mPut_entI : ∀ {l : List ByteArray} {k : Nat} {n : ByteArray}, ¬ posN l n < l.length → ∀ v, mPut (entI k l) (.s n) v = entI k l ++ [(.s n, v)]
 | [], k, n, h, v => rfl
 | x :: l, k, n, h, v => by
  rw [posN] at h
  by_cases e : x = n
  ·rw [if_pos e] at h; simp at h
  ·rw [if_neg e] at h
   rw [entI, mPut, if_neg (fun h => e (KV.s.inj h)), mPut_entI (by simpa using h), List.cons_append]
theorem entI_snoc : ∀ (l : List ByteArray) (k : Nat) (n : ByteArray), entI k (l ++ [n]) = entI k l ++ [(.s n, aInt ((k + l.length : Nat) : Int))]
 | [], k, n => by simp [entI]
 | x :: l, k, n => by
  rw [List.cons_append, entI, entI_snoc l (k + 1) n, entI, List.cons_append, List.length_cons, show k + 1 + l.length = k + (l.length + 1) by omega]
theorem lookI_in {l : List ByteArray} {n : ByteArray} (ok : Bool) (h : posN l n < l.length) : lookA ok (aInt 0) (mGet (entI 0 l) (.s n)) = if ok then .tup [aInt (posN l n), aBool true] else aInt (posN l n) := by
 rw [mGet_entI, if_pos h, Nat.zero_add]
 rfl
theorem lookI_out {l : List ByteArray} {n : ByteArray} (ok : Bool) (h : ¬ posN l n < l.length) : lookA ok (aInt 0) (mGet (entI 0 l) (.s n)) = if ok then .tup [aInt 0, aBool false] else aInt 0 := by
 rw [mGet_entI, if_neg h]
 rfl
theorem putI_out {l : List ByteArray} {n : ByteArray} (h : ¬ posN l n < l.length) : mPut (entI 0 l) (.s n) (aInt l.length) = entI 0 (addN l n) := by
 rw [mPut_entI h, show addN l n = l ++ [n] by unfold addN; rw [if_neg h], entI_snoc, Nat.zero_add]
theorem back_S {t : Tm} (ht : TT t) : ∀ {l : List ByteArray} {a0 : Nat} {S : AStore}, 1000 ≤ a0 → l.length + t.size ≤ 1000000 → S a0 = some (mapI l) →
  ACallsS Tryz.prog 81 [aTm t, .one (.mptr a0)] S (aTy (t.bk l).1.ty) (updE S a0 (some (mapI (t.bk l).2))) := by
 induction ht with
 | @v n h1 h2 =>
  intro l a0 S ha hl hSa
  rw [bk_leaf]
  have hel := entI_len l 0
  have hlm : l.length ≤ maxLen := by rw [maxLen_eq]; simp only [Tm.size] at hl; omega
  have a2 : ¬ a0 = 2 := by omega
  have a4 : ¬ a0 = 4 := by omega
  have b2 : ¬ 2 = a0 := by omega
  have b4 : ¬ 4 = a0 := by omega
  refine ok_infer_back.acS fun hS C hC => ?_
  have k2 : S 2 = none := clean_none hS (by omega)
  have k4 : S 4 = none := clean_none hS (by omega)
  unfold ir_infer_back
  by_cases hp : posN l n < l.length
  ·have hadd : addN l n = l := by unfold addN; rw [if_pos hp]
   rw [hadd]
   have q1 := lookI_in true hp
   have q2 := lookI_in false hp
   repeat' (first | (with_reducible first | refine W ?_ | refine Z0 ?_) | ((with_reducible first | refine Wo (fun K hK => ?_) | refine Wp ?_ | refine Wq ?_ | refine Wr ?_); (try simp only [go_sem, fN, seval, eT, iR, k2, k4, a2, a4, b2, b4, hSa, mapOf, keyOf, KV.of, q1, q2, dT, dF, nL]); (repeat with_reducible refine Ai ?_); (try (refine hK _ ?_; clear hK K)); try with_reducible refine iC ?_))
   refine finS_one (.agg [.st (.int .i64 (posN l n : Int)), .full []]) hS ha rfl trivial ?_ ?_ ?_ fun i hi hne => ?_
   ·simp only [go_sem, fN, seval, eT, iR, resAll, resOne, tupV]
   ·simp only [go_sem, fN, seval, eT, iR]
    rfl
   ·simp only [go_sem, fN, seval, eT, iR, a2, a4, hSa]
   ·have i2 : ¬ i = 2 := by omega
    have i4 : ¬ i = 4 := by omega
    simp only [go_sem, fN, seval, eT, iR, i2, i4]
  ·have hpn : posN l n = l.length := by have := posN_le l n; omega
   have hp2 : posN (addN l n) n < (addN l n).length := by
    unfold addN
    rw [if_neg hp, posN_snoc hp, List.length_append, List.length_singleton]
    omega
   have hp3 : posN (addN l n) n = l.length := by
    unfold addN
    rw [if_neg hp, posN_snoc hp]
   have q1 := lookI_out true hp
   have q2 := lookI_in false hp2
   rw [hp3] at q2
   have q3 := putI_out hp
   repeat' (first | (with_reducible first | refine W ?_ | refine Z0 ?_) | ((with_reducible first | refine Wo (fun K hK => ?_) | refine Wp ?_ | refine Wq ?_ | refine Wr ?_); (try simp only [go_sem, fN, seval, eT, iR, k2, k4, a2, a4, b2, b4, hSa, mapOf, keyOf, KV.of, q1, q2, q3, hel, hlm, dT, dF, nL]); (repeat with_reducible refine Ai ?_); (try (refine hK _ ?_; clear hK K)); try with_reducible refine iC ?_))
   rw [hpn]
   refine finS_one (.agg [.st (.int .i64 (l.length : Int)), .full []]) hS ha rfl trivial ?_ ?_ ?_ fun i hi hne => ?_
   ·simp only [go_sem, fN, seval, eT, iR, resAll, resOne, tupV, a2, a4, b2, b4]
   ·simp only [go_sem, fN, seval, eT, iR]
    rfl
   ·simp only [go_sem, fN, seval, eT, iR, a2, a4, hSa]
   ·have i2 : ¬ i = 2 := by omega
    have i4 : ¬ i = 4 := by omega
    simp only [go_sem, fN, seval, eT, iR, i2, i4, hne]
 | @f x y tx ty ix iy =>
  intro l a0 S ha hl hSa
  rw [bk_arr]
  rw [arrT_size] at hl
  have hg := bk_vars tx l
  have hlen : (x.bk l).2.length ≤ l.length + x.size := by rw [hg]; have := addVars_length x.knots l; rw [Tm.knots_length] at this; exact this
  have a2 : ¬ a0 = 2 := by omega
  have a4 : ¬ a0 = 4 := by omega
  have a7 : ¬ a0 = 7 := by omega
  have b2 : ¬ 2 = a0 := by omega
  have b4 : ¬ 4 = a0 := by omega
  have b7 : ¬ 7 = a0 := by omega
  refine ok_infer_back.acS fun hS C hC => ?_
  have k2 : S 2 = none := clean_none hS (by omega)
  have k4 : S 4 = none := clean_none hS (by omega)
  have k7 : S 7 = none := clean_none hS (by omega)
  unfold ir_infer_back
  have n1 : (arrT x y).name = fS := rfl
  have n2 : (arrT x y).args = [x, y] := rfl
  repeat' (first | (with_reducible first | refine W ?_ | refine Z0 ?_) | ((with_reducible first | refine Wo (fun K hK => ?_) | refine Wp ?_ | refine Wq ?_ | refine Wr ?_); (try simp only [go_sem, fN, seval, eT, iR, k2, k4, k7, a2, a4, a7, b2, b4, b7, hSa, n1, n2, dT, dF, nL]); (repeat with_reducible refine Ai ?_); (try (refine hK _ ?_; clear hK K)); try with_reducible refine iC ?_))
  refine ⟨_, _, ix (l := l) (a0 := up1 a0) (up1_le _) (by omega) (by rw [upS_up]; (simp only [go_sem, fN, seval, eT, iR, a2, a4, hSa])), ?_⟩
  repeat' (first | (with_reducible first | refine W ?_ | refine Z0 ?_) | ((with_reducible first | refine Wo (fun K hK => ?_) | refine Wp ?_ | refine Wq ?_ | refine Wr ?_); (try simp only [go_sem, fN, seval, eT, iR, k2, k4, k7, a2, a4, a7, b2, b4, b7, hSa, dT, dF, nL]); (repeat with_reducible refine Ai ?_); (try (refine hK _ ?_; clear hK K)); try with_reducible refine iC ?_))
  refine ⟨_, _, iy (l := (x.bk l).2) (a0 := up1 a0) (up1_le _) (by omega) (by rw [upS_up]; (simp only [go_sem, fN, seval, eT, iR, a2, a4, a7])), ?_⟩
  repeat' (first | (with_reducible first | refine W ?_ | refine Z0 ?_) | ((with_reducible first | refine Wo (fun K hK => ?_) | refine Wp ?_ | refine Wq ?_ | refine Wr ?_); (try simp only [go_sem, fN, seval, eT, iR, k2, k4, k7, a2, a4, a7, b2, b4, b7, dT, dF, nL]); (repeat with_reducible refine Ai ?_); (try (refine hK _ ?_; clear hK K)); try with_reducible refine iC ?_))
  refine finS_one (.agg [.st (.int .i64 0), .full [encY (x.bk l).1.ty, encY (y.bk (x.bk l).2).1.ty]]) hS ha rfl trivial ?_ ?_ ?_ fun i hi hne => ?_
  ·simp only [go_sem, fN, seval, eT, iR, resAll, resOne, tupV, b2, b4]
  ·simp only [go_sem, fN, seval, eT, iR]
   show _ = AV.agg [.st (.int .i64 0), .st (.list [encY (x.bk l).1.ty, encY (y.bk (x.bk l).2).1.ty])]
   rw [encY_eq, encY_eq]
  ·simp only [go_sem, fN, seval, eT, iR, a2, a4, a7]
  ·have i2 : ¬ i = 2 := by omega
   have i4 : ¬ i = 4 := by omega
   have i7 : ¬ i = 7 := by omega
   simp only [go_sem, fN, seval, eT, iR, i2, i4, i7, hne]
theorem posN_get : ∀ {m : List ByteArray} {n x : ByteArray} {k : Nat}, m[k]? = some x → k ≤ posN m n → (x = n ↔ k = posN m n)
 | [], n, x, k, h, _ => by simp at h
 | y :: m, n, x, k, h, hk => by
  rw [posN] at hk ⊢
  by_cases e : y = n
  ·rw [if_pos e] at hk ⊢
   obtain rfl : k = 0 := by omega
   simp at h
   subst h
   simp [e]
  ·rw [if_neg e] at hk ⊢
   cases k with
   | zero =>
    simp at h
    subst h
    constructor
    ·intro h; exact absurd h e
    ·intro h; omega
   | succ k =>
    have := posN_get (m := m) (n := n) (k := k) (by simpa using h) (by omega)
    rw [this]
    omega
theorem asType_a {t : Tm} (ht : TT t) (m : List ByteArray) (hl : (t.asB m).low m.length) (hm : m.length ≤ 1000000) : ACalls Tryz.prog 27 [aTm t, aStrs m] (aTy (t.asB m).ty) := by
 induction ht with
 | @v n h1 h2 =>
  rw [asB_leaf] at hl ⊢
  have hl : posN m n < m.length := hl
  refine ok_R_AsType.ac fun C hC => ?_
  unfold ir_R_AsType
  repeat' (first | (with_reducible first | refine W ?_ | refine Z0 ?_) | ((with_reducible first | refine Wo (fun K hK => ?_) | refine Wp ?_ | refine Wq ?_ | refine Wr ?_); (try simp only [go_sem, fN, seval, eT, iR, dT, dF, nL]); (repeat with_reducible refine Ai ?_); (try (refine hK _ ?_; clear hK K)); try with_reducible refine iC ?_))
  refine IWP.loopD [] (fun q s => ∃ k : Nat, k ≤ posN m n ∧ q = posN m n - k ∧ s.env 1 = aStrs m ∧ s.env 2 = .one (.ptr 2 1 0 0) ∧ s.env 4 = .one (.ptr 4 1 0 0) ∧ s.env 5 = aInt k ∧ s.S 2 = some (.box 61 [.st (.str n), .st (.list [])]) ∧ s.S 4 = some (.box 27 [.st (.int .i64 0), .full []])) (posN m n) ⟨0, Nat.zero_le _, rfl, rfl, rfl, rfl, rfl, rfl, rfl⟩ ?_
  rintro q ⟨env, S⟩ ⟨k, hk, rfl, e1, e2, e4, e5, s2, s4⟩
  simp only at e1 e2 e4 e5 s2 s4
  obtain ⟨x, hx⟩ := get_lt (show k < m.length by omega)
  have hiff := posN_get hx hk
  by_cases hxn : x = n
  ·have hkp := hiff.1 hxn
   subst hxn
   repeat' (first | (with_reducible first | refine W ?_ | refine Z0 ?_) | ((with_reducible first | refine Wo (fun K hK => ?_) | refine Wp ?_ | refine Wq ?_ | refine Wr ?_); (try simp only [go_sem, fN, seval, eT, iR, e1, e2, e4, e5, s2, s4, hx, dT, dF, nL]); (repeat with_reducible refine Ai ?_); (try (refine hK _ ?_; clear hK K)); try with_reducible refine iC ?_))
   simp only [go_sem, fN, seval, FinQ, AS.result, resAll, resOne, tupV, e4, s4]
   rw [hkp]
   rfl
  ·have hkp : ¬ k = posN m n := fun e => hxn (hiff.2 e)
   repeat' (first | (with_reducible first | refine W ?_ | refine Z0 ?_) | ((with_reducible first | refine Wo (fun K hK => ?_) | refine Wp ?_ | refine Wq ?_ | refine Wr ?_); (try simp only [go_sem, fN, seval, eT, iR, e1, e2, e4, e5, s2, s4, hx, hxn, dT, dF, nL]); (repeat with_reducible refine Ai ?_); (try (refine hK _ ?_; clear hK K)); try with_reducible refine iC ?_))
   refine then_normal ⟨posN m n - (k + 1), by omega, k + 1, by omega, rfl, ?_⟩
   simp only [go_sem, fN, seval, AS.drop, dropS, AC.clears, AC.clear, AC.highs, AC.high, Bool.not_false, Bool.true_and, Bool.and_self, AV.purge, AV.purges, AC.purge, ABlk.purge, List.contains_cons, List.contains_nil, Nat.reduceBEq, Bool.or_self, Bool.or_false, Bool.false_or, Bool.or_true, eT, iR, e1, e2, e4, e5, s2, s4]
   congr 3
 | @f x y tx ty ix iy =>
  rw [asB_arr] at hl ⊢
  have hx := ix hl.1
  have hy := iy hl.2
  have n1 : (arrT x y).name = fS := rfl
  have n2 : (arrT x y).args = [x, y] := rfl
  refine ok_R_AsType.ac fun C hC => ?_
  unfold ir_R_AsType
  repeat' (first | (with_reducible first | refine W ?_ | refine Z0 ?_) | refine Cg _ (hx) ?_ | refine Cg _ (hy) ?_ | ((with_reducible first | refine Wo (fun K hK => ?_) | refine Wp ?_ | refine Wq ?_ | refine Wr ?_); (try simp only [go_sem, fN, seval, eT, iR, n1, n2, dT, dF, nL]); (repeat with_reducible refine Ai ?_); (try (refine hK _ ?_; clear hK K)); try with_reducible refine iC ?_))
  simp only [go_sem, fN, seval, FinQ, AS.result, resAll, resOne, tupV]
  show _ = AV.agg [.st (.int .i64 0), .st (.list [encY (x.asB m).ty, encY (y.asB m).ty])]
  rw [encY_eq, encY_eq]

end Go.Proofs.YtkjlddlllofenaaGreatDoor
