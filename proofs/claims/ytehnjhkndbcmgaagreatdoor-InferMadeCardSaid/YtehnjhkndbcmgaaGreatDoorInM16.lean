/-
  Part 16 of the texts: IrUnify; IrHugeP; BHugeP; BUnify; BUnify2. Conditions: none.
-/
import Derived.Test.YtehnjhkndbcmgaaGreatDoorInM15
namespace Go.Proofs.YtehnjhkndbcmgaaGreatDoor
open Go Go.RowKit
set_option maxRecDepth 100000
def ir_unify_occurs : IR :=
  (.seq (.ops [.i 3 (.box 69 (.t 1)), .i 4 (.mov (.c (.one (.st (.bool false)))))]) (.seq (.seq (.ops [.i 7 (.fieldAddr 0 (.t 3)), .i 8 (.load false 1 (.t 7)), .i 9 (.mov (.t 0)), .i 10 (.bin .eql (.t 8) (.t 9))]) (.cond (.t 10) (.seq (.ops [.i 4 (.mov (.c (.one (.st (.bool true)))))]) .ret) .skip)) (.seq (.seq (.ops [.i 11 (.fieldAddr 1 (.t 3)), .i 12 (.load false 1 (.t 11)), .i 13 (.len false (.t 12)), .i 14 (.mov (.n 0))]) (.block 0 (.loop (.seq (.ops [.i 15 (.bin .lss (.t 14) (.t 13))]) (.seq (.cond (.t 15) .skip (.exit 0)) (.seq (.block 1 (.seq (.ops [.i 16 (.indexAddr 2 (.t 12) (.t 14)), .i 17 (.load true 2 (.t 16)), .i 6 (.alloc 69 [.st (.str (ByteArray.mk (#[]))), .full []]), .mk none none (.store 2 (.t 6) (.t 17)) .no]) (.seq (.ops [.i 18 (.mov (.t 0)), .i 19 (.load true 2 (.t 6)), .i 20 (.call 82 [.t 18, .t 19])]) (.cond (.t 20) (.seq (.ops [.i 4 (.mov (.c (.one (.st (.bool true)))))]) .ret) .skip)))) (.ops [.i 21 (.bin .add (.t 14) (.n 1)), .i 14 (.mov (.t 21))]))))))) (.seq (.ops [.i 4 (.mov (.c (.one (.st (.bool false)))))]) .ret))))
theorem tr_unify_occurs : trCode Tryz.prog 22 [] (Tryz.f82.body.getD .skip) = some ir_unify_occurs := by kernel_rfl
theorem ac_unify_occurs {xs : List AV} {r : AV} (hn : xs.length ≤ 22) (h : ∀ C : Ctx, C.n = 22 → IWP Tryz.prog C [] ir_unify_occurs (FinQ [.t 4] r) (AS.start xs)) : ACalls Tryz.prog 82 xs r :=
  acalls_of Tryz.func82 rfl tr_unify_occurs rfl hn h
def ir_unify_Solve : IR :=
  (.seq (.ops [.i 2 (.mov (.c (.one (.full [])))), .i 3 (.mov (.n 0))]) (.seq (.ops [.i 4 (.mov (.c (.one (.full []))))]) (.seq (.ops [.i 5 (.mov (.c (.one (.full []))))]) (.seq (.seq (.ops [.i 15 (.mov (.t 0)), .i 16 (.len false (.t 15)), .i 17 (.bin .sub (.t 16) (.n 1)), .i 6 (.mov (.t 17))]) (.block 0 (.loop (.seq (.seq (.ops [.i 18 (.mov (.t 6)), .i 19 (.bin .geq (.t 18) (.n 0))]) (.cond (.t 19) .skip (.exit 0))) (.seq (.block 1 (.ops [.i 22 (.mov (.t 5)), .i 23 (.mov (.t 0)), .i 24 (.mov (.t 6)), .i 25 (.indexAddr 4 (.t 23) (.t 24)), .i 26 (.load true 4 (.t 25)), .i 27 (.buildSlice false 114 4 [.t 26]), .i 28 (.appP 114 4 80 (.t 22) (.t 27)), .i 5 (.mov (.t 28))])) (.ops [.i 20 (.mov (.t 6)), .i 21 (.bin .sub (.t 20) (.n 1)), .i 6 (.mov (.t 21))])))))) (.seq (.block 2 (.loop (.seq (.seq (.ops [.i 29 (.mov (.t 5)), .i 30 (.len false (.t 29)), .i 31 (.bin .gtr (.t 30) (.n 0))]) (.cond (.t 31) .skip (.exit 2))) (.block 3 (.seq (.ops [.i 32 (.mov (.t 5)), .i 33 (.mov (.t 5)), .i 34 (.len false (.t 33)), .i 35 (.bin .sub (.t 34) (.n 1)), .i 36 (.indexP 4 (.t 32) (.t 35)), .i 37 (.load true 4 (.t 36)), .i 7 (.alloc 114 [.st (.str (ByteArray.mk (#[]))), .full [], .st (.str (ByteArray.mk (#[]))), .full []]), .mk none none (.store 4 (.t 7) (.t 37)) .no]) (.seq (.ops [.i 38 (.mov (.t 5)), .i 39 (.mov (.t 5)), .i 40 (.len false (.t 39)), .i 41 (.bin .sub (.t 40) (.n 1)), .i 42 (.cutP 4 (.t 38) (.t 41)), .i 5 (.mov (.t 42))]) (.seq (.ops [.i 44 (.mov (.t 4)), .i 45 (.fieldAddr 0 (.t 7)), .i 46 (.load true 2 (.t 45)), .i 47 (.callR 46 [.t 44, .t 46]), .i 43 (.mov (.t 47)), .i 48 (.extract 0 (.t 43)), .i 49 (.extract 1 (.t 43)), .i 8 (.alloc 69 [.st (.str (ByteArray.mk (#[]))), .full []]), .mk none none (.store 2 (.t 8) (.t 48)) .no, .i 9 (.mov (.t 49))]) (.seq (.ops [.i 51 (.mov (.t 4)), .i 52 (.fieldAddr 2 (.t 7)), .i 53 (.load true 2 (.t 52)), .i 54 (.callR 46 [.t 51, .t 53]), .i 50 (.mov (.t 54)), .i 55 (.extract 0 (.t 50)), .i 56 (.extract 1 (.t 50)), .i 10 (.alloc 69 [.st (.str (ByteArray.mk (#[]))), .full []]), .mk none none (.store 2 (.t 10) (.t 55)) .no, .i 11 (.mov (.t 56))]) (.seq (.seq (.ops [.i 57 (.mov (.t 9)), .i 58 (.un .not (.t 57)), .i 59 (.mov (.t 58)), .mk (some 60) (some (59, false)) (.mov (.t 11)) .no, .mk (some 61) (some (59, false)) (.un .not (.t 60)) .no, .i 62 (.pick (.t 59) (.c (.one (.st (.bool true)))) (.t 61))]) (.cond (.t 62) (.seq (.ops [.i 2 (.mov (.c (.one (.full [])))), .i 3 (.mov (.n 8))]) .ret) .skip)) (.block 4 (.seq (.ops [.i 86 (.fieldAddr 0 (.t 8)), .i 87 (.load false 1 (.t 86)), .i 88 (.call 81 [.t 87]), .i 89 (.mov (.t 88)), .mk (some 90) (some (89, true)) (.fieldAddr 0 (.t 8)) .no, .mk (some 91) (some (89, true)) (.load false 1 (.t 90)) .no, .mk (some 92) (some (89, true)) (.fieldAddr 0 (.t 10)) .no, .mk (some 93) (some (89, true)) (.load false 1 (.t 92)) .no, .mk (some 94) (some (89, true)) (.bin .eql (.t 91) (.t 93)) .no, .i 95 (.pick (.t 89) (.t 94) (.c (.one (.st (.bool false))))), .i 85 (.mov (.t 95))]) (.cond (.t 85) .skip (.seq (.ops [.i 97 (.fieldAddr 0 (.t 8)), .i 98 (.load false 1 (.t 97)), .i 99 (.call 81 [.t 98]), .i 100 (.mov (.t 99)), .mk (some 101) (some (100, false)) (.fieldAddr 0 (.t 10)) .no, .mk (some 102) (some (100, false)) (.load false 1 (.t 101)) .no, .mk (some 103) (some (100, false)) (.call 81 [.t 102]) .no, .i 104 (.pick (.t 100) (.c (.one (.st (.bool true)))) (.t 103)), .i 96 (.mov (.t 104))]) (.cond (.t 96) (.seq (.seq (.ops [.i 105 (.fieldAddr 0 (.t 8)), .i 106 (.load false 1 (.t 105)), .i 107 (.call 81 [.t 106]), .i 108 (.un .not (.t 107))]) (.cond (.t 108) (.ops [.i 109 (.load true 2 (.t 10)), .i 110 (.load true 2 (.t 8)), .mk none none (.store 2 (.t 8) (.t 109)) .no, .mk none none (.store 2 (.t 10) (.t 110)) .no]) .skip)) (.seq (.seq (.ops [.i 111 (.fieldAddr 0 (.t 8)), .i 112 (.load false 1 (.t 111)), .i 113 (.load true 2 (.t 10)), .i 114 (.call 82 [.t 112, .t 113])]) (.cond (.t 114) (.seq (.ops [.i 2 (.mov (.c (.one (.full [])))), .i 3 (.mov (.n 6))]) .ret) .skip)) (.seq (.ops [.i 115 (.fieldAddr 0 (.t 8)), .i 116 (.load false 1 (.t 115)), .i 117 (.load true 2 (.t 10)), .i 118 (.build [.st (.str (ByteArray.mk (#[]))), .st (.str (ByteArray.mk (#[]))), .full []] [(0, 1, .t 116), (1, 2, .t 117)]), .i 119 (.buildSlice false 118 3 [.t 118]), .i 12 (.mov (.t 119))]) (.seq (.seq (.ops [.i 120 (.mov (.t 4)), .i 121 (.len false (.t 120)), .i 122 (.mov (.n 0))]) (.block 7 (.loop (.seq (.ops [.i 123 (.bin .lss (.t 122) (.t 121))]) (.seq (.cond (.t 123) .skip (.exit 7)) (.seq (.block 8 (.seq (.ops [.i 124 (.mov (.t 122)), .i 13 (.mov (.t 124))]) (.seq (.ops [.i 126 (.mov (.t 4)), .i 127 (.mov (.t 13)), .i 128 (.mov (.t 12)), .i 129 (.mov (.t 4)), .i 130 (.mov (.t 13)), .i 131 (.indexAddr 3 (.t 129) (.t 130)), .i 132 (.fieldAddr 1 (.t 131)), .i 133 (.load true 2 (.t 132)), .i 134 (.call 46 [.t 128, .t 133]), .i 125 (.mov (.t 134)), .i 135 (.extract 0 (.t 125)), .i 136 (.extract 1 (.t 125)), .i 137 (.indexAddr 3 (.t 126) (.t 127)), .i 138 (.fieldAddr 1 (.t 137)), .mk none none (.store 2 (.t 138) (.t 135)) .no, .i 9 (.mov (.t 136))]) (.seq (.ops [.i 139 (.mov (.t 9)), .i 140 (.un .not (.t 139))]) (.cond (.t 140) (.seq (.ops [.i 2 (.mov (.c (.one (.full [])))), .i 3 (.mov (.n 8))]) .ret) .skip))))) (.ops [.i 141 (.bin .add (.t 122) (.n 1)), .i 122 (.mov (.t 141))]))))))) (.ops [.i 142 (.mov (.t 4)), .i 143 (.mov (.t 12)), .i 144 (.indexAddr 3 (.t 143) (.n 0)), .i 145 (.load true 3 (.t 144)), .i 146 (.buildSlice false 118 3 [.t 145]), .i 147 (.append false 118 3 56 (.t 142) (.t 146)), .i 148 (.callS 83 [.t 147]), .i 4 (.mov (.t 148))]))))) (.seq (.ops [.i 150 (.fieldAddr 0 (.t 8)), .i 151 (.load false 1 (.t 150)), .i 152 (.fieldAddr 0 (.t 10)), .i 153 (.load false 1 (.t 152)), .i 154 (.bin .neq (.t 151) (.t 153)), .i 155 (.mov (.t 154)), .mk (some 156) (some (155, false)) (.fieldAddr 1 (.t 8)) .no, .mk (some 157) (some (155, false)) (.load false 1 (.t 156)) .no, .mk (some 158) (some (155, false)) (.len false (.t 157)) .no, .mk (some 159) (some (155, false)) (.fieldAddr 1 (.t 10)) .no, .mk (some 160) (some (155, false)) (.load false 1 (.t 159)) .no, .mk (some 161) (some (155, false)) (.len false (.t 160)) .no, .mk (some 162) (some (155, false)) (.bin .neq (.t 158) (.t 161)) .no, .i 163 (.pick (.t 155) (.c (.one (.st (.bool true)))) (.t 162)), .i 149 (.mov (.t 163))]) (.cond (.t 149) (.seq (.ops [.i 2 (.mov (.c (.one (.full [])))), .i 3 (.mov (.n 5))]) .ret) (.seq (.ops [.i 63 (.fieldAddr 1 (.t 8)), .i 64 (.load false 1 (.t 63)), .i 65 (.len false (.t 64)), .i 66 (.bin .sub (.t 65) (.n 1)), .i 14 (.mov (.t 66))]) (.block 5 (.loop (.seq (.seq (.ops [.i 67 (.mov (.t 14)), .i 68 (.bin .geq (.t 67) (.n 0))]) (.cond (.t 68) .skip (.exit 5))) (.seq (.block 6 (.ops [.i 71 (.mov (.t 5)), .i 72 (.fieldAddr 1 (.t 8)), .i 73 (.load false 1 (.t 72)), .i 74 (.mov (.t 14)), .i 75 (.indexAddr 2 (.t 73) (.t 74)), .i 76 (.load true 2 (.t 75)), .i 77 (.fieldAddr 1 (.t 10)), .i 78 (.load false 1 (.t 77)), .i 79 (.mov (.t 14)), .i 80 (.indexAddr 2 (.t 78) (.t 79)), .i 81 (.load true 2 (.t 80)), .i 82 (.build [.st (.str (ByteArray.mk (#[]))), .full [], .st (.str (ByteArray.mk (#[]))), .full []] [(0, 2, .t 76), (2, 2, .t 81)]), .i 83 (.buildSlice false 114 4 [.t 82]), .i 84 (.appP 114 4 80 (.t 71) (.t 83)), .i 5 (.mov (.t 84))])) (.ops [.i 69 (.mov (.t 14)), .i 70 (.bin .sub (.t 69) (.n 1)), .i 14 (.mov (.t 70))])))))))))))))))))))))) (.seq (.ops [.i 164 (.mov (.t 4)), .i 2 (.mov (.t 164)), .i 3 (.mov (.n 0))]) .ret))))))
theorem tr_unify_Solve : trCode Tryz.prog 165 [30000028, 30000036, 30000042, 30000084, 40000047, 40000054, 148] (Tryz.f45.body.getD .skip) = some ir_unify_Solve := by kernel_rfl
theorem ac_unify_Solve {xs : List AV} {r : AV} (hn : xs.length ≤ 165) (h : ∀ C : Ctx, C.n = 165 → IWP Tryz.prog C [30000028, 30000036, 30000042, 30000084, 40000047, 40000054, 148] ir_unify_Solve (FinQ [.t 2, .t 3] r) (AS.start xs)) : ACalls Tryz.prog 45 xs r :=
  acalls_of Tryz.func45 rfl tr_unify_Solve rfl hn h
def ir_R_UnifyOf : IR :=
  (.seq (.ops [.i 2 (.mov (.c (.one (.full [])))), .i 3 (.mov (.n 0))]) (.seq (.ops [.i 4 (.mov (.c (.one (.full []))))]) (.seq (.block 0 (.loop (.seq (.seq (.ops [.i 15 (.mov (.t 0)), .i 16 (.len false (.t 15)), .i 17 (.bin .gtr (.t 16) (.n 0))]) (.cond (.t 17) .skip (.exit 0))) (.block 1 (.seq (.ops [.i 19 (.mov (.t 4)), .i 20 (.mov (.t 0)), .i 21 (.indexAddr 4 (.t 20) (.n 0)), .i 22 (.fieldAddr 0 (.t 21)), .i 23 (.load true 2 (.t 22)), .i 24 (.call 39 [.t 19, .t 23]), .i 18 (.mov (.t 24)), .i 25 (.extract 0 (.t 18)), .i 26 (.extract 1 (.t 18)), .i 5 (.alloc 69 [.st (.str (ByteArray.mk (#[]))), .full []]), .mk none none (.store 2 (.t 5) (.t 25)) .no, .i 6 (.mov (.t 26))]) (.seq (.seq (.ops [.i 27 (.mov (.t 6)), .i 28 (.un .not (.t 27))]) (.cond (.t 28) (.seq (.ops [.i 2 (.mov (.c (.one (.full [])))), .i 3 (.mov (.n 8))]) .ret) .skip)) (.seq (.ops [.i 30 (.mov (.t 4)), .i 31 (.mov (.t 0)), .i 32 (.indexAddr 4 (.t 31) (.n 0)), .i 33 (.fieldAddr 2 (.t 32)), .i 34 (.load true 2 (.t 33)), .i 35 (.call 39 [.t 30, .t 34]), .i 29 (.mov (.t 35)), .i 36 (.extract 0 (.t 29)), .i 37 (.extract 1 (.t 29)), .i 7 (.alloc 69 [.st (.str (ByteArray.mk (#[]))), .full []]), .mk none none (.store 2 (.t 7) (.t 36)) .no, .i 6 (.mov (.t 37))]) (.seq (.seq (.ops [.i 38 (.mov (.t 6)), .i 39 (.un .not (.t 38))]) (.cond (.t 39) (.seq (.ops [.i 2 (.mov (.c (.one (.full [])))), .i 3 (.mov (.n 8))]) .ret) .skip)) (.seq (.ops [.i 40 (.mov (.t 0)), .i 41 (.sliceL 4 (.t 40) (some (.n 1)) none), .i 0 (.mov (.t 41))]) (.seq (.seq (.ops [.i 42 (.fieldAddr 0 (.t 5)), .i 43 (.load false 1 (.t 42)), .i 44 (.call 69 [.t 43]), .i 45 (.mov (.t 44)), .mk (some 46) (some (45, true)) (.fieldAddr 0 (.t 5)) .no, .mk (some 47) (some (45, true)) (.load false 1 (.t 46)) .no, .mk (some 48) (some (45, true)) (.fieldAddr 0 (.t 7)) .no, .mk (some 49) (some (45, true)) (.load false 1 (.t 48)) .no, .mk (some 50) (some (45, true)) (.bin .eql (.t 47) (.t 49)) .no, .i 51 (.pick (.t 45) (.t 50) (.c (.one (.st (.bool false)))))]) (.cond (.t 51) (.exit 1) .skip)) (.seq (.seq (.ops [.i 52 (.fieldAddr 0 (.t 5)), .i 53 (.load false 1 (.t 52)), .i 54 (.call 69 [.t 53]), .i 55 (.un .not (.t 54)), .i 56 (.mov (.t 55)), .mk (some 57) (some (56, true)) (.fieldAddr 0 (.t 7)) .no, .mk (some 58) (some (56, true)) (.load false 1 (.t 57)) .no, .mk (some 59) (some (56, true)) (.call 69 [.t 58]) .no, .i 60 (.pick (.t 56) (.t 59) (.c (.one (.st (.bool false)))))]) (.cond (.t 60) (.ops [.i 61 (.load true 2 (.t 7)), .i 62 (.load true 2 (.t 5)), .mk none none (.store 2 (.t 5) (.t 61)) .no, .mk none none (.store 2 (.t 7) (.t 62)) .no]) .skip)) (.seq (.seq (.ops [.i 63 (.fieldAddr 0 (.t 5)), .i 64 (.load false 1 (.t 63)), .i 65 (.call 69 [.t 64])]) (.cond (.t 65) (.seq (.seq (.ops [.i 66 (.fieldAddr 0 (.t 5)), .i 67 (.load false 1 (.t 66)), .i 68 (.load true 2 (.t 7)), .i 69 (.call 41 [.t 68]), .i 70 (.call 70 [.t 67, .t 69])]) (.cond (.t 70) (.seq (.ops [.i 2 (.mov (.c (.one (.full [])))), .i 3 (.mov (.n 6))]) .ret) .skip)) (.seq (.ops [.i 71 (.fieldAddr 0 (.t 5)), .i 72 (.load false 1 (.t 71)), .i 73 (.load true 2 (.t 7)), .i 74 (.build [.st (.str (ByteArray.mk (#[]))), .st (.str (ByteArray.mk (#[]))), .full []] [(0, 1, .t 72), (1, 2, .t 73)]), .i 75 (.buildSlice false 118 3 [.t 74]), .i 8 (.mov (.t 75))]) (.seq (.ops [.i 9 (.mov (.c (.one (.full []))))]) (.seq (.seq (.ops [.i 10 (.mov (.n 0))]) (.block 2 (.loop (.seq (.seq (.ops [.i 76 (.mov (.t 10)), .i 77 (.mov (.t 4)), .i 78 (.len false (.t 77)), .i 79 (.bin .lss (.t 76) (.t 78))]) (.cond (.t 79) .skip (.exit 2))) (.seq (.block 3 (.seq (.ops [.i 83 (.mov (.t 8)), .i 84 (.mov (.t 4)), .i 85 (.mov (.t 10)), .i 86 (.indexAddr 3 (.t 84) (.t 85)), .i 87 (.fieldAddr 1 (.t 86)), .i 88 (.load true 2 (.t 87)), .i 89 (.call 39 [.t 83, .t 88]), .i 82 (.mov (.t 89)), .i 90 (.extract 0 (.t 82)), .i 91 (.extract 1 (.t 82)), .i 11 (.alloc 69 [.st (.str (ByteArray.mk (#[]))), .full []]), .mk none none (.store 2 (.t 11) (.t 90)) .no, .i 12 (.mov (.t 91))]) (.seq (.seq (.ops [.i 92 (.mov (.t 12)), .i 93 (.un .not (.t 92))]) (.cond (.t 93) (.seq (.ops [.i 2 (.mov (.c (.one (.full [])))), .i 3 (.mov (.n 8))]) .ret) .skip)) (.ops [.i 94 (.mov (.t 9)), .i 95 (.mov (.t 4)), .i 96 (.mov (.t 10)), .i 97 (.indexAddr 3 (.t 95) (.t 96)), .i 98 (.fieldAddr 0 (.t 97)), .i 99 (.load false 1 (.t 98)), .i 100 (.load true 2 (.t 11)), .i 101 (.build [.st (.str (ByteArray.mk (#[]))), .st (.str (ByteArray.mk (#[]))), .full []] [(0, 1, .t 99), (1, 2, .t 100)]), .i 102 (.buildSlice false 118 3 [.t 101]), .i 103 (.append false 118 3 56 (.t 94) (.t 102)), .i 9 (.mov (.t 103))])))) (.ops [.i 80 (.mov (.t 10)), .i 81 (.bin .add (.t 80) (.n 1)), .i 10 (.mov (.t 81))])))))) (.seq (.ops [.i 104 (.mov (.t 9)), .i 105 (.mov (.t 8)), .i 106 (.indexAddr 3 (.t 105) (.n 0)), .i 107 (.load true 3 (.t 106)), .i 108 (.buildSlice false 118 3 [.t 107]), .i 109 (.append false 118 3 56 (.t 104) (.t 108)), .i 110 (.call 71 [.t 109]), .i 4 (.mov (.t 110))]) (.exit 1)))))) .skip)) (.seq (.seq (.ops [.i 111 (.fieldAddr 0 (.t 5)), .i 112 (.load false 1 (.t 111)), .i 113 (.fieldAddr 0 (.t 7)), .i 114 (.load false 1 (.t 113)), .i 115 (.bin .neq (.t 112) (.t 114)), .i 116 (.mov (.t 115)), .mk (some 117) (some (116, false)) (.fieldAddr 1 (.t 5)) .no, .mk (some 118) (some (116, false)) (.load false 1 (.t 117)) .no, .mk (some 119) (some (116, false)) (.len false (.t 118)) .no, .mk (some 120) (some (116, false)) (.fieldAddr 1 (.t 7)) .no, .mk (some 121) (some (116, false)) (.load false 1 (.t 120)) .no, .mk (some 122) (some (116, false)) (.len false (.t 121)) .no, .mk (some 123) (some (116, false)) (.bin .neq (.t 119) (.t 122)) .no, .i 124 (.pick (.t 116) (.c (.one (.st (.bool true)))) (.t 123))]) (.cond (.t 124) (.seq (.ops [.i 2 (.mov (.c (.one (.full [])))), .i 3 (.mov (.n 5))]) .ret) .skip)) (.seq (.ops [.i 13 (.mov (.c (.one (.full []))))]) (.seq (.seq (.ops [.i 14 (.mov (.n 0))]) (.block 4 (.loop (.seq (.seq (.ops [.i 125 (.mov (.t 14)), .i 126 (.fieldAddr 1 (.t 5)), .i 127 (.load false 1 (.t 126)), .i 128 (.len false (.t 127)), .i 129 (.bin .lss (.t 125) (.t 128))]) (.cond (.t 129) .skip (.exit 4))) (.seq (.block 5 (.ops [.i 132 (.mov (.t 13)), .i 133 (.fieldAddr 1 (.t 5)), .i 134 (.load false 1 (.t 133)), .i 135 (.mov (.t 14)), .i 136 (.indexAddr 2 (.t 134) (.t 135)), .i 137 (.load true 2 (.t 136)), .i 138 (.fieldAddr 1 (.t 7)), .i 139 (.load false 1 (.t 138)), .i 140 (.mov (.t 14)), .i 141 (.indexAddr 2 (.t 139) (.t 140)), .i 142 (.load true 2 (.t 141)), .i 143 (.build [.st (.str (ByteArray.mk (#[]))), .full [], .st (.str (ByteArray.mk (#[]))), .full []] [(0, 2, .t 137), (2, 2, .t 142)]), .i 144 (.buildSlice false 114 4 [.t 143]), .i 145 (.append false 114 4 80 (.t 132) (.t 144)), .i 13 (.mov (.t 145))])) (.ops [.i 130 (.mov (.t 14)), .i 131 (.bin .add (.t 130) (.n 1)), .i 14 (.mov (.t 131))])))))) (.ops [.i 146 (.mov (.t 13)), .i 147 (.mov (.t 0)), .i 148 (.append false 114 4 80 (.t 146) (.t 147)), .i 0 (.mov (.t 148))])))))))))))))))) (.seq (.ops [.i 149 (.mov (.t 4)), .i 2 (.mov (.t 149)), .i 3 (.mov (.n 0))]) .ret))))
theorem tr_R_UnifyOf : trCode Tryz.prog 150 [] (Tryz.f38.body.getD .skip) = some ir_R_UnifyOf := by kernel_rfl
theorem ac_R_UnifyOf {xs : List AV} {r : AV} (hn : xs.length ≤ 150) (h : ∀ C : Ctx, C.n = 150 → IWP Tryz.prog C [] ir_R_UnifyOf (FinQ [.t 2, .t 3] r) (AS.start xs)) : ACalls Tryz.prog 38 xs r :=
  acalls_of Tryz.func38 rfl tr_R_UnifyOf rfl hn h
end Go.Proofs.YtehnjhkndbcmgaaGreatDoor

namespace Go.Proofs.YtehnjhkndbcmgaaGreatDoor
open Go Go.RowKit
set_option maxRecDepth 100000
end Go.Proofs.YtehnjhkndbcmgaaGreatDoor

namespace Go.Proofs.YtehnjhkndbcmgaaGreatDoor
open Go Go.RowKit
set_option linter.unusedVariables false
set_option linter.unusedSimpArgs false
set_option maxHeartbeats 800000
end Go.Proofs.YtehnjhkndbcmgaaGreatDoor

namespace Go.Proofs.YtehnjhkndbcmgaaGreatDoor
open Go Go.RowKit
set_option linter.unusedVariables false
set_option linter.unusedSimpArgs false
set_option maxHeartbeats 800000
theorem occurs_a (x : ByteArray) (t : Tm) : ACalls Tryz.prog 82 [aStr x, aTm t] (aBool (occ x t)) := by
  induction h : SizeOf.sizeOf t using Nat.strongRecOn generalizing t with
  | _ N ih =>
  subst h
  rw [occ_eq]
  refine ac_unify_occurs (Nat.le_of_ble_eq_true rfl) fun C hC => ?_
  unfold ir_unify_occurs
  refine IWP.learn 1 (by omega) fun hkn => ?_
  have hkn := known_tm hkn
  by_cases hn : t.name = x
  · repeat' (first | (with_reducible first | refine W ?_ | refine Wk (by decide) ?_) | ((with_reducible first | refine Wo (fun K hK => ?_) | refine Wp ?_ | refine Wq ?_ | refine Wr ?_); (try simp only [go_sem, fN, ↓gI, ↓pI, seval, eT, iR, hn, dT, dF, nL]); (repeat with_reducible refine And.intro (by first | omega | exact lens | (simp [maxLen_eq] <;> omega)) ?_); (try (refine hK _ ?_; clear hK K)); (try with_reducible refine iC ?_)))
    simp only [go_sem, fN, ↓gI, ↓pI, seval, FinQ, AS.result, resAll, resOne, tupV]
    rw [Bool.true_or]
  rw [decide_eq_false hn, Bool.false_or]
  repeat' (first | (with_reducible first | refine W ?_ | refine Wk (by decide) ?_) | ((with_reducible first | refine Wo (fun K hK => ?_) | refine Wp ?_ | refine Wq ?_ | refine Wr ?_); (try simp only [go_sem, fN, ↓gI, ↓pI, seval, eT, iR, hn, dT, dF, nL]); (repeat with_reducible refine And.intro (by first | omega | exact lens | (simp [maxLen_eq] <;> omega)) ?_); (try (refine hK _ ?_; clear hK K)); (try with_reducible refine iC ?_)))
  refine IWP.loopD [6] (fun m s => ∃ k, k ≤ t.args.length ∧ m = t.args.length - k ∧ (t.args.take k).any (occ x) = false ∧ s.env 0 = aStr x ∧ s.env 12 = .one (.st (.list (t.args.map encT))) ∧ s.env 13 = aInt t.args.length ∧ s.env 14 = aInt k ∧ s.S 6 = none) t.args.length ⟨0, Nat.zero_le _, rfl, rfl, rfl, rfl, rfl, rfl, rfl⟩ ?_
  rintro m ⟨env, S⟩ ⟨k, hk, rfl, h0, e0, e12, e13, e14, s6⟩
  simp only at e0 e12 e13 e14 s6
  by_cases hlt : (k : Int) < t.args.length
  · obtain ⟨a, ha⟩ := get_lt (show k < t.args.length by omega)
    repeat' (first | (with_reducible first | refine W ?_ | refine Wk (by decide) ?_) | ((with_reducible first | refine Wo (fun K hK => ?_) | refine Wp ?_ | refine Wq ?_ | refine Wr ?_); (try simp only [go_sem, fN, ↓gI, ↓pI, seval, eT, iR, e0, e12, e13, e14, s6, hlt, ha, dT, dF, nL]); (repeat with_reducible refine And.intro (by first | omega | exact lens | (simp [maxLen_eq] <;> omega)) ?_); (try (refine hK _ ?_; clear hK K)); (try with_reducible refine iC ?_)))
    refine ⟨_, ih _ (Tm.lt_of_arg (mem_of_get ha)) a rfl, ?_⟩
    cases hc : occ x a with
    | true =>
      repeat' (first | (with_reducible first | refine W ?_ | refine Wk (by decide) ?_) | ((with_reducible first | refine Wo (fun K hK => ?_) | refine Wp ?_ | refine Wq ?_ | refine Wr ?_); (try simp only [go_sem, fN, ↓gI, ↓pI, seval, eT, iR, hc, dT, dF, nL]); (repeat with_reducible refine And.intro (by first | omega | exact lens | (simp [maxLen_eq] <;> omega)) ?_); (try (refine hK _ ?_; clear hK K)); (try with_reducible refine iC ?_)))
      simp only [go_sem, fN, ↓gI, ↓pI, seval, FinQ, AS.result, resAll, resOne, tupV]
      have : t.args.any (occ x) = true := List.any_eq_true.2 ⟨a, mem_of_get ha, hc⟩
      rw [this]
    | false =>
      repeat' (first | (with_reducible first | refine W ?_ | refine Wk (by decide) ?_) | ((with_reducible first | refine Wo (fun K hK => ?_) | refine Wp ?_ | refine Wq ?_ | refine Wr ?_); (try simp only [go_sem, fN, ↓gI, ↓pI, seval, eT, iR, hc, e0, e12, e13, e14, s6, dT, dF, nL]); (repeat with_reducible refine And.intro (by first | omega | exact lens | (simp [maxLen_eq] <;> omega)) ?_); (try (refine hK _ ?_; clear hK K)); (try with_reducible refine iC ?_)))
      refine then_normal ⟨t.args.length - (k + 1), by omega, k + 1, by omega, rfl, by rw [take_snoc ha, List.any_append, h0]; simp [hc], ?_⟩
      simp only [go_sem, fN, ↓gI, ↓pI, seval, AS.drop, dropS, AC.clears, AC.clear, AC.highs, AC.high, Bool.not_false, Bool.true_and, Bool.and_self, AV.purge, AV.purges, AC.purge, ABlk.purge, List.contains_cons, List.contains_nil, Nat.reduceBEq, Bool.or_self, Bool.or_false, Bool.false_or, Bool.or_true, eT, iR, e0, e12, e13, e14, s6]
      congr 3
  · repeat' (first | (with_reducible first | refine W ?_ | refine Wk (by decide) ?_) | ((with_reducible first | refine Wo (fun K hK => ?_) | refine Wp ?_ | refine Wq ?_ | refine Wr ?_); (try simp only [go_sem, fN, ↓gI, ↓pI, seval, eT, iR, e0, e12, e13, e14, s6, hlt, dT, dF, nL]); (repeat with_reducible refine And.intro (by first | omega | exact lens | (simp [maxLen_eq] <;> omega)) ?_); (try (refine hK _ ?_; clear hK K)); (try with_reducible refine iC ?_)))
    simp only [go_sem, fN, ↓gI, ↓pI, seval, FinQ, AS.result, resAll, resOne, tupV]
    rw [List.take_of_length_le (by omega)] at h0
    rw [h0]
end Go.Proofs.YtehnjhkndbcmgaaGreatDoor

namespace Go.Proofs.YtehnjhkndbcmgaaGreatDoor
open Go Go.RowKit
set_option linter.unusedVariables false
set_option linter.unusedSimpArgs false
set_option maxHeartbeats 1000000
theorem uends_inv {m : Nat} {s : List Bd} {p : Pr} {l : List Pr} {r : List Bd × Int} (h : UEnds m s (p :: l) r) : (∃ e, stepU s p = .err e ∧ r = ([], e)) ∨ ∃ s' ps n, stepU s p = .go s' ps ∧ n < m ∧ UEnds n s' (ps ++ l) r := by
  cases h with
  | err h => exact .inl ⟨_, h, rfl⟩
  | go h1 h2 => exact .inr ⟨_, _, _, h1, by omega, h2⟩
structure TmOk (U : List ByteArray) (s : List Bd) (t : Tm) : Prop where
  chk : t.chk = 0
  siz : t.size ≤ 2000
  free : NoDom s t
  inU : ∀ y, occ y t = true → y ∈ U
abbrev boxT (t : Tm) : ABlk := .box 69 [.st (.str t.name), .st (.list (t.args.map encT))]
def Turned (U : List ByteArray) (s : List Bd) (p : Pr) (u t : Tm) : Prop := TmOk U s u ∧ TmOk U s t ∧
  ((isVar u.name = true ∧ stepU s p = bindV s u.name t) ∨ (isVar u.name = false ∧ stepU s p = if u.name = t.name ∧ u.args.length = t.args.length then .go s (u.args.zip t.args) else .err 5))
theorem turned_a {U : List ByteArray} {s : List Bd} {p : Pr} (ha : TmOk U s (p.1.on s)) (hb : TmOk U s (p.2.on s)) (hne : ¬ (isVar (p.1.on s).name = true ∧ (p.1.on s).name = (p.2.on s).name)) (hv : isVar (p.1.on s).name = true ∨ isVar (p.2.on s).name = false) : Turned U s p (p.1.on s) (p.2.on s) := by
  have h0 : ¬ (2000 < (p.1.on s).size ∨ 2000 < (p.2.on s).size) := by have := ha.siz; have := hb.siz; omega
  refine ⟨ha, hb, ?_⟩
  cases h1 : isVar (p.1.on s).name with
  | true =>
    refine .inl ⟨rfl, ?_⟩
    unfold stepU
    rw [if_neg h0, if_neg hne, if_pos h1]
  | false =>
    have h2 : isVar (p.2.on s).name = false := hv.resolve_left (by rw [h1]; simp)
    refine .inr ⟨rfl, ?_⟩
    unfold stepU
    rw [if_neg h0, if_neg hne, if_neg (by rw [h1]; simp), if_neg (by rw [h2]; simp)]
theorem turned_b {U : List ByteArray} {s : List Bd} {p : Pr} (ha : TmOk U s (p.1.on s)) (hb : TmOk U s (p.2.on s)) (h1 : isVar (p.1.on s).name = false) (h2 : isVar (p.2.on s).name = true) : Turned U s p (p.2.on s) (p.1.on s) := by
  have h0 : ¬ (2000 < (p.1.on s).size ∨ 2000 < (p.2.on s).size) := by have := ha.siz; have := hb.siz; omega
  refine ⟨hb, ha, .inl ⟨h2, ?_⟩⟩
  unfold stepU
  rw [if_neg h0, if_neg (by rw [h1]; simp), if_neg (by rw [h1]; simp), if_pos h2]
theorem unifyOf_a (U : List ByteArray) (hU : U.length ≤ 20000) (C0 : Nat) (hC0 : C0 ≤ 100000000000) (n : Nat) (l : List Pr) (r : List Bd × Int) (hr : UEnds n [] l r) (hg : UGood U C0 [] l) : ACalls Tryz.prog 38 [aPrs l] (.tup [aBds r.1, aInt r.2]) := by
  refine ac_R_UnifyOf (Nat.le_of_ble_eq_true rfl) fun C hC => ?_
  unfold ir_R_UnifyOf
  repeat' (first | (with_reducible first | refine W ?_ | refine Wk (by decide) ?_) | ((with_reducible first | refine Wo (fun K hK => ?_) | refine Wp ?_ | refine Wq ?_ | refine Wr ?_); (try simp only [go_sem, fN, ↓gI, ↓pI, seval, eT, iR, dT, dF, nL]); (repeat with_reducible refine And.intro (by first | omega | exact lens | (simp [maxLen_eq] <;> omega)) ?_); (try (refine hK _ ?_; clear hK K)); (try with_reducible refine iC ?_)))
  refine IWP.loop (fun m x => ∃ s l, UEnds m s l r ∧ UGood U C0 s l ∧ outV x.S (x.env 0) = some (aPrs l) ∧ outV x.S (x.env 4) = some (aBds s) ∧ ∀ i, 1000 ≤ i → x.S i = none) n ⟨[], l, hr, hg, rfl, rfl, fun _ _ => rfl⟩ ?_
  rintro m ⟨env0, S0⟩ ⟨s, l, hr, hg, o0, o4, h1000⟩
  refine IWP.ghost (Ghost.settle 0 o0) ?_
  refine IWP.ghost (Ghost.settle 4 (v := aBds s) o4) ?_
  refine IWP.fresh h1000 fun env henv => ?_
  have e0 : env 0 = aPrs l := henv 0 _ rfl
  have e4 : env 4 = aBds s := henv 4 _ rfl
  clear henv o0 o4 h1000 env0 S0
  cases l with
  | nil =>
    cases hr
    repeat' (first | (with_reducible first | refine W ?_ | refine Wk (by decide) ?_) | ((with_reducible first | refine Wo (fun K hK => ?_) | refine Wp ?_ | refine Wq ?_ | refine Wr ?_); (try simp only [go_sem, fN, ↓gI, ↓pI, seval, eT, iR, e0, e4, dT, dF, nL]); (repeat with_reducible refine And.intro (by first | omega | exact lens | (simp [maxLen_eq] <;> omega)) ?_); (try (refine hK _ ?_; clear hK K)); (try with_reducible refine iC ?_)))
    simp only [go_sem, fN, ↓gI, ↓pI, seval, FinQ, AS.result, resAll, resOne, tupV]
  | cons p l =>
    have hinv := uends_inv hr
    obtain ⟨hc1, hc2⟩ := hg.lchk p (by simp)
    have hUp := hg.lU p (by simp)
    obtain ⟨hz1, hz2⟩ := hg.lsiz p (by simp)
    obtain ⟨a1, a2, a3⟩ := onU hg hc1 fun y => (hUp y).1
    obtain ⟨b1, b2, b3⟩ := onU hg hc2 fun y => (hUp y).2
    have hl0 : (0 : Int) < ((l.length + 1 : Nat) : Int) := by omega
    by_cases ha : (p.1.on s).size ≤ 2000
    case neg =>
      have he : onTo s p.1 = (Tm.nil, false) := by unfold onTo; rw [if_neg ha]
      have hst : stepU s p = .err 8 := by unfold stepU; rw [if_pos (by omega)]
      repeat' (first | (with_reducible first | refine W ?_ | refine Wk (by decide) ?_) | refine Cg _ (onRef_a s p.1 (by omega)) ?_ | ((with_reducible first | refine Wo (fun K hK => ?_) | refine Wp ?_ | refine Wq ?_ | refine Wr ?_); (try simp only [go_sem, fN, ↓gI, ↓pI, seval, eT, iR, e0, e4, hl0, encP, he, dT, dF, nL]); (repeat with_reducible refine And.intro (by first | omega | exact lens | (simp [maxLen_eq] <;> omega)) ?_); (try (refine hK _ ?_; clear hK K)); (try with_reducible refine iC ?_)))
      simp only [go_sem, fN, ↓gI, ↓pI, seval, FinQ, AS.result, resAll, resOne, tupV]
      rcases hinv with ⟨e, h1, rfl⟩ | ⟨s', ps, q, h1, _⟩
      · rw [hst] at h1
        cases h1
        rfl
      · rw [hst] at h1
        cases h1
    by_cases hb : (p.2.on s).size ≤ 2000
    case neg =>
      have he : onTo s p.1 = (p.1.on s, true) := by unfold onTo; rw [if_pos ha]
      have he2 : onTo s p.2 = (Tm.nil, false) := by unfold onTo; rw [if_neg hb]
      have hst : stepU s p = .err 8 := by unfold stepU; rw [if_pos (by omega)]
      repeat' (first | (with_reducible first | refine W ?_ | refine Wk (by decide) ?_) | refine Cg _ (onRef_a s p.1 (by omega)) ?_ | refine Cg _ (onRef_a s p.2 (by omega)) ?_ | ((with_reducible first | refine Wo (fun K hK => ?_) | refine Wp ?_ | refine Wq ?_ | refine Wr ?_); (try simp only [go_sem, fN, ↓gI, ↓pI, seval, eT, iR, e0, e4, hl0, encP, he, he2, dT, dF, nL]); (repeat with_reducible refine And.intro (by first | omega | exact lens | (simp [maxLen_eq] <;> omega)) ?_); (try (refine hK _ ?_; clear hK K)); (try with_reducible refine iC ?_)))
      simp only [go_sem, fN, ↓gI, ↓pI, seval, FinQ, AS.result, resAll, resOne, tupV]
      rcases hinv with ⟨e, h1, rfl⟩ | ⟨s', ps, q, h1, _⟩
      · rw [hst] at h1
        cases h1
        rfl
      · rw [hst] at h1
        cases h1
    have he : onTo s p.1 = (p.1.on s, true) := by unfold onTo; rw [if_pos ha]
    have he2 : onTo s p.2 = (p.2.on s, true) := by unfold onTo; rw [if_pos hb]
    have htk : List.take l.length (List.map encP l) = l.map encP := List.take_of_length_le (by simp)
    have hta : TmOk U s (p.1.on s) := ⟨a1, ha, a2, a3⟩
    have htb : TmOk U s (p.2.on s) := ⟨b1, hb, b2, b3⟩
    repeat' (first | (with_reducible first | refine W ?_ | refine Wk (by decide) ?_) | refine Cg _ (onRef_a s p.1 (by omega)) ?_ | refine Cg _ (onRef_a s p.2 (by omega)) ?_ | ((with_reducible first | refine Wo (fun K hK => ?_) | refine Wp ?_ | refine Wq ?_ | refine Wr ?_); (try simp only [go_sem, fN, ↓gI, ↓pI, seval, eT, iR, e0, e4, hl0, encP, he, he2, dT, dF, nL]); (repeat with_reducible refine And.intro (by first | omega | exact lens | (simp [maxLen_eq] <;> omega)) ?_); (try (refine hK _ ?_; clear hK K)); (try with_reducible refine iC ?_)))
    refine ⟨_, isVar_a _, ?_⟩
    by_cases hsame : isVar (p.1.on s).name = true ∧ (p.1.on s).name = (p.2.on s).name
    · have hst : stepU s p = .go s [] := by unfold stepU; rw [if_neg (by omega), if_pos hsame]
      have hsv : isVar (p.2.on s).name = true := by rw [← hsame.2]; exact hsame.1
      repeat' (first | (with_reducible first | refine W ?_ | refine Wk (by decide) ?_) | ((with_reducible first | refine Wo (fun K hK => ?_) | refine Wp ?_ | refine Wq ?_ | refine Wr ?_); (try simp only [go_sem, fN, ↓gI, ↓pI, seval, eT, iR, hsame.1, hsv, hsame.2, e0, e4, dT, dF, nL]); (repeat with_reducible refine And.intro (by first | omega | exact lens | (simp [maxLen_eq] <;> omega)) ?_); (try (refine hK _ ?_; clear hK K)); (try with_reducible refine iC ?_)))
      rcases hinv with ⟨e, h1, _⟩ | ⟨s', ps, q, h1, h2, h3⟩
      · rw [hst] at h1
        cases h1
      rw [hst] at h1
      cases h1
      refine then_normal ⟨q, h2, s, l, h3, hg.tail, ?_, ?_, fun i hi => ?_⟩
      · simp only [go_sem, fN, ↓gI, ↓pI, seval, eT, iR, htk]
      · simp only [go_sem, fN, ↓gI, ↓pI, seval, eT, iR, e4]
      · have i5 : ¬ i = 5 := by omega
        have i7 : ¬ i = 7 := by omega
        simp only [go_sem, fN, ↓gI, ↓pI, seval, eT, iR, i5, i7]
    apply once
    · intro rest
      cases hv : isVar (p.1.on s).name with
      | true =>
        have hne : ¬ (p.1.on s).name = (p.2.on s).name := fun h => hsame ⟨hv, h⟩
        repeat' (first | (with_reducible first | refine W ?_ | refine Wk (by decide) ?_) | ((with_reducible first | refine Wo (fun K hK => ?_) | refine Wq ?_ | refine Wr ?_); (try simp only [go_sem, fN, ↓gI, ↓pI, seval, eT, iR, hv, hne]); (repeat with_reducible refine And.intro (by first | omega | exact lens | (simp [maxLen_eq] <;> omega)) ?_); (try (with_reducible refine hK _ ?_; skip))))
        with_reducible refine Wp ?_
        simp only [go_sem, fN, ↓gI, ↓pI, seval, true_implies, false_implies, implies_true, dT, dF, nL]
        (try with_reducible refine iC ?_)
        refine Wd ?_
        refine Wb ?_
        refine IWP.mid (fun x => ∃ u t, Turned U s p u t ∧ x.env 0 = aPrs l ∧ x.env 4 = aBds s ∧ x.env 5 = .one (.ptr 5 1 0 0) ∧ x.env 7 = .one (.ptr 7 1 0 0) ∧ x.S 5 = some (boxT u) ∧ x.S 7 = some (boxT t) ∧ ∀ i, i ≠ 5 → i ≠ 7 → x.S i = none) ?_ rest
        repeat' (first | (with_reducible first | refine W ?_ | refine Wk (by decide) ?_) | ((with_reducible first | refine Wo (fun K hK => ?_) | refine Wp ?_ | refine Wq ?_ | refine Wr ?_); (try simp only [go_sem, fN, ↓gI, ↓pI, seval, eT, iR, dT, dF, nL]); (repeat with_reducible refine And.intro (by first | omega | exact lens | (simp [maxLen_eq] <;> omega)) ?_); (try (with_reducible refine hK _ ?_; skip)); (try with_reducible refine iC ?_)))
        refine ⟨_, isVar_a _, ?_⟩
        repeat' (first | (with_reducible first | refine W ?_ | refine Wk (by decide) ?_) | ((with_reducible first | refine Wo (fun K hK => ?_) | refine Wp ?_ | refine Wq ?_ | refine Wr ?_); (try simp only [go_sem, fN, ↓gI, ↓pI, seval, eT, iR, hv, dT, dF, nL]); (repeat with_reducible refine And.intro (by first | omega | exact lens | (simp [maxLen_eq] <;> omega)) ?_); (try (with_reducible refine hK _ ?_; skip)); (try with_reducible refine iC ?_)))
        refine ⟨rfl, _, _, turned_a hta htb hsame (.inl hv), ?_⟩
        simp only [go_sem, fN, ↓gI, ↓pI, seval, eT, iR, e0, e4, htk]
        exact fun i h5 h7 => by (simp only [go_sem, fN, ↓gI, ↓pI, seval, eT, iR, h5, h7])
      | false =>
        repeat' (first | (with_reducible first | refine W ?_ | refine Wk (by decide) ?_) | ((with_reducible first | refine Wo (fun K hK => ?_) | refine Wq ?_ | refine Wr ?_); (try simp only [go_sem, fN, ↓gI, ↓pI, seval, eT, iR, hv]); (repeat with_reducible refine And.intro (by first | omega | exact lens | (simp [maxLen_eq] <;> omega)) ?_); (try (with_reducible refine hK _ ?_; skip))))
        with_reducible refine Wp ?_
        simp only [go_sem, fN, ↓gI, ↓pI, seval, true_implies, false_implies, implies_true, dT, dF, nL]
        (try with_reducible refine iC ?_)
        refine Wd ?_
        refine Wb ?_
        refine IWP.mid (fun x => ∃ u t, Turned U s p u t ∧ x.env 0 = aPrs l ∧ x.env 4 = aBds s ∧ x.env 5 = .one (.ptr 5 1 0 0) ∧ x.env 7 = .one (.ptr 7 1 0 0) ∧ x.S 5 = some (boxT u) ∧ x.S 7 = some (boxT t) ∧ ∀ i, i ≠ 5 → i ≠ 7 → x.S i = none) ?_ rest
        repeat' (first | (with_reducible first | refine W ?_ | refine Wk (by decide) ?_) | ((with_reducible first | refine Wo (fun K hK => ?_) | refine Wp ?_ | refine Wq ?_ | refine Wr ?_); (try simp only [go_sem, fN, ↓gI, ↓pI, seval, eT, iR, dT, dF, nL]); (repeat with_reducible refine And.intro (by first | omega | exact lens | (simp [maxLen_eq] <;> omega)) ?_); (try (with_reducible refine hK _ ?_; skip)); (try with_reducible refine iC ?_)))
        refine ⟨_, isVar_a _, ?_⟩
        repeat' (first | (with_reducible first | refine W ?_ | refine Wk (by decide) ?_) | ((with_reducible first | refine Wo (fun K hK => ?_) | refine Wp ?_ | refine Wq ?_ | refine Wr ?_); (try simp only [go_sem, fN, ↓gI, ↓pI, seval, eT, iR, hv, dT, dF, nL]); (repeat with_reducible refine And.intro (by first | omega | exact lens | (simp [maxLen_eq] <;> omega)) ?_); (try (with_reducible refine hK _ ?_; skip)); (try with_reducible refine iC ?_)))
        refine ⟨_, isVar_a _, ?_⟩
        cases hw : isVar (p.2.on s).name with
        | true =>
          repeat' (first | (with_reducible first | refine W ?_ | refine Wk (by decide) ?_) | ((with_reducible first | refine Wo (fun K hK => ?_) | refine Wp ?_ | refine Wq ?_ | refine Wr ?_); (try simp only [go_sem, fN, ↓gI, ↓pI, seval, eT, iR, hv, hw, dT, dF, nL]); (repeat with_reducible refine And.intro (by first | omega | exact lens | (simp [maxLen_eq] <;> omega)) ?_); (try (with_reducible refine hK _ ?_; skip)); (try with_reducible refine iC ?_)))
          refine ⟨rfl, _, _, turned_b hta htb hv hw, ?_⟩
          simp only [go_sem, fN, ↓gI, ↓pI, seval, eT, iR, e0, e4, htk]
          exact fun i h5 h7 => by (simp only [go_sem, fN, ↓gI, ↓pI, seval, eT, iR, h5, h7])
        | false =>
          repeat' (first | (with_reducible first | refine W ?_ | refine Wk (by decide) ?_) | ((with_reducible first | refine Wo (fun K hK => ?_) | refine Wp ?_ | refine Wq ?_ | refine Wr ?_); (try simp only [go_sem, fN, ↓gI, ↓pI, seval, eT, iR, hv, hw, dT, dF, nL]); (repeat with_reducible refine And.intro (by first | omega | exact lens | (simp [maxLen_eq] <;> omega)) ?_); (try (with_reducible refine hK _ ?_; skip)); (try with_reducible refine iC ?_)))
          refine ⟨rfl, _, _, turned_a hta htb hsame (.inr hw), ?_⟩
          simp only [go_sem, fN, ↓gI, ↓pI, seval, eT, iR, e0, e4, htk]
          exact fun i h5 h7 => by (simp only [go_sem, fN, ↓gI, ↓pI, seval, eT, iR, h5, h7])
    rintro ⟨env, S⟩ ⟨u, t, ⟨hu, ht, hst⟩, e0, e4, e5, e7, s5, s7, sno⟩
    simp only at e0 e4 e5 e7 s5 s7 sno
    rcases hst with ⟨hv, hst⟩ | ⟨hv, hst⟩
    · -- a variable
      rw [hst] at hinv
      repeat' (first | (with_reducible first | refine W ?_ | refine Wk (by decide) ?_) | refine Cg _ (isVar_a _) ?_ | refine Cg _ (varsOf_a t (by have := ht.siz; omega)) ?_ | ((with_reducible first | refine Wo (fun K hK => ?_) | refine Wp ?_ | refine Wq ?_ | refine Wr ?_); (try simp only [go_sem, fN, ↓gI, ↓pI, seval, eT, iR, e5, s5, hv, e0, e4, e7, s7, dT, dF, nL]); (repeat with_reducible refine And.intro (by first | omega | exact lens | (simp [maxLen_eq] <;> omega)) ?_); (try (refine hK _ ?_; clear hK K)); (try with_reducible refine iC ?_)))
      refine ⟨_, in_a u.name t.varsOf, ?_⟩
      have hio := isIn_varsOf hv t
      cases ho : occ u.name t with
      | true =>
        have hbv : bindV s u.name t = .err 6 := by unfold bindV; rw [if_pos ho]
        rw [ho] at hio
        repeat' (first | (with_reducible first | refine W ?_ | refine Wk (by decide) ?_) | ((with_reducible first | refine Wo (fun K hK => ?_) | refine Wp ?_ | refine Wq ?_ | refine Wr ?_); (try simp only [go_sem, fN, ↓gI, ↓pI, seval, eT, iR, hio, dT, dF, nL]); (repeat with_reducible refine And.intro (by first | omega | exact lens | (simp [maxLen_eq] <;> omega)) ?_); (try (refine hK _ ?_; clear hK K)); (try with_reducible refine iC ?_)))
        simp only [go_sem, fN, ↓gI, ↓pI, seval, FinQ, AS.result, resAll, resOne, tupV]
        rcases hinv with ⟨e, h1, rfl⟩ | ⟨s', ps, q, h1, _⟩
        · rw [hbv] at h1
          cases h1
          rfl
        · rw [hbv] at h1
          cases h1
      | false =>
        rw [ho] at hio
        repeat' (first | (with_reducible first | refine W ?_ | refine Wk (by decide) ?_) | ((with_reducible first | refine Wo (fun K hK => ?_) | refine Wp ?_ | refine Wq ?_ | refine Wr ?_); (try simp only [go_sem, fN, ↓gI, ↓pI, seval, eT, iR, hio, e0, e4, e5, e7, s5, s7, dT, dF, nL]); (repeat with_reducible refine And.intro (by first | omega | exact lens | (simp [maxLen_eq] <;> omega)) ?_); (try (refine hK _ ?_; clear hK K)); (try with_reducible refine iC ?_)))
        have hsl : s.length ≤ 20000 := Nat.le_trans hg.len hU
        have s900 : S 900 = none := sno 900 (by omega) (by omega)
        have s11 : S 11 = none := sno 11 (by omega) (by omega)
        refine IWP.ghost (Ghost.own 9 900 118 3 (xs := []) rfl s900 (by simp) (by rw [hC]; decide)) ?_
        refine IWP.loopD [11] (fun m x => ∃ i, i ≤ s.length ∧ m = s.length - i ∧ (∀ c ∈ s.take i, (c.2.on [(u.name, t)]).size ≤ 2000) ∧ x.env 0 = aPrs l ∧ x.env 4 = aBds s ∧ x.env 8 = .one (.full [encB (u.name, t)]) ∧ x.env 9 = .one (.row 900 i) ∧ x.env 10 = aInt i ∧ x.S 900 = some (.arow 118 3 (((s.take i).map fun b => (b.1, b.2.on [(u.name, t)])).map encB)) ∧ x.S 11 = none ∧ ∀ i, 1000 ≤ i → x.S i = none)
          s.length ⟨0, Nat.zero_le _, rfl, by simp, ?_⟩ ?_
        · simp only [go_sem, fN, ↓gI, ↓pI, seval, eT, iR, e0, e4, encB]
          refine ⟨s11, fun i hi => ?_⟩
          have i9 : ¬ i = 900 := by omega
          simp only [go_sem, fN, ↓gI, ↓pI, seval, eT, iR, i9]
          exact sno i (by omega) (by omega)
        rintro mm ⟨env2, S2⟩ ⟨i, hi, rfl, h20, e0, e4, e8, e9, e10, s900, s11, sno⟩
        simp only at e0 e4 e8 e9 e10 s900 s11 sno
        have hli : (s.take i).length = i := by rw [List.length_take]; omega
        by_cases hlt : (i : Int) < s.length
        · obtain ⟨b, hb⟩ := get_lt (show i < s.length by omega)
          have hbz := hg.siz b (mem_of_get hb)
          repeat' (first | (with_reducible first | refine W ?_ | refine Wk (by decide) ?_) | ((with_reducible first | refine Wo (fun K hK => ?_) | refine Wp ?_ | refine Wq ?_ | refine Wr ?_); (try simp only [go_sem, fN, ↓gI, ↓pI, seval, eT, iR, e0, e4, e8, e9, e10, s11, hlt, hb, encB, dT, dF, nL]); (repeat with_reducible refine And.intro (by first | omega | exact lens | (simp [maxLen_eq] <;> omega)) ?_); (try (refine hK _ ?_; clear hK K)); (try with_reducible refine iC ?_)))
          refine ⟨_, onRef_a [(u.name, t)] b.2 (by omega), ?_⟩
          by_cases hz : (b.2.on [(u.name, t)]).size ≤ 2000
          · have hon : onTo [(u.name, t)] b.2 = (b.2.on [(u.name, t)], true) := by unfold onTo; rw [if_pos hz]
            repeat' (first | (with_reducible first | refine W ?_ | refine Wk (by decide) ?_) | ((with_reducible first | refine Wo (fun K hK => ?_) | refine Wp ?_ | refine Wq ?_ | refine Wr ?_); (try simp only [go_sem, fN, ↓gI, ↓pI, seval, eT, iR, hon, e0, e4, e8, e9, e10, s900, s11, hb, hli, encB, dT, dF, nL]); (repeat with_reducible refine And.intro (by first | omega | exact lens | (simp [maxLen_eq] <;> omega)) ?_); (try (refine hK _ ?_; clear hK K)); (try with_reducible refine iC ?_)))
            refine then_normal ⟨s.length - (i + 1), by omega, i + 1, by omega, rfl, fun c hc => ?_, ?_⟩
            · rw [take_snoc hb] at hc
              rcases List.mem_append.1 hc with hc | hc
              · exact h20 c hc
              · rw [List.mem_singleton.1 hc]; exact hz
            · simp only [go_sem, fN, ↓gI, ↓pI, seval, AS.drop, dropS, AC.clears, AC.clear, AC.highs, AC.high, Bool.not_false, Bool.true_and, Bool.and_self, AV.purge, AV.purges, AC.purge, ABlk.purge, List.contains_cons, List.contains_nil, Nat.reduceBEq, Bool.or_self, Bool.or_false, Bool.false_or, Bool.or_true, eT, iR, e0, e4, e8, e9, e10, s900, s11]
              refine ⟨rfl, by congr 3, ?_, fun j hj => ?_⟩
              · rw [take_snoc hb, List.map_append, List.map_append]
                rfl
              · have j11b : (j == 11) = false := by simp; omega
                have j11 : ¬ j = 11 := by omega
                have j900 : ¬ j = 900 := by omega
                simp only [go_sem, fN, ↓gI, ↓pI, seval, AS.drop, dropS, AC.clears, AC.clear, AC.highs, AC.high, Bool.not_false, Bool.true_and, Bool.and_self, AV.purge, AV.purges, AC.purge, ABlk.purge, List.contains_cons, List.contains_nil, Nat.reduceBEq, Bool.or_self, Bool.or_false, Bool.false_or, Bool.or_true, eT, iR, j11b, j11, j900]
                rw [sno j hj]
                rfl
          · have hon : onTo [(u.name, t)] b.2 = (Tm.nil, false) := by unfold onTo; rw [if_neg hz]
            have hbv : bindV s u.name t = .err 8 := by
              unfold bindV
              rw [if_neg (by rw [ho]; simp), if_neg]
              intro hall
              have := List.all_eq_true.1 hall b (mem_of_get hb)
              exact hz (by simpa using this)
            repeat' (first | (with_reducible first | refine W ?_ | refine Wk (by decide) ?_) | ((with_reducible first | refine Wo (fun K hK => ?_) | refine Wp ?_ | refine Wq ?_ | refine Wr ?_); (try simp only [go_sem, fN, ↓gI, ↓pI, seval, eT, iR, hon, dT, dF, nL]); (repeat with_reducible refine And.intro (by first | omega | exact lens | (simp [maxLen_eq] <;> omega)) ?_); (try (refine hK _ ?_; clear hK K)); (try with_reducible refine iC ?_)))
            simp only [go_sem, fN, ↓gI, ↓pI, seval, FinQ, AS.result, resAll, resOne, tupV]
            rcases hinv with ⟨e, h1, rfl⟩ | ⟨s', ps, q, h1, _⟩
            · rw [hbv] at h1
              cases h1
              rfl
            · rw [hbv] at h1
              cases h1
        · have hall : s.take i = s := List.take_of_length_le (by omega)
          obtain rfl : i = s.length := by omega
          rw [hall] at s900 h20
          have hbv : bindV s u.name t = .go (sortB (s.map (fun b => (b.1, b.2.on [(u.name, t)])) ++ [(u.name, t)])) [] := by
            unfold bindV
            rw [if_neg (by rw [ho]; simp), if_pos]
            exact List.all_eq_true.2 fun b hb => by simpa using h20 b hb
          obtain ⟨hg', _⟩ := step_good hg (hst.trans hbv)
          rcases hinv with ⟨e, h1, _⟩ | ⟨s', ps, q, h1, h2, h3⟩
          · rw [hbv] at h1
            cases h1
          rw [hbv] at h1
          cases h1
          have hnamed := named_perm (sortB_perm _) (ordered_named hg'.ord)
          have hL : (s.map (fun b => (b.1, b.2.on [(u.name, t)]))).map encB ++ [[SV.str u.name, SV.str t.name, SV.list (t.args.map encT)]] = (s.map (fun b => (b.1, b.2.on [(u.name, t)])) ++ [(u.name, t)]).map encB := by
            rw [List.map_append]
            rfl
          repeat' (first | (with_reducible first | refine W ?_ | refine Wk (by decide) ?_) | ((with_reducible first | refine Wo (fun K hK => ?_) | refine Wp ?_ | refine Wq ?_ | refine Wr ?_); (try simp only [go_sem, fN, ↓gI, ↓pI, seval, eT, iR, e0, e4, e8, e9, e10, s900, hlt, encB, dT, dF, nL]); (repeat with_reducible refine And.intro (by first | omega | exact lens | (simp [maxLen_eq] <;> omega)) ?_); (try (refine hK _ ?_; clear hK K)); (try with_reducible refine iC ?_)))
          rw [hL]
          refine ⟨_, sortedR_a _ hnamed (by simp; omega), ?_⟩
          repeat' (first | (with_reducible first | refine W ?_ | refine Wk (by decide) ?_) | ((with_reducible first | refine Wo (fun K hK => ?_) | refine Wp ?_ | refine Wq ?_ | refine Wr ?_); (try simp only [go_sem, fN, ↓gI, ↓pI, seval, eT, iR, e0, dT, dF, nL]); (repeat with_reducible refine And.intro (by first | omega | exact lens | (simp [maxLen_eq] <;> omega)) ?_); (try (refine hK _ ?_; clear hK K)); (try with_reducible refine iC ?_)))
          refine then_normal ⟨q, h2, _, l, h3, hg', ?_, ?_, fun j hj => ?_⟩
          · simp only [go_sem, fN, ↓gI, ↓pI, seval, eT, iR, e0]
          · simp only [go_sem, fN, ↓gI, ↓pI, seval, eT, iR]
          · have j900 : ¬ j = 900 := by omega
            simp only [go_sem, fN, ↓gI, ↓pI, seval, eT, iR, j900]
            exact sno j hj
    · -- two knots
      rw [hst] at hinv
      have husz := ht.siz
      have huk := Tm.length_le u.args
      have hus := Tm.size_eq u
      have husz := hu.siz
      by_cases hsame : u.name = t.name ∧ u.args.length = t.args.length
      · rw [if_pos hsame] at hst hinv
        obtain ⟨hg', _⟩ := step_good hg hst
        rcases hinv with ⟨e, h1, _⟩ | ⟨s', ps, q, h1, h2, h3⟩
        · cases h1
        cases h1
        have hargs : (u.args.length : Int) = t.args.length := by rw [hsame.2]
        repeat' (first | (with_reducible first | refine W ?_ | refine Wk (by decide) ?_) | ((with_reducible first | refine Wo (fun K hK => ?_) | refine Wp ?_ | refine Wq ?_ | refine Wr ?_); (try simp only [go_sem, fN, ↓gI, ↓pI, seval, eT, iR, e5, s5, dT, dF, nL]); (repeat with_reducible refine And.intro (by first | omega | exact lens | (simp [maxLen_eq] <;> omega)) ?_); (try (refine hK _ ?_; clear hK K)); (try with_reducible refine iC ?_)))
        refine ⟨_, isVar_a _, ?_⟩
        have hvt : isVar t.name = false := by rw [← hsame.1]; exact hv
        repeat' (first | (with_reducible first | refine W ?_ | refine Wk (by decide) ?_) | ((with_reducible first | refine Wo (fun K hK => ?_) | refine Wp ?_ | refine Wq ?_ | refine Wr ?_); (try simp only [go_sem, fN, ↓gI, ↓pI, seval, eT, iR, hv, hvt, e0, e4, e5, e7, s5, s7, hsame.1, hsame.2, dT, dF, nL]); (repeat with_reducible refine And.intro (by first | omega | exact lens | (simp [maxLen_eq] <;> omega)) ?_); (try (refine hK _ ?_; clear hK K)); (try with_reducible refine iC ?_)))
        have s901 : S 901 = none := sno 901 (by omega) (by omega)
        refine IWP.ghost (Ghost.own 13 901 114 4 (xs := []) rfl s901 (by simp) (by rw [hC]; decide)) ?_
        refine IWP.loop (fun m x => ∃ i, i ≤ u.args.length ∧ m = u.args.length - i ∧ x.env 0 = aPrs l ∧ x.env 4 = aBds s ∧ x.env 5 = .one (.ptr 5 1 0 0) ∧ x.env 7 = .one (.ptr 7 1 0 0) ∧ x.env 13 = .one (.row 901 i) ∧ x.env 14 = aInt i ∧ x.S 5 = some (boxT u) ∧ x.S 7 = some (boxT t) ∧ x.S 901 = some (.arow 114 4 (((u.args.zip t.args).take i).map encP)) ∧ ∀ i, 1000 ≤ i → x.S i = none)
          u.args.length ⟨0, Nat.zero_le _, rfl, ?_⟩ ?_
        · simp only [go_sem, fN, ↓gI, ↓pI, seval, eT, iR, e0, e4, e5, e7, s5, s7]
          intro i hi
          have i9 : ¬ i = 901 := by omega
          simp only [go_sem, fN, ↓gI, ↓pI, seval, eT, iR, i9]
          exact sno i (by omega) (by omega)
        have hzl : (u.args.zip t.args).length = u.args.length := by rw [List.length_zip, hsame.2, Nat.min_self]
        have hstk : l.length ≤ 100000000000 := by have := hg.stack; rw [List.length_cons] at this; omega
        rintro mm ⟨env2, S2⟩ ⟨i, hi, rfl, e0, e4, e5, e7, e13, e14, s5, s7, s901, sno⟩
        simp only at e0 e4 e5 e7 e13 e14 s5 s7 s901 sno
        have hli : ((u.args.zip t.args).take i).length = i := by rw [List.length_take]; omega
        by_cases hlt : (i : Int) < u.args.length
        · obtain ⟨a, ha⟩ := get_lt (show i < u.args.length by omega)
          obtain ⟨c, hc⟩ := get_lt (show i < t.args.length by omega)
          have hac : (u.args.zip t.args)[i]? = some (a, c) := List.getElem?_zip_eq_some.2 ⟨ha, hc⟩
          repeat' (first | (with_reducible first | refine W ?_ | refine Wk (by decide) ?_) | ((with_reducible first | refine Wo (fun K hK => ?_) | refine Wp ?_ | refine Wq ?_ | refine Wr ?_); (try simp only [go_sem, fN, ↓gI, ↓pI, seval, eT, iR, e0, e4, e5, e7, e13, e14, s5, s7, s901, hlt, ha, hc, hli, encP, dT, dF, nL]); (repeat with_reducible refine And.intro (by first | omega | exact lens | (simp [maxLen_eq] <;> omega)) ?_); (try (refine hK _ ?_; clear hK K)); (try with_reducible refine iC ?_)))
          refine then_normal ⟨u.args.length - (i + 1), by omega, i + 1, by omega, rfl, ?_⟩
          simp only [go_sem, fN, ↓gI, ↓pI, seval, eT, iR, e0, e4, e5, e7, e13, e14, s5, s7, s901]
          refine ⟨by congr 3, ?_, fun j hj => ?_⟩
          · rw [take_snoc hac, List.map_append]
            rfl
          · have j901 : ¬ j = 901 := by omega
            simp only [go_sem, fN, ↓gI, ↓pI, seval, eT, iR, j901]
            exact sno j hj
        · obtain rfl : i = u.args.length := by omega
          have hall : (u.args.zip t.args).take u.args.length = u.args.zip t.args := List.take_of_length_le (by omega)
          rw [hall] at s901 hli
          repeat' (first | (with_reducible first | refine W ?_ | refine Wk (by decide) ?_) | ((with_reducible first | refine Wo (fun K hK => ?_) | refine Wp ?_ | refine Wq ?_ | refine Wr ?_); (try simp only [go_sem, fN, ↓gI, ↓pI, seval, eT, iR, e0, e4, e5, e7, e13, e14, s5, s7, s901, hlt, hli, encP, dT, dF, nL]); (repeat with_reducible refine And.intro (by first | omega | exact lens | (simp [maxLen_eq] <;> omega)) ?_); (try (refine hK _ ?_; clear hK K)); (try with_reducible refine iC ?_)))
          refine then_normal ⟨q, h2, s, u.args.zip t.args ++ l, h3, hg', ?_, ?_, fun j hj => ?_⟩
          · simp only [go_sem, fN, ↓gI, ↓pI, seval, eT, iR, hzl]
            rw [← List.map_append]
          · simp only [go_sem, fN, ↓gI, ↓pI, seval, eT, iR, e4]
          · have j901 : ¬ j = 901 := by omega
            simp only [go_sem, fN, ↓gI, ↓pI, seval, eT, iR, j901]
            exact sno j hj
      · rw [if_neg hsame] at hst hinv
        repeat' (first | (with_reducible first | refine W ?_ | refine Wk (by decide) ?_) | ((with_reducible first | refine Wo (fun K hK => ?_) | refine Wp ?_ | refine Wq ?_ | refine Wr ?_); (try simp only [go_sem, fN, ↓gI, ↓pI, seval, eT, iR, e5, s5, dT, dF, nL]); (repeat with_reducible refine And.intro (by first | omega | exact lens | (simp [maxLen_eq] <;> omega)) ?_); (try (refine hK _ ?_; clear hK K)); (try with_reducible refine iC ?_)))
        refine ⟨_, isVar_a _, ?_⟩
        by_cases hn : u.name = t.name
        · have hl : ¬ (u.args.length : Int) = t.args.length := fun h => hsame ⟨hn, by omega⟩
          have hvt : isVar t.name = false := by rw [← hn]; exact hv
          repeat' (first | (with_reducible first | refine W ?_ | refine Wk (by decide) ?_) | ((with_reducible first | refine Wo (fun K hK => ?_) | refine Wp ?_ | refine Wq ?_ | refine Wr ?_); (try simp only [go_sem, fN, ↓gI, ↓pI, seval, eT, iR, hv, hvt, e0, e4, e5, e7, s5, s7, hn, hl, dT, dF, nL]); (repeat with_reducible refine And.intro (by first | omega | exact lens | (simp [maxLen_eq] <;> omega)) ?_); (try (refine hK _ ?_; clear hK K)); (try with_reducible refine iC ?_)))
          simp only [go_sem, fN, ↓gI, ↓pI, seval, FinQ, AS.result, resAll, resOne, tupV]
          rcases hinv with ⟨e, h1, rfl⟩ | ⟨s', ps, q, h1, _⟩
          · cases h1
            rfl
          · cases h1
        · repeat' (first | (with_reducible first | refine W ?_ | refine Wk (by decide) ?_) | ((with_reducible first | refine Wo (fun K hK => ?_) | refine Wp ?_ | refine Wq ?_ | refine Wr ?_); (try simp only [go_sem, fN, ↓gI, ↓pI, seval, eT, iR, hv, e0, e4, e5, e7, s5, s7, hn, dT, dF, nL]); (repeat with_reducible refine And.intro (by first | omega | exact lens | (simp [maxLen_eq] <;> omega)) ?_); (try (refine hK _ ?_; clear hK K)); (try with_reducible refine iC ?_)))
          simp only [go_sem, fN, ↓gI, ↓pI, seval, FinQ, AS.result, resAll, resOne, tupV]
          rcases hinv with ⟨e, h1, rfl⟩ | ⟨s', ps, q, h1, _⟩
          · cases h1
            rfl
          · cases h1
end Go.Proofs.YtehnjhkndbcmgaaGreatDoor
