/-
  Part 10 of the texts. Conditions: none.
-/
import Derived.Test.YtkegjgodjigjfaaAuM9
namespace Go.Proofs.Ytkegjgodjigjfaa
open Go Go.RowKit
set_option maxRecDepth 100000
def Gx:IR :=
 (.seq (.ops [.i 3 (.box 25 (.t 0)),.i 6 (.mov (.c (.one (.st (.int .u64 0)))))]) (.seq (.ops [.i 7 (.mov (.c (.one (.st (.int .u64 0)))))]) (.seq (.seq (.ops [.f 13 1 3,.l 14 13,.i 15 (.len false (.t 14)),.i 16 (.mov (.n 0))]) (.block 0 (.loop (.seq (.ops [.i 17 (.bin .lss (.t 16) (.t 15))]) (.seq (.cond (.t 17) .skip (.exit 0)) (.seq (.block 1 (.seq (.ops [.i 18 (.indexAddr 3 (.t 14) (.t 16)),.L 19 3 18,.i 9 (.alloc 46 [.st (.str (ByteArray.mk (#[]))),.full [],.st (.int .i64 0)]),.s 3 9 19]) (.seq (.seq (.ops [.f 20 0 9,.l 21 20,.m 22 1,.i 23 (.bin .neq (.t 21) (.t 22)),.m 24 23,.mk (some 25) (some (24,false)) (.fieldAddr 1 (.t 9)) .no,.mk (some 26) (some (24,false)) (.load false 1 (.t 25)) .no,.mk (some 27) (some (24,false)) (.len false (.t 26)) .no,.mk (some 28) (some (24,false)) (.mov (.t 2)) .no,.mk (some 29) (some (24,false)) (.len false (.t 28)) .no,.mk (some 30) (some (24,false)) (.bin .neq (.t 27) (.t 29)) .no,.i 31 (.pick (.t 24) (.c (.one (.st (.bool true)))) (.t 30))]) (.cond (.t 31) (.exit 1) .skip)) (.seq (.ops [.i 10 (.mov (.c (.one (.st (.bool true)))))]) (.seq (.seq (.ops [.f 32 1 9,.l 33 32,.i 34 (.len false (.t 33)),.i 35 (.mov (.n 0))]) (.block 2 (.loop (.seq (.ops [.i 36 (.bin .lss (.t 35) (.t 34))]) (.seq (.cond (.t 36) .skip (.exit 2)) (.seq (.block 3 (.seq (.ops [.m 37 35,.i 38 (.indexAddr 1 (.t 33) (.t 35)),.l 39 38,.m 11 37,.m 12 39]) (.ops [.m 40 10,.m 41 40,.mk (some 42) (some (41,true)) (.mov (.t 2)) .no,.mk (some 43) (some (41,true)) (.mov (.t 11)) .no,.mk (some 44) (some (41,true)) (.indexAddr 1 (.t 42) (.t 43)) .no,.mk (some 45) (some (41,true)) (.load false 1 (.t 44)) .no,.mk (some 46) (some (41,true)) (.mov (.t 12)) .no,.mk (some 47) (some (41,true)) (.bits .shr (.t 45) (.t 46)) .no,.mk (some 48) (some (41,true)) (.bits .and (.t 47) (.c (.one (.st (.int .u64 1))))) .no,.mk (some 49) (some (41,true)) (.bin .eql (.t 48) (.c (.one (.st (.int .u64 1))))) .no,.i 50 (.pick (.t 41) (.t 49) (.c (.one (.st (.bool false))))),.m 10 50]))) (.ops [.i 51 (.bin .add (.t 35) (.n 1)),.m 35 51]))))))) (.seq (.ops [.m 52 10]) (.cond (.t 52) (.ops [.m 53 7,.f 54 2 9,.l 55 54,.i 56 (.bits .shl (.c (.one (.st (.int .u64 1)))) (.t 55)),.i 57 (.bits .or (.t 53) (.t 56)),.m 7 57]) .skip))))))) (.ops [.i 58 (.bin .add (.t 16) (.n 1)),.m 16 58]))))))) (.seq (.ops [.m 59 7,.m 6 59]) .ret))))
theorem MI:OkF Try.prog 36 60 [90000047] Gx [.t 6]:=.of Try.func36 rfl rfl (by kernel_rfl) rfl
def J0:IR :=
 (.seq (.ops [.i 2 (.box 25 (.t 0)),.i 3 (.box 39 (.t 1)),.i 4 (.mov (.c (.one (.st (.int .u64 0)))))]) (.seq (.ops [.i 5 (.mov (.c (.one (.full []))))]) (.seq (.seq (.ops [.f 8 1 3,.l 9 8,.i 10 (.len false (.t 9)),.i 11 (.mov (.n 0))]) (.block 0 (.loop (.seq (.ops [.i 12 (.bin .lss (.t 11) (.t 10))]) (.seq (.cond (.t 12) .skip (.exit 0)) (.seq (.block 1 (.seq (.ops [.i 13 (.indexAddr 2 (.t 9) (.t 11)),.L 14 2 13,.i 7 (.alloc 39 [.st (.str (ByteArray.mk (#[]))),.full []]),.s 2 7 14]) (.ops [.m 15 5,.L 16 3 2,.L 17 2 7,.i 18 (.call 48 [.t 16,.t 17]),.i 19 (.buildFlat [.t 18]),.i 20 (.append false 65 1 8 (.t 15) (.t 19)),.m 5 20]))) (.ops [.i 21 (.bin .add (.t 11) (.n 1)),.m 11 21]))))))) (.seq (.ops [.L 22 3 2,.f 23 0 3,.l 24 23,.m 25 5,.i 26 (.call 36 [.t 22,.t 24,.t 25]),.m 4 26]) .ret))))
theorem P4:OkF Try.prog 48 27 [] J0 [.t 4]:=.of Try.func48 rfl rfl (by kernel_rfl) rfl
def G2:IR :=
 (.seq (.ops [.i 1 (.box 25 (.t 0)),.i 2 (.mov (.c (.one (.st (.int .u64 0)))))]) (.seq (.ops [.i 3 (.mov (.c (.one (.st (.int .u64 0)))))]) (.seq (.seq (.ops [.f 6 2 1,.l 7 6,.i 8 (.len false (.t 7)),.i 9 (.mov (.n 0))]) (.block 0 (.loop (.seq (.ops [.i 10 (.bin .lss (.t 9) (.t 8))]) (.seq (.cond (.t 10) .skip (.exit 0)) (.seq (.block 1 (.seq (.ops [.i 11 (.indexAddr 1 (.t 7) (.t 9)),.l 12 11,.m 5 12]) (.ops [.m 13 3,.m 14 5,.i 15 (.bits .shl (.c (.one (.st (.int .u64 1)))) (.t 14)),.i 16 (.bits .or (.t 13) (.t 15)),.m 3 16]))) (.ops [.i 17 (.bin .add (.t 9) (.n 1)),.m 9 17]))))))) (.seq (.ops [.m 18 3,.m 2 18]) .ret))))
theorem L_:OkF Try.prog 33 19 [] G2 [.t 2]:=.of Try.func33 rfl rfl (by kernel_rfl) rfl
def Bq:IR :=
 (.seq (.ops [.i 2 (.box 25 (.t 0)),.i 3 (.box 39 (.t 1)),.i 4 (.mov (.c (.one (.st (.bool false))))),.i 5 (.mov (.n 0))]) (.seq (.ops [.L 7 3 2,.i 8 (.call 34 [.t 7]),.m 6 8]) (.seq (.seq (.ops [.m 9 6,.i 10 (.bin .eql (.t 9) (.n 0))]) (.cond (.t 10) (.ops [.L 11 2 3,.i 12 (.call 46 [.t 11]),.m 6 12]) .skip)) (.seq (.seq (.ops [.m 13 6,.i 14 (.bin .eql (.t 13) (.n 0)),.m 15 14,.mk (some 16) (some (15,true)) (.load true 2 (.t 3)) .no,.mk (some 17) (some (15,true)) (.call 47 [.t 16]) .no,.mk (some 18) (some (15,true)) (.len false (.t 17)) .no,.mk (some 19) (some (15,true)) (.bin .gtr (.t 18) (.n 0)) .no,.i 20 (.pick (.t 15) (.t 19) (.c (.one (.st (.bool false)))))]) (.cond (.t 20) (.ops [.i 6 (.mov (.n 15))]) .skip)) (.seq (.seq (.ops [.m 21 6,.i 22 (.bin .neq (.t 21) (.n 0))]) (.cond (.t 22) (.seq (.ops [.m 23 6,.i 4 (.mov (.c (.one (.st (.bool false))))),.m 5 23]) .ret) .skip)) (.seq (.ops [.L 24 3 2,.L 25 2 3,.i 26 (.call 48 [.t 24,.t 25]),.L 27 3 2,.i 28 (.call 33 [.t 27]),.i 29 (.bits .and (.t 26) (.t 28)),.i 30 (.bin .neq (.t 29) (.c (.one (.st (.int .u64 0))))),.m 4 30,.i 5 (.mov (.n 0))]) .ret))))))
theorem CF:OkF Try.prog 19 31 [] Bq [.t 4,.t 5]:=.of Try.func19 rfl rfl (by kernel_rfl) rfl
def FV:IR :=
 (.seq (.ops [.i 2 (.box 39 (.t 0)),.i 3 (.box 39 (.t 1)),.i 4 (.mov (.c (.one (.st (.bool false)))))]) (.seq (.seq (.ops [.L 6 2 2,.i 7 (.call 60 [.t 6]),.L 8 2 3,.i 9 (.call 60 [.t 8]),.i 10 (.bin .sub (.t 7) (.t 9)),.m 5 10]) (.seq (.ops [.m 11 5,.i 12 (.bin .neq (.t 11) (.n 0))]) (.cond (.t 12) (.seq (.ops [.m 13 5,.i 14 (.bin .lss (.t 13) (.n 0)),.m 4 14]) .ret) .skip))) (.seq (.ops [.L 15 2 2,.i 16 (.call 74 [.t 15]),.L 17 2 3,.i 18 (.call 74 [.t 17]),.i 19 (.bin .lss (.t 16) (.t 18)),.m 4 19]) .ret)))
theorem IT:OkF Try.prog 61 20 [] FV [.t 4]:=.of Try.func61 rfl rfl (by kernel_rfl) rfl
def Fi:IR :=
 (.seq (.ops [.i 1 (.box 25 (.t 0)),.i 2 (.alloc 39 [.st (.str (ByteArray.mk (#[]))),.full []]),.i 3 (.mov (.n 0))]) (.seq (.seq (.ops [.L 15 3 1,.i 16 (.call 34 [.t 15]),.m 4 16]) (.seq (.ops [.m 17 4,.i 18 (.bin .neq (.t 17) (.n 0))]) (.cond (.t 18) (.seq (.ops [.i 19 (.build [.st (.str (ByteArray.mk (#[]))),.full []] []),.m 20 4,.s 2 2 19,.m 3 20]) .ret) .skip))) (.seq (.ops [.f 21 0 1,.l 22 21,.i 23 (.makeSlice 105 1 8 [.lit (.pointer none)] (.t 22) (.t 22)),.m 5 23]) (.seq (.seq (.ops [.i 6 (.mov (.c (.one (.st (.bool true)))))]) (.block 0 (.loop (.seq (.seq (.ops [.m 24 6]) (.cond (.t 24) .skip (.exit 0))) (.block 1 (.seq (.ops [.i 6 (.mov (.c (.one (.st (.bool false)))))]) (.seq (.ops [.f 25 1 1,.l 26 25,.i 27 (.len false (.t 26)),.i 28 (.mov (.n 0))]) (.block 2 (.loop (.seq (.ops [.i 29 (.bin .lss (.t 28) (.t 27))]) (.seq (.cond (.t 29) .skip (.exit 2)) (.seq (.block 3 (.seq (.ops [.i 30 (.indexAddr 3 (.t 26) (.t 28)),.L 31 3 30,.i 8 (.alloc 46 [.st (.str (ByteArray.mk (#[]))),.full [],.st (.int .i64 0)]),.s 3 8 31]) (.seq (.ops [.f 32 0 8,.l 33 32,.i 34 (.build [.st (.str (ByteArray.mk (#[]))),.full []] [(0,1,.t 33)]),.i 9 (.alloc 39 [.st (.str (ByteArray.mk (#[]))),.full []]),.s 2 9 34]) (.seq (.seq (.ops [.f 35 1 8,.l 36 35,.i 37 (.len false (.t 36)),.i 38 (.mov (.n 0))]) (.block 4 (.loop (.seq (.ops [.i 39 (.bin .lss (.t 38) (.t 37))]) (.seq (.cond (.t 39) .skip (.exit 4)) (.seq (.block 5 (.seq (.ops [.i 40 (.indexAddr 1 (.t 36) (.t 38)),.l 41 40,.m 11 41]) (.seq (.seq (.ops [.m 42 5,.m 43 11,.i 44 (.indexAddr 1 (.t 42) (.t 43)),.l 45 44,.i 46 (.eqP false (.t 45))]) (.cond (.t 46) (.seq (.ops [.f 47 0 9,.mk none none (.store 1 (.t 47) (.c (.one (.st (.str (ByteArray.mk (#[]))))))) .no]) (.exit 4)) .skip)) (.ops [.f 48 1 9,.l 49 48,.m 50 5,.m 51 11,.i 52 (.indexAddr 1 (.t 50) (.t 51)),.l 53 52,.i 54 (.nilCheck (.t 53)),.L 55 2 54,.i 56 (.len false (.t 49)),.i 57 (.buildSlice false 39 2 [.c (.agg [.st (.str (ByteArray.mk (#[]))),.full []])]),.i 58 (.append true 39 2 40 (.t 49) (.t 57)),.i 59 (.indexAddr 2 (.t 58) (.t 56)),.mk none none (.store 2 (.t 59) (.t 55)) (.onb 959),.mk (some 60) none (.fieldAddr 1 (.t 9)) (.onb 9),.mk none none (.store 1 (.t 60) (.t 58)) (.onb 9)])))) (.ops [.i 61 (.bin .add (.t 38) (.n 1)),.m 38 61]))))))) (.seq (.seq (.ops [.f 62 0 9,.l 63 62,.i 64 (.bin .eql (.t 63) (.c (.one (.st (.str (ByteArray.mk (#[]))))))),.m 65 64,.mk (some 66) (some (65,false)) (.load true 2 (.t 9)) .no,.mk (some 67) (some (65,false)) (.call 60 [.t 66]) .no,.mk (some 68) (some (65,false)) (.bin .gtr (.t 67) (.n 2000)) .no,.i 69 (.pick (.t 65) (.c (.one (.st (.bool true)))) (.t 68))]) (.cond (.t 69) (.exit 3) .skip)) (.seq (.ops [.m 70 5,.f 71 2 8,.l 72 71,.i 73 (.indexAddr 1 (.t 70) (.t 72)),.l 74 73,.i 75 (.eqP false (.t 74)),.m 76 75,.mk (some 77) (some (76,false)) (.load true 2 (.t 9)) .no,.mk (some 78) (some (76,false)) (.mov (.t 5)) .no,.mk (some 79) (some (76,false)) (.fieldAddr 2 (.t 8)) .no,.mk (some 80) (some (76,false)) (.load false 1 (.t 79)) .no,.mk (some 81) (some (76,false)) (.indexAddr 1 (.t 78) (.t 80)) .no,.mk (some 82) (some (76,false)) (.load false 1 (.t 81)) .no,.mk (some 83) (some (76,false)) (.nilCheck (.t 82)) .no,.mk (some 84) (some (76,false)) (.load true 2 (.t 83)) .no,.mk (some 85) (some (76,false)) (.call 61 [.t 77,.t 84]) .no,.i 86 (.pick (.t 76) (.c (.one (.st (.bool true)))) (.t 85))]) (.cond (.t 86) (.seq (.ops [.m 87 5,.f 88 2 8,.l 89 88,.i 90 (.indexAddr 1 (.t 87) (.t 89)),.s 1 90 9]) (.ops [.i 6 (.mov (.c (.one (.st (.bool true)))))])) .skip))))))) (.ops [.i 91 (.bin .add (.t 28) (.n 1)),.m 28 91]))))))))))))) (.seq (.ops [.i 12 (.mov (.c (.one (.st (.lit (.pointer none))))))]) (.seq (.seq (.ops [.f 92 2 1,.l 93 92,.i 94 (.len false (.t 93)),.i 95 (.mov (.n 0))]) (.block 6 (.loop (.seq (.ops [.i 96 (.bin .lss (.t 95) (.t 94))]) (.seq (.cond (.t 96) .skip (.exit 6)) (.seq (.block 7 (.seq (.ops [.i 97 (.indexAddr 1 (.t 93) (.t 95)),.l 98 97,.m 14 98]) (.seq (.ops [.m 99 5,.m 100 14,.i 101 (.indexAddr 1 (.t 99) (.t 100)),.l 102 101,.i 103 (.eqP true (.t 102)),.m 104 103,.mk (some 105) (some (104,true)) (.mov (.t 12)) .no,.mk (some 106) (some (104,true)) (.eqP false (.t 105)) .no,.mk (some 107) (some (104,true)) (.mov (.t 106)) .no,.mk (some 108) (some (107,false)) (.mov (.t 5)) .no,.mk (some 109) (some (107,false)) (.mov (.t 14)) .no,.mk (some 110) (some (107,false)) (.indexAddr 1 (.t 108) (.t 109)) .no,.mk (some 111) (some (107,false)) (.load false 1 (.t 110)) .no,.mk (some 112) (some (107,false)) (.nilCheck (.t 111)) .no,.mk (some 113) (some (107,false)) (.load true 2 (.t 112)) .no,.mk (some 114) (some (107,false)) (.mov (.t 12)) .no,.mk (some 115) (some (107,false)) (.nilCheck (.t 114)) .no,.mk (some 116) (some (107,false)) (.load true 2 (.t 115)) .no,.mk (some 117) (some (107,false)) (.call 61 [.t 113,.t 116]) .no,.mk (some 118) (some (104,true)) (.pick (.t 107) (.c (.one (.st (.bool true)))) (.t 117)) .no,.i 119 (.pick (.t 104) (.t 118) (.c (.one (.st (.bool false)))))]) (.cond (.t 119) (.ops [.m 120 5,.m 121 14,.i 122 (.indexAddr 1 (.t 120) (.t 121)),.l 123 122,.m 12 123]) .skip)))) (.ops [.i 124 (.bin .add (.t 95) (.n 1)),.m 95 124]))))))) (.seq (.seq (.ops [.m 125 12,.i 126 (.eqP false (.t 125))]) (.cond (.t 126) (.seq (.ops [.i 127 (.build [.st (.str (ByteArray.mk (#[]))),.full []] []),.s 2 2 127,.i 3 (.mov (.n 7))]) .ret) .skip)) (.seq (.ops [.m 128 12,.i 129 (.nilCheck (.t 128)),.L 130 2 129,.i 131 (.call 62 [.t 130]),.s 2 2 131,.i 3 (.mov (.n 0))]) .ret))))))))
theorem Ig:OkF Try.prog 43 132 [58,10590959] Fi [.cell 2 true 2,.t 3]:=.of Try.func43 rfl rfl (by kernel_rfl) rfl
def Fb:IR :=
 (.seq (.ops [.i 2 (.box 39 (.t 0)),.i 3 (.box 39 (.t 1)),.i 4 (.mov (.c (.one (.st (.bool false)))))]) (.seq (.ops [.L 7 2 2,.i 8 (.call 45 [.t 7,.n 2000]),.m 5 8]) (.seq (.ops [.L 9 2 3,.i 10 (.call 45 [.t 9,.n 2000]),.m 6 10]) (.seq (.seq (.ops [.m 11 5,.m 12 6,.i 13 (.bin .neq (.t 11) (.t 12))]) (.cond (.t 13) (.seq (.ops [.m 14 5,.m 15 6,.i 16 (.bin .lss (.t 14) (.t 15)),.m 4 16]) .ret) .skip)) (.seq (.ops [.L 17 2 2,.i 18 (.call 73 [.t 17]),.L 19 2 3,.i 20 (.call 73 [.t 19]),.i 21 (.bin .lss (.t 18) (.t 20)),.m 4 21]) .ret)))))
theorem Ho:OkF Try.prog 59 22 [] Fb [.t 4]:=.of Try.func59 rfl rfl (by kernel_rfl) rfl
def Jv:IR :=
 (.seq (.ops [.i 1 (.box 25 (.t 0)),.i 2 (.alloc 39 [.st (.str (ByteArray.mk (#[]))),.full []]),.i 3 (.mov (.c (.one (.st (.bool false)))))]) (.seq (.ops [.f 15 0 1,.l 16 15,.i 17 (.makeSlice 4 1 1 [.bool false] (.t 16) (.t 16)),.m 4 17]) (.seq (.ops [.f 18 0 1,.l 19 18,.i 20 (.makeSlice 39 2 40 [.str (ByteArray.mk (#[])),.list []] (.t 19) (.t 19)),.m 5 20]) (.seq (.seq (.ops [.i 6 (.mov (.c (.one (.st (.bool true)))))]) (.block 0 (.loop (.seq (.seq (.ops [.m 21 6]) (.cond (.t 21) .skip (.exit 0))) (.block 1 (.seq (.ops [.i 6 (.mov (.c (.one (.st (.bool false)))))]) (.seq (.ops [.i 7 (.mov (.n 0))]) (.block 2 (.loop (.seq (.seq (.ops [.m 22 7,.f 23 1 1,.l 24 23,.i 25 (.len false (.t 24)),.i 26 (.bin .lss (.t 22) (.t 25))]) (.cond (.t 26) .skip (.exit 2))) (.seq (.block 3 (.seq (.ops [.f 29 1 1,.l 30 29,.m 31 7,.i 32 (.indexAddr 3 (.t 30) (.t 31)),.L 33 3 32,.i 8 (.alloc 46 [.st (.str (ByteArray.mk (#[]))),.full [],.st (.int .i64 0)]),.s 3 8 33]) (.seq (.ops [.f 34 0 8,.l 35 34,.i 36 (.build [.st (.str (ByteArray.mk (#[]))),.full []] [(0,1,.t 35)]),.i 9 (.alloc 39 [.st (.str (ByteArray.mk (#[]))),.full []]),.s 2 9 36]) (.seq (.ops [.i 10 (.mov (.c (.one (.st (.bool true)))))]) (.seq (.seq (.ops [.i 11 (.mov (.n 0))]) (.block 4 (.loop (.seq (.seq (.ops [.m 37 11,.f 38 1 8,.l 39 38,.i 40 (.len false (.t 39)),.i 41 (.bin .lss (.t 37) (.t 40))]) (.cond (.t 41) .skip (.exit 4))) (.seq (.block 5 (.seq (.ops [.m 44 10,.m 45 44,.mk (some 46) (some (45,true)) (.mov (.t 4)) .no,.mk (some 47) (some (45,true)) (.fieldAddr 1 (.t 8)) .no,.mk (some 48) (some (45,true)) (.load false 1 (.t 47)) .no,.mk (some 49) (some (45,true)) (.mov (.t 11)) .no,.mk (some 50) (some (45,true)) (.indexAddr 1 (.t 48) (.t 49)) .no,.mk (some 51) (some (45,true)) (.load false 1 (.t 50)) .no,.mk (some 52) (some (45,true)) (.indexAddr 1 (.t 46) (.t 51)) .no,.mk (some 53) (some (45,true)) (.load false 1 (.t 52)) .no,.i 54 (.pick (.t 45) (.t 53) (.c (.one (.st (.bool false))))),.m 10 54]) (.seq (.ops [.m 55 10]) (.cond (.t 55) (.ops [.f 56 1 9,.l 57 56,.m 58 5,.f 59 1 8,.l 60 59,.m 61 11,.i 62 (.indexAddr 1 (.t 60) (.t 61)),.l 63 62,.i 64 (.indexAddr 2 (.t 58) (.t 63)),.L 65 2 64,.i 66 (.buildSlice false 39 2 [.t 65]),.i 67 (.append false 39 2 40 (.t 57) (.t 66)),.f 68 1 9,.s 1 68 67]) .skip)))) (.ops [.m 42 11,.i 43 (.bin .add (.t 42) (.n 1)),.m 11 43])))))) (.seq (.seq (.ops [.m 69 10,.i 70 (.un .not (.t 69)),.m 71 70,.mk (some 72) (some (71,false)) (.load true 2 (.t 9)) .no,.mk (some 73) (some (71,false)) (.call 45 [.t 72,.n 2000]) .no,.mk (some 74) (some (71,false)) (.bin .gtr (.t 73) (.n 2000)) .no,.i 75 (.pick (.t 71) (.c (.one (.st (.bool true)))) (.t 74))]) (.cond (.t 75) (.exit 3) .skip)) (.seq (.ops [.m 76 4,.f 77 2 8,.l 78 77,.i 79 (.indexAddr 1 (.t 76) (.t 78)),.l 80 79,.i 81 (.un .not (.t 80)),.m 82 81,.mk (some 83) (some (82,false)) (.load true 2 (.t 9)) .no,.mk (some 84) (some (82,false)) (.mov (.t 5)) .no,.mk (some 85) (some (82,false)) (.fieldAddr 2 (.t 8)) .no,.mk (some 86) (some (82,false)) (.load false 1 (.t 85)) .no,.mk (some 87) (some (82,false)) (.indexAddr 2 (.t 84) (.t 86)) .no,.mk (some 88) (some (82,false)) (.load true 2 (.t 87)) .no,.mk (some 89) (some (82,false)) (.call 59 [.t 83,.t 88]) .no,.i 90 (.pick (.t 82) (.c (.one (.st (.bool true)))) (.t 89))]) (.cond (.t 90) (.seq (.ops [.m 91 4,.f 92 2 8,.l 93 92,.i 94 (.indexAddr 1 (.t 91) (.t 93)),.mk none none (.store 1 (.t 94) (.c (.one (.st (.bool true))))) .no]) (.seq (.ops [.m 95 5,.f 96 2 8,.l 97 96,.L 98 2 9,.i 99 (.indexAddr 2 (.t 95) (.t 97)),.s 2 99 98]) (.ops [.i 6 (.mov (.c (.one (.st (.bool true)))))]))) .skip)))))))) (.ops [.m 27 7,.i 28 (.bin .add (.t 27) (.n 1)),.m 7 28])))))))))))) (.seq (.ops [.i 12 (.mov (.c (.one (.st (.int .i64 (-1))))))]) (.seq (.seq (.ops [.i 13 (.mov (.n 0))]) (.block 6 (.loop (.seq (.seq (.ops [.m 100 13,.f 101 2 1,.l 102 101,.i 103 (.len false (.t 102)),.i 104 (.bin .lss (.t 100) (.t 103))]) (.cond (.t 104) .skip (.exit 6))) (.seq (.block 7 (.seq (.ops [.f 107 2 1,.l 108 107,.m 109 13,.i 110 (.indexAddr 1 (.t 108) (.t 109)),.l 111 110,.m 14 111]) (.seq (.ops [.m 112 4,.m 113 14,.i 114 (.indexAddr 1 (.t 112) (.t 113)),.l 115 114,.m 116 115,.mk (some 117) (some (116,true)) (.mov (.t 12)) .no,.mk (some 118) (some (116,true)) (.bin .lss (.t 117) (.n 0)) .no,.mk (some 119) (some (116,true)) (.mov (.t 118)) .no,.mk (some 120) (some (119,false)) (.mov (.t 5)) .no,.mk (some 121) (some (119,false)) (.mov (.t 14)) .no,.mk (some 122) (some (119,false)) (.indexAddr 2 (.t 120) (.t 121)) .no,.mk (some 123) (some (119,false)) (.load true 2 (.t 122)) .no,.mk (some 124) (some (119,false)) (.mov (.t 5)) .no,.mk (some 125) (some (119,false)) (.mov (.t 12)) .no,.mk (some 126) (some (119,false)) (.indexAddr 2 (.t 124) (.t 125)) .no,.mk (some 127) (some (119,false)) (.load true 2 (.t 126)) .no,.mk (some 128) (some (119,false)) (.call 59 [.t 123,.t 127]) .no,.mk (some 129) (some (116,true)) (.pick (.t 119) (.c (.one (.st (.bool true)))) (.t 128)) .no,.i 130 (.pick (.t 116) (.t 129) (.c (.one (.st (.bool false)))))]) (.cond (.t 130) (.ops [.m 131 14,.m 12 131]) .skip)))) (.ops [.m 105 13,.i 106 (.bin .add (.t 105) (.n 1)),.m 13 106])))))) (.seq (.seq (.ops [.m 132 12,.i 133 (.bin .lss (.t 132) (.n 0))]) (.cond (.t 133) (.seq (.ops [.i 134 (.build [.st (.str (ByteArray.mk (#[]))),.full []] []),.s 2 2 134,.i 3 (.mov (.c (.one (.st (.bool false)))))]) .ret) .skip)) (.seq (.ops [.m 135 5,.m 136 12,.i 137 (.indexAddr 2 (.t 135) (.t 136)),.L 138 2 137,.s 2 2 138,.i 3 (.mov (.c (.one (.st (.bool true)))))]) .ret))))))))
theorem QA:OkF Try.prog 42 139 [] Jv [.cell 2 true 2,.t 3]:=.of Try.func42 rfl rfl (by kernel_rfl) rfl
def BG:IR :=
 (.seq (.ops [.i 2 (.box 25 (.t 0)),.i 3 (.box 39 (.t 1)),.i 4 (.mov (.c (.one (.st (.bool false)))))]) (.seq (.seq (.ops [.L 16 3 2,.i 17 (.call 7 [.t 16]),.m 18 17,.mk (some 19) (some (18,false)) (.load true 2 (.t 3)) .no,.mk (some 20) (some (18,false)) (.call 39 [.t 19]) .no,.i 21 (.pick (.t 18) (.c (.one (.st (.bool true)))) (.t 20))]) (.cond (.t 21) (.seq (.ops [.i 4 (.mov (.c (.one (.st (.bool true)))))]) .ret) .skip)) (.seq (.ops [.L 22 3 2,.i 23 (.call 8 [.t 22,.n 8,.n 40]),.m 5 23]) (.seq (.ops [.m 24 5,.m 6 24]) (.seq (.seq (.ops [.m 25 6,.i 26 (.bin .eql (.t 25) (.n 0))]) (.cond (.t 26) (.ops [.L 27 2 3,.i 28 (.call 40 [.t 27]),.m 6 28]) .skip)) (.seq (.seq (.ops [.m 29 6,.i 30 (.bin .eql (.t 29) (.n 0)),.m 31 30,.mk (some 32) (some (31,true)) (.load true 2 (.t 3)) .no,.mk (some 33) (some (31,true)) (.call 41 [.t 32]) .no,.mk (some 34) (some (31,true)) (.len false (.t 33)) .no,.mk (some 35) (some (31,true)) (.bin .gtr (.t 34) (.n 0)) .no,.i 36 (.pick (.t 31) (.t 35) (.c (.one (.st (.bool false)))))]) (.cond (.t 36) (.ops [.i 6 (.mov (.n 15))]) .skip)) (.seq (.ops [.i 7 (.mov (.c (.one (.st (.bool false)))))]) (.seq (.seq (.ops [.m 37 6,.i 38 (.bin .eql (.t 37) (.n 0))]) (.cond (.t 38) (.ops [.L 39 3 2,.L 40 2 3,.i 41 (.call 27 [.t 39,.t 40]),.m 7 41]) .skip)) (.seq (.ops [.m 42 5,.m 8 42]) (.seq (.ops [.i 43 (.build [.st (.str (ByteArray.mk (#[]))),.full []] []),.i 9 (.alloc 39 [.st (.str (ByteArray.mk (#[]))),.full []]),.s 2 9 43]) (.seq (.seq (.ops [.m 44 5,.i 45 (.bin .eql (.t 44) (.n 0))]) (.cond (.t 45) (.seq (.ops [.L 47 3 2,.i 48 (.call 42 [.t 47]),.m 46 48,.i 49 (.extract 0 (.t 46)),.i 50 (.extract 1 (.t 46)),.i 10 (.alloc 39 [.st (.str (ByteArray.mk (#[]))),.full []]),.s 2 10 49,.m 11 50]) (.seq (.ops [.L 51 2 10,.s 2 9 51]) (.seq (.ops [.m 52 11,.i 53 (.un .not (.t 52))]) (.cond (.t 53) (.ops [.i 8 (.mov (.n 7))]) .skip)))) .skip)) (.seq (.ops [.L 55 3 2,.L 56 2 3,.i 57 (.call 19 [.t 55,.t 56]),.m 54 57,.i 58 (.extract 0 (.t 54)),.i 59 (.extract 1 (.t 54)),.m 12 58,.m 13 59]) (.seq (.ops [.L 61 3 2,.i 62 (.call 43 [.t 61]),.m 60 62,.i 63 (.extract 0 (.t 60)),.i 64 (.extract 1 (.t 60)),.i 14 (.alloc 39 [.st (.str (ByteArray.mk (#[]))),.full []]),.s 2 14 63,.m 15 64]) (.seq (.ops [.L 65 3 2,.i 66 (.call 34 [.t 65]),.m 67 5,.i 68 (.bin .eql (.t 66) (.t 67)),.m 69 68,.mk (some 70) (some (69,true)) (.mov (.t 12)) .no,.mk (some 71) (some (69,true)) (.mov (.t 7)) .no,.mk (some 72) (some (69,true)) (.eqB false (.t 70) (.t 71)) .no,.i 73 (.pick (.t 69) (.t 72) (.c (.one (.st (.bool false))))),.m 74 73,.mk (some 75) (some (74,true)) (.mov (.t 13)) .no,.mk (some 76) (some (74,true)) (.mov (.t 6)) .no,.mk (some 77) (some (74,true)) (.bin .eql (.t 75) (.t 76)) .no,.i 78 (.pick (.t 74) (.t 77) (.c (.one (.st (.bool false))))),.m 79 78,.mk (some 80) (some (79,true)) (.load true 2 (.t 14)) .no,.mk (some 81) (some (79,true)) (.mov (.t 15)) .no,.mk (some 82) (some (79,true)) (.load true 2 (.t 9)) .no,.mk (some 83) (some (79,true)) (.mov (.t 8)) .no,.mk (some 84) (some (79,true)) (.call 44 [.t 80,.t 81,.t 82,.t 83]) .no,.i 85 (.pick (.t 79) (.t 84) (.c (.one (.st (.bool false))))),.m 4 85]) .ret))))))))))))))
theorem BP:OkF Try.prog 17 86 [] BG [.t 4]:=.of Try.func17 rfl rfl (by kernel_rfl) rfl

set_option linter.unusedVariables false
set_option linter.unusedSimpArgs false
set_option maxHeartbeats 2000000
def HX (l:List Bool):List SV:=[.int .u64 (bN l)]
abbrev aU (l:List Bool):AV:=.one (.st (.int .u64 (bN l)))
abbrev aUs (l:List (List Bool)):AV:=.one (.st (.list (l.map HX)))
theorem VI (n k:Nat):((n:Int)).fdiv (2 ^ k)=((n / 2 ^ k:Nat):Int):=by
 rw [show ((2:Int) ^ k)=((2 ^ k:Nat):Int) by simp,Int.fdiv_eq_ediv_of_nonneg _ (Int.natCast_nonneg _)]
 exact (Int.natCast_ediv _ _).symm
theorem Ui (k:Nat):(1:Int) * 2 ^ k=((2 ^ k:Nat):Int):=by simp
theorem Se {k:Nat} (h:k < 64):inR .u64 ((2 ^ k:Nat):Int):=by
 rw [FY]
 have h2:2 ^ k≤2 ^ 63:=Nat.pow_le_pow_right (by omega) (by omega)
 have h3:(2:Nat) ^ 63=9223372036854775808:=by decide
 generalize 2 ^ k=p at *
 omega
theorem V0 {l:List Bool} (h:l.length≤64):inR .u64 (bN l):=by
 rw [FY]
 have:=Lz h
 omega
theorem XX {l:List Bool} (h:l.length≤64) (k:Nat):inR .u64 ((bN l / 2 ^ k:Nat):Int):=by
 rw [FY]
 have:=Lz h
 have h2:=Nat.div_le_self (bN l) (2 ^ k)
 generalize bN l / 2 ^ k=p at *
 omega
theorem WZ:(1:Int).toNat=1:=rfl
theorem Ss {ts:List (List Bool)}:∀ x ∈ ts.map HX,x.length=1:=by
 intro x hx
 obtain ⟨a,_,rfl⟩:=List.mem_map.1 hx
 rfl
theorem KM (a:Au) (ga:a.Good) (hs64:a.states≤64) (hm:a.moves.length≤100000) (n:ByteArray) (below:List (List Bool)) (hb:∀ l ∈ below,l.length=a.states.toNat) (hbl:below.length≤1000000) :
  AU Try.prog 36 [aAu a,Da n,aUs below] (aU (a.ending n below)):=by
 have hst:=ga.states
 have h0:bN (List.replicate a.states.toNat false)=0:=Rz _
 refine MI.ac fun C hC=>?_
 unfold Gx
 repeat' with_reducible first | refine W ?_ | refine Z0 ?_ | ((first | refine Wo fun K hK=>?_ | refine Wp ?_ | refine Wq ?_ | refine Wr ?_);(try simp only [go_sem,fN,seval,eT,iR,dT,dF,nL]);(repeat refine Ai ?_);(try (refine hK _ ?_;clear hK K));try refine iC ?_)
 refine IWP.loopD [9] (fun q s=>∃ k,k≤a.moves.length∧q=a.moves.length - k∧s.env 1=Da n∧s.env 2=aUs below∧s.env 3=.one (.ptr 3 1 0 0)∧s.S 3=some (AE a)∧s.env 7=aU ((a.moves.take k).foldl (B8 n below) (List.replicate a.states.toNat false))∧s.env 14=.one (.st (.list (a.moves.map Ae)))∧s.env 15=AK a.moves.length∧s.env 16=AK k∧s.S 9=none) a.moves.length
  ⟨0,Nat.zero_le _,rfl,rfl,rfl,rfl,rfl,by simp [AD,h0],by simp [AD],by simp [AD],rfl,rfl⟩ ?_
 rintro q ⟨env,St⟩ ⟨k,hk,rfl,e1,e2,e3,s3,e7,e14,e15,e16,s9⟩
 simp only at e1 e2 e3 s3 e7 e14 e15 e16 s9
 unfold AE at s3
 by_cases hlt:(k:Int) < a.moves.length
 ·obtain ⟨m,hmk⟩:=Ab (show k < a.moves.length by omega)
  have hmm:=AM hmk
  have hto:=ga.to_ m hmm
  have hfold:(a.moves.take (k + 1)).foldl (B8 n below) (List.replicate a.states.toNat false)=B8 n below ((a.moves.take k).foldl (B8 n below) (List.replicate a.states.toNat false)) m:=by
   rw [AQ hmk,List.foldl_append]
   rfl
  have hfl:=Ef n below (a.moves.take k) (List.replicate a.states.toNat false)
  rw [List.length_replicate] at hfl
  generalize (a.moves.take k).foldl (B8 n below) (List.replicate a.states.toNat false)=L at *
  by_cases g1:m.name=n
  case neg =>
   have hf:m.fits n below=false:=by simp [Mv.fits,g1]
   repeat' with_reducible first | refine W ?_ | refine Z0 ?_ | ((first | refine Wo fun K hK=>?_ | refine Wp ?_ | refine Wq ?_ | refine Wr ?_);(try simp only [go_sem,fN,seval,eT,iR,e1,e2,e3,s3,e7,e14,e15,e16,s9,hlt,hmk,Ae,g1,dT,dF,nL]);(repeat refine Ai ?_);(try (refine hK _ ?_;clear hK K));try refine iC ?_)
   refine AA ⟨a.moves.length - (k + 1),by omega,k + 1,by omega,rfl,?_⟩
   simp only [go_sem,fN,seval,AS.drop,AY,AC.clears,AC.clear,AC.highs,AC.high,Bool.not_false,Bool.true_and,Bool.and_self,AV.purge,AV.purges,AC.purge,AL.purge,List.contains_cons,List.contains_nil,Nat.reduceBEq,Bool.or_self,Bool.or_false,Bool.false_or,Bool.or_true,eT,iR,e1,e2,e3,s3,e7,e14,e15,e16,s9,AE]
   simp [hfold,B8,hf]
  case pos =>
  by_cases g2:(m.frm.length:Int)=below.length
  case neg =>
   have hf:m.fits n below=false:=by
    unfold Mv.fits
    rw [I6 (by omega)]
    simp
   repeat' with_reducible first | refine W ?_ | refine Z0 ?_ | ((first | refine Wo fun K hK=>?_ | refine Wp ?_ | refine Wq ?_ | refine Wr ?_);(try simp only [go_sem,fN,seval,eT,iR,e1,e2,e3,s3,e7,e14,e15,e16,s9,hlt,hmk,Ae,g1,g2,dT,dF,nL]);(repeat refine Ai ?_);(try (refine hK _ ?_;clear hK K));try refine iC ?_)
   refine AA ⟨a.moves.length - (k + 1),by omega,k + 1,by omega,rfl,?_⟩
   simp only [go_sem,fN,seval,AS.drop,AY,AC.clears,AC.clear,AC.highs,AC.high,Bool.not_false,Bool.true_and,Bool.and_self,AV.purge,AV.purges,AC.purge,AL.purge,List.contains_cons,List.contains_nil,Nat.reduceBEq,Bool.or_self,Bool.or_false,Bool.false_or,Bool.or_true,eT,iR,e1,e2,e3,s3,e7,e14,e15,e16,s9,AE]
   simp [hfold,B8,hf]
  case pos =>
  have g2':m.frm.length=below.length:=by omega
  repeat' with_reducible first | refine W ?_ | refine Z0 ?_ | ((first | refine Wo fun K hK=>?_ | refine Wp ?_ | refine Wq ?_ | refine Wr ?_);(try simp only [go_sem,fN,seval,eT,iR,e1,e2,e3,s3,e7,e14,e15,e16,s9,hlt,hmk,Ae,g1,g2,dT,dF,nL]);(repeat refine Ai ?_);(try (refine hK _ ?_;clear hK K));try refine iC ?_)
  refine IWP.loop (fun q s=>∃ j,j≤below.length∧q=below.length - j∧s.env 1=Da n∧s.env 2=aUs below∧s.env 3=.one (.ptr 3 1 0 0)∧s.S 3=some (AE a)∧s.env 7=aU L∧s.env 14=.one (.st (.list (a.moves.map Ae)))∧s.env 15=AK a.moves.length∧s.env 16=AK k∧s.env 9=.one (.ptr 9 1 0 0)∧s.S 9=some (.box 46 [.st (.str m.name),.st (.list (m.frm.map BK)),.st (.int .i64 m.to_)])∧s.env 10=Ag (A9 (below.take j) (m.frm.take j))∧s.env 33=.one (.st (.list (m.frm.map BK)))∧s.env 34=AK below.length∧s.env 35=AK j) below.length
   ⟨0,Nat.zero_le _,rfl,by simp [AD,e1],by simp [AD,e2],by simp [AD,e3],by simp [AD,AE,s3],by simp [AD,e7],by simp [AD,e14],by simp [AD,e15],by simp [AD,e16],by simp [AD],by simp [AD,g1],by simp [AD,A9],by simp [AD],by simp [AD,g2],by simp [AD]⟩ ?_
  rintro q ⟨env2,S2⟩ ⟨j,hj,rfl,f1,f2,f3,t3,f7,f14,f15,f16,f9,t9,f10,f33,f34,f35⟩
  simp only at f1 f2 f3 t3 f7 f14 f15 f16 f9 t9 f10 f33 f34 f35
  unfold AE at t3
  by_cases hjl:(j:Int) < below.length
  ·obtain ⟨bl,hbj⟩:=Ab (show j < below.length by omega)
   obtain ⟨x,hx⟩:=Ab (show j < m.frm.length by omega)
   have qx:=ga.frm m hmm x (AM hx)
   have hbll:=hb bl (AM hbj)
   have hst2:=HM hbj hx
   have hsh:=XX (l:=bl) (by omega) x.toNat
   have hbit:=XO bl x.toNat
   rw [← WY] at hbit
   have q64:0≤x∧x.toNat≤64:=by omega
   generalize bl.getD x.toNat false=y at hbit hst2
   generalize A9 (below.take j) (m.frm.take j)=ok at f10 hst2
   cases ok with
   | true =>
    cases y <;> simp only [Bool.toNat_true,Bool.toNat_false] at hbit
    all_goals
     repeat' with_reducible first | refine W ?_ | refine Z0 ?_ | ((first | refine Wo fun K hK=>?_ | refine Wp ?_ | refine Wq ?_ | refine Wr ?_);(try simp only [go_sem,fN,seval,eT,iR,f1,f2,f3,t3,f7,f14,f15,f16,f9,t9,f10,f33,f34,f35,hjl,hbj,hx,HX,VI,hsh,hbit,q64,WZ,Int.toNat_natCast,HG,IntKind.bits,dT,dF,nL]);(repeat refine Ai ?_);(try (refine hK _ ?_;clear hK K));try refine iC ?_)
     refine AA ⟨below.length - (j + 1),by omega,j + 1,by omega,rfl,?_⟩
     simp only [go_sem,fN,seval,eT,iR,f1,f2,f3,t3,f7,f14,f15,f16,f9,t9,f10,f33,f34,f35,AE]
     simp [hst2]
   | false =>
    repeat' with_reducible first | refine W ?_ | refine Z0 ?_ | ((first | refine Wo fun K hK=>?_ | refine Wp ?_ | refine Wq ?_ | refine Wr ?_);(try simp only [go_sem,fN,seval,eT,iR,f1,f2,f3,t3,f7,f14,f15,f16,f9,t9,f10,f33,f34,f35,hjl,hbj,hx,dT,dF,nL]);(repeat refine Ai ?_);(try (refine hK _ ?_;clear hK K));try refine iC ?_)
    refine AA ⟨below.length - (j + 1),by omega,j + 1,by omega,rfl,?_⟩
    simp only [go_sem,fN,seval,eT,iR,f1,f2,f3,t3,f7,f14,f15,f16,f9,t9,f10,f33,f34,f35,AE]
    simp [hst2]
  ·rw [List.take_of_length_le (l:=below) (i:=j) (by omega),List.take_of_length_le (l:=m.frm) (i:=j) (by omega)] at f10
   have hf:m.fits n below=A9 below m.frm:=by simp [Mv.fits,g1]
   have hor:=U_ (l:=L) (i:=m.to_.toNat) (by omega)
   have hip:=Se (k:=m.to_.toNat) (by omega)
   have q64:0≤m.to_∧m.to_.toNat≤64:=by omega
   by_cases g3:A9 below m.frm=true
   ·rw [g3] at f10 hf
    repeat' with_reducible first | refine W ?_ | refine Z0 ?_ | ((first | refine Wo fun K hK=>?_ | refine Wp ?_ | refine Wq ?_ | refine Wr ?_);(try simp only [go_sem,fN,seval,eT,iR,f1,f2,f3,t3,f7,f14,f15,f16,f9,t9,f10,f33,f34,f35,hjl,Ui,hip,q64,Int.toNat_natCast,HG,IntKind.bits,hor,dT,dF,nL]);(repeat refine Ai ?_);(try (refine hK _ ?_;clear hK K));try refine iC ?_)
    refine AA ⟨a.moves.length - (k + 1),by omega,k + 1,by omega,rfl,?_⟩
    simp only [go_sem,fN,seval,AS.drop,AY,AC.clears,AC.clear,AC.highs,AC.high,Bool.not_false,Bool.true_and,Bool.and_self,AV.purge,AV.purges,AC.purge,AL.purge,List.contains_cons,List.contains_nil,Nat.reduceBEq,Bool.or_self,Bool.or_false,Bool.false_or,Bool.or_true,eT,iR,f1,f2,f3,t3,f7,f14,f15,f16,f9,t9,f10,AE]
    simp [hfold,B8,hf]
   ·have g3':A9 below m.frm=false:=by simpa using g3
    rw [g3'] at f10 hf
    repeat' with_reducible first | refine W ?_ | refine Z0 ?_ | ((first | refine Wo fun K hK=>?_ | refine Wp ?_ | refine Wq ?_ | refine Wr ?_);(try simp only [go_sem,fN,seval,eT,iR,f1,f2,f3,t3,f7,f14,f15,f16,f9,t9,f10,f33,f34,f35,hjl,dT,dF,nL]);(repeat refine Ai ?_);(try (refine hK _ ?_;clear hK K));try refine iC ?_)
    refine AA ⟨a.moves.length - (k + 1),by omega,k + 1,by omega,rfl,?_⟩
    simp only [go_sem,fN,seval,AS.drop,AY,AC.clears,AC.clear,AC.highs,AC.high,Bool.not_false,Bool.true_and,Bool.and_self,AV.purge,AV.purges,AC.purge,AL.purge,List.contains_cons,List.contains_nil,Nat.reduceBEq,Bool.or_self,Bool.or_false,Bool.false_or,Bool.or_true,eT,iR,f1,f2,f3,t3,f7,f14,f15,f16,f9,t9,f10,AE]
    simp [hfold,B8,hf]
 ·rw [List.take_of_length_le (l:=a.moves) (i:=k) (by omega)] at e7
  have hle:a.ending n below=a.moves.foldl (B8 n below) (List.replicate a.states.toNat false):=rfl
  rw [← hle] at e7
  repeat' with_reducible first | refine W ?_ | refine Z0 ?_ | ((first | refine Wo fun K hK=>?_ | refine Wp ?_ | refine Wq ?_ | refine Wr ?_);(try simp only [go_sem,fN,seval,eT,iR,e1,e2,e3,s3,e7,e14,e15,e16,hlt,dT,dF,nL]);(repeat refine Ai ?_);(try (refine hK _ ?_;clear hK K));try refine iC ?_)
  simp only [go_sem,fN,seval,AP,AS.result,AH,AI,AN,e7]
theorem Xo (a:Au) (ga:a.Good) (hs64:a.states≤64) (hm:a.moves.length≤100000) (t:Tm) (hz:t.size≤1000000):AU Try.prog 48 [aAu a,aTm t] (aU (a.ends t)):=by
 induction h:SizeOf.sizeOf t using Nat.strongRecOn generalizing t with
 | _ N ih =>
 subst h
 have hs:=Tm.size_eq t
 have hkn:=Tm.length_le t.args
 refine P4.ac fun C hC=>?_
 unfold J0
 repeat' with_reducible first | refine W ?_ | refine Z0 ?_ | ((first | refine Wo fun K hK=>?_ | refine Wp ?_ | refine Wq ?_ | refine Wr ?_);(try simp only [go_sem,fN,seval,eT,iR,dT,dF,nL]);(repeat refine Ai ?_);(try (refine hK _ ?_;clear hK K));try refine iC ?_)
 refine IWP.ghost (Ad.own (C:=C) 5 50 65 1 (xs:=([]:List (List Bool)).map HX) rfl rfl Ss (by omega)) ?_
 refine IWP.loopD [7] (fun q s=>∃ k,k≤t.args.length∧q=t.args.length - k∧s.env 2=.one (.ptr 2 1 0 0)∧s.S 2=some (AE a)∧s.env 3=.one (.ptr 3 1 0 0)∧s.S 3=some (.box 39 [.st (.str t.name),.st (.list (t.args.map A_))])∧s.env 5=.one (.row 50 k)∧s.S 50=some (.arow 65 1 (((t.args.take k).map a.ends).map HX))∧s.env 9=JU t.args∧s.env 10=AK t.args.length∧s.env 11=AK k∧s.S 7=none) t.args.length
  ⟨0,Nat.zero_le _,rfl,rfl,rfl,rfl,rfl,rfl,rfl,rfl,rfl,rfl,rfl⟩ ?_
 rintro q ⟨env,St⟩ ⟨k,hk,rfl,e2,s2,e3,s3,e5,s50,e9,e10,e11,s7⟩
 simp only at e2 s2 e3 s3 e5 s50 e9 e10 e11 s7
 unfold AE at s2
 by_cases hlt:(k:Int) < t.args.length
 ·obtain ⟨x,hx⟩:=Ab (show k < t.args.length by omega)
  have hxm:=AM hx
  have hsz:=Tm.size_mem hxm
  have hkl:((t.args.take k).map a.ends).length=k:=by
   rw [List.length_map,List.length_take]
   omega
  repeat' (first | (with_reducible first | refine W ?_ | refine Z0 ?_ | ((first | refine Wo fun K hK=>?_ | refine Wp ?_ | refine Wq ?_ | refine Wr ?_);(try simp only [go_sem,fN,seval,eT,iR,e2,s2,e3,s3,e5,s50,e9,e10,e11,s7,hlt,hx,hkl,dT,dF,nL]);(repeat refine Ai ?_);(try (refine hK _ ?_;clear hK K));try refine iC ?_)) | refine Cg _ (ih _ (Tm.lt_of_arg hxm) x (by omega) rfl) ?_)
  refine AA ⟨t.args.length - (k + 1),by omega,k + 1,by omega,rfl,?_⟩
  simp only [go_sem,fN,seval,AS.drop,AY,AC.clears,AC.clear,AC.highs,AC.high,Bool.not_false,Bool.true_and,Bool.and_self,AV.purge,AV.purges,AC.purge,AL.purge,List.contains_cons,List.contains_nil,Nat.reduceBEq,Bool.or_self,Bool.or_false,Bool.false_or,Bool.or_true,eT,iR,e2,s2,e3,s3,e5,s50,e9,e10,e11,s7,AE]
  rw [AQ hx]
  simp [HX]
  try omega
 ·rw [List.take_of_length_le (l:=t.args) (i:=k) (by omega)] at s50
  have hkl:(t.args.map a.ends).length=t.args.length:=List.length_map _
  have hke:k=t.args.length:=by omega
  have hE:=KM a ga hs64 hm t.name (t.args.map a.ends) (fun l hl=>by
   obtain ⟨y,_,rfl⟩:=List.mem_map.1 hl
   exact a.ends_length y) (by omega)
  repeat' (first | (with_reducible first | refine W ?_ | refine Z0 ?_ | ((first | refine Wo fun K hK=>?_ | refine Wp ?_ | refine Wq ?_ | refine Wr ?_);(try simp only [go_sem,fN,seval,eT,iR,e2,s2,e3,s3,e5,s50,e9,e10,e11,hlt,hke,hkl,Nat.lt_irrefl,dT,dF,nL]);(repeat refine Ai ?_);(try (refine hK _ ?_;clear hK K));try refine iC ?_)) | refine Cg _ (hE) ?_)
  simp only [go_sem,fN,seval,AP,AS.result,AH,AI,AN]
  rw [Au.ends_eq,Au.endsL_eq]
theorem IE (a:Au) (ga:a.Good) (hs64:a.states≤64) (hl:a.last.length≤100000):AU Try.prog 33 [aAu a] (aU a.lastB):=by
 have hst:=ga.states
 have h0:bN (List.replicate a.states.toNat false)=0:=Rz _
 refine L_.ac fun C hC=>?_
 unfold G2
 repeat' with_reducible first | refine W ?_ | refine Z0 ?_ | ((first | refine Wo fun K hK=>?_ | refine Wp ?_ | refine Wq ?_ | refine Wr ?_);(try simp only [go_sem,fN,seval,eT,iR,dT,dF,nL]);(repeat refine Ai ?_);(try (refine hK _ ?_;clear hK K));try refine iC ?_)
 refine IWP.loop (fun q s=>∃ k,k≤a.last.length∧q=a.last.length - k∧s.env 3=aU ((a.last.take k).foldl (fun l s=>l.set s.toNat true) (List.replicate a.states.toNat false))∧s.env 7=.one (.st (.list (a.last.map BK)))∧s.env 8=AK a.last.length∧s.env 9=AK k) a.last.length ⟨0,Nat.zero_le _,rfl,by simp [AD,h0],rfl,rfl,rfl⟩ ?_
 rintro q ⟨env,St⟩ ⟨k,hk,rfl,e3,e7,e8,e9⟩
 simp only at e3 e7 e8 e9
 by_cases hlt:(k:Int) < a.last.length
 ·obtain ⟨x,hx⟩:=Ab (show k < a.last.length by omega)
  have qx:=ga.last x (AM hx)
  have hfold:(a.last.take (k + 1)).foldl (fun l s=>l.set s.toNat true) (List.replicate a.states.toNat false)=((a.last.take k).foldl (fun l s=>l.set s.toNat true) (List.replicate a.states.toNat false)).set x.toNat true:=by
   rw [AQ hx,List.foldl_append]
   rfl
  have hfl:=Dl (a.last.take k) (List.replicate a.states.toNat false)
  rw [List.length_replicate] at hfl
  generalize (a.last.take k).foldl (fun l s=>l.set s.toNat true) (List.replicate a.states.toNat false)=L at *
  have hor:=U_ (l:=L) (i:=x.toNat) (by omega)
  have hip:=Se (k:=x.toNat) (by omega)
  have q64:0≤x∧x.toNat≤64:=by omega
  repeat' with_reducible first | refine W ?_ | refine Z0 ?_ | ((first | refine Wo fun K hK=>?_ | refine Wp ?_ | refine Wq ?_ | refine Wr ?_);(try simp only [go_sem,fN,seval,eT,iR,e3,e7,e8,e9,hlt,hx,Ui,hip,q64,Int.toNat_natCast,HG,IntKind.bits,hor,dT,dF,nL]);(repeat refine Ai ?_);(try (refine hK _ ?_;clear hK K));try refine iC ?_)
  refine AA ⟨a.last.length - (k + 1),by omega,k + 1,by omega,rfl,?_⟩
  simp only [go_sem,fN,seval,eT,iR,e3,e7,e8,e9]
  simp [hfold]
 ·rw [List.take_of_length_le (l:=a.last) (i:=k) (by omega)] at e3
  have hle:a.lastB=a.last.foldl (fun l s=>l.set s.toNat true) (List.replicate a.states.toNat false):=rfl
  rw [← hle] at e3
  repeat' with_reducible first | refine W ?_ | refine Z0 ?_ | ((first | refine Wo fun K hK=>?_ | refine Wp ?_ | refine Wq ?_ | refine Wr ?_);(try simp only [go_sem,fN,seval,eT,iR,e3,e7,e8,e9,hlt,dT,dF,nL]);(repeat refine Ai ?_);(try (refine hK _ ?_;clear hK K));try refine iC ?_)
  simp only [go_sem,fN,seval,AP,AS.result,AH,AI,AN,e3]

theorem IWP.at_ {P:Program} {C:Ctx} {mu:List Nat} {x:IR} {Q:AX→AS→Prop} {env0:Nat→AV} {S0:AB} (M:(Nat→AV)→AB→Prop) (hM:M env0 S0) (h:∀ env S,M env S→IWP P C mu x Q ⟨env,S⟩):IWP P C mu x Q ⟨env0,S0⟩:=h _ _ hM
section
variable {C:Ctx} {s:AS}
theorem Ad.ownCM (id j nid:Nat) (e:TypeId) (wd:Nat) {ty:TypeId} {cs:List AC} (hb:s.S id=some (.box ty cs)) (hc:cs[j]?=some (.full [])) (hn:s.S nid=none) :
  Ad C s ((s.set nid (.mrow e wd [])).set id (.box ty (cs.set j (.row nid 0)))):=fun a w ⟨σ,ι,R⟩=>by
 have hbk:=R.blk id _ hb
 have hne:id ≠ nid:=fun e=>by subst e;rw [hb] at hn;cases hn
 cases hbk with
 | @box _ _ g vs h1 h2 h3 h4 h5 =>
  obtain ⟨v,hv,hr⟩:=h4.get hc
  cases hr with
  | @full p len _ hs =>
   have hl:len=0:=by
    obtain ⟨p',cap',e1,_⟩:=CA hs
    cases e1
    rfl
   subst hl
   obtain ⟨hu,R'⟩:=R.fresh (w':=w) hn (.mrow e wd []) ⟨p,0,none⟩ (Ext.refl _ _) R.fit (Below.refl _ _) (by simp) (fun S' ι' hu=>.mnil rfl rfl)
   have hb':(s.set nid (.mrow e wd [])).S id=some (.box ty cs):=by simp [AS.set,AF _ hne,hb]
   have hι:AD ι nid ⟨p,0,none⟩ id=ι id:=AF _ hne _
   obtain ⟨hu2,R2⟩:=R'.turn (w':=w) hb' (.box ty (cs.set j (.row nid 0))) (AD ι nid ⟨p,0,none⟩ id) (σ':=σ) (fun _ _ h=>h) (fun _ _ _=>rfl) R.fit (Nat.le_refl _) (fun _=>⟨by simp [AL.wid],rfl⟩) ⟨rfl,rfl,rfl⟩ (Nat.le_refl _) (fun _ _ _=>rfl) (fun g h=>.inl h) (fun hu2=>by
    refine .box (by rw [hι];exact h1) (by rw [hι];exact h2) h3 (Af.of_get (by rw [List.length_set];exact h4.len) fun k u c hu' hck=>?_) h5
    by_cases hk:k=j
    ·subst hk
     rw [hv] at hu'
     cases hu'
     have hlt:k < cs.length:=(List.getElem?_eq_some_iff.1 hc).1
     rw [List.getElem?_set_self hlt] at hck
     cases hck
     exact .row (b:=.mrow e wd []) (by simp [AS.set,AD,hne.symm]) (Nat.le_refl _) rfl fun _=>by simp [AD,hne.symm]
    ·rw [List.getElem?_set_ne (fun e=>hk e.symm)] at hck
     obtain ⟨u',q1,q2⟩:=h4.get hck
     rw [hu'] at q1
     cases q1
     exact (q2.mono (fun _ _ h=>h) hu).mono (fun _ _ h=>h) hu2)
   exact ⟨_,_,R2⟩
end
theorem P3 {S U:AB} (hU:Am U) (h:∀ i,1000≤i→S i=U i):CZ S=U:=by
 funext i
 show (if i < 1000 then none else S i)=U i
 by_cases hi:i < 1000
 ·rw [if_pos hi,A7 hU hi]
 ·rw [if_neg hi,h i (by omega)]
theorem Iq {C:Ctx} {y:Nat} {b:AL} {N:AB→Prop} {Jx:AX→AB→Prop} {env:Nat→AV} {S:AB} (U:AB) (hU:Am (AD U y (some b))) (hy:U y=none) (hS:∀ i,1000≤i→S i=AD U y (some b) i) (hN:N U):OQ C y b N Jx .normal ⟨env,S⟩ :=
 ⟨⟨fun i=>(env i).low,CZ S⟩,U,Ad.low (s:=⟨env,S⟩) (fun i b' hi h=>by
  have h:S i=some b':=h
  rw [hS i hi] at h
  exact (hU i b' h).2),P3 hU hS,by
  show Am (CZ S)
  rw [P3 hU hS]
  exact hU,hy,hN⟩
theorem Ad.ownCellA {C:Ctx} {s:AS} {id r:Nat} {e e':TypeId} {cs:List AC} (j wd:Nat) (hS:s.S id=some (.box e cs)) (hj:cs[j]?=some (.full [])) (hr:s.S r=none) (hne:id ≠ r) :
  Ad C s ((s.set r (.arow e' wd [])).set id (.box e (cs.set j (.row r 0)))):=fun a w ⟨σ,ι,R⟩=>by
 have hb:=R.blk _ _ hS
 cases hb with
 | @box _ _ g vs k1 k2 k3 k4 k5 =>
  obtain ⟨v,hv,hvr⟩:=k4.get hj
  cases hvr with
  | @full p len xs hs =>
   have hl:len=0:=by
    obtain ⟨p',cap',e1,_⟩:=CA hs
    cases e1
    rfl
   subst hl
   obtain ⟨hu,R'⟩:=R.fresh (w':=w) hr (.arow e' wd []) ⟨p,0,none⟩ (Ext.refl _ _) R.fit (Below.refl _ _) (by simp) (fun S' ι' hu=>.afull rfl rfl (by simp) hs)
   have hS':(s.set r (.arow e' wd [])).S id=some (.box e cs):=by simp [AS.set,AF _ hne,hS]
   have hι:AD ι r ⟨p,0,none⟩ id=ι id:=AF _ hne _
   obtain ⟨hu2,R2⟩:=R'.turn (w':=w) hS' (.box e (cs.set j (.row r 0))) (AD ι r ⟨p,0,none⟩ id) (σ':=σ) (fun _ _ h=>h) (fun _ _ _=>rfl) R.fit (by simp [AL.len]) (fun _=>⟨rfl,rfl⟩) ⟨rfl,rfl,rfl⟩ (Nat.le_refl _) (fun _ _ _=>rfl) (fun g h=>.inl h)
    (fun hu2=>by
     rw [hι] at hu2 ⊢
     refine .box k1 k2 k3 (Af.of_get (by rw [List.length_set];exact k4.len) fun q u c hu3 hc=>?_) k5
     by_cases e2:q=j
     ·subst e2
      rw [hv] at hu3
      cases hu3
      rw [List.getElem?_set_self (List.getElem?_eq_some_iff.1 hj).1] at hc
      cases hc
      refine .row (b:=.arow e' wd []) (by simp [AS.set,AD,Ne.symm hne]) (Nat.le_refl _) rfl fun _=>?_
      simp [AD,Ne.symm hne]
     ·rw [List.getElem?_set_ne (fun e=>e2 e.symm)] at hc
      obtain ⟨u',hu',hr'⟩:=k4.get hc
      rw [hu3] at hu'
      cases hu'
      exact (hr'.mono (fun _ _ h=>h) hu).mono (fun _ _ h=>h) hu2)
   exact ⟨σ,_,R2⟩

def EC (j:J):List SV:=[.int .u64 (bN j.1:Int),.int .u64 (bN j.2:Int)]
instance lensEncJ:O2 EC 2:=⟨fun _=>rfl⟩
abbrev aJs (l:List J):AV:=.one (.st (.list (l.map EC)))
def QF (j:J):KV:=.p (.i (bN j.1:Int)) (.i (bN j.2:Int))
def Tv (j:J):KV × AV:=(QF j,Ag true)
abbrev Nw (l:List J):AL:=.map (some (.two (some .u64) (some .u64))) (l.map Tv)
abbrev MH (l:List J):AL:=.arow 67 2 (l.map EC)
theorem UL {i j:J} (h1:i.1.length=j.1.length) (h2:i.2.length=j.2.length):QF i=QF j ↔ i=j:=by
 constructor
 ·intro h
  simp only [QF,KV.p.injEq,KV.i.injEq] at h
  exact Prod.ext (LD h1 (by omega)) (LD h2 (by omega))
 ·rintro rfl;rfl
section
variable {a b:Au} {syms:List Sym}
theorem M7 {l:List J} {j:J} (h:∀ i ∈ l,i.1.length=j.1.length∧i.2.length=j.2.length):(j ∈ l→Cf (l.map Tv) (QF j)=some (Ag true))∧(¬ j ∈ l→Cf (l.map Tv) (QF j)=none):=by
 induction l with
 | nil=>exact ⟨fun h=>(by cases h),fun _=>rfl⟩
 | cons x l ih =>
  obtain ⟨i1,i2⟩:=ih fun i hi=>h i (by simp [hi])
  obtain ⟨e1,e2⟩:=h x (by simp)
  simp only [List.map_cons,Cf,Tv,UL e1 e2]
  by_cases e:x=j
  ·subst e
   exact ⟨fun _=>by rw [if_pos rfl],fun h=>absurd (by simp) h⟩
  ·rw [if_neg e]
   refine ⟨fun h=>i1 ?_,fun h=>i2 fun h'=>h (by simp [h'])⟩
   rcases List.mem_cons.1 h with h | h
   ·exact absurd h.symm e
   ·exact h
theorem Th {l:List J} {j:J} (h:∀ i ∈ l,i.1.length=j.1.length∧i.2.length=j.2.length) (hm:¬ j ∈ l):Hi (l.map Tv) (QF j) (Ag true)=(l ++ [j]).map Tv:=by
 rw [Ga ((M7 h).2 hm),List.map_append]
 rfl
end
def DK (S:AB) (base:Nat) (out:List J):AB:=AD (AD (AD (AD (upS S) 1500 (some (MH out))) 1007 (some (.box 61 [.row 1500 out.length]))) 1018 (some (Nw out))) 1009 (some (.box 4 [.st (.bool (decide (base < out.length)))]))
theorem CJ {S:AB} {base:Nat} {out:List J} {i:Nat} (h1:i ≠ 1500) (h2:i ≠ 1007) (h3:i ≠ 1018) (h4:i ≠ 1009):DK S base out i=upS S i:=by
 unfold DK
 rw [AF _ h4,AF _ h3,AF _ h2,AF _ h1]
theorem IC {S:AB} {base:Nat} {out:List J}:Am (DK S base out) :=
 Aq (Aq (Aq (Aq (E_ S) (by decide) rfl) (by decide) rfl) (by decide) rfl) (by decide) rfl
theorem Q1 {S:AB} {base:Nat} {out:List J}:dnS (DK S base out)=AD (AD (AD (AD S 500 (some (MH out))) 7 (some (.box 61 [.row 500 out.length]))) 18 (some (Nw out))) 9 (some (.box 4 [.st (.bool (decide (base < out.length)))])):=by
 unfold DK
 rw [show (1009:Nat)=up1 9 from rfl,GV,show (1018:Nat)=up1 18 from rfl,GV,show (1007:Nat)=up1 7 from rfl,GV,show (1500:Nat)=up1 500 from rfl,GV,Kn]
 rfl
theorem FB {S:AB} {r:Nat} {b:AL} (h:S r=some b):AD S r (some b)=S:=by
 funext k
 unfold AD
 split
 ·rename_i e;rw [e,h]
 ·rfl
theorem Pr {S:AB} {base:Nat} {out:List J} (h1:S 500=some (MH out)) (h2:S 7=some (.box 61 [.row 500 out.length])) (h3:S 18=some (Nw out)) (h4:S 9=some (.box 4 [.st (.bool (decide (base < out.length)))])):upS S=DK S base out:=by
 unfold DK
 have k1:upS S 1500=some (MH out):=Bk h1
 have k2:upS S 1007=some (.box 61 [.row 1500 out.length]):=Bk h2
 have k3:upS S 1018=some (Nw out):=Bk h3
 have k4:upS S 1009=some (.box 4 [.st (.bool (decide (base < out.length)))]):=Bk h4
 rw [FB k1,FB k2,FB k3,FB k4]
theorem Sc (a b:Au) (ga:a.Good) (gb:b.Good) (ha:a.states≤3) (hb:b.states≤3) (hma:a.moves.length≤100000) (hmb:b.moves.length≤100000) (syms:List Sym) (h2:∀ s ∈ syms,s.2≤2) (hsl:syms.length≤100000) :
  AU Try.prog 31 [aAu a,aAu b,DY syms] (aJs (BI a b syms)):=by
 obtain ⟨k0,hk0,hst⟩:=Hf (a:=a) (b:=b) h2 ha hb
 refine MB.acT fun C hC htop=>?_
 unfold Gs
 repeat' with_reducible first | refine W ?_ | refine Z0 ?_ | ((first | refine Wo fun K hK=>?_ | refine Wp ?_ | refine Wq ?_ | refine Wr ?_);(try simp only [go_sem,fN,seval,eT,iR,dT,dF,nL]);(repeat refine Ai ?_);(try (refine hK _ ?_;clear hK K));try refine iC ?_)
 refine IWP.ghost (Ad.ownCellA (e':=67) (id:=7) (r:=500) 0 2 rfl rfl rfl (by decide)) ?_
 refine IWP.loop (fun q s=>∃ i,i≤k0 + 1∧q=k0 + 2 - i∧s.env 2=DY syms∧s.env 3=.one (.ptr 3 1 0 0)∧s.env 4=.one (.ptr 4 1 0 0)∧s.env 7=.one (.ptr 7 1 0 0)∧s.env 8=.one (.ptr 8 1 0 0)∧s.env 9=.one (.ptr 9 1 0 0)∧s.S 3=some (AE a)∧s.S 4=some (AE b) ∧
  s.S 7=some (.box 61 [.row 500 (itJ a b syms i).length])∧s.S 500=some (MH (itJ a b syms i))∧s.S 8=some (.box 97 [.mptr 18])∧s.S 18=some (Nw (itJ a b syms i))∧(∃ m,s.S 9=some (.box 4 [.st (.bool m)])∧(m=false→∃ j,i=j + 1∧itJ a b syms (j + 1)=itJ a b syms j)∧(m=true→i≤k0))∧s.S 11=none∧s.S 501=none∧s.S 502=none) (k0 + 2)
  ⟨0,Nat.zero_le _,rfl,rfl,rfl,rfl,rfl,rfl,rfl,rfl,rfl,rfl,rfl,rfl,rfl,⟨true,rfl,by simp,fun _=>Nat.zero_le _⟩,rfl,rfl,rfl⟩ ?_
 rintro q ⟨env,S⟩ ⟨i,hi,rfl,e2,e3,e4,e7,e8,e9,s3,s4,s7,s500,s8,s18,⟨mo,s9,hm1,hm2⟩,s11,s501,s502⟩
 simp only at e2 e3 e4 e7 e8 e9 s3 s4 s7 s500 s8 s18 s9 s11 s501 s502
 cases mo with
 | false =>
  obtain ⟨j,rfl,hj⟩:=hm1 rfl
  have hR:=Mf h2 ha hb hj
  rw [← hj] at hR
  rw [hR] at s7 s500
  repeat' with_reducible first | refine W ?_ | refine Z0 ?_ | ((first | refine Wo fun K hK=>?_ | refine Wp ?_ | refine Wq ?_ | refine Wr ?_);(try simp only [go_sem,fN,seval,eT,iR,e2,e3,e4,e7,e8,e9,s7,s500,s9,dT,dF,nL]);(repeat refine Ai ?_);(try (refine hK _ ?_;clear hK K));try refine iC ?_)
  simp only [go_sem,fN,seval,AP,AS.result,AH,AI,AN,s500]
 | true =>
  have hik:=hm2 rfl
  repeat' with_reducible first | refine W ?_ | refine Z0 ?_ | ((first | refine Wo fun K hK=>?_ | refine Wp ?_ | refine Wq ?_ | refine Wr ?_);(try simp only [go_sem,fN,seval,eT,iR,e2,e3,e4,e7,e8,e9,s7,s500,s9,dT,dF,nL]);(repeat refine Ai ?_);(try (refine hK _ ?_;clear hK K));try refine iC ?_)
  obtain ⟨o0,ho0⟩:∃ o0,itJ a b syms i=o0:=⟨_,rfl⟩
  have hok0:=Np (a:=a) (b:=b) h2 i
  rw [ho0] at s7 s500 s18 hok0
  refine IWP.loopD [11,501,502] (fun q s=>∃ k,k≤syms.length∧q=syms.length - k∧s.env 2=DY syms∧s.env 3=.one (.ptr 3 1 0 0)∧s.env 4=.one (.ptr 4 1 0 0)∧s.env 7=.one (.ptr 7 1 0 0)∧s.env 8=.one (.ptr 8 1 0 0)∧s.env 9=.one (.ptr 9 1 0 0)∧s.env 20=DY syms∧s.env 21=AK syms.length∧s.env 22=AK k∧s.S 3=some (AE a)∧s.S 4=some (AE b) ∧
   s.S 7=some (.box 61 [.row 500 ((syms.take k).foldl (FS a b) o0).length])∧s.S 500=some (MH ((syms.take k).foldl (FS a b) o0))∧s.S 8=some (.box 97 [.mptr 18])∧s.S 18=some (Nw ((syms.take k).foldl (FS a b) o0))∧s.S 9=some (.box 4 [.st (.bool (decide (o0.length < ((syms.take k).foldl (FS a b) o0).length)))])∧s.S 11=none∧s.S 501=none∧s.S 502=none) syms.length
   ⟨0,Nat.zero_le _,rfl,e2,e3,e4,e7,e8,e9,by simp only [go_sem,fN,seval,eT,iR,e2],by simp only [go_sem,fN,seval,eT,iR],rfl,by simp only [go_sem,fN,seval,eT,iR,s3],by simp only [go_sem,fN,seval,eT,iR,s4],by simp only [go_sem,fN,seval,eT,iR,s7];rfl,by simp only [go_sem,fN,seval,eT,iR,s500];rfl,by simp only [go_sem,fN,seval,eT,iR,s8],by simp only [go_sem,fN,seval,eT,iR,s18];rfl,by simp only [go_sem,fN,seval,eT,iR];simp,by simp only [go_sem,fN,seval,eT,iR,s11],by simp only [go_sem,fN,seval,eT,iR,s501],by simp only [go_sem,fN,seval,eT,iR,s502]⟩ ?_
  clear e2 e3 e4 e7 e8 e9 s3 s4 s7 s500 s8 s18 s9 s11 s501 s502
  rintro q ⟨env,S⟩ ⟨k,hk,rfl,e2,e3,e4,e7,e8,e9,e20,e21,e22,s3,s4,s7,s500,s8,s18,s9,s11,s501,s502⟩
  simp only at e2 e3 e4 e7 e8 e9 e20 e21 e22 s3 s4 s7 s500 s8 s18 s9 s11 s501 s502
  by_cases hlt:(k:Int) < syms.length
  ·obtain ⟨sy,hsk⟩:=Ab (show k < syms.length by omega)
   have hsm:=AM hsk
   have hs2:=h2 sy hsm
   have hfold:(syms.take (k + 1)).foldl (FS a b) o0=FS a b ((syms.take k).foldl (FS a b) o0) sy:=by
    rw [AQ hsk,List.foldl_append]
    rfl
   have hoko:OkJ a b syms ((syms.take k).foldl (FS a b) o0):=OkJ.symsF h2 (fun s hs=>List.mem_of_mem_take hs) hok0
   have hbase:=(E3 (f:=FS a b) (fun out s=>Ln out s) (syms.take k) o0).length_le
   obtain ⟨o,ho⟩:∃ o,(syms.take k).foldl (FS a b) o0=o:=⟨_,rfl⟩
   rw [ho] at s7 s500 s18 s9 hfold hoko hbase
   have holen:=hoko.len ha hb
   have hol:(o.map EC).length=o.length:=by simp
   repeat' (first | (with_reducible first | refine W ?_ | refine Z0 ?_ | ((first | refine Wo fun K hK=>?_ | refine Wp ?_ | refine Wq ?_ | refine Wr ?_);(try simp only [go_sem,fN,seval,eT,iR,e2,e3,e4,e7,e8,e9,e20,e21,e22,s3,s4,s7,s500,s8,s18,s9,s11,s501,s502,hlt,hsk,JI,hol,dT,dF,nL]);(repeat refine Ai ?_);(try (refine hK _ ?_;clear hK K));try refine iC ?_)) | refine Cg _ (P8 o.length sy.2) ?_)
   refine IWP.at_ (fun env S=>env 2=DY syms∧env 3=.one (.ptr 3 1 0 0)∧env 4=.one (.ptr 4 1 0 0)∧env 7=.one (.ptr 7 1 0 0)∧env 8=.one (.ptr 8 1 0 0)∧env 9=.one (.ptr 9 1 0 0)∧env 11=.one (.ptr 11 1 0 0)∧env 20=DY syms∧env 21=AK syms.length∧env 22=AK k∧env 30=.one (.fn 57 [.eptr [.int .i64 sy.2],.eptr [.int .i64 o.length]])∧S 3=some (AE a)∧S 4=some (AE b) ∧
    S 7=some (.box 61 [.row 500 o.length])∧S 500=some (MH o)∧S 8=some (.box 97 [.mptr 18])∧S 18=some (Nw o)∧S 9=some (.box 4 [.st (.bool (decide (o0.length < o.length)))])∧S 11=some (.box 72 [.st (.str sy.1),.st (.int .i64 (sy.2:Int))])∧S 501=none∧S 502=none)
    ⟨e2,e3,e4,e7,e8,e9,rfl,e20,e21,e22,rfl,by simp only [go_sem,fN,seval,eT,iR,s3],by simp only [go_sem,fN,seval,eT,iR,s4],by simp only [go_sem,fN,seval,eT,iR,s7],by simp only [go_sem,fN,seval,eT,iR,s500],by simp only [go_sem,fN,seval,eT,iR,s8],by simp only [go_sem,fN,seval,eT,iR,s18],by simp only [go_sem,fN,seval,eT,iR,s9],by simp only [go_sem,fN,seval,eT,iR],by simp only [go_sem,fN,seval,eT,iR,s501],by simp only [go_sem,fN,seval,eT,iR,s502]⟩ ?_
   clear e2 e3 e4 e7 e8 e9 e20 e21 e22 s3 s4 s7 s500 s8 s18 s9 s11 s501 s502
   rintro env S ⟨e2,e3,e4,e7,e8,e9,e11,e20,e21,e22,e30,s3,s4,s7,s500,s8,s18,s9,s11,s501,s502⟩
   refine IWP.rangeW htop 501 (by decide) s501 (show AS.ev _ (.t 30)=_ from e30) (by kernel_rfl) 502 (by decide) (Ij o.length sy.2 hs2 (by omega)) rfl (fun pre U=>U=DK S o0.length (pre.foldl (Ds a b sy.1) o)) (fun _ _=>False) ?_ ?_ (fun _ _ _ _ _=>trivial) ?_ ?_ (fun _ _ _ h=>h.elim)
   ·exact Pr s500 s7 s18 s9
   ·rintro pre U rfl
    rw [CJ (by decide) (by decide) (by decide) (by decide),show up1 502=up1 502 from rfl,Bl,s502]
    rfl
   ·rintro C' b0 b1 pre v U hC' hpre rfl hU hcl hb1
    obtain ⟨tl,htl⟩:=hpre
    have hvm:v ∈ Cx o.length sy.2:=by rw [← htl];simp
    obtain ⟨hvl,hvi⟩:=(EI hs2).1 hvm
    have hpm:∀ l ∈ pre,l.length=sy.2∧∀ i ∈ l,i < o.length:=fun l hl=>(EI hs2).1 (by rw [← htl];simp [hl])
    have hok1:OkJ a b syms (pre.foldl (Ds a b sy.1) o):=OkJ.steps hsm hoko (Nat.le_refl _) hpm
    have hpre1:=E3 (f:=Ds a b sy.1) (fun out l=>Gc out l) pre o
    have hsnoc:(pre ++ [v]).foldl (Ds a b sy.1) o=Ds a b sy.1 (pre.foldl (Ds a b sy.1) o) v:=by rw [List.foldl_append];rfl
    obtain ⟨o1,ho1⟩:∃ o1,pre.foldl (Ds a b sy.1) o=o1:=⟨_,rfl⟩
    rw [ho1] at hok1 hpre1 hsnoc hcl hU ⊢
    have h1len:=hok1.len ha hb
    have hvi1:∀ i ∈ v,i < o1.length:=fun i hi=>Nat.lt_of_lt_of_le (hvi i hi) hpre1.length_le
    have low:∀ {i:Nat},i < 1000→DK S o0.length o1 i=none:=fun hi=>A7 hcl hi
    have n13:=low (i:=45) (by decide)
    have n14:=low (i:=53) (by decide)
    have n17:=low (i:=17) (by decide)
    have w3:CI C.n env 3=.one (.ptr 1003 1 0 0):=by rw [CI,if_pos (by rw [hC];decide),e3];rfl
    have w4:CI C.n env 4=.one (.ptr 1004 1 0 0):=by rw [CI,if_pos (by rw [hC];decide),e4];rfl
    have w7:CI C.n env 7=.one (.ptr 1007 1 0 0):=by rw [CI,if_pos (by rw [hC];decide),e7];rfl
    have w8:CI C.n env 8=.one (.ptr 1008 1 0 0):=by rw [CI,if_pos (by rw [hC];decide),e8];rfl
    have w9:CI C.n env 9=.one (.ptr 1009 1 0 0):=by rw [CI,if_pos (by rw [hC];decide),e9];rfl
    have w11:CI C.n env 11=.one (.ptr 1011 1 0 0):=by rw [CI,if_pos (by rw [hC];decide),e11];rfl
    have u501:up1 501=1501:=rfl
    have u502:up1 502=1502:=rfl
    have hel:=Bp v
    obtain ⟨W,hW⟩:∃ W,AD (AD (DK S o0.length o1) 1502 (some (.mrow 3 1 (Ak v)))) 1501 (some b1)=W:=⟨_,rfl⟩
    rw [u501,u502,hel,hvl]
    repeat' with_reducible first | refine W ?_ | refine Z0 ?_ | ((first | refine Wo fun K hK=>?_ | refine Wp ?_ | refine Wq ?_ | refine Wr ?_);(try simp only [go_sem,fN,seval,eT,iR,Jl,u501,u502,dT,dF,nL]);(repeat refine Ai ?_);(try (refine hK _ ?_;clear hK K));try refine iC ?_)
    refine AA ⟨by simp only [go_sem,fN,seval,eT,iR,u501,u502],?_⟩
    refine IWP.at_ (fun env1 S1=>env1 3=.one (.ptr 1003 1 0 0)∧env1 4=.one (.ptr 1004 1 0 0)∧env1 7=.one (.ptr 1007 1 0 0)∧env1 8=.one (.ptr 1008 1 0 0)∧env1 9=.one (.ptr 1009 1 0 0)∧env1 11=.one (.ptr 1011 1 0 0)∧env1 12=.one (.row 1502 sy.2)∧S1=W) ⟨w3,w4,w7,w8,w9,w11,rfl,by rw [← hW];exact Iw⟩ ?_
    rintro env1 S1 ⟨x3,x4,x7,x8,x9,x11,x12,rfl⟩
    have hWat:∀ i,i ≠ 1501→i ≠ 1502→S1 i=DK S o0.length o1 i:=fun i p q=>by rw [← hW,AF _ p,AF _ q]
    have q45:S1 45=none:=by rw [hWat 45 (by decide) (by decide)];exact n13
    have q53:S1 53=none:=by rw [hWat 53 (by decide) (by decide)];exact n14
    have q17:S1 17=none:=by rw [hWat 17 (by decide) (by decide)];exact n17
    have q3:S1 1003=some (AE a):=by rw [hWat 1003 (by decide) (by decide),CJ (by decide) (by decide) (by decide) (by decide)];exact Bk s3
    have q4:S1 1004=some (AE b):=by rw [hWat 1004 (by decide) (by decide),CJ (by decide) (by decide) (by decide) (by decide)];exact Bk s4
    have q8:S1 1008=some (.box 97 [.mptr 1018]):=by rw [hWat 1008 (by decide) (by decide),CJ (by decide) (by decide) (by decide) (by decide)];exact Bk s8
    have q11:S1 1011=some (.box 72 [.st (.str sy.1),.st (.int .i64 (sy.2:Int))]):=by rw [hWat 1011 (by decide) (by decide),CJ (by decide) (by decide) (by decide) (by decide)];exact Bk s11
    have q7:S1 1007=some (.box 61 [.row 1500 o1.length]):=by rw [hWat 1007 (by decide) (by decide)];rfl
    have q500:S1 1500=some (MH o1):=by rw [hWat 1500 (by decide) (by decide)];rfl
    have q18:S1 1018=some (Nw o1):=by rw [hWat 1018 (by decide) (by decide)];rfl
    have q9:S1 1009=some (.box 4 [.st (.bool (decide (o0.length < o1.length)))]):=by rw [hWat 1009 (by decide) (by decide)];rfl
    have q502:S1 1502=some (.mrow 3 1 (Ak v)):=by rw [← hW,AF _ (by decide),AG]
    have hWc:Am S1:=by rw [← hW];exact Aq (Aq IC (by decide) rfl) (by decide) hb1
    repeat' with_reducible first | refine W ?_ | refine Z0 ?_ | ((first | refine Wo fun K hK=>?_ | refine Wp ?_ | refine Wq ?_ | refine Wr ?_);(try simp only [go_sem,fN,seval,eT,iR,x12,q502,hel,hvl,dT,dF,nL]);(repeat refine Ai ?_);(try (refine hK _ ?_;clear hK K));try refine iC ?_)
    refine IWP.ghost (Ad.own 13 45 65 1 rfl q45 (by simp) (by rw [hC',hC];decide)) ?_
    refine IWP.ghost (Ad.own 14 53 65 1 rfl (by simp only [go_sem,fN,seval,eT,iR,q53]) (by simp) (by rw [hC',hC];decide)) ?_
    refine IWP.loop (fun q s=>∃ t,t≤sy.2∧q=sy.2 - t∧s.env 3=.one (.ptr 1003 1 0 0)∧s.env 4=.one (.ptr 1004 1 0 0)∧s.env 7=.one (.ptr 1007 1 0 0)∧s.env 8=.one (.ptr 1008 1 0 0)∧s.env 9=.one (.ptr 1009 1 0 0)∧s.env 11=.one (.ptr 1011 1 0 0)∧s.env 13=.one (.row 45 t)∧s.env 14=.one (.row 53 t)∧s.env 32=.one (.row 1502 sy.2)∧s.env 33=AK sy.2∧s.env 34=AK t ∧
     s.S 45=some (.arow 65 1 (((Ax o1 (v.take t)).map Prod.fst).map HX))∧s.S 53=some (.arow 65 1 (((Ax o1 (v.take t)).map Prod.snd).map HX))∧s.S 17=none∧∀ i,1000≤i→s.S i=S1 i) sy.2
     ⟨0,Nat.zero_le _,rfl,x3,x4,x7,x8,x9,x11,rfl,rfl,by simp only [go_sem,fN,seval,eT,iR,x12],by simp only [go_sem,fN,seval,eT,iR],rfl,by simp only [go_sem,fN,seval,eT,iR];rfl,by simp only [go_sem,fN,seval,eT,iR];rfl,by simp only [go_sem,fN,seval,eT,iR,q17],fun i hi=>(AF _ (by omega) _).trans (AF _ (by omega) _)⟩ ?_
    rintro q ⟨env2,S2⟩ ⟨t,ht,rfl,y3,y4,y7,y8,y9,y11,y13,y14,y32,y33,y34,z45,z53,z17,hS2⟩
    simp only at y3 y4 y7 y8 y9 y11 y13 y14 y32 y33 y34 z45 z53 z17 hS2
    have r3:=(hS2 1003 (by decide)).trans q3
    have r4:=(hS2 1004 (by decide)).trans q4
    have r7:=(hS2 1007 (by decide)).trans q7
    have r8:=(hS2 1008 (by decide)).trans q8
    have r9:=(hS2 1009 (by decide)).trans q9
    have r11:=(hS2 1011 (by decide)).trans q11
    have r500:=(hS2 1500 (by decide)).trans q500
    have r18:=(hS2 1018 (by decide)).trans q18
    have r502:=(hS2 1502 (by decide)).trans q502
    have hl45:(((Ax o1 (v.take t)).map Prod.fst).map HX).length=t:=by rw [List.length_map,List.length_map,Cr,List.length_take];omega
    have hl53:(((Ax o1 (v.take t)).map Prod.snd).map HX).length=t:=by rw [List.length_map,List.length_map,Cr,List.length_take];omega
    have hol1:(o1.map EC).length=o1.length:=by simp
    by_cases htl2:t < sy.2
    ·obtain ⟨x,hx⟩:=Ab (show t < v.length by omega)
     have hxo:=hvi1 x (AM hx)
     have hx':=CK hx
     obtain ⟨jx,hjx⟩:=Ab hxo
     have hpt:Ax o1 (v.take (t + 1))=Ax o1 (v.take t) ++ [jx]:=by
      rw [AQ hx]
      unfold Ax
      rw [List.map_append,List.map_cons,List.map_nil,List.getD_eq_getElem?_getD,hjx]
      rfl
     have hjm:=hok1.gen jx (AM hjx)
     repeat' with_reducible first | refine W ?_ | refine Z0 ?_ | ((first | refine Wo fun K hK=>?_ | refine Wp ?_ | refine Wq ?_ | refine Wr ?_);(try simp only [go_sem,fN,seval,eT,iR,y3,y4,y7,y8,y9,y11,y13,y14,y32,y33,y34,z45,z53,r7,r500,r502,htl2,hx',hjx,hl45,hl53,hol1,hel,hvl,EC,G_,dT,dF,nL]);(repeat refine Ai ?_);(try (refine hK _ ?_;clear hK K));try refine iC ?_)
     refine AA ⟨sy.2 - (t + 1),by omega,t + 1,by omega,rfl,y3,y4,y7,y8,y9,y11,?_,?_,?_,?_,rfl,?_,?_,?_,fun i hi=>?_⟩
     ·simp only [go_sem,fN,seval,eT,iR]
     ·simp only [go_sem,fN,seval,eT,iR]
     ·simp only [go_sem,fN,seval,eT,iR,y32]
     ·simp only [go_sem,fN,seval,eT,iR,y33]
     ·rw [hpt]
      simp only [go_sem,fN,seval,eT,iR]
      simp [HX]
     ·rw [hpt]
      simp only [go_sem,fN,seval,eT,iR]
      simp [HX]
     ·simp only [go_sem,fN,seval,eT,iR,z17]
     ·show AD (AD S2 45 _) 53 _ i=_
      rw [AF _ (by omega),AF _ (by omega)]
      exact hS2 i hi
    ·have hte:t=sy.2:=by omega
     have htk:v.take t=v:=by rw [hte,← hvl];exact List.take_length
     rw [htk] at z45 z53 hl45 hl53
     have hbelow:∀ x ∈ Ax o1 v,x.1.length=a.states.toNat∧x.2.length=b.states.toNat:=fun x hx=>(hok1.gen x (E6 hvi1 x hx)).len
     have hfa:=KM a ga (by omega) hma sy.1 ((Ax o1 v).map Prod.fst) (fun l hl=>by
      obtain ⟨x,hx,rfl⟩:=List.mem_map.1 hl
      exact (hbelow x hx).1) (by rw [List.length_map,Cr];omega)
     have hfb:=KM b gb (by omega) hmb sy.1 ((Ax o1 v).map Prod.snd) (fun l hl=>by
      obtain ⟨x,hx,rfl⟩:=List.mem_map.1 hl
      exact (hbelow x hx).2) (by rw [List.length_map,Cr];omega)
     have hnx:nxt a b sy.1 (Ax o1 v)=(a.ending sy.1 ((Ax o1 v).map Prod.fst),b.ending sy.1 ((Ax o1 v).map Prod.snd)):=rfl
     have hnl:∀ i ∈ o1,i.1.length=(nxt a b sy.1 (Ax o1 v)).1.length∧i.2.length=(nxt a b sy.1 (Ax o1 v)).2.length:=fun i hi=>by
      obtain ⟨p,q⟩:=(hok1.gen i hi).len
      rw [hnx]
      exact ⟨by rw [p,Au.ending_length],by rw [q,Au.ending_length]⟩
     obtain ⟨g1,g2⟩:=M7 hnl
     have g3:=Th hnl
     have hyes:nxt a b sy.1 (Ax o1 v) ∈ o1→Lr o1 (nxt a b sy.1 (Ax o1 v))=o1:=fun h=>by unfold Lr;exact if_pos h
     have hno:¬ nxt a b sy.1 (Ax o1 v) ∈ o1→Lr o1 (nxt a b sy.1 (Ax o1 v))=o1 ++ [nxt a b sy.1 (Ax o1 v)]:=fun h=>by unfold Lr;exact if_neg h
     have hsnoc:(pre ++ [v]).foldl (Ds a b sy.1) o=Lr o1 (nxt a b sy.1 (Ax o1 v)):=hsnoc
     obtain ⟨jn,hjn⟩:∃ jn,nxt a b sy.1 (Ax o1 v)=jn:=⟨_,rfl⟩
     rw [hjn] at g1 g2 g3 hsnoc hnx hyes hno
     have hk1:KV.p (.i (bN jn.1:Int)) (.i (bN jn.2:Int))=QF jn:=rfl
     obtain ⟨j1,j2⟩:=jn
     obtain ⟨rfl,rfl⟩:j1=_∧j2=_:=Prod.mk.injEq .. ▸ hnx
     by_cases hin:(a.ending sy.1 ((Ax o1 v).map Prod.fst),b.ending sy.1 ((Ax o1 v).map Prod.snd)) ∈ o1
     ·rw [hyes hin] at hsnoc
      have g:=g1 hin
      repeat' (first | (with_reducible first | refine W ?_ | refine Z0 ?_ | ((first | refine Wo fun K hK=>?_ | refine Wp ?_ | refine Wq ?_ | refine Wr ?_);(try simp only [go_sem,fN,seval,eT,iR,y3,y4,y7,y8,y9,y11,y13,y14,y32,y33,y34,z45,z53,z17,r3,r4,r7,r8,r9,r11,r18,htl2,hl45,hl53,AE,Bu,EF,KV.of2,KV.of1,hk1,g,G7,dT,dF,nL]);(repeat refine Ai ?_);(try (refine hK _ ?_;clear hK K));try refine iC ?_)) | refine Cg _ (hfa) ?_ | refine Cg _ (hfb) ?_)
      refine Iq (AD (DK S o0.length o1) 1502 (some (.mrow 3 1 (Ak v)))) (by rw [hW];exact hWc) (by rw [AF _ (by decide)];exact hU) (fun i hi=>?_) ⟨_,rfl,?_,by rw [hsnoc]⟩
      ·rw [hW]
       show AD (AD S2 17 _) 17 _ i=S1 i
       rw [AF _ (by omega),AF _ (by omega)]
       exact hS2 i hi
      ·rw [CJ (by decide) (by decide) (by decide) (by decide)]
       show upS S (up1 502)=none
       rw [Bl,s502]
       rfl
     ·rw [hno hin] at hsnoc
      have g:=g2 hin
      have g4:=g3 hin
      repeat' (first | (with_reducible first | refine W ?_ | refine Z0 ?_ | ((first | refine Wo fun K hK=>?_ | refine Wp ?_ | refine Wq ?_ | refine Wr ?_);(try simp only [go_sem,fN,seval,eT,iR,y3,y4,y7,y8,y9,y11,y13,y14,y32,y33,y34,z45,z53,z17,r3,r4,r7,r8,r9,r11,r18,r500,htl2,hl45,hl53,hol1,AE,Bu,EF,KV.of2,KV.of1,hk1,g,g4,G7,dT,dF,nL]);(repeat refine Ai ?_);(try (refine hK _ ?_;clear hK K));try refine iC ?_)) | refine Cg _ (hfa) ?_ | refine Cg _ (hfb) ?_)
      obtain ⟨jn,hjn⟩:∃ jn:J,(a.ending sy.1 ((Ax o1 v).map Prod.fst),b.ending sy.1 ((Ax o1 v).map Prod.snd))=jn:=⟨_,rfl⟩
      refine Iq (AD (DK S o0.length (o1 ++ [jn])) 1502 (some (.mrow 3 1 (Ak v)))) (Aq (Aq IC (by decide) rfl) (by decide) hb1) (by rw [AF _ (by decide),CJ (by decide) (by decide) (by decide) (by decide)];show upS S (up1 501)=none;rw [Bl,s501];rfl) (fun i hi=>?_) ⟨_,rfl,?_,by rw [hsnoc,hjn]⟩
      ·show AD (AD (AD (AD (AD (AD S2 17 _) 17 _) 1018 _) 1500 _) 1007 _) 1009 _ i=_
       by_cases c1:i=1009
       ·subst c1
        rw [AG,AF _ (by decide),AF _ (by decide)]
        show _=AD _ 1009 _ 1009
        rw [AG]
        have hle:=hpre1.length_le
        have hle:=hpre1.length_le
        have hle:=hpre1.length_le
        have hle:=hpre1.length_le
        simp
        omega
       by_cases c2:i=1007
       ·subst c2
        rw [AF _ (by decide),AG,AF _ (by decide),AF _ (by decide)]
        show _=AD (AD (AD _ 1007 _) 1018 _) 1009 _ 1007
        rw [AF _ (by decide),AF _ (by decide),AG]
        simp
       by_cases c3:i=1500
       ·subst c3
        rw [AF _ (by decide),AF _ (by decide),AG,AF _ (by decide),AF _ (by decide)]
        show _=AD (AD (AD (AD _ 1500 _) 1007 _) 1018 _) 1009 _ 1500
        rw [AF _ (by decide),AF _ (by decide),AF _ (by decide),AG,← hjn,MH,List.map_append]
        rfl
       by_cases c4:i=1018
       ·subst c4
        rw [AF _ (by decide),AF _ (by decide),AF _ (by decide),AG,AF _ (by decide),AF _ (by decide)]
        show _=AD (AD _ 1018 _) 1009 _ 1018
        rw [AF _ (by decide),AG,hjn]
       rw [AF _ c1,AF _ c2,AF _ c3,AF _ c4,AF _ (by omega),AF _ (by omega),hS2 i hi,← hW]
       by_cases c5:i=1501
       ·subst c5
        rw [AG,AG]
       by_cases c6:i=1502
       ·subst c6
        rw [AF _ c5,AG,AF _ c5,AG]
       rw [AF _ c5,AF _ c6,AF _ c5,AF _ c6,CJ c3 c2 c4 c1,CJ c3 c2 c4 c1]
      ·rw [CJ (by decide) (by decide) (by decide) (by decide)]
       show upS S (up1 502)=none
       rw [Bl,s502]
       rfl
   ·rintro U bb rfl
    rw [Q1]
    have hsy:(Cx o.length sy.2).foldl (Ds a b sy.1) o=FS a b o sy:=rfl
    rw [hsy]
    obtain ⟨o3,ho3⟩:∃ o3,FS a b o sy=o3:=⟨_,rfl⟩
    rw [ho3] at hfold ⊢
    repeat' with_reducible first | refine W ?_ | refine Z0 ?_ | ((first | refine Wo fun K hK=>?_ | refine Wp ?_ | refine Wq ?_ | refine Wr ?_);(try simp only [go_sem,fN,seval,eT,iR,e22,dT,dF,nL]);(repeat refine Ai ?_);(try (refine hK _ ?_;clear hK K));try refine iC ?_)
    refine AA ⟨syms.length - (k + 1),by omega,k + 1,by omega,rfl,?_⟩
    rw [hfold]
    simp only [go_sem,fN,seval,AS.drop,AY,AC.clears,AC.clear,AC.highs,AC.high,Bool.not_false,Bool.true_and,Bool.and_self,AV.purge,AV.purges,AC.purge,AL.purge,List.contains_cons,List.contains_nil,Nat.reduceBEq,Bool.or_self,Bool.or_false,Bool.false_or,Bool.or_true,eT,iR,e2,e3,e4,e7,e8,e9,e20,e21,e22,s3,s4,s8,AE]
    rfl
  ·have hke:k=syms.length:=by omega
   have hit:itJ a b syms (i + 1)=syms.foldl (FS a b) o0:=by rw [← ho0];rfl
   rw [hke,List.take_length,← hit] at s7 s500 s18 s9
   have hpp:=Mx (a:=a) (b:=b) (syms:=syms) o0
   have hit2:itJ a b syms (i + 1)=Ja a b syms o0:=by rw [← ho0];rfl
   iterate 11 with_reducible first | refine W ?_ | refine Z0 ?_ | ((first | refine Wo fun K hK=>?_ | refine Wp ?_ | refine Wq ?_ | refine Wr ?_);(try simp only [go_sem,fN,seval,eT,iR,e2,e3,e4,e7,e8,e9,e22,e21,s9,hlt,dT,dF,nL]);(repeat refine Ai ?_);(try (refine hK _ ?_;clear hK K));try refine iC ?_)
   refine W ?_
   refine Wo (fun K hK=>?_)
   (try simp only [go_sem,fN,seval,eT,iR,e9,s9])
   (repeat with_reducible refine Ai ?_)
   refine hK _ ?_
   clear hK K
   refine W ?_
   refine IWP.ghost (Ad.drop [9] _ (by decide)) ?_
   refine IWP.at_ (fun env1 S1=>env1 2=DY syms∧env1 3=.one (.ptr 3 1 0 0)∧env1 4=.one (.ptr 4 1 0 0)∧env1 7=.one (.ptr 7 1 0 0)∧env1 8=.one (.ptr 8 1 0 0)∧env1 77=Ag (decide (o0.length < (itJ a b syms (i + 1)).length))∧S1 3=some (AE a)∧S1 4=some (AE b) ∧
    S1 7=some (.box 61 [.row 500 (itJ a b syms (i + 1)).length])∧S1 500=some (MH (itJ a b syms (i + 1)))∧S1 8=some (.box 97 [.mptr 18])∧S1 18=some (Nw (itJ a b syms (i + 1)))∧S1 9=none∧S1 11=none∧S1 501=none∧S1 502=none)
    (by simp only [go_sem,fN,seval,AS.drop,AY,AC.clears,AC.clear,AC.highs,AC.high,Bool.not_false,Bool.true_and,Bool.and_self,AV.purge,AV.purges,AC.purge,AL.purge,List.contains_cons,List.contains_nil,Nat.reduceBEq,Bool.or_self,Bool.or_false,Bool.false_or,Bool.or_true,eT,iR,e2,e3,e4,e7,e8,s3,s4,s7,s500,s8,s18,s11,s501,s502,AE]) ?_
   clear e2 e3 e4 e7 e8 e9 e20 e21 e22 s3 s4 s7 s500 s8 s18 s9 s11 s501 s502
   rintro env1 S1 ⟨e2,e3,e4,e7,e8,e77,s3,s4,s7,s500,s8,s18,s9,s11,s501,s502⟩
   repeat' with_reducible first | refine W ?_ | refine Z0 ?_ | ((first | refine Wo fun K hK=>?_ | refine Wp ?_ | refine Wq ?_ | refine Wr ?_);(try simp only [go_sem,fN,seval,eT,iR,e77,s9,dT,dF,nL]);(repeat refine Ai ?_);(try (refine hK _ ?_;clear hK K));try refine iC ?_)
   refine AA ⟨k0 + 2 - (i + 1),by omega,i + 1,by omega,rfl,e2,e3,e4,e7,e8,rfl,by simp only [go_sem,fN,seval,eT,iR,s3],by simp only [go_sem,fN,seval,eT,iR,s4],by simp only [go_sem,fN,seval,eT,iR,s7],by simp only [go_sem,fN,seval,eT,iR,s500],by simp only [go_sem,fN,seval,eT,iR,s8],by simp only [go_sem,fN,seval,eT,iR,s18],⟨decide (o0.length < (itJ a b syms (i + 1)).length),by simp only [go_sem,fN,seval,eT,iR],fun h=>⟨i,rfl,?_⟩,fun h=>?_⟩,by simp only [go_sem,fN,seval,eT,iR,s11],by simp only [go_sem,fN,seval,eT,iR,s501],by simp only [go_sem,fN,seval,eT,iR,s502]⟩
   ·have h:¬ o0.length < (itJ a b syms (i + 1)).length:=by simpa using h
    rw [hit2] at h ⊢
    have:=hpp.eq_of_length (by have:=hpp.length_le;omega)
    rw [ho0]
    exact this.symm
   ·have h:o0.length < (itJ a b syms (i + 1)).length:=by simpa using h
    rcases Nat.lt_or_ge i k0 with hlt | hge
    ·exact hlt
    ·exfalso
     have hik2:i=k0:=by omega
     subst hik2
     rw [hst,ho0] at h
     omega

theorem N7 (l:List Au) (hl:l.length≤1000) (hm:∀ a ∈ l,a.moves.length≤100000) (hf:∀ a ∈ l,∀ m ∈ a.moves,m.frm.length≤100000):AU Try.prog 30 [T7 l] (AK (DI l)):=by
 refine L3.ac fun C hC=>?_
 unfold HD
 repeat' with_reducible first | refine W ?_ | refine Z0 ?_ | ((first | refine Wo fun K hK=>?_ | refine Wp ?_ | refine Wq ?_ | refine Wr ?_);(try simp only [go_sem,fN,seval,eT,iR,dT,dF,nL]);(repeat refine Ai ?_);(try (refine hK _ ?_;clear hK K));try refine iC ?_)
 refine IWP.loopD [4] (fun q s=>∃ k,k≤l.length∧q=l.length - k∧(l.take k).all Ar=true∧s.env 7=T7 l∧s.env 8=AK l.length∧s.env 9=AK k∧s.S 4=none∧s.S 6=none) l.length ⟨0,Nat.zero_le _,rfl,rfl,rfl,by simp only [go_sem,fN,seval,eT,iR],rfl,rfl,rfl⟩ ?_
 rintro q ⟨env,S⟩ ⟨k,hk,rfl,hall,e7,e8,e9,s4,s6⟩
 simp only at e7 e8 e9 s4 s6
 by_cases hlt:(k:Int) < l.length
 ·obtain ⟨a,ha⟩:=Ab (show k < l.length by omega)
  have ham:=AM ha
  have h1:=hm a ham
  have hno:Ar a=false→DI l=3:=fun h=>if_neg (by
   rw [List.all_eq_true]
   intro h'
   rw [h' a ham] at h
   cases h)
  have hsn:(l.take (k + 1)).all Ar=Ar a:=DJ ha hall
  by_cases h3:(3:Int) < a.states
  ·have hb:Ar a=false:=by
    unfold Ar
    rw [decide_eq_false (by omega)]
    rfl
   rw [hno hb]
   repeat' with_reducible first | refine W ?_ | refine Z0 ?_ | ((first | refine Wo fun K hK=>?_ | refine Wp ?_ | refine Wq ?_ | refine Wr ?_);(try simp only [go_sem,fN,seval,eT,iR,e7,e8,e9,s4,s6,hlt,ha,Qf,h3,dT,dF,nL]);(repeat refine Ai ?_);(try (refine hK _ ?_;clear hK K));try refine iC ?_)
   simp only [go_sem,fN,seval,AP,AS.result,AH,AI,AN]
  ·repeat' with_reducible first | refine W ?_ | refine Z0 ?_ | ((first | refine Wo fun K hK=>?_ | refine Wp ?_ | refine Wq ?_ | refine Wr ?_);(try simp only [go_sem,fN,seval,eT,iR,e7,e8,e9,s4,s6,hlt,ha,Qf,h3,dT,dF,nL]);(repeat refine Ai ?_);(try (refine hK _ ?_;clear hK K));try refine iC ?_)
   refine IWP.loopD [6] (fun q s=>∃ i,i≤a.moves.length∧q=a.moves.length - i∧(a.moves.take i).all (fun m=>decide (m.frm.length≤2))=true∧s.env 7=T7 l∧s.env 8=AK l.length∧s.env 9=AK k∧s.env 17=.one (.st (.list (a.moves.map Ae)))∧s.env 18=AK a.moves.length∧s.env 19=AK i∧s.S 6=none) a.moves.length
    ⟨0,Nat.zero_le _,rfl,rfl,by simp only [go_sem,fN,seval,eT,iR,e7],by simp only [go_sem,fN,seval,eT,iR,e8],by simp only [go_sem,fN,seval,eT,iR,e9],by simp only [go_sem,fN,seval,eT,iR],by simp only [go_sem,fN,seval,eT,iR],by simp only [go_sem,fN,seval,eT,iR],by simp only [go_sem,fN,seval,eT,iR,s6]⟩ ?_
   clear e7 e8 e9 s4 s6
   rintro q ⟨env,S⟩ ⟨i,hi,rfl,hai,e7,e8,e9,e17,e18,e19,s6⟩
   simp only at e7 e8 e9 e17 e18 e19 s6
   by_cases hil:(i:Int) < a.moves.length
   ·obtain ⟨m,hmi⟩:=Ab (show i < a.moves.length by omega)
    have hmm:=AM hmi
    have hfm:=hf a ham m hmm
    have hsn2:(a.moves.take (i + 1)).all (fun m=>decide (m.frm.length≤2))=decide (m.frm.length≤2):=DJ hmi hai
    by_cases h2:(2:Int) < m.frm.length
    ·have hb:Ar a=false:=by
      unfold Ar
      rw [LK hmm (p:=fun m=>decide (m.frm.length≤2)) (decide_eq_false (by omega))]
      simp
     rw [hno hb]
     have h2':2 < m.frm.length:=by omega
     repeat' with_reducible first | refine W ?_ | refine Z0 ?_ | ((first | refine Wo fun K hK=>?_ | refine Wp ?_ | refine Wq ?_ | refine Wr ?_);(try simp only [go_sem,fN,seval,eT,iR,e7,e8,e9,e17,e18,e19,s6,hil,hmi,Ae,h2,h2',dT,dF,nL]);(repeat refine Ai ?_);(try (refine hK _ ?_;clear hK K));try refine iC ?_)
     simp only [go_sem,fN,seval,AP,AS.result,AH,AI,AN]
    ·have h2':¬ 2 < m.frm.length:=by omega
     repeat' with_reducible first | refine W ?_ | refine Z0 ?_ | ((first | refine Wo fun K hK=>?_ | refine Wp ?_ | refine Wq ?_ | refine Wr ?_);(try simp only [go_sem,fN,seval,eT,iR,e7,e8,e9,e17,e18,e19,s6,hil,hmi,Ae,h2,h2',dT,dF,nL]);(repeat refine Ai ?_);(try (refine hK _ ?_;clear hK K));try refine iC ?_)
     refine AA ⟨a.moves.length - (i + 1),by omega,i + 1,by omega,rfl,by rw [hsn2];exact decide_eq_true (by omega),?_⟩
     simp only [go_sem,fN,seval,AS.drop,AY,AC.clears,AC.clear,AC.highs,AC.high,Bool.not_false,Bool.true_and,Bool.and_self,AV.purge,AV.purges,AC.purge,AL.purge,List.contains_cons,List.contains_nil,Nat.reduceBEq,Bool.or_self,Bool.or_false,Bool.false_or,Bool.or_true,eT,iR,e7,e8,e9,e17,e18,e19,s6]
     rfl
   ·have hie:i=a.moves.length:=by omega
    rw [hie,List.take_length] at hai
    repeat' with_reducible first | refine W ?_ | refine Z0 ?_ | ((first | refine Wo fun K hK=>?_ | refine Wp ?_ | refine Wq ?_ | refine Wr ?_);(try simp only [go_sem,fN,seval,eT,iR,e7,e8,e9,e17,e18,e19,s6,hil,dT,dF,nL]);(repeat refine Ai ?_);(try (refine hK _ ?_;clear hK K));try refine iC ?_)
    refine AA ⟨l.length - (k + 1),by omega,k + 1,by omega,rfl,?_,?_⟩
    ·rw [hsn]
     unfold Ar
     rw [decide_eq_true (by omega),hai]
     rfl
    ·simp only [go_sem,fN,seval,AS.drop,AY,AC.clears,AC.clear,AC.highs,AC.high,Bool.not_false,Bool.true_and,Bool.and_self,AV.purge,AV.purges,AC.purge,AL.purge,List.contains_cons,List.contains_nil,Nat.reduceBEq,Bool.or_self,Bool.or_false,Bool.false_or,Bool.or_true,eT,iR,e7,e8,e9,s6]
     rfl
 ·have hke:k=l.length:=by omega
  rw [hke,List.take_length] at hall
  have hE:DI l=0:=if_pos hall
  rw [hE]
  repeat' with_reducible first | refine W ?_ | refine Z0 ?_ | ((first | refine Wo fun K hK=>?_ | refine Wp ?_ | refine Wq ?_ | refine Wr ?_);(try simp only [go_sem,fN,seval,eT,iR,e7,e8,e9,hlt,dT,dF,nL]);(repeat refine Ai ?_);(try (refine hK _ ?_;clear hK K));try refine iC ?_)
  simp only [go_sem,fN,seval,AP,AS.result,AH,AI,AN]
theorem DM {a:Au} (h:a.may 8 40=0):a.moves.length≤40∧∀ m ∈ a.moves,m.frm.length≤4:=by
 obtain ⟨⟨_,_,h3⟩,h4,_⟩:=Au.may_ok.1 h
 exact ⟨by omega,fun m hm=>(Mv.err_ok.1 (h4 m hm)).2.1⟩
theorem RZ (a b:Au):(Ao [a,b]).length≤a.moves.length + b.moves.length:=by
 unfold Ao
 have key:∀ l:List Sym,(Bs l).length≤l.length:=fun l=>by
  induction l with
  | nil=>exact Nat.le_refl _
  | cons x l ih =>
   have h1:∀ m:List Sym,(JN x m).length≤m.length + 1:=fun m=>by
    induction m with
    | nil=>exact Nat.le_refl _
    | cons y m ih2 =>
     unfold JN
     split
     ·simp
     ·split
      ·simp
      ·simp only [List.length_cons];omega
   have:=h1 (Bs l)
   show (JN x (Bs l)).length≤_
   simp only [List.length_cons]
   omega
 refine Nat.le_trans (key _) ?_
 simp
def Ej (a b:Au) (w:Bool):AV:=if A1 a b ≠ 0 then .tup [Ag false,AK (A1 a b)] else if DI [a,b] ≠ 0 then .tup [Ag false,AK (DI [a,b])] else .tup [Ag w,AK 0]
theorem Ug {a b:Au} (h:A1 a b=0):a.may 8 40=0∧b.may 8 40=0:=by
 unfold A1 at h
 split at h
 ·rename_i h1;exact ⟨h1,h⟩
 ·rename_i h1;exact absurd h h1
theorem TP {a b:Au} (h:DI [a,b]=0):Ar a=true∧Ar b=true:=by
 unfold DI at h
 split at h
 ·rename_i h1
  simpa using h1
 ·cases h
theorem Qw (a b:Au) (hla:a.last.length≤100000) (hlb:b.last.length≤100000):AU Try.prog 12 [aAu a,aAu b] (Ej a b (IM a b)):=by
 have hp:=LO a b
 unfold Ej
 by_cases h1:A1 a b=0
 case neg =>
  rw [if_pos h1]
  refine EO.ac fun C hC=>?_
  unfold DA
  repeat' (first | (with_reducible first | refine W ?_ | refine Z0 ?_ | ((first | refine Wo fun K hK=>?_ | refine Wp ?_ | refine Wq ?_ | refine Wr ?_);(try simp only [go_sem,fN,seval,eT,iR,h1,dT,dF,nL]);(repeat refine Ai ?_);(try (refine hK _ ?_;clear hK K));try refine iC ?_)) | refine Cg _ (hp) ?_)
  simp only [go_sem,fN,seval,AP,AS.result,AH,AI,AN]
 case pos =>
  rw [if_neg (fun h=>h h1)]
  rw [h1] at hp
  obtain ⟨ma,mb⟩:=Ug h1
  have ga:=Au.may_good ma
  have gb:=Au.may_good mb
  obtain ⟨a1,a2⟩:=DM ma
  obtain ⟨b1,b2⟩:=DM mb
  have hsm:=N7 [a,b] (by simp) (fun c hc=>by
   simp only [List.mem_cons,List.not_mem_nil,or_false] at hc
   rcases hc with rfl | rfl <;> omega) (fun c hc m hm=>by
   simp only [List.mem_cons,List.not_mem_nil,or_false] at hc
   rcases hc with rfl | rfl
   ·have:=a2 m hm;omega
   ·have:=b2 m hm;omega)
  by_cases h2:DI [a,b]=0
  case neg =>
   rw [if_pos h2]
   refine EO.ac fun C hC=>?_
   unfold DA
   repeat' (first | (with_reducible first | refine W ?_ | refine Z0 ?_ | ((first | refine Wo fun K hK=>?_ | refine Wp ?_ | refine Wq ?_ | refine Wr ?_);(try simp only [go_sem,fN,seval,eT,iR,h2,dT,dF,nL]);(repeat refine Ai ?_);(try (refine hK _ ?_;clear hK K));try refine iC ?_)) | refine Cg _ (hp) ?_ | refine Cg _ (hsm) ?_)
   simp only [go_sem,fN,seval,AP,AS.result,AH,AI,AN]
  case pos =>
   rw [if_neg (fun h=>h h2)]
   rw [h2] at hsm
   obtain ⟨sa,sb⟩:=TP h2
   have hs2:=K5 sa sb
   have hsy:=My [a,b] (by simp) (fun c hc=>by
    simp only [List.mem_cons,List.not_mem_nil,or_false] at hc
    rcases hc with rfl | rfl <;> omega) (fun c hc m hm=>by
    simp only [List.mem_cons,List.not_mem_nil,or_false] at hc
    rcases hc with rfl | rfl
    ·have:=a2 m hm;omega
    ·have:=b2 m hm;omega)
   have hsl:=RZ a b
   have hre:=Sc a b ga gb (Al sa) (Al sb) (by omega) (by omega) (Ao [a,b]) hs2 (by omega)
   have hok:=Gn (a:=a) (b:=b) hs2
   have hlen:=hok.len (Al sa) (Al sb)
   have hlA:=IE a ga (by have:=Al sa;omega) hla
   have hlB:=IE b gb (by have:=Al sb;omega) hlb
   have hfa:=fun x=>KT ga x
   have hfb:=fun x=>KT gb x
   unfold IM
   obtain ⟨R,hR⟩:∃ R,BI a b (Ao [a,b])=R:=⟨_,rfl⟩
   rw [hR] at hre hlen
   rw [hR]
   refine EO.ac fun C hC=>?_
   unfold DA
   repeat' (first | (with_reducible first | refine W ?_ | refine Z0 ?_ | ((first | refine Wo fun K hK=>?_ | refine Wp ?_ | refine Wq ?_ | refine Wr ?_);(try simp only [go_sem,fN,seval,eT,iR,dT,dF,nL]);(repeat refine Ai ?_);(try (refine hK _ ?_;clear hK K));try refine iC ?_)) | refine Cg _ (hp) ?_ | refine Cg _ (hsm) ?_ | refine Cg _ (hsy) ?_ | refine Cg _ (hre) ?_)
   refine IWP.loopD [9] (fun q s=>∃ k,k≤R.length∧q=R.length - k∧(R.take k).all (fun j=>!(a.fin j.1 && !b.fin j.2))=true∧s.env 2=.one (.ptr 2 1 0 0)∧s.env 3=.one (.ptr 3 1 0 0)∧s.env 29=aJs R∧s.env 30=AK R.length∧s.env 31=AK k∧s.S 2=some (AE a)∧s.S 3=some (AE b)∧s.S 9=none) R.length ⟨0,Nat.zero_le _,rfl,rfl,rfl,rfl,rfl,by simp only [go_sem,fN,seval,eT,iR],rfl,by simp only [go_sem,fN,seval,eT,iR];rfl,by simp only [go_sem,fN,seval,eT,iR];rfl,rfl⟩ ?_
   rintro q ⟨env,S⟩ ⟨k,hk,rfl,hall,e2,e3,e29,e30,e31,s2,s3,s9⟩
   simp only at e2 e3 e29 e30 e31 s2 s3 s9
   by_cases hlt:(k:Int) < R.length
   ·obtain ⟨j,hj⟩:=Ab (show k < R.length by omega)
    have hjm:=AM hj
    have hsn:(R.take (k + 1)).all (fun j=>!(a.fin j.1 && !b.fin j.2))=!(a.fin j.1 && !b.fin j.2):=DJ hj hall
    have fa:=hfa j.1
    have fb:=hfb j.2
    by_cases hA:((bN j.1 &&& bN a.lastB:Nat):Int)=0
    ·have hA':a.fin j.1=false:=by
      cases hx:a.fin j.1 with
      | false=>rfl
      | true=>exact absurd hA (by have:=fa.2 hx;omega)
     repeat' (first | (with_reducible first | refine W ?_ | refine Z0 ?_ | ((first | refine Wo fun K hK=>?_ | refine Wp ?_ | refine Wq ?_ | refine Wr ?_);(try simp only [go_sem,fN,seval,eT,iR,e2,e3,e29,e30,e31,s2,s3,s9,AE,hlt,hj,EC,HG,IntKind.bits,hA,Int.toNat_natCast,dT,dF,nL]);(repeat refine Ai ?_);(try (refine hK _ ?_;clear hK K));try refine iC ?_)) | refine Cg _ (hlA) ?_ | refine Cg _ (hlB) ?_)
     refine AA ⟨R.length - (k + 1),by omega,k + 1,by omega,rfl,by rw [hsn,hA'];rfl,?_⟩
     simp only [go_sem,fN,seval,AS.drop,AY,AC.clears,AC.clear,AC.highs,AC.high,Bool.not_false,Bool.true_and,Bool.and_self,AV.purge,AV.purges,AC.purge,AL.purge,List.contains_cons,List.contains_nil,Nat.reduceBEq,Bool.or_self,Bool.or_false,Bool.false_or,Bool.or_true,eT,iR,e2,e3,e29,e30,e31,s2,s3,s9,AE]
     rfl
    ·have hA':a.fin j.1=true:=fa.1 (by omega)
     by_cases hB:((bN j.2 &&& bN b.lastB:Nat):Int)=0
     ·have hB':b.fin j.2=false:=by
       cases hx:b.fin j.2 with
       | false=>rfl
       | true=>exact absurd hB (by have:=fb.2 hx;omega)
      have hw:R.all (fun j=>!(a.fin j.1 && !b.fin j.2))=false:=LK hjm (p:=fun j=>!(a.fin j.1 && !b.fin j.2)) (by rw [hA',hB'];rfl)
      rw [hw]
      repeat' (first | (with_reducible first | refine W ?_ | refine Z0 ?_ | ((first | refine Wo fun K hK=>?_ | refine Wp ?_ | refine Wq ?_ | refine Wr ?_);(try simp only [go_sem,fN,seval,eT,iR,e2,e3,e29,e30,e31,s2,s3,s9,AE,hlt,hj,EC,HG,IntKind.bits,hA,hB,Int.toNat_natCast,dT,dF,nL]);(repeat refine Ai ?_);(try (refine hK _ ?_;clear hK K));try refine iC ?_)) | refine Cg _ (hlA) ?_ | refine Cg _ (hlB) ?_)
      simp only [go_sem,fN,seval,AP,AS.result,AH,AI,AN]
     ·have hB':b.fin j.2=true:=fb.1 (by omega)
      repeat' (first | (with_reducible first | refine W ?_ | refine Z0 ?_ | ((first | refine Wo fun K hK=>?_ | refine Wp ?_ | refine Wq ?_ | refine Wr ?_);(try simp only [go_sem,fN,seval,eT,iR,e2,e3,e29,e30,e31,s2,s3,s9,AE,hlt,hj,EC,HG,IntKind.bits,hA,hB,Int.toNat_natCast,dT,dF,nL]);(repeat refine Ai ?_);(try (refine hK _ ?_;clear hK K));try refine iC ?_)) | refine Cg _ (hlA) ?_ | refine Cg _ (hlB) ?_)
      refine AA ⟨R.length - (k + 1),by omega,k + 1,by omega,rfl,by rw [hsn,hA',hB'];rfl,?_⟩
      simp only [go_sem,fN,seval,AS.drop,AY,AC.clears,AC.clear,AC.highs,AC.high,Bool.not_false,Bool.true_and,Bool.and_self,AV.purge,AV.purges,AC.purge,AL.purge,List.contains_cons,List.contains_nil,Nat.reduceBEq,Bool.or_self,Bool.or_false,Bool.false_or,Bool.or_true,eT,iR,e2,e3,e29,e30,e31,s2,s3,s9,AE]
      rfl
   ·have hke:k=R.length:=by omega
    rw [hke,List.take_length] at hall
    rw [hall]
    repeat' with_reducible first | refine W ?_ | refine Z0 ?_ | ((first | refine Wo fun K hK=>?_ | refine Wp ?_ | refine Wq ?_ | refine Wr ?_);(try simp only [go_sem,fN,seval,eT,iR,e2,e3,e29,e30,e31,hlt,dT,dF,nL]);(repeat refine Ai ?_);(try (refine hK _ ?_;clear hK K));try refine iC ?_)
    simp only [go_sem,fN,seval,AP,AS.result,AH,AI,AN]

end Go.Proofs.Ytkegjgodjigjfaa
