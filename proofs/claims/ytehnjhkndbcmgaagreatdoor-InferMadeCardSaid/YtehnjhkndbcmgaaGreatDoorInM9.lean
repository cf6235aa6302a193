/-
  Part 9 of the texts: IrInfer; PTermD; PTerm; PSubst; PSort; PThen; PCompose; IrTerm. Conditions: none.
-/
import Derived.Test.YtehnjhkndbcmgaaGreatDoorInM8
namespace Go.Proofs.YtehnjhkndbcmgaaGreatDoor
open Go Go.RowKit
set_option maxRecDepth 100000
def ir_infer_within : IR :=
  (.seq (.ops [.i 2 (.box 27 (.t 0)), .i 4 (.mov (.n 0))]) (.seq (.ops [.i 7 (.mov (.t 1)), .i 8 (.bin .sub (.t 7) (.n 1)), .i 1 (.mov (.t 8))]) (.seq (.seq (.ops [.i 9 (.fieldAddr 1 (.t 2)), .i 10 (.load false 1 (.t 9)), .i 11 (.len false (.t 10)), .i 12 (.mov (.n 0))]) (.block 0 (.loop (.seq (.ops [.i 13 (.bin .lss (.t 12) (.t 11))]) (.seq (.cond (.t 13) .skip (.exit 0)) (.seq (.block 1 (.seq (.ops [.i 14 (.indexAddr 2 (.t 10) (.t 12)), .i 15 (.load true 2 (.t 14)), .i 6 (.alloc 27 [.st (.int .i64 0), .full []]), .mk none none (.store 2 (.t 6) (.t 15)) .no]) (.seq (.seq (.ops [.i 16 (.mov (.t 1)), .i 17 (.bin .lss (.t 16) (.n 0))]) (.cond (.t 17) (.exit 0) .skip)) (.ops [.i 18 (.load true 2 (.t 6)), .i 19 (.mov (.t 1)), .i 20 (.call 34 [.t 18, .t 19]), .i 1 (.mov (.t 20))])))) (.ops [.i 21 (.bin .add (.t 12) (.n 1)), .i 12 (.mov (.t 21))]))))))) (.seq (.ops [.i 22 (.mov (.t 1)), .i 4 (.mov (.t 22))]) .ret))))
theorem tr_infer_within : trCode Tryz.prog 23 [] (Tryz.f34.body.getD .skip) = some ir_infer_within := by kernel_rfl
theorem ac_infer_within {xs : List AV} {r : AV} (hn : xs.length ≤ 23) (h : ∀ C : Ctx, C.n = 23 → IWP Tryz.prog C [] ir_infer_within (FinQ [.t 4] r) (AS.start xs)) : ACalls Tryz.prog 34 xs r :=
  acalls_of Tryz.func34 rfl tr_infer_within rfl hn h
def ir_infer_check : IR :=
  (.seq (.ops [.i 1 (.box 27 (.t 0)), .i 2 (.mov (.n 0))]) (.seq (.block 0 (.seq (.ops [.i 7 (.fieldAddr 1 (.t 1)), .i 8 (.load false 1 (.t 7)), .i 9 (.len false (.t 8)), .i 10 (.bin .neq (.t 9) (.n 0)), .i 11 (.mov (.t 10)), .mk (some 12) (some (11, true)) (.fieldAddr 1 (.t 1)) .no, .mk (some 13) (some (11, true)) (.load false 1 (.t 12)) .no, .mk (some 14) (some (11, true)) (.len false (.t 13)) .no, .mk (some 15) (some (11, true)) (.bin .neq (.t 14) (.n 2)) .no, .i 16 (.pick (.t 11) (.t 15) (.c (.one (.st (.bool false))))), .i 17 (.mov (.t 16)), .mk (some 18) (some (17, false)) (.fieldAddr 1 (.t 1)) .no, .mk (some 19) (some (17, false)) (.load false 1 (.t 18)) .no, .mk (some 20) (some (17, false)) (.len false (.t 19)) .no, .mk (some 21) (some (17, false)) (.bin .eql (.t 20) (.n 2)) .no, .mk (some 22) (some (17, false)) (.mov (.t 21)) .no, .mk (some 23) (some (22, true)) (.fieldAddr 0 (.t 1)) .no, .mk (some 24) (some (22, true)) (.load false 1 (.t 23)) .no, .mk (some 25) (some (22, true)) (.bin .neq (.t 24) (.n 0)) .no, .mk (some 26) (some (17, false)) (.pick (.t 22) (.t 25) (.c (.one (.st (.bool false))))) .no, .i 27 (.pick (.t 17) (.c (.one (.st (.bool true)))) (.t 26)), .i 6 (.mov (.t 27))]) (.cond (.t 6) (.seq (.ops [.i 2 (.mov (.n 2))]) .ret) (.seq (.ops [.i 29 (.fieldAddr 0 (.t 1)), .i 30 (.load false 1 (.t 29)), .i 31 (.bin .lss (.t 30) (.n 0)), .i 32 (.mov (.t 31)), .mk (some 33) (some (32, false)) (.fieldAddr 0 (.t 1)) .no, .mk (some 34) (some (32, false)) (.load false 1 (.t 33)) .no, .mk (some 35) (some (32, false)) (.bin .gtr (.t 34) (.n 999)) .no, .i 36 (.pick (.t 32) (.c (.one (.st (.bool true)))) (.t 35)), .i 28 (.mov (.t 36))]) (.cond (.t 28) (.seq (.ops [.i 2 (.mov (.n 10))]) .ret) .skip))))) (.seq (.seq (.ops [.i 37 (.fieldAddr 1 (.t 1)), .i 38 (.load false 1 (.t 37)), .i 39 (.len false (.t 38)), .i 40 (.mov (.n 0))]) (.block 1 (.loop (.seq (.ops [.i 41 (.bin .lss (.t 40) (.t 39))]) (.seq (.cond (.t 41) .skip (.exit 1)) (.seq (.block 2 (.seq (.ops [.i 42 (.indexAddr 2 (.t 38) (.t 40)), .i 43 (.load true 2 (.t 42)), .i 4 (.alloc 27 [.st (.int .i64 0), .full []]), .mk none none (.store 2 (.t 4) (.t 43)) .no]) (.seq (.ops [.i 44 (.load true 2 (.t 4)), .i 45 (.call 35 [.t 44]), .i 5 (.mov (.t 45))]) (.seq (.ops [.i 46 (.mov (.t 5)), .i 47 (.bin .neq (.t 46) (.n 0))]) (.cond (.t 47) (.seq (.ops [.i 48 (.mov (.t 5)), .i 2 (.mov (.t 48))]) .ret) .skip))))) (.ops [.i 49 (.bin .add (.t 40) (.n 1)), .i 40 (.mov (.t 49))]))))))) (.seq (.ops [.i 2 (.mov (.n 0))]) .ret))))
theorem tr_infer_check : trCode Tryz.prog 50 [] (Tryz.f35.body.getD .skip) = some ir_infer_check := by kernel_rfl
theorem ac_infer_check {xs : List AV} {r : AV} (hn : xs.length ≤ 50) (h : ∀ C : Ctx, C.n = 50 → IWP Tryz.prog C [] ir_infer_check (FinQ [.t 2] r) (AS.start xs)) : ACalls Tryz.prog 35 xs r :=
  acalls_of Tryz.func35 rfl tr_infer_check rfl hn h
def ir_infer_Check : IR :=
  (.seq (.ops [.i 1 (.box 27 (.t 0)), .i 2 (.mov (.n 0))]) (.seq (.seq (.ops [.i 3 (.load true 2 (.t 1)), .i 4 (.call 34 [.t 3, .n 200]), .i 5 (.bin .lss (.t 4) (.n 0))]) (.cond (.t 5) (.seq (.ops [.i 2 (.mov (.n 3))]) .ret) .skip)) (.seq (.ops [.i 6 (.load true 2 (.t 1)), .i 7 (.call 35 [.t 6]), .i 2 (.mov (.t 7))]) .ret)))
theorem tr_infer_Check : trCode Tryz.prog 8 [] (Tryz.f12.body.getD .skip) = some ir_infer_Check := by kernel_rfl
theorem ac_infer_Check {xs : List AV} {r : AV} (hn : xs.length ≤ 8) (h : ∀ C : Ctx, C.n = 8 → IWP Tryz.prog C [] ir_infer_Check (FinQ [.t 2] r) (AS.start xs)) : ACalls Tryz.prog 12 xs r :=
  acalls_of Tryz.func12 rfl tr_infer_Check rfl hn h
def ir_infer_Text : IR :=
  (.seq (.ops [.i 1 (.box 27 (.t 0)), .i 2 (.mov (.c (.one (.st (.str (ByteArray.mk (#[]))))))), .i 3 (.mov (.n 0))]) (.seq (.seq (.ops [.i 5 (.load true 2 (.t 1)), .i 6 (.call 12 [.t 5]), .i 4 (.mov (.t 6))]) (.seq (.ops [.i 7 (.mov (.t 4)), .i 8 (.bin .neq (.t 7) (.n 0))]) (.cond (.t 8) (.seq (.ops [.i 9 (.mov (.t 4)), .i 2 (.mov (.c (.one (.st (.str (ByteArray.mk (#[]))))))), .i 3 (.mov (.t 9))]) .ret) .skip))) (.seq (.ops [.i 10 (.load true 2 (.t 1)), .i 11 (.call 33 [.t 10]), .i 2 (.mov (.t 11)), .i 3 (.mov (.n 0))]) .ret)))
theorem tr_infer_Text : trCode Tryz.prog 12 [] (Tryz.f11.body.getD .skip) = some ir_infer_Text := by kernel_rfl
theorem ac_infer_Text {xs : List AV} {r : AV} (hn : xs.length ≤ 12) (h : ∀ C : Ctx, C.n = 12 → IWP Tryz.prog C [] ir_infer_Text (FinQ [.t 2, .t 3] r) (AS.start xs)) : ACalls Tryz.prog 11 xs r :=
  acalls_of Tryz.func11 rfl tr_infer_Text rfl hn h
def ir_infer_Show : IR :=
  (.seq (.ops [.i 1 (.box 27 (.t 0)), .i 2 (.mov (.c (.one (.st (.str (ByteArray.mk (#[])))))))]) (.seq (.ops [.i 3 (.alloc 108 [.st (.lit (.pointer none)), .full []])]) (.seq (.ops [.i 4 (.load true 2 (.t 1)), .i 5 (.callS 65 [.t 3, .t 4])]) (.seq (.ops [.i 6 (.callS 66 [.t 3]), .i 2 (.mov (.t 6))]) .ret))))
theorem tr_infer_Show : trCode Tryz.prog 7 [5, 6] (Tryz.f33.body.getD .skip) = some ir_infer_Show := by kernel_rfl
theorem ac_infer_Show {xs : List AV} {r : AV} (hn : xs.length ≤ 7) (h : ∀ C : Ctx, C.n = 7 → IWP Tryz.prog C [5, 6] ir_infer_Show (FinQ [.t 2] r) (AS.start xs)) : ACalls Tryz.prog 33 xs r :=
  acalls_of Tryz.func33 rfl tr_infer_Show rfl hn h
def ir_infer_show : IR :=
  (.seq (.ops [.i 3 (.box 27 (.t 1))]) (.seq (.seq (.ops [.i 5 (.fieldAddr 1 (.t 3)), .i 6 (.load false 1 (.t 5)), .i 7 (.len false (.t 6)), .i 8 (.bin .eql (.t 7) (.n 0))]) (.cond (.t 8) (.seq (.ops [.i 9 (.mov (.t 0)), .i 10 (.fieldAddr 0 (.t 3)), .i 11 (.load false 1 (.t 10)), .i 12 (.call 87 [.t 11]), .i 13 (.bin .add (.c (.one (.st (.str (ByteArray.mk (#[97])))))) (.t 12)), .i 14 (.callS 101 [.t 9, .t 13])]) .ret) .skip)) (.seq (.seq (.ops [.i 15 (.fieldAddr 1 (.t 3)), .i 16 (.load false 1 (.t 15)), .i 17 (.indexAddr 2 (.t 16) (.n 0)), .i 18 (.load true 2 (.t 17)), .i 4 (.alloc 27 [.st (.int .i64 0), .full []]), .mk none none (.store 2 (.t 4) (.t 18)) .no]) (.seq (.ops [.i 19 (.fieldAddr 1 (.t 4)), .i 20 (.load false 1 (.t 19)), .i 21 (.len false (.t 20)), .i 22 (.bin .gtr (.t 21) (.n 0))]) (.cond (.t 22) (.seq (.ops [.i 23 (.mov (.t 0)), .i 24 (.callS 102 [.t 23, .c (.one (.st (.int .u8 40)))])]) (.seq (.ops [.i 25 (.mov (.t 0)), .i 26 (.load true 2 (.t 4)), .i 27 (.callS 65 [.t 25, .t 26])]) (.ops [.i 28 (.mov (.t 0)), .i 29 (.callS 102 [.t 28, .c (.one (.st (.int .u8 41)))])]))) (.ops [.i 30 (.mov (.t 0)), .i 31 (.load true 2 (.t 4)), .i 32 (.callS 65 [.t 30, .t 31])])))) (.seq (.ops [.i 33 (.mov (.t 0)), .i 34 (.callS 102 [.t 33, .c (.one (.st (.int .u8 62)))])]) (.ops [.i 35 (.mov (.t 0)), .i 36 (.fieldAddr 1 (.t 3)), .i 37 (.load false 1 (.t 36)), .i 38 (.indexAddr 2 (.t 37) (.n 1)), .i 39 (.load true 2 (.t 38)), .i 40 (.callS 65 [.t 35, .t 39])])))))
theorem tr_infer_show : trCode Tryz.prog 41 [14, 24, 27, 29, 32, 34, 40] (Tryz.f65.body.getD .skip) = some ir_infer_show := by kernel_rfl
theorem acS_infer_show {xs : List AV} {S S' : AStore} {r : AV} (hn : xs.length ≤ 41) (h : Clean S → ∀ C : Ctx, C.n = 41 → IWP Tryz.prog C [14, 24, 27, 29, 32, 34, 40] ir_infer_show (FinS C [] r S') (AS.startS xs S)) : ACallsS Tryz.prog 65 xs S r S' :=
  acallsS_of Tryz.func65 rfl tr_infer_show rfl hn h
def ir_infer_arrow : IR :=
  (.seq (.ops [.i 2 (.box 69 (.t 0)), .i 3 (.box 69 (.t 1)), .i 4 (.alloc 69 [.st (.str (ByteArray.mk (#[]))), .full []])]) (.seq (.ops [.i 5 (.load true 2 (.t 2)), .i 6 (.load true 2 (.t 3)), .i 7 (.buildSlice false 69 2 [.t 5, .t 6]), .i 8 (.build [.st (.str (ByteArray.mk (#[]))), .full []] [(0, 1, .c (.one (.st (.str (ByteArray.mk (#[102])))))), (1, 1, .t 7)]), .mk none none (.store 2 (.t 4) (.t 8)) .no]) .ret))
theorem tr_infer_arrow : trCode Tryz.prog 9 [] (Tryz.f79.body.getD .skip) = some ir_infer_arrow := by kernel_rfl
theorem ac_infer_arrow {xs : List AV} {r : AV} (hn : xs.length ≤ 9) (h : ∀ C : Ctx, C.n = 9 → IWP Tryz.prog C [] ir_infer_arrow (FinQ [.cell 4 true 2] r) (AS.start xs)) : ACalls Tryz.prog 79 xs r :=
  acalls_of Tryz.func79 rfl tr_infer_arrow rfl hn h
def ir_infer_as : IR :=
  (.seq (.ops [.i 2 (.box 27 (.t 0)), .i 4 (.alloc 69 [.st (.str (ByteArray.mk (#[]))), .full []])]) (.seq (.seq (.ops [.i 5 (.fieldAddr 1 (.t 2)), .i 6 (.load false 1 (.t 5)), .i 7 (.len false (.t 6)), .i 8 (.bin .eql (.t 7) (.n 0))]) (.cond (.t 8) (.seq (.ops [.i 9 (.mov (.t 1)), .i 10 (.fieldAddr 0 (.t 2)), .i 11 (.load false 1 (.t 10)), .i 12 (.call 87 [.t 11]), .i 13 (.bin .add (.t 9) (.t 12)), .i 14 (.build [.st (.str (ByteArray.mk (#[]))), .full []] [(0, 1, .t 13)]), .mk none none (.store 2 (.t 4) (.t 14)) .no]) .ret) .skip)) (.seq (.ops [.i 15 (.fieldAddr 1 (.t 2)), .i 16 (.load false 1 (.t 15)), .i 17 (.indexAddr 2 (.t 16) (.n 0)), .i 18 (.load true 2 (.t 17)), .i 19 (.mov (.t 1)), .i 20 (.call 50 [.t 18, .t 19]), .i 21 (.fieldAddr 1 (.t 2)), .i 22 (.load false 1 (.t 21)), .i 23 (.indexAddr 2 (.t 22) (.n 1)), .i 24 (.load true 2 (.t 23)), .i 25 (.mov (.t 1)), .i 26 (.call 50 [.t 24, .t 25]), .i 27 (.call 79 [.t 20, .t 26]), .mk none none (.store 2 (.t 4) (.t 27)) .no]) .ret)))
theorem tr_infer_as : trCode Tryz.prog 28 [] (Tryz.f50.body.getD .skip) = some ir_infer_as := by kernel_rfl
theorem ac_infer_as {xs : List AV} {r : AV} (hn : xs.length ≤ 28) (h : ∀ C : Ctx, C.n = 28 → IWP Tryz.prog C [] ir_infer_as (FinQ [.cell 4 true 2] r) (AS.start xs)) : ACalls Tryz.prog 50 xs r :=
  acalls_of Tryz.func50 rfl tr_infer_as rfl hn h
def ir_metaprune_infer_maker_fresh : IR :=
  (.seq (.ops [.i 2 (.alloc 69 [.st (.str (ByteArray.mk (#[]))), .full []])]) (.seq (.ops [.i 3 (.mov (.t 0)), .i 4 (.nilCheck (.t 3)), .i 5 (.fieldAddr 1 (.t 4)), .i 6 (.load false 1 (.t 5)), .i 7 (.bin .add (.t 6) (.n 1)), .i 8 (.nilCheck (.t 3)), .i 9 (.fieldAddr 1 (.t 8)), .mk none none (.store 1 (.t 9) (.t 7)) .no]) (.seq (.ops [.i 10 (.mov (.t 0)), .i 11 (.nilCheck (.t 10)), .i 12 (.fieldAddr 1 (.t 11)), .i 13 (.load false 1 (.t 12)), .i 14 (.call 87 [.t 13]), .i 15 (.bin .add (.c (.one (.st (.str (ByteArray.mk (#[84])))))) (.t 14)), .i 16 (.build [.st (.str (ByteArray.mk (#[]))), .full []] [(0, 1, .t 15)]), .mk none none (.store 2 (.t 2) (.t 16)) .no]) .ret)))
theorem tr_metaprune_infer_maker_fresh : trCode Tryz.prog 17 [] (Tryz.f78.body.getD .skip) = some ir_metaprune_infer_maker_fresh := by kernel_rfl
theorem acS_metaprune_infer_maker_fresh {xs : List AV} {S S' : AStore} {r : AV} (hn : xs.length ≤ 17) (h : Clean S → ∀ C : Ctx, C.n = 17 → IWP Tryz.prog C [] ir_metaprune_infer_maker_fresh (FinS C [.cell 2 true 2] r S') (AS.startS xs S)) : ACallsS Tryz.prog 78 xs S r S' :=
  acallsS_of Tryz.func78 rfl tr_metaprune_infer_maker_fresh rfl hn h
def ir_slices_Clone_metaprune_api_Term_metaprune_api_Term : IR :=
  (.seq (.ops [.i 2 (.mov (.c (.one (.full []))))]) (.seq (.seq (.ops [.i 3 (.mov (.t 0)), .i 4 (.eqN false (.t 3))]) (.cond (.t 4) (.seq (.ops [.i 2 (.mov (.c (.one (.full []))))]) .ret) .skip)) (.seq (.ops [.i 5 (.buildSlice false 69 2 []), .i 6 (.mov (.t 0)), .i 7 (.append false 69 2 40 (.t 5) (.t 6)), .i 2 (.mov (.t 7))]) .ret)))
theorem tr_slices_Clone_metaprune_api_Term_metaprune_api_Term : trCode Tryz.prog 8 [] (Tryz.f80.body.getD .skip) = some ir_slices_Clone_metaprune_api_Term_metaprune_api_Term := by kernel_rfl
theorem acS_slices_Clone_metaprune_api_Term_metaprune_api_Term {xs : List AV} {S S' : AStore} {r : AV} (hn : xs.length ≤ 8) (h : Clean S → ∀ C : Ctx, C.n = 8 → IWP Tryz.prog C [] ir_slices_Clone_metaprune_api_Term_metaprune_api_Term (FinS C [.t 2] r S') (AS.startS xs S)) : ACallsS Tryz.prog 80 xs S r S' :=
  acallsS_of Tryz.func80 rfl tr_slices_Clone_metaprune_api_Term_metaprune_api_Term rfl hn h
def ir_metaprune_infer_maker_of : IR :=
  (.seq (.ops [.i 4 (.box 24 (.t 1)), .i 6 (.alloc 69 [.st (.str (ByteArray.mk (#[]))), .full []])]) (.seq (.seq (.ops [.i 11 (.fieldAddr 0 (.t 4)), .i 12 (.load false 1 (.t 11))]) (.block 0 (.seq (.ops [.i 14 (.bin .eql (.t 12) (.n 1)), .i 13 (.mov (.t 14))]) (.cond (.t 13) (.seq (.ops [.i 15 (.mov (.t 2)), .i 16 (.mov (.t 2)), .i 17 (.len false (.t 16)), .i 18 (.bin .sub (.t 17) (.n 1)), .i 19 (.fieldAddr 1 (.t 4)), .i 20 (.load false 1 (.t 19)), .i 21 (.bin .sub (.t 18) (.t 20)), .i 22 (.indexAddr 2 (.t 15) (.t 21)), .i 23 (.load true 2 (.t 22)), .mk none none (.store 2 (.t 6) (.t 23)) .no]) .ret) (.seq (.ops [.i 25 (.bin .eql (.t 12) (.n 2)), .i 24 (.mov (.t 25))]) (.cond (.t 24) (.seq (.ops [.i 26 (.mov (.t 0)), .i 27 (.callS 78 [.t 26]), .i 7 (.alloc 69 [.st (.str (ByteArray.mk (#[]))), .full []]), .mk none none (.store 2 (.t 7) (.t 27)) .no]) (.seq (.ops [.mk (some 28) none (.load true 2 (.t 7)) (.onb 7), .i 29 (.mov (.t 0)), .mk (some 30) none (.fieldAddr 2 (.t 4)) (.onb 4), .mk (some 31) none (.load false 1 (.t 30)) (.onb 4), .i 32 (.indexL 3 (.t 31) (.n 0)), .i 33 (.loadL true 3 (.t 32)), .i 34 (.mov (.t 2)), .mk (some 35) none (.callN 80 [.t 34]) (.keeps [7]), .mk (some 36) none (.load true 2 (.t 7)) (.onb 7), .i 37 (.buildL 2 [.t 36]), .mk (some 38) none (.append false 69 2 40 (.t 35) (.t 37)) (.keeps [7, 4, 4]), .mk (some 39) none (.callS 44 [.t 29, .t 33, .t 38]) (.keeps [7]), .i 40 (.call 79 [.t 28, .t 39]), .mk none none (.store 2 (.t 6) (.t 40)) .no]) .ret)) .skip)))))) (.seq (.ops [.i 41 (.mov (.t 0)), .i 42 (.fieldAddr 2 (.t 4)), .i 43 (.load false 1 (.t 42)), .i 44 (.indexAddr 3 (.t 43) (.n 0)), .i 45 (.load true 3 (.t 44)), .i 46 (.mov (.t 2)), .i 47 (.callS 44 [.t 41, .t 45, .t 46]), .i 8 (.alloc 69 [.st (.str (ByteArray.mk (#[]))), .full []]), .mk none none (.store 2 (.t 8) (.t 47)) .no]) (.seq (.ops [.i 48 (.mov (.t 0)), .i 49 (.fieldAddr 2 (.t 4)), .i 50 (.load false 1 (.t 49)), .i 51 (.indexAddr 3 (.t 50) (.n 1)), .i 52 (.load true 3 (.t 51)), .i 53 (.mov (.t 2)), .i 54 (.callS 44 [.t 48, .t 52, .t 53]), .i 9 (.alloc 69 [.st (.str (ByteArray.mk (#[]))), .full []]), .mk none none (.store 2 (.t 9) (.t 54)) .no]) (.seq (.ops [.i 55 (.mov (.t 0)), .i 56 (.callS 78 [.t 55]), .i 10 (.alloc 69 [.st (.str (ByteArray.mk (#[]))), .full []]), .mk none none (.store 2 (.t 10) (.t 56)) .no]) (.seq (.ops [.i 57 (.mov (.t 0)), .i 58 (.mov (.t 0)), .i 59 (.nilCheck (.t 58)), .i 60 (.fieldAddr 0 (.t 59)), .i 61 (.load false 1 (.t 60)), .i 62 (.load true 2 (.t 8)), .i 63 (.load true 2 (.t 9)), .i 64 (.load true 2 (.t 10)), .i 65 (.call 79 [.t 63, .t 64]), .i 66 (.build [.st (.str (ByteArray.mk (#[]))), .full [], .st (.str (ByteArray.mk (#[]))), .full []] [(0, 2, .t 62), (2, 2, .t 65)]), .i 67 (.buildSlice false 114 4 [.t 66]), .i 68 (.append false 114 4 80 (.t 61) (.t 67)), .i 69 (.nilCheck (.t 57)), .i 70 (.fieldAddr 0 (.t 69)), .mk none none (.store 1 (.t 70) (.t 68)) .no]) (.seq (.ops [.i 71 (.load true 2 (.t 10)), .mk none none (.store 2 (.t 6) (.t 71)) .no]) .ret)))))))
theorem tr_metaprune_infer_maker_of : trCode Tryz.prog 72 [27, 20000035, 39, 47, 54, 56, 60000032, 60000033, 60000037] (Tryz.f44.body.getD .skip) = some ir_metaprune_infer_maker_of := by kernel_rfl
theorem acS_metaprune_infer_maker_of {xs : List AV} {S S' : AStore} {r : AV} (hn : xs.length ≤ 72) (h : Clean S → ∀ C : Ctx, C.n = 72 → IWP Tryz.prog C [27, 20000035, 39, 47, 54, 56, 60000032, 60000033, 60000037] ir_metaprune_infer_maker_of (FinS C [.cell 6 true 2] r S') (AS.startS xs S)) : ACallsS Tryz.prog 44 xs S r S' :=
  acallsS_of Tryz.func44 rfl tr_metaprune_infer_maker_of rfl hn h
def ir_slices_ContainsFunc_metaprune_api_Lam_metaprune_api_Lam : IR :=
  (.seq (.ops [.i 4 (.mov (.c (.one (.st (.bool false)))))]) (.seq (.ops [.i 5 (.mov (.t 0)), .i 6 (.mov (.t 1)), .i 7 (.call 108 [.t 5, .t 6]), .i 8 (.bin .geq (.t 7) (.n 0)), .i 4 (.mov (.t 8))]) .ret))
theorem tr_slices_ContainsFunc_metaprune_api_Lam_metaprune_api_Lam : trCode Tryz.prog 9 [] (Tryz.f76.body.getD .skip) = some ir_slices_ContainsFunc_metaprune_api_Lam_metaprune_api_Lam := by kernel_rfl
theorem ac_slices_ContainsFunc_metaprune_api_Lam_metaprune_api_Lam {xs : List AV} {r : AV} (hn : xs.length ≤ 9) (h : ∀ C : Ctx, C.n = 9 → IWP Tryz.prog C [] ir_slices_ContainsFunc_metaprune_api_Lam_metaprune_api_Lam (FinQ [.t 4] r) (AS.start xs)) : ACalls Tryz.prog 76 xs r :=
  acalls_of Tryz.func76 rfl tr_slices_ContainsFunc_metaprune_api_Lam_metaprune_api_Lam rfl hn h
def ir_slices_IndexFunc_metaprune_api_Lam_metaprune_api_Lam : IR :=
  (.seq (.ops [.i 4 (.mov (.n 0))]) (.seq (.seq (.ops [.i 6 (.mov (.t 0)), .i 7 (.len false (.t 6)), .i 8 (.mov (.n 0))]) (.block 0 (.loop (.seq (.ops [.i 9 (.bin .lss (.t 8) (.t 7))]) (.seq (.cond (.t 9) .skip (.exit 0)) (.seq (.block 1 (.seq (.ops [.i 10 (.mov (.t 8)), .i 5 (.mov (.t 10))]) (.seq (.ops [.i 11 (.mov (.t 1)), .i 12 (.mov (.t 0)), .i 13 (.mov (.t 5)), .i 14 (.indexAddr 3 (.t 12) (.t 13)), .i 15 (.load true 3 (.t 14)), .i 16 (.callV (.t 11) [.t 15])]) (.cond (.t 16) (.seq (.ops [.i 17 (.mov (.t 5)), .i 4 (.mov (.t 17))]) .ret) .skip)))) (.ops [.i 18 (.bin .add (.t 8) (.n 1)), .i 8 (.mov (.t 18))]))))))) (.seq (.ops [.i 4 (.mov (.c (.one (.st (.int .i64 (-1))))))]) .ret)))
theorem tr_slices_IndexFunc_metaprune_api_Lam_metaprune_api_Lam : trCode Tryz.prog 19 [] (Tryz.f108.body.getD .skip) = some ir_slices_IndexFunc_metaprune_api_Lam_metaprune_api_Lam := by kernel_rfl
theorem ac_slices_IndexFunc_metaprune_api_Lam_metaprune_api_Lam {xs : List AV} {r : AV} (hn : xs.length ≤ 19) (h : ∀ C : Ctx, C.n = 19 → IWP Tryz.prog C [] ir_slices_IndexFunc_metaprune_api_Lam_metaprune_api_Lam (FinQ [.t 4] r) (AS.start xs)) : ACalls Tryz.prog 108 xs r :=
  acalls_of Tryz.func108 rfl tr_slices_IndexFunc_metaprune_api_Lam_metaprune_api_Lam rfl hn h
def ir_infer_pure_1 : IR :=
  (.seq (.ops [.i 1 (.box 24 (.t 0)), .i 2 (.mov (.c (.one (.st (.bool false)))))]) (.seq (.ops [.i 3 (.load true 3 (.t 1)), .i 4 (.call 43 [.t 3]), .i 5 (.un .not (.t 4)), .i 2 (.mov (.t 5))]) .ret))
theorem tr_infer_pure_1 : trCode Tryz.prog 6 [] (Tryz.f77.body.getD .skip) = some ir_infer_pure_1 := by kernel_rfl
theorem ac_infer_pure_1 {xs : List AV} {r : AV} (hn : xs.length ≤ 6) (h : ∀ C : Ctx, C.n = 6 → IWP Tryz.prog C [] ir_infer_pure_1 (FinQ [.t 2] r) (AS.start xs)) : ACalls Tryz.prog 77 xs r :=
  acalls_of Tryz.func77 rfl tr_infer_pure_1 rfl hn h
def ir_infer_pure : IR :=
  (.seq (.ops [.i 1 (.box 24 (.t 0)), .i 2 (.mov (.c (.one (.st (.bool false)))))]) (.seq (.ops [.i 3 (.fieldAddr 0 (.t 1)), .i 4 (.load false 1 (.t 3)), .i 5 (.bin .neq (.t 4) (.n 4)), .i 6 (.mov (.t 5)), .mk (some 7) (some (6, true)) (.fieldAddr 2 (.t 1)) .no, .mk (some 8) (some (6, true)) (.load false 1 (.t 7)) .no, .mk (some 9) (some (6, true)) (.call 76 [.t 8, .c (.one (.fn 77 []))]) .no, .mk (some 10) (some (6, true)) (.un .not (.t 9)) .no, .i 11 (.pick (.t 6) (.t 10) (.c (.one (.st (.bool false))))), .i 2 (.mov (.t 11))]) .ret))
theorem tr_infer_pure : trCode Tryz.prog 12 [] (Tryz.f43.body.getD .skip) = some ir_infer_pure := by kernel_rfl
theorem ac_infer_pure {xs : List AV} {r : AV} (hn : xs.length ≤ 12) (h : ∀ C : Ctx, C.n = 12 → IWP Tryz.prog C [] ir_infer_pure (FinQ [.t 2] r) (AS.start xs)) : ACalls Tryz.prog 43 xs r :=
  acalls_of Tryz.func43 rfl tr_infer_pure rfl hn h
def ir_infer_Principal : IR :=
  (.seq (.ops [.i 1 (.box 24 (.t 0)), .i 2 (.alloc 27 [.st (.int .i64 0), .full []]), .i 3 (.mov (.n 0))]) (.seq (.seq (.ops [.i 12 (.load true 3 (.t 1)), .i 13 (.call 42 [.t 12, .n 0]), .i 4 (.mov (.t 13))]) (.seq (.ops [.i 14 (.mov (.t 4)), .i 15 (.bin .neq (.t 14) (.n 0))]) (.cond (.t 15) (.seq (.ops [.i 16 (.build [.st (.int .i64 0), .full []] []), .i 17 (.mov (.t 4)), .mk none none (.store 2 (.t 2) (.t 16)) .no, .i 3 (.mov (.t 17))]) .ret) .skip))) (.seq (.seq (.ops [.i 18 (.load true 3 (.t 1)), .i 19 (.call 43 [.t 18]), .i 20 (.un .not (.t 19))]) (.cond (.t 20) (.seq (.ops [.i 21 (.build [.st (.int .i64 0), .full []] []), .mk none none (.store 2 (.t 2) (.t 21)) .no, .i 3 (.mov (.n 15))]) .ret) .skip)) (.seq (.ops [.i 22 (.build [.full [], .st (.int .i64 0)] []), .i 23 (.box 82 (.t 22)), .i 5 (.mov (.t 23))]) (.seq (.ops [.i 24 (.mov (.t 5)), .i 25 (.load true 3 (.t 1)), .i 26 (.callS 44 [.t 24, .t 25, .c (.one (.full []))]), .i 6 (.alloc 69 [.st (.str (ByteArray.mk (#[]))), .full []]), .mk none none (.store 2 (.t 6) (.t 26)) .no]) (.seq (.ops [.i 28 (.mov (.t 5)), .i 29 (.nilCheck (.t 28)), .i 30 (.fieldAddr 0 (.t 29)), .i 31 (.load false 1 (.t 30)), .i 32 (.call 45 [.t 31]), .i 27 (.mov (.t 32)), .i 33 (.extract 0 (.t 27)), .i 34 (.extract 1 (.t 27)), .i 7 (.mov (.t 33)), .i 8 (.mov (.t 34))]) (.seq (.seq (.ops [.i 35 (.mov (.t 8)), .i 36 (.bin .eql (.t 35) (.n 6))]) (.cond (.t 36) (.ops [.i 8 (.mov (.n 11))]) .skip)) (.seq (.seq (.ops [.i 37 (.mov (.t 8)), .i 38 (.bin .neq (.t 37) (.n 0))]) (.cond (.t 38) (.seq (.ops [.i 39 (.build [.st (.int .i64 0), .full []] []), .i 40 (.mov (.t 8)), .mk none none (.store 2 (.t 2) (.t 39)) .no, .i 3 (.mov (.t 40))]) .ret) .skip)) (.seq (.ops [.i 42 (.mov (.t 7)), .i 43 (.load true 2 (.t 6)), .i 44 (.call 46 [.t 42, .t 43]), .i 41 (.mov (.t 44)), .i 45 (.extract 0 (.t 41)), .i 46 (.extract 1 (.t 41)), .i 9 (.alloc 69 [.st (.str (ByteArray.mk (#[]))), .full []]), .mk none none (.store 2 (.t 9) (.t 45)) .no, .i 10 (.mov (.t 46))]) (.seq (.seq (.ops [.i 47 (.mov (.t 10)), .i 48 (.un .not (.t 47))]) (.cond (.t 48) (.seq (.ops [.i 49 (.build [.st (.int .i64 0), .full []] []), .mk none none (.store 2 (.t 2) (.t 49)) .no, .i 3 (.mov (.n 8))]) .ret) .skip)) (.seq (.ops [.i 50 (.makeMap none), .i 11 (.mov (.t 50))]) (.seq (.ops [.i 51 (.load true 2 (.t 9)), .i 52 (.mov (.t 11)), .i 53 (.callS 47 [.t 51, .t 52]), .mk none none (.store 2 (.t 2) (.t 53)) .no, .i 3 (.mov (.n 0))]) .ret))))))))))))
theorem tr_infer_Principal : trCode Tryz.prog 54 [26, 53] (Tryz.f17.body.getD .skip) = some ir_infer_Principal := by kernel_rfl
theorem ac_infer_Principal {xs : List AV} {r : AV} (hn : xs.length ≤ 54) (h : ∀ C : Ctx, C.n = 54 → IWP Tryz.prog C [26, 53] ir_infer_Principal (FinQ [.cell 2 true 2, .t 3] r) (AS.start xs)) : ACalls Tryz.prog 17 xs r :=
  acalls_of Tryz.func17 rfl tr_infer_Principal rfl hn h
def ir_infer_back : IR :=
  (.seq (.ops [.i 2 (.box 69 (.t 0)), .i 4 (.alloc 27 [.st (.int .i64 0), .full []])]) (.seq (.seq (.ops [.i 8 (.fieldAddr 1 (.t 2)), .i 9 (.load false 1 (.t 8)), .i 10 (.len false (.t 9)), .i 11 (.bin .eql (.t 10) (.n 0))]) (.cond (.t 11) (.seq (.seq (.ops [.i 13 (.mov (.t 1)), .i 14 (.fieldAddr 0 (.t 2)), .i 15 (.load false 1 (.t 14)), .i 16 (.lookup none true (.one (.st (.int .i64 0))) (.t 13) (.t 15)), .i 12 (.mov (.t 16)), .i 17 (.extract 0 (.t 12)), .i 18 (.extract 1 (.t 12)), .i 5 (.mov (.t 17)), .i 6 (.mov (.t 18))]) (.seq (.ops [.i 19 (.mov (.t 6)), .i 20 (.un .not (.t 19))]) (.cond (.t 20) (.ops [.i 21 (.mov (.t 1)), .i 22 (.fieldAddr 0 (.t 2)), .i 23 (.load false 1 (.t 22)), .i 24 (.mov (.t 1)), .i 25 (.lenM (.t 24)), .mk none none (.mapSet none (.t 21) (.t 23) (.t 25)) .no]) .skip))) (.seq (.ops [.i 26 (.mov (.t 1)), .i 27 (.fieldAddr 0 (.t 2)), .i 28 (.load false 1 (.t 27)), .i 29 (.lookup none false (.one (.st (.int .i64 0))) (.t 26) (.t 28)), .i 30 (.build [.st (.int .i64 0), .full []] [(0, 1, .t 29)]), .mk none none (.store 2 (.t 4) (.t 30)) .no]) .ret)) .skip)) (.seq (.ops [.i 31 (.fieldAddr 1 (.t 2)), .i 32 (.load false 1 (.t 31)), .i 33 (.indexAddr 2 (.t 32) (.n 0)), .i 34 (.load true 2 (.t 33)), .i 35 (.mov (.t 1)), .i 36 (.callS 47 [.t 34, .t 35]), .i 7 (.alloc 27 [.st (.int .i64 0), .full []]), .mk none none (.store 2 (.t 7) (.t 36)) .no]) (.seq (.ops [.mk (some 37) none (.load true 2 (.t 7)) (.onb 7), .i 38 (.fieldAddr 1 (.t 2)), .i 39 (.load false 1 (.t 38)), .i 40 (.indexAddr 2 (.t 39) (.n 1)), .i 41 (.load true 2 (.t 40)), .i 42 (.mov (.t 1)), .mk (some 43) none (.callS 47 [.t 41, .t 42]) (.keeps [7]), .i 44 (.buildSlice false 27 2 [.t 37, .t 43]), .i 45 (.build [.st (.int .i64 0), .full []] [(1, 1, .t 44)]), .mk none none (.store 2 (.t 4) (.t 45)) .no]) .ret))))
theorem tr_infer_back : trCode Tryz.prog 46 [36, 43] (Tryz.f47.body.getD .skip) = some ir_infer_back := by kernel_rfl
theorem acS_infer_back {xs : List AV} {S S' : AStore} {r : AV} (hn : xs.length ≤ 46) (h : Clean S → ∀ C : Ctx, C.n = 46 → IWP Tryz.prog C [36, 43] ir_infer_back (FinS C [.cell 4 true 2] r S') (AS.startS xs S)) : ACallsS Tryz.prog 47 xs S r S' :=
  acallsS_of Tryz.func47 rfl tr_infer_back rfl hn h
def ir_infer_Has : IR :=
  (.seq (.ops [.i 2 (.box 24 (.t 0)), .i 3 (.box 27 (.t 1)), .i 4 (.mov (.c (.one (.st (.bool false))))), .i 5 (.mov (.n 0))]) (.seq (.seq (.ops [.i 11 (.load true 2 (.t 3)), .i 12 (.call 12 [.t 11]), .i 6 (.mov (.t 12))]) (.seq (.ops [.i 13 (.mov (.t 6)), .i 14 (.bin .neq (.t 13) (.n 0))]) (.cond (.t 14) (.seq (.ops [.i 15 (.mov (.t 6)), .i 4 (.mov (.c (.one (.st (.bool false))))), .i 5 (.mov (.t 15))]) .ret) .skip))) (.seq (.ops [.i 17 (.load true 3 (.t 2)), .i 18 (.call 17 [.t 17]), .i 16 (.mov (.t 18)), .i 19 (.extract 0 (.t 16)), .i 20 (.extract 1 (.t 16)), .i 7 (.alloc 27 [.st (.int .i64 0), .full []]), .mk none none (.store 2 (.t 7) (.t 19)) .no, .i 8 (.mov (.t 20))]) (.seq (.seq (.ops [.i 21 (.mov (.t 8)), .i 22 (.bin .eql (.t 21) (.n 11))]) (.cond (.t 22) (.seq (.ops [.i 4 (.mov (.c (.one (.st (.bool false))))), .i 5 (.mov (.n 0))]) .ret) .skip)) (.seq (.seq (.ops [.i 23 (.mov (.t 8)), .i 24 (.bin .neq (.t 23) (.n 0))]) (.cond (.t 24) (.seq (.ops [.i 25 (.mov (.t 8)), .i 4 (.mov (.c (.one (.st (.bool false))))), .i 5 (.mov (.t 25))]) .ret) .skip)) (.seq (.ops [.i 27 (.load true 2 (.t 7)), .i 28 (.call 50 [.t 27, .c (.one (.st (.str (ByteArray.mk (#[80])))))]), .i 29 (.load true 2 (.t 3)), .i 30 (.call 50 [.t 29, .c (.one (.st (.str (ByteArray.mk (#[81])))))]), .i 31 (.call 49 [.t 28, .t 30]), .i 26 (.mov (.t 31)), .i 32 (.extract 0 (.t 26)), .i 33 (.extract 1 (.t 26)), .i 9 (.mov (.t 32)), .i 10 (.mov (.t 33))]) (.seq (.ops [.i 34 (.mov (.t 10)), .i 4 (.mov (.t 34)), .i 5 (.mov (.n 0))]) .ret)))))))
theorem tr_infer_Has : trCode Tryz.prog 35 [] (Tryz.f20.body.getD .skip) = some ir_infer_Has := by kernel_rfl
theorem ac_infer_Has {xs : List AV} {r : AV} (hn : xs.length ≤ 35) (h : ∀ C : Ctx, C.n = 35 → IWP Tryz.prog C [] ir_infer_Has (FinQ [.t 4, .t 5] r) (AS.start xs)) : ACalls Tryz.prog 20 xs r :=
  acalls_of Tryz.func20 rfl tr_infer_Has rfl hn h
def ir_R_TypeSize : IR :=
  (.seq (.ops [.i 2 (.box 27 (.t 0)), .i 4 (.mov (.n 0))]) (.seq (.ops [.i 5 (.mov (.n 1))]) (.seq (.seq (.ops [.i 6 (.mov (.n 0))]) (.block 0 (.loop (.seq (.seq (.ops [.i 7 (.mov (.t 6)), .i 8 (.fieldAddr 1 (.t 2)), .i 9 (.load false 1 (.t 8)), .i 10 (.len false (.t 9)), .i 11 (.bin .lss (.t 7) (.t 10)), .i 12 (.mov (.t 11)), .mk (some 13) (some (12, true)) (.mov (.t 5)) .no, .mk (some 14) (some (12, true)) (.mov (.t 1)) .no, .mk (some 15) (some (12, true)) (.bin .leq (.t 13) (.t 14)) .no, .i 16 (.pick (.t 12) (.t 15) (.c (.one (.st (.bool false)))))]) (.cond (.t 16) .skip (.exit 0))) (.seq (.block 1 (.ops [.i 19 (.mov (.t 5)), .i 20 (.fieldAddr 1 (.t 2)), .i 21 (.load false 1 (.t 20)), .i 22 (.mov (.t 6)), .i 23 (.indexAddr 2 (.t 21) (.t 22)), .i 24 (.load true 2 (.t 23)), .i 25 (.mov (.t 1)), .i 26 (.mov (.t 5)), .i 27 (.bin .sub (.t 25) (.t 26)), .i 28 (.call 24 [.t 24, .t 27]), .i 29 (.bin .add (.t 19) (.t 28)), .i 5 (.mov (.t 29))])) (.ops [.i 17 (.mov (.t 6)), .i 18 (.bin .add (.t 17) (.n 1)), .i 6 (.mov (.t 18))])))))) (.seq (.seq (.ops [.i 30 (.mov (.t 5)), .i 31 (.mov (.t 1)), .i 32 (.bin .gtr (.t 30) (.t 31))]) (.cond (.t 32) (.seq (.ops [.i 33 (.mov (.t 1)), .i 34 (.bin .add (.t 33) (.n 1)), .i 4 (.mov (.t 34))]) .ret) .skip)) (.seq (.ops [.i 35 (.mov (.t 5)), .i 4 (.mov (.t 35))]) .ret)))))
theorem tr_R_TypeSize : trCode Tryz.prog 36 [] (Tryz.f24.body.getD .skip) = some ir_R_TypeSize := by kernel_rfl
theorem ac_R_TypeSize {xs : List AV} {r : AV} (hn : xs.length ≤ 36) (h : ∀ C : Ctx, C.n = 36 → IWP Tryz.prog C [] ir_R_TypeSize (FinQ [.t 4] r) (AS.start xs)) : ACalls Tryz.prog 24 xs r :=
  acalls_of Tryz.func24 rfl tr_R_TypeSize rfl hn h
def ir_R_TypeMay : IR :=
  (.seq (.ops [.i 1 (.box 27 (.t 0)), .i 2 (.mov (.n 0))]) (.seq (.seq (.ops [.i 3 (.load true 2 (.t 1)), .i 4 (.call 24 [.t 3, .n 200]), .i 5 (.bin .gtr (.t 4) (.n 200))]) (.cond (.t 5) (.seq (.ops [.i 2 (.mov (.n 3))]) .ret) .skip)) (.seq (.ops [.i 6 (.load true 2 (.t 1)), .i 7 (.call 31 [.t 6]), .i 2 (.mov (.t 7))]) .ret)))
theorem tr_R_TypeMay : trCode Tryz.prog 8 [] (Tryz.f9.body.getD .skip) = some ir_R_TypeMay := by kernel_rfl
theorem ac_R_TypeMay {xs : List AV} {r : AV} (hn : xs.length ≤ 8) (h : ∀ C : Ctx, C.n = 8 → IWP Tryz.prog C [] ir_R_TypeMay (FinQ [.t 2] r) (AS.start xs)) : ACalls Tryz.prog 9 xs r :=
  acalls_of Tryz.func9 rfl tr_R_TypeMay rfl hn h
def ir_R_typeMay : IR :=
  (.seq (.ops [.i 1 (.box 27 (.t 0)), .i 2 (.mov (.n 0))]) (.seq (.seq (.ops [.i 5 (.fieldAddr 1 (.t 1)), .i 6 (.load false 1 (.t 5)), .i 7 (.len false (.t 6)), .i 8 (.bin .neq (.t 7) (.n 0)), .i 9 (.mov (.t 8)), .mk (some 10) (some (9, true)) (.fieldAddr 1 (.t 1)) .no, .mk (some 11) (some (9, true)) (.load false 1 (.t 10)) .no, .mk (some 12) (some (9, true)) (.len false (.t 11)) .no, .mk (some 13) (some (9, true)) (.bin .neq (.t 12) (.n 2)) .no, .i 14 (.pick (.t 9) (.t 13) (.c (.one (.st (.bool false))))), .i 15 (.mov (.t 14)), .mk (some 16) (some (15, false)) (.fieldAddr 1 (.t 1)) .no, .mk (some 17) (some (15, false)) (.load false 1 (.t 16)) .no, .mk (some 18) (some (15, false)) (.len false (.t 17)) .no, .mk (some 19) (some (15, false)) (.bin .eql (.t 18) (.n 2)) .no, .mk (some 20) (some (15, false)) (.mov (.t 19)) .no, .mk (some 21) (some (20, true)) (.fieldAddr 0 (.t 1)) .no, .mk (some 22) (some (20, true)) (.load false 1 (.t 21)) .no, .mk (some 23) (some (20, true)) (.bin .neq (.t 22) (.n 0)) .no, .mk (some 24) (some (15, false)) (.pick (.t 20) (.t 23) (.c (.one (.st (.bool false))))) .no, .i 25 (.pick (.t 15) (.c (.one (.st (.bool true)))) (.t 24))]) (.cond (.t 25) (.seq (.ops [.i 2 (.mov (.n 2))]) .ret) .skip)) (.seq (.seq (.ops [.i 26 (.fieldAddr 0 (.t 1)), .i 27 (.load false 1 (.t 26)), .i 28 (.bin .lss (.t 27) (.n 0)), .i 29 (.mov (.t 28)), .mk (some 30) (some (29, false)) (.fieldAddr 0 (.t 1)) .no, .mk (some 31) (some (29, false)) (.load false 1 (.t 30)) .no, .mk (some 32) (some (29, false)) (.bin .gtr (.t 31) (.n 999)) .no, .i 33 (.pick (.t 29) (.c (.one (.st (.bool true)))) (.t 32))]) (.cond (.t 33) (.seq (.ops [.i 2 (.mov (.n 10))]) .ret) .skip)) (.seq (.seq (.ops [.i 3 (.mov (.n 0))]) (.block 0 (.loop (.seq (.seq (.ops [.i 34 (.mov (.t 3)), .i 35 (.fieldAddr 1 (.t 1)), .i 36 (.load false 1 (.t 35)), .i 37 (.len false (.t 36)), .i 38 (.bin .lss (.t 34) (.t 37))]) (.cond (.t 38) .skip (.exit 0))) (.seq (.block 1 (.seq (.ops [.i 41 (.fieldAddr 1 (.t 1)), .i 42 (.load false 1 (.t 41)), .i 43 (.mov (.t 3)), .i 44 (.indexAddr 2 (.t 42) (.t 43)), .i 45 (.load true 2 (.t 44)), .i 46 (.call 31 [.t 45]), .i 4 (.mov (.t 46))]) (.seq (.ops [.i 47 (.mov (.t 4)), .i 48 (.bin .neq (.t 47) (.n 0))]) (.cond (.t 48) (.seq (.ops [.i 49 (.mov (.t 4)), .i 2 (.mov (.t 49))]) .ret) .skip)))) (.ops [.i 39 (.mov (.t 3)), .i 40 (.bin .add (.t 39) (.n 1)), .i 3 (.mov (.t 40))])))))) (.seq (.ops [.i 2 (.mov (.n 0))]) .ret)))))
theorem tr_R_typeMay : trCode Tryz.prog 50 [] (Tryz.f31.body.getD .skip) = some ir_R_typeMay := by kernel_rfl
theorem ac_R_typeMay {xs : List AV} {r : AV} (hn : xs.length ≤ 50) (h : ∀ C : Ctx, C.n = 50 → IWP Tryz.prog C [] ir_R_typeMay (FinQ [.t 2] r) (AS.start xs)) : ACalls Tryz.prog 31 xs r :=
  acalls_of Tryz.func31 rfl tr_R_typeMay rfl hn h
def ir_R_SameType : IR :=
  (.seq (.ops [.i 2 (.box 27 (.t 0)), .i 3 (.box 27 (.t 1)), .i 4 (.mov (.c (.one (.st (.bool false)))))]) (.seq (.seq (.ops [.i 6 (.fieldAddr 0 (.t 2)), .i 7 (.load false 1 (.t 6)), .i 8 (.fieldAddr 0 (.t 3)), .i 9 (.load false 1 (.t 8)), .i 10 (.bin .neq (.t 7) (.t 9)), .i 11 (.mov (.t 10)), .mk (some 12) (some (11, false)) (.fieldAddr 1 (.t 2)) .no, .mk (some 13) (some (11, false)) (.load false 1 (.t 12)) .no, .mk (some 14) (some (11, false)) (.len false (.t 13)) .no, .mk (some 15) (some (11, false)) (.fieldAddr 1 (.t 3)) .no, .mk (some 16) (some (11, false)) (.load false 1 (.t 15)) .no, .mk (some 17) (some (11, false)) (.len false (.t 16)) .no, .mk (some 18) (some (11, false)) (.bin .neq (.t 14) (.t 17)) .no, .i 19 (.pick (.t 11) (.c (.one (.st (.bool true)))) (.t 18))]) (.cond (.t 19) (.seq (.ops [.i 4 (.mov (.c (.one (.st (.bool false)))))]) .ret) .skip)) (.seq (.seq (.ops [.i 5 (.mov (.n 0))]) (.block 0 (.loop (.seq (.seq (.ops [.i 20 (.mov (.t 5)), .i 21 (.fieldAddr 1 (.t 2)), .i 22 (.load false 1 (.t 21)), .i 23 (.len false (.t 22)), .i 24 (.bin .lss (.t 20) (.t 23))]) (.cond (.t 24) .skip (.exit 0))) (.seq (.block 1 (.seq (.ops [.i 27 (.fieldAddr 1 (.t 2)), .i 28 (.load false 1 (.t 27)), .i 29 (.mov (.t 5)), .i 30 (.indexAddr 2 (.t 28) (.t 29)), .i 31 (.load true 2 (.t 30)), .i 32 (.fieldAddr 1 (.t 3)), .i 33 (.load false 1 (.t 32)), .i 34 (.mov (.t 5)), .i 35 (.indexAddr 2 (.t 33) (.t 34)), .i 36 (.load true 2 (.t 35)), .i 37 (.call 18 [.t 31, .t 36]), .i 38 (.un .not (.t 37))]) (.cond (.t 38) (.seq (.ops [.i 4 (.mov (.c (.one (.st (.bool false)))))]) .ret) .skip))) (.ops [.i 25 (.mov (.t 5)), .i 26 (.bin .add (.t 25) (.n 1)), .i 5 (.mov (.t 26))])))))) (.seq (.ops [.i 4 (.mov (.c (.one (.st (.bool true)))))]) .ret))))
theorem tr_R_SameType : trCode Tryz.prog 39 [] (Tryz.f18.body.getD .skip) = some ir_R_SameType := by kernel_rfl
theorem ac_R_SameType {xs : List AV} {r : AV} (hn : xs.length ≤ 39) (h : ∀ C : Ctx, C.n = 39 → IWP Tryz.prog C [] ir_R_SameType (FinQ [.t 4] r) (AS.start xs)) : ACalls Tryz.prog 18 xs r :=
  acalls_of Tryz.func18 rfl tr_R_SameType rfl hn h
def ir_R_TypeText : IR :=
  (.seq (.ops [.i 1 (.box 27 (.t 0)), .i 2 (.mov (.c (.one (.st (.str (ByteArray.mk (#[])))))))]) (.seq (.seq (.ops [.i 4 (.fieldAddr 1 (.t 1)), .i 5 (.load false 1 (.t 4)), .i 6 (.len false (.t 5)), .i 7 (.bin .eql (.t 6) (.n 0))]) (.cond (.t 7) (.seq (.ops [.i 8 (.fieldAddr 0 (.t 1)), .i 9 (.load false 1 (.t 8)), .i 10 (.call 32 [.t 9]), .i 11 (.bin .add (.c (.one (.st (.str (ByteArray.mk (#[97])))))) (.t 10)), .i 2 (.mov (.t 11))]) .ret) .skip)) (.seq (.ops [.i 12 (.fieldAddr 1 (.t 1)), .i 13 (.load false 1 (.t 12)), .i 14 (.indexAddr 2 (.t 13) (.n 0)), .i 15 (.load true 2 (.t 14)), .i 16 (.call 10 [.t 15]), .i 3 (.mov (.t 16))]) (.seq (.seq (.ops [.i 17 (.fieldAddr 1 (.t 1)), .i 18 (.load false 1 (.t 17)), .i 19 (.indexAddr 2 (.t 18) (.n 0)), .i 20 (.fieldAddr 1 (.t 19)), .i 21 (.load false 1 (.t 20)), .i 22 (.len false (.t 21)), .i 23 (.bin .gtr (.t 22) (.n 0))]) (.cond (.t 23) (.ops [.i 24 (.mov (.t 3)), .i 25 (.bin .add (.c (.one (.st (.str (ByteArray.mk (#[40])))))) (.t 24)), .i 26 (.bin .add (.t 25) (.c (.one (.st (.str (ByteArray.mk (#[41]))))))), .i 3 (.mov (.t 26))]) .skip)) (.seq (.ops [.i 27 (.mov (.t 3)), .i 28 (.bin .add (.t 27) (.c (.one (.st (.str (ByteArray.mk (#[62]))))))), .i 29 (.fieldAddr 1 (.t 1)), .i 30 (.load false 1 (.t 29)), .i 31 (.indexAddr 2 (.t 30) (.n 1)), .i 32 (.load true 2 (.t 31)), .i 33 (.call 10 [.t 32]), .i 34 (.bin .add (.t 28) (.t 33)), .i 2 (.mov (.t 34))]) .ret)))))
theorem tr_R_TypeText : trCode Tryz.prog 35 [] (Tryz.f10.body.getD .skip) = some ir_R_TypeText := by kernel_rfl
theorem ac_R_TypeText {xs : List AV} {r : AV} (hn : xs.length ≤ 35) (h : ∀ C : Ctx, C.n = 35 → IWP Tryz.prog C [] ir_R_TypeText (FinQ [.t 2] r) (AS.start xs)) : ACalls Tryz.prog 10 xs r :=
  acalls_of Tryz.func10 rfl tr_R_TypeText rfl hn h
def ir_R_Arrow : IR :=
  (.seq (.ops [.i 2 (.box 69 (.t 0)), .i 3 (.box 69 (.t 1)), .i 4 (.alloc 69 [.st (.str (ByteArray.mk (#[]))), .full []])]) (.seq (.ops [.i 5 (.load true 2 (.t 2)), .i 6 (.load true 2 (.t 3)), .i 7 (.buildSlice false 69 2 [.t 5, .t 6]), .i 8 (.build [.st (.str (ByteArray.mk (#[]))), .full []] [(0, 1, .c (.one (.st (.str (ByteArray.mk (#[102])))))), (1, 1, .t 7)]), .mk none none (.store 2 (.t 4) (.t 8)) .no]) .ret))
theorem tr_R_Arrow : trCode Tryz.prog 9 [] (Tryz.f68.body.getD .skip) = some ir_R_Arrow := by kernel_rfl
theorem ac_R_Arrow {xs : List AV} {r : AV} (hn : xs.length ≤ 9) (h : ∀ C : Ctx, C.n = 9 → IWP Tryz.prog C [] ir_R_Arrow (FinQ [.cell 4 true 2] r) (AS.start xs)) : ACalls Tryz.prog 68 xs r :=
  acalls_of Tryz.func68 rfl tr_R_Arrow rfl hn h
def ir_R_Leaf : IR :=
  (.seq (.ops [.i 2 (.alloc 69 [.st (.str (ByteArray.mk (#[]))), .full []])]) (.seq (.ops [.i 3 (.mov (.t 0)), .i 4 (.build [.st (.str (ByteArray.mk (#[]))), .full []] [(0, 1, .t 3)]), .mk none none (.store 2 (.t 2) (.t 4)) .no]) .ret))
theorem tr_R_Leaf : trCode Tryz.prog 5 [] (Tryz.f103.body.getD .skip) = some ir_R_Leaf := by kernel_rfl
theorem ac_R_Leaf {xs : List AV} {r : AV} (hn : xs.length ≤ 5) (h : ∀ C : Ctx, C.n = 5 → IWP Tryz.prog C [] ir_R_Leaf (FinQ [.cell 2 true 2] r) (AS.start xs)) : ACalls Tryz.prog 103 xs r :=
  acalls_of Tryz.func103 rfl tr_R_Leaf rfl hn h
def ir_metaprune_R_typing_fresh : IR :=
  (.seq (.ops [.i 2 (.alloc 69 [.st (.str (ByteArray.mk (#[]))), .full []])]) (.seq (.ops [.i 3 (.mov (.t 0)), .i 4 (.nilCheck (.t 3)), .i 5 (.fieldAddr 1 (.t 4)), .i 6 (.load false 1 (.t 5)), .i 7 (.bin .add (.t 6) (.n 1)), .i 8 (.nilCheck (.t 3)), .i 9 (.fieldAddr 1 (.t 8)), .mk none none (.store 1 (.t 9) (.t 7)) .no]) (.seq (.ops [.i 10 (.mov (.t 0)), .i 11 (.nilCheck (.t 10)), .i 12 (.fieldAddr 1 (.t 11)), .i 13 (.load false 1 (.t 12)), .i 14 (.call 32 [.t 13]), .i 15 (.bin .add (.c (.one (.st (.str (ByteArray.mk (#[84])))))) (.t 14)), .i 16 (.call 103 [.t 15]), .mk none none (.store 2 (.t 2) (.t 16)) .no]) .ret)))
theorem tr_metaprune_R_typing_fresh : trCode Tryz.prog 17 [] (Tryz.f67.body.getD .skip) = some ir_metaprune_R_typing_fresh := by kernel_rfl
theorem acS_metaprune_R_typing_fresh {xs : List AV} {S S' : AStore} {r : AV} (hn : xs.length ≤ 17) (h : Clean S → ∀ C : Ctx, C.n = 17 → IWP Tryz.prog C [] ir_metaprune_R_typing_fresh (FinS C [.cell 2 true 2] r S') (AS.startS xs S)) : ACallsS Tryz.prog 67 xs S r S' :=
  acallsS_of Tryz.func67 rfl tr_metaprune_R_typing_fresh rfl hn h
def ir_metaprune_R_typing_of : IR :=
  (.seq (.ops [.i 4 (.box 24 (.t 1)), .i 6 (.alloc 69 [.st (.str (ByteArray.mk (#[]))), .full []])]) (.seq (.seq (.ops [.i 12 (.fieldAddr 0 (.t 4)), .i 13 (.load false 1 (.t 12))]) (.block 0 (.seq (.ops [.i 15 (.bin .eql (.t 13) (.n 1)), .i 14 (.mov (.t 15))]) (.cond (.t 14) (.seq (.ops [.i 16 (.mov (.t 2)), .i 17 (.mov (.t 2)), .i 18 (.len false (.t 17)), .i 19 (.bin .sub (.t 18) (.n 1)), .i 20 (.fieldAddr 1 (.t 4)), .i 21 (.load false 1 (.t 20)), .i 22 (.bin .sub (.t 19) (.t 21)), .i 23 (.indexAddr 2 (.t 16) (.t 22)), .i 24 (.load true 2 (.t 23)), .mk none none (.store 2 (.t 6) (.t 24)) .no]) .ret) (.seq (.ops [.i 26 (.bin .eql (.t 13) (.n 2)), .i 25 (.mov (.t 26))]) (.cond (.t 25) (.seq (.ops [.i 27 (.mov (.t 0)), .i 28 (.callS 67 [.t 27]), .i 7 (.alloc 69 [.st (.str (ByteArray.mk (#[]))), .full []]), .mk none none (.store 2 (.t 7) (.t 28)) .no]) (.seq (.ops [.i 29 (.mov (.t 0)), .mk (some 30) none (.fieldAddr 2 (.t 4)) (.onb 4), .mk (some 31) none (.load false 1 (.t 30)) (.onb 4), .i 32 (.indexL 3 (.t 31) (.n 0)), .i 33 (.loadL true 3 (.t 32)), .i 34 (.buildL 2 []), .i 35 (.mov (.t 2)), .mk (some 36) none (.append false 69 2 40 (.t 34) (.t 35)) (.keeps [4, 4, 7]), .mk (some 37) none (.load true 2 (.t 7)) (.onb 7), .i 38 (.buildL 2 [.t 37]), .mk (some 39) none (.append false 69 2 40 (.t 36) (.t 38)) (.keeps [4, 4]), .i 40 (.callW 37 [.t 29, .t 33, .t 39]), .i 8 (.alloc 69 [.st (.str (ByteArray.mk (#[]))), .full []]), .mk none none (.store 2 (.t 8) (.t 40)) .no]) (.seq (.ops [.i 41 (.load true 2 (.t 7)), .i 42 (.load true 2 (.t 8)), .i 43 (.call 68 [.t 41, .t 42]), .mk none none (.store 2 (.t 6) (.t 43)) .no]) .ret))) .skip)))))) (.seq (.ops [.i 44 (.mov (.t 0)), .i 45 (.fieldAddr 2 (.t 4)), .i 46 (.load false 1 (.t 45)), .i 47 (.indexAddr 3 (.t 46) (.n 0)), .i 48 (.load true 3 (.t 47)), .i 49 (.mov (.t 2)), .i 50 (.callS 37 [.t 44, .t 48, .t 49]), .i 9 (.alloc 69 [.st (.str (ByteArray.mk (#[]))), .full []]), .mk none none (.store 2 (.t 9) (.t 50)) .no]) (.seq (.ops [.i 51 (.mov (.t 0)), .i 52 (.fieldAddr 2 (.t 4)), .i 53 (.load false 1 (.t 52)), .i 54 (.indexAddr 3 (.t 53) (.n 1)), .i 55 (.load true 3 (.t 54)), .i 56 (.mov (.t 2)), .i 57 (.callS 37 [.t 51, .t 55, .t 56]), .i 10 (.alloc 69 [.st (.str (ByteArray.mk (#[]))), .full []]), .mk none none (.store 2 (.t 10) (.t 57)) .no]) (.seq (.ops [.i 58 (.mov (.t 0)), .i 59 (.callS 67 [.t 58]), .i 11 (.alloc 69 [.st (.str (ByteArray.mk (#[]))), .full []]), .mk none none (.store 2 (.t 11) (.t 59)) .no]) (.seq (.ops [.i 60 (.mov (.t 0)), .i 61 (.mov (.t 0)), .i 62 (.nilCheck (.t 61)), .i 63 (.fieldAddr 0 (.t 62)), .i 64 (.load false 1 (.t 63)), .i 65 (.load true 2 (.t 9)), .i 66 (.load true 2 (.t 10)), .i 67 (.load true 2 (.t 11)), .i 68 (.call 68 [.t 66, .t 67]), .i 69 (.build [.st (.str (ByteArray.mk (#[]))), .full [], .st (.str (ByteArray.mk (#[]))), .full []] [(0, 2, .t 65), (2, 2, .t 68)]), .i 70 (.buildSlice false 114 4 [.t 69]), .i 71 (.append false 114 4 80 (.t 64) (.t 70)), .i 72 (.nilCheck (.t 60)), .i 73 (.fieldAddr 0 (.t 72)), .mk none none (.store 1 (.t 73) (.t 71)) .no]) (.seq (.ops [.i 74 (.load true 2 (.t 11)), .mk none none (.store 2 (.t 6) (.t 74)) .no]) .ret)))))))
theorem tr_metaprune_R_typing_of : trCode Tryz.prog 75 [28, 50000040, 50, 57, 59, 60000032, 60000033, 60000034, 60000038] (Tryz.f37.body.getD .skip) = some ir_metaprune_R_typing_of := by kernel_rfl
theorem acS_metaprune_R_typing_of {xs : List AV} {S S' : AStore} {r : AV} (hn : xs.length ≤ 75) (h : Clean S → ∀ C : Ctx, C.n = 75 → IWP Tryz.prog C [28, 50000040, 50, 57, 59, 60000032, 60000033, 60000034, 60000038] ir_metaprune_R_typing_of (FinS C [.cell 6 true 2] r S') (AS.startS xs S)) : ACallsS Tryz.prog 37 xs S r S' :=
  acallsS_of Tryz.func37 rfl tr_metaprune_R_typing_of rfl hn h
def ir_R_HasConst : IR :=
  (.seq (.ops [.i 1 (.box 24 (.t 0)), .i 2 (.mov (.c (.one (.st (.bool false)))))]) (.seq (.seq (.ops [.i 4 (.fieldAddr 0 (.t 1)), .i 5 (.load false 1 (.t 4)), .i 6 (.bin .eql (.t 5) (.n 4))]) (.cond (.t 6) (.seq (.ops [.i 2 (.mov (.c (.one (.st (.bool true)))))]) .ret) .skip)) (.seq (.seq (.ops [.i 3 (.mov (.n 0))]) (.block 0 (.loop (.seq (.seq (.ops [.i 7 (.mov (.t 3)), .i 8 (.fieldAddr 2 (.t 1)), .i 9 (.load false 1 (.t 8)), .i 10 (.len false (.t 9)), .i 11 (.bin .lss (.t 7) (.t 10))]) (.cond (.t 11) .skip (.exit 0))) (.seq (.block 1 (.seq (.ops [.i 14 (.fieldAddr 2 (.t 1)), .i 15 (.load false 1 (.t 14)), .i 16 (.mov (.t 3)), .i 17 (.indexAddr 3 (.t 15) (.t 16)), .i 18 (.load true 3 (.t 17)), .i 19 (.call 14 [.t 18])]) (.cond (.t 19) (.seq (.ops [.i 2 (.mov (.c (.one (.st (.bool true)))))]) .ret) .skip))) (.ops [.i 12 (.mov (.t 3)), .i 13 (.bin .add (.t 12) (.n 1)), .i 3 (.mov (.t 13))])))))) (.seq (.ops [.i 2 (.mov (.c (.one (.st (.bool false)))))]) .ret))))
theorem tr_R_HasConst : trCode Tryz.prog 20 [] (Tryz.f14.body.getD .skip) = some ir_R_HasConst := by kernel_rfl
theorem ac_R_HasConst {xs : List AV} {r : AV} (hn : xs.length ≤ 20) (h : ∀ C : Ctx, C.n = 20 → IWP Tryz.prog C [] ir_R_HasConst (FinQ [.t 2] r) (AS.start xs)) : ACalls Tryz.prog 14 xs r :=
  acalls_of Tryz.func14 rfl tr_R_HasConst rfl hn h
def ir_R_PrincipalOf : IR :=
  (.seq (.ops [.i 1 (.box 24 (.t 0)), .i 2 (.alloc 27 [.st (.int .i64 0), .full []]), .i 3 (.mov (.n 0))]) (.seq (.ops [.i 10 (.build [.full [], .st (.int .i64 0)] []), .i 11 (.box 66 (.t 10)), .i 4 (.mov (.t 11))]) (.seq (.ops [.i 12 (.mov (.t 4)), .i 13 (.load true 3 (.t 1)), .i 14 (.callS 37 [.t 12, .t 13, .c (.one (.full []))]), .i 5 (.alloc 69 [.st (.str (ByteArray.mk (#[]))), .full []]), .mk none none (.store 2 (.t 5) (.t 14)) .no]) (.seq (.ops [.i 16 (.mov (.t 4)), .i 17 (.nilCheck (.t 16)), .i 18 (.fieldAddr 0 (.t 17)), .i 19 (.load false 1 (.t 18)), .i 20 (.call 38 [.t 19]), .i 15 (.mov (.t 20)), .i 21 (.extract 0 (.t 15)), .i 22 (.extract 1 (.t 15)), .i 6 (.mov (.t 21)), .i 7 (.mov (.t 22))]) (.seq (.seq (.ops [.i 23 (.mov (.t 7)), .i 24 (.bin .eql (.t 23) (.n 6))]) (.cond (.t 24) (.ops [.i 7 (.mov (.n 11))]) .skip)) (.seq (.seq (.ops [.i 25 (.mov (.t 7)), .i 26 (.bin .neq (.t 25) (.n 0))]) (.cond (.t 26) (.seq (.ops [.i 27 (.build [.st (.int .i64 0), .full []] []), .i 28 (.mov (.t 7)), .mk none none (.store 2 (.t 2) (.t 27)) .no, .i 3 (.mov (.t 28))]) .ret) .skip)) (.seq (.ops [.i 30 (.mov (.t 6)), .i 31 (.load true 2 (.t 5)), .i 32 (.call 39 [.t 30, .t 31]), .i 29 (.mov (.t 32)), .i 33 (.extract 0 (.t 29)), .i 34 (.extract 1 (.t 29)), .i 8 (.alloc 69 [.st (.str (ByteArray.mk (#[]))), .full []]), .mk none none (.store 2 (.t 8) (.t 33)) .no, .i 9 (.mov (.t 34))]) (.seq (.seq (.ops [.i 35 (.mov (.t 9)), .i 36 (.un .not (.t 35))]) (.cond (.t 36) (.seq (.ops [.i 37 (.build [.st (.int .i64 0), .full []] []), .mk none none (.store 2 (.t 2) (.t 37)) .no, .i 3 (.mov (.n 8))]) .ret) .skip)) (.seq (.ops [.i 38 (.load true 2 (.t 8)), .i 39 (.load true 2 (.t 8)), .i 40 (.call 41 [.t 39]), .i 41 (.call 40 [.t 38, .t 40]), .mk none none (.store 2 (.t 2) (.t 41)) .no, .i 3 (.mov (.n 0))]) .ret)))))))))
theorem tr_R_PrincipalOf : trCode Tryz.prog 42 [14] (Tryz.f16.body.getD .skip) = some ir_R_PrincipalOf := by kernel_rfl
theorem ac_R_PrincipalOf {xs : List AV} {r : AV} (hn : xs.length ≤ 42) (h : ∀ C : Ctx, C.n = 42 → IWP Tryz.prog C [14] ir_R_PrincipalOf (FinQ [.cell 2 true 2, .t 3] r) (AS.start xs)) : ACalls Tryz.prog 16 xs r :=
  acalls_of Tryz.func16 rfl tr_R_PrincipalOf rfl hn h
def ir_R_AsType : IR :=
  (.seq (.ops [.i 2 (.box 69 (.t 0)), .i 4 (.alloc 27 [.st (.int .i64 0), .full []])]) (.seq (.seq (.ops [.i 6 (.fieldAddr 1 (.t 2)), .i 7 (.load false 1 (.t 6)), .i 8 (.len false (.t 7)), .i 9 (.bin .eql (.t 8) (.n 0))]) (.cond (.t 9) (.seq (.ops [.i 5 (.mov (.n 0))]) (.seq (.block 0 (.loop (.seq (.seq (.ops [.i 10 (.mov (.t 1)), .i 11 (.mov (.t 5)), .i 12 (.indexAddr 1 (.t 10) (.t 11)), .i 13 (.load false 1 (.t 12)), .i 14 (.fieldAddr 0 (.t 2)), .i 15 (.load false 1 (.t 14)), .i 16 (.bin .neq (.t 13) (.t 15))]) (.cond (.t 16) .skip (.exit 0))) (.block 1 (.ops [.i 17 (.mov (.t 5)), .i 18 (.bin .add (.t 17) (.n 1)), .i 5 (.mov (.t 18))]))))) (.seq (.ops [.i 19 (.mov (.t 5)), .i 20 (.build [.st (.int .i64 0), .full []] [(0, 1, .t 19)]), .mk none none (.store 2 (.t 4) (.t 20)) .no]) .ret))) .skip)) (.seq (.ops [.i 21 (.fieldAddr 1 (.t 2)), .i 22 (.load false 1 (.t 21)), .i 23 (.indexAddr 2 (.t 22) (.n 0)), .i 24 (.load true 2 (.t 23)), .i 25 (.mov (.t 1)), .i 26 (.call 40 [.t 24, .t 25]), .i 27 (.fieldAddr 1 (.t 2)), .i 28 (.load false 1 (.t 27)), .i 29 (.indexAddr 2 (.t 28) (.n 1)), .i 30 (.load true 2 (.t 29)), .i 31 (.mov (.t 1)), .i 32 (.call 40 [.t 30, .t 31]), .i 33 (.buildSlice false 27 2 [.t 26, .t 32]), .i 34 (.build [.st (.int .i64 0), .full []] [(1, 1, .t 33)]), .mk none none (.store 2 (.t 4) (.t 34)) .no]) .ret)))
theorem tr_R_AsType : trCode Tryz.prog 35 [] (Tryz.f40.body.getD .skip) = some ir_R_AsType := by kernel_rfl
theorem ac_R_AsType {xs : List AV} {r : AV} (hn : xs.length ≤ 35) (h : ∀ C : Ctx, C.n = 35 → IWP Tryz.prog C [] ir_R_AsType (FinQ [.cell 4 true 2] r) (AS.start xs)) : ACalls Tryz.prog 40 xs r :=
  acalls_of Tryz.func40 rfl tr_R_AsType rfl hn h
def ir_R_TypeCase : IR :=
  (.seq (.ops [.i 4 (.box 27 (.t 0)), .i 5 (.box 27 (.t 1)), .i 8 (.mov (.c (.one (.st (.bool false)))))]) (.seq (.seq (.ops [.i 9 (.fieldAddr 1 (.t 4)), .i 10 (.load false 1 (.t 9)), .i 11 (.len false (.t 10)), .i 12 (.bin .eql (.t 11) (.n 0))]) (.cond (.t 12) (.seq (.seq (.ops [.i 13 (.mov (.t 3)), .i 14 (.fieldAddr 0 (.t 4)), .i 15 (.load false 1 (.t 14)), .i 16 (.indexAddr 1 (.t 13) (.t 15)), .i 17 (.load false 1 (.t 16))]) (.cond (.t 17) (.seq (.ops [.i 18 (.mov (.t 2)), .i 19 (.fieldAddr 0 (.t 4)), .i 20 (.load false 1 (.t 19)), .i 21 (.indexAddr 2 (.t 18) (.t 20)), .i 22 (.load true 2 (.t 21)), .i 23 (.load true 2 (.t 5)), .i 24 (.call 18 [.t 22, .t 23]), .i 8 (.mov (.t 24))]) .ret) .skip)) (.seq (.ops [.i 25 (.mov (.t 3)), .i 26 (.fieldAddr 0 (.t 4)), .i 27 (.load false 1 (.t 26)), .i 28 (.indexAddr 1 (.t 25) (.t 27)), .mk none none (.store 1 (.t 28) (.c (.one (.st (.bool true))))) .no]) (.seq (.ops [.i 29 (.mov (.t 2)), .i 30 (.fieldAddr 0 (.t 4)), .i 31 (.load false 1 (.t 30)), .i 32 (.load true 2 (.t 5)), .i 33 (.indexAddr 2 (.t 29) (.t 31)), .mk none none (.store 2 (.t 33) (.t 32)) .no]) (.seq (.ops [.i 8 (.mov (.c (.one (.st (.bool true)))))]) .ret)))) .skip)) (.seq (.ops [.i 34 (.fieldAddr 1 (.t 5)), .i 35 (.load false 1 (.t 34)), .i 36 (.len false (.t 35)), .i 37 (.bin .eql (.t 36) (.n 2)), .i 38 (.mov (.t 37)), .mk (some 39) (some (38, true)) (.fieldAddr 1 (.t 4)) .no, .mk (some 40) (some (38, true)) (.load false 1 (.t 39)) .no, .mk (some 41) (some (38, true)) (.indexAddr 2 (.t 40) (.n 0)) .no, .mk (some 42) (some (38, true)) (.load true 2 (.t 41)) .no, .mk (some 43) (some (38, true)) (.fieldAddr 1 (.t 5)) .no, .mk (some 44) (some (38, true)) (.load false 1 (.t 43)) .no, .mk (some 45) (some (38, true)) (.indexAddr 2 (.t 44) (.n 0)) .no, .mk (some 46) (some (38, true)) (.load true 2 (.t 45)) .no, .mk (some 47) (some (38, true)) (.mov (.t 2)) .no, .mk (some 48) (some (38, true)) (.mov (.t 3)) .no, .mk (some 49) (some (38, true)) (.callS 48 [.t 42, .t 46, .t 47, .t 48]) .no, .i 50 (.pick (.t 38) (.t 49) (.c (.one (.st (.bool false))))), .i 51 (.mov (.t 50)), .mk (some 52) (some (51, true)) (.fieldAddr 1 (.t 4)) .no, .mk (some 53) (some (51, true)) (.load false 1 (.t 52)) .no, .mk (some 54) (some (51, true)) (.indexAddr 2 (.t 53) (.n 1)) .no, .mk (some 55) (some (51, true)) (.load true 2 (.t 54)) .no, .mk (some 56) (some (51, true)) (.fieldAddr 1 (.t 5)) .no, .mk (some 57) (some (51, true)) (.load false 1 (.t 56)) .no, .mk (some 58) (some (51, true)) (.indexAddr 2 (.t 57) (.n 1)) .no, .mk (some 59) (some (51, true)) (.load true 2 (.t 58)) .no, .mk (some 60) (some (51, true)) (.mov (.t 2)) .no, .mk (some 61) (some (51, true)) (.mov (.t 3)) .no, .mk (some 62) (some (51, true)) (.callS 48 [.t 55, .t 59, .t 60, .t 61]) .no, .i 63 (.pick (.t 51) (.t 62) (.c (.one (.st (.bool false))))), .i 8 (.mov (.t 63))]) .ret)))
theorem tr_R_TypeCase : trCode Tryz.prog 64 [49, 62] (Tryz.f48.body.getD .skip) = some ir_R_TypeCase := by kernel_rfl
theorem acS_R_TypeCase {xs : List AV} {S S' : AStore} {r : AV} (hn : xs.length ≤ 64) (h : Clean S → ∀ C : Ctx, C.n = 64 → IWP Tryz.prog C [49, 62] ir_R_TypeCase (FinS C [.t 8] r S') (AS.startS xs S)) : ACallsS Tryz.prog 48 xs S r S' :=
  acallsS_of Tryz.func48 rfl tr_R_TypeCase rfl hn h
def ir_R_CaseOfType : IR :=
  (.seq (.ops [.i 2 (.box 27 (.t 0)), .i 3 (.box 27 (.t 1)), .i 4 (.mov (.c (.one (.st (.bool false)))))]) (.seq (.ops [.i 5 (.load true 2 (.t 2)), .i 6 (.load true 2 (.t 3)), .i 7 (.makeSlice 27 2 32 [.int .i64 0, .list []] (.n 2001) (.n 2001)), .i 8 (.makeSlice 4 1 1 [.bool false] (.n 2001) (.n 2001)), .i 9 (.callS 48 [.t 5, .t 6, .t 7, .t 8]), .i 4 (.mov (.t 9))]) .ret))
theorem tr_R_CaseOfType : trCode Tryz.prog 10 [7, 8, 9] (Tryz.f19.body.getD .skip) = some ir_R_CaseOfType := by kernel_rfl
theorem ac_R_CaseOfType {xs : List AV} {r : AV} (hn : xs.length ≤ 10) (h : ∀ C : Ctx, C.n = 10 → IWP Tryz.prog C [7, 8, 9] ir_R_CaseOfType (FinQ [.t 4] r) (AS.start xs)) : ACalls Tryz.prog 19 xs r :=
  acalls_of Tryz.func19 rfl tr_R_CaseOfType rfl hn h
def ir_L_hugeType : IR :=
  (.seq (.ops [.i 1 (.box 27 (.t 0)), .i 2 (.mov (.c (.one (.st (.bool false)))))]) (.seq (.ops [.i 3 (.load true 2 (.t 1)), .i 4 (.call 24 [.t 3, .n 3000]), .i 5 (.bin .gtr (.t 4) (.n 3000)), .i 2 (.mov (.t 5))]) .ret))
theorem tr_L_hugeType : trCode Tryz.prog 6 [] (Tryz.f8.body.getD .skip) = some ir_L_hugeType := by kernel_rfl
theorem ac_L_hugeType {xs : List AV} {r : AV} (hn : xs.length ≤ 6) (h : ∀ C : Ctx, C.n = 6 → IWP Tryz.prog C [] ir_L_hugeType (FinQ [.t 2] r) (AS.start xs)) : ACalls Tryz.prog 8 xs r :=
  acalls_of Tryz.func8 rfl tr_L_hugeType rfl hn h
def ir_L_InferSays : IR :=
  (.seq (.ops [.i 2 (.box 24 (.t 0)), .i 3 (.box 27 (.t 1)), .i 4 (.mov (.c (.one (.st (.bool false)))))]) (.seq (.seq (.ops [.i 14 (.load true 3 (.t 2)), .i 15 (.call 7 [.t 14]), .i 16 (.mov (.t 15)), .mk (some 17) (some (16, false)) (.load true 2 (.t 3)) .no, .mk (some 18) (some (16, false)) (.call 8 [.t 17]) .no, .i 19 (.pick (.t 16) (.c (.one (.st (.bool true)))) (.t 18))]) (.cond (.t 19) (.seq (.ops [.i 4 (.mov (.c (.one (.st (.bool true)))))]) .ret) .skip)) (.seq (.ops [.i 20 (.load true 2 (.t 3)), .i 21 (.call 9 [.t 20]), .i 5 (.mov (.t 21))]) (.seq (.ops [.i 6 (.mov (.c (.one (.st (.str (ByteArray.mk (#[])))))))]) (.seq (.seq (.ops [.i 22 (.mov (.t 5)), .i 23 (.bin .eql (.t 22) (.n 0))]) (.cond (.t 23) (.ops [.i 24 (.load true 2 (.t 3)), .i 25 (.call 10 [.t 24]), .i 6 (.mov (.t 25))]) .skip)) (.seq (.ops [.i 27 (.load true 2 (.t 3)), .i 28 (.call 11 [.t 27]), .i 26 (.mov (.t 28)), .i 29 (.extract 0 (.t 26)), .i 30 (.extract 1 (.t 26)), .i 7 (.mov (.t 29)), .i 8 (.mov (.t 30))]) (.seq (.seq (.ops [.i 31 (.load true 2 (.t 3)), .i 32 (.call 12 [.t 31]), .i 33 (.mov (.t 5)), .i 34 (.bin .neq (.t 32) (.t 33)), .i 35 (.mov (.t 34)), .mk (some 36) (some (35, false)) (.mov (.t 7)) .no, .mk (some 37) (some (35, false)) (.mov (.t 6)) .no, .mk (some 38) (some (35, false)) (.bin .neq (.t 36) (.t 37)) .no, .i 39 (.pick (.t 35) (.c (.one (.st (.bool true)))) (.t 38)), .i 40 (.mov (.t 39)), .mk (some 41) (some (40, false)) (.mov (.t 8)) .no, .mk (some 42) (some (40, false)) (.mov (.t 5)) .no, .mk (some 43) (some (40, false)) (.bin .neq (.t 41) (.t 42)) .no, .i 44 (.pick (.t 40) (.c (.one (.st (.bool true)))) (.t 43))]) (.cond (.t 44) (.seq (.ops [.i 4 (.mov (.c (.one (.st (.bool false)))))]) .ret) .skip)) (.seq (.ops [.i 45 (.load true 3 (.t 2)), .i 46 (.call 13 [.t 45, .n 0, .n 0]), .i 9 (.mov (.t 46))]) (.seq (.seq (.ops [.i 47 (.mov (.t 9)), .i 48 (.bin .eql (.t 47) (.n 0)), .i 49 (.mov (.t 48)), .mk (some 50) (some (49, true)) (.load true 3 (.t 2)) .no, .mk (some 51) (some (49, true)) (.call 14 [.t 50]) .no, .i 52 (.pick (.t 49) (.t 51) (.c (.one (.st (.bool false)))))]) (.cond (.t 52) (.ops [.i 9 (.mov (.n 15))]) .skip)) (.seq (.seq (.ops [.i 53 (.mov (.t 9)), .i 54 (.bin .eql (.t 53) (.n 0)), .i 55 (.mov (.t 54)), .mk (some 56) (some (55, true)) (.load true 3 (.t 2)) .no, .mk (some 57) (some (55, true)) (.call 15 [.t 56, .n 60]) .no, .mk (some 58) (some (55, true)) (.bin .gtr (.t 57) (.n 60)) .no, .i 59 (.pick (.t 55) (.t 58) (.c (.one (.st (.bool false)))))]) (.cond (.t 59) (.seq (.ops [.i 4 (.mov (.c (.one (.st (.bool true)))))]) .ret) .skip)) (.seq (.ops [.i 60 (.build [.st (.int .i64 0), .full []] []), .i 10 (.alloc 27 [.st (.int .i64 0), .full []]), .mk none none (.store 2 (.t 10) (.t 60)) .no]) (.seq (.seq (.ops [.i 61 (.mov (.t 9)), .i 62 (.bin .eql (.t 61) (.n 0))]) (.cond (.t 62) (.ops [.i 64 (.load true 3 (.t 2)), .i 65 (.call 16 [.t 64]), .i 63 (.mov (.t 65)), .i 66 (.extract 0 (.t 63)), .i 67 (.extract 1 (.t 63)), .mk none none (.store 2 (.t 10) (.t 66)) .no, .i 9 (.mov (.t 67))]) .skip)) (.seq (.ops [.i 69 (.load true 3 (.t 2)), .i 70 (.call 17 [.t 69]), .i 68 (.mov (.t 70)), .i 71 (.extract 0 (.t 68)), .i 72 (.extract 1 (.t 68)), .i 11 (.alloc 27 [.st (.int .i64 0), .full []]), .mk none none (.store 2 (.t 11) (.t 71)) .no, .i 8 (.mov (.t 72))]) (.seq (.seq (.ops [.i 73 (.mov (.t 8)), .i 74 (.mov (.t 9)), .i 75 (.bin .neq (.t 73) (.t 74)), .i 76 (.mov (.t 75)), .mk (some 77) (some (76, false)) (.mov (.t 9)) .no, .mk (some 78) (some (76, false)) (.bin .neq (.t 77) (.n 0)) .no, .mk (some 79) (some (76, false)) (.mov (.t 78)) .no, .mk (some 80) (some (79, true)) (.fieldAddr 0 (.t 11)) .no, .mk (some 81) (some (79, true)) (.load false 1 (.t 80)) .no, .mk (some 82) (some (79, true)) (.bin .neq (.t 81) (.n 0)) .no, .mk (some 83) (some (79, true)) (.mov (.t 82)) .no, .mk (some 84) (some (83, false)) (.fieldAddr 1 (.t 11)) .no, .mk (some 85) (some (83, false)) (.load false 1 (.t 84)) .no, .mk (some 86) (some (83, false)) (.len false (.t 85)) .no, .mk (some 87) (some (83, false)) (.bin .gtr (.t 86) (.n 0)) .no, .mk (some 88) (some (79, true)) (.pick (.t 83) (.c (.one (.st (.bool true)))) (.t 87)) .no, .mk (some 89) (some (76, false)) (.pick (.t 79) (.t 88) (.c (.one (.st (.bool false))))) .no, .i 90 (.pick (.t 76) (.c (.one (.st (.bool true)))) (.t 89)), .i 91 (.mov (.t 90)), .mk (some 92) (some (91, false)) (.mov (.t 9)) .no, .mk (some 93) (some (91, false)) (.bin .eql (.t 92) (.n 0)) .no, .mk (some 94) (some (91, false)) (.mov (.t 93)) .no, .mk (some 95) (some (94, true)) (.load true 2 (.t 11)) .no, .mk (some 96) (some (94, true)) (.load true 2 (.t 10)) .no, .mk (some 97) (some (94, true)) (.call 18 [.t 95, .t 96]) .no, .mk (some 98) (some (94, true)) (.un .not (.t 97)) .no, .mk (some 99) (some (91, false)) (.pick (.t 94) (.t 98) (.c (.one (.st (.bool false))))) .no, .i 100 (.pick (.t 91) (.c (.one (.st (.bool true)))) (.t 99))]) (.cond (.t 100) (.seq (.ops [.i 4 (.mov (.c (.one (.st (.bool false)))))]) .ret) .skip)) (.seq (.ops [.i 12 (.mov (.c (.one (.st (.bool false)))))]) (.seq (.seq (.ops [.i 101 (.mov (.t 5)), .i 102 (.bin .eql (.t 101) (.n 0))]) (.cond (.t 102) (.seq (.ops [.i 103 (.mov (.t 9)), .i 5 (.mov (.t 103))]) (.seq (.seq (.ops [.i 104 (.mov (.t 9)), .i 105 (.bin .eql (.t 104) (.n 11))]) (.cond (.t 105) (.ops [.i 5 (.mov (.n 0))]) .skip)) (.ops [.i 106 (.mov (.t 9)), .i 107 (.bin .eql (.t 106) (.n 0)), .i 108 (.mov (.t 107)), .mk (some 109) (some (108, true)) (.load true 2 (.t 10)) .no, .mk (some 110) (some (108, true)) (.load true 2 (.t 3)) .no, .mk (some 111) (some (108, true)) (.call 19 [.t 109, .t 110]) .no, .i 112 (.pick (.t 108) (.t 111) (.c (.one (.st (.bool false))))), .i 12 (.mov (.t 112))]))) .skip)) (.seq (.ops [.i 114 (.load true 3 (.t 2)), .i 115 (.load true 2 (.t 3)), .i 116 (.call 20 [.t 114, .t 115]), .i 113 (.mov (.t 116)), .i 117 (.extract 0 (.t 113)), .i 118 (.extract 1 (.t 113)), .i 13 (.mov (.t 117)), .i 8 (.mov (.t 118))]) (.seq (.ops [.i 119 (.mov (.t 13)), .i 120 (.mov (.t 12)), .i 121 (.eqB false (.t 119) (.t 120)), .i 122 (.mov (.t 121)), .mk (some 123) (some (122, true)) (.mov (.t 8)) .no, .mk (some 124) (some (122, true)) (.mov (.t 5)) .no, .mk (some 125) (some (122, true)) (.bin .eql (.t 123) (.t 124)) .no, .i 126 (.pick (.t 122) (.t 125) (.c (.one (.st (.bool false))))), .i 4 (.mov (.t 126))]) .ret))))))))))))))))))
theorem tr_L_InferSays : trCode Tryz.prog 127 [] (Tryz.f3.body.getD .skip) = some ir_L_InferSays := by kernel_rfl
theorem ac_L_InferSays {xs : List AV} {r : AV} (hn : xs.length ≤ 127) (h : ∀ C : Ctx, C.n = 127 → IWP Tryz.prog C [] ir_L_InferSays (FinQ [.t 4] r) (AS.start xs)) : ACalls Tryz.prog 3 xs r :=
  acalls_of Tryz.func3 rfl tr_L_InferSays rfl hn h
end Go.Proofs.YtehnjhkndbcmgaaGreatDoor

namespace Go.Proofs.YtehnjhkndbcmgaaGreatDoor
open Go Go.RowKit
set_option linter.unusedVariables false
def letterI (n : Int) : Bool := decide (97 ≤ n ∧ n ≤ 122) || decide (65 ≤ n ∧ n ≤ 90) || decide (48 ≤ n ∧ n ≤ 57)
def byteAt (s : ByteArray) (k : Nat) : Int := ((s.data.toList.getD k 0).toNat : Int)
def isVar (s : ByteArray) : Bool := decide (0 < s.size) && decide (65 ≤ byteAt s 0) && decide (byteAt s 0 ≤ 90)
def lettersTo (s : ByteArray) (k : Nat) : Bool := (s.data.toList.take k).all fun c => letterI c.toNat
def nameOk (s : ByteArray) : Bool := decide (1 ≤ s.size) && decide (s.size ≤ 8) && !(decide (48 ≤ byteAt s 0) && decide (byteAt s 0 ≤ 57)) && lettersTo s s.size
mutual
def Tm.size : Tm → Nat
  | .mk _ xs => 1 + Tm.sizes xs
def Tm.sizes : List Tm → Nat
  | [] => 0
  | t :: ts => t.size + Tm.sizes ts
end
theorem Tm.sizes_append (xs ys : List Tm) : Tm.sizes (xs ++ ys) = Tm.sizes xs + Tm.sizes ys := by
  induction xs with
  | nil => simp [Tm.sizes]
  | cons t ts ih => simp only [List.cons_append, Tm.sizes, ih]; omega
theorem Tm.sizes_take {xs : List Tm} {k : Nat} {a : Tm} (h : xs[k]? = some a) : Tm.sizes (xs.take (k+1)) = Tm.sizes (xs.take k) + a.size := by
  rw [take_snoc h, Tm.sizes_append]; simp [Tm.sizes]
theorem Tm.sizes_take_le (xs : List Tm) (k : Nat)  : Tm.sizes (xs.take k) ≤ Tm.sizes xs := by
  have := Tm.sizes_append (xs.take k) (xs.drop k)
  rw [List.take_append_drop] at this
  omega
theorem Tm.size_eq (t : Tm) : t.size = 1 + Tm.sizes t.args := by cases t; rfl
theorem Tm.size_pos (t : Tm) : 1 ≤ t.size := by rw [Tm.size_eq]; omega
theorem Tm.size_mem {a : Tm} {xs : List Tm} (h : a ∈ xs) : a.size ≤ Tm.sizes xs := by
  induction xs with
  | nil => simp at h
  | cons t ts ih =>
    rcases List.mem_cons.1 h with rfl | h
    · simp only [Tm.sizes]; omega
    · have := ih h; simp only [Tm.sizes]; omega
theorem Tm.length_le (xs : List Tm) : xs.length ≤ Tm.sizes xs := by
  induction xs with
  | nil => simp [Tm.sizes]
  | cons t ts ih => have := Tm.size_pos t; simp only [Tm.sizes, List.length_cons]; omega
theorem Tm.lt_of_arg {a t : Tm} (h : a ∈ t.args) : SizeOf.sizeOf a < SizeOf.sizeOf t := by
  cases t
  exact Tm.lt_of_mem h
def lessBy (s : Nat) (m : Int) : Int := if m < s then -1 else m - s
def capTo (s : Nat) (m : Int) : Int := if m < s then m + 1 else s
mutual
def Tm.knots : Tm → List Tm
  | .mk n xs => .mk n xs :: Tm.knotsL xs
def Tm.knotsL : List Tm → List Tm
  | [] => []
  | t :: ts => t.knots ++ Tm.knotsL ts
end
theorem Tm.knots_eq (t : Tm) : t.knots = t :: Tm.knotsL t.args := by cases t; rfl
theorem Tm.knotsL_append (xs ys : List Tm) : Tm.knotsL (xs ++ ys) = Tm.knotsL xs ++ Tm.knotsL ys := by
  induction xs with
  | nil => simp [Tm.knotsL]
  | cons t ts ih => simp [Tm.knotsL, ih]
theorem Tm.knotsL_take {xs : List Tm} {k : Nat} {a : Tm} (h : xs[k]? = some a) : Tm.knotsL (xs.take (k+1)) = Tm.knotsL (xs.take k) ++ a.knots := by
  rw [take_snoc h, Tm.knotsL_append]; simp [Tm.knotsL]
mutual
theorem Tm.knots_length : ∀ t : Tm, t.knots.length = t.size
  | .mk n xs => by simp only [Tm.knots, Tm.size, List.length_cons, Tm.knotsL_length xs]; omega
theorem Tm.knotsL_length : ∀ xs : List Tm, (Tm.knotsL xs).length = Tm.sizes xs
  | [] => rfl
  | t :: ts => by simp only [Tm.knotsL, Tm.sizes, List.length_append, Tm.knots_length t, Tm.knotsL_length ts]
end
def chkOne (t : Tm) : Int := if nameOk t.name = true then (if isVar t.name = true ∧ 0 < t.args.length then 2 else 0) else 1
mutual
def Tm.chk : Tm → Int
  | .mk n xs => if chkOne (.mk n xs) = 0 then Tm.chkL xs else chkOne (.mk n xs)
def Tm.chkL : List Tm → Int
  | [] => 0
  | t :: ts => if t.chk = 0 then Tm.chkL ts else t.chk
end
theorem Tm.chk_eq (t : Tm) : t.chk = if chkOne t = 0 then Tm.chkL t.args else chkOne t := by cases t; rfl
def Tm.may (t : Tm) : Int := if 200 < t.size then 3 else t.chk
def isIn (x : ByteArray) (l : List ByteArray) : Bool := l.any fun y => decide (y = x)
theorem isIn_iff {x : ByteArray} {l : List ByteArray} : isIn x l = true ↔ x ∈ l := by simp [isIn]
theorem isIn_no {x : ByteArray} {l : List ByteArray} : isIn x l = false ↔ x ∉ l := by rw [← Bool.not_eq_true, isIn_iff]
def addVar (l : List ByteArray) (n : ByteArray) : List ByteArray := if isVar n && !isIn n l then l ++ [n] else l
def addVars (l : List ByteArray) (ks : List Tm) : List ByteArray := ks.foldl (fun l t => addVar l t.name) l
def Tm.varsOf (t : Tm) : List ByteArray := addVars [] t.knots
theorem addVars_nil (l : List ByteArray) : addVars l [] = l := rfl
theorem addVars_snoc (l : List ByteArray) (ks : List Tm) (t : Tm) : addVars l (ks ++ [t]) = addVar (addVars l ks) t.name := by simp [addVars]
theorem addVars_append (l : List ByteArray) (ks ms : List Tm) : addVars l (ks ++ ms) = addVars (addVars l ks) ms := by simp [addVars]
theorem addVar_yes {l : List ByteArray} {n : ByteArray} (h : isVar n = true) (h' : isIn n l = false) : addVar l n = l ++ [n] := by simp [addVar, h, h']
theorem addVar_in {l : List ByteArray} {n : ByteArray} (h' : isIn n l = true) : addVar l n = l := by simp [addVar, h']
theorem addVar_no {l : List ByteArray} {n : ByteArray} (h : isVar n = false) : addVar l n = l := by simp [addVar, h]
theorem addVar_length (l : List ByteArray) (n : ByteArray) : (addVar l n).length ≤ l.length + 1 := by unfold addVar; split <;> simp
theorem addVars_length : ∀ (ks : List Tm) (l : List ByteArray), (addVars l ks).length ≤ l.length + ks.length
  | [], l => by simp [addVars_nil]
  | t :: ts, l => by
    have h1 := addVars_length ts (addVar l t.name)
    have h2 := addVar_length l t.name
    have h3 : addVars l (t :: ts) = addVars (addVar l t.name) ts := rfl
    rw [h3, List.length_cons]
    omega
mutual
def Tm.places : Tm → List (List Int)
  | .mk _ xs => [] :: Tm.placesFrom 0 xs
def Tm.placesFrom : Nat → List Tm → List (List Int)
  | _, [] => []
  | k, t :: ts => t.places.map (fun p => (k : Int) :: p) ++ Tm.placesFrom (k+1) ts
end
theorem lessBy_step {s z : Nat} {m : Int} (h : 0 ≤ lessBy s m) : lessBy z (lessBy s m) = lessBy (s + z) m := by
  unfold lessBy at *
  split at h
  · omega
  · rename_i h1
    rw [if_neg h1]
    split <;> split <;> omega
theorem lessBy_neg {s z : Nat} {m : Int} (h : lessBy s m < 0) (hz : s ≤ z) : lessBy s m = lessBy z m := by
  unfold lessBy at *
  split at h
  · rw [if_pos (by assumption), if_pos (by omega)]
  · omega
theorem lessBy_le (s : Nat) (m : Int) (h : 0 ≤ m) : -1 ≤ lessBy s m ∧ lessBy s m ≤ m := by unfold lessBy; split <;> omega
theorem capTo_step {s z : Nat} {m : Int} (h : (s : Int) ≤ m) : (s : Int) + capTo z (m - s) = capTo (s + z) m := by
  unfold capTo
  split <;> split <;> omega
theorem capTo_over {s z : Nat} {m : Int} (h : m < capTo s m) (hz : s ≤ z) : capTo z m = m + 1 := by
  unfold capTo at *
  split at h <;> split <;> omega
theorem capTo_le (s : Nat) (m : Int) (h : 0 ≤ m) : 0 ≤ capTo s m ∧ capTo s m ≤ m + 1 := by unfold capTo; split <;> omega
theorem capTo_in {s : Nat} {m : Int} (h : ¬ m < capTo s m) : capTo s m = s ∧ (s : Int) ≤ m := by
  unfold capTo at *
  split at h
  · omega
  · rename_i h2
    rw [if_neg h2]
    omega
end Go.Proofs.YtehnjhkndbcmgaaGreatDoor



namespace Go.Proofs.YtehnjhkndbcmgaaGreatDoor
open Go Go.RowKit
set_option linter.unusedVariables false
theorem bl_irrefl : ∀ l : List UInt8, Op.bytesLess l l = false
  | [] => by simp [Op.bytesLess]
  | x :: xs => by simp [Op.bytesLess, bl_irrefl xs]
theorem bl_trans : ∀ (a b c : List UInt8), Op.bytesLess a b = true → Op.bytesLess b c = true → Op.bytesLess a c = true
  | _, [], _, h, _ => by simp [Op.bytesLess] at h
  | _, _ :: _, [], _, k => by simp [Op.bytesLess] at k
  | [], _ :: _, _ :: _, _, _ => by simp [Op.bytesLess]
  | x :: xs, y :: ys, z :: zs, h, k => by
    simp only [Op.bytesLess, Bool.or_eq_true, Bool.and_eq_true, decide_eq_true_eq, beq_iff_eq] at h k ⊢
    rcases h with h | ⟨rfl, h⟩
    · rcases k with k | ⟨rfl, k⟩
      · exact .inl (UInt8.lt_trans h k)
      · exact .inl h
    · rcases k with k | ⟨rfl, k⟩
      · exact .inl k
      · exact .inr ⟨rfl, bl_trans xs ys zs h k⟩
theorem bl_total : ∀ (a b : List UInt8), Op.bytesLess a b = true ∨ a = b ∨ Op.bytesLess b a = true
  | [], [] => .inr (.inl rfl)
  | [], _ :: _ => .inl (by simp [Op.bytesLess])
  | _ :: _, [] => .inr (.inr (by simp [Op.bytesLess]))
  | x :: xs, y :: ys => by
    simp only [Op.bytesLess, Bool.or_eq_true, Bool.and_eq_true, decide_eq_true_eq, beq_iff_eq, List.cons.injEq]
    rcases Nat.lt_trichotomy x.toNat y.toNat with h | h | h
    · exact .inl (.inl h)
    · have e : x = y := UInt8.toNat_inj.1 h
      subst e
      rcases bl_total xs ys with h | h | h
      · exact .inl (.inr ⟨rfl, h⟩)
      · exact .inr (.inl ⟨rfl, h⟩)
      · exact .inr (.inr (.inr ⟨rfl, h⟩))
    · exact .inr (.inr (.inl h))
theorem bytes_eq {a b : ByteArray} (h : a.toList = b.toList) : a = b := by
  rw [ByteArray.toList_eq, ByteArray.toList_eq] at h
  cases a; cases b
  simp only at h
  congr 1
  exact Array.toList_inj.1 h
theorem sLt_irrefl (a : ByteArray) : sLt a a = false := bl_irrefl _
theorem sLt_trans {a b c : ByteArray} (h : sLt a b = true) (k : sLt b c = true) : sLt a c = true := bl_trans _ _ _ h k
theorem sLt_total (a b : ByteArray) : sLt a b = true ∨ a = b ∨ sLt b a = true := by
  rcases bl_total a.toList b.toList with h | h | h
  · exact .inl h
  · exact .inr (.inl (bytes_eq h))
  · exact .inr (.inr h)
def cmpI (a b : ByteArray) : Int := if sLt a b = true then -1 else if a = b then 0 else 1
abbrev Bd := ByteArray × Tm
def encB (b : Bd) : List SV := [.str b.1, .str b.2.name, .list (b.2.args.map encT)]
abbrev aBds (l : List Bd) : AV := .one (.st (.list (l.map encB)))
abbrev aBd (b : Bd) : AV := .agg [.st (.str b.1), .st (.str b.2.name), .st (.list (b.2.args.map encT))]
instance : Lens encB 3 := ⟨fun _ => rfl⟩
theorem lens_encB {ts : List Bd} : ∀ x ∈ ts.map encB, x.length = 3 := by
  intro x hx
  obtain ⟨a, _, rfl⟩ := List.mem_map.1 hx
  rfl
theorem drop_get {α : Type} {xs : List α} {k : Nat} {a : α} (h : xs[k]? = some a) : xs.drop k = a :: xs.drop (k + 1) := by
  have hk := lt_of_get h
  rw [List.getElem?_eq_getElem hk] at h
  rw [List.drop_eq_getElem_cons hk]
  simp at h
  rw [h]
def Ordered (l : List Bd) : Prop := l.Pairwise fun a b => sLt a.1 b.1 = true
def lookup (l : List Bd) (n : ByteArray) : Option Tm := (l.find? fun b => decide (b.1 = n)).map (·.2)
theorem lookup_none {l : List Bd} {n : ByteArray} (h : ∀ b ∈ l, b.1 ≠ n) : lookup l n = none := by
  unfold lookup
  rw [List.find?_eq_none.2 (fun b hb => by simpa using h b hb)]
  rfl
theorem lookup_take {l : List Bd} {n : ByteArray} {k : Nat} {b : Bd} (hk : l[k]? = some b) (hb : b.1 = n) (h : ∀ c ∈ l.take k, c.1 ≠ n) : lookup l n = some b.2 := by
  unfold lookup
  rw [← List.take_append_drop k l, List.find?_append, List.find?_eq_none.2 (fun c hc => by simpa using h c hc), drop_get hk]
  simp [hb]
theorem lookup_mem {l : List Bd} {n : ByteArray} {x : Tm} (h : lookup l n = some x) : ∃ b ∈ l, b.1 = n ∧ b.2 = x := by
  unfold lookup at h
  rw [Option.map_eq_some_iff] at h
  obtain ⟨b, h1, h2⟩ := h
  exact ⟨b, List.mem_of_find?_eq_some h1, by simpa using List.find?_some h1, h2⟩
theorem ordered_get {l : List Bd} (h : Ordered l) {i j : Nat} {a b : Bd} (hi : l[i]? = some a) (hj : l[j]? = some b) (hij : i < j) : sLt a.1 b.1 = true := by
  have h1 := List.pairwise_iff_getElem.1 h
  obtain ⟨hi1, hi2⟩ := List.getElem?_eq_some_iff.1 hi
  obtain ⟨hj1, hj2⟩ := List.getElem?_eq_some_iff.1 hj
  have := h1 i j hi1 hj1 hij
  rw [hi2, hj2] at this
  exact this
mutual
def Tm.on (s : List Bd) : Tm → Tm
  | .mk n xs => match (if xs.isEmpty then lookup s n else none) with
    | some x => x
    | none => .mk n (Tm.onL s xs)
def Tm.onL (s : List Bd) : List Tm → List Tm
  | [] => []
  | t :: ts => t.on s :: Tm.onL s ts
end
theorem Tm.onL_eq (s : List Bd) : ∀ ts : List Tm, Tm.onL s ts = ts.map (Tm.on s)
  | [] => rfl
  | t :: ts => by rw [Tm.onL, Tm.onL_eq s ts]; rfl
theorem Tm.on_leaf {s : List Bd} {t x : Tm} (h : lookup s t.name = some x) (h0 : t.args = []) : t.on s = x := by
  cases t with
  | mk n xs =>
    simp only [Tm.name_mk, Tm.args_mk] at h h0
    subst h0
    simp [Tm.on, h]
theorem Tm.on_knot {s : List Bd} {t : Tm} (h : lookup s t.name = none ∨ t.args ≠ []) : t.on s = .mk t.name (t.args.map (Tm.on s)) := by
  cases t with
  | mk n xs =>
    simp only [Tm.name_mk, Tm.args_mk] at h ⊢
    rw [← Tm.onL_eq]
    rcases h with h | h
    · simp [Tm.on, h]
    · cases xs with
      | nil => exact absurd rfl h
      | cons y ys => simp [Tm.on]
theorem Tm.chk_args {t : Tm} (h : t.chk = 0) : (isVar t.name = true → t.args = []) ∧ ∀ a ∈ t.args, a.chk = 0 := by
  have hc := Tm.chk_eq t
  rw [h] at hc
  by_cases h1 : chkOne t = 0
  · rw [if_pos h1] at hc
    have key : ∀ {xs : List Tm}, Tm.chkL xs = 0 → ∀ a ∈ xs, a.chk = 0 := by
      intro xs
      induction xs with
      | nil => simp
      | cons x xs ih =>
        intro hx a ha
        simp only [Tm.chkL] at hx
        split at hx
        · rename_i h2
          rcases List.mem_cons.1 ha with rfl | ha
          · exact h2
          · exact ih hx a ha
        · rename_i h2
          exact absurd hx h2
    refine ⟨fun hv => ?_, key hc.symm⟩
    unfold chkOne at h1
    split at h1
    · split at h1
      · cases h1
      · rename_i h2
        simp only [hv, true_and, Nat.not_lt, Nat.le_zero] at h2
        exact List.eq_nil_of_length_eq_zero h2
    · cases h1
  · rw [if_neg h1] at hc
    exact absurd hc.symm h1
end Go.Proofs.YtehnjhkndbcmgaaGreatDoor

namespace Go.Proofs.YtehnjhkndbcmgaaGreatDoor
open Go Go.RowKit
set_option linter.unusedVariables false
def insB (b : Bd) : List Bd → List Bd
  | [] => [b]
  | c :: l => if sLt b.1 c.1 = true then b :: c :: l else c :: insB b l
def sortB (l : List Bd) : List Bd := l.foldl (fun acc b => insB b acc) []
def Named (l : List Bd) : Prop := (l.map (·.1)).Nodup
theorem insB_perm (b : Bd) : ∀ l : List Bd, (insB b l).Perm (b :: l)
  | [] => List.Perm.refl _
  | c :: l => by
    unfold insB
    split
    · exact List.Perm.refl _
    · exact ((insB_perm b l).cons c).trans (List.Perm.swap b c l)
theorem insB_ordered {b : Bd} : ∀ {l : List Bd}, Ordered l → (∀ c ∈ l, c.1 ≠ b.1) → Ordered (insB b l)
  | [], _, _ => List.pairwise_cons.2 ⟨by simp, List.Pairwise.nil⟩
  | c :: l, ho, hn => by
    obtain ⟨o1, o2⟩ := List.pairwise_cons.1 ho
    unfold insB
    split
    · rename_i h
      exact List.pairwise_cons.2 ⟨fun x hx => by
        rcases List.mem_cons.1 hx with rfl | hx
        · exact h
        · exact sLt_trans h (o1 x hx), ho⟩
    · rename_i h
      refine List.pairwise_cons.2 ⟨fun x hx => ?_, insB_ordered o2 fun x hx => hn x (by simp [hx])⟩
      rcases List.mem_cons.1 ((insB_perm b l).mem_iff.1 hx) with rfl | hx
      · rcases sLt_total c.1 x.1 with k | k | k
        · exact k
        · exact absurd k (hn c (by simp))
        · exact absurd k h
      · exact o1 x hx
theorem sortB_snoc (l : List Bd) (b : Bd) : sortB (l ++ [b]) = insB b (sortB l) := by unfold sortB; rw [List.foldl_append]; rfl
theorem foldl_ins_perm : ∀ (l acc : List Bd), (l.foldl (fun acc b => insB b acc) acc).Perm (l ++ acc)
  | [], acc => List.Perm.refl _
  | b :: l, acc => by
    rw [List.foldl_cons]
    refine (foldl_ins_perm l _).trans ?_
    refine ((insB_perm b acc).append_left l).trans ?_
    exact List.perm_middle
theorem sortB_perm (l : List Bd) : (sortB l).Perm l := by
  have := foldl_ins_perm l []
  rw [List.append_nil] at this
  exact this
theorem foldl_ins_ordered : ∀ (l acc : List Bd), Ordered acc → Named (acc ++ l) → Ordered (l.foldl (fun acc b => insB b acc) acc)
  | [], acc, ho, _ => ho
  | b :: l, acc, ho, hn => by
    rw [List.foldl_cons]
    have hp : (acc ++ b :: l).Perm (insB b acc ++ l) := (List.perm_middle).trans (by rw [← List.cons_append]; exact ((insB_perm b acc).symm.append_right l))
    refine foldl_ins_ordered l _ (insB_ordered ho fun c hc e => ?_) ((hp.map _).nodup_iff.1 hn)
    unfold Named at hn
    rw [List.map_append, List.nodup_append] at hn
    exact hn.2.2 _ (List.mem_map.2 ⟨c, hc, rfl⟩) _ (by simp) e
theorem sortB_ordered {l : List Bd} (hn : Named l) : Ordered (sortB l) := foldl_ins_ordered l [] List.Pairwise.nil (by simpa using hn)
theorem ordered_named {l : List Bd} (ho : Ordered l) : Named l := by
  unfold Named
  rw [List.nodup_iff_pairwise_ne, List.pairwise_map]
  exact ho.imp fun {a b} h e => by rw [e, sLt_irrefl] at h; cases h
theorem ordered_unique : ∀ {l m : List Bd}, Ordered l → Ordered m → l.Perm m → l = m
  | [], m, _, _, h => (List.nil_perm.1 h).symm
  | a :: l, [], _, _, h => absurd h.length_eq (by simp)
  | a :: l, c :: m, hl, hm, h => by
    obtain ⟨l1, l2⟩ := List.pairwise_cons.1 hl
    obtain ⟨m1, m2⟩ := List.pairwise_cons.1 hm
    have e : a = c := by
      rcases List.mem_cons.1 (h.mem_iff.1 (List.mem_cons_self)) with e | e
      · exact e
      · rcases List.mem_cons.1 (h.mem_iff.2 (List.mem_cons_self)) with e2 | e2
        · exact e2.symm
        · have := sLt_trans (m1 a e) (l1 c e2)
          rw [sLt_irrefl] at this
          cases this
    subst e
    rw [ordered_unique l2 m2 (List.Perm.cons_inv h)]
theorem sortB_mem {l : List Bd} {b : Bd} : b ∈ sortB l ↔ b ∈ l := (sortB_perm l).mem_iff
theorem sortB_length (l : List Bd) : (sortB l).length = l.length := (sortB_perm l).length_eq
theorem named_perm {l m : List Bd} (h : l.Perm m) (hn : Named l) : Named m := ((h.map _).nodup_iff).1 hn
end Go.Proofs.YtehnjhkndbcmgaaGreatDoor

namespace Go.Proofs.YtehnjhkndbcmgaaGreatDoor
open Go Go.RowKit
set_option linter.unusedVariables false
end Go.Proofs.YtehnjhkndbcmgaaGreatDoor

namespace Go.Proofs.YtehnjhkndbcmgaaGreatDoor
open Go Go.RowKit
set_option linter.unusedVariables false
theorem lookup_nil (y : ByteArray) : lookup [] y = none := rfl
theorem lookup_cons (b : Bd) (l : List Bd) (y : ByteArray) : lookup (b :: l) y = if b.1 = y then some b.2 else lookup l y := by
  unfold lookup
  by_cases h : b.1 = y
  · rw [List.find?_cons_of_pos (by simpa using h), if_pos h]; rfl
  · rw [List.find?_cons_of_neg (by simpa using h), if_neg h]
theorem lookup_iff {l : List Bd} (hn : Named l) {y : ByteArray} {x : Tm} : lookup l y = some x ↔ (y, x) ∈ l := by
  induction l with
  | nil => simp [lookup_nil]
  | cons b l ih =>
    obtain ⟨n1, n2⟩ := List.nodup_cons.1 (show ((b :: l).map fun c : Bd => c.1).Nodup from hn)
    rw [lookup_cons, List.mem_cons]
    by_cases h : b.1 = y
    · rw [if_pos h]
      constructor
      · intro e
        cases e
        exact .inl (by rw [← h])
      · rintro (e | e)
        · rw [← e]
        · exact absurd (List.mem_map.2 ⟨(y, x), e, rfl⟩) (by subst h; exact n1)
    · rw [if_neg h, ih n2]
      constructor
      · exact .inr
      · rintro (e | e)
        · exact absurd (by rw [← e]) h
        · exact e
theorem lookup_append (y : ByteArray) (m : List Bd) : ∀ l : List Bd, lookup (l ++ m) y = match lookup l y with | some x => some x | none => lookup m y
  | [] => rfl
  | b :: l => by
    rw [List.cons_append, lookup_cons, lookup_cons, lookup_append y m l]
    by_cases h : b.1 = y
    · rw [if_pos h, if_pos h]
    · rw [if_neg h, if_neg h]
end Go.Proofs.YtehnjhkndbcmgaaGreatDoor

namespace Go.Proofs.YtehnjhkndbcmgaaGreatDoor
open Go Go.RowKit
set_option maxRecDepth 100000
def ir_term_Variable : IR :=
  (.seq (.ops [.i 2 (.mov (.c (.one (.st (.bool false)))))]) (.seq (.ops [.i 3 (.mov (.t 0)), .i 4 (.bin .neq (.t 3) (.c (.one (.st (.str (ByteArray.mk (#[]))))))), .i 5 (.mov (.t 4)), .mk (some 6) (some (5, true)) (.mov (.t 0)) .no, .mk (some 7) (some (5, true)) (.indexStr (.t 6) (.n 0)) .no, .mk (some 8) (some (5, true)) (.bin .geq (.t 7) (.c (.one (.st (.int .u8 65))))) .no, .i 9 (.pick (.t 5) (.t 8) (.c (.one (.st (.bool false))))), .i 10 (.mov (.t 9)), .mk (some 11) (some (10, true)) (.mov (.t 0)) .no, .mk (some 12) (some (10, true)) (.indexStr (.t 11) (.n 0)) .no, .mk (some 13) (some (10, true)) (.bin .leq (.t 12) (.c (.one (.st (.int .u8 90))))) .no, .i 14 (.pick (.t 10) (.t 13) (.c (.one (.st (.bool false))))), .i 2 (.mov (.t 14))]) .ret))
theorem tr_term_Variable : trCode Tryz.prog 15 [] (Tryz.f81.body.getD .skip) = some ir_term_Variable := by kernel_rfl
theorem ac_term_Variable {xs : List AV} {r : AV} (hn : xs.length ≤ 15) (h : ∀ C : Ctx, C.n = 15 → IWP Tryz.prog C [] ir_term_Variable (FinQ [.t 2] r) (AS.start xs)) : ACalls Tryz.prog 81 xs r :=
  acalls_of Tryz.func81 rfl tr_term_Variable rfl hn h
def ir_R_IsVar : IR :=
  (.seq (.ops [.i 2 (.mov (.c (.one (.st (.bool false)))))]) (.seq (.ops [.i 3 (.mov (.t 0)), .i 4 (.bin .neq (.t 3) (.c (.one (.st (.str (ByteArray.mk (#[]))))))), .i 5 (.mov (.t 4)), .mk (some 6) (some (5, true)) (.mov (.t 0)) .no, .mk (some 7) (some (5, true)) (.indexStr (.t 6) (.n 0)) .no, .mk (some 8) (some (5, true)) (.bin .geq (.t 7) (.c (.one (.st (.int .u8 65))))) .no, .i 9 (.pick (.t 5) (.t 8) (.c (.one (.st (.bool false))))), .i 10 (.mov (.t 9)), .mk (some 11) (some (10, true)) (.mov (.t 0)) .no, .mk (some 12) (some (10, true)) (.indexStr (.t 11) (.n 0)) .no, .mk (some 13) (some (10, true)) (.bin .leq (.t 12) (.c (.one (.st (.int .u8 90))))) .no, .i 14 (.pick (.t 10) (.t 13) (.c (.one (.st (.bool false))))), .i 2 (.mov (.t 14))]) .ret))
theorem tr_R_IsVar : trCode Tryz.prog 15 [] (Tryz.f69.body.getD .skip) = some ir_R_IsVar := by kernel_rfl
theorem ac_R_IsVar {xs : List AV} {r : AV} (hn : xs.length ≤ 15) (h : ∀ C : Ctx, C.n = 15 → IWP Tryz.prog C [] ir_R_IsVar (FinQ [.t 2] r) (AS.start xs)) : ACalls Tryz.prog 69 xs r :=
  acalls_of Tryz.func69 rfl tr_R_IsVar rfl hn h
def ir_R_Size : IR :=
  (.seq (.ops [.i 2 (.box 69 (.t 0)), .i 4 (.mov (.n 0))]) (.seq (.ops [.i 5 (.mov (.n 1))]) (.seq (.seq (.ops [.i 6 (.mov (.n 0))]) (.block 0 (.loop (.seq (.seq (.ops [.i 7 (.mov (.t 6)), .i 8 (.fieldAddr 1 (.t 2)), .i 9 (.load false 1 (.t 8)), .i 10 (.len false (.t 9)), .i 11 (.bin .lss (.t 7) (.t 10)), .i 12 (.mov (.t 11)), .mk (some 13) (some (12, true)) (.mov (.t 5)) .no, .mk (some 14) (some (12, true)) (.mov (.t 1)) .no, .mk (some 15) (some (12, true)) (.bin .leq (.t 13) (.t 14)) .no, .i 16 (.pick (.t 12) (.t 15) (.c (.one (.st (.bool false)))))]) (.cond (.t 16) .skip (.exit 0))) (.seq (.block 1 (.ops [.i 19 (.mov (.t 5)), .i 20 (.fieldAddr 1 (.t 2)), .i 21 (.load false 1 (.t 20)), .i 22 (.mov (.t 6)), .i 23 (.indexAddr 2 (.t 21) (.t 22)), .i 24 (.load true 2 (.t 23)), .i 25 (.mov (.t 1)), .i 26 (.mov (.t 5)), .i 27 (.bin .sub (.t 25) (.t 26)), .i 28 (.call 105 [.t 24, .t 27]), .i 29 (.bin .add (.t 19) (.t 28)), .i 5 (.mov (.t 29))])) (.ops [.i 17 (.mov (.t 6)), .i 18 (.bin .add (.t 17) (.n 1)), .i 6 (.mov (.t 18))])))))) (.seq (.seq (.ops [.i 30 (.mov (.t 5)), .i 31 (.mov (.t 1)), .i 32 (.bin .gtr (.t 30) (.t 31))]) (.cond (.t 32) (.seq (.ops [.i 33 (.mov (.t 1)), .i 34 (.bin .add (.t 33) (.n 1)), .i 4 (.mov (.t 34))]) .ret) .skip)) (.seq (.ops [.i 35 (.mov (.t 5)), .i 4 (.mov (.t 35))]) .ret)))))
theorem tr_R_Size : trCode Tryz.prog 36 [] (Tryz.f105.body.getD .skip) = some ir_R_Size := by kernel_rfl
theorem ac_R_Size {xs : List AV} {r : AV} (hn : xs.length ≤ 36) (h : ∀ C : Ctx, C.n = 36 → IWP Tryz.prog C [] ir_R_Size (FinQ [.t 4] r) (AS.start xs)) : ACalls Tryz.prog 105 xs r :=
  acalls_of Tryz.func105 rfl tr_R_Size rfl hn h
def ir_R_Knots : IR :=
  (.seq (.ops [.i 1 (.box 69 (.t 0)), .i 2 (.mov (.c (.one (.full []))))]) (.seq (.ops [.i 5 (.load true 2 (.t 1)), .i 6 (.buildSlice false 69 2 [.t 5]), .i 3 (.mov (.t 6))]) (.seq (.seq (.ops [.i 4 (.mov (.n 0))]) (.block 0 (.loop (.seq (.seq (.ops [.i 7 (.mov (.t 4)), .i 8 (.fieldAddr 1 (.t 1)), .i 9 (.load false 1 (.t 8)), .i 10 (.len false (.t 9)), .i 11 (.bin .lss (.t 7) (.t 10))]) (.cond (.t 11) .skip (.exit 0))) (.seq (.block 1 (.ops [.i 14 (.mov (.t 3)), .i 15 (.fieldAddr 1 (.t 1)), .i 16 (.load false 1 (.t 15)), .i 17 (.mov (.t 4)), .i 18 (.indexAddr 2 (.t 16) (.t 17)), .i 19 (.load true 2 (.t 18)), .i 20 (.call 74 [.t 19]), .i 21 (.append false 69 2 40 (.t 14) (.t 20)), .i 3 (.mov (.t 21))])) (.ops [.i 12 (.mov (.t 4)), .i 13 (.bin .add (.t 12) (.n 1)), .i 4 (.mov (.t 13))])))))) (.seq (.ops [.i 22 (.mov (.t 3)), .i 2 (.mov (.t 22))]) .ret))))
theorem tr_R_Knots : trCode Tryz.prog 23 [] (Tryz.f74.body.getD .skip) = some ir_R_Knots := by kernel_rfl
theorem ac_R_Knots {xs : List AV} {r : AV} (hn : xs.length ≤ 23) (h : ∀ C : Ctx, C.n = 23 → IWP Tryz.prog C [] ir_R_Knots (FinQ [.t 2] r) (AS.start xs)) : ACalls Tryz.prog 74 xs r :=
  acalls_of Tryz.func74 rfl tr_R_Knots rfl hn h
def ir_R_In : IR :=
  (.seq (.ops [.i 4 (.mov (.c (.one (.st (.bool false)))))]) (.seq (.seq (.ops [.i 5 (.mov (.n 0))]) (.block 0 (.loop (.seq (.seq (.ops [.i 6 (.mov (.t 5)), .i 7 (.mov (.t 1)), .i 8 (.len false (.t 7)), .i 9 (.bin .lss (.t 6) (.t 8))]) (.cond (.t 9) .skip (.exit 0))) (.seq (.block 1 (.seq (.ops [.i 12 (.mov (.t 1)), .i 13 (.mov (.t 5)), .i 14 (.indexAddr 1 (.t 12) (.t 13)), .i 15 (.load false 1 (.t 14)), .i 16 (.mov (.t 0)), .i 17 (.bin .eql (.t 15) (.t 16))]) (.cond (.t 17) (.seq (.ops [.i 4 (.mov (.c (.one (.st (.bool true)))))]) .ret) .skip))) (.ops [.i 10 (.mov (.t 5)), .i 11 (.bin .add (.t 10) (.n 1)), .i 5 (.mov (.t 11))])))))) (.seq (.ops [.i 4 (.mov (.c (.one (.st (.bool false)))))]) .ret)))
theorem tr_R_In : trCode Tryz.prog 18 [] (Tryz.f70.body.getD .skip) = some ir_R_In := by kernel_rfl
theorem ac_R_In {xs : List AV} {r : AV} (hn : xs.length ≤ 18) (h : ∀ C : Ctx, C.n = 18 → IWP Tryz.prog C [] ir_R_In (FinQ [.t 4] r) (AS.start xs)) : ACalls Tryz.prog 70 xs r :=
  acalls_of Tryz.func70 rfl tr_R_In rfl hn h
def ir_R_VarsOf : IR :=
  (.seq (.ops [.i 1 (.box 69 (.t 0)), .i 2 (.mov (.c (.one (.full []))))]) (.seq (.ops [.i 6 (.load true 2 (.t 1)), .i 7 (.call 74 [.t 6]), .i 3 (.mov (.t 7))]) (.seq (.ops [.i 4 (.mov (.c (.one (.full []))))]) (.seq (.seq (.ops [.i 5 (.mov (.n 0))]) (.block 0 (.loop (.seq (.seq (.ops [.i 8 (.mov (.t 5)), .i 9 (.mov (.t 3)), .i 10 (.len false (.t 9)), .i 11 (.bin .lss (.t 8) (.t 10))]) (.cond (.t 11) .skip (.exit 0))) (.seq (.block 1 (.seq (.ops [.i 14 (.mov (.t 3)), .i 15 (.mov (.t 5)), .i 16 (.indexAddr 2 (.t 14) (.t 15)), .i 17 (.fieldAddr 0 (.t 16)), .i 18 (.load false 1 (.t 17)), .i 19 (.call 69 [.t 18]), .i 20 (.mov (.t 19)), .mk (some 21) (some (20, true)) (.mov (.t 3)) .no, .mk (some 22) (some (20, true)) (.mov (.t 5)) .no, .mk (some 23) (some (20, true)) (.indexAddr 2 (.t 21) (.t 22)) .no, .mk (some 24) (some (20, true)) (.fieldAddr 0 (.t 23)) .no, .mk (some 25) (some (20, true)) (.load false 1 (.t 24)) .no, .mk (some 26) (some (20, true)) (.mov (.t 4)) .no, .mk (some 27) (some (20, true)) (.call 70 [.t 25, .t 26]) .no, .mk (some 28) (some (20, true)) (.un .not (.t 27)) .no, .i 29 (.pick (.t 20) (.t 28) (.c (.one (.st (.bool false)))))]) (.cond (.t 29) (.ops [.i 30 (.mov (.t 4)), .i 31 (.mov (.t 3)), .i 32 (.mov (.t 5)), .i 33 (.indexAddr 2 (.t 31) (.t 32)), .i 34 (.fieldAddr 0 (.t 33)), .i 35 (.load false 1 (.t 34)), .i 36 (.buildFlat [.t 35]), .i 37 (.append false 9 1 16 (.t 30) (.t 36)), .i 4 (.mov (.t 37))]) .skip))) (.ops [.i 12 (.mov (.t 5)), .i 13 (.bin .add (.t 12) (.n 1)), .i 5 (.mov (.t 13))])))))) (.seq (.ops [.i 38 (.mov (.t 4)), .i 2 (.mov (.t 38))]) .ret)))))
theorem tr_R_VarsOf : trCode Tryz.prog 39 [] (Tryz.f41.body.getD .skip) = some ir_R_VarsOf := by kernel_rfl
theorem ac_R_VarsOf {xs : List AV} {r : AV} (hn : xs.length ≤ 39) (h : ∀ C : Ctx, C.n = 39 → IWP Tryz.prog C [] ir_R_VarsOf (FinQ [.t 2] r) (AS.start xs)) : ACalls Tryz.prog 41 xs r :=
  acalls_of Tryz.func41 rfl tr_R_VarsOf rfl hn h
def ir_term_Copy : IR :=
  (.seq (.ops [.i 1 (.box 69 (.t 0)), .i 2 (.alloc 69 [.st (.str (ByteArray.mk (#[]))), .full []])]) (.seq (.ops [.i 6 (.fieldAddr 0 (.t 1)), .i 7 (.load false 1 (.t 6)), .i 8 (.build [.st (.str (ByteArray.mk (#[]))), .full []] [(0, 1, .t 7)]), .i 3 (.alloc 69 [.st (.str (ByteArray.mk (#[]))), .full []]), .mk none none (.store 2 (.t 3) (.t 8)) .no]) (.seq (.seq (.ops [.i 9 (.fieldAddr 1 (.t 1)), .i 10 (.load false 1 (.t 9)), .i 11 (.len false (.t 10)), .i 12 (.mov (.n 0))]) (.block 0 (.loop (.seq (.ops [.i 13 (.bin .lss (.t 12) (.t 11))]) (.seq (.cond (.t 13) .skip (.exit 0)) (.seq (.block 1 (.seq (.ops [.i 14 (.indexAddr 2 (.t 10) (.t 12)), .i 15 (.load true 2 (.t 14)), .i 5 (.alloc 69 [.st (.str (ByteArray.mk (#[]))), .full []]), .mk none none (.store 2 (.t 5) (.t 15)) .no]) (.ops [.i 16 (.fieldAddr 1 (.t 3)), .i 17 (.load false 1 (.t 16)), .i 18 (.load true 2 (.t 5)), .i 19 (.call 86 [.t 18]), .i 20 (.buildSlice false 69 2 [.t 19]), .i 21 (.append false 69 2 40 (.t 17) (.t 20)), .i 22 (.fieldAddr 1 (.t 3)), .mk none none (.store 1 (.t 22) (.t 21)) .no]))) (.ops [.i 23 (.bin .add (.t 12) (.n 1)), .i 12 (.mov (.t 23))]))))))) (.seq (.ops [.i 24 (.load true 2 (.t 3)), .mk none none (.store 2 (.t 2) (.t 24)) .no]) .ret))))
theorem tr_term_Copy : trCode Tryz.prog 25 [] (Tryz.f86.body.getD .skip) = some ir_term_Copy := by kernel_rfl
theorem ac_term_Copy {xs : List AV} {r : AV} (hn : xs.length ≤ 25) (h : ∀ C : Ctx, C.n = 25 → IWP Tryz.prog C [] ir_term_Copy (FinQ [.cell 2 true 2] r) (AS.start xs)) : ACalls Tryz.prog 86 xs r :=
  acalls_of Tryz.func86 rfl tr_term_Copy rfl hn h
end Go.Proofs.YtehnjhkndbcmgaaGreatDoor
