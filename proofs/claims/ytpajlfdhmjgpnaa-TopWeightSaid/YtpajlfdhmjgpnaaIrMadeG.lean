/-
  The program's functions in abstract operations: written by a program of mine out of the translation; each is shown to be the translation's.
  Conditions: none.
-/
import Derived.Test.YtpajlfdhmjgpnaaBRawT
namespace Go.Proofs.Ytpajlfdhmjgpnaa
open Go Go.RowKit
set_option maxRecDepth 100000

def ir_R_RowFrom : IR :=
  (.seq
  (.ops
  [.mk (some 2) none (.mov (.c (.one (.full []))))
  .no])
  (.seq
  (.ops
  [.mk (some 4) none
  (.buildFlat
  [.c (.one (.st (.str (ByteArray.mk (#[97]))))), .c (.one (.st (.str (ByteArray.mk (#[98]))))), .c (.one (.st (.str (ByteArray.mk (#[99]))))), .c (.one (.st (.str (ByteArray.mk (#[104]))))), .c (.one (.st (.str (ByteArray.mk (#[107]))))), .c (.one (.st (.str (ByteArray.mk (#[102]))))), .c (.one (.st (.str (ByteArray.mk (#[103])))))])
  .no, .mk (some 5) none
  (.buildFlat
  [.c (.one (.st (.str (ByteArray.mk (#[103]))))), .c (.one (.st (.str (ByteArray.mk (#[102]))))), .c (.one (.st (.str (ByteArray.mk (#[107]))))), .c (.one (.st (.str (ByteArray.mk (#[104]))))), .c (.one (.st (.str (ByteArray.mk (#[99]))))), .c (.one (.st (.str (ByteArray.mk (#[98]))))), .c (.one (.st (.str (ByteArray.mk (#[97])))))])
  .no, .mk (some 6) none
  (.buildFlat
  [.c (.one (.st (.str (ByteArray.mk (#[102]))))), .c (.one (.st (.str (ByteArray.mk (#[104])))))])
  .no, .mk (some 7) none
  (.buildFlat
  [.c (.one (.st (.str (ByteArray.mk (#[101]))))), .c (.one (.st (.str (ByteArray.mk (#[102]))))), .c (.one (.st (.str (ByteArray.mk (#[105])))))])
  .no, .mk (some 8) none
  (.buildFlat
  [.c (.one (.st (.str (ByteArray.mk (#[99]))))), .c (.one (.st (.str (ByteArray.mk (#[97]))))), .c (.one (.st (.str (ByteArray.mk (#[107]))))), .c (.one (.st (.str (ByteArray.mk (#[104]))))), .c (.one (.st (.str (ByteArray.mk (#[103]))))), .c (.one (.st (.str (ByteArray.mk (#[102])))))])
  .no, .mk (some 9) none
  (.buildSlice false 48 1
  [.t 4, .t 5, .t 6, .c (.one (.full [])), .t 7, .t 8])
  .no, .mk (some 3) none (.mov (.t 9)) .no])
  (.seq
  (.ops
  [.mk (some 10) none (.mov (.t 3)) .no, .mk (some 11) none (.mov (.t 0)) .no, .mk (some 12) none (.mov (.t 3)) .no, .mk (some 13) none (.len false (.t 12)) .no, .mk (some 14) none (.call 20 [.t 11, .t 13]) .no, .mk (some 15) none (.indexAddr 1 (.t 10) (.t 14)) .no, .mk (some 16) none (.load false 1 (.t 15)) .no, .mk (some 2) none (.mov (.t 16)) .no])
  .ret)))
theorem tr_R_RowFrom : trCode Try.prog 17 [] (Try.f34.body.getD .skip) = some ir_R_RowFrom := by kernel_rfl
theorem ac_R_RowFrom {xs : List AV} {r : AV} (hn : xs.length ≤ 17) (h : ∀ C : Ctx, C.n = 17 → IWP Try.prog C [] ir_R_RowFrom (FinQ [.t 2] r) (AS.start xs)) : ACalls Try.prog 34 xs r :=
  acalls_of Try.func34 rfl tr_R_RowFrom rfl hn h
theorem acS_R_RowFrom {xs : List AV} {S S' : AStore} {r : AV} (hn : xs.length ≤ 17) (h : Clean S → ∀ C : Ctx, C.n = 17 → IWP Try.prog C [] ir_R_RowFrom (FinS C [.t 2] r S') (AS.startS xs S)) : ACallsS Try.prog 34 xs S r S' :=
  acallsS_of Try.func34 rfl tr_R_RowFrom rfl hn h

def ir_R_Ground : IR :=
  (.seq
  (.ops
  [.mk (some 6) none
  (.alloc 24 [.st (.str (ByteArray.mk (#[]))), .full []]) .no, .mk (some 7) none (.mov (.c (.one (.st (.int .i64 0)))))
  .no])
  (.seq
  (.ops
  [.mk (some 14) none (.mov (.t 0)) .no, .mk (some 15) none (.mov (.t 1)) .no, .mk (some 16) none (.call 46 [.t 14, .t 15]) .no, .mk (some 8) none (.mov (.t 16)) .no])
  (.seq
  (.ops
  [.mk (some 17) none (.mov (.t 1)) .no, .mk (some 18) none (.bin .add (.t 17) (.c (.one (.st (.int .i64 1)))))
  .no, .mk (some 1) none (.mov (.t 18)) .no])
  (.seq
  (.seq
  (.ops
  [.mk (some 19) none (.mov (.t 2)) .no, .mk (some 20) none (.bin .lss (.t 19) (.c (.one (.st (.int .i64 3)))))
  .no, .mk (some 21) none (.mov (.t 20)) .no, .mk (some 22) (some (21, false)) (.mov (.t 8)) .no, .mk (some 23) (some (21, false)) (.call 20
  [.t 22, .c (.one (.st (.int .i64 5)))])
  .no, .mk (some 24) (some (21, false)) (.bin .lss (.t 23) (.c (.one (.st (.int .i64 2)))))
  .no, .mk (some 25) none
  (.pick (.t 21) (.c (.one (.st (.bool true)))) (.t 24))
  .no])
  (.cond (.t 25)
  (.seq
  (.ops
  [.mk (some 26) none
  (.buildFlat
  [.c (.one (.st (.str (ByteArray.mk (#[97]))))), .c (.one (.st (.str (ByteArray.mk (#[98])))))])
  .no, .mk (some 27) none (.mov (.t 8)) .no, .mk (some 28) none (.bin .quo (.t 27) (.c (.one (.st (.int .i64 5)))))
  .no, .mk (some 29) none (.call 20
  [.t 28, .c (.one (.st (.int .i64 2)))])
  .no, .mk (some 30) none (.indexAddr 1 (.t 26) (.t 29))
  .no, .mk (some 31) none (.load false 1 (.t 30)) .no, .mk (some 32) none (.call 25 [.t 31]) .no, .mk (some 33) none (.mov (.t 1)) .no, .mk none none (.store 2 (.t 6) (.t 32)) .no, .mk (some 7) none (.mov (.t 33)) .no])
  .ret)
  .skip))
  (.seq
  (.seq
  (.ops
  [.mk (some 34) none (.mov (.t 8)) .no, .mk (some 35) none (.bin .quo (.t 34) (.c (.one (.st (.int .i64 5)))))
  .no, .mk (some 36) none (.call 20
  [.t 35, .c (.one (.st (.int .i64 2)))])
  .no, .mk (some 37) none (.bin .eql (.t 36) (.c (.one (.st (.int .i64 0)))))
  .no])
  (.cond (.t 37)
  (.seq
  (.ops
  [.mk (some 39) none (.mov (.t 0)) .no, .mk (some 40) none (.mov (.t 1)) .no, .mk (some 41) none (.mov (.t 2)) .no, .mk (some 42) none (.bin .sub (.t 41) (.c (.one (.st (.int .i64 1)))))
  .no, .mk (some 43) none (.call 35 [.t 39, .t 40, .t 42]) .no, .mk (some 38) none (.mov (.t 43)) .no, .mk (some 44) none (.extract 0 (.t 38)) .no, .mk (some 45) none (.extract 1 (.t 38)) .no, .mk (some 9) none
  (.alloc 24 [.st (.str (ByteArray.mk (#[]))), .full []])
  .no, .mk none none (.store 2 (.t 9) (.t 44)) .no, .mk (some 10) none (.mov (.t 45)) .no])
  (.seq
  (.ops
  [.mk (some 46) none (.load true 2 (.t 9)) .no, .mk (some 47) none (.buildSlice false 24 2 [.t 46]) .no, .mk (some 48) none
  (.build [.st (.str (ByteArray.mk (#[]))), .full []]
  [(0, 1, .c (.one (.st (.str (ByteArray.mk (#[104])))))),
  (1, 1, .t 47)])
  .no, .mk (some 49) none (.mov (.t 10)) .no, .mk none none (.store 2 (.t 6) (.t 48))
  .no, .mk (some 7) none (.mov (.t 49)) .no])
  .ret))
  .skip))
  (.seq
  (.ops
  [.mk (some 51) none (.mov (.t 0)) .no, .mk (some 52) none (.mov (.t 1)) .no, .mk (some 53) none (.mov (.t 2)) .no, .mk (some 54) none (.bin .quo (.t 53) (.c (.one (.st (.int .i64 2)))))
  .no, .mk (some 55) none (.call 35 [.t 51, .t 52, .t 54]) .no, .mk (some 50) none (.mov (.t 55)) .no, .mk (some 56) none (.extract 0 (.t 50)) .no, .mk (some 57) none (.extract 1 (.t 50)) .no, .mk (some 11) none
  (.alloc 24 [.st (.str (ByteArray.mk (#[]))), .full []])
  .no, .mk none none (.store 2 (.t 11) (.t 56)) .no, .mk (some 12) none (.mov (.t 57)) .no])
  (.seq
  (.ops
  [.mk (some 59) none (.mov (.t 0)) .no, .mk (some 60) none (.mov (.t 12)) .no, .mk (some 61) none (.mov (.t 2)) .no, .mk (some 62) none (.bin .quo (.t 61) (.c (.one (.st (.int .i64 2)))))
  .no, .mk (some 63) none (.call 35 [.t 59, .t 60, .t 62]) .no, .mk (some 58) none (.mov (.t 63)) .no, .mk (some 64) none (.extract 0 (.t 58)) .no, .mk (some 65) none (.extract 1 (.t 58)) .no, .mk (some 13) none
  (.alloc 24 [.st (.str (ByteArray.mk (#[]))), .full []])
  .no, .mk none none (.store 2 (.t 13) (.t 64)) .no, .mk (some 12) none (.mov (.t 65)) .no])
  (.seq
  (.ops
  [.mk (some 66) none (.load true 2 (.t 11)) .no, .mk (some 67) none (.load true 2 (.t 13)) .no, .mk (some 68) none (.buildSlice false 24 2 [.t 66, .t 67])
  .no, .mk (some 69) none
  (.build [.st (.str (ByteArray.mk (#[]))), .full []]
  [(0, 1, .c (.one (.st (.str (ByteArray.mk (#[102])))))),
  (1, 1, .t 68)])
  .no, .mk (some 70) none (.mov (.t 12)) .no, .mk none none (.store 2 (.t 6) (.t 69)) .no, .mk (some 7) none (.mov (.t 70)) .no])
  .ret))))))))
theorem tr_R_Ground : trCode Try.prog 71 [] (Try.f35.body.getD .skip) = some ir_R_Ground := by kernel_rfl
theorem ac_R_Ground {xs : List AV} {r : AV} (hn : xs.length ≤ 71) (h : ∀ C : Ctx, C.n = 71 → IWP Try.prog C [] ir_R_Ground (FinQ [.cell 6 true 2, .t 7] r) (AS.start xs)) : ACalls Try.prog 35 xs r :=
  acalls_of Try.func35 rfl tr_R_Ground rfl hn h
theorem acS_R_Ground {xs : List AV} {S S' : AStore} {r : AV} (hn : xs.length ≤ 71) (h : Clean S → ∀ C : Ctx, C.n = 71 → IWP Try.prog C [] ir_R_Ground (FinS C [.cell 6 true 2, .t 7] r S') (AS.startS xs S)) : ACallsS Try.prog 35 xs S r S' :=
  acallsS_of Try.func35 rfl tr_R_Ground rfl hn h

end Go.Proofs.Ytpajlfdhmjgpnaa
