/-
  Part 7 of the texts. Conditions: none.
-/
import Derived.Test.YtignopbnnaimaaaGreatDoorTWi6
namespace Go.Proofs.YtignopbnnaimaaaGreatDoor
open Go Go.RowKit
set_option maxRecDepth 100000
def Fm:IR :=
 (.seq (.ops [.i 2 (.mov (.c (.one (.st (.bool false)))))]) (.seq (.ops [.m 3 0,.i 4 (.bin .geq (.t 3) (.c (.one (.st (.int .u8 97))))),.m 5 4,.mk (some 6) (some (5,true)) (.mov (.t 0)) .no,.mk (some 7) (some (5,true)) (.bin .leq (.t 6) (.c (.one (.st (.int .u8 122))))) .no,.i 8 (.pick (.t 5) (.t 7) (.c (.one (.st (.bool false))))),.m 9 8,.mk (some 10) (some (9,false)) (.mov (.t 0)) .no,.mk (some 11) (some (9,false)) (.bin .geq (.t 10) (.c (.one (.st (.int .u8 65))))) .no,.mk (some 12) (some (9,false)) (.mov (.t 11)) .no,.mk (some 13) (some (12,true)) (.mov (.t 0)) .no,.mk (some 14) (some (12,true)) (.bin .leq (.t 13) (.c (.one (.st (.int .u8 90))))) .no,.mk (some 15) (some (9,false)) (.pick (.t 12) (.t 14) (.c (.one (.st (.bool false))))) .no,.i 16 (.pick (.t 9) (.c (.one (.st (.bool true)))) (.t 15)),.m 17 16,.mk (some 18) (some (17,false)) (.mov (.t 0)) .no,.mk (some 19) (some (17,false)) (.bin .geq (.t 18) (.c (.one (.st (.int .u8 48))))) .no,.mk (some 20) (some (17,false)) (.mov (.t 19)) .no,.mk (some 21) (some (20,true)) (.mov (.t 0)) .no,.mk (some 22) (some (20,true)) (.bin .leq (.t 21) (.c (.one (.st (.int .u8 57))))) .no,.mk (some 23) (some (17,false)) (.pick (.t 20) (.t 22) (.c (.one (.st (.bool false))))) .no,.i 24 (.pick (.t 17) (.c (.one (.st (.bool true)))) (.t 23)),.m 2 24]) .ret))
theorem Jm:OkF Tryz.prog 80 25 [] Fm [.t 2]:=.of Tryz.func80 rfl rfl (by kernel_rfl) rfl
def C2:IR :=
 (.seq (.ops [.i 2 (.mov (.c (.one (.st (.bool false)))))]) (.seq (.seq (.ops [.m 4 0,.i 5 (.len true (.t 4)),.i 6 (.bin .lss (.t 5) (.n 1)),.m 7 6,.mk (some 8) (some (7,false)) (.mov (.t 0)) .no,.mk (some 9) (some (7,false)) (.len true (.t 8)) .no,.mk (some 10) (some (7,false)) (.bin .gtr (.t 9) (.n 8)) .no,.i 11 (.pick (.t 7) (.c (.one (.st (.bool true)))) (.t 10)),.m 12 11,.mk (some 13) (some (12,false)) (.mov (.t 0)) .no,.mk (some 14) (some (12,false)) (.indexStr (.t 13) (.n 0)) .no,.mk (some 15) (some (12,false)) (.bin .geq (.t 14) (.c (.one (.st (.int .u8 48))))) .no,.mk (some 16) (some (12,false)) (.mov (.t 15)) .no,.mk (some 17) (some (16,true)) (.mov (.t 0)) .no,.mk (some 18) (some (16,true)) (.indexStr (.t 17) (.n 0)) .no,.mk (some 19) (some (16,true)) (.bin .leq (.t 18) (.c (.one (.st (.int .u8 57))))) .no,.mk (some 20) (some (12,false)) (.pick (.t 16) (.t 19) (.c (.one (.st (.bool false))))) .no,.i 21 (.pick (.t 12) (.c (.one (.st (.bool true)))) (.t 20))]) (.cond (.t 21) (.seq (.ops [.i 2 (.mov (.c (.one (.st (.bool false)))))]) .ret) .skip)) (.seq (.seq (.ops [.m 22 0,.i 23 (.len true (.t 22)),.i 24 (.mov (.n 0))]) (.block 0 (.loop (.seq (.ops [.i 25 (.bin .lss (.t 24) (.t 23))]) (.seq (.cond (.t 25) .skip (.exit 0)) (.seq (.block 1 (.seq (.ops [.m 26 24,.m 3 26]) (.seq (.ops [.m 27 0,.m 28 3,.i 29 (.indexStr (.t 27) (.t 28)),.i 30 (.call 80 [.t 29]),.i 31 (.un .not (.t 30))]) (.cond (.t 31) (.seq (.ops [.i 2 (.mov (.c (.one (.st (.bool false)))))]) .ret) .skip)))) (.ops [.i 32 (.bin .add (.t 24) (.n 1)),.m 24 32]))))))) (.seq (.ops [.i 2 (.mov (.c (.one (.st (.bool true)))))]) .ret))))
theorem Dj:OkF Tryz.prog 61 33 [] C2 [.t 2]:=.of Tryz.func61 rfl rfl (by kernel_rfl) rfl
def DI:IR :=
 (.seq (.ops [.i 2 (.mov (.c (.one (.st (.bool false)))))]) (.seq (.ops [.m 3 0,.i 4 (.bin .neq (.t 3) (.c (.one (.st (.str (ByteArray.mk (#[]))))))),.m 5 4,.mk (some 6) (some (5,true)) (.mov (.t 0)) .no,.mk (some 7) (some (5,true)) (.indexStr (.t 6) (.n 0)) .no,.mk (some 8) (some (5,true)) (.bin .geq (.t 7) (.c (.one (.st (.int .u8 65))))) .no,.i 9 (.pick (.t 5) (.t 8) (.c (.one (.st (.bool false))))),.m 10 9,.mk (some 11) (some (10,true)) (.mov (.t 0)) .no,.mk (some 12) (some (10,true)) (.indexStr (.t 11) (.n 0)) .no,.mk (some 13) (some (10,true)) (.bin .leq (.t 12) (.c (.one (.st (.int .u8 90))))) .no,.i 14 (.pick (.t 10) (.t 13) (.c (.one (.st (.bool false))))),.m 2 14]) .ret))
theorem Ec:OkF Tryz.prog 45 15 [] DI [.t 2]:=.of Tryz.func45 rfl rfl (by kernel_rfl) rfl
def Fp:IR :=
 (.seq (.ops [.i 2 (.box 30 (.t 0)),.i 4 (.mov (.n 0))]) (.seq (.ops [.m 7 1,.i 8 (.bin .sub (.t 7) (.n 1)),.m 1 8]) (.seq (.seq (.ops [.f 9 1 2,.l 10 9,.i 11 (.len false (.t 10)),.i 12 (.mov (.n 0))]) (.block 0 (.loop (.seq (.ops [.i 13 (.bin .lss (.t 12) (.t 11))]) (.seq (.cond (.t 13) .skip (.exit 0)) (.seq (.block 1 (.seq (.ops [.i 14 (.indexAddr 2 (.t 10) (.t 12)),.L 15 2 14,.i 6 (.alloc 30 [.st (.str (ByteArray.mk (#[]))),.full []]),.s 2 6 15]) (.seq (.seq (.ops [.m 16 1,.i 17 (.bin .lss (.t 16) (.n 0))]) (.cond (.t 17) (.exit 0) .skip)) (.ops [.L 18 2 6,.m 19 1,.i 20 (.call 71 [.t 18,.t 19]),.m 1 20])))) (.ops [.i 21 (.bin .add (.t 12) (.n 1)),.m 12 21]))))))) (.seq (.ops [.m 22 1,.m 4 22]) .ret))))
theorem Iw:OkF Tryz.prog 71 23 [] Fp [.t 4]:=.of Tryz.func71 rfl rfl (by kernel_rfl) rfl
def KW:IR :=
 (.seq (.ops [.i 2 (.box 30 (.t 0)),.i 4 (.mov (.n 0))]) (.seq (.ops [.i 5 (.mov (.n 1))]) (.seq (.seq (.ops [.i 6 (.mov (.n 0))]) (.block 0 (.loop (.seq (.seq (.ops [.m 7 6,.f 8 1 2,.l 9 8,.i 10 (.len false (.t 9)),.i 11 (.bin .lss (.t 7) (.t 10)),.m 12 11,.mk (some 13) (some (12,true)) (.mov (.t 5)) .no,.mk (some 14) (some (12,true)) (.mov (.t 1)) .no,.mk (some 15) (some (12,true)) (.bin .leq (.t 13) (.t 14)) .no,.i 16 (.pick (.t 12) (.t 15) (.c (.one (.st (.bool false)))))]) (.cond (.t 16) .skip (.exit 0))) (.seq (.block 1 (.ops [.m 19 5,.f 20 1 2,.l 21 20,.m 22 6,.i 23 (.indexAddr 2 (.t 21) (.t 22)),.L 24 2 23,.m 25 1,.m 26 5,.i 27 (.bin .sub (.t 25) (.t 26)),.i 28 (.call 8 [.t 24,.t 27]),.i 29 (.bin .add (.t 19) (.t 28)),.m 5 29])) (.ops [.m 17 6,.i 18 (.bin .add (.t 17) (.n 1)),.m 6 18])))))) (.seq (.seq (.ops [.m 30 5,.m 31 1,.i 32 (.bin .gtr (.t 30) (.t 31))]) (.cond (.t 32) (.seq (.ops [.m 33 1,.i 34 (.bin .add (.t 33) (.n 1)),.m 4 34]) .ret) .skip)) (.seq (.ops [.m 35 5,.m 4 35]) .ret)))))
theorem QP:OkF Tryz.prog 8 36 [] KW [.t 4]:=.of Tryz.func8 rfl rfl (by kernel_rfl) rfl
def GT:IR :=
 (.seq (.ops [.i 1 (.box 30 (.t 0)),.i 2 (.mov (.n 0))]) (.seq (.seq (.ops [.f 6 0 1,.l 7 6,.i 8 (.call 61 [.t 7]),.i 9 (.un .not (.t 8))]) (.cond (.t 9) (.seq (.ops [.i 2 (.mov (.n 1))]) .ret) .skip)) (.seq (.seq (.ops [.f 10 0 1,.l 11 10,.i 12 (.call 45 [.t 11]),.m 13 12,.mk (some 14) (some (13,true)) (.fieldAddr 1 (.t 1)) .no,.mk (some 15) (some (13,true)) (.load false 1 (.t 14)) .no,.mk (some 16) (some (13,true)) (.len false (.t 15)) .no,.mk (some 17) (some (13,true)) (.bin .gtr (.t 16) (.n 0)) .no,.i 18 (.pick (.t 13) (.t 17) (.c (.one (.st (.bool false)))))]) (.cond (.t 18) (.seq (.ops [.i 2 (.mov (.n 2))]) .ret) .skip)) (.seq (.seq (.ops [.f 19 1 1,.l 20 19,.i 21 (.len false (.t 20)),.i 22 (.mov (.n 0))]) (.block 0 (.loop (.seq (.ops [.i 23 (.bin .lss (.t 22) (.t 21))]) (.seq (.cond (.t 23) .skip (.exit 0)) (.seq (.block 1 (.seq (.ops [.i 24 (.indexAddr 2 (.t 20) (.t 22)),.L 25 2 24,.i 4 (.alloc 30 [.st (.str (ByteArray.mk (#[]))),.full []]),.s 2 4 25]) (.seq (.ops [.L 26 2 4,.i 27 (.call 72 [.t 26]),.m 5 27]) (.seq (.ops [.m 28 5,.i 29 (.bin .neq (.t 28) (.n 0))]) (.cond (.t 29) (.seq (.ops [.m 30 5,.m 2 30]) .ret) .skip))))) (.ops [.i 31 (.bin .add (.t 22) (.n 1)),.m 22 31]))))))) (.seq (.ops [.i 2 (.mov (.n 0))]) .ret)))))
theorem KB:OkF Tryz.prog 72 32 [] GT [.t 2]:=.of Tryz.func72 rfl rfl (by kernel_rfl) rfl
def GL:IR :=
 (.seq (.ops [.i 1 (.box 30 (.t 0)),.i 2 (.mov (.n 0))]) (.seq (.seq (.ops [.L 3 2 1,.i 4 (.call 71 [.t 3,.n 200]),.i 5 (.bin .lss (.t 4) (.n 0))]) (.cond (.t 5) (.seq (.ops [.i 2 (.mov (.n 3))]) .ret) .skip)) (.seq (.ops [.L 6 2 1,.i 7 (.call 72 [.t 6]),.m 2 7]) .ret)))
theorem KJ:OkF Tryz.prog 42 8 [] GL [.t 2]:=.of Tryz.func42 rfl rfl (by kernel_rfl) rfl
def Gy:IR :=
 (.seq (.ops [.i 1 (.box 30 (.t 0)),.i 2 (.alloc 30 [.st (.str (ByteArray.mk (#[]))),.full []])]) (.seq (.ops [.f 6 0 1,.l 7 6,.i 8 (.build [.st (.str (ByteArray.mk (#[]))),.full []] [(0,1,.t 7)]),.i 3 (.alloc 30 [.st (.str (ByteArray.mk (#[]))),.full []]),.s 2 3 8]) (.seq (.seq (.ops [.f 9 1 1,.l 10 9,.i 11 (.len false (.t 10)),.i 12 (.mov (.n 0))]) (.block 0 (.loop (.seq (.ops [.i 13 (.bin .lss (.t 12) (.t 11))]) (.seq (.cond (.t 13) .skip (.exit 0)) (.seq (.block 1 (.seq (.ops [.i 14 (.indexAddr 2 (.t 10) (.t 12)),.L 15 2 14,.i 5 (.alloc 30 [.st (.str (ByteArray.mk (#[]))),.full []]),.s 2 5 15]) (.ops [.f 16 1 3,.l 17 16,.L 18 2 5,.i 19 (.call 59 [.t 18]),.i 20 (.buildSlice false 30 2 [.t 19]),.i 21 (.append false 30 2 40 (.t 17) (.t 20)),.f 22 1 3,.s 1 22 21]))) (.ops [.i 23 (.bin .add (.t 12) (.n 1)),.m 12 23]))))))) (.seq (.ops [.L 24 2 3,.s 2 2 24]) .ret))))
theorem LL:OkF Tryz.prog 59 25 [] Gy [.cell 2 true 2]:=.of Tryz.func59 rfl rfl (by kernel_rfl) rfl
def BX:IR :=
 (.seq (.ops [.i 4 (.mov (.n 0))]) (.seq (.seq (.ops [.m 6 0,.i 7 (.len false (.t 6)),.i 8 (.mov (.n 0))]) (.block 0 (.loop (.seq (.ops [.i 9 (.bin .lss (.t 8) (.t 7))]) (.seq (.cond (.t 9) .skip (.exit 0)) (.seq (.block 1 (.seq (.ops [.m 10 8,.m 5 10]) (.seq (.ops [.m 11 1,.m 12 0,.m 13 5,.i 14 (.indexAddr 1 (.t 12) (.t 13)),.l 15 14,.i 16 (.bin .eql (.t 11) (.t 15))]) (.cond (.t 16) (.seq (.ops [.m 17 5,.m 4 17]) .ret) .skip)))) (.ops [.i 18 (.bin .add (.t 8) (.n 1)),.m 8 18]))))))) (.seq (.ops [.i 4 (.mov (.c (.one (.st (.int .i64 (-1))))))]) .ret)))
theorem CA:OkF Tryz.prog 81 19 [] BX [.t 4]:=.of Tryz.func81 rfl rfl (by kernel_rfl) rfl
def Bs:IR :=
 (.seq (.ops [.i 4 (.mov (.c (.one (.st (.bool false)))))]) (.seq (.ops [.m 5 0,.m 6 1,.i 7 (.call 81 [.t 5,.t 6]),.i 8 (.bin .geq (.t 7) (.n 0)),.m 4 8]) .ret))
theorem C_:OkF Tryz.prog 62 9 [] Bs [.t 4]:=.of Tryz.func62 rfl rfl (by kernel_rfl) rfl

set_option linter.unusedVariables false
set_option linter.unusedSimpArgs false
set_option maxHeartbeats 400000
theorem BG (s:ByteArray) (k:Nat):Dx s k=Ac s k:=rfl
theorem To {s:ByteArray} (h:¬ s.size=0):¬ s=⟨#[]⟩:=fun e=>h (by rw [e];rfl)
theorem Rl {s:ByteArray} (h:s.size=0):s=⟨#[]⟩:=by
 have:=ByteArray.size_eq_zero_iff.1 h
 exact this
theorem Rd (n:Int) (h0:0≤n):AW Tryz.prog 80 [.one (.st (.int .u8 n))] (CH (Bi n)):=by
 refine Jm.ac fun C hC=>?_
 unfold Fm
 have hc:(97≤n∧n≤122) ∨ (122 < n) ∨ (n < 97∧65≤n∧n≤90) ∨ (n < 97∧90 < n) ∨ (n < 65∧48≤n∧n≤57) ∨ (n < 65∧57 < n) ∨ (n < 48):=by omega
 rcases hc with h | h | h | h | h | h | h
 ·have h1:97≤n:=h.1
  have h2:n≤122:=h.2
  repeat' with_reducible first | refine W ?_ | refine Z0 ?_ | ((first | refine Wo fun K hK=>?_ | refine Wq ?_ | refine Wr ?_);(try simp only [go_sem,fN,seval,eT,iR,h1,h2]);(repeat refine Ai ?_);(try (refine hK _ ?_;clear hK K)))
  simp only [go_sem,fN,seval,AR,AS.result,AB,AE,AQ,Bi,h1,h2]
  try simp
 ·have h1:97≤n:=by omega
  have h2:¬ n≤122:=by omega
  have h3:65≤n:=by omega
  have h4:¬ n≤90:=by omega
  have h5:48≤n:=by omega
  have h6:¬ n≤57:=by omega
  repeat' with_reducible first | refine W ?_ | refine Z0 ?_ | ((first | refine Wo fun K hK=>?_ | refine Wq ?_ | refine Wr ?_);(try simp only [go_sem,fN,seval,eT,iR,h1,h2,h3,h4,h5,h6]);(repeat refine Ai ?_);(try (refine hK _ ?_;clear hK K)))
  simp only [go_sem,fN,seval,AR,AS.result,AB,AE,AQ,Bi,h1,h2,h3,h4,h5,h6]
  try simp
 ·have h1:¬ 97≤n:=by omega
  have h3:65≤n:=by omega
  have h4:n≤90:=by omega
  repeat' with_reducible first | refine W ?_ | refine Z0 ?_ | ((first | refine Wo fun K hK=>?_ | refine Wq ?_ | refine Wr ?_);(try simp only [go_sem,fN,seval,eT,iR,h1,h3,h4]);(repeat refine Ai ?_);(try (refine hK _ ?_;clear hK K)))
  simp only [go_sem,fN,seval,AR,AS.result,AB,AE,AQ,Bi,h1,h3,h4]
  try simp
 ·have h1:¬ 97≤n:=by omega
  have h3:65≤n:=by omega
  have h4:¬ n≤90:=by omega
  have h5:48≤n:=by omega
  have h6:¬ n≤57:=by omega
  repeat' with_reducible first | refine W ?_ | refine Z0 ?_ | ((first | refine Wo fun K hK=>?_ | refine Wq ?_ | refine Wr ?_);(try simp only [go_sem,fN,seval,eT,iR,h1,h3,h4,h5,h6]);(repeat refine Ai ?_);(try (refine hK _ ?_;clear hK K)))
  simp only [go_sem,fN,seval,AR,AS.result,AB,AE,AQ,Bi,h1,h3,h4,h5,h6]
  try simp
 ·have h1:¬ 97≤n:=by omega
  have h3:¬ 65≤n:=by omega
  have h5:48≤n:=by omega
  have h6:n≤57:=by omega
  repeat' with_reducible first | refine W ?_ | refine Z0 ?_ | ((first | refine Wo fun K hK=>?_ | refine Wq ?_ | refine Wr ?_);(try simp only [go_sem,fN,seval,eT,iR,h1,h3,h5,h6]);(repeat refine Ai ?_);(try (refine hK _ ?_;clear hK K)))
  simp only [go_sem,fN,seval,AR,AS.result,AB,AE,AQ,Bi,h1,h3,h5,h6]
  try simp
 ·have h1:¬ 97≤n:=by omega
  have h3:¬ 65≤n:=by omega
  have h5:48≤n:=by omega
  have h6:¬ n≤57:=by omega
  repeat' with_reducible first | refine W ?_ | refine Z0 ?_ | ((first | refine Wo fun K hK=>?_ | refine Wq ?_ | refine Wr ?_);(try simp only [go_sem,fN,seval,eT,iR,h1,h3,h5,h6]);(repeat refine Ai ?_);(try (refine hK _ ?_;clear hK K)))
  simp only [go_sem,fN,seval,AR,AS.result,AB,AE,AQ,Bi,h1,h3,h5,h6]
  try simp
 ·have h1:¬ 97≤n:=by omega
  have h3:¬ 65≤n:=by omega
  have h5:¬ 48≤n:=by omega
  repeat' with_reducible first | refine W ?_ | refine Z0 ?_ | ((first | refine Wo fun K hK=>?_ | refine Wq ?_ | refine Wr ?_);(try simp only [go_sem,fN,seval,eT,iR,h1,h3,h5]);(repeat refine Ai ?_);(try (refine hK _ ?_;clear hK K)))
  simp only [go_sem,fN,seval,AR,AS.result,AB,AE,AQ,Bi,h1,h3,h5]
  try simp
theorem CT (s:ByteArray):AW Tryz.prog 45 [CM s] (CH (D0 s)):=by
 by_cases h0:s.size=0
 ·have:=Rl h0
  subst this
  refine Ec.ac fun C hC=>?_
  unfold DI
  repeat' with_reducible first | refine W ?_ | refine Z0 ?_ | ((first | refine Wo fun K hK=>?_ | refine Wq ?_ | refine Wr ?_);(try simp only [go_sem,fN,seval,eT,iR]);(repeat refine Ai ?_);(try (refine hK _ ?_;clear hK K)))
  simp only [go_sem,fN,seval,AR,AS.result,AB,AE,AQ]
  rfl
 ·have h1:=To h0
  have h2:0 < s.size:=by omega
  refine Ec.ac fun C hC=>?_
  unfold DI
  by_cases h3:65≤Ac s 0 <;> by_cases h4:Ac s 0≤90
  all_goals
   repeat' with_reducible first | refine W ?_ | refine Z0 ?_ | ((first | refine Wo fun K hK=>?_ | refine Wq ?_ | refine Wr ?_);(try simp only [go_sem,fN,seval,eT,iR,h1,h2,BG,h3,h4]);(repeat refine Ai ?_);(try (refine hK _ ?_;clear hK K)))
   simp only [go_sem,fN,seval,AR,AS.result,AB,AE,AQ,D0,h3,h4,h2]
   try simp
theorem Qg (s:ByteArray) (h1:1≤s.size) (h8:s.size≤8) (hd:¬ (48≤Ac s 0∧Ac s 0≤57)):A9 s=B4 s s.size:=by
 unfold A9
 have:(decide (48≤Ac s 0) && decide (Ac s 0≤57))=false:=by
  rw [Bool.and_eq_false_iff]
  simp
  omega
 rw [this]
 simp [h1,h8]
theorem FR (s:ByteArray):AW Tryz.prog 61 [CM s] (CH (A9 s)):=by
 by_cases h0:s.size < 1
 ·have e:A9 s=false:=by simp [A9];omega
  rw [e]
  have h0':(s.size:Int) < 1:=by omega
  refine Dj.ac fun C hC=>?_
  unfold C2
  repeat' with_reducible first | refine W ?_ | refine Z0 ?_ | ((first | refine Wo fun K hK=>?_ | refine Wq ?_ | refine Wr ?_);(try simp only [go_sem,fN,seval,eT,iR,h0']);(repeat refine Ai ?_);(try (refine hK _ ?_;clear hK K)))
  with_reducible refine Wp ?_
  simp only [go_sem,fN,seval,true_implies,false_implies,implies_true,dT,dF,nL,h0']
  (try with_reducible refine iC ?_)
  repeat' with_reducible first | refine W ?_ | refine Z0 ?_ | ((first | refine Wo fun K hK=>?_ | refine Wq ?_ | refine Wr ?_);(try simp only [go_sem,fN,seval,eT,iR]);(repeat refine Ai ?_);(try (refine hK _ ?_;clear hK K)))
  simp only [go_sem,fN,seval,AR,AS.result,AB,AE,AQ]
 have h0':¬ (s.size:Int) < 1:=by omega
 by_cases h8:8 < s.size
 ·have e:A9 s=false:=by simp [A9];omega
  rw [e]
  have h8':(8:Int) < s.size:=by omega
  refine Dj.ac fun C hC=>?_
  unfold C2
  repeat' with_reducible first | refine W ?_ | refine Z0 ?_ | ((first | refine Wo fun K hK=>?_ | refine Wq ?_ | refine Wr ?_);(try simp only [go_sem,fN,seval,eT,iR,h0',h8']);(repeat refine Ai ?_);(try (refine hK _ ?_;clear hK K)))
  with_reducible refine Wp ?_
  simp only [go_sem,fN,seval,true_implies,false_implies,implies_true,dT,dF,nL,h0']
  (try with_reducible refine iC ?_)
  repeat' with_reducible first | refine W ?_ | refine Z0 ?_ | ((first | refine Wo fun K hK=>?_ | refine Wq ?_ | refine Wr ?_);(try simp only [go_sem,fN,seval,eT,iR]);(repeat refine Ai ?_);(try (refine hK _ ?_;clear hK K)))
  simp only [go_sem,fN,seval,AR,AS.result,AB,AE,AQ]
 have h8':¬ (8:Int) < s.size:=by omega
 have hpos:0 < s.size:=by omega
 by_cases hd:48≤Ac s 0∧Ac s 0≤57
 ·have e:A9 s=false:=by simp [A9,hd.1,hd.2]
  rw [e]
  refine Dj.ac fun C hC=>?_
  unfold C2
  repeat' with_reducible first | refine W ?_ | refine Z0 ?_ | ((first | refine Wo fun K hK=>?_ | refine Wq ?_ | refine Wr ?_);(try simp only [go_sem,fN,seval,eT,iR,h0',h8',hpos,BG,hd.1,hd.2]);(repeat refine Ai ?_);(try (refine hK _ ?_;clear hK K)))
  with_reducible refine Wp ?_
  simp only [go_sem,fN,seval,true_implies,false_implies,implies_true,dT,dF,nL,h0']
  (try with_reducible refine iC ?_)
  repeat' with_reducible first | refine W ?_ | refine Z0 ?_ | ((first | refine Wo fun K hK=>?_ | refine Wq ?_ | refine Wr ?_);(try simp only [go_sem,fN,seval,eT,iR]);(repeat refine Ai ?_);(try (refine hK _ ?_;clear hK K)))
  simp only [go_sem,fN,seval,AR,AS.result,AB,AE,AQ]
 rw [Qg s (by omega) (by omega) hd]
 have hd2:(48≤Ac s 0∧¬ Ac s 0≤57) ∨ (¬ 48≤Ac s 0):=by omega
 refine Dj.ac fun C hC=>?_
 unfold C2
 have h57:48≤Ac s 0→¬ Ac s 0≤57:=fun h h'=>hd ⟨h,h'⟩
 by_cases h48:48≤Ac s 0
 all_goals
  simp only [h48,true_implies,false_implies] at h57
  repeat' with_reducible first | refine W ?_ | refine Z0 ?_ | ((first | refine Wo fun K hK=>?_ | refine Wq ?_ | refine Wr ?_);(try simp only [go_sem,fN,seval,eT,iR,h0',h8',hpos,BG,h48,h57]);(repeat refine Ai ?_);(try (refine hK _ ?_;clear hK K)))
  with_reducible refine Wp ?_
  simp only [go_sem,fN,seval,true_implies,false_implies,implies_true,dT,dF,nL,h0']
  (try with_reducible refine iC ?_)
  repeat' with_reducible first | refine W ?_ | refine Z0 ?_ | ((first | refine Wo fun K hK=>?_ | refine Wq ?_ | refine Wr ?_);(try simp only [go_sem,fN,seval,eT,iR]);(repeat refine Ai ?_);(try (refine hK _ ?_;clear hK K)))
  refine IWP.loop (fun m x=>∃ k,k≤s.size∧m=s.size - k∧B4 s k=true∧x.env 0=CM s∧x.env 23=Ad s.size∧x.env 24=Ad k) s.size ⟨0,Nat.zero_le _,rfl,rfl,rfl,rfl,rfl⟩ ?_
  rintro m ⟨env,S⟩ ⟨k,hk,rfl,hl,e0,e23,e24⟩
  simp only at e0 e23 e24
  repeat' with_reducible first | refine W ?_ | refine Z0 ?_ | ((first | refine Wo fun K hK=>?_ | refine Wq ?_ | refine Wr ?_);(try simp only [go_sem,fN,seval,eT,iR,e0,e23,e24]);(repeat refine Ai ?_);(try (refine hK _ ?_;clear hK K)))
  with_reducible refine Wp ?_
  simp only [go_sem,fN,seval,true_implies,false_implies,implies_true,dT,dF,nL,e0,e23,e24]
  (try with_reducible refine iC ?_)
  refine ⟨fun hlt=>?_,fun hge=>?_⟩
  ·have hlt':k < s.size:=by omega
   repeat' (first | (with_reducible first | refine W ?_ | refine Z0 ?_ | ((first | refine Wo fun K hK=>?_ | refine Wq ?_ | refine Wr ?_);(try simp only [go_sem,fN,seval,eT,iR,e0,e23,e24,hlt',BG]);(repeat refine Ai ?_);(try (refine hK _ ?_;clear hK K)))) | refine Cg _ (Rd _ (MC s k).1) ?_)
   with_reducible refine Wp ?_
   simp only [go_sem,fN,seval,true_implies,false_implies,implies_true,dT,dF,nL]
   (try with_reducible refine iC ?_)
   refine ⟨fun hn=>?_,fun hn=>?_⟩
   ·repeat' with_reducible first | refine W ?_ | refine Z0 ?_ | ((first | refine Wo fun K hK=>?_ | refine Wq ?_ | refine Wr ?_);(try simp only [go_sem,fN,seval,eT,iR]);(repeat refine Ai ?_);(try (refine hK _ ?_;clear hK K)))
    simp only [go_sem,fN,seval,AR,AS.result,AB,AE,AQ]
    rw [LR s k hlt' (by simpa using hn)]
   ·repeat' with_reducible first | refine W ?_ | refine Z0 ?_ | ((first | refine Wo fun K hK=>?_ | refine Wq ?_ | refine Wr ?_);(try simp only [go_sem,fN,seval,eT,iR,e0,e23,e24]);(repeat refine Ai ?_);(try (refine hK _ ?_;clear hK K)))
    refine Ag ⟨s.size - (k + 1),by omega,k + 1,by omega,rfl,?_,?_⟩
    ·rw [Io s k hlt',hl]
     simpa using hn
    ·simp only [go_sem,fN,seval,eT,iR,e0,e23,e24]
     congr 3
  ·repeat' with_reducible first | refine W ?_ | refine Z0 ?_ | ((first | refine Wo fun K hK=>?_ | refine Wq ?_ | refine Wr ?_);(try simp only [go_sem,fN,seval,eT,iR]);(repeat refine Ai ?_);(try (refine hK _ ?_;clear hK K)))
   simp only [go_sem,fN,seval,AR,AS.result,AB,AE,AQ]
   rw [show s.size=k by omega,hl]
theorem SI (t:Tm) (m:Int) (h0:0≤m) (h1:m≤9223372036854775807):AW Tryz.prog 71 [aTm t,Ad m] (Ad (Ba t.size m)):=by
 induction h:SizeOf.sizeOf t using Nat.strongRecOn generalizing t m with
 | _ N ih =>
 subst h
 have hs:=Tm.size_eq t
 refine Iw.ac fun C hC=>?_
 unfold Fp
 refine IWP.learn 0 (by omega) fun hkn=>?_
 have hkn:=JN hkn
 repeat' with_reducible first | refine W ?_ | refine Z0 ?_ | ((first | refine Wo fun K hK=>?_ | refine Wq ?_ | refine Wr ?_);(try simp only [go_sem,fN,seval,eT,iR]);(repeat refine Ai ?_);(try (refine hK _ ?_;clear hK K)))
 refine IWP.loopD [6] (fun n s=>∃ k,k≤t.args.length∧n=t.args.length - k∧s.env 1=Ad (Ba (1 + Tm.sizes (t.args.take k)) m)∧s.env 10=.one (.st (.list (t.args.map EH)))∧s.env 11=Ad t.args.length∧s.env 12=Ad k∧s.S 6=none) t.args.length ⟨0,Nat.zero_le _,rfl,by
  simp only [go_sem,fN,seval,eT,iR]
  rw [Ba]
  have z0:Tm.sizes []=0:=rfl
  congr 3
  split <;> omega,rfl,rfl,rfl,rfl⟩ ?_
 rintro n ⟨env,S⟩ ⟨k,hk,rfl,e1,e10,e11,e12,s6⟩
 simp only at e1 e10 e11 e12 s6
 repeat' with_reducible first | refine W ?_ | refine Z0 ?_ | ((first | refine Wo fun K hK=>?_ | refine Wq ?_ | refine Wr ?_);(try simp only [go_sem,fN,seval,eT,iR,e1,e10,e11,e12,s6]);(repeat refine Ai ?_);(try (refine hK _ ?_;clear hK K)))
 with_reducible refine Wp ?_
 simp only [go_sem,fN,seval,true_implies,false_implies,implies_true,dT,dF,nL,e1,e10,e11,e12,s6]
 (try with_reducible refine iC ?_)
 refine ⟨fun hlt=>?_,fun hge=>?_⟩
 ·obtain ⟨a,ha⟩:=Bk (show k < t.args.length by omega)
  have z1:=Tm.sizes_take ha
  have z2:=Tm.sizes_take_le t.args (k + 1)
  have z3:=Tm.length_le t.args
  have z4:=Ks (1 + Tm.sizes (t.args.take k)) m h0
  repeat' with_reducible first | refine W ?_ | refine Z0 ?_ | ((first | refine Wo fun K hK=>?_ | refine Wq ?_ | refine Wr ?_);(try simp only [go_sem,fN,seval,eT,iR,e1,e10,e11,e12,s6,ha]);(repeat refine Ai ?_);(try (refine hK _ ?_;clear hK K)))
  with_reducible refine Wp ?_
  simp only [go_sem,fN,seval,true_implies,false_implies,implies_true,dT,dF,nL,e1]
  (try with_reducible refine iC ?_)
  refine ⟨fun hb=>?_,fun hb=>?_⟩
  ·repeat' with_reducible first | refine W ?_ | refine Z0 ?_ | ((first | refine Wo fun K hK=>?_ | refine Wq ?_ | refine Wr ?_);(try simp only [go_sem,fN,seval,eT,iR,e1]);(repeat refine Ai ?_);(try (refine hK _ ?_;clear hK K)))
   simp only [go_sem,fN,seval,AR,AS.result,AB,AE,AQ,e1]
   rw [Jo hb (show _≤t.size by rw [hs];omega)]
  ·repeat' (first | (with_reducible first | refine W ?_ | refine Z0 ?_ | ((first | refine Wo fun K hK=>?_ | refine Wq ?_ | refine Wr ?_);(try simp only [go_sem,fN,seval,eT,iR,e1,e10,e11,e12,s6,ha]);(repeat refine Ai ?_);(try (refine hK _ ?_;clear hK K)))) | refine Cg _ (ih _ (Tm.lt_of_arg (Ae ha)) a _ (by omega) (by omega) rfl) ?_)
   refine Ag ⟨t.args.length - (k + 1),by omega,k + 1,by omega,rfl,?_⟩
   simp only [go_sem,fN,seval,AS.drop,CN,AC.clears,AC.clear,AC.highs,AC.high,Bool.not_false,Bool.true_and,Bool.and_self,AV.purge,AV.purges,AC.purge,AU.purge,List.contains_cons,List.contains_nil,Nat.reduceBEq,Bool.or_self,Bool.or_false,Bool.false_or,Bool.or_true,eT,iR,e1,e10,e11,e12,s6]
   exact ⟨by rw [H_ (by omega),z1];congr 4;omega,by congr 3⟩
 ·repeat' with_reducible first | refine W ?_ | refine Z0 ?_ | ((first | refine Wo fun K hK=>?_ | refine Wq ?_ | refine Wr ?_);(try simp only [go_sem,fN,seval,eT,iR,e1]);(repeat refine Ai ?_);(try (refine hK _ ?_;clear hK K)))
  simp only [go_sem,fN,seval,AR,AS.result,AB,AE,AQ,e1]
  rw [List.take_of_length_le (by omega),hs]
theorem Sy (t:Tm) (m:Int) (h0:0≤m) (h1:m≤9223372036854775806):AW Tryz.prog 8 [aTm t,Ad m] (Ad (BQ t.size m)):=by
 induction h:SizeOf.sizeOf t using Nat.strongRecOn generalizing t m with
 | _ N ih =>
 subst h
 have hs:=Tm.size_eq t
 refine QP.ac fun C hC=>?_
 unfold KW
 refine IWP.learn 0 (by omega) fun hkn=>?_
 have hkn:=JN hkn
 repeat' with_reducible first | refine W ?_ | refine Z0 ?_ | ((first | refine Wo fun K hK=>?_ | refine Wq ?_ | refine Wr ?_);(try simp only [go_sem,fN,seval,eT,iR]);(repeat refine Ai ?_);(try (refine hK _ ?_;clear hK K)))
 refine IWP.loop (fun n s=>∃ k,k≤t.args.length∧n=t.args.length - k∧s.env 5=Ad (BQ (1 + Tm.sizes (t.args.take k)) m)∧s.env 1=Ad m∧s.env 2=.one (.ptr 2 1 0 0)∧s.env 6=Ad k∧s.S 2=some (.box 30 [.st (.str t.name),.st (.list (t.args.map EH))])) t.args.length ⟨0,Nat.zero_le _,rfl,by
  simp only [go_sem,fN,seval,eT,iR]
  rw [BQ]
  have z0:Tm.sizes []=0:=rfl
  congr 3
  split <;> omega,rfl,rfl,rfl,rfl⟩ ?_
 rintro n ⟨env,S⟩ ⟨k,hk,rfl,e5,e1,e2,e6,s2⟩
 simp only at e5 e1 e2 e6 s2
 have z4:=Gr (1 + Tm.sizes (t.args.take k)) m h0
 by_cases hlt:(k:Int) < t.args.length
 ·obtain ⟨a,ha⟩:=Bk (show k < t.args.length by omega)
  have z1:=Tm.sizes_take ha
  have z2:=Tm.sizes_take_le t.args (k + 1)
  by_cases hb:m < BQ (1 + Tm.sizes (t.args.take k)) m
  ·have hb':¬ BQ (1 + Tm.sizes (t.args.take k)) m≤m:=by omega
   repeat' with_reducible first | refine W ?_ | refine Z0 ?_ | ((first | refine Wo fun K hK=>?_ | refine Wq ?_ | refine Wr ?_);(try simp only [go_sem,fN,seval,eT,iR,e5,e1,e2,e6,s2,hlt,hb']);(repeat refine Ai ?_);(try (refine hK _ ?_;clear hK K)))
   with_reducible refine Wp ?_
   simp only [go_sem,fN,seval,true_implies,false_implies,implies_true,dT,dF,nL,hb']
   (try with_reducible refine iC ?_)
   repeat' with_reducible first | refine W ?_ | refine Z0 ?_ | ((first | refine Wo fun K hK=>?_ | refine Wq ?_ | refine Wr ?_);(try simp only [go_sem,fN,seval,eT,iR,e5,e1,e2,e6,s2]);(repeat refine Ai ?_);(try (refine hK _ ?_;clear hK K)))
   with_reducible refine Wp ?_
   simp only [go_sem,fN,seval,true_implies,false_implies,implies_true,dT,dF,nL,hb]
   (try with_reducible refine iC ?_)
   repeat' with_reducible first | refine W ?_ | refine Z0 ?_ | ((first | refine Wo fun K hK=>?_ | refine Wq ?_ | refine Wr ?_);(try simp only [go_sem,fN,seval,eT,iR,e1]);(repeat refine Ai ?_);(try (refine hK _ ?_;clear hK K)))
   simp only [go_sem,fN,seval,AR,AS.result,AB,AE,AQ]
   rw [E0 hb (show _≤t.size by rw [hs];omega)]
  ·have hb':BQ (1 + Tm.sizes (t.args.take k)) m≤m:=by omega
   obtain ⟨b1,b2⟩:=NY hb
   repeat' with_reducible first | refine W ?_ | refine Z0 ?_ | ((first | refine Wo fun K hK=>?_ | refine Wq ?_ | refine Wr ?_);(try simp only [go_sem,fN,seval,eT,iR,e5,e1,e2,e6,s2,hlt,hb']);(repeat refine Ai ?_);(try (refine hK _ ?_;clear hK K)))
   with_reducible refine Wp ?_
   simp only [go_sem,fN,seval,true_implies,false_implies,implies_true,dT,dF,nL,hb']
   (try with_reducible refine iC ?_)
   repeat' with_reducible first | refine W ?_ | refine Z0 ?_ | ((first | refine Wo fun K hK=>?_ | refine Wq ?_ | refine Wr ?_);(try simp only [go_sem,fN,seval,eT,iR,e5,e1,e2,e6,s2,ha]);(repeat refine Ai ?_);(try (refine hK _ ?_;clear hK K)))
   refine ⟨_,ih _ (Tm.lt_of_arg (Ae ha)) a (m - BQ (1 + Tm.sizes (t.args.take k)) m) (by omega) (by omega) rfl,?_⟩
   have z5:=Gr a.size (m - BQ (1 + Tm.sizes (t.args.take k)) m) (by omega)
   repeat' with_reducible first | refine W ?_ | refine Z0 ?_ | ((first | refine Wo fun K hK=>?_ | refine Wq ?_ | refine Wr ?_);(try simp only [go_sem,fN,seval,eT,iR,e5,e1,e2,e6,s2]);(repeat refine Ai ?_);(try (refine hK _ ?_;clear hK K)))
   refine Ag ⟨t.args.length - (k + 1),by omega,k + 1,by omega,rfl,?_⟩
   simp only [go_sem,fN,seval,eT,iR,e5,e1,e2,e6,s2]
   exact ⟨by rw [b1,JY b2,z1];congr 4;omega,by congr 3⟩
 ·repeat' with_reducible first | refine W ?_ | refine Z0 ?_ | ((first | refine Wo fun K hK=>?_ | refine Wq ?_ | refine Wr ?_);(try simp only [go_sem,fN,seval,eT,iR,e5,e1,e2,e6,s2,hlt]);(repeat refine Ai ?_);(try (refine hK _ ?_;clear hK K)))
  with_reducible refine Wp ?_
  simp only [go_sem,fN,seval,true_implies,false_implies,implies_true,dT,dF,nL]
  (try with_reducible refine iC ?_)
  have hfull:1 + Tm.sizes (t.args.take k)=t.size:=by rw [List.take_of_length_le (by omega),hs]
  rw [hfull] at e5 z4
  repeat' with_reducible first | refine W ?_ | refine Z0 ?_ | ((first | refine Wo fun K hK=>?_ | refine Wq ?_ | refine Wr ?_);(try simp only [go_sem,fN,seval,eT,iR,e5,e1]);(repeat refine Ai ?_);(try (refine hK _ ?_;clear hK K)))
  by_cases hb:m < BQ t.size m
  ·with_reducible refine Wp ?_
   simp only [go_sem,fN,seval,true_implies,false_implies,implies_true,dT,dF,nL,hb]
   (try with_reducible refine iC ?_)
   repeat' with_reducible first | refine W ?_ | refine Z0 ?_ | ((first | refine Wo fun K hK=>?_ | refine Wq ?_ | refine Wr ?_);(try simp only [go_sem,fN,seval,eT,iR,e1]);(repeat refine Ai ?_);(try (refine hK _ ?_;clear hK K)))
   simp only [go_sem,fN,seval,AR,AS.result,AB,AE,AQ]
   rw [E0 hb (Nat.le_refl _)]
  ·with_reducible refine Wp ?_
   simp only [go_sem,fN,seval,true_implies,false_implies,implies_true,dT,dF,nL,hb]
   (try with_reducible refine iC ?_)
   repeat' with_reducible first | refine W ?_ | refine Z0 ?_ | ((first | refine Wo fun K hK=>?_ | refine Wq ?_ | refine Wr ?_);(try simp only [go_sem,fN,seval,eT,iR,e5]);(repeat refine Ai ?_);(try (refine hK _ ?_;clear hK K)))
   simp only [go_sem,fN,seval,AR,AS.result,AB,AE,AQ,e5]
theorem TQ (t:Tm):AW Tryz.prog 72 [aTm t] (Ad t.chk):=by
 induction h:SizeOf.sizeOf t using Nat.strongRecOn generalizing t with
 | _ N ih =>
 subst h
 have hc:=Tm.chk_eq t
 have hc1:FZ t=if A9 t.name=true then (if D0 t.name=true∧0 < t.args.length then 2 else 0) else 1:=rfl
 refine KB.ac fun C hC=>?_
 unfold GT
 refine IWP.learn 0 (by omega) fun hkn=>?_
 have hkn:=JN hkn
 repeat' with_reducible first | refine W ?_ | refine Z0 ?_ | ((first | refine Wo fun K hK=>?_ | refine Wq ?_ | refine Wr ?_);(try simp only [go_sem,fN,seval,eT,iR]);(repeat refine Ai ?_);(try (refine hK _ ?_;clear hK K)))
 refine ⟨_,FR _,?_⟩
 cases hn:A9 t.name with
 | false =>
  rw [hn,if_neg (by simp)] at hc1
  repeat' with_reducible first | refine W ?_ | refine Z0 ?_ | ((first | refine Wo fun K hK=>?_ | refine Wq ?_ | refine Wr ?_);(try simp only [go_sem,fN,seval,eT,iR]);(repeat refine Ai ?_);(try (refine hK _ ?_;clear hK K)))
  with_reducible refine Wp ?_
  simp only [go_sem,fN,seval,true_implies,false_implies,implies_true,dT,dF,nL]
  (try with_reducible refine iC ?_)
  repeat' with_reducible first | refine W ?_ | refine Z0 ?_ | ((first | refine Wo fun K hK=>?_ | refine Wq ?_ | refine Wr ?_);(try simp only [go_sem,fN,seval,eT,iR]);(repeat refine Ai ?_);(try (refine hK _ ?_;clear hK K)))
  simp only [go_sem,fN,seval,AR,AS.result,AB,AE,AQ]
  rw [hc,hc1]
  rfl
 | true =>
  rw [hn,if_pos rfl] at hc1
  repeat' with_reducible first | refine W ?_ | refine Z0 ?_ | ((first | refine Wo fun K hK=>?_ | refine Wq ?_ | refine Wr ?_);(try simp only [go_sem,fN,seval,eT,iR]);(repeat refine Ai ?_);(try (refine hK _ ?_;clear hK K)))
  with_reducible refine Wp ?_
  simp only [go_sem,fN,seval,true_implies,false_implies,implies_true,dT,dF,nL]
  (try with_reducible refine iC ?_)
  repeat' with_reducible first | refine W ?_ | refine Z0 ?_ | ((first | refine Wo fun K hK=>?_ | refine Wq ?_ | refine Wr ?_);(try simp only [go_sem,fN,seval,eT,iR]);(repeat refine Ai ?_);(try (refine hK _ ?_;clear hK K)))
  refine ⟨_,CT _,?_⟩
  by_cases hv:D0 t.name=true∧0 < t.args.length
  ·obtain ⟨hv1,hv2⟩:=hv
   have hv2':(0:Int) < t.args.length:=by omega
   rw [if_pos ⟨hv1,hv2⟩] at hc1
   rw [hv1]
   repeat' with_reducible first | refine W ?_ | refine Z0 ?_ | ((first | refine Wo fun K hK=>?_ | refine Wq ?_ | refine Wr ?_);(try simp only [go_sem,fN,seval,eT,iR,hv2']);(repeat refine Ai ?_);(try (refine hK _ ?_;clear hK K)))
   with_reducible refine Wp ?_
   simp only [go_sem,fN,seval,true_implies,false_implies,implies_true,dT,dF,nL,hv2']
   (try with_reducible refine iC ?_)
   repeat' with_reducible first | refine W ?_ | refine Z0 ?_ | ((first | refine Wo fun K hK=>?_ | refine Wq ?_ | refine Wr ?_);(try simp only [go_sem,fN,seval,eT,iR]);(repeat refine Ai ?_);(try (refine hK _ ?_;clear hK K)))
   simp only [go_sem,fN,seval,AR,AS.result,AB,AE,AQ]
   rw [hc,hc1]
   rfl
  ·rw [if_neg hv] at hc1
   rw [if_pos hc1] at hc
   have hv2:D0 t.name=true→¬ (0:Int) < t.args.length:=fun h h'=>hv ⟨h,by omega⟩
   cases hvv:D0 t.name
   all_goals
    simp only [hvv,true_implies,false_implies,Bool.false_eq_true] at hv2
    repeat' with_reducible first | refine W ?_ | refine Z0 ?_ | ((first | refine Wo fun K hK=>?_ | refine Wq ?_ | refine Wr ?_);(try simp only [go_sem,fN,seval,eT,iR,hv2]);(repeat refine Ai ?_);(try (refine hK _ ?_;clear hK K)))
    with_reducible refine Wp ?_
    simp only [go_sem,fN,seval,true_implies,false_implies,implies_true,dT,dF,nL,hv2]
    (try with_reducible refine iC ?_)
    repeat' with_reducible first | refine W ?_ | refine Z0 ?_ | ((first | refine Wo fun K hK=>?_ | refine Wq ?_ | refine Wr ?_);(try simp only [go_sem,fN,seval,eT,iR]);(repeat refine Ai ?_);(try (refine hK _ ?_;clear hK K)))
    refine IWP.loopD [4] (fun n s=>∃ k,k≤t.args.length∧n=t.args.length - k∧Tm.chkL (t.args.take k)=0∧s.env 20=.one (.st (.list (t.args.map EH)))∧s.env 21=Ad t.args.length∧s.env 22=Ad k∧s.S 4=none) t.args.length ⟨0,Nat.zero_le _,rfl,rfl,rfl,rfl,rfl,rfl⟩ ?_
    rintro n ⟨env,S⟩ ⟨k,hk,rfl,h0,e20,e21,e22,s4⟩
    simp only at e20 e21 e22 s4
    repeat' with_reducible first | refine W ?_ | refine Z0 ?_ | ((first | refine Wo fun K hK=>?_ | refine Wq ?_ | refine Wr ?_);(try simp only [go_sem,fN,seval,eT,iR,e20,e21,e22,s4]);(repeat refine Ai ?_);(try (refine hK _ ?_;clear hK K)))
    with_reducible refine Wp ?_
    simp only [go_sem,fN,seval,true_implies,false_implies,implies_true,dT,dF,nL,e20,e21,e22,s4]
    (try with_reducible refine iC ?_)
    refine ⟨fun hlt=>?_,fun hge=>?_⟩
    ·obtain ⟨a,ha⟩:=Bk (show k < t.args.length by omega)
     obtain ⟨g1,g2⟩:=Tm.chkL_get ha h0
     repeat' (first | (with_reducible first | refine W ?_ | refine Z0 ?_ | ((first | refine Wo fun K hK=>?_ | refine Wq ?_ | refine Wr ?_);(try simp only [go_sem,fN,seval,eT,iR,e20,e21,e22,s4,ha]);(repeat refine Ai ?_);(try (refine hK _ ?_;clear hK K)))) | refine Cg _ (ih _ (Tm.lt_of_arg (Ae ha)) a rfl) ?_)
     with_reducible refine Wp ?_
     simp only [go_sem,fN,seval,true_implies,false_implies,implies_true,dT,dF,nL]
     (try with_reducible refine iC ?_)
     refine ⟨fun hb=>?_,fun hb=>?_⟩
     ·repeat' with_reducible first | refine W ?_ | refine Z0 ?_ | ((first | refine Wo fun K hK=>?_ | refine Wq ?_ | refine Wr ?_);(try simp only [go_sem,fN,seval,eT,iR]);(repeat refine Ai ?_);(try (refine hK _ ?_;clear hK K)))
      simp only [go_sem,fN,seval,AR,AS.result,AB,AE,AQ]
      rw [hc,g2 hb]
     ·repeat' with_reducible first | refine W ?_ | refine Z0 ?_ | ((first | refine Wo fun K hK=>?_ | refine Wq ?_ | refine Wr ?_);(try simp only [go_sem,fN,seval,eT,iR,e20,e21,e22,s4]);(repeat refine Ai ?_);(try (refine hK _ ?_;clear hK K)))
      refine Ag ⟨t.args.length - (k + 1),by omega,k + 1,by omega,rfl,g1 (by omega),?_⟩
      simp only [go_sem,fN,seval,AS.drop,CN,AC.clears,AC.clear,AC.highs,AC.high,Bool.not_false,Bool.true_and,Bool.and_self,AV.purge,AV.purges,AC.purge,AU.purge,List.contains_cons,List.contains_nil,Nat.reduceBEq,Bool.or_self,Bool.or_false,Bool.false_or,Bool.or_true,eT,iR,e20,e21,e22,s4]
      congr 3
    ·repeat' with_reducible first | refine W ?_ | refine Z0 ?_ | ((first | refine Wo fun K hK=>?_ | refine Wq ?_ | refine Wr ?_);(try simp only [go_sem,fN,seval,eT,iR]);(repeat refine Ai ?_);(try (refine hK _ ?_;clear hK K)))
     simp only [go_sem,fN,seval,AR,AS.result,AB,AE,AQ]
     rw [List.take_of_length_le (by omega)] at h0
     rw [hc,h0]
theorem MY (t:Tm):AW Tryz.prog 42 [aTm t] (Ad t.may):=by
 have hm:t.may=if 200 < t.size then 3 else t.chk:=rfl
 refine KJ.ac fun C hC=>?_
 unfold GL
 repeat' with_reducible first | refine W ?_ | refine Z0 ?_ | ((first | refine Wo fun K hK=>?_ | refine Wq ?_ | refine Wr ?_);(try simp only [go_sem,fN,seval,eT,iR]);(repeat refine Ai ?_);(try (refine hK _ ?_;clear hK K)))
 refine ⟨_,SI t 200 (by omega) (by omega),?_⟩
 by_cases h:Ba t.size 200 < 0
 ·repeat' with_reducible first | refine W ?_ | refine Z0 ?_ | ((first | refine Wo fun K hK=>?_ | refine Wq ?_ | refine Wr ?_);(try simp only [go_sem,fN,seval,eT,iR,h]);(repeat refine Ai ?_);(try (refine hK _ ?_;clear hK K)))
  with_reducible refine Wp ?_
  simp only [go_sem,fN,seval,true_implies,false_implies,implies_true,dT,dF,nL,h]
  (try with_reducible refine iC ?_)
  repeat' with_reducible first | refine W ?_ | refine Z0 ?_ | ((first | refine Wo fun K hK=>?_ | refine Wq ?_ | refine Wr ?_);(try simp only [go_sem,fN,seval,eT,iR]);(repeat refine Ai ?_);(try (refine hK _ ?_;clear hK K)))
  simp only [go_sem,fN,seval,AR,AS.result,AB,AE,AQ]
  unfold Ba at h
  rw [hm,if_pos (by split at h <;> omega)]
 ·repeat' with_reducible first | refine W ?_ | refine Z0 ?_ | ((first | refine Wo fun K hK=>?_ | refine Wq ?_ | refine Wr ?_);(try simp only [go_sem,fN,seval,eT,iR,h]);(repeat refine Ai ?_);(try (refine hK _ ?_;clear hK K)))
  with_reducible refine Wp ?_
  simp only [go_sem,fN,seval,true_implies,false_implies,implies_true,dT,dF,nL,h]
  (try with_reducible refine iC ?_)
  repeat' (first | (with_reducible first | refine W ?_ | refine Z0 ?_ | ((first | refine Wo fun K hK=>?_ | refine Wq ?_ | refine Wr ?_);(try simp only [go_sem,fN,seval,eT,iR]);(repeat refine Ai ?_);(try (refine hK _ ?_;clear hK K)))) | refine Cg _ (TQ t) ?_)
  simp only [go_sem,fN,seval,AR,AS.result,AB,AE,AQ]
  unfold Ba at h
  rw [hm,if_neg (by split at h <;> omega)]
theorem TM (l:List ByteArray) (x:ByteArray):∃ i:Int,AW Tryz.prog 81 [Eh l,CM x] (Ad i)∧(0≤i ↔ I5 x l=true):=by
 by_cases hin:I5 x l=true
 ·obtain ⟨k0,hk0,hmin⟩:∃ k,l[k]?=some x∧∀ j,j < k→l[j]? ≠ some x:=by
   have hx:=Js.1 hin
   have ⟨k,hk⟩:=List.getElem?_of_mem hx
   induction k using Nat.strongRecOn with
   | _ k ih =>
    by_cases h:∃ j,j < k∧l[j]?=some x
    ·obtain ⟨j,hj,hjx⟩:=h
     exact ih j hj hjx
    ·exact ⟨k,hk,fun j hj hjx=>h ⟨j,hj,hjx⟩⟩
  have hlt0:=KS hk0
  refine ⟨k0,?_,by simp [hin]⟩
  refine CA.ac fun C hC=>?_
  unfold BX
  refine IWP.learn 0 (by omega) fun hkn=>?_
  have hkn:=Kl hkn
  rw [List.length_map] at hkn
  repeat' with_reducible first | refine W ?_ | refine Z0 ?_ | ((first | refine Wo fun K hK=>?_ | refine Wq ?_ | refine Wr ?_);(try simp only [go_sem,fN,seval,eT,iR]);(repeat refine Ai ?_);(try (refine hK _ ?_;clear hK K)))
  refine IWP.loop (fun n s=>∃ k,k≤k0∧n=k0 - k∧s.env 0=Eh l∧s.env 1=CM x∧s.env 7=Ad l.length∧s.env 8=Ad k) k0 ⟨0,Nat.zero_le _,rfl,rfl,rfl,rfl,rfl⟩ ?_
  rintro n ⟨env,S⟩ ⟨k,hk,rfl,e0,e1,e7,e8⟩
  simp only at e0 e1 e7 e8
  have hlt:(k:Int) < l.length:=by omega
  repeat' with_reducible first | refine W ?_ | refine Z0 ?_ | ((first | refine Wo fun K hK=>?_ | refine Wq ?_ | refine Wr ?_);(try simp only [go_sem,fN,seval,eT,iR,e0,e1,e7,e8,hlt]);(repeat refine Ai ?_);(try (refine hK _ ?_;clear hK K)))
  with_reducible refine Wp ?_
  simp only [go_sem,fN,seval,true_implies,false_implies,implies_true,dT,dF,nL,e0,e1,e7,e8,hlt]
  (try with_reducible refine iC ?_)
  obtain ⟨a,ha⟩:=Bk (show k < l.length by omega)
  repeat' with_reducible first | refine W ?_ | refine Z0 ?_ | ((first | refine Wo fun K hK=>?_ | refine Wq ?_ | refine Wr ?_);(try simp only [go_sem,fN,seval,eT,iR,e0,e1,e7,e8,ha]);(repeat refine Ai ?_);(try (refine hK _ ?_;clear hK K)))
  by_cases he:k=k0
  ·subst he
   rw [hk0] at ha
   cases ha
   with_reducible refine Wp ?_
   simp only [go_sem,fN,seval,true_implies,false_implies,implies_true,dT,dF,nL]
   (try with_reducible refine iC ?_)
   repeat' with_reducible first | refine W ?_ | refine Z0 ?_ | ((first | refine Wo fun K hK=>?_ | refine Wq ?_ | refine Wr ?_);(try simp only [go_sem,fN,seval,eT,iR,e0,e1,e7,e8]);(repeat refine Ai ?_);(try (refine hK _ ?_;clear hK K)))
   simp only [go_sem,fN,seval,AR,AS.result,AB,AE,AQ]
  ·have hne:¬ x=a:=fun e=>hmin k (by omega) (by rw [ha,e])
   with_reducible refine Wp ?_
   simp only [go_sem,fN,seval,true_implies,false_implies,implies_true,dT,dF,nL,hne]
   (try with_reducible refine iC ?_)
   repeat' with_reducible first | refine W ?_ | refine Z0 ?_ | ((first | refine Wo fun K hK=>?_ | refine Wq ?_ | refine Wr ?_);(try simp only [go_sem,fN,seval,eT,iR,e0,e1,e7,e8]);(repeat refine Ai ?_);(try (refine hK _ ?_;clear hK K)))
   refine Ag ⟨k0 - (k + 1),by omega,k + 1,by omega,rfl,?_⟩
   simp only [go_sem,fN,seval,eT,iR,e0,e1,e7,e8]
   congr 3
 ·rw [Bool.not_eq_true] at hin
  refine ⟨-1,?_,by simp [hin]⟩
  refine CA.ac fun C hC=>?_
  unfold BX
  refine IWP.learn 0 (by omega) fun hkn=>?_
  have hkn:=Kl hkn
  rw [List.length_map] at hkn
  repeat' with_reducible first | refine W ?_ | refine Z0 ?_ | ((first | refine Wo fun K hK=>?_ | refine Wq ?_ | refine Wr ?_);(try simp only [go_sem,fN,seval,eT,iR]);(repeat refine Ai ?_);(try (refine hK _ ?_;clear hK K)))
  refine IWP.loop (fun n s=>∃ k,k≤l.length∧n=l.length - k∧s.env 0=Eh l∧s.env 1=CM x∧s.env 7=Ad l.length∧s.env 8=Ad k) l.length ⟨0,Nat.zero_le _,rfl,rfl,rfl,rfl,rfl⟩ ?_
  rintro n ⟨env,S⟩ ⟨k,hk,rfl,e0,e1,e7,e8⟩
  simp only at e0 e1 e7 e8
  by_cases hlt:(k:Int) < l.length
  ·repeat' with_reducible first | refine W ?_ | refine Z0 ?_ | ((first | refine Wo fun K hK=>?_ | refine Wq ?_ | refine Wr ?_);(try simp only [go_sem,fN,seval,eT,iR,e0,e1,e7,e8,hlt]);(repeat refine Ai ?_);(try (refine hK _ ?_;clear hK K)))
   with_reducible refine Wp ?_
   simp only [go_sem,fN,seval,true_implies,false_implies,implies_true,dT,dF,nL,e0,e1,e7,e8,hlt]
   (try with_reducible refine iC ?_)
   obtain ⟨a,ha⟩:=Bk (show k < l.length by omega)
   have hne:¬ x=a:=fun e=>by
    rw [Sv] at hin
    exact hin (by rw [e];exact Ae ha)
   repeat' with_reducible first | refine W ?_ | refine Z0 ?_ | ((first | refine Wo fun K hK=>?_ | refine Wq ?_ | refine Wr ?_);(try simp only [go_sem,fN,seval,eT,iR,e0,e1,e7,e8,ha]);(repeat refine Ai ?_);(try (refine hK _ ?_;clear hK K)))
   with_reducible refine Wp ?_
   simp only [go_sem,fN,seval,true_implies,false_implies,implies_true,dT,dF,nL,hne]
   (try with_reducible refine iC ?_)
   repeat' with_reducible first | refine W ?_ | refine Z0 ?_ | ((first | refine Wo fun K hK=>?_ | refine Wq ?_ | refine Wr ?_);(try simp only [go_sem,fN,seval,eT,iR,e0,e1,e7,e8]);(repeat refine Ai ?_);(try (refine hK _ ?_;clear hK K)))
   refine Ag ⟨l.length - (k + 1),by omega,k + 1,by omega,rfl,?_⟩
   simp only [go_sem,fN,seval,eT,iR,e0,e1,e7,e8]
   congr 3
  ·repeat' with_reducible first | refine W ?_ | refine Z0 ?_ | ((first | refine Wo fun K hK=>?_ | refine Wq ?_ | refine Wr ?_);(try simp only [go_sem,fN,seval,eT,iR,e0,e1,e7,e8,hlt]);(repeat refine Ai ?_);(try (refine hK _ ?_;clear hK K)))
   with_reducible refine Wp ?_
   simp only [go_sem,fN,seval,true_implies,false_implies,implies_true,dT,dF,nL,e0,e1,e7,e8,hlt]
   (try with_reducible refine iC ?_)
   repeat' with_reducible first | refine W ?_ | refine Z0 ?_ | ((first | refine Wo fun K hK=>?_ | refine Wq ?_ | refine Wr ?_);(try simp only [go_sem,fN,seval,eT,iR]);(repeat refine Ai ?_);(try (refine hK _ ?_;clear hK K)))
   simp only [go_sem,fN,seval,AR,AS.result,AB,AE,AQ]
theorem JL (l:List ByteArray) (x:ByteArray):AW Tryz.prog 62 [Eh l,CM x] (CH (I5 x l)):=by
 obtain ⟨i,h1,h2⟩:=TM l x
 refine C_.ac fun C hC=>?_
 unfold Bs
 repeat' (first | (with_reducible first | refine W ?_ | refine Z0 ?_ | ((first | refine Wo fun K hK=>?_ | refine Wq ?_ | refine Wr ?_);(try simp only [go_sem,fN,seval,eT,iR]);(repeat refine Ai ?_);(try (refine hK _ ?_;clear hK K)))) | refine Cg _ (h1) ?_)
 simp only [go_sem,fN,seval,AR,AS.result,AB,AE,AQ]
 congr 4
 cases hi:I5 x l with
 | true=>exact decide_eq_true (h2.2 hi)
 | false =>
  refine decide_eq_false fun h=>?_
  rw [h2.1 h] at hi
  cases hi
mutual
def Tm.beq:Tm→Tm→Bool
 | .mk n xs,.mk m ys=>decide (n=m) && Tm.beqL xs ys
def Tm.beqL:List Tm→List Tm→Bool
 | [],[]=>true
 | x :: xs,y :: ys=>x.beq y && Tm.beqL xs ys
 | _,_=>false
end
def Tm.nil:Tm:=.mk ⟨#[]⟩ []

theorem UT (t:Tm) (hz:t.size≤1000000):AW Tryz.prog 59 [aTm t] (aTm t):=by
 induction h:SizeOf.sizeOf t using Nat.strongRecOn generalizing t with
 | _ N ih =>
 subst h
 have hs:=Tm.size_eq t
 have hkn:=Tm.length_le t.args
 refine LL.ac fun C hC=>?_
 unfold Gy
 repeat' with_reducible first | refine W ?_ | refine Z0 ?_ | ((first | refine Wo fun K hK=>?_ | refine Wq ?_ | refine Wr ?_);(try simp only [go_sem,fN,seval,eT,iR]);(repeat refine Ai ?_);(try (refine hK _ ?_;clear hK K)))
 refine IWP.ghost (Am.ownC 3 1 21 30 2 (xs:=([]:List Tm).map EH) rfl rfl rfl QI) ?_
 refine IWP.loopD [5] (fun m s=>∃ k,k≤t.args.length∧m=t.args.length - k∧s.env 2=.one (.ptr 2 1 0 0)∧s.env 3=.one (.ptr 3 1 0 0)∧s.S 2=some (.box 30 [.st (.str ⟨#[]⟩),.full []])∧s.S 3=some (.box 30 [.st (.str t.name),.row 21 k])∧s.S 21=some (.arow 30 2 ((t.args.take k).map EH))∧s.env 10=.one (.st (.list (t.args.map EH)))∧s.env 11=Ad t.args.length∧s.env 12=Ad k∧s.S 5=none)
  t.args.length ⟨0,Nat.zero_le _,rfl,rfl,rfl,rfl,rfl,rfl,rfl,rfl,rfl,rfl⟩ ?_
 rintro m ⟨env,S⟩ ⟨k,hk,rfl,e2,e3,s2,s3,s21,e10,e11,e12,s5⟩
 simp only at e2 e3 s2 s3 s21 e10 e11 e12 s5
 have hlk:(t.args.take k).length=k:=by rw [List.length_take];omega
 by_cases hlt:(k:Int) < t.args.length
 ·obtain ⟨a,ha⟩:=Bk (show k < t.args.length by omega)
  repeat' with_reducible first | refine W ?_ | refine Z0 ?_ | ((first | refine Wo fun K hK=>?_ | refine Wq ?_ | refine Wr ?_);(try simp only [go_sem,fN,seval,eT,iR,e2,e3,s2,s3,s21,e10,e11,e12,s5,hlt]);(repeat refine Ai ?_);(try (refine hK _ ?_;clear hK K)))
  with_reducible refine Wp ?_
  simp only [go_sem,fN,seval,true_implies,false_implies,implies_true,dT,dF,nL,e10,e11,e12,hlt]
  (try with_reducible refine iC ?_)
  repeat' (first | (with_reducible first | refine W ?_ | refine Z0 ?_ | ((first | refine Wo fun K hK=>?_ | refine Wq ?_ | refine Wr ?_);(try simp only [go_sem,fN,seval,eT,iR,e2,e3,s2,s3,s21,e10,e11,e12,s5,ha,hlk]);(repeat refine Ai ?_);(try (refine hK _ ?_;clear hK K)))) | refine Cg _ (ih _ (Tm.lt_of_arg (Ae ha)) a (by have:=Tm.size_mem (Ae ha);omega) rfl) ?_)
  refine Ag ⟨t.args.length - (k + 1),by omega,k + 1,by omega,rfl,?_⟩
  simp only [go_sem,fN,seval,AS.drop,CN,AC.clears,AC.clear,AC.highs,AC.high,Bool.not_false,Bool.true_and,Bool.and_self,AV.purge,AV.purges,AC.purge,AU.purge,List.contains_cons,List.contains_nil,Nat.reduceBEq,Bool.or_self,Bool.or_false,Bool.false_or,Bool.or_true,eT,iR,e2,e3,s2,s3,s21,e10,e11,e12,s5]
  exact ⟨by rw [B7 ha];simp [HH],by congr 3⟩
 ·repeat' with_reducible first | refine W ?_ | refine Z0 ?_ | ((first | refine Wo fun K hK=>?_ | refine Wq ?_ | refine Wr ?_);(try simp only [go_sem,fN,seval,eT,iR,e2,e3,s2,s3,s21,e10,e11,e12,s5,hlt]);(repeat refine Ai ?_);(try (refine hK _ ?_;clear hK K)))
  with_reducible refine Wp ?_
  simp only [go_sem,fN,seval,true_implies,false_implies,implies_true,dT,dF,nL,e10,e11,e12,hlt]
  (try with_reducible refine iC ?_)
  repeat' with_reducible first | refine W ?_ | refine Z0 ?_ | ((first | refine Wo fun K hK=>?_ | refine Wq ?_ | refine Wr ?_);(try simp only [go_sem,fN,seval,eT,iR,e2,e3,s2,s3,s21,e10,e11,e12,s5]);(repeat refine Ai ?_);(try (refine hK _ ?_;clear hK K)))
  have hall:t.args.take k=t.args:=List.take_of_length_le (by omega)
  rw [hall] at hlk s21
  simp only [go_sem,fN,seval,AR,AS.result,AB,AE,AQ,e2,s2,s21,hlk]

def C4:IR :=
 (.seq (.ops [.i 1 (.box 30 (.t 0)),.i 2 (.mov (.n 0))]) (.seq (.seq (.ops [.f 3 1 1,.l 4 3,.i 5 (.len false (.t 4)),.i 6 (.bin .eql (.t 5) (.n 0))]) (.cond (.t 6) (.seq (.ops [.i 2 (.mov (.n 0))]) .ret) .skip)) (.seq (.seq (.ops [.f 7 0 1,.l 8 7,.i 9 (.bin .neq (.t 8) (.c (.one (.st (.str (ByteArray.mk (#[97,112]))))))),.m 10 9,.mk (some 11) (some (10,false)) (.fieldAddr 1 (.t 1)) .no,.mk (some 12) (some (10,false)) (.load false 1 (.t 11)) .no,.mk (some 13) (some (10,false)) (.len false (.t 12)) .no,.mk (some 14) (some (10,false)) (.bin .neq (.t 13) (.n 2)) .no,.i 15 (.pick (.t 10) (.c (.one (.st (.bool true)))) (.t 14))]) (.cond (.t 15) (.seq (.ops [.i 2 (.mov (.n 2))]) .ret) .skip)) (.seq (.ops [.f 16 1 1,.l 17 16,.i 18 (.indexAddr 2 (.t 17) (.n 0)),.L 19 2 18,.i 20 (.call 43 [.t 19]),.f 21 1 1,.l 22 21,.i 23 (.indexAddr 2 (.t 22) (.n 1)),.L 24 2 23,.i 25 (.call 43 [.t 24]),.i 26 (.mm true (.t 20) (.t 25)),.m 2 26]) .ret))))
theorem Dn:OkF Tryz.prog 43 27 [] C4 [.t 2]:=.of Tryz.func43 rfl rfl (by kernel_rfl) rfl
def GP:IR :=
 (.seq (.ops [.i 1 (.box 30 (.t 0)),.i 2 (.mov (.n 0))]) (.seq (.seq (.ops [.L 4 2 1,.i 5 (.call 42 [.t 4]),.m 3 5]) (.seq (.ops [.m 6 3,.i 7 (.bin .neq (.t 6) (.n 0))]) (.cond (.t 7) (.seq (.ops [.m 8 3,.m 2 8]) .ret) .skip))) (.seq (.ops [.L 9 2 1,.i 10 (.call 43 [.t 9]),.m 2 10]) .ret)))
theorem J_:OkF Tryz.prog 19 11 [] GP [.t 2]:=.of Tryz.func19 rfl rfl (by kernel_rfl) rfl
def JI:IR :=
 (.seq (.ops [.i 2 (.box 30 (.t 0)),.i 3 (.box 30 (.t 1)),.i 4 (.alloc 30 [.st (.str (ByteArray.mk (#[]))),.full []])]) (.seq (.ops [.L 5 2 2,.L 6 2 3,.i 7 (.buildSlice false 30 2 [.t 5,.t 6]),.i 8 (.build [.st (.str (ByteArray.mk (#[]))),.full []] [(0,1,.c (.one (.st (.str (ByteArray.mk (#[97,112])))))),(1,1,.t 7)]),.s 2 4 8]) .ret))
theorem N_:OkF Tryz.prog 36 9 [] JI [.cell 4 true 2]:=.of Tryz.func36 rfl rfl (by kernel_rfl) rfl
def HB:IR :=
 (.seq (.ops [.i 1 (.box 30 (.t 0)),.i 2 (.mov (.n 0))]) (.seq (.ops [.i 3 (.mov (.n 1))]) (.seq (.seq (.ops [.f 6 1 1,.l 7 6,.i 8 (.len false (.t 7)),.i 9 (.mov (.n 0))]) (.block 0 (.loop (.seq (.ops [.i 10 (.bin .lss (.t 9) (.t 8))]) (.seq (.cond (.t 10) .skip (.exit 0)) (.seq (.block 1 (.seq (.ops [.i 11 (.indexAddr 2 (.t 7) (.t 9)),.L 12 2 11,.i 5 (.alloc 30 [.st (.str (ByteArray.mk (#[]))),.full []]),.s 2 5 12]) (.ops [.m 13 3,.L 14 2 5,.i 15 (.call 58 [.t 14]),.i 16 (.bin .add (.t 13) (.t 15)),.m 3 16]))) (.ops [.i 17 (.bin .add (.t 9) (.n 1)),.m 9 17]))))))) (.seq (.ops [.m 18 3,.m 2 18]) .ret))))
theorem LZ:OkF Tryz.prog 58 19 [] HB [.t 2]:=.of Tryz.func58 rfl rfl (by kernel_rfl) rfl

theorem O7 (t:Tm) (hz:t.size≤1000000):AW Tryz.prog 58 [aTm t] (Ad t.size):=by
 induction h:SizeOf.sizeOf t using Nat.strongRecOn generalizing t with
 | _ N ih =>
 subst h
 have hs:=Tm.size_eq t
 have hkn:=Tm.length_le t.args
 refine LZ.ac fun C hC=>?_
 unfold HB
 repeat' with_reducible first | refine W ?_ | refine Z0 ?_ | ((first | refine Wo fun K hK=>?_ | refine Wp ?_ | refine Wq ?_ | refine Wr ?_);(try simp only [go_sem,fN,seval,eT,iR,dT,dF,nL]);(repeat refine Ai ?_);(try (refine hK _ ?_;clear hK K));try refine iC ?_)
 refine IWP.loopD [5] (fun n s=>∃ k,k≤t.args.length∧n=t.args.length - k∧s.env 3=Ad ((1 + Tm.sizes (t.args.take k):Nat))∧s.env 7=.one (.st (.list (t.args.map EH)))∧s.env 8=Ad t.args.length∧s.env 9=Ad k∧s.S 5=none) t.args.length ⟨0,Nat.zero_le _,rfl,rfl,rfl,rfl,rfl,rfl⟩ ?_
 rintro n ⟨env,S⟩ ⟨k,hk,rfl,e3,e7,e8,e9,s5⟩
 simp only at e3 e7 e8 e9 s5
 by_cases hlt:(k:Int) < t.args.length
 ·obtain ⟨a,ha⟩:=Bk (show k < t.args.length by omega)
  have z1:=Tm.sizes_take ha
  have z2:=Tm.sizes_take_le t.args (k + 1)
  have z3:=Tm.size_mem (Ae ha)
  repeat' (first | (with_reducible first | refine W ?_ | refine Z0 ?_ | ((first | refine Wo fun K hK=>?_ | refine Wp ?_ | refine Wq ?_ | refine Wr ?_);(try simp only [go_sem,fN,seval,eT,iR,e3,e7,e8,e9,s5,ha,hlt,dT,dF,nL]);(repeat refine Ai ?_);(try (refine hK _ ?_;clear hK K));try refine iC ?_)) | refine Cg _ (ih _ (Tm.lt_of_arg (Ae ha)) a (by omega) rfl) ?_)
  refine Ag ⟨t.args.length - (k + 1),by omega,k + 1,by omega,rfl,?_⟩
  simp only [go_sem,fN,seval,AS.drop,CN,AC.clears,AC.clear,AC.highs,AC.high,Bool.not_false,Bool.true_and,Bool.and_self,AV.purge,AV.purges,AC.purge,AU.purge,List.contains_cons,List.contains_nil,Nat.reduceBEq,Bool.or_self,Bool.or_false,Bool.false_or,Bool.or_true,eT,iR,e3,e7,e8,e9,s5]
  exact ⟨by rw [z1];congr 3;omega,by congr 3⟩
 ·rw [List.take_of_length_le (by omega),← hs] at e3
  repeat' with_reducible first | refine W ?_ | refine Z0 ?_ | ((first | refine Wo fun K hK=>?_ | refine Wp ?_ | refine Wq ?_ | refine Wr ?_);(try simp only [go_sem,fN,seval,eT,iR,e3,e7,e8,e9,s5,hlt,dT,dF,nL]);(repeat refine Ai ?_);(try (refine hK _ ?_;clear hK K));try refine iC ?_)
  simp only [go_sem,fN,seval,AR,AS.result,AB,AE,AQ,e3]
theorem Kg (f x:Tm):AW Tryz.prog 36 [aTm f,aTm x] (aTm (ap2 f x)):=by
 refine N_.ac fun C hC=>?_
 unfold JI
 repeat' with_reducible first | refine W ?_ | refine Z0 ?_ | ((first | refine Wo fun K hK=>?_ | refine Wp ?_ | refine Wq ?_ | refine Wr ?_);(try simp only [go_sem,fN,seval,eT,iR,dT,dF,nL]);(repeat refine Ai ?_);(try (refine hK _ ?_;clear hK K));try refine iC ?_)
 simp only [go_sem,fN,seval,AR,AS.result,AB,AE,AQ]
 simp [ap2,apS,Tm.name_mk,Tm.args_mk,HH]
def IB (b:Bool):Int:=if b then 0 else 2
theorem UU (t:Tm) (hz:t.size≤1000000):AW Tryz.prog 43 [aTm t] (Ad (IB t.fm)):=by
 induction h:SizeOf.sizeOf t using Nat.strongRecOn generalizing t with
 | _ N ih =>
 subst h
 have hs:=Tm.size_eq t
 have hlen:=Tm.length_le t.args
 rw [Tm.fm_eq]
 by_cases h0:t.args=[]
 ·refine Dn.ac fun C hC=>?_
  unfold C4
  repeat' with_reducible first | refine W ?_ | refine Z0 ?_ | ((first | refine Wo fun K hK=>?_ | refine Wp ?_ | refine Wq ?_ | refine Wr ?_);(try simp only [go_sem,fN,seval,eT,iR,h0,Int.cast_ofNat_Int,dT,dF,nL]);(repeat refine Ai ?_);(try (refine hK _ ?_;clear hK K));try refine iC ?_)
  simp only [go_sem,fN,seval,AR,AS.result,AB,AE,AQ]
  simp [IB,GN,h0,Tm.fms]
 have h0':¬ (t.args.length:Int)=0:=fun e=>h0 (List.eq_nil_of_length_eq_zero (by omega))
 by_cases h1:t.name=apS
 case neg =>
  have h1':¬ t.name=⟨#[97,112]⟩:=h1
  refine Dn.ac fun C hC=>?_
  unfold C4
  repeat' with_reducible first | refine W ?_ | refine Z0 ?_ | ((first | refine Wo fun K hK=>?_ | refine Wp ?_ | refine Wq ?_ | refine Wr ?_);(try simp only [go_sem,fN,seval,eT,iR,h0',h1',dT,dF,nL]);(repeat refine Ai ?_);(try (refine hK _ ?_;clear hK K));try refine iC ?_)
  simp only [go_sem,fN,seval,AR,AS.result,AB,AE,AQ]
  simp [IB,GN,h0,h1]
 case pos =>
 have h1':t.name=⟨#[97,112]⟩:=h1
 by_cases h2:(t.args.length:Int)=2
 case neg =>
  have h2':¬ t.args.length=2:=by omega
  refine Dn.ac fun C hC=>?_
  unfold C4
  repeat' with_reducible first | refine W ?_ | refine Z0 ?_ | ((first | refine Wo fun K hK=>?_ | refine Wp ?_ | refine Wq ?_ | refine Wr ?_);(try simp only [go_sem,fN,seval,eT,iR,h0',h1',h2,dT,dF,nL]);(repeat refine Ai ?_);(try (refine hK _ ?_;clear hK K));try refine iC ?_)
  simp only [go_sem,fN,seval,AR,AS.result,AB,AE,AQ]
  simp [IB,GN,h0,h2']
 case pos =>
 have h2':t.args.length=2:=by omega
 obtain ⟨f,x,hfx⟩:∃ f x,t.args=[f,x]:=by
  match hx:t.args,h2' with
  | [f,x],_=>exact ⟨f,x,rfl⟩
 have hf:f ∈ t.args:=by rw [hfx];simp
 have hx:x ∈ t.args:=by rw [hfx];simp
 have sf:=Tm.size_mem hf
 have sx:=Tm.size_mem hx
 have hone:GN t=true:=by simp [GN,h1,h2']
 rw [hone,hfx]
 refine Dn.ac fun C hC=>?_
 unfold C4
 repeat' (first | (with_reducible first | refine W ?_ | refine Z0 ?_ | ((first | refine Wo fun K hK=>?_ | refine Wp ?_ | refine Wq ?_ | refine Wr ?_);(try simp only [go_sem,fN,seval,eT,iR,hfx,h1',Int.cast_ofNat_Int,dT,dF,nL]);(repeat refine Ai ?_);(try (refine hK _ ?_;clear hK K));try refine iC ?_)) | refine Cg _ (ih _ (Tm.lt_of_arg hf) f (by omega) rfl) ?_)
 refine ⟨_,ih _ (Tm.lt_of_arg hx) x (by omega) rfl,?_⟩
 cases q1:f.fm <;> cases q2:x.fm
 all_goals
  repeat' with_reducible first | refine W ?_ | refine Z0 ?_ | ((first | refine Wo fun K hK=>?_ | refine Wp ?_ | refine Wq ?_ | refine Wr ?_);(try simp only [go_sem,fN,seval,eT,iR,IB,dT,dF,nL]);(repeat refine Ai ?_);(try (refine hK _ ?_;clear hK K));try refine iC ?_)
  simp only [go_sem,fN,seval,AR,AS.result,AB,AE,AQ]
  simp [IB,Tm.fms,q1,q2]
def Dl (t:Tm):Int:=if t.may=0 then IB t.fm else t.may
theorem Fj (t:Tm):AW Tryz.prog 19 [aTm t] (Ad (Dl t)):=by
 refine J_.ac fun C hC=>?_
 unfold GP
 unfold Dl
 by_cases h:t.may=0
 ·have hz:t.size≤200:=by
   unfold Tm.may at h
   split at h <;> omega
  rw [if_pos h]
  repeat' (first | (with_reducible first | refine W ?_ | refine Z0 ?_ | ((first | refine Wo fun K hK=>?_ | refine Wp ?_ | refine Wq ?_ | refine Wr ?_);(try simp only [go_sem,fN,seval,eT,iR,h,dT,dF,nL]);(repeat refine Ai ?_);(try (refine hK _ ?_;clear hK K));try refine iC ?_)) | refine Cg _ (MY t) ?_ | refine Cg _ (UU t (by omega)) ?_)
  simp only [go_sem,fN,seval,AR,AS.result,AB,AE,AQ]
 ·rw [if_neg h]
  repeat' (first | (with_reducible first | refine W ?_ | refine Z0 ?_ | ((first | refine Wo fun K hK=>?_ | refine Wp ?_ | refine Wq ?_ | refine Wr ?_);(try simp only [go_sem,fN,seval,eT,iR,h,dT,dF,nL]);(repeat refine Ai ?_);(try (refine hK _ ?_;clear hK K));try refine iC ?_)) | refine Cg _ (MY t) ?_)
  simp only [go_sem,fN,seval,AR,AS.result,AB,AE,AQ]
theorem Si {t:Tm} (h:t.may=0):t.size≤200:=by
 unfold Tm.may at h
 split at h <;> omega

def Gp:IR :=
 (.seq (.ops [.i 2 (.alloc 30 [.st (.str (ByteArray.mk (#[]))),.full []])]) (.seq (.ops [.m 3 0,.i 4 (.build [.st (.str (ByteArray.mk (#[]))),.full []] [(0,1,.t 3)]),.s 2 2 4]) .ret))
theorem Le:OkF Tryz.prog 32 5 [] Gp [.cell 2 true 2]:=.of Tryz.func32 rfl rfl (by kernel_rfl) rfl
def FU:IR :=
 (.seq (.ops [.i 2 (.box 30 (.t 0)),.i 3 (.box 9 (.t 1)),.i 4 (.mov (.c (.one (.st (.bool false)))))]) (.seq (.ops [.f 5 0 2,.l 6 5,.l 7 3,.i 8 (.bin .eql (.t 6) (.t 7)),.m 9 8,.mk (some 10) (some (9,false)) (.fieldAddr 1 (.t 2)) .no,.mk (some 11) (some (9,false)) (.load false 1 (.t 10)) .no,.mk (some 12) (some (9,false)) (.makeFunc 79 [.t 3]) .no,.mk (some 13) (some (9,false)) (.callS 78 [.t 11,.t 12]) .no,.i 14 (.pick (.t 9) (.c (.one (.st (.bool true)))) (.t 13)),.m 4 14]) .ret))
theorem H8:OkF Tryz.prog 60 15 [13] FU [.t 4]:=.of Tryz.func60 rfl rfl (by kernel_rfl) rfl
def GK:IR :=
 (.seq (.ops [.i 2 (.box 30 (.t 0)),.i 3 (.mov (.c (.one (.st (.bool false)))))]) (.seq (.ops [.L 4 2 2,.l 5 1,.i 6 (.call 60 [.t 4,.t 5]),.m 3 6]) .ret))
theorem KF:OkF Tryz.prog 79 7 [] GK [.t 3]:=.of Tryz.func79 rfl rfl (by kernel_rfl) rfl
def Au:IR :=
 (.seq (.ops [.i 4 (.mov (.c (.one (.st (.bool false)))))]) (.seq (.ops [.m 5 0,.m 6 1,.i 7 (.callS 95 [.t 5,.t 6]),.i 8 (.bin .geq (.t 7) (.n 0)),.m 4 8]) .ret))
theorem BN:OkF Tryz.prog 78 9 [7] Au [.t 4]:=.of Tryz.func78 rfl rfl (by kernel_rfl) rfl
def Aw:IR :=
 (.seq (.ops [.i 4 (.mov (.n 0))]) (.seq (.seq (.ops [.m 6 0,.i 7 (.len false (.t 6)),.i 8 (.mov (.n 0))]) (.block 0 (.loop (.seq (.ops [.i 9 (.bin .lss (.t 8) (.t 7))]) (.seq (.cond (.t 9) .skip (.exit 0)) (.seq (.block 1 (.seq (.ops [.m 10 8,.m 5 10]) (.seq (.ops [.m 11 1,.m 12 0,.m 13 5,.i 14 (.indexAddr 2 (.t 12) (.t 13)),.L 15 2 14,.i 16 (.callV (.t 11) [.t 15])]) (.cond (.t 16) (.seq (.ops [.m 17 5,.m 4 17]) .ret) .skip)))) (.ops [.i 18 (.bin .add (.t 8) (.n 1)),.m 8 18]))))))) (.seq (.ops [.i 4 (.mov (.c (.one (.st (.int .i64 (-1))))))]) .ret)))
theorem BV:OkF Tryz.prog 95 19 [] Aw [.t 4]:=.of Tryz.func95 rfl rfl (by kernel_rfl) rfl
def Bl:IR :=
 (.seq (.ops [.i 3 (.box 30 (.t 1)),.i 4 (.alloc 30 [.st (.str (ByteArray.mk (#[]))),.full []])]) (.seq (.block 0 (.seq (.ops [.L 6 2 3,.m 7 0,.i 8 (.call 60 [.t 6,.t 7]),.i 9 (.un .not (.t 8)),.m 5 9]) (.cond (.t 5) (.seq (.ops [.i 10 (.call 32 [.c (.one (.st (.str (ByteArray.mk (#[107])))))]),.L 11 2 3,.i 12 (.call 36 [.t 10,.t 11]),.s 2 4 12]) .ret) (.seq (.ops [.f 14 0 3,.l 15 14,.m 16 0,.i 17 (.bin .eql (.t 15) (.t 16)),.m 13 17]) (.cond (.t 13) (.seq (.ops [.i 18 (.call 32 [.c (.one (.st (.str (ByteArray.mk (#[105])))))]),.s 2 4 18]) .ret) (.seq (.ops [.f 20 1 3,.l 21 20,.i 22 (.indexAddr 2 (.t 21) (.n 1)),.f 23 0 22,.l 24 23,.m 25 0,.i 26 (.bin .eql (.t 24) (.t 25)),.m 27 26,.mk (some 28) (some (27,true)) (.fieldAddr 1 (.t 3)) .no,.mk (some 29) (some (27,true)) (.load false 1 (.t 28)) .no,.mk (some 30) (some (27,true)) (.indexAddr 2 (.t 29) (.n 0)) .no,.mk (some 31) (some (27,true)) (.load true 2 (.t 30)) .no,.mk (some 32) (some (27,true)) (.mov (.t 0)) .no,.mk (some 33) (some (27,true)) (.call 60 [.t 31,.t 32]) .no,.mk (some 34) (some (27,true)) (.un .not (.t 33)) .no,.i 35 (.pick (.t 27) (.t 34) (.c (.one (.st (.bool false))))),.m 19 35]) (.cond (.t 19) (.seq (.ops [.f 36 1 3,.l 37 36,.i 38 (.indexAddr 2 (.t 37) (.n 0)),.L 39 2 38,.s 2 4 39]) .ret) .skip))))))) (.seq (.ops [.i 40 (.call 32 [.c (.one (.st (.str (ByteArray.mk (#[115])))))]),.m 41 0,.f 42 1 3,.l 43 42,.i 44 (.indexAddr 2 (.t 43) (.n 0)),.L 45 2 44,.i 46 (.call 35 [.t 41,.t 45]),.i 47 (.call 36 [.t 40,.t 46]),.m 48 0,.f 49 1 3,.l 50 49,.i 51 (.indexAddr 2 (.t 50) (.n 1)),.L 52 2 51,.i 53 (.call 35 [.t 48,.t 52]),.i 54 (.call 36 [.t 47,.t 53]),.s 2 4 54]) .ret)))
theorem CJ:OkF Tryz.prog 35 55 [] Bl [.cell 4 true 2]:=.of Tryz.func35 rfl rfl (by kernel_rfl) rfl
def Hx:IR :=
 (.seq (.ops [.i 1 (.box 30 (.t 0)),.i 2 (.alloc 30 [.st (.str (ByteArray.mk (#[]))),.full []]),.i 3 (.mov (.n 0))]) (.seq (.seq (.ops [.L 4 2 1,.i 5 (.call 58 [.t 4]),.i 6 (.bin .gtr (.t 5) (.n 2000))]) (.cond (.t 6) (.seq (.ops [.i 7 (.build [.st (.str (ByteArray.mk (#[]))),.full []] []),.s 2 2 7,.i 3 (.mov (.n 8))]) .ret) .skip)) (.seq (.ops [.L 8 2 1,.i 9 (.call 59 [.t 8]),.s 2 2 9,.i 3 (.mov (.n 0))]) .ret)))
theorem Mw:OkF Tryz.prog 34 10 [] Hx [.cell 2 true 2,.t 3]:=.of Tryz.func34 rfl rfl (by kernel_rfl) rfl
def E8:IR :=
 (.seq (.ops [.i 2 (.mov (.c (.one (.st (.str (ByteArray.mk (#[])))))))]) (.seq (.ops [.m 3 0,.i 4 (.call 57 [.t 3]),.m 2 4]) .ret))
theorem IF:OkF Tryz.prog 33 5 [] E8 [.t 2]:=.of Tryz.func33 rfl rfl (by kernel_rfl) rfl
def Cd:IR :=
 (.seq (.ops [.i 2 (.mov (.c (.one (.st (.str (ByteArray.mk (#[])))))))]) (.seq (.ops [.m 3 0,.i 4 (.call 77 [.t 3,.n 10]),.m 2 4]) .ret))
theorem EG:OkF Tryz.prog 57 5 [] Cd [.t 2]:=.of Tryz.func57 rfl rfl (by kernel_rfl) rfl
def CB:IR :=
 (.seq (.ops [.i 4 (.mov (.c (.one (.st (.str (ByteArray.mk (#[])))))))]) (.seq (.seq (.ops [.m 10 1,.i 11 (.bin .eql (.t 10) (.n 10))]) (.cond (.t 11) (.seq (.seq (.ops [.m 12 0,.i 13 (.bin .leq (.n 0) (.t 12)),.m 14 13,.mk (some 15) (some (14,true)) (.mov (.t 0)) .no,.mk (some 16) (some (14,true)) (.bin .lss (.t 15) (.n 100)) .no,.i 17 (.pick (.t 14) (.t 16) (.c (.one (.st (.bool false)))))]) (.cond (.t 17) (.seq (.ops [.m 18 0,.i 19 (.call 91 [.t 18]),.m 4 19]) .ret) .skip)) (.seq (.ops [.i 5 (.alloc 120 [.st (.int .u8 0),.st (.int .u8 0),.st (.int .u8 0),.st (.int .u8 0),.st (.int .u8 0),.st (.int .u8 0),.st (.int .u8 0),.st (.int .u8 0),.st (.int .u8 0),.st (.int .u8 0),.st (.int .u8 0),.st (.int .u8 0),.st (.int .u8 0),.st (.int .u8 0),.st (.int .u8 0),.st (.int .u8 0),.st (.int .u8 0),.st (.int .u8 0),.st (.int .u8 0),.st (.int .u8 0),.st (.int .u8 0),.st (.int .u8 0),.st (.int .u8 0),.st (.int .u8 0)])]) (.seq (.ops [.m 20 0,.i 21 (.conv .u64 (.t 20)),.m 6 21]) (.seq (.seq (.ops [.m 22 0,.i 23 (.bin .lss (.t 22) (.n 0))]) (.cond (.t 23) (.ops [.m 24 6,.i 25 (.un .neg (.t 24)),.m 6 25]) .skip)) (.seq (.ops [.m 26 6,.i 27 (.call 92 [.t 26]),.m 7 27]) (.seq (.ops [.m 28 7,.i 29 (.bin .add (.n 1) (.t 28)),.i 30 .never,.m 31 6,.i 32 (.call 93 [.t 30,.t 31])]) (.seq (.seq (.ops [.m 33 0,.i 34 (.bin .lss (.t 33) (.n 0))]) (.cond (.t 34) (.seq (.ops [.i 35 (.indexArr 24 1 (.t 5) (.n 0)),.mk none none (.store 1 (.t 35) (.c (.one (.st (.int .u8 45))))) .no]) (.seq (.ops [.m 36 7,.i 37 (.bin .add (.n 1) (.t 36)),.i 38 .never,.i 39 (.strOf false (.t 38)),.m 4 39]) .ret)) .skip)) (.seq (.ops [.m 40 7,.i 41 (.bin .add (.n 1) (.t 40)),.i 42 .never,.i 43 (.strOf false (.t 42)),.m 4 43]) .ret)))))))) .skip)) (.seq (.ops [.m 45 0,.i 46 (.conv .u64 (.t 45)),.m 47 1,.m 48 0,.i 49 (.bin .lss (.t 48) (.n 0)),.i 50 (.call 94 [.c (.one (.full [])),.t 46,.t 47,.t 49,.c (.one (.st (.bool false)))]),.m 44 50,.i 51 (.extract 0 (.t 44)),.i 52 (.extract 1 (.t 44)),.m 8 51,.m 9 52]) (.seq (.ops [.m 53 9,.m 4 53]) .ret))))
theorem DZ:OkF Tryz.prog 77 54 [] CB [.t 4]:=.of Tryz.func77 rfl rfl (by kernel_rfl) rfl
def CY:IR :=
 (.seq (.ops [.i 2 (.mov (.c (.one (.st (.str (ByteArray.mk (#[])))))))]) (.seq (.seq (.ops [.m 3 0,.i 4 (.bin .lss (.t 3) (.n 10))]) (.cond (.t 4) (.seq (.ops [.m 5 0,.m 6 0,.i 7 (.bin .add (.t 6) (.n 1)),.i 8 (.sliceS (.c (.one (.st (.str (ByteArray.mk (#[48,49,50,51,52,53,54,55,56,57,97,98,99,100,101,102,103,104,105,106,107,108,109,110,111,112,113,114,115,116,117,118,119,120,121,122])))))) (some (.t 5)) (some (.t 7))),.m 2 8]) .ret) .skip)) (.seq (.ops [.m 9 0,.i 10 (.bin .mul (.t 9) (.n 2)),.m 11 0,.i 12 (.bin .mul (.t 11) (.n 2)),.i 13 (.bin .add (.t 12) (.n 2)),.i 14 (.sliceS (.c (.one (.st (.str (ByteArray.mk (Array.mk [48,48,48,49,48,50,48,51,48,52,48,53,48,54,48,55,48,56,48,57,49,48,49,49,49,50,49,51,49,52,49,53,49,54,49,55,49,56,49,57,50,48,50,49,50,50,50,51,50,52,50,53,50,54,50,55,50,56,50,57,51,48,51,49,51,50,51,51,51,52,51,53,51,54,51,55,51,56,51,57,52,48,52,49,52,50,52,51,52,52,52,53,52,54,52,55,52,56,52,57,53,48,53,49,53,50,53,51,53,52,53,53,53,54,53,55,53,56,53,57,54,48,54,49,54,50,54,51,54,52,54,53,54,54,54,55,54,56,54,57,55,48,55,49,55,50,55,51,55,52,55,53,55,54,55,55,55,56,55,57,56,48,56,49,56,50,56,51,56,52,56,53,56,54,56,55,56,56,56,57,57,48,57,49,57,50,57,51,57,52,57,53,57,54,57,55,57,56,57,57])))))) (some (.t 10)) (some (.t 13))),.m 2 14]) .ret)))
theorem D4:OkF Tryz.prog 91 15 [] CY [.t 2]:=.of Tryz.func91 rfl rfl (by kernel_rfl) rfl
def Br:IR :=
 (.seq (.ops [.i 2 (.box 25 (.t 0)),.i 4 (.alloc 30 [.st (.str (ByteArray.mk (#[]))),.full []]),.i 5 (.mov (.n 0))]) (.seq (.seq (.ops [.f 11 0 2,.l 12 11]) (.block 0 (.seq (.ops [.i 14 (.bin .eql (.t 12) (.n 1)),.m 13 14]) (.cond (.t 13) (.seq (.ops [.m 15 1,.i 16 (.bin .sub (.t 15) (.n 1)),.f 17 1 2,.l 18 17,.i 19 (.bin .sub (.t 16) (.t 18)),.i 20 (.call 33 [.t 19]),.i 21 (.bin .add (.c (.one (.st (.str (ByteArray.mk (#[86])))))) (.t 20)),.i 22 (.call 32 [.t 21]),.s 2 4 22,.i 5 (.mov (.n 0))]) .ret) (.seq (.ops [.i 24 (.bin .eql (.t 12) (.n 4)),.m 23 24]) (.cond (.t 23) (.seq (.ops [.f 25 1 2,.l 26 25,.i 27 (.call 33 [.t 26]),.i 28 (.bin .add (.c (.one (.st (.str (ByteArray.mk (#[99])))))) (.t 27)),.i 29 (.call 32 [.t 28]),.s 2 4 29,.i 5 (.mov (.n 0))]) .ret) (.seq (.ops [.i 31 (.bin .eql (.t 12) (.n 2)),.m 30 31]) (.cond (.t 30) (.seq (.ops [.f 33 2 2,.l 34 33,.i 35 (.indexAddr 3 (.t 34) (.n 0)),.L 36 3 35,.m 37 1,.i 38 (.bin .add (.t 37) (.n 1)),.i 39 (.call 16 [.t 36,.t 38]),.m 32 39,.i 40 (.extract 0 (.t 32)),.i 41 (.extract 1 (.t 32)),.i 6 (.alloc 30 [.st (.str (ByteArray.mk (#[]))),.full []]),.s 2 6 40,.m 7 41]) (.seq (.seq (.ops [.m 42 7,.i 43 (.bin .neq (.t 42) (.n 0))]) (.cond (.t 43) (.seq (.ops [.i 44 (.build [.st (.str (ByteArray.mk (#[]))),.full []] []),.m 45 7,.s 2 4 44,.m 5 45]) .ret) .skip)) (.seq (.ops [.m 46 1,.i 47 (.call 33 [.t 46]),.i 48 (.bin .add (.c (.one (.st (.str (ByteArray.mk (#[86])))))) (.t 47)),.L 49 2 6,.i 50 (.call 35 [.t 48,.t 49]),.i 51 (.call 34 [.t 50]),.i 52 (.extract 0 (.t 51)),.i 53 (.extract 1 (.t 51)),.s 2 4 52,.m 5 53]) .ret))) .skip)))))))) (.seq (.ops [.f 55 2 2,.l 56 55,.i 57 (.indexAddr 3 (.t 56) (.n 0)),.L 58 3 57,.m 59 1,.i 60 (.call 16 [.t 58,.t 59]),.m 54 60,.i 61 (.extract 0 (.t 54)),.i 62 (.extract 1 (.t 54)),.i 8 (.alloc 30 [.st (.str (ByteArray.mk (#[]))),.full []]),.s 2 8 61,.m 9 62]) (.seq (.seq (.ops [.m 63 9,.i 64 (.bin .neq (.t 63) (.n 0))]) (.cond (.t 64) (.seq (.ops [.i 65 (.build [.st (.str (ByteArray.mk (#[]))),.full []] []),.m 66 9,.s 2 4 65,.m 5 66]) .ret) .skip)) (.seq (.ops [.f 68 2 2,.l 69 68,.i 70 (.indexAddr 3 (.t 69) (.n 1)),.L 71 3 70,.m 72 1,.i 73 (.call 16 [.t 71,.t 72]),.m 67 73,.i 74 (.extract 0 (.t 67)),.i 75 (.extract 1 (.t 67)),.i 10 (.alloc 30 [.st (.str (ByteArray.mk (#[]))),.full []]),.s 2 10 74,.m 9 75]) (.seq (.seq (.ops [.m 76 9,.i 77 (.bin .neq (.t 76) (.n 0))]) (.cond (.t 77) (.seq (.ops [.i 78 (.build [.st (.str (ByteArray.mk (#[]))),.full []] []),.m 79 9,.s 2 4 78,.m 5 79]) .ret) .skip)) (.seq (.ops [.L 80 2 8,.L 81 2 10,.i 82 (.call 36 [.t 80,.t 81]),.i 83 (.call 34 [.t 82]),.i 84 (.extract 0 (.t 83)),.i 85 (.extract 1 (.t 83)),.s 2 4 84,.m 5 85]) .ret)))))))
theorem CD:OkF Tryz.prog 16 86 [] Br [.cell 4 true 2,.t 5]:=.of Tryz.func16 rfl rfl (by kernel_rfl) rfl
def HJ:IR :=
 (.seq (.ops [.i 1 (.box 25 (.t 0)),.i 2 (.alloc 30 [.st (.str (ByteArray.mk (#[]))),.full []]),.i 3 (.mov (.n 0))]) (.seq (.seq (.ops [.L 5 3 1,.i 6 (.call 15 [.t 5,.n 0]),.m 4 6]) (.seq (.ops [.m 7 4,.i 8 (.bin .neq (.t 7) (.n 0))]) (.cond (.t 8) (.seq (.ops [.i 9 (.build [.st (.str (ByteArray.mk (#[]))),.full []] []),.m 10 4,.s 2 2 9,.m 3 10]) .ret) .skip))) (.seq (.ops [.L 11 3 1,.i 12 (.call 16 [.t 11,.n 0]),.i 13 (.extract 0 (.t 12)),.i 14 (.extract 1 (.t 12)),.s 2 2 13,.m 3 14]) .ret)))
theorem Lb:OkF Tryz.prog 6 15 [] HJ [.cell 2 true 2,.t 3]:=.of Tryz.func6 rfl rfl (by kernel_rfl) rfl

def So (v:ByteArray):List Tm→Nat
 | []=>0
 | t :: ts=>if t.hasN v=true then 0 else So v ts + 1
theorem TE {v:ByteArray} {xs:List Tm} {k:Nat} {a:Tm} (ha:xs[k]?=some a) (h:Tm.hasNs v (xs.take k)=false) (hy:a.hasN v=true):So v xs=k:=by
 induction xs generalizing k with
 | nil=>simp at ha
 | cons x xs ih =>
  cases k with
  | zero =>
   have:x=a:=by simpa using ha
   subst this
   rw [So,if_pos hy]
  | succ k =>
   rw [List.take_succ_cons,Tm.hasNs,Bool.or_eq_false_iff] at h
   rw [So,if_neg (by rw [h.1];decide),ih (by simpa using ha) h.2]
def Lk (v:ByteArray) (xs:List Tm):Int:=if Tm.hasNs v xs=true then So v xs else -1
theorem Q5 (v:ByteArray) (xs:List Tm):0≤Lk v xs ↔ Tm.hasNs v xs=true:=by
 unfold Lk
 split <;> simp_all
theorem Q3 (v:ByteArray) (a:Tm) (hh:AW Tryz.prog 60 [aTm a,CM v] (CH (a.hasN v))) (b:Nat) (hb:1000≤b) (S:AA) (sb:S b=some (.box 9 [.st (.str v)])) :
  Ay Tryz.prog 79 [aTm a,.one (.ptr b 1 0 0)] S (CH (a.hasN v)) S:=by
 refine KF.acS fun hS C hC=>?_
 unfold GK
 have s2:S 2=none:=AY hS (by omega)
 have b2:¬ b=2:=by omega
 repeat' (first | (with_reducible first | refine W ?_ | refine Z0 ?_ | ((first | refine Wo fun K hK=>?_ | refine Wp ?_ | refine Wq ?_ | refine Wr ?_);(try simp only [go_sem,fN,seval,eT,iR,s2,sb,b2,dT,dF,nL]);(repeat refine Ai ?_);(try (refine hK _ ?_;clear hK K));try refine iC ?_)) | refine Cg _ (hh) ?_)
 refine CL (CH (a.hasN v)) hS trivial ?_ ?_ fun j hj=>?_
 ·rfl
 ·rfl
 ·have j2:¬ j=2:=by omega
  simp only [AK,j2,if_false]
theorem NE (v:ByteArray) (xs:List Tm) (hh:∀ a ∈ xs,AW Tryz.prog 60 [aTm a,CM v] (CH (a.hasN v))) (hl:xs.length≤1000000) (b:Nat) (hb:1000≤b) (S:AA) (sb:S b=some (.box 9 [.st (.str v)])) :
  Ay Tryz.prog 95 [UN xs,.one (.fn 79 [.ptr b 1 0 0])] S (Ad (Lk v xs)) S:=by
 refine BV.acS fun hS C hC=>?_
 unfold Aw
 repeat' with_reducible first | refine W ?_ | refine Z0 ?_ | ((first | refine Wo fun K hK=>?_ | refine Wp ?_ | refine Wq ?_ | refine Wr ?_);(try simp only [go_sem,fN,seval,eT,iR,dT,dF,nL]);(repeat refine Ai ?_);(try (refine hK _ ?_;clear hK K));try refine iC ?_)
 refine IWP.loop (fun n s=>∃ k,k≤xs.length∧n=xs.length - k∧Tm.hasNs v (xs.take k)=false∧s.env 0=UN xs∧s.env 1=.one (.fn 79 [.ptr b 1 0 0])∧s.env 7=Ad xs.length∧s.env 8=Ad k∧s.S=S) xs.length ⟨0,Nat.zero_le _,rfl,rfl,rfl,rfl,rfl,rfl,rfl⟩ ?_
 rintro n ⟨env,S'⟩ ⟨k,hk,rfl,hp,e0,e1,e7,e8,eS⟩
 simp only at e0 e1 e7 e8 eS
 subst eS
 by_cases hlt:(k:Int) < xs.length
 ·obtain ⟨a,ha⟩:=Bk (show k < xs.length by omega)
  repeat' with_reducible first | refine W ?_ | refine Z0 ?_ | ((first | refine Wo fun K hK=>?_ | refine Wp ?_ | refine Wq ?_ | refine Wr ?_);(try simp only [go_sem,fN,seval,eT,iR,e0,e1,e7,e8,hlt,ha,dT,dF,nL]);(repeat refine Ai ?_);(try (refine hK _ ?_;clear hK K));try refine iC ?_)
  first | refine ⟨by kernel_rfl,_,_,Q3 v a (hh a (Ae ha)) (up1 b) (AL b) (upS S') (by rw [C5,sb];rfl),?_⟩ | refine ⟨_,_,Q3 v a (hh a (Ae ha)) (up1 b) (AL b) (upS S') (by rw [C5,sb];rfl),?_⟩
  by_cases hr:a.hasN v=true
  ·have hi:Lk v xs=k:=by
    unfold Lk
    rw [if_pos (Tm.hasNs_yes (k:=k + 1) (by rw [Tm.hasNs_take ha hp,hr])),TE ha hp hr]
   repeat' with_reducible first | refine W ?_ | refine Z0 ?_ | ((first | refine Wo fun K hK=>?_ | refine Wp ?_ | refine Wq ?_ | refine Wr ?_);(try simp only [go_sem,fN,seval,eT,iR,e0,e1,e7,e8,hr,dT,dF,nL]);(repeat refine Ai ?_);(try (refine hK _ ?_;clear hK K));try refine iC ?_)
   refine CL (Ad (Lk v xs)) hS trivial ?_ ?_ fun j hj=>?_
   ·simp [AB,AE,AQ,AK,hi]
   ·rfl
   ·rfl
  ·have hr':a.hasN v=false:=by simpa using hr
   repeat' with_reducible first | refine W ?_ | refine Z0 ?_ | ((first | refine Wo fun K hK=>?_ | refine Wp ?_ | refine Wq ?_ | refine Wr ?_);(try simp only [go_sem,fN,seval,eT,iR,e0,e1,e7,e8,hr',dT,dF,nL]);(repeat refine Ai ?_);(try (refine hK _ ?_;clear hK K));try refine iC ?_)
   refine Ag ⟨xs.length - (k + 1),by omega,k + 1,by omega,rfl,?_⟩
   simp only [go_sem,fN,seval,eT,iR,e0,e1,e7,e8]
   exact ⟨by rw [Tm.hasNs_take ha hp,hr'],by congr 3⟩
 ·rw [List.take_of_length_le (by omega)] at hp
  have hi:Lk v xs=-1:=by
   unfold Lk
   rw [if_neg (by rw [hp];decide)]
  repeat' with_reducible first | refine W ?_ | refine Z0 ?_ | ((first | refine Wo fun K hK=>?_ | refine Wp ?_ | refine Wq ?_ | refine Wr ?_);(try simp only [go_sem,fN,seval,eT,iR,e0,e1,e7,e8,hlt,dT,dF,nL]);(repeat refine Ai ?_);(try (refine hK _ ?_;clear hK K));try refine iC ?_)
  refine CL (Ad (Lk v xs)) hS trivial ?_ ?_ fun j hj=>?_
  ·simp [AB,AE,AQ,AK,hi]
  ·rfl
  ·rfl
theorem I2 (v:ByteArray) (xs:List Tm) (hh:∀ a ∈ xs,AW Tryz.prog 60 [aTm a,CM v] (CH (a.hasN v))) (hl:xs.length≤1000000) (b:Nat) (hb:1000≤b) (S:AA) (sb:S b=some (.box 9 [.st (.str v)])) :
  Ay Tryz.prog 78 [UN xs,.one (.fn 79 [.ptr b 1 0 0])] S (CH (Tm.hasNs v xs)) S:=by
 refine BN.acS fun hS C hC=>?_
 unfold Au
 repeat' with_reducible first | refine W ?_ | refine Z0 ?_ | ((first | refine Wo fun K hK=>?_ | refine Wp ?_ | refine Wq ?_ | refine Wr ?_);(try simp only [go_sem,fN,seval,eT,iR,dT,dF,nL]);(repeat refine Ai ?_);(try (refine hK _ ?_;clear hK K));try refine iC ?_)
 refine ⟨_,_,NE v xs hh hl (up1 b) (AL b) (upS S) (by rw [C5,sb];rfl),?_⟩
 have hi:=Q5 v xs
 repeat' with_reducible first | refine W ?_ | refine Z0 ?_ | ((first | refine Wo fun K hK=>?_ | refine Wp ?_ | refine Wq ?_ | refine Wr ?_);(try simp only [go_sem,fN,seval,eT,iR,hi,dT,dF,nL]);(repeat refine Ai ?_);(try (refine hK _ ?_;clear hK K));try refine iC ?_)
 refine CL (CH (Tm.hasNs v xs)) hS trivial ?_ ?_ fun j hj=>?_
 ·simp [AB,AE,AQ,AK]
 ·rfl
 ·rfl
theorem Ga (v:ByteArray) (t:Tm) (hz:t.size≤1000000):AW Tryz.prog 60 [aTm t,CM v] (CH (t.hasN v)):=by
 induction h:SizeOf.sizeOf t using Nat.strongRecOn generalizing t with
 | _ N ih =>
 subst h
 have hs:=Tm.size_eq t
 have hlen:=Tm.length_le t.args
 rw [Tm.hasN_eq]
 by_cases h1:t.name=v
 ·refine H8.ac fun C hC=>?_
  unfold FU
  repeat' with_reducible first | refine W ?_ | refine Z0 ?_ | ((first | refine Wo fun K hK=>?_ | refine Wp ?_ | refine Wq ?_ | refine Wr ?_);(try simp only [go_sem,fN,seval,eT,iR,h1,dT,dF,nL]);(repeat refine Ai ?_);(try (refine hK _ ?_;clear hK K));try refine iC ?_)
  simp only [go_sem,fN,seval,AR,AS.result,AB,AE,AQ,h1]
  try simp
 ·refine H8.ac fun C hC=>?_
  unfold FU
  repeat' with_reducible first | refine W ?_ | refine Z0 ?_ | ((first | refine Wo fun K hK=>?_ | refine Wp ?_ | refine Wq ?_ | refine Wr ?_);(try simp only [go_sem,fN,seval,eT,iR,h1,dT,dF,nL]);(repeat refine Ai ?_);(try (refine hK _ ?_;clear hK K));try refine iC ?_)
  refine ⟨_,_,I2 v t.args (fun a ha=>ih _ (Tm.lt_of_arg ha) a (by have:=Tm.size_mem ha;omega) rfl) (by omega) (up1 3) (AL 3) _ (by rw [C5];rfl),?_⟩
  repeat' with_reducible first | refine W ?_ | refine Z0 ?_ | ((first | refine Wo fun K hK=>?_ | refine Wp ?_ | refine Wq ?_ | refine Wr ?_);(try simp only [go_sem,fN,seval,eT,iR,h1,dT,dF,nL]);(repeat refine Ai ?_);(try (refine hK _ ?_;clear hK K));try refine iC ?_)
  simp only [go_sem,fN,seval,AR,AS.result,AB,AE,AQ,h1]
  try simp [h1]

set_option maxHeartbeats 1000000
set_option maxRecDepth 100000 in
theorem Su (n:Nat) (h:n < 100):AW Tryz.prog 91 [Ad n] (CM (BT n)):=by
 refine D4.ac fun C hC=>?_
 unfold CY
 by_cases h1:(n:Int) < 10
 ·have h2:n < 10:=by omega
  have h3:((n:Int) + 1).toNat=n + 1:=by omega
  repeat' with_reducible first | refine W ?_ | refine Z0 ?_ | ((first | refine Wo fun K hK=>?_ | refine Wp ?_ | refine Wq ?_ | refine Wr ?_);(try simp only [go_sem,fN,seval,eT,iR,h1,List.size_toArray,h3,dT,dF,nL]);(repeat refine Ai ?_);(try (refine hK _ ?_;clear hK K));try refine iC ?_)
  simp only [go_sem,fN,seval,AR,AS.result,AB,AE,AQ]
  congr 3
  clear h1 h3 h
  revert n
  decide +kernel
 ·have h2:¬ n < 10:=by omega
  have h3:((n:Int) * 2).toNat=n * 2:=by omega
  have h4:((n:Int) * 2 + 2).toNat=n * 2 + 2:=by omega
  repeat' with_reducible first | refine W ?_ | refine Z0 ?_ | ((first | refine Wo fun K hK=>?_ | refine Wp ?_ | refine Wq ?_ | refine Wr ?_);(try simp only [go_sem,fN,seval,eT,iR,h1,List.size_toArray,h3,h4,dT,dF,nL]);(repeat refine Ai ?_);(try (refine hK _ ?_;clear hK K));try refine iC ?_)
  simp only [go_sem,fN,seval,AR,AS.result,AB,AE,AQ]
  congr 3
  clear h1 h3 h4
  revert h2
  revert n
  decide +kernel
theorem Fv (n:ByteArray):AW Tryz.prog 32 [CM n] (aTm (BB n)):=by
 refine Le.ac fun C hC=>?_
 unfold Gp
 repeat' with_reducible first | refine W ?_ | refine Z0 ?_ | ((first | refine Wo fun K hK=>?_ | refine Wp ?_ | refine Wq ?_ | refine Wr ?_);(try simp only [go_sem,fN,seval,eT,iR,dT,dF,nL]);(repeat refine Ai ?_);(try (refine hK _ ?_;clear hK K));try refine iC ?_)
 simp only [go_sem,fN,seval,AR,AS.result,AB,AE,AQ]
 rfl
def FG (t:Tm):Tm × Int:=if 2000 < t.size then (.mk ⟨#[]⟩ [],8) else (t,0)
theorem Tv (t:Tm) (hz:t.size≤1000000):AW Tryz.prog 34 [aTm t] (.tup [aTm (FG t).1,Ad (FG t).2]):=by
 refine Mw.ac fun C hC=>?_
 unfold Hx
 unfold FG
 by_cases h:2000 < (t.size:Int)
 ·rw [if_pos (by omega)]
  repeat' (first | (with_reducible first | refine W ?_ | refine Z0 ?_ | ((first | refine Wo fun K hK=>?_ | refine Wp ?_ | refine Wq ?_ | refine Wr ?_);(try simp only [go_sem,fN,seval,eT,iR,h,dT,dF,nL]);(repeat refine Ai ?_);(try (refine hK _ ?_;clear hK K));try refine iC ?_)) | refine Cg _ (O7 t hz) ?_)
  simp only [go_sem,fN,seval,AR,AS.result,AB,AE,AQ]
  rfl
 ·rw [if_neg (by omega)]
  repeat' (first | (with_reducible first | refine W ?_ | refine Z0 ?_ | ((first | refine Wo fun K hK=>?_ | refine Wp ?_ | refine Wq ?_ | refine Wr ?_);(try simp only [go_sem,fN,seval,eT,iR,h,dT,dF,nL]);(repeat refine Ai ?_);(try (refine hK _ ?_;clear hK K));try refine iC ?_)) | refine Cg _ (O7 t hz) ?_ | refine Cg _ (UT t hz) ?_)
  simp only [go_sem,fN,seval,AR,AS.result,AB,AE,AQ]
theorem QY (v:ByteArray) (t:Tm) (hf:t.fm=true) (hz:t.size≤100000):AW Tryz.prog 35 [CM v,aTm t] (aTm (t.br v)):=by
 induction h:SizeOf.sizeOf t using Nat.strongRecOn generalizing t with
 | _ N ih =>
 subst h
 have hs:=Tm.size_eq t
 by_cases h0:t.hasN v=true
 case neg =>
  have h0':t.hasN v=false:=by simpa using h0
  rw [Tm.br_none h0']
  refine CJ.ac fun C hC=>?_
  unfold Bl
  repeat' with_reducible first | refine W ?_ | refine Z0 ?_ | ((first | refine Wo fun K hK=>?_ | refine Wp ?_ | refine Wq ?_ | refine Wr ?_);(try simp only [go_sem,fN,seval,eT,iR,dT,dF,nL]);(repeat refine Ai ?_);(try (refine hK _ ?_;clear hK K));try refine iC ?_)
  refine ⟨_,Ga v t (by omega),?_⟩
  repeat' with_reducible first | refine W ?_ | refine Z0 ?_ | ((first | refine Wo fun K hK=>?_ | refine Wp ?_ | refine Wq ?_ | refine Wr ?_);(try simp only [go_sem,fN,seval,eT,iR,h0',dT,dF,nL]);(repeat refine Ai ?_);(try (refine hK _ ?_;clear hK K));try refine iC ?_)
  refine ⟨_,Fv kS,?_⟩
  repeat' with_reducible first | refine W ?_ | refine Z0 ?_ | ((first | refine Wo fun K hK=>?_ | refine Wp ?_ | refine Wq ?_ | refine Wr ?_);(try simp only [go_sem,fN,seval,eT,iR,dT,dF,nL]);(repeat refine Ai ?_);(try (refine hK _ ?_;clear hK K));try refine iC ?_)
  refine ⟨_,Kg (BB kS) t,?_⟩
  repeat' with_reducible first | refine W ?_ | refine Z0 ?_ | ((first | refine Wo fun K hK=>?_ | refine Wp ?_ | refine Wq ?_ | refine Wr ?_);(try simp only [go_sem,fN,seval,eT,iR,dT,dF,nL]);(repeat refine Ai ?_);(try (refine hK _ ?_;clear hK K));try refine iC ?_)
  simp only [go_sem,fN,seval,AR,AS.result,AB,AE,AQ]
 case pos =>
 by_cases h1:t.name=v
 ·rw [Tm.br_self h0 h1]
  refine CJ.ac fun C hC=>?_
  unfold Bl
  repeat' with_reducible first | refine W ?_ | refine Z0 ?_ | ((first | refine Wo fun K hK=>?_ | refine Wp ?_ | refine Wq ?_ | refine Wr ?_);(try simp only [go_sem,fN,seval,eT,iR,dT,dF,nL]);(repeat refine Ai ?_);(try (refine hK _ ?_;clear hK K));try refine iC ?_)
  refine ⟨_,Ga v t (by omega),?_⟩
  repeat' with_reducible first | refine W ?_ | refine Z0 ?_ | ((first | refine Wo fun K hK=>?_ | refine Wp ?_ | refine Wq ?_ | refine Wr ?_);(try simp only [go_sem,fN,seval,eT,iR,h0,h1,dT,dF,nL]);(repeat refine Ai ?_);(try (refine hK _ ?_;clear hK K));try refine iC ?_)
  refine ⟨_,Fv iS,?_⟩
  repeat' with_reducible first | refine W ?_ | refine Z0 ?_ | ((first | refine Wo fun K hK=>?_ | refine Wp ?_ | refine Wq ?_ | refine Wr ?_);(try simp only [go_sem,fN,seval,eT,iR,dT,dF,nL]);(repeat refine Ai ?_);(try (refine hK _ ?_;clear hK K));try refine iC ?_)
  simp only [go_sem,fN,seval,AR,AS.result,AB,AE,AQ]
 rcases Tm.fm_cases hf with g0 | ⟨f,x,_,ha,hf1,hx1⟩
 ·exact absurd g0 (JO h0 h1)
 have hfm:f ∈ t.args:=by rw [ha];simp
 have hxm:x ∈ t.args:=by rw [ha];simp
 have sf:=Tm.size_mem hfm
 have sx:=Tm.size_mem hxm
 rw [Tm.br_ap h0 h1 ha]
 by_cases h2:x.name=v
 ·by_cases h3:f.hasN v=true
  ·rw [if_neg (fun h=>by rw [h3] at h;exact absurd h.2 (by decide))]
   refine CJ.ac fun C hC=>?_
   unfold Bl
   repeat' with_reducible first | refine W ?_ | refine Z0 ?_ | ((first | refine Wo fun K hK=>?_ | refine Wp ?_ | refine Wq ?_ | refine Wr ?_);(try simp only [go_sem,fN,seval,eT,iR,dT,dF,nL]);(repeat refine Ai ?_);(try (refine hK _ ?_;clear hK K));try refine iC ?_)
   refine ⟨_,Ga v t (by omega),?_⟩
   repeat' with_reducible first | refine W ?_ | refine Z0 ?_ | ((first | refine Wo fun K hK=>?_ | refine Wp ?_ | refine Wq ?_ | refine Wr ?_);(try simp only [go_sem,fN,seval,eT,iR,h0,h1,ha,h2,dT,dF,nL]);(repeat refine Ai ?_);(try (refine hK _ ?_;clear hK K));try refine iC ?_)
   refine ⟨_,Ga v f (by omega),?_⟩
   repeat' with_reducible first | refine W ?_ | refine Z0 ?_ | ((first | refine Wo fun K hK=>?_ | refine Wp ?_ | refine Wq ?_ | refine Wr ?_);(try simp only [go_sem,fN,seval,eT,iR,h0,h1,ha,h2,h3,dT,dF,nL]);(repeat refine Ai ?_);(try (refine hK _ ?_;clear hK K));try refine iC ?_)
   refine ⟨_,Fv sS,?_⟩
   repeat' with_reducible first | refine W ?_ | refine Z0 ?_ | ((first | refine Wo fun K hK=>?_ | refine Wp ?_ | refine Wq ?_ | refine Wr ?_);(try simp only [go_sem,fN,seval,eT,iR,ha,dT,dF,nL]);(repeat refine Ai ?_);(try (refine hK _ ?_;clear hK K));try refine iC ?_)
   refine ⟨_,ih _ (Tm.lt_of_arg hfm) f hf1 (by omega) rfl,?_⟩
   repeat' with_reducible first | refine W ?_ | refine Z0 ?_ | ((first | refine Wo fun K hK=>?_ | refine Wp ?_ | refine Wq ?_ | refine Wr ?_);(try simp only [go_sem,fN,seval,eT,iR,ha,dT,dF,nL]);(repeat refine Ai ?_);(try (refine hK _ ?_;clear hK K));try refine iC ?_)
   refine ⟨_,Kg (BB sS) (f.br v),?_⟩
   repeat' with_reducible first | refine W ?_ | refine Z0 ?_ | ((first | refine Wo fun K hK=>?_ | refine Wp ?_ | refine Wq ?_ | refine Wr ?_);(try simp only [go_sem,fN,seval,eT,iR,ha,dT,dF,nL]);(repeat refine Ai ?_);(try (refine hK _ ?_;clear hK K));try refine iC ?_)
   have ihx:=ih _ (Tm.lt_of_arg hxm) x hx1 (by omega) rfl
   simp only [aTm,h2] at ihx
   refine ⟨_,ihx,?_⟩
   repeat' with_reducible first | refine W ?_ | refine Z0 ?_ | ((first | refine Wo fun K hK=>?_ | refine Wp ?_ | refine Wq ?_ | refine Wr ?_);(try simp only [go_sem,fN,seval,eT,iR,ha,dT,dF,nL]);(repeat refine Ai ?_);(try (refine hK _ ?_;clear hK K));try refine iC ?_)
   refine ⟨_,Kg (ap2 (BB sS) (f.br v)) (x.br v),?_⟩
   repeat' with_reducible first | refine W ?_ | refine Z0 ?_ | ((first | refine Wo fun K hK=>?_ | refine Wp ?_ | refine Wq ?_ | refine Wr ?_);(try simp only [go_sem,fN,seval,eT,iR,dT,dF,nL]);(repeat refine Ai ?_);(try (refine hK _ ?_;clear hK K));try refine iC ?_)
   simp only [go_sem,fN,seval,AR,AS.result,AB,AE,AQ]
  ·have h3':f.hasN v=false:=by simpa using h3
   rw [if_pos ⟨h2,h3'⟩]
   refine CJ.ac fun C hC=>?_
   unfold Bl
   repeat' with_reducible first | refine W ?_ | refine Z0 ?_ | ((first | refine Wo fun K hK=>?_ | refine Wp ?_ | refine Wq ?_ | refine Wr ?_);(try simp only [go_sem,fN,seval,eT,iR,dT,dF,nL]);(repeat refine Ai ?_);(try (refine hK _ ?_;clear hK K));try refine iC ?_)
   refine ⟨_,Ga v t (by omega),?_⟩
   repeat' with_reducible first | refine W ?_ | refine Z0 ?_ | ((first | refine Wo fun K hK=>?_ | refine Wp ?_ | refine Wq ?_ | refine Wr ?_);(try simp only [go_sem,fN,seval,eT,iR,h0,h1,ha,h2,dT,dF,nL]);(repeat refine Ai ?_);(try (refine hK _ ?_;clear hK K));try refine iC ?_)
   refine ⟨_,Ga v f (by omega),?_⟩
   repeat' with_reducible first | refine W ?_ | refine Z0 ?_ | ((first | refine Wo fun K hK=>?_ | refine Wp ?_ | refine Wq ?_ | refine Wr ?_);(try simp only [go_sem,fN,seval,eT,iR,h0,h1,ha,h2,h3',dT,dF,nL]);(repeat refine Ai ?_);(try (refine hK _ ?_;clear hK K));try refine iC ?_)
   simp only [go_sem,fN,seval,AR,AS.result,AB,AE,AQ]
 ·rw [if_neg (fun h=>h2 h.1)]
  refine CJ.ac fun C hC=>?_
  unfold Bl
  repeat' with_reducible first | refine W ?_ | refine Z0 ?_ | ((first | refine Wo fun K hK=>?_ | refine Wp ?_ | refine Wq ?_ | refine Wr ?_);(try simp only [go_sem,fN,seval,eT,iR,dT,dF,nL]);(repeat refine Ai ?_);(try (refine hK _ ?_;clear hK K));try refine iC ?_)
  refine ⟨_,Ga v t (by omega),?_⟩
  repeat' with_reducible first | refine W ?_ | refine Z0 ?_ | ((first | refine Wo fun K hK=>?_ | refine Wp ?_ | refine Wq ?_ | refine Wr ?_);(try simp only [go_sem,fN,seval,eT,iR,h0,h1,ha,h2,dT,dF,nL]);(repeat refine Ai ?_);(try (refine hK _ ?_;clear hK K));try refine iC ?_)
  refine ⟨_,Fv sS,?_⟩
  repeat' with_reducible first | refine W ?_ | refine Z0 ?_ | ((first | refine Wo fun K hK=>?_ | refine Wp ?_ | refine Wq ?_ | refine Wr ?_);(try simp only [go_sem,fN,seval,eT,iR,ha,dT,dF,nL]);(repeat refine Ai ?_);(try (refine hK _ ?_;clear hK K));try refine iC ?_)
  refine ⟨_,ih _ (Tm.lt_of_arg hfm) f hf1 (by omega) rfl,?_⟩
  repeat' with_reducible first | refine W ?_ | refine Z0 ?_ | ((first | refine Wo fun K hK=>?_ | refine Wp ?_ | refine Wq ?_ | refine Wr ?_);(try simp only [go_sem,fN,seval,eT,iR,ha,dT,dF,nL]);(repeat refine Ai ?_);(try (refine hK _ ?_;clear hK K));try refine iC ?_)
  refine ⟨_,Kg (BB sS) (f.br v),?_⟩
  repeat' with_reducible first | refine W ?_ | refine Z0 ?_ | ((first | refine Wo fun K hK=>?_ | refine Wp ?_ | refine Wq ?_ | refine Wr ?_);(try simp only [go_sem,fN,seval,eT,iR,ha,dT,dF,nL]);(repeat refine Ai ?_);(try (refine hK _ ?_;clear hK K));try refine iC ?_)
  refine ⟨_,ih _ (Tm.lt_of_arg hxm) x hx1 (by omega) rfl,?_⟩
  repeat' with_reducible first | refine W ?_ | refine Z0 ?_ | ((first | refine Wo fun K hK=>?_ | refine Wp ?_ | refine Wq ?_ | refine Wr ?_);(try simp only [go_sem,fN,seval,eT,iR,ha,dT,dF,nL]);(repeat refine Ai ?_);(try (refine hK _ ?_;clear hK K));try refine iC ?_)
  refine ⟨_,Kg (ap2 (BB sS) (f.br v)) (x.br v),?_⟩
  repeat' with_reducible first | refine W ?_ | refine Z0 ?_ | ((first | refine Wo fun K hK=>?_ | refine Wp ?_ | refine Wq ?_ | refine Wr ?_);(try simp only [go_sem,fN,seval,eT,iR,dT,dF,nL]);(repeat refine Ai ?_);(try (refine hK _ ?_;clear hK K));try refine iC ?_)
  simp only [go_sem,fN,seval,AR,AS.result,AB,AE,AQ]

def EL:IR :=
 (.seq (.ops [.i 2 (.box 25 (.t 0)),.i 4 (.mov (.n 0))]) (.seq (.ops [.m 7 1,.i 8 (.bin .sub (.t 7) (.n 1)),.m 1 8]) (.seq (.seq (.ops [.f 9 2 2,.l 10 9,.i 11 (.len false (.t 10)),.i 12 (.mov (.n 0))]) (.block 0 (.loop (.seq (.ops [.i 13 (.bin .lss (.t 12) (.t 11))]) (.seq (.cond (.t 13) .skip (.exit 0)) (.seq (.block 1 (.seq (.ops [.i 14 (.indexAddr 3 (.t 10) (.t 12)),.L 15 3 14,.i 6 (.alloc 25 [.st (.int .i64 0),.st (.int .i64 0),.full []]),.s 3 6 15]) (.seq (.seq (.ops [.m 16 1,.i 17 (.bin .lss (.t 16) (.n 0))]) (.cond (.t 17) (.exit 0) .skip)) (.ops [.L 18 3 6,.m 19 1,.i 20 (.call 55 [.t 18,.t 19]),.m 1 20])))) (.ops [.i 21 (.bin .add (.t 12) (.n 1)),.m 12 21]))))))) (.seq (.ops [.m 22 1,.m 4 22]) .ret))))
theorem HW:OkF Tryz.prog 55 23 [] EL [.t 4]:=.of Tryz.func55 rfl rfl (by kernel_rfl) rfl
def E9:IR :=
 (.seq (.ops [.i 3 (.box 25 (.t 0)),.i 6 (.mov (.n 0))]) (.seq (.seq (.ops [.f 11 0 3,.l 12 11,.i 13 (.bin .lss (.t 12) (.n 1)),.m 14 13,.mk (some 15) (some (14,false)) (.fieldAddr 0 (.t 3)) .no,.mk (some 16) (some (14,false)) (.load false 1 (.t 15)) .no,.mk (some 17) (some (14,false)) (.bin .gtr (.t 16) (.n 5)) .no,.i 18 (.pick (.t 14) (.c (.one (.st (.bool true)))) (.t 17)),.m 19 18,.mk (some 20) (some (19,false)) (.fieldAddr 2 (.t 3)) .no,.mk (some 21) (some (19,false)) (.load false 1 (.t 20)) .no,.mk (some 22) (some (19,false)) (.len false (.t 21)) .no,.mk (some 23) (some (19,false)) (.fieldAddr 0 (.t 3)) .no,.mk (some 24) (some (19,false)) (.load false 1 (.t 23)) .no,.mk (some 25) (some (19,false)) (.indexArr 6 1 (.c (.one (.eptr [.int .i64 0,.int .i64 0,.int .i64 1,.int .i64 2,.int .i64 0,.int .i64 0]))) (.t 24)) .no,.mk (some 26) (some (19,false)) (.load false 1 (.t 25)) .no,.mk (some 27) (some (19,false)) (.bin .neq (.t 22) (.t 26)) .no,.i 28 (.pick (.t 19) (.c (.one (.st (.bool true)))) (.t 27))]) (.cond (.t 28) (.seq (.ops [.i 6 (.mov (.n 2))]) .ret) .skip)) (.seq (.ops [.i 7 (.mov (.n 1))]) (.seq (.seq (.ops [.f 29 0 3,.l 30 29]) (.block 0 (.seq (.ops [.i 32 (.bin .eql (.t 30) (.n 1)),.m 31 32]) (.cond (.t 31) (.ops [.m 33 1,.m 7 33]) (.seq (.ops [.i 35 (.bin .eql (.t 30) (.n 4)),.m 34 35]) (.cond (.t 34) (.ops [.i 7 (.mov (.n 40))]) (.seq (.ops [.i 37 (.bin .eql (.t 30) (.n 5)),.m 36 37]) (.cond (.t 36) (.ops [.m 38 2,.m 7 38]) .skip)))))))) (.seq (.seq (.ops [.f 39 1 3,.l 40 39,.i 41 (.bin .lss (.t 40) (.n 0)),.m 42 41,.mk (some 43) (some (42,false)) (.fieldAddr 1 (.t 3)) .no,.mk (some 44) (some (42,false)) (.load false 1 (.t 43)) .no,.mk (some 45) (some (42,false)) (.mov (.t 7)) .no,.mk (some 46) (some (42,false)) (.bin .geq (.t 44) (.t 45)) .no,.i 47 (.pick (.t 42) (.c (.one (.st (.bool true)))) (.t 46))]) (.cond (.t 47) (.seq (.ops [.i 6 (.mov (.n 15))]) .ret) .skip)) (.seq (.seq (.ops [.f 48 0 3,.l 49 48,.i 50 (.bin .eql (.t 49) (.n 2))]) (.cond (.t 50) (.ops [.m 51 1,.i 52 (.bin .add (.t 51) (.n 1)),.m 1 52]) .skip)) (.seq (.seq (.ops [.f 53 2 3,.l 54 53,.i 55 (.len false (.t 54)),.i 56 (.mov (.n 0))]) (.block 1 (.loop (.seq (.ops [.i 57 (.bin .lss (.t 56) (.t 55))]) (.seq (.cond (.t 57) .skip (.exit 1)) (.seq (.block 2 (.seq (.ops [.i 58 (.indexAddr 3 (.t 54) (.t 56)),.L 59 3 58,.i 9 (.alloc 25 [.st (.int .i64 0),.st (.int .i64 0),.full []]),.s 3 9 59]) (.seq (.ops [.L 60 3 9,.m 61 1,.m 62 2,.i 63 (.call 56 [.t 60,.t 61,.t 62]),.m 10 63]) (.seq (.ops [.m 64 10,.i 65 (.bin .neq (.t 64) (.n 0))]) (.cond (.t 65) (.seq (.ops [.m 66 10,.m 6 66]) .ret) .skip))))) (.ops [.i 67 (.bin .add (.t 56) (.n 1)),.m 56 67]))))))) (.seq (.ops [.i 6 (.mov (.n 0))]) .ret))))))))
theorem IK:OkF Tryz.prog 56 68 [] E9 [.t 6]:=.of Tryz.func56 rfl rfl (by kernel_rfl) rfl
def De:IR :=
 (.seq (.ops [.i 3 (.box 25 (.t 0)),.i 6 (.mov (.n 0))]) (.seq (.seq (.ops [.m 7 1,.i 8 (.bin .lss (.t 7) (.n 0)),.m 9 8,.mk (some 10) (some (9,false)) (.mov (.t 1)) .no,.mk (some 11) (some (9,false)) (.bin .gtr (.t 10) (.n 40)) .no,.i 12 (.pick (.t 9) (.c (.one (.st (.bool true)))) (.t 11))]) (.cond (.t 12) (.seq (.ops [.i 6 (.mov (.n 10))]) .ret) .skip)) (.seq (.seq (.ops [.L 13 3 3,.i 14 (.call 55 [.t 13,.n 200]),.i 15 (.bin .lss (.t 14) (.n 0))]) (.cond (.t 15) (.seq (.ops [.i 6 (.mov (.n 3))]) .ret) .skip)) (.seq (.ops [.L 16 3 3,.m 17 1,.m 18 2,.i 19 (.call 56 [.t 16,.t 17,.t 18]),.m 6 19]) .ret))))
theorem GD:OkF Tryz.prog 31 20 [] De [.t 6]:=.of Tryz.func31 rfl rfl (by kernel_rfl) rfl
def E5:IR :=
 (.seq (.ops [.i 2 (.box 25 (.t 0)),.i 4 (.mov (.n 0))]) (.seq (.ops [.L 5 3 2,.m 6 1,.i 7 (.call 31 [.t 5,.t 6,.n 0]),.m 4 7]) .ret))
theorem IH:OkF Tryz.prog 15 8 [] E5 [.t 4]:=.of Tryz.func15 rfl rfl (by kernel_rfl) rfl
def Fi:IR :=
 (.seq (.ops [.i 1 (.box 25 (.t 0)),.i 2 (.mov (.n 0))]) (.seq (.ops [.i 3 (.mov (.n 1))]) (.seq (.seq (.ops [.f 6 2 1,.l 7 6,.i 8 (.len false (.t 7)),.i 9 (.mov (.n 0))]) (.block 0 (.loop (.seq (.ops [.i 10 (.bin .lss (.t 9) (.t 8))]) (.seq (.cond (.t 10) .skip (.exit 0)) (.seq (.block 1 (.seq (.ops [.i 11 (.indexAddr 3 (.t 7) (.t 9)),.L 12 3 11,.i 5 (.alloc 25 [.st (.int .i64 0),.st (.int .i64 0),.full []]),.s 3 5 12]) (.ops [.m 13 3,.L 14 3 5,.i 15 (.call 21 [.t 14]),.i 16 (.bin .add (.t 13) (.t 15)),.m 3 16]))) (.ops [.i 17 (.bin .add (.t 9) (.n 1)),.m 9 17]))))))) (.seq (.ops [.m 18 3,.m 2 18]) .ret))))
theorem I1:OkF Tryz.prog 21 19 [] Fi [.t 2]:=.of Tryz.func21 rfl rfl (by kernel_rfl) rfl
def H3:IR :=
 (.seq (.ops [.i 2 (.alloc 25 [.st (.int .i64 0),.st (.int .i64 0),.full []])]) (.seq (.ops [.m 3 0,.i 4 (.build [.st (.int .i64 0),.st (.int .i64 0),.full []] [(0,1,.n 1),(1,1,.t 3)]),.s 3 2 4]) .ret))
theorem MO:OkF Tryz.prog 73 5 [] H3 [.cell 2 true 3]:=.of Tryz.func73 rfl rfl (by kernel_rfl) rfl
def Fs:IR :=
 (.seq (.ops [.i 3 (.box 25 (.t 0)),.i 6 (.alloc 25 [.st (.int .i64 0),.st (.int .i64 0),.full []])]) (.seq (.ops [.f 10 0 3,.l 11 10,.f 12 1 3,.l 13 12,.i 14 (.build [.st (.int .i64 0),.st (.int .i64 0),.full []] [(0,1,.t 11),(1,1,.t 13)]),.i 7 (.alloc 25 [.st (.int .i64 0),.st (.int .i64 0),.full []]),.s 3 7 14]) (.seq (.seq (.ops [.f 15 0 3,.l 16 15]) (.block 0 (.seq (.ops [.i 18 (.bin .eql (.t 16) (.n 1)),.m 17 18]) (.cond (.t 17) (.seq (.ops [.f 19 1 3,.l 20 19,.m 21 2,.i 22 (.bin .geq (.t 20) (.t 21))]) (.cond (.t 22) (.ops [.f 23 1 7,.l 24 23,.m 25 1,.i 26 (.bin .add (.t 24) (.t 25)),.f 27 1 7,.s 1 27 26]) .skip)) (.seq (.ops [.i 29 (.bin .eql (.t 16) (.n 2)),.m 28 29]) (.cond (.t 28) (.ops [.m 30 2,.i 31 (.bin .add (.t 30) (.n 1)),.m 2 31]) .skip)))))) (.seq (.seq (.ops [.f 32 2 3,.l 33 32,.i 34 (.len false (.t 33)),.i 35 (.mov (.n 0))]) (.block 1 (.loop (.seq (.ops [.i 36 (.bin .lss (.t 35) (.t 34))]) (.seq (.cond (.t 36) .skip (.exit 1)) (.seq (.block 2 (.seq (.ops [.i 37 (.indexAddr 3 (.t 33) (.t 35)),.L 38 3 37,.i 9 (.alloc 25 [.st (.int .i64 0),.st (.int .i64 0),.full []]),.s 3 9 38]) (.ops [.f 39 2 7,.l 40 39,.L 41 3 9,.m 42 1,.m 43 2,.i 44 (.call 54 [.t 41,.t 42,.t 43]),.i 45 (.buildSlice false 25 3 [.t 44]),.i 46 (.append false 25 3 40 (.t 40) (.t 45)),.f 47 2 7,.s 1 47 46]))) (.ops [.i 48 (.bin .add (.t 35) (.n 1)),.m 35 48]))))))) (.seq (.ops [.L 49 3 7,.s 3 6 49]) .ret)))))
theorem Jd:OkF Tryz.prog 54 50 [] Fs [.cell 6 true 3]:=.of Tryz.func54 rfl rfl (by kernel_rfl) rfl
def CV:IR :=
 (.seq (.ops [.i 3 (.box 25 (.t 0)),.i 4 (.box 25 (.t 1)),.i 6 (.alloc 25 [.st (.int .i64 0),.st (.int .i64 0),.full []])]) (.seq (.seq (.ops [.f 10 0 3,.l 11 10,.i 12 (.bin .eql (.t 11) (.n 1))]) (.cond (.t 12) (.seq (.block 0 (.seq (.ops [.f 14 1 3,.l 15 14,.m 16 2,.i 17 (.bin .eql (.t 15) (.t 16)),.m 13 17]) (.cond (.t 13) (.seq (.ops [.L 18 3 4,.m 19 2,.i 20 (.call 54 [.t 18,.t 19,.n 0]),.s 3 6 20]) .ret) (.seq (.ops [.f 22 1 3,.l 23 22,.m 24 2,.i 25 (.bin .gtr (.t 23) (.t 24)),.m 21 25]) (.cond (.t 21) (.seq (.ops [.f 26 1 3,.l 27 26,.i 28 (.bin .sub (.t 27) (.n 1)),.i 29 (.call 73 [.t 28]),.s 3 6 29]) .ret) .skip))))) (.seq (.ops [.f 30 1 3,.l 31 30,.i 32 (.call 73 [.t 31]),.s 3 6 32]) .ret)) .skip)) (.seq (.ops [.f 33 0 3,.l 34 33,.f 35 1 3,.l 36 35,.i 37 (.build [.st (.int .i64 0),.st (.int .i64 0),.full []] [(0,1,.t 34),(1,1,.t 36)]),.i 7 (.alloc 25 [.st (.int .i64 0),.st (.int .i64 0),.full []]),.s 3 7 37]) (.seq (.seq (.ops [.f 38 0 3,.l 39 38,.i 40 (.bin .eql (.t 39) (.n 2))]) (.cond (.t 40) (.ops [.m 41 2,.i 42 (.bin .add (.t 41) (.n 1)),.m 2 42]) .skip)) (.seq (.seq (.ops [.f 43 2 3,.l 44 43,.i 45 (.len false (.t 44)),.i 46 (.mov (.n 0))]) (.block 1 (.loop (.seq (.ops [.i 47 (.bin .lss (.t 46) (.t 45))]) (.seq (.cond (.t 47) .skip (.exit 1)) (.seq (.block 2 (.seq (.ops [.i 48 (.indexAddr 3 (.t 44) (.t 46)),.L 49 3 48,.i 9 (.alloc 25 [.st (.int .i64 0),.st (.int .i64 0),.full []]),.s 3 9 49]) (.ops [.f 50 2 7,.l 51 50,.L 52 3 9,.L 53 3 4,.m 54 2,.i 55 (.call 90 [.t 52,.t 53,.t 54]),.i 56 (.buildSlice false 25 3 [.t 55]),.i 57 (.append false 25 3 40 (.t 51) (.t 56)),.f 58 2 7,.s 1 58 57]))) (.ops [.i 59 (.bin .add (.t 46) (.n 1)),.m 46 59]))))))) (.seq (.ops [.L 60 3 7,.s 3 6 60]) .ret))))))
theorem C7:OkF Tryz.prog 90 61 [] CV [.cell 6 true 3]:=.of Tryz.func90 rfl rfl (by kernel_rfl) rfl
def FP:IR :=
 (.seq (.ops [.i 2 (.box 25 (.t 0)),.i 3 (.box 25 (.t 1)),.i 4 (.alloc 25 [.st (.int .i64 0),.st (.int .i64 0),.full []])]) (.seq (.ops [.L 5 3 2,.L 6 3 3,.i 7 (.call 90 [.t 5,.t 6,.n 0]),.s 3 4 7]) .ret))
theorem JG:OkF Tryz.prog 76 8 [] FP [.cell 4 true 3]:=.of Tryz.func76 rfl rfl (by kernel_rfl) rfl
def Gx:IR :=
 (.seq (.ops [.i 2 (.box 25 (.t 0)),.i 4 (.mov (.n 0))]) (.seq (.ops [.i 5 (.mov (.n 1))]) (.seq (.seq (.ops [.i 6 (.mov (.n 0))]) (.block 0 (.loop (.seq (.seq (.ops [.m 7 6,.f 8 2 2,.l 9 8,.i 10 (.len false (.t 9)),.i 11 (.bin .lss (.t 7) (.t 10)),.m 12 11,.mk (some 13) (some (12,true)) (.mov (.t 5)) .no,.mk (some 14) (some (12,true)) (.mov (.t 1)) .no,.mk (some 15) (some (12,true)) (.bin .leq (.t 13) (.t 14)) .no,.i 16 (.pick (.t 12) (.t 15) (.c (.one (.st (.bool false)))))]) (.cond (.t 16) .skip (.exit 0))) (.seq (.block 1 (.ops [.m 19 5,.f 20 2 2,.l 21 20,.m 22 6,.i 23 (.indexAddr 3 (.t 21) (.t 22)),.L 24 3 23,.m 25 1,.m 26 5,.i 27 (.bin .sub (.t 25) (.t 26)),.i 28 (.call 10 [.t 24,.t 27]),.i 29 (.bin .add (.t 19) (.t 28)),.m 5 29])) (.ops [.m 17 6,.i 18 (.bin .add (.t 17) (.n 1)),.m 6 18])))))) (.seq (.seq (.ops [.m 30 5,.m 31 1,.i 32 (.bin .gtr (.t 30) (.t 31))]) (.cond (.t 32) (.seq (.ops [.m 33 1,.i 34 (.bin .add (.t 33) (.n 1)),.m 4 34]) .ret) .skip)) (.seq (.ops [.m 35 5,.m 4 35]) .ret)))))
theorem Lh:OkF Tryz.prog 10 36 [] Gx [.t 4]:=.of Tryz.func10 rfl rfl (by kernel_rfl) rfl
def HM:IR :=
 (.seq (.ops [.i 2 (.box 25 (.t 0)),.i 3 (.box 25 (.t 1)),.i 4 (.mov (.c (.one (.st (.bool false)))))]) (.seq (.seq (.ops [.f 6 0 2,.l 7 6,.f 8 0 3,.l 9 8,.i 10 (.bin .neq (.t 7) (.t 9)),.m 11 10,.mk (some 12) (some (11,false)) (.fieldAddr 1 (.t 2)) .no,.mk (some 13) (some (11,false)) (.load false 1 (.t 12)) .no,.mk (some 14) (some (11,false)) (.fieldAddr 1 (.t 3)) .no,.mk (some 15) (some (11,false)) (.load false 1 (.t 14)) .no,.mk (some 16) (some (11,false)) (.bin .neq (.t 13) (.t 15)) .no,.i 17 (.pick (.t 11) (.c (.one (.st (.bool true)))) (.t 16)),.m 18 17,.mk (some 19) (some (18,false)) (.fieldAddr 2 (.t 2)) .no,.mk (some 20) (some (18,false)) (.load false 1 (.t 19)) .no,.mk (some 21) (some (18,false)) (.len false (.t 20)) .no,.mk (some 22) (some (18,false)) (.fieldAddr 2 (.t 3)) .no,.mk (some 23) (some (18,false)) (.load false 1 (.t 22)) .no,.mk (some 24) (some (18,false)) (.len false (.t 23)) .no,.mk (some 25) (some (18,false)) (.bin .neq (.t 21) (.t 24)) .no,.i 26 (.pick (.t 18) (.c (.one (.st (.bool true)))) (.t 25))]) (.cond (.t 26) (.seq (.ops [.i 4 (.mov (.c (.one (.st (.bool false)))))]) .ret) .skip)) (.seq (.seq (.ops [.i 5 (.mov (.n 0))]) (.block 0 (.loop (.seq (.seq (.ops [.m 27 5,.f 28 2 2,.l 29 28,.i 30 (.len false (.t 29)),.i 31 (.bin .lss (.t 27) (.t 30))]) (.cond (.t 31) .skip (.exit 0))) (.seq (.block 1 (.seq (.ops [.f 34 2 2,.l 35 34,.m 36 5,.i 37 (.indexAddr 3 (.t 35) (.t 36)),.L 38 3 37,.f 39 2 3,.l 40 39,.m 41 5,.i 42 (.indexAddr 3 (.t 40) (.t 41)),.L 43 3 42,.i 44 (.call 13 [.t 38,.t 43]),.i 45 (.un .not (.t 44))]) (.cond (.t 45) (.seq (.ops [.i 4 (.mov (.c (.one (.st (.bool false)))))]) .ret) .skip))) (.ops [.m 32 5,.i 33 (.bin .add (.t 32) (.n 1)),.m 5 33])))))) (.seq (.ops [.i 4 (.mov (.c (.one (.st (.bool true)))))]) .ret))))
theorem LE:OkF Tryz.prog 13 46 [] HM [.t 4]:=.of Tryz.func13 rfl rfl (by kernel_rfl) rfl
def My:IR :=
 (.seq (.ops [.i 2 (.alloc 25 [.st (.int .i64 0),.st (.int .i64 0),.full []])]) (.seq (.ops [.m 3 0,.i 4 (.build [.st (.int .i64 0),.st (.int .i64 0),.full []] [(0,1,.n 1),(1,1,.t 3)]),.s 3 2 4]) .ret))
theorem Sp:OkF Tryz.prog 28 5 [] My [.cell 2 true 3]:=.of Tryz.func28 rfl rfl (by kernel_rfl) rfl

theorem Kv (t:Lm) (m:Int) (h0:0≤m) (h1:m≤9223372036854775807):AW Tryz.prog 55 [aLm t,Ad m] (Ad (Ba t.size m)):=by
 induction h:SizeOf.sizeOf t using Nat.strongRecOn generalizing t m with
 | _ N ih =>
 subst h
 have hs:=Lm.size_eq t
 refine HW.ac fun C hC=>?_
 unfold EL
 refine IWP.learn 0 (by omega) fun hkn=>?_
 have hkn:=(I4 hkn).2.2
 repeat' with_reducible first | refine W ?_ | refine Z0 ?_ | ((first | refine Wo fun K hK=>?_ | refine Wq ?_ | refine Wr ?_);(try simp only [go_sem,fN,seval,eT,iR]);(repeat refine Ai ?_);(try (refine hK _ ?_;clear hK K)))
 refine IWP.loopD [6] (fun n s=>∃ k,k≤t.subs.length∧n=t.subs.length - k∧s.env 1=Ad (Ba (1 + Lm.sizes (t.subs.take k)) m)∧s.env 10=.one (.st (.list (t.subs.map Ci)))∧s.env 11=Ad t.subs.length∧s.env 12=Ad k∧s.S 6=none) t.subs.length ⟨0,Nat.zero_le _,rfl,by
  simp only [go_sem,fN,seval,eT,iR]
  rw [Ba]
  have z0:Lm.sizes []=0:=rfl
  congr 3
  split <;> omega,rfl,rfl,rfl,rfl⟩ ?_
 rintro n ⟨env,S⟩ ⟨k,hk,rfl,e1,e10,e11,e12,s6⟩
 simp only at e1 e10 e11 e12 s6
 repeat' with_reducible first | refine W ?_ | refine Z0 ?_ | ((first | refine Wo fun K hK=>?_ | refine Wq ?_ | refine Wr ?_);(try simp only [go_sem,fN,seval,eT,iR,e1,e10,e11,e12,s6]);(repeat refine Ai ?_);(try (refine hK _ ?_;clear hK K)))
 with_reducible refine Wp ?_
 simp only [go_sem,fN,seval,true_implies,false_implies,implies_true,dT,dF,nL,e1,e10,e11,e12,s6]
 (try with_reducible refine iC ?_)
 refine ⟨fun hlt=>?_,fun hge=>?_⟩
 ·obtain ⟨a,ha⟩:=Bk (show k < t.subs.length by omega)
  have z1:=Lm.sizes_take ha
  have z2:=Lm.sizes_take_le t.subs (k + 1)
  have z3:=Lm.length_le t.subs
  have z4:=Ks (1 + Lm.sizes (t.subs.take k)) m h0
  repeat' with_reducible first | refine W ?_ | refine Z0 ?_ | ((first | refine Wo fun K hK=>?_ | refine Wq ?_ | refine Wr ?_);(try simp only [go_sem,fN,seval,eT,iR,e1,e10,e11,e12,s6,ha]);(repeat refine Ai ?_);(try (refine hK _ ?_;clear hK K)))
  with_reducible refine Wp ?_
  simp only [go_sem,fN,seval,true_implies,false_implies,implies_true,dT,dF,nL,e1]
  (try with_reducible refine iC ?_)
  refine ⟨fun hb=>?_,fun hb=>?_⟩
  ·repeat' with_reducible first | refine W ?_ | refine Z0 ?_ | ((first | refine Wo fun K hK=>?_ | refine Wq ?_ | refine Wr ?_);(try simp only [go_sem,fN,seval,eT,iR,e1]);(repeat refine Ai ?_);(try (refine hK _ ?_;clear hK K)))
   simp only [go_sem,fN,seval,AR,AS.result,AB,AE,AQ,e1]
   rw [Jo hb (show _≤t.size by rw [hs];omega)]
  ·repeat' (first | (with_reducible first | refine W ?_ | refine Z0 ?_ | ((first | refine Wo fun K hK=>?_ | refine Wq ?_ | refine Wr ?_);(try simp only [go_sem,fN,seval,eT,iR,e1,e10,e11,e12,s6,ha]);(repeat refine Ai ?_);(try (refine hK _ ?_;clear hK K)))) | refine Cg _ (ih _ (Lm.lt_of_sub (Ae ha)) a _ (by omega) (by omega) rfl) ?_)
   refine Ag ⟨t.subs.length - (k + 1),by omega,k + 1,by omega,rfl,?_⟩
   simp only [go_sem,fN,seval,AS.drop,CN,AC.clears,AC.clear,AC.highs,AC.high,Bool.not_false,Bool.true_and,Bool.and_self,AV.purge,AV.purges,AC.purge,AU.purge,List.contains_cons,List.contains_nil,Nat.reduceBEq,Bool.or_self,Bool.or_false,Bool.false_or,Bool.or_true,eT,iR,e1,e10,e11,e12,s6]
   exact ⟨by rw [H_ (by omega),z1];congr 4;omega,by congr 3⟩
 ·repeat' with_reducible first | refine W ?_ | refine Z0 ?_ | ((first | refine Wo fun K hK=>?_ | refine Wq ?_ | refine Wr ?_);(try simp only [go_sem,fN,seval,eT,iR,e1]);(repeat refine Ai ?_);(try (refine hK _ ?_;clear hK K)))
  simp only [go_sem,fN,seval,AR,AS.result,AB,AE,AQ,e1]
  rw [List.take_of_length_le (by omega),hs]
theorem Lr (t:Lm) (hz:t.size≤1000000000):AW Tryz.prog 21 [aLm t] (Ad t.size):=by
 induction h:SizeOf.sizeOf t using Nat.strongRecOn generalizing t with
 | _ N ih =>
 subst h
 have hs:=Lm.size_eq t
 have hkn:=Lm.length_le t.subs
 refine I1.ac fun C hC=>?_
 unfold Fi
 repeat' with_reducible first | refine W ?_ | refine Z0 ?_ | ((first | refine Wo fun K hK=>?_ | refine Wq ?_ | refine Wr ?_);(try simp only [go_sem,fN,seval,eT,iR]);(repeat refine Ai ?_);(try (refine hK _ ?_;clear hK K)))
 refine IWP.loopD [5] (fun n s=>∃ k,k≤t.subs.length∧n=t.subs.length - k∧s.env 3=Ad ((1 + Lm.sizes (t.subs.take k):Nat))∧s.env 7=.one (.st (.list (t.subs.map Ci)))∧s.env 8=Ad t.subs.length∧s.env 9=Ad k∧s.S 5=none) t.subs.length ⟨0,Nat.zero_le _,rfl,rfl,rfl,rfl,rfl,rfl⟩ ?_
 rintro n ⟨env,S⟩ ⟨k,hk,rfl,e3,e7,e8,e9,s5⟩
 simp only at e3 e7 e8 e9 s5
 repeat' with_reducible first | refine W ?_ | refine Z0 ?_ | ((first | refine Wo fun K hK=>?_ | refine Wq ?_ | refine Wr ?_);(try simp only [go_sem,fN,seval,eT,iR,e3,e7,e8,e9,s5]);(repeat refine Ai ?_);(try (refine hK _ ?_;clear hK K)))
 with_reducible refine Wp ?_
 simp only [go_sem,fN,seval,true_implies,false_implies,implies_true,dT,dF,nL,e3,e7,e8,e9,s5]
 (try with_reducible refine iC ?_)
 refine ⟨fun hlt=>?_,fun hge=>?_⟩
 ·obtain ⟨a,ha⟩:=Bk (show k < t.subs.length by omega)
  have z1:=Lm.sizes_take ha
  have z2:=Lm.sizes_take_le t.subs (k + 1)
  have z3:=Lm.size_mem (Ae ha)
  repeat' (first | (with_reducible first | refine W ?_ | refine Z0 ?_ | ((first | refine Wo fun K hK=>?_ | refine Wq ?_ | refine Wr ?_);(try simp only [go_sem,fN,seval,eT,iR,e3,e7,e8,e9,s5,ha]);(repeat refine Ai ?_);(try (refine hK _ ?_;clear hK K)))) | refine Cg _ (ih _ (Lm.lt_of_sub (Ae ha)) a (by omega) rfl) ?_)
  refine Ag ⟨t.subs.length - (k + 1),by omega,k + 1,by omega,rfl,?_⟩
  simp only [go_sem,fN,seval,AS.drop,CN,AC.clears,AC.clear,AC.highs,AC.high,Bool.not_false,Bool.true_and,Bool.and_self,AV.purge,AV.purges,AC.purge,AU.purge,List.contains_cons,List.contains_nil,Nat.reduceBEq,Bool.or_self,Bool.or_false,Bool.false_or,Bool.or_true,eT,iR,e3,e7,e8,e9,s5]
  exact ⟨by rw [z1];congr 3;omega,by congr 3⟩
 ·repeat' with_reducible first | refine W ?_ | refine Z0 ?_ | ((first | refine Wo fun K hK=>?_ | refine Wq ?_ | refine Wr ?_);(try simp only [go_sem,fN,seval,eT,iR,e3]);(repeat refine Ai ?_);(try (refine hK _ ?_;clear hK K)))
  simp only [go_sem,fN,seval,AR,AS.result,AB,AE,AQ,e3]
  rw [List.take_of_length_le (by omega),hs]
theorem I3 (t:Lm) (m:Int) (h0:0≤m) (h1:m≤9223372036854775806):AW Tryz.prog 10 [aLm t,Ad m] (Ad (BQ t.size m)):=by
 induction h:SizeOf.sizeOf t using Nat.strongRecOn generalizing t m with
 | _ N ih =>
 subst h
 have hs:=Lm.size_eq t
 refine Lh.ac fun C hC=>?_
 unfold Gx
 refine IWP.learn 0 (by omega) fun hkn=>?_
 have hkn:=(I4 hkn).2.2
 repeat' with_reducible first | refine W ?_ | refine Z0 ?_ | ((first | refine Wo fun K hK=>?_ | refine Wq ?_ | refine Wr ?_);(try simp only [go_sem,fN,seval,eT,iR]);(repeat refine Ai ?_);(try (refine hK _ ?_;clear hK K)))
 refine IWP.loop (fun n s=>∃ k,k≤t.subs.length∧n=t.subs.length - k∧s.env 5=Ad (BQ (1 + Lm.sizes (t.subs.take k)) m)∧s.env 1=Ad m∧s.env 2=.one (.ptr 2 1 0 0)∧s.env 6=Ad k∧s.S 2=some (.box 25 [.st (.int .i64 t.kind),.st (.int .i64 t.idx),.st (.list (t.subs.map Ci))])) t.subs.length ⟨0,Nat.zero_le _,rfl,by
  simp only [go_sem,fN,seval,eT,iR]
  rw [BQ]
  have z0:Lm.sizes []=0:=rfl
  congr 3
  split <;> omega,rfl,rfl,rfl,rfl⟩ ?_
 rintro n ⟨env,S⟩ ⟨k,hk,rfl,e5,e1,e2,e6,s2⟩
 simp only at e5 e1 e2 e6 s2
 have z4:=Gr (1 + Lm.sizes (t.subs.take k)) m h0
 by_cases hlt:(k:Int) < t.subs.length
 ·obtain ⟨a,ha⟩:=Bk (show k < t.subs.length by omega)
  have z1:=Lm.sizes_take ha
  have z2:=Lm.sizes_take_le t.subs (k + 1)
  by_cases hb:m < BQ (1 + Lm.sizes (t.subs.take k)) m
  ·have hb':¬ BQ (1 + Lm.sizes (t.subs.take k)) m≤m:=by omega
   repeat' with_reducible first | refine W ?_ | refine Z0 ?_ | ((first | refine Wo fun K hK=>?_ | refine Wq ?_ | refine Wr ?_);(try simp only [go_sem,fN,seval,eT,iR,e5,e1,e2,e6,s2,hlt,hb']);(repeat refine Ai ?_);(try (refine hK _ ?_;clear hK K)))
   with_reducible refine Wp ?_
   simp only [go_sem,fN,seval,true_implies,false_implies,implies_true,dT,dF,nL,hb']
   (try with_reducible refine iC ?_)
   repeat' with_reducible first | refine W ?_ | refine Z0 ?_ | ((first | refine Wo fun K hK=>?_ | refine Wq ?_ | refine Wr ?_);(try simp only [go_sem,fN,seval,eT,iR,e5,e1,e2,e6,s2]);(repeat refine Ai ?_);(try (refine hK _ ?_;clear hK K)))
   with_reducible refine Wp ?_
   simp only [go_sem,fN,seval,true_implies,false_implies,implies_true,dT,dF,nL,hb]
   (try with_reducible refine iC ?_)
   repeat' with_reducible first | refine W ?_ | refine Z0 ?_ | ((first | refine Wo fun K hK=>?_ | refine Wq ?_ | refine Wr ?_);(try simp only [go_sem,fN,seval,eT,iR,e1]);(repeat refine Ai ?_);(try (refine hK _ ?_;clear hK K)))
   simp only [go_sem,fN,seval,AR,AS.result,AB,AE,AQ]
   rw [E0 hb (show _≤t.size by rw [hs];omega)]
  ·have hb':BQ (1 + Lm.sizes (t.subs.take k)) m≤m:=by omega
   obtain ⟨b1,b2⟩:=NY hb
   repeat' with_reducible first | refine W ?_ | refine Z0 ?_ | ((first | refine Wo fun K hK=>?_ | refine Wq ?_ | refine Wr ?_);(try simp only [go_sem,fN,seval,eT,iR,e5,e1,e2,e6,s2,hlt,hb']);(repeat refine Ai ?_);(try (refine hK _ ?_;clear hK K)))
   with_reducible refine Wp ?_
   simp only [go_sem,fN,seval,true_implies,false_implies,implies_true,dT,dF,nL,hb']
   (try with_reducible refine iC ?_)
   repeat' with_reducible first | refine W ?_ | refine Z0 ?_ | ((first | refine Wo fun K hK=>?_ | refine Wq ?_ | refine Wr ?_);(try simp only [go_sem,fN,seval,eT,iR,e5,e1,e2,e6,s2,ha]);(repeat refine Ai ?_);(try (refine hK _ ?_;clear hK K)))
   refine ⟨_,ih _ (Lm.lt_of_sub (Ae ha)) a (m - BQ (1 + Lm.sizes (t.subs.take k)) m) (by omega) (by omega) rfl,?_⟩
   have z5:=Gr a.size (m - BQ (1 + Lm.sizes (t.subs.take k)) m) (by omega)
   repeat' with_reducible first | refine W ?_ | refine Z0 ?_ | ((first | refine Wo fun K hK=>?_ | refine Wq ?_ | refine Wr ?_);(try simp only [go_sem,fN,seval,eT,iR,e5,e1,e2,e6,s2]);(repeat refine Ai ?_);(try (refine hK _ ?_;clear hK K)))
   refine Ag ⟨t.subs.length - (k + 1),by omega,k + 1,by omega,rfl,?_⟩
   simp only [go_sem,fN,seval,eT,iR,e5,e1,e2,e6,s2]
   exact ⟨by rw [b1,JY b2,z1];congr 4;omega,by congr 3⟩
 ·repeat' with_reducible first | refine W ?_ | refine Z0 ?_ | ((first | refine Wo fun K hK=>?_ | refine Wq ?_ | refine Wr ?_);(try simp only [go_sem,fN,seval,eT,iR,e5,e1,e2,e6,s2,hlt]);(repeat refine Ai ?_);(try (refine hK _ ?_;clear hK K)))
  with_reducible refine Wp ?_
  simp only [go_sem,fN,seval,true_implies,false_implies,implies_true,dT,dF,nL]
  (try with_reducible refine iC ?_)
  have hfull:1 + Lm.sizes (t.subs.take k)=t.size:=by rw [List.take_of_length_le (by omega),hs]
  rw [hfull] at e5 z4
  repeat' with_reducible first | refine W ?_ | refine Z0 ?_ | ((first | refine Wo fun K hK=>?_ | refine Wq ?_ | refine Wr ?_);(try simp only [go_sem,fN,seval,eT,iR,e5,e1]);(repeat refine Ai ?_);(try (refine hK _ ?_;clear hK K)))
  by_cases hb:m < BQ t.size m
  ·with_reducible refine Wp ?_
   simp only [go_sem,fN,seval,true_implies,false_implies,implies_true,dT,dF,nL,hb]
   (try with_reducible refine iC ?_)
   repeat' with_reducible first | refine W ?_ | refine Z0 ?_ | ((first | refine Wo fun K hK=>?_ | refine Wq ?_ | refine Wr ?_);(try simp only [go_sem,fN,seval,eT,iR,e1]);(repeat refine Ai ?_);(try (refine hK _ ?_;clear hK K)))
   simp only [go_sem,fN,seval,AR,AS.result,AB,AE,AQ]
   rw [E0 hb (Nat.le_refl _)]
  ·with_reducible refine Wp ?_
   simp only [go_sem,fN,seval,true_implies,false_implies,implies_true,dT,dF,nL,hb]
   (try with_reducible refine iC ?_)
   repeat' with_reducible first | refine W ?_ | refine Z0 ?_ | ((first | refine Wo fun K hK=>?_ | refine Wq ?_ | refine Wr ?_);(try simp only [go_sem,fN,seval,eT,iR,e5]);(repeat refine Ai ?_);(try (refine hK _ ?_;clear hK K)))
   simp only [go_sem,fN,seval,AR,AS.result,AB,AE,AQ,e5]
theorem MH {k:Int} (h:1≤k∧k≤5):k=1 ∨ k=2 ∨ k=3 ∨ k=4 ∨ k=5:=by omega
set_option maxHeartbeats 1000000 in
theorem SJ (t:Lm) (u m:Int) (hu:0≤u) (hz:u + t.size≤1000000000):AW Tryz.prog 56 [aLm t,Ad u,Ad m] (Ad (t.chk m u)):=by
 induction h:SizeOf.sizeOf t using Nat.strongRecOn generalizing t u with
 | _ N ih =>
 subst h
 have hs:=Lm.size_eq t
 have hlen:=Lm.length_le t.subs
 refine IK.ac fun C hC=>?_
 unfold E9
 by_cases hk:1≤t.kind∧t.kind≤5
 case neg =>
  rw [Lm.chk_eq,if_neg (fun h=>hk ⟨h.1,h.2.1⟩)]
  by_cases h1:t.kind < 1
  ·repeat' with_reducible first | refine W ?_ | refine Z0 ?_ | ((first | refine Wo fun K hK=>?_ | refine Wp ?_ | refine Wq ?_ | refine Wr ?_);(try simp only [go_sem,fN,seval,eT,iR,h1,dT,dF,nL]);(repeat refine Ai ?_);(try (refine hK _ ?_;clear hK K));try refine iC ?_)
   simp only [go_sem,fN,seval,AR,AS.result,AB,AE,AQ]
  ·have h5:5 < t.kind:=by omega
   repeat' with_reducible first | refine W ?_ | refine Z0 ?_ | ((first | refine Wo fun K hK=>?_ | refine Wp ?_ | refine Wq ?_ | refine Wr ?_);(try simp only [go_sem,fN,seval,eT,iR,h1,h5,dT,dF,nL]);(repeat refine Ai ?_);(try (refine hK _ ?_;clear hK K));try refine iC ?_)
   simp only [go_sem,fN,seval,AR,AS.result,AB,AE,AQ]
 case pos =>
 have hk5:=MH hk
 have q1:¬ t.kind < 1:=by omega
 have q5:¬ 5 < t.kind:=by omega
 by_cases hl:(t.subs.length:Int)=DU t.kind
 case neg =>
  rw [Lm.chk_eq,if_neg (fun h=>hl h.2.2)]
  rcases hk5 with hk5 | hk5 | hk5 | hk5 | hk5
  all_goals
   simp only [hk5,DU,Int.reduceEq,↓reduceIte] at hl
   repeat' with_reducible first | refine W ?_ | refine Z0 ?_ | ((first | refine Wo fun K hK=>?_ | refine Wp ?_ | refine Wq ?_ | refine Wr ?_);(try simp only [go_sem,fN,seval,eT,iR,hk5,hl,dT,dF,nL]);(repeat refine Ai ?_);(try (refine hK _ ?_;clear hK K));try refine iC ?_)
   simp only [go_sem,fN,seval,AR,AS.result,AB,AE,AQ]
 case pos =>
 by_cases h0:t.idx < 0
 case pos =>
  rw [Lm.chk_eq,if_pos ⟨hk.1,hk.2,hl⟩,if_neg (fun h=>by omega)]
  rcases hk5 with hk5 | hk5 | hk5 | hk5 | hk5
  all_goals
   simp only [hk5,DU,Int.reduceEq,↓reduceIte] at hl
   repeat' with_reducible first | refine W ?_ | refine Z0 ?_ | ((first | refine Wo fun K hK=>?_ | refine Wp ?_ | refine Wq ?_ | refine Wr ?_);(try simp only [go_sem,fN,seval,eT,iR,hk5,hl,h0,dT,dF,nL]);(repeat refine Ai ?_);(try (refine hK _ ?_;clear hK K));try refine iC ?_)
   simp only [go_sem,fN,seval,AR,AS.result,AB,AE,AQ]
 case neg =>
 by_cases hm:A3 t.kind u m≤t.idx
 case pos =>
  rw [Lm.chk_eq,if_pos ⟨hk.1,hk.2,hl⟩,if_neg (fun h=>by omega)]
  rcases hk5 with hk5 | hk5 | hk5 | hk5 | hk5
  all_goals
   simp only [hk5,DU,A3,Int.reduceEq,↓reduceIte] at hl hm
   repeat' with_reducible first | refine W ?_ | refine Z0 ?_ | ((first | refine Wo fun K hK=>?_ | refine Wp ?_ | refine Wq ?_ | refine Wr ?_);(try simp only [go_sem,fN,seval,eT,iR,hk5,hl,h0,hm,dT,dF,nL]);(repeat refine Ai ?_);(try (refine hK _ ?_;clear hK K));try refine iC ?_)
   simp only [go_sem,fN,seval,AR,AS.result,AB,AE,AQ]
 case neg =>
 rw [Lm.chk_eq,if_pos ⟨hk.1,hk.2,hl⟩,if_pos (by omega)]
 rcases hk5 with hk5 | hk5 | hk5 | hk5 | hk5
 all_goals
  simp only [hk5,DU,A3,Int.reduceEq,↓reduceIte] at hl hm
  repeat' with_reducible first | refine W ?_ | refine Z0 ?_ | ((first | refine Wo fun K hK=>?_ | refine Wp ?_ | refine Wq ?_ | refine Wr ?_);(try simp only [go_sem,fN,seval,eT,iR,hk5,hl,h0,hm,dT,dF,nL]);(repeat refine Ai ?_);(try (refine hK _ ?_;clear hK K));try refine iC ?_)
  refine IWP.loopD [9] (fun n s=>∃ k,k≤t.subs.length∧n=t.subs.length - k∧Lm.chks m (t.subs.take k) (Aj t.kind u)=0∧s.env 1=Ad (Aj t.kind u)∧s.env 2=Ad m∧s.env 54=.one (.st (.list (t.subs.map Ci)))∧s.env 55=Ad t.subs.length∧s.env 56=Ad k∧s.S 9=none) t.subs.length ⟨0,Nat.zero_le _,rfl,rfl,by simp only [hk5,Aj];rfl,rfl,rfl,by simp only [go_sem,fN,seval,eT,iR,hl],rfl,rfl⟩ ?_
  rintro n ⟨env,S⟩ ⟨k,hk',rfl,hc,e1,e2,e54,e55,e56,s9⟩
  simp only at e1 e2 e54 e55 e56 s9
  by_cases hlt:(k:Int) < t.subs.length
  ·obtain ⟨a,ha⟩:=Bk (show k < t.subs.length by omega)
   have z3:=Lm.size_mem (Ae ha)
   have hu2:Aj t.kind u≤u + 1∧0≤Aj t.kind u:=by unfold Aj;split <;> omega
   repeat' with_reducible first | refine W ?_ | refine Z0 ?_ | ((first | refine Wo fun K hK=>?_ | refine Wp ?_ | refine Wq ?_ | refine Wr ?_);(try simp only [go_sem,fN,seval,eT,iR,e1,e2,e54,e55,e56,s9,ha,hlt,dT,dF,nL]);(repeat refine Ai ?_);(try (refine hK _ ?_;clear hK K));try refine iC ?_)
   refine ⟨_,ih _ (Lm.lt_of_sub (Ae ha)) a (Aj t.kind u) hu2.2 (by omega) rfl,?_⟩
   by_cases hr:a.chk m (Aj t.kind u)=0
   ·repeat' with_reducible first | refine W ?_ | refine Z0 ?_ | ((first | refine Wo fun K hK=>?_ | refine Wp ?_ | refine Wq ?_ | refine Wr ?_);(try simp only [go_sem,fN,seval,eT,iR,e1,e2,e54,e55,e56,s9,hr,dT,dF,nL]);(repeat refine Ai ?_);(try (refine hK _ ?_;clear hK K));try refine iC ?_)
    refine Ag ⟨t.subs.length - (k + 1),by omega,k + 1,by omega,rfl,?_⟩
    simp only [go_sem,fN,seval,AS.drop,CN,AC.clears,AC.clear,AC.highs,AC.high,Bool.not_false,Bool.true_and,Bool.and_self,AV.purge,AV.purges,AC.purge,AU.purge,List.contains_cons,List.contains_nil,Nat.reduceBEq,Bool.or_self,Bool.or_false,Bool.false_or,Bool.or_true,eT,iR,e1,e2,e54,e55,e56,s9]
    exact ⟨by rw [Lm.chks_take ha hc,hr],by congr 3⟩
   ·repeat' with_reducible first | refine W ?_ | refine Z0 ?_ | ((first | refine Wo fun K hK=>?_ | refine Wp ?_ | refine Wq ?_ | refine Wr ?_);(try simp only [go_sem,fN,seval,eT,iR,e1,e2,e54,e55,e56,s9,hr,dT,dF,nL]);(repeat refine Ai ?_);(try (refine hK _ ?_;clear hK K));try refine iC ?_)
    simp only [go_sem,fN,seval,AR,AS.result,AB,AE,AQ]
    simp only [hk5] at hc hr ⊢
    rw [Lm.chks_bad (k:=k + 1) (by rw [Lm.chks_take ha hc];exact hr),Lm.chks_take ha hc]
  ·repeat' with_reducible first | refine W ?_ | refine Z0 ?_ | ((first | refine Wo fun K hK=>?_ | refine Wp ?_ | refine Wq ?_ | refine Wr ?_);(try simp only [go_sem,fN,seval,eT,iR,e1,e2,e54,e55,e56,s9,hlt,dT,dF,nL]);(repeat refine Ai ?_);(try (refine hK _ ?_;clear hK K));try refine iC ?_)
   simp only [go_sem,fN,seval,AR,AS.result,AB,AE,AQ]
   rw [List.take_of_length_le (by omega)] at hc
   simp only [hk5] at hc ⊢
   rw [hc]
theorem JS {s:Nat} {m:Int} (h:0≤m):Ba s m < 0 ↔ m < s:=by
 unfold Ba
 split <;> omega
theorem LX (t:Lm) (u m:Int):AW Tryz.prog 31 [aLm t,Ad u,Ad m] (Ad (t.may m u)):=by
 refine GD.ac fun C hC=>?_
 unfold De
 unfold Lm.may
 by_cases h0:u < 0
 ·rw [if_pos (Or.inl h0)]
  repeat' with_reducible first | refine W ?_ | refine Z0 ?_ | ((first | refine Wo fun K hK=>?_ | refine Wp ?_ | refine Wq ?_ | refine Wr ?_);(try simp only [go_sem,fN,seval,eT,iR,h0,dT,dF,nL]);(repeat refine Ai ?_);(try (refine hK _ ?_;clear hK K));try refine iC ?_)
  simp only [go_sem,fN,seval,AR,AS.result,AB,AE,AQ]
 by_cases h1:40 < u
 ·rw [if_pos (Or.inr h1)]
  repeat' with_reducible first | refine W ?_ | refine Z0 ?_ | ((first | refine Wo fun K hK=>?_ | refine Wp ?_ | refine Wq ?_ | refine Wr ?_);(try simp only [go_sem,fN,seval,eT,iR,h0,h1,dT,dF,nL]);(repeat refine Ai ?_);(try (refine hK _ ?_;clear hK K));try refine iC ?_)
  simp only [go_sem,fN,seval,AR,AS.result,AB,AE,AQ]
 rw [if_neg (by omega)]
 have hw:=@JS t.size 200 (by decide)
 by_cases hz:200 < t.size
 ·have hz':=hw.2 (by omega)
  rw [if_pos hz]
  repeat' (first | (with_reducible first | refine W ?_ | refine Z0 ?_ | ((first | refine Wo fun K hK=>?_ | refine Wp ?_ | refine Wq ?_ | refine Wr ?_);(try simp only [go_sem,fN,seval,eT,iR,h0,h1,hz',dT,dF,nL]);(repeat refine Ai ?_);(try (refine hK _ ?_;clear hK K));try refine iC ?_)) | refine Cg _ (Kv t 200 (by decide) (by decide)) ?_)
  simp only [go_sem,fN,seval,AR,AS.result,AB,AE,AQ]
 ·have hz':¬ Ba t.size 200 < 0:=fun h=>hz (by have:=hw.1 h;omega)
  rw [if_neg hz]
  repeat' (first | (with_reducible first | refine W ?_ | refine Z0 ?_ | ((first | refine Wo fun K hK=>?_ | refine Wp ?_ | refine Wq ?_ | refine Wr ?_);(try simp only [go_sem,fN,seval,eT,iR,h0,h1,hz',dT,dF,nL]);(repeat refine Ai ?_);(try (refine hK _ ?_;clear hK K));try refine iC ?_)) | refine Cg _ (Kv t 200 (by decide) (by decide)) ?_ | refine Cg _ (SJ t u m (by omega) (by omega)) ?_)
  simp only [go_sem,fN,seval,AR,AS.result,AB,AE,AQ]
theorem DX (t:Lm) (u:Int):AW Tryz.prog 15 [aLm t,Ad u] (Ad (t.may 0 u)):=by
 refine IH.ac fun C hC=>?_
 unfold E5
 repeat' (first | (with_reducible first | refine W ?_ | refine Z0 ?_ | ((first | refine Wo fun K hK=>?_ | refine Wp ?_ | refine Wq ?_ | refine Wr ?_);(try simp only [go_sem,fN,seval,eT,iR,dT,dF,nL]);(repeat refine Ai ?_);(try (refine hK _ ?_;clear hK K));try refine iC ?_)) | refine Cg _ (LX t u 0) ?_)
 simp only [go_sem,fN,seval,AR,AS.result,AB,AE,AQ]

end Go.Proofs.YtignopbnnaimaaaGreatDoor
