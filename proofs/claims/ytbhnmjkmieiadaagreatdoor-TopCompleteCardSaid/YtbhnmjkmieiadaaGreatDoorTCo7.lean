/-
  Part 7 of the texts. Conditions: none.
-/
import Derived.Test.YtbhnmjkmieiadaaGreatDoorTCo6
import Derived.Lib.ItoaNum
namespace Go.Proofs.YtbhnmjkmieiadaaGreatDoor
open Go Go.RowKit
set_option linter.unusedVariables false
set_option linter.unusedSimpArgs false
set_option maxHeartbeats 400000
theorem EB (s:ByteArray) (k:Nat):Cv s k=Ak s k:=rfl
theorem O2 {s:ByteArray} (h:¬ s.size=0):¬ s=⟨#[]⟩:=fun e=>h (by rw [e];rfl)
theorem Lh {s:ByteArray} (h:s.size=0):s=⟨#[]⟩:=by
 have:=ByteArray.size_eq_zero_iff.1 h
 exact this
theorem MR (n:Int) (h0:0≤n):AY Tryz.prog 97 [.one (.st (.int .u8 n))] (Ad (BI n)):=by
 refine MZ.ac fun C hC=>?_
 unfold Gf
 have hc:(97≤n∧n≤122) ∨ (122 < n) ∨ (n < 97∧65≤n∧n≤90) ∨ (n < 97∧90 < n) ∨ (n < 65∧48≤n∧n≤57) ∨ (n < 65∧57 < n) ∨ (n < 48):=by omega
 rcases hc with h | h | h | h | h | h | h
 ·have h1:97≤n:=h.1
  have h2:n≤122:=h.2
  repeat' with_reducible first | refine W ?_ | refine Z0 ?_ | ((first | refine Wo fun K hK=>?_ | refine Wq ?_ | refine Wr ?_);(try simp only [go_sem,fN,seval,eT,iR,h1,h2]);(repeat refine Ai ?_);(try (refine hK _ ?_;clear hK K)))
  simp only [go_sem,fN,seval,AR,AS.result,AB,AD,AL,BI,h1,h2]
  try simp
 ·have h1:97≤n:=by omega
  have h2:¬ n≤122:=by omega
  have h3:65≤n:=by omega
  have h4:¬ n≤90:=by omega
  have h5:48≤n:=by omega
  have h6:¬ n≤57:=by omega
  repeat' with_reducible first | refine W ?_ | refine Z0 ?_ | ((first | refine Wo fun K hK=>?_ | refine Wq ?_ | refine Wr ?_);(try simp only [go_sem,fN,seval,eT,iR,h1,h2,h3,h4,h5,h6]);(repeat refine Ai ?_);(try (refine hK _ ?_;clear hK K)))
  simp only [go_sem,fN,seval,AR,AS.result,AB,AD,AL,BI,h1,h2,h3,h4,h5,h6]
  try simp
 ·have h1:¬ 97≤n:=by omega
  have h3:65≤n:=by omega
  have h4:n≤90:=by omega
  repeat' with_reducible first | refine W ?_ | refine Z0 ?_ | ((first | refine Wo fun K hK=>?_ | refine Wq ?_ | refine Wr ?_);(try simp only [go_sem,fN,seval,eT,iR,h1,h3,h4]);(repeat refine Ai ?_);(try (refine hK _ ?_;clear hK K)))
  simp only [go_sem,fN,seval,AR,AS.result,AB,AD,AL,BI,h1,h3,h4]
  try simp
 ·have h1:¬ 97≤n:=by omega
  have h3:65≤n:=by omega
  have h4:¬ n≤90:=by omega
  have h5:48≤n:=by omega
  have h6:¬ n≤57:=by omega
  repeat' with_reducible first | refine W ?_ | refine Z0 ?_ | ((first | refine Wo fun K hK=>?_ | refine Wq ?_ | refine Wr ?_);(try simp only [go_sem,fN,seval,eT,iR,h1,h3,h4,h5,h6]);(repeat refine Ai ?_);(try (refine hK _ ?_;clear hK K)))
  simp only [go_sem,fN,seval,AR,AS.result,AB,AD,AL,BI,h1,h3,h4,h5,h6]
  try simp
 ·have h1:¬ 97≤n:=by omega
  have h3:¬ 65≤n:=by omega
  have h5:48≤n:=by omega
  have h6:n≤57:=by omega
  repeat' with_reducible first | refine W ?_ | refine Z0 ?_ | ((first | refine Wo fun K hK=>?_ | refine Wq ?_ | refine Wr ?_);(try simp only [go_sem,fN,seval,eT,iR,h1,h3,h5,h6]);(repeat refine Ai ?_);(try (refine hK _ ?_;clear hK K)))
  simp only [go_sem,fN,seval,AR,AS.result,AB,AD,AL,BI,h1,h3,h5,h6]
  try simp
 ·have h1:¬ 97≤n:=by omega
  have h3:¬ 65≤n:=by omega
  have h5:48≤n:=by omega
  have h6:¬ n≤57:=by omega
  repeat' with_reducible first | refine W ?_ | refine Z0 ?_ | ((first | refine Wo fun K hK=>?_ | refine Wq ?_ | refine Wr ?_);(try simp only [go_sem,fN,seval,eT,iR,h1,h3,h5,h6]);(repeat refine Ai ?_);(try (refine hK _ ?_;clear hK K)))
  simp only [go_sem,fN,seval,AR,AS.result,AB,AD,AL,BI,h1,h3,h5,h6]
  try simp
 ·have h1:¬ 97≤n:=by omega
  have h3:¬ 65≤n:=by omega
  have h5:¬ 48≤n:=by omega
  repeat' with_reducible first | refine W ?_ | refine Z0 ?_ | ((first | refine Wo fun K hK=>?_ | refine Wq ?_ | refine Wr ?_);(try simp only [go_sem,fN,seval,eT,iR,h1,h3,h5]);(repeat refine Ai ?_);(try (refine hK _ ?_;clear hK K)))
  simp only [go_sem,fN,seval,AR,AS.result,AB,AD,AL,BI,h1,h3,h5]
  try simp
theorem H5 (n:Int) (h0:0≤n):AY Tryz.prog 87 [.one (.st (.int .u8 n))] (Ad (BI n)):=by
 refine M1.ac fun C hC=>?_
 unfold Hp
 have hc:(97≤n∧n≤122) ∨ (122 < n) ∨ (n < 97∧65≤n∧n≤90) ∨ (n < 97∧90 < n) ∨ (n < 65∧48≤n∧n≤57) ∨ (n < 65∧57 < n) ∨ (n < 48):=by omega
 rcases hc with h | h | h | h | h | h | h
 ·have h1:97≤n:=h.1
  have h2:n≤122:=h.2
  repeat' with_reducible first | refine W ?_ | refine Z0 ?_ | ((first | refine Wo fun K hK=>?_ | refine Wq ?_ | refine Wr ?_);(try simp only [go_sem,fN,seval,eT,iR,h1,h2]);(repeat refine Ai ?_);(try (refine hK _ ?_;clear hK K)))
  simp only [go_sem,fN,seval,AR,AS.result,AB,AD,AL,BI,h1,h2]
  try simp
 ·have h1:97≤n:=by omega
  have h2:¬ n≤122:=by omega
  have h3:65≤n:=by omega
  have h4:¬ n≤90:=by omega
  have h5:48≤n:=by omega
  have h6:¬ n≤57:=by omega
  repeat' with_reducible first | refine W ?_ | refine Z0 ?_ | ((first | refine Wo fun K hK=>?_ | refine Wq ?_ | refine Wr ?_);(try simp only [go_sem,fN,seval,eT,iR,h1,h2,h3,h4,h5,h6]);(repeat refine Ai ?_);(try (refine hK _ ?_;clear hK K)))
  simp only [go_sem,fN,seval,AR,AS.result,AB,AD,AL,BI,h1,h2,h3,h4,h5,h6]
  try simp
 ·have h1:¬ 97≤n:=by omega
  have h3:65≤n:=by omega
  have h4:n≤90:=by omega
  repeat' with_reducible first | refine W ?_ | refine Z0 ?_ | ((first | refine Wo fun K hK=>?_ | refine Wq ?_ | refine Wr ?_);(try simp only [go_sem,fN,seval,eT,iR,h1,h3,h4]);(repeat refine Ai ?_);(try (refine hK _ ?_;clear hK K)))
  simp only [go_sem,fN,seval,AR,AS.result,AB,AD,AL,BI,h1,h3,h4]
  try simp
 ·have h1:¬ 97≤n:=by omega
  have h3:65≤n:=by omega
  have h4:¬ n≤90:=by omega
  have h5:48≤n:=by omega
  have h6:¬ n≤57:=by omega
  repeat' with_reducible first | refine W ?_ | refine Z0 ?_ | ((first | refine Wo fun K hK=>?_ | refine Wq ?_ | refine Wr ?_);(try simp only [go_sem,fN,seval,eT,iR,h1,h3,h4,h5,h6]);(repeat refine Ai ?_);(try (refine hK _ ?_;clear hK K)))
  simp only [go_sem,fN,seval,AR,AS.result,AB,AD,AL,BI,h1,h3,h4,h5,h6]
  try simp
 ·have h1:¬ 97≤n:=by omega
  have h3:¬ 65≤n:=by omega
  have h5:48≤n:=by omega
  have h6:n≤57:=by omega
  repeat' with_reducible first | refine W ?_ | refine Z0 ?_ | ((first | refine Wo fun K hK=>?_ | refine Wq ?_ | refine Wr ?_);(try simp only [go_sem,fN,seval,eT,iR,h1,h3,h5,h6]);(repeat refine Ai ?_);(try (refine hK _ ?_;clear hK K)))
  simp only [go_sem,fN,seval,AR,AS.result,AB,AD,AL,BI,h1,h3,h5,h6]
  try simp
 ·have h1:¬ 97≤n:=by omega
  have h3:¬ 65≤n:=by omega
  have h5:48≤n:=by omega
  have h6:¬ n≤57:=by omega
  repeat' with_reducible first | refine W ?_ | refine Z0 ?_ | ((first | refine Wo fun K hK=>?_ | refine Wq ?_ | refine Wr ?_);(try simp only [go_sem,fN,seval,eT,iR,h1,h3,h5,h6]);(repeat refine Ai ?_);(try (refine hK _ ?_;clear hK K)))
  simp only [go_sem,fN,seval,AR,AS.result,AB,AD,AL,BI,h1,h3,h5,h6]
  try simp
 ·have h1:¬ 97≤n:=by omega
  have h3:¬ 65≤n:=by omega
  have h5:¬ 48≤n:=by omega
  repeat' with_reducible first | refine W ?_ | refine Z0 ?_ | ((first | refine Wo fun K hK=>?_ | refine Wq ?_ | refine Wr ?_);(try simp only [go_sem,fN,seval,eT,iR,h1,h3,h5]);(repeat refine Ai ?_);(try (refine hK _ ?_;clear hK K)))
  simp only [go_sem,fN,seval,AR,AS.result,AB,AD,AL,BI,h1,h3,h5]
  try simp
theorem Al (s:ByteArray):AY Tryz.prog 67 [Bo s] (Ad (AP s)):=by
 by_cases h0:s.size=0
 ·have:=Lh h0
  subst this
  refine FP.ac fun C hC=>?_
  unfold Dx
  repeat' with_reducible first | refine W ?_ | refine Z0 ?_ | ((first | refine Wo fun K hK=>?_ | refine Wq ?_ | refine Wr ?_);(try simp only [go_sem,fN,seval,eT,iR]);(repeat refine Ai ?_);(try (refine hK _ ?_;clear hK K)))
  simp only [go_sem,fN,seval,AR,AS.result,AB,AD,AL]
  rfl
 ·have h1:=O2 h0
  have h2:0 < s.size:=by omega
  refine FP.ac fun C hC=>?_
  unfold Dx
  by_cases h3:65≤Ak s 0 <;> by_cases h4:Ak s 0≤90
  all_goals
   repeat' with_reducible first | refine W ?_ | refine Z0 ?_ | ((first | refine Wo fun K hK=>?_ | refine Wq ?_ | refine Wr ?_);(try simp only [go_sem,fN,seval,eT,iR,h1,h2,EB,h3,h4]);(repeat refine Ai ?_);(try (refine hK _ ?_;clear hK K)))
   simp only [go_sem,fN,seval,AR,AS.result,AB,AD,AL,AP,h3,h4,h2]
   try simp
theorem Tc (s:ByteArray):AY Tryz.prog 50 [Bo s] (Ad (AP s)):=by
 by_cases h0:s.size=0
 ·have:=Lh h0
  subst this
  refine Mb.ac fun C hC=>?_
  unfold IJ
  repeat' with_reducible first | refine W ?_ | refine Z0 ?_ | ((first | refine Wo fun K hK=>?_ | refine Wq ?_ | refine Wr ?_);(try simp only [go_sem,fN,seval,eT,iR]);(repeat refine Ai ?_);(try (refine hK _ ?_;clear hK K)))
  simp only [go_sem,fN,seval,AR,AS.result,AB,AD,AL]
  rfl
 ·have h1:=O2 h0
  have h2:0 < s.size:=by omega
  refine Mb.ac fun C hC=>?_
  unfold IJ
  by_cases h3:65≤Ak s 0 <;> by_cases h4:Ak s 0≤90
  all_goals
   repeat' with_reducible first | refine W ?_ | refine Z0 ?_ | ((first | refine Wo fun K hK=>?_ | refine Wq ?_ | refine Wr ?_);(try simp only [go_sem,fN,seval,eT,iR,h1,h2,EB,h3,h4]);(repeat refine Ai ?_);(try (refine hK _ ?_;clear hK K)))
   simp only [go_sem,fN,seval,AR,AS.result,AB,AD,AL,AP,h3,h4,h2]
   try simp
theorem Nh (s:ByteArray) (h1:1≤s.size) (h8:s.size≤8) (hd:¬ (48≤Ak s 0∧Ak s 0≤57)):A_ s=B0 s s.size:=by
 unfold A_
 have:(decide (48≤Ak s 0) && decide (Ak s 0≤57))=false:=by
  rw [Bool.and_eq_false_iff]
  simp
  omega
 rw [this]
 simp [h1,h8]
theorem H9 (s:ByteArray):AY Tryz.prog 66 [Bo s] (Ad (A_ s)):=by
 by_cases h0:s.size < 1
 ·have e:A_ s=false:=by simp [A_];omega
  rw [e]
  have h0':(s.size:Int) < 1:=by omega
  refine EU.ac fun C hC=>?_
  unfold DY
  repeat' with_reducible first | refine W ?_ | refine Z0 ?_ | ((first | refine Wo fun K hK=>?_ | refine Wq ?_ | refine Wr ?_);(try simp only [go_sem,fN,seval,eT,iR,h0']);(repeat refine Ai ?_);(try (refine hK _ ?_;clear hK K)))
  with_reducible refine Wp ?_
  simp only [go_sem,fN,seval,true_implies,false_implies,implies_true,dT,dF,nL,h0']
  (try with_reducible refine iC ?_)
  repeat' with_reducible first | refine W ?_ | refine Z0 ?_ | ((first | refine Wo fun K hK=>?_ | refine Wq ?_ | refine Wr ?_);(try simp only [go_sem,fN,seval,eT,iR]);(repeat refine Ai ?_);(try (refine hK _ ?_;clear hK K)))
  simp only [go_sem,fN,seval,AR,AS.result,AB,AD,AL]
 have h0':¬ (s.size:Int) < 1:=by omega
 by_cases h8:8 < s.size
 ·have e:A_ s=false:=by simp [A_];omega
  rw [e]
  have h8':(8:Int) < s.size:=by omega
  refine EU.ac fun C hC=>?_
  unfold DY
  repeat' with_reducible first | refine W ?_ | refine Z0 ?_ | ((first | refine Wo fun K hK=>?_ | refine Wq ?_ | refine Wr ?_);(try simp only [go_sem,fN,seval,eT,iR,h0',h8']);(repeat refine Ai ?_);(try (refine hK _ ?_;clear hK K)))
  with_reducible refine Wp ?_
  simp only [go_sem,fN,seval,true_implies,false_implies,implies_true,dT,dF,nL,h0']
  (try with_reducible refine iC ?_)
  repeat' with_reducible first | refine W ?_ | refine Z0 ?_ | ((first | refine Wo fun K hK=>?_ | refine Wq ?_ | refine Wr ?_);(try simp only [go_sem,fN,seval,eT,iR]);(repeat refine Ai ?_);(try (refine hK _ ?_;clear hK K)))
  simp only [go_sem,fN,seval,AR,AS.result,AB,AD,AL]
 have h8':¬ (8:Int) < s.size:=by omega
 have hpos:0 < s.size:=by omega
 by_cases hd:48≤Ak s 0∧Ak s 0≤57
 ·have e:A_ s=false:=by simp [A_,hd.1,hd.2]
  rw [e]
  refine EU.ac fun C hC=>?_
  unfold DY
  repeat' with_reducible first | refine W ?_ | refine Z0 ?_ | ((first | refine Wo fun K hK=>?_ | refine Wq ?_ | refine Wr ?_);(try simp only [go_sem,fN,seval,eT,iR,h0',h8',hpos,EB,hd.1,hd.2]);(repeat refine Ai ?_);(try (refine hK _ ?_;clear hK K)))
  with_reducible refine Wp ?_
  simp only [go_sem,fN,seval,true_implies,false_implies,implies_true,dT,dF,nL,h0']
  (try with_reducible refine iC ?_)
  repeat' with_reducible first | refine W ?_ | refine Z0 ?_ | ((first | refine Wo fun K hK=>?_ | refine Wq ?_ | refine Wr ?_);(try simp only [go_sem,fN,seval,eT,iR]);(repeat refine Ai ?_);(try (refine hK _ ?_;clear hK K)))
  simp only [go_sem,fN,seval,AR,AS.result,AB,AD,AL]
 rw [Nh s (by omega) (by omega) hd]
 have hd2:(48≤Ak s 0∧¬ Ak s 0≤57) ∨ (¬ 48≤Ak s 0):=by omega
 refine EU.ac fun C hC=>?_
 unfold DY
 have h57:48≤Ak s 0→¬ Ak s 0≤57:=fun h h'=>hd ⟨h,h'⟩
 by_cases h48:48≤Ak s 0
 all_goals
  simp only [h48,true_implies,false_implies] at h57
  repeat' with_reducible first | refine W ?_ | refine Z0 ?_ | ((first | refine Wo fun K hK=>?_ | refine Wq ?_ | refine Wr ?_);(try simp only [go_sem,fN,seval,eT,iR,h0',h8',hpos,EB,h48,h57]);(repeat refine Ai ?_);(try (refine hK _ ?_;clear hK K)))
  with_reducible refine Wp ?_
  simp only [go_sem,fN,seval,true_implies,false_implies,implies_true,dT,dF,nL,h0']
  (try with_reducible refine iC ?_)
  repeat' with_reducible first | refine W ?_ | refine Z0 ?_ | ((first | refine Wo fun K hK=>?_ | refine Wq ?_ | refine Wr ?_);(try simp only [go_sem,fN,seval,eT,iR]);(repeat refine Ai ?_);(try (refine hK _ ?_;clear hK K)))
  refine IWP.loop (fun m x=>∃ k,k≤s.size∧m=s.size - k∧B0 s k=true∧x.env 0=Bo s∧x.env 23=AN s.size∧x.env 24=AN k) s.size ⟨0,Nat.zero_le _,rfl,rfl,rfl,rfl,rfl⟩ ?_
  rintro m ⟨env,S⟩ ⟨k,hk,rfl,hl,e0,e23,e24⟩
  simp only at e0 e23 e24
  repeat' with_reducible first | refine W ?_ | refine Z0 ?_ | ((first | refine Wo fun K hK=>?_ | refine Wq ?_ | refine Wr ?_);(try simp only [go_sem,fN,seval,eT,iR,e0,e23,e24]);(repeat refine Ai ?_);(try (refine hK _ ?_;clear hK K)))
  with_reducible refine Wp ?_
  simp only [go_sem,fN,seval,true_implies,false_implies,implies_true,dT,dF,nL,e0,e23,e24]
  (try with_reducible refine iC ?_)
  refine ⟨fun hlt=>?_,fun hge=>?_⟩
  ·have hlt':k < s.size:=by omega
   repeat' (first | (with_reducible first | refine W ?_ | refine Z0 ?_ | ((first | refine Wo fun K hK=>?_ | refine Wq ?_ | refine Wr ?_);(try simp only [go_sem,fN,seval,eT,iR,e0,e23,e24,hlt',EB]);(repeat refine Ai ?_);(try (refine hK _ ?_;clear hK K)))) | refine Cg _ (MR _ (EX s k).1) ?_)
   with_reducible refine Wp ?_
   simp only [go_sem,fN,seval,true_implies,false_implies,implies_true,dT,dF,nL]
   (try with_reducible refine iC ?_)
   refine ⟨fun hn=>?_,fun hn=>?_⟩
   ·repeat' with_reducible first | refine W ?_ | refine Z0 ?_ | ((first | refine Wo fun K hK=>?_ | refine Wq ?_ | refine Wr ?_);(try simp only [go_sem,fN,seval,eT,iR]);(repeat refine Ai ?_);(try (refine hK _ ?_;clear hK K)))
    simp only [go_sem,fN,seval,AR,AS.result,AB,AD,AL]
    rw [Ie s k hlt' (by simpa using hn)]
   ·repeat' with_reducible first | refine W ?_ | refine Z0 ?_ | ((first | refine Wo fun K hK=>?_ | refine Wq ?_ | refine Wr ?_);(try simp only [go_sem,fN,seval,eT,iR,e0,e23,e24]);(repeat refine Ai ?_);(try (refine hK _ ?_;clear hK K)))
    refine AH ⟨s.size - (k + 1),by omega,k + 1,by omega,rfl,?_,?_⟩
    ·rw [G4 s k hlt',hl]
     simpa using hn
    ·simp only [go_sem,fN,seval,eT,iR,e0,e23,e24]
     congr 3
  ·repeat' with_reducible first | refine W ?_ | refine Z0 ?_ | ((first | refine Wo fun K hK=>?_ | refine Wq ?_ | refine Wr ?_);(try simp only [go_sem,fN,seval,eT,iR]);(repeat refine Ai ?_);(try (refine hK _ ?_;clear hK K)))
   simp only [go_sem,fN,seval,AR,AS.result,AB,AD,AL]
   rw [show s.size=k by omega,hl]
theorem Fj (s:ByteArray):AY Tryz.prog 49 [Bo s] (Ad (A_ s)):=by
 by_cases h0:s.size < 1
 ·have e:A_ s=false:=by simp [A_];omega
  rw [e]
  have h0':s=⟨#[]⟩:=Lh (by omega)
  subst h0'
  refine E9.ac fun C hC=>?_
  unfold D7
  repeat' with_reducible first | refine W ?_ | refine Z0 ?_ | ((first | refine Wo fun K hK=>?_ | refine Wq ?_ | refine Wr ?_);(try simp only [go_sem,fN,seval,eT,iR]);(repeat refine Ai ?_);(try (refine hK _ ?_;clear hK K)))
  with_reducible refine Wp ?_
  simp only [go_sem,fN,seval,true_implies,false_implies,implies_true,dT,dF,nL]
  (try with_reducible refine iC ?_)
  repeat' with_reducible first | refine W ?_ | refine Z0 ?_ | ((first | refine Wo fun K hK=>?_ | refine Wq ?_ | refine Wr ?_);(try simp only [go_sem,fN,seval,eT,iR]);(repeat refine Ai ?_);(try (refine hK _ ?_;clear hK K)))
  simp only [go_sem,fN,seval,AR,AS.result,AB,AD,AL]
 have h0':¬ s=⟨#[]⟩:=O2 (by omega)
 by_cases h8:8 < s.size
 ·have e:A_ s=false:=by simp [A_];omega
  rw [e]
  have h8':(8:Int) < s.size:=by omega
  refine E9.ac fun C hC=>?_
  unfold D7
  repeat' with_reducible first | refine W ?_ | refine Z0 ?_ | ((first | refine Wo fun K hK=>?_ | refine Wq ?_ | refine Wr ?_);(try simp only [go_sem,fN,seval,eT,iR,h0',h8']);(repeat refine Ai ?_);(try (refine hK _ ?_;clear hK K)))
  with_reducible refine Wp ?_
  simp only [go_sem,fN,seval,true_implies,false_implies,implies_true,dT,dF,nL,h0']
  (try with_reducible refine iC ?_)
  repeat' with_reducible first | refine W ?_ | refine Z0 ?_ | ((first | refine Wo fun K hK=>?_ | refine Wq ?_ | refine Wr ?_);(try simp only [go_sem,fN,seval,eT,iR]);(repeat refine Ai ?_);(try (refine hK _ ?_;clear hK K)))
  simp only [go_sem,fN,seval,AR,AS.result,AB,AD,AL]
 have h8':¬ (8:Int) < s.size:=by omega
 have hpos:0 < s.size:=by omega
 by_cases hd:48≤Ak s 0∧Ak s 0≤57
 ·have e:A_ s=false:=by simp [A_,hd.1,hd.2]
  rw [e]
  refine E9.ac fun C hC=>?_
  unfold D7
  repeat' with_reducible first | refine W ?_ | refine Z0 ?_ | ((first | refine Wo fun K hK=>?_ | refine Wq ?_ | refine Wr ?_);(try simp only [go_sem,fN,seval,eT,iR,h0',h8',hpos,EB,hd.1,hd.2]);(repeat refine Ai ?_);(try (refine hK _ ?_;clear hK K)))
  with_reducible refine Wp ?_
  simp only [go_sem,fN,seval,true_implies,false_implies,implies_true,dT,dF,nL,h0']
  (try with_reducible refine iC ?_)
  repeat' with_reducible first | refine W ?_ | refine Z0 ?_ | ((first | refine Wo fun K hK=>?_ | refine Wq ?_ | refine Wr ?_);(try simp only [go_sem,fN,seval,eT,iR]);(repeat refine Ai ?_);(try (refine hK _ ?_;clear hK K)))
  simp only [go_sem,fN,seval,AR,AS.result,AB,AD,AL]
 rw [Nh s (by omega) (by omega) hd]
 refine E9.ac fun C hC=>?_
 unfold D7
 have h57:48≤Ak s 0→¬ Ak s 0≤57:=fun h h'=>hd ⟨h,h'⟩
 by_cases h48:48≤Ak s 0
 all_goals
  simp only [h48,true_implies,false_implies] at h57
  repeat' with_reducible first | refine W ?_ | refine Z0 ?_ | ((first | refine Wo fun K hK=>?_ | refine Wq ?_ | refine Wr ?_);(try simp only [go_sem,fN,seval,eT,iR,h0',h8',hpos,EB,h48,h57]);(repeat refine Ai ?_);(try (refine hK _ ?_;clear hK K)))
  with_reducible refine Wp ?_
  simp only [go_sem,fN,seval,true_implies,false_implies,implies_true,dT,dF,nL,h0']
  (try with_reducible refine iC ?_)
  repeat' with_reducible first | refine W ?_ | refine Z0 ?_ | ((first | refine Wo fun K hK=>?_ | refine Wq ?_ | refine Wr ?_);(try simp only [go_sem,fN,seval,eT,iR]);(repeat refine Ai ?_);(try (refine hK _ ?_;clear hK K)))
  refine IWP.loop (fun m x=>∃ k,k≤s.size∧m=s.size - k∧B0 s k=true∧x.env 0=Bo s∧x.env 3=AN k) s.size ⟨0,Nat.zero_le _,rfl,rfl,rfl,rfl⟩ ?_
  rintro m ⟨env,S⟩ ⟨k,hk,rfl,hl,e0,e3⟩
  simp only at e0 e3
  repeat' with_reducible first | refine W ?_ | refine Z0 ?_ | ((first | refine Wo fun K hK=>?_ | refine Wq ?_ | refine Wr ?_);(try simp only [go_sem,fN,seval,eT,iR,e0,e3]);(repeat refine Ai ?_);(try (refine hK _ ?_;clear hK K)))
  with_reducible refine Wp ?_
  simp only [go_sem,fN,seval,true_implies,false_implies,implies_true,dT,dF,nL,e0,e3]
  (try with_reducible refine iC ?_)
  refine ⟨fun hlt=>?_,fun hge=>?_⟩
  ·have hlt':k < s.size:=by omega
   repeat' (first | (with_reducible first | refine W ?_ | refine Z0 ?_ | ((first | refine Wo fun K hK=>?_ | refine Wq ?_ | refine Wr ?_);(try simp only [go_sem,fN,seval,eT,iR,e0,e3,hlt',EB]);(repeat refine Ai ?_);(try (refine hK _ ?_;clear hK K)))) | refine Cg _ (H5 _ (EX s k).1) ?_)
   with_reducible refine Wp ?_
   simp only [go_sem,fN,seval,true_implies,false_implies,implies_true,dT,dF,nL]
   (try with_reducible refine iC ?_)
   refine ⟨fun hn=>?_,fun hn=>?_⟩
   ·repeat' with_reducible first | refine W ?_ | refine Z0 ?_ | ((first | refine Wo fun K hK=>?_ | refine Wq ?_ | refine Wr ?_);(try simp only [go_sem,fN,seval,eT,iR]);(repeat refine Ai ?_);(try (refine hK _ ?_;clear hK K)))
    simp only [go_sem,fN,seval,AR,AS.result,AB,AD,AL]
    rw [Ie s k hlt' (by simpa using hn)]
   ·repeat' with_reducible first | refine W ?_ | refine Z0 ?_ | ((first | refine Wo fun K hK=>?_ | refine Wq ?_ | refine Wr ?_);(try simp only [go_sem,fN,seval,eT,iR,e0,e3]);(repeat refine Ai ?_);(try (refine hK _ ?_;clear hK K)))
    refine AH ⟨s.size - (k + 1),by omega,k + 1,by omega,rfl,?_,?_⟩
    ·rw [G4 s k hlt',hl]
     simpa using hn
    ·simp only [go_sem,fN,seval,eT,iR,e0,e3]
     congr 3
  ·repeat' with_reducible first | refine W ?_ | refine Z0 ?_ | ((first | refine Wo fun K hK=>?_ | refine Wq ?_ | refine Wr ?_);(try simp only [go_sem,fN,seval,eT,iR]);(repeat refine Ai ?_);(try (refine hK _ ?_;clear hK K)))
   simp only [go_sem,fN,seval,AR,AS.result,AB,AD,AL]
   rw [show s.size=k by omega,hl]
theorem XP (t:Tm) (m:Int) (h0:0≤m) (h1:m≤9223372036854775807):AY Tryz.prog 82 [aTm t,AN m] (AN (Ci t.size m)):=by
 induction h:SizeOf.sizeOf t using Nat.strongRecOn generalizing t m with
 | _ N ih =>
 subst h
 have hs:=Tm.size_eq t
 refine MP.ac fun C hC=>?_
 unfold Gd
 refine IWP.learn 0 (by omega) fun hkn=>?_
 have hkn:=Lb hkn
 repeat' with_reducible first | refine W ?_ | refine Z0 ?_ | ((first | refine Wo fun K hK=>?_ | refine Wq ?_ | refine Wr ?_);(try simp only [go_sem,fN,seval,eT,iR]);(repeat refine Ai ?_);(try (refine hK _ ?_;clear hK K)))
 refine IWP.loopD [6] (fun n s=>∃ k,k≤t.args.length∧n=t.args.length - k∧s.env 1=AN (Ci (1 + Tm.sizes (t.args.take k)) m)∧s.env 10=.one (.st (.list (t.args.map Ao)))∧s.env 11=AN t.args.length∧s.env 12=AN k∧s.S 6=none) t.args.length ⟨0,Nat.zero_le _,rfl,by
  simp only [go_sem,fN,seval,eT,iR]
  rw [Ci]
  have z0:Tm.sizes []=0:=rfl
  congr 3
  split <;> omega,rfl,rfl,rfl,rfl⟩ ?_
 rintro n ⟨env,S⟩ ⟨k,hk,rfl,e1,e10,e11,e12,s6⟩
 simp only at e1 e10 e11 e12 s6
 repeat' with_reducible first | refine W ?_ | refine Z0 ?_ | ((first | refine Wo fun K hK=>?_ | refine Wq ?_ | refine Wr ?_);(try simp only [go_sem,fN,seval,eT,iR,e1,e10,e11,e12,s6]);(repeat refine Ai ?_);(try (refine hK _ ?_;clear hK K)))
 with_reducible refine Wp ?_
 simp only [go_sem,fN,seval,true_implies,false_implies,implies_true,dT,dF,nL,e1,e10,e11,e12,s6]
 (try with_reducible refine iC ?_)
 refine ⟨fun hlt=>?_,fun hge=>?_⟩
 ·obtain ⟨a,ha⟩:=Aj (show k < t.args.length by omega)
  have z1:=Tm.sizes_take ha
  have z2:=Tm.sizes_take_le t.args (k + 1)
  have z3:=Tm.length_le t.args
  have z4:=Ue (1 + Tm.sizes (t.args.take k)) m h0
  repeat' with_reducible first | refine W ?_ | refine Z0 ?_ | ((first | refine Wo fun K hK=>?_ | refine Wq ?_ | refine Wr ?_);(try simp only [go_sem,fN,seval,eT,iR,e1,e10,e11,e12,s6,ha]);(repeat refine Ai ?_);(try (refine hK _ ?_;clear hK K)))
  with_reducible refine Wp ?_
  simp only [go_sem,fN,seval,true_implies,false_implies,implies_true,dT,dF,nL,e1]
  (try with_reducible refine iC ?_)
  refine ⟨fun hb=>?_,fun hb=>?_⟩
  ·repeat' with_reducible first | refine W ?_ | refine Z0 ?_ | ((first | refine Wo fun K hK=>?_ | refine Wq ?_ | refine Wr ?_);(try simp only [go_sem,fN,seval,eT,iR,e1]);(repeat refine Ai ?_);(try (refine hK _ ?_;clear hK K)))
   simp only [go_sem,fN,seval,AR,AS.result,AB,AD,AL,e1]
   rw [SR hb (show _≤t.size by rw [hs];omega)]
  ·repeat' (first | (with_reducible first | refine W ?_ | refine Z0 ?_ | ((first | refine Wo fun K hK=>?_ | refine Wq ?_ | refine Wr ?_);(try simp only [go_sem,fN,seval,eT,iR,e1,e10,e11,e12,s6,ha]);(repeat refine Ai ?_);(try (refine hK _ ?_;clear hK K)))) | refine Cg _ (ih _ (Tm.lt_of_arg (AU ha)) a _ (by omega) (by omega) rfl) ?_)
   refine AH ⟨t.args.length - (k + 1),by omega,k + 1,by omega,rfl,?_⟩
   simp only [go_sem,fN,seval,AS.drop,Ac,AC.clears,AC.clear,AC.highs,AC.high,zD,AV.purge,AV.purges,AC.purge,AK.purge,Nat.reduceBEq,eT,iR,e1,e10,e11,e12,s6]
   exact ⟨by rw [Qf (by omega),z1];congr 4;omega,by congr 3⟩
 ·repeat' with_reducible first | refine W ?_ | refine Z0 ?_ | ((first | refine Wo fun K hK=>?_ | refine Wq ?_ | refine Wr ?_);(try simp only [go_sem,fN,seval,eT,iR,e1]);(repeat refine Ai ?_);(try (refine hK _ ?_;clear hK K)))
  simp only [go_sem,fN,seval,AR,AS.result,AB,AD,AL,e1]
  rw [List.take_of_length_le (by omega),hs]
theorem Yp (t:Tm):AY Tryz.prog 83 [aTm t] (AN t.chk):=by
 induction h:SizeOf.sizeOf t using Nat.strongRecOn generalizing t with
 | _ N ih =>
 subst h
 have hc:=Tm.chk_eq t
 have hc1:Cj t=if A_ t.name=true then (if AP t.name=true∧0 < t.args.length then 2 else 0) else 1:=rfl
 refine Mu.ac fun C hC=>?_
 unfold H3
 refine IWP.learn 0 (by omega) fun hkn=>?_
 have hkn:=Lb hkn
 repeat' with_reducible first | refine W ?_ | refine Z0 ?_ | ((first | refine Wo fun K hK=>?_ | refine Wq ?_ | refine Wr ?_);(try simp only [go_sem,fN,seval,eT,iR]);(repeat refine Ai ?_);(try (refine hK _ ?_;clear hK K)))
 refine ⟨_,H9 _,?_⟩
 cases hn:A_ t.name with
 | false =>
  rw [hn,if_neg (by simp)] at hc1
  repeat' with_reducible first | refine W ?_ | refine Z0 ?_ | ((first | refine Wo fun K hK=>?_ | refine Wq ?_ | refine Wr ?_);(try simp only [go_sem,fN,seval,eT,iR]);(repeat refine Ai ?_);(try (refine hK _ ?_;clear hK K)))
  with_reducible refine Wp ?_
  simp only [go_sem,fN,seval,true_implies,false_implies,implies_true,dT,dF,nL]
  (try with_reducible refine iC ?_)
  repeat' with_reducible first | refine W ?_ | refine Z0 ?_ | ((first | refine Wo fun K hK=>?_ | refine Wq ?_ | refine Wr ?_);(try simp only [go_sem,fN,seval,eT,iR]);(repeat refine Ai ?_);(try (refine hK _ ?_;clear hK K)))
  simp only [go_sem,fN,seval,AR,AS.result,AB,AD,AL]
  rw [hc,hc1]
  rfl
 | true =>
  rw [hn,if_pos rfl] at hc1
  repeat' with_reducible first | refine W ?_ | refine Z0 ?_ | ((first | refine Wo fun K hK=>?_ | refine Wq ?_ | refine Wr ?_);(try simp only [go_sem,fN,seval,eT,iR]);(repeat refine Ai ?_);(try (refine hK _ ?_;clear hK K)))
  with_reducible refine Wp ?_
  simp only [go_sem,fN,seval,true_implies,false_implies,implies_true,dT,dF,nL]
  (try with_reducible refine iC ?_)
  repeat' with_reducible first | refine W ?_ | refine Z0 ?_ | ((first | refine Wo fun K hK=>?_ | refine Wq ?_ | refine Wr ?_);(try simp only [go_sem,fN,seval,eT,iR]);(repeat refine Ai ?_);(try (refine hK _ ?_;clear hK K)))
  refine ⟨_,Al _,?_⟩
  by_cases hv:AP t.name=true∧0 < t.args.length
  ·obtain ⟨hv1,hv2⟩:=hv
   have hv2':(0:Int) < t.args.length:=by omega
   rw [if_pos ⟨hv1,hv2⟩] at hc1
   rw [hv1]
   repeat' with_reducible first | refine W ?_ | refine Z0 ?_ | ((first | refine Wo fun K hK=>?_ | refine Wq ?_ | refine Wr ?_);(try simp only [go_sem,fN,seval,eT,iR,hv2']);(repeat refine Ai ?_);(try (refine hK _ ?_;clear hK K)))
   with_reducible refine Wp ?_
   simp only [go_sem,fN,seval,true_implies,false_implies,implies_true,dT,dF,nL,hv2']
   (try with_reducible refine iC ?_)
   repeat' with_reducible first | refine W ?_ | refine Z0 ?_ | ((first | refine Wo fun K hK=>?_ | refine Wq ?_ | refine Wr ?_);(try simp only [go_sem,fN,seval,eT,iR]);(repeat refine Ai ?_);(try (refine hK _ ?_;clear hK K)))
   simp only [go_sem,fN,seval,AR,AS.result,AB,AD,AL]
   rw [hc,hc1]
   rfl
  ·rw [if_neg hv] at hc1
   rw [if_pos hc1] at hc
   have hv2:AP t.name=true→¬ (0:Int) < t.args.length:=fun h h'=>hv ⟨h,by omega⟩
   cases hvv:AP t.name
   all_goals
    simp only [hvv,true_implies,false_implies,Bool.false_eq_true] at hv2
    repeat' with_reducible first | refine W ?_ | refine Z0 ?_ | ((first | refine Wo fun K hK=>?_ | refine Wq ?_ | refine Wr ?_);(try simp only [go_sem,fN,seval,eT,iR,hv2]);(repeat refine Ai ?_);(try (refine hK _ ?_;clear hK K)))
    with_reducible refine Wp ?_
    simp only [go_sem,fN,seval,true_implies,false_implies,implies_true,dT,dF,nL,hv2]
    (try with_reducible refine iC ?_)
    repeat' with_reducible first | refine W ?_ | refine Z0 ?_ | ((first | refine Wo fun K hK=>?_ | refine Wq ?_ | refine Wr ?_);(try simp only [go_sem,fN,seval,eT,iR]);(repeat refine Ai ?_);(try (refine hK _ ?_;clear hK K)))
    refine IWP.loopD [4] (fun n s=>∃ k,k≤t.args.length∧n=t.args.length - k∧Tm.chkL (t.args.take k)=0∧s.env 20=.one (.st (.list (t.args.map Ao)))∧s.env 21=AN t.args.length∧s.env 22=AN k∧s.S 4=none) t.args.length ⟨0,Nat.zero_le _,rfl,rfl,rfl,rfl,rfl,rfl⟩ ?_
    rintro n ⟨env,S⟩ ⟨k,hk,rfl,h0,e20,e21,e22,s4⟩
    simp only at e20 e21 e22 s4
    repeat' with_reducible first | refine W ?_ | refine Z0 ?_ | ((first | refine Wo fun K hK=>?_ | refine Wq ?_ | refine Wr ?_);(try simp only [go_sem,fN,seval,eT,iR,e20,e21,e22,s4]);(repeat refine Ai ?_);(try (refine hK _ ?_;clear hK K)))
    with_reducible refine Wp ?_
    simp only [go_sem,fN,seval,true_implies,false_implies,implies_true,dT,dF,nL,e20,e21,e22,s4]
    (try with_reducible refine iC ?_)
    refine ⟨fun hlt=>?_,fun hge=>?_⟩
    ·obtain ⟨a,ha⟩:=Aj (show k < t.args.length by omega)
     obtain ⟨g1,g2⟩:=Tm.chkL_get ha h0
     repeat' (first | (with_reducible first | refine W ?_ | refine Z0 ?_ | ((first | refine Wo fun K hK=>?_ | refine Wq ?_ | refine Wr ?_);(try simp only [go_sem,fN,seval,eT,iR,e20,e21,e22,s4,ha]);(repeat refine Ai ?_);(try (refine hK _ ?_;clear hK K)))) | refine Cg _ (ih _ (Tm.lt_of_arg (AU ha)) a rfl) ?_)
     with_reducible refine Wp ?_
     simp only [go_sem,fN,seval,true_implies,false_implies,implies_true,dT,dF,nL]
     (try with_reducible refine iC ?_)
     refine ⟨fun hb=>?_,fun hb=>?_⟩
     ·repeat' with_reducible first | refine W ?_ | refine Z0 ?_ | ((first | refine Wo fun K hK=>?_ | refine Wq ?_ | refine Wr ?_);(try simp only [go_sem,fN,seval,eT,iR]);(repeat refine Ai ?_);(try (refine hK _ ?_;clear hK K)))
      simp only [go_sem,fN,seval,AR,AS.result,AB,AD,AL]
      rw [hc,g2 hb]
     ·repeat' with_reducible first | refine W ?_ | refine Z0 ?_ | ((first | refine Wo fun K hK=>?_ | refine Wq ?_ | refine Wr ?_);(try simp only [go_sem,fN,seval,eT,iR,e20,e21,e22,s4]);(repeat refine Ai ?_);(try (refine hK _ ?_;clear hK K)))
      refine AH ⟨t.args.length - (k + 1),by omega,k + 1,by omega,rfl,g1 (by omega),?_⟩
      simp only [go_sem,fN,seval,AS.drop,Ac,AC.clears,AC.clear,AC.highs,AC.high,zD,AV.purge,AV.purges,AC.purge,AK.purge,Nat.reduceBEq,eT,iR,e20,e21,e22,s4]
      congr 3
    ·repeat' with_reducible first | refine W ?_ | refine Z0 ?_ | ((first | refine Wo fun K hK=>?_ | refine Wq ?_ | refine Wr ?_);(try simp only [go_sem,fN,seval,eT,iR]);(repeat refine Ai ?_);(try (refine hK _ ?_;clear hK K)))
     simp only [go_sem,fN,seval,AR,AS.result,AB,AD,AL]
     rw [List.take_of_length_le (by omega)] at h0
     rw [hc,h0]
theorem DT (t:Tm):AY Tryz.prog 46 [aTm t] (AN t.may):=by
 have hm:t.may=if 200 < t.size then 3 else t.chk:=rfl
 refine Mt.ac fun C hC=>?_
 unfold Hq
 repeat' with_reducible first | refine W ?_ | refine Z0 ?_ | ((first | refine Wo fun K hK=>?_ | refine Wq ?_ | refine Wr ?_);(try simp only [go_sem,fN,seval,eT,iR]);(repeat refine Ai ?_);(try (refine hK _ ?_;clear hK K)))
 refine ⟨_,XP t 200 (by omega) (by omega),?_⟩
 by_cases h:Ci t.size 200 < 0
 ·repeat' with_reducible first | refine W ?_ | refine Z0 ?_ | ((first | refine Wo fun K hK=>?_ | refine Wq ?_ | refine Wr ?_);(try simp only [go_sem,fN,seval,eT,iR,h]);(repeat refine Ai ?_);(try (refine hK _ ?_;clear hK K)))
  with_reducible refine Wp ?_
  simp only [go_sem,fN,seval,true_implies,false_implies,implies_true,dT,dF,nL,h]
  (try with_reducible refine iC ?_)
  repeat' with_reducible first | refine W ?_ | refine Z0 ?_ | ((first | refine Wo fun K hK=>?_ | refine Wq ?_ | refine Wr ?_);(try simp only [go_sem,fN,seval,eT,iR]);(repeat refine Ai ?_);(try (refine hK _ ?_;clear hK K)))
  simp only [go_sem,fN,seval,AR,AS.result,AB,AD,AL]
  unfold Ci at h
  rw [hm,if_pos (by split at h <;> omega)]
 ·repeat' with_reducible first | refine W ?_ | refine Z0 ?_ | ((first | refine Wo fun K hK=>?_ | refine Wq ?_ | refine Wr ?_);(try simp only [go_sem,fN,seval,eT,iR,h]);(repeat refine Ai ?_);(try (refine hK _ ?_;clear hK K)))
  with_reducible refine Wp ?_
  simp only [go_sem,fN,seval,true_implies,false_implies,implies_true,dT,dF,nL,h]
  (try with_reducible refine iC ?_)
  repeat' (first | (with_reducible first | refine W ?_ | refine Z0 ?_ | ((first | refine Wo fun K hK=>?_ | refine Wq ?_ | refine Wr ?_);(try simp only [go_sem,fN,seval,eT,iR]);(repeat refine Ai ?_);(try (refine hK _ ?_;clear hK K)))) | refine Cg _ (Yp t) ?_)
  simp only [go_sem,fN,seval,AR,AS.result,AB,AD,AL]
  unfold Ci at h
  rw [hm,if_neg (by split at h <;> omega)]
def BS (a b:Tm):Int:=if a.may=0 then b.may else a.may
theorem ZI (l:List ByteArray) (x:ByteArray):∃ i:Int,AY Tryz.prog 98 [CX l,Bo x] (AN i)∧(0≤i ↔ DL x l=true):=by
 by_cases hin:DL x l=true
 ·obtain ⟨k0,hk0,hmin⟩:∃ k,l[k]?=some x∧∀ j,j < k→l[j]? ≠ some x:=by
   have hx:=In.1 hin
   have ⟨k,hk⟩:=List.getElem?_of_mem hx
   induction k using Nat.strongRecOn with
   | _ k ih =>
    by_cases h:∃ j,j < k∧l[j]?=some x
    ·obtain ⟨j,hj,hjx⟩:=h
     exact ih j hj hjx
    ·exact ⟨k,hk,fun j hj hjx=>h ⟨j,hj,hjx⟩⟩
  have hlt0:=Cf hk0
  refine ⟨k0,?_,by simp [hin]⟩
  refine CS.ac fun C hC=>?_
  unfold Bk
  refine IWP.learn 0 (by omega) fun hkn=>?_
  have hkn:=Fe hkn
  rw [List.length_map] at hkn
  repeat' with_reducible first | refine W ?_ | refine Z0 ?_ | ((first | refine Wo fun K hK=>?_ | refine Wq ?_ | refine Wr ?_);(try simp only [go_sem,fN,seval,eT,iR]);(repeat refine Ai ?_);(try (refine hK _ ?_;clear hK K)))
  refine IWP.loop (fun n s=>∃ k,k≤k0∧n=k0 - k∧s.env 0=CX l∧s.env 1=Bo x∧s.env 7=AN l.length∧s.env 8=AN k) k0 ⟨0,Nat.zero_le _,rfl,rfl,rfl,rfl,rfl⟩ ?_
  rintro n ⟨env,S⟩ ⟨k,hk,rfl,e0,e1,e7,e8⟩
  simp only at e0 e1 e7 e8
  have hlt:(k:Int) < l.length:=by omega
  repeat' with_reducible first | refine W ?_ | refine Z0 ?_ | ((first | refine Wo fun K hK=>?_ | refine Wq ?_ | refine Wr ?_);(try simp only [go_sem,fN,seval,eT,iR,e0,e1,e7,e8,hlt]);(repeat refine Ai ?_);(try (refine hK _ ?_;clear hK K)))
  with_reducible refine Wp ?_
  simp only [go_sem,fN,seval,true_implies,false_implies,implies_true,dT,dF,nL,e0,e1,e7,e8,hlt]
  (try with_reducible refine iC ?_)
  obtain ⟨a,ha⟩:=Aj (show k < l.length by omega)
  repeat' with_reducible first | refine W ?_ | refine Z0 ?_ | ((first | refine Wo fun K hK=>?_ | refine Wq ?_ | refine Wr ?_);(try simp only [go_sem,fN,seval,eT,iR,e0,e1,e7,e8,ha]);(repeat refine Ai ?_);(try (refine hK _ ?_;clear hK K)))
  by_cases he:k=k0
  ·subst he
   rw [hk0] at ha
   cases ha
   with_reducible refine Wp ?_
   simp only [go_sem,fN,seval,true_implies,false_implies,implies_true,dT,dF,nL]
   (try with_reducible refine iC ?_)
   repeat' with_reducible first | refine W ?_ | refine Z0 ?_ | ((first | refine Wo fun K hK=>?_ | refine Wq ?_ | refine Wr ?_);(try simp only [go_sem,fN,seval,eT,iR,e0,e1,e7,e8]);(repeat refine Ai ?_);(try (refine hK _ ?_;clear hK K)))
   simp only [go_sem,fN,seval,AR,AS.result,AB,AD,AL]
  ·have hne:¬ x=a:=fun e=>hmin k (by omega) (by rw [ha,e])
   with_reducible refine Wp ?_
   simp only [go_sem,fN,seval,true_implies,false_implies,implies_true,dT,dF,nL,hne]
   (try with_reducible refine iC ?_)
   repeat' with_reducible first | refine W ?_ | refine Z0 ?_ | ((first | refine Wo fun K hK=>?_ | refine Wq ?_ | refine Wr ?_);(try simp only [go_sem,fN,seval,eT,iR,e0,e1,e7,e8]);(repeat refine Ai ?_);(try (refine hK _ ?_;clear hK K)))
   refine AH ⟨k0 - (k + 1),by omega,k + 1,by omega,rfl,?_⟩
   simp only [go_sem,fN,seval,eT,iR,e0,e1,e7,e8]
   congr 3
 ·rw [Bool.not_eq_true] at hin
  refine ⟨-1,?_,by simp [hin]⟩
  refine CS.ac fun C hC=>?_
  unfold Bk
  refine IWP.learn 0 (by omega) fun hkn=>?_
  have hkn:=Fe hkn
  rw [List.length_map] at hkn
  repeat' with_reducible first | refine W ?_ | refine Z0 ?_ | ((first | refine Wo fun K hK=>?_ | refine Wq ?_ | refine Wr ?_);(try simp only [go_sem,fN,seval,eT,iR]);(repeat refine Ai ?_);(try (refine hK _ ?_;clear hK K)))
  refine IWP.loop (fun n s=>∃ k,k≤l.length∧n=l.length - k∧s.env 0=CX l∧s.env 1=Bo x∧s.env 7=AN l.length∧s.env 8=AN k) l.length ⟨0,Nat.zero_le _,rfl,rfl,rfl,rfl,rfl⟩ ?_
  rintro n ⟨env,S⟩ ⟨k,hk,rfl,e0,e1,e7,e8⟩
  simp only at e0 e1 e7 e8
  by_cases hlt:(k:Int) < l.length
  ·repeat' with_reducible first | refine W ?_ | refine Z0 ?_ | ((first | refine Wo fun K hK=>?_ | refine Wq ?_ | refine Wr ?_);(try simp only [go_sem,fN,seval,eT,iR,e0,e1,e7,e8,hlt]);(repeat refine Ai ?_);(try (refine hK _ ?_;clear hK K)))
   with_reducible refine Wp ?_
   simp only [go_sem,fN,seval,true_implies,false_implies,implies_true,dT,dF,nL,e0,e1,e7,e8,hlt]
   (try with_reducible refine iC ?_)
   obtain ⟨a,ha⟩:=Aj (show k < l.length by omega)
   have hne:¬ x=a:=fun e=>by
    rw [Pe] at hin
    exact hin (by rw [e];exact AU ha)
   repeat' with_reducible first | refine W ?_ | refine Z0 ?_ | ((first | refine Wo fun K hK=>?_ | refine Wq ?_ | refine Wr ?_);(try simp only [go_sem,fN,seval,eT,iR,e0,e1,e7,e8,ha]);(repeat refine Ai ?_);(try (refine hK _ ?_;clear hK K)))
   with_reducible refine Wp ?_
   simp only [go_sem,fN,seval,true_implies,false_implies,implies_true,dT,dF,nL,hne]
   (try with_reducible refine iC ?_)
   repeat' with_reducible first | refine W ?_ | refine Z0 ?_ | ((first | refine Wo fun K hK=>?_ | refine Wq ?_ | refine Wr ?_);(try simp only [go_sem,fN,seval,eT,iR,e0,e1,e7,e8]);(repeat refine Ai ?_);(try (refine hK _ ?_;clear hK K)))
   refine AH ⟨l.length - (k + 1),by omega,k + 1,by omega,rfl,?_⟩
   simp only [go_sem,fN,seval,eT,iR,e0,e1,e7,e8]
   congr 3
  ·repeat' with_reducible first | refine W ?_ | refine Z0 ?_ | ((first | refine Wo fun K hK=>?_ | refine Wq ?_ | refine Wr ?_);(try simp only [go_sem,fN,seval,eT,iR,e0,e1,e7,e8,hlt]);(repeat refine Ai ?_);(try (refine hK _ ?_;clear hK K)))
   with_reducible refine Wp ?_
   simp only [go_sem,fN,seval,true_implies,false_implies,implies_true,dT,dF,nL,e0,e1,e7,e8,hlt]
   (try with_reducible refine iC ?_)
   repeat' with_reducible first | refine W ?_ | refine Z0 ?_ | ((first | refine Wo fun K hK=>?_ | refine Wq ?_ | refine Wr ?_);(try simp only [go_sem,fN,seval,eT,iR]);(repeat refine Ai ?_);(try (refine hK _ ?_;clear hK K)))
   simp only [go_sem,fN,seval,AR,AS.result,AB,AD,AL]
theorem F1 (l:List ByteArray) (x:ByteArray):AY Tryz.prog 68 [CX l,Bo x] (Ad (DL x l)):=by
 obtain ⟨i,h1,h2⟩:=ZI l x
 refine Dc.ac fun C hC=>?_
 unfold CE
 repeat' (first | (with_reducible first | refine W ?_ | refine Z0 ?_ | ((first | refine Wo fun K hK=>?_ | refine Wq ?_ | refine Wr ?_);(try simp only [go_sem,fN,seval,eT,iR]);(repeat refine Ai ?_);(try (refine hK _ ?_;clear hK K)))) | refine Cg _ (h1) ?_)
 simp only [go_sem,fN,seval,AR,AS.result,AB,AD,AL]
 congr 4
 cases hi:DL x l with
 | true=>exact decide_eq_true (h2.2 hi)
 | false =>
  refine decide_eq_false fun h=>?_
  rw [h2.1 h] at hi
  cases hi
mutual
def Tm.beq:Tm→Tm→Bool
 | .mk n xs,.mk m ys=>decide (n=m) && Tm.beqL xs ys
def Tm.beqL:List Tm→List Tm→Bool
 | [],[]=>true
 | x :: xs,y :: ys=>x.beq y && Tm.beqL xs ys
 | _,_=>false
end
mutual
theorem Tm.beq_iff:∀ a b:Tm,a.beq b=true ↔ a=b
 | .mk n xs,.mk m ys=>by
  rw [Tm.beq,Bool.and_eq_true,Tm.beqL_iff xs ys,decide_eq_true_eq,Tm.mk.injEq]
theorem Tm.beqL_iff:∀ xs ys:List Tm,Tm.beqL xs ys=true ↔ xs=ys
 | [],[]=>by simp [Tm.beqL]
 | x :: xs,y :: ys=>by rw [Tm.beqL,Bool.and_eq_true,Tm.beq_iff x y,Tm.beqL_iff xs ys,List.cons.injEq]
 | [],y :: ys=>by simp [Tm.beqL]
 | x :: xs,[]=>by simp [Tm.beqL]
end
theorem Tm.beq_refl (a:Tm):a.beq a=true:=(Tm.beq_iff a a).2 rfl
def Tm.nil:Tm:=.mk ⟨#[]⟩ []

theorem OJ {ts:List ByteArray}:∀ x ∈ ts.map DH,x.length=1:=by
 intro x hx
 obtain ⟨a,_,rfl⟩:=List.mem_map.1 hx
 rfl
theorem IG {α:Type} (f:Nat→α) (i:Nat) (a b:α):AG (AG f i a) i b=AG f i b:=by
 funext k
 unfold AG
 split <;> rfl
theorem N0 {α:Type} (f:Nat→α) {i j:Nat} (h:¬ i=j) (a b:α):AG (AG f i a) j b=AG (AG f j b) i a:=by
 funext k
 unfold AG
 split
 ·rename_i e
  subst e
  rw [if_neg (fun e=>h e.symm)]
 ·rfl
theorem OV (t:Tm) (hz:t.size≤1000000)
  (ih:∀ a ∈ t.args,∀ (i:Nat) (l:List ByteArray) (S:AA),1000≤i→l.length + a.size≤3000000→S i=some (.arow 9 1 (l.map DH)) →
   Ah Tryz.prog 124 [aTm a,.one (.row i l.length)] S (.one (.row i (Az l a.knots).length)) (AG S i (some (.arow 9 1 ((Az l a.knots).map DH)))))
  (C:Ctx) (hC:C.n=34) (i:Nat) (hi:20 < i) (l:List ByteArray) (hlz:l.length + t.size≤3000000) (S:AA) (hS:Am S) (env:Nat→AV) (e0:env 0=aTm t) (e1:env 1=.one (.row i l.length))
  (Q:AX→AS→Prop) (hQ:∀ env',env' 4=.one (.row i (Az l t.knots).length)→Q .ret ⟨env',AG (AG S 2 (some (.box 37 [.st (.str t.name),.st (.list (t.args.map Ao))]))) i (some (.arow 9 1 ((Az l t.knots).map DH)))⟩) :
  IWP Tryz.prog C [31] F8 Q ⟨env,AG S i (some (.arow 9 1 (l.map DH)))⟩:=by
 have hs:=Tm.size_eq t
 have hk:=Tm.knots_eq t
 have hc2:=AJ hS (i:=2) (by omega)
 have hc6:=AJ hS (i:=6) (by omega)
 have hi2:¬ 2=i:=by omega
 have hi6:¬ 6=i:=by omega
 have hi2':¬ i=2:=by omega
 have hi6':¬ i=6:=by omega
 unfold F8
 have hlk:∀ k,(Az (Bq l t.name) (Tm.knotsL (t.args.take k))).length≤l.length + 1 + Tm.sizes (t.args.take k):=fun k=>by
  have h1:=Dd (Tm.knotsL (t.args.take k)) (Bq l t.name)
  have h2:=Hj l t.name
  have h3:=Tm.knotsL_length (t.args.take k)
  omega
 repeat' with_reducible first | refine W ?_ | refine Z0 ?_ | ((first | refine Wo fun K hK=>?_ | refine Wq ?_ | refine Wr ?_);(try simp only [go_sem,fN,seval,eT,iR,e0,e1,hc2,hi2,hi6,hi2',hi6']);(repeat refine Ai ?_);(try (refine hK _ ?_;clear hK K)))
 refine ⟨_,Al _,?_⟩
 rcases (show AP t.name=false ∨ (AP t.name=true∧DL t.name l=true) ∨ (AP t.name=true∧DL t.name l=false) by cases AP t.name <;> cases DL t.name l <;> simp) with hv | ⟨hv,hin⟩ | ⟨hv,hin⟩
 case' inl =>
  have hl1:=NO (l:=l) hv
  repeat' with_reducible first | refine W ?_ | refine Z0 ?_ | ((first | refine Wo fun K hK=>?_ | refine Wq ?_ | refine Wr ?_);(try simp only [go_sem,fN,seval,eT,iR,e0,e1,hv,hi2,hi2']);(repeat refine Ai ?_);(try (refine hK _ ?_;clear hK K)))
  with_reducible refine Wp ?_
  simp only [go_sem,fN,seval,true_implies,false_implies,implies_true,dT,dF,nL,hv]
  (try with_reducible refine iC ?_)
  repeat' with_reducible first | refine W ?_ | refine Z0 ?_ | ((first | refine Wo fun K hK=>?_ | refine Wq ?_ | refine Wr ?_);(try simp only [go_sem,fN,seval,eT,iR,e0,e1,hi2,hi2']);(repeat refine Ai ?_);(try (refine hK _ ?_;clear hK K)))
 case' inr.inl =>
  have hl1:=OS (l:=l) hin
  repeat' (first | (with_reducible first | refine W ?_ | refine Z0 ?_ | ((first | refine Wo fun K hK=>?_ | refine Wq ?_ | refine Wr ?_);(try simp only [go_sem,fN,seval,eT,iR,e0,e1,hv,hi2,hi2',hin]);(repeat refine Ai ?_);(try (refine hK _ ?_;clear hK K)))) | refine Cg _ (F1 _ _) ?_)
  with_reducible refine Wp ?_
  simp only [go_sem,fN,seval,true_implies,false_implies,implies_true,dT,dF,nL,hv]
  (try with_reducible refine iC ?_)
  repeat' with_reducible first | refine W ?_ | refine Z0 ?_ | ((first | refine Wo fun K hK=>?_ | refine Wq ?_ | refine Wr ?_);(try simp only [go_sem,fN,seval,eT,iR,e0,e1,hi2,hi2']);(repeat refine Ai ?_);(try (refine hK _ ?_;clear hK K)))
 case' inr.inr =>
  have hl1:=ML (l:=l) hv hin
  repeat' (first | (with_reducible first | refine W ?_ | refine Z0 ?_ | ((first | refine Wo fun K hK=>?_ | refine Wq ?_ | refine Wr ?_);(try simp only [go_sem,fN,seval,eT,iR,e0,e1,hv,hi2,hi2',hin]);(repeat refine Ai ?_);(try (refine hK _ ?_;clear hK K)))) | refine Cg _ (F1 _ _) ?_)
  with_reducible refine Wp ?_
  simp only [go_sem,fN,seval,true_implies,false_implies,implies_true,dT,dF,nL,hv]
  (try with_reducible refine iC ?_)
  repeat' with_reducible first | refine W ?_ | refine Z0 ?_ | ((first | refine Wo fun K hK=>?_ | refine Wq ?_ | refine Wr ?_);(try simp only [go_sem,fN,seval,eT,iR,e0,e1,hi2,hi2']);(repeat refine Ai ?_);(try (refine hK _ ?_;clear hK K)))
 all_goals
  refine IWP.loopD [6] (fun m s=>∃ k,k≤t.args.length∧m=t.args.length - k∧s.env 1=.one (.row i (Az (Bq l t.name) (Tm.knotsL (t.args.take k))).length)∧s.env 23=.one (.st (.list (t.args.map Ao)))∧s.env 24=AN t.args.length∧s.env 25=AN k∧s.S=AG (AG S 2 (some (.box 37 [.st (.str t.name),.st (.list (t.args.map Ao))]))) i (some (.arow 9 1 ((Az (Bq l t.name) (Tm.knotsL (t.args.take k))).map DH)))) t.args.length ⟨0,Nat.zero_le _,rfl,?_,rfl,rfl,rfl,?_⟩ ?_
  ·show _=AV.one (.row i (Bq l t.name).length)
   rw [hl1]
   simp only [go_sem,fN,seval,eT,iR,e1]
  ·show _=AG (AG S 2 _) i (some (.arow 9 1 ((Bq l t.name).map DH)))
   rw [hl1]
   first
    | (simp only [IG];exact N0 _ hi2' _ _)
    | (simp only [N0 _ hi2',IG,List.map_append];rfl)
  rintro m ⟨env',S'⟩ ⟨k,hk',rfl,e1',e23,e24,e25,hS'⟩
  simp only at e1' e23 e24 e25 hS'
  have s6:S' 6=none:=by rw [hS',AF _ hi6,AF _ (by omega),hc6]
  have si:S' i=some (.arow 9 1 ((Az (Bq l t.name) (Tm.knotsL (t.args.take k))).map DH)):=by rw [hS',AE]
  have hlk':=hlk k
  have z3:=Tm.length_le t.args
  by_cases hlt:(k:Int) < t.args.length
  ·obtain ⟨a,ha⟩:=Aj (show k < t.args.length by omega)
   have z1:=Tm.sizes_take ha
   have z2:=Tm.sizes_take_le t.args (k + 1)
   repeat' with_reducible first | refine W ?_ | refine Z0 ?_ | ((first | refine Wo fun K hK=>?_ | refine Wq ?_ | refine Wr ?_);(try simp only [go_sem,fN,seval,eT,iR,e1',e23,e24,e25,s6,si,hlt]);(repeat refine Ai ?_);(try (refine hK _ ?_;clear hK K)))
   with_reducible refine Wp ?_
   simp only [go_sem,fN,seval,true_implies,false_implies,implies_true,dT,dF,nL,e1',e23,e24,e25,s6,si,hlt]
   (try with_reducible refine iC ?_)
   repeat' with_reducible first | refine W ?_ | refine Z0 ?_ | ((first | refine Wo fun K hK=>?_ | refine Wq ?_ | refine Wr ?_);(try simp only [go_sem,fN,seval,eT,iR,e1',e23,e24,e25,s6,si,ha]);(repeat refine Ai ?_);(try (refine hK _ ?_;clear hK K)))
   have hni:([6]:List Nat).contains i=false:=by simp;omega
   refine ⟨_,_,ih a (AU ha) (up1 i) _ _ (Ap i) (by omega) (by rw [At,AF _ hi6',AF _ hi6',si];rfl),?_⟩
   repeat' with_reducible first | refine W ?_ | refine Z0 ?_ | ((first | refine Wo fun K hK=>?_ | refine Wq ?_ | refine Wr ?_);(try simp only [go_sem,fN,seval,eT,iR,e23,e24,e25]);(repeat refine Ai ?_);(try (refine hK _ ?_;clear hK K)))
   refine AH ⟨t.args.length - (k + 1),by omega,k + 1,by omega,rfl,?_⟩
   have hib:(i == 6)=false:=by simp;omega
   simp only [go_sem,fN,seval,AS.drop,AC.clears,AC.clear,AC.highs,AC.high,zD,AV.purge,AV.purges,AC.purge,AK.purge,Nat.reduceBEq,eT,iR,e23,e24,hib]
   rw [Tm.knotsL_take ha,G0]
   refine ⟨rfl,by congr 3,?_⟩
   rw [JT hni,Q3 rfl,Q3 rfl,hS',JT hni,JT rfl,QS (by decide) hS,IG]
   rfl
  ·repeat' with_reducible first | refine W ?_ | refine Z0 ?_ | ((first | refine Wo fun K hK=>?_ | refine Wq ?_ | refine Wr ?_);(try simp only [go_sem,fN,seval,eT,iR,e1',e23,e24,e25,hlt]);(repeat refine Ai ?_);(try (refine hK _ ?_;clear hK K)))
   with_reducible refine Wp ?_
   simp only [go_sem,fN,seval,true_implies,false_implies,implies_true,dT,dF,nL,e1',e23,e24,e25,hlt]
   (try with_reducible refine iC ?_)
   repeat' with_reducible first | refine W ?_ | refine Z0 ?_ | ((first | refine Wo fun K hK=>?_ | refine Wq ?_ | refine Wr ?_);(try simp only [go_sem,fN,seval,eT,iR,e1']);(repeat refine Ai ?_);(try (refine hK _ ?_;clear hK K)))
   rw [hS']
   have hfin:Az (Bq l t.name) (Tm.knotsL (t.args.take k))=Az l t.knots:=by rw [List.take_of_length_le (by omega),hk];rfl
   rw [hfin]
   refine hQ _ ?_
   simp only [go_sem,fN,seval,eT,iR]
theorem VN {α:Type} {f:Nat→α} {i:Nat} {a:α} (h:f i=a):AG f i a=f:=by
 funext k
 unfold AG
 split
 ·rename_i e
  rw [e,h]
 ·rfl
theorem YC (t:Tm) (hz:t.size≤1000000):∀ (i:Nat) (l:List ByteArray) (S:AA),1000≤i→l.length + t.size≤3000000→S i=some (.arow 9 1 (l.map DH)) →
   Ah Tryz.prog 124 [aTm t,.one (.row i l.length)] S (.one (.row i (Az l t.knots).length)) (AG S i (some (.arow 9 1 ((Az l t.knots).map DH)))):=by
 induction h:SizeOf.sizeOf t using Nat.strongRecOn generalizing t with
 | _ N ih =>
 subst h
 have hs:=Tm.size_eq t
 intro i l S hi hl hSi
 refine Iz.acS fun hS C hC=>?_
 have hcore:=OV t hz (fun a ha=>ih _ (Tm.lt_of_arg ha) a (by have:=Tm.size_mem ha;omega) rfl) C hC i (by omega) l hl S hS (fun j=>([aTm t,.one (.row i l.length)][j]?).getD (.tup [])) rfl rfl
  (F7 C [.t 4] (.one (.row i (Az l t.knots).length)) (AG S i (some (.arow 9 1 ((Az l t.knots).map DH))))) ?_
 ·rw [VN hSi] at hcore
  exact hcore
 ·intro env' e4
  have hc':Am (AG S i (some (.arow 9 1 ((Az l t.knots).map DH)))):=BP hS hi rfl
  refine TH trivial ⟨_,Aa.low (X4 (Jl (by omega) fun k c _ hk=>(hS k c hk).2) rfl),?_,?_,hc'⟩
  ·simp only [AB,AD,AL,e4,AV.low,AV.high,AC.high,hi,decide_true,if_true,Option.map_some]
  ·show CD _=_
   rw [VS _ hi,JG _ (by omega),IX hS]
theorem W6 (t:Tm) (hz:t.size≤1000000) (a0:Nat) (S:AA) (ha:1000≤a0) (hSa:S a0=none) :
   Ah Tryz.prog 124 [aTm t,.one (.full [])] S (.one (.row a0 (Az [] t.knots).length)) (AG S a0 (some (.arow 9 1 ((Az [] t.knots).map DH)))):=by
 have hs:=Tm.size_eq t
 refine Iz.acS fun hS C hC=>?_
 refine IWP.ghost (Aa.own 1 21 9 1 (xs:=([]:List ByteArray).map DH) rfl (AJ hS (by omega)) OJ (by omega)) ?_
 refine OV t hz (fun a ha=>YC a (by have:=Tm.size_mem ha;omega)) C hC 21 (by omega) [] (by simp;omega) S hS _ rfl rfl _ ?_
 intro env' e4
 have hb:∀ i b,1000≤i→AG (AG S 2 (some (.box 37 [.st (.str t.name),.st (.list (t.args.map Ao))]))) 21 (some (.arow 9 1 ((Az [] t.knots).map DH))) i=some b→b.high=true:=Jl (by omega) (Jl (by omega) fun k c _ hk=>(hS k c hk).2)
 refine TH trivial ⟨_,Aa.hand 21 a0 (b0:=.arow 9 1 ((Az [] t.knots).map DH)) (by omega) ha (by show AG _ _ _ _=_;rw [AF _ (by omega),AF _ (by omega),hSa]) (by simp only [AE]) rfl hb,?_,?_,BP hS ha rfl⟩
 ·simp only [AB,AD,AL,e4,AV.hand,AV.ren,AC.ren,Bn,if_true,AV.high,AC.high,ha,decide_true,Option.map_some]
 ·show AG (CD _) _ _=_
  rw [JG _ (by omega),JG _ (by omega),IX hS]
theorem Sh (t:Tm) (hz:t.size≤1000000):AY Tryz.prog 104 [aTm t] (CX t.varsOf):=by
 refine Oi.ac fun C hC=>?_
 unfold Ih
 repeat' with_reducible first | refine W ?_ | refine Z0 ?_ | ((first | refine Wo fun K hK=>?_ | refine Wq ?_ | refine Wr ?_);(try simp only [go_sem,fN,seval,eT,iR]);(repeat refine Ai ?_);(try (refine hK _ ?_;clear hK K)))
 refine ⟨_,_,W6 t hz (up1 10) _ (Ap 10) (by rw [At];rfl),?_⟩
 repeat' with_reducible first | refine W ?_ | refine Z0 ?_ | ((first | refine Wo fun K hK=>?_ | refine Wq ?_ | refine Wr ?_);(try simp only [go_sem,fN,seval,eT,iR]);(repeat refine Ai ?_);(try (refine hK _ ?_;clear hK K)))
 simp only [go_sem,fN,seval,AR,AS.result,AB,AD,AL]
 rfl
theorem J5 (t:Tm) (hz:t.size≤1000000):AY Tryz.prog 42 [aTm t] (aTm t):=by
 induction h:SizeOf.sizeOf t using Nat.strongRecOn generalizing t with
 | _ N ih =>
 subst h
 have hs:=Tm.size_eq t
 have hkn:=Tm.length_le t.args
 refine Ph.ac fun C hC=>?_
 unfold JK
 repeat' with_reducible first | refine W ?_ | refine Z0 ?_ | ((first | refine Wo fun K hK=>?_ | refine Wq ?_ | refine Wr ?_);(try simp only [go_sem,fN,seval,eT,iR]);(repeat refine Ai ?_);(try (refine hK _ ?_;clear hK K)))
 refine IWP.ghost (Aa.ownC 3 1 21 37 2 (xs:=([]:List Tm).map Ao) rfl rfl rfl Do) ?_
 refine IWP.loopD [5] (fun m s=>∃ k,k≤t.args.length∧m=t.args.length - k∧s.env 2=.one (.ptr 2 1 0 0)∧s.env 3=.one (.ptr 3 1 0 0)∧s.S 2=some (.box 37 [.st (.str ⟨#[]⟩),.full []])∧s.S 3=some (.box 37 [.st (.str t.name),.row 21 k])∧s.S 21=some (.arow 37 2 ((t.args.take k).map Ao))∧s.env 10=.one (.st (.list (t.args.map Ao)))∧s.env 11=AN t.args.length∧s.env 12=AN k∧s.S 5=none)
  t.args.length ⟨0,Nat.zero_le _,rfl,rfl,rfl,rfl,rfl,rfl,rfl,rfl,rfl,rfl⟩ ?_
 rintro m ⟨env,S⟩ ⟨k,hk,rfl,e2,e3,s2,s3,s21,e10,e11,e12,s5⟩
 simp only at e2 e3 s2 s3 s21 e10 e11 e12 s5
 have hlk:(t.args.take k).length=k:=by rw [List.length_take];omega
 by_cases hlt:(k:Int) < t.args.length
 ·obtain ⟨a,ha⟩:=Aj (show k < t.args.length by omega)
  repeat' with_reducible first | refine W ?_ | refine Z0 ?_ | ((first | refine Wo fun K hK=>?_ | refine Wq ?_ | refine Wr ?_);(try simp only [go_sem,fN,seval,eT,iR,e2,e3,s2,s3,s21,e10,e11,e12,s5,hlt]);(repeat refine Ai ?_);(try (refine hK _ ?_;clear hK K)))
  with_reducible refine Wp ?_
  simp only [go_sem,fN,seval,true_implies,false_implies,implies_true,dT,dF,nL,e10,e11,e12,hlt]
  (try with_reducible refine iC ?_)
  repeat' (first | (with_reducible first | refine W ?_ | refine Z0 ?_ | ((first | refine Wo fun K hK=>?_ | refine Wq ?_ | refine Wr ?_);(try simp only [go_sem,fN,seval,eT,iR,e2,e3,s2,s3,s21,e10,e11,e12,s5,ha,hlk]);(repeat refine Ai ?_);(try (refine hK _ ?_;clear hK K)))) | refine Cg _ (ih _ (Tm.lt_of_arg (AU ha)) a (by have:=Tm.size_mem (AU ha);omega) rfl) ?_)
  refine AH ⟨t.args.length - (k + 1),by omega,k + 1,by omega,rfl,?_⟩
  simp only [go_sem,fN,seval,AS.drop,Ac,AC.clears,AC.clear,AC.highs,AC.high,zD,AV.purge,AV.purges,AC.purge,AK.purge,Nat.reduceBEq,eT,iR,e2,e3,s2,s3,s21,e10,e11,e12,s5]
  exact ⟨by rw [Au ha];simp [An],by congr 3⟩
 ·repeat' with_reducible first | refine W ?_ | refine Z0 ?_ | ((first | refine Wo fun K hK=>?_ | refine Wq ?_ | refine Wr ?_);(try simp only [go_sem,fN,seval,eT,iR,e2,e3,s2,s3,s21,e10,e11,e12,s5,hlt]);(repeat refine Ai ?_);(try (refine hK _ ?_;clear hK K)))
  with_reducible refine Wp ?_
  simp only [go_sem,fN,seval,true_implies,false_implies,implies_true,dT,dF,nL,e10,e11,e12,hlt]
  (try with_reducible refine iC ?_)
  repeat' with_reducible first | refine W ?_ | refine Z0 ?_ | ((first | refine Wo fun K hK=>?_ | refine Wq ?_ | refine Wr ?_);(try simp only [go_sem,fN,seval,eT,iR,e2,e3,s2,s3,s21,e10,e11,e12,s5]);(repeat refine Ai ?_);(try (refine hK _ ?_;clear hK K)))
  have hall:t.args.take k=t.args:=List.take_of_length_le (by omega)
  rw [hall] at hlk s21
  simp only [go_sem,fN,seval,AR,AS.result,AB,AD,AL,e2,s2,s21,hlk]

def Qe (n:Nat):ByteArray:=⟨(Lib.decDigits n).toArray⟩
def DO (k:Nat):ByteArray:=⟨#[90]⟩ ++ Qe (k + 1)
def MB (k:Nat):Tm:=.mk (DO k) []
theorem H4 (k:Nat):(DO k).data.toList=90 :: Lib.decDigits (k + 1):=by
 unfold DO Qe
 simp
theorem PU {u k:Nat} (h:u < 10 ^ k) (hk:1≤k):Lib.nDigits u≤k:=by
 induction k generalizing u with
 | zero=>omega
 | succ k ih =>
  by_cases h1:u < 10
  ·rw [Lib.nDigits_small h1];omega
  ·rw [Lib.nDigits_big h1]
   have:1≤k:=by
    rcases Nat.eq_zero_or_pos k with h0 | h0
    ·subst h0;rw [Nat.zero_add,Nat.pow_one] at h;omega
    ·exact h0
   have:=ih (u:=u / 10) (by rw [Nat.pow_succ] at h;omega) this
   omega
theorem Uz (n:Nat):(Qe n).size=Lib.nDigits n:=by
 show (Lib.decDigits n).toArray.size=_
 rw [List.size_toArray,Lib.decDigits_length]
theorem F0 {n:Nat} (h:n < 1000000):(Qe n).size≤6:=by rw [Uz];exact PU (k:=6) (by omega) (by omega)
theorem HE (u:Nat):∀ d ∈ Lib.decDigits u,48≤d.toNat∧d.toNat≤57:=by
 induction u using Nat.strongRecOn with
 | _ u ih =>
  by_cases h:u < 10
  ·rw [Lib.decDigits,dif_pos h]
   intro d hd
   rw [List.mem_singleton] at hd
   subst hd
   rw [UInt8.toNat_ofNat_of_lt' (by show _ < 256;omega)]
   omega
  ·rw [Lib.decDigits,dif_neg h]
   intro d hd
   rcases List.mem_append.1 hd with hd | hd
   ·exact ih _ (by omega) d hd
   ·rw [List.mem_singleton] at hd
    subst hd
    rw [UInt8.toNat_ofNat_of_lt' (by show _ < 256;omega)]
    omega
theorem Wt (k:Nat):Ak (DO k) 0=90:=by
 unfold Ak
 rw [H4]
 rfl
theorem L2 (k:Nat):(DO k).size=1 + Lib.nDigits (k + 1):=by
 have:(DO k).size=(DO k).data.toList.length:=by
  show (DO k).data.size=_
  rw [Array.length_toList]
 rw [this,H4,List.length_cons,Lib.decDigits_length]
 omega
theorem W2 {k:Nat} (h:k + 1 < 1000000):A_ (DO k)=true:=by
 have h6:=PU (u:=k + 1) (k:=6) (by omega) (by omega)
 unfold A_
 rw [Wt,L2,decide_eq_true (show 1≤1 + Lib.nDigits (k + 1) by omega),decide_eq_true (show 1 + Lib.nDigits (k + 1)≤8 by omega)]
 have:B0 (DO k) (1 + Lib.nDigits (k + 1))=true:=by
  unfold B0
  rw [H4]
  refine List.all_eq_true.2 fun c hc=>?_
  have hc:=List.mem_of_mem_take hc
  rcases List.mem_cons.1 hc with rfl | hc
  ·decide
  ·have:=HE _ c hc
   unfold BI
   rw [decide_eq_true (show 48≤(c.toNat:Int)∧(c.toNat:Int)≤57 by omega),Bool.or_true]
 rw [this]
 decide
theorem Vd {k:Nat} (h:k + 1 < 1000000):(MB k).chk=0:=Q0 (W2 h)
def V8 (n:ByteArray) (xs:List Tm) (b:Tm):Prop:=AP n=false∧n=b.name∧xs.length=b.args.length
instance (n:ByteArray) (xs:List Tm) (b:Tm):Decidable (V8 n xs b):=by unfold V8;infer_instance
def U8 (l m:List Pr):Prop:=∃ r,m=l ++ r
theorem U8.refl (l:List Pr):U8 l l:=⟨[],by simp⟩
theorem U8.trans {a b c:List Pr} (h:U8 a b) (k:U8 b c):U8 a c:=by
 obtain ⟨r,rfl⟩:=h
 obtain ⟨q,rfl⟩:=k
 exact ⟨r ++ q,by simp⟩


def Bu:List ByteArray→ByteArray→Nat
 | [],_=>0
 | x :: l,n=>if x=n then 0 else Bu l n + 1
def Em (l:List ByteArray) (n:ByteArray):List ByteArray:=if Bu l n < l.length then l else l ++ [n]
theorem To (l:List ByteArray) (n:ByteArray):Bu l n≤l.length:=by
 induction l with
 | nil=>exact Nat.le_refl _
 | cons p l ih=>rw [Bu];split <;> simp;omega
theorem L9 {l:List ByteArray} {n:ByteArray}:Bu l n < l.length ↔ n ∈ l:=by
 induction l with
 | nil=>simp [Bu]
 | cons x l ih =>
  rw [Bu]
  by_cases e:x=n
  ·rw [if_pos e];simp [e]
  ·rw [if_neg e,List.length_cons,List.mem_cons]
   constructor
   ·intro h;exact .inr (ih.1 (by omega))
   ·rintro (h | h)
    ·exact absurd h.symm e
    ·have:=ih.2 h;omega
theorem KC {l m:List ByteArray} {n:ByteArray} (h:Bu l n < l.length):Bu (l ++ m) n=Bu l n:=by
 induction l with
 | nil=>simp [Bu] at h
 | cons x l ih =>
  rw [Bu] at h
  rw [List.cons_append,Bu,Bu]
  by_cases e:x=n
  ·rw [if_pos e,if_pos e]
  ·rw [if_neg e] at h
   rw [if_neg e,if_neg e,ih (by simpa using h)]
theorem HL {l:List ByteArray} {n:ByteArray} (h:¬ Bu l n < l.length):Bu (l ++ [n]) n=l.length:=by
 induction l with
 | nil=>simp [Bu]
 | cons x l ih =>
  rw [Bu] at h
  rw [List.cons_append,Bu]
  by_cases e:x=n
  ·rw [if_pos e] at h;simp at h
  ·rw [if_neg e] at h
   rw [if_neg e,ih (by simpa using h),List.length_cons]
theorem XJ {l:List ByteArray} {n:ByteArray} (hv:AP n=true):Em l n=Bq l n:=by
 unfold Em
 by_cases h:n ∈ l
 ·rw [if_pos (L9.2 h),OS (In.2 h)]
 ·rw [if_neg (fun k=>h (L9.1 k)),ML hv (Pe.2 h)]
mutual
def Tm.cn:Tm→List ByteArray→Tm × List ByteArray
 | .mk n xs,l=>if AP n=true then (MB (Bu l n),Em l n) else (.mk n (Tm.cnL xs l).1,(Tm.cnL xs l).2)
def Tm.cnL:List Tm→List ByteArray→List Tm × List ByteArray
 | [],l=>([],l)
 | x :: xs,l=>((x.cn l).1 :: (Tm.cnL xs (x.cn l).2).1,(Tm.cnL xs (x.cn l).2).2)
end
theorem Z4 {t:Tm} {l:List ByteArray} (h:AP t.name=true):t.cn l=(MB (Bu l t.name),Em l t.name):=by
 cases t with
 | mk n xs =>
  have h:AP n=true:=h
  rw [Tm.cn,if_pos h]
  rfl
theorem ZB {t:Tm} {l:List ByteArray} (h:AP t.name=false):t.cn l=(.mk t.name (Tm.cnL t.args l).1,(Tm.cnL t.args l).2):=by
 cases t with
 | mk n xs =>
  have h:AP n=false:=h
  rw [Tm.cn,if_neg (by rw [h];simp)]
  rfl
theorem Mj:∀ (xs ys:List Tm) (l:List ByteArray),Tm.cnL (xs ++ ys) l=((Tm.cnL xs l).1 ++ (Tm.cnL ys (Tm.cnL xs l).2).1,(Tm.cnL ys (Tm.cnL xs l).2).2)
 | [],ys,l=>by simp [Tm.cnL]
 | x :: xs,ys,l=>by
  simp only [List.cons_append,Tm.cnL]
  rw [Mj xs ys]
theorem RG {xs:List Tm} {k:Nat} {x:Tm} {l:List ByteArray} (hx:xs[k]?=some x):Tm.cnL (xs.take (k + 1)) l=((Tm.cnL (xs.take k) l).1 ++ [(x.cn (Tm.cnL (xs.take k) l).2).1],(x.cn (Tm.cnL (xs.take k) l).2).2):=by
 rw [Au hx,Mj]
 simp [Tm.cnL]
theorem Ol:∀ (xs:List Tm) (l:List ByteArray),(Tm.cnL xs l).1.length=xs.length
 | [],l=>rfl
 | x :: xs,l=>by simp only [Tm.cnL,List.length_cons];rw [Ol xs]
def FJ (k:Nat):List ByteArray→List Bd
 | []=>[]
 | n :: l=>(n,MB k) :: FJ (k + 1) l
theorem FL:∀ (l:List ByteArray) (k:Nat) (n:ByteArray),lookup (FJ k l) n=if Bu l n < l.length then some (MB (k + Bu l n)) else none
 | [],k,n=>by simp [FJ,LJ,Bu]
 | x :: l,k,n=>by
  rw [FJ,KD,Bu]
  by_cases e:x=n
  ·rw [if_pos e,if_pos e]
   simp
  ·rw [if_neg e,if_neg e,FL l (k + 1) n,List.length_cons]
   by_cases h:Bu l n < l.length
   ·rw [if_pos h,if_pos (by omega)]
    congr 2
    omega
   ·rw [if_neg h,if_neg (by omega)]
def G6 (l m:List ByteArray):Prop:=∃ r,m=l ++ r
theorem G6.trans {a b c:List ByteArray} (h:G6 a b) (k:G6 b c):G6 a c:=by
 obtain ⟨r,rfl⟩:=h
 obtain ⟨q,rfl⟩:=k
 exact ⟨r ++ q,by simp⟩
theorem VJ (l:List ByteArray) (n:ByteArray):G6 l (Em l n):=by
 unfold Em
 split
 ·exact ⟨[],by simp⟩
 ·exact ⟨_,rfl⟩
mutual
theorem YW:∀ (t:Tm) (l:List ByteArray),G6 l (t.cn l).2
 | .mk n xs,l=>by
  rw [Tm.cn]
  split
  ·exact VJ l n
  ·exact L7 xs l
theorem L7:∀ (xs:List Tm) (l:List ByteArray),G6 l (Tm.cnL xs l).2
 | [],l=>⟨[],by simp [Tm.cnL]⟩
 | x :: xs,l=>by
  simp only [Tm.cnL]
  exact (YW x l).trans (L7 xs _)
end
theorem UT {l m:List ByteArray} {n:ByteArray} (hg:G6 (Em l n) m):Bu m n=Bu l n∧Bu m n < m.length:=by
 obtain ⟨r,rfl⟩:=hg
 unfold Em
 by_cases h:Bu l n < l.length
 ·rw [if_pos h,KC h,List.length_append]
  exact ⟨rfl,by omega⟩
 ·rw [if_neg h,KC (by rw [HL h];simp),HL h]
  have:=To l n
  refine ⟨by omega,by rw [List.length_append,List.length_append,List.length_singleton];omega⟩
mutual
theorem Rb:∀ (t:Tm),t.chk=0→∀ l,(t.cn l).2=Az l t.knots
 | .mk n xs,hc,l=>by
  obtain ⟨c1,c2⟩:=Tm.chk_args hc
  simp only [Tm.name_mk,Tm.args_mk] at c1 c2
  have hk:Az l (Tm.mk n xs).knots=Az (Bq l n) (Tm.knotsL xs):=rfl
  rw [hk,Tm.cn]
  cases hv:AP n with
  | true =>
   have h0:=c1 hv
   subst h0
   rw [if_pos rfl]
   exact XJ hv
  | false =>
   rw [if_neg (by simp),NO hv]
   exact NL xs c2 l
theorem NL:∀ (xs:List Tm),(∀ x ∈ xs,x.chk=0)→∀ l,(Tm.cnL xs l).2=Az l (Tm.knotsL xs)
 | [],_,l=>rfl
 | x :: xs,hc,l=>by
  simp only [Tm.cnL]
  rw [NL xs (fun a ha=>hc a (by simp [ha])),Rb x (hc x (by simp)),Tm.knotsL,G0]
end
mutual
theorem WI:∀ (t:Tm),t.chk=0→∀ l m,(∀ n ∈ m,AP n=true)→G6 (t.cn l).2 m→(t.cn l).1=t.on (FJ 0 m)
 | .mk n xs,hc,l,m,hm,hg=>by
  obtain ⟨c1,c2⟩:=Tm.chk_args hc
  simp only [Tm.name_mk,Tm.args_mk] at c1 c2
  rw [Tm.cn] at hg ⊢
  cases hv:AP n with
  | true =>
   have h0:=c1 hv
   subst h0
   rw [hv,if_pos rfl] at hg
   rw [if_pos rfl]
   obtain ⟨p1,p2⟩:=UT (show G6 (Em l n) m from hg)
   rw [Tm.on_leaf (t:=.mk n []) (x:=MB (Bu l n)) (by rw [Tm.name_mk,FL,if_pos p2,p1,Nat.zero_add]) rfl]
  | false =>
   rw [hv,if_neg (by simp)] at hg
   rw [if_neg (by simp)]
   have hl:lookup (FJ 0 m) n=none:=by
    rw [FL,if_neg]
    intro h
    have:=hm n (L9.1 h)
    rw [hv] at this
    cases this
   rw [Tm.on_knot (t:=.mk n xs) (.inl hl),Tm.name_mk,Tm.args_mk,W4 xs c2 l m hm hg]
theorem W4:∀ (xs:List Tm),(∀ x ∈ xs,x.chk=0)→∀ l m,(∀ n ∈ m,AP n=true)→G6 (Tm.cnL xs l).2 m→(Tm.cnL xs l).1=xs.map (Tm.on (FJ 0 m))
 | [],_,l,m,_,_=>rfl
 | x :: xs,hc,l,m,hm,hg=>by
  simp only [Tm.cnL] at hg ⊢
  rw [List.map_cons,WI x (hc x (by simp)) l m hm ((L7 xs _).trans hg),W4 xs (fun a ha=>hc a (by simp [ha])) _ m hm hg]
end
theorem Xn (l:List ByteArray) (n:ByteArray):(Em l n).length≤l.length + 1:=by unfold Em;split <;> simp
mutual
theorem F3:∀ (t:Tm) (l:List ByteArray),(t.cn l).2.length≤l.length + t.size
 | .mk n xs,l=>by
  rw [Tm.cn,Tm.size]
  split
  ·have:=Xn l n
   show (Em l n).length≤_
   omega
  ·have:=D1 xs l
   show (Tm.cnL xs l).2.length≤_
   omega
theorem D1:∀ (xs:List Tm) (l:List ByteArray),(Tm.cnL xs l).2.length≤l.length + Tm.sizes xs
 | [],l=>by simp [Tm.cnL]
 | x :: xs,l=>by
  simp only [Tm.cnL,Tm.sizes]
  have h1:=F3 x l
  have h2:=D1 xs (x.cn l).2
  omega
end
theorem IY (ks:List Tm):∀ l:List ByteArray,(∀ n ∈ l,AP n=true)→∀ n ∈ Az l ks,AP n=true:=by
 induction ks with
 | nil=>exact fun l h=>h
 | cons k ks ih =>
  intro l h
  have e:Az l (k :: ks)=Az (Bq l k.name) ks:=rfl
  rw [e]
  refine ih _ fun n hn=>?_
  unfold Bq at hn
  split at hn
  ·rename_i h1
   rcases List.mem_append.1 hn with h2 | h2
   ·exact h n h2
   ·rw [List.mem_singleton.1 h2]
    rw [Bool.and_eq_true] at h1
    exact h1.1
  ·exact h n hn
theorem P9 (t:Tm):∀ n ∈ t.varsOf,AP n=true:=IY _ [] (by simp)
theorem Mx (ks:List Tm):∀ l:List ByteArray,l.Nodup→(Az l ks).Nodup:=by
 induction ks with
 | nil=>exact fun l h=>h
 | cons k ks ih =>
  intro l h
  have e:Az l (k :: ks)=Az (Bq l k.name) ks:=rfl
  rw [e]
  refine ih _ ?_
  unfold Bq
  split
  ·rename_i h1
   rw [Bool.and_eq_true,Bool.not_eq_true'] at h1
   have h2:=Pe.1 h1.2
   rw [List.nodup_append]
   exact ⟨h,by simp,fun a ha b hb e=>h2 (by rw [List.mem_singleton.1 hb] at e;rw [← e];exact ha)⟩
  ·exact h
theorem PP (t:Tm):t.varsOf.Nodup:=Mx _ [] List.nodup_nil

set_option maxRecDepth 100000
def EM:IR :=
 (.seq (.ops [.i 2 (.mov (.c (.one (.st (.bool false)))))]) (.seq (.ops [.m 3 0,.m 4 0,.i 5 (.bin .neq (.t 3) (.t 4)),.m 2 5]) .ret))
theorem Hi:OkF Tryz.prog 138 6 [] EM [.t 2]:=.of Tryz.func138 rfl rfl (by kernel_rfl) rfl
def Dh:IR :=
 (.seq (.ops [.i 4 (.mov (.n 0))]) (.seq (.ops [.m 7 0,.i 8 (.call 138 [.t 7]),.m 5 8]) (.seq (.ops [.m 9 1,.i 10 (.call 138 [.t 9]),.m 6 10]) (.seq (.seq (.ops [.m 11 5]) (.cond (.t 11) (.seq (.seq (.ops [.m 12 6]) (.cond (.t 12) (.seq (.ops [.i 4 (.mov (.n 0))]) .ret) .skip)) (.seq (.ops [.i 4 (.mov (.c (.one (.st (.int .i64 (-1))))))]) .ret)) .skip)) (.seq (.seq (.ops [.m 13 6]) (.cond (.t 13) (.seq (.ops [.i 4 (.mov (.n 1))]) .ret) .skip)) (.seq (.seq (.ops [.m 14 0,.m 15 1,.i 16 (.bin .lss (.t 14) (.t 15))]) (.cond (.t 16) (.seq (.ops [.i 4 (.mov (.c (.one (.st (.int .i64 (-1))))))]) .ret) .skip)) (.seq (.seq (.ops [.m 17 0,.m 18 1,.i 19 (.bin .gtr (.t 17) (.t 18))]) (.cond (.t 19) (.seq (.ops [.i 4 (.mov (.n 1))]) .ret) .skip)) (.seq (.ops [.i 4 (.mov (.n 0))]) .ret))))))))
theorem GX:OkF Tryz.prog 132 20 [] Dh [.t 4]:=.of Tryz.func132 rfl rfl (by kernel_rfl) rfl
def GG:IR :=
 (.seq (.ops [.i 2 (.box 82 (.t 0)),.i 4 (.mov (.n 0))]) (.seq (.ops [.f 5 0 2,.l 6 5,.m 7 1,.i 8 (.call 132 [.t 6,.t 7]),.m 4 8]) .ret))
theorem Km:OkF Tryz.prog 143 9 [] GG [.t 4]:=.of Tryz.func143 rfl rfl (by kernel_rfl) rfl
def Aw:IR :=
 (.seq (.ops [.i 6 (.mov (.n 0)),.i 7 (.mov (.c (.one (.st (.bool false)))))]) (.seq (.ops [.m 12 0,.i 13 (.len false (.t 12)),.m 8 13]) (.seq (.ops [.m 14 8,.i 9 (.mov (.n 0)),.m 10 14]) (.seq (.block 0 (.loop (.seq (.seq (.ops [.m 15 9,.m 16 10,.i 17 (.bin .lss (.t 15) (.t 16))]) (.cond (.t 17) .skip (.exit 0))) (.block 1 (.seq (.ops [.m 18 9,.m 19 10,.i 20 (.bin .add (.t 18) (.t 19)),.i 21 (.conv .u64 (.t 20)),.i 22 (.bin .shr (.t 21) (.c (.one (.st (.int .u64 1))))),.i 23 (.conv .i64 (.t 22)),.m 11 23]) (.seq (.ops [.m 24 2,.m 25 0,.m 26 11,.i 27 (.indexAddr 3 (.t 25) (.t 26)),.L 28 3 27,.m 29 1,.i 30 (.callV (.t 24) [.t 28,.t 29]),.i 31 (.bin .lss (.t 30) (.n 0))]) (.cond (.t 31) (.ops [.m 32 11,.i 33 (.bin .add (.t 32) (.n 1)),.m 9 33]) (.ops [.m 34 11,.m 10 34])))))))) (.seq (.ops [.m 35 9,.m 36 9,.m 37 8,.i 38 (.bin .lss (.t 36) (.t 37)),.m 39 38,.mk (some 40) (some (39,true)) (.mov (.t 2)) .no,.mk (some 41) (some (39,true)) (.mov (.t 0)) .no,.mk (some 42) (some (39,true)) (.mov (.t 9)) .no,.mk (some 43) (some (39,true)) (.indexAddr 3 (.t 41) (.t 42)) .no,.mk (some 44) (some (39,true)) (.load true 3 (.t 43)) .no,.mk (some 45) (some (39,true)) (.mov (.t 1)) .no,.mk (some 46) (some (39,true)) (.callV (.t 40) [.t 44,.t 45]) .no,.mk (some 47) (some (39,true)) (.bin .eql (.t 46) (.n 0)) .no,.i 48 (.pick (.t 39) (.t 47) (.c (.one (.st (.bool false))))),.m 6 35,.m 7 48]) .ret)))))
theorem BJ:OkF Tryz.prog 142 49 [] Aw [.t 6,.t 7]:=.of Tryz.func142 rfl rfl (by kernel_rfl) rfl
def Hy:IR :=
 (.seq (.ops [.i 4 (.alloc 37 [.st (.str (ByteArray.mk (#[]))),.full []]),.i 5 (.mov (.c (.one (.st (.bool false)))))]) (.seq (.ops [.m 9 0,.m 10 1,.i 11 (.call 142 [.t 9,.t 10,.c (.one (.fn 143 []))]),.m 8 11,.i 12 (.extract 0 (.t 8)),.i 13 (.extract 1 (.t 8)),.m 6 12,.m 7 13]) (.seq (.seq (.ops [.m 14 7,.i 15 (.un .not (.t 14))]) (.cond (.t 15) (.seq (.ops [.i 16 (.build [.st (.str (ByteArray.mk (#[]))),.full []] []),.s 2 4 16,.i 5 (.mov (.c (.one (.st (.bool false)))))]) .ret) .skip)) (.seq (.ops [.m 17 0,.m 18 6,.i 19 (.indexAddr 3 (.t 17) (.t 18)),.f 20 1 19,.L 21 2 20,.s 2 4 21,.i 5 (.mov (.c (.one (.st (.bool true)))))]) .ret))))
theorem Mo:OkF Tryz.prog 135 22 [] Hy [.cell 4 true 2,.t 5]:=.of Tryz.func135 rfl rfl (by kernel_rfl) rfl
def Bf:IR :=
 (.seq (.ops [.i 4 (.box 37 (.t 1)),.i 6 (.alloc 37 [.st (.str (ByteArray.mk (#[]))),.full []])]) (.seq (.seq (.ops [.m 12 2]) (.cond (.t 12) (.seq (.ops [.m 14 0,.i 15 (.nilCheck (.t 14)),.f 16 0 15,.l 17 16,.f 18 0 4,.l 19 18,.i 20 (.call 135 [.t 17,.t 19]),.m 13 20,.i 21 (.extract 0 (.t 13)),.i 22 (.extract 1 (.t 13)),.i 7 (.alloc 37 [.st (.str (ByteArray.mk (#[]))),.full []]),.s 2 7 21,.m 8 22]) (.seq (.ops [.m 23 8]) (.cond (.t 23) (.seq (.ops [.m 24 0,.L 25 2 7,.i 26 (.callS 126 [.t 24,.t 25,.c (.one (.st (.bool false)))]),.s 2 6 26]) .ret) .skip))) .skip)) (.seq (.seq (.ops [.m 27 0,.i 28 (.nilCheck (.t 27)),.f 29 1 28,.l 30 29,.i 31 (.bin .sub (.t 30) (.n 1)),.i 32 (.nilCheck (.t 27)),.f 33 1 32,.s 1 33 31]) (.seq (.ops [.m 34 0,.i 35 (.nilCheck (.t 34)),.f 36 1 35,.l 37 36,.i 38 (.bin .lss (.t 37) (.n 0))]) (.cond (.t 38) (.seq (.ops [.i 39 (.build [.st (.str (ByteArray.mk (#[]))),.full []] []),.s 2 6 39]) .ret) .skip))) (.seq (.ops [.f 40 0 4,.l 41 40,.i 42 (.build [.st (.str (ByteArray.mk (#[]))),.full []] [(0,1,.t 41)]),.i 9 (.alloc 37 [.st (.str (ByteArray.mk (#[]))),.full []]),.s 2 9 42]) (.seq (.seq (.ops [.f 43 1 4,.l 44 43,.i 45 (.len false (.t 44)),.i 46 (.mov (.n 0))]) (.block 0 (.loop (.seq (.ops [.i 47 (.bin .lss (.t 46) (.t 45))]) (.seq (.cond (.t 47) .skip (.exit 0)) (.seq (.block 1 (.seq (.ops [.i 48 (.indexAddr 2 (.t 44) (.t 46)),.L 49 2 48,.i 11 (.alloc 37 [.st (.str (ByteArray.mk (#[]))),.full []]),.s 2 11 49]) (.seq (.ops [.mk (some 50) none (.fieldAddr 1 (.t 9)) (.onb 9),.mk (some 51) none (.load false 1 (.t 50)) (.onb 9),.m 52 0,.L 53 2 11,.m 54 2,.mk (some 55) none (.callS 126 [.t 52,.t 53,.t 54]) (.keeps [9,9]),.i 56 (.buildSlice false 37 2 [.t 55]),.i 57 (.append false 37 2 40 (.t 51) (.t 56)),.f 58 1 9,.s 1 58 57]) (.seq (.ops [.m 59 0,.i 60 (.nilCheck (.t 59)),.f 61 1 60,.l 62 61,.i 63 (.bin .lss (.t 62) (.n 0))]) (.cond (.t 63) (.seq (.ops [.i 64 (.build [.st (.str (ByteArray.mk (#[]))),.full []] []),.s 2 6 64]) .ret) .skip))))) (.ops [.i 65 (.bin .add (.t 46) (.n 1)),.m 46 65]))))))) (.seq (.ops [.L 66 2 9,.s 2 6 66]) .ret))))))
theorem CW:OkF Tryz.prog 126 67 [26,55] Bf [.cell 6 true 2]:=.of Tryz.func126 rfl rfl (by kernel_rfl) rfl
def KE:IR :=
 (.seq (.ops [.i 3 (.box 37 (.t 1)),.i 4 (.alloc 37 [.st (.str (ByteArray.mk (#[]))),.full []]),.i 5 (.mov (.c (.one (.st (.bool false)))))]) (.seq (.ops [.m 8 0,.i 9 (.build [.full [],.st (.int .i64 0)] [(0,1,.t 8),(1,1,.n 2000)]),.i 10 (.box 150 (.t 9)),.m 6 10]) (.seq (.ops [.m 11 6,.L 12 2 3,.i 13 (.callS 126 [.t 11,.t 12,.c (.one (.st (.bool true)))]),.i 7 (.alloc 37 [.st (.str (ByteArray.mk (#[]))),.full []]),.s 2 7 13]) (.seq (.ops [.L 14 2 7,.m 15 6,.mk (some 16) none (.nilCheck (.t 15)) (.onb 10),.mk (some 17) none (.fieldAddr 1 (.t 16)) (.onb 10),.mk (some 18) none (.load false 1 (.t 17)) (.onb 10),.i 19 (.bin .geq (.t 18) (.n 0)),.mk none none (.store 2 (.t 4) (.t 14)) (.onb 4),.m 5 19]) .ret))))
theorem QO:OkF Tryz.prog 110 20 [13,10060010] KE [.cell 4 true 2,.t 5]:=.of Tryz.func110 rfl rfl (by kernel_rfl) rfl

theorem UC (a:ByteArray):AY Tryz.prog 138 [Bo a] (Ad false):=by
 refine Hi.ac fun C hC=>?_
 unfold EM
 repeat' with_reducible first | refine W ?_ | refine Z0 ?_ | ((first | refine Wo fun K hK=>?_ | refine Wq ?_ | refine Wr ?_);(try simp only [go_sem,fN,seval,eT,iR]);(repeat refine Ai ?_);(try (refine hK _ ?_;clear hK K)))
 simp only [go_sem,fN,seval,AR,AS.result,AB,AD,AL]
theorem N8 (a b:ByteArray):AY Tryz.prog 132 [Bo a,Bo b] (AN (D_ a b)):=by
 refine GX.ac fun C hC=>?_
 unfold Dh
 repeat' (first | (with_reducible first | refine W ?_ | refine Z0 ?_ | ((first | refine Wo fun K hK=>?_ | refine Wq ?_ | refine Wr ?_);(try simp only [go_sem,fN,seval,eT,iR]);(repeat refine Ai ?_);(try (refine hK _ ?_;clear hK K)))) | refine Cg _ (UC a) ?_ | refine Cg _ (UC b) ?_)
 with_reducible refine Wp ?_
 simp only [go_sem,fN,seval,true_implies,false_implies,implies_true,dT,dF,nL]
 (try with_reducible refine iC ?_)
 repeat' with_reducible first | refine W ?_ | refine Z0 ?_ | ((first | refine Wo fun K hK=>?_ | refine Wq ?_ | refine Wr ?_);(try simp only [go_sem,fN,seval,eT,iR]);(repeat refine Ai ?_);(try (refine hK _ ?_;clear hK K)))
 with_reducible refine Wp ?_
 simp only [go_sem,fN,seval,true_implies,false_implies,implies_true,dT,dF,nL]
 (try with_reducible refine iC ?_)
 repeat' with_reducible first | refine W ?_ | refine Z0 ?_ | ((first | refine Wo fun K hK=>?_ | refine Wq ?_ | refine Wr ?_);(try simp only [go_sem,fN,seval,eT,iR]);(repeat refine Ai ?_);(try (refine hK _ ?_;clear hK K)))
 unfold D_
 cases h:sLt a b with
 | true =>
  with_reducible refine Wp ?_
  simp only [go_sem,fN,seval,true_implies,false_implies,implies_true,dT,dF,nL]
  (try with_reducible refine iC ?_)
  repeat' with_reducible first | refine W ?_ | refine Z0 ?_ | ((first | refine Wo fun K hK=>?_ | refine Wq ?_ | refine Wr ?_);(try simp only [go_sem,fN,seval,eT,iR]);(repeat refine Ai ?_);(try (refine hK _ ?_;clear hK K)))
  simp only [go_sem,fN,seval,AR,AS.result,AB,AD,AL]
 | false =>
  with_reducible refine Wp ?_
  simp only [go_sem,fN,seval,true_implies,false_implies,implies_true,dT,dF,nL]
  (try with_reducible refine iC ?_)
  by_cases he:a=b
  ·repeat' with_reducible first | refine W ?_ | refine Z0 ?_ | ((first | refine Wo fun K hK=>?_ | refine Wq ?_ | refine Wr ?_);(try simp only [go_sem,fN,seval,eT,iR,h,he,Bool.or_true,Bool.or_false]);(repeat refine Ai ?_);(try (refine hK _ ?_;clear hK K)))
   with_reducible refine Wp ?_
   simp only [go_sem,fN,seval,true_implies,false_implies,implies_true,dT,dF,nL,h,he,Bool.or_true,Bool.or_false]
   (try with_reducible refine iC ?_)
   repeat' with_reducible first | refine W ?_ | refine Z0 ?_ | ((first | refine Wo fun K hK=>?_ | refine Wq ?_ | refine Wr ?_);(try simp only [go_sem,fN,seval,eT,iR]);(repeat refine Ai ?_);(try (refine hK _ ?_;clear hK K)))
   simp only [go_sem,fN,seval,AR,AS.result,AB,AD,AL,h,he]
  ·repeat' with_reducible first | refine W ?_ | refine Z0 ?_ | ((first | refine Wo fun K hK=>?_ | refine Wq ?_ | refine Wr ?_);(try simp only [go_sem,fN,seval,eT,iR,h,he,Bool.or_true,Bool.or_false]);(repeat refine Ai ?_);(try (refine hK _ ?_;clear hK K)))
   with_reducible refine Wp ?_
   simp only [go_sem,fN,seval,true_implies,false_implies,implies_true,dT,dF,nL,h,he,Bool.or_true,Bool.or_false]
   (try with_reducible refine iC ?_)
   repeat' with_reducible first | refine W ?_ | refine Z0 ?_ | ((first | refine Wo fun K hK=>?_ | refine Wq ?_ | refine Wr ?_);(try simp only [go_sem,fN,seval,eT,iR]);(repeat refine Ai ?_);(try (refine hK _ ?_;clear hK K)))
   simp only [go_sem,fN,seval,AR,AS.result,AB,AD,AL,h,he]
theorem ZJ (b:Bd) (n:ByteArray):AY Tryz.prog 143 [aBd b,Bo n] (AN (D_ b.1 n)):=by
 refine Km.ac fun C hC=>?_
 unfold GG
 repeat' (first | (with_reducible first | refine W ?_ | refine Z0 ?_ | ((first | refine Wo fun K hK=>?_ | refine Wq ?_ | refine Wr ?_);(try simp only [go_sem,fN,seval,eT,iR]);(repeat refine Ai ?_);(try (refine hK _ ?_;clear hK K)))) | refine Cg _ (N8 b.1 n) ?_)
 simp only [go_sem,fN,seval,AR,AS.result,AB,AD,AL]
theorem Cd {a b:ByteArray}:D_ a b < 0 ↔ sLt a b=true:=by
 unfold D_
 split
 ·rename_i h;simp [h]
 ·rename_i h
  split <;> simp [h]
theorem NS {a b:ByteArray}:D_ a b=0 ↔ a=b:=by
 unfold D_
 split
 ·rename_i h
  constructor
  ·intro h';cases h'
  ·intro e;subst e;rw [DE] at h;cases h
 ·split <;> simp_all
def CZ (l:List Bd) (n:ByteArray) (i:Nat):Bool:=match l[i]? with
 | some b=>decide (b.1=n)
 | none=>false
theorem Kz (b:Bd) (n:ByteArray) (S:AA):Ah Tryz.prog 143 [aBd b,Bo n] S (AN (D_ b.1 n)) S:=(ZJ b n).toS rfl
theorem AAB {i j:Nat} (h:i < j):(((i:Int) + j).fdiv 2)=(((i + j) / 2:Nat):Int)∧i≤(i + j) / 2∧(i + j) / 2 < j:=by
 refine ⟨?_,by omega,by omega⟩
 rw [Int.fdiv_eq_ediv_of_nonneg _ (by omega)]
 omega
theorem RL (l:List Bd) (h40:l.length≤100000) (ho:BN l) (n:ByteArray) :
  ∃ i:Nat,i≤l.length∧(∀ k b,l[k]?=some b→k < i→sLt b.1 n=true)∧(∀ k b,l[k]?=some b→i≤k→sLt b.1 n=false) ∧
   AY Tryz.prog 142 [Ru l,Bo n,.one (.fn 143 [])] (.tup [AN i,Ad (CZ l n i)]):=by
 obtain ⟨i0,hi0,hlo,hhi⟩:∃ i:Nat,i≤l.length∧(∀ k b,l[k]?=some b→k < i→sLt b.1 n=true)∧(∀ k b,l[k]?=some b→i≤k→sLt b.1 n=false):=by
  clear h40
  induction l with
  | nil=>exact ⟨0,by simp,by simp,by simp⟩
  | cons c l ih =>
   obtain ⟨o1,o2⟩:=List.pairwise_cons.1 ho
   obtain ⟨i,q1,q2,q3⟩:=ih o2
   cases hc:sLt c.1 n with
   | true =>
    refine ⟨i + 1,by simp;omega,fun k b hk hki=>?_,fun k b hk hki=>?_⟩
    ·cases k with
     | zero=>simp at hk;subst hk;exact hc
     | succ k=>exact q2 k b (by simpa using hk) (by omega)
    ·cases k with
     | zero=>omega
     | succ k=>exact q3 k b (by simpa using hk) (by omega)
   | false =>
    refine ⟨0,by simp,fun k b hk hki=>by omega,fun k b hk hki=>?_⟩
    cases k with
    | zero=>simp at hk;subst hk;exact hc
    | succ k =>
     have hm:=AU (show l[k]?=some b by simpa using hk)
     cases hb:sLt b.1 n with
     | false=>rfl
     | true=>have:=FX (o1 b hm) hb;rw [hc] at this;cases this
 refine ⟨i0,hi0,hlo,hhi,?_⟩
 have hplain:B6 Tryz.prog 143=true:=by kernel_rfl
 refine BJ.ac fun C hC=>?_
 unfold Aw
 repeat' with_reducible first | refine W ?_ | refine Z0 ?_ | ((first | refine Wo fun K hK=>?_ | refine Wq ?_ | refine Wr ?_);(try simp only [go_sem,fN,seval,eT,iR]);(repeat refine Ai ?_);(try (refine hK _ ?_;clear hK K)))
 refine IWP.loop (fun m s=>∃ i j:Nat,i≤i0∧i0≤j∧j≤l.length∧m=j - i∧s.env 0=Ru l∧s.env 1=Bo n∧s.env 2=.one (.fn 143 [])∧s.env 8=AN l.length∧s.env 9=AN i∧s.env 10=AN j) l.length ⟨0,l.length,Nat.zero_le _,hi0,Nat.le_refl _,rfl,rfl,rfl,rfl,rfl,rfl,rfl⟩ ?_
 rintro m ⟨env,S⟩ ⟨i,j,hi,hj,hjl,rfl,e0,e1,e2,e8,e9,e10⟩
 simp only at e0 e1 e2 e8 e9 e10
 by_cases hlt:(i:Int) < j
 ·obtain ⟨z1,z2,z3⟩:=AAB (show i < j by omega)
  obtain ⟨b,hb⟩:=Aj (show (i + j) / 2 < l.length by omega)
  repeat' with_reducible first | refine W ?_ | refine Z0 ?_ | ((first | refine Wo fun K hK=>?_ | refine Wq ?_ | refine Wr ?_);(try simp only [go_sem,fN,seval,eT,iR,e0,e1,e2,e8,e9,e10,hlt]);(repeat refine Ai ?_);(try (refine hK _ ?_;clear hK K)))
  with_reducible refine Wp ?_
  simp only [go_sem,fN,seval,true_implies,false_implies,implies_true,dT,dF,nL,hlt]
  (try with_reducible refine iC ?_)
  have hbits:(1:Nat)≤IntKind.u64.bits:=by show 1≤64;omega
  repeat' with_reducible first | refine W ?_ | refine Z0 ?_ | ((first | refine Wo fun K hK=>?_ | refine Wq ?_ | refine Wr ?_);(try simp only [go_sem,fN,seval,eT,iR,e0,e1,e2,e8,e9,e10,hlt,z1,HK,hbits,hb,Cx,hplain]);(repeat refine Ai ?_);(try (refine hK _ ?_;clear hK K)))
  refine ⟨_,_,Kz b n _,?_⟩
  cases hc:sLt b.1 n with
  | true =>
   have hneg:D_ b.1 n < 0:=Cd.2 hc
   repeat' with_reducible first | refine W ?_ | refine Z0 ?_ | ((first | refine Wo fun K hK=>?_ | refine Wq ?_ | refine Wr ?_);(try simp only [go_sem,fN,seval,eT,iR,hneg]);(repeat refine Ai ?_);(try (refine hK _ ?_;clear hK K)))
   with_reducible refine Wp ?_
   simp only [go_sem,fN,seval,true_implies,false_implies,implies_true,dT,dF,nL,hneg]
   (try with_reducible refine iC ?_)
   repeat' with_reducible first | refine W ?_ | refine Z0 ?_ | ((first | refine Wo fun K hK=>?_ | refine Wq ?_ | refine Wr ?_);(try simp only [go_sem,fN,seval,eT,iR,e0,e1,e2,e8,e9,e10]);(repeat refine Ai ?_);(try (refine hK _ ?_;clear hK K)))
   refine AH ⟨j - ((i + j) / 2 + 1),by omega,(i + j) / 2 + 1,j,?_,hj,hjl,rfl,?_⟩
   ·rcases Nat.lt_or_ge ((i + j) / 2) i0 with h | h
    ·omega
    ·rw [hhi _ b hb h] at hc;cases hc
   ·simp only [go_sem,fN,seval,eT,iR,e0,e1,e2,e8,e9,e10]
    congr 3
  | false =>
   have hneg:¬ D_ b.1 n < 0:=fun h=>by rw [Cd.1 h] at hc;cases hc
   repeat' with_reducible first | refine W ?_ | refine Z0 ?_ | ((first | refine Wo fun K hK=>?_ | refine Wq ?_ | refine Wr ?_);(try simp only [go_sem,fN,seval,eT,iR,hneg]);(repeat refine Ai ?_);(try (refine hK _ ?_;clear hK K)))
   with_reducible refine Wp ?_
   simp only [go_sem,fN,seval,true_implies,false_implies,implies_true,dT,dF,nL,hneg]
   (try with_reducible refine iC ?_)
   repeat' with_reducible first | refine W ?_ | refine Z0 ?_ | ((first | refine Wo fun K hK=>?_ | refine Wq ?_ | refine Wr ?_);(try simp only [go_sem,fN,seval,eT,iR,e0,e1,e2,e8,e9,e10]);(repeat refine Ai ?_);(try (refine hK _ ?_;clear hK K)))
   refine AH ⟨(i + j) / 2 - i,by omega,i,(i + j) / 2,hi,?_,by omega,rfl,?_⟩
   ·rcases Nat.lt_or_ge ((i + j) / 2) i0 with h | h
    ·rw [hlo _ b hb h] at hc;cases hc
    ·omega
   ·simp only [go_sem,fN,seval,eT,iR,e0,e1,e2,e8,e9,e10]
 ·have hii:i=i0:=by omega
  subst hii
  have hjj:j=i:=by omega
  subst hjj
  repeat' with_reducible first | refine W ?_ | refine Z0 ?_ | ((first | refine Wo fun K hK=>?_ | refine Wq ?_ | refine Wr ?_);(try simp only [go_sem,fN,seval,eT,iR,e0,e1,e2,e8,e9,e10,hlt]);(repeat refine Ai ?_);(try (refine hK _ ?_;clear hK K)))
  with_reducible refine Wp ?_
  simp only [go_sem,fN,seval,true_implies,false_implies,implies_true,dT,dF,nL,hlt]
  (try with_reducible refine iC ?_)
  by_cases hil:(j:Int) < l.length
  ·obtain ⟨b,hb⟩:=Aj (show j < l.length by omega)
   repeat' with_reducible first | refine W ?_ | refine Z0 ?_ | ((first | refine Wo fun K hK=>?_ | refine Wq ?_ | refine Wr ?_);(try simp only [go_sem,fN,seval,eT,iR,e0,e1,e2,e8,e9,e10,hil,hb,Cx,hplain]);(repeat refine Ai ?_);(try (refine hK _ ?_;clear hK K)))
   refine ⟨_,_,Kz b n _,?_⟩
   repeat' with_reducible first | refine W ?_ | refine Z0 ?_ | ((first | refine Wo fun K hK=>?_ | refine Wq ?_ | refine Wr ?_);(try simp only [go_sem,fN,seval,eT,iR]);(repeat refine Ai ?_);(try (refine hK _ ?_;clear hK K)))
   simp only [go_sem,fN,seval,AR,AS.result,AB,AD,AL]
   unfold CZ
   rw [hb]
   simp only [NS]
  ·repeat' with_reducible first | refine W ?_ | refine Z0 ?_ | ((first | refine Wo fun K hK=>?_ | refine Wq ?_ | refine Wr ?_);(try simp only [go_sem,fN,seval,eT,iR,e0,e1,e2,e8,e9,e10,hil]);(repeat refine Ai ?_);(try (refine hK _ ?_;clear hK K)))
   simp only [go_sem,fN,seval,AR,AS.result,AB,AD,AL]
   unfold CZ
   rw [List.getElem?_eq_none (by omega)]
theorem JA {l:List Bd} {n:ByteArray} {i:Nat} (hlo:∀ k b,l[k]?=some b→k < i→sLt b.1 n=true) (hhi:∀ k b,l[k]?=some b→i≤k→sLt b.1 n=false) (ho:BN l) :
  (∃ b,l[i]?=some b∧b.1=n∧lookup l n=some b.2) ∨ (CZ l n i=false∧lookup l n=none):=by
 have hlow:∀ c ∈ l.take i,c.1 ≠ n:=fun c hc e=>by
  obtain ⟨k,hk,rfl⟩:=List.getElem_of_mem hc
  rw [List.length_take] at hk
  have:=hlo k l[k] (List.getElem?_eq_getElem (by omega)) (by omega)
  rw [List.getElem_take] at e
  rw [e,DE] at this
  cases this
 by_cases hil:i < l.length
 ·obtain ⟨b,hb⟩:=Aj hil
  by_cases he:b.1=n
  ·exact .inl ⟨b,hb,he,RS hb he hlow⟩
  ·refine .inr ⟨by unfold CZ;rw [hb];exact decide_eq_false he,FA fun c hc e=>?_⟩
   obtain ⟨k,hk,rfl⟩:=List.getElem_of_mem hc
   have hck:=List.getElem?_eq_getElem hk
   rcases Nat.lt_trichotomy k i with h | h | h
   ·have:=hlo k _ hck h
    rw [e,DE] at this
    cases this
   ·subst h
    rw [hb] at hck
    cases hck
    exact he e
   ·have h1:=Qj ho hb hck h
    rw [e,hhi i b hb (Nat.le_refl _)] at h1
    cases h1
 ·refine .inr ⟨by unfold CZ;rw [List.getElem?_eq_none (by omega)],FA fun c hc=>hlow c ?_⟩
  rw [List.take_of_length_le (by omega)]
  exact hc
theorem XN (l:List Bd) (h40:l.length≤100000) (ho:BN l) (n:ByteArray):AY Tryz.prog 135 [Ru l,Bo n] (.tup [aTm ((lookup l n).getD Tm.nil),Ad (lookup l n).isSome]):=by
 obtain ⟨i,hi,hlo,hhi,hs⟩:=RL l h40 ho n
 refine Mo.ac fun C hC=>?_
 unfold Hy
 repeat' with_reducible first | refine W ?_ | refine Z0 ?_ | ((first | refine Wo fun K hK=>?_ | refine Wq ?_ | refine Wr ?_);(try simp only [go_sem,fN,seval,eT,iR]);(repeat refine Ai ?_);(try (refine hK _ ?_;clear hK K)))
 refine ⟨_,hs,?_⟩
 rcases JA hlo hhi ho with ⟨b,hb,he,hl⟩ | ⟨hf,hl⟩
 ·have hf:CZ l n i=true:=by unfold CZ;rw [hb];exact decide_eq_true he
  repeat' with_reducible first | refine W ?_ | refine Z0 ?_ | ((first | refine Wo fun K hK=>?_ | refine Wq ?_ | refine Wr ?_);(try simp only [go_sem,fN,seval,eT,iR,hf]);(repeat refine Ai ?_);(try (refine hK _ ?_;clear hK K)))
  with_reducible refine Wp ?_
  simp only [go_sem,fN,seval,true_implies,false_implies,implies_true,dT,dF,nL,hf]
  (try with_reducible refine iC ?_)
  repeat' with_reducible first | refine W ?_ | refine Z0 ?_ | ((first | refine Wo fun K hK=>?_ | refine Wq ?_ | refine Wr ?_);(try simp only [go_sem,fN,seval,eT,iR,hb,Cx]);(repeat refine Ai ?_);(try (refine hK _ ?_;clear hK K)))
  simp only [go_sem,fN,seval,AR,AS.result,AB,AD,AL]
  rw [hl]
  rfl
 ·repeat' with_reducible first | refine W ?_ | refine Z0 ?_ | ((first | refine Wo fun K hK=>?_ | refine Wq ?_ | refine Wr ?_);(try simp only [go_sem,fN,seval,eT,iR,hf]);(repeat refine Ai ?_);(try (refine hK _ ?_;clear hK K)))
  with_reducible refine Wp ?_
  simp only [go_sem,fN,seval,true_implies,false_implies,implies_true,dT,dF,nL,hf]
  (try with_reducible refine iC ?_)
  repeat' with_reducible first | refine W ?_ | refine Z0 ?_ | ((first | refine Wo fun K hK=>?_ | refine Wq ?_ | refine Wr ?_);(try simp only [go_sem,fN,seval,eT,iR]);(repeat refine Ai ?_);(try (refine hK _ ?_;clear hK K)))
  simp only [go_sem,fN,seval,AR,AS.result,AB,AD,AL]
  rw [hl]
  rfl

def BD (s:List Bd) (t:Tm):Tm × Bool:=if (t.on s).size≤2000 then (t.on s,true) else (Tm.nil,false)

structure Ren (f:ByteArray→ByteArray):Prop where
 inv:∀ n,f (f n)=n
 var:∀ n,AP (f n)=AP n
 con:∀ n,AP n=false→f n=n
theorem Ren.inj {f:ByteArray→ByteArray} (hf:Ren f) {a b:ByteArray}:f a=f b ↔ a=b:=⟨fun h=>by rw [← hf.inv a,h,hf.inv],fun h=>by rw [h]⟩
mutual
def Tm.ren (f:ByteArray→ByteArray):Tm→Tm
 | .mk n xs=>.mk (f n) (Tm.renL f xs)
def Tm.renL (f:ByteArray→ByteArray):List Tm→List Tm
 | []=>[]
 | x :: xs=>x.ren f :: Tm.renL f xs
end
section
variable {f:ByteArray→ByteArray}
theorem Fb:∀ {l:List Bd},Bp l→∀ {n:ByteArray} {t:Tm},lookup l n=some t ↔ (n,t) ∈ l
 | [],_,n,t=>by simp [lookup]
 | b :: l,h,n,t=>by
  have h':b.1 ∉ l.map (·.1)∧Bp l:=by
   unfold Bp at h
   rw [List.map_cons,List.nodup_cons] at h
   exact h
  have ih:=Fb h'.2 (n:=n) (t:=t)
  unfold lookup at ih ⊢
  rw [List.find?_cons]
  by_cases hb:b.1=n
  ·rw [decide_eq_true hb]
   constructor
   ·intro h2
    cases h2
    exact List.mem_cons.2 (.inl (by rw [← hb]))
   ·intro h2
    rcases List.mem_cons.1 h2 with h2 | h2
    ·rw [← h2]
     rfl
    ·exact absurd (List.mem_map.2 ⟨_,h2,hb.symm⟩) h'.1
  ·rw [decide_eq_false hb,ih]
   constructor
   ·exact fun h2=>List.mem_cons_of_mem _ h2
   ·intro h2
    rcases List.mem_cons.1 h2 with h2 | h2
    ·rw [← h2] at hb
     exact absurd rfl hb
    ·exact h2
theorem Q8 {l m:List Bd} (hp:l.Perm m) (hn:Bp m) (n:ByteArray):lookup l n=lookup m n:=by
 have hl:=Ef hp.symm hn
 cases h:lookup m n with
 | some t=>exact (Fb hl).2 (hp.mem_iff.2 ((Fb hn).1 h))
 | none =>
  cases h2:lookup l n with
  | none=>rfl
  | some t =>
   rw [(Fb hn).2 (hp.mem_iff.1 ((Fb hl).1 h2))] at h
   cases h
theorem Lo (s:List Bd) (x n:ByteArray) (t:Tm):lookup (s ++ [(x,t)]) n=(lookup s n).or (if x=n then some t else none):=by
 unfold lookup
 rw [List.find?_append]
 cases h:s.find? fun b=>decide (b.1=n) with
 | some b=>simp
 | none =>
  by_cases hx:x=n
  ·simp [hx]
  ·simp [hx]
structure Y7 (f:ByteArray→ByteArray) (s s':List Bd):Prop where
 n1:Bp s
 n2:Bp s'
 eq:∀ n,lookup s' (f n)=(lookup s n).map (Tm.ren f)
theorem Y7.nil (f:ByteArray→ByteArray):Y7 f [] []:=⟨List.nodup_nil,List.nodup_nil,fun _=>rfl⟩
theorem Y7.one (hf:Ren f) (x:ByteArray) (t:Tm):Y7 f [(x,t)] [(f x,t.ren f)]:=⟨by simp [Bp],by simp [Bp],fun n=>by
 have h1:=Lo [] x n t
 have h2:=Lo [] (f x) (f n) (t.ren f)
 rw [List.nil_append] at h1 h2
 rw [h1,h2]
 by_cases h:x=n
 ·simp [lookup,h]
 ·simp [lookup,h,mt hf.inj.1 h]⟩
end

mutual
def Tm.mt:Tm→Tm→List Bd→List Bd × Bool
 | .mk n xs,t,l=>if AP n=true then (match lookup l n with
   | some x=>(l,x.beq t)
   | none=>(l ++ [(n,t)],true))
  else if n=t.name∧xs.length=t.args.length then Tm.mtL xs t.args l else (l,false)
def Tm.mtL:List Tm→List Tm→List Bd→List Bd × Bool
 | x :: xs,y :: ys,l=>if (x.mt y l).2=true then Tm.mtL xs ys (x.mt y l).1 else ((x.mt y l).1,false)
 | _,_,l=>(l,true)
end
section
variable {p t:Tm} {l:List Bd}
theorem Tm.mt_old (hv:AP p.name=true) {x:Tm} (h:lookup l p.name=some x):p.mt t l=(l,x.beq t):=by
 cases p with
 | mk n xs =>
  simp only [Tm.name_mk] at hv h
  rw [Tm.mt,if_pos hv,h]
theorem Tm.mt_new (hv:AP p.name=true) (h:lookup l p.name=none):p.mt t l=(l ++ [(p.name,t)],true):=by
 cases p with
 | mk n xs =>
  simp only [Tm.name_mk] at hv h
  rw [Tm.mt,if_pos hv,h]
  rfl
theorem Tm.mt_clash (hv:AP p.name=false) (h:¬ (p.name=t.name∧p.args.length=t.args.length)):p.mt t l=(l,false):=by
 cases p with
 | mk n xs =>
  simp only [Tm.name_mk,Tm.args_mk] at hv h
  rw [Tm.mt,if_neg (by simp [hv]),if_neg h]
theorem Tm.mt_knot (hv:AP p.name=false) (h1:p.name=t.name) (h2:p.args.length=t.args.length):p.mt t l=Tm.mtL p.args t.args l:=by
 cases p with
 | mk n xs =>
  simp only [Tm.name_mk,Tm.args_mk] at hv h1 h2
  rw [Tm.mt,if_neg (by simp [hv]),if_pos ⟨h1,h2⟩]
  rfl
end
theorem Tm.mtL_nil (ys:List Tm) (l:List Bd):Tm.mtL [] ys l=(l,true):=by cases ys <;> simp [Tm.mtL]
theorem Tm.mtL_append:∀ (xs ys xs' ys':List Tm) (l:List Bd),xs.length=ys.length→Tm.mtL (xs ++ xs') (ys ++ ys') l=if (Tm.mtL xs ys l).2=true then Tm.mtL xs' ys' (Tm.mtL xs ys l).1 else ((Tm.mtL xs ys l).1,false)
 | [],[],xs',ys',l,_=>by simp [Tm.mtL_nil]
 | x :: xs,y :: ys,xs',ys',l,h=>by
  simp only [List.cons_append,Tm.mtL]
  by_cases hx:(x.mt y l).2=true
  ·simp only [hx,if_true]
   exact Tm.mtL_append xs ys xs' ys' _ (by simpa using h)
  ·simp only [hx]
   simp
 | [],y :: ys,_,_,_,h=>by simp at h
 | x :: xs,[],_,_,_,h=>by simp at h
theorem Tm.mtL_take {xs ys:List Tm} {k:Nat} {x y:Tm} {l:List Bd} (hl:xs.length=ys.length) (hx:xs[k]?=some x) (hy:ys[k]?=some y) (h:(Tm.mtL (xs.take k) (ys.take k) l).2=true) :
  Tm.mtL (xs.take (k + 1)) (ys.take (k + 1)) l=x.mt y (Tm.mtL (xs.take k) (ys.take k) l).1:=by
 rw [Au hx,Au hy,Tm.mtL_append _ _ _ _ _ (by simp [hl]),if_pos h]
 generalize Tm.mtL (xs.take k) (ys.take k) l=q
 simp only [Tm.mtL]
 split
 ·rename_i h1
  exact Prod.ext rfl h1.symm
 ·rename_i h1
  exact Prod.ext rfl (by simpa using h1)
theorem Tm.mtL_no {xs ys:List Tm} {k:Nat} {l:List Bd} (hl:xs.length=ys.length) (h:(Tm.mtL (xs.take k) (ys.take k) l).2=false):Tm.mtL xs ys l=((Tm.mtL (xs.take k) (ys.take k) l).1,false):=by
 have e:Tm.mtL xs ys l=Tm.mtL (xs.take k ++ xs.drop k) (ys.take k ++ ys.drop k) l:=by rw [List.take_append_drop,List.take_append_drop]
 rw [e,Tm.mtL_append _ _ _ _ _ (by simp [hl]),h]
 rfl
structure Kj (l l':List Bd) (many most:Nat):Prop where
 named:Bp l→Bp l'
 len:l'.length≤l.length + many
 size:∀ b ∈ l',b ∈ l ∨ b.2.size≤most
theorem Kj.refl (l:List Bd) (n m:Nat):Kj l l n m:=⟨fun h=>h,by omega,fun b hb=>.inl hb⟩
theorem Kj.trans {a b c:List Bd} {n m k n' m':Nat} (h:Kj a b n m) (h':Kj b c n' m') (hn:n + n'≤k) {M:Nat} (h1:m≤M) (h2:m'≤M):Kj a c k M:=by
 refine ⟨fun q=>h'.named (h.named q),by have:=h.len;have:=h'.len;omega,fun x hx=>?_⟩
 rcases h'.size x hx with h3 | h3
 ·rcases h.size x h3 with h4 | h4
  ·exact .inl h4
  ·exact .inr (by omega)
 ·exact .inr (by omega)
theorem Pj {l:List Bd} {n:ByteArray} (h:lookup l n=none):n ∉ l.map (·.1):=by
 intro hm
 obtain ⟨b,hb,rfl⟩:=List.mem_map.1 hm
 unfold lookup at h
 rw [Option.map_eq_none_iff,List.find?_eq_none] at h
 exact h b hb (by simp)
theorem Rh {l:List Bd} {b:Bd} (h:lookup l b.1=none) (hn:Bp l):Bp (l ++ [b]):=by
 unfold Bp at *
 rw [List.map_append,List.nodup_append]
 refine ⟨hn,by simp,fun x hx y hy e=>?_⟩
 simp only [List.map_cons,List.map_nil,List.mem_singleton] at hy
 subst hy
 subst e
 exact Pj h hx
mutual
theorem Tm.mt_ok:∀ (p t:Tm) (l:List Bd),Kj l (p.mt t l).1 p.size t.size
 | .mk n xs,t,l=>by
  rw [Tm.mt]
  split
  ·split
   ·exact Kj.refl _ _ _
   ·rename_i h
    refine ⟨fun hn=>Rh h hn,?_,fun b hb=>?_⟩
    ·have:=Tm.size_pos (.mk n xs)
     rw [List.length_append,List.length_singleton]
     omega
    ·rcases List.mem_append.1 hb with hb | hb
     ·exact .inl hb
     ·rw [List.mem_singleton] at hb
      subst hb
      exact .inr (Nat.le_refl _)
  ·split
   ·have:=Tm.mtL_ok xs t.args l
    have h1:=Tm.size_eq t
    exact ⟨this.named,by have:=this.len;rw [Tm.size];omega,fun b hb=>(this.size b hb).imp_right (by omega)⟩
   ·exact Kj.refl _ _ _
theorem Tm.mtL_ok:∀ (xs ys:List Tm) (l:List Bd),Kj l (Tm.mtL xs ys l).1 (Tm.sizes xs) (Tm.sizes ys)
 | [],ys,l=>by rw [Tm.mtL_nil];exact Kj.refl _ _ _
 | x :: xs,[],l=>by rw [Tm.mtL];exact Kj.refl _ _ _;simp
 | x :: xs,y :: ys,l=>by
  rw [Tm.mtL]
  have h1:=Tm.mt_ok x y l
  split
  ·exact h1.trans (Tm.mtL_ok xs ys _) (by rw [Tm.sizes];exact Nat.le_refl _) (by rw [Tm.sizes];omega) (by rw [Tm.sizes];omega)
  ·exact ⟨h1.named,by have:=h1.len;rw [Tm.sizes];show (x.mt y l).1.length≤_;omega,fun b hb=>(h1.size b hb).imp_right (by rw [Tm.sizes];omega)⟩
end
def Bl (p t:Tm):List Bd:=if (p.mt t []).2=true then Bb (p.mt t []).1 else []
def Ex (p t:Tm):Bool:=(p.mt t []).2
theorem UR:Bp []:=List.nodup_nil
theorem P4 (p t:Tm):Bp (p.mt t []).1:=(Tm.mt_ok p t []).named UR
theorem V_ (p t:Tm):(p.mt t []).1.length≤p.size:=by have:=(Tm.mt_ok p t []).len;simpa using this
theorem YO (p t:Tm):∀ b ∈ (p.mt t []).1,b.2.size≤t.size:=fun b hb=>((Tm.mt_ok p t []).size b hb).resolve_left (by simp)

def Tm.atP:Tm→List Int→Option Tm
 | t,[]=>some t
 | t,i :: p=>if i < 0 then none else match t.args[i.toNat]? with
  | some a=>a.atP p
  | none=>none
def Tm.putP:Tm→List Int→Tm→Tm
 | t,[],x=>x
 | t,i :: p,x=>match t.args[i.toNat]? with
  | some a=>.mk t.name (t.args.set i.toNat (a.putP p x))
  | none=>t
theorem Tm.atP_nil (t:Tm):t.atP []=some t:=by cases t;rfl
theorem Tm.putP_nil (t x:Tm):t.putP [] x=x:=by cases t;rfl
theorem Tm.atP_cons (t:Tm) (i:Int) (p:List Int):t.atP (i :: p)=if i < 0 then none else match t.args[i.toNat]? with
  | some a=>a.atP p
  | none=>none:=by cases t;rfl
theorem Tm.putP_cons (t:Tm) (i:Int) (p:List Int) (x:Tm):t.putP (i :: p) x=match t.args[i.toNat]? with
  | some a=>.mk t.name (t.args.set i.toNat (a.putP p x))
  | none=>t:=by cases t;rfl
theorem Tm.atP_at {t a:Tm} {k:Nat} (h:t.args[k]?=some a) (p:List Int):t.atP ((k:Int) :: p)=a.atP p:=by
 rw [Tm.atP_cons,if_neg (by omega),Int.toNat_natCast,h]
theorem Tm.putP_at {t a:Tm} {k:Nat} (h:t.args[k]?=some a) (p:List Int) (x:Tm):t.putP ((k:Int) :: p) x=.mk t.name (t.args.set k (a.putP p x)):=by
 rw [Tm.putP_cons,Int.toNat_natCast,h]
def EC (R:List Pr) (t:Tm):List Pr→Option (Tm × Int)
 | []=>none
 | r :: l=>if Ex r.1 t=true then (if (BD (Bl r.1 t) r.2).2=true then some ((BD (Bl r.1 t) r.2).1,0) else some (Tm.nil,8)) else EC R t l
def Gg (R:List Pr) (t:Tm):Option (Tm × Int):=EC R t R
theorem Ji {R:List Pr} {t x:Tm} {e:Int}:∀ {l:List Pr},EC R t l=some (x,e)→(e=0 ∨ e=8)∧x.size≤2000∧(e=8→x=Tm.nil)
 | [],h=>by cases h
 | r :: l,h=>by
  rw [EC] at h
  split at h
  ·split at h
   ·cases h
    refine ⟨.inl rfl,?_,by simp⟩
    unfold BD
    split
    ·assumption
    ·decide
   ·cases h
    exact ⟨.inr rfl,by decide,fun _=>rfl⟩
  ·exact Ji h
mutual
def Tm.inn (R:List Pr):Tm→Option (Tm × Int)
 | .mk n xs=>match Tm.innL R xs with
  | some (ys,e)=>some (.mk n ys,e)
  | none=>Gg R (.mk n xs)
def Tm.innL (R:List Pr):List Tm→Option (List Tm × Int)
 | []=>none
 | x :: xs=>match Tm.inn R x with
  | some (y,e)=>some (y :: xs,e)
  | none=>match Tm.innL R xs with
   | some (ys,e)=>some (x :: ys,e)
   | none=>none
end
mutual
def Tm.out (R:List Pr):Tm→Option (Tm × Int)
 | .mk n xs=>match Gg R (.mk n xs) with
  | some r=>some r
  | none=>match Tm.outL R xs with
   | some (ys,e)=>some (.mk n ys,e)
   | none=>none
def Tm.outL (R:List Pr):List Tm→Option (List Tm × Int)
 | []=>none
 | x :: xs=>match Tm.out R x with
  | some (y,e)=>some (y :: xs,e)
  | none=>match Tm.outL R xs with
   | some (ys,e)=>some (x :: ys,e)
   | none=>none
end
theorem Tm.inn_eq (R:List Pr) (t:Tm):t.inn R=match Tm.innL R t.args with
  | some (ys,e)=>some (.mk t.name ys,e)
  | none=>Gg R t:=by cases t;rfl
def B_ (step:Tm→Option (Tm × Int)):Nat→Int→Tm→Tm × Int × Int
 | 0,n,t=>match step t with
  | none=>(t,n,0)
  | some _=>(Tm.nil,0,9)
 | k + 1,n,t=>match step t with
  | none=>(t,n,0)
  | some (x,e)=>if e ≠ 0 then (Tm.nil,0,e) else if 2000 < x.size then (Tm.nil,0,8) else B_ step k (n + 1) x

def TG (l m:List Bd):Prop:=∀ n x,lookup l n=some x→lookup m n=some x
theorem TG.trans {a b c:List Bd} (h:TG a b) (k:TG b c):TG a c:=fun n x e=>k n x (h n x e)
def TQ (b:Bd):Prop:=AP b.1=true∧A_ b.1=true∧b.2.chk=0
theorem U3 {t:Tm} (h:t.chk=0):A_ t.name=true:=by
 have:=OU h
 unfold Cj at this
 split at this
 ·assumption
 ·cases this
mutual
theorem T2:∀ (p:Tm),p.chk=0→∀ (t:Tm),t.chk=0→∀ (l:List Bd),(∀ b ∈ l,TQ b)→∀ b ∈ (p.mt t l).1,TQ b
 | .mk n xs,hc,t,ht,l,hl=>by
  obtain ⟨c1,c2⟩:=Tm.chk_args hc
  simp only [Tm.name_mk,Tm.args_mk] at c1 c2
  rw [Tm.mt]
  split
  ·rename_i hv
   split
   ·exact hl
   ·intro b hb
    rcases List.mem_append.1 hb with hb | hb
    ·exact hl b hb
    ·rw [List.mem_singleton] at hb
     subst hb
     exact ⟨hv,U3 hc,ht⟩
  ·split
   ·exact Qq xs c2 t.args (Tm.chk_args ht).2 l hl
   ·exact hl
theorem Qq:∀ (xs:List Tm),(∀ x ∈ xs,x.chk=0)→∀ (ys:List Tm),(∀ y ∈ ys,y.chk=0)→∀ (l:List Bd),(∀ b ∈ l,TQ b)→∀ b ∈ (Tm.mtL xs ys l).1,TQ b
 | [],_,ys,_,l,hl=>by rw [Tm.mtL_nil];exact hl
 | x :: xs,_,[],_,l,hl=>by rw [Tm.mtL];exact hl;simp
 | x :: xs,hc,y :: ys,hy,l,hl=>by
  rw [Tm.mtL]
  have h1:=T2 x (hc x (by simp)) y (hy y (by simp)) l hl
  split
  ·exact Qq xs (fun a ha=>hc a (by simp [ha])) ys (fun a ha=>hy a (by simp [ha])) _ h1
  ·exact h1
end
section
variable {p t:Tm}
theorem Pb (hp:p.chk=0) (ht:t.chk=0):OkB (Bl p t):=by
 unfold Bl
 have hg:=T2 p hp t ht [] (by simp)
 split
 ·exact ⟨Bz (P4 p t),fun b hb=>(hg b (B2.1 hb)).1,fun b hb=>(hg b (B2.1 hb)).2.1,fun b hb=>(hg b (B2.1 hb)).2.2⟩
 ·exact ⟨List.Pairwise.nil,by simp,by simp,by simp⟩
theorem KZ:(Bl p t).length≤p.size:=by
 unfold Bl
 split
 ·rw [Bc];exact V_ p t
 ·simp
end

def FK {α:Type} (f:α→Int):List α→Int
 | []=>0
 | x :: xs=>if f x=0 then FK f xs else f x
theorem Gq {α:Type} (f:α→Int):∀ xs ys:List α,FK f (xs ++ ys)=if FK f xs=0 then FK f ys else FK f xs
 | [],ys=>rfl
 | x :: xs,ys=>by
  by_cases h:f x=0
  ·have e1:FK f (x :: (xs ++ ys))=FK f (xs ++ ys):=if_pos h
   have e2:FK f (x :: xs)=FK f xs:=if_pos h
   rw [List.cons_append,e1,e2,Gq f xs ys]
  ·have e1:FK f (x :: (xs ++ ys))=f x:=if_neg h
   have e2:FK f (x :: xs)=f x:=if_neg h
   rw [List.cons_append,e1,e2,if_neg h]
theorem WF {α:Type} {f:α→Int} {xs:List α} {k:Nat} {a:α} (h:xs[k]?=some a) (h0:FK f (xs.take k)=0):(f a=0→FK f (xs.take (k + 1))=0)∧(f a ≠ 0→FK f xs=f a):=by
 refine ⟨fun ha=>?_,fun ha=>?_⟩
 ·rw [Au h,Gq,if_pos h0]
  simp [FK,ha]
 ·have e:xs=xs.take k ++ a :: xs.drop (k + 1):=by
   rw [← BQ h,List.take_append_drop]
  rw [e,Gq,if_pos h0]
  simp [FK,ha]
theorem OB {α:Type} {f:α→Int}:∀ {xs:List α},FK f xs=0→∀ x ∈ xs,f x=0
 | [],_,x,h=>by cases h
 | y :: ys,h0,x,hx=>by
  rw [FK] at h0
  by_cases hy:f y=0
  ·rw [if_pos hy] at h0
   rcases List.mem_cons.1 hx with rfl | hx
   ·exact hy
   ·exact OB h0 x hx
  ·rw [if_neg hy] at h0
   exact absurd h0 hy
def LB (r:Pr):Bool:=r.2.varsOf.any fun v=>!DL v r.1.varsOf
def HM (r:Pr):Int:=if BS r.1 r.2=0 then (if AP r.1.name=true then 2 else if LB r=true then 15 else 0) else BS r.1 r.2
def BG (R:List Pr):Int:=if 40 < R.length then 3 else FK HM R
structure A7 (R:List Pr):Prop where
 len:R.length≤40
 left:∀ r ∈ R,r.1.may=0
 right:∀ r ∈ R,r.2.may=0
 head:∀ r ∈ R,AP r.1.name=false
 vars:∀ r ∈ R,∀ v ∈ r.2.varsOf,v ∈ r.1.varsOf
theorem Po {r:Pr} (h:HM r=0):r.1.may=0∧r.2.may=0∧AP r.1.name=false∧LB r=false:=by
 unfold HM at h
 by_cases h1:BS r.1 r.2=0
 ·rw [if_pos h1] at h
  by_cases h2:AP r.1.name=true
  ·rw [if_pos h2] at h;cases h
  ·rw [if_neg h2] at h
   by_cases h3:LB r=true
   ·rw [if_pos h3] at h;cases h
   ·unfold BS at h1
    by_cases h4:r.1.may=0
    ·rw [if_pos h4] at h1
     exact ⟨h4,h1,by simpa using h2,by simpa using h3⟩
    ·rw [if_neg h4] at h1
     exact absurd h1 h4
 ·rw [if_neg h1] at h
  exact absurd h h1
theorem Dy {R:List Pr} (h:BG R=0):A7 R:=by
 unfold BG at h
 by_cases h0:40 < R.length
 ·rw [if_pos h0] at h;cases h
 ·rw [if_neg h0] at h
  have key:=fun r hr=>Po (OB h r hr)
  refine ⟨by omega,fun r hr=>(key r hr).1,fun r hr=>(key r hr).2.1,fun r hr=>(key r hr).2.2.1,fun r hr v hv=>?_⟩
  have:=(key r hr).2.2.2
  unfold LB at this
  rw [List.any_eq_false] at this
  have:=this v hv
  simp only [Bool.not_eq_true',Bool.not_eq_false] at this
  exact In.1 this
def MT (R:List Pr) (t:Tm):Int:=if BG R=0 then t.may else BG R
def DU (t:Tm):Nat→List Pr→Tm × Int × Int
 | _,[]=>(Tm.nil,-1,0)
 | k,r :: l=>if Ex r.1 t=true then ((BD (Bl r.1 t) r.2).1,(k:Int),if (BD (Bl r.1 t) r.2).2=true then 0 else 8) else DU t (k + 1) l
theorem Ky {s:List Bd} {t:Tm} (h:¬ (BD s t).2=true):(BD s t).1=Tm.nil:=by
 unfold BD at *
 split
 ·rename_i h1
  rw [if_pos h1] at h
  exact absurd rfl h
 ·rfl
theorem LH (R:List Pr) (t:Tm):∀ (l:List Pr) (k:Nat),match EC R t l with
  | none=>DU t k l=(Tm.nil,-1,0)
  | some (x,e)=>∃ i:Nat,DU t k l=(x,(i:Int),e)
 | [],k=>rfl
 | r :: l,k=>by
  rw [EC,DU]
  by_cases h:Ex r.1 t=true
  ·rw [if_pos h,if_pos h]
   by_cases h2:(BD (Bl r.1 t) r.2).2=true
   ·rw [if_pos h2,if_pos h2]
    exact ⟨k,rfl⟩
   ·rw [if_neg h2,if_neg h2]
    exact ⟨k,by rw [Ky h2]⟩
  ·rw [if_neg h,if_neg h]
   exact LH R t l (k + 1)
theorem Pp {R:List Pr}:∀ {xs:List Tm} {k:Nat} {a y:Tm} {e:Int},xs[k]?=some a→(∀ b ∈ xs.take k,b.inn R=none)→a.inn R=some (y,e)→Tm.innL R xs=some (xs.set k y,e)
 | [],k,a,y,e,h,_,_=>by simp at h
 | x :: xs,0,a,y,e,h,_,hy=>by
  simp at h
  subst h
  rw [Tm.innL,hy]
  rfl
 | x :: xs,k + 1,a,y,e,h,hn,hy=>by
  rw [Tm.innL,hn x (by simp),Pp (xs:=xs) (k:=k) (by simpa using h) (fun b hb=>hn b (by rw [List.take_succ_cons];exact List.mem_cons_of_mem _ hb)) hy]
  rfl
theorem MV {R:List Pr}:∀ {xs:List Tm},(∀ b ∈ xs,b.inn R=none)→Tm.innL R xs=none
 | [],_=>rfl
 | x :: xs,h=>by rw [Tm.innL,h x (by simp),MV (fun b hb=>h b (List.mem_cons_of_mem _ hb))]
theorem Jq {R:List Pr} (hR:A7 R) {t x:Tm} {e:Int} (ht:t.chk=0):∀ {l:List Pr},(∀ r ∈ l,r ∈ R)→EC R t l=some (x,e)→x.chk=0 ∨ e=8
 | [],_,h=>by cases h
 | r :: l,hl,h=>by
  rw [EC] at h
  have hr:=hl r (by simp)
  split at h
  ·rename_i hc
   split at h
   ·rename_i h2
    cases h
    left
    have e1:(BD (Bl r.1 t) r.2).1=r.2.on (Bl r.1 t):=by
     unfold BD at h2 ⊢
     split
     ·rfl
     ·rename_i h3
      rw [if_neg h3] at h2
      cases h2
    rw [e1]
    exact Yj (Pb (Tm.may_chk (hR.left r hr)).1 ht).chk (Tm.may_chk (hR.right r hr)).1
   ·cases h
    exact .inr rfl
  ·exact Jq hR ht (fun r hr=>hl r (List.mem_cons_of_mem _ hr)) h
theorem PD {n:ByteArray} {xs:List Tm} {k:Nat} {y:Tm} (h:(Tm.mk n xs).chk=0) (hk:k < xs.length) (hy:y.chk=0):(Tm.mk n (xs.set k y)).chk=0:=by
 refine QG h (by simp) fun z hz=>?_
 rcases List.mem_or_eq_of_mem_set hz with hz | rfl
 ·exact (Tm.chk_args h).2 z hz
 ·exact hy
theorem Fm:∀ {xs:List Tm} {k:Nat} {a:Tm} (y:Tm),xs[k]?=some a→Tm.sizes (xs.set k y) + a.size=Tm.sizes xs + y.size
 | [],k,a,y,h=>by simp at h
 | x :: xs,0,a,y,h=>by
  simp at h
  subst h
  simp only [List.set_cons_zero,Tm.sizes]
  omega
 | x :: xs,k + 1,a,y,h=>by
  have:=Fm (xs:=xs) (k:=k) y (by simpa using h)
  simp only [List.set_cons_succ,Tm.sizes]
  omega
mutual
theorem I7 {R:List Pr} (hR:A7 R):∀ {t x:Tm} {e:Int},t.chk=0→t.inn R=some (x,e)→(e=0 ∨ e=8)∧(e=0→x.chk=0)∧x.size≤t.size + 2000
 | .mk n xs,x,e,hc,h=>by
  rw [Tm.inn] at h
  split at h
  ·rename_i ys e' hy
   cases h
   obtain ⟨k,a,y,h1,h2,h3,h4,h5,h6⟩:=OE (xs:=xs) hR (fun b hb=>(Tm.chk_args hc).2 b hb) hy
   subst h2
   have h7:=Fm y h1
   have hk:=Cf h1
   refine ⟨h4,fun he=>PD hc hk (h5 he),?_⟩
   have z1:(Tm.mk n (xs.set k y)).size=1 + Tm.sizes (xs.set k y):=rfl
   have z2:(Tm.mk n xs).size=1 + Tm.sizes xs:=rfl
   omega
  ·obtain ⟨h1,h2,h3⟩:=Ji h
   refine ⟨h1,fun he=>(Jq hR hc (fun r hr=>hr) h).resolve_right (by omega),by omega⟩
theorem OE {R:List Pr} (hR:A7 R):∀ {xs ys:List Tm} {e:Int},(∀ b ∈ xs,b.chk=0)→Tm.innL R xs=some (ys,e)→∃ k a y,xs[k]?=some a∧ys=xs.set k y∧a.inn R=some (y,e)∧(e=0 ∨ e=8)∧(e=0→y.chk=0)∧y.size≤a.size + 2000
 | [],ys,e,_,h=>by cases h
 | x :: xs,ys,e,hc,h=>by
  rw [Tm.innL] at h
  split at h
  ·rename_i y e' hy
   cases h
   obtain ⟨q1,q2,q3⟩:=I7 hR (hc x (by simp)) hy
   exact ⟨0,x,y,rfl,rfl,hy,q1,q2,q3⟩
  ·split at h
   ·rename_i ys' e' hy
    cases h
    obtain ⟨k,a,y,h1,h2,h3,h4⟩:=OE hR (fun b hb=>hc b (List.mem_cons_of_mem _ hb)) hy
    exact ⟨k + 1,a,y,by simpa using h1,by rw [h2];rfl,h3,h4⟩
   ·cases h
end
mutual
theorem P_ {R:List Pr} (hR:A7 R):∀ {t x:Tm} {e:Int},t.chk=0→t.out R=some (x,e)→(e=0 ∨ e=8)∧(e=0→x.chk=0)∧x.size≤t.size + 2000
 | .mk n xs,x,e,hc,h=>by
  rw [Tm.out] at h
  split at h
  ·rename_i r hr
   obtain ⟨x',e'⟩:=r
   cases h
   obtain ⟨h1,h2,h3⟩:=Ji hr
   refine ⟨h1,fun he=>(Jq hR hc (fun r hr=>hr) hr).resolve_right (by omega),by omega⟩
  ·split at h
   ·rename_i ys e' hy
    cases h
    obtain ⟨k,a,y,h1,h2,h3,h4,h5,h6⟩:=NV (xs:=xs) hR (fun b hb=>(Tm.chk_args hc).2 b hb) hy
    subst h2
    have h7:=Fm y h1
    have hk:=Cf h1
    refine ⟨h4,fun he=>PD hc hk (h5 he),?_⟩
    have z1:(Tm.mk n (xs.set k y)).size=1 + Tm.sizes (xs.set k y):=rfl
    have z2:(Tm.mk n xs).size=1 + Tm.sizes xs:=rfl
    omega
   ·cases h
theorem NV {R:List Pr} (hR:A7 R):∀ {xs ys:List Tm} {e:Int},(∀ b ∈ xs,b.chk=0)→Tm.outL R xs=some (ys,e)→∃ k a y,xs[k]?=some a∧ys=xs.set k y∧a.out R=some (y,e)∧(e=0 ∨ e=8)∧(e=0→y.chk=0)∧y.size≤a.size + 2000
 | [],ys,e,_,h=>by cases h
 | x :: xs,ys,e,hc,h=>by
  rw [Tm.outL] at h
  split at h
  ·rename_i y e' hy
   cases h
   obtain ⟨q1,q2,q3⟩:=P_ hR (hc x (by simp)) hy
   exact ⟨0,x,y,rfl,rfl,hy,q1,q2,q3⟩
  ·split at h
   ·rename_i ys' e' hy
    cases h
    obtain ⟨k,a,y,h1,h2,h3,h4⟩:=NV hR (fun b hb=>hc b (List.mem_cons_of_mem _ hb)) hy
    exact ⟨k + 1,a,y,by simpa using h1,by rw [h2];rfl,h3,h4⟩
   ·cases h
end

mutual
theorem J3:∀ (t:Tm) (p:List Int),p ∈ t.places→∃ x,t.atP p=some x∧x ∈ t.knots
 | .mk n xs,p,h=>by
  rw [Tm.places] at h
  rcases List.mem_cons.1 h with rfl | h
  ·exact ⟨_,rfl,by rw [Tm.knots];exact List.mem_cons_self⟩
  ·obtain ⟨x,h1,h2⟩:=Hl n xs 0 xs p (by simp) h
   exact ⟨x,h1,by rw [Tm.knots];exact List.mem_cons_of_mem _ h2⟩
theorem Hl (n:ByteArray) (all:List Tm):∀ (k:Nat) (xs:List Tm) (p:List Int),all.drop k=xs→p ∈ Tm.placesFrom k xs→∃ x,(Tm.mk n all).atP p=some x∧x ∈ Tm.knotsL xs
 | _,[],p,_,h=>by simp [Tm.placesFrom] at h
 | k,x :: xs,p,hd,h=>by
  have hk:all[k]?=some x:=by
   have:=congrArg (fun l=>l[0]?) hd
   simpa using this
  rw [Tm.placesFrom] at h
  rcases List.mem_append.1 h with h | h
  ·obtain ⟨q,hq,rfl⟩:=List.mem_map.1 h
   obtain ⟨y,h1,h2⟩:=J3 x q hq
   exact ⟨y,by rw [Tm.atP_at (t:=.mk n all) hk];exact h1,by rw [Tm.knotsL];exact List.mem_append_left _ h2⟩
  ·obtain ⟨y,h1,h2⟩:=Hl n all (k + 1) xs p (by rw [← List.tail_drop,hd];rfl) h
   exact ⟨y,h1,by rw [Tm.knotsL];exact List.mem_append_right _ h2⟩
end
mutual
theorem JO:∀ (t x:Tm),t.chk=0→x ∈ t.knots→x.chk=0
 | .mk n xs,x,hc,h=>by
  rw [Tm.knots] at h
  rcases List.mem_cons.1 h with rfl | h
  ·exact hc
  ·exact N2 xs x (fun b hb=>(Tm.chk_args hc).2 b hb) h
theorem N2:∀ (xs:List Tm) (x:Tm),(∀ b ∈ xs,b.chk=0)→x ∈ Tm.knotsL xs→x.chk=0
 | [],x,_,h=>by simp [Tm.knotsL] at h
 | y :: ys,x,hc,h=>by
  rw [Tm.knotsL] at h
  rcases List.mem_append.1 h with h | h
  ·exact JO y x (hc y (by simp)) h
  ·exact N2 ys x (fun b hb=>hc b (List.mem_cons_of_mem _ hb)) h
end
mutual
theorem Fi:∀ (t x:Tm),x ∈ t.knots→x.size≤t.size
 | .mk n xs,x,h=>by
  rw [Tm.knots] at h
  rcases List.mem_cons.1 h with rfl | h
  ·exact Nat.le_refl _
  ·have:=Le xs x h
   simp only [Tm.size]
   omega
theorem Le:∀ (xs:List Tm) (x:Tm),x ∈ Tm.knotsL xs→x.size≤Tm.sizes xs
 | [],x,h=>by simp [Tm.knotsL] at h
 | y :: ys,x,h=>by
  rw [Tm.knotsL] at h
  simp only [Tm.sizes]
  rcases List.mem_append.1 h with h | h
  ·have:=Fi y x h;omega
  ·have:=Le ys x h;omega
end
def YA (inner:Bool) (R:List Pr) (t:Tm):Option (Tm × Int):=if inner=true then t.inn R else t.out R
theorem Sg {inner:Bool} {R:List Pr} (hR:A7 R) {t x:Tm} {e:Int} (hc:t.chk=0) (h:YA inner R t=some (x,e)):(e=0 ∨ e=8)∧(e=0→x.chk=0)∧x.size≤t.size + 2000:=by
 cases inner with
 | true=>exact I7 hR hc h
 | false=>exact P_ hR hc h
theorem Oh {inner:Bool} {R:List Pr} (hR:A7 R):∀ (k:Nat) (n:Int) (t:Tm),t.chk=0→(B_ (YA inner R) k n t).1.chk=0 ∨ (B_ (YA inner R) k n t).2.2 ≠ 0
 | 0,n,t,hc=>by
  unfold B_
  split
  ·exact .inl hc
  ·exact .inr (by decide)
 | k + 1,n,t,hc=>by
  rw [B_]
  split
  ·exact .inl hc
  ·rename_i x e hs
   obtain ⟨h1,h2,h3⟩:=Sg hR hc hs
   by_cases he:e ≠ 0
   ·rw [if_pos he]
    exact .inr he
   ·rw [if_neg he]
    by_cases hz:2000 < x.size
    ·rw [if_pos hz]
     exact .inr (by decide)
    ·rw [if_neg hz]
     exact Oh hR k (n + 1) x (h2 (by omega))
theorem HZ {step:Tm→Option (Tm × Int)}:∀ (k:Nat) (n:Int) (t:Tm) (M:Nat),t.size≤M→2000≤M→(B_ step k n t).1.size≤M
 | 0,n,t,M,h,hM=>by
  unfold B_
  split
  ·exact h
  ·show Tm.nil.size≤M
   have:Tm.nil.size=1:=rfl
   omega
 | k + 1,n,t,M,h,hM=>by
  have hn:Tm.nil.size=1:=rfl
  rw [B_]
  split
  ·exact h
  ·rename_i x e hs
   by_cases he:e ≠ 0
   ·rw [if_pos he]
    show Tm.nil.size≤M
    omega
   ·rw [if_neg he]
    by_cases hz:2000 < x.size
    ·rw [if_pos hz]
     show Tm.nil.size≤M
     omega
    ·rw [if_neg hz]
     exact HZ k (n + 1) x M (by omega) hM
def KJ (R:List Pr) (most:Nat) (a b:Tm):Bool × Int :=
 let x:=B_ (Tm.inn R) most 0 a
 let y:=B_ (Tm.inn R) most 0 b
 if x.2.2 ≠ 0 then (false,x.2.2) else if y.2.2 ≠ 0 then (false,y.2.2) else (x.1.beq y.1,0)

def CA:List (Tm × Nat)→Tm→Tm
 | [],x=>x
 | (t,i) :: V,x=>CA V (.mk t.name (t.args.set i x))
mutual
def Tm.visits:List (Tm × Nat)→Tm→List (List (Tm × Nat) × Tm)
 | V,.mk n xs=>(V,.mk n xs) :: Tm.visitsL V (.mk n xs) 0 xs
def Tm.visitsL:List (Tm × Nat)→Tm→Nat→List Tm→List (List (Tm × Nat) × Tm)
 | _,_,_,[]=>[]
 | V,t,k,x :: xs=>Tm.visits ((t,k) :: V) x ++ Tm.visitsL V t (k + 1) xs
end
theorem Tm.visits_eq (V:List (Tm × Nat)) (t:Tm):t.visits V=(V,t) :: Tm.visitsL V t 0 t.args:=by cases t;rfl
theorem PR {V:List (Tm × Nat)} {t a:Tm} {k:Nat} {xs:List Tm} (h:xs[k]?=some a):Tm.visitsL V t k (xs.drop k)=a.visits ((t,k) :: V) ++ Tm.visitsL V t (k + 1) (xs.drop (k + 1)):=by
 obtain ⟨hk,he⟩:=List.getElem?_eq_some_iff.1 h
 rw [List.drop_eq_getElem_cons hk,he,Tm.visitsL]
abbrev Kk:=(Tm→Tm) × Tm
def DG (q:List (Tm × Nat) × Tm):Kk:=(CA q.1,q.2)
def Vq (V:List (Tm × Nat)) (t:Tm) (p:List Int):Kk:=(fun y=>CA V (t.putP p y),(t.atP p).getD Tm.nil)
mutual
theorem D0:∀ (t:Tm) (V:List (Tm × Nat)),(t.visits V).map DG=t.places.map (Vq V t)
 | .mk n xs,V=>by
  rw [Tm.visits,Tm.places,List.map_cons,List.map_cons,Gu n xs 0 xs V (by simp)]
  rfl
theorem Gu (n:ByteArray) (all:List Tm):∀ (k:Nat) (xs:List Tm) (V:List (Tm × Nat)),all.drop k=xs→(Tm.visitsL V (.mk n all) k xs).map DG=(Tm.placesFrom k xs).map (Vq V (.mk n all))
 | _,[],_,_=>rfl
 | k,x :: xs,V,h=>by
  have hk:all[k]?=some x:=by
   have:=congrArg (fun l=>l[0]?) h
   simpa using this
  rw [Tm.visitsL,Tm.placesFrom,List.map_append,List.map_append,D0 x,Gu n all (k + 1) xs V (by rw [← List.tail_drop,h];rfl),List.map_map]
  congr 1
  refine List.map_congr_left fun p _=>?_
  show (fun y=>CA ((Tm.mk n all,k) :: V) (x.putP p y),(x.atP p).getD Tm.nil)=(fun y=>CA V ((Tm.mk n all).putP ((k:Int) :: p) y),((Tm.mk n all).atP ((k:Int) :: p)).getD Tm.nil)
  rw [Tm.atP_at (t:=.mk n all) hk]
  congr 1
  funext y
  rw [Tm.putP_at (t:=.mk n all) hk]
  rfl
end
def EP (q:Kk):List Pr→Option (List Tm)
 | []=>some []
 | r :: l=>if Ex r.1 q.2=true then (if (BD (Bl r.1 q.2) r.2).2=true∧(q.1 (BD (Bl r.1 q.2) r.2).1).size≤2000 then (EP q l).map (q.1 (BD (Bl r.1 q.2) r.2).1 :: ·) else none) else EP q l
def B5 (R:List Pr):List Kk→Option (List Tm)
 | []=>some []
 | q :: l=>match EP q R with
  | none=>none
  | some a=>(B5 R l).map (a ++ ·)
def Rx (R:List Pr) (t:Tm):Option (List Tm):=B5 R (t.places.map (Vq [] t))
theorem M0 (R:List Pr) (t:Tm):Rx R t=B5 R ((t.visits []).map DG):=by rw [D0];rfl
theorem FG (R:List Pr):∀ a b:List Kk,B5 R (a ++ b)=match B5 R a with
  | none=>none
  | some x=>(B5 R b).map (x ++ ·)
 | [],b=>by
  simp only [List.nil_append,B5]
  cases B5 R b <;> simp
 | q :: a,b=>by
  rw [List.cons_append,B5,B5,FG R a b]
  cases EP q R with
  | none=>rfl
  | some x =>
   simp only
   cases B5 R a with
   | none=>rfl
   | some y=>cases B5 R b <;> simp
theorem Py {R:List Pr} {a:List Kk} {q:Kk} {x y:List Tm} (h:B5 R a=some x) (h2:EP q R=some y):B5 R (a ++ [q])=some (x ++ y):=by
 rw [FG,h]
 simp [B5,h2]
theorem SM {R:List Pr} {a b:List Kk} {q:Kk} (h2:EP q R=none):B5 R (a ++ q :: b)=none:=by
 rw [FG,B5,h2]
 cases B5 R a <;> rfl
theorem Nv (q:Kk):∀ (l:List Pr) (k:Nat),(DU q.2 k l=(Tm.nil,-1,0)∧EP q l=some []) ∨
  ∃ (i:Nat) (y:Tm) (r:Pr),k≤i∧i < k + l.length∧r ∈ l∧Ex r.1 q.2=true∧(BD (Bl r.1 q.2) r.2).1=y∧((DU q.2 k l=(y,(i:Int),0)∧(BD (Bl r.1 q.2) r.2).2=true∧EP q l=if (q.1 y).size≤2000 then (EP q (l.drop (i + 1 - k))).map (q.1 y :: ·) else none) ∨ (DU q.2 k l=(Tm.nil,(i:Int),8)∧EP q l=none))
 | [],k=>.inl ⟨rfl,rfl⟩
 | r :: l,k=>by
  rw [DU,EP]
  by_cases h:Ex r.1 q.2=true
  ·rw [if_pos h,if_pos h]
   refine .inr ⟨k,_,r,Nat.le_refl k,by simp,by simp,h,rfl,?_⟩
   by_cases h2:(BD (Bl r.1 q.2) r.2).2=true
   ·refine .inl ⟨by rw [if_pos h2],h2,?_⟩
    by_cases h3:(q.1 (BD (Bl r.1 q.2) r.2).1).size≤2000
    ·rw [if_pos ⟨h2,h3⟩,if_pos h3,show k + 1 - k=1 by omega]
     rfl
    ·rw [if_neg (fun h=>h3 h.2),if_neg h3]
   ·exact .inr ⟨by rw [if_neg h2,Ky h2],by rw [if_neg (fun h=>h2 h.1)]⟩
  ·rw [if_neg h,if_neg h]
   rcases Nv q l (k + 1) with ⟨h1,h3⟩ | ⟨i,y,r',h1,h2,hm,hc,hy,h3⟩
   ·exact .inl ⟨h1,h3⟩
   ·refine .inr ⟨i,y,r',by omega,by rw [List.length_cons];omega,List.mem_cons_of_mem _ hm,hc,hy,?_⟩
    rcases h3 with ⟨h3,h4,h5⟩ | h3
    ·refine .inl ⟨h3,h4,?_⟩
     rw [h5,show i + 1 - k=(i + 1 - (k + 1)) + 1 by omega,List.drop_succ_cons]
    ·exact .inr h3
theorem Fp {s:List Bd} {t:Tm}:(BD s t).1.size≤2000:=by
 unfold BD
 split
 ·assumption
 ·decide
def Nj:List (Tm × Nat)→Prop
 | []=>True
 | (t,i) :: V=>i < t.args.length∧t.args.length≤1000000∧Nj V
mutual
theorem No:∀ (t:Tm) (V:List (Tm × Nat)),Nj V→t.size≤1000000→∀ q ∈ t.visits V,Nj q.1∧q.2 ∈ t.knots
 | .mk n xs,V,hV,hz,q,hq=>by
  rw [Tm.visits] at hq
  rw [Tm.knots]
  rcases List.mem_cons.1 hq with rfl | hq
  ·exact ⟨hV,List.mem_cons_self⟩
  ·have:=MK n xs 0 xs V (by simp) hV hz q hq
   exact ⟨this.1,List.mem_cons_of_mem _ this.2⟩
theorem MK (n:ByteArray) (all:List Tm):∀ (k:Nat) (xs:List Tm) (V:List (Tm × Nat)),all.drop k=xs→Nj V→(Tm.mk n all).size≤1000000→∀ q ∈ Tm.visitsL V (.mk n all) k xs,Nj q.1∧q.2 ∈ Tm.knotsL xs
 | _,[],_,_,_,_,q,hq=>by simp [Tm.visitsL] at hq
 | k,x :: xs,V,h,hV,hz,q,hq=>by
  have hk:all[k]?=some x:=by
   have:=congrArg (fun l=>l[0]?) h
   simpa using this
  have hlt:k < all.length:=(List.getElem?_eq_some_iff.1 hk).1
  have hl:=Tm.length_le all
  have hx:=Fm x hk
  have hx2:x.size≤Tm.sizes all:=by
   have h2:=Tm.length_le all
   have:∀ {l:List Tm},x ∈ l→x.size≤Tm.sizes l:=fun {l} hm=>by
    induction l with
    | nil=>cases hm
    | cons y ys ih =>
     simp only [Tm.sizes]
     rcases List.mem_cons.1 hm with rfl | hm
     ·omega
     ·have:=ih hm
      omega
   exact this (List.mem_of_getElem? hk)
  simp only [Tm.size] at hz
  rw [Tm.visitsL] at hq
  rw [Tm.knotsL]
  rcases List.mem_append.1 hq with hq | hq
  ·have:=No x ((.mk n all,k) :: V) ⟨hlt,by show all.length≤_;omega,hV⟩ (by omega) q hq
   exact ⟨this.1,List.mem_append_left _ this.2⟩
  ·have:=MK n all (k + 1) xs V (by rw [← List.tail_drop,h];rfl) hV (by simp only [Tm.size];omega) q hq
   exact ⟨this.1,List.mem_append_right _ this.2⟩
end
theorem Nb:∀ (p:List Int) (t y:Tm),(t.putP p y).size≤t.size + y.size
 | [],t,y=>by rw [Tm.putP_nil];omega
 | i :: p,t,y=>by
  rw [Tm.putP_cons]
  split
  ·rename_i a ha
   have h1:=Fm (a.putP p y) ha
   have h2:=Nb p a y
   have h3:=Tm.size_eq t
   simp only [Tm.size]
   omega
  ·omega
theorem Qi {t:Tm} {q:List (Tm × Nat) × Tm} (hq:q ∈ t.visits []) (y:Tm):(CA q.1 y).size≤t.size + y.size:=by
 have h1:DG q ∈ (t.visits []).map DG:=List.mem_map_of_mem hq
 rw [D0] at h1
 obtain ⟨p,_,h2⟩:=List.mem_map.1 h1
 have h3:CA q.1=fun y=>CA [] (t.putP p y):=(congrArg Prod.fst h2).symm
 rw [h3]
 exact Nb p t y
theorem Jb {q:Kk}:∀ {l:List Pr} {a:List Tm},EP q l=some a→a.length≤l.length
 | [],a,h=>by cases h;simp
 | r :: l,a,h=>by
  rw [EP] at h
  split at h
  ·split at h
   ·rw [Option.map_eq_some_iff] at h
    obtain ⟨b,h1,rfl⟩:=h
    have:=Jb h1
    simp only [List.length_cons]
    omega
   ·cases h
  ·have:=Jb h
   simp only [List.length_cons]
   omega
theorem LM {R:List Pr}:∀ {l:List Kk} {a:List Tm},B5 R l=some a→a.length≤l.length * R.length
 | [],a,h=>by cases h;simp
 | q :: l,a,h=>by
  rw [B5] at h
  split at h
  ·cases h
  ·rename_i b hb
   rw [Option.map_eq_some_iff] at h
   obtain ⟨c,h1,rfl⟩:=h
   have h2:=Jb hb
   have h3:=LM h1
   simp only [List.length_cons,List.length_append,Nat.add_mul]
   omega
theorem Sk (t:Tm) (V:List (Tm × Nat)):(t.visits V).length=t.size:=by
 have:=congrArg List.length (D0 t V)
 simp only [List.length_map] at this
 rw [this,Tm.places_length]

theorem SP {ds:List Nat} (hds:∀ d ∈ ds,d < 1000) {x:Option AK} (hb:∀ b,x=some b→b.high=true):x.map (AK.purge ds)=x:=by
 cases h:x with
 | none=>rfl
 | some b=>rw [Option.map_some,AK.purge_high hds (hb b h)]
theorem TE {S S1:AA} {a0:Nat} {b:AK} (hS:Am S) (ha:1000≤a0) (h1:S1 a0=some b) (h2:∀ i,1000≤i→i ≠ a0→S1 i=S i):CD S1=AG S a0 (some b):=by
 funext i
 show (if i < 1000 then none else S1 i)=_
 by_cases e:i=a0
 ·subst e
  rw [if_neg (by omega),AE,h1]
 ·rw [AF _ e]
  by_cases hi:i < 1000
  ·rw [if_pos hi,AJ hS hi]
  ·rw [if_neg hi,h2 i (by omega) e]
theorem Ra {S S1:AA} {a0:Nat} {b:AK} (hS:Am S) (hb:b.high=true) (h1:S1 a0=some b) (h2:∀ i,1000≤i→i ≠ a0→S1 i=S i):∀ i c,1000≤i→S1 i=some c→c.high=true:=fun i c hi hc=>by
 by_cases e:i=a0
 ·subst e
  rw [h1] at hc
  cases hc
  exact hb
 ·rw [h2 i hi e] at hc
  exact (hS i c hc).2
theorem Bi {C:Ctx} {rs:List RV} {r:AV} {e:AX} {s:AS} {S:AA} {a0:Nat} {b:AK} (r0:AV) (hS:Am S) (ha:1000≤a0) (hb:b.high=true) (he:match e with | .normal=>True | .ret=>True | _=>False)
  (h1:(AB s rs).map AL=some r0) (h2:outV s.S r0=some r) (h3:s.S a0=some b) (h4:∀ i,1000≤i→i ≠ a0→s.S i=S i):F7 C rs r (AG S a0 (some b)) e s :=
 K_ he r0 h1 h2 (Ra hS hb h3 h4) (TE hS ha h3 h4) (BP hS ha hb)
theorem X8 {C:Ctx} {rs:List RV} {r:AV} {e:AX} {s:AS} {S:AA} {a0 b0:Nat} {b c:AK} (r0:AV) (hS:Am S) (ha:1000≤a0) (hb0:1000≤b0) (hne:b0 ≠ a0) (hb:b.high=true) (hc:c.high=true) (he:match e with | .normal=>True | .ret=>True | _=>False)
  (h1:(AB s rs).map AL=some r0) (h2:outV s.S r0=some r) (h3:s.S a0=some b) (h3':s.S b0=some c) (h4:∀ i,1000≤i→i ≠ a0→i ≠ b0→s.S i=S i):F7 C rs r (AG (AG S a0 (some b)) b0 (some c)) e s :=
 K_ he r0 h1 h2 (fun i x hi hx=>by
  by_cases e1:i=a0
  ·subst e1;rw [h3] at hx;cases hx;exact hb
  ·by_cases e2:i=b0
   ·subst e2;rw [h3'] at hx;cases hx;exact hc
   ·rw [h4 i hi e1 e2] at hx;exact (hS i x hx).2) (by
  funext i
  show (if i < 1000 then none else s.S i)=_
  by_cases e2:i=b0
  ·subst e2
   rw [AE,if_neg (by omega),h3']
  ·rw [AF _ e2]
   by_cases e1:i=a0
   ·subst e1
    rw [AE,if_neg (by omega),h3]
   ·rw [AF _ e1]
    by_cases hi:i < 1000
    ·rw [if_pos hi,AJ hS hi]
    ·rw [if_neg hi,h4 i (by omega) e1 e2]) (BP (BP hS ha hb) hb0 hc)
theorem Aa.settleC {C:Ctx} {s:AS} (id j:Nat) {ty:TypeId} {cs:List AC} {c:AC} {x:SV} (hb:s.S id=some (.box ty cs)) (hc:cs[j]?=some c) (hx:stC s.S c=some x):Aa C s (s.set id (.box ty (cs.set j (.st x)))):=fun a w ⟨σ,ι,R⟩=>by
 have hbk:=R.blk id _ hb
 cases hbk with
 | @box _ _ g vs h1 h2 h3 h4 h5 =>
  obtain ⟨v,hv,hr⟩:=h4.get hc
  have hsr:=R.stC hr hx
  obtain ⟨hu2,R2⟩:=R.turn (w':=w) hb (.box ty (cs.set j (.st x))) (ι id) (σ':=σ) (fun _ _ h=>h) (fun _ _ _=>rfl) R.fit (Nat.le_refl _) (fun _=>⟨rfl,rfl⟩) ⟨rfl,rfl,rfl⟩ (Nat.le_refl _) (fun _ _ _=>rfl) (fun g h=>.inl h) (fun hu2=>by
   refine .box h1 h2 h3 (Af.of_get (by rw [List.length_set];exact h4.len) fun k u c' hu' hck=>?_) h5
   by_cases hk:k=j
   ·subst hk
    rw [hv] at hu'
    cases hu'
    have hlt:k < cs.length:=(List.getElem?_eq_some_iff.1 hc).1
    rw [List.getElem?_set_self hlt] at hck
    cases hck
    exact .st hsr
   ·rw [List.getElem?_set_ne (fun e=>hk e.symm)] at hck
    obtain ⟨u',q1,q2⟩:=h4.get hck
    rw [hu'] at q1
    cases q1
    exact q2.mono (fun _ _ h=>h) hu2)
  exact ⟨_,_,R2⟩

end Go.Proofs.YtbhnmjkmieiadaaGreatDoor
