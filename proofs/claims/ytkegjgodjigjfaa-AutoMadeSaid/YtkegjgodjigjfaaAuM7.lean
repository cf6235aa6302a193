/-
  Part 7 of the texts. Conditions: none.
-/
import Derived.Test.YtkegjgodjigjfaaAuM6
namespace Go.Proofs.Ytkegjgodjigjfaa
open Go Go.RowKit
set_option linter.unusedVariables false
set_option linter.unusedSimpArgs false
set_option maxHeartbeats 400000
theorem Db (s:ByteArray) (k:Nat):Je s k=A6 s k:=rfl
theorem Nk {s:ByteArray} (h:¬ s.size=0):¬ s=⟨#[]⟩:=fun e=>h (by rw [e];rfl)
theorem LW {s:ByteArray} (h:s.size=0):s=⟨#[]⟩:=by
 have:=ByteArray.size_eq_zero_iff.1 h
 exact this
theorem Ue (n:Int) (h0:0≤n):AU Try.prog 86 [.one (.st (.int .u8 n))] (Ag (BZ n)):=by
 refine LN.ac fun C hC=>?_
 unfold F1
 have hc:(97≤n∧n≤122) ∨ (122 < n) ∨ (n < 97∧65≤n∧n≤90) ∨ (n < 97∧90 < n) ∨ (n < 65∧48≤n∧n≤57) ∨ (n < 65∧57 < n) ∨ (n < 48):=by omega
 rcases hc with h | h | h | h | h | h | h
 ·have h1:97≤n:=h.1
  have h2:n≤122:=h.2
  repeat' with_reducible first | refine W ?_ | refine Z0 ?_ | ((first | refine Wo fun K hK=>?_ | refine Wq ?_ | refine Wr ?_);(try simp only [go_sem,fN,seval,eT,iR,h1,h2]);(repeat refine Ai ?_);(try (refine hK _ ?_;clear hK K)))
  simp only [go_sem,fN,seval,AP,AS.result,AH,AI,AN,BZ,h1,h2]
  try simp
 ·have h1:97≤n:=by omega
  have h2:¬ n≤122:=by omega
  have h3:65≤n:=by omega
  have h4:¬ n≤90:=by omega
  have h5:48≤n:=by omega
  have h6:¬ n≤57:=by omega
  repeat' with_reducible first | refine W ?_ | refine Z0 ?_ | ((first | refine Wo fun K hK=>?_ | refine Wq ?_ | refine Wr ?_);(try simp only [go_sem,fN,seval,eT,iR,h1,h2,h3,h4,h5,h6]);(repeat refine Ai ?_);(try (refine hK _ ?_;clear hK K)))
  simp only [go_sem,fN,seval,AP,AS.result,AH,AI,AN,BZ,h1,h2,h3,h4,h5,h6]
  try simp
 ·have h1:¬ 97≤n:=by omega
  have h3:65≤n:=by omega
  have h4:n≤90:=by omega
  repeat' with_reducible first | refine W ?_ | refine Z0 ?_ | ((first | refine Wo fun K hK=>?_ | refine Wq ?_ | refine Wr ?_);(try simp only [go_sem,fN,seval,eT,iR,h1,h3,h4]);(repeat refine Ai ?_);(try (refine hK _ ?_;clear hK K)))
  simp only [go_sem,fN,seval,AP,AS.result,AH,AI,AN,BZ,h1,h3,h4]
  try simp
 ·have h1:¬ 97≤n:=by omega
  have h3:65≤n:=by omega
  have h4:¬ n≤90:=by omega
  have h5:48≤n:=by omega
  have h6:¬ n≤57:=by omega
  repeat' with_reducible first | refine W ?_ | refine Z0 ?_ | ((first | refine Wo fun K hK=>?_ | refine Wq ?_ | refine Wr ?_);(try simp only [go_sem,fN,seval,eT,iR,h1,h3,h4,h5,h6]);(repeat refine Ai ?_);(try (refine hK _ ?_;clear hK K)))
  simp only [go_sem,fN,seval,AP,AS.result,AH,AI,AN,BZ,h1,h3,h4,h5,h6]
  try simp
 ·have h1:¬ 97≤n:=by omega
  have h3:¬ 65≤n:=by omega
  have h5:48≤n:=by omega
  have h6:n≤57:=by omega
  repeat' with_reducible first | refine W ?_ | refine Z0 ?_ | ((first | refine Wo fun K hK=>?_ | refine Wq ?_ | refine Wr ?_);(try simp only [go_sem,fN,seval,eT,iR,h1,h3,h5,h6]);(repeat refine Ai ?_);(try (refine hK _ ?_;clear hK K)))
  simp only [go_sem,fN,seval,AP,AS.result,AH,AI,AN,BZ,h1,h3,h5,h6]
  try simp
 ·have h1:¬ 97≤n:=by omega
  have h3:¬ 65≤n:=by omega
  have h5:48≤n:=by omega
  have h6:¬ n≤57:=by omega
  repeat' with_reducible first | refine W ?_ | refine Z0 ?_ | ((first | refine Wo fun K hK=>?_ | refine Wq ?_ | refine Wr ?_);(try simp only [go_sem,fN,seval,eT,iR,h1,h3,h5,h6]);(repeat refine Ai ?_);(try (refine hK _ ?_;clear hK K)))
  simp only [go_sem,fN,seval,AP,AS.result,AH,AI,AN,BZ,h1,h3,h5,h6]
  try simp
 ·have h1:¬ 97≤n:=by omega
  have h3:¬ 65≤n:=by omega
  have h5:¬ 48≤n:=by omega
  repeat' with_reducible first | refine W ?_ | refine Z0 ?_ | ((first | refine Wo fun K hK=>?_ | refine Wq ?_ | refine Wr ?_);(try simp only [go_sem,fN,seval,eT,iR,h1,h3,h5]);(repeat refine Ai ?_);(try (refine hK _ ?_;clear hK K)))
  simp only [go_sem,fN,seval,AP,AS.result,AH,AI,AN,BZ,h1,h3,h5]
  try simp
theorem Rm (n:Int) (h0:0≤n):AU Try.prog 50 [.one (.st (.int .u8 n))] (Ag (BZ n)):=by
 refine L7.ac fun C hC=>?_
 unfold Gz
 have hc:(97≤n∧n≤122) ∨ (122 < n) ∨ (n < 97∧65≤n∧n≤90) ∨ (n < 97∧90 < n) ∨ (n < 65∧48≤n∧n≤57) ∨ (n < 65∧57 < n) ∨ (n < 48):=by omega
 rcases hc with h | h | h | h | h | h | h
 ·have h1:97≤n:=h.1
  have h2:n≤122:=h.2
  repeat' with_reducible first | refine W ?_ | refine Z0 ?_ | ((first | refine Wo fun K hK=>?_ | refine Wq ?_ | refine Wr ?_);(try simp only [go_sem,fN,seval,eT,iR,h1,h2]);(repeat refine Ai ?_);(try (refine hK _ ?_;clear hK K)))
  simp only [go_sem,fN,seval,AP,AS.result,AH,AI,AN,BZ,h1,h2]
  try simp
 ·have h1:97≤n:=by omega
  have h2:¬ n≤122:=by omega
  have h3:65≤n:=by omega
  have h4:¬ n≤90:=by omega
  have h5:48≤n:=by omega
  have h6:¬ n≤57:=by omega
  repeat' with_reducible first | refine W ?_ | refine Z0 ?_ | ((first | refine Wo fun K hK=>?_ | refine Wq ?_ | refine Wr ?_);(try simp only [go_sem,fN,seval,eT,iR,h1,h2,h3,h4,h5,h6]);(repeat refine Ai ?_);(try (refine hK _ ?_;clear hK K)))
  simp only [go_sem,fN,seval,AP,AS.result,AH,AI,AN,BZ,h1,h2,h3,h4,h5,h6]
  try simp
 ·have h1:¬ 97≤n:=by omega
  have h3:65≤n:=by omega
  have h4:n≤90:=by omega
  repeat' with_reducible first | refine W ?_ | refine Z0 ?_ | ((first | refine Wo fun K hK=>?_ | refine Wq ?_ | refine Wr ?_);(try simp only [go_sem,fN,seval,eT,iR,h1,h3,h4]);(repeat refine Ai ?_);(try (refine hK _ ?_;clear hK K)))
  simp only [go_sem,fN,seval,AP,AS.result,AH,AI,AN,BZ,h1,h3,h4]
  try simp
 ·have h1:¬ 97≤n:=by omega
  have h3:65≤n:=by omega
  have h4:¬ n≤90:=by omega
  have h5:48≤n:=by omega
  have h6:¬ n≤57:=by omega
  repeat' with_reducible first | refine W ?_ | refine Z0 ?_ | ((first | refine Wo fun K hK=>?_ | refine Wq ?_ | refine Wr ?_);(try simp only [go_sem,fN,seval,eT,iR,h1,h3,h4,h5,h6]);(repeat refine Ai ?_);(try (refine hK _ ?_;clear hK K)))
  simp only [go_sem,fN,seval,AP,AS.result,AH,AI,AN,BZ,h1,h3,h4,h5,h6]
  try simp
 ·have h1:¬ 97≤n:=by omega
  have h3:¬ 65≤n:=by omega
  have h5:48≤n:=by omega
  have h6:n≤57:=by omega
  repeat' with_reducible first | refine W ?_ | refine Z0 ?_ | ((first | refine Wo fun K hK=>?_ | refine Wq ?_ | refine Wr ?_);(try simp only [go_sem,fN,seval,eT,iR,h1,h3,h5,h6]);(repeat refine Ai ?_);(try (refine hK _ ?_;clear hK K)))
  simp only [go_sem,fN,seval,AP,AS.result,AH,AI,AN,BZ,h1,h3,h5,h6]
  try simp
 ·have h1:¬ 97≤n:=by omega
  have h3:¬ 65≤n:=by omega
  have h5:48≤n:=by omega
  have h6:¬ n≤57:=by omega
  repeat' with_reducible first | refine W ?_ | refine Z0 ?_ | ((first | refine Wo fun K hK=>?_ | refine Wq ?_ | refine Wr ?_);(try simp only [go_sem,fN,seval,eT,iR,h1,h3,h5,h6]);(repeat refine Ai ?_);(try (refine hK _ ?_;clear hK K)))
  simp only [go_sem,fN,seval,AP,AS.result,AH,AI,AN,BZ,h1,h3,h5,h6]
  try simp
 ·have h1:¬ 97≤n:=by omega
  have h3:¬ 65≤n:=by omega
  have h5:¬ 48≤n:=by omega
  repeat' with_reducible first | refine W ?_ | refine Z0 ?_ | ((first | refine Wo fun K hK=>?_ | refine Wq ?_ | refine Wr ?_);(try simp only [go_sem,fN,seval,eT,iR,h1,h3,h5]);(repeat refine Ai ?_);(try (refine hK _ ?_;clear hK K)))
  simp only [go_sem,fN,seval,AP,AS.result,AH,AI,AN,BZ,h1,h3,h5]
  try simp
theorem D_ (s:ByteArray):AU Try.prog 70 [Da s] (Ag (BH s)):=by
 by_cases h0:s.size=0
 ·have:=LW h0
  subst this
  refine E4.ac fun C hC=>?_
  unfold DU
  repeat' with_reducible first | refine W ?_ | refine Z0 ?_ | ((first | refine Wo fun K hK=>?_ | refine Wq ?_ | refine Wr ?_);(try simp only [go_sem,fN,seval,eT,iR]);(repeat refine Ai ?_);(try (refine hK _ ?_;clear hK K)))
  simp only [go_sem,fN,seval,AP,AS.result,AH,AI,AN]
  rfl
 ·have h1:=Nk h0
  have h2:0 < s.size:=by omega
  refine E4.ac fun C hC=>?_
  unfold DU
  by_cases h3:65≤A6 s 0 <;> by_cases h4:A6 s 0≤90
  all_goals
   repeat' with_reducible first | refine W ?_ | refine Z0 ?_ | ((first | refine Wo fun K hK=>?_ | refine Wq ?_ | refine Wr ?_);(try simp only [go_sem,fN,seval,eT,iR,h1,h2,Db,h3,h4]);(repeat refine Ai ?_);(try (refine hK _ ?_;clear hK K)))
   simp only [go_sem,fN,seval,AP,AS.result,AH,AI,AN,BH,h3,h4,h2]
   try simp
theorem Ip (s:ByteArray):AU Try.prog 23 [Da s] (Ag (BH s)):=by
 by_cases h0:s.size=0
 ·have:=LW h0
  subst this
  refine Ls.ac fun C hC=>?_
  unfold HT
  repeat' with_reducible first | refine W ?_ | refine Z0 ?_ | ((first | refine Wo fun K hK=>?_ | refine Wq ?_ | refine Wr ?_);(try simp only [go_sem,fN,seval,eT,iR]);(repeat refine Ai ?_);(try (refine hK _ ?_;clear hK K)))
  simp only [go_sem,fN,seval,AP,AS.result,AH,AI,AN]
  rfl
 ·have h1:=Nk h0
  have h2:0 < s.size:=by omega
  refine Ls.ac fun C hC=>?_
  unfold HT
  by_cases h3:65≤A6 s 0 <;> by_cases h4:A6 s 0≤90
  all_goals
   repeat' with_reducible first | refine W ?_ | refine Z0 ?_ | ((first | refine Wo fun K hK=>?_ | refine Wq ?_ | refine Wr ?_);(try simp only [go_sem,fN,seval,eT,iR,h1,h2,Db,h3,h4]);(repeat refine Ai ?_);(try (refine hK _ ?_;clear hK K)))
   simp only [go_sem,fN,seval,AP,AS.result,AH,AI,AN,BH,h3,h4,h2]
   try simp
theorem NT (s:ByteArray) (h1:1≤s.size) (h8:s.size≤8) (hd:¬ (48≤A6 s 0∧A6 s 0≤57)):Az s=CX s s.size:=by
 unfold Az
 have:(decide (48≤A6 s 0) && decide (A6 s 0≤57))=false:=by
  rw [Bool.and_eq_false_iff]
  simp
  omega
 rw [this]
 simp [h1,h8]
theorem Kc (s:ByteArray):AU Try.prog 69 [Da s] (Ag (Az s)):=by
 by_cases h0:s.size < 1
 ·have e:Az s=false:=by simp [Az];omega
  rw [e]
  have h0':(s.size:Int) < 1:=by omega
  refine Dz.ac fun C hC=>?_
  unfold C7
  repeat' with_reducible first | refine W ?_ | refine Z0 ?_ | ((first | refine Wo fun K hK=>?_ | refine Wq ?_ | refine Wr ?_);(try simp only [go_sem,fN,seval,eT,iR,h0']);(repeat refine Ai ?_);(try (refine hK _ ?_;clear hK K)))
  with_reducible refine Wp ?_
  simp only [go_sem,fN,seval,true_implies,false_implies,implies_true,dT,dF,nL,h0']
  (try with_reducible refine iC ?_)
  repeat' with_reducible first | refine W ?_ | refine Z0 ?_ | ((first | refine Wo fun K hK=>?_ | refine Wq ?_ | refine Wr ?_);(try simp only [go_sem,fN,seval,eT,iR]);(repeat refine Ai ?_);(try (refine hK _ ?_;clear hK K)))
  simp only [go_sem,fN,seval,AP,AS.result,AH,AI,AN]
 have h0':¬ (s.size:Int) < 1:=by omega
 by_cases h8:8 < s.size
 ·have e:Az s=false:=by simp [Az];omega
  rw [e]
  have h8':(8:Int) < s.size:=by omega
  refine Dz.ac fun C hC=>?_
  unfold C7
  repeat' with_reducible first | refine W ?_ | refine Z0 ?_ | ((first | refine Wo fun K hK=>?_ | refine Wq ?_ | refine Wr ?_);(try simp only [go_sem,fN,seval,eT,iR,h0',h8']);(repeat refine Ai ?_);(try (refine hK _ ?_;clear hK K)))
  with_reducible refine Wp ?_
  simp only [go_sem,fN,seval,true_implies,false_implies,implies_true,dT,dF,nL,h0']
  (try with_reducible refine iC ?_)
  repeat' with_reducible first | refine W ?_ | refine Z0 ?_ | ((first | refine Wo fun K hK=>?_ | refine Wq ?_ | refine Wr ?_);(try simp only [go_sem,fN,seval,eT,iR]);(repeat refine Ai ?_);(try (refine hK _ ?_;clear hK K)))
  simp only [go_sem,fN,seval,AP,AS.result,AH,AI,AN]
 have h8':¬ (8:Int) < s.size:=by omega
 have hpos:0 < s.size:=by omega
 by_cases hd:48≤A6 s 0∧A6 s 0≤57
 ·have e:Az s=false:=by simp [Az,hd.1,hd.2]
  rw [e]
  refine Dz.ac fun C hC=>?_
  unfold C7
  repeat' with_reducible first | refine W ?_ | refine Z0 ?_ | ((first | refine Wo fun K hK=>?_ | refine Wq ?_ | refine Wr ?_);(try simp only [go_sem,fN,seval,eT,iR,h0',h8',hpos,Db,hd.1,hd.2]);(repeat refine Ai ?_);(try (refine hK _ ?_;clear hK K)))
  with_reducible refine Wp ?_
  simp only [go_sem,fN,seval,true_implies,false_implies,implies_true,dT,dF,nL,h0']
  (try with_reducible refine iC ?_)
  repeat' with_reducible first | refine W ?_ | refine Z0 ?_ | ((first | refine Wo fun K hK=>?_ | refine Wq ?_ | refine Wr ?_);(try simp only [go_sem,fN,seval,eT,iR]);(repeat refine Ai ?_);(try (refine hK _ ?_;clear hK K)))
  simp only [go_sem,fN,seval,AP,AS.result,AH,AI,AN]
 rw [NT s (by omega) (by omega) hd]
 have hd2:(48≤A6 s 0∧¬ A6 s 0≤57) ∨ (¬ 48≤A6 s 0):=by omega
 refine Dz.ac fun C hC=>?_
 unfold C7
 have h57:48≤A6 s 0→¬ A6 s 0≤57:=fun h h'=>hd ⟨h,h'⟩
 by_cases h48:48≤A6 s 0
 all_goals
  simp only [h48,true_implies,false_implies] at h57
  repeat' with_reducible first | refine W ?_ | refine Z0 ?_ | ((first | refine Wo fun K hK=>?_ | refine Wq ?_ | refine Wr ?_);(try simp only [go_sem,fN,seval,eT,iR,h0',h8',hpos,Db,h48,h57]);(repeat refine Ai ?_);(try (refine hK _ ?_;clear hK K)))
  with_reducible refine Wp ?_
  simp only [go_sem,fN,seval,true_implies,false_implies,implies_true,dT,dF,nL,h0']
  (try with_reducible refine iC ?_)
  repeat' with_reducible first | refine W ?_ | refine Z0 ?_ | ((first | refine Wo fun K hK=>?_ | refine Wq ?_ | refine Wr ?_);(try simp only [go_sem,fN,seval,eT,iR]);(repeat refine Ai ?_);(try (refine hK _ ?_;clear hK K)))
  refine IWP.loop (fun m x=>∃ k,k≤s.size∧m=s.size - k∧CX s k=true∧x.env 0=Da s∧x.env 23=AK s.size∧x.env 24=AK k) s.size ⟨0,Nat.zero_le _,rfl,rfl,rfl,rfl,rfl⟩ ?_
  rintro m ⟨env,S⟩ ⟨k,hk,rfl,hl,e0,e23,e24⟩
  simp only at e0 e23 e24
  repeat' with_reducible first | refine W ?_ | refine Z0 ?_ | ((first | refine Wo fun K hK=>?_ | refine Wq ?_ | refine Wr ?_);(try simp only [go_sem,fN,seval,eT,iR,e0,e23,e24]);(repeat refine Ai ?_);(try (refine hK _ ?_;clear hK K)))
  with_reducible refine Wp ?_
  simp only [go_sem,fN,seval,true_implies,false_implies,implies_true,dT,dF,nL,e0,e23,e24]
  (try with_reducible refine iC ?_)
  refine ⟨fun hlt=>?_,fun hge=>?_⟩
  ·have hlt':k < s.size:=by omega
   repeat' (first | (with_reducible first | refine W ?_ | refine Z0 ?_ | ((first | refine Wo fun K hK=>?_ | refine Wq ?_ | refine Wr ?_);(try simp only [go_sem,fN,seval,eT,iR,e0,e23,e24,hlt',Db]);(repeat refine Ai ?_);(try (refine hK _ ?_;clear hK K)))) | refine Cg _ (Ue _ (IK s k).1) ?_)
   with_reducible refine Wp ?_
   simp only [go_sem,fN,seval,true_implies,false_implies,implies_true,dT,dF,nL]
   (try with_reducible refine iC ?_)
   refine ⟨fun hn=>?_,fun hn=>?_⟩
   ·repeat' with_reducible first | refine W ?_ | refine Z0 ?_ | ((first | refine Wo fun K hK=>?_ | refine Wq ?_ | refine Wr ?_);(try simp only [go_sem,fN,seval,eT,iR]);(repeat refine Ai ?_);(try (refine hK _ ?_;clear hK K)))
    simp only [go_sem,fN,seval,AP,AS.result,AH,AI,AN]
    rw [Hy s k hlt' (by simpa using hn)]
   ·repeat' with_reducible first | refine W ?_ | refine Z0 ?_ | ((first | refine Wo fun K hK=>?_ | refine Wq ?_ | refine Wr ?_);(try simp only [go_sem,fN,seval,eT,iR,e0,e23,e24]);(repeat refine Ai ?_);(try (refine hK _ ?_;clear hK K)))
    refine AA ⟨s.size - (k + 1),by omega,k + 1,by omega,rfl,?_,?_⟩
    ·rw [GE s k hlt',hl]
     simpa using hn
    ·simp only [go_sem,fN,seval,eT,iR,e0,e23,e24]
     congr 3
  ·repeat' with_reducible first | refine W ?_ | refine Z0 ?_ | ((first | refine Wo fun K hK=>?_ | refine Wq ?_ | refine Wr ?_);(try simp only [go_sem,fN,seval,eT,iR]);(repeat refine Ai ?_);(try (refine hK _ ?_;clear hK K)))
   simp only [go_sem,fN,seval,AP,AS.result,AH,AI,AN]
   rw [show s.size=k by omega,hl]
theorem F6 (s:ByteArray):AU Try.prog 22 [Da s] (Ag (Az s)):=by
 by_cases h0:s.size < 1
 ·have e:Az s=false:=by simp [Az];omega
  rw [e]
  have h0':s=⟨#[]⟩:=LW (by omega)
  subst h0'
  refine El.ac fun C hC=>?_
  unfold DZ
  repeat' with_reducible first | refine W ?_ | refine Z0 ?_ | ((first | refine Wo fun K hK=>?_ | refine Wq ?_ | refine Wr ?_);(try simp only [go_sem,fN,seval,eT,iR]);(repeat refine Ai ?_);(try (refine hK _ ?_;clear hK K)))
  with_reducible refine Wp ?_
  simp only [go_sem,fN,seval,true_implies,false_implies,implies_true,dT,dF,nL]
  (try with_reducible refine iC ?_)
  repeat' with_reducible first | refine W ?_ | refine Z0 ?_ | ((first | refine Wo fun K hK=>?_ | refine Wq ?_ | refine Wr ?_);(try simp only [go_sem,fN,seval,eT,iR]);(repeat refine Ai ?_);(try (refine hK _ ?_;clear hK K)))
  simp only [go_sem,fN,seval,AP,AS.result,AH,AI,AN]
 have h0':¬ s=⟨#[]⟩:=Nk (by omega)
 by_cases h8:8 < s.size
 ·have e:Az s=false:=by simp [Az];omega
  rw [e]
  have h8':(8:Int) < s.size:=by omega
  refine El.ac fun C hC=>?_
  unfold DZ
  repeat' with_reducible first | refine W ?_ | refine Z0 ?_ | ((first | refine Wo fun K hK=>?_ | refine Wq ?_ | refine Wr ?_);(try simp only [go_sem,fN,seval,eT,iR,h0',h8']);(repeat refine Ai ?_);(try (refine hK _ ?_;clear hK K)))
  with_reducible refine Wp ?_
  simp only [go_sem,fN,seval,true_implies,false_implies,implies_true,dT,dF,nL,h0']
  (try with_reducible refine iC ?_)
  repeat' with_reducible first | refine W ?_ | refine Z0 ?_ | ((first | refine Wo fun K hK=>?_ | refine Wq ?_ | refine Wr ?_);(try simp only [go_sem,fN,seval,eT,iR]);(repeat refine Ai ?_);(try (refine hK _ ?_;clear hK K)))
  simp only [go_sem,fN,seval,AP,AS.result,AH,AI,AN]
 have h8':¬ (8:Int) < s.size:=by omega
 have hpos:0 < s.size:=by omega
 by_cases hd:48≤A6 s 0∧A6 s 0≤57
 ·have e:Az s=false:=by simp [Az,hd.1,hd.2]
  rw [e]
  refine El.ac fun C hC=>?_
  unfold DZ
  repeat' with_reducible first | refine W ?_ | refine Z0 ?_ | ((first | refine Wo fun K hK=>?_ | refine Wq ?_ | refine Wr ?_);(try simp only [go_sem,fN,seval,eT,iR,h0',h8',hpos,Db,hd.1,hd.2]);(repeat refine Ai ?_);(try (refine hK _ ?_;clear hK K)))
  with_reducible refine Wp ?_
  simp only [go_sem,fN,seval,true_implies,false_implies,implies_true,dT,dF,nL,h0']
  (try with_reducible refine iC ?_)
  repeat' with_reducible first | refine W ?_ | refine Z0 ?_ | ((first | refine Wo fun K hK=>?_ | refine Wq ?_ | refine Wr ?_);(try simp only [go_sem,fN,seval,eT,iR]);(repeat refine Ai ?_);(try (refine hK _ ?_;clear hK K)))
  simp only [go_sem,fN,seval,AP,AS.result,AH,AI,AN]
 rw [NT s (by omega) (by omega) hd]
 refine El.ac fun C hC=>?_
 unfold DZ
 have h57:48≤A6 s 0→¬ A6 s 0≤57:=fun h h'=>hd ⟨h,h'⟩
 by_cases h48:48≤A6 s 0
 all_goals
  simp only [h48,true_implies,false_implies] at h57
  repeat' with_reducible first | refine W ?_ | refine Z0 ?_ | ((first | refine Wo fun K hK=>?_ | refine Wq ?_ | refine Wr ?_);(try simp only [go_sem,fN,seval,eT,iR,h0',h8',hpos,Db,h48,h57]);(repeat refine Ai ?_);(try (refine hK _ ?_;clear hK K)))
  with_reducible refine Wp ?_
  simp only [go_sem,fN,seval,true_implies,false_implies,implies_true,dT,dF,nL,h0']
  (try with_reducible refine iC ?_)
  repeat' with_reducible first | refine W ?_ | refine Z0 ?_ | ((first | refine Wo fun K hK=>?_ | refine Wq ?_ | refine Wr ?_);(try simp only [go_sem,fN,seval,eT,iR]);(repeat refine Ai ?_);(try (refine hK _ ?_;clear hK K)))
  refine IWP.loop (fun m x=>∃ k,k≤s.size∧m=s.size - k∧CX s k=true∧x.env 0=Da s∧x.env 3=AK k) s.size ⟨0,Nat.zero_le _,rfl,rfl,rfl,rfl⟩ ?_
  rintro m ⟨env,S⟩ ⟨k,hk,rfl,hl,e0,e3⟩
  simp only at e0 e3
  repeat' with_reducible first | refine W ?_ | refine Z0 ?_ | ((first | refine Wo fun K hK=>?_ | refine Wq ?_ | refine Wr ?_);(try simp only [go_sem,fN,seval,eT,iR,e0,e3]);(repeat refine Ai ?_);(try (refine hK _ ?_;clear hK K)))
  with_reducible refine Wp ?_
  simp only [go_sem,fN,seval,true_implies,false_implies,implies_true,dT,dF,nL,e0,e3]
  (try with_reducible refine iC ?_)
  refine ⟨fun hlt=>?_,fun hge=>?_⟩
  ·have hlt':k < s.size:=by omega
   repeat' (first | (with_reducible first | refine W ?_ | refine Z0 ?_ | ((first | refine Wo fun K hK=>?_ | refine Wq ?_ | refine Wr ?_);(try simp only [go_sem,fN,seval,eT,iR,e0,e3,hlt',Db]);(repeat refine Ai ?_);(try (refine hK _ ?_;clear hK K)))) | refine Cg _ (Rm _ (IK s k).1) ?_)
   with_reducible refine Wp ?_
   simp only [go_sem,fN,seval,true_implies,false_implies,implies_true,dT,dF,nL]
   (try with_reducible refine iC ?_)
   refine ⟨fun hn=>?_,fun hn=>?_⟩
   ·repeat' with_reducible first | refine W ?_ | refine Z0 ?_ | ((first | refine Wo fun K hK=>?_ | refine Wq ?_ | refine Wr ?_);(try simp only [go_sem,fN,seval,eT,iR]);(repeat refine Ai ?_);(try (refine hK _ ?_;clear hK K)))
    simp only [go_sem,fN,seval,AP,AS.result,AH,AI,AN]
    rw [Hy s k hlt' (by simpa using hn)]
   ·repeat' with_reducible first | refine W ?_ | refine Z0 ?_ | ((first | refine Wo fun K hK=>?_ | refine Wq ?_ | refine Wr ?_);(try simp only [go_sem,fN,seval,eT,iR,e0,e3]);(repeat refine Ai ?_);(try (refine hK _ ?_;clear hK K)))
    refine AA ⟨s.size - (k + 1),by omega,k + 1,by omega,rfl,?_,?_⟩
    ·rw [GE s k hlt',hl]
     simpa using hn
    ·simp only [go_sem,fN,seval,eT,iR,e0,e3]
     congr 3
  ·repeat' with_reducible first | refine W ?_ | refine Z0 ?_ | ((first | refine Wo fun K hK=>?_ | refine Wq ?_ | refine Wr ?_);(try simp only [go_sem,fN,seval,eT,iR]);(repeat refine Ai ?_);(try (refine hK _ ?_;clear hK K)))
   simp only [go_sem,fN,seval,AP,AS.result,AH,AI,AN]
   rw [show s.size=k by omega,hl]
theorem VG (t:Tm) (m:Int) (h0:0≤m) (h1:m≤9223372036854775807):AU Try.prog 64 [aTm t,AK m] (AK (CL t.size m)):=by
 induction h:SizeOf.sizeOf t using Nat.strongRecOn generalizing t m with
 | _ N ih =>
 subst h
 have hs:=Tm.size_eq t
 refine K6.ac fun C hC=>?_
 unfold F0
 refine IWP.learn 0 (by omega) fun hkn=>?_
 have hkn:=Il hkn
 repeat' with_reducible first | refine W ?_ | refine Z0 ?_ | ((first | refine Wo fun K hK=>?_ | refine Wq ?_ | refine Wr ?_);(try simp only [go_sem,fN,seval,eT,iR]);(repeat refine Ai ?_);(try (refine hK _ ?_;clear hK K)))
 refine IWP.loopD [6] (fun n s=>∃ k,k≤t.args.length∧n=t.args.length - k∧s.env 1=AK (CL (1 + Tm.sizes (t.args.take k)) m)∧s.env 10=.one (.st (.list (t.args.map A_)))∧s.env 11=AK t.args.length∧s.env 12=AK k∧s.S 6=none) t.args.length ⟨0,Nat.zero_le _,rfl,by
  simp only [go_sem,fN,seval,eT,iR]
  rw [CL]
  have z0:Tm.sizes []=0:=rfl
  congr 3
  split <;> omega,rfl,rfl,rfl,rfl⟩ ?_
 rintro n ⟨env,S⟩ ⟨k,hk,rfl,e1,e10,e11,e12,s6⟩
 simp only at e1 e10 e11 e12 s6
 repeat' with_reducible first | refine W ?_ | refine Z0 ?_ | ((first | refine Wo fun K hK=>?_ | refine Wq ?_ | refine Wr ?_);(try simp only [go_sem,fN,seval,eT,iR,e1,e10,e11,e12,s6]);(repeat refine Ai ?_);(try (refine hK _ ?_;clear hK K)))
 with_reducible refine Wp ?_
 simp only [go_sem,fN,seval,true_implies,false_implies,implies_true,dT,dF,nL,e1,e10,e11,e12,s6]
 (try with_reducible refine iC ?_)
 refine ⟨fun hlt=>?_,fun hge=>?_⟩
 ·obtain ⟨a,ha⟩:=Ab (show k < t.args.length by omega)
  have z1:=Tm.sizes_take ha
  have z2:=Tm.sizes_take_le t.args (k + 1)
  have z3:=Tm.length_le t.args
  have z4:=So (1 + Tm.sizes (t.args.take k)) m h0
  repeat' with_reducible first | refine W ?_ | refine Z0 ?_ | ((first | refine Wo fun K hK=>?_ | refine Wq ?_ | refine Wr ?_);(try simp only [go_sem,fN,seval,eT,iR,e1,e10,e11,e12,s6,ha]);(repeat refine Ai ?_);(try (refine hK _ ?_;clear hK K)))
  with_reducible refine Wp ?_
  simp only [go_sem,fN,seval,true_implies,false_implies,implies_true,dT,dF,nL,e1]
  (try with_reducible refine iC ?_)
  refine ⟨fun hb=>?_,fun hb=>?_⟩
  ·repeat' with_reducible first | refine W ?_ | refine Z0 ?_ | ((first | refine Wo fun K hK=>?_ | refine Wq ?_ | refine Wr ?_);(try simp only [go_sem,fN,seval,eT,iR,e1]);(repeat refine Ai ?_);(try (refine hK _ ?_;clear hK K)))
   simp only [go_sem,fN,seval,AP,AS.result,AH,AI,AN,e1]
   rw [Rj hb (show _≤t.size by rw [hs];omega)]
  ·repeat' (first | (with_reducible first | refine W ?_ | refine Z0 ?_ | ((first | refine Wo fun K hK=>?_ | refine Wq ?_ | refine Wr ?_);(try simp only [go_sem,fN,seval,eT,iR,e1,e10,e11,e12,s6,ha]);(repeat refine Ai ?_);(try (refine hK _ ?_;clear hK K)))) | refine Cg _ (ih _ (Tm.lt_of_arg (AM ha)) a _ (by omega) (by omega) rfl) ?_)
   refine AA ⟨t.args.length - (k + 1),by omega,k + 1,by omega,rfl,?_⟩
   simp only [go_sem,fN,seval,AS.drop,AY,AC.clears,AC.clear,AC.highs,AC.high,Bool.not_false,Bool.true_and,Bool.and_self,AV.purge,AV.purges,AC.purge,AL.purge,List.contains_cons,List.contains_nil,Nat.reduceBEq,Bool.or_self,Bool.or_false,Bool.false_or,Bool.or_true,eT,iR,e1,e10,e11,e12,s6]
   exact ⟨by rw [O1 (by omega),z1];congr 4;omega,by congr 3⟩
 ·repeat' with_reducible first | refine W ?_ | refine Z0 ?_ | ((first | refine Wo fun K hK=>?_ | refine Wq ?_ | refine Wr ?_);(try simp only [go_sem,fN,seval,eT,iR,e1]);(repeat refine Ai ?_);(try (refine hK _ ?_;clear hK K)))
  simp only [go_sem,fN,seval,AP,AS.result,AH,AI,AN,e1]
  rw [List.take_of_length_le (by omega),hs]
theorem Dv (t:Tm) (m:Int) (h0:0≤m) (h1:m≤9223372036854775806):AU Try.prog 45 [aTm t,AK m] (AK (BO t.size m)):=by
 induction h:SizeOf.sizeOf t using Nat.strongRecOn generalizing t m with
 | _ N ih =>
 subst h
 have hs:=Tm.size_eq t
 refine TB.ac fun C hC=>?_
 unfold NA
 refine IWP.learn 0 (by omega) fun hkn=>?_
 have hkn:=Il hkn
 repeat' with_reducible first | refine W ?_ | refine Z0 ?_ | ((first | refine Wo fun K hK=>?_ | refine Wq ?_ | refine Wr ?_);(try simp only [go_sem,fN,seval,eT,iR]);(repeat refine Ai ?_);(try (refine hK _ ?_;clear hK K)))
 refine IWP.loop (fun n s=>∃ k,k≤t.args.length∧n=t.args.length - k∧s.env 5=AK (BO (1 + Tm.sizes (t.args.take k)) m)∧s.env 1=AK m∧s.env 2=.one (.ptr 2 1 0 0)∧s.env 6=AK k∧s.S 2=some (.box 39 [.st (.str t.name),.st (.list (t.args.map A_))])) t.args.length ⟨0,Nat.zero_le _,rfl,by
  simp only [go_sem,fN,seval,eT,iR]
  rw [BO]
  have z0:Tm.sizes []=0:=rfl
  congr 3
  split <;> omega,rfl,rfl,rfl,rfl⟩ ?_
 rintro n ⟨env,S⟩ ⟨k,hk,rfl,e5,e1,e2,e6,s2⟩
 simp only at e5 e1 e2 e6 s2
 have z4:=Pi (1 + Tm.sizes (t.args.take k)) m h0
 by_cases hlt:(k:Int) < t.args.length
 ·obtain ⟨a,ha⟩:=Ab (show k < t.args.length by omega)
  have z1:=Tm.sizes_take ha
  have z2:=Tm.sizes_take_le t.args (k + 1)
  by_cases hb:m < BO (1 + Tm.sizes (t.args.take k)) m
  ·have hb':¬ BO (1 + Tm.sizes (t.args.take k)) m≤m:=by omega
   repeat' with_reducible first | refine W ?_ | refine Z0 ?_ | ((first | refine Wo fun K hK=>?_ | refine Wq ?_ | refine Wr ?_);(try simp only [go_sem,fN,seval,eT,iR,e5,e1,e2,e6,s2,hlt,hb']);(repeat refine Ai ?_);(try (refine hK _ ?_;clear hK K)))
   with_reducible refine Wp ?_
   simp only [go_sem,fN,seval,true_implies,false_implies,implies_true,dT,dF,nL,hb']
   (try with_reducible refine iC ?_)
   repeat' with_reducible first | refine W ?_ | refine Z0 ?_ | ((first | refine Wo fun K hK=>?_ | refine Wq ?_ | refine Wr ?_);(try simp only [go_sem,fN,seval,eT,iR,e5,e1,e2,e6,s2]);(repeat refine Ai ?_);(try (refine hK _ ?_;clear hK K)))
   with_reducible refine Wp ?_
   simp only [go_sem,fN,seval,true_implies,false_implies,implies_true,dT,dF,nL,hb]
   (try with_reducible refine iC ?_)
   repeat' with_reducible first | refine W ?_ | refine Z0 ?_ | ((first | refine Wo fun K hK=>?_ | refine Wq ?_ | refine Wr ?_);(try simp only [go_sem,fN,seval,eT,iR,e1]);(repeat refine Ai ?_);(try (refine hK _ ?_;clear hK K)))
   simp only [go_sem,fN,seval,AP,AS.result,AH,AI,AN]
   rw [K4 hb (show _≤t.size by rw [hs];omega)]
  ·have hb':BO (1 + Tm.sizes (t.args.take k)) m≤m:=by omega
   obtain ⟨b1,b2⟩:=Pk hb
   repeat' with_reducible first | refine W ?_ | refine Z0 ?_ | ((first | refine Wo fun K hK=>?_ | refine Wq ?_ | refine Wr ?_);(try simp only [go_sem,fN,seval,eT,iR,e5,e1,e2,e6,s2,hlt,hb']);(repeat refine Ai ?_);(try (refine hK _ ?_;clear hK K)))
   with_reducible refine Wp ?_
   simp only [go_sem,fN,seval,true_implies,false_implies,implies_true,dT,dF,nL,hb']
   (try with_reducible refine iC ?_)
   repeat' with_reducible first | refine W ?_ | refine Z0 ?_ | ((first | refine Wo fun K hK=>?_ | refine Wq ?_ | refine Wr ?_);(try simp only [go_sem,fN,seval,eT,iR,e5,e1,e2,e6,s2,ha]);(repeat refine Ai ?_);(try (refine hK _ ?_;clear hK K)))
   refine ⟨_,ih _ (Tm.lt_of_arg (AM ha)) a (m - BO (1 + Tm.sizes (t.args.take k)) m) (by omega) (by omega) rfl,?_⟩
   have z5:=Pi a.size (m - BO (1 + Tm.sizes (t.args.take k)) m) (by omega)
   repeat' with_reducible first | refine W ?_ | refine Z0 ?_ | ((first | refine Wo fun K hK=>?_ | refine Wq ?_ | refine Wr ?_);(try simp only [go_sem,fN,seval,eT,iR,e5,e1,e2,e6,s2]);(repeat refine Ai ?_);(try (refine hK _ ?_;clear hK K)))
   refine AA ⟨t.args.length - (k + 1),by omega,k + 1,by omega,rfl,?_⟩
   simp only [go_sem,fN,seval,eT,iR,e5,e1,e2,e6,s2]
   exact ⟨by rw [b1,Qr b2,z1];congr 4;omega,by congr 3⟩
 ·repeat' with_reducible first | refine W ?_ | refine Z0 ?_ | ((first | refine Wo fun K hK=>?_ | refine Wq ?_ | refine Wr ?_);(try simp only [go_sem,fN,seval,eT,iR,e5,e1,e2,e6,s2,hlt]);(repeat refine Ai ?_);(try (refine hK _ ?_;clear hK K)))
  with_reducible refine Wp ?_
  simp only [go_sem,fN,seval,true_implies,false_implies,implies_true,dT,dF,nL]
  (try with_reducible refine iC ?_)
  have hfull:1 + Tm.sizes (t.args.take k)=t.size:=by rw [List.take_of_length_le (by omega),hs]
  rw [hfull] at e5 z4
  repeat' with_reducible first | refine W ?_ | refine Z0 ?_ | ((first | refine Wo fun K hK=>?_ | refine Wq ?_ | refine Wr ?_);(try simp only [go_sem,fN,seval,eT,iR,e5,e1]);(repeat refine Ai ?_);(try (refine hK _ ?_;clear hK K)))
  by_cases hb:m < BO t.size m
  ·with_reducible refine Wp ?_
   simp only [go_sem,fN,seval,true_implies,false_implies,implies_true,dT,dF,nL,hb]
   (try with_reducible refine iC ?_)
   repeat' with_reducible first | refine W ?_ | refine Z0 ?_ | ((first | refine Wo fun K hK=>?_ | refine Wq ?_ | refine Wr ?_);(try simp only [go_sem,fN,seval,eT,iR,e1]);(repeat refine Ai ?_);(try (refine hK _ ?_;clear hK K)))
   simp only [go_sem,fN,seval,AP,AS.result,AH,AI,AN]
   rw [K4 hb (Nat.le_refl _)]
  ·with_reducible refine Wp ?_
   simp only [go_sem,fN,seval,true_implies,false_implies,implies_true,dT,dF,nL,hb]
   (try with_reducible refine iC ?_)
   repeat' with_reducible first | refine W ?_ | refine Z0 ?_ | ((first | refine Wo fun K hK=>?_ | refine Wq ?_ | refine Wr ?_);(try simp only [go_sem,fN,seval,eT,iR,e5]);(repeat refine Ai ?_);(try (refine hK _ ?_;clear hK K)))
   simp only [go_sem,fN,seval,AP,AS.result,AH,AI,AN,e5]
theorem XC (t:Tm):AU Try.prog 65 [aTm t] (AK t.chk):=by
 induction h:SizeOf.sizeOf t using Nat.strongRecOn generalizing t with
 | _ N ih =>
 subst h
 have hc:=Tm.chk_eq t
 have hc1:B_ t=if Az t.name=true then (if BH t.name=true∧0 < t.args.length then 2 else 0) else 1:=rfl
 refine MG.ac fun C hC=>?_
 unfold Gw
 refine IWP.learn 0 (by omega) fun hkn=>?_
 have hkn:=Il hkn
 repeat' with_reducible first | refine W ?_ | refine Z0 ?_ | ((first | refine Wo fun K hK=>?_ | refine Wq ?_ | refine Wr ?_);(try simp only [go_sem,fN,seval,eT,iR]);(repeat refine Ai ?_);(try (refine hK _ ?_;clear hK K)))
 refine ⟨_,Kc _,?_⟩
 cases hn:Az t.name with
 | false =>
  rw [hn,if_neg (by simp)] at hc1
  repeat' with_reducible first | refine W ?_ | refine Z0 ?_ | ((first | refine Wo fun K hK=>?_ | refine Wq ?_ | refine Wr ?_);(try simp only [go_sem,fN,seval,eT,iR]);(repeat refine Ai ?_);(try (refine hK _ ?_;clear hK K)))
  with_reducible refine Wp ?_
  simp only [go_sem,fN,seval,true_implies,false_implies,implies_true,dT,dF,nL]
  (try with_reducible refine iC ?_)
  repeat' with_reducible first | refine W ?_ | refine Z0 ?_ | ((first | refine Wo fun K hK=>?_ | refine Wq ?_ | refine Wr ?_);(try simp only [go_sem,fN,seval,eT,iR]);(repeat refine Ai ?_);(try (refine hK _ ?_;clear hK K)))
  simp only [go_sem,fN,seval,AP,AS.result,AH,AI,AN]
  rw [hc,hc1]
  rfl
 | true =>
  rw [hn,if_pos rfl] at hc1
  repeat' with_reducible first | refine W ?_ | refine Z0 ?_ | ((first | refine Wo fun K hK=>?_ | refine Wq ?_ | refine Wr ?_);(try simp only [go_sem,fN,seval,eT,iR]);(repeat refine Ai ?_);(try (refine hK _ ?_;clear hK K)))
  with_reducible refine Wp ?_
  simp only [go_sem,fN,seval,true_implies,false_implies,implies_true,dT,dF,nL]
  (try with_reducible refine iC ?_)
  repeat' with_reducible first | refine W ?_ | refine Z0 ?_ | ((first | refine Wo fun K hK=>?_ | refine Wq ?_ | refine Wr ?_);(try simp only [go_sem,fN,seval,eT,iR]);(repeat refine Ai ?_);(try (refine hK _ ?_;clear hK K)))
  refine ⟨_,D_ _,?_⟩
  by_cases hv:BH t.name=true∧0 < t.args.length
  ·obtain ⟨hv1,hv2⟩:=hv
   have hv2':(0:Int) < t.args.length:=by omega
   rw [if_pos ⟨hv1,hv2⟩] at hc1
   rw [hv1]
   repeat' with_reducible first | refine W ?_ | refine Z0 ?_ | ((first | refine Wo fun K hK=>?_ | refine Wq ?_ | refine Wr ?_);(try simp only [go_sem,fN,seval,eT,iR,hv2']);(repeat refine Ai ?_);(try (refine hK _ ?_;clear hK K)))
   with_reducible refine Wp ?_
   simp only [go_sem,fN,seval,true_implies,false_implies,implies_true,dT,dF,nL,hv2']
   (try with_reducible refine iC ?_)
   repeat' with_reducible first | refine W ?_ | refine Z0 ?_ | ((first | refine Wo fun K hK=>?_ | refine Wq ?_ | refine Wr ?_);(try simp only [go_sem,fN,seval,eT,iR]);(repeat refine Ai ?_);(try (refine hK _ ?_;clear hK K)))
   simp only [go_sem,fN,seval,AP,AS.result,AH,AI,AN]
   rw [hc,hc1]
   rfl
  ·rw [if_neg hv] at hc1
   rw [if_pos hc1] at hc
   have hv2:BH t.name=true→¬ (0:Int) < t.args.length:=fun h h'=>hv ⟨h,by omega⟩
   cases hvv:BH t.name
   all_goals
    simp only [hvv,true_implies,false_implies,Bool.false_eq_true] at hv2
    repeat' with_reducible first | refine W ?_ | refine Z0 ?_ | ((first | refine Wo fun K hK=>?_ | refine Wq ?_ | refine Wr ?_);(try simp only [go_sem,fN,seval,eT,iR,hv2]);(repeat refine Ai ?_);(try (refine hK _ ?_;clear hK K)))
    with_reducible refine Wp ?_
    simp only [go_sem,fN,seval,true_implies,false_implies,implies_true,dT,dF,nL,hv2]
    (try with_reducible refine iC ?_)
    repeat' with_reducible first | refine W ?_ | refine Z0 ?_ | ((first | refine Wo fun K hK=>?_ | refine Wq ?_ | refine Wr ?_);(try simp only [go_sem,fN,seval,eT,iR]);(repeat refine Ai ?_);(try (refine hK _ ?_;clear hK K)))
    refine IWP.loopD [4] (fun n s=>∃ k,k≤t.args.length∧n=t.args.length - k∧Tm.chkL (t.args.take k)=0∧s.env 20=.one (.st (.list (t.args.map A_)))∧s.env 21=AK t.args.length∧s.env 22=AK k∧s.S 4=none) t.args.length ⟨0,Nat.zero_le _,rfl,rfl,rfl,rfl,rfl,rfl⟩ ?_
    rintro n ⟨env,S⟩ ⟨k,hk,rfl,h0,e20,e21,e22,s4⟩
    simp only at e20 e21 e22 s4
    repeat' with_reducible first | refine W ?_ | refine Z0 ?_ | ((first | refine Wo fun K hK=>?_ | refine Wq ?_ | refine Wr ?_);(try simp only [go_sem,fN,seval,eT,iR,e20,e21,e22,s4]);(repeat refine Ai ?_);(try (refine hK _ ?_;clear hK K)))
    with_reducible refine Wp ?_
    simp only [go_sem,fN,seval,true_implies,false_implies,implies_true,dT,dF,nL,e20,e21,e22,s4]
    (try with_reducible refine iC ?_)
    refine ⟨fun hlt=>?_,fun hge=>?_⟩
    ·obtain ⟨a,ha⟩:=Ab (show k < t.args.length by omega)
     obtain ⟨g1,g2⟩:=Tm.chkL_get ha h0
     repeat' (first | (with_reducible first | refine W ?_ | refine Z0 ?_ | ((first | refine Wo fun K hK=>?_ | refine Wq ?_ | refine Wr ?_);(try simp only [go_sem,fN,seval,eT,iR,e20,e21,e22,s4,ha]);(repeat refine Ai ?_);(try (refine hK _ ?_;clear hK K)))) | refine Cg _ (ih _ (Tm.lt_of_arg (AM ha)) a rfl) ?_)
     with_reducible refine Wp ?_
     simp only [go_sem,fN,seval,true_implies,false_implies,implies_true,dT,dF,nL]
     (try with_reducible refine iC ?_)
     refine ⟨fun hb=>?_,fun hb=>?_⟩
     ·repeat' with_reducible first | refine W ?_ | refine Z0 ?_ | ((first | refine Wo fun K hK=>?_ | refine Wq ?_ | refine Wr ?_);(try simp only [go_sem,fN,seval,eT,iR]);(repeat refine Ai ?_);(try (refine hK _ ?_;clear hK K)))
      simp only [go_sem,fN,seval,AP,AS.result,AH,AI,AN]
      rw [hc,g2 hb]
     ·repeat' with_reducible first | refine W ?_ | refine Z0 ?_ | ((first | refine Wo fun K hK=>?_ | refine Wq ?_ | refine Wr ?_);(try simp only [go_sem,fN,seval,eT,iR,e20,e21,e22,s4]);(repeat refine Ai ?_);(try (refine hK _ ?_;clear hK K)))
      refine AA ⟨t.args.length - (k + 1),by omega,k + 1,by omega,rfl,g1 (by omega),?_⟩
      simp only [go_sem,fN,seval,AS.drop,AY,AC.clears,AC.clear,AC.highs,AC.high,Bool.not_false,Bool.true_and,Bool.and_self,AV.purge,AV.purges,AC.purge,AL.purge,List.contains_cons,List.contains_nil,Nat.reduceBEq,Bool.or_self,Bool.or_false,Bool.false_or,Bool.or_true,eT,iR,e20,e21,e22,s4]
      congr 3
    ·repeat' with_reducible first | refine W ?_ | refine Z0 ?_ | ((first | refine Wo fun K hK=>?_ | refine Wq ?_ | refine Wr ?_);(try simp only [go_sem,fN,seval,eT,iR]);(repeat refine Ai ?_);(try (refine hK _ ?_;clear hK K)))
     simp only [go_sem,fN,seval,AP,AS.result,AH,AI,AN]
     rw [List.take_of_length_le (by omega)] at h0
     rw [hc,h0]
theorem Io (t:Tm):AU Try.prog 46 [aTm t] (AK t.may):=by
 have hm:t.may=if 200 < t.size then 3 else t.chk:=rfl
 refine MF.ac fun C hC=>?_
 unfold Gv
 repeat' with_reducible first | refine W ?_ | refine Z0 ?_ | ((first | refine Wo fun K hK=>?_ | refine Wq ?_ | refine Wr ?_);(try simp only [go_sem,fN,seval,eT,iR]);(repeat refine Ai ?_);(try (refine hK _ ?_;clear hK K)))
 refine ⟨_,VG t 200 (by omega) (by omega),?_⟩
 by_cases h:CL t.size 200 < 0
 ·repeat' with_reducible first | refine W ?_ | refine Z0 ?_ | ((first | refine Wo fun K hK=>?_ | refine Wq ?_ | refine Wr ?_);(try simp only [go_sem,fN,seval,eT,iR,h]);(repeat refine Ai ?_);(try (refine hK _ ?_;clear hK K)))
  with_reducible refine Wp ?_
  simp only [go_sem,fN,seval,true_implies,false_implies,implies_true,dT,dF,nL,h]
  (try with_reducible refine iC ?_)
  repeat' with_reducible first | refine W ?_ | refine Z0 ?_ | ((first | refine Wo fun K hK=>?_ | refine Wq ?_ | refine Wr ?_);(try simp only [go_sem,fN,seval,eT,iR]);(repeat refine Ai ?_);(try (refine hK _ ?_;clear hK K)))
  simp only [go_sem,fN,seval,AP,AS.result,AH,AI,AN]
  unfold CL at h
  rw [hm,if_pos (by split at h <;> omega)]
 ·repeat' with_reducible first | refine W ?_ | refine Z0 ?_ | ((first | refine Wo fun K hK=>?_ | refine Wq ?_ | refine Wr ?_);(try simp only [go_sem,fN,seval,eT,iR,h]);(repeat refine Ai ?_);(try (refine hK _ ?_;clear hK K)))
  with_reducible refine Wp ?_
  simp only [go_sem,fN,seval,true_implies,false_implies,implies_true,dT,dF,nL,h]
  (try with_reducible refine iC ?_)
  repeat' (first | (with_reducible first | refine W ?_ | refine Z0 ?_ | ((first | refine Wo fun K hK=>?_ | refine Wq ?_ | refine Wr ?_);(try simp only [go_sem,fN,seval,eT,iR]);(repeat refine Ai ?_);(try (refine hK _ ?_;clear hK K)))) | refine Cg _ (XC t) ?_)
  simp only [go_sem,fN,seval,AP,AS.result,AH,AI,AN]
  unfold CL at h
  rw [hm,if_neg (by split at h <;> omega)]
theorem SX (t:Tm) (hz:t.size≤1000000):AU Try.prog 58 [aTm t] (JU t.knots):=by
 induction h:SizeOf.sizeOf t using Nat.strongRecOn generalizing t with
 | _ N ih =>
 subst h
 have hs:=Tm.size_eq t
 refine Qy.ac fun C hC=>?_
 unfold Ke
 repeat' with_reducible first | refine W ?_ | refine Z0 ?_ | ((first | refine Wo fun K hK=>?_ | refine Wq ?_ | refine Wr ?_);(try simp only [go_sem,fN,seval,eT,iR]);(repeat refine Ai ?_);(try (refine hK _ ?_;clear hK K)))
 refine IWP.ghost (Ad.own 3 21 39 2 (xs:=([t].map A_)) (by simp only [go_sem,fN,seval,eT,iR]) rfl I1 (by omega)) ?_
 have hlen:=Tm.length_le t.args
 refine IWP.loopD [] (fun m s=>∃ k,k≤t.args.length∧m=t.args.length - k∧s.env 1=.one (.ptr 1 1 0 0)∧s.S 1=some (.box 39 [.st (.str t.name),.st (.list (t.args.map A_))])∧s.env 3=.one (.row 21 (t :: Tm.knotsL (t.args.take k)).length)∧s.S 21=some (.arow 39 2 ((t :: Tm.knotsL (t.args.take k)).map A_))∧s.env 4=AK k)
  t.args.length ⟨0,Nat.zero_le _,rfl,rfl,rfl,rfl,rfl,rfl⟩ ?_
 rintro m ⟨env,S⟩ ⟨k,hk,rfl,e1,s1,e3,s21,e4⟩
 simp only at e1 s1 e3 s21 e4
 repeat' with_reducible first | refine W ?_ | refine Z0 ?_ | ((first | refine Wo fun K hK=>?_ | refine Wq ?_ | refine Wr ?_);(try simp only [go_sem,fN,seval,eT,iR,e1,s1,e3,s21,e4]);(repeat refine Ai ?_);(try (refine hK _ ?_;clear hK K)))
 with_reducible refine Wp ?_
 simp only [go_sem,fN,seval,true_implies,false_implies,implies_true,dT,dF,nL]
 (try with_reducible refine iC ?_)
 refine ⟨fun hlt=>?_,fun hge=>?_⟩
 ·obtain ⟨a,ha⟩:=Ab (show k < t.args.length by omega)
  have z1:=Tm.sizes_take ha
  have z2:=Tm.sizes_take_le t.args (k + 1)
  have z3:=Tm.knots_length a
  have z4:=Tm.knotsL_length (t.args.take k)
  repeat' (first | (with_reducible first | refine W ?_ | refine Z0 ?_ | ((first | refine Wo fun K hK=>?_ | refine Wq ?_ | refine Wr ?_);(try simp only [go_sem,fN,seval,eT,iR,e1,s1,e3,s21,e4,ha]);(repeat refine Ai ?_);(try (refine hK _ ?_;clear hK K)))) | refine Cg _ (ih _ (Tm.lt_of_arg (AM ha)) a (by omega) rfl) ?_)
  refine AA ⟨t.args.length - (k + 1),by omega,k + 1,by omega,rfl,?_⟩
  simp only [go_sem,fN,seval,AS.drop,AY,AC.clears,AC.clear,AC.highs,AC.high,Bool.not_false,Bool.true_and,Bool.and_self,AV.purge,AV.purges,AC.purge,AL.purge,List.contains_cons,List.contains_nil,Nat.reduceBEq,Bool.or_self,Bool.or_false,Bool.false_or,Bool.or_true,eT,iR,e1,s1,e3,s21,e4]
  rw [Tm.knotsL_take ha]
  exact ⟨by simp <;> omega,by simp [C9],rfl⟩
 ·repeat' with_reducible first | refine W ?_ | refine Z0 ?_ | ((first | refine Wo fun K hK=>?_ | refine Wq ?_ | refine Wr ?_);(try simp only [go_sem,fN,seval,eT,iR,e1,s1,e3,s21,e4]);(repeat refine Ai ?_);(try (refine hK _ ?_;clear hK K)))
  simp only [go_sem,fN,seval,AP,AS.result,AH,AI,AN,e3,s21]
  rw [List.take_of_length_le (by omega),Tm.knots_eq]
  rfl
theorem TZ (t:Tm):AU Try.prog 40 [aTm t] (AK t.may):=by
 have hm:t.may=if 200 < t.size then 3 else t.chk:=rfl
 refine OR.ac fun C hC=>?_
 unfold H6
 repeat' with_reducible first | refine W ?_ | refine Z0 ?_ | ((first | refine Wo fun K hK=>?_ | refine Wq ?_ | refine Wr ?_);(try simp only [go_sem,fN,seval,eT,iR]);(repeat refine Ai ?_);(try (refine hK _ ?_;clear hK K)))
 refine ⟨_,Dv t 200 (by omega) (by omega),?_⟩
 by_cases h:(200:Int) < BO t.size 200
 ·repeat' with_reducible first | refine W ?_ | refine Z0 ?_ | ((first | refine Wo fun K hK=>?_ | refine Wq ?_ | refine Wr ?_);(try simp only [go_sem,fN,seval,eT,iR,h]);(repeat refine Ai ?_);(try (refine hK _ ?_;clear hK K)))
  with_reducible refine Wp ?_
  simp only [go_sem,fN,seval,true_implies,false_implies,implies_true,dT,dF,nL,h]
  (try with_reducible refine iC ?_)
  repeat' with_reducible first | refine W ?_ | refine Z0 ?_ | ((first | refine Wo fun K hK=>?_ | refine Wq ?_ | refine Wr ?_);(try simp only [go_sem,fN,seval,eT,iR]);(repeat refine Ai ?_);(try (refine hK _ ?_;clear hK K)))
  simp only [go_sem,fN,seval,AP,AS.result,AH,AI,AN]
  unfold BO at h
  rw [hm,if_pos (by split at h <;> omega)]
 have hz:=(Pk h).2
 rw [if_neg (by omega)] at hm
 repeat' with_reducible first | refine W ?_ | refine Z0 ?_ | ((first | refine Wo fun K hK=>?_ | refine Wq ?_ | refine Wr ?_);(try simp only [go_sem,fN,seval,eT,iR,h]);(repeat refine Ai ?_);(try (refine hK _ ?_;clear hK K)))
 with_reducible refine Wp ?_
 simp only [go_sem,fN,seval,true_implies,false_implies,implies_true,dT,dF,nL,h]
 (try with_reducible refine iC ?_)
 repeat' (first | (with_reducible first | refine W ?_ | refine Z0 ?_ | ((first | refine Wo fun K hK=>?_ | refine Wq ?_ | refine Wr ?_);(try simp only [go_sem,fN,seval,eT,iR]);(repeat refine Ai ?_);(try (refine hK _ ?_;clear hK K)))) | refine Cg _ (SX t (by omega)) ?_)
 have hl:=Tm.knots_length t
 have hc:=Tm.firstErr_knots t
 refine IWP.loop (fun n s=>∃ k,k≤t.knots.length∧n=t.knots.length - k∧BY (t.knots.take k)=0∧s.env 3=JU t.knots∧s.env 4=AK k) t.knots.length ⟨0,Nat.zero_le _,rfl,rfl,rfl,rfl⟩ ?_
 rintro n ⟨env,S⟩ ⟨k,hk,rfl,h0,e3,e4⟩
 simp only at e3 e4
 repeat' with_reducible first | refine W ?_ | refine Z0 ?_ | ((first | refine Wo fun K hK=>?_ | refine Wq ?_ | refine Wr ?_);(try simp only [go_sem,fN,seval,eT,iR,e3,e4]);(repeat refine Ai ?_);(try (refine hK _ ?_;clear hK K)))
 with_reducible refine Wp ?_
 simp only [go_sem,fN,seval,true_implies,false_implies,implies_true,dT,dF,nL]
 (try with_reducible refine iC ?_)
 refine ⟨fun hlt=>?_,fun hge=>?_⟩
 ·obtain ⟨a,ha⟩:=Ab (show k < t.knots.length by omega)
  obtain ⟨g1,g2⟩:=N1 ha h0
  have hc1:B_ a=if Az a.name=true then (if BH a.name=true∧0 < a.args.length then 2 else 0) else 1:=rfl
  repeat' with_reducible first | refine W ?_ | refine Z0 ?_ | ((first | refine Wo fun K hK=>?_ | refine Wq ?_ | refine Wr ?_);(try simp only [go_sem,fN,seval,eT,iR,e3,e4,ha]);(repeat refine Ai ?_);(try (refine hK _ ?_;clear hK K)))
  refine ⟨_,F6 _,?_⟩
  cases hn:Az a.name with
  | false =>
   rw [hn,if_neg (by simp)] at hc1
   repeat' with_reducible first | refine W ?_ | refine Z0 ?_ | ((first | refine Wo fun K hK=>?_ | refine Wq ?_ | refine Wr ?_);(try simp only [go_sem,fN,seval,eT,iR]);(repeat refine Ai ?_);(try (refine hK _ ?_;clear hK K)))
   with_reducible refine Wp ?_
   simp only [go_sem,fN,seval,true_implies,false_implies,implies_true,dT,dF,nL]
   (try with_reducible refine iC ?_)
   repeat' with_reducible first | refine W ?_ | refine Z0 ?_ | ((first | refine Wo fun K hK=>?_ | refine Wq ?_ | refine Wr ?_);(try simp only [go_sem,fN,seval,eT,iR]);(repeat refine Ai ?_);(try (refine hK _ ?_;clear hK K)))
   simp only [go_sem,fN,seval,AP,AS.result,AH,AI,AN]
   rw [hm,← hc,g2 (by omega),hc1]
  | true =>
   rw [hn,if_pos rfl] at hc1
   repeat' with_reducible first | refine W ?_ | refine Z0 ?_ | ((first | refine Wo fun K hK=>?_ | refine Wq ?_ | refine Wr ?_);(try simp only [go_sem,fN,seval,eT,iR]);(repeat refine Ai ?_);(try (refine hK _ ?_;clear hK K)))
   with_reducible refine Wp ?_
   simp only [go_sem,fN,seval,true_implies,false_implies,implies_true,dT,dF,nL]
   (try with_reducible refine iC ?_)
   repeat' with_reducible first | refine W ?_ | refine Z0 ?_ | ((first | refine Wo fun K hK=>?_ | refine Wq ?_ | refine Wr ?_);(try simp only [go_sem,fN,seval,eT,iR,e3,e4,ha]);(repeat refine Ai ?_);(try (refine hK _ ?_;clear hK K)))
   refine ⟨_,Ip _,?_⟩
   by_cases hv:BH a.name=true∧0 < a.args.length
   ·obtain ⟨hv1,hv2⟩:=hv
    have hv2':(0:Int) < a.args.length:=by omega
    rw [if_pos ⟨hv1,hv2⟩] at hc1
    rw [hv1]
    repeat' with_reducible first | refine W ?_ | refine Z0 ?_ | ((first | refine Wo fun K hK=>?_ | refine Wq ?_ | refine Wr ?_);(try simp only [go_sem,fN,seval,eT,iR,e3,e4,ha,hv2']);(repeat refine Ai ?_);(try (refine hK _ ?_;clear hK K)))
    with_reducible refine Wp ?_
    simp only [go_sem,fN,seval,true_implies,false_implies,implies_true,dT,dF,nL,hv2']
    (try with_reducible refine iC ?_)
    repeat' with_reducible first | refine W ?_ | refine Z0 ?_ | ((first | refine Wo fun K hK=>?_ | refine Wq ?_ | refine Wr ?_);(try simp only [go_sem,fN,seval,eT,iR]);(repeat refine Ai ?_);(try (refine hK _ ?_;clear hK K)))
    simp only [go_sem,fN,seval,AP,AS.result,AH,AI,AN]
    rw [hm,← hc,g2 (by omega),hc1]
   ·rw [if_neg hv] at hc1
    have hv2:BH a.name=true→¬ (0:Int) < a.args.length:=fun h h'=>hv ⟨h,by omega⟩
    cases hvv:BH a.name
    all_goals
     simp only [hvv,true_implies,false_implies,Bool.false_eq_true] at hv2
     repeat' with_reducible first | refine W ?_ | refine Z0 ?_ | ((first | refine Wo fun K hK=>?_ | refine Wq ?_ | refine Wr ?_);(try simp only [go_sem,fN,seval,eT,iR,e3,e4,ha,hv2]);(repeat refine Ai ?_);(try (refine hK _ ?_;clear hK K)))
     with_reducible refine Wp ?_
     simp only [go_sem,fN,seval,true_implies,false_implies,implies_true,dT,dF,nL,hv2]
     (try with_reducible refine iC ?_)
     repeat' with_reducible first | refine W ?_ | refine Z0 ?_ | ((first | refine Wo fun K hK=>?_ | refine Wq ?_ | refine Wr ?_);(try simp only [go_sem,fN,seval,eT,iR,e3,e4]);(repeat refine Ai ?_);(try (refine hK _ ?_;clear hK K)))
     refine AA ⟨t.knots.length - (k + 1),by omega,k + 1,by omega,rfl,g1 hc1,?_⟩
     simp only [go_sem,fN,seval,eT,iR,e3,e4]
     congr 3
 ·repeat' with_reducible first | refine W ?_ | refine Z0 ?_ | ((first | refine Wo fun K hK=>?_ | refine Wq ?_ | refine Wr ?_);(try simp only [go_sem,fN,seval,eT,iR]);(repeat refine Ai ?_);(try (refine hK _ ?_;clear hK K)))
  simp only [go_sem,fN,seval,AP,AS.result,AH,AI,AN]
  rw [List.take_of_length_le (by omega)] at h0
  rw [hm,← hc,h0]
theorem GO (t:Tm):AU Try.prog 39 [aTm t] (Ag (decide (3000 < t.size))):=by
 have hc:((3000:Int) < BO t.size 3000)=(3000 < t.size):=by
  unfold BO
  by_cases h:(3000:Int) < t.size
  ·rw [if_pos h];simp;omega
  ·rw [if_neg h];simp;omega
 refine Sr.ac fun C hC=>?_
 unfold MR
 repeat' (first | (with_reducible first | refine W ?_ | refine Z0 ?_ | ((first | refine Wo fun K hK=>?_ | refine Wq ?_ | refine Wr ?_);(try simp only [go_sem,fN,seval,eT,iR]);(repeat refine Ai ?_);(try (refine hK _ ?_;clear hK K)))) | refine Cg _ (Dv t 3000 (by omega) (by omega)) ?_)
 simp only [go_sem,fN,seval,AP,AS.result,AH,AI,AN,hc]
theorem Xj (x:ByteArray) (l:List ByteArray):AU Try.prog 51 [Da x,Jw l] (Ag (FZ x l)):=by
 refine XA.ac fun C hC=>?_
 unfold SZ
 refine IWP.learn 1 (by omega) fun hkn=>?_
 have hkn:=JG hkn
 rw [List.length_map] at hkn
 repeat' with_reducible first | refine W ?_ | refine Z0 ?_ | ((first | refine Wo fun K hK=>?_ | refine Wq ?_ | refine Wr ?_);(try simp only [go_sem,fN,seval,eT,iR]);(repeat refine Ai ?_);(try (refine hK _ ?_;clear hK K)))
 refine IWP.loop (fun n s=>∃ k,k≤l.length∧n=l.length - k∧FZ x (l.take k)=false∧s.env 0=Da x∧s.env 1=Jw l∧s.env 5=AK k) l.length ⟨0,Nat.zero_le _,rfl,rfl,rfl,rfl,rfl⟩ ?_
 rintro n ⟨env,S⟩ ⟨k,hk,rfl,h0,e0,e1,e5⟩
 simp only at e0 e1 e5
 repeat' with_reducible first | refine W ?_ | refine Z0 ?_ | ((first | refine Wo fun K hK=>?_ | refine Wq ?_ | refine Wr ?_);(try simp only [go_sem,fN,seval,eT,iR,e0,e1,e5]);(repeat refine Ai ?_);(try (refine hK _ ?_;clear hK K)))
 with_reducible refine Wp ?_
 simp only [go_sem,fN,seval,true_implies,false_implies,implies_true,dT,dF,nL]
 (try with_reducible refine iC ?_)
 refine ⟨fun hlt=>?_,fun hge=>?_⟩
 ·obtain ⟨a,ha⟩:=Ab (show k < l.length by omega)
  repeat' with_reducible first | refine W ?_ | refine Z0 ?_ | ((first | refine Wo fun K hK=>?_ | refine Wq ?_ | refine Wr ?_);(try simp only [go_sem,fN,seval,eT,iR,e0,e1,e5,ha]);(repeat refine Ai ?_);(try (refine hK _ ?_;clear hK K)))
  with_reducible refine Wp ?_
  simp only [go_sem,fN,seval,true_implies,false_implies,implies_true,dT,dF,nL]
  (try with_reducible refine iC ?_)
  refine ⟨fun hb=>?_,fun hb=>?_⟩
  ·repeat' with_reducible first | refine W ?_ | refine Z0 ?_ | ((first | refine Wo fun K hK=>?_ | refine Wq ?_ | refine Wr ?_);(try simp only [go_sem,fN,seval,eT,iR]);(repeat refine Ai ?_);(try (refine hK _ ?_;clear hK K)))
   simp only [go_sem,fN,seval,AP,AS.result,AH,AI,AN]
   rw [Hz.2 (by rw [← hb];exact AM ha)]
  ·repeat' with_reducible first | refine W ?_ | refine Z0 ?_ | ((first | refine Wo fun K hK=>?_ | refine Wq ?_ | refine Wr ?_);(try simp only [go_sem,fN,seval,eT,iR,e0,e1,e5]);(repeat refine Ai ?_);(try (refine hK _ ?_;clear hK K)))
   refine AA ⟨l.length - (k + 1),by omega,k + 1,by omega,rfl,?_,?_⟩
   ·rw [AQ ha,OP]
    rw [OP] at h0
    simp only [List.mem_append,List.mem_singleton,not_or]
    exact ⟨h0,fun e=>hb e.symm⟩
   ·simp only [go_sem,fN,seval,eT,iR,e0,e1,e5]
    congr 3
 ·repeat' with_reducible first | refine W ?_ | refine Z0 ?_ | ((first | refine Wo fun K hK=>?_ | refine Wq ?_ | refine Wr ?_);(try simp only [go_sem,fN,seval,eT,iR]);(repeat refine Ai ?_);(try (refine hK _ ?_;clear hK K)))
  simp only [go_sem,fN,seval,AP,AS.result,AH,AI,AN]
  rw [List.take_of_length_le (by omega)] at h0
  rw [h0]
theorem WS (l:List ByteArray) (x:ByteArray):∃ i:Int,AU Try.prog 90 [Jw l,Da x] (AK i)∧(0≤i ↔ FZ x l=true):=by
 by_cases hin:FZ x l=true
 ·obtain ⟨k0,hk0,hmin⟩:∃ k,l[k]?=some x∧∀ j,j < k→l[j]? ≠ some x:=by
   have hx:=Hz.1 hin
   have ⟨k,hk⟩:=List.getElem?_of_mem hx
   induction k using Nat.strongRecOn with
   | _ k ih =>
    by_cases h:∃ j,j < k∧l[j]?=some x
    ·obtain ⟨j,hj,hjx⟩:=h
     exact ih j hj hjx
    ·exact ⟨k,hk,fun j hj hjx=>h ⟨j,hj,hjx⟩⟩
  have hlt0:=Cw hk0
  refine ⟨k0,?_,by simp [hin]⟩
  refine B7.ac fun C hC=>?_
  unfold BS
  refine IWP.learn 0 (by omega) fun hkn=>?_
  have hkn:=JG hkn
  rw [List.length_map] at hkn
  repeat' with_reducible first | refine W ?_ | refine Z0 ?_ | ((first | refine Wo fun K hK=>?_ | refine Wq ?_ | refine Wr ?_);(try simp only [go_sem,fN,seval,eT,iR]);(repeat refine Ai ?_);(try (refine hK _ ?_;clear hK K)))
  refine IWP.loop (fun n s=>∃ k,k≤k0∧n=k0 - k∧s.env 0=Jw l∧s.env 1=Da x∧s.env 7=AK l.length∧s.env 8=AK k) k0 ⟨0,Nat.zero_le _,rfl,rfl,rfl,rfl,rfl⟩ ?_
  rintro n ⟨env,S⟩ ⟨k,hk,rfl,e0,e1,e7,e8⟩
  simp only at e0 e1 e7 e8
  have hlt:(k:Int) < l.length:=by omega
  repeat' with_reducible first | refine W ?_ | refine Z0 ?_ | ((first | refine Wo fun K hK=>?_ | refine Wq ?_ | refine Wr ?_);(try simp only [go_sem,fN,seval,eT,iR,e0,e1,e7,e8,hlt]);(repeat refine Ai ?_);(try (refine hK _ ?_;clear hK K)))
  with_reducible refine Wp ?_
  simp only [go_sem,fN,seval,true_implies,false_implies,implies_true,dT,dF,nL,e0,e1,e7,e8,hlt]
  (try with_reducible refine iC ?_)
  obtain ⟨a,ha⟩:=Ab (show k < l.length by omega)
  repeat' with_reducible first | refine W ?_ | refine Z0 ?_ | ((first | refine Wo fun K hK=>?_ | refine Wq ?_ | refine Wr ?_);(try simp only [go_sem,fN,seval,eT,iR,e0,e1,e7,e8,ha]);(repeat refine Ai ?_);(try (refine hK _ ?_;clear hK K)))
  by_cases he:k=k0
  ·subst he
   rw [hk0] at ha
   cases ha
   with_reducible refine Wp ?_
   simp only [go_sem,fN,seval,true_implies,false_implies,implies_true,dT,dF,nL]
   (try with_reducible refine iC ?_)
   repeat' with_reducible first | refine W ?_ | refine Z0 ?_ | ((first | refine Wo fun K hK=>?_ | refine Wq ?_ | refine Wr ?_);(try simp only [go_sem,fN,seval,eT,iR,e0,e1,e7,e8]);(repeat refine Ai ?_);(try (refine hK _ ?_;clear hK K)))
   simp only [go_sem,fN,seval,AP,AS.result,AH,AI,AN]
  ·have hne:¬ x=a:=fun e=>hmin k (by omega) (by rw [ha,e])
   with_reducible refine Wp ?_
   simp only [go_sem,fN,seval,true_implies,false_implies,implies_true,dT,dF,nL,hne]
   (try with_reducible refine iC ?_)
   repeat' with_reducible first | refine W ?_ | refine Z0 ?_ | ((first | refine Wo fun K hK=>?_ | refine Wq ?_ | refine Wr ?_);(try simp only [go_sem,fN,seval,eT,iR,e0,e1,e7,e8]);(repeat refine Ai ?_);(try (refine hK _ ?_;clear hK K)))
   refine AA ⟨k0 - (k + 1),by omega,k + 1,by omega,rfl,?_⟩
   simp only [go_sem,fN,seval,eT,iR,e0,e1,e7,e8]
   congr 3
 ·rw [Bool.not_eq_true] at hin
  refine ⟨-1,?_,by simp [hin]⟩
  refine B7.ac fun C hC=>?_
  unfold BS
  refine IWP.learn 0 (by omega) fun hkn=>?_
  have hkn:=JG hkn
  rw [List.length_map] at hkn
  repeat' with_reducible first | refine W ?_ | refine Z0 ?_ | ((first | refine Wo fun K hK=>?_ | refine Wq ?_ | refine Wr ?_);(try simp only [go_sem,fN,seval,eT,iR]);(repeat refine Ai ?_);(try (refine hK _ ?_;clear hK K)))
  refine IWP.loop (fun n s=>∃ k,k≤l.length∧n=l.length - k∧s.env 0=Jw l∧s.env 1=Da x∧s.env 7=AK l.length∧s.env 8=AK k) l.length ⟨0,Nat.zero_le _,rfl,rfl,rfl,rfl,rfl⟩ ?_
  rintro n ⟨env,S⟩ ⟨k,hk,rfl,e0,e1,e7,e8⟩
  simp only at e0 e1 e7 e8
  by_cases hlt:(k:Int) < l.length
  ·repeat' with_reducible first | refine W ?_ | refine Z0 ?_ | ((first | refine Wo fun K hK=>?_ | refine Wq ?_ | refine Wr ?_);(try simp only [go_sem,fN,seval,eT,iR,e0,e1,e7,e8,hlt]);(repeat refine Ai ?_);(try (refine hK _ ?_;clear hK K)))
   with_reducible refine Wp ?_
   simp only [go_sem,fN,seval,true_implies,false_implies,implies_true,dT,dF,nL,e0,e1,e7,e8,hlt]
   (try with_reducible refine iC ?_)
   obtain ⟨a,ha⟩:=Ab (show k < l.length by omega)
   have hne:¬ x=a:=fun e=>by
    rw [OP] at hin
    exact hin (by rw [e];exact AM ha)
   repeat' with_reducible first | refine W ?_ | refine Z0 ?_ | ((first | refine Wo fun K hK=>?_ | refine Wq ?_ | refine Wr ?_);(try simp only [go_sem,fN,seval,eT,iR,e0,e1,e7,e8,ha]);(repeat refine Ai ?_);(try (refine hK _ ?_;clear hK K)))
   with_reducible refine Wp ?_
   simp only [go_sem,fN,seval,true_implies,false_implies,implies_true,dT,dF,nL,hne]
   (try with_reducible refine iC ?_)
   repeat' with_reducible first | refine W ?_ | refine Z0 ?_ | ((first | refine Wo fun K hK=>?_ | refine Wq ?_ | refine Wr ?_);(try simp only [go_sem,fN,seval,eT,iR,e0,e1,e7,e8]);(repeat refine Ai ?_);(try (refine hK _ ?_;clear hK K)))
   refine AA ⟨l.length - (k + 1),by omega,k + 1,by omega,rfl,?_⟩
   simp only [go_sem,fN,seval,eT,iR,e0,e1,e7,e8]
   congr 3
  ·repeat' with_reducible first | refine W ?_ | refine Z0 ?_ | ((first | refine Wo fun K hK=>?_ | refine Wq ?_ | refine Wr ?_);(try simp only [go_sem,fN,seval,eT,iR,e0,e1,e7,e8,hlt]);(repeat refine Ai ?_);(try (refine hK _ ?_;clear hK K)))
   with_reducible refine Wp ?_
   simp only [go_sem,fN,seval,true_implies,false_implies,implies_true,dT,dF,nL,e0,e1,e7,e8,hlt]
   (try with_reducible refine iC ?_)
   repeat' with_reducible first | refine W ?_ | refine Z0 ?_ | ((first | refine Wo fun K hK=>?_ | refine Wq ?_ | refine Wr ?_);(try simp only [go_sem,fN,seval,eT,iR]);(repeat refine Ai ?_);(try (refine hK _ ?_;clear hK K)))
   simp only [go_sem,fN,seval,AP,AS.result,AH,AI,AN]
theorem Kq (l:List ByteArray) (x:ByteArray):AU Try.prog 75 [Jw l,Da x] (Ag (FZ x l)):=by
 obtain ⟨i,h1,h2⟩:=WS l x
 refine Cy.ac fun C hC=>?_
 unfold Br
 repeat' (first | (with_reducible first | refine W ?_ | refine Z0 ?_ | ((first | refine Wo fun K hK=>?_ | refine Wq ?_ | refine Wr ?_);(try simp only [go_sem,fN,seval,eT,iR]);(repeat refine Ai ?_);(try (refine hK _ ?_;clear hK K)))) | refine Cg _ (h1) ?_)
 simp only [go_sem,fN,seval,AP,AS.result,AH,AI,AN]
 congr 4
 cases hi:FZ x l with
 | true=>exact decide_eq_true (h2.2 hi)
 | false =>
  refine decide_eq_false fun h=>?_
  rw [h2.1 h] at hi
  cases hi
mutual
def Tm.beq:Tm→Tm→Bool
 | .mk n xs,.mk m ys=>decide (n=m) && Tm.beqL xs ys
def Tm.beqL:List Tm→List Tm→Bool
 | [],[]=>true
 | x :: xs,y :: ys=>x.beq y && Tm.beqL xs ys
 | _,_=>false
end
mutual
theorem Tm.beq_iff:∀ a b:Tm,a.beq b=true ↔ a=b
 | .mk n xs,.mk m ys=>by
  rw [Tm.beq,Bool.and_eq_true,Tm.beqL_iff xs ys,decide_eq_true_eq,Tm.mk.injEq]
theorem Tm.beqL_iff:∀ xs ys:List Tm,Tm.beqL xs ys=true ↔ xs=ys
 | [],[]=>by simp [Tm.beqL]
 | x :: xs,y :: ys=>by rw [Tm.beqL,Bool.and_eq_true,Tm.beq_iff x y,Tm.beqL_iff xs ys,List.cons.injEq]
 | [],y :: ys=>by simp [Tm.beqL]
 | x :: xs,[]=>by simp [Tm.beqL]
end
theorem Tm.beq_refl (a:Tm):a.beq a=true:=(Tm.beq_iff a a).2 rfl
theorem Tm.eq_of {a b:Tm} (h1:a.name=b.name) (h2:a.args=b.args):a=b:=by
 cases a;cases b
 simp only [Tm.name_mk,Tm.args_mk] at h1 h2
 rw [h1,h2]
theorem W6 (a b:Tm):AU Try.prog 63 [aTm a,aTm b] (Ag (a.beq b)):=by
 induction h:SizeOf.sizeOf a using Nat.strongRecOn generalizing a b with
 | _ N ih =>
 subst h
 have hno:a ≠ b→a.beq b=false:=fun h=>by
  rw [← Bool.not_eq_true,Tm.beq_iff]
  exact h
 refine Sx.ac fun C hC=>?_
 unfold M3
 refine IWP.learn 0 (by omega) fun hkn=>?_
 have hkn:=Il hkn
 by_cases hn:a.name=b.name
 ·by_cases hl:a.args.length=b.args.length
  ·have hl':(a.args.length:Int)=b.args.length:=by omega
   repeat' with_reducible first | refine W ?_ | refine Z0 ?_ | ((first | refine Wo fun K hK=>?_ | refine Wq ?_ | refine Wr ?_);(try simp only [go_sem,fN,seval,eT,iR,hn,hl']);(repeat refine Ai ?_);(try (refine hK _ ?_;clear hK K)))
   with_reducible refine Wp ?_
   simp only [go_sem,fN,seval,true_implies,false_implies,implies_true,dT,dF,nL,hn,hl']
   (try with_reducible refine iC ?_)
   repeat' with_reducible first | refine W ?_ | refine Z0 ?_ | ((first | refine Wo fun K hK=>?_ | refine Wq ?_ | refine Wr ?_);(try simp only [go_sem,fN,seval,eT,iR]);(repeat refine Ai ?_);(try (refine hK _ ?_;clear hK K)))
   refine IWP.loop (fun n s=>∃ k,k≤a.args.length∧n=a.args.length - k∧a.args.take k=b.args.take k∧s.env 2=.one (.ptr 2 1 0 0)∧s.env 3=.one (.ptr 3 1 0 0)∧s.S 2=some (.box 39 [.st (.str b.name),.st (.list (a.args.map A_))])∧s.S 3=some (.box 39 [.st (.str b.name),.st (.list (b.args.map A_))])∧s.env 5=AK k) a.args.length ⟨0,Nat.zero_le _,rfl,rfl,rfl,rfl,rfl,rfl,rfl⟩ ?_
   rintro n ⟨env,S⟩ ⟨k,hk,rfl,h0,e2,e3,s2,s3,e5⟩
   simp only at e2 e3 s2 s3 e5
   repeat' with_reducible first | refine W ?_ | refine Z0 ?_ | ((first | refine Wo fun K hK=>?_ | refine Wq ?_ | refine Wr ?_);(try simp only [go_sem,fN,seval,eT,iR,e2,e3,s2,s3,e5]);(repeat refine Ai ?_);(try (refine hK _ ?_;clear hK K)))
   with_reducible refine Wp ?_
   simp only [go_sem,fN,seval,true_implies,false_implies,implies_true,dT,dF,nL]
   (try with_reducible refine iC ?_)
   refine ⟨fun hlt=>?_,fun hge=>?_⟩
   ·obtain ⟨x,hx⟩:=Ab (show k < a.args.length by omega)
    obtain ⟨y,hy⟩:=Ab (show k < b.args.length by omega)
    repeat' (first | (with_reducible first | refine W ?_ | refine Z0 ?_ | ((first | refine Wo fun K hK=>?_ | refine Wq ?_ | refine Wr ?_);(try simp only [go_sem,fN,seval,eT,iR,e2,e3,s2,s3,e5,hx,hy]);(repeat refine Ai ?_);(try (refine hK _ ?_;clear hK K)))) | refine Cg _ (ih _ (Tm.lt_of_arg (AM hx)) x y rfl) ?_)
    cases hxy:x.beq y with
    | false =>
     with_reducible refine Wp ?_
     simp only [go_sem,fN,seval,true_implies,false_implies,implies_true,dT,dF,nL]
     (try with_reducible refine iC ?_)
     repeat' with_reducible first | refine W ?_ | refine Z0 ?_ | ((first | refine Wo fun K hK=>?_ | refine Wq ?_ | refine Wr ?_);(try simp only [go_sem,fN,seval,eT,iR]);(repeat refine Ai ?_);(try (refine hK _ ?_;clear hK K)))
     simp only [go_sem,fN,seval,AP,AS.result,AH,AI,AN]
     rw [hno fun e=>by
      subst e
      rw [hx] at hy
      cases hy
      rw [Tm.beq_refl] at hxy
      cases hxy]
    | true =>
     have hxy:=(Tm.beq_iff x y).1 hxy
     with_reducible refine Wp ?_
     simp only [go_sem,fN,seval,true_implies,false_implies,implies_true,dT,dF,nL]
     (try with_reducible refine iC ?_)
     repeat' with_reducible first | refine W ?_ | refine Z0 ?_ | ((first | refine Wo fun K hK=>?_ | refine Wq ?_ | refine Wr ?_);(try simp only [go_sem,fN,seval,eT,iR,e2,e3,s2,s3,e5]);(repeat refine Ai ?_);(try (refine hK _ ?_;clear hK K)))
     refine AA ⟨a.args.length - (k + 1),by omega,k + 1,by omega,rfl,?_,?_⟩
     ·rw [AQ hx,AQ hy,h0,hxy]
     ·simp only [go_sem,fN,seval,eT,iR,e2,e3,s2,s3,e5]
      congr 3
   ·repeat' with_reducible first | refine W ?_ | refine Z0 ?_ | ((first | refine Wo fun K hK=>?_ | refine Wq ?_ | refine Wr ?_);(try simp only [go_sem,fN,seval,eT,iR]);(repeat refine Ai ?_);(try (refine hK _ ?_;clear hK K)))
    simp only [go_sem,fN,seval,AP,AS.result,AH,AI,AN]
    rw [List.take_of_length_le (by omega),List.take_of_length_le (by omega)] at h0
    rw [Tm.eq_of hn h0,Tm.beq_refl]
  ·have hl':¬ (a.args.length:Int)=b.args.length:=by omega
   repeat' with_reducible first | refine W ?_ | refine Z0 ?_ | ((first | refine Wo fun K hK=>?_ | refine Wq ?_ | refine Wr ?_);(try simp only [go_sem,fN,seval,eT,iR,hn,hl']);(repeat refine Ai ?_);(try (refine hK _ ?_;clear hK K)))
   with_reducible refine Wp ?_
   simp only [go_sem,fN,seval,true_implies,false_implies,implies_true,dT,dF,nL,hn,hl']
   (try with_reducible refine iC ?_)
   repeat' with_reducible first | refine W ?_ | refine Z0 ?_ | ((first | refine Wo fun K hK=>?_ | refine Wq ?_ | refine Wr ?_);(try simp only [go_sem,fN,seval,eT,iR]);(repeat refine Ai ?_);(try (refine hK _ ?_;clear hK K)))
   simp only [go_sem,fN,seval,AP,AS.result,AH,AI,AN]
   rw [hno fun e=>hl (by rw [e])]
 ·repeat' with_reducible first | refine W ?_ | refine Z0 ?_ | ((first | refine Wo fun K hK=>?_ | refine Wq ?_ | refine Wr ?_);(try simp only [go_sem,fN,seval,eT,iR,hn]);(repeat refine Ai ?_);(try (refine hK _ ?_;clear hK K)))
  with_reducible refine Wp ?_
  simp only [go_sem,fN,seval,true_implies,false_implies,implies_true,dT,dF,nL,hn]
  (try with_reducible refine iC ?_)
  repeat' with_reducible first | refine W ?_ | refine Z0 ?_ | ((first | refine Wo fun K hK=>?_ | refine Wq ?_ | refine Wr ?_);(try simp only [go_sem,fN,seval,eT,iR]);(repeat refine Ai ?_);(try (refine hK _ ?_;clear hK K)))
  simp only [go_sem,fN,seval,AP,AS.result,AH,AI,AN]
  rw [hno fun e=>hn (by rw [e])]
def Tm.nil:Tm:=.mk ⟨#[]⟩ []
def Jp (a:Tm) (e:Int) (b:Tm) (f:Int):Bool:=if f=0 then decide (e=0) && a.beq b else decide (e=f) && a.beq Tm.nil
theorem Kh (a:Tm) (e f:Int) (h:f ≠ 0→a=Tm.nil) (he:e=f):Jp a e a f=true:=by
 unfold Jp
 subst he
 by_cases h0:e=0
 ·simp [h0,Tm.beq_refl]
 ·rw [if_neg h0,h h0]
  simp [Tm.beq_refl]
theorem SW (a b:Tm) (e f:Int):AU Try.prog 44 [aTm a,AK e,aTm b,AK f] (Ag (Jp a e b f)):=by
 refine Rc.ac fun C hC=>?_
 unfold KZ
 by_cases hf:f=0
 ·repeat' with_reducible first | refine W ?_ | refine Z0 ?_ | ((first | refine Wo fun K hK=>?_ | refine Wq ?_ | refine Wr ?_);(try simp only [go_sem,fN,seval,eT,iR,hf]);(repeat refine Ai ?_);(try (refine hK _ ?_;clear hK K)))
  with_reducible refine Wp ?_
  simp only [go_sem,fN,seval,true_implies,false_implies,implies_true,dT,dF,nL,hf]
  (try with_reducible refine iC ?_)
  by_cases he:e=0
  ·repeat' (first | (with_reducible first | refine W ?_ | refine Z0 ?_ | ((first | refine Wo fun K hK=>?_ | refine Wq ?_ | refine Wr ?_);(try simp only [go_sem,fN,seval,eT,iR,he,hf]);(repeat refine Ai ?_);(try (refine hK _ ?_;clear hK K)))) | refine Cg _ (W6 a b) ?_)
   simp only [go_sem,fN,seval,AP,AS.result,AH,AI,AN,Jp,hf,he]
   try simp
  ·repeat' with_reducible first | refine W ?_ | refine Z0 ?_ | ((first | refine Wo fun K hK=>?_ | refine Wq ?_ | refine Wr ?_);(try simp only [go_sem,fN,seval,eT,iR,he,hf]);(repeat refine Ai ?_);(try (refine hK _ ?_;clear hK K)))
   simp only [go_sem,fN,seval,AP,AS.result,AH,AI,AN,Jp,hf,he]
   try simp
 ·repeat' with_reducible first | refine W ?_ | refine Z0 ?_ | ((first | refine Wo fun K hK=>?_ | refine Wq ?_ | refine Wr ?_);(try simp only [go_sem,fN,seval,eT,iR,hf]);(repeat refine Ai ?_);(try (refine hK _ ?_;clear hK K)))
  with_reducible refine Wp ?_
  simp only [go_sem,fN,seval,true_implies,false_implies,implies_true,dT,dF,nL,hf]
  (try with_reducible refine iC ?_)
  by_cases he:e=f
  ·have hf':¬ e=0:=by omega
   by_cases hn:a.name=⟨#[]⟩
   ·repeat' with_reducible first | refine W ?_ | refine Z0 ?_ | ((first | refine Wo fun K hK=>?_ | refine Wq ?_ | refine Wr ?_);(try simp only [go_sem,fN,seval,eT,iR,he,hf,hn]);(repeat refine Ai ?_);(try (refine hK _ ?_;clear hK K)))
    simp only [go_sem,fN,seval,AP,AS.result,AH,AI,AN,Jp,hf,he,hn]
    congr 4
    simp only [Bool.true_and]
    rw [Bool.eq_iff_iff,Tm.beq_iff,decide_eq_true_eq]
    constructor
    ·intro h
     have:a.args=[]:=List.eq_nil_of_length_eq_zero (by omega)
     exact Tm.eq_of hn this
    ·intro h
     rw [h]
     rfl
   ·repeat' with_reducible first | refine W ?_ | refine Z0 ?_ | ((first | refine Wo fun K hK=>?_ | refine Wq ?_ | refine Wr ?_);(try simp only [go_sem,fN,seval,eT,iR,he,hf,hn]);(repeat refine Ai ?_);(try (refine hK _ ?_;clear hK K)))
    simp only [go_sem,fN,seval,AP,AS.result,AH,AI,AN,Jp,hf,he,hn]
    simp only [Bool.true_and]
    rw [show a.beq Tm.nil=false by
     rw [← Bool.not_eq_true,Tm.beq_iff]
     intro h
     exact hn (by rw [h];rfl)]
  ·repeat' with_reducible first | refine W ?_ | refine Z0 ?_ | ((first | refine Wo fun K hK=>?_ | refine Wq ?_ | refine Wr ?_);(try simp only [go_sem,fN,seval,eT,iR,he,hf]);(repeat refine Ai ?_);(try (refine hK _ ?_;clear hK K)))
   simp only [go_sem,fN,seval,AP,AS.result,AH,AI,AN,Jp,hf,he]
   try simp

set_option maxHeartbeats 1000000
def Ae (m:Mv):List SV:=[.str m.name,.list (m.frm.map BK),.int .i64 m.to_]
abbrev aAu (a:Au):AV:=.agg [.st (.int .i64 a.states),.st (.list (a.moves.map Ae)),.st (.list (a.last.map BK))]
abbrev Qd (b:Bool):List SV:=[.bool b]
abbrev Ml (l:List Bool):List SV:=[.list (l.map Qd)]
abbrev He (l:List Bool):AV:=.one (.st (.list (l.map Qd)))
abbrev XU (l:List (List Bool)):AV:=.one (.st (.list (l.map Ml)))
theorem HY {ts:List Mv}:∀ x ∈ ts.map Ae,x.length=3:=by
 intro x hx
 obtain ⟨a,_,rfl⟩:=List.mem_map.1 hx
 rfl
theorem FH {ts:List Int}:∀ x ∈ ts.map BK,x.length=1:=by
 intro x hx
 obtain ⟨a,_,rfl⟩:=List.mem_map.1 hx
 rfl
theorem LC {ts:List (List Bool)}:∀ x ∈ ts.map Ml,x.length=1:=by
 intro x hx
 obtain ⟨a,_,rfl⟩:=List.mem_map.1 hx
 rfl
theorem Hu {S:AB} {a:Au} (h:(aAu a).known S):a.moves.length≤9223372036854775807∧a.last.length≤9223372036854775807∧∀ m ∈ a.moves,m.frm.length≤9223372036854775807:=by
 have h1:=h (.st (.list (a.moves.map Ae))) (by simp)
 have h2:=h (.st (.list (a.last.map BK))) (by simp)
 simp only [AC.known,SV.known,List.length_map] at h1 h2
 rw [BM] at h1 h2
 refine ⟨h1.1,h2.1,fun m hm=>?_⟩
 have h3:=FQ.1 (Ea.1 h1.2 (Ae m) (List.mem_map.2 ⟨m,hm,rfl⟩)) (.list (m.frm.map BK)) (by simp [Ae])
 simp only [SV.known,List.length_map] at h3
 rw [BM] at h3
 exact h3.1
theorem DJ {α:Type} {p:α→Bool} {xs:List α} {k:Nat} {a:α} (ha:xs[k]?=some a) (h:(xs.take k).all p=true):(xs.take (k + 1)).all p=p a:=by
 rw [AQ ha,List.all_append,h]
 simp
theorem JK {α:Type} {p:α→Bool} {xs:List α} {k:Nat} {a:α} (ha:xs[k]?=some a) (h:(xs.take k).any p=false):(xs.take (k + 1)).any p=p a:=by
 rw [AQ ha,List.any_append,h]
 simp
theorem SH {α:Type} {p:α→Bool} {xs:List α} {k:Nat} (h:(xs.take k).any p=true):xs.any p=true:=by
 rw [List.any_eq_true] at h ⊢
 obtain ⟨x,hx,h2⟩:=h
 exact ⟨x,List.mem_of_mem_take hx,h2⟩
theorem LK {α:Type} {p:α→Bool} {xs:List α} {a:α} (ha:a ∈ xs) (h:p a=false):xs.all p=false:=by
 rw [List.all_eq_false]
 exact ⟨a,ha,by simp [h]⟩
def Au.huge (a:Au):Bool:=a.moves.any (fun m=>decide (50 < m.frm.length)) || decide (100 < a.moves.length) || decide (100 < a.last.length)
theorem AZ (a:Au):AU Try.prog 7 [aAu a] (Ag a.huge):=by
 refine MD.ac fun C hC=>?_
 unfold G6
 refine IWP.learn 0 (by omega) fun hkn=>?_
 obtain ⟨kM,kL,kF⟩:=Hu hkn
 repeat' with_reducible first | refine W ?_ | refine Z0 ?_ | ((first | refine Wo fun K hK=>?_ | refine Wp ?_ | refine Wq ?_ | refine Wr ?_);(try simp only [go_sem,fN,seval,eT,iR,dT,dF,nL]);(repeat refine Ai ?_);(try (refine hK _ ?_;clear hK K));try refine iC ?_)
 refine IWP.loop (fun n s=>∃ k,k≤a.moves.length∧n=a.moves.length - k∧s.env 1=.one (.ptr 1 1 0 0)∧s.S 1=some (.box 25 [.st (.int .i64 a.states),.st (.list (a.moves.map Ae)),.st (.list (a.last.map BK))])∧s.env 3=AK k∧(a.moves.take k).any (fun m=>decide (50 < m.frm.length))=false) a.moves.length ⟨0,Nat.zero_le _,rfl,rfl,rfl,rfl,rfl⟩ ?_
 rintro n ⟨env,S⟩ ⟨k,hk,rfl,e1,s1,e3,hno⟩
 simp only at e1 s1 e3
 by_cases hlt:(k:Int) < a.moves.length
 ·obtain ⟨m,hm⟩:=Ab (show k < a.moves.length by omega)
  have hst:=JK hm hno
  by_cases hb:(50:Int) < m.frm.length
  ·have h2:a.huge=true:=by
    unfold Au.huge
    rw [SH (k:=k + 1) (by rw [hst];simpa using (show 50 < m.frm.length by omega))]
    rfl
   repeat' with_reducible first | refine W ?_ | refine Z0 ?_ | ((first | refine Wo fun K hK=>?_ | refine Wp ?_ | refine Wq ?_ | refine Wr ?_);(try simp only [go_sem,fN,seval,eT,iR,e1,s1,e3,hlt,hm,Ae,hb,dT,dF,nL]);(repeat refine Ai ?_);(try (refine hK _ ?_;clear hK K));try refine iC ?_)
   simp only [go_sem,fN,seval,AP,AS.result,AH,AI,AN,h2]
  ·repeat' with_reducible first | refine W ?_ | refine Z0 ?_ | ((first | refine Wo fun K hK=>?_ | refine Wp ?_ | refine Wq ?_ | refine Wr ?_);(try simp only [go_sem,fN,seval,eT,iR,e1,s1,e3,hlt,hm,Ae,hb,dT,dF,nL]);(repeat refine Ai ?_);(try (refine hK _ ?_;clear hK K));try refine iC ?_)
   refine AA ⟨a.moves.length - (k + 1),by omega,k + 1,by omega,rfl,?_⟩
   simp only [go_sem,fN,seval,eT,iR,e1,s1,e3]
   exact ⟨by congr 3,by rw [hst];simpa using (show ¬ 50 < m.frm.length by omega)⟩
 ·have hno':a.moves.any (fun m=>decide (50 < m.frm.length))=false:=by
   rw [List.take_of_length_le (by omega)] at hno
   exact hno
  by_cases h1:(100:Int) < a.moves.length
  ·have h2:a.huge=true:=by
    unfold Au.huge
    simp [show 100 < a.moves.length by omega]
   repeat' with_reducible first | refine W ?_ | refine Z0 ?_ | ((first | refine Wo fun K hK=>?_ | refine Wp ?_ | refine Wq ?_ | refine Wr ?_);(try simp only [go_sem,fN,seval,eT,iR,e1,s1,e3,hlt,h1,dT,dF,nL]);(repeat refine Ai ?_);(try (refine hK _ ?_;clear hK K));try refine iC ?_)
   simp only [go_sem,fN,seval,AP,AS.result,AH,AI,AN,h2]
  ·by_cases h3:(100:Int) < a.last.length
   ·have h2:a.huge=true:=by
     unfold Au.huge
     simp [show 100 < a.last.length by omega]
    repeat' with_reducible first | refine W ?_ | refine Z0 ?_ | ((first | refine Wo fun K hK=>?_ | refine Wp ?_ | refine Wq ?_ | refine Wr ?_);(try simp only [go_sem,fN,seval,eT,iR,e1,s1,e3,hlt,h1,h3,dT,dF,nL]);(repeat refine Ai ?_);(try (refine hK _ ?_;clear hK K));try refine iC ?_)
    simp only [go_sem,fN,seval,AP,AS.result,AH,AI,AN,h2]
   ·have h2:a.huge=false:=by
     unfold Au.huge
     rw [hno']
     simp [show ¬ 100 < a.moves.length by omega,show ¬ 100 < a.last.length by omega]
    repeat' with_reducible first | refine W ?_ | refine Z0 ?_ | ((first | refine Wo fun K hK=>?_ | refine Wp ?_ | refine Wq ?_ | refine Wr ?_);(try simp only [go_sem,fN,seval,eT,iR,e1,s1,e3,hlt,h1,h3,dT,dF,nL]);(repeat refine Ai ?_);(try (refine hK _ ?_;clear hK K));try refine iC ?_)
    simp only [go_sem,fN,seval,AP,AS.result,AH,AI,AN,h2]
theorem Pg {S:Int} {m:Mv} (h:¬ Az m.name=true):m.err S=1:=if_neg (fun h'=>h h'.1)
theorem SA {S:Int} {m:Mv} (h:BH m.name=true):m.err S=1:=if_neg (fun h'=>by rw [h] at h';exact absurd h'.2 (by decide))
theorem R8 {S:Int} {m:Mv} (h1:Az m.name=true) (h2:¬ BH m.name=true) (h:4 < m.frm.length):m.err S=3:=by
 unfold Mv.err
 rw [if_pos ⟨h1,by simpa using h2⟩,if_pos h]
theorem OV {S:Int} {m:Mv} (h1:Az m.name=true) (h2:¬ BH m.name=true) (h3:¬ 4 < m.frm.length) {s:Int} (hs:s ∈ m.frm) (h:s < 0 ∨ S≤s):m.err S=10:=by
 unfold Mv.err
 rw [if_pos ⟨h1,by simpa using h2⟩,if_neg h3,if_neg]
 intro h'
 have:=B9.1 (List.all_eq_true.1 h'.1 s hs)
 omega
theorem RY {S:Int} {m:Mv} (h1:Az m.name=true) (h2:¬ BH m.name=true) (h3:¬ 4 < m.frm.length) (h:m.to_ < 0 ∨ S≤m.to_):m.err S=10:=by
 unfold Mv.err
 rw [if_pos ⟨h1,by simpa using h2⟩,if_neg h3,if_neg]
 intro h'
 have:=B9.1 h'.2
 omega
theorem PP {S:Int} {m:Mv} (h1:Az m.name=true) (h2:¬ BH m.name=true) (h3:¬ 4 < m.frm.length) (h4:m.frm.all (inS S)=true) (h5:inS S m.to_=true):m.err S=0:=by
 unfold Mv.err
 rw [if_pos ⟨h1,by simpa using h2⟩,if_neg h3,if_pos ⟨h4,h5⟩]
theorem CD {a:Au} {S M:Int} {k:Nat} {m:Mv} (h0:¬ (a.states < 0 ∨ S < a.states ∨ M < a.moves.length)) (hm:a.moves[k]?=some m) (ht:Bb a.states (a.moves.take k)=0) {e:Int} (he:m.err a.states=e) (hne:e ≠ 0):a.may S M=e:=by
 have h1:¬ Bb a.states (a.moves.take (k + 1))=0:=by
  rw [EX hm ht,he]
  exact hne
 have h2:=TV h1
 rw [EX hm ht,he] at h2
 unfold Au.may
 rw [if_neg h0,h2,if_neg hne]
theorem PF {a:Au} {S M:Int} (h0:¬ (a.states < 0 ∨ S < a.states ∨ M < a.moves.length)) (ht:Bb a.states a.moves=0):a.may S M=if a.last.all (inS a.states)=true then 0 else 10:=by
 unfold Au.may
 rw [if_neg h0,if_pos ht]
theorem KG {S s:Int} (h:s < 0 ∨ S≤s):inS S s=false:=by
 cases hh:inS S s with
 | false=>rfl
 | true =>
  have:=B9.1 hh
  omega
theorem Lc {S s:Int} (h1:¬ s < 0) (h2:¬ S≤s):inS S s=true:=B9.2 (by omega)
theorem B1 (a:Au) (S M:Int):AU Try.prog 8 [aAu a,AK S,AK M] (AK (a.may S M)):=by
 by_cases h1:a.states < 0
 ·have e:a.may S M=3:=if_pos (Or.inl h1)
  rw [e]
  refine D0.ac fun C hC=>?_
  unfold C0
  repeat' with_reducible first | refine W ?_ | refine Z0 ?_ | ((first | refine Wo fun K hK=>?_ | refine Wp ?_ | refine Wq ?_ | refine Wr ?_);(try simp only [go_sem,fN,seval,eT,iR,h1,dT,dF,nL]);(repeat refine Ai ?_);(try (refine hK _ ?_;clear hK K));try refine iC ?_)
  simp only [go_sem,fN,seval,AP,AS.result,AH,AI,AN]
 by_cases h2:S < a.states
 ·have e:a.may S M=3:=if_pos (Or.inr (Or.inl h2))
  rw [e]
  refine D0.ac fun C hC=>?_
  unfold C0
  repeat' with_reducible first | refine W ?_ | refine Z0 ?_ | ((first | refine Wo fun K hK=>?_ | refine Wp ?_ | refine Wq ?_ | refine Wr ?_);(try simp only [go_sem,fN,seval,eT,iR,h1,h2,dT,dF,nL]);(repeat refine Ai ?_);(try (refine hK _ ?_;clear hK K));try refine iC ?_)
  simp only [go_sem,fN,seval,AP,AS.result,AH,AI,AN]
 by_cases h3:M < a.moves.length
 ·have e:a.may S M=3:=if_pos (Or.inr (Or.inr h3))
  rw [e]
  refine D0.ac fun C hC=>?_
  unfold C0
  repeat' with_reducible first | refine W ?_ | refine Z0 ?_ | ((first | refine Wo fun K hK=>?_ | refine Wp ?_ | refine Wq ?_ | refine Wr ?_);(try simp only [go_sem,fN,seval,eT,iR,h1,h2,h3,dT,dF,nL]);(repeat refine Ai ?_);(try (refine hK _ ?_;clear hK K));try refine iC ?_)
  simp only [go_sem,fN,seval,AP,AS.result,AH,AI,AN]
 have h0:¬ (a.states < 0 ∨ S < a.states ∨ M < a.moves.length):=by omega
 refine D0.ac fun C hC=>?_
 unfold C0
 refine IWP.learn 0 (by omega) fun hkn=>?_
 obtain ⟨kM,kL,kF⟩:=Hu hkn
 repeat' with_reducible first | refine W ?_ | refine Z0 ?_ | ((first | refine Wo fun K hK=>?_ | refine Wp ?_ | refine Wq ?_ | refine Wr ?_);(try simp only [go_sem,fN,seval,eT,iR,h1,h2,h3,dT,dF,nL]);(repeat refine Ai ?_);(try (refine hK _ ?_;clear hK K));try refine iC ?_)
 refine IWP.loopD [8] (fun n s=>∃ k,k≤a.moves.length∧n=a.moves.length - k∧s.env 3=.one (.ptr 3 1 0 0)∧s.S 3=some (.box 25 [.st (.int .i64 a.states),.st (.list (a.moves.map Ae)),.st (.list (a.last.map BK))])∧s.env 7=AK k∧s.S 8=none∧Bb a.states (a.moves.take k)=0) a.moves.length ⟨0,Nat.zero_le _,rfl,rfl,rfl,rfl,rfl,rfl⟩ ?_
 rintro n ⟨env,St⟩ ⟨k,hk,rfl,e3,s3,e7,s8,hno⟩
 simp only at e3 s3 e7 s8
 by_cases hlt:(k:Int) < a.moves.length
 ·obtain ⟨m,hm⟩:=Ab (show k < a.moves.length by omega)
  have hmm:=AM hm
  have hst:=EX hm hno
  by_cases g1:Az m.name=true
  case neg =>
   have e:=CD h0 hm hno (Pg g1) (by decide)
   repeat' (first | (with_reducible first | refine W ?_ | refine Z0 ?_ | ((first | refine Wo fun K hK=>?_ | refine Wp ?_ | refine Wq ?_ | refine Wr ?_);(try simp only [go_sem,fN,seval,eT,iR,e3,s3,e7,s8,hlt,hm,Ae,g1,dT,dF,nL]);(repeat refine Ai ?_);(try (refine hK _ ?_;clear hK K));try refine iC ?_)) | refine Cg _ (F6 m.name) ?_)
   simp only [go_sem,fN,seval,AP,AS.result,AH,AI,AN,e]
  case pos =>
  by_cases g2:BH m.name=true
  ·have e:=CD h0 hm hno (SA g2) (by decide)
   repeat' (first | (with_reducible first | refine W ?_ | refine Z0 ?_ | ((first | refine Wo fun K hK=>?_ | refine Wp ?_ | refine Wq ?_ | refine Wr ?_);(try simp only [go_sem,fN,seval,eT,iR,e3,s3,e7,s8,hlt,hm,Ae,g1,g2,dT,dF,nL]);(repeat refine Ai ?_);(try (refine hK _ ?_;clear hK K));try refine iC ?_)) | refine Cg _ (F6 m.name) ?_ | refine Cg _ (Ip m.name) ?_)
   simp only [go_sem,fN,seval,AP,AS.result,AH,AI,AN,e]
  by_cases g3:(4:Int) < m.frm.length
  ·have e:=CD h0 hm hno (R8 g1 g2 (by omega)) (by decide)
   repeat' (first | (with_reducible first | refine W ?_ | refine Z0 ?_ | ((first | refine Wo fun K hK=>?_ | refine Wp ?_ | refine Wq ?_ | refine Wr ?_);(try simp only [go_sem,fN,seval,eT,iR,e3,s3,e7,s8,hlt,hm,Ae,g1,g2,g3,dT,dF,nL]);(repeat refine Ai ?_);(try (refine hK _ ?_;clear hK K));try refine iC ?_)) | refine Cg _ (F6 m.name) ?_ | refine Cg _ (Ip m.name) ?_)
   simp only [go_sem,fN,seval,AP,AS.result,AH,AI,AN,e]
  have g3':¬ 4 < m.frm.length:=by omega
  repeat' (first | (with_reducible first | refine W ?_ | refine Z0 ?_ | ((first | refine Wo fun K hK=>?_ | refine Wp ?_ | refine Wq ?_ | refine Wr ?_);(try simp only [go_sem,fN,seval,eT,iR,e3,s3,e7,s8,hlt,hm,Ae,g1,g2,g3,dT,dF,nL]);(repeat refine Ai ?_);(try (refine hK _ ?_;clear hK K));try refine iC ?_)) | refine Cg _ (F6 m.name) ?_ | refine Cg _ (Ip m.name) ?_)
  refine IWP.loop (fun n s=>∃ j,j≤m.frm.length∧n=m.frm.length - j∧s.env 3=.one (.ptr 3 1 0 0)∧s.S 3=some (.box 25 [.st (.int .i64 a.states),.st (.list (a.moves.map Ae)),.st (.list (a.last.map BK))])∧s.env 7=AK k∧s.env 8=.one (.ptr 8 1 0 0)∧s.S 8=some (.box 46 [.st (.str m.name),.st (.list (m.frm.map BK)),.st (.int .i64 m.to_)])∧s.env 9=AK j∧(m.frm.take j).all (inS a.states)=true) m.frm.length ⟨0,Nat.zero_le _,rfl,by simpa [AD] using e3,by simpa [AD] using s3,by simpa [AD] using e7,rfl,by simp [AD],rfl,rfl⟩ ?_
  rintro n ⟨env2,S2⟩ ⟨j,hj,rfl,f3,t3,f7,f8,t8,f9,hall⟩
  simp only at f3 t3 f7 f8 t8 f9
  have kFm:=kF m hmm
  by_cases hjl:(j:Int) < m.frm.length
  ·obtain ⟨s,hs⟩:=Ab (show j < m.frm.length by omega)
   have hst2:=DJ hs hall
   by_cases g4:s < 0
   ·have e:=CD h0 hm hno (OV g1 g2 g3' (AM hs) (Or.inl g4)) (by decide)
    repeat' with_reducible first | refine W ?_ | refine Z0 ?_ | ((first | refine Wo fun K hK=>?_ | refine Wp ?_ | refine Wq ?_ | refine Wr ?_);(try simp only [go_sem,fN,seval,eT,iR,f3,t3,f7,f8,t8,f9,hjl,hs,g4,dT,dF,nL]);(repeat refine Ai ?_);(try (refine hK _ ?_;clear hK K));try refine iC ?_)
    simp only [go_sem,fN,seval,AP,AS.result,AH,AI,AN,e]
   by_cases g5:a.states≤s
   ·have e:=CD h0 hm hno (OV g1 g2 g3' (AM hs) (Or.inr g5)) (by decide)
    repeat' with_reducible first | refine W ?_ | refine Z0 ?_ | ((first | refine Wo fun K hK=>?_ | refine Wp ?_ | refine Wq ?_ | refine Wr ?_);(try simp only [go_sem,fN,seval,eT,iR,f3,t3,f7,f8,t8,f9,hjl,hs,g4,g5,dT,dF,nL]);(repeat refine Ai ?_);(try (refine hK _ ?_;clear hK K));try refine iC ?_)
    simp only [go_sem,fN,seval,AP,AS.result,AH,AI,AN,e]
   ·repeat' with_reducible first | refine W ?_ | refine Z0 ?_ | ((first | refine Wo fun K hK=>?_ | refine Wp ?_ | refine Wq ?_ | refine Wr ?_);(try simp only [go_sem,fN,seval,eT,iR,f3,t3,f7,f8,t8,f9,hjl,hs,g4,g5,dT,dF,nL]);(repeat refine Ai ?_);(try (refine hK _ ?_;clear hK K));try refine iC ?_)
    refine AA ⟨m.frm.length - (j + 1),by omega,j + 1,by omega,rfl,?_⟩
    simp only [go_sem,fN,seval,eT,iR,f3,t3,f7,f8,t8,f9]
    exact ⟨by congr 3,by rw [hst2];exact Lc g4 g5⟩
  ·rw [List.take_of_length_le (by omega)] at hall
   by_cases g6:m.to_ < 0
   ·have e:=CD h0 hm hno (RY g1 g2 g3' (Or.inl g6)) (by decide)
    repeat' with_reducible first | refine W ?_ | refine Z0 ?_ | ((first | refine Wo fun K hK=>?_ | refine Wp ?_ | refine Wq ?_ | refine Wr ?_);(try simp only [go_sem,fN,seval,eT,iR,f3,t3,f7,f8,t8,f9,hjl,g6,dT,dF,nL]);(repeat refine Ai ?_);(try (refine hK _ ?_;clear hK K));try refine iC ?_)
    simp only [go_sem,fN,seval,AP,AS.result,AH,AI,AN,e]
   by_cases g7:a.states≤m.to_
   ·have e:=CD h0 hm hno (RY g1 g2 g3' (Or.inr g7)) (by decide)
    repeat' with_reducible first | refine W ?_ | refine Z0 ?_ | ((first | refine Wo fun K hK=>?_ | refine Wp ?_ | refine Wq ?_ | refine Wr ?_);(try simp only [go_sem,fN,seval,eT,iR,f3,t3,f7,f8,t8,f9,hjl,g6,g7,dT,dF,nL]);(repeat refine Ai ?_);(try (refine hK _ ?_;clear hK K));try refine iC ?_)
    simp only [go_sem,fN,seval,AP,AS.result,AH,AI,AN,e]
   ·repeat' with_reducible first | refine W ?_ | refine Z0 ?_ | ((first | refine Wo fun K hK=>?_ | refine Wp ?_ | refine Wq ?_ | refine Wr ?_);(try simp only [go_sem,fN,seval,eT,iR,f3,t3,f7,f8,t8,f9,hjl,g6,g7,dT,dF,nL]);(repeat refine Ai ?_);(try (refine hK _ ?_;clear hK K));try refine iC ?_)
    refine AA ⟨a.moves.length - (k + 1),by omega,k + 1,by omega,rfl,?_⟩
    simp only [go_sem,fN,seval,AS.drop,AY,AC.clears,AC.clear,AC.highs,AC.high,Bool.not_false,Bool.true_and,Bool.and_self,AV.purge,AV.purges,AC.purge,AL.purge,List.contains_cons,List.contains_nil,Nat.reduceBEq,Bool.or_self,Bool.or_false,Bool.false_or,Bool.or_true,eT,iR,f3,t3,f7,f8,t8,f9]
    exact ⟨by congr 3,by rw [hst];exact PP g1 g2 g3' hall (Lc g6 g7)⟩
 ·rw [List.take_of_length_le (by omega)] at hno
  have e:=PF (S:=S) (M:=M) h0 hno
  repeat' with_reducible first | refine W ?_ | refine Z0 ?_ | ((first | refine Wo fun K hK=>?_ | refine Wp ?_ | refine Wq ?_ | refine Wr ?_);(try simp only [go_sem,fN,seval,eT,iR,e3,s3,e7,s8,hlt,dT,dF,nL]);(repeat refine Ai ?_);(try (refine hK _ ?_;clear hK K));try refine iC ?_)
  refine IWP.loop (fun n s=>∃ k,k≤a.last.length∧n=a.last.length - k∧s.env 3=.one (.ptr 3 1 0 0)∧s.S 3=some (.box 25 [.st (.int .i64 a.states),.st (.list (a.moves.map Ae)),.st (.list (a.last.map BK))])∧s.env 10=AK k∧(a.last.take k).all (inS a.states)=true) a.last.length ⟨0,Nat.zero_le _,rfl,by simpa [AD] using e3,by simpa [AD] using s3,rfl,rfl⟩ ?_
  rintro n ⟨env2,S2⟩ ⟨j,hj,rfl,f3,t3,f10,hall⟩
  simp only at f3 t3 f10
  by_cases hjl:(j:Int) < a.last.length
  ·obtain ⟨s,hs⟩:=Ab (show j < a.last.length by omega)
   have hst2:=DJ hs hall
   by_cases g4:s < 0
   ·rw [LK (AM hs) (KG (Or.inl g4)),if_neg (by decide)] at e
    repeat' with_reducible first | refine W ?_ | refine Z0 ?_ | ((first | refine Wo fun K hK=>?_ | refine Wp ?_ | refine Wq ?_ | refine Wr ?_);(try simp only [go_sem,fN,seval,eT,iR,f3,t3,f10,hjl,hs,g4,dT,dF,nL]);(repeat refine Ai ?_);(try (refine hK _ ?_;clear hK K));try refine iC ?_)
    simp only [go_sem,fN,seval,AP,AS.result,AH,AI,AN,e]
   by_cases g5:a.states≤s
   ·rw [LK (AM hs) (KG (Or.inr g5)),if_neg (by decide)] at e
    repeat' with_reducible first | refine W ?_ | refine Z0 ?_ | ((first | refine Wo fun K hK=>?_ | refine Wp ?_ | refine Wq ?_ | refine Wr ?_);(try simp only [go_sem,fN,seval,eT,iR,f3,t3,f10,hjl,hs,g4,g5,dT,dF,nL]);(repeat refine Ai ?_);(try (refine hK _ ?_;clear hK K));try refine iC ?_)
    simp only [go_sem,fN,seval,AP,AS.result,AH,AI,AN,e]
   ·repeat' with_reducible first | refine W ?_ | refine Z0 ?_ | ((first | refine Wo fun K hK=>?_ | refine Wp ?_ | refine Wq ?_ | refine Wr ?_);(try simp only [go_sem,fN,seval,eT,iR,f3,t3,f10,hjl,hs,g4,g5,dT,dF,nL]);(repeat refine Ai ?_);(try (refine hK _ ?_;clear hK K));try refine iC ?_)
    refine AA ⟨a.last.length - (j + 1),by omega,j + 1,by omega,rfl,?_⟩
    simp only [go_sem,fN,seval,eT,iR,f3,t3,f10]
    exact ⟨by congr 3,by rw [hst2];exact Lc g4 g5⟩
  ·rw [List.take_of_length_le (by omega)] at hall
   rw [hall,if_pos rfl] at e
   repeat' with_reducible first | refine W ?_ | refine Z0 ?_ | ((first | refine Wo fun K hK=>?_ | refine Wp ?_ | refine Wq ?_ | refine Wr ?_);(try simp only [go_sem,fN,seval,eT,iR,f3,t3,f10,hjl,dT,dF,nL]);(repeat refine Ai ?_);(try (refine hK _ ?_;clear hK K));try refine iC ?_)
   simp only [go_sem,fN,seval,AP,AS.result,AH,AI,AN,e]

theorem VL (l:List Int) (hl:l.length≤1000000):AU Try.prog 49 [D7 l] (D7 l):=by
 refine Cq.ac fun C hC=>?_
 unfold B4
 by_cases h0:l.length=0
 ·have hl:l=[]:=List.eq_nil_of_length_eq_zero h0
  subst hl
  repeat' with_reducible first | refine W ?_ | refine Z0 ?_ | ((first | refine Wo fun K hK=>?_ | refine Wp ?_ | refine Wq ?_ | refine Wr ?_);(try simp only [go_sem,fN,seval,eT,iR,dT,dF,nL]);(repeat refine Ai ?_);(try (refine hK _ ?_;clear hK K));try refine iC ?_)
  refine ⟨?_,?_⟩
  ·repeat' with_reducible first | refine W ?_ | refine Z0 ?_ | ((first | refine Wo fun K hK=>?_ | refine Wp ?_ | refine Wq ?_ | refine Wr ?_);(try simp only [go_sem,fN,seval,eT,iR,dT,dF,nL]);(repeat refine Ai ?_);(try (refine hK _ ?_;clear hK K));try refine iC ?_)
   simp only [go_sem,fN,seval,AP,AS.result,AH,AI,AN]
   rfl
  ·repeat' with_reducible first | refine W ?_ | refine Z0 ?_ | ((first | refine Wo fun K hK=>?_ | refine Wp ?_ | refine Wq ?_ | refine Wr ?_);(try simp only [go_sem,fN,seval,eT,iR,dT,dF,nL]);(repeat refine Ai ?_);(try (refine hK _ ?_;clear hK K));try refine iC ?_)
   simp only [go_sem,fN,seval,AP,AS.result,AH,AI,AN]
   rfl
 ·have hb:l.length * 8≤140737488355328:=by omega
  repeat' with_reducible first | refine W ?_ | refine Z0 ?_ | ((first | refine Wo fun K hK=>?_ | refine Wp ?_ | refine Wq ?_ | refine Wr ?_);(try simp only [go_sem,fN,seval,eT,iR,h0,hb,dT,dF,nL]);(repeat refine Ai ?_);(try (refine hK _ ?_;clear hK K));try refine iC ?_)
  simp only [go_sem,fN,seval,AP,AS.result,AH,AI,AN]
theorem Om (l:List Int) (hl:l.length≤1000000):KN Try.prog 49 [D7 l] 3 1 (l.map BK):=by
 unfold KN
 rw [List.length_map]
 refine Cq.acS fun hS C hC=>?_
 unfold B4
 by_cases h0:l.length=0
 ·have hl:l=[]:=List.eq_nil_of_length_eq_zero h0
  subst hl
  repeat' with_reducible first | refine W ?_ | refine Z0 ?_ | ((first | refine Wo fun K hK=>?_ | refine Wp ?_ | refine Wq ?_ | refine Wr ?_);(try simp only [go_sem,fN,seval,eT,iR,dT,dF,nL]);(repeat refine Ai ?_);(try (refine hK _ ?_;clear hK K));try refine iC ?_)
  refine ⟨?_,?_⟩
  ·repeat' with_reducible first | refine W ?_ | refine Z0 ?_ | ((first | refine Wo fun K hK=>?_ | refine Wp ?_ | refine Wq ?_ | refine Wr ?_);(try simp only [go_sem,fN,seval,eT,iR,dT,dF,nL]);(repeat refine Ai ?_);(try (refine hK _ ?_;clear hK K));try refine iC ?_)
   refine Q3 (Ad.own (C:=C) 2 30 3 1 (xs:=[]) rfl rfl (by simp) (by omega)) ?_
   exact XS (mu:=false) trivial 30 (by decide) rfl (fun i hi=>by show AD _ _ _ _=_;rw [AF _ (by omega)];rfl) rfl
  ·repeat' with_reducible first | refine W ?_ | refine Z0 ?_ | ((first | refine Wo fun K hK=>?_ | refine Wp ?_ | refine Wq ?_ | refine Wr ?_);(try simp only [go_sem,fN,seval,eT,iR,dT,dF,nL]);(repeat refine Ai ?_);(try (refine hK _ ?_;clear hK K));try refine iC ?_)
   exact XS (mu:=false) trivial 7 (by decide) rfl (fun i hi=>by show AD _ _ _ _=_;rw [AF _ (by omega)];rfl) rfl
 ·have hb:l.length * 8≤140737488355328:=by omega
  repeat' with_reducible first | refine W ?_ | refine Z0 ?_ | ((first | refine Wo fun K hK=>?_ | refine Wp ?_ | refine Wq ?_ | refine Wr ?_);(try simp only [go_sem,fN,seval,eT,iR,h0,hb,dT,dF,nL]);(repeat refine Ai ?_);(try (refine hK _ ?_;clear hK K));try refine iC ?_)
  exact XS (mu:=false) trivial 7 (by decide) rfl (fun i hi=>by show AD _ _ _ _=_;rw [AF _ (by omega)];rfl) rfl

def AE (a:Au):AL:=.box 25 [.st (.int .i64 a.states),.st (.list (a.moves.map Ae)),.st (.list (a.last.map BK))]
theorem Qu (a:Au) (x:Int) (b:Nat) (hb:1000≤b) (S:AB) (sb:S b=some (AE a)):A2 Try.prog 72 [AK x,.one (.ptr b 1 0 0)] S (Ag (!inS a.states x)) S:=by
 refine Hs.acS fun hS C hC=>?_
 unfold EY
 unfold AE at sb
 by_cases h1:x < 0
 ·have e:inS a.states x=false:=KG (Or.inl h1)
  repeat' with_reducible first | refine W ?_ | refine Z0 ?_ | ((first | refine Wo fun K hK=>?_ | refine Wp ?_ | refine Wq ?_ | refine Wr ?_);(try simp only [go_sem,fN,seval,eT,iR,sb,h1,dT,dF,nL]);(repeat refine Ai ?_);(try (refine hK _ ?_;clear hK K));try refine iC ?_)
  refine CU (Ag (!inS a.states x)) hS trivial ?_ ?_ fun j hj=>?_
  ·rw [e]
   rfl
  ·rfl
  ·rfl
 by_cases h2:a.states≤x
 ·have e:inS a.states x=false:=KG (Or.inr h2)
  repeat' with_reducible first | refine W ?_ | refine Z0 ?_ | ((first | refine Wo fun K hK=>?_ | refine Wp ?_ | refine Wq ?_ | refine Wr ?_);(try simp only [go_sem,fN,seval,eT,iR,sb,h1,h2,dT,dF,nL]);(repeat refine Ai ?_);(try (refine hK _ ?_;clear hK K));try refine iC ?_)
  refine CU (Ag (!inS a.states x)) hS trivial ?_ ?_ fun j hj=>?_
  ·rw [e]
   rfl
  ·rfl
  ·rfl
 ·have e:inS a.states x=true:=Lc h1 h2
  repeat' with_reducible first | refine W ?_ | refine Z0 ?_ | ((first | refine Wo fun K hK=>?_ | refine Wp ?_ | refine Wq ?_ | refine Wr ?_);(try simp only [go_sem,fN,seval,eT,iR,sb,h1,h2,dT,dF,nL]);(repeat refine Ai ?_);(try (refine hK _ ?_;clear hK K));try refine iC ?_)
  refine CU (Ag (!inS a.states x)) hS trivial ?_ ?_ fun j hj=>?_
  ·rw [e]
   rfl
  ·rfl
  ·rfl
theorem W_ {p:Int→Bool} (xs:List Int):0≤(match xs.findIdx? p with | some i=>(i:Int) | none=>-1) ↔ xs.any p=true:=by
 cases h:xs.findIdx? p with
 | some i =>
  rw [List.findIdx?_eq_some_iff_getElem] at h
  obtain ⟨h1,h2,_⟩:=h
  simp only [List.any_eq_true]
  exact ⟨fun _=>⟨_,List.getElem_mem h1,h2⟩,fun _=>by omega⟩
 | none =>
  rw [List.findIdx?_eq_none_iff] at h
  constructor
  ·intro h'
   exact absurd h' (by decide)
  ·intro h'
   rw [List.any_eq_true] at h'
   obtain ⟨x,hx,hp⟩:=h'
   rw [h x hx] at hp
   cases hp
theorem Q0 {p:Int→Bool} {xs:List Int} {k:Nat} {x:Int} (hx:xs[k]?=some x) (h:(xs.take k).any p=false) (hp:p x=true):xs.findIdx? p=some k:=by
 obtain ⟨hk,he⟩:=List.getElem?_eq_some_iff.1 hx
 rw [List.findIdx?_eq_some_iff_getElem]
 refine ⟨hk,by rw [he];exact hp,fun j hj=>?_⟩
 rw [List.any_eq_false] at h
 have:=h (xs[j]'(by omega)) (by
  rw [List.mem_take_iff_getElem]
  exact ⟨j,by omega,rfl⟩)
 simpa using this
theorem ON (a:Au) (xs:List Int) (hl:xs.length≤9223372036854775807) (b:Nat) (hb:1000≤b) (S:AB) (sb:S b=some (AE a)) :
  A2 Try.prog 87 [D7 xs,.one (.fn 72 [.ptr b 1 0 0])] S (AK (match xs.findIdx? (fun x=>!inS a.states x) with | some i=>(i:Int) | none=>-1)) S:=by
 refine Dy.acS fun hS C hC=>?_
 unfold CN
 repeat' with_reducible first | refine W ?_ | refine Z0 ?_ | ((first | refine Wo fun K hK=>?_ | refine Wp ?_ | refine Wq ?_ | refine Wr ?_);(try simp only [go_sem,fN,seval,eT,iR,dT,dF,nL]);(repeat refine Ai ?_);(try (refine hK _ ?_;clear hK K));try refine iC ?_)
 refine IWP.loop (fun n s=>∃ k,k≤xs.length∧n=xs.length - k∧(xs.take k).any (fun x=>!inS a.states x)=false∧s.env 0=D7 xs∧s.env 1=.one (.fn 72 [.ptr b 1 0 0])∧s.env 7=AK xs.length∧s.env 8=AK k∧s.S=S) xs.length ⟨0,Nat.zero_le _,rfl,rfl,rfl,rfl,rfl,rfl,rfl⟩ ?_
 rintro n ⟨env,S'⟩ ⟨k,hk,rfl,hp,e0,e1,e7,e8,eS⟩
 simp only at e0 e1 e7 e8 eS
 subst eS
 by_cases hlt:(k:Int) < xs.length
 ·obtain ⟨x,hx⟩:=Ab (show k < xs.length by omega)
  have hst:=JK (p:=fun x=>!inS a.states x) hx hp
  have hc:=Qu a x (up1 b) (Ba b) (upS S') (by rw [Bl,sb];rfl)
  repeat' with_reducible first | refine W ?_ | refine Z0 ?_ | ((first | refine Wo fun K hK=>?_ | refine Wp ?_ | refine Wq ?_ | refine Wr ?_);(try simp only [go_sem,fN,seval,eT,iR,e0,e1,e7,e8,hlt,hx,dT,dF,nL]);(repeat refine Ai ?_);(try (refine hK _ ?_;clear hK K));try refine iC ?_)
  first | refine ⟨by kernel_rfl,_,_,hc,?_⟩ | refine ⟨_,_,hc,?_⟩
  by_cases hr:(!inS a.states x)=true
  ·have hi:=Q0 (p:=fun x=>!inS a.states x) hx hp hr
   repeat' with_reducible first | refine W ?_ | refine Z0 ?_ | ((first | refine Wo fun K hK=>?_ | refine Wp ?_ | refine Wq ?_ | refine Wr ?_);(try simp only [go_sem,fN,seval,eT,iR,e0,e1,e7,e8,hr,dT,dF,nL]);(repeat refine Ai ?_);(try (refine hK _ ?_;clear hK K));try refine iC ?_)
   refine CU (AK k) hS trivial ?_ ?_ fun j hj=>?_
   ·simp [AH,AI,AN,AD]
   ·rw [hi]
    rfl
   ·rfl
  ·have hr':(!inS a.states x)=false:=by simpa using hr
   repeat' with_reducible first | refine W ?_ | refine Z0 ?_ | ((first | refine Wo fun K hK=>?_ | refine Wp ?_ | refine Wq ?_ | refine Wr ?_);(try simp only [go_sem,fN,seval,eT,iR,e0,e1,e7,e8,hr',dT,dF,nL]);(repeat refine Ai ?_);(try (refine hK _ ?_;clear hK K));try refine iC ?_)
   refine AA ⟨xs.length - (k + 1),by omega,k + 1,by omega,rfl,?_⟩
   simp only [go_sem,fN,seval,eT,iR,e0,e1,e7,e8]
   exact ⟨by rw [hst];exact hr',by congr 3⟩
 ·rw [List.take_of_length_le (by omega)] at hp
  have hi:xs.findIdx? (fun x=>!inS a.states x)=none:=by
   rw [List.findIdx?_eq_none_iff]
   intro x hx
   rw [List.any_eq_false] at hp
   simpa using hp x hx
  repeat' with_reducible first | refine W ?_ | refine Z0 ?_ | ((first | refine Wo fun K hK=>?_ | refine Wp ?_ | refine Wq ?_ | refine Wr ?_);(try simp only [go_sem,fN,seval,eT,iR,e0,e1,e7,e8,hlt,dT,dF,nL]);(repeat refine Ai ?_);(try (refine hK _ ?_;clear hK K));try refine iC ?_)
  refine CU (AK (-1)) hS trivial ?_ ?_ fun j hj=>?_
  ·simp [AH,AI,AN,AD]
  ·rw [hi]
   rfl
  ·rfl
theorem J9 (a:Au) (xs:List Int) (hl:xs.length≤9223372036854775807) (b:Nat) (hb:1000≤b) (S:AB) (sb:S b=some (AE a)) :
  A2 Try.prog 71 [D7 xs,.one (.fn 72 [.ptr b 1 0 0])] S (Ag (!xs.all (inS a.states))) S:=by
 have hi:=W_ (p:=fun x=>!inS a.states x) xs
 rw [List.not_all_eq_any_not]
 generalize (xs.any fun x=>!inS a.states x)=bb at hi ⊢
 refine DS.acS fun hS C hC=>?_
 unfold Bz
 repeat' with_reducible first | refine W ?_ | refine Z0 ?_ | ((first | refine Wo fun K hK=>?_ | refine Wp ?_ | refine Wq ?_ | refine Wr ?_);(try simp only [go_sem,fN,seval,eT,iR,dT,dF,nL]);(repeat refine Ai ?_);(try (refine hK _ ?_;clear hK K));try refine iC ?_)
 refine ⟨_,_,ON a xs hl (up1 b) (Ba b) (upS S) (by rw [Bl,sb];rfl),?_⟩
 generalize (match xs.findIdx? (fun x=>!inS a.states x) with | some i=>(i:Int) | none=>-1)=q at hi
 repeat' with_reducible first | refine W ?_ | refine Z0 ?_ | ((first | refine Wo fun K hK=>?_ | refine Wp ?_ | refine Wq ?_ | refine Wr ?_);(try simp only [go_sem,fN,seval,eT,iR,hi,dT,dF,nL]);(repeat refine Ai ?_);(try (refine hK _ ?_;clear hK K));try refine iC ?_)
 refine CU (Ag bb) hS trivial ?_ ?_ fun j hj=>?_
 ·simp [AH,AI,AN,AD]
 ·rfl
 ·rfl
theorem SB {S:Int} {m:Mv} (h1:Az m.name=true) (h2:¬ BH m.name=true) (h3:¬ 4 < m.frm.length) {s:Int} (hs:s ∈ m.frm ++ [m.to_]) (h:s < 0 ∨ S≤s):m.err S=10:=by
 rcases List.mem_append.1 hs with hs | hs
 ·exact OV h1 h2 h3 hs h
 ·rw [List.mem_singleton] at hs
  subst hs
  exact RY h1 h2 h3 h
theorem WL {S:Int} {m:Mv} (h1:Az m.name=true) (h2:¬ BH m.name=true) (h3:¬ 4 < m.frm.length) (h:(m.frm ++ [m.to_]).all (inS S)=true):m.err S=0:=by
 rw [List.all_append,Bool.and_eq_true] at h
 exact PP h1 h2 h3 h.1 (by simpa using h.2)
theorem Tu (a:Au) (S M:Int):AU Try.prog 56 [aAu a,AK S,AK M] (AK (a.may S M)):=by
 by_cases h1:a.states < 0
 ·have e:a.may S M=3:=if_pos (Or.inl h1)
  rw [e]
  refine Cl.ac fun C hC=>?_
  unfold CC
  repeat' with_reducible first | refine W ?_ | refine Z0 ?_ | ((first | refine Wo fun K hK=>?_ | refine Wp ?_ | refine Wq ?_ | refine Wr ?_);(try simp only [go_sem,fN,seval,eT,iR,h1,dT,dF,nL]);(repeat refine Ai ?_);(try (refine hK _ ?_;clear hK K));try refine iC ?_)
  simp only [go_sem,fN,seval,AP,AS.result,AH,AI,AN]
 by_cases h2:S < a.states
 ·have e:a.may S M=3:=if_pos (Or.inr (Or.inl h2))
  rw [e]
  refine Cl.ac fun C hC=>?_
  unfold CC
  repeat' with_reducible first | refine W ?_ | refine Z0 ?_ | ((first | refine Wo fun K hK=>?_ | refine Wp ?_ | refine Wq ?_ | refine Wr ?_);(try simp only [go_sem,fN,seval,eT,iR,h1,h2,dT,dF,nL]);(repeat refine Ai ?_);(try (refine hK _ ?_;clear hK K));try refine iC ?_)
  simp only [go_sem,fN,seval,AP,AS.result,AH,AI,AN]
 by_cases h3:M < a.moves.length
 ·have e:a.may S M=3:=if_pos (Or.inr (Or.inr h3))
  rw [e]
  refine Cl.ac fun C hC=>?_
  unfold CC
  repeat' with_reducible first | refine W ?_ | refine Z0 ?_ | ((first | refine Wo fun K hK=>?_ | refine Wp ?_ | refine Wq ?_ | refine Wr ?_);(try simp only [go_sem,fN,seval,eT,iR,h1,h2,h3,dT,dF,nL]);(repeat refine Ai ?_);(try (refine hK _ ?_;clear hK K));try refine iC ?_)
  simp only [go_sem,fN,seval,AP,AS.result,AH,AI,AN]
 have h0:¬ (a.states < 0 ∨ S < a.states ∨ M < a.moves.length):=by omega
 refine Cl.ac fun C hC=>?_
 unfold CC
 refine IWP.learn 0 (by omega) fun hkn=>?_
 obtain ⟨kM,kL,kF⟩:=Hu hkn
 repeat' with_reducible first | refine W ?_ | refine Z0 ?_ | ((first | refine Wo fun K hK=>?_ | refine Wp ?_ | refine Wq ?_ | refine Wr ?_);(try simp only [go_sem,fN,seval,eT,iR,h1,h2,h3,dT,dF,nL]);(repeat refine Ai ?_);(try (refine hK _ ?_;clear hK K));try refine iC ?_)
 refine IWP.loopD [8,49] (fun n s=>∃ k,k≤a.moves.length∧n=a.moves.length - k∧s.env 3=.one (.ptr 3 1 0 0)∧s.S 3=some (AE a)∧s.env 28=.one (.st (.list (a.moves.map Ae)))∧s.env 29=AK a.moves.length∧s.env 30=AK k∧s.S 8=none∧s.S 49=none∧Bb a.states (a.moves.take k)=0) a.moves.length ⟨0,Nat.zero_le _,rfl,rfl,rfl,rfl,rfl,rfl,rfl,rfl,rfl⟩ ?_
 rintro n ⟨env,St⟩ ⟨k,hk,rfl,e3,s3,e28,e29,e30,s8,s49,hno⟩
 simp only at e3 s3 e28 e29 e30 s8 s49
 unfold AE at s3
 by_cases hlt:(k:Int) < a.moves.length
 ·obtain ⟨m,hm⟩:=Ab (show k < a.moves.length by omega)
  have hmm:=AM hm
  have hst:=EX hm hno
  by_cases g1:Az m.name=true
  case neg =>
   have e:=CD h0 hm hno (Pg g1) (by decide)
   repeat' (first | (with_reducible first | refine W ?_ | refine Z0 ?_ | ((first | refine Wo fun K hK=>?_ | refine Wp ?_ | refine Wq ?_ | refine Wr ?_);(try simp only [go_sem,fN,seval,eT,iR,e3,s3,e28,e29,e30,s8,s49,hlt,hm,Ae,g1,dT,dF,nL]);(repeat refine Ai ?_);(try (refine hK _ ?_;clear hK K));try refine iC ?_)) | refine Cg _ (Kc m.name) ?_)
   simp only [go_sem,fN,seval,AP,AS.result,AH,AI,AN,e]
  case pos =>
  by_cases g2:BH m.name=true
  ·have e:=CD h0 hm hno (SA g2) (by decide)
   repeat' (first | (with_reducible first | refine W ?_ | refine Z0 ?_ | ((first | refine Wo fun K hK=>?_ | refine Wp ?_ | refine Wq ?_ | refine Wr ?_);(try simp only [go_sem,fN,seval,eT,iR,e3,s3,e28,e29,e30,s8,s49,hlt,hm,Ae,g1,g2,dT,dF,nL]);(repeat refine Ai ?_);(try (refine hK _ ?_;clear hK K));try refine iC ?_)) | refine Cg _ (Kc m.name) ?_ | refine Cg _ (D_ m.name) ?_)
   simp only [go_sem,fN,seval,AP,AS.result,AH,AI,AN,e]
  by_cases g3:(4:Int) < m.frm.length
  ·have e:=CD h0 hm hno (R8 g1 g2 (by omega)) (by decide)
   repeat' (first | (with_reducible first | refine W ?_ | refine Z0 ?_ | ((first | refine Wo fun K hK=>?_ | refine Wp ?_ | refine Wq ?_ | refine Wr ?_);(try simp only [go_sem,fN,seval,eT,iR,e3,s3,e28,e29,e30,s8,s49,hlt,hm,Ae,g1,g2,g3,dT,dF,nL]);(repeat refine Ai ?_);(try (refine hK _ ?_;clear hK K));try refine iC ?_)) | refine Cg _ (Kc m.name) ?_ | refine Cg _ (D_ m.name) ?_)
   simp only [go_sem,fN,seval,AP,AS.result,AH,AI,AN,e]
  have g3':¬ 4 < m.frm.length:=by omega
  have gb:(m.frm.length + 1) * 8≤140737488355328:=by omega
  repeat' (first | (with_reducible first | refine W ?_ | refine Z0 ?_ | ((first | refine Wo fun K hK=>?_ | refine Wp ?_ | refine Wq ?_ | refine Wr ?_);(try simp only [go_sem,fN,seval,eT,iR,e3,s3,e28,e29,e30,s8,s49,hlt,hm,Ae,g1,g2,g3,dT,dF,nL]);(repeat refine Ai ?_);(try (refine hK _ ?_;clear hK K));try refine iC ?_)) | refine Cg _ (Kc m.name) ?_ | refine Cg _ (D_ m.name) ?_)
  refine ⟨_,_,_,_,Om m.frm (by omega),by simp [AD,s49],?_⟩
  repeat' with_reducible first | refine W ?_ | refine Z0 ?_ | ((first | refine Wo fun K hK=>?_ | refine Wp ?_ | refine Wq ?_ | refine Wr ?_);(try simp only [go_sem,fN,seval,eT,iR,e3,s3,e28,e29,e30,s8,s49,gb,dT,dF,nL]);(repeat refine Ai ?_);(try (refine hK _ ?_;clear hK K));try refine iC ?_)
  have kFm:(m.frm ++ [m.to_]).length=m.frm.length + 1:=by simp
  refine IWP.loop (fun n s=>∃ j,j≤m.frm.length + 1∧n=m.frm.length + 1 - j∧s.env 3=.one (.ptr 3 1 0 0)∧s.S 3=some (AE a)∧s.env 28=.one (.st (.list (a.moves.map Ae)))∧s.env 29=AK a.moves.length∧s.env 30=AK k∧s.env 53=.one (.row 49 (m.frm.length + 1))∧s.S 49=some (.arow 3 1 ((m.frm ++ [m.to_]).map BK))∧s.env 54=AK ((m.frm.length + 1:Nat):Int)∧s.env 55=AK j∧((m.frm ++ [m.to_]).take j).all (inS a.states)=true) (m.frm.length + 1) ⟨0,Nat.zero_le _,rfl,by simpa [AD] using e3,by simpa [AD,AE] using s3,by simpa [AD] using e28,by simpa [AD] using e29,by simpa [AD] using e30,by simp [AD],by simp [AD],by simp [AD],by simp [AD],rfl⟩ ?_
  rintro n ⟨env2,S2⟩ ⟨j,hj,rfl,f3,t3,f28,f29,f30,f53,t49,f54,f55,hall⟩
  simp only at f3 t3 f28 f29 f30 f53 t49 f54 f55
  unfold AE at t3
  by_cases hjl:(j:Int) < ((m.frm.length + 1:Nat):Int)
  ·obtain ⟨s,hs⟩:=Ab (show j < (m.frm ++ [m.to_]).length by omega)
   have hst2:=DJ hs hall
   generalize hL:m.frm ++ [m.to_]=L at *
   have kL':¬ m.frm.length + 1 < L.length:=by omega
   by_cases g4:s < 0
   ·have e:=CD h0 hm hno (SB g1 g2 g3' (by rw [hL];exact AM hs) (Or.inl g4)) (by decide)
    repeat' with_reducible first | refine W ?_ | refine Z0 ?_ | ((first | refine Wo fun K hK=>?_ | refine Wp ?_ | refine Wq ?_ | refine Wr ?_);(try simp only [go_sem,fN,seval,eT,iR,f3,t3,f28,f29,f30,f53,t49,f54,f55,hjl,hs,g4,kFm,dT,dF,nL]);(repeat refine Ai ?_);(try (refine hK _ ?_;clear hK K));try refine iC ?_)
    simp only [go_sem,fN,seval,AP,AS.result,AH,AI,AN,e]
   by_cases g5:a.states≤s
   ·have e:=CD h0 hm hno (SB g1 g2 g3' (by rw [hL];exact AM hs) (Or.inr g5)) (by decide)
    repeat' with_reducible first | refine W ?_ | refine Z0 ?_ | ((first | refine Wo fun K hK=>?_ | refine Wp ?_ | refine Wq ?_ | refine Wr ?_);(try simp only [go_sem,fN,seval,eT,iR,f3,t3,f28,f29,f30,f53,t49,f54,f55,hjl,hs,g4,g5,kFm,dT,dF,nL]);(repeat refine Ai ?_);(try (refine hK _ ?_;clear hK K));try refine iC ?_)
    simp only [go_sem,fN,seval,AP,AS.result,AH,AI,AN,e]
   ·repeat' with_reducible first | refine W ?_ | refine Z0 ?_ | ((first | refine Wo fun K hK=>?_ | refine Wp ?_ | refine Wq ?_ | refine Wr ?_);(try simp only [go_sem,fN,seval,eT,iR,f3,t3,f28,f29,f30,f53,t49,f54,f55,hjl,hs,g4,g5,kFm,dT,dF,nL]);(repeat refine Ai ?_);(try (refine hK _ ?_;clear hK K));try refine iC ?_)
    refine AA ⟨m.frm.length + 1 - (j + 1),by omega,j + 1,by omega,rfl,?_⟩
    simp only [go_sem,fN,seval,eT,iR,f3,t3,f28,f29,f30,f53,t49,f54,f55]
    exact ⟨rfl,by congr 3,by rw [hst2];exact Lc g4 g5⟩
  ·rw [List.take_of_length_le (by omega)] at hall
   repeat' with_reducible first | refine W ?_ | refine Z0 ?_ | ((first | refine Wo fun K hK=>?_ | refine Wp ?_ | refine Wq ?_ | refine Wr ?_);(try simp only [go_sem,fN,seval,eT,iR,f3,t3,f28,f29,f30,f53,t49,f54,f55,hjl,dT,dF,nL]);(repeat refine Ai ?_);(try (refine hK _ ?_;clear hK K));try refine iC ?_)
   refine AA ⟨a.moves.length - (k + 1),by omega,k + 1,by omega,rfl,?_⟩
   simp only [go_sem,fN,seval,AS.drop,AY,AC.clears,AC.clear,AC.highs,AC.high,Bool.not_false,Bool.true_and,Bool.and_self,AV.purge,AV.purges,AC.purge,AL.purge,List.contains_cons,List.contains_nil,Nat.reduceBEq,Bool.or_self,Bool.or_false,Bool.false_or,Bool.or_true,eT,iR,f3,t3,f28,f29,f30,f53,t49,f54,f55]
   exact ⟨rfl,by congr 3,by rw [hst];exact WL g1 g2 g3' hall⟩
 ·rw [List.take_of_length_le (by omega)] at hno
  have e:=PF (S:=S) (M:=M) h0 hno
  repeat' with_reducible first | refine W ?_ | refine Z0 ?_ | ((first | refine Wo fun K hK=>?_ | refine Wp ?_ | refine Wq ?_ | refine Wr ?_);(try simp only [go_sem,fN,seval,eT,iR,e3,s3,e28,e29,e30,hlt,AS.caps,dT,dF,nL]);(repeat refine Ai ?_);(try (refine hK _ ?_;clear hK K));try refine iC ?_)
  refine ⟨_,_,J9 a a.last (by omega) (up1 3) (Ba 3) _ (by rw [Bl,s3];rfl),?_⟩
  by_cases hall:a.last.all (inS a.states)=true
  ·rw [hall,if_pos rfl] at e
   repeat' with_reducible first | refine W ?_ | refine Z0 ?_ | ((first | refine Wo fun K hK=>?_ | refine Wp ?_ | refine Wq ?_ | refine Wr ?_);(try simp only [go_sem,fN,seval,eT,iR,e3,s3,e28,e29,e30,hall,dT,dF,nL]);(repeat refine Ai ?_);(try (refine hK _ ?_;clear hK K));try refine iC ?_)
   simp only [go_sem,fN,seval,AP,AS.result,AH,AI,AN,e]
  ·have hall':a.last.all (inS a.states)=false:=by simpa using hall
   rw [hall',if_neg (by decide)] at e
   repeat' with_reducible first | refine W ?_ | refine Z0 ?_ | ((first | refine Wo fun K hK=>?_ | refine Wp ?_ | refine Wq ?_ | refine Wr ?_);(try simp only [go_sem,fN,seval,eT,iR,e3,s3,e28,e29,e30,hall',dT,dF,nL]);(repeat refine Ai ?_);(try (refine hK _ ?_;clear hK K));try refine iC ?_)
   simp only [go_sem,fN,seval,AP,AS.result,AH,AI,AN,e]
theorem BV (a:Au):AU Try.prog 34 [aAu a] (AK (a.may 8 40)):=by
 refine L6.ac fun C hC=>?_
 unfold G8
 repeat' (first | (with_reducible first | refine W ?_ | refine Z0 ?_ | ((first | refine Wo fun K hK=>?_ | refine Wp ?_ | refine Wq ?_ | refine Wr ?_);(try simp only [go_sem,fN,seval,eT,iR,dT,dF,nL]);(repeat refine Ai ?_);(try (refine hK _ ?_;clear hK K));try refine iC ?_)) | refine Cg _ (Tu a 8 40) ?_)
 simp only [go_sem,fN,seval,AP,AS.result,AH,AI,AN]
def A1 (a b:Au):Int:=if a.may 8 40=0 then b.may 8 40 else a.may 8 40
theorem LO (a b:Au):AU Try.prog 29 [aAu a,aAu b] (AK (A1 a b)):=by
 unfold A1
 by_cases h:a.may 8 40=0
 ·rw [if_pos h]
  refine Ic.ac fun C hC=>?_
  unfold Fh
  repeat' (first | (with_reducible first | refine W ?_ | refine Z0 ?_ | ((first | refine Wo fun K hK=>?_ | refine Wp ?_ | refine Wq ?_ | refine Wr ?_);(try simp only [go_sem,fN,seval,eT,iR,h,dT,dF,nL]);(repeat refine Ai ?_);(try (refine hK _ ?_;clear hK K));try refine iC ?_)) | refine Cg _ (BV a) ?_ | refine Cg _ (BV b) ?_)
  simp only [go_sem,fN,seval,AP,AS.result,AH,AI,AN]
 ·rw [if_neg h]
  refine Ic.ac fun C hC=>?_
  unfold Fh
  repeat' (first | (with_reducible first | refine W ?_ | refine Z0 ?_ | ((first | refine Wo fun K hK=>?_ | refine Wp ?_ | refine Wq ?_ | refine Wr ?_);(try simp only [go_sem,fN,seval,eT,iR,h,dT,dF,nL]);(repeat refine Ai ?_);(try (refine hK _ ?_;clear hK K));try refine iC ?_)) | refine Cg _ (BV a) ?_)
  simp only [go_sem,fN,seval,AP,AS.result,AH,AI,AN]

end Go.Proofs.Ytkegjgodjigjfaa
