/-
  Part 7 of the texts. Conditions: none.
-/
import Derived.Test.YtbhnmjkmieiadaaGreatDoord16
import Derived.Sort.Walk0
namespace Go.Proofs.YtbhnmjkmieiadaaGreatDoor
open Go Go.RowKit
set_option linter.unusedVariables false
set_option linter.unusedSimpArgs false
set_option maxHeartbeats 400000
theorem D9 (s:ByteArray) (k:Nat):GY s k=Aj s k:=rfl
theorem Pj {s:ByteArray} (h:¬ s.size=0):¬ s=⟨#[]⟩:=fun e=>h (by rw [e];rfl)
theorem MQ {s:ByteArray} (h:s.size=0):s=⟨#[]⟩:=by
 have:=ByteArray.size_eq_zero_iff.1 h
 exact this
theorem Xe (n:Int) (h0:0≤n):AU Tryz.prog 97 [.one (.st (.int .u8 n))] (Aa (BE n)):=by
 refine Ml.ac fun C hC=>?_
 unfold G0
 have hc:(97≤n∧n≤122) ∨ (122 < n) ∨ (n < 97∧65≤n∧n≤90) ∨ (n < 97∧90 < n) ∨ (n < 65∧48≤n∧n≤57) ∨ (n < 65∧57 < n) ∨ (n < 48):=by omega
 rcases hc with h | h | h | h | h | h | h
 ·have h1:97≤n:=h.1
  have h2:n≤122:=h.2
  repeat' with_reducible first | refine W ?_ | refine Z0 ?_ | ((first | refine Wo fun K hK=>?_ | refine Wq ?_ | refine Wr ?_);(try simp only [go_sem,fN,seval,eT,iR,h1,h2]);(repeat refine Ai ?_);(try (refine hK _ ?_;clear hK K)))
  simp only [go_sem,fN,seval,AN,AS.result,AB,AD,AK,BE,h1,h2]
  try simp
 ·have h1:97≤n:=by omega
  have h2:¬ n≤122:=by omega
  have h3:65≤n:=by omega
  have h4:¬ n≤90:=by omega
  have h5:48≤n:=by omega
  have h6:¬ n≤57:=by omega
  repeat' with_reducible first | refine W ?_ | refine Z0 ?_ | ((first | refine Wo fun K hK=>?_ | refine Wq ?_ | refine Wr ?_);(try simp only [go_sem,fN,seval,eT,iR,h1,h2,h3,h4,h5,h6]);(repeat refine Ai ?_);(try (refine hK _ ?_;clear hK K)))
  simp only [go_sem,fN,seval,AN,AS.result,AB,AD,AK,BE,h1,h2,h3,h4,h5,h6]
  try simp
 ·have h1:¬ 97≤n:=by omega
  have h3:65≤n:=by omega
  have h4:n≤90:=by omega
  repeat' with_reducible first | refine W ?_ | refine Z0 ?_ | ((first | refine Wo fun K hK=>?_ | refine Wq ?_ | refine Wr ?_);(try simp only [go_sem,fN,seval,eT,iR,h1,h3,h4]);(repeat refine Ai ?_);(try (refine hK _ ?_;clear hK K)))
  simp only [go_sem,fN,seval,AN,AS.result,AB,AD,AK,BE,h1,h3,h4]
  try simp
 ·have h1:¬ 97≤n:=by omega
  have h3:65≤n:=by omega
  have h4:¬ n≤90:=by omega
  have h5:48≤n:=by omega
  have h6:¬ n≤57:=by omega
  repeat' with_reducible first | refine W ?_ | refine Z0 ?_ | ((first | refine Wo fun K hK=>?_ | refine Wq ?_ | refine Wr ?_);(try simp only [go_sem,fN,seval,eT,iR,h1,h3,h4,h5,h6]);(repeat refine Ai ?_);(try (refine hK _ ?_;clear hK K)))
  simp only [go_sem,fN,seval,AN,AS.result,AB,AD,AK,BE,h1,h3,h4,h5,h6]
  try simp
 ·have h1:¬ 97≤n:=by omega
  have h3:¬ 65≤n:=by omega
  have h5:48≤n:=by omega
  have h6:n≤57:=by omega
  repeat' with_reducible first | refine W ?_ | refine Z0 ?_ | ((first | refine Wo fun K hK=>?_ | refine Wq ?_ | refine Wr ?_);(try simp only [go_sem,fN,seval,eT,iR,h1,h3,h5,h6]);(repeat refine Ai ?_);(try (refine hK _ ?_;clear hK K)))
  simp only [go_sem,fN,seval,AN,AS.result,AB,AD,AK,BE,h1,h3,h5,h6]
  try simp
 ·have h1:¬ 97≤n:=by omega
  have h3:¬ 65≤n:=by omega
  have h5:48≤n:=by omega
  have h6:¬ n≤57:=by omega
  repeat' with_reducible first | refine W ?_ | refine Z0 ?_ | ((first | refine Wo fun K hK=>?_ | refine Wq ?_ | refine Wr ?_);(try simp only [go_sem,fN,seval,eT,iR,h1,h3,h5,h6]);(repeat refine Ai ?_);(try (refine hK _ ?_;clear hK K)))
  simp only [go_sem,fN,seval,AN,AS.result,AB,AD,AK,BE,h1,h3,h5,h6]
  try simp
 ·have h1:¬ 97≤n:=by omega
  have h3:¬ 65≤n:=by omega
  have h5:¬ 48≤n:=by omega
  repeat' with_reducible first | refine W ?_ | refine Z0 ?_ | ((first | refine Wo fun K hK=>?_ | refine Wq ?_ | refine Wr ?_);(try simp only [go_sem,fN,seval,eT,iR,h1,h3,h5]);(repeat refine Ai ?_);(try (refine hK _ ?_;clear hK K)))
  simp only [go_sem,fN,seval,AN,AS.result,AB,AD,AK,BE,h1,h3,h5]
  try simp
theorem Ih (n:Int) (h0:0≤n):AU Tryz.prog 87 [.one (.st (.int .u8 n))] (Aa (BE n)):=by
 refine M7.ac fun C hC=>?_
 unfold Ht
 have hc:(97≤n∧n≤122) ∨ (122 < n) ∨ (n < 97∧65≤n∧n≤90) ∨ (n < 97∧90 < n) ∨ (n < 65∧48≤n∧n≤57) ∨ (n < 65∧57 < n) ∨ (n < 48):=by omega
 rcases hc with h | h | h | h | h | h | h
 ·have h1:97≤n:=h.1
  have h2:n≤122:=h.2
  repeat' with_reducible first | refine W ?_ | refine Z0 ?_ | ((first | refine Wo fun K hK=>?_ | refine Wq ?_ | refine Wr ?_);(try simp only [go_sem,fN,seval,eT,iR,h1,h2]);(repeat refine Ai ?_);(try (refine hK _ ?_;clear hK K)))
  simp only [go_sem,fN,seval,AN,AS.result,AB,AD,AK,BE,h1,h2]
  try simp
 ·have h1:97≤n:=by omega
  have h2:¬ n≤122:=by omega
  have h3:65≤n:=by omega
  have h4:¬ n≤90:=by omega
  have h5:48≤n:=by omega
  have h6:¬ n≤57:=by omega
  repeat' with_reducible first | refine W ?_ | refine Z0 ?_ | ((first | refine Wo fun K hK=>?_ | refine Wq ?_ | refine Wr ?_);(try simp only [go_sem,fN,seval,eT,iR,h1,h2,h3,h4,h5,h6]);(repeat refine Ai ?_);(try (refine hK _ ?_;clear hK K)))
  simp only [go_sem,fN,seval,AN,AS.result,AB,AD,AK,BE,h1,h2,h3,h4,h5,h6]
  try simp
 ·have h1:¬ 97≤n:=by omega
  have h3:65≤n:=by omega
  have h4:n≤90:=by omega
  repeat' with_reducible first | refine W ?_ | refine Z0 ?_ | ((first | refine Wo fun K hK=>?_ | refine Wq ?_ | refine Wr ?_);(try simp only [go_sem,fN,seval,eT,iR,h1,h3,h4]);(repeat refine Ai ?_);(try (refine hK _ ?_;clear hK K)))
  simp only [go_sem,fN,seval,AN,AS.result,AB,AD,AK,BE,h1,h3,h4]
  try simp
 ·have h1:¬ 97≤n:=by omega
  have h3:65≤n:=by omega
  have h4:¬ n≤90:=by omega
  have h5:48≤n:=by omega
  have h6:¬ n≤57:=by omega
  repeat' with_reducible first | refine W ?_ | refine Z0 ?_ | ((first | refine Wo fun K hK=>?_ | refine Wq ?_ | refine Wr ?_);(try simp only [go_sem,fN,seval,eT,iR,h1,h3,h4,h5,h6]);(repeat refine Ai ?_);(try (refine hK _ ?_;clear hK K)))
  simp only [go_sem,fN,seval,AN,AS.result,AB,AD,AK,BE,h1,h3,h4,h5,h6]
  try simp
 ·have h1:¬ 97≤n:=by omega
  have h3:¬ 65≤n:=by omega
  have h5:48≤n:=by omega
  have h6:n≤57:=by omega
  repeat' with_reducible first | refine W ?_ | refine Z0 ?_ | ((first | refine Wo fun K hK=>?_ | refine Wq ?_ | refine Wr ?_);(try simp only [go_sem,fN,seval,eT,iR,h1,h3,h5,h6]);(repeat refine Ai ?_);(try (refine hK _ ?_;clear hK K)))
  simp only [go_sem,fN,seval,AN,AS.result,AB,AD,AK,BE,h1,h3,h5,h6]
  try simp
 ·have h1:¬ 97≤n:=by omega
  have h3:¬ 65≤n:=by omega
  have h5:48≤n:=by omega
  have h6:¬ n≤57:=by omega
  repeat' with_reducible first | refine W ?_ | refine Z0 ?_ | ((first | refine Wo fun K hK=>?_ | refine Wq ?_ | refine Wr ?_);(try simp only [go_sem,fN,seval,eT,iR,h1,h3,h5,h6]);(repeat refine Ai ?_);(try (refine hK _ ?_;clear hK K)))
  simp only [go_sem,fN,seval,AN,AS.result,AB,AD,AK,BE,h1,h3,h5,h6]
  try simp
 ·have h1:¬ 97≤n:=by omega
  have h3:¬ 65≤n:=by omega
  have h5:¬ 48≤n:=by omega
  repeat' with_reducible first | refine W ?_ | refine Z0 ?_ | ((first | refine Wo fun K hK=>?_ | refine Wq ?_ | refine Wr ?_);(try simp only [go_sem,fN,seval,eT,iR,h1,h3,h5]);(repeat refine Ai ?_);(try (refine hK _ ?_;clear hK K)))
  simp only [go_sem,fN,seval,AN,AS.result,AB,AD,AK,BE,h1,h3,h5]
  try simp
theorem Am (s:ByteArray):AU Tryz.prog 67 [Bt s] (Aa (AJ s)):=by
 by_cases h0:s.size=0
 ·have:=MQ h0
  subst this
  refine FY.ac fun C hC=>?_
  unfold Dg
  repeat' with_reducible first | refine W ?_ | refine Z0 ?_ | ((first | refine Wo fun K hK=>?_ | refine Wq ?_ | refine Wr ?_);(try simp only [go_sem,fN,seval,eT,iR]);(repeat refine Ai ?_);(try (refine hK _ ?_;clear hK K)))
  simp only [go_sem,fN,seval,AN,AS.result,AB,AD,AK]
  rfl
 ·have h1:=Pj h0
  have h2:0 < s.size:=by omega
  refine FY.ac fun C hC=>?_
  unfold Dg
  by_cases h3:65≤Aj s 0 <;> by_cases h4:Aj s 0≤90
  all_goals
   repeat' with_reducible first | refine W ?_ | refine Z0 ?_ | ((first | refine Wo fun K hK=>?_ | refine Wq ?_ | refine Wr ?_);(try simp only [go_sem,fN,seval,eT,iR,h1,h2,D9,h3,h4]);(repeat refine Ai ?_);(try (refine hK _ ?_;clear hK K)))
   simp only [go_sem,fN,seval,AN,AS.result,AB,AD,AK,AJ,h3,h4,h2]
   try simp
theorem UI (s:ByteArray):AU Tryz.prog 50 [Bt s] (Aa (AJ s)):=by
 by_cases h0:s.size=0
 ·have:=MQ h0
  subst this
  refine ME.ac fun C hC=>?_
  unfold If
  repeat' with_reducible first | refine W ?_ | refine Z0 ?_ | ((first | refine Wo fun K hK=>?_ | refine Wq ?_ | refine Wr ?_);(try simp only [go_sem,fN,seval,eT,iR]);(repeat refine Ai ?_);(try (refine hK _ ?_;clear hK K)))
  simp only [go_sem,fN,seval,AN,AS.result,AB,AD,AK]
  rfl
 ·have h1:=Pj h0
  have h2:0 < s.size:=by omega
  refine ME.ac fun C hC=>?_
  unfold If
  by_cases h3:65≤Aj s 0 <;> by_cases h4:Aj s 0≤90
  all_goals
   repeat' with_reducible first | refine W ?_ | refine Z0 ?_ | ((first | refine Wo fun K hK=>?_ | refine Wq ?_ | refine Wr ?_);(try simp only [go_sem,fN,seval,eT,iR,h1,h2,D9,h3,h4]);(repeat refine Ai ?_);(try (refine hK _ ?_;clear hK K)))
   simp only [go_sem,fN,seval,AN,AS.result,AB,AD,AK,AJ,h3,h4,h2]
   try simp
theorem NW (s:ByteArray) (h1:1≤s.size) (h8:s.size≤8) (hd:¬ (48≤Aj s 0∧Aj s 0≤57)):Ay s=Bp s s.size:=by
 unfold Ay
 have:(decide (48≤Aj s 0) && decide (Aj s 0≤57))=false:=by
  rw [Bool.and_eq_false_iff]
  simp
  omega
 rw [this]
 simp [h1,h8]
theorem YW (s:ByteArray):AU Tryz.prog 66 [Bt s] (Aa (Ay s)):=by
 by_cases h0:s.size < 1
 ·have e:Ay s=false:=by simp [Ay];omega
  rw [e]
  have h0':(s.size:Int) < 1:=by omega
  refine EJ.ac fun C hC=>?_
  unfold DP
  repeat' with_reducible first | refine W ?_ | refine Z0 ?_ | ((first | refine Wo fun K hK=>?_ | refine Wq ?_ | refine Wr ?_);(try simp only [go_sem,fN,seval,eT,iR,h0']);(repeat refine Ai ?_);(try (refine hK _ ?_;clear hK K)))
  with_reducible refine Wp ?_
  simp only [go_sem,fN,seval,true_implies,false_implies,implies_true,dT,dF,nL,h0']
  (try with_reducible refine iC ?_)
  repeat' with_reducible first | refine W ?_ | refine Z0 ?_ | ((first | refine Wo fun K hK=>?_ | refine Wq ?_ | refine Wr ?_);(try simp only [go_sem,fN,seval,eT,iR]);(repeat refine Ai ?_);(try (refine hK _ ?_;clear hK K)))
  simp only [go_sem,fN,seval,AN,AS.result,AB,AD,AK]
 have h0':¬ (s.size:Int) < 1:=by omega
 by_cases h8:8 < s.size
 ·have e:Ay s=false:=by simp [Ay];omega
  rw [e]
  have h8':(8:Int) < s.size:=by omega
  refine EJ.ac fun C hC=>?_
  unfold DP
  repeat' with_reducible first | refine W ?_ | refine Z0 ?_ | ((first | refine Wo fun K hK=>?_ | refine Wq ?_ | refine Wr ?_);(try simp only [go_sem,fN,seval,eT,iR,h0',h8']);(repeat refine Ai ?_);(try (refine hK _ ?_;clear hK K)))
  with_reducible refine Wp ?_
  simp only [go_sem,fN,seval,true_implies,false_implies,implies_true,dT,dF,nL,h0']
  (try with_reducible refine iC ?_)
  repeat' with_reducible first | refine W ?_ | refine Z0 ?_ | ((first | refine Wo fun K hK=>?_ | refine Wq ?_ | refine Wr ?_);(try simp only [go_sem,fN,seval,eT,iR]);(repeat refine Ai ?_);(try (refine hK _ ?_;clear hK K)))
  simp only [go_sem,fN,seval,AN,AS.result,AB,AD,AK]
 have h8':¬ (8:Int) < s.size:=by omega
 have hpos:0 < s.size:=by omega
 by_cases hd:48≤Aj s 0∧Aj s 0≤57
 ·have e:Ay s=false:=by simp [Ay,hd.1,hd.2]
  rw [e]
  refine EJ.ac fun C hC=>?_
  unfold DP
  repeat' with_reducible first | refine W ?_ | refine Z0 ?_ | ((first | refine Wo fun K hK=>?_ | refine Wq ?_ | refine Wr ?_);(try simp only [go_sem,fN,seval,eT,iR,h0',h8',hpos,D9,hd.1,hd.2]);(repeat refine Ai ?_);(try (refine hK _ ?_;clear hK K)))
  with_reducible refine Wp ?_
  simp only [go_sem,fN,seval,true_implies,false_implies,implies_true,dT,dF,nL,h0']
  (try with_reducible refine iC ?_)
  repeat' with_reducible first | refine W ?_ | refine Z0 ?_ | ((first | refine Wo fun K hK=>?_ | refine Wq ?_ | refine Wr ?_);(try simp only [go_sem,fN,seval,eT,iR]);(repeat refine Ai ?_);(try (refine hK _ ?_;clear hK K)))
  simp only [go_sem,fN,seval,AN,AS.result,AB,AD,AK]
 rw [NW s (by omega) (by omega) hd]
 have hd2:(48≤Aj s 0∧¬ Aj s 0≤57) ∨ (¬ 48≤Aj s 0):=by omega
 refine EJ.ac fun C hC=>?_
 unfold DP
 have h57:48≤Aj s 0→¬ Aj s 0≤57:=fun h h'=>hd ⟨h,h'⟩
 by_cases h48:48≤Aj s 0
 all_goals
  simp only [h48,true_implies,false_implies] at h57
  repeat' with_reducible first | refine W ?_ | refine Z0 ?_ | ((first | refine Wo fun K hK=>?_ | refine Wq ?_ | refine Wr ?_);(try simp only [go_sem,fN,seval,eT,iR,h0',h8',hpos,D9,h48,h57]);(repeat refine Ai ?_);(try (refine hK _ ?_;clear hK K)))
  with_reducible refine Wp ?_
  simp only [go_sem,fN,seval,true_implies,false_implies,implies_true,dT,dF,nL,h0']
  (try with_reducible refine iC ?_)
  repeat' with_reducible first | refine W ?_ | refine Z0 ?_ | ((first | refine Wo fun K hK=>?_ | refine Wq ?_ | refine Wr ?_);(try simp only [go_sem,fN,seval,eT,iR]);(repeat refine Ai ?_);(try (refine hK _ ?_;clear hK K)))
  refine IWP.loop (fun m x=>∃ k,k≤s.size∧m=s.size - k∧Bp s k=true∧x.env 0=Bt s∧x.env 23=AO s.size∧x.env 24=AO k) s.size ⟨0,Nat.zero_le _,rfl,rfl,rfl,rfl,rfl⟩ ?_
  rintro m ⟨env,S⟩ ⟨k,hk,rfl,hl,e0,e23,e24⟩
  simp only at e0 e23 e24
  repeat' with_reducible first | refine W ?_ | refine Z0 ?_ | ((first | refine Wo fun K hK=>?_ | refine Wq ?_ | refine Wr ?_);(try simp only [go_sem,fN,seval,eT,iR,e0,e23,e24]);(repeat refine Ai ?_);(try (refine hK _ ?_;clear hK K)))
  with_reducible refine Wp ?_
  simp only [go_sem,fN,seval,true_implies,false_implies,implies_true,dT,dF,nL,e0,e23,e24]
  (try with_reducible refine iC ?_)
  refine ⟨fun hlt=>?_,fun hge=>?_⟩
  ·have hlt':k < s.size:=by omega
   repeat' (first | (with_reducible first | refine W ?_ | refine Z0 ?_ | ((first | refine Wo fun K hK=>?_ | refine Wq ?_ | refine Wr ?_);(try simp only [go_sem,fN,seval,eT,iR,e0,e23,e24,hlt',D9]);(repeat refine Ai ?_);(try (refine hK _ ?_;clear hK K)))) | refine Cg _ (Xe _ (GJ s k).1) ?_)
   with_reducible refine Wp ?_
   simp only [go_sem,fN,seval,true_implies,false_implies,implies_true,dT,dF,nL]
   (try with_reducible refine iC ?_)
   refine ⟨fun hn=>?_,fun hn=>?_⟩
   ·repeat' with_reducible first | refine W ?_ | refine Z0 ?_ | ((first | refine Wo fun K hK=>?_ | refine Wq ?_ | refine Wr ?_);(try simp only [go_sem,fN,seval,eT,iR]);(repeat refine Ai ?_);(try (refine hK _ ?_;clear hK K)))
    simp only [go_sem,fN,seval,AN,AS.result,AB,AD,AK]
    rw [Iu s k hlt' (by simpa using hn)]
   ·repeat' with_reducible first | refine W ?_ | refine Z0 ?_ | ((first | refine Wo fun K hK=>?_ | refine Wq ?_ | refine Wr ?_);(try simp only [go_sem,fN,seval,eT,iR,e0,e23,e24]);(repeat refine Ai ?_);(try (refine hK _ ?_;clear hK K)))
    refine AI ⟨s.size - (k + 1),by omega,k + 1,by omega,rfl,?_,?_⟩
    ·rw [G2 s k hlt',hl]
     simpa using hn
    ·simp only [go_sem,fN,seval,eT,iR,e0,e23,e24]
     congr 3
  ·repeat' with_reducible first | refine W ?_ | refine Z0 ?_ | ((first | refine Wo fun K hK=>?_ | refine Wq ?_ | refine Wr ?_);(try simp only [go_sem,fN,seval,eT,iR]);(repeat refine Ai ?_);(try (refine hK _ ?_;clear hK K)))
   simp only [go_sem,fN,seval,AN,AS.result,AB,AD,AK]
   rw [show s.size=k by omega,hl]
theorem Fm (s:ByteArray):AU Tryz.prog 49 [Bt s] (Aa (Ay s)):=by
 by_cases h0:s.size < 1
 ·have e:Ay s=false:=by simp [Ay];omega
  rw [e]
  have h0':s=⟨#[]⟩:=MQ (by omega)
  subst h0'
  refine Er.ac fun C hC=>?_
  unfold D7
  repeat' with_reducible first | refine W ?_ | refine Z0 ?_ | ((first | refine Wo fun K hK=>?_ | refine Wq ?_ | refine Wr ?_);(try simp only [go_sem,fN,seval,eT,iR]);(repeat refine Ai ?_);(try (refine hK _ ?_;clear hK K)))
  with_reducible refine Wp ?_
  simp only [go_sem,fN,seval,true_implies,false_implies,implies_true,dT,dF,nL]
  (try with_reducible refine iC ?_)
  repeat' with_reducible first | refine W ?_ | refine Z0 ?_ | ((first | refine Wo fun K hK=>?_ | refine Wq ?_ | refine Wr ?_);(try simp only [go_sem,fN,seval,eT,iR]);(repeat refine Ai ?_);(try (refine hK _ ?_;clear hK K)))
  simp only [go_sem,fN,seval,AN,AS.result,AB,AD,AK]
 have h0':¬ s=⟨#[]⟩:=Pj (by omega)
 by_cases h8:8 < s.size
 ·have e:Ay s=false:=by simp [Ay];omega
  rw [e]
  have h8':(8:Int) < s.size:=by omega
  refine Er.ac fun C hC=>?_
  unfold D7
  repeat' with_reducible first | refine W ?_ | refine Z0 ?_ | ((first | refine Wo fun K hK=>?_ | refine Wq ?_ | refine Wr ?_);(try simp only [go_sem,fN,seval,eT,iR,h0',h8']);(repeat refine Ai ?_);(try (refine hK _ ?_;clear hK K)))
  with_reducible refine Wp ?_
  simp only [go_sem,fN,seval,true_implies,false_implies,implies_true,dT,dF,nL,h0']
  (try with_reducible refine iC ?_)
  repeat' with_reducible first | refine W ?_ | refine Z0 ?_ | ((first | refine Wo fun K hK=>?_ | refine Wq ?_ | refine Wr ?_);(try simp only [go_sem,fN,seval,eT,iR]);(repeat refine Ai ?_);(try (refine hK _ ?_;clear hK K)))
  simp only [go_sem,fN,seval,AN,AS.result,AB,AD,AK]
 have h8':¬ (8:Int) < s.size:=by omega
 have hpos:0 < s.size:=by omega
 by_cases hd:48≤Aj s 0∧Aj s 0≤57
 ·have e:Ay s=false:=by simp [Ay,hd.1,hd.2]
  rw [e]
  refine Er.ac fun C hC=>?_
  unfold D7
  repeat' with_reducible first | refine W ?_ | refine Z0 ?_ | ((first | refine Wo fun K hK=>?_ | refine Wq ?_ | refine Wr ?_);(try simp only [go_sem,fN,seval,eT,iR,h0',h8',hpos,D9,hd.1,hd.2]);(repeat refine Ai ?_);(try (refine hK _ ?_;clear hK K)))
  with_reducible refine Wp ?_
  simp only [go_sem,fN,seval,true_implies,false_implies,implies_true,dT,dF,nL,h0']
  (try with_reducible refine iC ?_)
  repeat' with_reducible first | refine W ?_ | refine Z0 ?_ | ((first | refine Wo fun K hK=>?_ | refine Wq ?_ | refine Wr ?_);(try simp only [go_sem,fN,seval,eT,iR]);(repeat refine Ai ?_);(try (refine hK _ ?_;clear hK K)))
  simp only [go_sem,fN,seval,AN,AS.result,AB,AD,AK]
 rw [NW s (by omega) (by omega) hd]
 refine Er.ac fun C hC=>?_
 unfold D7
 have h57:48≤Aj s 0→¬ Aj s 0≤57:=fun h h'=>hd ⟨h,h'⟩
 by_cases h48:48≤Aj s 0
 all_goals
  simp only [h48,true_implies,false_implies] at h57
  repeat' with_reducible first | refine W ?_ | refine Z0 ?_ | ((first | refine Wo fun K hK=>?_ | refine Wq ?_ | refine Wr ?_);(try simp only [go_sem,fN,seval,eT,iR,h0',h8',hpos,D9,h48,h57]);(repeat refine Ai ?_);(try (refine hK _ ?_;clear hK K)))
  with_reducible refine Wp ?_
  simp only [go_sem,fN,seval,true_implies,false_implies,implies_true,dT,dF,nL,h0']
  (try with_reducible refine iC ?_)
  repeat' with_reducible first | refine W ?_ | refine Z0 ?_ | ((first | refine Wo fun K hK=>?_ | refine Wq ?_ | refine Wr ?_);(try simp only [go_sem,fN,seval,eT,iR]);(repeat refine Ai ?_);(try (refine hK _ ?_;clear hK K)))
  refine IWP.loop (fun m x=>∃ k,k≤s.size∧m=s.size - k∧Bp s k=true∧x.env 0=Bt s∧x.env 3=AO k) s.size ⟨0,Nat.zero_le _,rfl,rfl,rfl,rfl⟩ ?_
  rintro m ⟨env,S⟩ ⟨k,hk,rfl,hl,e0,e3⟩
  simp only at e0 e3
  repeat' with_reducible first | refine W ?_ | refine Z0 ?_ | ((first | refine Wo fun K hK=>?_ | refine Wq ?_ | refine Wr ?_);(try simp only [go_sem,fN,seval,eT,iR,e0,e3]);(repeat refine Ai ?_);(try (refine hK _ ?_;clear hK K)))
  with_reducible refine Wp ?_
  simp only [go_sem,fN,seval,true_implies,false_implies,implies_true,dT,dF,nL,e0,e3]
  (try with_reducible refine iC ?_)
  refine ⟨fun hlt=>?_,fun hge=>?_⟩
  ·have hlt':k < s.size:=by omega
   repeat' (first | (with_reducible first | refine W ?_ | refine Z0 ?_ | ((first | refine Wo fun K hK=>?_ | refine Wq ?_ | refine Wr ?_);(try simp only [go_sem,fN,seval,eT,iR,e0,e3,hlt',D9]);(repeat refine Ai ?_);(try (refine hK _ ?_;clear hK K)))) | refine Cg _ (Ih _ (GJ s k).1) ?_)
   with_reducible refine Wp ?_
   simp only [go_sem,fN,seval,true_implies,false_implies,implies_true,dT,dF,nL]
   (try with_reducible refine iC ?_)
   refine ⟨fun hn=>?_,fun hn=>?_⟩
   ·repeat' with_reducible first | refine W ?_ | refine Z0 ?_ | ((first | refine Wo fun K hK=>?_ | refine Wq ?_ | refine Wr ?_);(try simp only [go_sem,fN,seval,eT,iR]);(repeat refine Ai ?_);(try (refine hK _ ?_;clear hK K)))
    simp only [go_sem,fN,seval,AN,AS.result,AB,AD,AK]
    rw [Iu s k hlt' (by simpa using hn)]
   ·repeat' with_reducible first | refine W ?_ | refine Z0 ?_ | ((first | refine Wo fun K hK=>?_ | refine Wq ?_ | refine Wr ?_);(try simp only [go_sem,fN,seval,eT,iR,e0,e3]);(repeat refine Ai ?_);(try (refine hK _ ?_;clear hK K)))
    refine AI ⟨s.size - (k + 1),by omega,k + 1,by omega,rfl,?_,?_⟩
    ·rw [G2 s k hlt',hl]
     simpa using hn
    ·simp only [go_sem,fN,seval,eT,iR,e0,e3]
     congr 3
  ·repeat' with_reducible first | refine W ?_ | refine Z0 ?_ | ((first | refine Wo fun K hK=>?_ | refine Wq ?_ | refine Wr ?_);(try simp only [go_sem,fN,seval,eT,iR]);(repeat refine Ai ?_);(try (refine hK _ ?_;clear hK K)))
   simp only [go_sem,fN,seval,AN,AS.result,AB,AD,AK]
   rw [show s.size=k by omega,hl]
theorem Wf (t:Tm) (m:Int) (h0:0≤m) (h1:m≤9223372036854775807):AU Tryz.prog 82 [aTm t,AO m] (AO (Ca t.size m)):=by
 induction h:SizeOf.sizeOf t using Nat.strongRecOn generalizing t m with
 | _ N ih =>
 subst h
 have hs:=Tm.size_eq t
 refine LV.ac fun C hC=>?_
 unfold HC
 refine IWP.learn 0 (by omega) fun hkn=>?_
 have hkn:=G_ hkn
 repeat' with_reducible first | refine W ?_ | refine Z0 ?_ | ((first | refine Wo fun K hK=>?_ | refine Wq ?_ | refine Wr ?_);(try simp only [go_sem,fN,seval,eT,iR]);(repeat refine Ai ?_);(try (refine hK _ ?_;clear hK K)))
 refine IWP.loopD [6] (fun n s=>∃ k,k≤t.args.length∧n=t.args.length - k∧s.env 1=AO (Ca (1 + Tm.sizes (t.args.take k)) m)∧s.env 10=.one (.st (.list (t.args.map Ap)))∧s.env 11=AO t.args.length∧s.env 12=AO k∧s.S 6=none) t.args.length ⟨0,Nat.zero_le _,rfl,by
  simp only [go_sem,fN,seval,eT,iR]
  rw [Ca]
  have z0:Tm.sizes []=0:=rfl
  congr 3
  split <;> omega,rfl,rfl,rfl,rfl⟩ ?_
 rintro n ⟨env,S⟩ ⟨k,hk,rfl,e1,e10,e11,e12,s6⟩
 simp only at e1 e10 e11 e12 s6
 repeat' with_reducible first | refine W ?_ | refine Z0 ?_ | ((first | refine Wo fun K hK=>?_ | refine Wq ?_ | refine Wr ?_);(try simp only [go_sem,fN,seval,eT,iR,e1,e10,e11,e12,s6]);(repeat refine Ai ?_);(try (refine hK _ ?_;clear hK K)))
 with_reducible refine Wp ?_
 simp only [go_sem,fN,seval,true_implies,false_implies,implies_true,dT,dF,nL,e1,e10,e11,e12,s6]
 (try with_reducible refine iC ?_)
 refine ⟨fun hlt=>?_,fun hge=>?_⟩
 ·obtain ⟨a,ha⟩:=Ag (show k < t.args.length by omega)
  have z1:=Tm.sizes_take ha
  have z2:=Tm.sizes_take_le t.args (k + 1)
  have z3:=Tm.length_le t.args
  have z4:=VS (1 + Tm.sizes (t.args.take k)) m h0
  repeat' with_reducible first | refine W ?_ | refine Z0 ?_ | ((first | refine Wo fun K hK=>?_ | refine Wq ?_ | refine Wr ?_);(try simp only [go_sem,fN,seval,eT,iR,e1,e10,e11,e12,s6,ha]);(repeat refine Ai ?_);(try (refine hK _ ?_;clear hK K)))
  with_reducible refine Wp ?_
  simp only [go_sem,fN,seval,true_implies,false_implies,implies_true,dT,dF,nL,e1]
  (try with_reducible refine iC ?_)
  refine ⟨fun hb=>?_,fun hb=>?_⟩
  ·repeat' with_reducible first | refine W ?_ | refine Z0 ?_ | ((first | refine Wo fun K hK=>?_ | refine Wq ?_ | refine Wr ?_);(try simp only [go_sem,fN,seval,eT,iR,e1]);(repeat refine Ai ?_);(try (refine hK _ ?_;clear hK K)))
   simp only [go_sem,fN,seval,AN,AS.result,AB,AD,AK,e1]
   rw [Sw hb (show _≤t.size by rw [hs];omega)]
  ·repeat' (first | (with_reducible first | refine W ?_ | refine Z0 ?_ | ((first | refine Wo fun K hK=>?_ | refine Wq ?_ | refine Wr ?_);(try simp only [go_sem,fN,seval,eT,iR,e1,e10,e11,e12,s6,ha]);(repeat refine Ai ?_);(try (refine hK _ ?_;clear hK K)))) | refine Cg _ (ih _ (Tm.lt_of_arg (AQ ha)) a _ (by omega) (by omega) rfl) ?_)
   refine AI ⟨t.args.length - (k + 1),by omega,k + 1,by omega,rfl,?_⟩
   simp only [go_sem,fN,seval,AS.drop,Ao,AC.clears,AC.clear,AC.highs,AC.high,Bool.not_false,Bool.true_and,Bool.and_self,AV.purge,AV.purges,AC.purge,AL.purge,List.contains_cons,List.contains_nil,Nat.reduceBEq,Bool.or_self,Bool.or_false,Bool.false_or,Bool.or_true,eT,iR,e1,e10,e11,e12,s6]
   exact ⟨by rw [QR (by omega),z1];congr 4;omega,by congr 3⟩
 ·repeat' with_reducible first | refine W ?_ | refine Z0 ?_ | ((first | refine Wo fun K hK=>?_ | refine Wq ?_ | refine Wr ?_);(try simp only [go_sem,fN,seval,eT,iR,e1]);(repeat refine Ai ?_);(try (refine hK _ ?_;clear hK K)))
  simp only [go_sem,fN,seval,AN,AS.result,AB,AD,AK,e1]
  rw [List.take_of_length_le (by omega),hs]
theorem UO (t:Tm) (m:Int) (h0:0≤m) (h1:m≤9223372036854775806):AU Tryz.prog 21 [aTm t,AO m] (AO (CV t.size m)):=by
 induction h:SizeOf.sizeOf t using Nat.strongRecOn generalizing t m with
 | _ N ih =>
 subst h
 have hs:=Tm.size_eq t
 refine Vm.ac fun C hC=>?_
 unfold Na
 refine IWP.learn 0 (by omega) fun hkn=>?_
 have hkn:=G_ hkn
 repeat' with_reducible first | refine W ?_ | refine Z0 ?_ | ((first | refine Wo fun K hK=>?_ | refine Wq ?_ | refine Wr ?_);(try simp only [go_sem,fN,seval,eT,iR]);(repeat refine Ai ?_);(try (refine hK _ ?_;clear hK K)))
 refine IWP.loop (fun n s=>∃ k,k≤t.args.length∧n=t.args.length - k∧s.env 5=AO (CV (1 + Tm.sizes (t.args.take k)) m)∧s.env 1=AO m∧s.env 2=.one (.ptr 2 1 0 0)∧s.env 6=AO k∧s.S 2=some (.box 37 [.st (.str t.name),.st (.list (t.args.map Ap))])) t.args.length ⟨0,Nat.zero_le _,rfl,by
  simp only [go_sem,fN,seval,eT,iR]
  rw [CV]
  have z0:Tm.sizes []=0:=rfl
  congr 3
  split <;> omega,rfl,rfl,rfl,rfl⟩ ?_
 rintro n ⟨env,S⟩ ⟨k,hk,rfl,e5,e1,e2,e6,s2⟩
 simp only at e5 e1 e2 e6 s2
 have z4:=Rn (1 + Tm.sizes (t.args.take k)) m h0
 by_cases hlt:(k:Int) < t.args.length
 ·obtain ⟨a,ha⟩:=Ag (show k < t.args.length by omega)
  have z1:=Tm.sizes_take ha
  have z2:=Tm.sizes_take_le t.args (k + 1)
  by_cases hb:m < CV (1 + Tm.sizes (t.args.take k)) m
  ·have hb':¬ CV (1 + Tm.sizes (t.args.take k)) m≤m:=by omega
   repeat' with_reducible first | refine W ?_ | refine Z0 ?_ | ((first | refine Wo fun K hK=>?_ | refine Wq ?_ | refine Wr ?_);(try simp only [go_sem,fN,seval,eT,iR,e5,e1,e2,e6,s2,hlt,hb']);(repeat refine Ai ?_);(try (refine hK _ ?_;clear hK K)))
   with_reducible refine Wp ?_
   simp only [go_sem,fN,seval,true_implies,false_implies,implies_true,dT,dF,nL,hb']
   (try with_reducible refine iC ?_)
   repeat' with_reducible first | refine W ?_ | refine Z0 ?_ | ((first | refine Wo fun K hK=>?_ | refine Wq ?_ | refine Wr ?_);(try simp only [go_sem,fN,seval,eT,iR,e5,e1,e2,e6,s2]);(repeat refine Ai ?_);(try (refine hK _ ?_;clear hK K)))
   with_reducible refine Wp ?_
   simp only [go_sem,fN,seval,true_implies,false_implies,implies_true,dT,dF,nL,hb]
   (try with_reducible refine iC ?_)
   repeat' with_reducible first | refine W ?_ | refine Z0 ?_ | ((first | refine Wo fun K hK=>?_ | refine Wq ?_ | refine Wr ?_);(try simp only [go_sem,fN,seval,eT,iR,e1]);(repeat refine Ai ?_);(try (refine hK _ ?_;clear hK K)))
   simp only [go_sem,fN,seval,AN,AS.result,AB,AD,AK]
   rw [Lm hb (show _≤t.size by rw [hs];omega)]
  ·have hb':CV (1 + Tm.sizes (t.args.take k)) m≤m:=by omega
   obtain ⟨b1,b2⟩:=YG hb
   repeat' with_reducible first | refine W ?_ | refine Z0 ?_ | ((first | refine Wo fun K hK=>?_ | refine Wq ?_ | refine Wr ?_);(try simp only [go_sem,fN,seval,eT,iR,e5,e1,e2,e6,s2,hlt,hb']);(repeat refine Ai ?_);(try (refine hK _ ?_;clear hK K)))
   with_reducible refine Wp ?_
   simp only [go_sem,fN,seval,true_implies,false_implies,implies_true,dT,dF,nL,hb']
   (try with_reducible refine iC ?_)
   repeat' with_reducible first | refine W ?_ | refine Z0 ?_ | ((first | refine Wo fun K hK=>?_ | refine Wq ?_ | refine Wr ?_);(try simp only [go_sem,fN,seval,eT,iR,e5,e1,e2,e6,s2,ha]);(repeat refine Ai ?_);(try (refine hK _ ?_;clear hK K)))
   refine ⟨_,ih _ (Tm.lt_of_arg (AQ ha)) a (m - CV (1 + Tm.sizes (t.args.take k)) m) (by omega) (by omega) rfl,?_⟩
   have z5:=Rn a.size (m - CV (1 + Tm.sizes (t.args.take k)) m) (by omega)
   repeat' with_reducible first | refine W ?_ | refine Z0 ?_ | ((first | refine Wo fun K hK=>?_ | refine Wq ?_ | refine Wr ?_);(try simp only [go_sem,fN,seval,eT,iR,e5,e1,e2,e6,s2]);(repeat refine Ai ?_);(try (refine hK _ ?_;clear hK K)))
   refine AI ⟨t.args.length - (k + 1),by omega,k + 1,by omega,rfl,?_⟩
   simp only [go_sem,fN,seval,eT,iR,e5,e1,e2,e6,s2]
   exact ⟨by rw [b1,R_ b2,z1];congr 4;omega,by congr 3⟩
 ·repeat' with_reducible first | refine W ?_ | refine Z0 ?_ | ((first | refine Wo fun K hK=>?_ | refine Wq ?_ | refine Wr ?_);(try simp only [go_sem,fN,seval,eT,iR,e5,e1,e2,e6,s2,hlt]);(repeat refine Ai ?_);(try (refine hK _ ?_;clear hK K)))
  with_reducible refine Wp ?_
  simp only [go_sem,fN,seval,true_implies,false_implies,implies_true,dT,dF,nL]
  (try with_reducible refine iC ?_)
  have hfull:1 + Tm.sizes (t.args.take k)=t.size:=by rw [List.take_of_length_le (by omega),hs]
  rw [hfull] at e5 z4
  repeat' with_reducible first | refine W ?_ | refine Z0 ?_ | ((first | refine Wo fun K hK=>?_ | refine Wq ?_ | refine Wr ?_);(try simp only [go_sem,fN,seval,eT,iR,e5,e1]);(repeat refine Ai ?_);(try (refine hK _ ?_;clear hK K)))
  by_cases hb:m < CV t.size m
  ·with_reducible refine Wp ?_
   simp only [go_sem,fN,seval,true_implies,false_implies,implies_true,dT,dF,nL,hb]
   (try with_reducible refine iC ?_)
   repeat' with_reducible first | refine W ?_ | refine Z0 ?_ | ((first | refine Wo fun K hK=>?_ | refine Wq ?_ | refine Wr ?_);(try simp only [go_sem,fN,seval,eT,iR,e1]);(repeat refine Ai ?_);(try (refine hK _ ?_;clear hK K)))
   simp only [go_sem,fN,seval,AN,AS.result,AB,AD,AK]
   rw [Lm hb (Nat.le_refl _)]
  ·with_reducible refine Wp ?_
   simp only [go_sem,fN,seval,true_implies,false_implies,implies_true,dT,dF,nL,hb]
   (try with_reducible refine iC ?_)
   repeat' with_reducible first | refine W ?_ | refine Z0 ?_ | ((first | refine Wo fun K hK=>?_ | refine Wq ?_ | refine Wr ?_);(try simp only [go_sem,fN,seval,eT,iR,e5]);(repeat refine Ai ?_);(try (refine hK _ ?_;clear hK K)))
   simp only [go_sem,fN,seval,AN,AS.result,AB,AD,AK,e5]
theorem Y0 (t:Tm):AU Tryz.prog 83 [aTm t] (AO t.chk):=by
 induction h:SizeOf.sizeOf t using Nat.strongRecOn generalizing t with
 | _ N ih =>
 subst h
 have hc:=Tm.chk_eq t
 have hc1:Bl t=if Ay t.name=true then (if AJ t.name=true∧0 < t.args.length then 2 else 0) else 1:=rfl
 refine NL.ac fun C hC=>?_
 unfold H7
 refine IWP.learn 0 (by omega) fun hkn=>?_
 have hkn:=G_ hkn
 repeat' with_reducible first | refine W ?_ | refine Z0 ?_ | ((first | refine Wo fun K hK=>?_ | refine Wq ?_ | refine Wr ?_);(try simp only [go_sem,fN,seval,eT,iR]);(repeat refine Ai ?_);(try (refine hK _ ?_;clear hK K)))
 refine ⟨_,YW _,?_⟩
 cases hn:Ay t.name with
 | false =>
  rw [hn,if_neg (by simp)] at hc1
  repeat' with_reducible first | refine W ?_ | refine Z0 ?_ | ((first | refine Wo fun K hK=>?_ | refine Wq ?_ | refine Wr ?_);(try simp only [go_sem,fN,seval,eT,iR]);(repeat refine Ai ?_);(try (refine hK _ ?_;clear hK K)))
  with_reducible refine Wp ?_
  simp only [go_sem,fN,seval,true_implies,false_implies,implies_true,dT,dF,nL]
  (try with_reducible refine iC ?_)
  repeat' with_reducible first | refine W ?_ | refine Z0 ?_ | ((first | refine Wo fun K hK=>?_ | refine Wq ?_ | refine Wr ?_);(try simp only [go_sem,fN,seval,eT,iR]);(repeat refine Ai ?_);(try (refine hK _ ?_;clear hK K)))
  simp only [go_sem,fN,seval,AN,AS.result,AB,AD,AK]
  rw [hc,hc1]
  rfl
 | true =>
  rw [hn,if_pos rfl] at hc1
  repeat' with_reducible first | refine W ?_ | refine Z0 ?_ | ((first | refine Wo fun K hK=>?_ | refine Wq ?_ | refine Wr ?_);(try simp only [go_sem,fN,seval,eT,iR]);(repeat refine Ai ?_);(try (refine hK _ ?_;clear hK K)))
  with_reducible refine Wp ?_
  simp only [go_sem,fN,seval,true_implies,false_implies,implies_true,dT,dF,nL]
  (try with_reducible refine iC ?_)
  repeat' with_reducible first | refine W ?_ | refine Z0 ?_ | ((first | refine Wo fun K hK=>?_ | refine Wq ?_ | refine Wr ?_);(try simp only [go_sem,fN,seval,eT,iR]);(repeat refine Ai ?_);(try (refine hK _ ?_;clear hK K)))
  refine ⟨_,Am _,?_⟩
  by_cases hv:AJ t.name=true∧0 < t.args.length
  ·obtain ⟨hv1,hv2⟩:=hv
   have hv2':(0:Int) < t.args.length:=by omega
   rw [if_pos ⟨hv1,hv2⟩] at hc1
   rw [hv1]
   repeat' with_reducible first | refine W ?_ | refine Z0 ?_ | ((first | refine Wo fun K hK=>?_ | refine Wq ?_ | refine Wr ?_);(try simp only [go_sem,fN,seval,eT,iR,hv2']);(repeat refine Ai ?_);(try (refine hK _ ?_;clear hK K)))
   with_reducible refine Wp ?_
   simp only [go_sem,fN,seval,true_implies,false_implies,implies_true,dT,dF,nL,hv2']
   (try with_reducible refine iC ?_)
   repeat' with_reducible first | refine W ?_ | refine Z0 ?_ | ((first | refine Wo fun K hK=>?_ | refine Wq ?_ | refine Wr ?_);(try simp only [go_sem,fN,seval,eT,iR]);(repeat refine Ai ?_);(try (refine hK _ ?_;clear hK K)))
   simp only [go_sem,fN,seval,AN,AS.result,AB,AD,AK]
   rw [hc,hc1]
   rfl
  ·rw [if_neg hv] at hc1
   rw [if_pos hc1] at hc
   have hv2:AJ t.name=true→¬ (0:Int) < t.args.length:=fun h h'=>hv ⟨h,by omega⟩
   cases hvv:AJ t.name
   all_goals
    simp only [hvv,true_implies,false_implies,Bool.false_eq_true] at hv2
    repeat' with_reducible first | refine W ?_ | refine Z0 ?_ | ((first | refine Wo fun K hK=>?_ | refine Wq ?_ | refine Wr ?_);(try simp only [go_sem,fN,seval,eT,iR,hv2]);(repeat refine Ai ?_);(try (refine hK _ ?_;clear hK K)))
    with_reducible refine Wp ?_
    simp only [go_sem,fN,seval,true_implies,false_implies,implies_true,dT,dF,nL,hv2]
    (try with_reducible refine iC ?_)
    repeat' with_reducible first | refine W ?_ | refine Z0 ?_ | ((first | refine Wo fun K hK=>?_ | refine Wq ?_ | refine Wr ?_);(try simp only [go_sem,fN,seval,eT,iR]);(repeat refine Ai ?_);(try (refine hK _ ?_;clear hK K)))
    refine IWP.loopD [4] (fun n s=>∃ k,k≤t.args.length∧n=t.args.length - k∧Tm.chkL (t.args.take k)=0∧s.env 20=.one (.st (.list (t.args.map Ap)))∧s.env 21=AO t.args.length∧s.env 22=AO k∧s.S 4=none) t.args.length ⟨0,Nat.zero_le _,rfl,rfl,rfl,rfl,rfl,rfl⟩ ?_
    rintro n ⟨env,S⟩ ⟨k,hk,rfl,h0,e20,e21,e22,s4⟩
    simp only at e20 e21 e22 s4
    repeat' with_reducible first | refine W ?_ | refine Z0 ?_ | ((first | refine Wo fun K hK=>?_ | refine Wq ?_ | refine Wr ?_);(try simp only [go_sem,fN,seval,eT,iR,e20,e21,e22,s4]);(repeat refine Ai ?_);(try (refine hK _ ?_;clear hK K)))
    with_reducible refine Wp ?_
    simp only [go_sem,fN,seval,true_implies,false_implies,implies_true,dT,dF,nL,e20,e21,e22,s4]
    (try with_reducible refine iC ?_)
    refine ⟨fun hlt=>?_,fun hge=>?_⟩
    ·obtain ⟨a,ha⟩:=Ag (show k < t.args.length by omega)
     obtain ⟨g1,g2⟩:=Tm.chkL_get ha h0
     repeat' (first | (with_reducible first | refine W ?_ | refine Z0 ?_ | ((first | refine Wo fun K hK=>?_ | refine Wq ?_ | refine Wr ?_);(try simp only [go_sem,fN,seval,eT,iR,e20,e21,e22,s4,ha]);(repeat refine Ai ?_);(try (refine hK _ ?_;clear hK K)))) | refine Cg _ (ih _ (Tm.lt_of_arg (AQ ha)) a rfl) ?_)
     with_reducible refine Wp ?_
     simp only [go_sem,fN,seval,true_implies,false_implies,implies_true,dT,dF,nL]
     (try with_reducible refine iC ?_)
     refine ⟨fun hb=>?_,fun hb=>?_⟩
     ·repeat' with_reducible first | refine W ?_ | refine Z0 ?_ | ((first | refine Wo fun K hK=>?_ | refine Wq ?_ | refine Wr ?_);(try simp only [go_sem,fN,seval,eT,iR]);(repeat refine Ai ?_);(try (refine hK _ ?_;clear hK K)))
      simp only [go_sem,fN,seval,AN,AS.result,AB,AD,AK]
      rw [hc,g2 hb]
     ·repeat' with_reducible first | refine W ?_ | refine Z0 ?_ | ((first | refine Wo fun K hK=>?_ | refine Wq ?_ | refine Wr ?_);(try simp only [go_sem,fN,seval,eT,iR,e20,e21,e22,s4]);(repeat refine Ai ?_);(try (refine hK _ ?_;clear hK K)))
      refine AI ⟨t.args.length - (k + 1),by omega,k + 1,by omega,rfl,g1 (by omega),?_⟩
      simp only [go_sem,fN,seval,AS.drop,Ao,AC.clears,AC.clear,AC.highs,AC.high,Bool.not_false,Bool.true_and,Bool.and_self,AV.purge,AV.purges,AC.purge,AL.purge,List.contains_cons,List.contains_nil,Nat.reduceBEq,Bool.or_self,Bool.or_false,Bool.false_or,Bool.or_true,eT,iR,e20,e21,e22,s4]
      congr 3
    ·repeat' with_reducible first | refine W ?_ | refine Z0 ?_ | ((first | refine Wo fun K hK=>?_ | refine Wq ?_ | refine Wr ?_);(try simp only [go_sem,fN,seval,eT,iR]);(repeat refine Ai ?_);(try (refine hK _ ?_;clear hK K)))
     simp only [go_sem,fN,seval,AN,AS.result,AB,AD,AK]
     rw [List.take_of_length_le (by omega)] at h0
     rw [hc,h0]
theorem EV (t:Tm):AU Tryz.prog 46 [aTm t] (AO t.may):=by
 have hm:t.may=if 200 < t.size then 3 else t.chk:=rfl
 refine M5.ac fun C hC=>?_
 unfold Hp
 repeat' with_reducible first | refine W ?_ | refine Z0 ?_ | ((first | refine Wo fun K hK=>?_ | refine Wq ?_ | refine Wr ?_);(try simp only [go_sem,fN,seval,eT,iR]);(repeat refine Ai ?_);(try (refine hK _ ?_;clear hK K)))
 refine ⟨_,Wf t 200 (by omega) (by omega),?_⟩
 by_cases h:Ca t.size 200 < 0
 ·repeat' with_reducible first | refine W ?_ | refine Z0 ?_ | ((first | refine Wo fun K hK=>?_ | refine Wq ?_ | refine Wr ?_);(try simp only [go_sem,fN,seval,eT,iR,h]);(repeat refine Ai ?_);(try (refine hK _ ?_;clear hK K)))
  with_reducible refine Wp ?_
  simp only [go_sem,fN,seval,true_implies,false_implies,implies_true,dT,dF,nL,h]
  (try with_reducible refine iC ?_)
  repeat' with_reducible first | refine W ?_ | refine Z0 ?_ | ((first | refine Wo fun K hK=>?_ | refine Wq ?_ | refine Wr ?_);(try simp only [go_sem,fN,seval,eT,iR]);(repeat refine Ai ?_);(try (refine hK _ ?_;clear hK K)))
  simp only [go_sem,fN,seval,AN,AS.result,AB,AD,AK]
  unfold Ca at h
  rw [hm,if_pos (by split at h <;> omega)]
 ·repeat' with_reducible first | refine W ?_ | refine Z0 ?_ | ((first | refine Wo fun K hK=>?_ | refine Wq ?_ | refine Wr ?_);(try simp only [go_sem,fN,seval,eT,iR,h]);(repeat refine Ai ?_);(try (refine hK _ ?_;clear hK K)))
  with_reducible refine Wp ?_
  simp only [go_sem,fN,seval,true_implies,false_implies,implies_true,dT,dF,nL,h]
  (try with_reducible refine iC ?_)
  repeat' (first | (with_reducible first | refine W ?_ | refine Z0 ?_ | ((first | refine Wo fun K hK=>?_ | refine Wq ?_ | refine Wr ?_);(try simp only [go_sem,fN,seval,eT,iR]);(repeat refine Ai ?_);(try (refine hK _ ?_;clear hK K)))) | refine Cg _ (Y0 t) ?_)
  simp only [go_sem,fN,seval,AN,AS.result,AB,AD,AK]
  unfold Ca at h
  rw [hm,if_neg (by split at h <;> omega)]
def CY (a b:Tm):Int:=if a.may=0 then b.may else a.may
theorem Zb (l:List ByteArray) (x:ByteArray):∃ i:Int,AU Tryz.prog 98 [CR l,Bt x] (AO i)∧(0≤i ↔ Cq x l=true):=by
 by_cases hin:Cq x l=true
 ·obtain ⟨k0,hk0,hmin⟩:∃ k,l[k]?=some x∧∀ j,j < k→l[j]? ≠ some x:=by
   have hx:=DY.1 hin
   have ⟨k,hk⟩:=List.getElem?_of_mem hx
   induction k using Nat.strongRecOn with
   | _ k ih =>
    by_cases h:∃ j,j < k∧l[j]?=some x
    ·obtain ⟨j,hj,hjx⟩:=h
     exact ih j hj hjx
    ·exact ⟨k,hk,fun j hj hjx=>h ⟨j,hj,hjx⟩⟩
  have hlt0:=CW hk0
  refine ⟨k0,?_,by simp [hin]⟩
  refine CI.ac fun C hC=>?_
  unfold Ba
  refine IWP.learn 0 (by omega) fun hkn=>?_
  have hkn:=Fe hkn
  rw [List.length_map] at hkn
  repeat' with_reducible first | refine W ?_ | refine Z0 ?_ | ((first | refine Wo fun K hK=>?_ | refine Wq ?_ | refine Wr ?_);(try simp only [go_sem,fN,seval,eT,iR]);(repeat refine Ai ?_);(try (refine hK _ ?_;clear hK K)))
  refine IWP.loop (fun n s=>∃ k,k≤k0∧n=k0 - k∧s.env 0=CR l∧s.env 1=Bt x∧s.env 7=AO l.length∧s.env 8=AO k) k0 ⟨0,Nat.zero_le _,rfl,rfl,rfl,rfl,rfl⟩ ?_
  rintro n ⟨env,S⟩ ⟨k,hk,rfl,e0,e1,e7,e8⟩
  simp only at e0 e1 e7 e8
  have hlt:(k:Int) < l.length:=by omega
  repeat' with_reducible first | refine W ?_ | refine Z0 ?_ | ((first | refine Wo fun K hK=>?_ | refine Wq ?_ | refine Wr ?_);(try simp only [go_sem,fN,seval,eT,iR,e0,e1,e7,e8,hlt]);(repeat refine Ai ?_);(try (refine hK _ ?_;clear hK K)))
  with_reducible refine Wp ?_
  simp only [go_sem,fN,seval,true_implies,false_implies,implies_true,dT,dF,nL,e0,e1,e7,e8,hlt]
  (try with_reducible refine iC ?_)
  obtain ⟨a,ha⟩:=Ag (show k < l.length by omega)
  repeat' with_reducible first | refine W ?_ | refine Z0 ?_ | ((first | refine Wo fun K hK=>?_ | refine Wq ?_ | refine Wr ?_);(try simp only [go_sem,fN,seval,eT,iR,e0,e1,e7,e8,ha]);(repeat refine Ai ?_);(try (refine hK _ ?_;clear hK K)))
  by_cases he:k=k0
  ·subst he
   rw [hk0] at ha
   cases ha
   with_reducible refine Wp ?_
   simp only [go_sem,fN,seval,true_implies,false_implies,implies_true,dT,dF,nL]
   (try with_reducible refine iC ?_)
   repeat' with_reducible first | refine W ?_ | refine Z0 ?_ | ((first | refine Wo fun K hK=>?_ | refine Wq ?_ | refine Wr ?_);(try simp only [go_sem,fN,seval,eT,iR,e0,e1,e7,e8]);(repeat refine Ai ?_);(try (refine hK _ ?_;clear hK K)))
   simp only [go_sem,fN,seval,AN,AS.result,AB,AD,AK]
  ·have hne:¬ x=a:=fun e=>hmin k (by omega) (by rw [ha,e])
   with_reducible refine Wp ?_
   simp only [go_sem,fN,seval,true_implies,false_implies,implies_true,dT,dF,nL,hne]
   (try with_reducible refine iC ?_)
   repeat' with_reducible first | refine W ?_ | refine Z0 ?_ | ((first | refine Wo fun K hK=>?_ | refine Wq ?_ | refine Wr ?_);(try simp only [go_sem,fN,seval,eT,iR,e0,e1,e7,e8]);(repeat refine Ai ?_);(try (refine hK _ ?_;clear hK K)))
   refine AI ⟨k0 - (k + 1),by omega,k + 1,by omega,rfl,?_⟩
   simp only [go_sem,fN,seval,eT,iR,e0,e1,e7,e8]
   congr 3
 ·rw [Bool.not_eq_true] at hin
  refine ⟨-1,?_,by simp [hin]⟩
  refine CI.ac fun C hC=>?_
  unfold Ba
  refine IWP.learn 0 (by omega) fun hkn=>?_
  have hkn:=Fe hkn
  rw [List.length_map] at hkn
  repeat' with_reducible first | refine W ?_ | refine Z0 ?_ | ((first | refine Wo fun K hK=>?_ | refine Wq ?_ | refine Wr ?_);(try simp only [go_sem,fN,seval,eT,iR]);(repeat refine Ai ?_);(try (refine hK _ ?_;clear hK K)))
  refine IWP.loop (fun n s=>∃ k,k≤l.length∧n=l.length - k∧s.env 0=CR l∧s.env 1=Bt x∧s.env 7=AO l.length∧s.env 8=AO k) l.length ⟨0,Nat.zero_le _,rfl,rfl,rfl,rfl,rfl⟩ ?_
  rintro n ⟨env,S⟩ ⟨k,hk,rfl,e0,e1,e7,e8⟩
  simp only at e0 e1 e7 e8
  by_cases hlt:(k:Int) < l.length
  ·repeat' with_reducible first | refine W ?_ | refine Z0 ?_ | ((first | refine Wo fun K hK=>?_ | refine Wq ?_ | refine Wr ?_);(try simp only [go_sem,fN,seval,eT,iR,e0,e1,e7,e8,hlt]);(repeat refine Ai ?_);(try (refine hK _ ?_;clear hK K)))
   with_reducible refine Wp ?_
   simp only [go_sem,fN,seval,true_implies,false_implies,implies_true,dT,dF,nL,e0,e1,e7,e8,hlt]
   (try with_reducible refine iC ?_)
   obtain ⟨a,ha⟩:=Ag (show k < l.length by omega)
   have hne:¬ x=a:=fun e=>by
    rw [Pz] at hin
    exact hin (by rw [e];exact AQ ha)
   repeat' with_reducible first | refine W ?_ | refine Z0 ?_ | ((first | refine Wo fun K hK=>?_ | refine Wq ?_ | refine Wr ?_);(try simp only [go_sem,fN,seval,eT,iR,e0,e1,e7,e8,ha]);(repeat refine Ai ?_);(try (refine hK _ ?_;clear hK K)))
   with_reducible refine Wp ?_
   simp only [go_sem,fN,seval,true_implies,false_implies,implies_true,dT,dF,nL,hne]
   (try with_reducible refine iC ?_)
   repeat' with_reducible first | refine W ?_ | refine Z0 ?_ | ((first | refine Wo fun K hK=>?_ | refine Wq ?_ | refine Wr ?_);(try simp only [go_sem,fN,seval,eT,iR,e0,e1,e7,e8]);(repeat refine Ai ?_);(try (refine hK _ ?_;clear hK K)))
   refine AI ⟨l.length - (k + 1),by omega,k + 1,by omega,rfl,?_⟩
   simp only [go_sem,fN,seval,eT,iR,e0,e1,e7,e8]
   congr 3
  ·repeat' with_reducible first | refine W ?_ | refine Z0 ?_ | ((first | refine Wo fun K hK=>?_ | refine Wq ?_ | refine Wr ?_);(try simp only [go_sem,fN,seval,eT,iR,e0,e1,e7,e8,hlt]);(repeat refine Ai ?_);(try (refine hK _ ?_;clear hK K)))
   with_reducible refine Wp ?_
   simp only [go_sem,fN,seval,true_implies,false_implies,implies_true,dT,dF,nL,e0,e1,e7,e8,hlt]
   (try with_reducible refine iC ?_)
   repeat' with_reducible first | refine W ?_ | refine Z0 ?_ | ((first | refine Wo fun K hK=>?_ | refine Wq ?_ | refine Wr ?_);(try simp only [go_sem,fN,seval,eT,iR]);(repeat refine Ai ?_);(try (refine hK _ ?_;clear hK K)))
   simp only [go_sem,fN,seval,AN,AS.result,AB,AD,AK]
theorem GE (l:List ByteArray) (x:ByteArray):AU Tryz.prog 68 [CR l,Bt x] (Aa (Cq x l)):=by
 obtain ⟨i,h1,h2⟩:=Zb l x
 refine DU.ac fun C hC=>?_
 unfold B2
 repeat' (first | (with_reducible first | refine W ?_ | refine Z0 ?_ | ((first | refine Wo fun K hK=>?_ | refine Wq ?_ | refine Wr ?_);(try simp only [go_sem,fN,seval,eT,iR]);(repeat refine Ai ?_);(try (refine hK _ ?_;clear hK K)))) | refine Cg _ (h1) ?_)
 simp only [go_sem,fN,seval,AN,AS.result,AB,AD,AK]
 congr 4
 cases hi:Cq x l with
 | true=>exact decide_eq_true (h2.2 hi)
 | false =>
  refine decide_eq_false fun h=>?_
  rw [h2.1 h] at hi
  cases hi
mutual
def Tm.beq:Tm→Tm→Bool
 | .mk n xs,.mk m ys=>decide (n=m) && Tm.beqL xs ys
def Tm.beqL:List Tm→List Tm→Bool
 | [],[]=>true
 | x :: xs,y :: ys=>x.beq y && Tm.beqL xs ys
 | _,_=>false
end
mutual
theorem Tm.beq_iff:∀ a b:Tm,a.beq b=true ↔ a=b
 | .mk n xs,.mk m ys=>by
  rw [Tm.beq,Bool.and_eq_true,Tm.beqL_iff xs ys,decide_eq_true_eq,Tm.mk.injEq]
theorem Tm.beqL_iff:∀ xs ys:List Tm,Tm.beqL xs ys=true ↔ xs=ys
 | [],[]=>by simp [Tm.beqL]
 | x :: xs,y :: ys=>by rw [Tm.beqL,Bool.and_eq_true,Tm.beq_iff x y,Tm.beqL_iff xs ys,List.cons.injEq]
 | [],y :: ys=>by simp [Tm.beqL]
 | x :: xs,[]=>by simp [Tm.beqL]
end
theorem Tm.beq_refl (a:Tm):a.beq a=true:=(Tm.beq_iff a a).2 rfl
theorem Tm.eq_of {a b:Tm} (h1:a.name=b.name) (h2:a.args=b.args):a=b:=by
 cases a;cases b
 simp only [Tm.name_mk,Tm.args_mk] at h1 h2
 rw [h1,h2]
theorem Yw (a b:Tm):AU Tryz.prog 19 [aTm a,aTm b] (Aa (a.beq b)):=by
 induction h:SizeOf.sizeOf a using Nat.strongRecOn generalizing a b with
 | _ N ih =>
 subst h
 have hno:a ≠ b→a.beq b=false:=fun h=>by
  rw [← Bool.not_eq_true,Tm.beq_iff]
  exact h
 refine Vx.ac fun C hC=>?_
 unfold Ol
 refine IWP.learn 0 (by omega) fun hkn=>?_
 have hkn:=G_ hkn
 by_cases hn:a.name=b.name
 ·by_cases hl:a.args.length=b.args.length
  ·have hl':(a.args.length:Int)=b.args.length:=by omega
   repeat' with_reducible first | refine W ?_ | refine Z0 ?_ | ((first | refine Wo fun K hK=>?_ | refine Wq ?_ | refine Wr ?_);(try simp only [go_sem,fN,seval,eT,iR,hn,hl']);(repeat refine Ai ?_);(try (refine hK _ ?_;clear hK K)))
   with_reducible refine Wp ?_
   simp only [go_sem,fN,seval,true_implies,false_implies,implies_true,dT,dF,nL,hn,hl']
   (try with_reducible refine iC ?_)
   repeat' with_reducible first | refine W ?_ | refine Z0 ?_ | ((first | refine Wo fun K hK=>?_ | refine Wq ?_ | refine Wr ?_);(try simp only [go_sem,fN,seval,eT,iR]);(repeat refine Ai ?_);(try (refine hK _ ?_;clear hK K)))
   refine IWP.loop (fun n s=>∃ k,k≤a.args.length∧n=a.args.length - k∧a.args.take k=b.args.take k∧s.env 2=.one (.ptr 2 1 0 0)∧s.env 3=.one (.ptr 3 1 0 0)∧s.S 2=some (.box 37 [.st (.str b.name),.st (.list (a.args.map Ap))])∧s.S 3=some (.box 37 [.st (.str b.name),.st (.list (b.args.map Ap))])∧s.env 5=AO k) a.args.length ⟨0,Nat.zero_le _,rfl,rfl,rfl,rfl,rfl,rfl,rfl⟩ ?_
   rintro n ⟨env,S⟩ ⟨k,hk,rfl,h0,e2,e3,s2,s3,e5⟩
   simp only at e2 e3 s2 s3 e5
   repeat' with_reducible first | refine W ?_ | refine Z0 ?_ | ((first | refine Wo fun K hK=>?_ | refine Wq ?_ | refine Wr ?_);(try simp only [go_sem,fN,seval,eT,iR,e2,e3,s2,s3,e5]);(repeat refine Ai ?_);(try (refine hK _ ?_;clear hK K)))
   with_reducible refine Wp ?_
   simp only [go_sem,fN,seval,true_implies,false_implies,implies_true,dT,dF,nL]
   (try with_reducible refine iC ?_)
   refine ⟨fun hlt=>?_,fun hge=>?_⟩
   ·obtain ⟨x,hx⟩:=Ag (show k < a.args.length by omega)
    obtain ⟨y,hy⟩:=Ag (show k < b.args.length by omega)
    repeat' (first | (with_reducible first | refine W ?_ | refine Z0 ?_ | ((first | refine Wo fun K hK=>?_ | refine Wq ?_ | refine Wr ?_);(try simp only [go_sem,fN,seval,eT,iR,e2,e3,s2,s3,e5,hx,hy]);(repeat refine Ai ?_);(try (refine hK _ ?_;clear hK K)))) | refine Cg _ (ih _ (Tm.lt_of_arg (AQ hx)) x y rfl) ?_)
    cases hxy:x.beq y with
    | false =>
     with_reducible refine Wp ?_
     simp only [go_sem,fN,seval,true_implies,false_implies,implies_true,dT,dF,nL]
     (try with_reducible refine iC ?_)
     repeat' with_reducible first | refine W ?_ | refine Z0 ?_ | ((first | refine Wo fun K hK=>?_ | refine Wq ?_ | refine Wr ?_);(try simp only [go_sem,fN,seval,eT,iR]);(repeat refine Ai ?_);(try (refine hK _ ?_;clear hK K)))
     simp only [go_sem,fN,seval,AN,AS.result,AB,AD,AK]
     rw [hno fun e=>by
      subst e
      rw [hx] at hy
      cases hy
      rw [Tm.beq_refl] at hxy
      cases hxy]
    | true =>
     have hxy:=(Tm.beq_iff x y).1 hxy
     with_reducible refine Wp ?_
     simp only [go_sem,fN,seval,true_implies,false_implies,implies_true,dT,dF,nL]
     (try with_reducible refine iC ?_)
     repeat' with_reducible first | refine W ?_ | refine Z0 ?_ | ((first | refine Wo fun K hK=>?_ | refine Wq ?_ | refine Wr ?_);(try simp only [go_sem,fN,seval,eT,iR,e2,e3,s2,s3,e5]);(repeat refine Ai ?_);(try (refine hK _ ?_;clear hK K)))
     refine AI ⟨a.args.length - (k + 1),by omega,k + 1,by omega,rfl,?_,?_⟩
     ·rw [Al hx,Al hy,h0,hxy]
     ·simp only [go_sem,fN,seval,eT,iR,e2,e3,s2,s3,e5]
      congr 3
   ·repeat' with_reducible first | refine W ?_ | refine Z0 ?_ | ((first | refine Wo fun K hK=>?_ | refine Wq ?_ | refine Wr ?_);(try simp only [go_sem,fN,seval,eT,iR]);(repeat refine Ai ?_);(try (refine hK _ ?_;clear hK K)))
    simp only [go_sem,fN,seval,AN,AS.result,AB,AD,AK]
    rw [List.take_of_length_le (by omega),List.take_of_length_le (by omega)] at h0
    rw [Tm.eq_of hn h0,Tm.beq_refl]
  ·have hl':¬ (a.args.length:Int)=b.args.length:=by omega
   repeat' with_reducible first | refine W ?_ | refine Z0 ?_ | ((first | refine Wo fun K hK=>?_ | refine Wq ?_ | refine Wr ?_);(try simp only [go_sem,fN,seval,eT,iR,hn,hl']);(repeat refine Ai ?_);(try (refine hK _ ?_;clear hK K)))
   with_reducible refine Wp ?_
   simp only [go_sem,fN,seval,true_implies,false_implies,implies_true,dT,dF,nL,hn,hl']
   (try with_reducible refine iC ?_)
   repeat' with_reducible first | refine W ?_ | refine Z0 ?_ | ((first | refine Wo fun K hK=>?_ | refine Wq ?_ | refine Wr ?_);(try simp only [go_sem,fN,seval,eT,iR]);(repeat refine Ai ?_);(try (refine hK _ ?_;clear hK K)))
   simp only [go_sem,fN,seval,AN,AS.result,AB,AD,AK]
   rw [hno fun e=>hl (by rw [e])]
 ·repeat' with_reducible first | refine W ?_ | refine Z0 ?_ | ((first | refine Wo fun K hK=>?_ | refine Wq ?_ | refine Wr ?_);(try simp only [go_sem,fN,seval,eT,iR,hn]);(repeat refine Ai ?_);(try (refine hK _ ?_;clear hK K)))
  with_reducible refine Wp ?_
  simp only [go_sem,fN,seval,true_implies,false_implies,implies_true,dT,dF,nL,hn]
  (try with_reducible refine iC ?_)
  repeat' with_reducible first | refine W ?_ | refine Z0 ?_ | ((first | refine Wo fun K hK=>?_ | refine Wq ?_ | refine Wr ?_);(try simp only [go_sem,fN,seval,eT,iR]);(repeat refine Ai ?_);(try (refine hK _ ?_;clear hK K)))
  simp only [go_sem,fN,seval,AN,AS.result,AB,AD,AK]
  rw [hno fun e=>hn (by rw [e])]
def Tm.nil:Tm:=.mk ⟨#[]⟩ []

theorem N0 {ts:List ByteArray}:∀ x ∈ ts.map EC,x.length=1:=by
 intro x hx
 obtain ⟨a,_,rfl⟩:=List.mem_map.1 hx
 rfl
theorem IQ {α:Type} (f:Nat→α) (i:Nat) (a b:α):AG (AG f i a) i b=AG f i b:=by
 funext k
 unfold AG
 split <;> rfl
theorem Nj {α:Type} (f:Nat→α) {i j:Nat} (h:¬ i=j) (a b:α):AG (AG f i a) j b=AG (AG f j b) i a:=by
 funext k
 unfold AG
 split
 ·rename_i e
  subst e
  rw [if_neg (fun e=>h e.symm)]
 ·rfl
theorem Nw (t:Tm) (hz:t.size≤1000000)
  (ih:∀ a ∈ t.args,∀ (i:Nat) (l:List ByteArray) (S:AA),1000≤i→l.length + a.size≤3000000→S i=some (.arow 9 1 (l.map EC)) →
   As Tryz.prog 124 [aTm a,.one (.row i l.length)] S (.one (.row i (Ah l a.knots).length)) (AG S i (some (.arow 9 1 ((Ah l a.knots).map EC)))))
  (C:Ctx) (hC:C.n=34) (i:Nat) (hi:20 < i) (l:List ByteArray) (hlz:l.length + t.size≤3000000) (S:AA) (hS:Ax S) (env:Nat→AV) (e0:env 0=aTm t) (e1:env 1=.one (.row i l.length))
  (Q:AX→AS→Prop) (hQ:∀ env',env' 4=.one (.row i (Ah l t.knots).length)→Q .ret ⟨env',AG (AG S 2 (some (.box 37 [.st (.str t.name),.st (.list (t.args.map Ap))]))) i (some (.arow 9 1 ((Ah l t.knots).map EC)))⟩) :
  IWP Tryz.prog C [31] GM Q ⟨env,AG S i (some (.arow 9 1 (l.map EC)))⟩:=by
 have hs:=Tm.size_eq t
 have hk:=Tm.knots_eq t
 have hc2:=AP hS (i:=2) (by omega)
 have hc6:=AP hS (i:=6) (by omega)
 have hi2:¬ 2=i:=by omega
 have hi6:¬ 6=i:=by omega
 have hi2':¬ i=2:=by omega
 have hi6':¬ i=6:=by omega
 unfold GM
 have hlk:∀ k,(Ah (BQ l t.name) (Tm.knotsL (t.args.take k))).length≤l.length + 1 + Tm.sizes (t.args.take k):=fun k=>by
  have h1:=DI (Tm.knotsL (t.args.take k)) (BQ l t.name)
  have h2:=Hs l t.name
  have h3:=Tm.knotsL_length (t.args.take k)
  omega
 repeat' with_reducible first | refine W ?_ | refine Z0 ?_ | ((first | refine Wo fun K hK=>?_ | refine Wq ?_ | refine Wr ?_);(try simp only [go_sem,fN,seval,eT,iR,e0,e1,hc2,hi2,hi6,hi2',hi6']);(repeat refine Ai ?_);(try (refine hK _ ?_;clear hK K)))
 refine ⟨_,Am _,?_⟩
 rcases (show AJ t.name=false ∨ (AJ t.name=true∧Cq t.name l=true) ∨ (AJ t.name=true∧Cq t.name l=false) by cases AJ t.name <;> cases Cq t.name l <;> simp) with hv | ⟨hv,hin⟩ | ⟨hv,hin⟩
 case' inl =>
  have hl1:=OO (l:=l) hv
  repeat' with_reducible first | refine W ?_ | refine Z0 ?_ | ((first | refine Wo fun K hK=>?_ | refine Wq ?_ | refine Wr ?_);(try simp only [go_sem,fN,seval,eT,iR,e0,e1,hv,hi2,hi2']);(repeat refine Ai ?_);(try (refine hK _ ?_;clear hK K)))
  with_reducible refine Wp ?_
  simp only [go_sem,fN,seval,true_implies,false_implies,implies_true,dT,dF,nL,hv]
  (try with_reducible refine iC ?_)
  repeat' with_reducible first | refine W ?_ | refine Z0 ?_ | ((first | refine Wo fun K hK=>?_ | refine Wq ?_ | refine Wr ?_);(try simp only [go_sem,fN,seval,eT,iR,e0,e1,hi2,hi2']);(repeat refine Ai ?_);(try (refine hK _ ?_;clear hK K)))
 case' inr.inl =>
  have hl1:=Oa (l:=l) hin
  repeat' (first | (with_reducible first | refine W ?_ | refine Z0 ?_ | ((first | refine Wo fun K hK=>?_ | refine Wq ?_ | refine Wr ?_);(try simp only [go_sem,fN,seval,eT,iR,e0,e1,hv,hi2,hi2',hin]);(repeat refine Ai ?_);(try (refine hK _ ?_;clear hK K)))) | refine Cg _ (GE _ _) ?_)
  with_reducible refine Wp ?_
  simp only [go_sem,fN,seval,true_implies,false_implies,implies_true,dT,dF,nL,hv]
  (try with_reducible refine iC ?_)
  repeat' with_reducible first | refine W ?_ | refine Z0 ?_ | ((first | refine Wo fun K hK=>?_ | refine Wq ?_ | refine Wr ?_);(try simp only [go_sem,fN,seval,eT,iR,e0,e1,hi2,hi2']);(repeat refine Ai ?_);(try (refine hK _ ?_;clear hK K)))
 case' inr.inr =>
  have hl1:=Mo (l:=l) hv hin
  repeat' (first | (with_reducible first | refine W ?_ | refine Z0 ?_ | ((first | refine Wo fun K hK=>?_ | refine Wq ?_ | refine Wr ?_);(try simp only [go_sem,fN,seval,eT,iR,e0,e1,hv,hi2,hi2',hin]);(repeat refine Ai ?_);(try (refine hK _ ?_;clear hK K)))) | refine Cg _ (GE _ _) ?_)
  with_reducible refine Wp ?_
  simp only [go_sem,fN,seval,true_implies,false_implies,implies_true,dT,dF,nL,hv]
  (try with_reducible refine iC ?_)
  repeat' with_reducible first | refine W ?_ | refine Z0 ?_ | ((first | refine Wo fun K hK=>?_ | refine Wq ?_ | refine Wr ?_);(try simp only [go_sem,fN,seval,eT,iR,e0,e1,hi2,hi2']);(repeat refine Ai ?_);(try (refine hK _ ?_;clear hK K)))
 all_goals
  refine IWP.loopD [6] (fun m s=>∃ k,k≤t.args.length∧m=t.args.length - k∧s.env 1=.one (.row i (Ah (BQ l t.name) (Tm.knotsL (t.args.take k))).length)∧s.env 23=.one (.st (.list (t.args.map Ap)))∧s.env 24=AO t.args.length∧s.env 25=AO k∧s.S=AG (AG S 2 (some (.box 37 [.st (.str t.name),.st (.list (t.args.map Ap))]))) i (some (.arow 9 1 ((Ah (BQ l t.name) (Tm.knotsL (t.args.take k))).map EC)))) t.args.length ⟨0,Nat.zero_le _,rfl,?_,rfl,rfl,rfl,?_⟩ ?_
  ·show _=AV.one (.row i (BQ l t.name).length)
   rw [hl1]
   simp only [go_sem,fN,seval,eT,iR,e1]
  ·show _=AG (AG S 2 _) i (some (.arow 9 1 ((BQ l t.name).map EC)))
   rw [hl1]
   first
    | (simp only [IQ];exact Nj _ hi2' _ _)
    | (simp only [Nj _ hi2',IQ,List.map_append];rfl)
  rintro m ⟨env',S'⟩ ⟨k,hk',rfl,e1',e23,e24,e25,hS'⟩
  simp only at e1' e23 e24 e25 hS'
  have s6:S' 6=none:=by rw [hS',AH _ hi6,AH _ (by omega),hc6]
  have si:S' i=some (.arow 9 1 ((Ah (BQ l t.name) (Tm.knotsL (t.args.take k))).map EC)):=by rw [hS',AE]
  have hlk':=hlk k
  have z3:=Tm.length_le t.args
  by_cases hlt:(k:Int) < t.args.length
  ·obtain ⟨a,ha⟩:=Ag (show k < t.args.length by omega)
   have z1:=Tm.sizes_take ha
   have z2:=Tm.sizes_take_le t.args (k + 1)
   repeat' with_reducible first | refine W ?_ | refine Z0 ?_ | ((first | refine Wo fun K hK=>?_ | refine Wq ?_ | refine Wr ?_);(try simp only [go_sem,fN,seval,eT,iR,e1',e23,e24,e25,s6,si,hlt]);(repeat refine Ai ?_);(try (refine hK _ ?_;clear hK K)))
   with_reducible refine Wp ?_
   simp only [go_sem,fN,seval,true_implies,false_implies,implies_true,dT,dF,nL,e1',e23,e24,e25,s6,si,hlt]
   (try with_reducible refine iC ?_)
   repeat' with_reducible first | refine W ?_ | refine Z0 ?_ | ((first | refine Wo fun K hK=>?_ | refine Wq ?_ | refine Wr ?_);(try simp only [go_sem,fN,seval,eT,iR,e1',e23,e24,e25,s6,si,ha]);(repeat refine Ai ?_);(try (refine hK _ ?_;clear hK K)))
   have hni:([6]:List Nat).contains i=false:=by simp;omega
   refine ⟨_,_,ih a (AQ ha) (up1 i) _ _ (At i) (by omega) (by rw [A0,AH _ hi6',AH _ hi6',si];rfl),?_⟩
   repeat' with_reducible first | refine W ?_ | refine Z0 ?_ | ((first | refine Wo fun K hK=>?_ | refine Wq ?_ | refine Wr ?_);(try simp only [go_sem,fN,seval,eT,iR,e23,e24,e25]);(repeat refine Ai ?_);(try (refine hK _ ?_;clear hK K)))
   refine AI ⟨t.args.length - (k + 1),by omega,k + 1,by omega,rfl,?_⟩
   have hib:(i == 6)=false:=by simp;omega
   simp only [go_sem,fN,seval,AS.drop,AC.clears,AC.clear,AC.highs,AC.high,Bool.not_false,Bool.true_and,Bool.and_self,AV.purge,AV.purges,AC.purge,AL.purge,List.contains_cons,List.contains_nil,Nat.reduceBEq,Bool.or_self,Bool.or_false,Bool.false_or,Bool.or_true,eT,iR,e23,e24,hib]
   rw [Tm.knotsL_take ha,HK]
   refine ⟨rfl,by congr 3,?_⟩
   rw [KR hni,Q7 rfl,Q7 rfl,hS',KR hni,KR rfl,Rj (by decide) hS,IQ]
   rfl
  ·repeat' with_reducible first | refine W ?_ | refine Z0 ?_ | ((first | refine Wo fun K hK=>?_ | refine Wq ?_ | refine Wr ?_);(try simp only [go_sem,fN,seval,eT,iR,e1',e23,e24,e25,hlt]);(repeat refine Ai ?_);(try (refine hK _ ?_;clear hK K)))
   with_reducible refine Wp ?_
   simp only [go_sem,fN,seval,true_implies,false_implies,implies_true,dT,dF,nL,e1',e23,e24,e25,hlt]
   (try with_reducible refine iC ?_)
   repeat' with_reducible first | refine W ?_ | refine Z0 ?_ | ((first | refine Wo fun K hK=>?_ | refine Wq ?_ | refine Wr ?_);(try simp only [go_sem,fN,seval,eT,iR,e1']);(repeat refine Ai ?_);(try (refine hK _ ?_;clear hK K)))
   rw [hS']
   have hfin:Ah (BQ l t.name) (Tm.knotsL (t.args.take k))=Ah l t.knots:=by rw [List.take_of_length_le (by omega),hk];rfl
   rw [hfin]
   refine hQ _ ?_
   simp only [go_sem,fN,seval,eT,iR]
theorem Uz {α:Type} {f:Nat→α} {i:Nat} {a:α} (h:f i=a):AG f i a=f:=by
 funext k
 unfold AG
 split
 ·rename_i e
  rw [e,h]
 ·rfl
theorem WV (t:Tm) (hz:t.size≤1000000):∀ (i:Nat) (l:List ByteArray) (S:AA),1000≤i→l.length + t.size≤3000000→S i=some (.arow 9 1 (l.map EC)) →
   As Tryz.prog 124 [aTm t,.one (.row i l.length)] S (.one (.row i (Ah l t.knots).length)) (AG S i (some (.arow 9 1 ((Ah l t.knots).map EC)))):=by
 induction h:SizeOf.sizeOf t using Nat.strongRecOn generalizing t with
 | _ N ih =>
 subst h
 have hs:=Tm.size_eq t
 intro i l S hi hl hSi
 refine Jd.acS fun hS C hC=>?_
 have hcore:=Nw t hz (fun a ha=>ih _ (Tm.lt_of_arg ha) a (by have:=Tm.size_mem ha;omega) rfl) C hC i (by omega) l hl S hS (fun j=>([aTm t,.one (.row i l.length)][j]?).getD (.tup [])) rfl rfl
  (Jt C [.t 4] (.one (.row i (Ah l t.knots).length)) (AG S i (some (.arow 9 1 ((Ah l t.knots).map EC))))) ?_
 ·rw [Uz hSi] at hcore
  exact hcore
 ·intro env' e4
  have hc':Ax (AG S i (some (.arow 9 1 ((Ah l t.knots).map EC)))):=B0 hS hi rfl
  refine UD trivial ⟨_,Ac.low (Wu (J3 (by omega) fun k c _ hk=>(hS k c hk).2) rfl),?_,?_,hc'⟩
  ·simp only [AB,AD,AK,e4,AV.low,AV.high,AC.high,hi,decide_true,if_true,Option.map_some]
  ·show B6 _=_
   rw [UZ _ hi,I7 _ (by omega),IG hS]
theorem Wx (t:Tm) (hz:t.size≤1000000) (a0:Nat) (S:AA) (ha:1000≤a0) (hSa:S a0=none) :
   As Tryz.prog 124 [aTm t,.one (.full [])] S (.one (.row a0 (Ah [] t.knots).length)) (AG S a0 (some (.arow 9 1 ((Ah [] t.knots).map EC)))):=by
 have hs:=Tm.size_eq t
 refine Jd.acS fun hS C hC=>?_
 refine IWP.ghost (Ac.own 1 21 9 1 (xs:=([]:List ByteArray).map EC) rfl (AP hS (by omega)) N0 (by omega)) ?_
 refine Nw t hz (fun a ha=>WV a (by have:=Tm.size_mem ha;omega)) C hC 21 (by omega) [] (by simp;omega) S hS _ rfl rfl _ ?_
 intro env' e4
 have hb:∀ i b,1000≤i→AG (AG S 2 (some (.box 37 [.st (.str t.name),.st (.list (t.args.map Ap))]))) 21 (some (.arow 9 1 ((Ah [] t.knots).map EC))) i=some b→b.high=true:=J3 (by omega) (J3 (by omega) fun k c _ hk=>(hS k c hk).2)
 refine UD trivial ⟨_,Ac.hand 21 a0 (b0:=.arow 9 1 ((Ah [] t.knots).map EC)) (by omega) ha (by show AG _ _ _ _=_;rw [AH _ (by omega),AH _ (by omega),hSa]) (by simp only [AE]) rfl hb,?_,?_,B0 hS ha rfl⟩
 ·simp only [AB,AD,AK,e4,AV.hand,AV.ren,AC.ren,BZ,if_true,AV.high,AC.high,ha,decide_true,Option.map_some]
 ·show AG (B6 _) _ _=_
  rw [I7 _ (by omega),I7 _ (by omega),IG hS]
theorem SW (t:Tm) (hz:t.size≤1000000):AU Tryz.prog 104 [aTm t] (CR t.varsOf):=by
 refine O9.ac fun C hC=>?_
 unfold JE
 repeat' with_reducible first | refine W ?_ | refine Z0 ?_ | ((first | refine Wo fun K hK=>?_ | refine Wq ?_ | refine Wr ?_);(try simp only [go_sem,fN,seval,eT,iR]);(repeat refine Ai ?_);(try (refine hK _ ?_;clear hK K)))
 refine ⟨_,_,Wx t hz (up1 10) _ (At 10) (by rw [A0];rfl),?_⟩
 repeat' with_reducible first | refine W ?_ | refine Z0 ?_ | ((first | refine Wo fun K hK=>?_ | refine Wq ?_ | refine Wr ?_);(try simp only [go_sem,fN,seval,eT,iR]);(repeat refine Ai ?_);(try (refine hK _ ?_;clear hK K)))
 simp only [go_sem,fN,seval,AN,AS.result,AB,AD,AK]
 rfl
theorem Gs (t:Tm) (hz:t.size≤1000000):AU Tryz.prog 42 [aTm t] (aTm t):=by
 induction h:SizeOf.sizeOf t using Nat.strongRecOn generalizing t with
 | _ N ih =>
 subst h
 have hs:=Tm.size_eq t
 have hkn:=Tm.length_le t.args
 refine PR.ac fun C hC=>?_
 unfold I1
 repeat' with_reducible first | refine W ?_ | refine Z0 ?_ | ((first | refine Wo fun K hK=>?_ | refine Wq ?_ | refine Wr ?_);(try simp only [go_sem,fN,seval,eT,iR]);(repeat refine Ai ?_);(try (refine hK _ ?_;clear hK K)))
 refine IWP.ghost (Ac.ownC 3 1 21 37 2 (xs:=([]:List Tm).map Ap) rfl rfl rfl EP) ?_
 refine IWP.loopD [5] (fun m s=>∃ k,k≤t.args.length∧m=t.args.length - k∧s.env 2=.one (.ptr 2 1 0 0)∧s.env 3=.one (.ptr 3 1 0 0)∧s.S 2=some (.box 37 [.st (.str ⟨#[]⟩),.full []])∧s.S 3=some (.box 37 [.st (.str t.name),.row 21 k])∧s.S 21=some (.arow 37 2 ((t.args.take k).map Ap))∧s.env 10=.one (.st (.list (t.args.map Ap)))∧s.env 11=AO t.args.length∧s.env 12=AO k∧s.S 5=none)
  t.args.length ⟨0,Nat.zero_le _,rfl,rfl,rfl,rfl,rfl,rfl,rfl,rfl,rfl,rfl⟩ ?_
 rintro m ⟨env,S⟩ ⟨k,hk,rfl,e2,e3,s2,s3,s21,e10,e11,e12,s5⟩
 simp only at e2 e3 s2 s3 s21 e10 e11 e12 s5
 have hlk:(t.args.take k).length=k:=by rw [List.length_take];omega
 by_cases hlt:(k:Int) < t.args.length
 ·obtain ⟨a,ha⟩:=Ag (show k < t.args.length by omega)
  repeat' with_reducible first | refine W ?_ | refine Z0 ?_ | ((first | refine Wo fun K hK=>?_ | refine Wq ?_ | refine Wr ?_);(try simp only [go_sem,fN,seval,eT,iR,e2,e3,s2,s3,s21,e10,e11,e12,s5,hlt]);(repeat refine Ai ?_);(try (refine hK _ ?_;clear hK K)))
  with_reducible refine Wp ?_
  simp only [go_sem,fN,seval,true_implies,false_implies,implies_true,dT,dF,nL,e10,e11,e12,hlt]
  (try with_reducible refine iC ?_)
  repeat' (first | (with_reducible first | refine W ?_ | refine Z0 ?_ | ((first | refine Wo fun K hK=>?_ | refine Wq ?_ | refine Wr ?_);(try simp only [go_sem,fN,seval,eT,iR,e2,e3,s2,s3,s21,e10,e11,e12,s5,ha,hlk]);(repeat refine Ai ?_);(try (refine hK _ ?_;clear hK K)))) | refine Cg _ (ih _ (Tm.lt_of_arg (AQ ha)) a (by have:=Tm.size_mem (AQ ha);omega) rfl) ?_)
  refine AI ⟨t.args.length - (k + 1),by omega,k + 1,by omega,rfl,?_⟩
  simp only [go_sem,fN,seval,AS.drop,Ao,AC.clears,AC.clear,AC.highs,AC.high,Bool.not_false,Bool.true_and,Bool.and_self,AV.purge,AV.purges,AC.purge,AL.purge,List.contains_cons,List.contains_nil,Nat.reduceBEq,Bool.or_self,Bool.or_false,Bool.false_or,Bool.or_true,eT,iR,e2,e3,s2,s3,s21,e10,e11,e12,s5]
  exact ⟨by rw [Al ha];simp [Af],by congr 3⟩
 ·repeat' with_reducible first | refine W ?_ | refine Z0 ?_ | ((first | refine Wo fun K hK=>?_ | refine Wq ?_ | refine Wr ?_);(try simp only [go_sem,fN,seval,eT,iR,e2,e3,s2,s3,s21,e10,e11,e12,s5,hlt]);(repeat refine Ai ?_);(try (refine hK _ ?_;clear hK K)))
  with_reducible refine Wp ?_
  simp only [go_sem,fN,seval,true_implies,false_implies,implies_true,dT,dF,nL,e10,e11,e12,hlt]
  (try with_reducible refine iC ?_)
  repeat' with_reducible first | refine W ?_ | refine Z0 ?_ | ((first | refine Wo fun K hK=>?_ | refine Wq ?_ | refine Wr ?_);(try simp only [go_sem,fN,seval,eT,iR,e2,e3,s2,s3,s21,e10,e11,e12,s5]);(repeat refine Ai ?_);(try (refine hK _ ?_;clear hK K)))
  have hall:t.args.take k=t.args:=List.take_of_length_le (by omega)
  rw [hall] at hlk s21
  simp only [go_sem,fN,seval,AN,AS.result,AB,AD,AK,e2,s2,s21,hlk]

def EB:List ByteArray→ByteArray→Int→Int
 | [],_,_=>-1
 | x :: xs,s,i=>if x=s then i else EB xs s (i + 1)
def CQ (row:List ByteArray) (s:ByteArray):Int:=EB row s 0
def Fh (x y:Int):Int:=if x < y then -1 else if y < x then 1 else 0
def Bx (row:List ByteArray) (a b:Tm):Int :=
 if Fh (CQ row a.name) (CQ row b.name) ≠ 0 then Fh (CQ row a.name) (CQ row b.name) else if DG a.name b.name ≠ 0 then DG a.name b.name else Fh a.args.length b.args.length
theorem X2 {x y:Int}:Fh x y < 0 ↔ x < y:=by unfold Fh;split <;> (try split) <;> omega
theorem Qy {x y:Int}:0 < Fh x y ↔ y < x:=by unfold Fh;split <;> (try split) <;> omega
theorem Fp {x y:Int}:Fh x y=0 ↔ x=y:=by unfold Fh;split <;> (try split) <;> omega
theorem Yg {a b:ByteArray}:DG a b < 0 ↔ sLt a b=true:=by
 unfold DG
 split
 ·rename_i h;simp [h]
 ·rename_i h
  split <;> simp [h]
theorem PN {a b:ByteArray}:DG a b=0 ↔ a=b:=by
 unfold DG
 split
 ·rename_i h
  constructor
  ·intro h';cases h'
  ·intro e;subst e;rw [Br] at h;cases h
 ·split <;> simp_all
theorem Ys {a b:ByteArray}:0 < DG a b ↔ sLt b a=true:=by
 unfold DG
 split
 ·rename_i h
  rw [OL h]
  simp
 ·rename_i h
  split
  ·rename_i e
   subst e
   rw [Br]
   simp
  ·rename_i e
   rcases Fg a b with h1 | h1 | h1
   ·exact absurd h1 h
   ·exact absurd h1 e
   ·simp [h1]
theorem QW {row:List ByteArray} {a b:Tm}:0 < Bx row a b ↔ CQ row b.name < CQ row a.name ∨ (CQ row a.name=CQ row b.name∧(sLt b.name a.name=true ∨ (a.name=b.name∧b.args.length < a.args.length))):=by
 unfold Bx
 rcases Int.lt_trichotomy (CQ row a.name) (CQ row b.name) with h | h | h
 ·have h1:=X2.2 h
  rw [if_pos (by omega)]
  constructor
  ·intro h2;omega
  ·intro h2;omega
 ·have h1:=Fp.2 h
  rw [if_neg (by omega)]
  rcases Fg a.name b.name with h2 | h2 | h2
  ·have h3:=Yg.2 h2
   rw [if_pos (by omega)]
   constructor
   ·intro h4;omega
   ·rintro (h4 | ⟨_,h4 | ⟨h4,_⟩⟩)
    ·omega
    ·rw [OL h2] at h4;cases h4
    ·rw [h4,Br] at h2;cases h2
  ·have h3:=PN.2 h2
   rw [if_neg (by omega),Qy]
   constructor
   ·intro h4;exact .inr ⟨h,.inr ⟨h2,by omega⟩⟩
   ·rintro (h4 | ⟨_,h4 | ⟨_,h4⟩⟩)
    ·omega
    ·rw [h2,Br] at h4;cases h4
    ·omega
  ·have h3:=Ys.2 h2
   rw [if_pos (by omega)]
   exact ⟨fun _=>.inr ⟨h,.inl h2⟩,fun _=>h3⟩
 ·have h1:=Qy.2 h
  rw [if_pos (by omega)]
  exact ⟨fun _=>.inl h,fun _=>h1⟩
theorem DB {row:List ByteArray} {a b:Tm}:Bx row a b=0 ↔ a.name=b.name∧a.args.length=b.args.length:=by
 unfold Bx
 constructor
 ·intro h
  by_cases h1:Fh (CQ row a.name) (CQ row b.name) ≠ 0
  ·rw [if_pos h1] at h;exact absurd h h1
  rw [if_neg h1] at h
  by_cases h2:DG a.name b.name ≠ 0
  ·rw [if_pos h2] at h;exact absurd h h2
  rw [if_neg h2,Fp] at h
  exact ⟨PN.1 (by omega),by omega⟩
 ·rintro ⟨h1,h2⟩
  rw [if_neg (by rw [h1,Classical.not_not];exact Fp.2 rfl),if_neg (by rw [Classical.not_not];exact PN.2 h1),h2]
  exact Fp.2 rfl
theorem Ss {row:List ByteArray} {a b c:Tm} (h:0 < Bx row a b) (k:0 < Bx row b c):0 < Bx row a c:=by
 rw [QW] at h k ⊢
 rcases h with h1 | ⟨h1,h2 | ⟨h2,h3⟩⟩ <;> rcases k with k1 | ⟨k1,k2 | ⟨k2,k3⟩⟩
 ·exact .inl (by omega)
 ·exact .inl (by omega)
 ·exact .inl (by omega)
 ·exact .inl (by omega)
 ·exact .inr ⟨by omega,.inl (Dh k2 h2)⟩
 ·exact .inr ⟨by omega,.inl (by rw [← k2];exact h2)⟩
 ·exact .inl (by omega)
 ·exact .inr ⟨by omega,.inl (by rw [h2];exact k2)⟩
 ·exact .inr ⟨by omega,.inr ⟨h2.trans k2,by omega⟩⟩
theorem IM {row:List ByteArray} {a a' b b':Tm} (h1:a.name=a'.name) (h2:a.args.length=a'.args.length) (h3:b.name=b'.name) (h4:b.args.length=b'.args.length):Bx row a b=Bx row a' b':=by
 unfold Bx
 rw [h1,h2,h3,h4]
mutual
def Tm.occN (v:ByteArray):Tm→Nat
 | .mk n xs=>(if n=v then 1 else 0) + Tm.occNs v xs
def Tm.occNs (v:ByteArray):List Tm→Nat
 | []=>0
 | t :: ts=>t.occN v + Tm.occNs v ts
end
def okV (a b:Tm):Prop:=∀ v,AJ v=true→b.occN v≤a.occN v
theorem okV.trans {a b c:Tm} (h:okV a b) (k:okV b c):okV a c:=fun v hv=>Nat.le_trans (k v hv) (h v hv)
inductive Lex (R:Tm→Tm→Prop):List Tm→List Tm→Prop
 | here {x y xs ys}:x ≠ y→R x y→xs.length=ys.length→Lex R (x :: xs) (y :: ys)
 | on {x xs ys}:Lex R xs ys→Lex R (x :: xs) (x :: ys)
theorem Lex.len {R:Tm→Tm→Prop} {xs ys:List Tm} (h:Lex R xs ys):xs.length=ys.length:=by
 induction h with
 | here _ _ h=>simp [h]
 | on _ ih=>simp [ih]
theorem Lex.irrefl {R:Tm→Tm→Prop}:∀ {xs:List Tm},¬ Lex R xs xs
 | [],h=>by cases h
 | x :: xs,h=>by
  cases h with
  | here h _ _=>exact h rfl
  | on h=>exact Lex.irrefl h
theorem Lex.trans {R:Tm→Tm→Prop}:∀ {xs ys zs:List Tm},(∀ x ∈ xs,∀ y ∈ ys,∀ z ∈ zs,R x y→R y z→R x z∧x ≠ z)→Lex R xs ys→Lex R ys zs→Lex R xs zs:=by
 intro xs ys zs ht h k
 induction h generalizing zs with
 | here hne hr hl =>
  cases k with
  | here hne2 hr2 hl2 =>
   obtain ⟨h1,h2⟩:=ht _ (by simp) _ (by simp) _ (by simp) hr hr2
   exact .here h2 h1 (hl.trans hl2)
  | on k=>exact .here hne hr (hl.trans k.len)
 | on h ih =>
  cases k with
  | here hne2 hr2 hl2=>exact .here hne2 hr2 (h.len.trans hl2)
  | on k=>exact .on (ih (fun x hx y hy z hz=>ht x (by simp [hx]) y (by simp [hy]) z (by simp [hz])) k)
section
variable {s:List Bd} {a b:Tm} {row:List ByteArray}
theorem Lex.map {R:Tm→Tm→Prop} {f:Tm→Tm}:∀ {xs ys:List Tm},(∀ x ∈ xs,∀ y ∈ ys,R x y→R (f x) (f y)∧f x ≠ f y)→Lex R xs ys→Lex R (xs.map f) (ys.map f):=by
 intro xs ys h k
 induction k with
 | here hne hr hl =>
  obtain ⟨h1,h2⟩:=h _ (by simp) _ (by simp) hr
  exact .here h2 h1 (by simp [hl])
 | on k ih=>exact .on (ih fun x hx y hy=>h x (by simp [hx]) y (by simp [hy]))
theorem Lex.at {R:Tm→Tm→Prop} {x y:Tm} (hne:x ≠ y) (h:R x y):∀ (xs ys:List Tm),Lex R (xs ++ x :: ys) (xs ++ y :: ys)
 | [],ys=>.here hne h rfl
 | z :: xs,ys=>.on (Lex.at hne h xs ys)
end

inductive Pa (row:List ByteArray):Tm→Tm→Prop
 | is {a x:Tm}:AJ a.name=false→x ∈ a.args→Pa row a x
 | sub {a b x:Tm}:AJ a.name=false→x ∈ a.args→Pa row x b→Pa row a b
 | gt {a b:Tm}:AJ a.name=false→AJ b.name=false→0 < Bx row a b→(∀ y ∈ b.args,Pa row a y)→Pa row a b
 | lex {a b x y:Tm} {p xs ys:List Tm}:AJ a.name=false→AJ b.name=false→Bx row a b=0→(∀ y ∈ b.args,Pa row a y)→a.args=p ++ x :: xs→b.args=p ++ y :: ys→x ≠ y→Pa row x y→Pa row a b
theorem Lex.split {R:Tm→Tm→Prop} {xs ys:List Tm} (h:Lex R xs ys):∃ p x y us vs,xs=p ++ x :: us∧ys=p ++ y :: vs∧x ≠ y∧R x y:=by
 induction h with
 | here hne hr hl=>exact ⟨[],_,_,_,_,rfl,rfl,hne,hr⟩
 | on k ih =>
  obtain ⟨p,x,y,us,vs,e1,e2,h1,h2⟩:=ih
  exact ⟨_ :: p,x,y,us,vs,by rw [e1];rfl,by rw [e2];rfl,h1,h2⟩
theorem Lex.at2 {R:Tm→Tm→Prop} {x y:Tm} (hne:x ≠ y) (h:R x y) {us vs:List Tm} (hl:us.length=vs.length):∀ p:List Tm,Lex R (p ++ x :: us) (p ++ y :: vs)
 | []=>.here hne h hl
 | z :: p=>.on (Lex.at2 hne h hl p)
theorem GH {row:List ByteArray} {a b:Tm}:Pa row a b ↔ AJ a.name=false∧((∃ x ∈ a.args,x=b ∨ Pa row x b) ∨ (AJ b.name=false∧¬ Bx row a b < 0∧(∀ y ∈ b.args,Pa row a y)∧(0 < Bx row a b ∨ Lex (Pa row) a.args b.args))):=by
 constructor
 ·intro h
  cases h with
  | is h1 h2=>exact ⟨h1,.inl ⟨_,h2,.inl rfl⟩⟩
  | sub h1 h2 h3=>exact ⟨h1,.inl ⟨_,h2,.inr h3⟩⟩
  | gt h1 h2 h3 h4=>exact ⟨h1,.inr ⟨h2,by omega,h4,.inl h3⟩⟩
  | lex h1 h2 h3 h4 e1 e2 hne h5 =>
   refine ⟨h1,.inr ⟨h2,by omega,h4,.inr ?_⟩⟩
   have hl:=(DB.1 h3).2
   rw [e1,e2] at hl ⊢
   exact Lex.at2 hne h5 (by simpa using hl) _
 ·rintro ⟨h1,⟨x,hx,rfl | h⟩ | ⟨h2,h3,h4,h5⟩⟩
  ·exact .is h1 hx
  ·exact .sub h1 hx h
  ·by_cases h6:0 < Bx row a b
   ·exact .gt h1 h2 h6 h4
   ·rcases h5 with h5 | h5
    ·exact absurd h5 h6
    ·obtain ⟨p,x,y,us,vs,e1,e2,hne,h7⟩:=h5.split
     exact .lex h1 h2 (by omega) h4 e1 e2 hne h7
variable {row:List ByteArray} {a b c:Tm}
theorem Pa.fn (h:Pa row a b):AJ a.name=false:=(GH.1 h).1
theorem Hw (h:¬ Bx row a b < 0) (k:¬ Bx row b c < 0):(0 < Bx row a c) ∨ (Bx row a b=0∧Bx row b c=0∧Bx row a c=0):=by
 rcases Int.lt_trichotomy (Bx row a b) 0 with h1 | h1 | h1
 ·exact absurd h1 h
 ·obtain ⟨e1,e2⟩:=DB.1 h1
  have e:Bx row a c=Bx row b c:=IM e1 e2 rfl rfl
  rcases Int.lt_trichotomy (Bx row b c) 0 with k1 | k1 | k1
  ·exact absurd k1 k
  ·exact .inr ⟨h1,k1,e.trans k1⟩
  ·exact .inl (by omega)
 ·rcases Int.lt_trichotomy (Bx row b c) 0 with k1 | k1 | k1
  ·exact absurd k1 k
  ·obtain ⟨e1,e2⟩:=DB.1 k1
   have e:Bx row a b=Bx row a c:=IM rfl rfl e1 e2
   exact .inl (by omega)
  ·exact .inl (Ss h1 k1)
theorem Tm.lt_args {x:Tm} (h:x ∈ a.args):SizeOf.sizeOf x < SizeOf.sizeOf a:=Tm.lt_of_arg h
theorem Be:∀ N:Nat,∀ a b c:Tm,SizeOf.sizeOf a + SizeOf.sizeOf b + SizeOf.sizeOf c < N→(Pa row a b→Pa row b c→Pa row a c)∧(a=c→Pa row a b→Pa row b c→False)
 | 0,_,_,_,h=>absurd h (Nat.not_lt_zero _)
 | N + 1,a,b,c,hN=>by
  have step:Pa row a b→Pa row b c→Pa row a c:=fun h k=>by
   have hv:=h.fn
   have hw:=k.fn
   obtain ⟨_,⟨x,hx,hxb⟩ | ⟨_,hs,hall,hor⟩⟩:=GH.1 h
   ·have hlt:=Tm.lt_args hx
    rcases hxb with rfl | hxb
    ·exact .sub hv hx k
    ·exact .sub hv hx ((Be N x b c (by omega)).1 hxb k)
   ·obtain ⟨_,⟨y,hy,hyc⟩ | ⟨hvc,ks,kall,kor⟩⟩:=GH.1 k
    ·have hlt:=Tm.lt_args hy
     rcases hyc with rfl | hyc
     ·exact hall y hy
     ·exact (Be N a y c (by omega)).1 (hall y hy) hyc
    ·have call:∀ z ∈ c.args,Pa row a z:=fun z hz=>by
      have hlt:=Tm.lt_args hz
      exact (Be N a b z (by omega)).1 h (kall z hz)
     rcases Hw hs ks with hg | ⟨z1,z2,z3⟩
     ·exact .gt hv hvc hg call
     ·rcases hor with hor | hor
      ·omega
      ·rcases kor with kor | kor
       ·omega
       ·refine GH.2 ⟨hv,.inr ⟨hvc,by omega,call,.inr ?_⟩⟩
        refine Lex.trans (fun x hx y hy z hz h1 h2=>?_) hor kor
        have l1:=Tm.lt_args hx
        have l2:=Tm.lt_args hy
        have l3:=Tm.lt_args hz
        have:=Be N x y z (by omega)
        exact ⟨this.1 h1 h2,fun e=>this.2 e h1 h2⟩
  refine ⟨step,fun e h k=>?_⟩
  subst e
  have hv:=h.fn
  have haa:=step h k
  obtain ⟨_,⟨x,hx,hxb⟩ | ⟨_,hs,hall,hor⟩⟩:=GH.1 h
  ·have hlt:=Tm.lt_args hx
   rcases hxb with rfl | hxb
   ·obtain ⟨_,⟨y,hy,hyc⟩ | ⟨_,ks,kall,kor⟩⟩:=GH.1 k
    ·have hl2:=Tm.lt_args hy
     rcases hyc with rfl | hyc
     ·omega
     ·exact (Be N x y x (by omega)).2 rfl (.is k.fn hy) ((Be N y a x (by omega)).1 hyc (.is hv hx))
    ·exact (Be N x x x (by omega)).2 rfl (kall x hx) (kall x hx)
   ·have hxx:Pa row x a:=(Be N x b a (by omega)).1 hxb k
    have:=Tm.lt_args hx
    exact (Be N x b x (by omega)).2 rfl hxb ((Be N b a x (by omega)).1 k (.is hv hx))
  ·obtain ⟨_,⟨y,hy,hyc⟩ | ⟨_,ks,kall,kor⟩⟩:=GH.1 k
   ·have hl2:=Tm.lt_args hy
    rcases hyc with rfl | hyc
    ·exact (Be N y y y (by omega)).2 rfl (hall y hy) (hall y hy)
    ·exact (Be N a y a (by omega)).2 rfl (hall y hy) hyc
   ·rcases Hw hs ks with hg | ⟨z1,z2,z3⟩
    ·have:=(DB (row:=row) (a:=a) (b:=a)).2 ⟨rfl,rfl⟩
     omega
    ·rcases hor with hor | hor
     ·omega
     ·rcases kor with kor | kor
      ·omega
      ·refine absurd (Lex.trans (fun x hx y hy z hz h1 h2=>?_) hor kor) Lex.irrefl
       have l1:=Tm.lt_args hx
       have l2:=Tm.lt_args hy
       have l3:=Tm.lt_args hz
       have:=Be N x y z (by omega)
       exact ⟨this.1 h1 h2,fun e=>this.2 e h1 h2⟩
theorem XO (h:Pa row a b):¬ Pa row b a:=fun k=>(Be _ a b a (Nat.lt_succ_self _)).2 rfl h k
theorem NU (a:Tm):¬ Pa row a a:=fun h=>XO h h
theorem Z_ {n:ByteArray} (hn:AJ n=false) (xs ys:List Tm) (h:Pa row a b):Pa row (.mk n (xs ++ a :: ys)) (.mk n (xs ++ b :: ys)):=by
 have hne:a ≠ b:=fun e=>by subst e;exact NU a h
 refine .lex hn hn (DB.2 ⟨rfl,by simp [Tm.args_mk]⟩) (fun y hy=>?_) rfl rfl hne h
 rw [Tm.args_mk,List.mem_append,List.mem_cons] at hy
 rcases hy with hy | rfl | hy
 ·exact .is hn (by rw [Tm.args_mk];simp [hy])
 ·exact .sub hn (by rw [Tm.args_mk];simp) h
 ·exact .is hn (by rw [Tm.args_mk];simp [hy])
theorem Tc (row:List ByteArray) (a b:Tm) (s:List Bd):Bx row (.mk a.name (a.args.map (Tm.on s))) (.mk b.name (b.args.map (Tm.on s)))=Bx row a b :=
 IM rfl (by rw [Tm.args_mk,List.length_map]) rfl (by rw [Tm.args_mk,List.length_map])
theorem AAV {s:List Bd} (hs:OkB s) (h:Pa row a b):Pa row (a.on s) (b.on s):=by
 have hk:∀ {t:Tm},AJ t.name=false→t.on s=.mk t.name (t.args.map (Tm.on s)):=fun ht=>Tm.on_knot (.inl (ZV hs ht))
 induction h with
 | is h1 h2 =>
  rw [hk h1]
  exact .is h1 (by rw [Tm.args_mk];exact List.mem_map_of_mem h2)
 | sub h1 h2 h3 ih =>
  rw [hk h1]
  exact .sub h1 (by rw [Tm.args_mk];exact List.mem_map_of_mem h2) ih
 | @gt a b h1 h2 h3 h4 ih =>
  rw [hk h1] at ih ⊢
  rw [hk h2]
  refine .gt h1 h2 (by rw [Tc];exact h3) (fun y hy=>?_)
  rw [Tm.args_mk] at hy
  obtain ⟨y0,hy0,rfl⟩:=List.mem_map.1 hy
  exact ih y0 hy0
 | @lex a b x y p xs ys h1 h2 h3 h4 e1 e2 hne h5 ih ih2 =>
  rw [hk h1] at ih ⊢
  rw [hk h2]
  refine .lex (p:=p.map (Tm.on s)) (xs:=xs.map (Tm.on s)) (ys:=ys.map (Tm.on s)) h1 h2 ((Tc row a b s).trans h3) (fun y hy=>?_) (by rw [Tm.args_mk,e1];simp) (by rw [Tm.args_mk,e2];simp) (fun e=>?_) ih2
  ·rw [Tm.args_mk] at hy
   obtain ⟨y0,hy0,rfl⟩:=List.mem_map.1 hy
   exact ih y0 hy0
  ·rw [e] at ih2
   exact NU _ ih2

open Classical in
noncomputable def paB (row:List ByteArray) (a b:Tm):Bool:=decide (Pa row a b)
theorem Eu {row:List ByteArray} {a b:Tm}:paB row a b=true ↔ Pa row a b:=by unfold paB;simp
theorem IP {row:List ByteArray} {a b:Tm}:paB row a b=false ↔ ¬ Pa row a b:=by unfold paB;simp
theorem Yd {row:List ByteArray} {a b:Tm} (h:AJ a.name=true):paB row a b=false:=IP.2 fun k=>by have:=k.fn;rw [h] at this;cases this
theorem Tj {row:List ByteArray} {a b x:Tm} (h:AJ a.name=false) (hx:x ∈ a.args) (k:x=b ∨ paB row x b=true):paB row a b=true :=
 Eu.2 (GH.2 ⟨h,.inl ⟨x,hx,k.imp id Eu.1⟩⟩)
theorem Mc {row:List ByteArray} {a b:Tm} (h:AJ a.name=false) (hno:∀ x ∈ a.args,x ≠ b∧paB row x b=false):Pa row a b ↔ (AJ b.name=false∧¬ Bx row a b < 0∧(∀ y ∈ b.args,Pa row a y)∧(0 < Bx row a b ∨ Lex (Pa row) a.args b.args)):=by
 rw [GH]
 constructor
 ·rintro ⟨_,⟨x,hx,e | k⟩ | h⟩
  ·exact absurd e (hno x hx).1
  ·exact absurd k (IP.1 (hno x hx).2)
  ·exact h
 ·exact fun k=>⟨h,.inr k⟩
theorem Ld {row:List ByteArray} {a b:Tm} (h:AJ a.name=false) (hno:∀ x ∈ a.args,x ≠ b∧paB row x b=false) (hs:AJ b.name=true ∨ Bx row a b < 0 ∨ ∃ y ∈ b.args,paB row a y=false):paB row a b=false:=by
 rw [IP,Mc h hno]
 rintro ⟨h1,h2,h3,_⟩
 rcases hs with hs | hs | ⟨y,hy,k⟩
 ·rw [h1] at hs;cases hs
 ·exact h2 hs
 ·exact IP.1 k (h3 y hy)
theorem AAT {row:List ByteArray} {a b:Tm} (h:AJ a.name=false) (hb:AJ b.name=false) (hs:0 < Bx row a b) (hall:∀ y ∈ b.args,paB row a y=true):paB row a b=true :=
 Eu.2 (.gt h hb hs fun y hy=>Eu.1 (hall y hy))
theorem Lex.tail {R:Tm→Tm→Prop}:∀ {xs ys:List Tm} {x y:Tm},x ≠ y→Lex R (x :: xs) (y :: ys)→R x y
 | _,_,_,_,hne,.here _ h _=>h
 | _,_,_,_,hne,.on _=>absurd rfl hne
theorem Lex.same {R:Tm→Tm→Prop}:∀ {xs ys:List Tm} {x:Tm},Lex R (x :: xs) (x :: ys)→Lex R xs ys
 | _,_,_,.here hne _ _=>absurd rfl hne
 | _,_,_,.on h=>h
theorem Lex.first {R:Tm→Tm→Prop} {x y:Tm} {us vs:List Tm} (hne:x ≠ y):∀ {p q:List Tm},p=q→Lex R (p ++ x :: us) (q ++ y :: vs)→R x y
 | [],_,rfl,h=>Lex.tail hne h
 | z :: p,_,rfl,h=>Lex.first hne rfl (Lex.same h)
theorem FU {xs:List Tm} {k:Nat} {x:Tm} (h:xs[k]?=some x):xs=xs.take k ++ x :: xs.drop (k + 1):=by
 have hm:k < xs.length:=(List.getElem?_eq_some_iff.1 h).1
 have h1:=(List.getElem?_eq_some_iff.1 h).2
 conv=>lhs;rw [← List.take_append_drop k xs,List.drop_eq_getElem_cons hm,h1]
theorem Vw {row:List ByteArray} {a b x y:Tm} {k:Nat} (h:AJ a.name=false) (hb:AJ b.name=false) (hno:∀ x ∈ a.args,x ≠ b∧paB row x b=false) (hs:Bx row a b=0) (hall:∀ y ∈ b.args,paB row a y=true) (hp:a.args.take k=b.args.take k) (hx:a.args[k]?=some x) (hy:b.args[k]?=some y) (hne:x ≠ y):paB row a b=paB row x y:=by
 cases hxy:paB row x y with
 | true=>exact Eu.2 (.lex h hb hs (fun y hy=>Eu.1 (hall y hy)) (FU hx) ((FU hy).trans (by rw [hp])) hne (Eu.1 hxy))
 | false =>
  rw [IP,Mc h hno]
  rintro ⟨_,_,_,k1 | k1⟩
  ·omega
  ·refine IP.1 hxy ?_
   rw [FU hx,FU hy] at k1
   exact Lex.first hne hp k1
theorem WQ {row:List ByteArray} {a b:Tm} (h:AJ a.name=false) (hno:∀ x ∈ a.args,x ≠ b∧paB row x b=false) (hs:Bx row a b=0) (he:a.args=b.args):paB row a b=false:=by
 rw [IP,Mc h hno]
 rintro ⟨_,_,_,k1 | k1⟩
 ·omega
 ·rw [he] at k1
  exact Lex.irrefl k1

def sep (k:Nat):ByteArray:=if k=0 then ⟨#[40]⟩ else ⟨#[44]⟩
mutual
def Tm.text:Tm→ByteArray
 | .mk n xs=>n ++ Tm.textsFrom 0 xs ++ (if xs.length=0 then ⟨#[]⟩ else ⟨#[41]⟩)
def Tm.textsFrom:Nat→List Tm→ByteArray
 | _,[]=>⟨#[]⟩
 | k,t :: ts=>sep k ++ t.text ++ Tm.textsFrom (k+1) ts
end
def Tm.ahead (t:Tm) (k:Nat):ByteArray:=t.name ++ Tm.textsFrom 0 (t.args.take k)
theorem QJ {t:Tm} (h:Bl t=0):1≤t.name.size∧t.name.size≤8:=by
 unfold Bl at h
 split at h
 ·split at h
  ·rename_i h1 _
   simp [Ay] at h1
   omega
  ·rename_i h1 _
   simp [Ay] at h1
   omega
 ·omega

section
variable {α:Type} {R:α→α→Prop}
def AAI (R:α→α→Prop):List α→List α→Prop
 | v :: vs,u :: us=>(R v u∧vs.length=us.length) ∨ (v=u∧AAI R vs us)
 | _,_=>False
theorem UN {x y:α} {xs ys:List α} (h:R y x) (hl:ys.length=xs.length):∀ p:List α,AAI R (p ++ y :: ys) (p ++ x :: xs)
 | []=>.inl ⟨h,hl⟩
 | z :: p=>.inr ⟨rfl,UN h hl p⟩
theorem RY:∀ (n:Nat) (Q:List α→Prop),(∀ us:List α,us.length=n→(∀ u ∈ us,Acc R u)→(∀ vs:List α,(∀ v ∈ vs,Acc R v)→AAI R vs us→Q vs)→Q us)→∀ ts:List α,ts.length=n→(∀ t ∈ ts,Acc R t)→Q ts
 | 0,Q,step,ts,hl,h=>step ts hl h fun vs _ hlt=>by
  cases ts with
  | nil=>cases vs <;> exact hlt.elim
  | cons t ts=>simp at hl
 | n + 1,Q,step,ts,hl,h=>by
  cases ts with
  | nil=>simp at hl
  | cons t ts =>
   have key:∀ t:α,Acc R t→∀ ts:List α,ts.length=n→(∀ x ∈ ts,Acc R x)→Q (t :: ts):=fun t ht=>by
    induction ht with
    | intro t ht ih =>
     refine RY n (fun ts=>Q (t :: ts)) (fun us hul hua hlt=>?_)
     refine step (t :: us) (by simp [hul]) (fun x hx=>?_) fun vs hva hv=>?_
     ·rcases List.mem_cons.1 hx with rfl | hx
      ·exact ⟨_,ht⟩
      ·exact hua x hx
     ·cases vs with
      | nil=>exact hv.elim
      | cons v vs =>
       rcases hv with ⟨h1,h2⟩ | ⟨rfl,h2⟩
       ·exact ih v h1 vs (by omega) fun x hx=>hva x (by simp [hx])
       ·exact hlt vs (fun x hx=>hva x (by simp [hx])) h2
   exact key t (h t (by simp)) ts (by simpa using hl) fun x hx=>h x (by simp [hx])
end
def LD:Nat→List UInt8→Nat
 | 0,_=>0
 | _ + 1,[]=>0
 | L + 1,c :: cs=>(c.toNat + 1) * 257 ^ L + LD L cs
theorem TY:∀ (L:Nat) (l:List UInt8),LD L l < 257 ^ L
 | 0,_=>by simp [LD]
 | L + 1,[]=>by
  rw [LD]
  exact Nat.pow_pos (by omega)
 | L + 1,c :: cs=>by
  have h1:=TY L cs
  have h2:c.toNat < 256:=c.toNat_lt
  have h3:(c.toNat + 1) * 257 ^ L≤256 * 257 ^ L:=Nat.mul_le_mul_right _ (by omega)
  rw [LD,Nat.pow_succ]
  omega
theorem N1:∀ {L:Nat} {a b:List UInt8},b.length≤L→Op.bytesLess a b=true→LD L a < LD L b
 | _,a,[],_,h=>by simp [Op.bytesLess] at h
 | 0,a,y :: ys,hl,h=>by simp at hl
 | L + 1,[],y :: ys,hl,h=>by
  rw [LD,LD]
  have:=Nat.pow_pos (n:=L) (show 0 < 257 by omega)
  have h3:1 * 257 ^ L≤(y.toNat + 1) * 257 ^ L:=Nat.mul_le_mul_right _ (by omega)
  omega
 | L + 1,x :: xs,y :: ys,hl,h=>by
  simp only [Op.bytesLess,Bool.or_eq_true,Bool.and_eq_true,decide_eq_true_eq,beq_iff_eq] at h
  rw [LD,LD]
  rcases h with h | ⟨rfl,h⟩
  ·have h0:x.toNat < y.toNat:=h
   have h1:=TY L xs
   have h3:(x.toNat + 1 + 1) * 257 ^ L≤(y.toNat + 1) * 257 ^ L:=Nat.mul_le_mul_right _ (by omega)
   rw [Nat.add_mul (x.toNat + 1) 1] at h3
   omega
  ·have:=N1 (by simpa using hl) h
   omega
def M0 (row:List ByteArray) (a:Tm):Nat × Nat × Nat:=((CQ row a.name + 1).toNat,LD 8 a.name.toList,a.args.length)
theorem Jh:∀ (l:List ByteArray) (s:ByteArray) (i:Int),0≤i→-1≤EB l s i
 | [],s,i,h=>by simp [EB]
 | x :: xs,s,i,h=>by
  rw [EB]
  split
  ·omega
  ·exact Jh xs s (i + 1) (by omega)
abbrev M3:Nat × Nat × Nat→Nat × Nat × Nat→Prop:=Prod.Lex (· < ·) (Prod.Lex (· < ·) (· < ·))
theorem AAb:WellFounded M3:=(Prod.lex ⟨_,Nat.lt_wfRel.wf⟩ (Prod.lex ⟨_,Nat.lt_wfRel.wf⟩ ⟨_,Nat.lt_wfRel.wf⟩)).wf
theorem Y3 {row:List ByteArray} {a b:Tm} (ha:a.name.size≤8) (h:0 < Bx row a b):M3 (M0 row b) (M0 row a):=by
 have hr1:=Jh row a.name 0 (by omega)
 have hr2:=Jh row b.name 0 (by omega)
 rcases QW.1 h with h1 | ⟨h1,h2 | ⟨h2,h3⟩⟩
 ·refine Prod.Lex.left _ _ ?_
  have h1':EB row b.name 0 < EB row a.name 0:=h1
  show (EB row b.name 0 + 1).toNat < (EB row a.name 0 + 1).toNat
  omega
 ·unfold M0
  rw [h1]
  refine Prod.Lex.right _ (Prod.Lex.left _ _ (N1 ?_ h2))
  rw [Lib.toList_data,Array.length_toList]
  exact ha
 ·unfold M0
  rw [h1,h2]
  exact Prod.Lex.right _ (Prod.Lex.right _ h3)
theorem Ye {row:List ByteArray} {a b:Tm} (h:Bx row a b=0):M0 row b=M0 row a:=by
 obtain ⟨h1,h2⟩:=DB.1 h
 unfold M0
 rw [h1,h2]
def PaR (row:List ByteArray) (u t:Tm):Prop:=Pa row t u∧u.chk=0
theorem SB {t:Tm} (h:t.chk=0):t.name.size≤8:=by
 rw [Tm.chk_eq] at h
 split at h
 ·rename_i h0
  exact (QJ h0).2
 ·rename_i h0
  exact absurd h h0
theorem QF (row:List ByteArray):∀ m:Nat × Nat × Nat,∀ t:Tm,M0 row t=m→t.chk=0→(∀ x ∈ t.args,Acc (PaR row) x)→Acc (PaR row) t:=fun m=>by
 induction m using AAb.induction with
 | _ m ihm =>
 have main:=RY (R:=PaR row) m.2.2 (fun ts=>∀ t:Tm,t.args=ts→M0 row t=m→t.chk=0→(∀ x ∈ ts,Acc (PaR row) x)→Acc (PaR row) t) (fun us hul hua hlt t hts hm hc _=>by
  subst hts
  refine ⟨_,fun u hu=>?_⟩
  obtain ⟨N,hN⟩:∃ N,SizeOf.sizeOf u < N:=⟨_,Nat.lt_succ_self _⟩
  induction N generalizing u with
  | zero=>omega
  | succ N ihN =>
   obtain ⟨hp,huc⟩:=hu
   have hargs:(∀ y ∈ u.args,Pa row t y)→∀ y ∈ u.args,Acc (PaR row) y:=fun h y hy=>ihN y ⟨h y hy,(Tm.chk_args huc).2 y hy⟩ (by have:=Tm.lt_of_arg hy;omega)
   cases hp with
   | is h1 h2=>exact hua u h2
   | sub h1 h2 h3=>exact (hua _ h2).inv ⟨h3,huc⟩
   | gt h1 h2 h3 h4=>exact ihm (M0 row u) (hm ▸ Y3 (SB hc) h3) u rfl huc (hargs h4)
   | @lex _ _ x y p xs ys h1 h2 h3 h4 e1 e2 hne h5 =>
    have hl:=(DB.1 h3).2
    refine hlt u.args (hargs h4) ?_ u rfl ((Ye h3).trans hm) huc (hargs h4)
    have hyc:y.chk=0:=(Tm.chk_args huc).2 y (by rw [e2];simp)
    rw [e1,e2] at hl ⊢
    exact UN ⟨h5,hyc⟩ (by simp at hl;omega) _)
 exact fun t hm hc h=>main t.args (by rw [← hm];rfl) h t rfl hm hc h
theorem Zk (row:List ByteArray):∀ (N:Nat) (t:Tm),SizeOf.sizeOf t < N→t.chk=0→Acc (PaR row) t
 | 0,_,h,_=>absurd h (Nat.not_lt_zero _)
 | N + 1,t,h,hc=>QF row _ t rfl hc fun x hx=>Zk row N x (by have:=Tm.lt_of_arg hx;omega) ((Tm.chk_args hc).2 x hx)

mutual
def Tm.mt:Tm→Tm→List Bd→List Bd × Bool
 | .mk n xs,t,l=>if AJ n=true then (match lookup l n with
   | some x=>(l,x.beq t)
   | none=>(l ++ [(n,t)],true))
  else if n=t.name∧xs.length=t.args.length then Tm.mtL xs t.args l else (l,false)
def Tm.mtL:List Tm→List Tm→List Bd→List Bd × Bool
 | x :: xs,y :: ys,l=>if (x.mt y l).2=true then Tm.mtL xs ys (x.mt y l).1 else ((x.mt y l).1,false)
 | _,_,l=>(l,true)
end
section
variable {p t:Tm} {l:List Bd}
theorem Tm.mt_old (hv:AJ p.name=true) {x:Tm} (h:lookup l p.name=some x):p.mt t l=(l,x.beq t):=by
 cases p with
 | mk n xs =>
  simp only [Tm.name_mk] at hv h
  rw [Tm.mt,if_pos hv,h]
theorem Tm.mt_new (hv:AJ p.name=true) (h:lookup l p.name=none):p.mt t l=(l ++ [(p.name,t)],true):=by
 cases p with
 | mk n xs =>
  simp only [Tm.name_mk] at hv h
  rw [Tm.mt,if_pos hv,h]
  rfl
theorem Tm.mt_clash (hv:AJ p.name=false) (h:¬ (p.name=t.name∧p.args.length=t.args.length)):p.mt t l=(l,false):=by
 cases p with
 | mk n xs =>
  simp only [Tm.name_mk,Tm.args_mk] at hv h
  rw [Tm.mt,if_neg (by simp [hv]),if_neg h]
theorem Tm.mt_knot (hv:AJ p.name=false) (h1:p.name=t.name) (h2:p.args.length=t.args.length):p.mt t l=Tm.mtL p.args t.args l:=by
 cases p with
 | mk n xs =>
  simp only [Tm.name_mk,Tm.args_mk] at hv h1 h2
  rw [Tm.mt,if_neg (by simp [hv]),if_pos ⟨h1,h2⟩]
  rfl
end
theorem Tm.mtL_nil (ys:List Tm) (l:List Bd):Tm.mtL [] ys l=(l,true):=by cases ys <;> simp [Tm.mtL]
theorem Tm.mtL_append:∀ (xs ys xs' ys':List Tm) (l:List Bd),xs.length=ys.length→Tm.mtL (xs ++ xs') (ys ++ ys') l=if (Tm.mtL xs ys l).2=true then Tm.mtL xs' ys' (Tm.mtL xs ys l).1 else ((Tm.mtL xs ys l).1,false)
 | [],[],xs',ys',l,_=>by simp [Tm.mtL_nil]
 | x :: xs,y :: ys,xs',ys',l,h=>by
  simp only [List.cons_append,Tm.mtL]
  by_cases hx:(x.mt y l).2=true
  ·simp only [hx,if_true]
   exact Tm.mtL_append xs ys xs' ys' _ (by simpa using h)
  ·simp only [hx]
   simp
 | [],y :: ys,_,_,_,h=>by simp at h
 | x :: xs,[],_,_,_,h=>by simp at h
theorem Tm.mtL_take {xs ys:List Tm} {k:Nat} {x y:Tm} {l:List Bd} (hl:xs.length=ys.length) (hx:xs[k]?=some x) (hy:ys[k]?=some y) (h:(Tm.mtL (xs.take k) (ys.take k) l).2=true) :
  Tm.mtL (xs.take (k + 1)) (ys.take (k + 1)) l=x.mt y (Tm.mtL (xs.take k) (ys.take k) l).1:=by
 rw [Al hx,Al hy,Tm.mtL_append _ _ _ _ _ (by simp [hl]),if_pos h]
 generalize Tm.mtL (xs.take k) (ys.take k) l=q
 simp only [Tm.mtL]
 split
 ·rename_i h1
  exact Prod.ext rfl h1.symm
 ·rename_i h1
  exact Prod.ext rfl (by simpa using h1)
theorem Tm.mtL_no {xs ys:List Tm} {k:Nat} {l:List Bd} (hl:xs.length=ys.length) (h:(Tm.mtL (xs.take k) (ys.take k) l).2=false):Tm.mtL xs ys l=((Tm.mtL (xs.take k) (ys.take k) l).1,false):=by
 have e:Tm.mtL xs ys l=Tm.mtL (xs.take k ++ xs.drop k) (ys.take k ++ ys.drop k) l:=by rw [List.take_append_drop,List.take_append_drop]
 rw [e,Tm.mtL_append _ _ _ _ _ (by simp [hl]),h]
 rfl
structure Kw (l l':List Bd) (many most:Nat):Prop where
 named:Bc l→Bc l'
 len:l'.length≤l.length + many
 size:∀ b ∈ l',b ∈ l ∨ b.2.size≤most
theorem Kw.refl (l:List Bd) (n m:Nat):Kw l l n m:=⟨fun h=>h,by omega,fun b hb=>.inl hb⟩
theorem Kw.trans {a b c:List Bd} {n m k n' m':Nat} (h:Kw a b n m) (h':Kw b c n' m') (hn:n + n'≤k) {M:Nat} (h1:m≤M) (h2:m'≤M):Kw a c k M:=by
 refine ⟨fun q=>h'.named (h.named q),by have:=h.len;have:=h'.len;omega,fun x hx=>?_⟩
 rcases h'.size x hx with h3 | h3
 ·rcases h.size x h3 with h4 | h4
  ·exact .inl h4
  ·exact .inr (by omega)
 ·exact .inr (by omega)
theorem Pg {l:List Bd} {n:ByteArray} (h:lookup l n=none):n ∉ l.map (·.1):=by
 intro hm
 obtain ⟨b,hb,rfl⟩:=List.mem_map.1 hm
 unfold lookup at h
 rw [Option.map_eq_none_iff,List.find?_eq_none] at h
 exact h b hb (by simp)
theorem S5 {l:List Bd} {b:Bd} (h:lookup l b.1=none) (hn:Bc l):Bc (l ++ [b]):=by
 unfold Bc at *
 rw [List.map_append,List.nodup_append]
 refine ⟨hn,by simp,fun x hx y hy e=>?_⟩
 simp only [List.map_cons,List.map_nil,List.mem_singleton] at hy
 subst hy
 subst e
 exact Pg h hx
mutual
theorem Tm.mt_ok:∀ (p t:Tm) (l:List Bd),Kw l (p.mt t l).1 p.size t.size
 | .mk n xs,t,l=>by
  rw [Tm.mt]
  split
  ·split
   ·exact Kw.refl _ _ _
   ·rename_i h
    refine ⟨fun hn=>S5 h hn,?_,fun b hb=>?_⟩
    ·have:=Tm.size_pos (.mk n xs)
     rw [List.length_append,List.length_singleton]
     omega
    ·rcases List.mem_append.1 hb with hb | hb
     ·exact .inl hb
     ·rw [List.mem_singleton] at hb
      subst hb
      exact .inr (Nat.le_refl _)
  ·split
   ·have:=Tm.mtL_ok xs t.args l
    have h1:=Tm.size_eq t
    exact ⟨this.named,by have:=this.len;rw [Tm.size];omega,fun b hb=>(this.size b hb).imp_right (by omega)⟩
   ·exact Kw.refl _ _ _
theorem Tm.mtL_ok:∀ (xs ys:List Tm) (l:List Bd),Kw l (Tm.mtL xs ys l).1 (Tm.sizes xs) (Tm.sizes ys)
 | [],ys,l=>by rw [Tm.mtL_nil];exact Kw.refl _ _ _
 | x :: xs,[],l=>by rw [Tm.mtL];exact Kw.refl _ _ _;simp
 | x :: xs,y :: ys,l=>by
  rw [Tm.mtL]
  have h1:=Tm.mt_ok x y l
  split
  ·exact h1.trans (Tm.mtL_ok xs ys _) (by rw [Tm.sizes];exact Nat.le_refl _) (by rw [Tm.sizes];omega) (by rw [Tm.sizes];omega)
  ·exact ⟨h1.named,by have:=h1.len;rw [Tm.sizes];show (x.mt y l).1.length≤_;omega,fun b hb=>(h1.size b hb).imp_right (by rw [Tm.sizes];omega)⟩
end
def A8 (p t:Tm):List Bd:=if (p.mt t []).2=true then BS (p.mt t []).1 else []
def CN (p t:Tm):Bool:=(p.mt t []).2
theorem Ue:Bc []:=List.nodup_nil
theorem JB (p t:Tm):Bc (p.mt t []).1:=(Tm.mt_ok p t []).named Ue
theorem YP (p t:Tm):(p.mt t []).1.length≤p.size:=by have:=(Tm.mt_ok p t []).len;simpa using this
theorem UM (p t:Tm):∀ b ∈ (p.mt t []).1,b.2.size≤t.size:=fun b hb=>((Tm.mt_ok p t []).size b hb).resolve_left (by simp)

abbrev Pr:=Tm × Tm
def Bf (p:Pr):List SV:=[.str p.1.name,.list (p.1.args.map Ap),.str p.2.name,.list (p.2.args.map Ap)]
abbrev CH (l:List Pr):AV:=.one (.st (.list (l.map Bf)))
abbrev aPr (p:Pr):AV:=.agg [.st (.str p.1.name),.st (.list (p.1.args.map Ap)),.st (.str p.2.name),.st (.list (p.2.args.map Ap))]
instance:Yu Bf 4:=⟨fun _=>rfl⟩
theorem KC {ts:List Pr}:∀ x ∈ ts.map Bf,x.length=4:=by
 intro x hx
 obtain ⟨a,_,rfl⟩:=List.mem_map.1 hx
 rfl

set_option maxRecDepth 100000
def EF:IR :=
 (.seq (.ops [.i 2 (.mov (.c (.one (.st (.bool false)))))]) (.seq (.ops [.m 3 0,.m 4 0,.i 5 (.bin .neq (.t 3) (.t 4)),.m 2 5]) .ret))
theorem Hn:OkF Tryz.prog 138 6 [] EF [.t 2]:=.of Tryz.func138 rfl rfl (by kernel_rfl) rfl
def Db:IR :=
 (.seq (.ops [.i 4 (.mov (.n 0))]) (.seq (.ops [.m 7 0,.i 8 (.call 138 [.t 7]),.m 5 8]) (.seq (.ops [.m 9 1,.i 10 (.call 138 [.t 9]),.m 6 10]) (.seq (.seq (.ops [.m 11 5]) (.cond (.t 11) (.seq (.seq (.ops [.m 12 6]) (.cond (.t 12) (.seq (.ops [.i 4 (.mov (.n 0))]) .ret) .skip)) (.seq (.ops [.i 4 (.mov (.c (.one (.st (.int .i64 (-1))))))]) .ret)) .skip)) (.seq (.seq (.ops [.m 13 6]) (.cond (.t 13) (.seq (.ops [.i 4 (.mov (.n 1))]) .ret) .skip)) (.seq (.seq (.ops [.m 14 0,.m 15 1,.i 16 (.bin .lss (.t 14) (.t 15))]) (.cond (.t 16) (.seq (.ops [.i 4 (.mov (.c (.one (.st (.int .i64 (-1))))))]) .ret) .skip)) (.seq (.seq (.ops [.m 17 0,.m 18 1,.i 19 (.bin .gtr (.t 17) (.t 18))]) (.cond (.t 19) (.seq (.ops [.i 4 (.mov (.n 1))]) .ret) .skip)) (.seq (.ops [.i 4 (.mov (.n 0))]) .ret))))))))
theorem Gf:OkF Tryz.prog 132 20 [] Db [.t 4]:=.of Tryz.func132 rfl rfl (by kernel_rfl) rfl
def GU:IR :=
 (.seq (.ops [.i 2 (.box 82 (.t 0)),.i 4 (.mov (.n 0))]) (.seq (.ops [.f 5 0 2,.l 6 5,.m 7 1,.i 8 (.call 132 [.t 6,.t 7]),.m 4 8]) .ret))
theorem Kx:OkF Tryz.prog 143 9 [] GU [.t 4]:=.of Tryz.func143 rfl rfl (by kernel_rfl) rfl
def Ar:IR :=
 (.seq (.ops [.i 6 (.mov (.n 0)),.i 7 (.mov (.c (.one (.st (.bool false)))))]) (.seq (.ops [.m 12 0,.i 13 (.len false (.t 12)),.m 8 13]) (.seq (.ops [.m 14 8,.i 9 (.mov (.n 0)),.m 10 14]) (.seq (.block 0 (.loop (.seq (.seq (.ops [.m 15 9,.m 16 10,.i 17 (.bin .lss (.t 15) (.t 16))]) (.cond (.t 17) .skip (.exit 0))) (.block 1 (.seq (.ops [.m 18 9,.m 19 10,.i 20 (.bin .add (.t 18) (.t 19)),.i 21 (.conv .u64 (.t 20)),.i 22 (.bin .shr (.t 21) (.c (.one (.st (.int .u64 1))))),.i 23 (.conv .i64 (.t 22)),.m 11 23]) (.seq (.ops [.m 24 2,.m 25 0,.m 26 11,.i 27 (.indexAddr 3 (.t 25) (.t 26)),.L 28 3 27,.m 29 1,.i 30 (.callV (.t 24) [.t 28,.t 29]),.i 31 (.bin .lss (.t 30) (.n 0))]) (.cond (.t 31) (.ops [.m 32 11,.i 33 (.bin .add (.t 32) (.n 1)),.m 9 33]) (.ops [.m 34 11,.m 10 34])))))))) (.seq (.ops [.m 35 9,.m 36 9,.m 37 8,.i 38 (.bin .lss (.t 36) (.t 37)),.m 39 38,.mk (some 40) (some (39,true)) (.mov (.t 2)) .no,.mk (some 41) (some (39,true)) (.mov (.t 0)) .no,.mk (some 42) (some (39,true)) (.mov (.t 9)) .no,.mk (some 43) (some (39,true)) (.indexAddr 3 (.t 41) (.t 42)) .no,.mk (some 44) (some (39,true)) (.load true 3 (.t 43)) .no,.mk (some 45) (some (39,true)) (.mov (.t 1)) .no,.mk (some 46) (some (39,true)) (.callV (.t 40) [.t 44,.t 45]) .no,.mk (some 47) (some (39,true)) (.bin .eql (.t 46) (.n 0)) .no,.i 48 (.pick (.t 39) (.t 47) (.c (.one (.st (.bool false))))),.m 6 35,.m 7 48]) .ret)))))
theorem BC:OkF Tryz.prog 142 49 [] Ar [.t 6,.t 7]:=.of Tryz.func142 rfl rfl (by kernel_rfl) rfl
def IA:IR :=
 (.seq (.ops [.i 4 (.alloc 37 [.st (.str (ByteArray.mk (#[]))),.full []]),.i 5 (.mov (.c (.one (.st (.bool false)))))]) (.seq (.ops [.m 9 0,.m 10 1,.i 11 (.call 142 [.t 9,.t 10,.c (.one (.fn 143 []))]),.m 8 11,.i 12 (.extract 0 (.t 8)),.i 13 (.extract 1 (.t 8)),.m 6 12,.m 7 13]) (.seq (.seq (.ops [.m 14 7,.i 15 (.un .not (.t 14))]) (.cond (.t 15) (.seq (.ops [.i 16 (.build [.st (.str (ByteArray.mk (#[]))),.full []] []),.s 2 4 16,.i 5 (.mov (.c (.one (.st (.bool false)))))]) .ret) .skip)) (.seq (.ops [.m 17 0,.m 18 6,.i 19 (.indexAddr 3 (.t 17) (.t 18)),.f 20 1 19,.L 21 2 20,.s 2 4 21,.i 5 (.mov (.c (.one (.st (.bool true)))))]) .ret))))
theorem M_:OkF Tryz.prog 135 22 [] IA [.cell 4 true 2,.t 5]:=.of Tryz.func135 rfl rfl (by kernel_rfl) rfl
def Bb:IR :=
 (.seq (.ops [.i 4 (.box 37 (.t 1)),.i 6 (.alloc 37 [.st (.str (ByteArray.mk (#[]))),.full []])]) (.seq (.seq (.ops [.m 12 2]) (.cond (.t 12) (.seq (.ops [.m 14 0,.i 15 (.nilCheck (.t 14)),.f 16 0 15,.l 17 16,.f 18 0 4,.l 19 18,.i 20 (.call 135 [.t 17,.t 19]),.m 13 20,.i 21 (.extract 0 (.t 13)),.i 22 (.extract 1 (.t 13)),.i 7 (.alloc 37 [.st (.str (ByteArray.mk (#[]))),.full []]),.s 2 7 21,.m 8 22]) (.seq (.ops [.m 23 8]) (.cond (.t 23) (.seq (.ops [.m 24 0,.L 25 2 7,.i 26 (.callS 126 [.t 24,.t 25,.c (.one (.st (.bool false)))]),.s 2 6 26]) .ret) .skip))) .skip)) (.seq (.seq (.ops [.m 27 0,.i 28 (.nilCheck (.t 27)),.f 29 1 28,.l 30 29,.i 31 (.bin .sub (.t 30) (.n 1)),.i 32 (.nilCheck (.t 27)),.f 33 1 32,.s 1 33 31]) (.seq (.ops [.m 34 0,.i 35 (.nilCheck (.t 34)),.f 36 1 35,.l 37 36,.i 38 (.bin .lss (.t 37) (.n 0))]) (.cond (.t 38) (.seq (.ops [.i 39 (.build [.st (.str (ByteArray.mk (#[]))),.full []] []),.s 2 6 39]) .ret) .skip))) (.seq (.ops [.f 40 0 4,.l 41 40,.i 42 (.build [.st (.str (ByteArray.mk (#[]))),.full []] [(0,1,.t 41)]),.i 9 (.alloc 37 [.st (.str (ByteArray.mk (#[]))),.full []]),.s 2 9 42]) (.seq (.seq (.ops [.f 43 1 4,.l 44 43,.i 45 (.len false (.t 44)),.i 46 (.mov (.n 0))]) (.block 0 (.loop (.seq (.ops [.i 47 (.bin .lss (.t 46) (.t 45))]) (.seq (.cond (.t 47) .skip (.exit 0)) (.seq (.block 1 (.seq (.ops [.i 48 (.indexAddr 2 (.t 44) (.t 46)),.L 49 2 48,.i 11 (.alloc 37 [.st (.str (ByteArray.mk (#[]))),.full []]),.s 2 11 49]) (.seq (.ops [.mk (some 50) none (.fieldAddr 1 (.t 9)) (.onb 9),.mk (some 51) none (.load false 1 (.t 50)) (.onb 9),.m 52 0,.L 53 2 11,.m 54 2,.mk (some 55) none (.callS 126 [.t 52,.t 53,.t 54]) (.keeps [9,9]),.i 56 (.buildSlice false 37 2 [.t 55]),.i 57 (.append false 37 2 40 (.t 51) (.t 56)),.f 58 1 9,.s 1 58 57]) (.seq (.ops [.m 59 0,.i 60 (.nilCheck (.t 59)),.f 61 1 60,.l 62 61,.i 63 (.bin .lss (.t 62) (.n 0))]) (.cond (.t 63) (.seq (.ops [.i 64 (.build [.st (.str (ByteArray.mk (#[]))),.full []] []),.s 2 6 64]) .ret) .skip))))) (.ops [.i 65 (.bin .add (.t 46) (.n 1)),.m 46 65]))))))) (.seq (.ops [.L 66 2 9,.s 2 6 66]) .ret))))))
theorem CJ:OkF Tryz.prog 126 67 [26,55] Bb [.cell 6 true 2]:=.of Tryz.func126 rfl rfl (by kernel_rfl) rfl
def Ka:IR :=
 (.seq (.ops [.i 3 (.box 37 (.t 1)),.i 4 (.alloc 37 [.st (.str (ByteArray.mk (#[]))),.full []]),.i 5 (.mov (.c (.one (.st (.bool false)))))]) (.seq (.ops [.m 8 0,.i 9 (.build [.full [],.st (.int .i64 0)] [(0,1,.t 8),(1,1,.n 2000)]),.i 10 (.box 150 (.t 9)),.m 6 10]) (.seq (.ops [.m 11 6,.L 12 2 3,.i 13 (.callS 126 [.t 11,.t 12,.c (.one (.st (.bool true)))]),.i 7 (.alloc 37 [.st (.str (ByteArray.mk (#[]))),.full []]),.s 2 7 13]) (.seq (.ops [.L 14 2 7,.m 15 6,.mk (some 16) none (.nilCheck (.t 15)) (.onb 10),.mk (some 17) none (.fieldAddr 1 (.t 16)) (.onb 10),.mk (some 18) none (.load false 1 (.t 17)) (.onb 10),.i 19 (.bin .geq (.t 18) (.n 0)),.mk none none (.store 2 (.t 4) (.t 14)) (.onb 4),.m 5 19]) .ret))))
theorem QK:OkF Tryz.prog 110 20 [13,10060010] Ka [.cell 4 true 2,.t 5]:=.of Tryz.func110 rfl rfl (by kernel_rfl) rfl

theorem TV (a:ByteArray):AU Tryz.prog 138 [Bt a] (Aa false):=by
 refine Hn.ac fun C hC=>?_
 unfold EF
 repeat' with_reducible first | refine W ?_ | refine Z0 ?_ | ((first | refine Wo fun K hK=>?_ | refine Wq ?_ | refine Wr ?_);(try simp only [go_sem,fN,seval,eT,iR]);(repeat refine Ai ?_);(try (refine hK _ ?_;clear hK K)))
 simp only [go_sem,fN,seval,AN,AS.result,AB,AD,AK]
theorem NP (a b:ByteArray):AU Tryz.prog 132 [Bt a,Bt b] (AO (DG a b)):=by
 refine Gf.ac fun C hC=>?_
 unfold Db
 repeat' (first | (with_reducible first | refine W ?_ | refine Z0 ?_ | ((first | refine Wo fun K hK=>?_ | refine Wq ?_ | refine Wr ?_);(try simp only [go_sem,fN,seval,eT,iR]);(repeat refine Ai ?_);(try (refine hK _ ?_;clear hK K)))) | refine Cg _ (TV a) ?_ | refine Cg _ (TV b) ?_)
 with_reducible refine Wp ?_
 simp only [go_sem,fN,seval,true_implies,false_implies,implies_true,dT,dF,nL]
 (try with_reducible refine iC ?_)
 repeat' with_reducible first | refine W ?_ | refine Z0 ?_ | ((first | refine Wo fun K hK=>?_ | refine Wq ?_ | refine Wr ?_);(try simp only [go_sem,fN,seval,eT,iR]);(repeat refine Ai ?_);(try (refine hK _ ?_;clear hK K)))
 with_reducible refine Wp ?_
 simp only [go_sem,fN,seval,true_implies,false_implies,implies_true,dT,dF,nL]
 (try with_reducible refine iC ?_)
 repeat' with_reducible first | refine W ?_ | refine Z0 ?_ | ((first | refine Wo fun K hK=>?_ | refine Wq ?_ | refine Wr ?_);(try simp only [go_sem,fN,seval,eT,iR]);(repeat refine Ai ?_);(try (refine hK _ ?_;clear hK K)))
 unfold DG
 cases h:sLt a b with
 | true =>
  with_reducible refine Wp ?_
  simp only [go_sem,fN,seval,true_implies,false_implies,implies_true,dT,dF,nL]
  (try with_reducible refine iC ?_)
  repeat' with_reducible first | refine W ?_ | refine Z0 ?_ | ((first | refine Wo fun K hK=>?_ | refine Wq ?_ | refine Wr ?_);(try simp only [go_sem,fN,seval,eT,iR]);(repeat refine Ai ?_);(try (refine hK _ ?_;clear hK K)))
  simp only [go_sem,fN,seval,AN,AS.result,AB,AD,AK]
 | false =>
  with_reducible refine Wp ?_
  simp only [go_sem,fN,seval,true_implies,false_implies,implies_true,dT,dF,nL]
  (try with_reducible refine iC ?_)
  by_cases he:a=b
  ·repeat' with_reducible first | refine W ?_ | refine Z0 ?_ | ((first | refine Wo fun K hK=>?_ | refine Wq ?_ | refine Wr ?_);(try simp only [go_sem,fN,seval,eT,iR,h,he,Bool.or_true,Bool.or_false]);(repeat refine Ai ?_);(try (refine hK _ ?_;clear hK K)))
   with_reducible refine Wp ?_
   simp only [go_sem,fN,seval,true_implies,false_implies,implies_true,dT,dF,nL,h,he,Bool.or_true,Bool.or_false]
   (try with_reducible refine iC ?_)
   repeat' with_reducible first | refine W ?_ | refine Z0 ?_ | ((first | refine Wo fun K hK=>?_ | refine Wq ?_ | refine Wr ?_);(try simp only [go_sem,fN,seval,eT,iR]);(repeat refine Ai ?_);(try (refine hK _ ?_;clear hK K)))
   simp only [go_sem,fN,seval,AN,AS.result,AB,AD,AK,h,he]
  ·repeat' with_reducible first | refine W ?_ | refine Z0 ?_ | ((first | refine Wo fun K hK=>?_ | refine Wq ?_ | refine Wr ?_);(try simp only [go_sem,fN,seval,eT,iR,h,he,Bool.or_true,Bool.or_false]);(repeat refine Ai ?_);(try (refine hK _ ?_;clear hK K)))
   with_reducible refine Wp ?_
   simp only [go_sem,fN,seval,true_implies,false_implies,implies_true,dT,dF,nL,h,he,Bool.or_true,Bool.or_false]
   (try with_reducible refine iC ?_)
   repeat' with_reducible first | refine W ?_ | refine Z0 ?_ | ((first | refine Wo fun K hK=>?_ | refine Wq ?_ | refine Wr ?_);(try simp only [go_sem,fN,seval,eT,iR]);(repeat refine Ai ?_);(try (refine hK _ ?_;clear hK K)))
   simp only [go_sem,fN,seval,AN,AS.result,AB,AD,AK,h,he]
theorem ZS (b:Bd) (n:ByteArray):AU Tryz.prog 143 [aBd b,Bt n] (AO (DG b.1 n)):=by
 refine Kx.ac fun C hC=>?_
 unfold GU
 repeat' (first | (with_reducible first | refine W ?_ | refine Z0 ?_ | ((first | refine Wo fun K hK=>?_ | refine Wq ?_ | refine Wr ?_);(try simp only [go_sem,fN,seval,eT,iR]);(repeat refine Ai ?_);(try (refine hK _ ?_;clear hK K)))) | refine Cg _ (NP b.1 n) ?_)
 simp only [go_sem,fN,seval,AN,AS.result,AB,AD,AK]
theorem CU {a b:ByteArray}:DG a b < 0 ↔ sLt a b=true:=by
 unfold DG
 split
 ·rename_i h;simp [h]
 ·rename_i h
  split <;> simp [h]
theorem Oj {a b:ByteArray}:DG a b=0 ↔ a=b:=by
 unfold DG
 split
 ·rename_i h
  constructor
  ·intro h';cases h'
  ·intro e;subst e;rw [Br] at h;cases h
 ·split <;> simp_all
def CO (l:List Bd) (n:ByteArray) (i:Nat):Bool:=match l[i]? with
 | some b=>decide (b.1=n)
 | none=>false
theorem LQ (b:Bd) (n:ByteArray) (S:AA):As Tryz.prog 143 [aBd b,Bt n] S (AO (DG b.1 n)) S:=(ZS b n).toS rfl
theorem AAd {i j:Nat} (h:i < j):(((i:Int) + j).fdiv 2)=(((i + j) / 2:Nat):Int)∧i≤(i + j) / 2∧(i + j) / 2 < j:=by
 refine ⟨?_,by omega,by omega⟩
 rw [Int.fdiv_eq_ediv_of_nonneg _ (by omega)]
 omega
theorem Qb (l:List Bd) (h40:l.length≤100000) (ho:BH l) (n:ByteArray) :
  ∃ i:Nat,i≤l.length∧(∀ k b,l[k]?=some b→k < i→sLt b.1 n=true)∧(∀ k b,l[k]?=some b→i≤k→sLt b.1 n=false) ∧
   AU Tryz.prog 142 [Uk l,Bt n,.one (.fn 143 [])] (.tup [AO i,Aa (CO l n i)]):=by
 obtain ⟨i0,hi0,hlo,hhi⟩:∃ i:Nat,i≤l.length∧(∀ k b,l[k]?=some b→k < i→sLt b.1 n=true)∧(∀ k b,l[k]?=some b→i≤k→sLt b.1 n=false):=by
  clear h40
  induction l with
  | nil=>exact ⟨0,by simp,by simp,by simp⟩
  | cons c l ih =>
   obtain ⟨o1,o2⟩:=List.pairwise_cons.1 ho
   obtain ⟨i,q1,q2,q3⟩:=ih o2
   cases hc:sLt c.1 n with
   | true =>
    refine ⟨i + 1,by simp;omega,fun k b hk hki=>?_,fun k b hk hki=>?_⟩
    ·cases k with
     | zero=>simp at hk;subst hk;exact hc
     | succ k=>exact q2 k b (by simpa using hk) (by omega)
    ·cases k with
     | zero=>omega
     | succ k=>exact q3 k b (by simpa using hk) (by omega)
   | false =>
    refine ⟨0,by simp,fun k b hk hki=>by omega,fun k b hk hki=>?_⟩
    cases k with
    | zero=>simp at hk;subst hk;exact hc
    | succ k =>
     have hm:=AQ (show l[k]?=some b by simpa using hk)
     cases hb:sLt b.1 n with
     | false=>rfl
     | true=>have:=Dh (o1 b hm) hb;rw [hc] at this;cases this
 refine ⟨i0,hi0,hlo,hhi,?_⟩
 have hplain:CC Tryz.prog 143=true:=by kernel_rfl
 refine BC.ac fun C hC=>?_
 unfold Ar
 repeat' with_reducible first | refine W ?_ | refine Z0 ?_ | ((first | refine Wo fun K hK=>?_ | refine Wq ?_ | refine Wr ?_);(try simp only [go_sem,fN,seval,eT,iR]);(repeat refine Ai ?_);(try (refine hK _ ?_;clear hK K)))
 refine IWP.loop (fun m s=>∃ i j:Nat,i≤i0∧i0≤j∧j≤l.length∧m=j - i∧s.env 0=Uk l∧s.env 1=Bt n∧s.env 2=.one (.fn 143 [])∧s.env 8=AO l.length∧s.env 9=AO i∧s.env 10=AO j) l.length ⟨0,l.length,Nat.zero_le _,hi0,Nat.le_refl _,rfl,rfl,rfl,rfl,rfl,rfl,rfl⟩ ?_
 rintro m ⟨env,S⟩ ⟨i,j,hi,hj,hjl,rfl,e0,e1,e2,e8,e9,e10⟩
 simp only at e0 e1 e2 e8 e9 e10
 by_cases hlt:(i:Int) < j
 ·obtain ⟨z1,z2,z3⟩:=AAd (show i < j by omega)
  obtain ⟨b,hb⟩:=Ag (show (i + j) / 2 < l.length by omega)
  repeat' with_reducible first | refine W ?_ | refine Z0 ?_ | ((first | refine Wo fun K hK=>?_ | refine Wq ?_ | refine Wr ?_);(try simp only [go_sem,fN,seval,eT,iR,e0,e1,e2,e8,e9,e10,hlt]);(repeat refine Ai ?_);(try (refine hK _ ?_;clear hK K)))
  with_reducible refine Wp ?_
  simp only [go_sem,fN,seval,true_implies,false_implies,implies_true,dT,dF,nL,hlt]
  (try with_reducible refine iC ?_)
  have hbits:(1:Nat)≤IntKind.u64.bits:=by show 1≤64;omega
  repeat' with_reducible first | refine W ?_ | refine Z0 ?_ | ((first | refine Wo fun K hK=>?_ | refine Wq ?_ | refine Wr ?_);(try simp only [go_sem,fN,seval,eT,iR,e0,e1,e2,e8,e9,e10,hlt,z1,Hd,hbits,hb,C3,hplain]);(repeat refine Ai ?_);(try (refine hK _ ?_;clear hK K)))
  refine ⟨_,_,LQ b n _,?_⟩
  cases hc:sLt b.1 n with
  | true =>
   have hneg:DG b.1 n < 0:=CU.2 hc
   repeat' with_reducible first | refine W ?_ | refine Z0 ?_ | ((first | refine Wo fun K hK=>?_ | refine Wq ?_ | refine Wr ?_);(try simp only [go_sem,fN,seval,eT,iR,hneg]);(repeat refine Ai ?_);(try (refine hK _ ?_;clear hK K)))
   with_reducible refine Wp ?_
   simp only [go_sem,fN,seval,true_implies,false_implies,implies_true,dT,dF,nL,hneg]
   (try with_reducible refine iC ?_)
   repeat' with_reducible first | refine W ?_ | refine Z0 ?_ | ((first | refine Wo fun K hK=>?_ | refine Wq ?_ | refine Wr ?_);(try simp only [go_sem,fN,seval,eT,iR,e0,e1,e2,e8,e9,e10]);(repeat refine Ai ?_);(try (refine hK _ ?_;clear hK K)))
   refine AI ⟨j - ((i + j) / 2 + 1),by omega,(i + j) / 2 + 1,j,?_,hj,hjl,rfl,?_⟩
   ·rcases Nat.lt_or_ge ((i + j) / 2) i0 with h | h
    ·omega
    ·rw [hhi _ b hb h] at hc;cases hc
   ·simp only [go_sem,fN,seval,eT,iR,e0,e1,e2,e8,e9,e10]
    congr 3
  | false =>
   have hneg:¬ DG b.1 n < 0:=fun h=>by rw [CU.1 h] at hc;cases hc
   repeat' with_reducible first | refine W ?_ | refine Z0 ?_ | ((first | refine Wo fun K hK=>?_ | refine Wq ?_ | refine Wr ?_);(try simp only [go_sem,fN,seval,eT,iR,hneg]);(repeat refine Ai ?_);(try (refine hK _ ?_;clear hK K)))
   with_reducible refine Wp ?_
   simp only [go_sem,fN,seval,true_implies,false_implies,implies_true,dT,dF,nL,hneg]
   (try with_reducible refine iC ?_)
   repeat' with_reducible first | refine W ?_ | refine Z0 ?_ | ((first | refine Wo fun K hK=>?_ | refine Wq ?_ | refine Wr ?_);(try simp only [go_sem,fN,seval,eT,iR,e0,e1,e2,e8,e9,e10]);(repeat refine Ai ?_);(try (refine hK _ ?_;clear hK K)))
   refine AI ⟨(i + j) / 2 - i,by omega,i,(i + j) / 2,hi,?_,by omega,rfl,?_⟩
   ·rcases Nat.lt_or_ge ((i + j) / 2) i0 with h | h
    ·rw [hlo _ b hb h] at hc;cases hc
    ·omega
   ·simp only [go_sem,fN,seval,eT,iR,e0,e1,e2,e8,e9,e10]
 ·have hii:i=i0:=by omega
  subst hii
  have hjj:j=i:=by omega
  subst hjj
  repeat' with_reducible first | refine W ?_ | refine Z0 ?_ | ((first | refine Wo fun K hK=>?_ | refine Wq ?_ | refine Wr ?_);(try simp only [go_sem,fN,seval,eT,iR,e0,e1,e2,e8,e9,e10,hlt]);(repeat refine Ai ?_);(try (refine hK _ ?_;clear hK K)))
  with_reducible refine Wp ?_
  simp only [go_sem,fN,seval,true_implies,false_implies,implies_true,dT,dF,nL,hlt]
  (try with_reducible refine iC ?_)
  by_cases hil:(j:Int) < l.length
  ·obtain ⟨b,hb⟩:=Ag (show j < l.length by omega)
   repeat' with_reducible first | refine W ?_ | refine Z0 ?_ | ((first | refine Wo fun K hK=>?_ | refine Wq ?_ | refine Wr ?_);(try simp only [go_sem,fN,seval,eT,iR,e0,e1,e2,e8,e9,e10,hil,hb,C3,hplain]);(repeat refine Ai ?_);(try (refine hK _ ?_;clear hK K)))
   refine ⟨_,_,LQ b n _,?_⟩
   repeat' with_reducible first | refine W ?_ | refine Z0 ?_ | ((first | refine Wo fun K hK=>?_ | refine Wq ?_ | refine Wr ?_);(try simp only [go_sem,fN,seval,eT,iR]);(repeat refine Ai ?_);(try (refine hK _ ?_;clear hK K)))
   simp only [go_sem,fN,seval,AN,AS.result,AB,AD,AK]
   unfold CO
   rw [hb]
   simp only [Oj]
  ·repeat' with_reducible first | refine W ?_ | refine Z0 ?_ | ((first | refine Wo fun K hK=>?_ | refine Wq ?_ | refine Wr ?_);(try simp only [go_sem,fN,seval,eT,iR,e0,e1,e2,e8,e9,e10,hil]);(repeat refine Ai ?_);(try (refine hK _ ?_;clear hK K)))
   simp only [go_sem,fN,seval,AN,AS.result,AB,AD,AK]
   unfold CO
   rw [List.getElem?_eq_none (by omega)]
theorem JD {l:List Bd} {n:ByteArray} {i:Nat} (hlo:∀ k b,l[k]?=some b→k < i→sLt b.1 n=true) (hhi:∀ k b,l[k]?=some b→i≤k→sLt b.1 n=false) (ho:BH l) :
  (∃ b,l[i]?=some b∧b.1=n∧lookup l n=some b.2) ∨ (CO l n i=false∧lookup l n=none):=by
 have hlow:∀ c ∈ l.take i,c.1 ≠ n:=fun c hc e=>by
  obtain ⟨k,hk,rfl⟩:=List.getElem_of_mem hc
  rw [List.length_take] at hk
  have:=hlo k l[k] (List.getElem?_eq_getElem (by omega)) (by omega)
  rw [List.getElem_take] at e
  rw [e,Br] at this
  cases this
 by_cases hil:i < l.length
 ·obtain ⟨b,hb⟩:=Ag hil
  by_cases he:b.1=n
  ·exact .inl ⟨b,hb,he,RK hb he hlow⟩
  ·refine .inr ⟨by unfold CO;rw [hb];exact decide_eq_false he,Ch fun c hc e=>?_⟩
   obtain ⟨k,hk,rfl⟩:=List.getElem_of_mem hc
   have hck:=List.getElem?_eq_getElem hk
   rcases Nat.lt_trichotomy k i with h | h | h
   ·have:=hlo k _ hck h
    rw [e,Br] at this
    cases this
   ·subst h
    rw [hb] at hck
    cases hck
    exact he e
   ·have h1:=RF ho hb hck h
    rw [e,hhi i b hb (Nat.le_refl _)] at h1
    cases h1
 ·refine .inr ⟨by unfold CO;rw [List.getElem?_eq_none (by omega)],Ch fun c hc=>hlow c ?_⟩
  rw [List.take_of_length_le (by omega)]
  exact hc
theorem YE (l:List Bd) (h40:l.length≤100000) (ho:BH l) (n:ByteArray):AU Tryz.prog 135 [Uk l,Bt n] (.tup [aTm ((lookup l n).getD Tm.nil),Aa (lookup l n).isSome]):=by
 obtain ⟨i,hi,hlo,hhi,hs⟩:=Qb l h40 ho n
 refine M_.ac fun C hC=>?_
 unfold IA
 repeat' with_reducible first | refine W ?_ | refine Z0 ?_ | ((first | refine Wo fun K hK=>?_ | refine Wq ?_ | refine Wr ?_);(try simp only [go_sem,fN,seval,eT,iR]);(repeat refine Ai ?_);(try (refine hK _ ?_;clear hK K)))
 refine ⟨_,hs,?_⟩
 rcases JD hlo hhi ho with ⟨b,hb,he,hl⟩ | ⟨hf,hl⟩
 ·have hf:CO l n i=true:=by unfold CO;rw [hb];exact decide_eq_true he
  repeat' with_reducible first | refine W ?_ | refine Z0 ?_ | ((first | refine Wo fun K hK=>?_ | refine Wq ?_ | refine Wr ?_);(try simp only [go_sem,fN,seval,eT,iR,hf]);(repeat refine Ai ?_);(try (refine hK _ ?_;clear hK K)))
  with_reducible refine Wp ?_
  simp only [go_sem,fN,seval,true_implies,false_implies,implies_true,dT,dF,nL,hf]
  (try with_reducible refine iC ?_)
  repeat' with_reducible first | refine W ?_ | refine Z0 ?_ | ((first | refine Wo fun K hK=>?_ | refine Wq ?_ | refine Wr ?_);(try simp only [go_sem,fN,seval,eT,iR,hb,C3]);(repeat refine Ai ?_);(try (refine hK _ ?_;clear hK K)))
  simp only [go_sem,fN,seval,AN,AS.result,AB,AD,AK]
  rw [hl]
  rfl
 ·repeat' with_reducible first | refine W ?_ | refine Z0 ?_ | ((first | refine Wo fun K hK=>?_ | refine Wq ?_ | refine Wr ?_);(try simp only [go_sem,fN,seval,eT,iR,hf]);(repeat refine Ai ?_);(try (refine hK _ ?_;clear hK K)))
  with_reducible refine Wp ?_
  simp only [go_sem,fN,seval,true_implies,false_implies,implies_true,dT,dF,nL,hf]
  (try with_reducible refine iC ?_)
  repeat' with_reducible first | refine W ?_ | refine Z0 ?_ | ((first | refine Wo fun K hK=>?_ | refine Wq ?_ | refine Wr ?_);(try simp only [go_sem,fN,seval,eT,iR]);(repeat refine Ai ?_);(try (refine hK _ ?_;clear hK K)))
  simp only [go_sem,fN,seval,AN,AS.result,AB,AD,AK]
  rw [hl]
  rfl

def A7 (s:List Bd) (t:Tm):Tm × Bool:=if (t.on s).size≤2000 then (t.on s,true) else (Tm.nil,false)

def Tm.atP:Tm→List Int→Option Tm
 | t,[]=>some t
 | t,i :: p=>if i < 0 then none else match t.args[i.toNat]? with
  | some a=>a.atP p
  | none=>none
def Tm.putP:Tm→List Int→Tm→Tm
 | t,[],x=>x
 | t,i :: p,x=>match t.args[i.toNat]? with
  | some a=>.mk t.name (t.args.set i.toNat (a.putP p x))
  | none=>t
theorem Tm.atP_nil (t:Tm):t.atP []=some t:=by cases t;rfl
theorem Tm.putP_nil (t x:Tm):t.putP [] x=x:=by cases t;rfl
theorem Tm.atP_cons (t:Tm) (i:Int) (p:List Int):t.atP (i :: p)=if i < 0 then none else match t.args[i.toNat]? with
  | some a=>a.atP p
  | none=>none:=by cases t;rfl
theorem Tm.putP_cons (t:Tm) (i:Int) (p:List Int) (x:Tm):t.putP (i :: p) x=match t.args[i.toNat]? with
  | some a=>.mk t.name (t.args.set i.toNat (a.putP p x))
  | none=>t:=by cases t;rfl
theorem Tm.atP_at {t a:Tm} {k:Nat} (h:t.args[k]?=some a) (p:List Int):t.atP ((k:Int) :: p)=a.atP p:=by
 rw [Tm.atP_cons,if_neg (by omega),Int.toNat_natCast,h]
theorem Tm.putP_at {t a:Tm} {k:Nat} (h:t.args[k]?=some a) (p:List Int) (x:Tm):t.putP ((k:Int) :: p) x=.mk t.name (t.args.set k (a.putP p x)):=by
 rw [Tm.putP_cons,Int.toNat_natCast,h]
def Vb (R:List Pr) (t:Tm):Bool:=R.any fun r=>CN r.1 t
def CE (R:List Pr) (t:Tm):List Pr→Option (Tm × Int)
 | []=>none
 | r :: l=>if CN r.1 t=true then (if (A7 (A8 r.1 t) r.2).2=true then some ((A7 (A8 r.1 t) r.2).1,0) else some (Tm.nil,8)) else CE R t l
def FW (R:List Pr) (t:Tm):Option (Tm × Int):=CE R t R
theorem Hu (R:List Pr) (t:Tm):∀ l:List Pr,CE R t l=none ↔ l.any (fun r=>CN r.1 t)=false
 | []=>by simp [CE]
 | r :: l=>by
  rw [CE,List.any_cons,Bool.or_eq_false_iff,← Hu R t l]
  by_cases h:CN r.1 t=true
  ·rw [if_pos h,h]
   split <;> simp
  ·rw [if_neg h]
   simp only [Bool.not_eq_true] at h
   simp [h]
theorem Lp {R:List Pr} {t:Tm}:FW R t=none ↔ Vb R t=false:=Hu R t R
theorem Ji {R:List Pr} {t x:Tm} {e:Int}:∀ {l:List Pr},CE R t l=some (x,e)→(e=0 ∨ e=8)∧x.size≤2000∧(e=8→x=Tm.nil)
 | [],h=>by cases h
 | r :: l,h=>by
  rw [CE] at h
  split at h
  ·split at h
   ·cases h
    refine ⟨.inl rfl,?_,by simp⟩
    unfold A7
    split
    ·assumption
    ·decide
   ·cases h
    exact ⟨.inr rfl,by decide,fun _=>rfl⟩
  ·exact Ji h
mutual
def Tm.inn (R:List Pr):Tm→Option (Tm × Int)
 | .mk n xs=>match Tm.innL R xs with
  | some (ys,e)=>some (.mk n ys,e)
  | none=>FW R (.mk n xs)
def Tm.innL (R:List Pr):List Tm→Option (List Tm × Int)
 | []=>none
 | x :: xs=>match Tm.inn R x with
  | some (y,e)=>some (y :: xs,e)
  | none=>match Tm.innL R xs with
   | some (ys,e)=>some (x :: ys,e)
   | none=>none
end
mutual
def Tm.out (R:List Pr):Tm→Option (Tm × Int)
 | .mk n xs=>match FW R (.mk n xs) with
  | some r=>some r
  | none=>match Tm.outL R xs with
   | some (ys,e)=>some (.mk n ys,e)
   | none=>none
def Tm.outL (R:List Pr):List Tm→Option (List Tm × Int)
 | []=>none
 | x :: xs=>match Tm.out R x with
  | some (y,e)=>some (y :: xs,e)
  | none=>match Tm.outL R xs with
   | some (ys,e)=>some (x :: ys,e)
   | none=>none
end
theorem Tm.inn_eq (R:List Pr) (t:Tm):t.inn R=match Tm.innL R t.args with
  | some (ys,e)=>some (.mk t.name ys,e)
  | none=>FW R t:=by cases t;rfl
theorem Tm.out_eq (R:List Pr) (t:Tm):t.out R=match FW R t with
  | some r=>some r
  | none=>match Tm.outL R t.args with
   | some (ys,e)=>some (.mk t.name ys,e)
   | none=>none:=by cases t;rfl
mutual
theorem Tm.inn_none (R:List Pr):∀ t:Tm,t.inn R=none ↔ t.knots.any (Vb R)=false
 | .mk n xs=>by
  rw [Tm.inn,Tm.knots,List.any_cons,Bool.or_eq_false_iff,← Tm.innL_none R xs]
  cases Tm.innL R xs with
  | none=>simp [Lp]
  | some r=>simp
theorem Tm.innL_none (R:List Pr):∀ xs:List Tm,Tm.innL R xs=none ↔ (Tm.knotsL xs).any (Vb R)=false
 | []=>by simp [Tm.innL,Tm.knotsL]
 | x :: xs=>by
  rw [Tm.innL,Tm.knotsL,List.any_append,Bool.or_eq_false_iff,← Tm.innL_none R xs,← Tm.inn_none R x]
  cases Tm.inn R x with
  | some r=>simp
  | none=>cases Tm.innL R xs <;> simp
end
def BA (step:Tm→Option (Tm × Int)):Nat→Int→Tm→Tm × Int × Int
 | 0,n,t=>match step t with
  | none=>(t,n,0)
  | some _=>(Tm.nil,0,9)
 | k + 1,n,t=>match step t with
  | none=>(t,n,0)
  | some (x,e)=>if e ≠ 0 then (Tm.nil,0,e) else if 2000 < x.size then (Tm.nil,0,8) else BA step k (n + 1) x

end Go.Proofs.YtbhnmjkmieiadaaGreatDoor
