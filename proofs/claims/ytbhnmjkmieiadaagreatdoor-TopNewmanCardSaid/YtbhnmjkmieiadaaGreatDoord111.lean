/-
  Part 11 of the texts. Conditions: none.
-/
import Derived.Test.YtbhnmjkmieiadaaGreatDoord110
namespace Go.Proofs.YtbhnmjkmieiadaaGreatDoor
open Go Go.RowKit
set_option linter.unusedVariables false
set_option linter.unusedSimpArgs false
set_option maxHeartbeats 1000000
def LC (r:Tm × Int × Int):AV:=.tup [aTm r.1,AO r.2.1,AO r.2.2]
abbrev Zo (t:Tm):AL:=.box 37 [.st (.str t.name),.st (.list (t.args.map Ap))]
abbrev Zl:AL:=.box 37 [.st (.str ⟨#[]⟩),.full []]
theorem NX {step:Tm→Option (Tm × Int)} {t:Tm} (h:step t=none) (k:Nat) (n:Int):BA step k n t=(t,n,0):=by
 cases k <;> (unfold BA;rw [h])
theorem OZ {step:Tm→Option (Tm × Int)} {t:Tm} {r:Tm × Int} (h:step t=some r) (n:Int):BA step 0 n t=(Tm.nil,0,9):=by
 unfold BA
 rw [h]
theorem Re {step:Tm→Option (Tm × Int)} {t x:Tm} {e:Int} (h:step t=some (x,e)) (he:e ≠ 0) (k:Nat) (n:Int):BA step (k + 1) n t=(Tm.nil,0,e):=by
 rw [BA,h]
 exact if_pos he
theorem Lh {step:Tm→Option (Tm × Int)} {t x:Tm} (h:step t=some (x,0)) (hz:2000 < x.size) (k:Nat) (n:Int):BA step (k + 1) n t=(Tm.nil,0,8):=by
 rw [BA,h]
 simp only [ne_eq,not_true_eq_false,if_false]
 exact if_pos hz
theorem TO {step:Tm→Option (Tm × Int)} {t x:Tm} (h:step t=some (x,0)) (hz:¬ 2000 < x.size) (k:Nat) (n:Int):BA step (k + 1) n t=BA step k (n + 1) x:=by
 rw [BA,h]
 simp only [ne_eq,not_true_eq_false,if_false]
 exact if_neg hz
theorem S7 {R:List Pr} (hR:AZ R) (t0:Tm) (hc0:t0.chk=0) (hz0:t0.size≤900000) (most:Nat) (hm:most≤1000000):AU Tryz.prog 41 [CH R,aTm t0,AO most] (LC (BA (Tm.inn R) most 0 t0)):=by
 unfold LC
 refine K3.ac fun C hC=>?_
 unfold GV
 repeat' (first | (with_reducible first | refine W ?_ | refine Z0 ?_ | ((first | refine Wo fun K hK=>?_ | refine Wp ?_ | refine Wq ?_ | refine Wr ?_);(try simp only [go_sem,fN,seval,eT,iR,dT,dF,nL]);(repeat refine Ai ?_);(try (refine hK _ ?_;clear hK K));try refine iC ?_)) | refine Cg _ (Gs t0 (by omega)) ?_)
 refine IWP.loopD [10] (fun m s=>∃ (n:Nat) (t:Tm),n≤most∧m=most - n∧BA (Tm.inn R) most 0 t0=BA (Tm.inn R) (most - n) n t∧t.chk=0∧t.size≤900000∧s.env 0=CH R∧s.env 2=AO most∧s.env 4=.one (.ptr 4 1 0 0)∧s.env 6=.one (.ptr 6 1 0 0)∧s.env 9=AO n∧s.S 4=some (Zo t)∧s.S 6=some Zl∧s.S 10=none)
  most ⟨0,t0,by omega,by omega,rfl,hc0,hz0,rfl,rfl,rfl,rfl,rfl,rfl,rfl,rfl⟩ ?_
 rintro m ⟨env,S⟩ ⟨n,t,hn,rfl,hend,hc,hz,e0,e2,e4,e6,e9,s4,s6,s10⟩
 simp only at e0 e2 e4 e6 e9 s4 s6 s10
 rw [hend]
 have hcon:=QA hR t hc (by omega)
 cases hs:t.inn R with
 | none =>
  rw [hs] at hcon
  unfold EG at hcon
  rw [NX hs]
  repeat' (first | (with_reducible first | refine W ?_ | refine Z0 ?_ | ((first | refine Wo fun K hK=>?_ | refine Wp ?_ | refine Wq ?_ | refine Wr ?_);(try simp only [go_sem,fN,seval,eT,iR,e0,e2,e4,e6,e9,s4,s6,s10,dT,dF,nL]);(repeat refine Ai ?_);(try (refine hK _ ?_;clear hK K));try refine iC ?_)) | refine Cg _ (hcon) ?_)
  simp only [go_sem,fN,seval,AN,AS.result,AB,AD,AK,e6,s6]
 | some r =>
  obtain ⟨x,e⟩:=r
  rw [hs] at hcon
  unfold EG at hcon
  obtain ⟨g1,g2,g3⟩:=JG hR hc hs
  by_cases hmost:n=most
  ·have hmi:(n:Int)=most:=by omega
   rw [show most - n=0 by omega,OZ hs]
   repeat' (first | (with_reducible first | refine W ?_ | refine Z0 ?_ | ((first | refine Wo fun K hK=>?_ | refine Wp ?_ | refine Wq ?_ | refine Wr ?_);(try simp only [go_sem,fN,seval,eT,iR,e0,e2,e4,e6,e9,s4,s6,s10,hmi,dT,dF,nL]);(repeat refine Ai ?_);(try (refine hK _ ?_;clear hK K));try refine iC ?_)) | refine Cg _ (hcon) ?_)
   simp only [go_sem,fN,seval,AN,AS.result,AB,AD,AK,e6,s6]
   rfl
  have hmi:¬ (n:Int)=most:=by omega
  obtain ⟨k,hk⟩:∃ k,most - n=k + 1:=⟨most - n - 1,by omega⟩
  rw [hk]
  by_cases he:e=0
  case neg =>
   rw [Re hs he]
   repeat' (first | (with_reducible first | refine W ?_ | refine Z0 ?_ | ((first | refine Wo fun K hK=>?_ | refine Wp ?_ | refine Wq ?_ | refine Wr ?_);(try simp only [go_sem,fN,seval,eT,iR,e0,e2,e4,e6,e9,s4,s6,s10,hmi,he,dT,dF,nL]);(repeat refine Ai ?_);(try (refine hK _ ?_;clear hK K));try refine iC ?_)) | refine Cg _ (hcon) ?_)
   simp only [go_sem,fN,seval,AN,AS.result,AB,AD,AK,e6,s6]
   rfl
  case pos =>
  subst he
  have hsz:=LM x (by omega)
  by_cases hgr:(2000:Int) < x.size
  ·rw [Lh hs (by omega)]
   repeat' (first | (with_reducible first | refine W ?_ | refine Z0 ?_ | ((first | refine Wo fun K hK=>?_ | refine Wp ?_ | refine Wq ?_ | refine Wr ?_);(try simp only [go_sem,fN,seval,eT,iR,e0,e2,e4,e6,e9,s4,s6,s10,hmi,hgr,dT,dF,nL]);(repeat refine Ai ?_);(try (refine hK _ ?_;clear hK K));try refine iC ?_)) | refine Cg _ (hcon) ?_ | refine Cg _ (hsz) ?_)
   simp only [go_sem,fN,seval,AN,AS.result,AB,AD,AK,e6,s6]
   rfl
  ·repeat' (first | (with_reducible first | refine W ?_ | refine Z0 ?_ | ((first | refine Wo fun K hK=>?_ | refine Wp ?_ | refine Wq ?_ | refine Wr ?_);(try simp only [go_sem,fN,seval,eT,iR,e0,e2,e4,e6,e9,s4,s6,s10,hmi,hgr,dT,dF,nL]);(repeat refine Ai ?_);(try (refine hK _ ?_;clear hK K));try refine iC ?_)) | refine Cg _ (hcon) ?_ | refine Cg _ (hsz) ?_)
   refine AI ⟨most - (n + 1),by omega,n + 1,x,by omega,rfl,?_,g2 rfl,by omega,?_⟩
   ·rw [show most - (n + 1)=k by omega]
    exact TO hs (by omega) k n
   ·simp only [go_sem,fN,seval,AS.drop,Ao,AC.clears,AC.clear,AC.highs,AC.high,Bool.not_false,Bool.true_and,Bool.and_self,AV.purge,AV.purges,AC.purge,AL.purge,List.contains_cons,List.contains_nil,Nat.reduceBEq,Bool.or_self,Bool.or_false,Bool.false_or,Bool.or_true,eT,iR,e0,e2,e4,e6,e9,s4,s6,s10]
    congr 3
def LU (R:List Pr) (t:Tm) (m:Int):Tm × Int × Int:=if DJ R t=0 then (if BN m=0 then BA (Tm.inn R) m.toNat 0 t else (Tm.nil,0,BN m)) else (Tm.nil,0,DJ R t)
def LG (R:List Pr) (t:Tm) (m:Int):Tm × Int × Int:=if DJ R t=0 then (if BN m=0 then BA (Tm.out R) m.toNat 0 t else (Tm.nil,0,BN m)) else (Tm.nil,0,DJ R t)
theorem Hi {R:List Pr} {t:Tm} (h:DJ R t=0):AZ R∧t.chk=0∧t.size≤200:=by
 unfold DJ at h
 by_cases h0:BF R=0
 ·rw [if_pos h0] at h
  exact ⟨He h0,Tm.may_chk h⟩
 ·rw [if_neg h0] at h
  exact absurd h h0
theorem Fx {m:Int} (h:BN m=0):0≤m∧m≤400:=by
 unfold BN at h
 split at h
 ·cases h
 ·omega
theorem ZJ (R:List Pr) (t:Tm) (m:Int):AU Tryz.prog 17 [CH R,aTm t,AO m] (LC (LU R t m)):=by
 unfold LU
 refine KF.ac fun C hC=>?_
 unfold FQ
 by_cases ha:DJ R t=0
 case neg =>
  rw [if_neg ha]
  unfold LC
  repeat' (first | (with_reducible first | refine W ?_ | refine Z0 ?_ | ((first | refine Wo fun K hK=>?_ | refine Wp ?_ | refine Wq ?_ | refine Wr ?_);(try simp only [go_sem,fN,seval,eT,iR,ha,dT,dF,nL]);(repeat refine Ai ?_);(try (refine hK _ ?_;clear hK K));try refine iC ?_)) | refine Cg _ (Bq R t) ?_)
  simp only [go_sem,fN,seval,AN,AS.result,AB,AD,AK]
  rfl
 case pos =>
 rw [if_pos ha]
 by_cases hf:BN m=0
 case neg =>
  rw [if_neg hf]
  unfold LC
  repeat' (first | (with_reducible first | refine W ?_ | refine Z0 ?_ | ((first | refine Wo fun K hK=>?_ | refine Wp ?_ | refine Wq ?_ | refine Wr ?_);(try simp only [go_sem,fN,seval,eT,iR,ha,hf,dT,dF,nL]);(repeat refine Ai ?_);(try (refine hK _ ?_;clear hK K));try refine iC ?_)) | refine Cg _ (Bq R t) ?_ | refine Cg _ (II m) ?_)
  simp only [go_sem,fN,seval,AN,AS.result,AB,AD,AK]
  rfl
 case pos =>
 rw [if_pos hf]
 obtain ⟨hR,hc,hz⟩:=Hi ha
 obtain ⟨m0,m1⟩:=Fx hf
 obtain ⟨n,rfl⟩:∃ n:Nat,m=n:=⟨m.toNat,by omega⟩
 rw [Int.toNat_natCast]
 have hl:=S7 hR t hc (by omega) n (by omega)
 unfold LC at hl ⊢
 by_cases he:(BA (Tm.inn R) n 0 t).2.2=0
 ·repeat' (first | (with_reducible first | refine W ?_ | refine Z0 ?_ | ((first | refine Wo fun K hK=>?_ | refine Wp ?_ | refine Wq ?_ | refine Wr ?_);(try simp only [go_sem,fN,seval,eT,iR,ha,hf,he,dT,dF,nL]);(repeat refine Ai ?_);(try (refine hK _ ?_;clear hK K));try refine iC ?_)) | refine Cg _ (Bq R t) ?_ | refine Cg _ (II n) ?_ | refine Cg _ (hl) ?_)
  simp only [go_sem,fN,seval,AN,AS.result,AB,AD,AK]
 ·have hbad:=RZ n 0 t he
  generalize BA (Tm.inn R) n 0 t=r at hl he hbad ⊢
  rw [hbad]
  dsimp only
  repeat' (first | (with_reducible first | refine W ?_ | refine Z0 ?_ | ((first | refine Wo fun K hK=>?_ | refine Wp ?_ | refine Wq ?_ | refine Wr ?_);(try simp only [go_sem,fN,seval,eT,iR,ha,hf,he,dT,dF,nL]);(repeat refine Ai ?_);(try (refine hK _ ?_;clear hK K));try refine iC ?_)) | refine Cg _ (Bq R t) ?_ | refine Cg _ (II n) ?_ | refine Cg _ (hl) ?_)
  simp only [go_sem,fN,seval,AN,AS.result,AB,AD,AK]
  rfl
theorem ZT (R:List Pr) (t0:Tm) (m:Int):AU Tryz.prog 18 [CH R,aTm t0,AO m] (LC (LG R t0 m)):=by
 unfold LG
 refine Jz.ac fun C hC=>?_
 unfold Fj
 by_cases ha:DJ R t0=0
 case neg =>
  rw [if_neg ha]
  unfold LC
  repeat' (first | (with_reducible first | refine W ?_ | refine Z0 ?_ | ((first | refine Wo fun K hK=>?_ | refine Wp ?_ | refine Wq ?_ | refine Wr ?_);(try simp only [go_sem,fN,seval,eT,iR,ha,dT,dF,nL]);(repeat refine Ai ?_);(try (refine hK _ ?_;clear hK K));try refine iC ?_)) | refine Cg _ (Bq R t0) ?_)
  simp only [go_sem,fN,seval,AN,AS.result,AB,AD,AK]
  rfl
 case pos =>
 rw [if_pos ha]
 by_cases hf:BN m=0
 case neg =>
  rw [if_neg hf]
  unfold LC
  repeat' (first | (with_reducible first | refine W ?_ | refine Z0 ?_ | ((first | refine Wo fun K hK=>?_ | refine Wp ?_ | refine Wq ?_ | refine Wr ?_);(try simp only [go_sem,fN,seval,eT,iR,ha,hf,dT,dF,nL]);(repeat refine Ai ?_);(try (refine hK _ ?_;clear hK K));try refine iC ?_)) | refine Cg _ (Bq R t0) ?_ | refine Cg _ (II m) ?_)
  simp only [go_sem,fN,seval,AN,AS.result,AB,AD,AK]
  rfl
 case pos =>
 rw [if_pos hf]
 obtain ⟨hR,hc0,hz0⟩:=Hi ha
 obtain ⟨m0,m1⟩:=Fx hf
 obtain ⟨most,rfl⟩:∃ n:Nat,m=n:=⟨m.toNat,by omega⟩
 rw [Int.toNat_natCast]
 unfold LC
 repeat' (first | (with_reducible first | refine W ?_ | refine Z0 ?_ | ((first | refine Wo fun K hK=>?_ | refine Wp ?_ | refine Wq ?_ | refine Wr ?_);(try simp only [go_sem,fN,seval,eT,iR,ha,hf,dT,dF,nL]);(repeat refine Ai ?_);(try (refine hK _ ?_;clear hK K));try refine iC ?_)) | refine Cg _ (Bq R t0) ?_ | refine Cg _ (II most) ?_ | refine Cg _ (Gs t0 (by omega)) ?_)
 refine IWP.loopD [11] (fun m s=>∃ (n:Nat) (t:Tm),n≤most∧m=most - n∧BA (Tm.out R) most 0 t0=BA (Tm.out R) (most - n) n t∧t.chk=0∧t.size≤900000∧s.env 0=CH R∧s.env 2=AO most∧s.env 4=.one (.ptr 4 1 0 0)∧s.env 6=.one (.ptr 6 1 0 0)∧s.env 10=AO n∧s.S 4=some (Zo t)∧s.S 6=some Zl∧s.S 11=none)
  most ⟨0,t0,by omega,by omega,rfl,hc0,by omega,rfl,rfl,rfl,rfl,rfl,rfl,rfl,rfl⟩ ?_
 rintro m ⟨env,S⟩ ⟨n,t,hn,rfl,hend,hc,hz,e0,e2,e4,e6,e10,s4,s6,s11⟩
 simp only at e0 e2 e4 e6 e10 s4 s6 s11
 rw [hend]
 have hcon:=Rs hR t hc (by omega)
 cases hs:t.out R with
 | none =>
  rw [hs] at hcon
  unfold EG at hcon
  rw [NX hs]
  repeat' (first | (with_reducible first | refine W ?_ | refine Z0 ?_ | ((first | refine Wo fun K hK=>?_ | refine Wp ?_ | refine Wq ?_ | refine Wr ?_);(try simp only [go_sem,fN,seval,eT,iR,e0,e2,e4,e6,e10,s4,s6,s11,dT,dF,nL]);(repeat refine Ai ?_);(try (refine hK _ ?_;clear hK K));try refine iC ?_)) | refine Cg _ (hcon) ?_)
  simp only [go_sem,fN,seval,AN,AS.result,AB,AD,AK,e6,s6]
 | some r =>
  obtain ⟨x,e⟩:=r
  rw [hs] at hcon
  unfold EG at hcon
  obtain ⟨g1,g2,g3⟩:=Lu hR hc hs
  by_cases hmost:n=most
  ·have hmi:(n:Int)=most:=by omega
   rw [show most - n=0 by omega,OZ hs]
   repeat' (first | (with_reducible first | refine W ?_ | refine Z0 ?_ | ((first | refine Wo fun K hK=>?_ | refine Wp ?_ | refine Wq ?_ | refine Wr ?_);(try simp only [go_sem,fN,seval,eT,iR,e0,e2,e4,e6,e10,s4,s6,s11,hmi,dT,dF,nL]);(repeat refine Ai ?_);(try (refine hK _ ?_;clear hK K));try refine iC ?_)) | refine Cg _ (hcon) ?_)
   simp only [go_sem,fN,seval,AN,AS.result,AB,AD,AK,e6,s6]
   rfl
  have hmi:¬ (n:Int)=most:=by omega
  obtain ⟨k,hk⟩:∃ k,most - n=k + 1:=⟨most - n - 1,by omega⟩
  rw [hk]
  by_cases he:e=0
  case neg =>
   rw [Re hs he]
   repeat' (first | (with_reducible first | refine W ?_ | refine Z0 ?_ | ((first | refine Wo fun K hK=>?_ | refine Wp ?_ | refine Wq ?_ | refine Wr ?_);(try simp only [go_sem,fN,seval,eT,iR,e0,e2,e4,e6,e10,s4,s6,s11,hmi,he,dT,dF,nL]);(repeat refine Ai ?_);(try (refine hK _ ?_;clear hK K));try refine iC ?_)) | refine Cg _ (hcon) ?_)
   simp only [go_sem,fN,seval,AN,AS.result,AB,AD,AK,e6,s6]
   rfl
  case pos =>
  subst he
  have hsz:=LM x (by omega)
  by_cases hgr:(2000:Int) < x.size
  ·rw [Lh hs (by omega)]
   repeat' (first | (with_reducible first | refine W ?_ | refine Z0 ?_ | ((first | refine Wo fun K hK=>?_ | refine Wp ?_ | refine Wq ?_ | refine Wr ?_);(try simp only [go_sem,fN,seval,eT,iR,e0,e2,e4,e6,e10,s4,s6,s11,hmi,hgr,dT,dF,nL]);(repeat refine Ai ?_);(try (refine hK _ ?_;clear hK K));try refine iC ?_)) | refine Cg _ (hcon) ?_ | refine Cg _ (Gs x (by omega)) ?_ | refine Cg _ (hsz) ?_)
   simp only [go_sem,fN,seval,AN,AS.result,AB,AD,AK,e6,s6]
   rfl
  ·repeat' (first | (with_reducible first | refine W ?_ | refine Z0 ?_ | ((first | refine Wo fun K hK=>?_ | refine Wp ?_ | refine Wq ?_ | refine Wr ?_);(try simp only [go_sem,fN,seval,eT,iR,e0,e2,e4,e6,e10,s4,s6,s11,hmi,hgr,dT,dF,nL]);(repeat refine Ai ?_);(try (refine hK _ ?_;clear hK K));try refine iC ?_)) | refine Cg _ (hcon) ?_ | refine Cg _ (Gs x (by omega)) ?_ | refine Cg _ (hsz) ?_)
   refine AI ⟨most - (n + 1),by omega,n + 1,x,by omega,rfl,?_,g2 rfl,by omega,?_⟩
   ·rw [show most - (n + 1)=k by omega]
    exact TO hs (by omega) k n
   ·simp only [go_sem,fN,seval,AS.drop,Ao,AC.clears,AC.clear,AC.highs,AC.high,Bool.not_false,Bool.true_and,Bool.and_self,AV.purge,AV.purges,AC.purge,AL.purge,List.contains_cons,List.contains_nil,Nat.reduceBEq,Bool.or_self,Bool.or_false,Bool.false_or,Bool.or_true,eT,iR,e0,e2,e4,e6,e10,s4,s6,s11]
    congr 3
theorem Zi {R:List Pr} (hR:AZ R) (a b:Tm) (ha:a.chk=0) (hb:b.chk=0) (za:a.size≤900000) (zb:b.size≤900000) (most:Nat) (hm:most≤1000000):AU Tryz.prog 36 [CH R,aTm a,aTm b,AO most] (.tup [Aa (D3 R most a b).1,AO (D3 R most a b).2]):=by
 have l1:=S7 hR a ha za most hm
 have l2:=S7 hR b hb zb most hm
 have hmet:D3 R most a b=if (BA (Tm.inn R) most 0 a).2.2 ≠ 0 then (false,(BA (Tm.inn R) most 0 a).2.2) else if (BA (Tm.inn R) most 0 b).2.2 ≠ 0 then (false,(BA (Tm.inn R) most 0 b).2.2) else ((BA (Tm.inn R) most 0 a).1.beq (BA (Tm.inn R) most 0 b).1,0):=rfl
 rw [hmet]
 unfold LC at l1 l2
 generalize BA (Tm.inn R) most 0 a=x at *
 generalize BA (Tm.inn R) most 0 b=y at *
 clear hmet
 refine Ll.ac fun C hC=>?_
 unfold Gt
 by_cases h1:x.2.2=0
 case neg =>
  rw [if_pos h1]
  repeat' (first | (with_reducible first | refine W ?_ | refine Z0 ?_ | ((first | refine Wo fun K hK=>?_ | refine Wp ?_ | refine Wq ?_ | refine Wr ?_);(try simp only [go_sem,fN,seval,eT,iR,h1,dT,dF,nL]);(repeat refine Ai ?_);(try (refine hK _ ?_;clear hK K));try refine iC ?_)) | refine Cg _ (l1) ?_)
  simp only [go_sem,fN,seval,AN,AS.result,AB,AD,AK]
 case pos =>
 rw [if_neg (fun h=>h h1)]
 by_cases h2:y.2.2=0
 case neg =>
  rw [if_pos h2]
  repeat' (first | (with_reducible first | refine W ?_ | refine Z0 ?_ | ((first | refine Wo fun K hK=>?_ | refine Wp ?_ | refine Wq ?_ | refine Wr ?_);(try simp only [go_sem,fN,seval,eT,iR,h1,h2,dT,dF,nL]);(repeat refine Ai ?_);(try (refine hK _ ?_;clear hK K));try refine iC ?_)) | refine Cg _ (l1) ?_ | refine Cg _ (l2) ?_)
  simp only [go_sem,fN,seval,AN,AS.result,AB,AD,AK]
 case pos =>
 rw [if_neg (fun h=>h h2)]
 repeat' (first | (with_reducible first | refine W ?_ | refine Z0 ?_ | ((first | refine Wo fun K hK=>?_ | refine Wp ?_ | refine Wq ?_ | refine Wr ?_);(try simp only [go_sem,fN,seval,eT,iR,h1,h2,dT,dF,nL]);(repeat refine Ai ?_);(try (refine hK _ ?_;clear hK K));try refine iC ?_)) | refine Cg _ (l1) ?_ | refine Cg _ (l2) ?_ | refine Cg _ (Lq x.1 y.1) ?_)
 simp only [go_sem,fN,seval,AN,AS.result,AB,AD,AK]
def HF (R:List Pr) (a b:Tm) (m:Int):Bool × Int:=if DJ R a=0 then (if b.may=0 then (if BN m=0 then D3 R m.toNat a b else (false,BN m)) else (false,b.may)) else (false,DJ R a)
theorem Zx (R:List Pr) (a b:Tm) (m:Int):AU Tryz.prog 22 [CH R,aTm a,aTm b,AO m] (.tup [Aa (HF R a b m).1,AO (HF R a b m).2]):=by
 unfold HF
 refine K4.ac fun C hC=>?_
 unfold GR
 by_cases ha:DJ R a=0
 case neg =>
  rw [if_neg ha]
  repeat' (first | (with_reducible first | refine W ?_ | refine Z0 ?_ | ((first | refine Wo fun K hK=>?_ | refine Wp ?_ | refine Wq ?_ | refine Wr ?_);(try simp only [go_sem,fN,seval,eT,iR,ha,dT,dF,nL]);(repeat refine Ai ?_);(try (refine hK _ ?_;clear hK K));try refine iC ?_)) | refine Cg _ (Bq R a) ?_)
  simp only [go_sem,fN,seval,AN,AS.result,AB,AD,AK]
 case pos =>
 rw [if_pos ha]
 by_cases hb:b.may=0
 case neg =>
  rw [if_neg hb]
  repeat' (first | (with_reducible first | refine W ?_ | refine Z0 ?_ | ((first | refine Wo fun K hK=>?_ | refine Wp ?_ | refine Wq ?_ | refine Wr ?_);(try simp only [go_sem,fN,seval,eT,iR,ha,hb,dT,dF,nL]);(repeat refine Ai ?_);(try (refine hK _ ?_;clear hK K));try refine iC ?_)) | refine Cg _ (Bq R a) ?_ | refine Cg _ (EV b) ?_)
  simp only [go_sem,fN,seval,AN,AS.result,AB,AD,AK]
 case pos =>
 rw [if_pos hb]
 by_cases hf:BN m=0
 case neg =>
  rw [if_neg hf]
  repeat' (first | (with_reducible first | refine W ?_ | refine Z0 ?_ | ((first | refine Wo fun K hK=>?_ | refine Wp ?_ | refine Wq ?_ | refine Wr ?_);(try simp only [go_sem,fN,seval,eT,iR,ha,hb,hf,dT,dF,nL]);(repeat refine Ai ?_);(try (refine hK _ ?_;clear hK K));try refine iC ?_)) | refine Cg _ (Bq R a) ?_ | refine Cg _ (EV b) ?_ | refine Cg _ (II m) ?_)
  simp only [go_sem,fN,seval,AN,AS.result,AB,AD,AK]
 case pos =>
 rw [if_pos hf]
 obtain ⟨hR,hc,hz⟩:=Hi ha
 obtain ⟨hcb,hzb⟩:=Tm.may_chk hb
 obtain ⟨m0,m1⟩:=Fx hf
 obtain ⟨n,rfl⟩:∃ n:Nat,m=n:=⟨m.toNat,by omega⟩
 rw [Int.toNat_natCast]
 have hmet:=Zi hR a b hc hcb (by omega) (by omega) n (by omega)
 repeat' (first | (with_reducible first | refine W ?_ | refine Z0 ?_ | ((first | refine Wo fun K hK=>?_ | refine Wp ?_ | refine Wq ?_ | refine Wr ?_);(try simp only [go_sem,fN,seval,eT,iR,ha,hb,hf,dT,dF,nL]);(repeat refine Ai ?_);(try (refine hK _ ?_;clear hK K));try refine iC ?_)) | refine Cg _ (Bq R a) ?_ | refine Cg _ (EV b) ?_ | refine Cg _ (II n) ?_ | refine Cg _ (hmet) ?_)
 simp only [go_sem,fN,seval,AN,AS.result,AB,AD,AK]



set_option maxHeartbeats 1600000
def crV (o:Option (List Pr)):AV:=match o with
 | none=>.tup [CH [],AO 8]
 | some l=>.tup [CH l,AO 0]
abbrev WP (p:Pr):AL:=.box 40 [.st (.str p.1.name),.st (.list (p.1.args.map Ap)),.st (.str p.2.name),.st (.list (p.2.args.map Ap))]
structure SK (p:Pr):Prop where
 c1:p.1.chk=0
 c2:p.2.chk=0
 z1:p.1.size≤200
 z2:p.2.size≤200
theorem LP {c:UInt8} (h65:65≤c.toNat) (h90:c.toNat≤90) {k:Nat} (hk:k≤1) {r:Pr} (h1:r.1.may=0) (h2:r.2.may=0):SK (D8 c k r):=by
 obtain ⟨c1,z1⟩:=Tm.may_chk h1
 obtain ⟨c2,z2⟩:=Tm.may_chk h2
 have hvl:=Kp r.1
 have f1:=Cn h65 h90 hk (show r.1.varsOf.length≤1000 by omega) c1
 have f2:=Cn h65 h90 hk (show r.1.varsOf.length≤1000 by omega) c2
 exact ⟨f1.1,f2.1,by rw [D8];show (Tm.on _ r.1).size≤200;rw [f1.2];exact z1,by rw [D8];show (Tm.on _ r.2).size≤200;rw [f2.2];exact z2⟩
theorem Mw {A B:Pr} (hA:SK A) (hB:SK B) (same:Bool) {p:List Int} {x:Tm} (hx:A.1.atP p=some x) (hk:x ∈ A.1.knots) :
  ((AJ x.name=true ∨ (same=true∧p=[]))∧Cc A B same p=some []) ∨ (¬ (AJ x.name=true ∨ (same=true∧p=[]))∧∃ n r,DM n [] [(x,B.1)] r∧D6 [(x,B.1)]=0 ∧
   ((r.2=8∧Cc A B same p=none) ∨ (r.2 ≠ 8∧r.2 ≠ 0∧Cc A B same p=some []) ∨ (r.2=0∧CT (HS [(x,B.1)]) 100000000000 r.1 [] ∧
    Cc A B same p=if (A7 r.1 A.2).2=true∧(A7 r.1 (A.1.putP p B.2)).2=true then some [Gq (A7 r.1 A.2).1 (A7 r.1 (A.1.putP p B.2)).1] else none))):=by
 have hxc:=DS A.1 x hA.c1 hk
 have hxz:=DD A.1 x hk
 have hAz:=hA.z1
 have hmay:=GB (GD hxc (by omega)) (GD hB.c1 hB.z1)
 obtain ⟨n,r,hr⟩:=QL hmay
 have hs:=O1 hr
 unfold Cc
 simp only [hx,hs]
 by_cases h1:AJ x.name=true ∨ (same=true∧p=[])
 ·exact .inl ⟨h1,by rw [if_pos h1]⟩
 refine .inr ⟨h1,n,r,hr,hmay,?_⟩
 rw [if_neg h1]
 by_cases h2:r.2=8
 ·exact .inl ⟨h2,by rw [if_pos h2]⟩
 rw [if_neg h2]
 by_cases h3:r.2=0
 ·refine .inr (.inr ⟨h3,?_,by rw [if_neg (fun h=>h h3)]⟩)
  have:=Oq hmay (by rw [hs];exact h3)
  rw [hs] at this
  exact this
 ·exact .inr (.inl ⟨h2,h3,by rw [if_pos h3]⟩)
theorem SG {A B:Pr} {same:Bool} {ps:List (List Int)} {i:Nat} {p:List Int} (h:ps[i]?=some p) {acc:List Pr} (hall:EH A B same ps=(EH A B same (ps.drop i)).map (acc ++ ·)):(Cc A B same p=none→EH A B same ps=none)∧∀ x,Cc A B same p=some x→EH A B same ps=(EH A B same (ps.drop (i + 1))).map ((acc ++ x) ++ ·):=by
 rw [Bi h,EH] at hall
 refine ⟨fun h1=>?_,fun x h1=>?_⟩
 ·rw [h1] at hall
  exact hall
 ·rw [h1] at hall
  simp only [Option.map_map] at hall
  rw [hall]
  congr 1
  funext l
  simp
theorem UU {a b:Pr} (ha1:a.1.may=0) (ha2:a.2.may=0) (hb1:b.1.may=0) (hb2:b.2.may=0) (same:Bool):AU Tryz.prog 74 [aPr a,aPr b,Aa same] (crV (Rl (D8 88 1 a) (D8 89 1 b) same)):=by
 have pa:=Tp 88 (by decide) (by decide) ha1 ha2
 have pb:=Tp 89 (by decide) (by decide) hb1 hb2
 have hA:=LP (c:=88) (by decide) (by decide) (k:=1) (by omega) ha1 ha2
 have hB:=LP (c:=89) (by decide) (by decide) (k:=1) (by omega) hb1 hb2
 generalize D8 88 1 a=A at *
 generalize D8 89 1 b=B at *
 obtain ⟨A1,A2,A3,A4⟩:=hA
 obtain ⟨B1,B1',B3,B4⟩:=hB
 have hpl:=Tm.places_length A.1
 have hall:=AAP A.1 (by omega)
 unfold Rl
 refine Hm.ac fun C hC=>?_
 unfold EI
 repeat' (first | (with_reducible first | refine W ?_ | refine Z0 ?_ | ((first | refine Wo fun K hK=>?_ | refine Wp ?_ | refine Wq ?_ | refine Wr ?_);(try simp only [go_sem,fN,seval,eT,iR,dT,dF,nL]);(repeat refine Ai ?_);(try (refine hK _ ?_;clear hK K));try refine iC ?_)) | refine Cg _ (pa) ?_ | refine Cg _ (pb) ?_ | refine Cg _ (hall) ?_)
 refine IWP.ghost (Ac.own 8 500 40 4 (xs:=([]:List Pr).map Bf) (by rfl) (by rfl) KC (by rw [hC];decide)) ?_
 refine IWP.loopD [13,17,19] (fun m s=>∃ i acc,i≤A.1.places.length∧m=A.1.places.length - i∧acc.length≤i∧EH A B same A.1.places=(EH A B same (A.1.places.drop i)).map (acc ++ ·)∧s.env 2=Aa same∧s.env 8=.one (.row 500 acc.length)∧s.env 9=.one (.ptr 9 1 0 0)∧s.env 10=.one (.ptr 10 1 0 0)∧s.env 28=Z4 A.1.places∧s.env 29=AO A.1.places.length∧s.env 30=AO i∧s.S 9=some (WP A)∧s.S 10=some (WP B)∧s.S 13=none∧s.S 17=none∧s.S 19=none∧s.S 500=some (.arow 40 4 (acc.map Bf))) A.1.places.length ⟨0,[],Nat.zero_le _,rfl,Nat.zero_le _,by simp,rfl,rfl,rfl,rfl,rfl,rfl,rfl,rfl,rfl,rfl,rfl,rfl,rfl⟩ ?_
 rintro m ⟨env,S⟩ ⟨i,acc,hi,rfl,hal,hcr,e2,e8,e9,e10,e28,e29,e30,s9,s10,s13,s17,s19,s500⟩
 simp only at e2 e8 e9 e10 e28 e29 e30 s9 s10 s13 s17 s19 s500
 have hl:(acc.map Bf).length=acc.length:=by simp
 by_cases hlt:i < A.1.places.length
 case neg =>
  rw [List.drop_of_length_le (by omega)] at hcr
  simp only [EH,Option.map_some,List.append_nil] at hcr
  rw [hcr]
  have hlt':¬ (i:Int) < A.1.places.length:=by omega
  unfold crV
  repeat' with_reducible first | refine W ?_ | refine Z0 ?_ | ((first | refine Wo fun K hK=>?_ | refine Wp ?_ | refine Wq ?_ | refine Wr ?_);(try simp only [go_sem,fN,seval,eT,iR,e2,e8,e9,e10,e28,e29,e30,s9,s10,s13,s17,s19,s500,hlt',dT,dF,nL]);(repeat refine Ai ?_);(try (refine hK _ ?_;clear hK K));try refine iC ?_)
  simp only [go_sem,fN,seval,AN,AS.result,AB,AD,AK,s500,hl]
 obtain ⟨p,hp⟩:=Ag hlt
 have hlt':(i:Int) < A.1.places.length:=by omega
 obtain ⟨x,hx,hxk⟩:=DC A.1 p (AQ hp)
 have hxz:=DD A.1 x hxk
 have hpd:=Tm.places_deep A.1 p (AQ hp)
 have hbel:=YT A.1 p (by omega)
 rw [hx] at hbel
 have hwith:=UQ B.2 (by omega) p A.1 (by omega) (by rw [hx];simp) (by omega)
 obtain ⟨hno,hyes⟩:=SG hp hcr
 have hpi:(p.map Pm).length=p.length:=by simp
 have hadd:∀ ys:List Pr,acc ++ ys=acc ++ ys:=fun _=>rfl
 rcases Mw ⟨A1,A2,A3,A4⟩ ⟨B1,B1',B3,B4⟩ same hx hxk with ⟨h1,h2⟩ | ⟨h1,n,r,hr,hmay,h2⟩
 ·have hn:=hyes _ h2
  by_cases hv:AJ x.name=true
  ·repeat' (first | (with_reducible first | refine W ?_ | refine Z0 ?_ | ((first | refine Wo fun K hK=>?_ | refine Wp ?_ | refine Wq ?_ | refine Wr ?_);(try simp only [go_sem,fN,seval,eT,iR,e2,e8,e9,e10,e28,e29,e30,s9,s10,s13,s17,s19,s500,hlt',hp,hv,dT,dF,nL]);(repeat refine Ai ?_);(try (refine hK _ ?_;clear hK K));try refine iC ?_)) | refine Cg _ (hbel) ?_ | refine Cg _ (Am x.name) ?_)
   refine AI ⟨A.1.places.length - (i + 1),by omega,i + 1,acc ++ [],by omega,rfl,by simp;omega,hn,?_⟩
   rw [List.append_nil]
   simp only [go_sem,fN,seval,AS.drop,Ao,AC.clears,AC.clear,AC.highs,AC.high,Bool.not_false,Bool.true_and,Bool.and_self,AV.purge,AV.purges,AC.purge,AL.purge,List.contains_cons,List.contains_nil,Nat.reduceBEq,Bool.or_self,Bool.or_false,Bool.false_or,Bool.or_true,eT,iR,e2,e8,e9,e10,e28,e29,e30,s9,s10,s13,s17,s19,s500]
   congr 3
  ·obtain ⟨rfl,rfl⟩:same=true∧p=[]:=by
    rcases h1 with h1 | h1
    ·exact absurd h1 hv
    ·exact h1
   repeat' (first | (with_reducible first | refine W ?_ | refine Z0 ?_ | ((first | refine Wo fun K hK=>?_ | refine Wp ?_ | refine Wq ?_ | refine Wr ?_);(try simp only [go_sem,fN,seval,eT,iR,e2,e8,e9,e10,e28,e29,e30,s9,s10,s13,s17,s19,s500,hlt',hp,hv,dT,dF,nL]);(repeat refine Ai ?_);(try (refine hK _ ?_;clear hK K));try refine iC ?_)) | refine Cg _ (hbel) ?_ | refine Cg _ (Am x.name) ?_)
   refine AI ⟨A.1.places.length - (i + 1),by omega,i + 1,acc ++ [],by omega,rfl,by simp;omega,hn,?_⟩
   rw [List.append_nil]
   simp only [go_sem,fN,seval,AS.drop,Ao,AC.clears,AC.clear,AC.highs,AC.high,Bool.not_false,Bool.true_and,Bool.and_self,AV.purge,AV.purges,AC.purge,AL.purge,List.contains_cons,List.contains_nil,Nat.reduceBEq,Bool.or_self,Bool.or_false,Bool.false_or,Bool.or_true,eT,iR,e2,e8,e9,e10,e28,e29,e30,s9,s10,s13,s17,s19,s500]
   congr 3
 ·have hv:¬ AJ x.name=true:=fun h=>h1 (.inl h)
  have hs:(same=false∧True) ∨ (same=true∧¬ (p.length:Int)=0):=by
   cases same with
   | false=>exact .inl ⟨rfl,trivial⟩
   | true=>exact .inr ⟨rfl,fun h=>h1 (.inr ⟨rfl,List.length_eq_zero_iff.1 (by omega)⟩)⟩
  have hsv:=Y1 _ (Dj hmay).1 _ (Nat.le_refl _) n _ r hr (Dj hmay).2
  have hU:=(Dj hmay).1
  unfold CH at hsv
  simp only [List.map_cons,List.map_nil,Bf] at hsv
  rcases hs with ⟨rfl,hp0⟩ | ⟨rfl,hp0⟩
  all_goals
   rcases h2 with ⟨r8,hc⟩ | ⟨r8,r0,hc⟩ | ⟨r0,hg,hc⟩
   ·rw [hno hc]
    unfold crV
    repeat' (first | (with_reducible first | refine W ?_ | refine Z0 ?_ | ((first | refine Wo fun K hK=>?_ | refine Wp ?_ | refine Wq ?_ | refine Wr ?_);(try simp only [go_sem,fN,seval,eT,iR,e2,e8,e9,e10,e28,e29,e30,s9,s10,s13,s17,s19,s500,hlt',hp,hv,hp0,r8,dT,dF,nL]);(repeat refine Ai ?_);(try (refine hK _ ?_;clear hK K));try refine iC ?_)) | refine Cg _ (hbel) ?_ | refine Cg _ (Am x.name) ?_ | refine Cg _ (hsv) ?_)
    simp only [go_sem,fN,seval,AN,AS.result,AB,AD,AK]
    rfl
   ·have hn:=hyes _ hc
    repeat' (first | (with_reducible first | refine W ?_ | refine Z0 ?_ | ((first | refine Wo fun K hK=>?_ | refine Wp ?_ | refine Wq ?_ | refine Wr ?_);(try simp only [go_sem,fN,seval,eT,iR,e2,e8,e9,e10,e28,e29,e30,s9,s10,s13,s17,s19,s500,hlt',hp,hv,hp0,r8,r0,dT,dF,nL]);(repeat refine Ai ?_);(try (refine hK _ ?_;clear hK K));try refine iC ?_)) | refine Cg _ (hbel) ?_ | refine Cg _ (Am x.name) ?_ | refine Cg _ (hsv) ?_)
    refine AI ⟨A.1.places.length - (i + 1),by omega,i + 1,acc ++ [],by omega,rfl,by simp;omega,hn,?_⟩
    rw [List.append_nil]
    simp only [go_sem,fN,seval,AS.drop,Ao,AC.clears,AC.clear,AC.highs,AC.high,Bool.not_false,Bool.true_and,Bool.and_self,AV.purge,AV.purges,AC.purge,AL.purge,List.contains_cons,List.contains_nil,Nat.reduceBEq,Bool.or_self,Bool.or_false,Bool.false_or,Bool.or_true,eT,iR,e2,e8,e9,e10,e28,e29,e30,s9,s10,s13,s17,s19,s500]
    congr 3
   ·have hgl:=hg.len
    have on1:=Nt r.1 (by omega) hg.ord A.2 hg.var A2
    have on2:=Nt r.1 (by omega) hg.ord (A.1.putP p B.2) hg.var (JC p A.1 B.2 A1 B1')
    have y1:(A7 r.1 A.2).1.size≤2000:=Fl
    have y2:(A7 r.1 (A.1.putP p B.2)).1.size≤2000:=Fl
    generalize A7 r.1 A.2=y at *
    generalize A7 r.1 (A.1.putP p B.2)=z at *
    obtain ⟨y,yb⟩:=y
    obtain ⟨z,zb⟩:=z
    simp only at on1 on2 y1 y2 hc
    by_cases hb:yb=true∧zb=true
    ·obtain ⟨rfl,rfl⟩:=hb
     rw [if_pos ⟨rfl,rfl⟩] at hc
     have hn:=hyes _ hc
     have hnm:=WG [y,z] (by simp only [Tm.sizes];omega)
     rw [show (Tm.cnL [y,z] []).1=[(Gq y z).1,(Gq y z).2] from rfl] at hnm
     unfold Gh at hnm
     simp only [List.map_cons,List.map_nil,Af] at hnm
     generalize Gq y z=q at *
     repeat' (first | (with_reducible first | refine W ?_ | refine Z0 ?_ | ((first | refine Wo fun K hK=>?_ | refine Wp ?_ | refine Wq ?_ | refine Wr ?_);(try simp only [go_sem,fN,seval,eT,iR,e2,e8,e9,e10,e28,e29,e30,s9,s10,s13,s17,s19,s500,hlt',hp,hv,hp0,r0,hl,dT,dF,nL]);(repeat refine Ai ?_);(try (refine hK _ ?_;clear hK K));try refine iC ?_)) | refine Cg _ (hbel) ?_ | refine Cg _ (Am x.name) ?_ | refine Cg _ (hsv) ?_ | refine Cg _ (on1) ?_ | refine Cg _ (hwith) ?_ | refine Cg _ (on2) ?_ | refine Cg _ (hnm) ?_)
     refine AI ⟨A.1.places.length - (i + 1),by omega,i + 1,acc ++ [q],by omega,rfl,by simp;omega,hn,?_⟩
     simp only [go_sem,fN,seval,AS.drop,Ao,AC.clears,AC.clear,AC.highs,AC.high,Bool.not_false,Bool.true_and,Bool.and_self,AV.purge,AV.purges,AC.purge,AL.purge,List.contains_cons,List.contains_nil,Nat.reduceBEq,Bool.or_self,Bool.or_false,Bool.false_or,Bool.or_true,eT,iR,e2,e8,e9,e10,e28,e29,e30,s9,s10,s13,s17,s19,s500]
     refine ⟨by congr 3,?_⟩
     rw [List.map_append]
     rfl
    ·rw [if_neg hb] at hc
     rw [hno hc]
     unfold crV
     cases yb
     ·repeat' (first | (with_reducible first | refine W ?_ | refine Z0 ?_ | ((first | refine Wo fun K hK=>?_ | refine Wp ?_ | refine Wq ?_ | refine Wr ?_);(try simp only [go_sem,fN,seval,eT,iR,e2,e8,e9,e10,e28,e29,e30,s9,s10,s13,s17,s19,s500,hlt',hp,hv,hp0,r0,hl,dT,dF,nL]);(repeat refine Ai ?_);(try (refine hK _ ?_;clear hK K));try refine iC ?_)) | refine Cg _ (hbel) ?_ | refine Cg _ (Am x.name) ?_ | refine Cg _ (hsv) ?_ | refine Cg _ (on1) ?_ | refine Cg _ (hwith) ?_ | refine Cg _ (on2) ?_)
      simp only [go_sem,fN,seval,AN,AS.result,AB,AD,AK]
      rfl
     ·cases zb
      ·repeat' (first | (with_reducible first | refine W ?_ | refine Z0 ?_ | ((first | refine Wo fun K hK=>?_ | refine Wp ?_ | refine Wq ?_ | refine Wr ?_);(try simp only [go_sem,fN,seval,eT,iR,e2,e8,e9,e10,e28,e29,e30,s9,s10,s13,s17,s19,s500,hlt',hp,hv,hp0,r0,hl,dT,dF,nL]);(repeat refine Ai ?_);(try (refine hK _ ?_;clear hK K));try refine iC ?_)) | refine Cg _ (hbel) ?_ | refine Cg _ (Am x.name) ?_ | refine Cg _ (hsv) ?_ | refine Cg _ (on1) ?_ | refine Cg _ (hwith) ?_ | refine Cg _ (on2) ?_)
       simp only [go_sem,fN,seval,AN,AS.result,AB,AD,AK]
       rfl
      ·exact absurd ⟨rfl,rfl⟩ hb

theorem XK {R:List Pr} {c d:UInt8} {k i j:Nat} {a b:Pr} (hi:R[i]?=some a) (hj:R[j]?=some b):crR R c d k i j=Rl (D8 c k a) (D8 d k b) (decide (i=j)):=by
 unfold crR
 rw [hi,hj]
theorem YJ {n i j:Nat}:∀ q ∈ FS n i j,j≤n→i < n→q.1 < n∧q.2 < n:=fun q hq h1 h2=>by
 unfold FS at hq
 rcases List.mem_append.1 hq with hq | hq
 ·obtain ⟨a,ha,rfl⟩:=List.mem_map.1 hq
  rw [List.mem_range'_1] at ha
  exact ⟨h2,by show a < n;omega⟩
 ·obtain ⟨a,ha,hq⟩:=List.mem_flatMap.1 hq
  obtain ⟨b,hb,rfl⟩:=List.mem_map.1 hq
  rw [List.mem_range'_1] at ha hb
  exact ⟨by show a < n;omega,by show b < n;omega⟩
theorem X4 {R:List Pr} (hR:AZ R) {i j:Nat} {x:List Pr} (hi:i < R.length) (hj:j < R.length) (h:crR R 88 89 1 i j=some x):x.length≤200∧∀ q ∈ x,Fy q:=by
 obtain ⟨a,ha⟩:=Ag hi
 obtain ⟨b,hb⟩:=Ag hj
 rw [XK ha hb] at h
 have ma:=AQ ha
 have mb:=AQ hb
 have oA:=LP (c:=88) (by decide) (by decide) (k:=1) (by omega) (hR.left a ma) (hR.right a ma)
 have oB:=LP (c:=89) (by decide) (by decide) (k:=1) (by omega) (hR.left b mb) (hR.right b mb)
 have:=Qc oA.c1 oA.c2 oA.z1 oB.c1 oB.c2 oB.z1 (fun p hp=>hp) h
 rw [Tm.places_length] at this
 exact ⟨by have:=oA.z1;omega,this.2⟩
theorem KB {R:List Pr} (hR:AZ R):(∀ q ∈ (CZ R 88 89 1).1,Fy q)∧(CZ R 88 89 1).1.length≤400:=by
 unfold CZ
 split
 ·exact ⟨by simp,by simp⟩
 ·rename_i h
  exact TP _ _ (by simp) (by simp) fun q hq x hx=>by
   obtain ⟨h1,h2⟩:=YJ q hq (by omega) (by omega)
   exact (X4 hR h1 h2 hx).2
noncomputable def RQ (R:List Pr) (c d:UInt8) (k i:Nat) (acc:List Pr):List Pr × Int:=if i < R.length then En (crR R c d k) (FS R.length i 0) acc else (acc,0)
theorem Za {R:List Pr} {c d:UInt8} {k i:Nat} {acc:List Pr} (h:i < R.length):RQ R c d k i acc=En (crR R c d k) (FS R.length i 0) acc:=if_pos h
theorem V5 {R:List Pr} {c d:UInt8} {k i:Nat} {acc:List Pr} (h:i < R.length):En (crR R c d k) (FS R.length i R.length) acc=RQ R c d k (i + 1) acc:=by
 unfold RQ
 by_cases h1:i + 1 < R.length
 ·rw [if_pos h1,Xk h1]
 ·rw [if_neg h1,XJ (by omega),En]
theorem QB (R:List Pr) (c d:UInt8) (k:Nat):CZ R c d k=RQ R c d k 0 []:=by
 unfold CZ RQ
 by_cases h:R.length=0
 ·rw [if_pos h,if_neg (by omega)]
 ·rw [if_neg h,if_pos (by omega)]
def prV (r:List Pr × Int):AV:=.tup [CH r.1,AO r.2]
theorem X1 {R:List Pr} (hR:AZ R) (h0:BF R=0):AU Tryz.prog 35 [CH R] (prV (CZ R 88 89 1)):=by
 have h40:=hR.len
 rw [QB]
 unfold prV
 refine Ix.ac fun C hC=>?_
 unfold Es
 repeat' (first | (with_reducible first | refine W ?_ | refine Z0 ?_ | ((first | refine Wo fun K hK=>?_ | refine Wp ?_ | refine Wq ?_ | refine Wr ?_);(try simp only [go_sem,fN,seval,eT,iR,h0,dT,dF,nL]);(repeat refine Ai ?_);(try (refine hK _ ?_;clear hK K));try refine iC ?_)) | refine Cg _ (IX R) ?_)
 refine IWP.ghost (Ac.own 5 500 40 4 (xs:=([]:List Pr).map Bf) (by rfl) (by rfl) KC (by rw [hC];decide)) ?_
 refine IWP.loopD [7,9] (fun m s=>∃ i acc,i≤R.length∧m=R.length - i∧acc.length≤400∧RQ R 88 89 1 0 []=RQ R 88 89 1 i acc∧s.env 0=CH R∧s.env 5=.one (.row 500 acc.length)∧s.env 17=CH R∧s.env 18=AO R.length∧s.env 19=AO i∧s.S 7=none∧s.S 9=none∧s.S 500=some (.arow 40 4 (acc.map Bf))) R.length ⟨0,[],Nat.zero_le _,rfl,Nat.zero_le _,rfl,rfl,rfl,rfl,rfl,rfl,rfl,rfl,rfl⟩ ?_
 rintro m ⟨env,S⟩ ⟨i,acc,hi,rfl,hal,htot,e0,e5,e17,e18,e19,s7,s9,s500⟩
 simp only at e0 e5 e17 e18 e19 s7 s9 s500
 have hl:(acc.map Bf).length=acc.length:=by simp
 rw [htot]
 by_cases hlt:i < R.length
 case neg =>
  have hlt':¬ (i:Int) < R.length:=by omega
  rw [RQ,if_neg hlt]
  repeat' with_reducible first | refine W ?_ | refine Z0 ?_ | ((first | refine Wo fun K hK=>?_ | refine Wp ?_ | refine Wq ?_ | refine Wr ?_);(try simp only [go_sem,fN,seval,eT,iR,e0,e5,e17,e18,e19,s7,s9,s500,hlt',dT,dF,nL]);(repeat refine Ai ?_);(try (refine hK _ ?_;clear hK K));try refine iC ?_)
  simp only [go_sem,fN,seval,AN,AS.result,AB,AD,AK,s500,hl]
 have hlt':(i:Int) < R.length:=by omega
 obtain ⟨a,ha⟩:=Ag hlt
 have ma:=AQ ha
 rw [Za hlt]
 repeat' with_reducible first | refine W ?_ | refine Z0 ?_ | ((first | refine Wo fun K hK=>?_ | refine Wp ?_ | refine Wq ?_ | refine Wr ?_);(try simp only [go_sem,fN,seval,eT,iR,e0,e5,e17,e18,e19,s7,s9,s500,hlt',ha,Bf,dT,dF,nL]);(repeat refine Ai ?_);(try (refine hK _ ?_;clear hK K));try refine iC ?_)
 refine IWP.loopD [9] (fun m s=>∃ j acc2,j≤R.length∧m=R.length - j∧acc2.length≤400∧En (crR R 88 89 1) (FS R.length i 0) acc=En (crR R 88 89 1) (FS R.length i j) acc2∧s.env 0=CH R∧s.env 5=.one (.row 500 acc2.length)∧s.env 6=AO i∧s.env 7=.one (.ptr 7 1 0 0)∧s.env 17=CH R∧s.env 18=AO R.length∧s.env 19=AO i∧s.env 24=CH R∧s.env 25=AO R.length∧s.env 26=AO j∧s.S 7=some (WP a)∧s.S 9=none∧s.S 500=some (.arow 40 4 (acc2.map Bf))) R.length ⟨0,acc,Nat.zero_le _,rfl,hal,rfl,?_⟩ ?_
 ·simp only [go_sem,fN,seval,eT,iR,e0,e5,e17,e18,e19,s7,s9,s500]
 rintro m ⟨env,S⟩ ⟨j,acc2,hj,rfl,hal2,htot2,e0,e5,e6,e7,e17,e18,e19,e24,e25,e26,s7,s9,s500⟩
 simp only at e0 e5 e6 e7 e17 e18 e19 e24 e25 e26 s7 s9 s500
 have hl2:(acc2.map Bf).length=acc2.length:=by simp
 rw [htot2]
 by_cases hjl:j < R.length
 case neg =>
  have hjl':¬ (j:Int) < R.length:=by omega
  obtain rfl:j=R.length:=by omega
  have hnx:=V5 (c:=88) (d:=89) (k:=1) (acc:=acc2) hlt
  repeat' with_reducible first | refine W ?_ | refine Z0 ?_ | ((first | refine Wo fun K hK=>?_ | refine Wp ?_ | refine Wq ?_ | refine Wr ?_);(try simp only [go_sem,fN,seval,eT,iR,e0,e5,e6,e7,e17,e18,e19,e24,e25,e26,s7,s9,s500,hjl',dT,dF,nL]);(repeat refine Ai ?_);(try (refine hK _ ?_;clear hK K));try refine iC ?_)
  refine AI ⟨R.length - (i + 1),by omega,i + 1,acc2,by omega,rfl,hal2,?_,?_⟩
  ·exact hnx
  ·simp only [go_sem,fN,seval,AS.drop,Ao,AC.clears,AC.clear,AC.highs,AC.high,Bool.not_false,Bool.true_and,Bool.and_self,AV.purge,AV.purges,AC.purge,AL.purge,List.contains_cons,List.contains_nil,Nat.reduceBEq,Bool.or_self,Bool.or_false,Bool.false_or,Bool.or_true,eT,iR,e0,e5,e6,e7,e17,e18,e19,e24,e25,e26,s7,s9,s500]
   congr 3
 have hjl':(j:Int) < R.length:=by omega
 obtain ⟨b,hb⟩:=Ag hjl
 have mb:=AQ hb
 have hij:decide ((i:Int)=(j:Int))=decide (i=j):=by
  rw [decide_eq_decide]
  omega
 have hbt:=UU (hR.left a ma) (hR.right a ma) (hR.left b mb) (hR.right b mb) (decide (i=j))
 rw [← XK ha hb,← hij] at hbt
 rw [Yt hjl,En] at htot2 ⊢
 cases hcr:crR R 88 89 1 i j with
 | none =>
  rw [hcr] at hbt
  unfold crV at hbt
  simp only [hcr]
  repeat' (first | (with_reducible first | refine W ?_ | refine Z0 ?_ | ((first | refine Wo fun K hK=>?_ | refine Wp ?_ | refine Wq ?_ | refine Wr ?_);(try simp only [go_sem,fN,seval,eT,iR,e0,e5,e6,e7,e17,e18,e19,e24,e25,e26,s7,s9,s500,hjl',hb,Bf,dT,dF,nL]);(repeat refine Ai ?_);(try (refine hK _ ?_;clear hK K));try refine iC ?_)) | refine Cg _ (hbt) ?_)
  simp only [go_sem,fN,seval,AN,AS.result,AB,AD,AK]
  rfl
 | some x =>
  rw [hcr] at hbt
  unfold crV at hbt
  simp only [hcr]
  have hxl:=(X4 hR hlt hjl hcr).1
  have hxm:(x.map Bf).length=x.length:=by simp
  have hla:(acc2 ++ x).length=acc2.length + x.length:=List.length_append
  by_cases hg:400 < (acc2 ++ x).length
  ·rw [if_pos hg]
   have hg':(400:Int) < ((acc2.length + x.length:Nat):Int):=by omega
   repeat' (first | (with_reducible first | refine W ?_ | refine Z0 ?_ | ((first | refine Wo fun K hK=>?_ | refine Wp ?_ | refine Wq ?_ | refine Wr ?_);(try simp only [go_sem,fN,seval,eT,iR,e0,e5,e6,e7,e17,e18,e19,e24,e25,e26,s7,s9,s500,hjl',hb,Bf,hl2,hxm,hg',dT,dF,nL]);(repeat refine Ai ?_);(try (refine hK _ ?_;clear hK K));try refine iC ?_)) | refine Cg _ (hbt) ?_)
   simp only [go_sem,fN,seval,AN,AS.result,AB,AD,AK]
   rfl
  ·rw [if_neg hg]
   have hg':¬ (400:Int) < ((acc2.length + x.length:Nat):Int):=by omega
   repeat' (first | (with_reducible first | refine W ?_ | refine Z0 ?_ | ((first | refine Wo fun K hK=>?_ | refine Wp ?_ | refine Wq ?_ | refine Wr ?_);(try simp only [go_sem,fN,seval,eT,iR,e0,e5,e6,e7,e17,e18,e19,e24,e25,e26,s7,s9,s500,hjl',hb,Bf,hl2,hxm,hg',dT,dF,nL]);(repeat refine Ai ?_);(try (refine hK _ ?_;clear hK K));try refine iC ?_)) | refine Cg _ (hbt) ?_)
   refine AI ⟨R.length - (j + 1),by omega,j + 1,acc2 ++ x,by omega,rfl,by omega,rfl,?_⟩
   simp only [go_sem,fN,seval,AS.drop,Ao,AC.clears,AC.clear,AC.highs,AC.high,Bool.not_false,Bool.true_and,Bool.and_self,AV.purge,AV.purges,AC.purge,AL.purge,List.contains_cons,List.contains_nil,Nat.reduceBEq,Bool.or_self,Bool.or_false,Bool.false_or,Bool.or_true,eT,iR,e0,e5,e6,e7,e17,e18,e19,e24,e25,e26,s7,s9,s500]
   refine ⟨by congr 3,?_⟩
   rw [List.map_append]
def Gk (R:List Pr) (m:Nat):List Pr→Bool × Int
 | []=>(true,0)
 | p :: l=>if (D3 R m p.1 p.2).2=0 then (if (D3 R m p.1 p.2).1=true then Gk R m l else (false,0)) else (false,(D3 R m p.1 p.2).2)
noncomputable def Ei (R:List Pr) (m:Int):Bool × Int:=if (CZ R 88 89 1).2=0 then (if BN m=0 then Gk R m.toNat (CZ R 88 89 1).1 else (false,BN m)) else (false,(CZ R 88 89 1).2)
def joV (r:Bool × Int):AV:=.tup [Aa r.1,AO r.2]
theorem TQ {R:List Pr} (hR:AZ R) (h0:BF R=0) (m:Int):AU Tryz.prog 13 [CH R,AO m] (joV (Ei R m)):=by
 have hp:=X1 hR h0
 obtain ⟨hok,hlen⟩:=KB hR
 unfold Ei
 generalize CZ R 88 89 1=P at *
 obtain ⟨l,e⟩:=P
 unfold prV at hp
 simp only at hp hok hlen ⊢
 have fm:BN m=if m < 0 ∨ 400 < m then 10 else 0:=rfl
 unfold joV
 by_cases he:e=0
 case neg =>
  rw [if_neg he]
  refine Co.ac fun C hC=>?_
  unfold CB
  repeat' (first | (with_reducible first | refine W ?_ | refine Z0 ?_ | ((first | refine Wo fun K hK=>?_ | refine Wp ?_ | refine Wq ?_ | refine Wr ?_);(try simp only [go_sem,fN,seval,eT,iR,he,dT,dF,nL]);(repeat refine Ai ?_);(try (refine hK _ ?_;clear hK K));try refine iC ?_)) | refine Cg _ (hp) ?_)
  simp only [go_sem,fN,seval,AN,AS.result,AB,AD,AK]
 subst he
 rw [if_pos rfl]
 by_cases m1:m < 0
 ·have f1:BN m=10:=by rw [fm,if_pos (.inl m1)]
  rw [f1,if_neg (by decide)]
  refine Co.ac fun C hC=>?_
  unfold CB
  repeat' (first | (with_reducible first | refine W ?_ | refine Z0 ?_ | ((first | refine Wo fun K hK=>?_ | refine Wp ?_ | refine Wq ?_ | refine Wr ?_);(try simp only [go_sem,fN,seval,eT,iR,m1,dT,dF,nL]);(repeat refine Ai ?_);(try (refine hK _ ?_;clear hK K));try refine iC ?_)) | refine Cg _ (hp) ?_)
  simp only [go_sem,fN,seval,AN,AS.result,AB,AD,AK]
 by_cases m2:400 < m
 ·have f1:BN m=10:=by rw [fm,if_pos (.inr m2)]
  rw [f1,if_neg (by decide)]
  refine Co.ac fun C hC=>?_
  unfold CB
  repeat' (first | (with_reducible first | refine W ?_ | refine Z0 ?_ | ((first | refine Wo fun K hK=>?_ | refine Wp ?_ | refine Wq ?_ | refine Wr ?_);(try simp only [go_sem,fN,seval,eT,iR,m1,m2,dT,dF,nL]);(repeat refine Ai ?_);(try (refine hK _ ?_;clear hK K));try refine iC ?_)) | refine Cg _ (hp) ?_)
  simp only [go_sem,fN,seval,AN,AS.result,AB,AD,AK]
 have f1:BN m=0:=by rw [fm,if_neg (by omega)]
 rw [f1,if_pos rfl]
 obtain ⟨n,rfl⟩:∃ n:Nat,m=n:=⟨m.toNat,by omega⟩
 rw [Int.toNat_natCast]
 refine Co.ac fun C hC=>?_
 unfold CB
 repeat' (first | (with_reducible first | refine W ?_ | refine Z0 ?_ | ((first | refine Wo fun K hK=>?_ | refine Wp ?_ | refine Wq ?_ | refine Wr ?_);(try simp only [go_sem,fN,seval,eT,iR,m1,m2,dT,dF,nL]);(repeat refine Ai ?_);(try (refine hK _ ?_;clear hK K));try refine iC ?_)) | refine Cg _ (hp) ?_)
 refine IWP.loopD [9] (fun m s=>∃ k,k≤l.length∧m=l.length - k∧Gk R n l=Gk R n (l.drop k)∧s.env 0=CH R∧s.env 1=AO n∧s.env 30=CH l∧s.env 31=AO l.length∧s.env 32=AO k∧s.S 9=none) l.length ⟨0,Nat.zero_le _,rfl,rfl,rfl,rfl,rfl,rfl,rfl,rfl⟩ ?_
 rintro m ⟨env,S⟩ ⟨k,hk,rfl,hj,e0,e1,e30,e31,e32,s9⟩
 simp only at e0 e1 e30 e31 e32 s9
 rw [hj]
 by_cases hkl:k < l.length
 case neg =>
  have hkl':¬ (k:Int) < l.length:=by omega
  rw [List.drop_of_length_le (by omega)]
  repeat' with_reducible first | refine W ?_ | refine Z0 ?_ | ((first | refine Wo fun K hK=>?_ | refine Wp ?_ | refine Wq ?_ | refine Wr ?_);(try simp only [go_sem,fN,seval,eT,iR,e0,e1,e30,e31,e32,s9,hkl',dT,dF,nL]);(repeat refine Ai ?_);(try (refine hK _ ?_;clear hK K));try refine iC ?_)
  simp only [go_sem,fN,seval,AN,AS.result,AB,AD,AK]
  rfl
 have hkl':(k:Int) < l.length:=by omega
 obtain ⟨q,hq⟩:=Ag hkl
 have o:=hok q (AQ hq)
 have hmet:=Zi hR q.1 q.2 o.c1 o.c2 (by have:=o.z1;omega) (by have:=o.z2;omega) n (by omega)
 rw [Bi hq,Gk]
 generalize D3 R n q.1 q.2=y at *
 by_cases y2:y.2=0
 ·by_cases y1:y.1=true
  ·rw [if_pos y2,if_pos y1]
   repeat' (first | (with_reducible first | refine W ?_ | refine Z0 ?_ | ((first | refine Wo fun K hK=>?_ | refine Wp ?_ | refine Wq ?_ | refine Wr ?_);(try simp only [go_sem,fN,seval,eT,iR,e0,e1,e30,e31,e32,s9,hkl',hq,Bf,y1,y2,dT,dF,nL]);(repeat refine Ai ?_);(try (refine hK _ ?_;clear hK K));try refine iC ?_)) | refine Cg _ (hmet) ?_)
   refine AI ⟨l.length - (k + 1),by omega,k + 1,by omega,rfl,rfl,?_⟩
   simp only [go_sem,fN,seval,AS.drop,Ao,AC.clears,AC.clear,AC.highs,AC.high,Bool.not_false,Bool.true_and,Bool.and_self,AV.purge,AV.purges,AC.purge,AL.purge,List.contains_cons,List.contains_nil,Nat.reduceBEq,Bool.or_self,Bool.or_false,Bool.false_or,Bool.or_true,eT,iR,e0,e1,e30,e31,e32,s9]
   congr 3
  ·rw [if_pos y2,if_neg y1]
   repeat' (first | (with_reducible first | refine W ?_ | refine Z0 ?_ | ((first | refine Wo fun K hK=>?_ | refine Wp ?_ | refine Wq ?_ | refine Wr ?_);(try simp only [go_sem,fN,seval,eT,iR,e0,e1,e30,e31,e32,s9,hkl',hq,Bf,y1,y2,dT,dF,nL]);(repeat refine Ai ?_);(try (refine hK _ ?_;clear hK K));try refine iC ?_)) | refine Cg _ (hmet) ?_)
   simp only [go_sem,fN,seval,AN,AS.result,AB,AD,AK]
 ·rw [if_neg y2]
  repeat' (first | (with_reducible first | refine W ?_ | refine Z0 ?_ | ((first | refine Wo fun K hK=>?_ | refine Wp ?_ | refine Wq ?_ | refine Wr ?_);(try simp only [go_sem,fN,seval,eT,iR,e0,e1,e30,e31,e32,s9,hkl',hq,Bf,y2,dT,dF,nL]);(repeat refine Ai ?_);(try (refine hK _ ?_;clear hK K));try refine iC ?_)) | refine Cg _ (hmet) ?_)
  simp only [go_sem,fN,seval,AN,AS.result,AB,AD,AK]

theorem Q5 {A B:Pr} {same:Bool}:∀ {ps:List (List Int)} {cs:List Pr},EH A B same ps=some cs→∀ p ∈ ps,∃ y,Cc A B same p=some y∧∀ q ∈ y,q ∈ cs
 | [],cs,h,p,hp=>by cases hp
 | p0 :: ps,cs,h,p,hp=>by
  rw [EH] at h
  split at h
  ·cases h
  ·rename_i y hy
   rw [Option.map_eq_some_iff] at h
   obtain ⟨z,h1,rfl⟩:=h
   rcases List.mem_cons.1 hp with rfl | hp
   ·exact ⟨y,hy,fun q hq=>List.mem_append_left _ hq⟩
   ·obtain ⟨w,h2,h3⟩:=Q5 h1 p hp
    exact ⟨w,h2,fun q hq=>List.mem_append_right _ (h3 q hq)⟩
theorem Mt {t:Tm} {n:ByteArray} (hn:AJ n=true) (h:occ n t=true):n ∈ t.varsOf:=by
 rw [← G8 hn,DY] at h
 exact h
theorem Qa {R:List Pr} (hR:AZ R) {r:Pr} (hr:r ∈ R) {c:UInt8} (h1:65≤c.toNat) (h2:c.toNat≤90) {θ b:List Bd} (hθ:OkV θ) (hb:OkV b) (hl:∀ (i:Nat) (n:ByteArray),r.1.varsOf[i]?=some n→lookup θ (C5 c (1 + i))=some ((vT n).on b)):(D8 c 1 r).1.on θ=r.1.on b∧(D8 c 1 r).2.on θ=r.2.on b:=by
 have key:∀ n ∈ r.1.varsOf,∃ m,lookup (nmB c 1 r.1.varsOf) n=some (vT m)∧lookup θ m=some ((vT n).on b):=fun n hn=>⟨C5 c (1 + BO r.1.varsOf n),by
  rw [Ms,if_pos (HA.2 hn)],hl _ n (Pt hn)⟩
 have hv:=PJ (c:=c) (k:=1) (HH r.1)
 exact ⟨PY hv hθ hb key fun n hn ho=>Mt hn ho,PY hv hθ hb key fun n hn ho=>hR.vars r hr n (Mt hn ho)⟩
theorem QS {u v:Tm} (hu:u.chk=0) (hv:v.chk=0):∃ β,OkV β∧(Gq u v).1.on β=u∧(Gq u v).2.on β=v:=by
 obtain ⟨L,hL⟩:∃ L,(v.cn (u.cn []).2).2=L:=⟨_,rfl⟩
 have v1:=LN hu (l:=[]) (by simp)
 have v2:=LN hv v1
 rw [hL] at v2
 have e1:(u.cn []).2=Ah [] u.knots:=I8 u hu []
 have e2:L=Ah (u.cn []).2 v.knots:=by rw [← hL];exact I8 v hv _
 have g2:Fc (v.cn (u.cn []).2).2 L:=⟨[],by rw [hL];simp⟩
 have g1:Fc (u.cn []).2 L:=by
  rw [← hL]
  exact UA v _
 have m1:∀ n,AJ n=true→occ n u=true→n ∈ L:=fun n hn ho=>by
  obtain ⟨s,hs⟩:=g1
  rw [hs]
  refine List.mem_append_left _ ?_
  rw [e1]
  exact Mt hn ho
 have m2:∀ n,AJ n=true→occ n v=true→n ∈ L:=fun n hn ho=>by
  rw [e2,Gz hn]
  obtain ⟨k,hk,he⟩:=List.any_eq_true.1 ho
  exact .inr ⟨k,hk,by simpa using he⟩
 refine ⟨Gb CK [] 0 L,FV Ou L 0,?_,?_⟩
 ·show (u.cn []).1.on _=u
  rw [Ry u hu [] L v2 g1]
  exact Xp v2 m1
 ·show (v.cn (u.cn []).2).1.on _=v
  rw [Ry v hv _ L v2 g2]
  exact Xp v2 m2
theorem Sf {R:List Pr} (hR:AZ R) {r1 r2:Pr} (h1:r1 ∈ R) (h2:r2 ∈ R) {same:Bool} (hsame:same=true→r1=r2) {cs:List Pr} (hc:Rl (D8 88 1 r1) (D8 89 1 r2) same=some cs) (hj:∀ q ∈ cs,Et (St R) q.1 q.2) (p:List Int) (x:Tm) (b1 b2:List Bd) (v1:OkV b1) (v2:OkV b2) (hp:r1.1.atP p=some x) (hx:x.args=[]→lookup b1 x.name=none) (he:x.on b1=r2.1.on b2):Et (St R) (r1.2.on b1) ((r1.1.on b1).putP p (r2.2.on b2)):=by
 obtain ⟨c1,z1⟩:=Tm.may_chk (hR.left r1 h1)
 obtain ⟨c2,z2⟩:=Tm.may_chk (hR.left r2 h2)
 have d1:=(Tm.may_chk (hR.right r1 h1)).1
 have d2:=(Tm.may_chk (hR.right r2 h2)).1
 have hpl:=J6 p r1.1 x hp
 obtain ⟨x',hx',hkn⟩:=DC r1.1 p hpl
 rw [hp] at hx'
 cases hx'
 have xc:=DS r1.1 x c1 hkn
 have xz:=DD r1.1 x hkn
 have xn:¬ AJ x.name=true:=fun hv=>by
  have h0:=(Tm.chk_args xc).1 hv
  rw [Ds h0,on_leaf,hx h0,Du v2 (t:=r2.1) (by rw [hR.head r2 h2];decide)] at he
  have e1:=congrArg Tm.name he
  simp only [Option.getD_none,Tm.name_mk] at e1
  rw [e1,hR.head r2 h2] at hv
  cases hv
 by_cases hsp:same=true∧p=[]
 ·obtain ⟨hs,rfl⟩:=hsp
  obtain rfl:=hsame hs
  rw [Tm.atP_nil] at hp
  cases hp
  rw [Tm.putP_nil,P9 hR h1 v1 v2 he]
  exact ⟨_,.refl _,.refl _⟩
 obtain ⟨θ,hθe⟩:∃ θ,Gb (C5 88) b1 1 r1.1.varsOf ++ Gb (C5 89) b2 1 r2.1.varsOf=θ:=⟨_,rfl⟩
 have hθ:OkV θ:=fun b hb=>by
  rw [← hθe] at hb
  rcases List.mem_append.1 hb with hb | hb
  ·exact FV (Nb (by decide) (by decide)) _ _ b hb
  ·exact FV (Nb (by decide) (by decide)) _ _ b hb
 obtain ⟨a1,a2⟩:=Qa hR h1 (c:=88) (by decide) (by decide) hθ v1 fun i n hi=>by
  rw [← hθe,C1,HQ (fun m n h=>(KI h).2) _ 1 i n hi]
 obtain ⟨a3,a4⟩:=Qa hR h2 (c:=89) (by decide) (by decide) hθ v2 fun i n hi=>by
  rw [← hθe,C1,MM (fun k h=>absurd (KI h).1 (by decide))]
  exact HQ (fun m n h=>(KI h).2) _ 1 i n hi
 have l1:=Ie r1.1 z1
 have l2:=Ie r2.1 z2
 obtain ⟨ac1,az1⟩:=Cn (c:=88) (by decide) (by decide) (k:=1) (by omega) (V:=r1.1.varsOf) (by omega) c1
 obtain ⟨ad1,_⟩:=Cn (c:=88) (by decide) (by decide) (k:=1) (by omega) (V:=r1.1.varsOf) (by omega) d1
 obtain ⟨ac2,az2⟩:=Cn (c:=89) (by decide) (by decide) (k:=1) (by omega) (V:=r2.1.varsOf) (by omega) c2
 obtain ⟨ad2,_⟩:=Cn (c:=89) (by decide) (by decide) (k:=1) (by omega) (V:=r2.1.varsOf) (by omega) d2
 have hat:=UC (s:=nmB 88 1 r1.1.varsOf) p r1.1 x hp
 obtain ⟨A,hA⟩:∃ A,D8 88 1 r1=A:=⟨_,rfl⟩
 obtain ⟨B,hB⟩:∃ B,D8 89 1 r2=B:=⟨_,rfl⟩
 have hA1:A.1=r1.1.on (nmB 88 1 r1.1.varsOf):=by rw [← hA];rfl
 have hA2:A.2=r1.2.on (nmB 88 1 r1.1.varsOf):=by rw [← hA];rfl
 have hB1:B.1=r2.1.on (nmB 89 1 r2.1.varsOf):=by rw [← hB];rfl
 have hB2:B.2=r2.2.on (nmB 89 1 r2.1.varsOf):=by rw [← hB];rfl
 rw [← hA1] at ac1 az1 hat
 rw [← hA2] at ad1
 rw [← hB1] at ac2 az2
 rw [← hB2] at ad2
 rw [hA] at a1 a2 hc
 rw [hB] at a3 a4 hc
 obtain ⟨X,hX⟩:∃ X,x.on (nmB 88 1 r1.1.varsOf)=X:=⟨_,rfl⟩
 rw [hX] at hat
 have hXn:X.name=x.name:=by
  rw [← hX,Du (PJ (HH _)) xn,Tm.name_mk]
 have hplA:=J6 p A.1 X hat
 obtain ⟨X',hX',hXk⟩:=DC A.1 p hplA
 rw [hat] at hX'
 cases hX'
 have Xc:=DS A.1 X ac1 hXk
 have Xz:=DD A.1 X hXk
 have hXθ:X.on θ=B.1.on θ:=by
  have e1:=UC (s:=θ) p A.1 X hat
  rw [a1] at e1
  have e2:=UC (s:=b1) p r1.1 x hp
  rw [e1] at e2
  rw [Option.some.inj e2,he,a3]
 have hmay:=GB (GD Xc (by omega)) (GD ac2 (by omega))
 obtain ⟨_,hg⟩:=Dj hmay
 obtain ⟨n,r,hr⟩:=J7 _ _ _ _ hg rfl rfl
 obtain ⟨y,hy,hyc⟩:=Q5 hc p hplA
 unfold Cc at hy
 rw [hat] at hy
 simp only at hy
 rw [if_neg (by rintro (h | h);exact xn (by rw [← hXn];exact h);exact hsp h)] at hy
 rw [O1 hr] at hy
 by_cases h8:r.2=8
 ·rw [if_pos h8] at hy
  cases hy
 rw [if_neg h8] at hy
 obtain ⟨r0,rs⟩:=U6 hθ hr hg (fun b hb=>by cases hb) (fun q hq=>by rw [List.mem_singleton.1 hq];exact hXθ) h8
 rw [if_neg (by rw [r0];simp)] at hy
 have hgr:=MX hr hg r0
 split at hy
 case isFalse=>cases hy
 rename_i hb
 cases hy
 have hq:=hj _ (hyc _ (List.mem_singleton.2 rfl))
 rw [LK hb.1,LK hb.2] at hq
 have uc:(A.2.on r.1).chk=0:=IJ hgr.chk ad1
 have pc:=JC p A.1 B.2 ac1 ad2
 have vc:((A.1.putP p B.2).on r.1).chk=0:=IJ hgr.chk pc
 obtain ⟨β,hβ,q1,q2⟩:=QS uc vc
 have hq2:=Ng hβ hq
 rw [q1,q2] at hq2
 have hq3:=Ng hθ hq2
 rw [HL hgr.var rs ad1,HL hgr.var rs pc,← XG p A.1 X B.2 hat,a1,a2,a4] at hq3
 exact hq3
theorem QX {cr:Nat→Nat→Option (List Pr)}:∀ {l:List (Nat × Nat)} {acc:List Pr},(En cr l acc).2=0→(∀ q ∈ acc,q ∈ (En cr l acc).1)∧∀ ij ∈ l,∃ x,cr ij.1 ij.2=some x∧∀ q ∈ x,q ∈ (En cr l acc).1
 | [],acc,_=>⟨fun q hq=>hq,fun ij h=>by cases h⟩
 | ij :: l,acc,h=>by
  rw [En] at h ⊢
  cases hx:cr ij.1 ij.2 with
  | none=>rw [hx] at h;cases h
  | some x =>
   rw [hx] at h
   simp only at h ⊢
   by_cases hz:400 < (acc ++ x).length
   ·rw [if_pos hz] at h
    cases h
   ·rw [if_neg hz] at h ⊢
    obtain ⟨k1,k2⟩:=QX h
    refine ⟨fun q hq=>k1 q (List.mem_append_left _ hq),fun ij' h'=>?_⟩
    rcases List.mem_cons.1 h' with rfl | h'
    ·exact ⟨x,hx,fun q hq=>k1 q (List.mem_append_right _ hq)⟩
    ·exact k2 ij' h'
theorem WX {n i j:Nat} (hi:i < n) (hj:j < n):(i,j) ∈ FS n 0 0:=by
 unfold FS
 rw [List.mem_append,List.mem_map,List.mem_flatMap]
 by_cases h:i=0
 ·exact .inl ⟨j,by rw [List.mem_range'_1];omega,by rw [h]⟩
 ·exact .inr ⟨i,by rw [List.mem_range'_1];omega,List.mem_map.2 ⟨j,by rw [List.mem_range'_1];omega,rfl⟩⟩
theorem VY {R:List Pr} (hR:AZ R) {m:Nat} {a b:Tm} (ha:a.chk=0) (hb:b.chk=0) (h:D3 R m a b=(true,0)):Et (St R) a b:=by
 unfold D3 at h
 simp only at h
 split at h
 ·cases h
 rename_i h1
 split at h
 ·cases h
 rename_i h2
 have h1:(BA (Tm.inn R) m 0 a).2.2=0:=by simpa using h1
 have h2:(BA (Tm.inn R) m 0 b).2.2=0:=by simpa using h2
 have e:=(Tm.beq_iff _ _).1 (congrArg Prod.fst h)
 have s1:=Df hR (inner:=true) m 0 a ha h1
 have s2:=Df hR (inner:=true) m 0 b hb h2
 exact ⟨_,s1,by rw [show (BA (LW true R) m 0 a).1=(BA (LW true R) m 0 b).1 from e];exact s2⟩
theorem Nh {R:List Pr} {m:Nat}:∀ {l:List Pr},Gk R m l=(true,0)→∀ q ∈ l,D3 R m q.1 q.2=(true,0)
 | [],_,q,hq=>by cases hq
 | p :: l,h,q,hq=>by
  rw [Gk] at h
  split at h
  ·rename_i h0
   split at h
   ·rename_i h1
    rcases List.mem_cons.1 hq with rfl | hq
    ·exact Prod.ext h1 h0
    ·exact Nh h q hq
   ·cases h
  ·rename_i h0
   cases h
theorem AAQ {R:List Pr} (hR:AZ R) {m:Int} (hj:Ei R m=(true,0)) {row:List ByteArray} (hd:∀ r ∈ R,Pa row r.1 r.2) {t y z:Tm} (hc:t.chk=0) (hy:Cv (St R) t y) (hz:Cv (St R) t z):Et (St R) y z:=by
 unfold Ei at hj
 split at hj
 case isFalse h=>exact absurd (congrArg Prod.snd hj) h
 rename_i h0
 split at hj
 case isFalse h=>exact absurd (congrArg Prod.snd hj) h
 have hok:=(KB hR).1
 have hall:=Nh hj
 refine AAA (P:=fun x=>x.chk=0) (fun x y hx hs=>(Iy hR hd hs hx).2) (fun x y z hx h1 h2=>?_) t (AAJ hR hd hc) hc y z hy hz
 refine IF (fun r1 hr1 r2 hr2 p x b1 b2 v1 v2 hp hx he=>?_) _ x y z (Nat.lt_succ_self _) h1 h2
 obtain ⟨i,hi,e1⟩:=List.mem_iff_getElem.1 hr1
 obtain ⟨j,hj',e2⟩:=List.mem_iff_getElem.1 hr2
 have g1:R[i]?=some r1:=by rw [List.getElem?_eq_getElem hi,e1]
 have g2:R[j]?=some r2:=by rw [List.getElem?_eq_getElem hj',e2]
 have hp0:R.length ≠ 0:=by omega
 unfold CZ at h0 hall hok
 rw [if_neg hp0] at h0 hall hok
 obtain ⟨cs,hcs,hin⟩:=(QX h0).2 (i,j) (WX hi hj')
 unfold crR at hcs
 simp only [g1,g2] at hcs
 exact Sf hR hr1 hr2 (same:=decide (i=j)) (fun hs=>by
  have:i=j:=by simpa using hs
  subst this
  rw [g1] at g2
  exact Option.some.inj g2) hcs (fun q hq=>VY hR (hok q (hin q hq)).c1 (hok q (hin q hq)).c2 (hall q (hin q hq))) p x b1 b2 v1 v2 hp hx he
theorem Zp {R:List Pr} (hR:AZ R) {t:Tm} (hc:t.chk=0) (h:t.inn R=none):∀ u,¬ St R t u:=by
 rw [Tm.inn_none,List.any_eq_false] at h
 have key:∀ t u:Tm,St R t u→t.chk=0→∃ k ∈ t.knots,Vb R k=true:=fun t u hs=>by
  induction hs with
  | @root r b t u hr hb e1 e2 =>
   subst e1
   intro hc
   exact ⟨_,by rw [Tm.knots_eq];exact List.mem_cons_self,List.any_eq_true.2 ⟨r,hr,(Tk hR hr hb hc).1⟩⟩
  | @arg n xs ys a b hab ih =>
   intro hc
   obtain ⟨k,hk,hf⟩:=ih ((Tm.chk_args hc).2 a (by rw [Tm.args_mk];simp))
   exact ⟨k,by rw [Tm.knots];exact List.mem_cons_of_mem _ (KJ (by simp) hk),hf⟩
 intro u hs
 obtain ⟨k,hk,hf⟩:=key t u hs hc
 exact absurd hf (by simpa using h k hk)
theorem W6 {inner:Bool} {R:List Pr} {t:Tm} (h:LW inner R t=none):t.inn R=none:=by
 cases inner with
 | true=>exact h
 | false=>exact (Tm.inn_none R t).2 ((Tm.out_none R t).1 h)
theorem To {R:List Pr} (hR:AZ R) {m:Int} (hj:Ei R m=(true,0)) {row:List ByteArray} (hd:∀ r ∈ R,Pa row r.1 r.2) {t y z:Tm} (hc:t.chk=0) (hy:Cv (St R) t y) (hz:Cv (St R) t z) (yc:y.chk=0) (zc:z.chk=0) (ny:y.inn R=none) (nz:z.inn R=none):y=z:=by
 obtain ⟨w,h1,h2⟩:=AAQ hR hj hd hc hy hz
 rw [← Og (Zp hR yc ny) h1,← Og (Zp hR zc nz) h2]
theorem Il {R:List Pr} (hR:AZ R) {row:List ByteArray} (hd:∀ r ∈ R,Pa row r.1 r.2) {t y:Tm} (hy:Cv (St R) t y):t.chk=0→y.chk=0:=by
 induction hy with
 | refl=>exact id
 | step h _ ih=>exact fun hc=>ih (Iy hR hd h hc).2

theorem J2 {R:List Pr} (hR:AZ R):∀ (k:Nat) (n:Int) (t:Tm),t.chk=0→(BA (Tm.inn R) k n t).2.2=0 ∨ (BA (Tm.inn R) k n t).2.2=8 ∨ (BA (Tm.inn R) k n t).2.2=9
 | 0,n,t,hc=>by
  rw [BA]
  cases h:Tm.inn R t with
  | none=>exact .inl rfl
  | some y=>exact .inr (.inr rfl)
 | k + 1,n,t,hc=>by
  rw [BA]
  cases h:Tm.inn R t with
  | none=>exact .inl rfl
  | some y =>
   obtain ⟨x,e⟩:=y
   obtain ⟨h1,h2,h3⟩:=JG hR hc h
   simp only
   by_cases he:e=0
   ·rw [if_neg (by simpa using he)]
    split
    ·exact .inr (.inl rfl)
    ·exact J2 hR k _ x (h2 he)
   ·rw [if_pos he]
    rcases h1 with h1 | h1
    ·exact .inl h1
    ·exact .inr (.inl h1)
theorem N2 {R:List Pr} (hR:AZ R) (m:Nat) {a b:Tm} (ha:a.chk=0) (hb:b.chk=0):(D3 R m a b).2=0 ∨ (D3 R m a b).2=8 ∨ (D3 R m a b).2=9:=by
 have e1:=J2 hR m 0 a ha
 have e2:=J2 hR m 0 b hb
 unfold D3
 simp only
 split
 ·exact e1
 ·split
  ·exact e2
  ·exact .inl rfl
theorem Oh {R:List Pr} (hR:AZ R) (m:Nat):∀ l:List Pr,(∀ q ∈ l,Fy q)→(Gk R m l).2=0 ∨ (Gk R m l).2=8 ∨ (Gk R m l).2=9
 | [],_=>.inl rfl
 | p :: l,h=>by
  have hp:=h p (by simp)
  have he:=N2 hR m hp.c1 hp.c2
  rw [Gk]
  split
  ·split
   ·exact Oh hR m l fun q hq=>h q (by simp [hq])
   ·exact .inl rfl
  ·exact he

theorem Ac.memoWeak {C:Ctx} {s:AS} {id:Nat} {f f':List SV→List SV→SV→Prop} (hS:s.S id=some (.memo f)) (hf:∀ cs ds x,f cs ds x→f' cs ds x):Ac C s (s.set id (.memo f')):=fun a w ⟨σ,ι,R⟩=>by
 have hb:=R.blk _ _ hS
 cases hb with
 | @memo _ g ents h1 h2 h3 h4 =>
  obtain ⟨hu,R'⟩:=R.turn (w':=w) hS (.memo f') (ι id) (σ':=σ) (fun _ _ h=>h) (fun _ _ _=>rfl) R.fit (Nat.le_refl _) (fun _=>⟨rfl,rfl⟩) ⟨rfl,rfl,rfl⟩ (Nat.le_refl _) (fun _ _ _=>rfl) (fun g h=>.inl h) (fun hu=>.memo h1 h2 (h3.weak hf) h4)
  exact ⟨σ,_,R'⟩
theorem Ac.freeze {C:Ctx} {s:AS} (id:Nat) (ts:List Nat) {ty:TypeId} {xs:List SV} (hS:s.S id=some (.box ty (xs.map .st))) (hl:0 < xs.length) (ht:∀ t ∈ ts,s.env t=.one (.ptr id 1 0 0)) :
  Ac C s ⟨fun t=>if t ∈ ts then .one (.eptr xs) else s.env t,AG s.S id (some (.dead 1 0))⟩:=fun a w ⟨σ,ι,R⟩=>by
 have hb:=R.blk _ _ hS
 cases hb with
 | @box _ _ g vs h1 h2 h3 h4 h5 =>
  have hkeep:=Fi (σ:=σ) (w':=w) (g:=g) (k:=xs.length) (fun p x e hx=>by rw [h5 _ e] at hx;cases hx)
  obtain ⟨hu,R'⟩:=R.turn (w':=w) hS (.dead 1 0) (ι id) (σ':=Eg σ w g xs.length) hkeep (fun p hp _=>Fb (fun e=>hp (by rw [e];exact h1))) (Ee R.fit) (Nat.le_refl _) (fun _=>⟨rfl,rfl⟩) ⟨rfl,rfl,rfl⟩ (Nat.le_refl _) (fun _ _ _=>rfl) (fun g h=>.inl h)
   (fun hu=>.dead fun g' hg'=>by rw [h1] at hg';cases hg';exact ⟨_,h3,rfl⟩)
  refine ⟨_,_,R'.size,fun i hi=>?_,R'.nod,R'.fit,R'.blk,R'.inj,R'.base,R'.ext,R'.old,R'.os,R'.grown,R'.same,R'.upd⟩
  show AT _ _ _ _ (if i ∈ ts then .one (.eptr xs) else s.env i)
  split
  ·rename_i hm
   have re:=R.env i hi
   rw [ht i hm] at re
   obtain ⟨b,q1,q2,q3⟩:=FX (AY re)
   rw [hS] at q1
   cases q1
   obtain ⟨g',e1,e2⟩:=q3 rfl
   rw [h1] at e1
   cases e1
   rw [e2]
   have cell:∀ j x,xs[j]?=some x→∃ v,vs[j]?=some v∧Au σ v x:=fun j x hx=>by
    obtain ⟨v,v1,v2⟩:=h4.get (j:=j) (b:=.st x) (by rw [List.getElem?_map,hx];rfl)
    exact ⟨v,by simpa using v1,B8 v2⟩
   refine .one (.eptr (fun j=>(vs[j]?).getD undef) (fun j x hx=>?_) (fun j x hx=>?_) (fun _ _=>?_))
   ·obtain ⟨v,v1,v2⟩:=cell j x hx
    have hj:=(List.getElem?_eq_some_iff.1 hx).1
    rw [show (0 * (AL.box ty (xs.map AC.st)).wid + 0 + j)=j by omega,LT hj,cell_of_row w g _ _ _ _ h3,v1]
    rfl
   ·obtain ⟨v,v1,v2⟩:=cell j x hx
    rw [v1]
    exact v2.mono hkeep
   ·rw [Hb hl,FZ h3]
  ·exact R'.env i hi

set_option maxRecDepth 100000
def CS:IR :=
 (.seq (.ops [.i 6 (.mov (.c (.one (.st (.bool false)))))]) (.seq (.seq (.ops [.m 11 1,.i 12 (.nilCheck (.t 11)),.f 13 1 12,.l 14 13,.i 15 (.len false (.t 14)),.i 16 (.mov (.n 0))]) (.block 0 (.loop (.seq (.ops [.i 17 (.bin .lss (.t 16) (.t 15))]) (.seq (.cond (.t 17) .skip (.exit 0)) (.seq (.block 1 (.seq (.ops [.m 18 16,.m 7 18]) (.seq (.ops [.m 19 1,.i 20 (.nilCheck (.t 19)),.f 21 1 20,.l 22 21,.m 23 7,.i 24 (.indexAddr 2 (.t 22) (.t 23)),.L 25 2 24,.m 26 2,.i 27 (.nilCheck (.t 26)),.L 28 2 27,.i 29 (.call 69 [.t 25,.t 28]),.m 30 29,.mk (some 31) (some (30,false)) (.mov (.t 0)) .no,.mk (some 32) (some (30,false)) (.mov (.t 1)) .no,.mk (some 33) (some (30,false)) (.nilCheck (.t 32)) .no,.mk (some 34) (some (30,false)) (.fieldAddr 1 (.t 33)) .no,.mk (some 35) (some (30,false)) (.load false 1 (.t 34)) .no,.mk (some 36) (some (30,false)) (.mov (.t 7)) .no,.mk (some 37) (some (30,false)) (.indexAddr 2 (.t 35) (.t 36)) .no,.mk (some 38) (some (30,false)) (.mov (.t 2)) .no,.mk (some 39) (some (30,false)) (.callR 100 [.t 31,.t 37,.t 38]) .no,.i 40 (.pick (.t 30) (.c (.one (.st (.bool true)))) (.t 39))]) (.cond (.t 40) (.seq (.ops [.i 6 (.mov (.c (.one (.st (.bool true)))))]) .ret) .skip)))) (.ops [.i 41 (.bin .add (.t 16) (.n 1)),.m 16 41]))))))) (.seq (.seq (.ops [.m 42 2,.i 43 (.nilCheck (.t 42)),.f 44 0 43,.l 45 44,.i 46 (.call 67 [.t 45])]) (.cond (.t 46) (.seq (.ops [.i 6 (.mov (.c (.one (.st (.bool false)))))]) .ret) .skip)) (.seq (.ops [.m 47 0,.i 48 (.nilCheck (.t 47)),.f 49 0 48,.l 50 49,.m 51 1,.i 52 (.nilCheck (.t 51)),.L 53 2 52,.m 54 2,.i 55 (.nilCheck (.t 54)),.L 56 2 55,.i 57 (.call 133 [.t 50,.t 53,.t 56]),.m 8 57]) (.seq (.seq (.ops [.m 58 8,.i 59 (.bin .lss (.t 58) (.n 0))]) (.cond (.t 59) (.seq (.ops [.i 6 (.mov (.c (.one (.st (.bool false)))))]) .ret) .skip)) (.seq (.seq (.ops [.m 60 2,.i 61 (.nilCheck (.t 60)),.f 62 1 61,.l 63 62,.i 64 (.len false (.t 63)),.i 65 (.mov (.n 0))]) (.block 2 (.loop (.seq (.ops [.i 66 (.bin .lss (.t 65) (.t 64))]) (.seq (.cond (.t 66) .skip (.exit 2)) (.seq (.block 3 (.seq (.ops [.m 67 65,.m 9 67]) (.seq (.ops [.m 68 0,.m 69 1,.m 70 2,.i 71 (.nilCheck (.t 70)),.f 72 1 71,.l 73 72,.m 74 9,.i 75 (.indexAddr 2 (.t 73) (.t 74)),.i 76 (.callR 100 [.t 68,.t 69,.t 75]),.i 77 (.un .not (.t 76))]) (.cond (.t 77) (.seq (.ops [.i 6 (.mov (.c (.one (.st (.bool false)))))]) .ret) .skip)))) (.ops [.i 78 (.bin .add (.t 65) (.n 1)),.m 65 78]))))))) (.seq (.seq (.ops [.m 79 8,.i 80 (.bin .gtr (.t 79) (.n 0))]) (.cond (.t 80) (.seq (.ops [.i 6 (.mov (.c (.one (.st (.bool true)))))]) .ret) .skip)) (.seq (.seq (.ops [.m 81 1,.i 82 (.nilCheck (.t 81)),.f 83 1 82,.l 84 83,.i 85 (.len false (.t 84)),.i 86 (.mov (.n 0))]) (.block 4 (.loop (.seq (.ops [.i 87 (.bin .lss (.t 86) (.t 85))]) (.seq (.cond (.t 87) .skip (.exit 4)) (.seq (.block 5 (.seq (.ops [.m 88 86,.m 10 88]) (.seq (.ops [.m 89 1,.i 90 (.nilCheck (.t 89)),.f 91 1 90,.l 92 91,.m 93 10,.i 94 (.indexAddr 2 (.t 92) (.t 93)),.L 95 2 94,.m 96 2,.i 97 (.nilCheck (.t 96)),.f 98 1 97,.l 99 98,.m 100 10,.i 101 (.indexAddr 2 (.t 99) (.t 100)),.L 102 2 101,.i 103 (.call 69 [.t 95,.t 102]),.i 104 (.un .not (.t 103))]) (.cond (.t 104) (.seq (.ops [.m 105 0,.m 106 1,.i 107 (.nilCheck (.t 106)),.f 108 1 107,.l 109 108,.m 110 10,.i 111 (.indexAddr 2 (.t 109) (.t 110)),.m 112 2,.i 113 (.nilCheck (.t 112)),.f 114 1 113,.l 115 114,.m 116 10,.i 117 (.indexAddr 2 (.t 115) (.t 116)),.i 118 (.callR 100 [.t 105,.t 111,.t 117]),.m 6 118]) .ret) .skip)))) (.ops [.i 119 (.bin .add (.t 86) (.n 1)),.m 86 119]))))))) (.seq (.ops [.i 6 (.mov (.c (.one (.st (.bool false)))))]) .ret)))))))))
theorem D_:OkF Tryz.prog 122 120 [40000039,40000076,40000118] CS [.t 6]:=.of Tryz.func122 rfl rfl (by kernel_rfl) rfl
def CG:IR :=
 (.seq (.ops [.i 6 (.mov (.c (.one (.st (.bool false)))))]) (.seq (.seq (.ops [.m 11 1,.i 12 (.nilCheck (.t 11)),.f 13 0 12,.l 14 13,.i 15 (.call 67 [.t 14])]) (.cond (.t 15) (.seq (.ops [.i 6 (.mov (.c (.one (.st (.bool false)))))]) .ret) .skip)) (.seq (.ops [.m 16 1,.m 17 2,.i 18 (.buildArr [.t 16,.t 17]),.i 7 (.alloc 144 [.st (.lit (.pointer none)),.st (.lit (.pointer none))]),.s 2 7 18]) (.seq (.seq (.ops [.m 20 0,.i 21 (.nilCheck (.t 20)),.f 22 1 21,.l 23 22,.L 24 2 7,.i 25 (.memoGet true (.one (.st (.bool false))) (.t 23) (.t 24)),.m 19 25,.i 26 (.extract 0 (.t 19)),.i 27 (.extract 1 (.t 19)),.m 8 26,.m 9 27]) (.seq (.ops [.m 28 9]) (.cond (.t 28) (.seq (.ops [.m 29 8,.m 6 29]) .ret) .skip))) (.seq (.ops [.m 30 0,.m 31 1,.m 32 2,.i 33 (.callR 122 [.t 30,.t 31,.t 32]),.m 10 33]) (.seq (.ops [.m 34 0,.i 35 (.nilCheck (.t 34)),.f 36 1 35,.l 37 36,.L 38 2 7,.m 39 10,.mk none none (.memoSet (.t 37) (.t 38) (.t 39)) .no]) (.seq (.ops [.m 40 10,.m 6 40]) .ret)))))))
theorem Dp:OkF Tryz.prog 100 41 [40000033] CG [.t 6]:=.of Tryz.func100 rfl rfl (by kernel_rfl) rfl
def Gj:IR :=
 (.seq (.ops [.i 4 (.box 37 (.t 1)),.i 5 (.box 37 (.t 2)),.i 6 (.mov (.c (.one (.st (.bool false)))))]) (.seq (.ops [.m 8 0,.i 9 .makeMemo,.i 10 (.build [.full [],.st (.lit (.map none))] [(0,1,.t 8),(1,1,.t 9)]),.i 11 (.box 130 (.t 10)),.m 7 11]) (.seq (.ops [.m 12 7,.i 13 (.callR 100 [.t 12,.t 4,.t 5]),.m 6 13]) .ret)))
theorem Mu:OkF Tryz.prog 70 14 [40000013] Gj [.t 6]:=.of Tryz.func70 rfl rfl (by kernel_rfl) rfl
def Hy:IR :=
 (.seq (.ops [.i 4 (.box 37 (.t 1)),.i 5 (.box 37 (.t 2)),.i 6 (.mov (.c (.one (.st (.bool false))))),.i 7 (.mov (.n 0))]) (.seq (.seq (.ops [.m 9 0,.L 10 2 4,.L 11 2 5,.i 12 (.call 75 [.t 9,.t 10,.t 11]),.m 8 12]) (.seq (.ops [.m 13 8,.i 14 (.bin .neq (.t 13) (.n 0))]) (.cond (.t 14) (.seq (.ops [.m 15 8,.i 6 (.mov (.c (.one (.st (.bool false))))),.m 7 15]) .ret) .skip))) (.seq (.ops [.m 16 0,.L 17 2 4,.L 18 2 5,.i 19 (.call 70 [.t 16,.t 17,.t 18]),.m 6 19,.i 7 (.mov (.n 0))]) .ret)))
theorem NE:OkF Tryz.prog 37 20 [] Hy [.t 6,.t 7]:=.of Tryz.func37 rfl rfl (by kernel_rfl) rfl

theorem Pc {σ:Sto} {v:Value} {s s':ByteArray} (h:Au σ v (.str s)) (h':Au σ v (.str s')):s=s':=by
 cases h with
 | str _=>cases h' with
  | str _=>rfl
theorem U_ {σ:Sto} {v:Value} {xs ys:List (List SV)} (h:Au σ v (.list xs)) (h':Au σ v (.list ys)) (w:Nat) (hx:∀ x ∈ xs,x.length=w) (hy:∀ y ∈ ys,y.length=w) :
  xs.length=ys.length∧∀ (k:Nat) (x y:List SV),xs[k]?=some x→ys[k]?=some y→∃ c:Nat→Value,(∀ j u,x[j]?=some u→Au σ (c j) u)∧∀ j u,y[j]?=some u→Au σ (c j) u:=by
 cases h with
 | @list p len cap b o w1 _ c h1 h2 h3 h4 h5 h6 hh h7 h8 =>
 cases h' with
 | @list _ _ _ b' o' w2 _ c' k1 k2 k3 k4 k5 k6 kh k7 k8 =>
 refine ⟨by omega,fun k x y ex ey=>⟨c k,fun j u hu=>h8 k x j u ex hu,fun j u hu=>?_⟩⟩
 have m1:=List.mem_of_getElem? ex
 have m2:=List.mem_of_getElem? ey
 have hl:=(List.getElem?_eq_some_iff.1 ex).1
 have e1:=h5 (by omega)
 have e2:=k5 (by omega)
 rw [e1] at e2
 cases e2
 have w1e:w1=w:=(h6 x m1).symm.trans (hx x m1)
 have w2e:w2=w:=(k6 y m2).symm.trans (hy y m2)
 have hj:j < x.length:=by
  rw [hx x m1,← hy y m2]
  exact (List.getElem?_eq_some_iff.1 hu).1
 have q1:=h7 k x j _ ex (List.getElem?_eq_getElem hj)
 have q2:=k7 k y j u ey hu
 rw [w1e] at q1
 rw [w2e,q1] at q2
 rw [Option.some.inj q2]
 exact k8 k y j u ey hu
theorem Ri:∀ (N:Nat) (a b:Tm) (σ:Sto) (c:Nat→Value),SizeOf.sizeOf a < N→(∀ j x,(Ap a)[j]?=some x→Au σ (c j) x)→(∀ j x,(Ap b)[j]?=some x→Au σ (c j) x)→a=b
 | 0,_,_,_,_,h,_,_=>absurd h (Nat.not_lt_zero _)
 | N + 1,a,b,σ,c,hN,ha,hb=>by
  rw [Af] at ha hb
  have hn:=Pc (ha 0 _ rfl) (hb 0 _ rfl)
  have hlen:∀ {l:List Tm},∀ x ∈ l.map Ap,x.length=2:=fun x hx=>by
   obtain ⟨t,_,rfl⟩:=List.mem_map.1 hx
   exact Qz t
  obtain ⟨hl,hr⟩:=U_ (ha 1 _ rfl) (hb 1 _ rfl) 2 hlen hlen
  rw [List.length_map,List.length_map] at hl
  have hargs:a.args=b.args:=by
   apply List.ext_getElem?
   intro k
   by_cases hk:k < a.args.length
   ·have e1:a.args[k]?=some a.args[k]:=List.getElem?_eq_getElem hk
    have e2:b.args[k]?=some (b.args[k]'(by omega)):=List.getElem?_eq_getElem (by omega)
    obtain ⟨c',q1,q2⟩:=hr k (Ap a.args[k]) (Ap (b.args[k]'(by omega))) (by rw [List.getElem?_map,e1];rfl) (by rw [List.getElem?_map,e2];rfl)
    have hlt:=Tm.lt_of_arg (List.mem_of_getElem? e1)
    rw [e1,e2,Ri N _ _ σ c' (by omega) q1 q2]
   ·rw [List.getElem?_eq_none (by omega),List.getElem?_eq_none (by omega)]
  cases a
  cases b
  simp only [Tm.name,Tm.args] at hn hargs
  rw [hn,hargs]
theorem UL {a b:Tm} (h:VZ (Ap a) (Ap b)):a=b:=by
 obtain ⟨σ,c,h1,h2⟩:=h
 exact Ri _ a b σ c (Nat.lt_succ_self _) h1 h2

def B9:IR :=
 (.seq (.ops [.i 4 (.mov (.n 0))]) (.seq (.seq (.ops [.m 6 0,.i 7 (.len false (.t 6)),.i 8 (.mov (.n 0))]) (.block 0 (.loop (.seq (.ops [.i 9 (.bin .lss (.t 8) (.t 7))]) (.seq (.cond (.t 9) .skip (.exit 0)) (.seq (.block 1 (.seq (.ops [.m 10 8,.m 5 10]) (.seq (.ops [.m 11 1,.m 12 0,.m 13 5,.i 14 (.indexAddr 1 (.t 12) (.t 13)),.l 15 14,.i 16 (.bin .eql (.t 11) (.t 15))]) (.cond (.t 16) (.seq (.ops [.m 17 5,.m 4 17]) .ret) .skip)))) (.ops [.i 18 (.bin .add (.t 8) (.n 1)),.m 8 18]))))))) (.seq (.ops [.i 4 (.mov (.c (.one (.st (.int .i64 (-1))))))]) .ret)))
theorem Dl:OkF Tryz.prog 98 19 [] B9 [.t 4]:=.of Tryz.func98 rfl rfl (by kernel_rfl) rfl
def FF:IR :=
 (.seq (.ops [.i 2 (.mov (.c (.one (.st (.bool false)))))]) (.seq (.ops [.m 3 0,.m 4 0,.i 5 (.bin .neq (.t 3) (.t 4)),.m 2 5]) .ret))
theorem Jl:OkF Tryz.prog 154 6 [] FF [.t 2]:=.of Tryz.func154 rfl rfl (by kernel_rfl) rfl
def Ea:IR :=
 (.seq (.ops [.i 4 (.mov (.n 0))]) (.seq (.ops [.m 7 0,.i 8 (.call 154 [.t 7]),.m 5 8]) (.seq (.ops [.m 9 1,.i 10 (.call 154 [.t 9]),.m 6 10]) (.seq (.seq (.ops [.m 11 5]) (.cond (.t 11) (.seq (.seq (.ops [.m 12 6]) (.cond (.t 12) (.seq (.ops [.i 4 (.mov (.n 0))]) .ret) .skip)) (.seq (.ops [.i 4 (.mov (.c (.one (.st (.int .i64 (-1))))))]) .ret)) .skip)) (.seq (.seq (.ops [.m 13 6]) (.cond (.t 13) (.seq (.ops [.i 4 (.mov (.n 1))]) .ret) .skip)) (.seq (.seq (.ops [.m 14 0,.m 15 1,.i 16 (.bin .lss (.t 14) (.t 15))]) (.cond (.t 16) (.seq (.ops [.i 4 (.mov (.c (.one (.st (.int .i64 (-1))))))]) .ret) .skip)) (.seq (.seq (.ops [.m 17 0,.m 18 1,.i 19 (.bin .gtr (.t 17) (.t 18))]) (.cond (.t 19) (.seq (.ops [.i 4 (.mov (.n 1))]) .ret) .skip)) (.seq (.ops [.i 4 (.mov (.n 0))]) .ret))))))))
theorem IS:OkF Tryz.prog 140 20 [] Ea [.t 4]:=.of Tryz.func140 rfl rfl (by kernel_rfl) rfl
def Hz:IR :=
 (.seq (.ops [.i 2 (.mov (.n 0))]) (.seq (.ops [.i 3 (.mov (.n 0))]) (.seq (.seq (.ops [.m 6 0,.i 7 (.len false (.t 6)),.i 8 (.mov (.n 0))]) (.block 0 (.loop (.seq (.ops [.i 9 (.bin .lss (.t 8) (.t 7))]) (.seq (.cond (.t 9) .skip (.exit 0)) (.seq (.block 1 (.seq (.ops [.i 10 (.indexAddr 1 (.t 6) (.t 8)),.l 11 10,.m 5 11]) (.seq (.ops [.m 12 5,.m 13 3,.i 14 (.bin .neq (.t 12) (.t 13))]) (.cond (.t 14) (.seq (.ops [.m 15 5,.m 2 15]) .ret) .skip)))) (.ops [.i 16 (.bin .add (.t 8) (.n 1)),.m 8 16]))))))) (.seq (.ops [.m 17 3,.m 2 17]) .ret))))
theorem Mx:OkF Tryz.prog 139 18 [] Hz [.t 2]:=.of Tryz.func139 rfl rfl (by kernel_rfl) rfl
def Ff:IR :=
 (.seq (.ops [.i 4 (.box 37 (.t 1)),.i 5 (.box 37 (.t 2)),.i 6 (.mov (.n 0))]) (.seq (.ops [.m 7 0,.f 8 0 4,.l 9 8,.i 10 (.call 98 [.t 7,.t 9]),.m 11 0,.f 12 0 5,.l 13 12,.i 14 (.call 98 [.t 11,.t 13]),.i 15 (.call 140 [.t 10,.t 14]),.f 16 0 4,.l 17 16,.f 18 0 5,.l 19 18,.i 20 (.call 132 [.t 17,.t 19]),.f 21 1 4,.l 22 21,.i 23 (.len false (.t 22)),.f 24 1 5,.l 25 24,.i 26 (.len false (.t 25)),.i 27 (.call 140 [.t 23,.t 26]),.i 28 (.buildFlat [.t 15,.t 20,.t 27]),.i 29 (.call 139 [.t 28]),.m 6 29]) .ret))
theorem KD:OkF Tryz.prog 133 30 [] Ff [.t 6]:=.of Tryz.func133 rfl rfl (by kernel_rfl) rfl
def HO:IR :=
 (.seq (.ops [.i 2 (.mov (.n 0))]) (.seq (.seq (.ops [.m 5 0,.i 6 (.len false (.t 5)),.i 7 (.bin .gtr (.t 6) (.n 40))]) (.cond (.t 7) (.seq (.ops [.i 2 (.mov (.n 3))]) .ret) .skip)) (.seq (.seq (.ops [.m 8 0,.i 9 (.len false (.t 8)),.i 10 (.mov (.n 0))]) (.block 0 (.loop (.seq (.ops [.i 11 (.bin .lss (.t 10) (.t 9))]) (.seq (.cond (.t 11) .skip (.exit 0)) (.seq (.block 1 (.seq (.ops [.m 12 10,.i 13 (.indexAddr 1 (.t 8) (.t 10)),.l 14 13,.m 3 12,.m 4 14]) (.seq (.seq (.ops [.m 15 4,.i 16 (.call 66 [.t 15]),.i 17 (.un .not (.t 16)),.m 18 17,.mk (some 19) (some (18,false)) (.mov (.t 4)) .no,.mk (some 20) (some (18,false)) (.call 67 [.t 19]) .no,.i 21 (.pick (.t 18) (.c (.one (.st (.bool true)))) (.t 20))]) (.cond (.t 21) (.seq (.ops [.i 2 (.mov (.n 1))]) .ret) .skip)) (.seq (.ops [.m 22 0,.m 23 3,.i 24 (.sliceL 1 (.t 22) none (some (.t 23))),.m 25 4,.i 26 (.call 68 [.t 24,.t 25])]) (.cond (.t 26) (.seq (.ops [.i 2 (.mov (.n 4))]) .ret) .skip))))) (.ops [.i 27 (.bin .add (.t 10) (.n 1)),.m 10 27]))))))) (.seq (.ops [.i 2 (.mov (.n 0))]) .ret))))
theorem LY:OkF Tryz.prog 31 28 [] HO [.t 2]:=.of Tryz.func31 rfl rfl (by kernel_rfl) rfl
def Hv:IR :=
 (.seq (.ops [.i 4 (.box 37 (.t 1)),.i 5 (.box 37 (.t 2)),.i 6 (.mov (.n 0))]) (.seq (.seq (.ops [.m 8 0,.i 9 (.call 31 [.t 8]),.m 7 9]) (.seq (.ops [.m 10 7,.i 11 (.bin .neq (.t 10) (.n 0))]) (.cond (.t 11) (.seq (.ops [.m 12 7,.m 6 12]) .ret) .skip))) (.seq (.ops [.L 13 2 4,.L 14 2 5,.i 15 (.call 103 [.t 13,.t 14]),.m 6 15]) .ret)))
theorem NI:OkF Tryz.prog 75 16 [] Hv [.t 6]:=.of Tryz.func75 rfl rfl (by kernel_rfl) rfl

def E3:List Int→Int
 | []=>0
 | x :: xs=>if x ≠ 0 then x else E3 xs
theorem S4 (row:List ByteArray) (a b:Tm):Bx row a b=E3 [Fh (CQ row a.name) (CQ row b.name),DG a.name b.name,Fh a.args.length b.args.length]:=by
 unfold Bx
 simp only [E3]
 split
 ·rfl
 ·split
  ·rfl
  ·split
   ·rfl
   ·omega
def OG:List ByteArray→List ByteArray→Int
 | _,[]=>0
 | seen,x :: xs=>if Ay x=true∧AJ x=false then (if Cq x seen=true then 4 else OG (seen ++ [x]) xs) else 1
def EA (row:List ByteArray):Int:=if 40 < row.length then 3 else OG [] row

theorem Rh (l:List ByteArray) (x:ByteArray):AU Tryz.prog 98 [CR l,Bt x] (AO (CQ l x)):=by
 refine Dl.ac fun C hC=>?_
 unfold B9
 refine IWP.learn 0 (by omega) fun hkn=>?_
 have hkn:=Fe hkn
 rw [List.length_map] at hkn
 repeat' with_reducible first | refine W ?_ | refine Z0 ?_ | ((first | refine Wo fun K hK=>?_ | refine Wp ?_ | refine Wq ?_ | refine Wr ?_);(try simp only [go_sem,fN,seval,eT,iR,dT,dF,nL]);(repeat refine Ai ?_);(try (refine hK _ ?_;clear hK K));try refine iC ?_)
 refine IWP.loop (fun n s=>∃ k,k≤l.length∧n=l.length - k∧CQ l x=EB (l.drop k) x k∧s.env 0=CR l∧s.env 1=Bt x∧s.env 7=AO l.length∧s.env 8=AO k) l.length ⟨0,Nat.zero_le _,rfl,rfl,rfl,rfl,rfl,rfl⟩ ?_
 rintro n ⟨env,S⟩ ⟨k,hk,rfl,hr,e0,e1,e7,e8⟩
 simp only at e0 e1 e7 e8
 by_cases hlt:(k:Int) < l.length
 ·obtain ⟨a,ha⟩:=Ag (show k < l.length by omega)
  rw [Bi ha,EB] at hr
  by_cases he:x=a
  ·subst he
   rw [if_pos rfl] at hr
   repeat' with_reducible first | refine W ?_ | refine Z0 ?_ | ((first | refine Wo fun K hK=>?_ | refine Wp ?_ | refine Wq ?_ | refine Wr ?_);(try simp only [go_sem,fN,seval,eT,iR,e0,e1,e7,e8,hlt,ha,dT,dF,nL]);(repeat refine Ai ?_);(try (refine hK _ ?_;clear hK K));try refine iC ?_)
   simp only [go_sem,fN,seval,AN,AS.result,AB,AD,AK]
   rw [hr]
  ·rw [if_neg fun e=>he e.symm] at hr
   repeat' with_reducible first | refine W ?_ | refine Z0 ?_ | ((first | refine Wo fun K hK=>?_ | refine Wp ?_ | refine Wq ?_ | refine Wr ?_);(try simp only [go_sem,fN,seval,eT,iR,e0,e1,e7,e8,hlt,ha,he,dT,dF,nL]);(repeat refine Ai ?_);(try (refine hK _ ?_;clear hK K));try refine iC ?_)
   refine AI ⟨l.length - (k + 1),by omega,k + 1,by omega,rfl,by rw [hr];rfl,?_⟩
   simp only [go_sem,fN,seval,eT,iR,e0,e1,e7,e8]
   congr 3
 ·rw [List.drop_of_length_le (by omega),EB] at hr
  repeat' with_reducible first | refine W ?_ | refine Z0 ?_ | ((first | refine Wo fun K hK=>?_ | refine Wp ?_ | refine Wq ?_ | refine Wr ?_);(try simp only [go_sem,fN,seval,eT,iR,e0,e1,e7,e8,hlt,dT,dF,nL]);(repeat refine Ai ?_);(try (refine hK _ ?_;clear hK K));try refine iC ?_)
  simp only [go_sem,fN,seval,AN,AS.result,AB,AD,AK]
  rw [hr]
theorem FJ (x:Int):AU Tryz.prog 154 [AO x] (Aa false):=by
 refine Jl.ac fun C hC=>?_
 unfold FF
 repeat' with_reducible first | refine W ?_ | refine Z0 ?_ | ((first | refine Wo fun K hK=>?_ | refine Wp ?_ | refine Wq ?_ | refine Wr ?_);(try simp only [go_sem,fN,seval,eT,iR,dT,dF,nL]);(repeat refine Ai ?_);(try (refine hK _ ?_;clear hK K));try refine iC ?_)
 simp only [go_sem,fN,seval,AN,AS.result,AB,AD,AK]
theorem ST (x y:Int):AU Tryz.prog 140 [AO x,AO y] (AO (Fh x y)):=by
 refine IS.ac fun C hC=>?_
 unfold Ea
 rcases Int.lt_trichotomy x y with h | h | h
 ·have hc:Fh x y=-1:=by unfold Fh;rw [if_pos h]
  rw [hc]
  repeat' (first | (with_reducible first | refine W ?_ | refine Z0 ?_ | ((first | refine Wo fun K hK=>?_ | refine Wp ?_ | refine Wq ?_ | refine Wr ?_);(try simp only [go_sem,fN,seval,eT,iR,h,dT,dF,nL]);(repeat refine Ai ?_);(try (refine hK _ ?_;clear hK K));try refine iC ?_)) | refine Cg _ (FJ x) ?_ | refine Cg _ (FJ y) ?_)
  simp only [go_sem,fN,seval,AN,AS.result,AB,AD,AK]
 ·have hc:Fh x y=0:=Fp.2 h
  have h1:¬ y < y:=by omega
  rw [hc]
  repeat' (first | (with_reducible first | refine W ?_ | refine Z0 ?_ | ((first | refine Wo fun K hK=>?_ | refine Wp ?_ | refine Wq ?_ | refine Wr ?_);(try simp only [go_sem,fN,seval,eT,iR,h,h1,dT,dF,nL]);(repeat refine Ai ?_);(try (refine hK _ ?_;clear hK K));try refine iC ?_)) | refine Cg _ (FJ x) ?_ | refine Cg _ (FJ y) ?_)
  simp only [go_sem,fN,seval,AN,AS.result,AB,AD,AK]
 ·have hc:Fh x y=1:=by unfold Fh;rw [if_neg (by omega),if_pos h]
  have h1:¬ x < y:=by omega
  rw [hc]
  repeat' (first | (with_reducible first | refine W ?_ | refine Z0 ?_ | ((first | refine Wo fun K hK=>?_ | refine Wp ?_ | refine Wq ?_ | refine Wr ?_);(try simp only [go_sem,fN,seval,eT,iR,h,h1,dT,dF,nL]);(repeat refine Ai ?_);(try (refine hK _ ?_;clear hK K));try refine iC ?_)) | refine Cg _ (FJ x) ?_ | refine Cg _ (FJ y) ?_)
  simp only [go_sem,fN,seval,AN,AS.result,AB,AD,AK]
theorem AAl (l:List Int):AU Tryz.prog 139 [Hx l] (AO (E3 l)):=by
 refine Mx.ac fun C hC=>?_
 unfold Hz
 refine IWP.learn 0 (by omega) fun hkn=>?_
 have hkn:=Fe hkn
 rw [List.length_map] at hkn
 repeat' with_reducible first | refine W ?_ | refine Z0 ?_ | ((first | refine Wo fun K hK=>?_ | refine Wp ?_ | refine Wq ?_ | refine Wr ?_);(try simp only [go_sem,fN,seval,eT,iR,dT,dF,nL]);(repeat refine Ai ?_);(try (refine hK _ ?_;clear hK K));try refine iC ?_)
 refine IWP.loop (fun n s=>∃ k,k≤l.length∧n=l.length - k∧E3 l=E3 (l.drop k)∧s.env 3=AO 0∧s.env 6=Hx l∧s.env 7=AO l.length∧s.env 8=AO k) l.length ⟨0,Nat.zero_le _,rfl,rfl,rfl,rfl,rfl,rfl⟩ ?_
 rintro n ⟨env,S⟩ ⟨k,hk,rfl,hr,e3,e6,e7,e8⟩
 simp only at e3 e6 e7 e8
 by_cases hlt:(k:Int) < l.length
 ·obtain ⟨a,ha⟩:=Ag (show k < l.length by omega)
  rw [Bi ha,E3] at hr
  by_cases he:a=0
  ·rw [if_neg (by omega)] at hr
   repeat' with_reducible first | refine W ?_ | refine Z0 ?_ | ((first | refine Wo fun K hK=>?_ | refine Wp ?_ | refine Wq ?_ | refine Wr ?_);(try simp only [go_sem,fN,seval,eT,iR,e3,e6,e7,e8,hlt,ha,he,dT,dF,nL]);(repeat refine Ai ?_);(try (refine hK _ ?_;clear hK K));try refine iC ?_)
   refine AI ⟨l.length - (k + 1),by omega,k + 1,by omega,rfl,hr,?_⟩
   simp only [go_sem,fN,seval,eT,iR,e3,e6,e7,e8]
   congr 3
  ·rw [if_pos he] at hr
   repeat' with_reducible first | refine W ?_ | refine Z0 ?_ | ((first | refine Wo fun K hK=>?_ | refine Wp ?_ | refine Wq ?_ | refine Wr ?_);(try simp only [go_sem,fN,seval,eT,iR,e3,e6,e7,e8,hlt,ha,he,dT,dF,nL]);(repeat refine Ai ?_);(try (refine hK _ ?_;clear hK K));try refine iC ?_)
   simp only [go_sem,fN,seval,AN,AS.result,AB,AD,AK]
   rw [hr]
 ·rw [List.drop_of_length_le (by omega),E3] at hr
  repeat' with_reducible first | refine W ?_ | refine Z0 ?_ | ((first | refine Wo fun K hK=>?_ | refine Wp ?_ | refine Wq ?_ | refine Wr ?_);(try simp only [go_sem,fN,seval,eT,iR,e3,e6,e7,e8,hlt,dT,dF,nL]);(repeat refine Ai ?_);(try (refine hK _ ?_;clear hK K));try refine iC ?_)
  simp only [go_sem,fN,seval,AN,AS.result,AB,AD,AK]
  rw [hr]
theorem V2 (row:List ByteArray) (a b:Tm):AU Tryz.prog 133 [CR row,aTm a,aTm b] (AO (Bx row a b)):=by
 have h:=S4 row a b
 have ho:=AAl [Fh (CQ row a.name) (CQ row b.name),DG a.name b.name,Fh a.args.length b.args.length]
 rw [← h] at ho
 refine KD.ac fun C hC=>?_
 unfold Ff
 repeat' (first | (with_reducible first | refine W ?_ | refine Z0 ?_ | ((first | refine Wo fun K hK=>?_ | refine Wp ?_ | refine Wq ?_ | refine Wr ?_);(try simp only [go_sem,fN,seval,eT,iR,dT,dF,nL]);(repeat refine Ai ?_);(try (refine hK _ ?_;clear hK K));try refine iC ?_)) | refine Cg _ (Rh row a.name) ?_ | refine Cg _ (Rh row b.name) ?_ | refine Cg _ (ST _ _) ?_ | refine Cg _ (NP a.name b.name) ?_ | refine Cg _ (ho) ?_)
 simp only [go_sem,fN,seval,AN,AS.result,AB,AD,AK]
theorem Lb (row:List ByteArray):AU Tryz.prog 31 [CR row] (AO (EA row)):=by
 refine LY.ac fun C hC=>?_
 unfold HO
 by_cases h40:40 < row.length
 ·have h40':(40:Int) < row.length:=by omega
  repeat' with_reducible first | refine W ?_ | refine Z0 ?_ | ((first | refine Wo fun K hK=>?_ | refine Wp ?_ | refine Wq ?_ | refine Wr ?_);(try simp only [go_sem,fN,seval,eT,iR,h40',dT,dF,nL]);(repeat refine Ai ?_);(try (refine hK _ ?_;clear hK K));try refine iC ?_)
  simp only [go_sem,fN,seval,AN,AS.result,AB,AD,AK]
  unfold EA
  rw [if_pos h40]
 ·have h40':¬ (40:Int) < row.length:=by omega
  have hm:EA row=OG [] row:=by unfold EA;rw [if_neg h40]
  repeat' with_reducible first | refine W ?_ | refine Z0 ?_ | ((first | refine Wo fun K hK=>?_ | refine Wp ?_ | refine Wq ?_ | refine Wr ?_);(try simp only [go_sem,fN,seval,eT,iR,h40',dT,dF,nL]);(repeat refine Ai ?_);(try (refine hK _ ?_;clear hK K));try refine iC ?_)
  refine IWP.loop (fun n s=>∃ k,k≤row.length∧n=row.length - k∧EA row=OG (row.take k) (row.drop k)∧s.env 0=CR row∧s.env 8=CR row∧s.env 9=AO row.length∧s.env 10=AO k) row.length ⟨0,Nat.zero_le _,rfl,hm,rfl,rfl,rfl,rfl⟩ ?_
  rintro n ⟨env,S⟩ ⟨k,hk,rfl,hr,e0,e8,e9,e10⟩
  simp only at e0 e8 e9 e10
  by_cases hlt:(k:Int) < row.length
  ·obtain ⟨a,ha⟩:=Ag (show k < row.length by omega)
   rw [Bi ha,OG] at hr
   have htk:(row.map EC).take k=(row.take k).map EC:=(List.map_take).symm
   have hw1:∀ x ∈ row.map EC,x.length=1:=N0
   repeat' with_reducible first | refine W ?_ | refine Z0 ?_ | ((first | refine Wo fun K hK=>?_ | refine Wp ?_ | refine Wq ?_ | refine Wr ?_);(try simp only [go_sem,fN,seval,eT,iR,e0,e8,e9,e10,hlt,ha,dT,dF,nL]);(repeat refine Ai ?_);(try (refine hK _ ?_;clear hK K));try refine iC ?_)
   refine ⟨_,YW a,?_⟩
   cases h1:Ay a with
   | false =>
    rw [if_neg (by rw [h1];simp)] at hr
    repeat' with_reducible first | refine W ?_ | refine Z0 ?_ | ((first | refine Wo fun K hK=>?_ | refine Wp ?_ | refine Wq ?_ | refine Wr ?_);(try simp only [go_sem,fN,seval,eT,iR,h1,e0,e8,e9,e10,dT,dF,nL]);(repeat refine Ai ?_);(try (refine hK _ ?_;clear hK K));try refine iC ?_)
    simp only [go_sem,fN,seval,AN,AS.result,AB,AD,AK]
    rw [hr]
   | true =>
    repeat' with_reducible first | refine W ?_ | refine Z0 ?_ | ((first | refine Wo fun K hK=>?_ | refine Wp ?_ | refine Wq ?_ | refine Wr ?_);(try simp only [go_sem,fN,seval,eT,iR,h1,e0,e8,e9,e10,dT,dF,nL]);(repeat refine Ai ?_);(try (refine hK _ ?_;clear hK K));try refine iC ?_)
    refine ⟨_,Am a,?_⟩
    cases h2:AJ a with
    | true =>
     rw [if_neg (by rw [h2];simp)] at hr
     repeat' with_reducible first | refine W ?_ | refine Z0 ?_ | ((first | refine Wo fun K hK=>?_ | refine Wp ?_ | refine Wq ?_ | refine Wr ?_);(try simp only [go_sem,fN,seval,eT,iR,h1,h2,e0,e8,e9,e10,dT,dF,nL]);(repeat refine Ai ?_);(try (refine hK _ ?_;clear hK K));try refine iC ?_)
     simp only [go_sem,fN,seval,AN,AS.result,AB,AD,AK]
     rw [hr]
    | false =>
     rw [if_pos ⟨h1,h2⟩] at hr
     repeat' with_reducible first | refine W ?_ | refine Z0 ?_ | ((first | refine Wo fun K hK=>?_ | refine Wp ?_ | refine Wq ?_ | refine Wr ?_);(try simp only [go_sem,fN,seval,eT,iR,h1,h2,e0,e8,e9,e10,dT,dF,nL]);(repeat refine Ai ?_);(try (refine hK _ ?_;clear hK K));try refine iC ?_)
     have hcon:AU Tryz.prog 68 [.one (.st (.list ((row.map EC).take k))),Bt a] (Aa (Cq a (row.take k))):=by
      rw [htk]
      exact GE _ _
     refine ⟨_,hcon,?_⟩
     cases h3:Cq a (row.take k) with
     | true =>
      rw [if_pos h3] at hr
      repeat' with_reducible first | refine W ?_ | refine Z0 ?_ | ((first | refine Wo fun K hK=>?_ | refine Wp ?_ | refine Wq ?_ | refine Wr ?_);(try simp only [go_sem,fN,seval,eT,iR,h3,e0,e8,e9,e10,dT,dF,nL]);(repeat refine Ai ?_);(try (refine hK _ ?_;clear hK K));try refine iC ?_)
      simp only [go_sem,fN,seval,AN,AS.result,AB,AD,AK]
      rw [hr]
     | false =>
      rw [if_neg (by rw [h3];simp),← Al ha] at hr
      repeat' with_reducible first | refine W ?_ | refine Z0 ?_ | ((first | refine Wo fun K hK=>?_ | refine Wp ?_ | refine Wq ?_ | refine Wr ?_);(try simp only [go_sem,fN,seval,eT,iR,h3,e0,e8,e9,e10,dT,dF,nL]);(repeat refine Ai ?_);(try (refine hK _ ?_;clear hK K));try refine iC ?_)
      refine AI ⟨row.length - (k + 1),by omega,k + 1,by omega,rfl,hr,?_⟩
      simp only [go_sem,fN,seval,eT,iR,e0,e8,e9,e10]
      congr 3
  ·rw [List.drop_of_length_le (by omega),OG] at hr
   repeat' with_reducible first | refine W ?_ | refine Z0 ?_ | ((first | refine Wo fun K hK=>?_ | refine Wp ?_ | refine Wq ?_ | refine Wr ?_);(try simp only [go_sem,fN,seval,eT,iR,e0,e8,e9,e10,hlt,dT,dF,nL]);(repeat refine Ai ?_);(try (refine hK _ ?_;clear hK K));try refine iC ?_)
   simp only [go_sem,fN,seval,AN,AS.result,AB,AD,AK]
   rw [hr]
def EK (row:List ByteArray) (a b:Tm):Int:=if EA row=0 then CY a b else EA row
theorem Ke (row:List ByteArray) (a b:Tm):AU Tryz.prog 75 [CR row,aTm a,aTm b] (AO (EK row a b)):=by
 unfold EK
 refine NI.ac fun C hC=>?_
 unfold Hv
 by_cases h:EA row=0
 ·repeat' (first | (with_reducible first | refine W ?_ | refine Z0 ?_ | ((first | refine Wo fun K hK=>?_ | refine Wp ?_ | refine Wq ?_ | refine Wr ?_);(try simp only [go_sem,fN,seval,eT,iR,h,dT,dF,nL]);(repeat refine Ai ?_);(try (refine hK _ ?_;clear hK K));try refine iC ?_)) | refine Cg _ (Lb row) ?_ | refine Cg _ (PG a b) ?_)
  simp only [go_sem,fN,seval,AN,AS.result,AB,AD,AK,h]
 ·repeat' (first | (with_reducible first | refine W ?_ | refine Z0 ?_ | ((first | refine Wo fun K hK=>?_ | refine Wp ?_ | refine Wq ?_ | refine Wr ?_);(try simp only [go_sem,fN,seval,eT,iR,h,dT,dF,nL]);(repeat refine Ai ?_);(try (refine hK _ ?_;clear hK K));try refine iC ?_)) | refine Cg _ (Lb row) ?_)
  simp only [go_sem,fN,seval,AN,AS.result,AB,AD,AK,h]
theorem O7 {row:List ByteArray} {a b:Tm} (h:EK row a b=0):EA row=0∧a.may=0∧b.may=0:=by
 unfold EK CY at h
 split at h
 ·rename_i h1
  split at h
  ·rename_i h2
   exact ⟨h1,h2,h⟩
  ·rename_i h2
   exact absurd h h2
 ·rename_i h1
  exact absurd h h1

def Gm (row:List ByteArray) (cs ds:List SV) (x:SV):Prop:=∃ a b,cs=Ap a∧ds=Ap b∧x=.bool (paB row a b)
def J8 (row:List ByteArray) (m:Nat):AL:=.box 130 [.st (.list (row.map EC)),.mptr m]
abbrev K7 (t:Tm):AV:=.one (.eptr [.str t.name,.list (t.args.map Ap)])
theorem W4 {row:List ByteArray} {a b:Tm} {cs ds:List SV} {x:SV} (h1:VZ (Ap a) cs) (h2:VZ (Ap b) ds) (h:Gm row cs ds x):x=.bool (paB row a b):=by
 obtain ⟨a',b',rfl,rfl,rfl⟩:=h
 rw [UL h1,UL h2]
def Jf (row:List ByteArray) (a b:Tm):Prop:=∀ (p m:Nat) (S:AA),1000≤p→1000≤m→S p=some (J8 row m)→S m=some (.memo (Gm row)) →
 As Tryz.prog 100 [.one (.ptr p 1 0 0),K7 a,K7 b] S (Aa (paB row a b)) S
def AAc (row:List ByteArray) (a b:Tm):Prop:=∀ (p m:Nat) (S:AA),1000≤p→1000≤m→S p=some (J8 row m)→S m=some (.memo (Gm row)) →
 As Tryz.prog 122 [.one (.ptr p 1 0 0),K7 a,K7 b] S (Aa (paB row a b)) S
theorem ZU {row:List ByteArray} {a b:Tm} (hask:AJ a.name=false→AAc row a b):Jf row a b:=fun p m S hp hm sp sm=>by
 refine Dp.acS fun hS C hC=>?_
 unfold CG
 have n7:S 7=none:=AP hS (by omega)
 have p7:¬ p=7:=by omega
 have m7:¬ m=7:=by omega
 unfold J8 at sp
 cases hv:AJ a.name with
 | true =>
  repeat' (first | (with_reducible first | refine W ?_ | refine Z0 ?_ | ((first | refine Wo fun K hK=>?_ | refine Wp ?_ | refine Wq ?_ | refine Wr ?_);(try simp only [go_sem,fN,seval,eT,iR,hv,dT,dF,nL]);(repeat refine Ai ?_);(try (refine hK _ ?_;clear hK K));try refine iC ?_)) | refine Cg _ (Am a.name) ?_)
  refine Av (Aa false) hS trivial ?_ ?_ fun _ _=>rfl
  ·simp only [go_sem,fN,seval,eT,iR,AB,AD,AK]
  ·simp only [go_sem,fN,seval,eT,iR]
   rw [Yd hv]
 | false =>
  repeat' (first | (with_reducible first | refine W ?_ | refine Z0 ?_ | ((first | refine Wo fun K hK=>?_ | refine Wp ?_ | refine Wq ?_ | refine Wr ?_);(try simp only [go_sem,fN,seval,eT,iR,hv,n7,p7,m7,sp,sm,AS.caps,FA,KQ,Nr,Io,dT,dF,nL]);(repeat refine Ai ?_);(try (refine hK _ ?_;clear hK K));try refine iC ?_)) | refine Cg _ (Am a.name) ?_)
  refine ⟨rfl,?_,fun cs' ds' x t1 t2 hf=>?_⟩
  ·refine hK _ ?_
   clear hK K
   refine Wb ?_
   repeat' with_reducible first | refine W ?_ | refine Z0 ?_ | ((first | refine Wo fun K hK=>?_ | refine Wp ?_ | refine Wq ?_ | refine Wr ?_);(try simp only [go_sem,fN,seval,eT,iR,hv,n7,p7,m7,sp,sm,dT,dF,nL]);(repeat refine Ai ?_);(try (refine hK _ ?_;clear hK K));try refine iC ?_)
   refine ⟨_,[(p,J8 row m),(m,.memo (Gm row))],fun q hq=>?_,fun T hT=>hask hv (up1 p) (up1 m) (upS T) (At p) (At m) (by rw [A0,hT (p,J8 row m) (by simp)];rfl) (by rw [A0,hT (m,.memo (Gm row)) (by simp)];rfl),?_⟩
   ·simp only [List.mem_cons,List.not_mem_nil,or_false] at hq
    rcases hq with rfl | rfl
    ·simp only [go_sem,fN,seval,eT,iR,p7,sp,J8]
    ·simp only [go_sem,fN,seval,eT,iR,m7,sm]
   repeat' with_reducible first | refine W ?_ | refine Z0 ?_ | ((first | refine Wo fun K hK=>?_ | refine Wp ?_ | refine Wq ?_ | refine Wr ?_);(try simp only [go_sem,fN,seval,eT,iR,hv,n7,p7,m7,sp,sm,AS.caps,FA,KQ,Nr,dT,dF,nL]);(repeat refine Ai ?_);(try (refine hK _ ?_;clear hK K));try refine iC ?_)
   refine ⟨rfl,⟨a,b,(Af a).symm,(Af b).symm,rfl⟩,?_⟩
   refine hK _ ?_
   clear hK K
   refine Wb ?_
   repeat' with_reducible first | refine W ?_ | refine Z0 ?_ | ((first | refine Wo fun K hK=>?_ | refine Wp ?_ | refine Wq ?_ | refine Wr ?_);(try simp only [go_sem,fN,seval,eT,iR,n7,dT,dF,nL]);(repeat refine Ai ?_);(try (refine hK _ ?_;clear hK K));try refine iC ?_)
   refine Av (Aa (paB row a b)) hS trivial ?_ ?_ fun k hk=>?_
   ·simp only [go_sem,fN,seval,eT,iR,AB,AD,AK]
   ·rfl
   ·have k7:¬ k=7:=by omega
    simp only [go_sem,fN,seval,eT,iR,k7]
  ·have hx:=W4 (a:=a) (b:=b) (by rw [Af];exact t1) (by rw [Af];exact t2) hf
   subst hx
   refine hK _ ?_
   clear hK K
   refine Wb ?_
   repeat' with_reducible first | refine W ?_ | refine Z0 ?_ | ((first | refine Wo fun K hK=>?_ | refine Wp ?_ | refine Wq ?_ | refine Wr ?_);(try simp only [go_sem,fN,seval,eT,iR,hv,n7,p7,m7,sp,sm,dT,dF,nL]);(repeat refine Ai ?_);(try (refine hK _ ?_;clear hK K));try refine iC ?_)
   refine Av (Aa (paB row a b)) hS trivial ?_ ?_ fun k hk=>?_
   ·simp only [go_sem,fN,seval,eT,iR,AB,AD,AK]
   ·rfl
   ·have k7:¬ k=7:=by omega
    simp only [go_sem,fN,seval,eT,iR,k7]
theorem Pb {a b:Tm}:a.beq b=true ↔ a=b:=Tm.beq_iff a b
theorem AAU {row:List ByteArray} {a b:Tm} (hv:AJ a.name=false) (ha:a.size≤1000000) (hb:b.size≤1000000) (ih1:∀ x ∈ a.args,Jf row x b) (ih2:∀ y ∈ b.args,Jf row a y) (ih3:∀ x ∈ a.args,∀ y ∈ b.args,Jf row x y):AAc row a b:=fun p m S hp hm sp sm=>by
 refine D_.acS fun hS C hC=>?_
 unfold CS
 have hla:=Tm.length_le a.args
 have hlb:=Tm.length_le b.args
 have hsa:=Tm.size_eq a
 have hsb:=Tm.size_eq b
 have sp0:=sp
 unfold J8 at sp
 have rows:∀ q ∈ [(p,J8 row m),(m,AL.memo (Gm row))],S q.1=some q.2:=fun q hq=>by
  simp only [List.mem_cons,List.not_mem_nil,or_false] at hq
  rcases hq with rfl | rfl
  ·exact sp0
  ·exact sm
 have call:∀ x y:Tm,Jf row x y→∀ T:AA,(∀ q ∈ [(p,J8 row m),(m,AL.memo (Gm row))],T q.1=some q.2)→As Tryz.prog 100 [.one (.ptr (up1 p) 1 0 0),K7 x,K7 y] (upS T) (Aa (paB row x y)) (upS T):=fun x y h T hT =>
  h (up1 p) (up1 m) (upS T) (At p) (At m) (by rw [A0,hT (p,J8 row m) (by simp)];rfl) (by rw [A0,hT (m,.memo (Gm row)) (by simp)];rfl)
 repeat' with_reducible first | refine W ?_ | refine Z0 ?_ | ((first | refine Wo fun K hK=>?_ | refine Wp ?_ | refine Wq ?_ | refine Wr ?_);(try simp only [go_sem,fN,seval,eT,iR,dT,dF,nL]);(repeat refine Ai ?_);(try (refine hK _ ?_;clear hK K));try refine iC ?_)
 refine IWP.loop (fun n s=>∃ k,k≤a.args.length∧n=a.args.length - k∧(∀ x ∈ a.args.take k,x ≠ b∧paB row x b=false)∧s.env 0=.one (.ptr p 1 0 0)∧s.env 1=K7 a∧s.env 2=K7 b∧s.env 6=Aa false∧s.env 15=AO a.args.length∧s.env 16=AO k∧s.S=S) a.args.length ⟨0,Nat.zero_le _,rfl,by simp,by (simp only [go_sem,fN,seval,eT,iR]),by (simp only [go_sem,fN,seval,eT,iR]),by (simp only [go_sem,fN,seval,eT,iR]),by (simp only [go_sem,fN,seval,eT,iR]),by (simp only [go_sem,fN,seval,eT,iR]),by (simp only [go_sem,fN,seval,eT,iR]),rfl⟩ ?_
 rintro n ⟨env,S1⟩ ⟨k,hk,rfl,hno,e0,e1,e2,e6,e15,e16,hS1⟩
 simp only at e0 e1 e2 e6 e15 e16 hS1
 subst hS1
 by_cases hlt:(k:Int) < a.args.length
 ·obtain ⟨x,hx⟩:=Ag (show k < a.args.length by omega)
  have hxm:=AQ hx
  cases hxb:x.beq b with
  | true =>
   repeat' (first | (with_reducible first | refine W ?_ | refine Z0 ?_ | ((first | refine Wo fun K hK=>?_ | refine Wp ?_ | refine Wq ?_ | refine Wr ?_);(try simp only [go_sem,fN,seval,eT,iR,e0,e1,e2,e6,e15,e16,hlt,hx,hxb,Af,dT,dF,nL]);(repeat refine Ai ?_);(try (refine hK _ ?_;clear hK K));try refine iC ?_)) | refine Cg _ (Lq x b) ?_)
   refine Av (Aa true) hS trivial ?_ ?_ fun _ _=>rfl
   ·simp only [go_sem,fN,seval,eT,iR,AB,AD,AK]
   ·simp only [go_sem,fN,seval,eT,iR]
    rw [Tj hv hxm (.inl (Pb.1 hxb))]
  | false =>
   repeat' (first | (with_reducible first | refine W ?_ | refine Z0 ?_ | ((first | refine Wo fun K hK=>?_ | refine Wp ?_ | refine Wq ?_ | refine Wr ?_);(try simp only [go_sem,fN,seval,eT,iR,e0,e1,e2,e6,e15,e16,hlt,hx,hxb,Af,dT,dF,nL]);(repeat refine Ai ?_);(try (refine hK _ ?_;clear hK K));try refine iC ?_)) | refine Cg _ (Lq x b) ?_)
   refine ⟨_,_,rows,call x b (ih1 x hxm),?_⟩
   cases hp1:paB row x b with
   | true =>
    repeat' with_reducible first | refine W ?_ | refine Z0 ?_ | ((first | refine Wo fun K hK=>?_ | refine Wp ?_ | refine Wq ?_ | refine Wr ?_);(try simp only [go_sem,fN,seval,eT,iR,e0,e1,e2,e6,e15,e16,hlt,hx,hxb,hp1,Af,dT,dF,nL]);(repeat refine Ai ?_);(try (refine hK _ ?_;clear hK K));try refine iC ?_)
    refine Av (Aa true) hS trivial ?_ ?_ fun _ _=>rfl
    ·simp only [go_sem,fN,seval,eT,iR,AB,AD,AK]
    ·simp only [go_sem,fN,seval,eT,iR]
     rw [Tj hv hxm (.inr hp1)]
   | false =>
    repeat' with_reducible first | refine W ?_ | refine Z0 ?_ | ((first | refine Wo fun K hK=>?_ | refine Wp ?_ | refine Wq ?_ | refine Wr ?_);(try simp only [go_sem,fN,seval,eT,iR,e0,e1,e2,e6,e15,e16,hlt,hx,hxb,hp1,Af,dT,dF,nL]);(repeat refine Ai ?_);(try (refine hK _ ?_;clear hK K));try refine iC ?_)
    refine AI ⟨a.args.length - (k + 1),by omega,k + 1,by omega,rfl,fun y hy=>?_,?_⟩
    ·rw [Al hx,List.mem_append,List.mem_singleton] at hy
     rcases hy with hy | rfl
     ·exact hno y hy
     ·exact ⟨fun e=>(by rw [Pb.2 e] at hxb;cases hxb),hp1⟩
    ·simp only [go_sem,fN,seval,eT,iR,e0,e1,e2,e6,e15,e16]
     congr 3
 ·rw [List.take_of_length_le (by omega)] at hno
  repeat' with_reducible first | refine W ?_ | refine Z0 ?_ | ((first | refine Wo fun K hK=>?_ | refine Wp ?_ | refine Wq ?_ | refine Wr ?_);(try simp only [go_sem,fN,seval,eT,iR,e0,e1,e2,e6,e15,e16,hlt,Af,dT,dF,nL]);(repeat refine Ai ?_);(try (refine hK _ ?_;clear hK K));try refine iC ?_)
  refine ⟨_,Am b.name,?_⟩
  cases hvb:AJ b.name with
  | true =>
   repeat' with_reducible first | refine W ?_ | refine Z0 ?_ | ((first | refine Wo fun K hK=>?_ | refine Wp ?_ | refine Wq ?_ | refine Wr ?_);(try simp only [go_sem,fN,seval,eT,iR,e0,e1,e2,e6,hvb,Af,dT,dF,nL]);(repeat refine Ai ?_);(try (refine hK _ ?_;clear hK K));try refine iC ?_)
   refine Av (Aa false) hS trivial ?_ ?_ fun _ _=>rfl
   ·simp only [go_sem,fN,seval,eT,iR,AB,AD,AK]
   ·simp only [go_sem,fN,seval,eT,iR]
    rw [Ld hv hno (.inl hvb)]
  | false =>
   repeat' with_reducible first | refine W ?_ | refine Z0 ?_ | ((first | refine Wo fun K hK=>?_ | refine Wp ?_ | refine Wq ?_ | refine Wr ?_);(try simp only [go_sem,fN,seval,eT,iR,e0,e1,e2,e6,hvb,sp,Af,dT,dF,nL]);(repeat refine Ai ?_);(try (refine hK _ ?_;clear hK K));try refine iC ?_)
   refine ⟨_,V2 row a b,?_⟩
   by_cases hsy:Bx row a b < 0
   ·repeat' with_reducible first | refine W ?_ | refine Z0 ?_ | ((first | refine Wo fun K hK=>?_ | refine Wp ?_ | refine Wq ?_ | refine Wr ?_);(try simp only [go_sem,fN,seval,eT,iR,e0,e1,e2,e6,hvb,hsy,Af,dT,dF,nL]);(repeat refine Ai ?_);(try (refine hK _ ?_;clear hK K));try refine iC ?_)
    refine Av (Aa false) hS trivial ?_ ?_ fun _ _=>rfl
    ·simp only [go_sem,fN,seval,eT,iR,AB,AD,AK]
    ·simp only [go_sem,fN,seval,eT,iR]
     rw [Ld hv hno (.inr (.inl hsy))]
   ·repeat' with_reducible first | refine W ?_ | refine Z0 ?_ | ((first | refine Wo fun K hK=>?_ | refine Wp ?_ | refine Wq ?_ | refine Wr ?_);(try simp only [go_sem,fN,seval,eT,iR,e0,e1,e2,e6,hvb,hsy,Af,dT,dF,nL]);(repeat refine Ai ?_);(try (refine hK _ ?_;clear hK K));try refine iC ?_)
    refine IWP.loop (fun n s=>∃ j,j≤b.args.length∧n=b.args.length - j∧(∀ y ∈ b.args.take j,paB row a y=true)∧s.env 0=.one (.ptr p 1 0 0)∧s.env 1=K7 a∧s.env 2=K7 b∧s.env 6=Aa false∧s.env 8=AO (Bx row a b)∧s.env 64=AO b.args.length∧s.env 65=AO j∧s.S=S1) b.args.length ⟨0,Nat.zero_le _,rfl,by simp,by (simp only [go_sem,fN,seval,eT,iR,e0]),by (simp only [go_sem,fN,seval,eT,iR,e1]),by (simp only [go_sem,fN,seval,eT,iR,e2]),by (simp only [go_sem,fN,seval,eT,iR,e6]),by (simp only [go_sem,fN,seval,eT,iR]),by (simp only [go_sem,fN,seval,eT,iR]),by (simp only [go_sem,fN,seval,eT,iR]),rfl⟩ ?_
    clear e0 e1 e2 e6 e15 e16 hlt
    rintro n ⟨env,S2⟩ ⟨j,hj,rfl,hall,e0,e1,e2,e6,e8,e64,e65,hS2⟩
    simp only at e0 e1 e2 e6 e8 e64 e65 hS2
    subst hS2
    by_cases hlt:(j:Int) < b.args.length
    ·obtain ⟨y,hy⟩:=Ag (show j < b.args.length by omega)
     have hym:=AQ hy
     repeat' with_reducible first | refine W ?_ | refine Z0 ?_ | ((first | refine Wo fun K hK=>?_ | refine Wp ?_ | refine Wq ?_ | refine Wr ?_);(try simp only [go_sem,fN,seval,eT,iR,e0,e1,e2,e6,e8,e64,e65,hlt,hy,Af,dT,dF,nL]);(repeat refine Ai ?_);(try (refine hK _ ?_;clear hK K));try refine iC ?_)
     refine ⟨_,_,rows,call a y (ih2 y hym),?_⟩
     cases hq:paB row a y with
     | false =>
      repeat' with_reducible first | refine W ?_ | refine Z0 ?_ | ((first | refine Wo fun K hK=>?_ | refine Wp ?_ | refine Wq ?_ | refine Wr ?_);(try simp only [go_sem,fN,seval,eT,iR,e0,e1,e2,e6,e8,e64,e65,hlt,hy,hq,Af,dT,dF,nL]);(repeat refine Ai ?_);(try (refine hK _ ?_;clear hK K));try refine iC ?_)
      refine Av (Aa false) hS trivial ?_ ?_ fun _ _=>rfl
      ·simp only [go_sem,fN,seval,eT,iR,AB,AD,AK]
      ·simp only [go_sem,fN,seval,eT,iR]
       rw [Ld hv hno (.inr (.inr ⟨y,hym,hq⟩))]
     | true =>
      repeat' with_reducible first | refine W ?_ | refine Z0 ?_ | ((first | refine Wo fun K hK=>?_ | refine Wp ?_ | refine Wq ?_ | refine Wr ?_);(try simp only [go_sem,fN,seval,eT,iR,e0,e1,e2,e6,e8,e64,e65,hlt,hy,hq,Af,dT,dF,nL]);(repeat refine Ai ?_);(try (refine hK _ ?_;clear hK K));try refine iC ?_)
      refine AI ⟨b.args.length - (j + 1),by omega,j + 1,by omega,rfl,fun u hu=>?_,?_⟩
      ·rw [Al hy,List.mem_append,List.mem_singleton] at hu
       rcases hu with hu | rfl
       ·exact hall u hu
       ·exact hq
      ·simp only [go_sem,fN,seval,eT,iR,e0,e1,e2,e6,e8,e64,e65]
       congr 3
    ·rw [List.take_of_length_le (by omega)] at hall
     by_cases hgt:0 < Bx row a b
     ·repeat' with_reducible first | refine W ?_ | refine Z0 ?_ | ((first | refine Wo fun K hK=>?_ | refine Wp ?_ | refine Wq ?_ | refine Wr ?_);(try simp only [go_sem,fN,seval,eT,iR,e0,e1,e2,e6,e8,e64,e65,hlt,hgt,Af,dT,dF,nL]);(repeat refine Ai ?_);(try (refine hK _ ?_;clear hK K));try refine iC ?_)
      refine Av (Aa true) hS trivial ?_ ?_ fun _ _=>rfl
      ·simp only [go_sem,fN,seval,eT,iR,AB,AD,AK]
      ·simp only [go_sem,fN,seval,eT,iR]
       rw [AAT hv hvb hgt hall]
     ·have hz:Bx row a b=0:=by omega
      have hll:=(DB.1 hz).2
      repeat' with_reducible first | refine W ?_ | refine Z0 ?_ | ((first | refine Wo fun K hK=>?_ | refine Wp ?_ | refine Wq ?_ | refine Wr ?_);(try simp only [go_sem,fN,seval,eT,iR,e0,e1,e2,e6,e8,e64,e65,hlt,hgt,Af,dT,dF,nL]);(repeat refine Ai ?_);(try (refine hK _ ?_;clear hK K));try refine iC ?_)
      refine IWP.loop (fun n s=>∃ i,i≤a.args.length∧n=a.args.length - i∧a.args.take i=b.args.take i∧s.env 0=.one (.ptr p 1 0 0)∧s.env 1=K7 a∧s.env 2=K7 b∧s.env 6=Aa false∧s.env 85=AO a.args.length∧s.env 86=AO i∧s.S=S2) a.args.length ⟨0,Nat.zero_le _,rfl,by simp,by (simp only [go_sem,fN,seval,eT,iR,e0]),by (simp only [go_sem,fN,seval,eT,iR,e1]),by (simp only [go_sem,fN,seval,eT,iR,e2]),by (simp only [go_sem,fN,seval,eT,iR,e6]),by (simp only [go_sem,fN,seval,eT,iR]),by (simp only [go_sem,fN,seval,eT,iR]),rfl⟩ ?_
      clear e0 e1 e2 e6 e8 e64 e65 hlt
      rintro n ⟨env,S3⟩ ⟨i,hi,rfl,hpre,e0,e1,e2,e6,e85,e86,hS3⟩
      simp only at e0 e1 e2 e6 e85 e86 hS3
      subst hS3
      by_cases hlt:(i:Int) < a.args.length
      ·obtain ⟨x,hx⟩:=Ag (show i < a.args.length by omega)
       obtain ⟨y,hy⟩:=Ag (show i < b.args.length by omega)
       repeat' with_reducible first | refine W ?_ | refine Z0 ?_ | ((first | refine Wo fun K hK=>?_ | refine Wp ?_ | refine Wq ?_ | refine Wr ?_);(try simp only [go_sem,fN,seval,eT,iR,e0,e1,e2,e6,e85,e86,hlt,hx,hy,Af,dT,dF,nL]);(repeat refine Ai ?_);(try (refine hK _ ?_;clear hK K));try refine iC ?_)
       refine ⟨_,Lq x y,?_⟩
       cases hxy:x.beq y with
       | true =>
        repeat' with_reducible first | refine W ?_ | refine Z0 ?_ | ((first | refine Wo fun K hK=>?_ | refine Wp ?_ | refine Wq ?_ | refine Wr ?_);(try simp only [go_sem,fN,seval,eT,iR,e0,e1,e2,e6,e85,e86,hlt,hx,hy,hxy,Af,dT,dF,nL]);(repeat refine Ai ?_);(try (refine hK _ ?_;clear hK K));try refine iC ?_)
        refine AI ⟨a.args.length - (i + 1),by omega,i + 1,by omega,rfl,?_,?_⟩
        ·rw [Al hx,Al hy,hpre,Pb.1 hxy]
        ·simp only [go_sem,fN,seval,eT,iR,e0,e1,e2,e6,e85,e86]
         congr 3
       | false =>
        repeat' with_reducible first | refine W ?_ | refine Z0 ?_ | ((first | refine Wo fun K hK=>?_ | refine Wp ?_ | refine Wq ?_ | refine Wr ?_);(try simp only [go_sem,fN,seval,eT,iR,e0,e1,e2,e6,e85,e86,hlt,hx,hy,hxy,Af,dT,dF,nL]);(repeat refine Ai ?_);(try (refine hK _ ?_;clear hK K));try refine iC ?_)
        refine ⟨_,_,rows,call x y (ih3 x (AQ hx) y (AQ hy)),?_⟩
        repeat' with_reducible first | refine W ?_ | refine Z0 ?_ | ((first | refine Wo fun K hK=>?_ | refine Wp ?_ | refine Wq ?_ | refine Wr ?_);(try simp only [go_sem,fN,seval,eT,iR,e0,e1,e2,e6,e85,e86,hlt,hx,hy,hxy,Af,dT,dF,nL]);(repeat refine Ai ?_);(try (refine hK _ ?_;clear hK K));try refine iC ?_)
        refine Av (Aa (paB row x y)) hS trivial ?_ ?_ fun _ _=>rfl
        ·simp only [go_sem,fN,seval,eT,iR,AB,AD,AK]
        ·rw [Vw hv hvb hno hz hall hpre hx hy fun e=>by rw [Pb.2 e] at hxy;cases hxy]
         rfl
      ·have hae:a.args=b.args:=by
        rw [List.take_of_length_le (by omega),List.take_of_length_le (by omega)] at hpre
        exact hpre
       repeat' with_reducible first | refine W ?_ | refine Z0 ?_ | ((first | refine Wo fun K hK=>?_ | refine Wp ?_ | refine Wq ?_ | refine Wr ?_);(try simp only [go_sem,fN,seval,eT,iR,e0,e1,e2,e6,e85,e86,hlt,Af,dT,dF,nL]);(repeat refine Ai ?_);(try (refine hK _ ?_;clear hK K));try refine iC ?_)
       refine Av (Aa false) hS trivial ?_ ?_ fun _ _=>rfl
       ·simp only [go_sem,fN,seval,eT,iR,AB,AD,AK,e6]
       ·simp only [go_sem,fN,seval,eT,iR]
        rw [WQ hv hno hz hae]
theorem HT (row:List ByteArray):∀ (N:Nat) (a b:Tm),SizeOf.sizeOf a + SizeOf.sizeOf b < N→a.size≤1000000→b.size≤1000000→Jf row a b
 | 0,_,_,h,_,_=>absurd h (Nat.not_lt_zero _)
 | N + 1,a,b,h,ha,hb=>ZU fun hv=>AAU hv ha hb
   (fun x hx=>HT row N x b (by have:=Tm.lt_of_arg hx;omega) (by have:=Tm.size_mem hx;have:=Tm.size_eq a;omega) hb)
   (fun y hy=>HT row N a y (by have:=Tm.lt_of_arg hy;omega) ha (by have:=Tm.size_mem hy;have:=Tm.size_eq b;omega))
   (fun x hx y hy=>HT row N x y (by have:=Tm.lt_of_arg hx;have:=Tm.lt_of_arg hy;omega) (by have:=Tm.size_mem hx;have:=Tm.size_eq a;omega) (by have:=Tm.size_mem hy;have:=Tm.size_eq b;omega))
def Ti (t:Tm):AL:=.box 37 ([SV.str t.name,SV.list (t.args.map Ap)].map .st)
theorem V9 (row:List ByteArray) (a b:Tm) (ha:a.size≤1000000) (hb:b.size≤1000000):AU Tryz.prog 70 [CR row,aTm a,aTm b] (Aa (paB row a b)):=by
 refine Mu.ac fun C hC=>?_
 unfold Gj
 refine IWP.mid (fun x=>x.env 0=CR row∧x.env 4=.one (.ptr 4 1 0 0)∧x.env 5=.one (.ptr 5 1 0 0)∧x.S=AG (AG noS 4 (some (Ti a))) 5 (some (Ti b))) ?_ ?_
 ·repeat' with_reducible first | refine W ?_ | refine Z0 ?_ | ((first | refine Wo fun K hK=>?_ | refine Wq ?_ | refine Wr ?_);(try simp only [go_sem,fN,seval,eT,iR,Af]);(repeat refine Ai ?_);(try (refine hK _ ?_;clear hK K)))
  exact ⟨rfl,rfl,rfl,rfl,rfl⟩
 rintro ⟨env,S⟩ ⟨e0,e4,e5,hS⟩
 simp only at e0 e4 e5 hS
 subst hS
 refine IWP.mid (fun x=>x.env 4=.one (.ptr 4 1 0 0)∧x.env 5=.one (.ptr 5 1 0 0)∧x.env 7=.one (.ptr 11 1 0 0)∧x.S=AG (AG (AG (AG noS 4 (some (Ti a))) 5 (some (Ti b))) 9 (some (.memo fun _ _ _=>False))) 11 (some (J8 row 9))) ?_ ?_
 ·repeat' with_reducible first | refine W ?_ | refine Z0 ?_ | ((first | refine Wo fun K hK=>?_ | refine Wq ?_ | refine Wr ?_);(try simp only [go_sem,fN,seval,eT,iR,e0,e4,e5,Af]);(repeat refine Ai ?_);(try (refine hK _ ?_;clear hK K)))
  exact ⟨rfl,e4,e5,rfl,rfl⟩
 rintro ⟨env,S⟩ ⟨e4,e5,e7,hS⟩
 simp only at e4 e5 e7 hS
 subst hS
 refine IWP.ghost (Ac.memoWeak (id:=9) (f':=Gm row) rfl fun _ _ _ h=>h.elim) ?_
 refine IWP.ghost (Ac.freeze 4 [4] (ty:=37) (xs:=[SV.str a.name,SV.list (a.args.map Ap)]) rfl (Nat.succ_pos _) (fun t ht=>by rw [List.mem_singleton] at ht;subst ht;exact e4)) ?_
 refine IWP.ghost (Ac.freeze 5 [5] (ty:=37) (xs:=[SV.str b.name,SV.list (b.args.map Ap)]) rfl (Nat.succ_pos _) (fun t ht=>by rw [List.mem_singleton] at ht;subst ht;exact e5)) ?_
 repeat' with_reducible first | refine W ?_ | refine Z0 ?_ | ((first | refine Wo fun K hK=>?_ | refine Wp ?_ | refine Wq ?_ | refine Wr ?_);(try simp only [go_sem,fN,seval,eT,iR,e4,e5,e7,AS.set,List.mem_singleton,dT,dF,nL]);(repeat refine Ai ?_);(try (refine hK _ ?_;clear hK K));try refine iC ?_)
 refine ⟨_,[(11,J8 row 9),(9,.memo (Gm row))],fun q hq=>?_,fun T hT=>HT row _ a b (Nat.lt_succ_self _) ha hb (up1 11) (up1 9) (upS T) (At _) (At _) (by rw [A0,hT (11,J8 row 9) (by simp)];rfl) (by rw [A0,hT (9,.memo (Gm row)) (by simp)];rfl),?_⟩
 ·simp only [List.mem_cons,List.not_mem_nil,or_false] at hq
  rcases hq with rfl | rfl <;> rfl
 repeat' with_reducible first | refine W ?_ | refine Z0 ?_ | ((first | refine Wo fun K hK=>?_ | refine Wp ?_ | refine Wq ?_ | refine Wr ?_);(try simp only [go_sem,fN,seval,eT,iR,e4,e5,e7,AS.set,List.mem_singleton,dT,dF,nL]);(repeat refine Ai ?_);(try (refine hK _ ?_;clear hK K));try refine iC ?_)
 simp only [go_sem,fN,seval,AN,AS.result,AB,AD,AK]
noncomputable def SI (row:List ByteArray) (a b:Tm):Bool:=if EK row a b=0 then paB row a b else false
theorem Qs (row:List ByteArray) (a b:Tm):AU Tryz.prog 37 [CR row,aTm a,aTm b] (.tup [Aa (SI row a b),AO (EK row a b)]):=by
 unfold SI
 refine NE.ac fun C hC=>?_
 unfold Hy
 by_cases h:EK row a b=0
 ·obtain ⟨_,h1,h2⟩:=O7 h
  have z1:=(Tm.may_chk h1).2
  have z2:=(Tm.may_chk h2).2
  repeat' (first | (with_reducible first | refine W ?_ | refine Z0 ?_ | ((first | refine Wo fun K hK=>?_ | refine Wp ?_ | refine Wq ?_ | refine Wr ?_);(try simp only [go_sem,fN,seval,eT,iR,h,dT,dF,nL]);(repeat refine Ai ?_);(try (refine hK _ ?_;clear hK K));try refine iC ?_)) | refine Cg _ (Ke row a b) ?_ | refine Cg _ (V9 row a b (by omega) (by omega)) ?_)
  simp only [go_sem,fN,seval,AN,AS.result,AB,AD,AK,h]
  try rfl
 ·repeat' (first | (with_reducible first | refine W ?_ | refine Z0 ?_ | ((first | refine Wo fun K hK=>?_ | refine Wp ?_ | refine Wq ?_ | refine Wr ?_);(try simp only [go_sem,fN,seval,eT,iR,h,dT,dF,nL]);(repeat refine Ai ?_);(try (refine hK _ ?_;clear hK K));try refine iC ?_)) | refine Cg _ (Ke row a b) ?_)
  simp only [go_sem,fN,seval,AN,AS.result,AB,AD,AK,h]
  try rfl

def N6:IR :=
 (.seq (.ops [.i 6 (.alloc 37 [.st (.str (ByteArray.mk (#[]))),.full []]),.i 7 (.mov (.n 0)),.i 8 (.mov (.n 0)),.i 9 (.mov (.n 0))]) (.seq (.ops [.m 16 1,.m 10 16]) (.seq (.block 0 (.loop (.seq (.seq (.ops [.m 17 1,.m 18 0,.i 19 (.len true (.t 18)),.i 20 (.bin .lss (.t 17) (.t 19)),.m 21 20,.mk (some 22) (some (21,true)) (.mov (.t 0)) .no,.mk (some 23) (some (21,true)) (.mov (.t 1)) .no,.mk (some 24) (some (21,true)) (.indexStr (.t 22) (.t 23)) .no,.mk (some 25) (some (21,true)) (.call 87 [.t 24]) .no,.i 26 (.pick (.t 21) (.t 25) (.c (.one (.st (.bool false)))))]) (.cond (.t 26) .skip (.exit 0))) (.block 1 (.ops [.m 27 1,.i 28 (.bin .add (.t 27) (.n 1)),.m 1 28]))))) (.seq (.seq (.ops [.m 29 1,.m 30 10,.i 31 (.bin .eql (.t 29) (.t 30))]) (.cond (.t 31) (.seq (.seq (.ops [.m 32 1,.m 33 0,.i 34 (.len true (.t 33)),.i 35 (.bin .eql (.t 32) (.t 34))]) (.cond (.t 35) (.seq (.ops [.i 36 (.build [.st (.str (ByteArray.mk (#[]))),.full []] []),.m 37 1,.m 38 2,.s 2 6 36,.m 7 37,.m 8 38,.i 9 (.mov (.n 13))]) .ret) .skip)) (.seq (.ops [.i 39 (.build [.st (.str (ByteArray.mk (#[]))),.full []] []),.m 40 1,.m 41 2,.s 2 6 39,.m 7 40,.m 8 41,.i 9 (.mov (.n 12))]) .ret)) .skip)) (.seq (.ops [.m 42 0,.m 43 10,.m 44 1,.i 45 (.sliceS (.t 42) (some (.t 43)) (some (.t 44))),.i 46 (.build [.st (.str (ByteArray.mk (#[]))),.full []] [(0,1,.t 45)]),.i 11 (.alloc 37 [.st (.str (ByteArray.mk (#[]))),.full []]),.s 2 11 46]) (.seq (.seq (.ops [.f 47 0 11,.l 48 47,.i 49 (.call 49 [.t 48]),.i 50 (.un .not (.t 49))]) (.cond (.t 50) (.seq (.ops [.L 51 2 11,.m 52 1,.m 53 2,.s 2 6 51,.m 7 52,.m 8 53,.i 9 (.mov (.n 1))]) .ret) .skip)) (.seq (.ops [.m 54 2,.i 55 (.bin .add (.t 54) (.n 1)),.m 2 55]) (.seq (.seq (.ops [.m 56 2,.i 57 (.bin .gtr (.t 56) (.n 200))]) (.cond (.t 57) (.seq (.ops [.L 58 2 11,.m 59 1,.m 60 2,.s 2 6 58,.m 7 59,.m 8 60,.i 9 (.mov (.n 3))]) .ret) .skip)) (.seq (.seq (.ops [.m 61 1,.m 62 0,.i 63 (.len true (.t 62)),.i 64 (.bin .eql (.t 61) (.t 63)),.m 65 64,.mk (some 66) (some (65,false)) (.mov (.t 0)) .no,.mk (some 67) (some (65,false)) (.mov (.t 1)) .no,.mk (some 68) (some (65,false)) (.indexStr (.t 66) (.t 67)) .no,.mk (some 69) (some (65,false)) (.bin .neq (.t 68) (.c (.one (.st (.int .u8 40))))) .no,.i 70 (.pick (.t 65) (.c (.one (.st (.bool true)))) (.t 69))]) (.cond (.t 70) (.seq (.ops [.L 71 2 11,.m 72 1,.m 73 2,.s 2 6 71,.m 7 72,.m 8 73,.i 9 (.mov (.n 0))]) .ret) .skip)) (.seq (.seq (.ops [.f 74 0 11,.l 75 74,.i 76 (.call 50 [.t 75])]) (.cond (.t 76) (.seq (.ops [.L 77 2 11,.m 78 1,.m 79 2,.s 2 6 77,.m 7 78,.m 8 79,.i 9 (.mov (.n 2))]) .ret) .skip)) (.block 2 (.loop (.block 3 (.seq (.ops [.m 81 0,.m 82 1,.i 83 (.bin .add (.t 82) (.n 1)),.m 84 2,.i 85 (.call 65 [.t 81,.t 83,.t 84]),.m 80 85,.i 86 (.extract 0 (.t 80)),.i 87 (.extract 1 (.t 80)),.i 88 (.extract 2 (.t 80)),.i 89 (.extract 3 (.t 80)),.i 12 (.alloc 37 [.st (.str (ByteArray.mk (#[]))),.full []]),.s 2 12 86,.m 13 87,.m 14 88,.m 15 89]) (.seq (.seq (.ops [.m 90 15,.i 91 (.bin .neq (.t 90) (.n 0))]) (.cond (.t 91) (.seq (.ops [.L 92 2 11,.m 93 13,.m 94 14,.m 95 15,.s 2 6 92,.m 7 93,.m 8 94,.m 9 95]) .ret) .skip)) (.seq (.ops [.f 96 1 11,.l 97 96,.L 98 2 12,.i 99 (.buildSlice false 37 2 [.t 98]),.i 100 (.append false 37 2 40 (.t 97) (.t 99)),.f 101 1 11,.s 1 101 100]) (.seq (.ops [.m 102 13,.m 1 102]) (.seq (.ops [.m 103 14,.m 2 103]) (.seq (.seq (.ops [.m 104 1,.m 105 0,.i 106 (.len true (.t 105)),.i 107 (.bin .eql (.t 104) (.t 106))]) (.cond (.t 107) (.seq (.ops [.L 108 2 11,.m 109 1,.m 110 2,.s 2 6 108,.m 7 109,.m 8 110,.i 9 (.mov (.n 13))]) .ret) .skip)) (.seq (.seq (.ops [.m 111 0,.m 112 1,.i 113 (.indexStr (.t 111) (.t 112)),.i 114 (.bin .eql (.t 113) (.c (.one (.st (.int .u8 41)))))]) (.cond (.t 114) (.seq (.ops [.L 115 2 11,.m 116 1,.i 117 (.bin .add (.t 116) (.n 1)),.m 118 2,.s 2 6 115,.m 7 117,.m 8 118,.i 9 (.mov (.n 0))]) .ret) .skip)) (.seq (.ops [.m 119 0,.m 120 1,.i 121 (.indexStr (.t 119) (.t 120)),.i 122 (.bin .neq (.t 121) (.c (.one (.st (.int .u8 44)))))]) (.cond (.t 122) (.seq (.ops [.L 123 2 11,.m 124 1,.m 125 2,.s 2 6 123,.m 7 124,.m 8 125,.i 9 (.mov (.n 12))]) .ret) .skip))))))))))))))))))))))
theorem Ug:OkF Tryz.prog 65 126 [] N6 [.cell 6 true 2,.t 7,.t 8,.t 9]:=.of Tryz.func65 rfl rfl (by kernel_rfl) rfl
def Om:IR :=
 (.seq (.ops [.i 2 (.alloc 37 [.st (.str (ByteArray.mk (#[]))),.full []]),.i 3 (.mov (.n 0))]) (.seq (.seq (.ops [.m 8 0,.i 9 (.len true (.t 8)),.i 10 (.bin .gtr (.t 9) (.n 4000))]) (.cond (.t 10) (.seq (.ops [.i 11 (.build [.st (.str (ByteArray.mk (#[]))),.full []] []),.s 2 2 11,.i 3 (.mov (.n 3))]) .ret) .skip)) (.seq (.ops [.m 13 0,.i 14 (.call 65 [.t 13,.n 0,.n 0]),.m 12 14,.i 15 (.extract 0 (.t 12)),.i 16 (.extract 1 (.t 12)),.i 17 (.extract 2 (.t 12)),.i 18 (.extract 3 (.t 12)),.i 4 (.alloc 37 [.st (.str (ByteArray.mk (#[]))),.full []]),.s 2 4 15,.m 5 16,.m 6 17,.m 7 18]) (.seq (.seq (.ops [.m 19 7,.i 20 (.bin .eql (.t 19) (.n 0)),.m 21 20,.mk (some 22) (some (21,true)) (.mov (.t 5)) .no,.mk (some 23) (some (21,true)) (.mov (.t 0)) .no,.mk (some 24) (some (21,true)) (.len true (.t 23)) .no,.mk (some 25) (some (21,true)) (.bin .lss (.t 22) (.t 24)) .no,.i 26 (.pick (.t 21) (.t 25) (.c (.one (.st (.bool false)))))]) (.cond (.t 26) (.ops [.i 7 (.mov (.n 12))]) .skip)) (.seq (.seq (.ops [.m 27 7,.i 28 (.bin .neq (.t 27) (.n 0))]) (.cond (.t 28) (.seq (.ops [.i 29 (.build [.st (.str (ByteArray.mk (#[]))),.full []] []),.m 30 7,.s 2 2 29,.m 3 30]) .ret) .skip)) (.seq (.ops [.L 31 2 4,.s 2 2 31,.i 3 (.mov (.n 0))]) .ret))))))
theorem Vu:OkF Tryz.prog 30 32 [] Om [.cell 2 true 2,.t 3]:=.of Tryz.func30 rfl rfl (by kernel_rfl) rfl

def NR (s:ByteArray) (i:Nat):ByteArray:=s.extract i s.size
theorem Vn (s:ByteArray) (i:Nat):(NR s i).size=s.size - i:=by
 unfold NR
 rw [ByteArray.size_extract]
 omega
theorem tail_drop {s:ByteArray} {i n:Nat} (h:i + n≤s.size):(NR s i).extract n (NR s i).size=NR s (i + n):=by
 rw [Vn]
 unfold NR
 rw [ByteArray.extract_extract]
 congr 1
 omega
def TJ (s:ByteArray):Nat→Nat→Nat
 | 0,i=>i
 | k + 1,i=>if BE (Aj s i)=true then TJ s k (i + 1) else i
def Ae (s:ByteArray) (i:Nat):Nat:=TJ s (s.size - i) i
theorem WM {s:ByteArray} {i:Nat} (h:i < s.size) (hl:BE (Aj s i)=true):Ae s i=Ae s (i + 1):=by
 unfold Ae
 obtain ⟨k,hk⟩:∃ k,s.size - i=k + 1:=⟨s.size - i - 1,by omega⟩
 rw [hk,show s.size - (i + 1)=k by omega,TJ,if_pos hl]
theorem Su {s:ByteArray} {i:Nat} (h:i < s.size) (hl:¬ BE (Aj s i)=true):Ae s i=i:=by
 unfold Ae
 obtain ⟨k,hk⟩:∃ k,s.size - i=k + 1:=⟨s.size - i - 1,by omega⟩
 rw [hk,TJ,if_neg hl]
theorem Vy {s:ByteArray} {i:Nat} (h:s.size≤i):Ae s i=i:=by
 unfold Ae
 rw [show s.size - i=0 by omega]
 rfl
theorem T3 (s:ByteArray):∀ k i:Nat,i≤TJ s k i∧TJ s k i≤i + k
 | 0,i=>⟨Nat.le_refl _,Nat.le_refl _⟩
 | k + 1,i=>by
  rw [TJ]
  split
  ·have:=T3 s k (i + 1)
   omega
  ·omega
theorem Rt {s:ByteArray} {i:Nat} (h:i≤s.size):i≤Ae s i∧Ae s i≤s.size:=by
 have:=T3 s (s.size - i) i
 unfold Ae
 omega
structure Rd where
 t:Tm
 i:Nat
 k:Nat
 e:Int
mutual
def rd (s:ByteArray):Nat→Nat→Nat→Rd
 | 0,i,k=>⟨.mk ⟨#[]⟩ [],i,k,99⟩
 | f + 1,i,k =>
  if Ae s i=i then ⟨.mk ⟨#[]⟩ [],i,k,if i=s.size then 13 else 12⟩
  else if Ay (s.extract i (Ae s i))=true then
   if 200 < k + 1 then ⟨.mk (s.extract i (Ae s i)) [],Ae s i,k + 1,3⟩
   else if Ae s i=s.size ∨ Aj s (Ae s i) ≠ 40 then ⟨.mk (s.extract i (Ae s i)) [],Ae s i,k + 1,0⟩
   else if AJ (s.extract i (Ae s i))=true then ⟨.mk (s.extract i (Ae s i)) [],Ae s i,k + 1,2⟩
   else rdA s f (s.extract i (Ae s i)) [] (Ae s i) (k + 1)
  else ⟨.mk (s.extract i (Ae s i)) [],Ae s i,k,1⟩
def rdA (s:ByteArray):Nat→ByteArray→List Tm→Nat→Nat→Rd
 | 0,n,acc,i,k=>⟨.mk ⟨#[]⟩ [],i,k,99⟩
 | f + 1,n,acc,i,k =>
  if (rd s f (i + 1) k).e=0 then
   if (rd s f (i + 1) k).i=s.size then ⟨.mk n (acc ++ [(rd s f (i + 1) k).t]),(rd s f (i + 1) k).i,(rd s f (i + 1) k).k,13⟩
   else if Aj s (rd s f (i + 1) k).i=41 then ⟨.mk n (acc ++ [(rd s f (i + 1) k).t]),(rd s f (i + 1) k).i + 1,(rd s f (i + 1) k).k,0⟩
   else if Aj s (rd s f (i + 1) k).i=44 then rdA s f n (acc ++ [(rd s f (i + 1) k).t]) (rd s f (i + 1) k).i (rd s f (i + 1) k).k
   else ⟨.mk n (acc ++ [(rd s f (i + 1) k).t]),(rd s f (i + 1) k).i,(rd s f (i + 1) k).k,12⟩
  else ⟨.mk n acc,(rd s f (i + 1) k).i,(rd s f (i + 1) k).k,(rd s f (i + 1) k).e⟩
end
structure AAg (s:ByteArray) (i k:Nat) (r:Rd):Prop where
 le:i≤r.i
 in_:r.i≤s.size
 knots:k≤r.k
 most:r.k≤201
 ok:r.e=0→i < r.i∧r.k≤200∧k < r.k∧r.t.size≤r.k - k
 err:0≤r.e∧r.e≤13
structure AAX (s:ByteArray) (acc:List Tm) (i k:Nat) (r:Rd):Prop where
 le:i≤r.i
 in_:r.i≤s.size
 knots:k≤r.k
 most:r.k≤201
 ok:r.e=0→i < r.i∧r.k≤200∧k < r.k∧r.t.size≤(r.k - k) + (1 + Tm.sizes acc)
 err:0≤r.e∧r.e≤13
theorem L2 (xs:List Tm) (a:Tm):Tm.sizes (xs ++ [a])=Tm.sizes xs + a.size:=by
 rw [Tm.sizes_append]
 simp [Tm.sizes]
mutual
theorem Zr (s:ByteArray):∀ f i k:Nat,i≤s.size→k≤200→2 * (s.size - i) < f→AAg s i k (rd s f i k)
 | 0,i,k,_,_,h=>absurd h (Nat.not_lt_zero _)
 | f + 1,i,k,hi,hk,hf=>by
  obtain ⟨l1,l2⟩:=Rt hi
  rw [rd]
  by_cases h0:Ae s i=i
  ·rw [if_pos h0]
   by_cases h1:i=s.size
   ·rw [if_pos h1]
    exact ⟨Nat.le_refl _,hi,Nat.le_refl _,by show k≤201;omega,fun h=>absurd h (by show ¬ (13:Int)=0;decide),by show (0:Int)≤13∧(13:Int)≤13;decide⟩
   ·rw [if_neg h1]
    exact ⟨Nat.le_refl _,hi,Nat.le_refl _,by show k≤201;omega,fun h=>absurd h (by show ¬ (12:Int)=0;decide),by show (0:Int)≤12∧(12:Int)≤13;decide⟩
  ·rw [if_neg h0]
   by_cases h1:Ay (s.extract i (Ae s i))=true
   ·rw [if_pos h1]
    by_cases h2:200 < k + 1
    ·rw [if_pos h2]
     exact ⟨l1,l2,Nat.le_succ _,by show k + 1≤201;omega,fun h=>absurd h (by show ¬ (3:Int)=0;decide),by show (0:Int)≤3∧(3:Int)≤13;decide⟩
    ·rw [if_neg h2]
     by_cases h3:Ae s i=s.size ∨ Aj s (Ae s i) ≠ 40
     ·rw [if_pos h3]
      exact ⟨l1,l2,Nat.le_succ _,by show k + 1≤201;omega,fun _=>⟨by show i < Ae s i;omega,by show k + 1≤200;omega,Nat.lt_succ_self _,by show (Tm.mk _ []).size≤k + 1 - k;simp [Tm.size,Tm.sizes]⟩,by show (0:Int)≤0∧(0:Int)≤13;decide⟩
     ·rw [if_neg h3]
      by_cases h4:AJ (s.extract i (Ae s i))=true
      ·rw [if_pos h4]
       exact ⟨l1,l2,Nat.le_succ _,by show k + 1≤201;omega,fun h=>absurd h (by show ¬ (2:Int)=0;decide),by show (0:Int)≤2∧(2:Int)≤13;decide⟩
      ·rw [if_neg h4]
       have hlt:Ae s i < s.size:=by
        have:Ae s i ≠ s.size:=fun h=>h3 (.inl h)
        omega
       have:=Xm s f (s.extract i (Ae s i)) [] (Ae s i) (k + 1) hlt (by omega) (by omega)
       refine ⟨Nat.le_trans l1 this.le,this.in_,by have:=this.knots;omega,this.most,fun h=>?_,this.err⟩
       obtain ⟨q1,q2,q3,q4⟩:=this.ok h
       simp only [Tm.sizes] at q4
       exact ⟨by omega,q2,by omega,by omega⟩
   ·rw [if_neg h1]
    exact ⟨l1,l2,Nat.le_refl _,by show k≤201;omega,fun h=>absurd h (by show ¬ (1:Int)=0;decide),by show (0:Int)≤1∧(1:Int)≤13;decide⟩
theorem Xm (s:ByteArray):∀ (f:Nat) (n:ByteArray) (acc:List Tm) (i k:Nat),i < s.size→k≤200→2 * (s.size - i)≤f→AAX s acc i k (rdA s f n acc i k)
 | 0,n,acc,i,k,hi,_,h=>by omega
 | f + 1,n,acc,i,k,hi,hk,hf=>by
  have h:=Zr s f (i + 1) k (by omega) hk (by omega)
  have hle:=h.le
  have hin:=h.in_
  have hkn:=h.knots
  have hmo:=h.most
  rw [rdA]
  generalize rd s f (i + 1) k=r at *
  by_cases h0:r.e=0
  ·obtain ⟨o1,o2,o3,o4⟩:=h.ok h0
   rw [if_pos h0]
   by_cases h1:r.i=s.size
   ·rw [if_pos h1]
    exact ⟨by show i≤r.i;omega,hin,hkn,hmo,fun h=>absurd h (by show ¬ (13:Int)=0;decide),by show (0:Int)≤13∧(13:Int)≤13;decide⟩
   ·rw [if_neg h1]
    by_cases h2:Aj s r.i=41
    ·rw [if_pos h2]
     refine ⟨by show i≤r.i + 1;omega,by show r.i + 1≤s.size;omega,hkn,hmo,fun _=>⟨by show i < r.i + 1;omega,o2,o3,?_⟩,by show (0:Int)≤0∧(0:Int)≤13;decide⟩
     show 1 + Tm.sizes (acc ++ [r.t])≤_
     rw [L2]
     show _≤r.k - k + _
     omega
    ·rw [if_neg h2]
     by_cases h3:Aj s r.i=44
     ·rw [if_pos h3]
      have:=Xm s f n (acc ++ [r.t]) r.i r.k (by omega) o2 (by omega)
      refine ⟨by have:=this.le;omega,this.in_,by have:=this.knots;omega,this.most,fun h=>?_,this.err⟩
      obtain ⟨q1,q2,q3,q4⟩:=this.ok h
      rw [L2] at q4
      exact ⟨by omega,q2,by omega,by omega⟩
     ·rw [if_neg h3]
      exact ⟨by show i≤r.i;omega,hin,hkn,hmo,fun h=>absurd h (by show ¬ (12:Int)=0;decide),by show (0:Int)≤12∧(12:Int)≤13;decide⟩
  ·rw [if_neg h0]
   exact ⟨by show i≤r.i;omega,hin,hkn,hmo,fun h=>absurd h h0,h.err⟩
end
def rdS (s:ByteArray):Rd:=rd s (2 * s.size + 1) 0 0
def Gn (s:ByteArray):Tm × Int:=if 4000 < s.size then (.mk ⟨#[]⟩ [],3) else if (rdS s).e=0 then (if (rdS s).i < s.size then (.mk ⟨#[]⟩ [],12) else ((rdS s).t,0)) else (.mk ⟨#[]⟩ [],(rdS s).e)

end Go.Proofs.YtbhnmjkmieiadaaGreatDoor
