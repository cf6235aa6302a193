/-
  Part 13 of the texts. Conditions: none.
-/
import Derived.Test.YtkegjgodjigjfaaAuM12
import Derived.Test.YtkegjgodjigjfaaRows
import Derived.ProofKit
import Derived.OpenShut
import Derived.JoinedCond
import Derived.Deep.Slices
namespace Go.Proofs.Ytkegjgodjigjfaa
open Go Go.RowKit
set_option maxRecDepth 100000
def IY:IR :=
 (.seq (.ops [.i 1 (.box 39 (.t 0)),.i 2 (.mov (.c (.one (.st (.str (ByteArray.mk (#[])))))))]) (.seq (.ops [.i 3 (.alloc 130 [.st (.lit (.pointer none)),.full []])]) (.seq (.ops [.L 4 2 1,.i 5 (.callS 88 [.t 3,.t 4])]) (.seq (.ops [.i 6 (.callS 89 [.t 3]),.m 2 6]) .ret))))
theorem Nv:OkF Try.prog 74 7 [5,6] IY [.t 2]:=.of Try.func74 rfl rfl (by kernel_rfl) rfl
def IN:IR :=
 (.seq (.ops [.i 3 (.box 39 (.t 1))]) (.seq (.ops [.m 6 0,.f 7 0 3,.l 8 7,.i 9 (.callS 96 [.t 6,.t 8])]) (.seq (.seq (.ops [.f 10 1 3,.l 11 10,.i 12 (.len false (.t 11)),.i 13 (.mov (.n 0))]) (.block 0 (.loop (.seq (.ops [.i 14 (.bin .lss (.t 13) (.t 12))]) (.seq (.cond (.t 14) .skip (.exit 0)) (.seq (.block 1 (.seq (.ops [.m 15 13,.i 16 (.indexAddr 2 (.t 11) (.t 13)),.L 17 2 16,.i 5 (.alloc 39 [.st (.str (ByteArray.mk (#[]))),.full []]),.m 4 15,.s 2 5 17]) (.seq (.ops [.m 18 0,.m 19 4,.i 20 (.mm false (.t 19) (.n 1)),.i 21 (.indexStr (.c (.one (.st (.str (ByteArray.mk (#[40,44])))))) (.t 20)),.i 22 (.callS 97 [.t 18,.t 21])]) (.ops [.m 23 0,.L 24 2 5,.i 25 (.callS 88 [.t 23,.t 24])])))) (.ops [.i 26 (.bin .add (.t 13) (.n 1)),.m 13 26]))))))) (.seq (.ops [.f 27 1 3,.l 28 27,.i 29 (.len false (.t 28)),.i 30 (.bin .gtr (.t 29) (.n 0))]) (.cond (.t 30) (.ops [.m 31 0,.i 32 (.callS 97 [.t 31,.c (.one (.st (.int .u8 41)))])]) .skip)))))
theorem N4:OkF Try.prog 88 33 [9,22,25,32] IN []:=.of Try.func88 rfl rfl (by kernel_rfl) rfl

set_option linter.unusedVariables false
set_option linter.unusedSimpArgs false
set_option maxHeartbeats 2000000
theorem KD {S:AB} {a0 r:Nat} {bs:ByteArray} (ha:1000≤a0) (hr:1000≤r) (hne:a0 ≠ r) (h1:S a0=some (.box bT [.ptr a0 1 0 0,.row r bs.size])) (h2:S r=some (.mrow u8T 1 (An bs))):Bld (upS S) (up1 a0) (up1 r) bs :=
 Nj ⟨ha,hr,hne,⟨_,.inr rfl,h1⟩,h2⟩
theorem WM {S S':AB} {a0 r:Nat} {bs:ByteArray} (h:Bld S a0 r bs) (h1:S' a0=S a0) (h2:S' r=S r):Bld (upS S') (up1 a0) (up1 r) bs:=by
 obtain ⟨p,hp,hb⟩:=h.box
 exact Nj ⟨h.ha,h.hr,h.ne,⟨p,hp,h1.trans hb⟩,h2.trans h.row⟩
theorem Oh {C:Ctx} {rs:List RV} {r:AV} {e:AX} {s:AS} {S:AB} {a0 r0:Nat} {bs:ByteArray} (h:Bld S a0 r0 bs) {cs:ByteArray} (rv:AV) (hS:Am S) (he:match e with | .normal=>True | .ret=>True | _=>False)
  (h1:(AH s rs).map AN=some rv) (h2:outV s.S rv=some r) (h3:s.S a0=some (.box bT [.ptr a0 1 0 0,.row r0 cs.size])) (h3':s.S r0=some (.mrow u8T 1 (An cs))) (h4:∀ i,1000≤i→i ≠ a0→i ≠ r0→s.S i=S i):IG C rs r (H4 S a0 r0 cs) e s :=
 LF rv hS h.ha h.hr (fun e=>h.ne e.symm) (K0 h.ha h.hr) rfl he h1 h2 h3 h3' h4
theorem XH (t:Tm):∀ {a0 r:Nat} {bs:ByteArray} {S:AB},Bld S a0 r bs→bs.size + t.text.size≤1000000000→A2 Try.prog 88 [.one (.ptr a0 1 0 0),aTm t] S (.tup []) (H4 S a0 r (bs ++ t.text)):=by
 obtain ⟨N,hN⟩:∃ N,SizeOf.sizeOf t < N:=⟨_,Nat.lt_succ_self _⟩
 induction N generalizing t with
 | zero=>omega
 | succ N ih =>
 intro a0 r bs S h hz
 have ha:=h.ha
 have hr:=h.hr
 have hne:=h.ne
 have hne2:¬ r=a0:=fun e=>hne e.symm
 have a3:¬ a0=3:=by omega
 have r3:¬ r=3:=by omega
 have q3:¬ 3=a0:=by omega
 have s3:¬ 3=r:=by omega
 have a5:¬ a0=5:=by omega
 have r5:¬ r=5:=by omega
 have q5:¬ 5=a0:=by omega
 have s5:¬ 5=r:=by omega
 have hn0:=t.ahead_le 0
 rw [Tm.ahead_zero] at hn0
 refine N4.acS fun hS C hC=>?_
 have k3:S 3=none:=A7 hS (by omega)
 have k5:S 5=none:=A7 hS (by omega)
 unfold IN
 repeat' with_reducible first | refine W ?_ | refine Z0 ?_ | ((first | refine Wo fun K hK=>?_ | refine Wp ?_ | refine Wq ?_ | refine Wr ?_);(try simp only [go_sem,fN,seval,eT,iR,k3,k5,dT,dF,nL]);(repeat refine Ai ?_);(try (refine hK _ ?_;clear hK K));try refine iC ?_)
 refine ⟨_,_,ML (WM h (by simp only [go_sem,fN,seval,eT,iR,a3]) (by simp only [go_sem,fN,seval,eT,iR,r3])) t.name (by omega),?_⟩
 repeat' with_reducible first | refine W ?_ | refine Z0 ?_ | ((first | refine Wo fun K hK=>?_ | refine Wp ?_ | refine Wq ?_ | refine Wr ?_);(try simp only [go_sem,fN,seval,eT,iR,H4,q3,s3,hne,hne2,k5,dT,dF,nL]);(repeat refine Ai ?_);(try (refine hK _ ?_;clear hK K));try refine iC ?_)
 refine IWP.loopD [5] (fun m s=>∃ k,k≤t.args.length∧m=t.args.length - k∧s.env 0=.one (.ptr a0 1 0 0)∧s.env 3=.one (.ptr 3 1 0 0)∧s.env 11=.one (.st (.list (t.args.map A_)))∧s.env 12=AK t.args.length∧s.env 13=AK k∧s.S 3=some (.box 39 [.st (.str t.name),.st (.list (t.args.map A_))])∧s.S 5=none∧s.S a0=some (.box bT [.ptr a0 1 0 0,.row r (bs ++ t.ahead k).size])∧s.S r=some (.mrow u8T 1 (An (bs ++ t.ahead k)))∧∀ i,1000≤i→i ≠ a0→i ≠ r→s.S i=S i) t.args.length ⟨0,Nat.zero_le _,rfl,rfl,rfl,rfl,rfl,rfl,?_,?_,?_,?_,fun i hi i1 i2=>?_⟩ ?_
 ·simp only [go_sem,fN,seval,eT,iR,q3,s3]
 ·simp only [go_sem,fN,seval,eT,iR,q5,s5,k5]
 ·rw [Tm.ahead_zero]
  simp only [go_sem,fN,seval,eT,iR,hne,hne2]
 ·rw [Tm.ahead_zero]
  simp only [go_sem,fN,seval,eT,iR,hne,hne2]
 ·have i3:¬ i=3:=by omega
  simp only [go_sem,fN,seval,eT,iR,i1,i2,i3]
 rintro m ⟨env,T⟩ ⟨k,hk,rfl,e0,e3,e11,e12,e13,t3,t5,ta,tr,th⟩
 simp only at e0 e3 e11 e12 e13 t3 t5 ta tr th
 have hah:=t.ahead_le k
 have hal0:=t.args_text
 have hg:=KD ha hr hne ta tr
 by_cases hlt:k < t.args.length
 case neg =>
  have hlt':¬ (k:Int) < t.args.length:=by omega
  have hal:=Tm.ahead_all (t:=t) (k:=k) (by omega)
  by_cases h0:k=0
  ·rw [if_pos h0,append_empty] at hal
   have hl0:¬ (0:Int) < t.args.length:=by omega
   repeat' with_reducible first | refine W ?_ | refine Z0 ?_ | ((first | refine Wo fun K hK=>?_ | refine Wp ?_ | refine Wq ?_ | refine Wr ?_);(try simp only [go_sem,fN,seval,eT,iR,e0,e3,e11,e12,e13,t3,t5,ta,tr,hlt',hl0,dT,dF,nL]);(repeat refine Ai ?_);(try (refine hK _ ?_;clear hK K));try refine iC ?_)
   refine Oh h (.tup []) hS trivial rfl rfl ?_ ?_ fun i hi i1 i2=>?_
   ·rw [hal]
    simp only [go_sem,fN,seval,eT,iR,ta]
   ·rw [hal]
    simp only [go_sem,fN,seval,eT,iR,tr]
   ·exact th i hi i1 i2
  ·rw [if_neg h0] at hal
   have hl0:(0:Int) < t.args.length:=by omega
   rw [hal,ByteArray.size_append] at hz
   have z1:(⟨#[41]⟩:ByteArray).size=1:=rfl
   repeat' with_reducible first | refine W ?_ | refine Z0 ?_ | ((first | refine Wo fun K hK=>?_ | refine Wp ?_ | refine Wq ?_ | refine Wr ?_);(try simp only [go_sem,fN,seval,eT,iR,e0,e3,e11,e12,e13,t3,t5,ta,tr,hlt',hl0,dT,dF,nL]);(repeat refine Ai ?_);(try (refine hK _ ?_;clear hK K));try refine iC ?_)
   refine ⟨_,_,(GG hg 41 (by rw [ByteArray.size_append];omega):A2 _ _ [_,.one (.st (.int .u8 41))] _ _ _),?_⟩
   repeat' with_reducible first | refine W ?_ | refine Z0 ?_ | ((first | refine Wo fun K hK=>?_ | refine Wp ?_ | refine Wq ?_ | refine Wr ?_);(try simp only [go_sem,fN,seval,eT,iR,H4,q3,s3,hne,hne2,dT,dF,nL]);(repeat refine Ai ?_);(try (refine hK _ ?_;clear hK K));try refine iC ?_)
   rw [hal,← ByteArray.append_assoc]
   refine Oh h (.tup []) hS trivial rfl rfl ?_ ?_ fun i hi i1 i2=>?_
   ·simp only [go_sem,fN,seval,eT,iR,hne,hne2]
    try rfl
   ·simp only [go_sem,fN,seval,eT,iR,hne,hne2]
    try rfl
   ·simp only [go_sem,fN,seval,eT,iR,i1,i2]
    exact th i hi i1 i2
 have hlt':(k:Int) < t.args.length:=by omega
 obtain ⟨a,haa⟩:=Ab hlt
 have hm:=AM haa
 have hta:=Tm.text_lt hm
 have hs:=@ih a (by have:=Tm.lt_of_arg hm;omega)
 have hnx:=Tm.ahead_succ haa
 have h1:=t.ahead_le (k + 1)
 rw [hnx,ByteArray.size_append,ByteArray.size_append,Hm] at h1
 have z1:(⟨#[40]⟩:ByteArray).size=1:=rfl
 have z2:(⟨#[44]⟩:ByteArray).size=1:=rfl
 have ab5:(a0 == 5)=false:=beq_false_of_ne (by omega)
 have rb5:(r == 5)=false:=beq_false_of_ne (by omega)
 have b0:Je (⟨#[40,44]⟩:ByteArray) 0=40:=by decide
 have b1:Je (⟨#[40,44]⟩:ByteArray) 1=44:=by decide
 have hg0:∀ B C:AL,Bld (upS (AD (AD T 5 (some B)) 5 (some C))) (up1 a0) (up1 r) (bs ++ t.ahead k):=fun B C=>KD ha hr hne (by simp only [go_sem,fN,seval,eT,iR,a5,ta]) (by simp only [go_sem,fN,seval,eT,iR,r5,tr])
 by_cases h0:k=0
 ·subst h0
  rw [Oz] at hnx
  have hl0:(0:Int) < t.args.length:=by omega
  repeat' with_reducible first | refine W ?_ | refine Z0 ?_ | ((first | refine Wo fun K hK=>?_ | refine Wp ?_ | refine Wq ?_ | refine Wr ?_);(try simp only [go_sem,fN,seval,eT,iR,e0,e3,e11,e12,e13,t3,t5,ta,tr,hl0,haa,b0,dT,dF,nL]);(repeat refine Ai ?_);(try (refine hK _ ?_;clear hK K));try refine iC ?_)
  refine ⟨_,_,(GG (hg0 _ _) 40 (by rw [ByteArray.size_append];omega):A2 _ _ [_,.one (.st (.int .u8 40))] _ _ _),?_⟩
  repeat' with_reducible first | refine W ?_ | refine Z0 ?_ | ((first | refine Wo fun K hK=>?_ | refine Wp ?_ | refine Wq ?_ | refine Wr ?_);(try simp only [go_sem,fN,seval,eT,iR,e0,e3,e11,e12,e13,t3,H4,q3,s3,q5,s5,hne,hne2,dT,dF,nL]);(repeat refine Ai ?_);(try (refine hK _ ?_;clear hK K));try refine iC ?_)
  refine ⟨_,_,hs (KD (bs:=bs ++ t.ahead 0 ++ ⟨#[40]⟩) ha hr hne (by simp only [go_sem,fN,seval,eT,iR,hne,hne2]) (by simp only [go_sem,fN,seval,eT,iR,hne,hne2])) (by rw [ByteArray.size_append,ByteArray.size_append];omega),?_⟩
  repeat' with_reducible first | refine W ?_ | refine Z0 ?_ | ((first | refine Wo fun K hK=>?_ | refine Wp ?_ | refine Wq ?_ | refine Wr ?_);(try simp only [go_sem,fN,seval,eT,iR,e0,e3,e11,e12,e13,t3,H4,q3,s3,q5,s5,hne,hne2,dT,dF,nL]);(repeat refine Ai ?_);(try (refine hK _ ?_;clear hK K));try refine iC ?_)
  refine AA ⟨t.args.length - (0 + 1),by omega,0 + 1,by omega,rfl,?_⟩
  simp only [go_sem,fN,seval,AS.drop,AY,AC.clears,AC.clear,AC.highs,AC.high,Bool.not_false,Bool.true_and,Bool.and_self,AV.purge,AV.purges,AC.purge,AL.purge,List.contains_cons,List.contains_nil,Nat.reduceBEq,Bool.or_self,Bool.or_false,Bool.false_or,Bool.or_true,eT,iR,e0,e3,e11,e12,e13,t3,hne,hne2,hnx,q3,s3,q5,s5,ab5,rb5]
  refine ⟨by simp only [Nat.add_assoc],by simp only [ByteArray.append_assoc],fun i hi i1 i2=>?_⟩
  have i5:¬ i=5:=by omega
  have i5b:(i == 5)=false:=beq_false_of_ne i5
  simp only [i5b,i5,i1,i2,if_false,Bool.false_eq_true]
  rw [th i hi i1 i2]
  exact Vj (by decide) fun b hb=>(hS i b hb).2
 ·rw [OZ h0] at hnx
  have h0':(if (1:Int) < (k:Int) then (1:Int) else (k:Int))=1:=by split <;> omega
  repeat' with_reducible first | refine W ?_ | refine Z0 ?_ | ((first | refine Wo fun K hK=>?_ | refine Wp ?_ | refine Wq ?_ | refine Wr ?_);(try simp only [go_sem,fN,seval,eT,iR,e0,e3,e11,e12,e13,t3,t5,ta,tr,hlt',h0',haa,b1,dT,dF,nL]);(repeat refine Ai ?_);(try (refine hK _ ?_;clear hK K));try refine iC ?_)
  refine ⟨_,_,(GG (hg0 _ _) 44 (by rw [ByteArray.size_append];omega):A2 _ _ [_,.one (.st (.int .u8 44))] _ _ _),?_⟩
  repeat' with_reducible first | refine W ?_ | refine Z0 ?_ | ((first | refine Wo fun K hK=>?_ | refine Wp ?_ | refine Wq ?_ | refine Wr ?_);(try simp only [go_sem,fN,seval,eT,iR,e0,e3,e11,e12,e13,t3,H4,q3,s3,q5,s5,hne,hne2,dT,dF,nL]);(repeat refine Ai ?_);(try (refine hK _ ?_;clear hK K));try refine iC ?_)
  refine ⟨_,_,hs (KD (bs:=bs ++ t.ahead k ++ ⟨#[44]⟩) ha hr hne (by simp only [go_sem,fN,seval,eT,iR,hne,hne2]) (by simp only [go_sem,fN,seval,eT,iR,hne,hne2])) (by rw [ByteArray.size_append,ByteArray.size_append];omega),?_⟩
  repeat' with_reducible first | refine W ?_ | refine Z0 ?_ | ((first | refine Wo fun K hK=>?_ | refine Wp ?_ | refine Wq ?_ | refine Wr ?_);(try simp only [go_sem,fN,seval,eT,iR,e0,e3,e11,e12,e13,t3,H4,q3,s3,q5,s5,hne,hne2,dT,dF,nL]);(repeat refine Ai ?_);(try (refine hK _ ?_;clear hK K));try refine iC ?_)
  refine AA ⟨t.args.length - (k + 1),by omega,k + 1,by omega,rfl,?_⟩
  simp only [go_sem,fN,seval,AS.drop,AY,AC.clears,AC.clear,AC.highs,AC.high,Bool.not_false,Bool.true_and,Bool.and_self,AV.purge,AV.purges,AC.purge,AL.purge,List.contains_cons,List.contains_nil,Nat.reduceBEq,Bool.or_self,Bool.or_false,Bool.false_or,Bool.or_true,eT,iR,e0,e3,e11,e12,e13,t3,hne,hne2,hnx,q3,s3,q5,s5,ab5,rb5]
  refine ⟨by congr 3,by simp only [Nat.add_assoc],by simp only [ByteArray.append_assoc],fun i hi i1 i2=>?_⟩
  have i5:¬ i=5:=by omega
  have i5b:(i == 5)=false:=beq_false_of_ne i5
  simp only [i5b,i5,i1,i2,if_false,Bool.false_eq_true]
  rw [th i hi i1 i2]
  exact Vj (by decide) fun b hb=>(hS i b hb).2
theorem Ub (t:Tm) (h0:0 < t.name.size) (hz:t.text.size≤100000000):AU Try.prog 74 [aTm t] (Da t.text):=by
 have hn0:=t.ahead_le 0
 rw [Tm.ahead_zero] at hn0
 have hne:∀ b:ByteArray,(⟨#[]⟩:ByteArray) ++ b=b:=empty_append
 refine Nv.ac fun C hC=>?_
 unfold IY
 refine W ?_
 refine Wo (fun K hK=>?_)
 (try simp only [go_sem,fN,seval,eT,iR])
 (repeat with_reducible refine Ai ?_)
 refine hK _ ?_
 clear hK K
 refine W ?_
 refine W ?_
 refine Wo (fun K hK=>?_)
 (try simp only [go_sem,fN,seval,eT,iR])
 (repeat with_reducible refine Ai ?_)
 refine hK _ ?_
 clear hK K
 refine W ?_
 refine IWP.ghost (Ad.ownCell (id:=3) (r:=900) (e':=u8T) 1 1 (by rfl) (by rfl) (by rfl) (by decide)) ?_
 repeat' with_reducible first | refine W ?_ | refine Z0 ?_ | ((first | refine Wo fun K hK=>?_ | refine Wp ?_ | refine Wq ?_ | refine Wr ?_);(try simp only [go_sem,fN,seval,eT,iR,dT,dF,nL]);(repeat refine Ai ?_);(try (refine hK _ ?_;clear hK K));try refine iC ?_)
 refine ⟨_,_,XH t (a0:=up1 3) (r:=up1 900) (bs:=⟨#[]⟩) ⟨by decide,by decide,by decide,⟨_,.inl rfl,by rw [Bl];rfl⟩,by rw [Bl];rfl⟩ (by show 0 + _≤_;omega),?_⟩
 repeat' with_reducible first | refine W ?_ | refine Z0 ?_ | ((first | refine Wo fun K hK=>?_ | refine Wp ?_ | refine Wq ?_ | refine Wr ?_);(try simp only [go_sem,fN,seval,eT,iR,H4,dT,dF,nL]);(repeat refine Ai ?_);(try (refine hK _ ?_;clear hK K));try refine iC ?_)
 refine ⟨_,_,J3 (a0:=up1 3) (r:=up1 900) (bs:=⟨#[]⟩ ++ t.text) ⟨by decide,by decide,by decide,⟨_,.inr rfl,by rw [Bl];(simp only [go_sem,fN,seval,eT,iR];try rfl)⟩,by rw [Bl];(simp only [go_sem,fN,seval,eT,iR];try rfl)⟩ (by rw [hne];omega) (by rw [hne];omega),?_⟩
 repeat' with_reducible first | refine W ?_ | refine Z0 ?_ | ((first | refine Wo fun K hK=>?_ | refine Wp ?_ | refine Wq ?_ | refine Wr ?_);(try simp only [go_sem,fN,seval,eT,iR,dT,dF,nL]);(repeat refine Ai ?_);(try (refine hK _ ?_;clear hK K));try refine iC ?_)
 simp only [go_sem,fN,seval,AP,AS.result,AH,AI,AN]
 rw [hne]

def H0:IR :=
 (.seq (.ops [.i 1 (.box 39 (.t 0)),.i 2 (.mov (.n 0))]) (.seq (.ops [.i 3 (.mov (.n 1))]) (.seq (.seq (.ops [.f 6 1 1,.l 7 6,.i 8 (.len false (.t 7)),.i 9 (.mov (.n 0))]) (.block 0 (.loop (.seq (.ops [.i 10 (.bin .lss (.t 9) (.t 8))]) (.seq (.cond (.t 10) .skip (.exit 0)) (.seq (.block 1 (.seq (.ops [.i 11 (.indexAddr 2 (.t 7) (.t 9)),.L 12 2 11,.i 5 (.alloc 39 [.st (.str (ByteArray.mk (#[]))),.full []]),.s 2 5 12]) (.ops [.m 13 3,.L 14 2 5,.i 15 (.call 60 [.t 14]),.i 16 (.bin .add (.t 13) (.t 15)),.m 3 16]))) (.ops [.i 17 (.bin .add (.t 9) (.n 1)),.m 9 17]))))))) (.seq (.ops [.m 18 3,.m 2 18]) .ret))))
theorem N6:OkF Try.prog 60 19 [] H0 [.t 2]:=.of Try.func60 rfl rfl (by kernel_rfl) rfl

theorem ID (t:Tm) (hz:t.size≤1000000):AU Try.prog 60 [aTm t] (AK t.size):=by
 induction h:SizeOf.sizeOf t using Nat.strongRecOn generalizing t with
 | _ N ih =>
 subst h
 have hs:=Tm.size_eq t
 have hln:=Tm.length_le t.args
 refine N6.ac fun C hC=>?_
 unfold H0
 repeat' with_reducible first | refine W ?_ | refine Z0 ?_ | ((first | refine Wo fun K hK=>?_ | refine Wp ?_ | refine Wq ?_ | refine Wr ?_);(try simp only [go_sem,fN,seval,eT,iR,dT,dF,nL]);(repeat refine Ai ?_);(try (refine hK _ ?_;clear hK K));try refine iC ?_)
 refine IWP.loopD [5] (fun m s=>∃ k,k≤t.args.length∧m=t.args.length - k∧s.env 3=AK ((1 + Tm.sizes (t.args.take k):Nat):Int)∧s.env 7=JU t.args∧s.env 8=AK t.args.length∧s.env 9=AK k∧s.S 5=none) t.args.length ⟨0,Nat.zero_le _,rfl,rfl,rfl,rfl,rfl,rfl⟩ ?_
 rintro m ⟨env,S⟩ ⟨k,hk,rfl,e3,e7,e8,e9,s5⟩
 simp only at e3 e7 e8 e9 s5
 by_cases hlt:(k:Int) < t.args.length
 ·obtain ⟨a,ha⟩:=Ab (show k < t.args.length by omega)
  have h1:=Tm.sizes_take ha
  have h2:=Tm.sizes_take_le t.args (k + 1)
  repeat' (first | (with_reducible first | refine W ?_ | refine Z0 ?_ | ((first | refine Wo fun K hK=>?_ | refine Wp ?_ | refine Wq ?_ | refine Wr ?_);(try simp only [go_sem,fN,seval,eT,iR,e3,e7,e8,e9,s5,hlt,ha,dT,dF,nL]);(repeat refine Ai ?_);(try (refine hK _ ?_;clear hK K));try refine iC ?_)) | refine Cg _ (ih _ (Tm.lt_of_arg (AM ha)) a (by omega) rfl) ?_)
  refine AA ⟨t.args.length - (k + 1),by omega,k + 1,by omega,rfl,?_⟩
  simp only [go_sem,fN,seval,AS.drop,AY,AC.clears,AC.clear,AC.highs,AC.high,Bool.not_false,Bool.true_and,Bool.and_self,AV.purge,AV.purges,AC.purge,AL.purge,List.contains_cons,List.contains_nil,Nat.reduceBEq,Bool.or_self,Bool.or_false,Bool.false_or,Bool.or_true,eT,iR,e3,e7,e8,e9,s5]
  exact ⟨by rw [h1];congr 3;omega,by congr 3⟩
 ·repeat' with_reducible first | refine W ?_ | refine Z0 ?_ | ((first | refine Wo fun K hK=>?_ | refine Wp ?_ | refine Wq ?_ | refine Wr ?_);(try simp only [go_sem,fN,seval,eT,iR,e3,e7,e8,e9,hlt,dT,dF,nL]);(repeat refine Ai ?_);(try (refine hK _ ?_;clear hK K));try refine iC ?_)
  simp only [go_sem,fN,seval,AP,AS.result,AH,AI,AN]
  rw [List.take_of_length_le (by omega),hs]

def Gl (a:Au) (t:Tm):Int:=if a.may 8 40=0 then (if t.may=0 then (if t.varsOf.length=0 then 0 else 15) else t.may) else a.may 8 40
theorem Ty (a:Au) (t:Tm) (hl:a.last.length≤100000) (hz:t.size≤1000000):AU Try.prog 19 [aAu a,aTm t] (.tup [Ag (decide (Gl a t=0) && a.acc t),AK (Gl a t)]):=by
 by_cases h1:a.may 8 40=0
 case neg =>
  have e:Gl a t=a.may 8 40:=if_neg h1
  rw [e]
  refine CF.ac fun C hC=>?_
  unfold Bq
  repeat' (first | (with_reducible first | refine W ?_ | refine Z0 ?_ | ((first | refine Wo fun K hK=>?_ | refine Wp ?_ | refine Wq ?_ | refine Wr ?_);(try simp only [go_sem,fN,seval,eT,iR,h1,dT,dF,nL]);(repeat refine Ai ?_);(try (refine hK _ ?_;clear hK K));try refine iC ?_)) | refine Cg _ (BV a) ?_)
  simp only [go_sem,fN,seval,AP,AS.result,AH,AI,AN,h1]
  rfl
 case pos =>
 have e1:Gl a t=if t.may=0 then (if t.varsOf.length=0 then 0 else 15) else t.may:=if_pos h1
 have ga:=Au.may_good h1
 obtain ⟨a1,_,_⟩:=Au.may_ok.1 h1
 by_cases h2:t.may=0
 case neg =>
  rw [e1,if_neg h2]
  refine CF.ac fun C hC=>?_
  unfold Bq
  repeat' (first | (with_reducible first | refine W ?_ | refine Z0 ?_ | ((first | refine Wo fun K hK=>?_ | refine Wp ?_ | refine Wq ?_ | refine Wr ?_);(try simp only [go_sem,fN,seval,eT,iR,h1,h2,dT,dF,nL]);(repeat refine Ai ?_);(try (refine hK _ ?_;clear hK K));try refine iC ?_)) | refine Cg _ (BV a) ?_ | refine Cg _ (Io t) ?_)
  simp only [go_sem,fN,seval,AP,AS.result,AH,AI,AN,h2]
  rfl
 case pos =>
 rw [if_pos h2] at e1
 by_cases h3:t.varsOf.length=0
 case neg =>
  rw [if_neg h3] at e1
  rw [e1]
  have h3':(0:Int) < t.varsOf.length:=by omega
  refine CF.ac fun C hC=>?_
  unfold Bq
  repeat' (first | (with_reducible first | refine W ?_ | refine Z0 ?_ | ((first | refine Wo fun K hK=>?_ | refine Wp ?_ | refine Wq ?_ | refine Wr ?_);(try simp only [go_sem,fN,seval,eT,iR,h1,h2,h3',dT,dF,nL]);(repeat refine Ai ?_);(try (refine hK _ ?_;clear hK K));try refine iC ?_)) | refine Cg _ (BV a) ?_ | refine Cg _ (Io t) ?_ | refine Cg _ (Qj t hz) ?_)
  simp only [go_sem,fN,seval,AP,AS.result,AH,AI,AN]
  rfl
 case pos =>
 rw [if_pos h3] at e1
 rw [e1]
 have hacc:=US ga t
 have hE:=Xo a ga (by omega) (by omega) t hz
 have hL:=IE a ga (by omega) hl
 have iE:=V0 (l:=a.ends t) (by rw [a.ends_length];omega)
 have iL:=V0 (l:=a.lastB) (by rw [a.lastB_length];omega)
 have h0:(0:Int)≤(bN (a.ends t):Int)∧(0:Int)≤(bN a.lastB:Int):=⟨Int.natCast_nonneg _,Int.natCast_nonneg _⟩
 cases hq:a.acc t with
 | true =>
  rw [hq] at hacc
  have hne:¬ ((bN (a.ends t) &&& bN a.lastB:Nat):Int)=0:=fun e=>hacc.2 rfl (by omega)
  refine CF.ac fun C hC=>?_
  unfold Bq
  repeat' (first | (with_reducible first | refine W ?_ | refine Z0 ?_ | ((first | refine Wo fun K hK=>?_ | refine Wp ?_ | refine Wq ?_ | refine Wr ?_);(try simp only [go_sem,fN,seval,eT,iR,h1,h2,h3,HG,h0,Int.toNat_natCast,hne,dT,dF,nL]);(repeat refine Ai ?_);(try (refine hK _ ?_;clear hK K));try refine iC ?_)) | refine Cg _ (BV a) ?_ | refine Cg _ (Io t) ?_ | refine Cg _ (Qj t hz) ?_ | refine Cg _ (hE) ?_ | refine Cg _ (hL) ?_)
  simp only [go_sem,fN,seval,AP,AS.result,AH,AI,AN,hne]
  rfl
 | false =>
  rw [hq] at hacc
  have hne:((bN (a.ends t) &&& bN a.lastB:Nat):Int)=0:=by
   by_cases e:bN (a.ends t) &&& bN a.lastB=0
   ·rw [e];rfl
   ·exact absurd (hacc.1 e) (by decide)
  refine CF.ac fun C hC=>?_
  unfold Bq
  repeat' (first | (with_reducible first | refine W ?_ | refine Z0 ?_ | ((first | refine Wo fun K hK=>?_ | refine Wp ?_ | refine Wq ?_ | refine Wr ?_);(try simp only [go_sem,fN,seval,eT,iR,h1,h2,h3,HG,h0,Int.toNat_natCast,hne,dT,dF,nL]);(repeat refine Ai ?_);(try (refine hK _ ?_;clear hK K));try refine iC ?_)) | refine Cg _ (BV a) ?_ | refine Cg _ (Io t) ?_ | refine Cg _ (Qj t hz) ?_ | refine Cg _ (hE) ?_ | refine Cg _ (hL) ?_)
  simp only [go_sem,fN,seval,AP,AS.result,AH,AI,AN,hne]
  rfl
theorem Ob {t:Tm} (h:FF t):0 < t.name.size:=by
 have h1:=h.1
 rw [Tm.chk_eq] at h1
 split at h1
 ·rename_i h0
  have:=Jz h0
  omega
 ·rename_i h0
  exact absurd h1 h0
theorem Up (a b:Tm) (ha:FF a) (hb:FF b):AU Try.prog 61 [aTm a,aTm b] (Ag (Dt a b)):=by
 have za:=ha.2
 have zb:=hb.2
 have ta:=GR ha
 have tb:=GR hb
 by_cases h:a.size=b.size
 ·have e:Dt a b=sLt a.text b.text:=if_pos h
  rw [e]
  have h':(a.size:Int) - b.size=0:=by omega
  refine IT.ac fun C hC=>?_
  unfold FV
  repeat' (first | (with_reducible first | refine W ?_ | refine Z0 ?_ | ((first | refine Wo fun K hK=>?_ | refine Wp ?_ | refine Wq ?_ | refine Wr ?_);(try simp only [go_sem,fN,seval,eT,iR,h',dT,dF,nL]);(repeat refine Ai ?_);(try (refine hK _ ?_;clear hK K));try refine iC ?_)) | refine Cg _ (ID a (by omega)) ?_ | refine Cg _ (ID b (by omega)) ?_ | refine Cg _ (Ub a (Ob ha) (by omega)) ?_ | refine Cg _ (Ub b (Ob hb) (by omega)) ?_)
  simp only [go_sem,fN,seval,AP,AS.result,AH,AI,AN]
 ·have e:Dt a b=decide (a.size < b.size):=if_neg h
  rw [e]
  have h':¬ (a.size:Int) - b.size=0:=by omega
  have h2:((a.size:Int) - b.size < 0)=(a.size < b.size):=by rw [eq_iff_iff];omega
  refine IT.ac fun C hC=>?_
  unfold FV
  repeat' (first | (with_reducible first | refine W ?_ | refine Z0 ?_ | ((first | refine Wo fun K hK=>?_ | refine Wp ?_ | refine Wq ?_ | refine Wr ?_);(try simp only [go_sem,fN,seval,eT,iR,h',h2,dT,dF,nL]);(repeat refine Ai ?_);(try (refine hK _ ?_;clear hK K));try refine iC ?_)) | refine Cg _ (ID a (by omega)) ?_ | refine Cg _ (ID b (by omega)) ?_)
  simp only [go_sem,fN,seval,AP,AS.result,AH,AI,AN]
theorem Mc (a b:Tm) (ha:FF a) (hb:FF b):AU Try.prog 59 [aTm a,aTm b] (Ag (Dt a b)):=by
 have za:=ha.2
 have zb:=hb.2
 have ta:=GR ha
 have tb:=GR hb
 have ca:BO a.size 2000=a.size:=by unfold BO;split <;> omega
 have cb:BO b.size 2000=b.size:=by unfold BO;split <;> omega
 have sa:=Dv a 2000 (by decide) (by decide)
 have sb:=Dv b 2000 (by decide) (by decide)
 rw [ca] at sa
 rw [cb] at sb
 by_cases h:a.size=b.size
 ·have e:Dt a b=sLt a.text b.text:=if_pos h
  rw [e]
  have h':(a.size:Int)=b.size:=by omega
  refine Ho.ac fun C hC=>?_
  unfold Fb
  repeat' (first | (with_reducible first | refine W ?_ | refine Z0 ?_ | ((first | refine Wo fun K hK=>?_ | refine Wp ?_ | refine Wq ?_ | refine Wr ?_);(try simp only [go_sem,fN,seval,eT,iR,h',dT,dF,nL]);(repeat refine Ai ?_);(try (refine hK _ ?_;clear hK K));try refine iC ?_)) | refine Cg _ (sa) ?_ | refine Cg _ (sb) ?_ | refine Cg _ (Rx a (by omega)) ?_ | refine Cg _ (Rx b (by omega)) ?_)
  simp only [go_sem,fN,seval,AP,AS.result,AH,AI,AN]
 ·have e:Dt a b=decide (a.size < b.size):=if_neg h
  rw [e]
  have h':¬ (a.size:Int)=b.size:=by omega
  refine Ho.ac fun C hC=>?_
  unfold Fb
  repeat' (first | (with_reducible first | refine W ?_ | refine Z0 ?_ | ((first | refine Wo fun K hK=>?_ | refine Wp ?_ | refine Wq ?_ | refine Wr ?_);(try simp only [go_sem,fN,seval,eT,iR,h',dT,dF,nL]);(repeat refine Ai ?_);(try (refine hK _ ?_;clear hK K));try refine iC ?_)) | refine Cg _ (sa) ?_ | refine Cg _ (sb) ?_)
  simp only [go_sem,fN,seval,AP,AS.result,AH,AI,AN]

section
variable {C:Ctx} {s:AS}
theorem Ad.ice (t:Nat) {id:Nat} {e:TypeId} {cs:List AC} {xs:List SV} (hS:s.S id=some (.box e cs)) (hc:stCs s.S cs=some xs) (ht:s.env t=.one (.ptr id 1 0 0)) (hn:t < C.n):Ad C s ⟨AD s.env t (.one (.eptr xs)),AD s.S id (some (.dead 1 0))⟩:=fun a w ⟨σ,ι,R⟩=>by
 have hb:=R.blk _ _ hS
 cases hb with
 | @box _ _ g vs h1 h2 h3 h4 h5 =>
  have hsc:=R.stCs h4 hc
  have hkeep:=E7 (σ:=σ) (w':=w) (g:=g) (k:=vs.size) (fun p x ep hx=>by rw [h5 _ ep] at hx;cases hx)
  obtain ⟨hu,R'⟩:=R.turn (w':=w) hS (.dead 1 0) (ι id) (σ':=EQ σ w g vs.size) hkeep (fun p hp _=>Eu (fun e=>hp (by rw [e];exact h1))) (ER R.fit) (Nat.le_refl _) (fun _=>⟨rfl,rfl⟩) ⟨rfl,rfl,rfl⟩ (Nat.le_refl _) (fun _ _ _=>rfl) (fun g h=>.inl h) (fun hu=>.dead fun g' hg'=>⟨_,(by rw [h1] at hg';cases hg';exact h3),rfl⟩)
  refine ⟨_,_,{ R' with env:=fun i hi=>?_ }⟩
  show AT _ _ _ _ (AD s.env t _ i)
  unfold AD
  split
  ·rename_i hit
   subst hit
   have:=R.env i hi
   rw [ht] at this
   have hv:=AW this
   generalize a.tmps.getD i undef=v at hv
   cases hv with
   | ptr k1 k2 k3 k4 =>
    rw [hS] at k1
    cases k1
    obtain ⟨g',q1,q2⟩:=k4 rfl
    rw [h1] at q1
    cases q1
    rw [q2]
    have key:∀ j x,xs[j]?=some x→∃ v,vs[j]?=some v∧At σ v x:=fun j x hx=>by
     obtain ⟨v,v1,v2⟩:=hsc.get hx
     exact ⟨v,by simpa using v1,v2⟩
    have hlen:vs.size=xs.length:=by simpa using hsc.len
    refine .one (.eptr (o:=0) (fun j=>(vs[j]?).getD undef) (fun j x hx=>?_) (fun j x hx=>?_) (fun _ q=>?_))
    ·obtain ⟨v,v1,v2⟩:=key j x hx
     have hj:j < vs.size:=(Array.getElem?_eq_some_iff.1 v1).1
     rw [Nat.zero_add,KE hj,cell_of_row w g _ _ _ _ h3]
     simp [v1]
    ·obtain ⟨v,v1,v2⟩:=key j x hx
     rw [v1]
     exact v2.mono hkeep
    ·rw [GY (by omega),FD h3]
  ·exact R'.env i hi
end

theorem Ad.toRef {C:Ctx} {s:AS} (t:Nat) {cs:List SV} (ht:s.env t=.one (.eptr cs)) (hn:t < C.n):Ad C s ⟨AD s.env t (.one (.st (.ref cs))),s.S⟩:=fun a w ⟨σ,ι,R⟩=>by
 have hv:=R.env t hn
 rw [ht] at hv
 refine ⟨σ,ι,{ R with env:=fun i hi=>?_ }⟩
 show AT σ s.S ι _ (AD s.env t _ i)
 by_cases hi':i=t
 ·subst hi'
  rw [AG]
  exact .one (.st (WA (AW hv)))
 ·rw [AF _ hi']
  exact R.env i hi

set_option maxHeartbeats 4000000
abbrev Iy (t:Tm):List SV:=[.str t.name,.list (t.args.map A_)]
def Gr:Option Tm→SV
 | none=>.lit (.pointer none)
 | some t=>.ref (Iy t)
def Gp (o:Option Tm):List SV:=[Gr o]
abbrev Xk (m:Mv):AL:=.box 46 [.st (.str m.name),.st (.list (m.frm.map BK)),.st (.int .i64 m.to_)]
abbrev Qg:AL:=.box 39 [.st (.str ⟨#[]⟩),.full []]
theorem T8 {best:BJ} {i:Nat} (h:i < best.length):∃ o,best[i]?=some o∧best.getD i none=o:=by
 refine ⟨best[i],List.getElem?_eq_getElem h,?_⟩
 rw [List.getD_eq_getElem?_getD,List.getElem?_eq_getElem h]
 rfl
def Ju (o:Option Tm):AV:=match o with
 | none=>.tup [aTm Tm.nil,AK 7]
 | some t=>.tup [aTm t,AK 0]
theorem XF {a:Au} (ha:a.may 8 40=0):∀ m ∈ a.moves,OU m:=fun m hm=>by
 have h:=Mv.err_ok.1 ((Au.may_ok.1 ha).2.1 m hm)
 exact ⟨h.1,h.2.1⟩
theorem XD {m:Mv} (h:OU m):¬ m.name=⟨#[]⟩:=fun e=>by
 have:=h.1.1
 rw [e] at this
 exact absurd this (by decide)
theorem Mh {ms:List Mv} {k:Nat} {m:Mv} {best:BJ} (hm:ms[k]?=some m):(ms.take (k + 1)).foldl BT (best,false)=BT ((ms.take k).foldl BT (best,false)) m:=by
 rw [AQ hm,List.foldl_append]
 rfl
theorem QK (best:BJ) (i:Nat) (t:Tm):(best.map Gp).set i [.ref (Iy t)]=(best.set i (some t)).map Gp:=by
 rw [List.map_set]
 rfl
theorem Ol {b:Nat}:∀ {ts:List Tm},(∀ t ∈ ts,t.size≤b)→Tm.sizes ts≤b * ts.length
 | [],_=>by simp [Tm.sizes]
 | t :: ts,h=>by
  have h1:=Ol fun x hx=>h x (List.mem_cons_of_mem _ hx)
  have h2:=h t (by simp)
  rw [Tm.sizes,List.length_cons,Nat.mul_add]
  omega
theorem WV {ts:List Tm} {j:Nat} (h:ts.length=j) (y:List SV):(ts.map A_ ++ [y])[j]?=some y:=by
 subst h
 simp
theorem WT {ts:List Tm} {j:Nat} (h:ts.length=j) (y z:List SV):(ts.map A_ ++ [y]).set j z=ts.map A_ ++ [z]:=by
 subst h
 rw [List.set_append_right _ _ (by simp)]
 simp
theorem WW (a:Au) (hl:a.last.length≤100000) (ha:a.may 8 40=0) {n:Nat} {out:BJ} (hout:Jq a.moves n (DD a) out):AU Try.prog 43 [aAu a] (Ju (ED out a.last)):=by
 have ga:=Au.may_good ha
 have hst:=ga.states
 obtain ⟨a1,_,_⟩:=Au.may_ok.1 ha
 have hmv:=XF ha
 have hnl:(DD a).length=a.states.toNat:=by simp [DD]
 obtain ⟨hoo,hol⟩:=Lj hmv (GC a) hout
 have hrep:(DD a).map Gp=List.replicate a.states.toNat [SV.lit (.pointer none)]:=by
  rw [DD,List.map_replicate]
  rfl
 have hts:((a.states.toNat:Nat):Int)=a.states:=by omega
 refine Ig.ac fun C hC=>?_
 unfold Fi
 repeat' (first | (with_reducible first | refine W ?_ | refine Z0 ?_ | ((first | refine Wo fun K hK=>?_ | refine Wp ?_ | refine Wq ?_ | refine Wr ?_);(try simp only [go_sem,fN,seval,eT,iR,ha,hrep,dT,dF,nL]);(repeat refine Ai ?_);(try (refine hK _ ?_;clear hK K));try refine iC ?_)) | refine Cg _ (BV a) ?_)
 refine IWP.loopD [8,9,959] (fun q s=>∃ n more best,q=(if more=true then n + 1 else 0)∧(if more=true then Jq a.moves n best out else best=out)∧Dc best∧best.length=a.states.toNat∧s.env 1=.one (.ptr 1 1 0 0)∧s.env 2=.one (.ptr 2 1 0 0)∧s.S 1=some (AE a)∧s.S 2=some Qg∧s.env 5=.one (.row 23 a.states.toNat)∧s.S 23=some (.mrow 105 1 (best.map Gp))∧s.env 6=Ag more∧s.S 8=none∧s.S 9=none∧s.S 959=none) (n + 1)
  ⟨n,true,DD a,rfl,hout,GC a,hnl,rfl,rfl,rfl,rfl,?_,?_,rfl,rfl,rfl,rfl⟩ ?_
 ·simp only [go_sem,fN,seval,eT,iR,hts,ga.states]
 ·simp only [go_sem,fN,seval,eT,iR,hts,hrep]
 rintro q ⟨env,St⟩ ⟨n,more,best0,rfl,hends,hob,hbl,e1,e2,s1,s2,e5,s23,e6,s8,s9,s959⟩
 simp only at e1 e2 s1 s2 e5 s23 e6 s8 s9 s959
 unfold AE at s1
 cases more with
 | false =>
  rw [if_neg (by decide)] at hends
  subst hends
  repeat' with_reducible first | refine W ?_ | refine Z0 ?_ | ((first | refine Wo fun K hK=>?_ | refine Wp ?_ | refine Wq ?_ | refine Wr ?_);(try simp only [go_sem,fN,seval,eT,iR,e1,e2,s1,s2,e5,s23,e6,s8,s9,s959,dT,dF,nL]);(repeat refine Ai ?_);(try (refine hK _ ?_;clear hK K));try refine iC ?_)
  refine IWP.loop (fun q s=>∃ k,k≤a.last.length∧q=a.last.length - k∧s.env 2=.one (.ptr 2 1 0 0)∧s.S 2=some Qg∧s.env 5=.one (.row 23 a.states.toNat)∧s.S 23=some (.mrow 105 1 (best0.map Gp))∧s.env 12=.one (.st (Gr (ED best0 (a.last.take k))))∧s.env 93=.one (.st (.list (a.last.map BK)))∧s.env 94=AK a.last.length∧s.env 95=AK k∧∀ t,ED best0 (a.last.take k)=some t→FF t) a.last.length
   ⟨0,Nat.zero_le _,rfl,by simp only [go_sem,fN,seval,eT,iR,e2],by simp only [go_sem,fN,seval,eT,iR,s2],by simp only [go_sem,fN,seval,eT,iR,e5],by simp only [go_sem,fN,seval,eT,iR,s23],by simp only [go_sem,fN,seval,eT,iR];rfl,by simp only [go_sem,fN,seval,eT,iR],by simp only [go_sem,fN,seval,eT,iR],by simp only [go_sem,fN,seval,eT,iR],fun t h=>by cases h⟩ ?_
  rintro q ⟨env1,S1⟩ ⟨k,hk,rfl,f2,t2,f5,t23,f12,f93,f94,f95,hpk⟩
  simp only at f2 t2 f5 t23 f12 f93 f94 f95
  by_cases hlt:(k:Int) < a.last.length
  ·obtain ⟨x,hx⟩:=Ab (show k < a.last.length by omega)
   have qx:=ga.last x (AM hx)
   have hsn:ED best0 (a.last.take (k + 1))=Ou best0 (ED best0 (a.last.take k)) x:=by
    unfold ED
    rw [AQ hx,List.foldl_append]
    rfl
   obtain ⟨o,ho,hod⟩:=T8 (best:=best0) (i:=x.toNat) (by omega)
   have hxb:x.toNat < best0.length:=by omega
   unfold Ou at hsn
   rw [hod] at hsn
   generalize ED best0 (a.last.take k)=o0 at f12 hpk hsn
   cases o with
   | none =>
    simp only at hsn
    repeat' with_reducible first | refine W ?_ | refine Z0 ?_ | ((first | refine Wo fun K hK=>?_ | refine Wp ?_ | refine Wq ?_ | refine Wr ?_);(try simp only [go_sem,fN,seval,eT,iR,f2,t2,f5,t23,f12,f93,f94,f95,hlt,hx,ho,Gp,Gr,hbl,hts,dT,dF,nL]);(repeat refine Ai ?_);(try (refine hK _ ?_;clear hK K));try refine iC ?_)
    refine AA ⟨a.last.length - (k + 1),by omega,k + 1,by omega,rfl,?_⟩
    simp only [go_sem,fN,seval,eT,iR,f2,t2,f5,t23,f12,f93,f94,f95,hsn]
    exact ⟨by cases o0 <;> rfl,by simp,hpk⟩
   | some t =>
    have htk:FF t:=hob t (List.mem_of_getElem? ho)
    cases o0 with
    | none =>
     simp only at hsn
     repeat' with_reducible first | refine W ?_ | refine Z0 ?_ | ((first | refine Wo fun K hK=>?_ | refine Wp ?_ | refine Wq ?_ | refine Wr ?_);(try simp only [go_sem,fN,seval,eT,iR,f2,t2,f5,t23,f12,f93,f94,f95,hlt,hx,ho,Gp,Gr,hbl,hts,dT,dF,nL]);(repeat refine Ai ?_);(try (refine hK _ ?_;clear hK K));try refine iC ?_)
     refine AA ⟨a.last.length - (k + 1),by omega,k + 1,by omega,rfl,?_⟩
     simp only [go_sem,fN,seval,eT,iR,f2,t2,f5,t23,f12,f93,f94,f95,hsn,Gr]
     exact ⟨by simp,fun t' h'=>by cases h';exact htk⟩
    | some u =>
     simp only at hsn
     have hu:=hpk u rfl
     have hL:=Up t u htk hu
     cases hlu:Dt t u with
     | true =>
      rw [hlu] at hL hsn
      rw [if_pos rfl] at hsn
      repeat' (first | (with_reducible first | refine W ?_ | refine Z0 ?_ | ((first | refine Wo fun K hK=>?_ | refine Wp ?_ | refine Wq ?_ | refine Wr ?_);(try simp only [go_sem,fN,seval,eT,iR,f2,t2,f5,t23,f12,f93,f94,f95,hlt,hx,ho,Gp,Gr,hbl,hts,dT,dF,nL]);(repeat refine Ai ?_);(try (refine hK _ ?_;clear hK K));try refine iC ?_)) | refine Cg _ (hL) ?_)
      refine AA ⟨a.last.length - (k + 1),by omega,k + 1,by omega,rfl,?_⟩
      simp only [go_sem,fN,seval,eT,iR,f2,t2,f5,t23,f12,f93,f94,f95,hsn,Gr]
      exact ⟨by simp,fun t' h'=>by cases h';exact htk⟩
     | false =>
      rw [hlu] at hL hsn
      rw [if_neg (by decide)] at hsn
      repeat' (first | (with_reducible first | refine W ?_ | refine Z0 ?_ | ((first | refine Wo fun K hK=>?_ | refine Wp ?_ | refine Wq ?_ | refine Wr ?_);(try simp only [go_sem,fN,seval,eT,iR,f2,t2,f5,t23,f12,f93,f94,f95,hlt,hx,ho,Gp,Gr,hbl,hts,dT,dF,nL]);(repeat refine Ai ?_);(try (refine hK _ ?_;clear hK K));try refine iC ?_)) | refine Cg _ (hL) ?_)
      refine AA ⟨a.last.length - (k + 1),by omega,k + 1,by omega,rfl,?_⟩
      simp only [go_sem,fN,seval,eT,iR,f2,t2,f5,t23,f12,f93,f94,f95,hsn,Gr]
      exact ⟨by simp,fun t' h'=>by cases h';exact hu⟩
  ·rw [List.take_of_length_le (l:=a.last) (i:=k) (by omega)] at f12 hpk
   generalize ED best0 a.last=o at *
   cases o with
   | none =>
    repeat' with_reducible first | refine W ?_ | refine Z0 ?_ | ((first | refine Wo fun K hK=>?_ | refine Wp ?_ | refine Wq ?_ | refine Wr ?_);(try simp only [go_sem,fN,seval,eT,iR,f2,t2,f5,t23,f12,f93,f94,f95,hlt,Gr,dT,dF,nL]);(repeat refine Ai ?_);(try (refine hK _ ?_;clear hK K));try refine iC ?_)
    simp only [go_sem,fN,seval,AP,AS.result,AH,AI,AN,f2,t2]
    rfl
   | some t =>
    have htk:=hpk t rfl
    have:=htk.2
    repeat' (first | (with_reducible first | refine W ?_ | refine Z0 ?_ | ((first | refine Wo fun K hK=>?_ | refine Wp ?_ | refine Wq ?_ | refine Wr ?_);(try simp only [go_sem,fN,seval,eT,iR,f2,t2,f5,t23,f12,f93,f94,f95,hlt,Gr,dT,dF,nL]);(repeat refine Ai ?_);(try (refine hK _ ?_;clear hK K));try refine iC ?_)) | refine Cg _ (XL t (by omega)) ?_)
    simp only [go_sem,fN,seval,AP,AS.result,AH,AI,AN,f2,t2]
    rfl
 | true =>
  rw [if_pos rfl] at hends
  repeat' with_reducible first | refine W ?_ | refine Z0 ?_ | ((first | refine Wo fun K hK=>?_ | refine Wp ?_ | refine Wq ?_ | refine Wr ?_);(try simp only [go_sem,fN,seval,eT,iR,e1,e2,s1,s2,e5,s23,e6,s8,s9,s959,dT,dF,nL]);(repeat refine Ai ?_);(try (refine hK _ ?_;clear hK K));try refine iC ?_)
  refine IWP.loopD [8,9,959] (fun q s=>∃ k p,k≤a.moves.length∧q=a.moves.length - k∧p=(a.moves.take k).foldl BT (best0,false)∧s.env 1=.one (.ptr 1 1 0 0)∧s.env 2=.one (.ptr 2 1 0 0)∧s.S 1=some (AE a)∧s.S 2=some Qg∧s.env 5=.one (.row 23 a.states.toNat)∧s.S 23=some (.mrow 105 1 (p.1.map Gp))∧s.env 6=Ag p.2∧s.env 26=.one (.st (.list (a.moves.map Ae)))∧s.env 27=AK a.moves.length∧s.env 28=AK k∧s.S 8=none∧s.S 9=none∧s.S 959=none) a.moves.length
   ⟨0,(best0,false),Nat.zero_le _,rfl,rfl,by simp only [go_sem,fN,seval,eT,iR,e1],by simp only [go_sem,fN,seval,eT,iR,e2],by simp only [go_sem,fN,seval,eT,iR,s1,AE],by simp only [go_sem,fN,seval,eT,iR,s2],by simp only [go_sem,fN,seval,eT,iR,e5],by simp only [go_sem,fN,seval,eT,iR,s23],by simp only [go_sem,fN,seval,eT,iR],by simp only [go_sem,fN,seval,eT,iR],by simp only [go_sem,fN,seval,eT,iR],by simp only [go_sem,fN,seval,eT,iR],by simp only [go_sem,fN,seval,eT,iR,s8],by simp only [go_sem,fN,seval,eT,iR,s9],by simp only [go_sem,fN,seval,eT,iR,s959]⟩ ?_
  rintro q ⟨env1,S1⟩ ⟨k,p,hk,rfl,hp,f1,f2,t1,t2,f5,t23,f6,f26,f27,f28,t8,t9,t959⟩
  simp only at f1 f2 t1 t2 f5 t23 f6 f26 f27 f28 t8 t9 t959
  unfold AE at t1
  by_cases hlt:(k:Int) < a.moves.length
  ·obtain ⟨m,hm⟩:=Ab (show k < a.moves.length by omega)
   have hmm:=AM hm
   have hto:=ga.to_ m hmm
   have hfr:=ga.frm m hmm
   have hok:=hmv m hmm
   have hne:=XD hok
   have hsn:=Mh (best:=best0) hm
   rw [← hp] at hsn
   have hpo:Dc p.1:=by rw [hp];exact Di hob fun x hx=>hmv x (List.mem_of_mem_take hx)
   have hpl:p.1.length=a.states.toNat:=by rw [hp,Cs];exact hbl
   repeat' with_reducible first | refine W ?_ | refine Z0 ?_ | ((first | refine Wo fun K hK=>?_ | refine Wp ?_ | refine Wq ?_ | refine Wr ?_);(try simp only [go_sem,fN,seval,eT,iR,f1,f2,t1,t2,f5,t23,f6,f26,f27,f28,t8,t9,t959,hlt,hm,Ae,dT,dF,nL]);(repeat refine Ai ?_);(try (refine hK _ ?_;clear hK K));try refine iC ?_)
   refine IWP.ghost (Ad.ownCM 9 1 959 39 2 (ty:=39) (cs:=[.st (.str m.name),.full []]) (by simp only [go_sem,fN,seval,eT,iR]) rfl (by simp only [go_sem,fN,seval,eT,iR,t959])) ?_
   refine IWP.loop (fun q s=>∃ j ts,j≤m.frm.length∧q=m.frm.length - j∧C_ p.1 (m.frm.take j)=some ts∧ts.length=j∧s.env 1=.one (.ptr 1 1 0 0)∧s.env 2=.one (.ptr 2 1 0 0)∧s.S 1=some (AE a)∧s.S 2=some Qg∧s.env 5=.one (.row 23 a.states.toNat)∧s.S 23=some (.mrow 105 1 (p.1.map Gp))∧s.env 6=Ag p.2∧s.env 26=.one (.st (.list (a.moves.map Ae)))∧s.env 27=AK a.moves.length∧s.env 28=AK k∧s.env 8=.one (.ptr 8 1 0 0)∧s.S 8=some (Xk m)∧s.env 9=.one (.ptr 9 1 0 0)∧s.S 9=some (.box 39 [.st (.str m.name),.row 959 j])∧s.S 959=some (.mrow 39 2 (ts.map A_))∧s.env 36=.one (.st (.list (m.frm.map BK)))∧s.env 37=AK m.frm.length∧s.env 38=AK j) m.frm.length
    ⟨0,[],Nat.zero_le _,rfl,rfl,rfl,by simp only [go_sem,fN,seval,eT,iR,f1],by simp only [go_sem,fN,seval,eT,iR,f2],by simp only [go_sem,fN,seval,eT,iR,t1,AE],by simp only [go_sem,fN,seval,eT,iR,t2],by simp only [go_sem,fN,seval,eT,iR,f5],by simp only [go_sem,fN,seval,eT,iR,t23],by simp only [go_sem,fN,seval,eT,iR,f6],by simp only [go_sem,fN,seval,eT,iR,f26],by simp only [go_sem,fN,seval,eT,iR,f27],by simp only [go_sem,fN,seval,eT,iR,f28],by simp only [go_sem,fN,seval,eT,iR],by simp only [go_sem,fN,seval,eT,iR],by simp only [go_sem,fN,seval,eT,iR],by simp only [go_sem,fN,seval,eT,iR];rfl,by simp only [go_sem,fN,seval,eT,iR],by simp only [go_sem,fN,seval,eT,iR],by simp only [go_sem,fN,seval,eT,iR],by simp only [go_sem,fN,seval,eT,iR]⟩ ?_
   rintro q ⟨env2,S2⟩ ⟨j,ts,hj,rfl,hcl,htl,g1,g2,u1,u2,g5,u23,g6,g26,g27,g28,g8,u8,g9,u9,u959,g36,g37,g38⟩
   simp only at g1 g2 u1 u2 g5 u23 g6 g26 g27 g28 g8 u8 g9 u9 u959 g36 g37 g38
   unfold AE at u1
   by_cases hjl:(j:Int) < m.frm.length
   ·obtain ⟨x,hx⟩:=Ab (show j < m.frm.length by omega)
    have qx:=hfr x (AM hx)
    obtain ⟨o,ho,hod⟩:=T8 (best:=p.1) (i:=x.toNat) (by omega)
    have hcs:=Hh (s:=x) hcl
    rw [← AQ hx,hod] at hcs
    cases o with
    | none =>
     have hcn:m.cand p.1=none:=by
      unfold Mv.cand
      rw [Hg (AM hx) hod]
     have hstep:BT p m=p:=by
      unfold BT Cd Mv.gain
      rw [hcn]
      simp
     rw [hstep] at hsn
     repeat' with_reducible first | refine W ?_ | refine Z0 ?_ | ((first | refine Wo fun K hK=>?_ | refine Wp ?_ | refine Wq ?_ | refine Wr ?_);(try simp only [go_sem,fN,seval,eT,iR,g1,g2,u1,u2,g5,u23,g6,g26,g27,g28,g8,u8,g9,u9,u959,g36,g37,g38,hjl,hx,ho,Gp,Gr,hpl,hts,dT,dF,nL]);(repeat refine Ai ?_);(try (refine hK _ ?_;clear hK K));try refine iC ?_)
     refine AA ⟨a.moves.length - (k + 1),by omega,k + 1,p,by omega,rfl,hsn.symm,?_⟩
     simp only [go_sem,fN,seval,AS.drop,AY,AC.clears,AC.clear,AC.highs,AC.high,Bool.not_false,Bool.true_and,Bool.and_self,AV.purge,AV.purges,AC.purge,AL.purge,List.contains_cons,List.contains_nil,Nat.reduceBEq,Bool.or_self,Bool.or_false,Bool.false_or,Bool.or_true,eT,iR,g1,g2,u1,u2,g5,u23,g6,g26,g27,g28,g8,u8,g9,u9,u959,AE]
     simp
    | some t =>
     have htk:FF t:=hpo t (List.mem_of_getElem? ho)
     have b1:j + 1≤maxLen:=by
      rw [BM]
      have:=hok.2
      omega
     have b2:(j + 1) * 40≤140737488355328:=by
      have:=hok.2
      omega
     have b3:j < j + 1:=Nat.lt_succ_self j
     have b4:=WV htl [SV.str ⟨#[]⟩,SV.list []]
     have b5:=WT htl [SV.str ⟨#[]⟩,SV.list []]
     repeat' with_reducible first | refine W ?_ | refine Z0 ?_ | ((first | refine Wo fun K hK=>?_ | refine Wp ?_ | refine Wq ?_ | refine Wr ?_);(try simp only [go_sem,fN,seval,eT,iR,g1,g2,u1,u2,g5,u23,g6,g26,g27,g28,g8,u8,g9,u9,u959,g36,g37,g38,hjl,hx,ho,Gp,Gr,hpl,hts,htl,b1,b2,b3,b4,b5,dT,dF,nL]);(repeat refine Ai ?_);(try (refine hK _ ?_;clear hK K));try refine iC ?_)
     refine AA ⟨m.frm.length - (j + 1),by omega,j + 1,ts ++ [t],by omega,rfl,hcs,by simp [htl],?_⟩
     simp only [go_sem,fN,seval,eT,iR,g1,g2,u1,u2,g5,u23,g6,g26,g27,g28,g8,u8,g9,u9,u959,g36,g37,g38,AE,htl]
     exact ⟨by simp [C9 t],by simp⟩
   ·have hjm:j=m.frm.length:=by omega
    rw [hjm,List.take_of_length_le (Nat.le_refl _)] at hcl
    rw [hjm] at htl
    have hjt:j=ts.length:=by omega
    rw [hjt] at u9
    have hcd:m.cand p.1=if (Tm.mk m.name ts).size≤2000 then some (.mk m.name ts) else none:=by
     unfold Mv.cand
     rw [hcl]
    have hsz:∀ t ∈ ts,t.size≤2000:=fun t ht=>(hpo t (JB hcl t ht)).2
    have htz:(Tm.mk m.name ts).size≤1000000:=by
     have h1:=hok.2
     have h2:=Ol hsz
     simp only [Tm.size]
     have:2000 * ts.length≤2000 * 4:=Nat.mul_le_mul_left _ (by omega)
     omega
    have hS:AU Try.prog 60 [.agg [.st (.str m.name),.st (.list (ts.map A_))]] (AK (Tm.mk m.name ts).size):=ID (Tm.mk m.name ts) htz
    have hcand:=fun (h:(Tm.mk m.name ts).size≤2000)=>KL hpo hok (hcd.trans (if_pos h))
    have hLt:∀ (b:Tm) (h:FF (Tm.mk m.name ts)) (hb:FF b),AU Try.prog 61 [.agg [.st (.str m.name),.st (.list (ts.map A_))],aTm b] (Ag (Dt (Tm.mk m.name ts) b)):=fun b h hb=>Up _ b h hb
    have hn1:(Tm.mk m.name ts).name=m.name:=rfl
    have hn2:(Tm.mk m.name ts).args=ts:=rfl
    have hlen:(ts.map A_).length=ts.length:=List.length_map _
    refine IWP.ghost (Ad.share (id:=959) u959) ?_
    refine IWP.ghost (Ad.ice 9 (id:=9) (e:=39) (cs:=[.st (.str m.name),.row 959 ts.length]) (xs:=Iy (.mk m.name ts)) (by simp only [go_sem,fN,seval,eT,iR,u9]) (by simp only [go_sem,fN,seval,eT,iR,hlen,stCs,stC,hn1,hn2,Iy]) (by simp only [go_sem,fN,seval,eT,iR,g9]) (by omega)) ?_
    refine IWP.ghost (Ad.toRef 9 (cs:=Iy (.mk m.name ts)) (by simp only [go_sem,fN,seval,eT,iR]) (by omega)) ?_
    generalize Tm.mk m.name ts=t at *
    by_cases hbig:2000 < (t.size:Int)
    ·have hcn:m.cand p.1=none:=by rw [hcd,if_neg (by omega)]
     have hstep:BT p m=p:=by
      unfold BT Cd Mv.gain
      rw [hcn]
      simp
     rw [hstep] at hsn
     repeat' (first | (with_reducible first | refine W ?_ | refine Z0 ?_ | ((first | refine Wo fun K hK=>?_ | refine Wp ?_ | refine Wq ?_ | refine Wr ?_);(try simp only [go_sem,fN,seval,eT,iR,g1,g2,u1,u2,g5,u23,g6,g26,g27,g28,g8,u8,g9,u9,u959,g36,g37,g38,hjl,hne,hn1,hn2,hbig,dT,dF,nL]);(repeat refine Ai ?_);(try (refine hK _ ?_;clear hK K));try refine iC ?_)) | refine Cg _ (hS) ?_)
     refine AA ⟨a.moves.length - (k + 1),by omega,k + 1,p,by omega,rfl,hsn.symm,?_⟩
     simp only [go_sem,fN,seval,AS.drop,AY,AC.clears,AC.clear,AC.highs,AC.high,Bool.not_false,Bool.true_and,Bool.and_self,AV.purge,AV.purges,AC.purge,AL.purge,List.contains_cons,List.contains_nil,Nat.reduceBEq,Bool.or_self,Bool.or_false,Bool.false_or,Bool.or_true,eT,iR,g1,g2,u1,u2,g5,u23,g6,g26,g27,g28,g8,u8,g9,u9,u959,AE]
     simp
    ·have htk:=hcand (by omega)
     rw [if_pos (by omega)] at hcd
     obtain ⟨o,ho,hod⟩:=T8 (best:=p.1) (i:=m.to_.toNat) (by omega)
     cases o with
     | none =>
      have hgn:m.gain p.1=some t:=by
       unfold Mv.gain
       rw [hcd,hod]
      have hstep:BT p m=(p.1.set m.to_.toNat (some t),true):=by
       unfold BT Cd
       rw [hgn]
       simp
      rw [hstep] at hsn
      repeat' (first | (with_reducible first | refine W ?_ | refine Z0 ?_ | ((first | refine Wo fun K hK=>?_ | refine Wp ?_ | refine Wq ?_ | refine Wr ?_);(try simp only [go_sem,fN,seval,eT,iR,g1,g2,u1,u2,g5,u23,g6,g26,g27,g28,g8,u8,g9,u9,u959,g36,g37,g38,hjl,hne,hn1,hn2,hbig,ho,Gp,Gr,hpl,hts,QK,dT,dF,nL]);(repeat refine Ai ?_);(try (refine hK _ ?_;clear hK K));try refine iC ?_)) | refine Cg _ (hS) ?_)
      refine AA ⟨a.moves.length - (k + 1),by omega,k + 1,_,by omega,rfl,hsn.symm,?_⟩
      simp only [go_sem,fN,seval,AS.drop,AY,AC.clears,AC.clear,AC.highs,AC.high,Bool.not_false,Bool.true_and,Bool.and_self,AV.purge,AV.purges,AC.purge,AL.purge,List.contains_cons,List.contains_nil,Nat.reduceBEq,Bool.or_self,Bool.or_false,Bool.false_or,Bool.or_true,eT,iR,g1,g2,u1,u2,g5,u23,g6,g26,g27,g28,g8,u8,g9,u9,u959,AE]
      simp
     | some b =>
      have hbk:FF b:=hpo b (List.mem_of_getElem? ho)
      have hL:=hLt b htk hbk
      cases hlb:Dt t b with
      | true =>
       rw [hlb] at hL
       have hgn:m.gain p.1=some t:=by
        unfold Mv.gain
        rw [hcd,hod]
        simp [hlb]
       have hstep:BT p m=(p.1.set m.to_.toNat (some t),true):=by
        unfold BT Cd
        rw [hgn]
        simp
       rw [hstep] at hsn
       repeat' (first | (with_reducible first | refine W ?_ | refine Z0 ?_ | ((first | refine Wo fun K hK=>?_ | refine Wp ?_ | refine Wq ?_ | refine Wr ?_);(try simp only [go_sem,fN,seval,eT,iR,g1,g2,u1,u2,g5,u23,g6,g26,g27,g28,g8,u8,g9,u9,u959,g36,g37,g38,hjl,hne,hn1,hn2,hbig,ho,Gp,Gr,hpl,hts,QK,dT,dF,nL]);(repeat refine Ai ?_);(try (refine hK _ ?_;clear hK K));try refine iC ?_)) | refine Cg _ (hS) ?_ | refine Cg _ (hL) ?_)
       refine AA ⟨a.moves.length - (k + 1),by omega,k + 1,_,by omega,rfl,hsn.symm,?_⟩
       simp only [go_sem,fN,seval,AS.drop,AY,AC.clears,AC.clear,AC.highs,AC.high,Bool.not_false,Bool.true_and,Bool.and_self,AV.purge,AV.purges,AC.purge,AL.purge,List.contains_cons,List.contains_nil,Nat.reduceBEq,Bool.or_self,Bool.or_false,Bool.false_or,Bool.or_true,eT,iR,g1,g2,u1,u2,g5,u23,g6,g26,g27,g28,g8,u8,g9,u9,u959,AE]
       simp
      | false =>
       rw [hlb] at hL
       have hgn:m.gain p.1=none:=by
        unfold Mv.gain
        rw [hcd,hod]
        simp [hlb]
       have hstep:BT p m=p:=by
        unfold BT Cd
        rw [hgn]
        simp
       rw [hstep] at hsn
       repeat' (first | (with_reducible first | refine W ?_ | refine Z0 ?_ | ((first | refine Wo fun K hK=>?_ | refine Wp ?_ | refine Wq ?_ | refine Wr ?_);(try simp only [go_sem,fN,seval,eT,iR,g1,g2,u1,u2,g5,u23,g6,g26,g27,g28,g8,u8,g9,u9,u959,g36,g37,g38,hjl,hne,hn1,hn2,hbig,ho,Gp,Gr,hpl,hts,dT,dF,nL]);(repeat refine Ai ?_);(try (refine hK _ ?_;clear hK K));try refine iC ?_)) | refine Cg _ (hS) ?_ | refine Cg _ (hL) ?_)
       refine AA ⟨a.moves.length - (k + 1),by omega,k + 1,p,by omega,rfl,hsn.symm,?_⟩
       simp only [go_sem,fN,seval,AS.drop,AY,AC.clears,AC.clear,AC.highs,AC.high,Bool.not_false,Bool.true_and,Bool.and_self,AV.purge,AV.purges,AC.purge,AL.purge,List.contains_cons,List.contains_nil,Nat.reduceBEq,Bool.or_self,Bool.or_false,Bool.false_or,Bool.or_true,eT,iR,g1,g2,u1,u2,g5,u23,g6,g26,g27,g28,g8,u8,g9,u9,u959,AE]
       simp
  ·rw [List.take_of_length_le (l:=a.moves) (i:=k) (by omega)] at hp
   have hpp:p=pass a.moves best0:=hp
   have hpo:Dc p.1:=by rw [hp];exact Di hob hmv
   have hpl:p.1.length=a.states.toNat:=by rw [hp,Cs];exact hbl
   obtain ⟨b,more⟩:=p
   simp only at t23 f6 hpo hpl
   repeat' with_reducible first | refine W ?_ | refine Z0 ?_ | ((first | refine Wo fun K hK=>?_ | refine Wp ?_ | refine Wq ?_ | refine Wr ?_);(try simp only [go_sem,fN,seval,eT,iR,f1,f2,t1,t2,f5,t23,f6,f26,f27,f28,t8,t9,t959,hlt,dT,dF,nL]);(repeat refine Ai ?_);(try (refine hK _ ?_;clear hK K));try refine iC ?_)
   cases n with
   | zero =>
    have h0:pass a.moves best0=(out,false):=hends
    rw [← hpp] at h0
    cases h0
    refine AA ⟨0,by simp,0,false,out,by simp,by simp,hpo,hpl,?_⟩
    simp only [go_sem,fN,seval,AS.drop,AY,AC.clears,AC.clear,AC.highs,AC.high,Bool.not_false,Bool.true_and,Bool.and_self,AV.purge,AV.purges,AC.purge,AL.purge,List.contains_cons,List.contains_nil,Nat.reduceBEq,Bool.or_self,Bool.or_false,Bool.false_or,Bool.or_true,eT,iR,f1,f2,t1,t2,f5,t23,f6,f26,f27,f28,t8,t9,t959,AE]
   | succ n =>
    obtain ⟨q1,q2⟩:=hends
    rw [← hpp] at q1 q2
    simp only at q1 q2
    subst q1
    refine AA ⟨n + 1,by simp,n,true,b,by simp,by simpa using q2,hpo,hpl,?_⟩
    simp only [go_sem,fN,seval,AS.drop,AY,AC.clears,AC.clear,AC.highs,AC.high,Bool.not_false,Bool.true_and,Bool.and_self,AV.purge,AV.purges,AC.purge,AL.purge,List.contains_cons,List.contains_nil,Nat.reduceBEq,Bool.or_self,Bool.or_false,Bool.false_or,Bool.or_true,eT,iR,f1,f2,t1,t2,f5,t23,f6,f26,f27,f28,t8,t9,t959,AE]

def H8 (o:Option Tm):List SV:=Iy (o.getD Tm.nil)
def GK (o:Option Tm):List SV:=[.bool o.isSome]
def GA (o:Option Tm):AV:=match o with
 | none=>.tup [aTm Tm.nil,Ag false]
 | some t=>.tup [aTm t,Ag true]
theorem VY (best:BJ) (i:Nat) (t:Tm):(best.map H8).set i [.str t.name,.list (t.args.map A_)]=(best.set i (some t)).map H8:=by
 rw [List.map_set]
 rfl
theorem V9 (best:BJ) (i:Nat) (t:Tm):(best.map GK).set i [.bool true]=(best.set i (some t)).map GK:=by
 rw [List.map_set]
 rfl
theorem W7 (a:Au) (hl:a.last.length≤100000) (ha:a.may 8 40=0) {n:Nat} {out:BJ} (hout:Jq a.moves n (DD a) out):AU Try.prog 42 [aAu a] (GA (ED out a.last)):=by
 have ga:=Au.may_good ha
 have hst:=ga.states
 obtain ⟨a1,_,_⟩:=Au.may_ok.1 ha
 have hmv:=XF ha
 have hnl:(DD a).length=a.states.toNat:=by simp [DD]
 obtain ⟨hoo,hol⟩:=Lj hmv (GC a) hout
 have hrep:(DD a).map H8=List.replicate a.states.toNat [SV.str ⟨#[]⟩,SV.list []]:=by
  rw [DD,List.map_replicate]
  rfl
 have hrep2:(DD a).map GK=List.replicate a.states.toNat [SV.bool false]:=by
  rw [DD,List.map_replicate]
  rfl
 have hts:((a.states.toNat:Nat):Int)=a.states:=by omega
 refine QA.ac fun C hC=>?_
 unfold Jv
 repeat' with_reducible first | refine W ?_ | refine Z0 ?_ | ((first | refine Wo fun K hK=>?_ | refine Wp ?_ | refine Wq ?_ | refine Wr ?_);(try simp only [go_sem,fN,seval,eT,iR,dT,dF,nL]);(repeat refine Ai ?_);(try (refine hK _ ?_;clear hK K));try refine iC ?_)
 refine IWP.loopD [8,9,959] (fun q s=>∃ n more best,q=(if more=true then n + 1 else 0)∧(if more=true then Jq a.moves n best out else best=out)∧Dc best∧best.length=a.states.toNat∧s.env 1=.one (.ptr 1 1 0 0)∧s.env 2=.one (.ptr 2 1 0 0)∧s.S 1=some (AE a)∧s.S 2=some Qg∧s.env 3=Ag false∧s.env 4=.one (.row 17 a.states.toNat)∧s.S 17=some (.mrow 4 1 (best.map GK))∧s.env 5=.one (.row 20 a.states.toNat)∧s.S 20=some (.mrow 39 2 (best.map H8))∧s.env 6=Ag more∧s.S 8=none∧s.S 9=none∧s.S 959=none) (n + 1)
  ⟨n,true,DD a,rfl,hout,GC a,hnl,rfl,rfl,rfl,rfl,rfl,?_,?_,?_,?_,rfl,rfl,rfl,rfl⟩ ?_
 ·simp only [go_sem,fN,seval,eT,iR,hts,ga.states]
 ·simp only [go_sem,fN,seval,eT,iR,hts,hrep2]
 ·simp only [go_sem,fN,seval,eT,iR,hts,ga.states]
 ·simp only [go_sem,fN,seval,eT,iR,hts,hrep]
 rintro q ⟨env,St⟩ ⟨n,more,best0,rfl,hends,hob,hbl,e1,e2,s1,s2,e3,e4,s17,e5,s20,e6,s8,s9,s959⟩
 simp only at e1 e2 s1 s2 e3 e4 s17 e5 s20 e6 s8 s9 s959
 unfold AE at s1
 cases more with
 | false =>
  rw [if_neg (by decide)] at hends
  subst hends
  repeat' with_reducible first | refine W ?_ | refine Z0 ?_ | ((first | refine Wo fun K hK=>?_ | refine Wp ?_ | refine Wq ?_ | refine Wr ?_);(try simp only [go_sem,fN,seval,eT,iR,e1,e2,s1,s2,e3,e4,s17,e5,s20,e6,s8,s9,s959,dT,dF,nL]);(repeat refine Ai ?_);(try (refine hK _ ?_;clear hK K));try refine iC ?_)
  refine IWP.loop (fun q s=>∃ k,k≤a.last.length∧q=a.last.length - k∧s.env 1=.one (.ptr 1 1 0 0)∧s.S 1=some (AE a)∧s.env 2=.one (.ptr 2 1 0 0)∧s.S 2=some Qg∧s.env 3=Ag false∧s.env 4=.one (.row 17 a.states.toNat)∧s.S 17=some (.mrow 4 1 (best0.map GK))∧s.env 5=.one (.row 20 a.states.toNat)∧s.S 20=some (.mrow 39 2 (best0.map H8))∧s.env 13=AK k∧((s.env 12=AK (-1)∧ED best0 (a.last.take k)=none) ∨ ∃ i:Nat,∃ u,s.env 12=AK i∧best0[i]?=some (some u)∧ED best0 (a.last.take k)=some u)) a.last.length
   ⟨0,Nat.zero_le _,rfl,by simp only [go_sem,fN,seval,eT,iR,e1],by simp only [go_sem,fN,seval,eT,iR,s1,AE],by simp only [go_sem,fN,seval,eT,iR,e2],by simp only [go_sem,fN,seval,eT,iR,s2],by simp only [go_sem,fN,seval,eT,iR,e3],by simp only [go_sem,fN,seval,eT,iR,e4],by simp only [go_sem,fN,seval,eT,iR,s17],by simp only [go_sem,fN,seval,eT,iR,e5],by simp only [go_sem,fN,seval,eT,iR,s20],by simp only [go_sem,fN,seval,eT,iR],.inl ⟨by simp only [go_sem,fN,seval,eT,iR],rfl⟩⟩ ?_
  rintro q ⟨env1,S1⟩ ⟨k,hk,rfl,f1,t1,f2,t2,f3,f4,t17,f5,t20,f13,hpk⟩
  simp only at f1 t1 f2 t2 f3 f4 t17 f5 t20 f13 hpk
  unfold AE at t1
  by_cases hlt:(k:Int) < a.last.length
  ·obtain ⟨x,hx⟩:=Ab (show k < a.last.length by omega)
   have qx:=ga.last x (AM hx)
   have hsn:ED best0 (a.last.take (k + 1))=Ou best0 (ED best0 (a.last.take k)) x:=by
    unfold ED
    rw [AQ hx,List.foldl_append]
    rfl
   obtain ⟨o,ho,hod⟩:=T8 (best:=best0) (i:=x.toNat) (by omega)
   have hxb:x.toNat < best0.length:=by omega
   have hxn:((x.toNat:Nat):Int)=x:=by omega
   unfold Ou at hsn
   rw [hod] at hsn
   cases o with
   | none =>
    simp only at hsn
    rw [← hsn] at hpk
    rcases hpk with ⟨f12,hpk⟩ | ⟨i,u,f12,hi,hpk⟩
    ·repeat' with_reducible first | refine W ?_ | refine Z0 ?_ | ((first | refine Wo fun K hK=>?_ | refine Wp ?_ | refine Wq ?_ | refine Wr ?_);(try simp only [go_sem,fN,seval,eT,iR,f1,t1,f2,t2,f3,f4,t17,f5,t20,f13,f12,hlt,hx,ho,GK,Option.isSome_none,hbl,hts,dT,dF,nL]);(repeat refine Ai ?_);(try (refine hK _ ?_;clear hK K));try refine iC ?_)
     refine AA ⟨a.last.length - (k + 1),by omega,k + 1,by omega,rfl,?_⟩
     simp only [go_sem,fN,seval,eT,iR,f1,t1,f2,t2,f3,f4,t17,f5,t20,f13,f12,AE]
     exact ⟨by simp,.inl hpk⟩
    ·repeat' with_reducible first | refine W ?_ | refine Z0 ?_ | ((first | refine Wo fun K hK=>?_ | refine Wp ?_ | refine Wq ?_ | refine Wr ?_);(try simp only [go_sem,fN,seval,eT,iR,f1,t1,f2,t2,f3,f4,t17,f5,t20,f13,f12,hlt,hx,ho,GK,Option.isSome_none,hbl,hts,dT,dF,nL]);(repeat refine Ai ?_);(try (refine hK _ ?_;clear hK K));try refine iC ?_)
     refine AA ⟨a.last.length - (k + 1),by omega,k + 1,by omega,rfl,?_⟩
     simp only [go_sem,fN,seval,eT,iR,f1,t1,f2,t2,f3,f4,t17,f5,t20,f13,f12,AE]
     exact ⟨by simp,.inr ⟨i,u,rfl,hi,hpk⟩⟩
   | some t =>
    have htk:FF t:=hob t (List.mem_of_getElem? ho)
    rcases hpk with ⟨f12,hpk⟩ | ⟨i,u,f12,hi,hpk⟩
    ·rw [hpk] at hsn
     simp only at hsn
     repeat' with_reducible first | refine W ?_ | refine Z0 ?_ | ((first | refine Wo fun K hK=>?_ | refine Wp ?_ | refine Wq ?_ | refine Wr ?_);(try simp only [go_sem,fN,seval,eT,iR,f1,t1,f2,t2,f3,f4,t17,f5,t20,f13,f12,hlt,hx,ho,GK,Option.isSome_some,hbl,hts,dT,dF,nL]);(repeat refine Ai ?_);(try (refine hK _ ?_;clear hK K));try refine iC ?_)
     refine AA ⟨a.last.length - (k + 1),by omega,k + 1,by omega,rfl,?_⟩
     simp only [go_sem,fN,seval,eT,iR,f1,t1,f2,t2,f3,f4,t17,f5,t20,f13,f12,AE]
     exact ⟨by simp,.inr ⟨x.toNat,t,by rw [hxn],ho,hsn⟩⟩
    ·rw [hpk] at hsn
     simp only at hsn
     have hu:=hob u (List.mem_of_getElem? hi)
     have hib:i < best0.length:=(List.getElem?_eq_some_iff.1 hi).1
     have hi0:¬ ((i:Nat):Int) < 0:=by omega
     have hL:=Mc t u htk hu
     cases hlu:Dt t u with
     | true =>
      rw [hlu] at hL hsn
      rw [if_pos rfl] at hsn
      repeat' (first | (with_reducible first | refine W ?_ | refine Z0 ?_ | ((first | refine Wo fun K hK=>?_ | refine Wp ?_ | refine Wq ?_ | refine Wr ?_);(try simp only [go_sem,fN,seval,eT,iR,f1,t1,f2,t2,f3,f4,t17,f5,t20,f13,f12,hlt,hx,ho,GK,H8,Option.isSome_some,Option.getD_some,hbl,hts,hi,hi0,Int.toNat_natCast,dT,dF,nL]);(repeat refine Ai ?_);(try (refine hK _ ?_;clear hK K));try refine iC ?_)) | refine Cg _ (hL) ?_)
      refine AA ⟨a.last.length - (k + 1),by omega,k + 1,by omega,rfl,?_⟩
      simp only [go_sem,fN,seval,eT,iR,f1,t1,f2,t2,f3,f4,t17,f5,t20,f13,f12,AE]
      exact ⟨by simp,.inr ⟨x.toNat,t,by rw [hxn],ho,hsn⟩⟩
     | false =>
      rw [hlu] at hL hsn
      rw [if_neg (by decide)] at hsn
      repeat' (first | (with_reducible first | refine W ?_ | refine Z0 ?_ | ((first | refine Wo fun K hK=>?_ | refine Wp ?_ | refine Wq ?_ | refine Wr ?_);(try simp only [go_sem,fN,seval,eT,iR,f1,t1,f2,t2,f3,f4,t17,f5,t20,f13,f12,hlt,hx,ho,GK,H8,Option.isSome_some,Option.getD_some,hbl,hts,hi,hi0,Int.toNat_natCast,dT,dF,nL]);(repeat refine Ai ?_);(try (refine hK _ ?_;clear hK K));try refine iC ?_)) | refine Cg _ (hL) ?_)
      refine AA ⟨a.last.length - (k + 1),by omega,k + 1,by omega,rfl,?_⟩
      simp only [go_sem,fN,seval,eT,iR,f1,t1,f2,t2,f3,f4,t17,f5,t20,f13,f12,AE]
      exact ⟨by simp,.inr ⟨i,u,rfl,hi,hsn⟩⟩
  ·rw [List.take_of_length_le (l:=a.last) (i:=k) (by omega)] at hpk
   rcases hpk with ⟨f12,hpk⟩ | ⟨i,u,f12,hi,hpk⟩
   ·rw [hpk]
    repeat' with_reducible first | refine W ?_ | refine Z0 ?_ | ((first | refine Wo fun K hK=>?_ | refine Wp ?_ | refine Wq ?_ | refine Wr ?_);(try simp only [go_sem,fN,seval,eT,iR,f1,t1,f2,t2,f3,f4,t17,f5,t20,f13,f12,hlt,dT,dF,nL]);(repeat refine Ai ?_);(try (refine hK _ ?_;clear hK K));try refine iC ?_)
    simp only [go_sem,fN,seval,AP,AS.result,AH,AI,AN,f2,t2,f3]
    rfl
   ·rw [hpk]
    have hib:i < best0.length:=(List.getElem?_eq_some_iff.1 hi).1
    have hi0:¬ ((i:Nat):Int) < 0:=by omega
    repeat' with_reducible first | refine W ?_ | refine Z0 ?_ | ((first | refine Wo fun K hK=>?_ | refine Wp ?_ | refine Wq ?_ | refine Wr ?_);(try simp only [go_sem,fN,seval,eT,iR,f1,t1,f2,t2,f3,f4,t17,f5,t20,f13,f12,hlt,H8,Option.getD_some,hbl,hts,hi,hi0,Int.toNat_natCast,dT,dF,nL]);(repeat refine Ai ?_);(try (refine hK _ ?_;clear hK K));try refine iC ?_)
    simp only [go_sem,fN,seval,AP,AS.result,AH,AI,AN,f2,t2]
    rfl
 | true =>
  rw [if_pos rfl] at hends
  repeat' with_reducible first | refine W ?_ | refine Z0 ?_ | ((first | refine Wo fun K hK=>?_ | refine Wp ?_ | refine Wq ?_ | refine Wr ?_);(try simp only [go_sem,fN,seval,eT,iR,e1,e2,s1,s2,e3,e4,s17,e5,s20,e6,s8,s9,s959,dT,dF,nL]);(repeat refine Ai ?_);(try (refine hK _ ?_;clear hK K));try refine iC ?_)
  refine IWP.loopD [8,9,959] (fun q s=>∃ k p,k≤a.moves.length∧q=a.moves.length - k∧p=(a.moves.take k).foldl BT (best0,false)∧s.env 1=.one (.ptr 1 1 0 0)∧s.env 2=.one (.ptr 2 1 0 0)∧s.S 1=some (AE a)∧s.S 2=some Qg∧s.env 3=Ag false∧s.env 4=.one (.row 17 a.states.toNat)∧s.S 17=some (.mrow 4 1 (p.1.map GK))∧s.env 5=.one (.row 20 a.states.toNat)∧s.S 20=some (.mrow 39 2 (p.1.map H8))∧s.env 6=Ag p.2∧s.env 7=AK k∧s.S 8=none∧s.S 9=none∧s.S 959=none) a.moves.length
   ⟨0,(best0,false),Nat.zero_le _,rfl,rfl,by simp only [go_sem,fN,seval,eT,iR,e1],by simp only [go_sem,fN,seval,eT,iR,e2],by simp only [go_sem,fN,seval,eT,iR,s1,AE],by simp only [go_sem,fN,seval,eT,iR,s2],by simp only [go_sem,fN,seval,eT,iR,e3],by simp only [go_sem,fN,seval,eT,iR,e4],by simp only [go_sem,fN,seval,eT,iR,s17],by simp only [go_sem,fN,seval,eT,iR,e5],by simp only [go_sem,fN,seval,eT,iR,s20],by simp only [go_sem,fN,seval,eT,iR],by simp only [go_sem,fN,seval,eT,iR],by simp only [go_sem,fN,seval,eT,iR,s8],by simp only [go_sem,fN,seval,eT,iR,s9],by simp only [go_sem,fN,seval,eT,iR,s959]⟩ ?_
  rintro q ⟨env1,S1⟩ ⟨k,p,hk,rfl,hp,f1,f2,t1,t2,f3,f4,t17,f5,t20,f6,f7,t8,t9,t959⟩
  simp only at f1 f2 t1 t2 f3 f4 t17 f5 t20 f6 f7 t8 t9 t959
  unfold AE at t1
  by_cases hlt:(k:Int) < a.moves.length
  ·obtain ⟨m,hm⟩:=Ab (show k < a.moves.length by omega)
   have hmm:=AM hm
   have hto:=ga.to_ m hmm
   have hfr:=ga.frm m hmm
   have hok:=hmv m hmm
   have hsn:=Mh (best:=best0) hm
   rw [← hp] at hsn
   have hpo:Dc p.1:=by rw [hp];exact Di hob fun x hx=>hmv x (List.mem_of_mem_take hx)
   have hpl:p.1.length=a.states.toNat:=by rw [hp,Cs];exact hbl
   repeat' with_reducible first | refine W ?_ | refine Z0 ?_ | ((first | refine Wo fun K hK=>?_ | refine Wp ?_ | refine Wq ?_ | refine Wr ?_);(try simp only [go_sem,fN,seval,eT,iR,f1,f2,t1,t2,f3,f4,t17,f5,t20,f6,f7,t8,t9,t959,hlt,hm,Ae,dT,dF,nL]);(repeat refine Ai ?_);(try (refine hK _ ?_;clear hK K));try refine iC ?_)
   refine IWP.ghost (Ad.ownC (C:=C) 9 1 959 39 2 (xs:=([]:List Tm).map A_) (ty:=39) (cs:=[.st (.str m.name),.full []]) (by simp only [go_sem,fN,seval,eT,iR]) rfl (by simp only [go_sem,fN,seval,eT,iR,t959]) I1) ?_
   refine IWP.loop (fun q s=>∃ j ts ok,j≤m.frm.length∧q=m.frm.length - j∧(if ok=true then C_ p.1 (m.frm.take j)=some ts∧ts.length=j else C_ p.1 m.frm=none)∧ts.length≤j∧s.env 1=.one (.ptr 1 1 0 0)∧s.env 2=.one (.ptr 2 1 0 0)∧s.S 1=some (AE a)∧s.S 2=some Qg∧s.env 3=Ag false∧s.env 4=.one (.row 17 a.states.toNat)∧s.S 17=some (.mrow 4 1 (p.1.map GK))∧s.env 5=.one (.row 20 a.states.toNat)∧s.S 20=some (.mrow 39 2 (p.1.map H8))∧s.env 6=Ag p.2∧s.env 7=AK k∧s.env 8=.one (.ptr 8 1 0 0)∧s.S 8=some (Xk m)∧s.env 9=.one (.ptr 9 1 0 0)∧s.S 9=some (.box 39 [.st (.str m.name),.row 959 ts.length])∧s.S 959=some (.arow 39 2 (ts.map A_))∧s.env 10=Ag ok∧s.env 11=AK j) m.frm.length
    ⟨0,[],true,Nat.zero_le _,rfl,⟨rfl,rfl⟩,Nat.le_refl _,by simp only [go_sem,fN,seval,eT,iR,f1],by simp only [go_sem,fN,seval,eT,iR,f2],by simp only [go_sem,fN,seval,eT,iR,t1,AE],by simp only [go_sem,fN,seval,eT,iR,t2],by simp only [go_sem,fN,seval,eT,iR,f3],by simp only [go_sem,fN,seval,eT,iR,f4],by simp only [go_sem,fN,seval,eT,iR,t17],by simp only [go_sem,fN,seval,eT,iR,f5],by simp only [go_sem,fN,seval,eT,iR,t20],by simp only [go_sem,fN,seval,eT,iR,f6],by simp only [go_sem,fN,seval,eT,iR,f7],by simp only [go_sem,fN,seval,eT,iR],by simp only [go_sem,fN,seval,eT,iR],by simp only [go_sem,fN,seval,eT,iR],by simp only [go_sem,fN,seval,eT,iR];rfl,by simp only [go_sem,fN,seval,eT,iR],by simp only [go_sem,fN,seval,eT,iR],by simp only [go_sem,fN,seval,eT,iR]⟩ ?_
   rintro q ⟨env2,S2⟩ ⟨j,ts,ok,hj,rfl,hcl,htj,g1,g2,u1,u2,g3,g4,u17,g5,u20,g6,g7,g8,u8,g9,u9,u959,g10,g11⟩
   simp only at g1 g2 u1 u2 g3 g4 u17 g5 u20 g6 g7 g8 u8 g9 u9 u959 g10 g11
   unfold AE at u1
   have hlen:(ts.map A_).length=ts.length:=List.length_map _
   have h4:=hok.2
   by_cases hjl:(j:Int) < m.frm.length
   ·obtain ⟨x,hx⟩:=Ab (show j < m.frm.length by omega)
    have qx:=hfr x (AM hx)
    obtain ⟨o,ho,hod⟩:=T8 (best:=p.1) (i:=x.toNat) (by omega)
    cases ok with
    | false =>
     rw [if_neg (by decide)] at hcl
     repeat' with_reducible first | refine W ?_ | refine Z0 ?_ | ((first | refine Wo fun K hK=>?_ | refine Wp ?_ | refine Wq ?_ | refine Wr ?_);(try simp only [go_sem,fN,seval,eT,iR,g1,g2,u1,u2,g3,g4,u17,g5,u20,g6,g7,g8,u8,g9,u9,u959,g10,g11,hjl,dT,dF,nL]);(repeat refine Ai ?_);(try (refine hK _ ?_;clear hK K));try refine iC ?_)
     refine AA ⟨m.frm.length - (j + 1),by omega,j + 1,ts,false,by omega,rfl,by simpa using hcl,by omega,?_⟩
     simp only [go_sem,fN,seval,eT,iR,g1,g2,u1,u2,g3,g4,u17,g5,u20,g6,g7,g8,u8,g9,u9,u959,g10,g11,AE]
     simp
    | true =>
     rw [if_pos rfl] at hcl
     obtain ⟨hcl,htl⟩:=hcl
     have hcs:=Hh (s:=x) hcl
     rw [← AQ hx,hod] at hcs
     cases o with
     | none =>
      have hcn:=Hg (AM hx) hod
      repeat' with_reducible first | refine W ?_ | refine Z0 ?_ | ((first | refine Wo fun K hK=>?_ | refine Wp ?_ | refine Wq ?_ | refine Wr ?_);(try simp only [go_sem,fN,seval,eT,iR,g1,g2,u1,u2,g3,g4,u17,g5,u20,g6,g7,g8,u8,g9,u9,u959,g10,g11,hjl,hx,ho,GK,Option.isSome_none,hpl,hts,dT,dF,nL]);(repeat refine Ai ?_);(try (refine hK _ ?_;clear hK K));try refine iC ?_)
      refine AA ⟨m.frm.length - (j + 1),by omega,j + 1,ts,false,by omega,rfl,by simpa using hcn,by omega,?_⟩
      simp only [go_sem,fN,seval,eT,iR,g1,g2,u1,u2,g3,g4,u17,g5,u20,g6,g7,g8,u8,g9,u9,u959,g10,g11,AE]
      simp
     | some t =>
      have htk:FF t:=hpo t (List.mem_of_getElem? ho)
      have b1:ts.length + 1≤maxLen:=by
       rw [BM]
       have:=hok.2
       omega
      have b2:(ts.length + 1) * 40≤140737488355328:=by
       have:=hok.2
       omega
      repeat' with_reducible first | refine W ?_ | refine Z0 ?_ | ((first | refine Wo fun K hK=>?_ | refine Wp ?_ | refine Wq ?_ | refine Wr ?_);(try simp only [go_sem,fN,seval,eT,iR,g1,g2,u1,u2,g3,g4,u17,g5,u20,g6,g7,g8,u8,g9,u9,u959,g10,g11,hjl,hx,ho,GK,H8,Option.isSome_some,Option.getD_some,hpl,hts,hlen,b1,b2,dT,dF,nL]);(repeat refine Ai ?_);(try (refine hK _ ?_;clear hK K));try refine iC ?_)
      refine AA ⟨m.frm.length - (j + 1),by omega,j + 1,ts ++ [t],true,by omega,rfl,⟨hcs,by simp [htl]⟩,by simp [htl],?_⟩
      simp only [go_sem,fN,seval,eT,iR,g1,g2,u1,u2,g3,g4,u17,g5,u20,g6,g7,g8,u8,g9,u9,u959,g10,g11,AE]
      simp [C9 t]
   ·have hjm:j=m.frm.length:=by omega
    cases ok with
    | false =>
     rw [if_neg (by decide)] at hcl
     have hcn:m.cand p.1=none:=by
      unfold Mv.cand
      rw [hcl]
     have hstep:BT p m=p:=by
      unfold BT Cd Mv.gain
      rw [hcn]
      simp
     rw [hstep] at hsn
     repeat' with_reducible first | refine W ?_ | refine Z0 ?_ | ((first | refine Wo fun K hK=>?_ | refine Wp ?_ | refine Wq ?_ | refine Wr ?_);(try simp only [go_sem,fN,seval,eT,iR,g1,g2,u1,u2,g3,g4,u17,g5,u20,g6,g7,g8,u8,g9,u9,u959,g10,g11,hjl,dT,dF,nL]);(repeat refine Ai ?_);(try (refine hK _ ?_;clear hK K));try refine iC ?_)
     refine AA ⟨a.moves.length - (k + 1),by omega,k + 1,p,by omega,rfl,hsn.symm,?_⟩
     simp only [go_sem,fN,seval,AS.drop,AY,AC.clears,AC.clear,AC.highs,AC.high,Bool.not_false,Bool.true_and,Bool.and_self,AV.purge,AV.purges,AC.purge,AL.purge,List.contains_cons,List.contains_nil,Nat.reduceBEq,Bool.or_self,Bool.or_false,Bool.false_or,Bool.or_true,eT,iR,g1,g2,u1,u2,g3,g4,u17,g5,u20,g6,g7,g8,u8,g9,u9,u959,AE]
     simp
    | true =>
    rw [if_pos rfl] at hcl
    obtain ⟨hcl,htl⟩:=hcl
    rw [hjm,List.take_of_length_le (Nat.le_refl _)] at hcl
    have hcd:m.cand p.1=if (Tm.mk m.name ts).size≤2000 then some (.mk m.name ts) else none:=by
     unfold Mv.cand
     rw [hcl]
    have hS:AU Try.prog 45 [.agg [.st (.str m.name),.st (.list (ts.map A_))],AK 2000] (AK (BO (Tm.mk m.name ts).size 2000)):=Dv (Tm.mk m.name ts) 2000 (by decide) (by decide)
    have hcand:=fun (h:(Tm.mk m.name ts).size≤2000)=>KL hpo hok (hcd.trans (if_pos h))
    have hLt:∀ (b:Tm) (h:FF (Tm.mk m.name ts)) (hb:FF b),AU Try.prog 59 [.agg [.st (.str m.name),.st (.list (ts.map A_))],aTm b] (Ag (Dt (Tm.mk m.name ts) b)):=fun b h hb=>Mc _ b h hb
    have hn1:(Tm.mk m.name ts).name=m.name:=rfl
    have hn2:(Tm.mk m.name ts).args=ts:=rfl
    generalize Tm.mk m.name ts=t at *
    by_cases hbig:2000 < t.size
    ·have hcap:(2000:Int) < BO t.size 2000:=by unfold BO;split <;> omega
     have hcn:m.cand p.1=none:=by rw [hcd,if_neg (by omega)]
     have hstep:BT p m=p:=by
      unfold BT Cd Mv.gain
      rw [hcn]
      simp
     rw [hstep] at hsn
     repeat' (first | (with_reducible first | refine W ?_ | refine Z0 ?_ | ((first | refine Wo fun K hK=>?_ | refine Wp ?_ | refine Wq ?_ | refine Wr ?_);(try simp only [go_sem,fN,seval,eT,iR,g1,g2,u1,u2,g3,g4,u17,g5,u20,g6,g7,g8,u8,g9,u9,u959,g10,g11,hjl,hlen,hcap,dT,dF,nL]);(repeat refine Ai ?_);(try (refine hK _ ?_;clear hK K));try refine iC ?_)) | refine Cg _ (hS) ?_)
     refine AA ⟨a.moves.length - (k + 1),by omega,k + 1,p,by omega,rfl,hsn.symm,?_⟩
     simp only [go_sem,fN,seval,AS.drop,AY,AC.clears,AC.clear,AC.highs,AC.high,Bool.not_false,Bool.true_and,Bool.and_self,AV.purge,AV.purges,AC.purge,AL.purge,List.contains_cons,List.contains_nil,Nat.reduceBEq,Bool.or_self,Bool.or_false,Bool.false_or,Bool.or_true,eT,iR,g1,g2,u1,u2,g3,g4,u17,g5,u20,g6,g7,g8,u8,g9,u9,u959,AE]
     simp
    ·have hcap:¬ (2000:Int) < BO t.size 2000:=by unfold BO;split <;> omega
     have htk:=hcand (by omega)
     rw [if_pos (by omega)] at hcd
     obtain ⟨o,ho,hod⟩:=T8 (best:=p.1) (i:=m.to_.toNat) (by omega)
     have hmd:=VY p.1 m.to_.toNat t
     have hmh:=V9 p.1 m.to_.toNat t
     rw [hn1,hn2] at hmd
     cases o with
     | none =>
      have hgn:m.gain p.1=some t:=by
       unfold Mv.gain
       rw [hcd,hod]
      have hstep:BT p m=(p.1.set m.to_.toNat (some t),true):=by
       unfold BT Cd
       rw [hgn]
       simp
      rw [hstep] at hsn
      repeat' (first | (with_reducible first | refine W ?_ | refine Z0 ?_ | ((first | refine Wo fun K hK=>?_ | refine Wp ?_ | refine Wq ?_ | refine Wr ?_);(try simp only [go_sem,fN,seval,eT,iR,g1,g2,u1,u2,g3,g4,u17,g5,u20,g6,g7,g8,u8,g9,u9,u959,g10,g11,hjl,hlen,hcap,ho,GK,H8,Option.isSome_none,hpl,hts,hmd,hmh,dT,dF,nL]);(repeat refine Ai ?_);(try (refine hK _ ?_;clear hK K));try refine iC ?_)) | refine Cg _ (hS) ?_)
      refine AA ⟨a.moves.length - (k + 1),by omega,k + 1,_,by omega,rfl,hsn.symm,?_⟩
      simp only [go_sem,fN,seval,AS.drop,AY,AC.clears,AC.clear,AC.highs,AC.high,Bool.not_false,Bool.true_and,Bool.and_self,AV.purge,AV.purges,AC.purge,AL.purge,List.contains_cons,List.contains_nil,Nat.reduceBEq,Bool.or_self,Bool.or_false,Bool.false_or,Bool.or_true,eT,iR,g1,g2,u1,u2,g3,g4,u17,g5,u20,g6,g7,g8,u8,g9,u9,u959,AE]
      simp [hmd,hmh]
     | some b =>
      have hbk:FF b:=hpo b (List.mem_of_getElem? ho)
      have hL:=hLt b htk hbk
      cases hlb:Dt t b with
      | true =>
       rw [hlb] at hL
       have hgn:m.gain p.1=some t:=by
        unfold Mv.gain
        rw [hcd,hod]
        simp [hlb]
       have hstep:BT p m=(p.1.set m.to_.toNat (some t),true):=by
        unfold BT Cd
        rw [hgn]
        simp
       rw [hstep] at hsn
       repeat' (first | (with_reducible first | refine W ?_ | refine Z0 ?_ | ((first | refine Wo fun K hK=>?_ | refine Wp ?_ | refine Wq ?_ | refine Wr ?_);(try simp only [go_sem,fN,seval,eT,iR,g1,g2,u1,u2,g3,g4,u17,g5,u20,g6,g7,g8,u8,g9,u9,u959,g10,g11,hjl,hlen,hcap,ho,GK,H8,Option.isSome_some,Option.getD_some,hpl,hts,hmd,hmh,dT,dF,nL]);(repeat refine Ai ?_);(try (refine hK _ ?_;clear hK K));try refine iC ?_)) | refine Cg _ (hS) ?_ | refine Cg _ (hL) ?_)
       refine AA ⟨a.moves.length - (k + 1),by omega,k + 1,_,by omega,rfl,hsn.symm,?_⟩
       simp only [go_sem,fN,seval,AS.drop,AY,AC.clears,AC.clear,AC.highs,AC.high,Bool.not_false,Bool.true_and,Bool.and_self,AV.purge,AV.purges,AC.purge,AL.purge,List.contains_cons,List.contains_nil,Nat.reduceBEq,Bool.or_self,Bool.or_false,Bool.false_or,Bool.or_true,eT,iR,g1,g2,u1,u2,g3,g4,u17,g5,u20,g6,g7,g8,u8,g9,u9,u959,AE]
       simp [hmd,hmh]
      | false =>
       rw [hlb] at hL
       have hgn:m.gain p.1=none:=by
        unfold Mv.gain
        rw [hcd,hod]
        simp [hlb]
       have hstep:BT p m=p:=by
        unfold BT Cd
        rw [hgn]
        simp
       rw [hstep] at hsn
       repeat' (first | (with_reducible first | refine W ?_ | refine Z0 ?_ | ((first | refine Wo fun K hK=>?_ | refine Wp ?_ | refine Wq ?_ | refine Wr ?_);(try simp only [go_sem,fN,seval,eT,iR,g1,g2,u1,u2,g3,g4,u17,g5,u20,g6,g7,g8,u8,g9,u9,u959,g10,g11,hjl,hlen,hcap,ho,GK,H8,Option.isSome_some,Option.getD_some,hpl,hts,dT,dF,nL]);(repeat refine Ai ?_);(try (refine hK _ ?_;clear hK K));try refine iC ?_)) | refine Cg _ (hS) ?_ | refine Cg _ (hL) ?_)
       refine AA ⟨a.moves.length - (k + 1),by omega,k + 1,p,by omega,rfl,hsn.symm,?_⟩
       simp only [go_sem,fN,seval,AS.drop,AY,AC.clears,AC.clear,AC.highs,AC.high,Bool.not_false,Bool.true_and,Bool.and_self,AV.purge,AV.purges,AC.purge,AL.purge,List.contains_cons,List.contains_nil,Nat.reduceBEq,Bool.or_self,Bool.or_false,Bool.false_or,Bool.or_true,eT,iR,g1,g2,u1,u2,g3,g4,u17,g5,u20,g6,g7,g8,u8,g9,u9,u959,AE]
       simp
  ·rw [List.take_of_length_le (l:=a.moves) (i:=k) (by omega)] at hp
   have hpp:p=pass a.moves best0:=hp
   have hpo:Dc p.1:=by rw [hp];exact Di hob hmv
   have hpl:p.1.length=a.states.toNat:=by rw [hp,Cs];exact hbl
   obtain ⟨b,more⟩:=p
   simp only at t17 t20 f6 hpo hpl
   repeat' with_reducible first | refine W ?_ | refine Z0 ?_ | ((first | refine Wo fun K hK=>?_ | refine Wp ?_ | refine Wq ?_ | refine Wr ?_);(try simp only [go_sem,fN,seval,eT,iR,f1,f2,t1,t2,f3,f4,t17,f5,t20,f6,f7,t8,t9,t959,hlt,dT,dF,nL]);(repeat refine Ai ?_);(try (refine hK _ ?_;clear hK K));try refine iC ?_)
   cases n with
   | zero =>
    have h0:pass a.moves best0=(out,false):=hends
    rw [← hpp] at h0
    cases h0
    refine AA ⟨0,by simp,0,false,out,by simp,by simp,hpo,hpl,?_⟩
    simp only [go_sem,fN,seval,AS.drop,AY,AC.clears,AC.clear,AC.highs,AC.high,Bool.not_false,Bool.true_and,Bool.and_self,AV.purge,AV.purges,AC.purge,AL.purge,List.contains_cons,List.contains_nil,Nat.reduceBEq,Bool.or_self,Bool.or_false,Bool.false_or,Bool.or_true,eT,iR,f1,f2,t1,t2,f3,f4,t17,f5,t20,f6,f7,t8,t9,t959,AE]
   | succ n =>
    obtain ⟨q1,q2⟩:=hends
    rw [← hpp] at q1 q2
    simp only at q1 q2
    subst q1
    refine AA ⟨n + 1,by simp,n,true,b,by simp,by simpa using q2,hpo,hpl,?_⟩
    simp only [go_sem,fN,seval,AS.drop,AY,AC.clears,AC.clear,AC.highs,AC.high,Bool.not_false,Bool.true_and,Bool.and_self,AV.purge,AV.purges,AC.purge,AL.purge,List.contains_cons,List.contains_nil,Nat.reduceBEq,Bool.or_self,Bool.or_false,Bool.false_or,Bool.or_true,eT,iR,f1,f2,t1,t2,f3,f4,t17,f5,t20,f6,f7,t8,t9,t959,AE]

theorem W9 (a:Au) (h:¬ a.may 8 40=0):AU Try.prog 43 [aAu a] (.tup [aTm Tm.nil,AK (a.may 8 40)]):=by
 refine Ig.ac fun C hC=>?_
 unfold Fi
 repeat' (first | (with_reducible first | refine W ?_ | refine Z0 ?_ | ((first | refine Wo fun K hK=>?_ | refine Wp ?_ | refine Wq ?_ | refine Wr ?_);(try simp only [go_sem,fN,seval,eT,iR,h,dT,dF,nL]);(repeat refine Ai ?_);(try (refine hK _ ?_;clear hK K));try refine iC ?_)) | refine Cg _ (BV a) ?_)
 simp only [go_sem,fN,seval,AP,AS.result,AH,AI,AN]
 rfl
theorem Gd (e:Int) (h:¬ e=0):AU Try.prog 44 [aTm Tm.nil,AK e,aTm Tm.nil,AK e] (Ag true):=by
 have h1:=SW Tm.nil Tm.nil e e
 rw [Kh Tm.nil e e (fun _=>rfl) rfl] at h1
 exact h1
theorem La (t:Tm):AU Try.prog 44 [aTm t,AK 0,aTm t,AK 0] (Ag true):=by
 have h1:=SW t t 0 0
 rw [Kh t 0 0 (fun h=>absurd rfl h) rfl] at h1
 exact h1
set_option maxRecDepth 100000 in
theorem RR (a:Au) (t:Tm):AU Try.prog 17 [aAu a,aTm t] (Ag true):=by
 by_cases q1:a.huge=true
 ·refine BP.ac fun C hC=>?_
  unfold BG
  repeat' (first | (with_reducible first | refine W ?_ | refine Z0 ?_ | ((first | refine Wo fun K hK=>?_ | refine Wp ?_ | refine Wq ?_ | refine Wr ?_);(try simp only [go_sem,fN,seval,eT,iR,q1,dT,dF,nL]);(repeat refine Ai ?_);(try (refine hK _ ?_;clear hK K));try refine iC ?_)) | refine Cg _ (AZ a) ?_)
  simp only [go_sem,fN,seval,AP,AS.result,AH,AI,AN]
 by_cases q2:3000 < t.size
 ·have hq:decide (3000 < t.size)=true:=by simpa using q2
  refine BP.ac fun C hC=>?_
  unfold BG
  repeat' (first | (with_reducible first | refine W ?_ | refine Z0 ?_ | ((first | refine Wo fun K hK=>?_ | refine Wp ?_ | refine Wq ?_ | refine Wr ?_);(try simp only [go_sem,fN,seval,eT,iR,q1,hq,dT,dF,nL]);(repeat refine Ai ?_);(try (refine hK _ ?_;clear hK K));try refine iC ?_)) | refine Cg _ (AZ a) ?_ | refine Cg _ (GO t) ?_)
  simp only [go_sem,fN,seval,AP,AS.result,AH,AI,AN]
 have hq:decide (3000 < t.size)=false:=by simpa using q2
 have hla:a.last.length≤100:=by
  simp only [Au.huge,Bool.or_eq_true,decide_eq_true_eq,not_or] at q1
  omega
 have hCk:=BV a
 have hA:=Ty a t (by omega) (by omega)
 by_cases h1:a.may 8 40=0
 case neg =>
  have e:Gl a t=a.may 8 40:=if_neg h1
  rw [e] at hA
  have hA':AU Try.prog 19 [aAu a,aTm t] (.tup [Ag false,AK (a.may 8 40)]):=by
   have h2:(decide (a.may 8 40=0) && a.acc t)=false:=by simp [h1]
   rwa [h2] at hA
  have hS:=W9 a h1
  have hT:=Gd _ h1
  have hM:=B1 a 8 40
  clear hA
  generalize a.may 8 40=e at *
  refine BP.ac fun C hC=>?_
  unfold BG
  repeat' (first | (with_reducible first | refine W ?_ | refine Z0 ?_ | ((first | refine Wo fun K hK=>?_ | refine Wp ?_ | refine Wq ?_ | refine Wr ?_);(try simp only [go_sem,fN,seval,eT,iR,q1,hq,h1,Tm.nil,GA,Ju,dT,dF,nL]);(repeat refine Ai ?_);(try (refine hK _ ?_;clear hK K));try refine iC ?_)) | refine Cg _ (AZ a) ?_ | refine Cg _ (GO t) ?_ | refine Cg _ (hM) ?_ | refine Cg _ (hA') ?_ | refine Cg _ (hS) ?_ | refine Cg _ (hCk) ?_ | refine Cg _ (hT) ?_)
  simp only [go_sem,fN,seval,AP,AS.result,AH,AI,AN]
 case pos =>
 have ga:=Au.may_good h1
 obtain ⟨a1,_,_⟩:=Au.may_ok.1 h1
 obtain ⟨n,out,hout⟩:=Wx h1
 have hS:=WW a (by omega) h1 hout
 have hR:=W7 a (by omega) h1 hout
 have hM:=B1 a 8 40
 have hV:=Ve t (by omega)
 have hQ:=TZ t
 have hO:=Dd a ga (by omega) (by omega) t (by omega)
 have e1:Gl a t=if t.may=0 then (if t.varsOf.length=0 then 0 else 15) else t.may:=if_pos h1
 rw [h1] at hM hCk
 generalize ED out a.last=o at hS hR
 by_cases h2:t.may=0
 case neg =>
  rw [if_neg h2] at e1
  rw [e1] at hA
  have hA':AU Try.prog 19 [aAu a,aTm t] (.tup [Ag false,AK t.may]):=by
   have h3:(decide (t.may=0) && a.acc t)=false:=by simp [h2]
   rwa [h3] at hA
  cases o with
  | none =>
   refine BP.ac fun C hC=>?_
   unfold BG
   repeat' (first | (with_reducible first | refine W ?_ | refine Z0 ?_ | ((first | refine Wo fun K hK=>?_ | refine Wp ?_ | refine Wq ?_ | refine Wr ?_);(try simp only [go_sem,fN,seval,eT,iR,q1,hq,h2,GA,Ju,dT,dF,nL]);(repeat refine Ai ?_);(try (refine hK _ ?_;clear hK K));try refine iC ?_)) | refine Cg _ (AZ a) ?_ | refine Cg _ (GO t) ?_ | refine Cg _ (hM) ?_ | refine Cg _ (hQ) ?_ | refine Cg _ (hR) ?_ | refine Cg _ (hA') ?_ | refine Cg _ (hS) ?_ | refine Cg _ (hCk) ?_ | refine Cg _ (Gd 7 (by decide)) ?_)
   simp only [go_sem,fN,seval,AP,AS.result,AH,AI,AN]
  | some x =>
   refine BP.ac fun C hC=>?_
   unfold BG
   repeat' (first | (with_reducible first | refine W ?_ | refine Z0 ?_ | ((first | refine Wo fun K hK=>?_ | refine Wp ?_ | refine Wq ?_ | refine Wr ?_);(try simp only [go_sem,fN,seval,eT,iR,q1,hq,h2,GA,Ju,dT,dF,nL]);(repeat refine Ai ?_);(try (refine hK _ ?_;clear hK K));try refine iC ?_)) | refine Cg _ (AZ a) ?_ | refine Cg _ (GO t) ?_ | refine Cg _ (hM) ?_ | refine Cg _ (hQ) ?_ | refine Cg _ (hR) ?_ | refine Cg _ (hA') ?_ | refine Cg _ (hS) ?_ | refine Cg _ (hCk) ?_ | refine Cg _ (La x) ?_)
   simp only [go_sem,fN,seval,AP,AS.result,AH,AI,AN]
 case pos =>
 rw [if_pos h2] at e1
 rw [h2] at hQ
 by_cases h3:t.varsOf.length=0
 case neg =>
  rw [if_neg h3] at e1
  rw [e1] at hA
  have h3':(0:Int) < t.varsOf.length:=by omega
  have hA':AU Try.prog 19 [aAu a,aTm t] (.tup [Ag false,AK 15]):=hA
  cases o with
  | none =>
   refine BP.ac fun C hC=>?_
   unfold BG
   repeat' (first | (with_reducible first | refine W ?_ | refine Z0 ?_ | ((first | refine Wo fun K hK=>?_ | refine Wp ?_ | refine Wq ?_ | refine Wr ?_);(try simp only [go_sem,fN,seval,eT,iR,q1,hq,h3',GA,Ju,dT,dF,nL]);(repeat refine Ai ?_);(try (refine hK _ ?_;clear hK K));try refine iC ?_)) | refine Cg _ (AZ a) ?_ | refine Cg _ (GO t) ?_ | refine Cg _ (hM) ?_ | refine Cg _ (hQ) ?_ | refine Cg _ (hV) ?_ | refine Cg _ (hR) ?_ | refine Cg _ (hA') ?_ | refine Cg _ (hS) ?_ | refine Cg _ (hCk) ?_ | refine Cg _ (Gd 7 (by decide)) ?_)
   simp only [go_sem,fN,seval,AP,AS.result,AH,AI,AN]
  | some x =>
   refine BP.ac fun C hC=>?_
   unfold BG
   repeat' (first | (with_reducible first | refine W ?_ | refine Z0 ?_ | ((first | refine Wo fun K hK=>?_ | refine Wp ?_ | refine Wq ?_ | refine Wr ?_);(try simp only [go_sem,fN,seval,eT,iR,q1,hq,h3',GA,Ju,dT,dF,nL]);(repeat refine Ai ?_);(try (refine hK _ ?_;clear hK K));try refine iC ?_)) | refine Cg _ (AZ a) ?_ | refine Cg _ (GO t) ?_ | refine Cg _ (hM) ?_ | refine Cg _ (hQ) ?_ | refine Cg _ (hV) ?_ | refine Cg _ (hR) ?_ | refine Cg _ (hA') ?_ | refine Cg _ (hS) ?_ | refine Cg _ (hCk) ?_ | refine Cg _ (La x) ?_)
   simp only [go_sem,fN,seval,AP,AS.result,AH,AI,AN]
 case pos =>
 rw [if_pos h3] at e1
 rw [e1] at hA
 have h3':¬ (0:Int) < t.varsOf.length:=by omega
 have hA':AU Try.prog 19 [aAu a,aTm t] (.tup [Ag (a.acc t),AK 0]):=by
  have h4:(decide ((0:Int)=0) && a.acc t)=a.acc t:=by simp
  rwa [h4] at hA
 cases o with
 | none =>
  refine BP.ac fun C hC=>?_
  unfold BG
  repeat' (first | (with_reducible first | refine W ?_ | refine Z0 ?_ | ((first | refine Wo fun K hK=>?_ | refine Wp ?_ | refine Wq ?_ | refine Wr ?_);(try simp only [go_sem,fN,seval,eT,iR,q1,hq,h3',GA,Ju,beq_self_eq_true,dT,dF,nL]);(repeat refine Ai ?_);(try (refine hK _ ?_;clear hK K));try refine iC ?_)) | refine Cg _ (AZ a) ?_ | refine Cg _ (GO t) ?_ | refine Cg _ (hM) ?_ | refine Cg _ (hQ) ?_ | refine Cg _ (hV) ?_ | refine Cg _ (hO) ?_ | refine Cg _ (hR) ?_ | refine Cg _ (hA') ?_ | refine Cg _ (hS) ?_ | refine Cg _ (hCk) ?_ | refine Cg _ (Gd 7 (by decide)) ?_)
  simp only [go_sem,fN,seval,AP,AS.result,AH,AI,AN]
 | some x =>
  refine BP.ac fun C hC=>?_
  unfold BG
  repeat' (first | (with_reducible first | refine W ?_ | refine Z0 ?_ | ((first | refine Wo fun K hK=>?_ | refine Wp ?_ | refine Wq ?_ | refine Wr ?_);(try simp only [go_sem,fN,seval,eT,iR,q1,hq,h3',GA,Ju,beq_self_eq_true,dT,dF,nL]);(repeat refine Ai ?_);(try (refine hK _ ?_;clear hK K));try refine iC ?_)) | refine Cg _ (AZ a) ?_ | refine Cg _ (GO t) ?_ | refine Cg _ (hM) ?_ | refine Cg _ (hQ) ?_ | refine Cg _ (hV) ?_ | refine Cg _ (hO) ?_ | refine Cg _ (hR) ?_ | refine Cg _ (hA') ?_ | refine Cg _ (hS) ?_ | refine Cg _ (hCk) ?_ | refine Cg _ (La x) ?_)
  simp only [go_sem,fN,seval,AP,AS.result,AH,AI,AN]

def Gy:IR :=
 (.seq (.ops [.i 8 (.alloc 25 [.st (.int .i64 0),.full [],.full []])]) (.seq (.ops [.m 16 2,.i 17 (.build [.st (.int .i64 0),.full [],.full []] [(0,1,.t 16)]),.i 9 (.alloc 25 [.st (.int .i64 0),.full [],.full []]),.s 3 9 17]) (.seq (.seq (.ops [.i 10 (.mov (.n 0))]) (.block 0 (.loop (.seq (.seq (.ops [.m 18 10,.m 19 3,.i 20 (.bin .lss (.t 18) (.t 19))]) (.cond (.t 20) .skip (.exit 0))) (.seq (.block 1 (.seq (.ops [.m 23 0,.m 24 1,.m 25 10,.i 26 (.bin .mul (.n 4) (.t 25)),.i 27 (.bin .add (.t 24) (.t 26)),.i 28 (.call 37 [.t 23,.t 27]),.m 11 28]) (.seq (.ops [.i 29 (.buildFlat [.n 0,.n 0,.n 1,.n 2]),.m 30 11,.i 31 (.call 15 [.t 30,.n 4]),.i 32 (.indexAddr 1 (.t 29) (.t 31)),.l 33 32,.m 12 33]) (.seq (.ops [.i 34 (.buildFlat [.c (.one (.st (.str (ByteArray.mk (#[97]))))),.c (.one (.st (.str (ByteArray.mk (#[98]))))),.c (.one (.st (.str (ByteArray.mk (#[104]))))),.c (.one (.st (.str (ByteArray.mk (#[102])))))]),.m 35 11,.i 36 (.call 15 [.t 35,.n 4]),.i 37 (.indexAddr 1 (.t 34) (.t 36)),.l 38 37,.m 39 0,.m 40 1,.m 41 10,.i 42 (.bin .mul (.n 4) (.t 41)),.i 43 (.bin .add (.t 40) (.t 42)),.i 44 (.bin .add (.t 43) (.n 1)),.i 45 (.call 37 [.t 39,.t 44]),.m 46 2,.i 47 (.call 15 [.t 45,.t 46]),.i 48 (.build [.st (.str (ByteArray.mk (#[]))),.full [],.st (.int .i64 0)] [(0,1,.t 38),(2,1,.t 47)]),.i 13 (.alloc 46 [.st (.str (ByteArray.mk (#[]))),.full [],.st (.int .i64 0)]),.s 3 13 48]) (.seq (.seq (.ops [.i 14 (.mov (.n 0))]) (.block 2 (.loop (.seq (.seq (.ops [.m 49 14,.m 50 12,.i 51 (.bin .lss (.t 49) (.t 50))]) (.cond (.t 51) .skip (.exit 2))) (.seq (.block 3 (.ops [.f 54 1 13,.l 55 54,.m 56 0,.m 57 1,.m 58 10,.i 59 (.bin .mul (.n 4) (.t 58)),.i 60 (.bin .add (.t 57) (.t 59)),.i 61 (.bin .add (.t 60) (.n 2)),.m 62 14,.i 63 (.bin .add (.t 61) (.t 62)),.i 64 (.call 37 [.t 56,.t 63]),.m 65 2,.i 66 (.call 15 [.t 64,.t 65]),.i 67 (.buildFlat [.t 66]),.i 68 (.append false 3 1 8 (.t 55) (.t 67)),.f 69 1 13,.s 1 69 68])) (.ops [.m 52 14,.i 53 (.bin .add (.t 52) (.n 1)),.m 14 53])))))) (.ops [.f 70 1 9,.l 71 70,.L 72 3 13,.i 73 (.buildSlice false 46 3 [.t 72]),.i 74 (.append false 46 3 48 (.t 71) (.t 73)),.f 75 1 9,.s 1 75 74])))))) (.ops [.m 21 10,.i 22 (.bin .add (.t 21) (.n 1)),.m 10 22])))))) (.seq (.seq (.ops [.i 15 (.mov (.n 0))]) (.block 4 (.loop (.seq (.seq (.ops [.m 76 15,.m 77 2,.i 78 (.bin .lss (.t 76) (.t 77))]) (.cond (.t 78) .skip (.exit 4))) (.seq (.block 5 (.seq (.ops [.m 81 0,.m 82 1,.m 83 15,.i 84 (.bin .add (.t 82) (.t 83)),.i 85 (.bin .add (.t 84) (.n 3)),.i 86 (.call 37 [.t 81,.t 85]),.i 87 (.call 15 [.t 86,.n 3]),.i 88 (.bin .eql (.t 87) (.n 0))]) (.cond (.t 88) (.ops [.f 89 2 9,.l 90 89,.m 91 15,.i 92 (.buildFlat [.t 91]),.i 93 (.append false 3 1 8 (.t 90) (.t 92)),.f 94 2 9,.s 1 94 93]) .skip))) (.ops [.m 79 15,.i 80 (.bin .add (.t 79) (.n 1)),.m 15 80])))))) (.seq (.ops [.L 95 3 9,.s 3 8 95]) .ret)))))
theorem MK:OkF Try.prog 14 96 [] Gy [.cell 8 true 3]:=.of Try.func14 rfl rfl (by kernel_rfl) rfl

def NC:IR :=
 (.seq (.ops [.i 4 (.mov (.n 0))]) (.seq (.seq (.ops [.m 5 0,.i 6 (.bin .lss (.t 5) (.n 0))]) (.cond (.t 6) (.ops [.m 7 0,.i 8 (.bin .add (.t 7) (.n 1)),.i 9 (.un .neg (.t 8)),.m 0 9]) .skip)) (.seq (.ops [.m 10 0,.m 11 1,.i 12 (.bin .rem (.t 10) (.t 11)),.m 4 12]) .ret)))
theorem TK:OkF Try.prog 15 13 [] NC [.t 4]:=.of Try.func15 rfl rfl (by kernel_rfl) rfl
def Pw:IR :=
 (.seq (.ops [.i 4 (.mov (.n 0))]) (.seq (.seq (.ops [.m 5 0,.i 6 (.len false (.t 5)),.i 7 (.bin .eql (.t 6) (.n 0))]) (.cond (.t 7) (.seq (.ops [.m 8 1,.i 9 (.bin .mul (.t 8) (.n 31)),.m 4 9]) .ret) .skip)) (.seq (.ops [.m 10 0,.m 11 1,.m 12 0,.i 13 (.len false (.t 12)),.i 14 (.bin .rem (.t 11) (.t 13)),.i 15 (.indexAddr 1 (.t 10) (.t 14)),.l 16 15,.i 17 (.call 15 [.t 16,.n 1000003]),.m 18 1,.m 19 0,.i 20 (.len false (.t 19)),.i 21 (.bin .quo (.t 18) (.t 20)),.i 22 (.bin .mul (.t 21) (.n 7919)),.i 23 (.bin .add (.t 17) (.t 22)),.m 4 23]) .ret)))
theorem V7:OkF Try.prog 37 24 [] Pw [.t 4]:=.of Try.func37 rfl rfl (by kernel_rfl) rfl
def Me:IR :=
 (.seq (.ops [.i 2 (.alloc 39 [.st (.str (ByteArray.mk (#[]))),.full []])]) (.seq (.ops [.m 3 0,.i 4 (.build [.st (.str (ByteArray.mk (#[]))),.full []] [(0,1,.t 3)]),.s 2 2 4]) .ret))
theorem Tk:OkF Try.prog 38 5 [] Me [.cell 2 true 2]:=.of Try.func38 rfl rfl (by kernel_rfl) rfl

def Bc (c n:Int):Int:=(if c < 0 then -(c + 1) else c) % n
theorem Be (c n:Int) (hn:1≤n):0≤Bc c n∧Bc c n < n:=⟨Int.emod_nonneg _ (by omega),Int.emod_lt_of_pos _ (by omega)⟩
theorem Hj {x n:Int} (hx:0≤x) (hn:1≤n):x.tmod n=x % n∧0≤x % n∧x % n < n∧x % n≤x:=by
 rw [Int.tmod_eq_emod_of_nonneg hx]
 refine ⟨rfl,Int.emod_nonneg _ (by omega),Int.emod_lt_of_pos _ (by omega),?_⟩
 by_cases h:x < n
 ·rw [Int.emod_eq_of_lt hx h];exact Int.le_refl _
 ·have:=Int.emod_lt_of_pos x (show 0 < n by omega);omega
theorem HO {x n:Int} (hx:0≤x) (hn:1≤n):x.tdiv n=x / n∧0≤x / n∧x / n≤x:=by
 rw [Int.tdiv_eq_ediv_of_nonneg hx]
 exact ⟨rfl,Int.ediv_nonneg hx (by omega),Int.ediv_le_self _ hx⟩
theorem EM (c n:Int) (hc:inR .i64 c) (hn:1≤n):AU Try.prog 15 [AK c,AK n] (AK (Bc c n)):=by
 rw [Cj] at hc
 refine TK.ac fun C hC=>?_
 unfold NC
 repeat' with_reducible first | refine W ?_ | refine Z0 ?_ | ((first | refine Wo fun K hK=>?_ | refine Wq ?_ | refine Wr ?_);(try simp only [go_sem,fN,seval,eT,iR]);(repeat refine Ai ?_);(try (refine hK _ ?_;clear hK K)))
 with_reducible refine Wp ?_
 simp only [go_sem,fN,seval,true_implies,false_implies,implies_true,dT,dF,nL]
 (try with_reducible refine iC ?_)
 refine ⟨fun h0=>?_,fun h0=>?_⟩
 ·have h1:=Hj (x:=0 - (c + 1)) (n:=n) (by omega) hn
  repeat' with_reducible first | refine W ?_ | refine Z0 ?_ | ((first | refine Wo fun K hK=>?_ | refine Wq ?_ | refine Wr ?_);(try simp only [go_sem,fN,seval,eT,iR,h1.1]);(repeat refine Ai ?_);(try (refine hK _ ?_;clear hK K)))
  simp only [go_sem,fN,seval,AP,AS.result,AH,AI,AN]
  unfold Bc
  rw [if_pos h0]
  congr 5
  omega
 ·have h1:=Hj (x:=c) (n:=n) (by omega) hn
  repeat' with_reducible first | refine W ?_ | refine Z0 ?_ | ((first | refine Wo fun K hK=>?_ | refine Wq ?_ | refine Wr ?_);(try simp only [go_sem,fN,seval,eT,iR,h1.1]);(repeat refine Ai ?_);(try (refine hK _ ?_;clear hK K)))
  simp only [go_sem,fN,seval,AP,AS.result,AH,AI,AN]
  unfold Bc
  rw [if_neg h0]
def CP (l:List Int) (i:Nat):Int:=if l.length=0 then i * 31 else Bc (l.getD (i % l.length) 0) 1000003 + ((i / l.length:Nat):Int) * 7919
theorem EK (l:List Int) (i:Nat):0≤CP l i∧CP l i≤1000003 + i * 7919:=by
 unfold CP
 split
 ·omega
 ·have:=Be (l.getD (i % l.length) 0) 1000003 (by omega)
  have h2:i / l.length≤i:=Nat.div_le_self _ _
  generalize i / l.length=q at *
  omega
theorem Pd (l:List Int) (i:Nat) (hi:i≤1000000) (hl:∀ n ∈ l,inR .i64 n) (hm:l.length≤maxLen):AU Try.prog 37 [D7 l,AK i] (AK (CP l i)):=by
 rw [BM] at hm
 refine V7.ac fun C hC=>?_
 unfold Pw
 repeat' with_reducible first | refine W ?_ | refine Z0 ?_ | ((first | refine Wo fun K hK=>?_ | refine Wq ?_ | refine Wr ?_);(try simp only [go_sem,fN,seval,eT,iR]);(repeat refine Ai ?_);(try (refine hK _ ?_;clear hK K)))
 with_reducible refine Wp ?_
 simp only [go_sem,fN,seval,true_implies,false_implies,implies_true,dT,dF,nL]
 (try with_reducible refine iC ?_)
 refine ⟨fun h0=>?_,fun h0=>?_⟩
 ·repeat' with_reducible first | refine W ?_ | refine Z0 ?_ | ((first | refine Wo fun K hK=>?_ | refine Wq ?_ | refine Wr ?_);(try simp only [go_sem,fN,seval,eT,iR]);(repeat refine Ai ?_);(try (refine hK _ ?_;clear hK K)))
  simp only [go_sem,fN,seval,AP,AS.result,AH,AI,AN]
  unfold CP
  rw [if_pos (by omega)]
 ·have h1:=Hj (x:=(i:Int)) (n:=(l.length:Int)) (by omega) (by omega)
  have h2:=HO (x:=(i:Int)) (n:=(l.length:Int)) (by omega) (by omega)
  have hlt:i % l.length < l.length:=Nat.mod_lt _ (by omega)
  obtain ⟨a,ha⟩:=Ab hlt
  have e1:((i:Int) % (l.length:Int))=((i % l.length:Nat):Int):=by omega
  have e2:((i:Int) / (l.length:Int))=((i / l.length:Nat):Int):=by omega
  have h3:i / l.length≤i:=Nat.div_le_self _ _
  repeat' with_reducible first | refine W ?_ | refine Z0 ?_ | ((first | refine Wo fun K hK=>?_ | refine Wq ?_ | refine Wr ?_);(try simp only [go_sem,fN,seval,eT,iR,h1.1,h2.1,e1,e2,ha]);(repeat refine Ai ?_);(try (refine hK _ ?_;clear hK K)))
  refine ⟨_,EM a 1000003 (hl a (AM ha)) (by omega),?_⟩
  have hp:=Be a 1000003 (by omega)
  repeat' with_reducible first | refine W ?_ | refine Z0 ?_ | ((first | refine Wo fun K hK=>?_ | refine Wq ?_ | refine Wr ?_);(try simp only [go_sem,fN,seval,eT,iR,h1.1,h2.1,e1,e2]);(repeat refine Ai ?_);(try (refine hK _ ?_;clear hK K)))
  simp only [go_sem,fN,seval,AP,AS.result,AH,AI,AN]
  unfold CP
  rw [if_neg (by omega),List.getD_eq_getElem?_getD,ha]
  rfl
theorem Ux (s:ByteArray):AU Try.prog 38 [Da s] (aTm (.mk s [])):=by
 refine Tk.ac fun C hC=>?_
 unfold Me
 repeat' with_reducible first | refine W ?_ | refine Z0 ?_ | ((first | refine Wo fun K hK=>?_ | refine Wq ?_ | refine Wr ?_);(try simp only [go_sem,fN,seval,eT,iR]);(repeat refine Ai ?_);(try (refine hK _ ?_;clear hK K)))
 simp only [go_sem,fN,seval,AP,AS.result,AH,AI,AN]
 rfl
theorem Od {n:ByteArray} {xs:List Tm} (h1:Az n=true) (h2:BH n=false) (hx:∀ x ∈ xs,x.chk=0):(Tm.mk n xs).chk=0:=by
 have h0:B_ (Tm.mk n xs)=0:=by
  unfold B_
  rw [Tm.name_mk,if_pos h1,if_neg (by rw [h2];simp)]
 rw [Tm.chk_eq,if_pos h0,Tm.args_mk]
 induction xs with
 | nil=>rfl
 | cons x xs ih =>
  simp only [Tm.chkL]
  rw [if_pos (hx x (by simp))]
  refine ih (fun y hy=>hx y (by simp [hy])) ?_
  unfold B_
  rw [Tm.name_mk,if_pos h1,if_neg (by rw [h2];simp)]

def Fr (c:Int):Nat:=[0,0,1,2].getD (Bc c 4).toNat 0
def QT (c:Int):ByteArray:=[⟨#[97]⟩,⟨#[98]⟩,⟨#[104]⟩,⟨#[102]⟩].getD (Bc c 4).toNat ⟨#[97]⟩
def Rw (l:List Int) (b:Nat) (n:Int) (k:Nat):List Int:=(List.range k).map fun j=>Bc (CP l (b + 2 + j)) n
def mvF (l:List Int) (at_:Nat) (n:Int) (i:Nat):Mv:=⟨QT (CP l (at_ + 4 * i)),Rw l (at_ + 4 * i) n (Fr (CP l (at_ + 4 * i))),Bc (CP l (at_ + 4 * i + 1)) n⟩
def N9 (l:List Int) (at_:Nat) (n:Int) (k:Nat):List Mv:=(List.range k).map (mvF l at_ n)
def EB (l:List Int) (at_:Nat):Nat→List Int
 | 0=>[]
 | s + 1=>if Bc (CP l (at_ + s + 3)) 3=0 then EB l at_ s ++ [(s:Int)] else EB l at_ s
def auF (l:List Int) (at_ n mv:Nat):Au:=⟨n,N9 l at_ n mv,EB l at_ n⟩
theorem Ua (c:Int):Fr c≤2:=by
 have:=Be c 4 (by omega)
 unfold Fr
 have h:(Bc c 4).toNat=0 ∨ (Bc c 4).toNat=1 ∨ (Bc c 4).toNat=2 ∨ (Bc c 4).toNat=3:=by omega
 rcases h with h | h | h | h <;> rw [h] <;> decide
theorem Ul (l:List Int) (b:Nat) (n:Int) (k:Nat):(Rw l b n k).length=k:=by simp [Rw]
theorem Tj (l:List Int) (b:Nat) (n:Int) (k:Nat):Rw l b n (k + 1)=Rw l b n k ++ [Bc (CP l (b + 2 + k)) n]:=by simp [Rw,List.range_succ]
theorem PW (l:List Int) (at_:Nat) (n:Int) (k:Nat):(N9 l at_ n k).length=k:=by simp [N9]
theorem TE (l:List Int) (at_:Nat) (n:Int) (k:Nat):N9 l at_ n (k + 1)=N9 l at_ n k ++ [mvF l at_ n k]:=by simp [N9,List.range_succ]
theorem Mi (l:List Int) (at_:Nat):∀ s,(EB l at_ s).length≤s
 | 0=>Nat.le_refl _
 | s + 1=>by
  have:=Mi l at_ s
  rw [EB]
  split
  ·rw [List.length_append]
   simp
   omega
  ·omega
theorem Kv (l:List Int) (hl:∀ n ∈ l,inR .i64 n) (hm:l.length≤maxLen) (at_ n mv:Nat) (ha:at_≤1000) (hn:1≤n) (hn8:n≤8) (hmv:mv≤40) :
  AU Try.prog 14 [D7 l,AK at_,AK n,AK mv] (aAu (auF l at_ n mv)):=by
 have e300:([]:List Mv).length=0:=rfl
 refine MK.ac fun C hC=>?_
 unfold Gy
 repeat' with_reducible first | refine W ?_ | refine Z0 ?_ | ((first | refine Wo fun K hK=>?_ | refine Wp ?_ | refine Wq ?_ | refine Wr ?_);(try simp only [go_sem,fN,seval,eT,iR,dT,dF,nL]);(repeat refine Ai ?_);(try (refine hK _ ?_;clear hK K));try refine iC ?_)
 refine IWP.ghost (Ad.ownC (C:=C) 9 1 300 46 3 (xs:=([]:List Mv).map Ae) (ty:=25) (cs:=[.st (.int .i64 n),.full [],.full []]) (by simp only [go_sem,fN,seval,eT,iR]) rfl (by simp only [go_sem,fN,seval,eT,iR]) HY) ?_
 refine IWP.ghost (Ad.ownC (C:=C) 9 2 301 3 1 (xs:=([]:List Int).map BK) (ty:=25) (cs:=[.st (.int .i64 n),.row 300 0,.full []]) (by simp only [go_sem,fN,seval,eT,iR];rfl) rfl (by simp only [go_sem,fN,seval,eT,iR]) FH) ?_
 refine IWP.loopD [13,959] (fun q s=>∃ i,i≤mv∧q=mv - i∧s.env 0=D7 l∧s.env 1=AK at_∧s.env 2=AK n∧s.env 3=AK mv∧s.env 8=.one (.ptr 8 1 0 0)∧s.S 8=some (.box 25 [.st (.int .i64 0),.full [],.full []])∧s.env 9=.one (.ptr 9 1 0 0)∧s.S 9=some (.box 25 [.st (.int .i64 n),.row 300 i,.row 301 0])∧s.S 300=some (.arow 46 3 ((N9 l at_ n i).map Ae))∧s.S 301=some (.arow 3 1 [])∧s.env 10=AK i∧s.S 13=none∧s.S 959=none) mv
  ⟨0,Nat.zero_le _,rfl,by simp only [go_sem,fN,seval,eT,iR],by simp only [go_sem,fN,seval,eT,iR],by simp only [go_sem,fN,seval,eT,iR],by simp only [go_sem,fN,seval,eT,iR],by simp only [go_sem,fN,seval,eT,iR],by simp only [go_sem,fN,seval,eT,iR],by simp only [go_sem,fN,seval,eT,iR],by simp only [go_sem,fN,seval,eT,iR];rfl,by simp only [go_sem,fN,seval,eT,iR];rfl,by simp only [go_sem,fN,seval,eT,iR],by simp only [go_sem,fN,seval,eT,iR],by simp only [go_sem,fN,seval,eT,iR],by simp only [go_sem,fN,seval,eT,iR]⟩ ?_
 rintro q ⟨env,St⟩ ⟨i,hi,rfl,e0,e1,e2,e3,e8,s8,e9,s9,s300,s301,e10,s13,s959⟩
 simp only at e0 e1 e2 e3 e8 s8 e9 s9 s300 s301 e10 s13 s959
 by_cases hlt:(i:Int) < mv
 ·have w0:=Pd l (at_ + 4 * i) (by omega) hl hm
  have w1:=Pd l (at_ + 4 * i + 1) (by omega) hl hm
  rw [show (((at_ + 4 * i:Nat):Int))=(at_:Int) + 4 * (i:Int) by omega] at w0
  rw [show (((at_ + 4 * i + 1:Nat):Int))=(at_:Int) + 4 * (i:Int) + 1 by omega] at w1
  have r0:=EK l (at_ + 4 * i)
  have r1:=EK l (at_ + 4 * i + 1)
  have p0:=EM (CP l (at_ + 4 * i)) 4 (by rw [Cj];omega) (by omega)
  have p1:=EM (CP l (at_ + 4 * i + 1)) n (by rw [Cj];omega) (by omega)
  have hk2:=Ua (CP l (at_ + 4 * i))
  have hpk:=Be (CP l (at_ + 4 * i)) 4 (by omega)
  have hkn:[([.int .i64 0]:List SV),[.int .i64 0],[.int .i64 1],[.int .i64 2]][(Bc (CP l (at_ + 4 * i)) 4).toNat]?=some [.int .i64 (Fr (CP l (at_ + 4 * i)):Int)]∧[([.str ⟨#[97]⟩]:List SV),[.str ⟨#[98]⟩],[.str ⟨#[104]⟩],[.str ⟨#[102]⟩]][(Bc (CP l (at_ + 4 * i)) 4).toNat]?=some [.str (QT (CP l (at_ + 4 * i)))]:=by
   unfold Fr QT
   generalize Bc (CP l (at_ + 4 * i)) 4=y at hpk
   have h:y.toNat=0 ∨ y.toNat=1 ∨ y.toNat=2 ∨ y.toNat=3:=by omega
   rcases h with h | h | h | h <;> rw [h] <;> exact ⟨rfl,rfl⟩
  obtain ⟨hkn,hkb⟩:=hkn
  repeat' (first | (with_reducible first | refine W ?_ | refine Z0 ?_ | ((first | refine Wo fun K hK=>?_ | refine Wp ?_ | refine Wq ?_ | refine Wr ?_);(try simp only [go_sem,fN,seval,eT,iR,e0,e1,e2,e3,e8,s8,e9,s9,s300,s301,e10,s13,s959,hlt,hkn,hkb,dT,dF,nL]);(repeat refine Ai ?_);(try (refine hK _ ?_;clear hK K));try refine iC ?_)) | refine Cg _ (w0) ?_ | refine Cg _ (p0) ?_ | refine Cg _ (w1) ?_ | refine Cg _ (p1) ?_)
  refine IWP.ghost (Ad.ownC (C:=C) 13 1 959 3 1 (xs:=([]:List Int).map BK) (ty:=46) (cs:=[.st (.str (QT (CP l (at_ + 4 * i)))),.full [],.st (.int .i64 (Bc (CP l (at_ + 4 * i + 1)) n))]) (by simp only [go_sem,fN,seval,eT,iR]) rfl (by simp only [go_sem,fN,seval,eT,iR,s959]) FH) ?_
  refine IWP.loop (fun q s=>∃ j,j≤Fr (CP l (at_ + 4 * i))∧q=Fr (CP l (at_ + 4 * i)) - j∧s.env 0=D7 l∧s.env 1=AK at_∧s.env 2=AK n∧s.env 3=AK mv∧s.env 8=.one (.ptr 8 1 0 0)∧s.S 8=some (.box 25 [.st (.int .i64 0),.full [],.full []])∧s.env 9=.one (.ptr 9 1 0 0)∧s.S 9=some (.box 25 [.st (.int .i64 n),.row 300 i,.row 301 0])∧s.S 300=some (.arow 46 3 ((N9 l at_ n i).map Ae))∧s.S 301=some (.arow 3 1 [])∧s.env 10=AK i∧s.env 12=AK (Fr (CP l (at_ + 4 * i)))∧s.env 13=.one (.ptr 13 1 0 0)∧s.S 13=some (.box 46 [.st (.str (QT (CP l (at_ + 4 * i)))),.row 959 j,.st (.int .i64 (Bc (CP l (at_ + 4 * i + 1)) n))])∧s.S 959=some (.arow 3 1 ((Rw l (at_ + 4 * i) n j).map BK))∧s.env 14=AK j) (Fr (CP l (at_ + 4 * i)))
   ⟨0,Nat.zero_le _,rfl,by simp only [go_sem,fN,seval,eT,iR,e0],by simp only [go_sem,fN,seval,eT,iR,e1],by simp only [go_sem,fN,seval,eT,iR,e2],by simp only [go_sem,fN,seval,eT,iR,e3],by simp only [go_sem,fN,seval,eT,iR,e8],by simp only [go_sem,fN,seval,eT,iR,s8],by simp only [go_sem,fN,seval,eT,iR,e9],by simp only [go_sem,fN,seval,eT,iR,s9],by simp only [go_sem,fN,seval,eT,iR,s300],by simp only [go_sem,fN,seval,eT,iR,s301],by simp only [go_sem,fN,seval,eT,iR,e10],by simp only [go_sem,fN,seval,eT,iR],by simp only [go_sem,fN,seval,eT,iR],by simp only [go_sem,fN,seval,eT,iR];rfl,by simp only [go_sem,fN,seval,eT,iR];rfl,by simp only [go_sem,fN,seval,eT,iR]⟩ ?_
  rintro q ⟨env2,S2⟩ ⟨j,hj,rfl,f0,f1,f2,f3,f8,t8,f9,t9,t300,t301,f10,f12,f13,t13,t959,f14⟩
  simp only at f0 f1 f2 f3 f8 t8 f9 t9 t300 t301 f10 f12 f13 t13 t959 f14
  have hfl:=Ul l (at_ + 4 * i) n j
  have hml:=PW l at_ n i
  by_cases hjl:(j:Int) < Fr (CP l (at_ + 4 * i))
  ·have w2:=Pd l (at_ + 4 * i + 2 + j) (by omega) hl hm
   rw [show (((at_ + 4 * i + 2 + j:Nat):Int))=(at_:Int) + 4 * (i:Int) + 2 + j by omega] at w2
   have r2:=EK l (at_ + 4 * i + 2 + j)
   have p2:=EM (CP l (at_ + 4 * i + 2 + j)) n (by rw [Cj];omega) (by omega)
   repeat' (first | (with_reducible first | refine W ?_ | refine Z0 ?_ | ((first | refine Wo fun K hK=>?_ | refine Wp ?_ | refine Wq ?_ | refine Wr ?_);(try simp only [go_sem,fN,seval,eT,iR,f0,f1,f2,f3,f8,t8,f9,t9,t300,t301,f10,f12,f13,t13,t959,f14,hjl,hfl,hml,dT,dF,nL]);(repeat refine Ai ?_);(try (refine hK _ ?_;clear hK K));try refine iC ?_)) | refine Cg _ (w2) ?_ | refine Cg _ (p2) ?_)
   refine AA ⟨Fr (CP l (at_ + 4 * i)) - (j + 1),by omega,j + 1,by omega,rfl,?_⟩
   simp only [go_sem,fN,seval,eT,iR,f0,f1,f2,f3,f8,t8,f9,t9,t300,t301,f10,f12,f13,t13,t959,f14,hfl]
   rw [Tj]
   simp
  ·have hjk:j=Fr (CP l (at_ + 4 * i)):=by omega
   subst hjk
   repeat' with_reducible first | refine W ?_ | refine Z0 ?_ | ((first | refine Wo fun K hK=>?_ | refine Wp ?_ | refine Wq ?_ | refine Wr ?_);(try simp only [go_sem,fN,seval,eT,iR,f0,f1,f2,f3,f8,t8,f9,t9,t300,t301,f10,f12,f13,t13,t959,f14,hjl,hfl,hml,Nat.lt_irrefl,dT,dF,nL]);(repeat refine Ai ?_);(try (refine hK _ ?_;clear hK K));try refine iC ?_)
   refine AA ⟨mv - (i + 1),by omega,i + 1,by omega,rfl,?_⟩
   simp only [go_sem,fN,seval,AS.drop,AY,AC.clears,AC.clear,AC.highs,AC.high,Bool.not_false,Bool.true_and,Bool.and_self,AV.purge,AV.purges,AC.purge,AL.purge,List.contains_cons,List.contains_nil,Nat.reduceBEq,Bool.or_self,Bool.or_false,Bool.false_or,Bool.or_true,eT,iR,f0,f1,f2,f3,f8,t8,f9,t9,t300,t301,f10,f12,f13,t13,t959,f14,hml]
   rw [TE]
   simp [Ae,mvF]
 ·have him:i=mv:=by omega
  subst him
  have hml:=PW l at_ n i
  repeat' with_reducible first | refine W ?_ | refine Z0 ?_ | ((first | refine Wo fun K hK=>?_ | refine Wp ?_ | refine Wq ?_ | refine Wr ?_);(try simp only [go_sem,fN,seval,eT,iR,e0,e1,e2,e3,e8,s8,e9,s9,s300,s301,e10,s13,s959,hlt,dT,dF,nL]);(repeat refine Ai ?_);(try (refine hK _ ?_;clear hK K));try refine iC ?_)
  refine IWP.loop (fun q s=>∃ k,k≤n∧q=n - k∧s.env 0=D7 l∧s.env 1=AK at_∧s.env 2=AK n∧s.env 8=.one (.ptr 8 1 0 0)∧s.S 8=some (.box 25 [.st (.int .i64 0),.full [],.full []])∧s.env 9=.one (.ptr 9 1 0 0)∧s.S 9=some (.box 25 [.st (.int .i64 n),.row 300 i,.row 301 (EB l at_ k).length])∧s.S 300=some (.arow 46 3 ((N9 l at_ n i).map Ae))∧s.S 301=some (.arow 3 1 ((EB l at_ k).map BK))∧s.env 15=AK k) n
   ⟨0,Nat.zero_le _,rfl,by simp only [go_sem,fN,seval,eT,iR,e0],by simp only [go_sem,fN,seval,eT,iR,e1],by simp only [go_sem,fN,seval,eT,iR,e2],by simp only [go_sem,fN,seval,eT,iR,e8],by simp only [go_sem,fN,seval,eT,iR,s8],by simp only [go_sem,fN,seval,eT,iR,e9],by simp only [go_sem,fN,seval,eT,iR,s9];rfl,by simp only [go_sem,fN,seval,eT,iR,s300],by simp only [go_sem,fN,seval,eT,iR,s301];rfl,by simp only [go_sem,fN,seval,eT,iR]⟩ ?_
  rintro q ⟨env2,S2⟩ ⟨k,hk,rfl,f0,f1,f2,f8,t8,f9,t9,t300,t301,f15⟩
  simp only at f0 f1 f2 f8 t8 f9 t9 t300 t301 f15
  have hll:=Mi l at_ k
  have hlm:((EB l at_ k).map BK).length=(EB l at_ k).length:=List.length_map _
  by_cases hkl:(k:Int) < n
  ·have w3:=Pd l (at_ + k + 3) (by omega) hl hm
   rw [show (((at_ + k + 3:Nat):Int))=(at_:Int) + k + 3 by omega] at w3
   have r3:=EK l (at_ + k + 3)
   have p3:=EM (CP l (at_ + k + 3)) 3 (by rw [Cj];omega) (by omega)
   by_cases h0:Bc (CP l (at_ + k + 3)) 3=0
   ·have hs:EB l at_ (k + 1)=EB l at_ k ++ [(k:Int)]:=by rw [EB,if_pos h0]
    repeat' (first | (with_reducible first | refine W ?_ | refine Z0 ?_ | ((first | refine Wo fun K hK=>?_ | refine Wp ?_ | refine Wq ?_ | refine Wr ?_);(try simp only [go_sem,fN,seval,eT,iR,f0,f1,f2,f8,t8,f9,t9,t300,t301,f15,hkl,hlm,h0,dT,dF,nL]);(repeat refine Ai ?_);(try (refine hK _ ?_;clear hK K));try refine iC ?_)) | refine Cg _ (w3) ?_ | refine Cg _ (p3) ?_)
    refine AA ⟨n - (k + 1),by omega,k + 1,by omega,rfl,?_⟩
    simp only [go_sem,fN,seval,eT,iR,f0,f1,f2,f8,t8,f9,t9,t300,t301,f15,hlm]
    rw [hs]
    simp
   ·have hs:EB l at_ (k + 1)=EB l at_ k:=by rw [EB,if_neg h0]
    repeat' (first | (with_reducible first | refine W ?_ | refine Z0 ?_ | ((first | refine Wo fun K hK=>?_ | refine Wp ?_ | refine Wq ?_ | refine Wr ?_);(try simp only [go_sem,fN,seval,eT,iR,f0,f1,f2,f8,t8,f9,t9,t300,t301,f15,hkl,hlm,h0,dT,dF,nL]);(repeat refine Ai ?_);(try (refine hK _ ?_;clear hK K));try refine iC ?_)) | refine Cg _ (w3) ?_ | refine Cg _ (p3) ?_)
    refine AA ⟨n - (k + 1),by omega,k + 1,by omega,rfl,?_⟩
    simp only [go_sem,fN,seval,eT,iR,f0,f1,f2,f8,t8,f9,t9,t300,t301,f15,hlm]
    rw [hs]
    simp
  ·have hkn:k=n:=by omega
   subst hkn
   repeat' with_reducible first | refine W ?_ | refine Z0 ?_ | ((first | refine Wo fun K hK=>?_ | refine Wp ?_ | refine Wq ?_ | refine Wr ?_);(try simp only [go_sem,fN,seval,eT,iR,f0,f1,f2,f8,t8,f9,t9,t300,t301,f15,hkl,hlm,hml,Nat.lt_irrefl,dT,dF,nL]);(repeat refine Ai ?_);(try (refine hK _ ?_;clear hK K));try refine iC ?_)
   simp only [go_sem,fN,seval,AP,AS.result,AH,AI,AN,f8,t8,t300,t301,hlm,hml]
   rfl

def EU:IR :=
 (.seq (.ops [.i 6 (.alloc 39 [.st (.str (ByteArray.mk (#[]))),.full []]),.i 7 (.mov (.n 0))]) (.seq (.ops [.m 14 0,.m 15 1,.i 16 (.call 37 [.t 14,.t 15]),.m 8 16]) (.seq (.ops [.m 17 1,.i 18 (.bin .add (.t 17) (.n 1)),.m 1 18]) (.seq (.seq (.ops [.m 19 2,.i 20 (.bin .lss (.t 19) (.n 3)),.m 21 20,.mk (some 22) (some (21,false)) (.mov (.t 8)) .no,.mk (some 23) (some (21,false)) (.call 15 [.t 22,.n 5]) .no,.mk (some 24) (some (21,false)) (.bin .lss (.t 23) (.n 2)) .no,.i 25 (.pick (.t 21) (.c (.one (.st (.bool true)))) (.t 24))]) (.cond (.t 25) (.seq (.ops [.i 26 (.buildFlat [.c (.one (.st (.str (ByteArray.mk (#[97]))))),.c (.one (.st (.str (ByteArray.mk (#[98])))))]),.m 27 8,.i 28 (.bin .quo (.t 27) (.n 5)),.i 29 (.call 15 [.t 28,.n 2]),.i 30 (.indexAddr 1 (.t 26) (.t 29)),.l 31 30,.i 32 (.call 38 [.t 31]),.m 33 1,.s 2 6 32,.m 7 33]) .ret) .skip)) (.seq (.seq (.ops [.m 34 8,.i 35 (.bin .quo (.t 34) (.n 5)),.i 36 (.call 15 [.t 35,.n 2]),.i 37 (.bin .eql (.t 36) (.n 0))]) (.cond (.t 37) (.seq (.ops [.m 39 0,.m 40 1,.m 41 2,.i 42 (.bin .sub (.t 41) (.n 1)),.i 43 (.call 16 [.t 39,.t 40,.t 42]),.m 38 43,.i 44 (.extract 0 (.t 38)),.i 45 (.extract 1 (.t 38)),.i 9 (.alloc 39 [.st (.str (ByteArray.mk (#[]))),.full []]),.s 2 9 44,.m 10 45]) (.seq (.ops [.L 46 2 9,.i 47 (.buildSlice false 39 2 [.t 46]),.i 48 (.build [.st (.str (ByteArray.mk (#[]))),.full []] [(0,1,.c (.one (.st (.str (ByteArray.mk (#[104])))))),(1,1,.t 47)]),.m 49 10,.s 2 6 48,.m 7 49]) .ret)) .skip)) (.seq (.ops [.m 51 0,.m 52 1,.m 53 2,.i 54 (.bin .quo (.t 53) (.n 2)),.i 55 (.call 16 [.t 51,.t 52,.t 54]),.m 50 55,.i 56 (.extract 0 (.t 50)),.i 57 (.extract 1 (.t 50)),.i 11 (.alloc 39 [.st (.str (ByteArray.mk (#[]))),.full []]),.s 2 11 56,.m 12 57]) (.seq (.ops [.m 59 0,.m 60 12,.m 61 2,.i 62 (.bin .quo (.t 61) (.n 2)),.i 63 (.call 16 [.t 59,.t 60,.t 62]),.m 58 63,.i 64 (.extract 0 (.t 58)),.i 65 (.extract 1 (.t 58)),.i 13 (.alloc 39 [.st (.str (ByteArray.mk (#[]))),.full []]),.s 2 13 64,.m 12 65]) (.seq (.ops [.L 66 2 11,.L 67 2 13,.i 68 (.buildSlice false 39 2 [.t 66,.t 67]),.i 69 (.build [.st (.str (ByteArray.mk (#[]))),.full []] [(0,1,.c (.one (.st (.str (ByteArray.mk (#[102])))))),(1,1,.t 68)]),.m 70 12,.s 2 6 69,.m 7 70]) .ret))))))))
theorem Fx:OkF Try.prog 16 71 [] EU [.cell 6 true 2,.t 7]:=.of Try.func16 rfl rfl (by kernel_rfl) rfl



mutual
def Tm.occN (v:ByteArray):Tm→Nat
 | .mk n xs=>(if n=v then 1 else 0) + Tm.occNs v xs
def Tm.occNs (v:ByteArray):List Tm→Nat
 | []=>0
 | t :: ts=>t.occN v + Tm.occNs v ts
end
def okV (a b:Tm):Prop:=∀ v,BH v=true→b.occN v≤a.occN v
theorem okV.trans {a b c:Tm} (h:okV a b) (k:okV b c):okV a c:=fun v hv=>Nat.le_trans (k v hv) (h v hv)
inductive Lex (R:Tm→Tm→Prop):List Tm→List Tm→Prop
 | here {x y xs ys}:x ≠ y→R x y→xs.length=ys.length→Lex R (x :: xs) (y :: ys)
 | on {x xs ys}:Lex R xs ys→Lex R (x :: xs) (x :: ys)
theorem Lex.len {R:Tm→Tm→Prop} {xs ys:List Tm} (h:Lex R xs ys):xs.length=ys.length:=by
 induction h with
 | here _ _ h=>simp [h]
 | on _ ih=>simp [ih]
theorem Lex.irrefl {R:Tm→Tm→Prop}:∀ {xs:List Tm},¬ Lex R xs xs
 | [],h=>by cases h
 | x :: xs,h=>by
  cases h with
  | here h _ _=>exact h rfl
  | on h=>exact Lex.irrefl h
theorem Lex.trans {R:Tm→Tm→Prop}:∀ {xs ys zs:List Tm},(∀ x ∈ xs,∀ y ∈ ys,∀ z ∈ zs,R x y→R y z→R x z∧x ≠ z)→Lex R xs ys→Lex R ys zs→Lex R xs zs:=by
 intro xs ys zs ht h k
 induction h generalizing zs with
 | here hne hr hl =>
  cases k with
  | here hne2 hr2 hl2 =>
   obtain ⟨h1,h2⟩:=ht _ (by simp) _ (by simp) _ (by simp) hr hr2
   exact .here h2 h1 (hl.trans hl2)
  | on k=>exact .here hne hr (hl.trans k.len)
 | on h ih =>
  cases k with
  | here hne2 hr2 hl2=>exact .here hne2 hr2 (h.len.trans hl2)
  | on k=>exact .on (ih (fun x hx y hy z hz=>ht x (by simp [hx]) y (by simp [hy]) z (by simp [hz])) k)
section
variable {s:List Bd} {a b:Tm} {row:List ByteArray}
theorem Lex.map {R:Tm→Tm→Prop} {f:Tm→Tm}:∀ {xs ys:List Tm},(∀ x ∈ xs,∀ y ∈ ys,R x y→R (f x) (f y)∧f x ≠ f y)→Lex R xs ys→Lex R (xs.map f) (ys.map f):=by
 intro xs ys h k
 induction k with
 | here hne hr hl =>
  obtain ⟨h1,h2⟩:=h _ (by simp) _ (by simp) hr
  exact .here h2 h1 (by simp [hl])
 | on k ih=>exact .on (ih fun x hx y hy=>h x (by simp [hx]) y (by simp [hy]))
theorem Lex.at {R:Tm→Tm→Prop} {x y:Tm} (hne:x ≠ y) (h:R x y):∀ (xs ys:List Tm),Lex R (xs ++ x :: ys) (xs ++ y :: ys)
 | [],ys=>.here hne h rfl
 | z :: xs,ys=>.on (Lex.at hne h xs ys)
def Tm.ground (t:Tm):Prop:=∀ k ∈ t.knots,BH k.name=false
end


def Oy (l:List Int) (at_:Nat) (most:Int) (t:Tm):Prop :=
 AU Try.prog 16 [D7 l,AK at_,AK most] (.tup [aTm t,AK ((at_ + t.size:Nat):Int)])
theorem JD {n:ByteArray} {xs:List Tm} (hn:BH n=false) (hx:∀ x ∈ xs,x.ground):(Tm.mk n xs).ground:=by
 intro k hk
 rw [Tm.knots,List.mem_cons] at hk
 rcases hk with rfl | hk
 ·exact hn
 ·clear hn
  induction xs with
  | nil=>simp [Tm.knotsL] at hk
  | cons x xs ih =>
   rw [Tm.knotsL,List.mem_append] at hk
   rcases hk with hk | hk
   ·exact hx x (by simp) k hk
   ·exact ih (fun y hy=>hx y (by simp [hy])) hk
theorem TY (l:List Int) (hl:∀ n ∈ l,inR .i64 n) (hm:l.length≤maxLen):∀ (most:Nat) (at_:Nat),most≤1000→at_ + 2 * most≤900000→∃ t:Tm,Oy l at_ most t∧t.size + 1≤max 2 (2 * most)∧t.chk=0∧t.ground:=by
 intro most
 induction most using Nat.strongRecOn with
 | _ most ih =>
 intro at_ h1000 hat
 have hraw:=Pd l at_ (by omega) hl hm
 have hr:=EK l at_
 generalize CP l at_=c at hraw hr
 have d5:=HO (x:=c) (n:=5) (by omega) (by omega)
 have p5:=EM c 5 (by rw [Cj];omega) (by omega)
 have q5:=Be c 5 (by omega)
 have p52:=EM (c / 5) 2 (by rw [Cj];omega) (by omega)
 have q52:=Be (c / 5) 2 (by omega)
 generalize Bc c 5=x5 at p5 q5
 generalize Bc (c / 5) 2=x52 at p52 q52
 by_cases hleaf:(most:Int) < 3 ∨ x5 < 2
 ·obtain ⟨nm,hnm,hch,hgr⟩:∃ nm,[([.str ⟨#[97]⟩]:List SV),[.str ⟨#[98]⟩]][x52.toNat]?=some [.str nm]∧(Tm.mk nm []).chk=0∧BH nm=false:=by
   have:x52.toNat=0 ∨ x52.toNat=1:=by omega
   rcases this with h | h <;> rw [h] <;> exact ⟨_,rfl,by decide,by decide⟩
  refine ⟨.mk nm [],?_,by simp only [Tm.size,Tm.sizes];omega,hch,JD hgr (by simp)⟩
  unfold Oy
  refine Fx.ac fun C hC=>?_
  unfold EU
  repeat' with_reducible first | refine W ?_ | refine Z0 ?_ | ((first | refine Wo fun K hK=>?_ | refine Wp ?_ | refine Wq ?_ | refine Wr ?_);(try simp only [go_sem,fN,seval,eT,iR,dT,dF,nL]);(repeat refine Ai ?_);(try (refine hK _ ?_;clear hK K));try refine iC ?_)
  refine ⟨_,hraw,?_⟩
  by_cases hm3:(most:Int) < 3
  ·repeat' (first | (with_reducible first | refine W ?_ | refine Z0 ?_ | ((first | refine Wo fun K hK=>?_ | refine Wp ?_ | refine Wq ?_ | refine Wr ?_);(try simp only [go_sem,fN,seval,eT,iR,hm3,d5.1,hnm,dT,dF,nL]);(repeat refine Ai ?_);(try (refine hK _ ?_;clear hK K));try refine iC ?_)) | refine Cg _ (p52) ?_ | refine Cg _ (Ux nm) ?_)
   simp only [go_sem,fN,seval,AP,AS.result,AH,AI,AN]
   simp only [AV.tup.injEq,AV.agg.injEq,AV.one.injEq,AC.st.injEq,SV.int.injEq,SV.str.injEq,SV.bool.injEq,SV.list.injEq,List.cons.injEq,Option.some.injEq,true_and,and_true,eq_self,C9,Tm.args_mk,Tm.name_mk,List.map_cons,List.map_nil,List.map_append,Tm.size,Tm.sizes]
   omega
  ·have h5:x5 < 2:=by omega
   repeat' (first | (with_reducible first | refine W ?_ | refine Z0 ?_ | ((first | refine Wo fun K hK=>?_ | refine Wp ?_ | refine Wq ?_ | refine Wr ?_);(try simp only [go_sem,fN,seval,eT,iR,hm3,h5,d5.1,hnm,dT,dF,nL]);(repeat refine Ai ?_);(try (refine hK _ ?_;clear hK K));try refine iC ?_)) | refine Cg _ (p5) ?_ | refine Cg _ (p52) ?_ | refine Cg _ (Ux nm) ?_)
   simp only [go_sem,fN,seval,AP,AS.result,AH,AI,AN]
   simp only [AV.tup.injEq,AV.agg.injEq,AV.one.injEq,AC.st.injEq,SV.int.injEq,SV.str.injEq,SV.bool.injEq,SV.list.injEq,List.cons.injEq,Option.some.injEq,true_and,and_true,eq_self,C9,Tm.args_mk,Tm.name_mk,List.map_cons,List.map_nil,List.map_append,Tm.size,Tm.sizes]
   omega
 ·have hm3:¬ (most:Int) < 3:=by omega
  have h5:¬ x5 < 2:=by omega
  by_cases h0:x52=0
  ·obtain ⟨t,ht,hs,hc1,hg1⟩:=ih (most - 1) (by omega) (at_ + 1) (by omega) (by omega)
   unfold Oy at ht
   rw [show (((at_ + 1:Nat):Int))=(at_:Int) + 1 by omega,show (((most - 1:Nat):Int))=(most:Int) - 1 by omega] at ht
   refine ⟨.mk ⟨#[104]⟩ [t],?_,by simp only [Tm.size,Tm.sizes];omega,Od (by decide) (by decide) (by simp [hc1]),JD (by decide) (by simp [hg1])⟩
   unfold Oy
   subst h0
   refine Fx.ac fun C hC=>?_
   unfold EU
   repeat' (first | (with_reducible first | refine W ?_ | refine Z0 ?_ | ((first | refine Wo fun K hK=>?_ | refine Wp ?_ | refine Wq ?_ | refine Wr ?_);(try simp only [go_sem,fN,seval,eT,iR,hm3,h5,d5.1,dT,dF,nL]);(repeat refine Ai ?_);(try (refine hK _ ?_;clear hK K));try refine iC ?_)) | refine Cg _ (hraw) ?_ | refine Cg _ (p5) ?_ | refine Cg _ (p52) ?_ | refine Cg _ (ht) ?_)
   simp only [go_sem,fN,seval,AP,AS.result,AH,AI,AN]
   simp only [AV.tup.injEq,AV.agg.injEq,AV.one.injEq,AC.st.injEq,SV.int.injEq,SV.str.injEq,SV.bool.injEq,SV.list.injEq,List.cons.injEq,Option.some.injEq,true_and,and_true,eq_self,C9,Tm.args_mk,Tm.name_mk,List.map_cons,List.map_nil,List.map_append,Tm.size,Tm.sizes]
   omega
  have d2:=HO (x:=(most:Int)) (n:=2) (by omega) (by omega)
  have e2:(most:Int) / 2=((most / 2:Nat):Int):=by omega
  obtain ⟨t,ht,hs,hc1,hg1⟩:=ih (most / 2) (by omega) (at_ + 1) (by omega) (by omega)
  obtain ⟨u,hu,hs',hc2,hg2⟩:=ih (most / 2) (by omega) (at_ + 1 + t.size) (by omega) (by omega)
  refine ⟨.mk ⟨#[102]⟩ [t,u],?_,by simp only [Tm.size,Tm.sizes];omega,Od (by decide) (by decide) (by simp [hc1,hc2]),JD (by decide) (by simp [hg1,hg2])⟩
  unfold Oy at ht hu ⊢
  rw [show (((at_ + 1:Nat):Int))=(at_:Int) + 1 by omega] at ht
  refine Fx.ac fun C hC=>?_
  unfold EU
  repeat' (first | (with_reducible first | refine W ?_ | refine Z0 ?_ | ((first | refine Wo fun K hK=>?_ | refine Wp ?_ | refine Wq ?_ | refine Wr ?_);(try simp only [go_sem,fN,seval,eT,iR,hm3,h5,d5.1,h0,d2.1,e2,dT,dF,nL]);(repeat refine Ai ?_);(try (refine hK _ ?_;clear hK K));try refine iC ?_)) | refine Cg _ (hraw) ?_ | refine Cg _ (p5) ?_ | refine Cg _ (p52) ?_ | refine Cg _ (ht) ?_ | refine Cg _ (hu) ?_)
  simp only [go_sem,fN,seval,AP,AS.result,AH,AI,AN]
  simp only [AV.tup.injEq,AV.agg.injEq,AV.one.injEq,AC.st.injEq,SV.int.injEq,SV.str.injEq,SV.bool.injEq,SV.list.injEq,List.cons.injEq,Option.some.injEq,true_and,and_true,eq_self,C9,Tm.args_mk,Tm.name_mk,List.map_cons,List.map_nil,List.map_append,Tm.size,Tm.sizes]
  omega

theorem P2 {x:Int} (h:inR .i64 x):inR .i64 (x.tdiv 3):=by
 rw [Cj] at h ⊢
 have h1:=Int.natAbs_tdiv x 3
 rw [show (3:Int).natAbs=3 from rfl] at h1
 have h2:(x.tdiv 3).natAbs≤x.natAbs / 3:=Nat.le_of_eq h1
 omega
theorem Qt (l:List Int) (m1 m2 m3:Int) (hl:∀ n ∈ l,inR .i64 n) (hm:l.length≤maxLen) (h1:inR .i64 m1) (h2:inR .i64 m2) (h3:inR .i64 m3):AU Try.prog 4 [D7 l,AK m1,AK m2,AK m3] (Ag true):=by
 by_cases h256:(256:Int) < l.length
 ·refine Gu.ac fun C hC=>?_
  unfold En
  repeat' with_reducible first | refine W ?_ | refine Z0 ?_ | ((first | refine Wo fun K hK=>?_ | refine Wp ?_ | refine Wq ?_ | refine Wr ?_);(try simp only [go_sem,fN,seval,eT,iR,h256,dT,dF,nL]);(repeat refine Ai ?_);(try (refine hK _ ?_;clear hK K));try refine iC ?_)
  simp only [go_sem,fN,seval,AP,AS.result,AH,AI,AN]
 have r1:=Be m1 3 (by omega)
 have p1:=EM m1 3 h1 (by omega)
 obtain ⟨k1,e1⟩:∃ k:Nat,Bc m1 3=k:=⟨(Bc m1 3).toNat,by omega⟩
 rw [e1] at p1 r1
 have r2:=Be m2 9 (by omega)
 have p2:=EM m2 9 h2 (by omega)
 obtain ⟨k2,e2⟩:∃ k:Nat,Bc m2 9=k:=⟨(Bc m2 9).toNat,by omega⟩
 rw [e2] at p2 r2
 have r3:=Be m3 3 (by omega)
 have p3:=EM m3 3 h3 (by omega)
 obtain ⟨k3,e3⟩:∃ k:Nat,Bc m3 3=k:=⟨(Bc m3 3).toNat,by omega⟩
 rw [e3] at p3 r3
 have r4:=Be (m3.tdiv 3) 9 (by omega)
 have p4:=EM (m3.tdiv 3) 9 (P2 h3) (by omega)
 obtain ⟨k4,e4⟩:∃ k:Nat,Bc (m3.tdiv 3) 9=k:=⟨(Bc (m3.tdiv 3) 9).toNat,by omega⟩
 rw [e4] at p4 r4
 have cA:=Kv l hl hm 0 (1 + k1) k2 (by omega) (by omega) (by omega) (by omega)
 rw [show (((1 + k1:Nat):Int))=1 + (k1:Int) by omega,show (((0:Nat):Int))=0 from rfl] at cA
 have cB:=Kv l hl hm 60 (1 + k3) k4 (by omega) (by omega) (by omega) (by omega)
 rw [show (((1 + k3:Nat):Int))=1 + (k3:Int) by omega,show (((60:Nat):Int))=60 from rfl] at cB
 generalize auF l 0 (1 + k1) k2=a at *
 generalize auF l 60 (1 + k3) k4=b at *
 obtain ⟨t,ht,hz,hc,hg⟩:=TY l hl hm 12 20 (by omega) (by omega)
 have ht:AU Try.prog 16 [D7 l,AK 20,AK 12] (.tup [aTm t,AK ((20 + t.size:Nat):Int)]):=ht
 have hq:=P2 h3
 rw [Cj] at hq
 obtain ⟨hq1,hq2⟩:=hq
 refine Gu.ac fun C hC=>?_
 unfold En
 repeat' (first | (with_reducible first | refine W ?_ | refine Z0 ?_ | ((first | refine Wo fun K hK=>?_ | refine Wp ?_ | refine Wq ?_ | refine Wr ?_);(try simp only [go_sem,fN,seval,eT,iR,h256,hq1,hq2,dT,dF,nL]);(repeat refine Ai ?_);(try (refine hK _ ?_;clear hK K));try refine iC ?_)) | refine Cg _ (p1) ?_ | refine Cg _ (p2) ?_ | refine Cg _ (cA) ?_ | refine Cg _ (p3) ?_ | refine Cg _ (p4) ?_ | refine Cg _ (cB) ?_ | refine Cg _ (ht) ?_ | refine Cg _ (RR a t) ?_ | refine Cg _ (PL a b t) ?_ | refine Cg _ (Pu a b) ?_)
 simp only [go_sem,fN,seval,AP,AS.result,AH,AI,AN]

open Go.ChangeShapes Go.WideShapes Go.ChangeAt
section
variable {H:Type} {enc:TypeId × Value→H} {P:Program}
theorem HB (hl:laidOutB P=true):∀ {ts:List TypeId} {vs:List Value} {ds:List (DataW H)} {ps:List MemPlace} {W W':World} {sp:Nat→Bool},
  (∀ t ∈ ts,P.readableRec t=true∧t < P.types.size)→DataW.TrodAll enc P W 0 (fun _=>true) true ts vs ds ps→(∀ p ∈ ps,W.sameAt W' p)→(∀ p ∈ ps,sp p.block=true)→DataW.TrodAll enc P W' 0 sp true ts vs ds ps
 | [],[],[],_,_,_,_,_,h,_,_=>h
 | _ :: _,_ :: _,_ :: _,_,_,_,_,hT,⟨p,q,h1,h2,e⟩,hsame,hs=>⟨p,q,WideElems.Trod_stays hl (hT _ (List.mem_cons.2 (Or.inl rfl))).1 (hT _ (List.mem_cons.2 (Or.inl rfl))).2 h1 (fun x hx=>hsame x (by rw [e];exact List.mem_append_left _ hx)) (fun x hx=>hs x (by rw [e];exact List.mem_append_left _ hx)),
   HB hl (fun t ht=>hT t (List.mem_cons.2 (Or.inr ht))) h2 (fun x hx=>hsame x (by rw [e];exact List.mem_append_right _ hx)) (fun x hx=>hs x (by rw [e];exact List.mem_append_right _ hx)),e⟩
 | [],_ :: _,_,_,_,_,_,_,h,_,_=>h.elim
 | [],[],_ :: _,_,_,_,_,_,h,_,_=>h.elim
 | _ :: _,[],_,_,_,_,_,_,h,_,_=>h.elim
 | _ :: _,_ :: _,[],_,_,_,_,_,h,_,_=>h.elim
theorem Vq {f:Func} {s:ChangeSpec} {apart fresh handsOn:Bool} {W W':World} {args:Array Value} {ds:List (DataW H)} {before:List MemPlace} {tb:TypeId}
  (hW:DataW.Whole enc P f.params.toList s.vars apart W args.toList ds [] before) (hv:s.vars=[]) (hr:f.resultTypes=#[tb]) (htb:P.underlying tb=some .bool)
  (hres:(s.fn H (ds ++ [])).results=[.lit (.bool true)]) (hargs:(s.fn H (ds ++ [])).args=ds) (hvs:(s.fn H (ds ++ [])).vars=[])
  (hl:laidOutB P=true) (hT:(f.params.toList.all fun t=>P.readableRec t && decide (t < P.types.size))=true) (hb:Below W.heap.size W W') :
  s.post enc P f apart fresh handsOn false W args (.bool true) W':=by
 have hlt:∀ p ∈ before,p.block < W.heap.size:=fun p hp=>hW.lt p hp
 have hT':∀ t ∈ f.params.toList,P.readableRec t=true∧t < P.types.size:=fun t ht=>by
  have:=List.all_eq_true.1 hT t ht
  simpa using this
 obtain ⟨p,q,hA,hV,rfl,hz,hn⟩:=hW
 rw [hv] at hV
 obtain ⟨_,rfl⟩:=trodVars_none hV
 have hargs':∀ sp:Nat→Bool,(∀ x ∈ p,sp x.block=true)→DataW.TrodAll enc P W' 0 sp true f.params.toList args.toList ds p:=fun sp hsp =>
  HB hl hT' hA (fun x hx=>hb.same (hlt x (by simpa using hx))) hsp
 have hres':∀ (b:Nat) (sp:Nat→Bool) (hd:Bool),DataW.TrodAll enc P W' b sp hd f.resultTypes.toList ((Value.bool true).resultList f.resultTypes.size) (s.fn H (ds ++ [])).results []:=fun b sp hd=>by
  rw [hres,hr]
  exact trodAll_cons_mk (shut_bool htb true) trodAll_mk0
 refine ⟨ds,[],p ++ [],[],p,[],⟨p,[],hA,by rw [hv];exact rfl,rfl,hz,hn⟩,hres' _ _ _,by rw [hargs];exact hargs' _ (fun x hx=>by simpa using hlt x (by simpa using hx)),by rw [hv,hvs];exact rfl,
  World.keptBut_mono (fun x hx=>⟨hx,Or.inr (by simpa using hx)⟩) (hb.frame (· ∈ p ++ [])),fun h=>by cases h⟩
variable {W:World} {sp:Nat→Bool} {hd:Bool} {base:Nat}
def sto (W:World):Sto:=DB W
theorem WQ (W:World):Fit (sto W) W:=fun _ _ h=>h
theorem M2 {W:World} {a:Addr} {v:Value} (h:W.cell? a=some v):a.spot=none:=by
 cases hs:a.spot with
 | none=>rfl
 | some n =>
  unfold World.cell? at h
  split at h
  ·simp [hs] at h
  ·cases h
theorem Oq {α:Type} {p:Nat→α→Prop} {n:Nat} (h:∀ i,i < n→∃ b,p i b):∃ xs:List α,xs.length=n∧∀ i (h:i < xs.length),p i xs[i]:=by
 induction n with
 | zero=>exact ⟨[],rfl,fun i h=>absurd h (by simp)⟩
 | succ m ih =>
  obtain ⟨xs,h1,h2⟩:=ih (fun i hi=>h i (by omega))
  obtain ⟨b,h3⟩:=h m (by omega)
  refine ⟨xs ++ [b],by simp [h1],fun i hi=>?_⟩
  by_cases him:i < xs.length
  ·rw [List.getElem_append_left him]
   exact h2 i him
  ·have:i=xs.length:=by simp at hi;omega
   subst this
   rw [show (xs ++ [b])[xs.length]'hi=b by simp,h1]
   exact h3
theorem Nr {α:Type} {e0:α→List SV} {t e:TypeId} {k:Nat} {fuel:Nat} {cs:List Value} {x:DataW H × List MemPlace} (ht:P.underlying t=some (.slice e)) (hc:P.cellsOf e=k) (hlen:∀ a,(e0 a).length=k) (hk:0 < k)
  (f:∀ (n:Nat) (cs:List Value) (y:DataW H × List MemPlace),n < fuel→DataW.trod enc P W base sp hd n e cs=some y→∃ a:α,Af (At (sto W)) cs (e0 a))
  (h:DataW.trod enc P W base sp hd fuel t cs=some x) (hs:Bx=true→k < 2:=by decide):∃ xs:List α,Af (At (sto W)) cs [.list (xs.map e0)]:=by
 rcases DataW.trod_slice ht h with ⟨rfl,_⟩ | ⟨a,len,cap,Dj,rest,n,hfu,rfl,_,hb,hl,hm,hlen',hel,_,_⟩
 ·exact ⟨[],.cons Ow .nil⟩
 ·have key:∀ i,i < len→∃ (b:α),∃ (cs':List Value),cs'.length=k∧(∀ j u,cs'[j]?=some u→W.cell? ((a.add (i * k)).add j)=some u)∧Af (At (sto W)) cs' (e0 b):=fun i hi=>by
   have h1:=hel i hi
   rw [List.getElem?_eq_getElem (by omega)] at h1
   obtain ⟨cs',h2,h3⟩:=Option.bind_eq_some_iff.1 h1
   obtain ⟨_,h4,h5⟩:=World.cells?_some h2
   obtain ⟨b,hb⟩:=f n cs' _ (by omega) h3
   rw [hc] at h4 h5
   refine ⟨b,cs',h4,fun j u hj=>?_,hb⟩
   rw [h5 j (by have:=(List.getElem?_eq_some_iff.1 hj).1;omega)]
   exact hj
  obtain ⟨xs,hxl,hxs⟩:∃ xs:List α,xs.length=len∧∀ i (h:i < xs.length),∃ cs':List Value,cs'.length=k∧(∀ j u,cs'[j]?=some u→W.cell? ((a.add (i * k)).add j)=some u)∧Af (At (sto W)) cs' (e0 xs[i]):=Oq key
  have cell:∀ m y j z,(xs.map e0)[m]?=some y→y[j]?=some z→∃ v,W.cell? ⟨a.block,a.off + m * k + j,none⟩=some v∧At (sto W) v z:=fun m y j z hy hz=>by
   rw [List.getElem?_map,Option.map_eq_some_iff] at hy
   obtain ⟨b,hb',rfl⟩:=hy
   obtain ⟨hm',hbe⟩:=List.getElem?_eq_some_iff.1 hb'
   obtain ⟨cs',c1,c2,c3⟩:=hxs m hm'
   rw [hbe] at c3
   obtain ⟨v,v1,v2⟩:=c3.get hz
   refine ⟨v,?_,v2⟩
   have:=c2 j v v1
   have hsp:=M2 this
   rw [← this]
   congr 1
   have h7:((a.add (m * k)).add j).block=a.block∧((a.add (m * k)).add j).off=a.off + m * k + j:=by
    unfold Addr.add
    split <;> split <;> simp_all
   generalize (a.add (m * k)).add j=q at *
   cases q
   simp_all
  refine ⟨xs,.cons (.list (b:=a.block) (o:=a.off) (w:=k) (fun m j=>(W.cell? ⟨a.block,a.off + m * k + j,none⟩).getD undef) (by simp [hxl]) hl hm (by simp) (fun h0=>?_) (fun y hy=>?_) (fun q1 q2 _=>absurd (hs q1) (by omega)) (fun m y j z hy hz=>?_) (fun m y j z hy hz=>?_)) .nil⟩
  ·obtain ⟨cs',h1,h2,h3⟩:=hxs 0 (by omega)
   have h4:W.cell? a=some (cs'[0]'(by omega)):=by
    have:=h2 0 _ (List.getElem?_eq_getElem (by omega))
    simpa [Addr.add] using this
   have:=M2 h4
   cases a
   simp_all
  ·obtain ⟨b,_,rfl⟩:=List.mem_map.1 hy
   exact hlen b
  ·obtain ⟨v,v1,v2⟩:=cell m y j z hy hz
   show W.cell? _=_
   rw [v1];rfl
  ·obtain ⟨v,v1,v2⟩:=cell m y j z hy hz
   rw [v1];exact v2
theorem QO {t:TypeId} (ht:P.underlying t=some (.int .i64)) (fuel:Nat) (cs:List Value) (x:DataW H × List MemPlace) (h:DataW.trod enc P W base sp hd fuel t cs=some x):∃ n:Int,Af (At (sto W)) cs (BK n):=by
 obtain ⟨n,rfl,_,hn⟩:=DataW.trod_int ht h
 exact ⟨n,.cons (.int (by rw [Cj];simpa [Lit.wf,IntKind.min,IntKind.max,IntKind.signed,IntKind.bits] using hn)) .nil⟩
theorem Ni {t:TypeId} (ht:P.underlying t=some (.int .i64)) {r:Reach} {b0:Nat} {v:Value} {d:DataW H} {p:List MemPlace} (hv:Value.okWide P W r b0 t v) (h:DataW.Trod enc P W base sp hd t v d p):∃ n:Int,AT (sto W) noS noH v (AK n):=by
 obtain ⟨n,rfl⟩:=okWide_int ht hv
 obtain ⟨fuel,hf⟩:=h
 obtain ⟨m,hm⟩:=QO ht fuel _ _ hf
 have:Af (At (sto W)) [.int .i64 n] (BK m):=hm
 cases this with
 | cons h1 h2=>exact ⟨m,.one (.st h1)⟩
theorem VV {α:Type} {e0:α→List SV} {t e:TypeId} {k:Nat} (ht:P.underlying t=some (.slice e)) (hc:P.cellsOf e=k) (hlen:∀ a,(e0 a).length=k) (hk:0 < k) {r:Reach} {b0:Nat} {v:Value} {d:DataW H} {p:List MemPlace} (hv:Value.okWide P W r b0 t v)
  (f:∀ (n:Nat) (cs:List Value) (y:DataW H × List MemPlace),DataW.trod enc P W base sp hd n e cs=some y→∃ a:α,Af (At (sto W)) cs (e0 a)) (h:DataW.Trod enc P W base sp hd t v d p) (hs:Bx=true→k < 2:=by decide):∃ xs:List α,AT (sto W) noS noH v (.one (.st (.list (xs.map e0)))):=by
 obtain ⟨a,len,cap,rfl⟩:=okWide_slice ht hv
 obtain ⟨fuel,hf⟩:=h
 obtain ⟨xs,hxs⟩:=Nr ht hc hlen hk (fun n cs y _ hy=>f n cs y hy) hf hs
 have:Af (At (sto W)) [.slice a len cap] [.list (xs.map e0)]:=hxs
 cases this with
 | cons h1 h2=>exact ⟨xs,.one (.st h1)⟩
end
theorem Qk {σ:Sto} (h:QI=[]:=by rfl):CY σ:=fun x hx=>by simp [h] at hx
theorem Py {P:Program} {f:FuncId} {xs:List AV} {b:Bool} (h:AU P f xs (Ag b)) {σ:Sto} {w:World} {vs:List Value} (hg:CY σ) (hf:Fit σ w) (hv:Af (AT σ noS noH) vs xs) :
  Calls P f vs.toArray w fun e w'=>e=.returned (.bool b)∧Below w.heap.size w w':=(h σ w vs hg hf hv).mono fun e w' ⟨v,σ',he,hv,_,_,hb⟩=>by
 rw [DQ hv] at he
 exact ⟨he,hb⟩

section
variable {H:Type} {enc:TypeId × Value→H} {W:World} {sp:Nat→Bool} {hd:Bool} {base:Nat}
set_option maxRecDepth 100000 in
theorem Vd {r:Reach} {b0:Nat} {v:Value} {d:DataW H} {p:List MemPlace} (hv:Value.okWide Try.prog W r b0 23 v) (h:DataW.Trod enc Try.prog W base sp hd 23 v d p):∃ l:List Int,AT (sto W) noS noH v (D7 l) :=
 VV (k:=1) Try.underlying23 (by kernel_rfl) (fun _=>rfl) (by decide) hv (QO Try.underlying3) h
end

end Go.Proofs.Ytkegjgodjigjfaa
