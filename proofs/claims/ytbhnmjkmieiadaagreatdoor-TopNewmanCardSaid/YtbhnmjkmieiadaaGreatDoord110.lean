/-
  Part 10 of the texts. Conditions: none.
-/
import Derived.Test.YtbhnmjkmieiadaaGreatDoord19
namespace Go.Proofs.YtbhnmjkmieiadaaGreatDoor
open Go Go.RowKit
set_option linter.unusedVariables false
set_option linter.unusedSimpArgs false
set_option maxHeartbeats 800000
theorem Tm.beqL_no {xs ys:List Tm} (h:xs ≠ ys):Tm.beqL xs ys=false:=by
 rw [← Bool.not_eq_true,Tm.beqL_iff]
 exact h
theorem Rv (xs ys:List Tm) (ih:∀ x ∈ xs,∀ y,AU Tryz.prog 69 [aTm x,aTm y] (Aa (x.beq y))) :
  AU Tryz.prog 99 [Gh xs,Gh ys,.one (.fn 69 [])] (Aa (Tm.beqL xs ys)):=by
 have hplain:CC Tryz.prog 69=true:=by kernel_rfl
 refine Aw.ac fun C hC=>?_
 unfold Ab
 refine IWP.learn 0 (by omega) fun hkn=>?_
 have hkx:=Fe hkn
 rw [List.length_map] at hkx
 by_cases hl:xs.length=ys.length
 ·have hl':(xs.length:Int)=ys.length:=by omega
  repeat' with_reducible first | refine W ?_ | refine Z0 ?_ | ((first | refine Wo fun K hK=>?_ | refine Wp ?_ | refine Wq ?_ | refine Wr ?_);(try simp only [go_sem,fN,seval,eT,iR,hl',dT,dF,nL]);(repeat refine Ai ?_);(try (refine hK _ ?_;clear hK K));try refine iC ?_)
  refine IWP.loopD [8,9] (fun n s=>∃ k,k≤xs.length∧n=xs.length - k∧xs.take k=ys.take k∧s.env 1=Gh ys∧s.env 2=.one (.fn 69 [])∧s.env 15=Gh xs∧s.env 16=AO xs.length∧s.env 17=AO k∧s.S 8=none∧s.S 9=none) xs.length ⟨0,Nat.zero_le _,rfl,rfl,rfl,rfl,rfl,by simp only [go_sem,fN,seval,eT,iR,hl'],rfl,rfl,rfl⟩ ?_
  rintro n ⟨env,S⟩ ⟨k,hk,rfl,h0,e1,e2,e15,e16,e17,s8,s9⟩
  simp only at e1 e2 e15 e16 e17 s8 s9
  by_cases hlt:(k:Int) < xs.length
  ·obtain ⟨x,hx⟩:=Ag (show k < xs.length by omega)
   obtain ⟨y,hy⟩:=Ag (show k < ys.length by omega)
   repeat' with_reducible first | refine W ?_ | refine Z0 ?_ | ((first | refine Wo fun K hK=>?_ | refine Wp ?_ | refine Wq ?_ | refine Wr ?_);(try simp only [go_sem,fN,seval,eT,iR,e1,e2,e15,e16,e17,s8,s9,hlt,hx,hy,hplain,dT,dF,nL]);(repeat refine Ai ?_);(try (refine hK _ ?_;clear hK K));try refine iC ?_)
   refine ⟨_,_,(ih x (AQ hx) y).toS rfl,?_⟩
   cases hxy:x.beq y with
   | false =>
    repeat' with_reducible first | refine W ?_ | refine Z0 ?_ | ((first | refine Wo fun K hK=>?_ | refine Wp ?_ | refine Wq ?_ | refine Wr ?_);(try simp only [go_sem,fN,seval,eT,iR,hxy,dT,dF,nL]);(repeat refine Ai ?_);(try (refine hK _ ?_;clear hK K));try refine iC ?_)
    simp only [go_sem,fN,seval,AN,AS.result,AB,AD,AK]
    rw [Tm.beqL_no fun e=>by
     subst e
     rw [hx] at hy
     cases hy
     rw [Tm.beq_refl] at hxy
     cases hxy]
   | true =>
    have hxy':=(Tm.beq_iff x y).1 hxy
    repeat' with_reducible first | refine W ?_ | refine Z0 ?_ | ((first | refine Wo fun K hK=>?_ | refine Wp ?_ | refine Wq ?_ | refine Wr ?_);(try simp only [go_sem,fN,seval,eT,iR,hxy,e1,e2,e15,e16,e17,s8,s9,dT,dF,nL]);(repeat refine Ai ?_);(try (refine hK _ ?_;clear hK K));try refine iC ?_)
    refine AI ⟨xs.length - (k + 1),by omega,k + 1,by omega,rfl,?_,?_⟩
    ·rw [Al hx,Al hy,h0,hxy']
    ·simp only [go_sem,fN,seval,AS.drop,Ao,AC.clears,AC.clear,AC.highs,AC.high,Bool.not_false,Bool.true_and,Bool.and_self,AV.purge,AV.purges,AC.purge,AL.purge,List.contains_cons,List.contains_nil,Nat.reduceBEq,Bool.or_self,Bool.or_false,Bool.false_or,Bool.or_true,eT,iR,e1,e2,e15,e16,e17,s8,s9]
     congr 3
  ·repeat' with_reducible first | refine W ?_ | refine Z0 ?_ | ((first | refine Wo fun K hK=>?_ | refine Wp ?_ | refine Wq ?_ | refine Wr ?_);(try simp only [go_sem,fN,seval,eT,iR,e1,e2,e15,e16,e17,hlt,dT,dF,nL]);(repeat refine Ai ?_);(try (refine hK _ ?_;clear hK K));try refine iC ?_)
   simp only [go_sem,fN,seval,AN,AS.result,AB,AD,AK]
   rw [List.take_of_length_le (by omega),List.take_of_length_le (by omega)] at h0
   rw [(Tm.beqL_iff xs ys).2 h0]
 ·have hl':¬ (xs.length:Int)=ys.length:=by omega
  repeat' with_reducible first | refine W ?_ | refine Z0 ?_ | ((first | refine Wo fun K hK=>?_ | refine Wp ?_ | refine Wq ?_ | refine Wr ?_);(try simp only [go_sem,fN,seval,eT,iR,hl',dT,dF,nL]);(repeat refine Ai ?_);(try (refine hK _ ?_;clear hK K));try refine iC ?_)
  simp only [go_sem,fN,seval,AN,AS.result,AB,AD,AK]
  rw [Tm.beqL_no fun e=>hl (by rw [e])]
theorem Lq (a b:Tm):AU Tryz.prog 69 [aTm a,aTm b] (Aa (a.beq b)):=by
 induction h:SizeOf.sizeOf a using Nat.strongRecOn generalizing a b with
 | _ N ih =>
 subst h
 have hE:=Rv a.args b.args fun x hx y=>ih _ (Tm.lt_of_arg hx) x y rfl
 have he:a.beq b=(decide (a.name=b.name) && Tm.beqL a.args b.args):=by cases a;cases b;rfl
 refine O3.ac fun C hC=>?_
 unfold JA
 by_cases hn:a.name=b.name
 ·repeat' (first | (with_reducible first | refine W ?_ | refine Z0 ?_ | ((first | refine Wo fun K hK=>?_ | refine Wp ?_ | refine Wq ?_ | refine Wr ?_);(try simp only [go_sem,fN,seval,eT,iR,hn,dT,dF,nL]);(repeat refine Ai ?_);(try (refine hK _ ?_;clear hK K));try refine iC ?_)) | refine Cg _ (hE) ?_)
  simp only [go_sem,fN,seval,AN,AS.result,AB,AD,AK]
  rw [he,decide_eq_true hn]
  rfl
 ·repeat' with_reducible first | refine W ?_ | refine Z0 ?_ | ((first | refine Wo fun K hK=>?_ | refine Wp ?_ | refine Wq ?_ | refine Wr ?_);(try simp only [go_sem,fN,seval,eT,iR,hn,dT,dF,nL]);(repeat refine Ai ?_);(try (refine hK _ ?_;clear hK K));try refine iC ?_)
  simp only [go_sem,fN,seval,AN,AS.result,AB,AD,AK]
  rw [he,decide_eq_false hn]
  rfl

set_option maxHeartbeats 1000000



set_option maxRecDepth 100000
def ER:IR :=
 (.seq (.ops [.i 3 (.box 37 (.t 0)),.i 4 (.alloc 37 [.st (.str (ByteArray.mk (#[]))),.full []])]) (.seq (.seq (.ops [.f 8 0 3,.l 9 8,.i 10 (.call 67 [.t 9])]) (.cond (.t 10) (.seq (.seq (.ops [.l 11 1,.f 12 0 3,.l 13 12,.i 14 (.lookup none false (.one (.st (.str (ByteArray.mk (#[]))))) (.t 11) (.t 13)),.i 15 (.bin .eql (.t 14) (.c (.one (.st (.str (ByteArray.mk (#[])))))))]) (.cond (.t 15) (.ops [.l 16 1,.f 17 0 3,.l 18 17,.l 19 1,.i 20 (.lenM (.t 19)),.i 21 (.call 102 [.t 20]),.mk none none (.mapSet none (.t 16) (.t 18) (.t 21)) .no]) .skip)) (.seq (.ops [.l 22 1,.f 23 0 3,.l 24 23,.i 25 (.lookup none false (.one (.st (.str (ByteArray.mk (#[]))))) (.t 22) (.t 24)),.i 26 (.build [.st (.str (ByteArray.mk (#[]))),.full []] [(0,1,.t 25)]),.s 2 4 26]) .ret)) .skip)) (.seq (.ops [.f 27 0 3,.l 28 27,.i 29 (.build [.st (.str (ByteArray.mk (#[]))),.full []] [(0,1,.t 28)]),.i 5 (.alloc 37 [.st (.str (ByteArray.mk (#[]))),.full []]),.s 2 5 29]) (.seq (.seq (.ops [.f 30 1 3,.l 31 30,.i 32 (.len false (.t 31)),.i 33 (.mov (.n 0))]) (.block 0 (.loop (.seq (.ops [.i 34 (.bin .lss (.t 33) (.t 32))]) (.seq (.cond (.t 34) .skip (.exit 0)) (.seq (.block 1 (.seq (.ops [.i 35 (.indexAddr 2 (.t 31) (.t 33)),.L 36 2 35,.i 7 (.alloc 37 [.st (.str (ByteArray.mk (#[]))),.full []]),.s 2 7 36]) (.ops [.mk (some 37) none (.fieldAddr 1 (.t 5)) (.onb 5),.mk (some 38) none (.load false 1 (.t 37)) (.onb 5),.l 39 2,.L 40 2 7,.mk (some 41) none (.callV (.t 39) [.t 40]) (.keeps [5,5]),.i 42 (.buildSlice false 37 2 [.t 41]),.i 43 (.append false 37 2 40 (.t 38) (.t 42)),.f 44 1 5,.s 1 44 43]))) (.ops [.i 45 (.bin .add (.t 33) (.n 1)),.m 33 45]))))))) (.seq (.ops [.L 46 2 5,.s 2 4 46]) .ret)))))
theorem Ig:OkF Tryz.prog 101 47 [41] ER [.cell 4 true 2]:=.of Tryz.func101 rfl rfl (by kernel_rfl) rfl
def FP:IR :=
 (.seq (.ops [.i 2 (.mov (.c (.one (.full []))))]) (.seq (.ops [.i 8 (.makeMap none),.i 3 (.alloc 133 [.st (.lit (.map none))]),.s 1 3 8]) (.seq (.ops [.i 4 (.alloc 73 [.st (.lit .nilFunc)])]) (.seq (.ops [.i 9 (.makeFunc 101 [.t 3,.t 4]),.s 1 4 9]) (.seq (.ops [.i 5 (.mov (.c (.one (.full []))))]) (.seq (.seq (.ops [.m 10 0,.i 11 (.len false (.t 10)),.i 12 (.mov (.n 0))]) (.block 0 (.loop (.seq (.ops [.i 13 (.bin .lss (.t 12) (.t 11))]) (.seq (.cond (.t 13) .skip (.exit 0)) (.seq (.block 1 (.seq (.ops [.i 14 (.indexAddr 2 (.t 10) (.t 12)),.L 15 2 14,.i 7 (.alloc 37 [.st (.str (ByteArray.mk (#[]))),.full []]),.s 2 7 15]) (.ops [.m 16 5,.l 17 4,.L 18 2 7,.i 19 (.callV (.t 17) [.t 18]),.i 20 (.buildSlice false 37 2 [.t 19]),.i 21 (.append false 37 2 40 (.t 16) (.t 20)),.m 5 21]))) (.ops [.i 22 (.bin .add (.t 12) (.n 1)),.m 12 22]))))))) (.seq (.ops [.m 23 5,.m 2 23]) .ret)))))))
theorem J9:OkF Tryz.prog 71 24 [19] FP [.t 2]:=.of Tryz.func71 rfl rfl (by kernel_rfl) rfl

def FI (k:Nat):List ByteArray→List (KV × AV)
 | []=>[]
 | n :: l=>(.s n,Bt (CK k)) :: FI (k + 1) l
abbrev Yp (l:List ByteArray):AL:=.map none (FI 0 l)
theorem RI:∀ (l:List ByteArray) (k:Nat),(FI k l).length=l.length
 | [],_=>rfl
 | n :: l,k=>by rw [FI,List.length_cons,List.length_cons,RI l]
theorem Jg:∀ (l:List ByteArray) (k:Nat) (n:ByteArray),DH (FI k l) (.s n)=if BO l n < l.length then some (Bt (CK (k + BO l n))) else none
 | [],k,n=>by simp [FI,DH,BO]
 | x :: l,k,n=>by
  rw [FI,DH,BO]
  by_cases e:x=n
  ·rw [if_pos (congrArg KV.s e),if_pos e]
   simp
  ·rw [if_neg (fun h=>e (KV.s.inj h)),if_neg e,Jg l (k + 1) n,List.length_cons]
   by_cases h:BO l n < l.length
   ·rw [if_pos h,if_pos (by omega),show k + 1 + BO l n=k + (BO l n + 1) by omega]
   ·rw [if_neg h,if_neg (by omega)]
theorem Oo:∀ {l:List ByteArray} {k:Nat} {n:ByteArray},¬ BO l n < l.length→∀ v,LB (FI k l) (.s n) v=FI k l ++ [(.s n,v)]
 | [],k,n,h,v=>rfl
 | x :: l,k,n,h,v=>by
  rw [BO] at h
  by_cases e:x=n
  ·rw [if_pos e] at h;simp at h
  ·rw [if_neg e] at h
   rw [FI,LB,if_neg (fun h=>e (KV.s.inj h)),Oo (by simpa using h),List.cons_append]
theorem No:∀ (l:List ByteArray) (k:Nat) (n:ByteArray),FI k (l ++ [n])=FI k l ++ [(.s n,Bt (CK (k + l.length)))]
 | [],k,n=>by simp [FI]
 | x :: l,k,n=>by
  rw [List.cons_append,FI,No l (k + 1) n,FI,List.cons_append,List.length_cons,show k + 1 + l.length=k + (l.length + 1) by omega]
theorem V8 (k:Nat):¬ CK k=⟨#[]⟩:=fun h=>by
 have h1:=IK k
 rw [h] at h1
 have:(⟨#[]⟩:ByteArray).size=0:=rfl
 omega
theorem T8 {l:List ByteArray} {n:ByteArray} (h:BO l n < l.length):Io false (Bt ⟨#[]⟩) (DH (FI 0 l) (.s n))=Bt (CK (BO l n)):=by
 rw [Jg,if_pos h,Nat.zero_add]
 rfl
theorem W0 {l:List ByteArray} {n:ByteArray} (h:¬ BO l n < l.length):Io false (Bt ⟨#[]⟩) (DH (FI 0 l) (.s n))=Bt ⟨#[]⟩:=by
 rw [Jg,if_neg h]
 rfl
theorem ZA {l:List ByteArray} {n:ByteArray} (h:¬ BO l n < l.length):LB (FI 0 l) (.s n) (Bt (CK l.length))=FI 0 (Ec l n):=by
 rw [Oo h,show Ec l n=l ++ [n] by unfold Ec;rw [if_neg h],No,Nat.zero_add]
abbrev S9 (n0 f0:Nat):AC:=.fn 101 [.ptr n0 1 0 0,.ptr f0 1 0 0]
theorem Zu (t:Tm) (hz:t.size≤1000000):∀ (n0 f0 m0:Nat) (e1 e2:TypeId) (l:List ByteArray) (S:AA),1000≤n0→1000≤f0→1000≤m0→¬ n0=m0→¬ f0=m0→l.length + t.size≤900000 →
  S n0=some (.box e1 [.mptr m0])→S f0=some (.box e2 [S9 n0 f0])→S m0=some (Yp l) →
  As Tryz.prog 101 [aTm t,.one (.ptr n0 1 0 0),.one (.ptr f0 1 0 0)] S (aTm (t.cn l).1) (AG S m0 (some (Yp (t.cn l).2))):=by
 induction h:SizeOf.sizeOf t using Nat.strongRecOn generalizing t with
 | _ N ih =>
 subst h
 intro n0 f0 m0 e1 e2 l S hn0 hf0 hm0 hnm hfm hl hSn hSf hSm
 have hs:=Tm.size_eq t
 have hln:=Tm.length_le t.args
 refine Ig.acS fun hS C hC=>?_
 have k3:S 3=none:=AP hS (by omega)
 have k4:S 4=none:=AP hS (by omega)
 have k5:S 5=none:=AP hS (by omega)
 have k7:S 7=none:=AP hS (by omega)
 have k900:S 900=none:=AP hS (by omega)
 have a3:¬ n0=3:=by omega
 have a4:¬ n0=4:=by omega
 have a5:¬ n0=5:=by omega
 have a7:¬ n0=7:=by omega
 have a900:¬ n0=900:=by omega
 have b3:¬ f0=3:=by omega
 have b4:¬ f0=4:=by omega
 have b5:¬ f0=5:=by omega
 have b7:¬ f0=7:=by omega
 have b900:¬ f0=900:=by omega
 have c3:¬ m0=3:=by omega
 have c4:¬ m0=4:=by omega
 have c5:¬ m0=5:=by omega
 have c7:¬ m0=7:=by omega
 have c900:¬ m0=900:=by omega
 have d3:¬ 3=m0:=by omega
 have d4:¬ 4=m0:=by omega
 have d5:¬ 5=m0:=by omega
 have d7:¬ 7=m0:=by omega
 have d900:¬ 900=m0:=by omega
 have hplain:CC Tryz.prog 101=true:=by kernel_rfl
 unfold ER
 repeat' with_reducible first | refine W ?_ | refine Z0 ?_ | ((first | refine Wo fun K hK=>?_ | refine Wp ?_ | refine Wq ?_ | refine Wr ?_);(try simp only [go_sem,fN,seval,eT,iR,k3,k4,dT,dF,nL]);(repeat refine Ai ?_);(try (refine hK _ ?_;clear hK K));try refine iC ?_)
 refine ⟨_,Am _,?_⟩
 cases hv:AJ t.name with
 | true =>
  have hcn:=AAH (l:=l) hv
  by_cases hp:BO l t.name < l.length
  ·have hadd:Ec l t.name=l:=by unfold Ec;rw [if_pos hp]
   have hne:=V8 (BO l t.name)
   repeat' with_reducible first | refine W ?_ | refine Z0 ?_ | ((first | refine Wo fun K hK=>?_ | refine Wp ?_ | refine Wq ?_ | refine Wr ?_);(try simp only [go_sem,fN,seval,eT,iR,hv,hSn,hSf,hSm,k3,k4,a3,a4,c3,c4,d3,d4,DV,JN,KV.of,T8,hp,hne,dT,dF,nL]);(repeat refine Ai ?_);(try (refine hK _ ?_;clear hK K));try refine iC ?_)
   rw [hcn,hadd]
   refine Bg (.agg [.st (.str (CK (BO l t.name))),.full []]) hS hm0 rfl trivial ?_ ?_ ?_ fun i hi hne=>?_
   ·simp only [go_sem,fN,seval,eT,iR,AB,AD,AK]
   ·simp only [go_sem,fN,seval,eT,iR]
    rfl
   ·simp only [go_sem,fN,seval,eT,iR,c3,c4,hSm]
   ·have i3:¬ i=3:=by omega
    have i4:¬ i=4:=by omega
    simp only [go_sem,fN,seval,eT,iR,i3,i4]
  ·have hpn:BO l t.name=l.length:=by have:=Tw l t.name;omega
   have hel:=RI l 0
   have hp2:BO (Ec l t.name) t.name < (Ec l t.name).length:=by
    unfold Ec
    rw [if_neg hp,HU hp,List.length_append,List.length_singleton]
    omega
   have hp3:BO (Ec l t.name) t.name=l.length:=by
    unfold Ec
    rw [if_neg hp,HU hp]
   have hlk2:Io false (Bt ⟨#[]⟩) (DH (FI 0 (Ec l t.name)) (.s t.name))=Bt (CK l.length):=by rw [T8 hp2,hp3]
   repeat' (first | (with_reducible first | refine W ?_ | refine Z0 ?_ | ((first | refine Wo fun K hK=>?_ | refine Wp ?_ | refine Wq ?_ | refine Wr ?_);(try simp only [go_sem,fN,seval,eT,iR,hv,hSn,hSf,hSm,k3,k4,a3,a4,c3,c4,d3,d4,hnm,DV,JN,KV.of,W0,hp,hel,ZA,hlk2,dT,dF,nL]);(repeat refine Ai ?_);(try (refine hK _ ?_;clear hK K));try refine iC ?_)) | refine Cg _ (Vc l.length (by omega)) ?_)
   rw [hcn,hpn]
   refine Bg (.agg [.st (.str (CK l.length)),.full []]) hS hm0 rfl trivial ?_ ?_ ?_ fun i hi hne=>?_
   ·simp only [go_sem,fN,seval,eT,iR,AB,AD,AK,d4]
   ·simp only [go_sem,fN,seval,eT,iR]
    rfl
   ·simp only [go_sem,fN,seval,eT,iR,c3,c4,hSm]
   ·have i3:¬ i=3:=by omega
    have i4:¬ i=4:=by omega
    simp only [go_sem,fN,seval,eT,iR,i3,i4,hne]
 | false =>
  have hcn:=ZP (l:=l) hv
  repeat' with_reducible first | refine W ?_ | refine Z0 ?_ | ((first | refine Wo fun K hK=>?_ | refine Wp ?_ | refine Wq ?_ | refine Wr ?_);(try simp only [go_sem,fN,seval,eT,iR,hv,k3,k4,k5,dT,dF,nL]);(repeat refine Ai ?_);(try (refine hK _ ?_;clear hK K));try refine iC ?_)
  refine IWP.ghost (Ac.ownC 5 1 900 37 2 (xs:=([]:List Tm).map Ap) (by rfl) (by rfl) (by simp only [go_sem,fN,seval,eT,iR,k900]) EP) ?_
  refine IWP.loopD [7] (fun m x=>∃ k,k≤t.args.length∧m=t.args.length - k∧x.env 1=.one (.ptr n0 1 0 0)∧x.env 2=.one (.ptr f0 1 0 0)∧x.env 4=.one (.ptr 4 1 0 0)∧x.env 5=.one (.ptr 5 1 0 0)∧x.env 31=Gh t.args∧x.env 32=AO t.args.length∧x.env 33=AO k ∧
    x.S 4=some (.box 37 [.st (.str ⟨#[]⟩),.full []])∧x.S 5=some (.box 37 [.st (.str t.name),.row 900 k])∧x.S 900=some (.arow 37 2 ((Tm.cnL (t.args.take k) l).1.map Ap))∧x.S 7=none∧x.S n0=some (.box e1 [.mptr m0])∧x.S f0=some (.box e2 [S9 n0 f0])∧x.S m0=some (Yp (Tm.cnL (t.args.take k) l).2)∧∀ i,1000≤i→i ≠ m0→x.S i=S i)
   t.args.length ⟨0,Nat.zero_le _,rfl,rfl,rfl,rfl,rfl,rfl,rfl,rfl,by simp only [go_sem,fN,seval,eT,iR],by (simp only [go_sem,fN,seval,eT,iR];rfl),rfl,by simp only [go_sem,fN,seval,eT,iR,k7],by simp only [go_sem,fN,seval,eT,iR,a3,a4,a5,a900,hSn],by simp only [go_sem,fN,seval,eT,iR,b3,b4,b5,b900,hSf],by (simp only [go_sem,fN,seval,eT,iR,c3,c4,c5,c900,hSm];rfl),fun i hi hne=>?_⟩ ?_
  ·have i3:¬ i=3:=by omega
   have i4:¬ i=4:=by omega
   have i5:¬ i=5:=by omega
   have i900:¬ i=900:=by omega
   simp only [go_sem,fN,seval,eT,iR,i3,i4,i5,i900]
  rintro m ⟨env,S1⟩ ⟨k,hk,rfl,v1,v2,v4,v5,v31,v32,v33,s4,s5,s900,s7,sn,sf,sm,hrest⟩
  simp only at v1 v2 v4 v5 v31 v32 v33 s4 s5 s900 s7 sn sf sm hrest
  have hlk:(Tm.cnL (t.args.take k) l).1.length=k:=by rw [Oz,List.length_take];omega
  have hnl:=Dw (t.args.take k) l
  by_cases hlt:(k:Int) < t.args.length
  ·obtain ⟨x,hx⟩:=Ag (show k < t.args.length by omega)
   have z1:=Tm.sizes_take hx
   have z2:=Tm.sizes_take_le t.args (k + 1)
   have hstep:=R6 (l:=l) hx
   repeat' with_reducible first | refine W ?_ | refine Z0 ?_ | ((first | refine Wo fun K hK=>?_ | refine Wp ?_ | refine Wq ?_ | refine Wr ?_);(try simp only [go_sem,fN,seval,eT,iR,v1,v2,v4,v5,v31,v32,v33,s4,s5,s900,s7,sn,sf,sm,hlt,hx,hplain,a7,b7,c7,d7,d5,dT,dF,nL]);(repeat refine Ai ?_);(try (refine hK _ ?_;clear hK K));try refine iC ?_)
   refine ⟨_,_,ih _ (Tm.lt_of_arg (AQ hx)) x (by omega) rfl (up1 n0) (up1 f0) (up1 m0) e1 e2 (Tm.cnL (t.args.take k) l).2 _ (At n0) (At f0) (At m0) (fun e=>hnm (Nat.add_right_cancel e)) (fun e=>hfm (Nat.add_right_cancel e)) (by omega) (by rw [A0];(simp only [go_sem,fN,seval,eT,iR,a7,sn])) (by rw [A0];(simp only [go_sem,fN,seval,eT,iR,b7,sf])) (by rw [A0];(simp only [go_sem,fN,seval,eT,iR,c7,sm])),?_⟩
   repeat' with_reducible first | refine W ?_ | refine Z0 ?_ | ((first | refine Wo fun K hK=>?_ | refine Wp ?_ | refine Wq ?_ | refine Wr ?_);(try simp only [go_sem,fN,seval,eT,iR,v1,v2,v4,v5,v31,v32,v33,s4,s5,s900,s7,sn,sf,sm,a7,b7,c7,d7,d5,d900,c5,c900,a5,a900,b5,b900,hlk,hnm,hfm,dT,dF,nL]);(repeat refine Ai ?_);(try (refine hK _ ?_;clear hK K));try refine iC ?_)
   refine AI ⟨t.args.length - (k + 1),by omega,k + 1,by omega,rfl,?_⟩
   rw [hstep]
   have hnb:(n0 == 7)=false:=by simp;omega
   have hfb:(f0 == 7)=false:=by simp;omega
   have hmb:(m0 == 7)=false:=by simp;omega
   simp only [go_sem,fN,seval,AS.drop,Ao,AC.clears,AC.clear,AC.highs,AC.high,Bool.not_false,Bool.true_and,Bool.and_self,AV.purge,AV.purges,AC.purge,AL.purge,List.contains_cons,List.contains_nil,Nat.reduceBEq,Bool.or_self,Bool.or_false,Bool.false_or,Bool.or_true,eT,iR,v1,v2,v4,v5,v31,v32,v33,s4,s5,s900,s7,sn,sf,sm,a7,b7,c7,d7,d5,d900,c5,c900,a5,a900,b5,b900,hnb,hfb,hmb,hnm,hfm,d4]
   refine ⟨by congr 3,?_,fun i hi hne=>?_⟩
   ·rw [List.map_append,List.map_cons,List.map_nil,Af]
   ·have i5:¬ i=5:=by omega
    have i7:¬ i=7:=by omega
    have i7b:(i == 7)=false:=by simp;omega
    have i900:¬ i=900:=by omega
    simp only [go_sem,fN,seval,AS.drop,Ao,AC.clears,AC.clear,AC.highs,AC.high,Bool.not_false,Bool.true_and,Bool.and_self,AV.purge,AV.purges,AC.purge,AL.purge,List.contains_cons,List.contains_nil,Nat.reduceBEq,Bool.or_self,Bool.or_false,Bool.false_or,Bool.or_true,eT,iR,i5,i7,i7b,i900,hne]
    rw [hrest i hi hne]
    exact TL (by decide) fun b hb=>(hS i b hb).2
  ·rw [List.take_of_length_le (by omega)] at sm s900 hlk
   repeat' with_reducible first | refine W ?_ | refine Z0 ?_ | ((first | refine Wo fun K hK=>?_ | refine Wp ?_ | refine Wq ?_ | refine Wr ?_);(try simp only [go_sem,fN,seval,eT,iR,v4,v5,v31,v32,v33,s4,s5,hlt,dT,dF,nL]);(repeat refine Ai ?_);(try (refine hK _ ?_;clear hK K));try refine iC ?_)
   rw [hcn]
   refine Bg (.agg [.st (.str t.name),.row 900 k]) hS hm0 rfl trivial ?_ ?_ ?_ fun i hi hne=>?_
   ·simp only [go_sem,fN,seval,eT,iR,AB,AD,AK,v4]
   ·simp only [go_sem,fN,seval,eT,iR,s900,hlk]
    rfl
   ·simp only [go_sem,fN,seval,eT,iR,c4,sm]
   ·have i4:¬ i=4:=by omega
    simp only [go_sem,fN,seval,eT,iR,i4]
    exact hrest i hi hne

theorem Kp (t:Tm):t.varsOf.length≤t.size:=by
 have:=DI t.knots []
 rw [Tm.knots_length] at this
 simpa [Tm.varsOf] using this

theorem WG (L:List Tm) (hz:Tm.sizes L≤800000):AU Tryz.prog 71 [Gh L] (Gh (Tm.cnL L []).1):=by
 have hplain:CC Tryz.prog 101=true:=by kernel_rfl
 have hln:=Tm.length_le L
 refine J9.ac fun C hC=>?_
 unfold FP
 repeat' with_reducible first | refine W ?_ | refine Z0 ?_ | ((first | refine Wo fun K hK=>?_ | refine Wp ?_ | refine Wq ?_ | refine Wr ?_);(try simp only [go_sem,fN,seval,eT,iR,AS.caps,dT,dF,nL]);(repeat refine Ai ?_);(try (refine hK _ ?_;clear hK K));try refine iC ?_)
 refine IWP.ghost (Ac.own 5 900 37 2 (xs:=([]:List Tm).map Ap) (by rfl) (by rfl) EP (by rw [hC];decide)) ?_
 refine IWP.loopD [7] (fun m x=>∃ k,k≤L.length∧m=L.length - k∧x.env 4=.one (.ptr 4 1 0 0)∧x.env 5=.one (.row 900 k)∧x.env 10=Gh L∧x.env 11=AO L.length∧x.env 12=AO k∧x.S 900=some (.arow 37 2 ((Tm.cnL (L.take k) []).1.map Ap))∧x.S 7=none∧(∃ e1,x.S 3=some (.box e1 [.mptr 8]))∧(∃ e2,x.S 4=some (.box e2 [S9 3 4]))∧x.S 8=some (Yp (Tm.cnL (L.take k) []).2)) L.length ⟨0,Nat.zero_le _,rfl,rfl,rfl,rfl,rfl,rfl,rfl,rfl,⟨_,rfl⟩,⟨_,rfl⟩,rfl⟩ ?_
 rintro m ⟨env,S⟩ ⟨k,hk,rfl,v4,v5,v10,v11,v12,s900,s7,⟨e1,s3⟩,⟨e2,s4⟩,s8⟩
 simp only at v4 v5 v10 v11 v12 s900 s7 s3 s4 s8
 have hlk:(Tm.cnL (L.take k) []).1.length=k:=by rw [Oz,List.length_take];omega
 have hnl:=Dw (L.take k) []
 rw [List.length_nil] at hnl
 by_cases hlt:(k:Int) < L.length
 ·obtain ⟨x,hx⟩:=Ag (show k < L.length by omega)
  have z1:=Tm.sizes_take hx
  have z2:=Tm.sizes_take_le L (k + 1)
  have hstep:=R6 (l:=[]) hx
  repeat' with_reducible first | refine W ?_ | refine Z0 ?_ | ((first | refine Wo fun K hK=>?_ | refine Wp ?_ | refine Wq ?_ | refine Wr ?_);(try simp only [go_sem,fN,seval,eT,iR,v4,v5,v10,v11,v12,s900,s7,s3,s4,s8,hplain,hlt,hx,dT,dF,nL]);(repeat refine Ai ?_);(try (refine hK _ ?_;clear hK K));try refine iC ?_)
  refine ⟨_,_,Zu x (by omega) (up1 3) (up1 4) (up1 8) e1 e2 (Tm.cnL (L.take k) []).2 _ (At 3) (At 4) (At 8) (by decide) (by decide) (by omega) (by rw [A0];(simp only [go_sem,fN,seval,eT,iR,s3])) (by rw [A0];(simp only [go_sem,fN,seval,eT,iR,s4])) (by rw [A0];(simp only [go_sem,fN,seval,eT,iR,s8])),?_⟩
  repeat' with_reducible first | refine W ?_ | refine Z0 ?_ | ((first | refine Wo fun K hK=>?_ | refine Wp ?_ | refine Wq ?_ | refine Wr ?_);(try simp only [go_sem,fN,seval,eT,iR,v4,v5,v10,v11,v12,s900,s7,s3,s4,s8,hlk,dT,dF,nL]);(repeat refine Ai ?_);(try (refine hK _ ?_;clear hK K));try refine iC ?_)
  refine AI ⟨L.length - (k + 1),by omega,k + 1,by omega,rfl,?_⟩
  rw [hstep]
  simp only [go_sem,fN,seval,AS.drop,Ao,AC.clears,AC.clear,AC.highs,AC.high,Bool.not_false,Bool.true_and,Bool.and_self,AV.purge,AV.purges,AC.purge,AL.purge,List.contains_cons,List.contains_nil,Nat.reduceBEq,Bool.or_self,Bool.or_false,Bool.false_or,Bool.or_true,eT,iR,v4,v5,v10,v11,v12,s900,s7,s3,s4,s8]
  exact ⟨by congr 3,by rw [List.map_append,List.map_cons,List.map_nil,Af],⟨_,rfl⟩,⟨_,rfl⟩⟩
 ·rw [List.take_of_length_le (by omega)] at s900 hlk
  repeat' with_reducible first | refine W ?_ | refine Z0 ?_ | ((first | refine Wo fun K hK=>?_ | refine Wp ?_ | refine Wq ?_ | refine Wr ?_);(try simp only [go_sem,fN,seval,eT,iR,v5,v10,v11,v12,s900,hlt,dT,dF,nL]);(repeat refine Ai ?_);(try (refine hK _ ?_;clear hK K));try refine iC ?_)
  simp only [go_sem,fN,seval,AN,AS.result,AB,AD,AK,s900,hlk]
  try rfl

theorem Y4 {s s':List Bd} (h:∀ n,lookup s n=lookup s' n) (t:Tm):t.on s=t.on s':=by
 induction hN:SizeOf.sizeOf t using Nat.strongRecOn generalizing t with
 | _ N ih =>
 subst hN
 have hmap:t.args.map (Tm.on s)=t.args.map (Tm.on s'):=List.map_congr_left fun a ha=>ih _ (Tm.lt_of_arg ha) a rfl
 by_cases h0:t.args=[]
 ·cases hl:lookup s t.name with
  | some x=>rw [Tm.on_leaf hl h0,Tm.on_leaf (by rw [← h];exact hl) h0]
  | none=>rw [Tm.on_knot (.inl hl),Tm.on_knot (.inl (by rw [← h];exact hl)),hmap]
 ·rw [Tm.on_knot (.inr h0),Tm.on_knot (.inr h0),hmap]
theorem Nu {c:UInt8} {k:Nat} {V:List ByteArray} (h:V.Nodup):Bc (nmB c k V):=by
 unfold Bc
 rw [KH]
 exact h
theorem OJ {c:UInt8} {k:Nat} {V:List ByteArray} (h:V.Nodup) {t:Tm} (hz:t.size≤200) (hs:(t.on (nmB c k V)).size=t.size):A7 (BS (nmB c k V)) t=(t.on (nmB c k V),true):=by
 have e:t.on (BS (nmB c k V))=t.on (nmB c k V):=Y4 (fun n=>R3 (CL _) (Nu h) n) t
 unfold A7
 rw [e,if_pos (by omega)]
theorem Uv {c:UInt8} {V:List ByteArray} {j:Nat} {v:ByteArray} (k:Nat) (hv:V[j]?=some v):nmB c k (V.take (j + 1))=nmB c k (V.take j) ++ [(v,.mk (C5 c (k + j)) [])]:=by
 have hl:=(List.getElem?_eq_some_iff.1 hv).1
 rw [Al hv,QZ,List.length_take,Nat.min_eq_left (by omega)]
theorem Tp (c:UInt8) (h65:65≤c.toNat) (h90:c.toNat≤90) {r:Pr} (h1:r.1.may=0) (h2:r.2.may=0):AU Tryz.prog 107 [aPr r,Bt ⟨#[c]⟩] (aPr (D8 c 1 r)):=by
 obtain ⟨c1,z1⟩:=Tm.may_chk h1
 obtain ⟨c2,z2⟩:=Tm.may_chk h2
 have hvl:=Kp r.1
 have hz1:(⟨#[c]⟩:ByteArray).size=1:=rfl
 have hvo:=SW r.1 (by omega)
 have f1:=Cn (k:=1) h65 h90 (by omega) (show r.1.varsOf.length≤1000 by omega) c1
 have f2:=Cn (k:=1) h65 h90 (by omega) (show r.1.varsOf.length≤1000 by omega) c2
 have hnd:=PX r.1
 have hvv:=HH r.1
 unfold D8
 generalize r.1.varsOf=V at *
 have hnm:Bc (nmB c 1 V):=Nu hnd
 have hvs:∀ b ∈ BS (nmB c 1 V),AJ b.1=true:=fun b hb=>by
  have:=List.mem_map_of_mem (f:=(·.1)) ((CL _).mem_iff.1 hb)
  rw [KH] at this
  exact hvv _ this
 have hsl:(BS (nmB c 1 V)).length=V.length:=by rw [BY,PV]
 have o1:=Nt (BS (nmB c 1 V)) (by omega) (Bo hnm) r.1 hvs c1
 have o2:=Nt (BS (nmB c 1 V)) (by omega) (Bo hnm) r.2 hvs c2
 rw [OJ hnd z1 f1.2] at o1
 rw [OJ hnd z2 f2.2] at o2
 refine JY.ac fun C hC=>?_
 unfold Ev
 repeat' (first | (with_reducible first | refine W ?_ | refine Z0 ?_ | ((first | refine Wo fun K hK=>?_ | refine Wp ?_ | refine Wq ?_ | refine Wr ?_);(try simp only [go_sem,fN,seval,eT,iR,dT,dF,nL]);(repeat refine Ai ?_);(try (refine hK _ ?_;clear hK K));try refine iC ?_)) | refine Cg _ (hvo) ?_)
 refine IWP.ghost (Ac.ownM 5 500 82 3 rfl rfl (by rw [hC];decide)) ?_
 refine IWP.loop (fun m x=>∃ j,j≤V.length∧m=V.length - j∧x.env 1=Bt ⟨#[c]⟩∧x.env 2=.one (.ptr 2 1 0 0)∧x.env 4=.one (.ptr 4 1 0 0)∧x.env 14=CR V∧x.env 15=AO V.length∧x.env 5=.one (.row 500 j)∧x.env 16=AO j∧x.S 8=none∧x.S 10=none∧x.S 500=some (BR (nmB c 1 (V.take j)))∧x.S 2=some (.box 40 [.st (.str r.1.name),.st (.list (r.1.args.map Ap)),.st (.str r.2.name),.st (.list (r.2.args.map Ap))])∧x.S 4=some (.box 40 [.st (.str ⟨#[]⟩),.full [],.st (.str ⟨#[]⟩),.full []])) V.length ⟨0,Nat.zero_le _,rfl,rfl,rfl,rfl,rfl,rfl,rfl,rfl,rfl,rfl,rfl,rfl,rfl⟩ ?_
 rintro m ⟨env,S⟩ ⟨j,hj,rfl,e1,e2,e4,e14,e15,e5,e16,s8,s10,s500,s2,s4⟩
 simp only at e1 e2 e4 e14 e15 e5 e16 s8 s10 s500 s2 s4
 have hzl:=PV c (V.take j) 1
 rw [List.length_take,Nat.min_eq_left hj] at hzl
 by_cases hjl:(j:Int) < V.length
 ·obtain ⟨v,hv⟩:=Ag (show j < V.length by omega)
  have hdec:=YL (j + 1) (by omega)
  have hsz:=F5 (n:=j + 1) (by omega)
  rw [show (((j + 1:Nat):Int))=(j:Int) + 1 by omega] at hdec
  repeat' (first | (with_reducible first | refine W ?_ | refine Z0 ?_ | ((first | refine Wo fun K hK=>?_ | refine Wp ?_ | refine Wq ?_ | refine Wr ?_);(try simp only [go_sem,fN,seval,eT,iR,e1,e2,e4,e14,e15,e5,e16,s500,s2,s4,hjl,hv,hzl,hz1,C3,dT,dF,nL]);(repeat refine Ai ?_);(try (refine hK _ ?_;clear hK K));try refine iC ?_)) | refine Cg _ (hdec) ?_)
  refine AI ⟨V.length - (j + 1),by omega,j + 1,by omega,rfl,?_⟩
  rw [BR,Uv 1 hv,List.map_append]
  simp only [go_sem,fN,seval,eT,iR,e1,e2,e4,e14,e15,s2,s4,s8,s10]
  rw [Nat.add_comm 1 j]
  refine ⟨by congr 3,?_⟩
  rfl
 ·obtain rfl:j=V.length:=by omega
  rw [List.take_of_length_le (by omega)] at s500 hzl
  repeat' with_reducible first | refine W ?_ | refine Z0 ?_ | ((first | refine Wo fun K hK=>?_ | refine Wq ?_ | refine Wr ?_);(try simp only [go_sem,fN,seval,eT,iR,e15,e16,hjl]);(repeat refine Ai ?_);(try (refine hK _ ?_;clear hK K)))
  with_reducible refine Wp ?_
  simp only [go_sem,fN,seval,true_implies,false_implies,implies_true,dT,dF,nL,hjl]
  (try with_reducible refine iC ?_)
  repeat' (with_reducible first | refine Wb ?_ | refine Wc ?_ | refine Wd ?_ | refine We ?_ | refine Wg ?_ | refine Wh ?_ | refine Wi ?_ | refine Wj ?_ | refine Wk (by decide) ?_ | refine Wl ?_ | refine Wm ?_ | refine Wn ?_)
  have hs:=Sn (nmB c 1 V) hnm (by omega) (up1 500) (At 500) (upS S) (by rw [A0,s500];rfl)
  rw [hzl] at hs
  refine IWP.mid (fun x=>x.env 2=.one (.ptr 2 1 0 0)∧x.env 4=.one (.ptr 4 1 0 0)∧x.env 5=.one (.row 500 V.length)∧x.S 8=none∧x.S 10=none∧x.S 500=some (BR (BS (nmB c 1 V)))∧x.S 2=some (.box 40 [.st (.str r.1.name),.st (.list (r.1.args.map Ap)),.st (.str r.2.name),.st (.list (r.2.args.map Ap))])∧x.S 4=some (.box 40 [.st (.str ⟨#[]⟩),.full [],.st (.str ⟨#[]⟩),.full []])) ?_ ?_
  ·repeat' with_reducible first | refine W ?_ | refine Z0 ?_ | ((first | refine Wo fun K hK=>?_ | refine Wq ?_ | refine Wr ?_);(try simp only [go_sem,fN,seval,eT,iR,e2,e4,e5,s2,s4]);(repeat refine Ai ?_);(try (refine hK _ ?_;clear hK K)))
   refine ⟨_,_,hs,?_⟩
   repeat' with_reducible first | refine W ?_ | refine Z0 ?_ | ((first | refine Wo fun K hK=>?_ | refine Wq ?_ | refine Wr ?_);(try simp only [go_sem,fN,seval,eT,iR,e2,e4,e5,s2,s4]);(repeat refine Ai ?_);(try (refine hK _ ?_;clear hK K)))
   refine ⟨rfl,?_⟩
   simp only [go_sem,fN,seval,eT,iR,e2,e4,s2,s4,s8,s10]
  rintro ⟨env,S⟩ ⟨e2,e4,e5,s8,s10,s500,s2,s4⟩
  simp only at e2 e4 e5 s8 s10 s500 s2 s4
  refine IWP.ghost (Ac.share (id:=500) s500) ?_
  repeat' (first | (with_reducible first | refine W ?_ | refine Z0 ?_ | ((first | refine Wo fun K hK=>?_ | refine Wp ?_ | refine Wq ?_ | refine Wr ?_);(try simp only [go_sem,fN,seval,eT,iR,e2,e4,e5,s2,s4,s8,s10,hsl,dT,dF,nL]);(repeat refine Ai ?_);(try (refine hK _ ?_;clear hK K));try refine iC ?_)) | refine Cg _ (o1) ?_ | refine Cg _ (o2) ?_)
  simp only [go_sem,fN,seval,AN,AS.result,AB,AD,AK,e4,s4]

def Kg:IR :=
 (.seq (.ops [.i 1 (.box 37 (.t 0)),.i 2 (.mov (.c (.one (.full []))))]) (.seq (.ops [.i 8 (.buildFlat []),.i 9 (.buildSlice false 32 1 [.t 8]),.m 3 9]) (.seq (.seq (.ops [.f 10 1 1,.l 11 10,.i 12 (.len false (.t 11)),.i 13 (.mov (.n 0))]) (.block 0 (.loop (.seq (.ops [.i 14 (.bin .lss (.t 13) (.t 12))]) (.seq (.cond (.t 14) .skip (.exit 0)) (.seq (.block 1 (.seq (.ops [.m 15 13,.i 16 (.indexAddr 2 (.t 11) (.t 13)),.L 17 2 16,.i 5 (.alloc 37 [.st (.str (ByteArray.mk (#[]))),.full []]),.m 4 15,.s 2 5 17]) (.seq (.ops [.L 18 2 5,.i 19 (.call 108 [.t 18]),.i 20 (.len false (.t 19)),.i 21 (.mov (.n 0))]) (.block 2 (.loop (.seq (.ops [.i 22 (.bin .lss (.t 21) (.t 20))]) (.seq (.cond (.t 22) .skip (.exit 2)) (.seq (.block 3 (.seq (.ops [.i 23 (.indexAddr 1 (.t 19) (.t 21)),.l 24 23,.m 7 24]) (.ops [.m 25 3,.m 26 4,.i 27 (.buildFlat [.t 26]),.m 28 7,.i 29 (.append false 3 1 8 (.t 27) (.t 28)),.i 30 (.buildSlice false 32 1 [.t 29]),.i 31 (.append false 32 1 24 (.t 25) (.t 30)),.m 3 31]))) (.ops [.i 32 (.bin .add (.t 21) (.n 1)),.m 21 32]))))))))) (.ops [.i 33 (.bin .add (.t 13) (.n 1)),.m 13 33]))))))) (.seq (.ops [.m 34 3,.m 2 34]) .ret))))
theorem RS:OkF Tryz.prog 108 35 [] Kg [.t 2]:=.of Tryz.func108 rfl rfl (by kernel_rfl) rfl
def Ho:IR :=
 (.seq (.ops [.i 2 (.box 37 (.t 0)),.i 4 (.alloc 37 [.st (.str (ByteArray.mk (#[]))),.full []]),.i 5 (.mov (.c (.one (.st (.bool false)))))]) (.seq (.seq (.ops [.m 8 1,.i 9 (.len false (.t 8)),.i 10 (.mov (.n 0))]) (.block 0 (.loop (.seq (.ops [.i 11 (.bin .lss (.t 10) (.t 9))]) (.seq (.cond (.t 11) .skip (.exit 0)) (.seq (.block 1 (.seq (.ops [.i 12 (.indexAddr 1 (.t 8) (.t 10)),.l 13 12,.m 7 13]) (.seq (.seq (.ops [.m 14 7,.i 15 (.bin .lss (.t 14) (.n 0)),.m 16 15,.mk (some 17) (some (16,false)) (.mov (.t 7)) .no,.mk (some 18) (some (16,false)) (.fieldAddr 1 (.t 2)) .no,.mk (some 19) (some (16,false)) (.load false 1 (.t 18)) .no,.mk (some 20) (some (16,false)) (.len false (.t 19)) .no,.mk (some 21) (some (16,false)) (.bin .geq (.t 17) (.t 20)) .no,.i 22 (.pick (.t 16) (.c (.one (.st (.bool true)))) (.t 21))]) (.cond (.t 22) (.seq (.ops [.i 23 (.build [.st (.str (ByteArray.mk (#[]))),.full []] []),.s 2 4 23,.i 5 (.mov (.c (.one (.st (.bool false)))))]) .ret) .skip)) (.ops [.f 24 1 2,.l 25 24,.m 26 7,.i 27 (.indexAddr 2 (.t 25) (.t 26)),.L 28 2 27,.s 2 2 28])))) (.ops [.i 29 (.bin .add (.t 10) (.n 1)),.m 10 29]))))))) (.seq (.ops [.L 30 2 2,.s 2 4 30,.i 5 (.mov (.c (.one (.st (.bool true)))))]) .ret)))
theorem NG:OkF Tryz.prog 109 31 [] Ho [.cell 4 true 2,.t 5]:=.of Tryz.func109 rfl rfl (by kernel_rfl) rfl
def F2:IR :=
 (.seq (.ops [.i 3 (.box 37 (.t 0)),.i 5 (.box 37 (.t 2)),.i 6 (.alloc 37 [.st (.str (ByteArray.mk (#[]))),.full []])]) (.seq (.seq (.ops [.m 7 1,.i 8 (.len false (.t 7)),.i 9 (.bin .eql (.t 8) (.n 0))]) (.cond (.t 9) (.seq (.ops [.L 10 2 5,.i 11 (.call 42 [.t 10]),.s 2 6 11]) .ret) .skip)) (.seq (.ops [.L 12 2 3,.i 13 (.callS 42 [.t 12]),.s 2 3 13]) (.seq (.ops [.f 14 1 3,.l 15 14,.m 16 1,.i 17 (.indexAddr 1 (.t 16) (.n 0)),.l 18 17,.f 19 1 3,.l 20 19,.m 21 1,.i 22 (.indexAddr 1 (.t 21) (.n 0)),.l 23 22,.i 24 (.indexAddr 2 (.t 20) (.t 23)),.L 25 2 24,.m 26 1,.i 27 (.sliceL 1 (.t 26) (some (.n 1)) none),.L 28 2 5,.i 29 (.call 111 [.t 25,.t 27,.t 28]),.i 30 (.indexAddr 2 (.t 15) (.t 18)),.s 2 30 29]) (.seq (.ops [.L 31 2 3,.s 2 6 31]) .ret)))))
theorem JK:OkF Tryz.prog 111 32 [13] F2 [.cell 6 true 2]:=.of Tryz.func111 rfl rfl (by kernel_rfl) rfl
def H4:IR :=
 (.seq (.ops [.i 1 (.box 37 (.t 0)),.i 2 (.alloc 37 [.st (.str (ByteArray.mk (#[]))),.full []])]) (.seq (.ops [.f 6 0 1,.l 7 6,.i 8 (.build [.st (.str (ByteArray.mk (#[]))),.full []] [(0,1,.t 7)]),.i 3 (.alloc 37 [.st (.str (ByteArray.mk (#[]))),.full []]),.s 2 3 8]) (.seq (.seq (.ops [.f 9 1 1,.l 10 9,.i 11 (.len false (.t 10)),.i 12 (.mov (.n 0))]) (.block 0 (.loop (.seq (.ops [.i 13 (.bin .lss (.t 12) (.t 11))]) (.seq (.cond (.t 13) .skip (.exit 0)) (.seq (.block 1 (.seq (.ops [.i 14 (.indexAddr 2 (.t 10) (.t 12)),.L 15 2 14,.i 5 (.alloc 37 [.st (.str (ByteArray.mk (#[]))),.full []]),.s 2 5 15]) (.ops [.f 16 1 3,.l 17 16,.L 18 2 5,.i 19 (.call 42 [.t 18]),.i 20 (.buildSlice false 37 2 [.t 19]),.i 21 (.append true 37 2 40 (.t 17) (.t 20)),.f 22 1 3,.s 1 22 21]))) (.ops [.i 23 (.bin .add (.t 12) (.n 1)),.m 12 23]))))))) (.seq (.ops [.L 24 2 3,.s 2 2 24]) .ret))))
theorem NH:OkF Tryz.prog 42 25 [21] H4 [.cell 2 true 2]:=.of Tryz.func42 rfl rfl (by kernel_rfl) rfl



theorem AAP (t:Tm) (hz:t.size≤1000000):AU Tryz.prog 108 [aTm t] (Z4 t.places):=by
 induction h:SizeOf.sizeOf t using Nat.strongRecOn generalizing t with
 | _ N ih =>
 subst h
 have hs:=Tm.size_eq t
 have hkn:=Tm.length_le t.args
 refine RS.ac fun C hC=>?_
 unfold Kg
 repeat' with_reducible first | refine W ?_ | refine Z0 ?_ | ((first | refine Wo fun K hK=>?_ | refine Wp ?_ | refine Wq ?_ | refine Wr ?_);(try simp only [go_sem,fN,seval,eT,iR,dT,dF,nL]);(repeat refine Ai ?_);(try (refine hK _ ?_;clear hK K));try refine iC ?_)
 refine IWP.ghost (Ac.own 3 60 32 1 (xs:=([[]]:List (List Int)).map UJ) (by simp only [go_sem,fN,seval,eT,iR];rfl) rfl (by simp) (by omega)) ?_
 refine IWP.loopD [5] (fun m s=>∃ k,k≤t.args.length∧m=t.args.length - k∧s.env 11=Gh t.args∧s.env 12=AO t.args.length∧s.env 3=.one (.row 60 (t.placesTo k).length)∧s.S 60=some (.arow 32 1 ((t.placesTo k).map UJ))∧s.env 13=AO k∧s.S 29=none∧s.S 5=none)
  t.args.length ⟨0,Nat.zero_le _,rfl,rfl,rfl,rfl,rfl,rfl,rfl,rfl⟩ ?_
 rintro m ⟨env,S⟩ ⟨k,hk,rfl,e11,e12,e3,s60,e13,s29,s5⟩
 simp only at e11 e12 e3 s60 e13 s29 s5
 by_cases hlt:(k:Int) < t.args.length
 ·obtain ⟨a,ha⟩:=Ag (show k < t.args.length by omega)
  have hsz:=Tm.size_mem (AQ ha)
  have hpl:=Tm.places_length a
  have hto:=Tm.placesTo_length t k
  have hst:=Tm.sizes_take ha
  have hst2:=Tm.sizes_take_le t.args (k + 1)
  repeat' (first | (with_reducible first | refine W ?_ | refine Z0 ?_ | ((first | refine Wo fun K hK=>?_ | refine Wp ?_ | refine Wq ?_ | refine Wr ?_);(try simp only [go_sem,fN,seval,eT,iR,e11,e12,e3,s60,e13,s5,hlt,ha,dT,dF,nL]);(repeat refine Ai ?_);(try (refine hK _ ?_;clear hK K));try refine iC ?_)) | refine Cg _ (ih _ (Tm.lt_of_arg (AQ ha)) a (by omega) rfl) ?_)
  refine IWP.loopD [29] (fun m s=>∃ i,i≤a.places.length∧m=a.places.length - i∧s.env 11=Gh t.args∧s.env 12=AO t.args.length∧s.env 3=.one (.row 60 (t.placesTo k ++ (a.places.take i).map fun p=>(k:Int) :: p).length)∧s.S 60=some (.arow 32 1 ((t.placesTo k ++ (a.places.take i).map fun p=>(k:Int) :: p).map UJ))∧s.env 4=AO k∧s.env 13=AO k∧s.env 19=Z4 a.places∧s.env 20=AO a.places.length∧s.env 21=AO i∧s.S 29=none)
   a.places.length ⟨0,Nat.zero_le _,rfl,?_⟩ ?_
  ·simp only [go_sem,fN,seval,eT,iR,e11,e12,e3,s60,e13,s29]
  rintro m ⟨env,S⟩ ⟨i,hi,rfl,e11,e12,e3,s60,e4,e13,e19,e20,e21,s29⟩
  simp only at e11 e12 e3 s60 e4 e13 e19 e20 e21 s29
  have hlen:(t.placesTo k ++ (a.places.take i).map fun p=>(k:Int) :: p).length≤1000000:=by
   rw [List.length_append,List.length_map,List.length_take]
   omega
  by_cases hli:(i:Int) < a.places.length
  ·obtain ⟨p,hp⟩:=Ag (show i < a.places.length by omega)
   have hd:=Tm.places_deep a p (AQ hp)
   repeat' with_reducible first | refine W ?_ | refine Z0 ?_ | ((first | refine Wo fun K hK=>?_ | refine Wp ?_ | refine Wq ?_ | refine Wr ?_);(try simp only [go_sem,fN,seval,eT,iR,e11,e12,e3,s60,e4,e13,e19,e20,e21,s29,hli,hp,dT,dF,nL]);(repeat refine Ai ?_);(try (refine hK _ ?_;clear hK K));try refine iC ?_)
   refine AI ⟨a.places.length - (i + 1),by omega,i + 1,by omega,rfl,?_⟩
   simp only [go_sem,fN,seval,AS.drop,Ao,AC.clears,AC.clear,AC.highs,AC.high,Bool.not_false,Bool.true_and,Bool.and_self,AV.purge,AV.purges,AC.purge,AL.purge,List.contains_cons,List.contains_nil,Nat.reduceBEq,Bool.or_self,Bool.or_false,Bool.false_or,Bool.or_true,eT,iR,e11,e12,e3,s60,e4,e13,e19,e20,e21,s29]
   rw [Al hp]
   refine ⟨?_,?_,by congr 3⟩
   ·simp
    omega
   ·simp
  ·have e9:(t.placesTo k ++ (a.places.take i).map fun p=>(k:Int) :: p)=t.placesTo (k + 1):=by
    rw [List.take_of_length_le (by omega),Tm.placesTo_succ ha]
   rw [e9] at e3 s60
   repeat' with_reducible first | refine W ?_ | refine Z0 ?_ | ((first | refine Wo fun K hK=>?_ | refine Wp ?_ | refine Wq ?_ | refine Wr ?_);(try simp only [go_sem,fN,seval,eT,iR,e11,e12,e3,s60,e4,e13,e19,e20,e21,s29,hli,dT,dF,nL]);(repeat refine Ai ?_);(try (refine hK _ ?_;clear hK K));try refine iC ?_)
   refine AI ⟨t.args.length - (k + 1),by omega,k + 1,by omega,rfl,?_⟩
   simp only [go_sem,fN,seval,AS.drop,Ao,AC.clears,AC.clear,AC.highs,AC.high,Bool.not_false,Bool.true_and,Bool.and_self,AV.purge,AV.purges,AC.purge,AL.purge,List.contains_cons,List.contains_nil,Nat.reduceBEq,Bool.or_self,Bool.or_false,Bool.false_or,Bool.or_true,eT,iR,e11,e12,e3,s60,e4,e13,s29]
   congr 3
 ·repeat' with_reducible first | refine W ?_ | refine Z0 ?_ | ((first | refine Wo fun K hK=>?_ | refine Wp ?_ | refine Wq ?_ | refine Wr ?_);(try simp only [go_sem,fN,seval,eT,iR,e11,e12,e3,s60,e13,hlt,dT,dF,nL]);(repeat refine Ai ?_);(try (refine hK _ ?_;clear hK K));try refine iC ?_)
  simp only [go_sem,fN,seval,AN,AS.result,AB,AD,AK,e3,s60]
  rw [Tm.placesTo_all (by omega)]
theorem YT (t:Tm) (p:List Int) (hp:p.length≤1000000):AU Tryz.prog 109 [aTm t,Hx p] (.tup [aTm ((t.atP p).getD Tm.nil),Aa (t.atP p).isSome]):=by
 refine NG.ac fun C hC=>?_
 unfold Ho
 repeat' with_reducible first | refine W ?_ | refine Z0 ?_ | ((first | refine Wo fun K hK=>?_ | refine Wp ?_ | refine Wq ?_ | refine Wr ?_);(try simp only [go_sem,fN,seval,eT,iR,dT,dF,nL]);(repeat refine Ai ?_);(try (refine hK _ ?_;clear hK K));try refine iC ?_)
 refine IWP.loop (fun m s=>∃ k x,k≤p.length∧m=p.length - k∧t.atP p=x.atP (p.drop k)∧s.env 2=.one (.ptr 2 1 0 0)∧s.env 4=.one (.ptr 4 1 0 0)∧s.env 8=Hx p∧s.env 9=AO p.length∧s.env 10=AO k∧s.S 2=some (.box 37 [.st (.str x.name),.st (.list (x.args.map Ap))])∧s.S 4=some (.box 37 [.st (.str ⟨#[]⟩),.full []])) p.length ⟨0,t,Nat.zero_le _,rfl,rfl,rfl,rfl,rfl,rfl,rfl,rfl,rfl⟩ ?_
 rintro m ⟨env,S⟩ ⟨k,x,hk,rfl,hx,e2,e4,e8,e9,e10,s2,s4⟩
 simp only at e2 e4 e8 e9 e10 s2 s4
 rw [hx]
 by_cases hlt:(k:Int) < p.length
 ·obtain ⟨i,hi⟩:=Ag (show k < p.length by omega)
  have hd:=Bi hi
  rw [hd,Tm.atP_cons] at hx ⊢
  by_cases h0:i < 0
  ·rw [if_pos h0]
   repeat' with_reducible first | refine W ?_ | refine Z0 ?_ | ((first | refine Wo fun K hK=>?_ | refine Wp ?_ | refine Wq ?_ | refine Wr ?_);(try simp only [go_sem,fN,seval,eT,iR,e2,e4,e8,e9,e10,s2,s4,hlt,hi,h0,dT,dF,nL]);(repeat refine Ai ?_);(try (refine hK _ ?_;clear hK K));try refine iC ?_)
   simp only [go_sem,fN,seval,AN,AS.result,AB,AD,AK,e4,s4]
   try rfl
  ·rw [if_neg h0] at hx ⊢
   by_cases h1:i < x.args.length
   ·obtain ⟨a,ha⟩:=Ag (show i.toNat < x.args.length by omega)
    rw [ha] at hx ⊢
    obtain ⟨n,rfl⟩:∃ n:Nat,i=n:=⟨i.toNat,by omega⟩
    rw [Int.toNat_natCast] at ha
    have h2:¬ (x.args.length:Int)≤(n:Int):=by omega
    repeat' with_reducible first | refine W ?_ | refine Z0 ?_ | ((first | refine Wo fun K hK=>?_ | refine Wp ?_ | refine Wq ?_ | refine Wr ?_);(try simp only [go_sem,fN,seval,eT,iR,e2,e4,e8,e9,e10,s2,s4,hlt,hi,h0,h2,ha,dT,dF,nL]);(repeat refine Ai ?_);(try (refine hK _ ?_;clear hK K));try refine iC ?_)
    refine AI ⟨p.length - (k + 1),by omega,k + 1,a,by omega,rfl,rfl,?_⟩
    simp only [go_sem,fN,seval,eT,iR,e2,e4,e8,e9,s4]
    congr 3
   ·rw [List.getElem?_eq_none (by omega)]
    have h2:(x.args.length:Int)≤i:=by omega
    repeat' with_reducible first | refine W ?_ | refine Z0 ?_ | ((first | refine Wo fun K hK=>?_ | refine Wp ?_ | refine Wq ?_ | refine Wr ?_);(try simp only [go_sem,fN,seval,eT,iR,e2,e4,e8,e9,e10,s2,s4,hlt,hi,h0,h2,dT,dF,nL]);(repeat refine Ai ?_);(try (refine hK _ ?_;clear hK K));try refine iC ?_)
    simp only [go_sem,fN,seval,AN,AS.result,AB,AD,AK,e4,s4]
    try rfl
 ·have hd:p.drop k=[]:=List.drop_of_length_le (by omega)
  rw [hd,Tm.atP_nil]
  repeat' with_reducible first | refine W ?_ | refine Z0 ?_ | ((first | refine Wo fun K hK=>?_ | refine Wp ?_ | refine Wq ?_ | refine Wr ?_);(try simp only [go_sem,fN,seval,eT,iR,e2,e4,e8,e9,e10,s2,s4,hlt,dT,dF,nL]);(repeat refine Ai ?_);(try (refine hK _ ?_;clear hK K));try refine iC ?_)
  simp only [go_sem,fN,seval,AN,AS.result,AB,AD,AK,e4,s4]
  try rfl
section
variable {C:Ctx} {s:AS}
theorem Ac.ownCW (id j nid:Nat) (e:TypeId) (wd:Nat) {ty:TypeId} {cs:List AC} (hb:s.S id=some (.box ty cs)) (hc:cs[j]?=some (.full [])) (hn:s.S nid=none) :
  Ac C s ((s.set nid (.mrow e wd [])).set id (.box ty (cs.set j (.row nid 0)))):=fun a w ⟨σ,ι,R⟩=>by
 have hbk:=R.blk id _ hb
 have hne:id ≠ nid:=fun e=>by subst e;rw [hb] at hn;cases hn
 cases hbk with
 | @box _ _ g vs h1 h2 h3 h4 h5 =>
  obtain ⟨v,hv,hr⟩:=h4.get hc
  cases hr with
  | @full p len _ hs =>
   have hl:len=0:=by
    obtain ⟨p',cap',e1,_⟩:=CM hs
    cases e1
    rfl
   subst hl
   obtain ⟨hu,R'⟩:=R.fresh (w':=w) hn (.mrow e wd []) ⟨p,0,none⟩ (Ext.refl _ _) R.fit (Below.refl _ _) (by simp) (fun S' ι' hu=>.mnil rfl rfl)
   have hb':(s.set nid (.mrow e wd [])).S id=some (.box ty cs):=by simp [AS.set,AH _ hne,hb]
   have hι:AG ι nid ⟨p,0,none⟩ id=ι id:=AH _ hne _
   obtain ⟨hu2,R2⟩:=R'.turn (w':=w) hb' (.box ty (cs.set j (.row nid 0))) (AG ι nid ⟨p,0,none⟩ id) (σ':=σ) (fun _ _ h=>h) (fun _ _ _=>rfl) R.fit (Nat.le_refl _) (fun _=>⟨by simp [AL.wid],rfl⟩) ⟨rfl,rfl,rfl⟩ (Nat.le_refl _) (fun _ _ _=>rfl) (fun g h=>.inl h) (fun hu2=>by
    refine .box (by rw [hι];exact h1) (by rw [hι];exact h2) h3 (Ad.of_get (by rw [List.length_set];exact h4.len) fun k u c hu' hck=>?_) h5
    by_cases hk:k=j
    ·subst hk
     rw [hv] at hu'
     cases hu'
     have hlt:k < cs.length:=(List.getElem?_eq_some_iff.1 hc).1
     rw [List.getElem?_set_self hlt] at hck
     cases hck
     exact .row (b:=.mrow e wd []) (by simp [AS.set,AG,hne.symm]) (Nat.le_refl _) rfl fun _=>by simp [AG,hne.symm]
    ·rw [List.getElem?_set_ne (fun e=>hk e.symm)] at hck
     obtain ⟨u',q1,q2⟩:=h4.get hck
     rw [hu'] at q1
     cases q1
     exact (q2.mono (fun _ _ h=>h) hu).mono (fun _ _ h=>h) hu2)
   exact ⟨_,_,R2⟩
end
theorem ZL (t:Tm) (hz:t.size≤1000000) (a0:Nat) (S:AA) (ha:1000≤a0) (hSa:S a0=none):As Tryz.prog 42 [aTm t] S (.agg [.st (.str t.name),.row a0 t.args.length]) (AG S a0 (some (.mrow 37 2 (t.args.map Ap)))):=by
 have hs:=Tm.size_eq t
 have hkn:=Tm.length_le t.args
 refine NH.acS fun hS C hC=>?_
 unfold H4
 have k1:S 1=none:=AP hS (by omega)
 have k2:S 2=none:=AP hS (by omega)
 have k3:S 3=none:=AP hS (by omega)
 have k5:S 5=none:=AP hS (by omega)
 have k21:S 21=none:=AP hS (by omega)
 repeat' with_reducible first | refine W ?_ | refine Z0 ?_ | ((first | refine Wo fun K hK=>?_ | refine Wq ?_ | refine Wr ?_);(try simp only [go_sem,fN,seval,eT,iR,AS.startS,k1,k2,k3]);(repeat refine Ai ?_);(try (refine hK _ ?_;clear hK K)))
 refine IWP.ghost (Ac.ownCW 3 1 21 37 2 (by rfl) (by rfl) (by simp only [go_sem,fN,seval,eT,iR,k21])) ?_
 refine IWP.loopD [5] (fun m s=>∃ k,k≤t.args.length∧m=t.args.length - k∧s.env 2=.one (.ptr 2 1 0 0)∧s.env 3=.one (.ptr 3 1 0 0)∧s.S 2=some (.box 37 [.st (.str ⟨#[]⟩),.full []])∧s.S 3=some (.box 37 [.st (.str t.name),.row 21 k])∧s.S 21=some (.mrow 37 2 ((t.args.take k).map Ap))∧s.env 10=.one (.st (.list (t.args.map Ap)))∧s.env 11=AO t.args.length∧s.env 12=AO k∧s.S 5=none∧∀ i,1000≤i→s.S i=S i)
  t.args.length ⟨0,Nat.zero_le _,rfl,rfl,rfl,by simp only [go_sem,fN,seval,eT,iR],by (simp only [go_sem,fN,seval,eT,iR];rfl),by simp only [go_sem,fN,seval,eT,iR],rfl,rfl,rfl,by simp only [go_sem,fN,seval,eT,iR,k5],fun i hi=>?_⟩ ?_
 ·have i1:¬ i=1:=by omega
  have i2:¬ i=2:=by omega
  have i3:¬ i=3:=by omega
  have i21:¬ i=21:=by omega
  simp only [go_sem,fN,seval,eT,iR,i1,i2,i3,i21]
 rintro m ⟨env,S1⟩ ⟨k,hk,rfl,e2,e3,s2,s3,s21,e10,e11,e12,s5,hrest⟩
 simp only at e2 e3 s2 s3 s21 e10 e11 e12 s5 hrest
 have hlk:(t.args.take k).length=k:=by rw [List.length_take];omega
 by_cases hlt:(k:Int) < t.args.length
 ·obtain ⟨a,ha'⟩:=Ag (show k < t.args.length by omega)
  repeat' (first | (with_reducible first | refine W ?_ | refine Z0 ?_ | ((first | refine Wo fun K hK=>?_ | refine Wp ?_ | refine Wq ?_ | refine Wr ?_);(try simp only [go_sem,fN,seval,eT,iR,e2,e3,s2,s3,s21,e10,e11,e12,s5,hlt,ha',hlk,dT,dF,nL]);(repeat refine Ai ?_);(try (refine hK _ ?_;clear hK K));try refine iC ?_)) | refine Cg _ (Gs a (by have:=Tm.size_mem (AQ ha');omega)) ?_)
  refine AI ⟨t.args.length - (k + 1),by omega,k + 1,by omega,rfl,?_⟩
  simp only [go_sem,fN,seval,AS.drop,Ao,AC.clears,AC.clear,AC.highs,AC.high,Bool.not_false,Bool.true_and,Bool.and_self,AV.purge,AV.purges,AC.purge,AL.purge,List.contains_cons,List.contains_nil,Nat.reduceBEq,Bool.or_self,Bool.or_false,Bool.false_or,Bool.or_true,eT,iR,e2,e3,s2,s3,s21,e10,e11,e12,s5]
  refine ⟨by rw [Al ha'];simp [Af],by congr 3,fun i hi=>?_⟩
  have i3:¬ i=3:=by omega
  have i5:¬ i=5:=by omega
  have i5b:(i == 5)=false:=by simp;omega
  have i21:¬ i=21:=by omega
  simp only [go_sem,fN,seval,AS.drop,Ao,AC.clears,AC.clear,AC.highs,AC.high,Bool.not_false,Bool.true_and,Bool.and_self,AV.purge,AV.purges,AC.purge,AL.purge,List.contains_cons,List.contains_nil,Nat.reduceBEq,Bool.or_self,Bool.or_false,Bool.false_or,Bool.or_true,eT,iR,i3,i5,i5b,i21]
  rw [hrest i hi]
  cases hb:S i with
  | none=>rfl
  | some b=>simp [AL.purge_high (ds:=[5]) (by decide) (hS i b hb).2]
 ·obtain rfl:k=t.args.length:=by omega
  rw [List.take_of_length_le (by omega)] at s21
  repeat' with_reducible first | refine W ?_ | refine Z0 ?_ | ((first | refine Wo fun K hK=>?_ | refine Wp ?_ | refine Wq ?_ | refine Wr ?_);(try simp only [go_sem,fN,seval,eT,iR,e2,e3,s2,s3,s21,e10,e11,e12,s5,hlt,dT,dF,nL]);(repeat refine Ai ?_);(try (refine hK _ ?_;clear hK K));try refine iC ?_)
  rw [show (.agg [.st (.str t.name),.row a0 t.args.length]:AV)=AV.ren (BZ 21 a0) (.agg [.st (.str t.name),.row 21 t.args.length]) by simp [AV.ren,AC.ren,AC.rens,BZ]]
  have n2:¬ a0=2:=by omega
  have n2':∀ i,1000≤i→¬ i=2:=fun i hi=>by omega
  refine N3 trivial 21 a0 _ (b0:=.mrow 37 2 (t.args.map Ap)) (by omega) ha ?_ ?_ rfl ?_ ?_ ?_ ?_ (B0 hS ha rfl)
  ·simp [AG,n2,hrest a0 ha,hSa]
  ·simp [AG,s21]
  ·intro i b hi hb
   have hb:AG S1 2 _ i=some b:=hb
   rw [AH _ (n2' i hi),hrest i hi] at hb
   exact (hS i b hb).2
  ·simp [AB,AD,AK,AG,e2,C2,PO]
  ·simp [AV.ren,AC.ren,AC.rens,AV.high,AC.high,AC.highs,BZ,ha]
  ·rw [I7 _ (by omega)]
   congr 1
   funext i
   show (if i < 1000 then none else S1 i)=S i
   by_cases hi:i < 1000
   ·rw [if_pos hi,AP hS hi]
   ·rw [if_neg hi,hrest i (by omega)]
theorem UQ (x:Tm) (hx:x.size≤1000000):∀ (p:List Int) (t:Tm),p.length≤1000000→t.atP p ≠ none→t.size≤1000000→AU Tryz.prog 111 [aTm t,Hx p,aTm x] (aTm (t.putP p x))
 | [],t,_,_,_=>by
  rw [Tm.putP_nil]
  refine JK.ac fun C hC=>?_
  unfold F2
  repeat' (first | (with_reducible first | refine W ?_ | refine Z0 ?_ | ((first | refine Wo fun K hK=>?_ | refine Wp ?_ | refine Wq ?_ | refine Wr ?_);(try simp only [go_sem,fN,seval,eT,iR,dT,dF,nL]);(repeat refine Ai ?_);(try (refine hK _ ?_;clear hK K));try refine iC ?_)) | refine Cg _ (Gs x hx) ?_)
  simp only [go_sem,fN,seval,AN,AS.result,AB,AD,AK]
 | i :: p,t,hpl,hp,hz=>by
  rw [Tm.atP_cons] at hp
  have h0:¬ i < 0:=fun h=>hp (by rw [if_pos h])
  rw [if_neg h0] at hp
  obtain ⟨a,ha⟩:∃ a,t.args[i.toNat]?=some a:=by
   cases h:t.args[i.toNat]? with
   | none=>rw [h] at hp;exact absurd rfl hp
   | some a=>exact ⟨a,rfl⟩
  rw [ha] at hp
  obtain ⟨n,rfl⟩:∃ n:Nat,i=n:=⟨i.toNat,by omega⟩
  rw [Int.toNat_natCast] at ha
  rw [Tm.putP_at ha]
  have hlt:n < t.args.length:=(List.getElem?_eq_some_iff.1 ha).1
  have hlt':(n:Int) < t.args.length:=by omega
  have hsz:=Tm.size_mem (List.mem_of_getElem? ha)
  have hszq:=Tm.size_eq t
  have ih:=UQ x hx p a (by simp at hpl;omega) hp (by omega)
  have hl0:¬ (((p.length + 1:Nat):Int)=0):=by omega
  have hseq:=Tm.size_eq t
  refine JK.ac fun C hC=>?_
  unfold F2
  repeat' with_reducible first | refine W ?_ | refine Z0 ?_ | ((first | refine Wo fun K hK=>?_ | refine Wp ?_ | refine Wq ?_ | refine Wr ?_);(try simp only [go_sem,fN,seval,eT,iR,hl0,dT,dF,nL]);(repeat refine Ai ?_);(try (refine hK _ ?_;clear hK K));try refine iC ?_)
  refine ⟨_,_,ZL t hz (up1 13) _ (At 13) (by rw [A0];rfl),?_⟩
  have htk:List.take p.length (List.map Pm p)=List.map Pm p:=List.take_of_length_le (by simp)
  have hl1:(t.args.set n (a.putP p x)).length=t.args.length:=by simp
  refine Wr ?_
  simp only [go_sem,fN,seval,eT,iR]
  refine hK _ ?_
  clear hK K
  refine Wb ?_
  refine IWP.mid (fun y=>y.env 3=.one (.ptr 3 1 0 0)∧y.env 6=.one (.ptr 6 1 0 0)∧y.S 3=some (.box 37 [.st (.str t.name),.row 13 t.args.length])∧y.S 6=some (.box 37 [.st (.str ⟨#[]⟩),.full []])∧y.S 13=some (.mrow 37 2 ((t.args.set n (a.putP p x)).map Ap))) ?_ ?_
  ·repeat' (first | (with_reducible first | refine W ?_ | refine Z0 ?_ | ((first | refine Wo fun K hK=>?_ | refine Wp ?_ | refine Wq ?_ | refine Wr ?_);(try simp only [go_sem,fN,seval,eT,iR,ha,hlt',htk,dT,dF,nL]);(repeat refine Ai ?_);(try (refine hK _ ?_;clear hK K));try refine iC ?_)) | refine Cg _ (ih) ?_)
   refine ⟨rfl,?_⟩
   simp only [go_sem,fN,seval,eT,iR,ha,hlt']
   rw [List.map_set,Af]
  rintro ⟨env,S⟩ ⟨e3,e6,s3,s6,s13⟩
  simp only at e3 e6 s3 s6 s13
  refine IWP.ghost (Ac.share (id:=13) s13) ?_
  repeat' with_reducible first | refine W ?_ | refine Z0 ?_ | ((first | refine Wo fun K hK=>?_ | refine Wp ?_ | refine Wq ?_ | refine Wr ?_);(try simp only [go_sem,fN,seval,eT,iR,e3,e6,s3,s6,hl1,dT,dF,nL]);(repeat refine Ai ?_);(try (refine hK _ ?_;clear hK K));try refine iC ?_)
  simp only [go_sem,fN,seval,AN,AS.result,AB,AD,AK,e6,s6,hl1]
  try rfl

def Bk:IR :=
 (.seq (.ops [.i 4 (.mov (.c (.one (.st (.bool false)))))]) (.seq (.ops [.m 5 0,.m 6 1,.i 7 (.callS 125 [.t 5,.t 6]),.i 8 (.bin .geq (.t 7) (.n 0)),.m 4 8]) .ret))
theorem Cu:OkF Tryz.prog 105 9 [7] Bk [.t 4]:=.of Tryz.func105 rfl rfl (by kernel_rfl) rfl
def Bv:IR :=
 (.seq (.ops [.i 4 (.mov (.n 0))]) (.seq (.seq (.ops [.m 6 0,.i 7 (.len false (.t 6)),.i 8 (.mov (.n 0))]) (.block 0 (.loop (.seq (.ops [.i 9 (.bin .lss (.t 8) (.t 7))]) (.seq (.cond (.t 9) .skip (.exit 0)) (.seq (.block 1 (.seq (.ops [.m 10 8,.m 5 10]) (.seq (.ops [.m 11 1,.m 12 0,.m 13 5,.i 14 (.indexAddr 1 (.t 12) (.t 13)),.l 15 14,.i 16 (.callV (.t 11) [.t 15])]) (.cond (.t 16) (.seq (.ops [.m 17 5,.m 4 17]) .ret) .skip)))) (.ops [.i 18 (.bin .add (.t 8) (.n 1)),.m 8 18]))))))) (.seq (.ops [.i 4 (.mov (.c (.one (.st (.int .i64 (-1))))))]) .ret)))
theorem DF:OkF Tryz.prog 125 19 [] Bv [.t 4]:=.of Tryz.func125 rfl rfl (by kernel_rfl) rfl
def EZ:IR :=
 (.seq (.ops [.i 3 (.mov (.c (.one (.st (.bool false)))))]) (.seq (.ops [.l 4 1,.m 5 0,.i 6 (.call 68 [.t 4,.t 5]),.i 7 (.un .not (.t 6)),.m 3 7]) .ret))
theorem IH:OkF Tryz.prog 106 8 [] EZ [.t 3]:=.of Tryz.func106 rfl rfl (by kernel_rfl) rfl
def FM:IR :=
 (.seq (.ops [.i 2 (.mov (.n 0))]) (.seq (.seq (.ops [.m 7 0,.i 8 (.len false (.t 7)),.i 9 (.bin .gtr (.t 8) (.n 40))]) (.cond (.t 9) (.seq (.ops [.i 2 (.mov (.n 3))]) .ret) .skip)) (.seq (.seq (.ops [.m 10 0,.i 11 (.len false (.t 10)),.i 12 (.mov (.n 0))]) (.block 0 (.loop (.seq (.ops [.i 13 (.bin .lss (.t 12) (.t 11))]) (.seq (.cond (.t 13) .skip (.exit 0)) (.seq (.block 1 (.seq (.ops [.i 14 (.indexAddr 4 (.t 10) (.t 12)),.L 15 4 14,.i 4 (.alloc 40 [.st (.str (ByteArray.mk (#[]))),.full [],.st (.str (ByteArray.mk (#[]))),.full []]),.s 4 4 15]) (.seq (.seq (.ops [.f 16 0 4,.L 17 2 16,.f 18 2 4,.L 19 2 18,.i 20 (.call 103 [.t 17,.t 19]),.m 5 20]) (.seq (.ops [.m 21 5,.i 22 (.bin .neq (.t 21) (.n 0))]) (.cond (.t 22) (.seq (.ops [.m 23 5,.m 2 23]) .ret) .skip))) (.seq (.seq (.ops [.f 24 0 4,.f 25 0 24,.l 26 25,.i 27 (.call 67 [.t 26])]) (.cond (.t 27) (.seq (.ops [.i 2 (.mov (.n 2))]) .ret) .skip)) (.seq (.ops [.f 28 0 4,.L 29 2 28,.i 30 (.call 104 [.t 29]),.i 6 (.alloc 26 [.full []]),.s 1 6 30]) (.seq (.ops [.f 31 2 4,.L 32 2 31,.i 33 (.call 104 [.t 32]),.i 34 (.makeFunc 106 [.t 6]),.i 35 (.callS 105 [.t 33,.t 34])]) (.cond (.t 35) (.seq (.ops [.i 2 (.mov (.n 15))]) .ret) .skip))))))) (.ops [.i 36 (.bin .add (.t 12) (.n 1)),.m 12 36]))))))) (.seq (.ops [.i 2 (.mov (.n 0))]) .ret))))
theorem KL:OkF Tryz.prog 73 37 [35] FM [.t 2]:=.of Tryz.func73 rfl rfl (by kernel_rfl) rfl
def GN:IR :=
 (.seq (.ops [.i 3 (.box 37 (.t 1)),.i 4 (.mov (.n 0))]) (.seq (.seq (.ops [.m 6 0,.i 7 (.call 73 [.t 6]),.m 5 7]) (.seq (.ops [.m 8 5,.i 9 (.bin .neq (.t 8) (.n 0))]) (.cond (.t 9) (.seq (.ops [.m 10 5,.m 4 10]) .ret) .skip))) (.seq (.ops [.L 11 2 3,.i 12 (.call 46 [.t 11]),.m 4 12]) .ret)))
theorem Ky:OkF Tryz.prog 39 13 [] GN [.t 4]:=.of Tryz.func39 rfl rfl (by kernel_rfl) rfl
def GT:IR :=
 (.seq (.ops [.i 4 (.box 37 (.t 1)),.i 6 (.alloc 37 [.st (.str (ByteArray.mk (#[]))),.full []]),.i 7 (.mov (.n 0)),.i 8 (.mov (.n 0))]) (.seq (.seq (.ops [.m 14 2,.m 9 14]) (.block 0 (.loop (.seq (.seq (.ops [.m 15 9,.m 16 0,.i 17 (.len false (.t 16)),.i 18 (.bin .lss (.t 15) (.t 17))]) (.cond (.t 18) .skip (.exit 0))) (.seq (.block 1 (.seq (.ops [.m 22 0,.m 23 9,.i 24 (.indexAddr 4 (.t 22) (.t 23)),.f 25 0 24,.L 26 2 25,.L 27 2 4,.i 28 (.call 112 [.t 26,.t 27]),.m 21 28,.i 29 (.extract 0 (.t 21)),.i 30 (.extract 1 (.t 21)),.m 10 29,.m 11 30]) (.seq (.ops [.m 31 11]) (.cond (.t 31) (.seq (.ops [.m 33 10,.m 34 0,.m 35 9,.i 36 (.indexAddr 4 (.t 34) (.t 35)),.f 37 2 36,.L 38 2 37,.i 39 (.call 110 [.t 33,.t 38]),.m 32 39,.i 40 (.extract 0 (.t 32)),.i 41 (.extract 1 (.t 32)),.i 12 (.alloc 37 [.st (.str (ByteArray.mk (#[]))),.full []]),.s 2 12 40,.m 13 41]) (.seq (.seq (.ops [.m 42 13,.i 43 (.un .not (.t 42))]) (.cond (.t 43) (.seq (.ops [.i 44 (.build [.st (.str (ByteArray.mk (#[]))),.full []] []),.m 45 9,.s 2 6 44,.m 7 45,.i 8 (.mov (.n 8))]) .ret) .skip)) (.seq (.ops [.L 46 2 12,.m 47 9,.s 2 6 46,.m 7 47,.i 8 (.mov (.n 0))]) .ret))) .skip)))) (.ops [.m 19 9,.i 20 (.bin .add (.t 19) (.n 1)),.m 9 20])))))) (.seq (.ops [.i 48 (.build [.st (.str (ByteArray.mk (#[]))),.full []] []),.s 2 6 48,.i 7 (.mov (.c (.one (.st (.int .i64 (-1)))))),.i 8 (.mov (.n 0))]) .ret)))
theorem K0:OkF Tryz.prog 78 49 [] GT [.cell 6 true 2,.t 7,.t 8]:=.of Tryz.func78 rfl rfl (by kernel_rfl) rfl
def D5:IR :=
 (.seq (.ops [.i 3 (.box 37 (.t 1)),.i 4 (.alloc 37 [.st (.str (ByteArray.mk (#[]))),.full []]),.i 5 (.mov (.c (.one (.st (.bool false))))),.i 6 (.mov (.n 0))]) (.seq (.seq (.ops [.f 15 1 3,.l 16 15,.i 17 (.len false (.t 16)),.i 18 (.mov (.n 0))]) (.block 0 (.loop (.seq (.ops [.i 19 (.bin .lss (.t 18) (.t 17))]) (.seq (.cond (.t 19) .skip (.exit 0)) (.seq (.block 1 (.seq (.ops [.m 20 18,.m 7 20]) (.seq (.ops [.m 22 0,.f 23 1 3,.l 24 23,.m 25 7,.i 26 (.indexAddr 2 (.t 24) (.t 25)),.L 27 2 26,.i 28 (.call 77 [.t 22,.t 27]),.m 21 28,.i 29 (.extract 0 (.t 21)),.i 30 (.extract 1 (.t 21)),.i 31 (.extract 2 (.t 21)),.i 8 (.alloc 37 [.st (.str (ByteArray.mk (#[]))),.full []]),.s 2 8 29,.m 9 30,.m 10 31]) (.seq (.ops [.m 32 10,.i 33 (.bin .neq (.t 32) (.n 0)),.m 34 33,.mk (some 35) (some (34,false)) (.mov (.t 9)) .no,.i 36 (.pick (.t 34) (.c (.one (.st (.bool true)))) (.t 35))]) (.cond (.t 36) (.seq (.ops [.f 37 0 3,.l 38 37,.f 39 1 3,.l 40 39,.i 41 (.callN 79 [.t 40]),.i 42 (.build [.st (.str (ByteArray.mk (#[]))),.full []] [(0,1,.t 38),(1,1,.t 41)]),.i 11 (.alloc 37 [.st (.str (ByteArray.mk (#[]))),.full []]),.s 2 11 42]) (.seq (.ops [.f 43 1 11,.l 44 43,.m 45 7,.L 46 2 8,.i 47 (.indexAddr 2 (.t 44) (.t 45)),.s 2 47 46]) (.seq (.ops [.L 48 2 11,.m 49 9,.m 50 10,.s 2 4 48,.m 5 49,.m 6 50]) .ret))) .skip))))) (.ops [.i 51 (.bin .add (.t 18) (.n 1)),.m 18 51]))))))) (.seq (.ops [.m 53 0,.L 54 2 3,.i 55 (.call 78 [.t 53,.t 54,.n 0]),.m 52 55,.i 56 (.extract 0 (.t 52)),.i 57 (.extract 1 (.t 52)),.i 58 (.extract 2 (.t 52)),.i 12 (.alloc 37 [.st (.str (ByteArray.mk (#[]))),.full []]),.s 2 12 56,.m 13 57,.m 14 58]) (.seq (.ops [.L 59 2 12,.m 60 13,.i 61 (.bin .geq (.t 60) (.n 0)),.m 62 14,.s 2 4 59,.m 5 61,.m 6 62]) .ret))))
theorem Gv:OkF Tryz.prog 77 63 [20000041] D5 [.cell 4 true 2,.t 5,.t 6]:=.of Tryz.func77 rfl rfl (by kernel_rfl) rfl
def Cj:IR :=
 (.seq (.ops [.i 3 (.box 37 (.t 1)),.i 4 (.alloc 37 [.st (.str (ByteArray.mk (#[]))),.full []]),.i 5 (.mov (.c (.one (.st (.bool false))))),.i 6 (.mov (.n 0))]) (.seq (.ops [.m 16 0,.L 17 2 3,.i 18 (.call 78 [.t 16,.t 17,.n 0]),.m 15 18,.i 19 (.extract 0 (.t 15)),.i 20 (.extract 1 (.t 15)),.i 21 (.extract 2 (.t 15)),.i 7 (.alloc 37 [.st (.str (ByteArray.mk (#[]))),.full []]),.s 2 7 19,.m 8 20,.m 9 21]) (.seq (.seq (.ops [.m 22 8,.i 23 (.bin .geq (.t 22) (.n 0)),.m 24 23,.mk (some 25) (some (24,false)) (.mov (.t 9)) .no,.mk (some 26) (some (24,false)) (.bin .neq (.t 25) (.n 0)) .no,.i 27 (.pick (.t 24) (.c (.one (.st (.bool true)))) (.t 26))]) (.cond (.t 27) (.seq (.ops [.L 28 2 7,.m 29 8,.i 30 (.bin .geq (.t 29) (.n 0)),.m 31 9,.s 2 4 28,.m 5 30,.m 6 31]) .ret) .skip)) (.seq (.seq (.ops [.f 32 1 3,.l 33 32,.i 34 (.len false (.t 33)),.i 35 (.mov (.n 0))]) (.block 0 (.loop (.seq (.ops [.i 36 (.bin .lss (.t 35) (.t 34))]) (.seq (.cond (.t 36) .skip (.exit 0)) (.seq (.block 1 (.seq (.ops [.m 37 35,.m 10 37]) (.seq (.ops [.m 39 0,.f 40 1 3,.l 41 40,.m 42 10,.i 43 (.indexAddr 2 (.t 41) (.t 42)),.L 44 2 43,.i 45 (.call 43 [.t 39,.t 44]),.m 38 45,.i 46 (.extract 0 (.t 38)),.i 47 (.extract 1 (.t 38)),.i 48 (.extract 2 (.t 38)),.i 11 (.alloc 37 [.st (.str (ByteArray.mk (#[]))),.full []]),.s 2 11 46,.m 12 47,.m 13 48]) (.seq (.ops [.m 49 13,.i 50 (.bin .neq (.t 49) (.n 0)),.m 51 50,.mk (some 52) (some (51,false)) (.mov (.t 12)) .no,.i 53 (.pick (.t 51) (.c (.one (.st (.bool true)))) (.t 52))]) (.cond (.t 53) (.seq (.ops [.f 54 0 3,.l 55 54,.f 56 1 3,.l 57 56,.i 58 (.callN 79 [.t 57]),.i 59 (.build [.st (.str (ByteArray.mk (#[]))),.full []] [(0,1,.t 55),(1,1,.t 58)]),.i 14 (.alloc 37 [.st (.str (ByteArray.mk (#[]))),.full []]),.s 2 14 59]) (.seq (.ops [.f 60 1 14,.l 61 60,.m 62 10,.L 63 2 11,.i 64 (.indexAddr 2 (.t 61) (.t 62)),.s 2 64 63]) (.seq (.ops [.L 65 2 14,.m 66 12,.m 67 13,.s 2 4 65,.m 5 66,.m 6 67]) .ret))) .skip))))) (.ops [.i 68 (.bin .add (.t 35) (.n 1)),.m 35 68]))))))) (.seq (.ops [.L 69 2 3,.s 2 4 69,.i 5 (.mov (.c (.one (.st (.bool false))))),.i 6 (.mov (.n 0))]) .ret)))))
theorem D4:OkF Tryz.prog 43 70 [20000058] Cj [.cell 4 true 2,.t 5,.t 6]:=.of Tryz.func43 rfl rfl (by kernel_rfl) rfl
def FQ:IR :=
 (.seq (.ops [.i 4 (.box 37 (.t 1)),.i 6 (.alloc 37 [.st (.str (ByteArray.mk (#[]))),.full []]),.i 7 (.mov (.n 0)),.i 8 (.mov (.n 0))]) (.seq (.ops [.m 12 0,.L 13 2 4,.i 14 (.call 39 [.t 12,.t 13]),.m 9 14]) (.seq (.seq (.ops [.m 15 9,.i 16 (.bin .eql (.t 15) (.n 0))]) (.cond (.t 16) (.ops [.m 17 2,.i 18 (.call 40 [.t 17]),.m 9 18]) .skip)) (.seq (.seq (.ops [.m 19 9,.i 20 (.bin .neq (.t 19) (.n 0))]) (.cond (.t 20) (.seq (.ops [.i 21 (.build [.st (.str (ByteArray.mk (#[]))),.full []] []),.m 22 9,.s 2 6 21,.i 7 (.mov (.n 0)),.m 8 22]) .ret) .skip)) (.seq (.ops [.m 24 0,.L 25 2 4,.m 26 2,.i 27 (.call 41 [.t 24,.t 25,.t 26]),.m 23 27,.i 28 (.extract 0 (.t 23)),.i 29 (.extract 1 (.t 23)),.i 30 (.extract 2 (.t 23)),.i 10 (.alloc 37 [.st (.str (ByteArray.mk (#[]))),.full []]),.s 2 10 28,.m 11 29,.m 9 30]) (.seq (.seq (.ops [.m 31 9,.i 32 (.bin .neq (.t 31) (.n 0))]) (.cond (.t 32) (.seq (.ops [.i 33 (.build [.st (.str (ByteArray.mk (#[]))),.full []] []),.m 34 9,.s 2 6 33,.i 7 (.mov (.n 0)),.m 8 34]) .ret) .skip)) (.seq (.ops [.L 35 2 10,.m 36 11,.s 2 6 35,.m 7 36,.i 8 (.mov (.n 0))]) .ret)))))))
theorem KF:OkF Tryz.prog 17 37 [] FQ [.cell 6 true 2,.t 7,.t 8]:=.of Tryz.func17 rfl rfl (by kernel_rfl) rfl
def GV:IR :=
 (.seq (.ops [.i 4 (.box 37 (.t 1)),.i 6 (.alloc 37 [.st (.str (ByteArray.mk (#[]))),.full []]),.i 7 (.mov (.n 0)),.i 8 (.mov (.n 0))]) (.seq (.ops [.L 13 2 4,.i 14 (.call 42 [.t 13]),.s 2 4 14]) (.seq (.ops [.i 9 (.mov (.n 0))]) (.block 0 (.loop (.seq (.block 1 (.seq (.ops [.m 18 0,.L 19 2 4,.i 20 (.call 77 [.t 18,.t 19]),.m 17 20,.i 21 (.extract 0 (.t 17)),.i 22 (.extract 1 (.t 17)),.i 23 (.extract 2 (.t 17)),.i 10 (.alloc 37 [.st (.str (ByteArray.mk (#[]))),.full []]),.s 2 10 21,.m 11 22,.m 12 23]) (.seq (.seq (.ops [.m 24 11,.m 25 24,.mk (some 26) (some (25,true)) (.mov (.t 9)) .no,.mk (some 27) (some (25,true)) (.mov (.t 2)) .no,.mk (some 28) (some (25,true)) (.bin .eql (.t 26) (.t 27)) .no,.i 29 (.pick (.t 25) (.t 28) (.c (.one (.st (.bool false)))))]) (.cond (.t 29) (.ops [.i 12 (.mov (.n 9))]) .skip)) (.seq (.seq (.ops [.m 30 12,.i 31 (.bin .neq (.t 30) (.n 0))]) (.cond (.t 31) (.seq (.ops [.i 32 (.build [.st (.str (ByteArray.mk (#[]))),.full []] []),.m 33 12,.s 2 6 32,.i 7 (.mov (.n 0)),.m 8 33]) .ret) .skip)) (.seq (.seq (.ops [.m 34 11,.i 35 (.un .not (.t 34))]) (.cond (.t 35) (.seq (.ops [.L 36 2 4,.m 37 9,.s 2 6 36,.m 7 37,.i 8 (.mov (.n 0))]) .ret) .skip)) (.seq (.ops [.L 38 2 10,.s 2 4 38]) (.seq (.ops [.L 39 2 4,.i 40 (.call 44 [.t 39]),.i 41 (.bin .gtr (.t 40) (.n 2000))]) (.cond (.t 41) (.seq (.ops [.i 42 (.build [.st (.str (ByteArray.mk (#[]))),.full []] []),.s 2 6 42,.i 7 (.mov (.n 0)),.i 8 (.mov (.n 8))]) .ret) .skip)))))))) (.ops [.m 15 9,.i 16 (.bin .add (.t 15) (.n 1)),.m 9 16])))))))
theorem K3:OkF Tryz.prog 41 43 [] GV [.cell 6 true 2,.t 7,.t 8]:=.of Tryz.func41 rfl rfl (by kernel_rfl) rfl
def Fj:IR :=
 (.seq (.ops [.i 4 (.box 37 (.t 1)),.i 6 (.alloc 37 [.st (.str (ByteArray.mk (#[]))),.full []]),.i 7 (.mov (.n 0)),.i 8 (.mov (.n 0))]) (.seq (.ops [.m 14 0,.L 15 2 4,.i 16 (.call 39 [.t 14,.t 15]),.m 9 16]) (.seq (.seq (.ops [.m 17 9,.i 18 (.bin .eql (.t 17) (.n 0))]) (.cond (.t 18) (.ops [.m 19 2,.i 20 (.call 40 [.t 19]),.m 9 20]) .skip)) (.seq (.seq (.ops [.m 21 9,.i 22 (.bin .neq (.t 21) (.n 0))]) (.cond (.t 22) (.seq (.ops [.i 23 (.build [.st (.str (ByteArray.mk (#[]))),.full []] []),.m 24 9,.s 2 6 23,.i 7 (.mov (.n 0)),.m 8 24]) .ret) .skip)) (.seq (.ops [.L 25 2 4,.i 26 (.call 42 [.t 25]),.s 2 4 26]) (.seq (.ops [.i 10 (.mov (.n 0))]) (.block 0 (.loop (.seq (.block 1 (.seq (.ops [.m 30 0,.L 31 2 4,.i 32 (.call 43 [.t 30,.t 31]),.m 29 32,.i 33 (.extract 0 (.t 29)),.i 34 (.extract 1 (.t 29)),.i 35 (.extract 2 (.t 29)),.i 11 (.alloc 37 [.st (.str (ByteArray.mk (#[]))),.full []]),.s 2 11 33,.m 12 34,.m 13 35]) (.seq (.seq (.ops [.m 36 12,.m 37 36,.mk (some 38) (some (37,true)) (.mov (.t 10)) .no,.mk (some 39) (some (37,true)) (.mov (.t 2)) .no,.mk (some 40) (some (37,true)) (.bin .eql (.t 38) (.t 39)) .no,.i 41 (.pick (.t 37) (.t 40) (.c (.one (.st (.bool false)))))]) (.cond (.t 41) (.ops [.i 13 (.mov (.n 9))]) .skip)) (.seq (.seq (.ops [.m 42 13,.i 43 (.bin .neq (.t 42) (.n 0))]) (.cond (.t 43) (.seq (.ops [.i 44 (.build [.st (.str (ByteArray.mk (#[]))),.full []] []),.m 45 13,.s 2 6 44,.i 7 (.mov (.n 0)),.m 8 45]) .ret) .skip)) (.seq (.seq (.ops [.m 46 12,.i 47 (.un .not (.t 46))]) (.cond (.t 47) (.seq (.ops [.L 48 2 4,.m 49 10,.s 2 6 48,.m 7 49,.i 8 (.mov (.n 0))]) .ret) .skip)) (.seq (.ops [.L 50 2 11,.i 51 (.call 42 [.t 50]),.s 2 4 51]) (.seq (.ops [.L 52 2 4,.i 53 (.call 44 [.t 52]),.i 54 (.bin .gtr (.t 53) (.n 2000))]) (.cond (.t 54) (.seq (.ops [.i 55 (.build [.st (.str (ByteArray.mk (#[]))),.full []] []),.s 2 6 55,.i 7 (.mov (.n 0)),.i 8 (.mov (.n 8))]) .ret) .skip)))))))) (.ops [.m 27 10,.i 28 (.bin .add (.t 27) (.n 1)),.m 10 28]))))))))))
theorem Jz:OkF Tryz.prog 18 56 [] Fj [.cell 6 true 2,.t 7,.t 8]:=.of Tryz.func18 rfl rfl (by kernel_rfl) rfl
def GR:IR :=
 (.seq (.ops [.i 5 (.box 37 (.t 1)),.i 6 (.box 37 (.t 2)),.i 8 (.mov (.c (.one (.st (.bool false))))),.i 9 (.mov (.n 0))]) (.seq (.ops [.m 11 0,.L 12 2 5,.i 13 (.call 39 [.t 11,.t 12]),.m 10 13]) (.seq (.seq (.ops [.m 14 10,.i 15 (.bin .eql (.t 14) (.n 0))]) (.cond (.t 15) (.ops [.L 16 2 6,.i 17 (.call 46 [.t 16]),.m 10 17]) .skip)) (.seq (.seq (.ops [.m 18 10,.i 19 (.bin .eql (.t 18) (.n 0))]) (.cond (.t 19) (.ops [.m 20 3,.i 21 (.call 40 [.t 20]),.m 10 21]) .skip)) (.seq (.seq (.ops [.m 22 10,.i 23 (.bin .neq (.t 22) (.n 0))]) (.cond (.t 23) (.seq (.ops [.m 24 10,.i 8 (.mov (.c (.one (.st (.bool false))))),.m 9 24]) .ret) .skip)) (.seq (.ops [.m 25 0,.L 26 2 5,.L 27 2 6,.m 28 3,.i 29 (.call 36 [.t 25,.t 26,.t 27,.t 28]),.i 30 (.extract 0 (.t 29)),.i 31 (.extract 1 (.t 29)),.m 8 30,.m 9 31]) .ret))))))
theorem K4:OkF Tryz.prog 22 32 [] GR [.t 8,.t 9]:=.of Tryz.func22 rfl rfl (by kernel_rfl) rfl
def Gt:IR :=
 (.seq (.ops [.i 5 (.box 37 (.t 1)),.i 6 (.box 37 (.t 2)),.i 8 (.mov (.c (.one (.st (.bool false))))),.i 9 (.mov (.n 0))]) (.seq (.ops [.m 16 0,.L 17 2 5,.m 18 3,.i 19 (.call 41 [.t 16,.t 17,.t 18]),.m 15 19,.i 20 (.extract 0 (.t 15)),.i 21 (.extract 1 (.t 15)),.i 22 (.extract 2 (.t 15)),.i 10 (.alloc 37 [.st (.str (ByteArray.mk (#[]))),.full []]),.s 2 10 20,.m 11 21,.m 12 22]) (.seq (.seq (.ops [.m 23 12,.i 24 (.bin .neq (.t 23) (.n 0))]) (.cond (.t 24) (.seq (.ops [.m 25 12,.i 8 (.mov (.c (.one (.st (.bool false))))),.m 9 25]) .ret) .skip)) (.seq (.ops [.m 27 0,.L 28 2 6,.m 29 3,.i 30 (.call 41 [.t 27,.t 28,.t 29]),.m 26 30,.i 31 (.extract 0 (.t 26)),.i 32 (.extract 1 (.t 26)),.i 33 (.extract 2 (.t 26)),.i 13 (.alloc 37 [.st (.str (ByteArray.mk (#[]))),.full []]),.s 2 13 31,.m 14 32,.m 12 33]) (.seq (.seq (.ops [.m 34 12,.i 35 (.bin .neq (.t 34) (.n 0))]) (.cond (.t 35) (.seq (.ops [.m 36 12,.i 8 (.mov (.c (.one (.st (.bool false))))),.m 9 36]) .ret) .skip)) (.seq (.ops [.L 37 2 10,.L 38 2 13,.i 39 (.call 69 [.t 37,.t 38]),.m 8 39,.i 9 (.mov (.n 0))]) .ret))))))
theorem Ll:OkF Tryz.prog 36 40 [] Gt [.t 8,.t 9]:=.of Tryz.func36 rfl rfl (by kernel_rfl) rfl
def GZ:IR :=
 (.seq (.ops [.i 2 (.mov (.n 0))]) (.seq (.seq (.ops [.m 3 0,.i 4 (.bin .lss (.t 3) (.n 0)),.m 5 4,.mk (some 6) (some (5,false)) (.mov (.t 0)) .no,.mk (some 7) (some (5,false)) (.bin .gtr (.t 6) (.n 400)) .no,.i 8 (.pick (.t 5) (.c (.one (.st (.bool true)))) (.t 7))]) (.cond (.t 8) (.seq (.ops [.i 2 (.mov (.n 10))]) .ret) .skip)) (.seq (.ops [.i 2 (.mov (.n 0))]) .ret)))
theorem K6:OkF Tryz.prog 40 9 [] GZ [.t 2]:=.of Tryz.func40 rfl rfl (by kernel_rfl) rfl

abbrev AAC (vs:List ByteArray):AL:=.box 26 [.st (.list (vs.map EC))]
theorem Wy (vs:List ByteArray) (x:ByteArray) (b:Nat) (hb:1000≤b) (S:AA) (sb:S b=some (AAC vs)):As Tryz.prog 106 [Bt x,.one (.ptr b 1 0 0)] S (Aa (!Cq x vs)) S:=by
 refine IH.acS fun hS C hC=>?_
 unfold EZ
 repeat' (first | (with_reducible first | refine W ?_ | refine Z0 ?_ | ((first | refine Wo fun K hK=>?_ | refine Wp ?_ | refine Wq ?_ | refine Wr ?_);(try simp only [go_sem,fN,seval,eT,iR,sb,dT,dF,nL]);(repeat refine Ai ?_);(try (refine hK _ ?_;clear hK K));try refine iC ?_)) | refine Cg _ (GE vs x) ?_)
 refine Av (Aa (!Cq x vs)) hS trivial ?_ rfl fun _ _=>rfl
 simp [AB,AD,AK,AG]
theorem XT {p:ByteArray→Bool} (xs:List ByteArray):0≤(match xs.findIdx? p with | some i=>(i:Int) | none=>-1) ↔ xs.any p=true:=by
 cases h:xs.findIdx? p with
 | some i =>
  rw [List.findIdx?_eq_some_iff_getElem] at h
  obtain ⟨h1,h2,_⟩:=h
  simp only [List.any_eq_true]
  exact ⟨fun _=>⟨_,List.getElem_mem h1,h2⟩,fun _=>by omega⟩
 | none =>
  rw [List.findIdx?_eq_none_iff] at h
  constructor
  ·intro h'
   exact absurd h' (by decide)
  ·intro h'
   rw [List.any_eq_true] at h'
   obtain ⟨x,hx,hp⟩:=h'
   rw [h x hx] at hp
   cases hp
theorem Qp {p:ByteArray→Bool} {xs:List ByteArray} {k:Nat} {x:ByteArray} (hx:xs[k]?=some x) (h:(xs.take k).any p=false) (hp:p x=true):xs.findIdx? p=some k:=by
 obtain ⟨hk,he⟩:=List.getElem?_eq_some_iff.1 hx
 rw [List.findIdx?_eq_some_iff_getElem]
 refine ⟨hk,by rw [he];exact hp,fun j hj=>?_⟩
 rw [List.any_eq_false] at h
 have:=h (xs[j]'(by omega)) (by
  rw [List.mem_take_iff_getElem]
  exact ⟨j,by omega,rfl⟩)
 simpa using this
theorem VE {p:ByteArray→Bool} {xs:List ByteArray} {k:Nat} {x:ByteArray} (hx:xs[k]?=some x) (h:(xs.take k).any p=false):(xs.take (k + 1)).any p=p x:=by
 rw [Al hx,List.any_append,h]
 simp
theorem PF (vs xs:List ByteArray) (hl:xs.length≤9223372036854775807) (b:Nat) (hb:1000≤b) (S:AA) (sb:S b=some (AAC vs)) :
  As Tryz.prog 125 [CR xs,.one (.fn 106 [.ptr b 1 0 0])] S (AO (match xs.findIdx? (fun x=>!Cq x vs) with | some i=>(i:Int) | none=>-1)) S:=by
 refine DF.acS fun hS C hC=>?_
 unfold Bv
 repeat' with_reducible first | refine W ?_ | refine Z0 ?_ | ((first | refine Wo fun K hK=>?_ | refine Wp ?_ | refine Wq ?_ | refine Wr ?_);(try simp only [go_sem,fN,seval,eT,iR,dT,dF,nL]);(repeat refine Ai ?_);(try (refine hK _ ?_;clear hK K));try refine iC ?_)
 refine IWP.loop (fun n s=>∃ k,k≤xs.length∧n=xs.length - k∧(xs.take k).any (fun x=>!Cq x vs)=false∧s.env 0=CR xs∧s.env 1=.one (.fn 106 [.ptr b 1 0 0])∧s.env 7=AO xs.length∧s.env 8=AO k∧s.S=S) xs.length ⟨0,Nat.zero_le _,rfl,rfl,rfl,rfl,rfl,rfl,rfl⟩ ?_
 rintro n ⟨env,S'⟩ ⟨k,hk,rfl,hp,e0,e1,e7,e8,eS⟩
 simp only at e0 e1 e7 e8 eS
 subst eS
 by_cases hlt:(k:Int) < xs.length
 ·obtain ⟨x,hx⟩:=Ag (show k < xs.length by omega)
  have hst:=VE (p:=fun x=>!Cq x vs) hx hp
  have hc:=Wy vs x (up1 b) (At b) (upS S') (by rw [A0,sb];rfl)
  repeat' with_reducible first | refine W ?_ | refine Z0 ?_ | ((first | refine Wo fun K hK=>?_ | refine Wp ?_ | refine Wq ?_ | refine Wr ?_);(try simp only [go_sem,fN,seval,eT,iR,e0,e1,e7,e8,hlt,hx,dT,dF,nL]);(repeat refine Ai ?_);(try (refine hK _ ?_;clear hK K));try refine iC ?_)
  first | refine ⟨by kernel_rfl,_,_,hc,?_⟩ | refine ⟨_,_,hc,?_⟩
  by_cases hr:(!Cq x vs)=true
  ·have hi:=Qp (p:=fun x=>!Cq x vs) hx hp hr
   repeat' with_reducible first | refine W ?_ | refine Z0 ?_ | ((first | refine Wo fun K hK=>?_ | refine Wp ?_ | refine Wq ?_ | refine Wr ?_);(try simp only [go_sem,fN,seval,eT,iR,e0,e1,e7,e8,hr,dT,dF,nL]);(repeat refine Ai ?_);(try (refine hK _ ?_;clear hK K));try refine iC ?_)
   refine Av (AO k) hS trivial ?_ ?_ fun j hj=>?_
   ·simp [AB,AD,AK,AG]
   ·rw [hi]
    rfl
   ·rfl
  ·have hr':(!Cq x vs)=false:=by simpa using hr
   repeat' with_reducible first | refine W ?_ | refine Z0 ?_ | ((first | refine Wo fun K hK=>?_ | refine Wp ?_ | refine Wq ?_ | refine Wr ?_);(try simp only [go_sem,fN,seval,eT,iR,e0,e1,e7,e8,hr',dT,dF,nL]);(repeat refine Ai ?_);(try (refine hK _ ?_;clear hK K));try refine iC ?_)
   refine AI ⟨xs.length - (k + 1),by omega,k + 1,by omega,rfl,?_⟩
   simp only [go_sem,fN,seval,eT,iR,e0,e1,e7,e8]
   exact ⟨by rw [hst];exact hr',by congr 3⟩
 ·rw [List.take_of_length_le (by omega)] at hp
  have hi:xs.findIdx? (fun x=>!Cq x vs)=none:=by
   rw [List.findIdx?_eq_none_iff]
   intro x hx
   rw [List.any_eq_false] at hp
   simpa using hp x hx
  repeat' with_reducible first | refine W ?_ | refine Z0 ?_ | ((first | refine Wo fun K hK=>?_ | refine Wp ?_ | refine Wq ?_ | refine Wr ?_);(try simp only [go_sem,fN,seval,eT,iR,e0,e1,e7,e8,hlt,dT,dF,nL]);(repeat refine Ai ?_);(try (refine hK _ ?_;clear hK K));try refine iC ?_)
  refine Av (AO (-1)) hS trivial ?_ ?_ fun j hj=>?_
  ·simp [AB,AD,AK,AG]
  ·rw [hi]
   rfl
  ·rfl
theorem K9 (vs xs:List ByteArray) (hl:xs.length≤9223372036854775807) (b:Nat) (hb:1000≤b) (S:AA) (sb:S b=some (AAC vs)) :
  As Tryz.prog 105 [CR xs,.one (.fn 106 [.ptr b 1 0 0])] S (Aa (xs.any fun x=>!Cq x vs)) S:=by
 have hi:=XT (p:=fun x=>!Cq x vs) xs
 generalize (xs.any fun x=>!Cq x vs)=bb at hi ⊢
 refine Cu.acS fun hS C hC=>?_
 unfold Bk
 repeat' with_reducible first | refine W ?_ | refine Z0 ?_ | ((first | refine Wo fun K hK=>?_ | refine Wp ?_ | refine Wq ?_ | refine Wr ?_);(try simp only [go_sem,fN,seval,eT,iR,dT,dF,nL]);(repeat refine Ai ?_);(try (refine hK _ ?_;clear hK K));try refine iC ?_)
 refine ⟨_,_,PF vs xs hl (up1 b) (At b) (upS S) (by rw [A0,sb];rfl),?_⟩
 generalize (match xs.findIdx? (fun x=>!Cq x vs) with | some i=>(i:Int) | none=>-1)=q at hi
 repeat' with_reducible first | refine W ?_ | refine Z0 ?_ | ((first | refine Wo fun K hK=>?_ | refine Wp ?_ | refine Wq ?_ | refine Wr ?_);(try simp only [go_sem,fN,seval,eT,iR,hi,dT,dF,nL]);(repeat refine Ai ?_);(try (refine hK _ ?_;clear hK K));try refine iC ?_)
 refine Av (Aa bb) hS trivial ?_ ?_ fun j hj=>?_
 ·simp [AB,AD,AK,AG]
 ·rfl
 ·rfl
theorem Ie (t:Tm) (h:t.size≤200):t.varsOf.length≤1000:=by
 have h1:=DI t.knots []
 rw [Tm.knots_length] at h1
 unfold Tm.varsOf
 simp only [List.length_nil] at h1
 omega
theorem IX (R:List Pr):AU Tryz.prog 73 [CH R] (AO (BF R)):=by
 have hm:BF R=if 40 < R.length then 3 else E_ HR R:=rfl
 refine KL.ac fun C hC=>?_
 unfold FM
 by_cases h40:(40:Int) < R.length
 ·repeat' with_reducible first | refine W ?_ | refine Z0 ?_ | ((first | refine Wo fun K hK=>?_ | refine Wp ?_ | refine Wq ?_ | refine Wr ?_);(try simp only [go_sem,fN,seval,eT,iR,h40,dT,dF,nL]);(repeat refine Ai ?_);(try (refine hK _ ?_;clear hK K));try refine iC ?_)
  simp only [go_sem,fN,seval,AN,AS.result,AB,AD,AK]
  rw [hm,if_pos (by omega)]
 rw [if_neg (by omega)] at hm
 repeat' with_reducible first | refine W ?_ | refine Z0 ?_ | ((first | refine Wo fun K hK=>?_ | refine Wp ?_ | refine Wq ?_ | refine Wr ?_);(try simp only [go_sem,fN,seval,eT,iR,h40,dT,dF,nL]);(repeat refine Ai ?_);(try (refine hK _ ?_;clear hK K));try refine iC ?_)
 refine IWP.loopD [4,6] (fun m s=>∃ k,k≤R.length∧m=R.length - k∧E_ HR (R.take k)=0∧s.env 10=CH R∧s.env 11=AO R.length∧s.env 12=AO k∧s.S 4=none∧s.S 6=none) R.length ⟨0,Nat.zero_le _,rfl,rfl,rfl,rfl,rfl,rfl,rfl⟩ ?_
 rintro m ⟨env,S⟩ ⟨k,hk,rfl,h0,e10,e11,e12,s4,s6⟩
 simp only at e10 e11 e12 s4 s6
 by_cases hlt:(k:Int) < R.length
 ·obtain ⟨r,hr⟩:=Ag (show k < R.length by omega)
  obtain ⟨g1,g2⟩:=X5 hr h0
  have re:HR r=if CY r.1 r.2=0 then (if AJ r.1.name=true then 2 else if MF r=true then 15 else 0) else CY r.1 r.2:=rfl
  by_cases hz:CY r.1 r.2=0
  case neg =>
   repeat' (first | (with_reducible first | refine W ?_ | refine Z0 ?_ | ((first | refine Wo fun K hK=>?_ | refine Wp ?_ | refine Wq ?_ | refine Wr ?_);(try simp only [go_sem,fN,seval,eT,iR,e10,e11,e12,s4,s6,hlt,hr,Bf,hz,dT,dF,nL]);(repeat refine Ai ?_);(try (refine hK _ ?_;clear hK K));try refine iC ?_)) | refine Cg _ (PG r.1 r.2) ?_)
   simp only [go_sem,fN,seval,AN,AS.result,AB,AD,AK]
   rw [if_neg hz] at re
   rw [hm,g2 (by rw [re];exact hz),re]
  case pos =>
  rw [if_pos hz] at re
  by_cases hv:AJ r.1.name=true
  ·repeat' (first | (with_reducible first | refine W ?_ | refine Z0 ?_ | ((first | refine Wo fun K hK=>?_ | refine Wp ?_ | refine Wq ?_ | refine Wr ?_);(try simp only [go_sem,fN,seval,eT,iR,e10,e11,e12,s4,s6,hlt,hr,Bf,hz,hv,dT,dF,nL]);(repeat refine Ai ?_);(try (refine hK _ ?_;clear hK K));try refine iC ?_)) | refine Cg _ (PG r.1 r.2) ?_ | refine Cg _ (Am r.1.name) ?_)
   simp only [go_sem,fN,seval,AN,AS.result,AB,AD,AK]
   rw [if_pos hv] at re
   rw [hm,g2 (by rw [re];decide),re]
  rw [if_neg hv] at re
  have m12:r.1.may=0∧r.2.may=0:=by
   unfold CY at hz
   by_cases h4:r.1.may=0
   ·rw [if_pos h4] at hz;exact ⟨h4,hz⟩
   ·rw [if_neg h4] at hz;exact absurd hz h4
  have z1:=(Tm.may_chk m12.1).2
  have z2:=(Tm.may_chk m12.2).2
  have l2:=Ie r.2 z2
  repeat' (first | (with_reducible first | refine W ?_ | refine Z0 ?_ | ((first | refine Wo fun K hK=>?_ | refine Wp ?_ | refine Wq ?_ | refine Wr ?_);(try simp only [go_sem,fN,seval,eT,iR,e10,e11,e12,s4,s6,hlt,hr,Bf,hz,hv,dT,dF,nL]);(repeat refine Ai ?_);(try (refine hK _ ?_;clear hK K));try refine iC ?_)) | refine Cg _ (PG r.1 r.2) ?_ | refine Cg _ (Am r.1.name) ?_ | refine Cg _ (SW r.1 (by omega)) ?_ | refine Cg _ (SW r.2 (by omega)) ?_)
  refine ⟨_,_,K9 r.1.varsOf r.2.varsOf (by omega) (up1 6) (At 6) _ (by rw [A0];simp [AG];rfl),?_⟩
  have ho:MF r=r.2.varsOf.any fun v=>!Cq v r.1.varsOf:=rfl
  rw [← ho]
  by_cases hop:MF r=true
  ·repeat' with_reducible first | refine W ?_ | refine Z0 ?_ | ((first | refine Wo fun K hK=>?_ | refine Wp ?_ | refine Wq ?_ | refine Wr ?_);(try simp only [go_sem,fN,seval,eT,iR,hop,dT,dF,nL]);(repeat refine Ai ?_);(try (refine hK _ ?_;clear hK K));try refine iC ?_)
   simp only [go_sem,fN,seval,AN,AS.result,AB,AD,AK]
   rw [if_pos hop] at re
   rw [hm,g2 (by rw [re];decide),re]
  ·rw [if_neg hop] at re
   simp only [Bool.not_eq_true] at hop
   repeat' with_reducible first | refine W ?_ | refine Z0 ?_ | ((first | refine Wo fun K hK=>?_ | refine Wp ?_ | refine Wq ?_ | refine Wr ?_);(try simp only [go_sem,fN,seval,eT,iR,hop,e10,e11,e12,dT,dF,nL]);(repeat refine Ai ?_);(try (refine hK _ ?_;clear hK K));try refine iC ?_)
   refine AI ⟨R.length - (k + 1),by omega,k + 1,by omega,rfl,g1 re,?_⟩
   simp only [go_sem,fN,seval,AS.drop,Ao,AC.clears,AC.clear,AC.highs,AC.high,Bool.not_false,Bool.true_and,Bool.and_self,AV.purge,AV.purges,AC.purge,AL.purge,List.contains_cons,List.contains_nil,Nat.reduceBEq,Bool.or_self,Bool.or_false,Bool.false_or,Bool.or_true,eT,iR,e10,e11,e12,s4,s6]
   congr 3
 ·repeat' with_reducible first | refine W ?_ | refine Z0 ?_ | ((first | refine Wo fun K hK=>?_ | refine Wp ?_ | refine Wq ?_ | refine Wr ?_);(try simp only [go_sem,fN,seval,eT,iR,e10,e11,e12,hlt,dT,dF,nL]);(repeat refine Ai ?_);(try (refine hK _ ?_;clear hK K));try refine iC ?_)
  simp only [go_sem,fN,seval,AN,AS.result,AB,AD,AK]
  rw [List.take_of_length_le (by omega)] at h0
  rw [hm,h0]
theorem Bq (R:List Pr) (t:Tm):AU Tryz.prog 39 [CH R,aTm t] (AO (DJ R t)):=by
 have hm:DJ R t=if BF R=0 then t.may else BF R:=rfl
 refine Ky.ac fun C hC=>?_
 unfold GN
 by_cases h:BF R=0
 ·rw [if_pos h] at hm
  repeat' (first | (with_reducible first | refine W ?_ | refine Z0 ?_ | ((first | refine Wo fun K hK=>?_ | refine Wp ?_ | refine Wq ?_ | refine Wr ?_);(try simp only [go_sem,fN,seval,eT,iR,h,dT,dF,nL]);(repeat refine Ai ?_);(try (refine hK _ ?_;clear hK K));try refine iC ?_)) | refine Cg _ (IX R) ?_ | refine Cg _ (EV t) ?_)
  simp only [go_sem,fN,seval,AN,AS.result,AB,AD,AK]
  rw [hm]
 ·rw [if_neg h] at hm
  repeat' (first | (with_reducible first | refine W ?_ | refine Z0 ?_ | ((first | refine Wo fun K hK=>?_ | refine Wp ?_ | refine Wq ?_ | refine Wr ?_);(try simp only [go_sem,fN,seval,eT,iR,h,dT,dF,nL]);(repeat refine Ai ?_);(try (refine hK _ ?_;clear hK K));try refine iC ?_)) | refine Cg _ (IX R) ?_ | refine Cg _ (EV t) ?_)
  simp only [go_sem,fN,seval,AN,AS.result,AB,AD,AK]
  rw [hm]
def BN (m:Int):Int:=if m < 0 ∨ 400 < m then 10 else 0
theorem II (m:Int):AU Tryz.prog 40 [AO m] (AO (BN m)):=by
 have hm:BN m=if m < 0 ∨ 400 < m then 10 else 0:=rfl
 refine K6.ac fun C hC=>?_
 unfold GZ
 by_cases h1:m < 0
 ·repeat' with_reducible first | refine W ?_ | refine Z0 ?_ | ((first | refine Wo fun K hK=>?_ | refine Wp ?_ | refine Wq ?_ | refine Wr ?_);(try simp only [go_sem,fN,seval,eT,iR,h1,dT,dF,nL]);(repeat refine Ai ?_);(try (refine hK _ ?_;clear hK K));try refine iC ?_)
  simp only [go_sem,fN,seval,AN,AS.result,AB,AD,AK]
  rw [hm,if_pos (.inl h1)]
 ·by_cases h2:400 < m
  ·repeat' with_reducible first | refine W ?_ | refine Z0 ?_ | ((first | refine Wo fun K hK=>?_ | refine Wp ?_ | refine Wq ?_ | refine Wr ?_);(try simp only [go_sem,fN,seval,eT,iR,h1,h2,dT,dF,nL]);(repeat refine Ai ?_);(try (refine hK _ ?_;clear hK K));try refine iC ?_)
   simp only [go_sem,fN,seval,AN,AS.result,AB,AD,AK]
   rw [hm,if_pos (.inr h2)]
  ·repeat' with_reducible first | refine W ?_ | refine Z0 ?_ | ((first | refine Wo fun K hK=>?_ | refine Wp ?_ | refine Wq ?_ | refine Wr ?_);(try simp only [go_sem,fN,seval,eT,iR,h1,h2,dT,dF,nL]);(repeat refine Ai ?_);(try (refine hK _ ?_;clear hK K));try refine iC ?_)
   simp only [go_sem,fN,seval,AN,AS.result,AB,AD,AK]
   rw [hm,if_neg (by omega)]

def A6:IR :=
 (.seq (.ops [.i 2 (.mov (.c (.one (.full []))))]) (.seq (.seq (.ops [.m 3 0,.i 4 (.eqN false (.t 3))]) (.cond (.t 4) (.seq (.ops [.i 2 (.mov (.c (.one (.full []))))]) .ret) .skip)) (.seq (.ops [.i 5 (.buildSlice false 37 2 []),.m 6 0,.i 7 (.append true 37 2 40 (.t 5) (.t 6)),.m 2 7]) .ret)))
theorem Bj:OkF Tryz.prog 79 8 [7] A6 [.t 2]:=.of Tryz.func79 rfl rfl (by kernel_rfl) rfl

def H1:IR :=
 (.seq (.ops [.i 3 (.box 37 (.t 0)),.i 4 (.box 37 (.t 1)),.i 6 (.mov (.c (.one (.st (.bool false)))))]) (.seq (.seq (.ops [.f 10 0 3,.l 11 10,.i 12 (.call 67 [.t 11])]) (.cond (.t 12) (.seq (.seq (.ops [.m 14 2,.f 15 0 3,.l 16 15,.i 17 (.lookup none true (.agg [.st (.str (ByteArray.mk (#[]))),.full []]) (.t 14) (.t 16)),.m 13 17,.i 18 (.extract 0 (.t 13)),.i 19 (.extract 1 (.t 13)),.i 7 (.alloc 37 [.st (.str (ByteArray.mk (#[]))),.full []]),.s 2 7 18,.m 8 19]) (.seq (.ops [.m 20 8]) (.cond (.t 20) (.seq (.ops [.L 21 2 7,.L 22 2 4,.i 23 (.call 69 [.t 21,.t 22]),.m 6 23]) .ret) .skip))) (.seq (.ops [.m 24 2,.f 25 0 3,.l 26 25,.L 27 2 4,.mk none none (.mapSet none (.t 24) (.t 26) (.t 27)) .no]) (.seq (.ops [.i 6 (.mov (.c (.one (.st (.bool true)))))]) .ret))) .skip)) (.seq (.seq (.ops [.f 28 0 3,.l 29 28,.f 30 0 4,.l 31 30,.i 32 (.bin .neq (.t 29) (.t 31)),.m 33 32,.mk (some 34) (some (33,false)) (.fieldAddr 1 (.t 3)) .no,.mk (some 35) (some (33,false)) (.load false 1 (.t 34)) .no,.mk (some 36) (some (33,false)) (.len false (.t 35)) .no,.mk (some 37) (some (33,false)) (.fieldAddr 1 (.t 4)) .no,.mk (some 38) (some (33,false)) (.load false 1 (.t 37)) .no,.mk (some 39) (some (33,false)) (.len false (.t 38)) .no,.mk (some 40) (some (33,false)) (.bin .neq (.t 36) (.t 39)) .no,.i 41 (.pick (.t 33) (.c (.one (.st (.bool true)))) (.t 40))]) (.cond (.t 41) (.seq (.ops [.i 6 (.mov (.c (.one (.st (.bool false)))))]) .ret) .skip)) (.seq (.seq (.ops [.f 42 1 3,.l 43 42,.i 44 (.len false (.t 43)),.i 45 (.mov (.n 0))]) (.block 0 (.loop (.seq (.ops [.i 46 (.bin .lss (.t 45) (.t 44))]) (.seq (.cond (.t 46) .skip (.exit 0)) (.seq (.block 1 (.seq (.ops [.m 47 45,.m 9 47]) (.seq (.ops [.f 48 1 3,.l 49 48,.m 50 9,.i 51 (.indexAddr 2 (.t 49) (.t 50)),.L 52 2 51,.f 53 1 4,.l 54 53,.m 55 9,.i 56 (.indexAddr 2 (.t 54) (.t 55)),.L 57 2 56,.m 58 2,.i 59 (.callS 127 [.t 52,.t 57,.t 58]),.i 60 (.un .not (.t 59))]) (.cond (.t 60) (.seq (.ops [.i 6 (.mov (.c (.one (.st (.bool false)))))]) .ret) .skip)))) (.ops [.i 61 (.bin .add (.t 45) (.n 1)),.m 45 61]))))))) (.seq (.ops [.i 6 (.mov (.c (.one (.st (.bool true)))))]) .ret)))))
theorem Mv:OkF Tryz.prog 127 62 [59] H1 [.t 6]:=.of Tryz.func127 rfl rfl (by kernel_rfl) rfl
def H2:IR :=
 (.seq (.ops [.i 2 (.box 37 (.t 0)),.i 3 (.box 37 (.t 1)),.i 4 (.mov (.c (.one (.full [])))),.i 5 (.mov (.c (.one (.st (.bool false)))))]) (.seq (.ops [.i 10 (.makeMap none),.m 6 10]) (.seq (.seq (.ops [.L 11 2 2,.L 12 2 3,.m 13 6,.i 14 (.callS 127 [.t 11,.t 12,.t 13]),.i 15 (.un .not (.t 14))]) (.cond (.t 15) (.seq (.ops [.i 4 (.mov (.c (.one (.full [])))),.i 5 (.mov (.c (.one (.st (.bool false)))))]) .ret) .skip)) (.seq (.ops [.i 7 (.mov (.c (.one (.full []))))]) (.seq (.seq (.ops [.m 16 6,.i 17 (.rangeM (.t 16))]) (.block 0 (.loop (.seq (.ops [.i 18 (.next (.t 17)),.i 19 (.extract 0 (.t 18))]) (.seq (.cond (.t 19) .skip (.exit 0)) (.block 1 (.seq (.ops [.i 20 (.entry (.t 17)),.i 21 (.extract 0 (.t 20)),.i 22 (.extract 1 (.t 20)),.i 9 (.alloc 37 [.st (.str (ByteArray.mk (#[]))),.full []]),.m 8 21,.s 2 9 22]) (.ops [.m 23 7,.m 24 8,.L 25 2 9,.i 26 (.call 42 [.t 25]),.i 27 (.build [.st (.str (ByteArray.mk (#[]))),.st (.str (ByteArray.mk (#[]))),.full []] [(0,1,.t 24),(1,2,.t 26)]),.i 28 (.buildSlice false 82 3 [.t 27]),.i 29 (.append true 82 3 56 (.t 23) (.t 28)),.m 7 29])))))))) (.seq (.ops [.m 30 7,.i 31 (.callS 117 [.t 30]),.m 4 31,.i 5 (.mov (.c (.one (.st (.bool true)))))]) .ret))))))
theorem NJ:OkF Tryz.prog 112 32 [14,29,31] H2 [.t 4,.t 5]:=.of Tryz.func112 rfl rfl (by kernel_rfl) rfl

def met {α:Type} (l:List α) (seen:List Nat):List α:=seen.filterMap fun j=>l[j]?
theorem XB {α:Type} {l:List α} {seen:List Nat} {j:Nat} {b:α} (h:l[j]?=some b):met l (seen ++ [j])=met l seen ++ [b]:=by
 unfold met
 rw [List.filterMap_append,List.filterMap_cons_some h]
 rfl
theorem Tl {α:Type} {l:List α}:∀ {seen:List Nat},(∀ j ∈ seen,j < l.length)→(met l seen).length=seen.length
 | [],_=>rfl
 | j :: seen,h=>by
  have hj:=h j (by simp)
  unfold met
  rw [List.filterMap_cons_some (List.getElem?_eq_getElem hj),List.length_cons,List.length_cons]
  exact congrArg (· + 1) (Tl fun i hi=>h i (by simp [hi]))
theorem Qk {n:Nat} {seen:List Nat} (hn:seen.Nodup) (h:∀ j ∈ seen,j < n):seen.length≤n:=by
 have h1:seen.Perm ((List.range n).filter fun j=>decide (j ∈ seen)):=(List.perm_ext_iff_of_nodup hn (List.nodup_range.filter _)).2 fun j=>by
  rw [List.mem_filter,List.mem_range,decide_eq_true_eq]
  exact ⟨fun hj=>⟨h j hj,hj⟩,fun hj=>hj.2⟩
 rw [h1.length_eq]
 exact Nat.le_trans (List.length_filter_le _ _) (Nat.le_of_eq List.length_range)
theorem WD {α:Type} {l:List α} {seen:List Nat} (hn:seen.Nodup) (h:∀ j ∈ seen,j < l.length) (hall:∀ j,j < l.length→j ∈ seen):(met l seen).Perm l:=by
 have hp:seen.Perm (List.range l.length):=(List.perm_ext_iff_of_nodup hn List.nodup_range).2 fun j=>⟨fun hj=>List.mem_range.2 (h j hj),fun hj=>hall j (List.mem_range.1 hj)⟩
 have:=hp.filterMap fun j=>l[j]?
 rw [EE] at this
 exact this

def SN (b:Bd):KV × AV:=(.s b.1,aTm b.2)
abbrev U9 (l:List Bd):AL:=.map none (l.map SN)
theorem Jw (l:List Bd) (n:ByteArray):DH (l.map SN) (.s n)=(lookup l n).map fun t=>aTm t:=by
 induction l with
 | nil=>rfl
 | cons b l ih =>
  unfold lookup
  rw [List.map_cons,DH,List.find?_cons]
  by_cases h:b.1=n
  ·have h1:decide (b.1=n)=true:=decide_eq_true h
   rw [if_pos (show (SN b).1=KV.s n from congrArg KV.s h)]
   simp only [h1]
   rfl
  ·have h1:decide (b.1=n)=false:=decide_eq_false h
   rw [if_neg (show ¬ (SN b).1=KV.s n from fun e=>h (KV.s.inj e)),ih]
   simp only [h1]
   rfl
theorem Uu {l:List Bd} {n:ByteArray} (h:lookup l n=none) (t:Tm):LB (l.map SN) (.s n) (aTm t)=(l ++ [(n,t)]).map SN:=by
 rw [NS (by rw [Jw,h];rfl),List.map_append]
 rfl
theorem AAO (p:Tm) (hz:p.size≤1000000):∀ (t:Tm) (a0:Nat) (l:List Bd) (S:AA),1000≤a0→S a0=some (U9 l) →
  As Tryz.prog 127 [aTm p,aTm t,.one (.mptr a0)] S (Aa (p.mt t l).2) (AG S a0 (some (U9 (p.mt t l).1))):=by
 induction h:SizeOf.sizeOf p using Nat.strongRecOn generalizing p with
 | _ N ih =>
 subst h
 intro t a0 l S ha0 hSa
 have hs:=Tm.size_eq p
 have hln:=Tm.length_le p.args
 refine Mv.acS fun hS C hC=>?_
 have n3:S 3=none:=AP hS (by omega)
 have n4:S 4=none:=AP hS (by omega)
 have n7:S 7=none:=AP hS (by omega)
 have d3:¬ 3=a0:=by omega
 have d4:¬ 4=a0:=by omega
 have d7:¬ 7=a0:=by omega
 have e3:¬ a0=3:=by omega
 have e4:¬ a0=4:=by omega
 have e7:¬ a0=7:=by omega
 unfold H1
 repeat' with_reducible first | refine W ?_ | refine Z0 ?_ | ((first | refine Wo fun K hK=>?_ | refine Wp ?_ | refine Wq ?_ | refine Wr ?_);(try simp only [go_sem,fN,seval,eT,iR,n3,n4,dT,dF,nL]);(repeat refine Ai ?_);(try (refine hK _ ?_;clear hK K));try refine iC ?_)
 refine ⟨_,Am _,?_⟩
 cases hv:AJ p.name with
 | true =>
  cases hl:lookup l p.name with
  | some x =>
   repeat' (first | (with_reducible first | refine W ?_ | refine Z0 ?_ | ((first | refine Wo fun K hK=>?_ | refine Wp ?_ | refine Wq ?_ | refine Wr ?_);(try simp only [go_sem,fN,seval,eT,iR,hv,hSa,n3,n4,n7,d3,d4,d7,e3,e4,e7,DV,JN,KV.of,Io,Jw,hl,dT,dF,nL]);(repeat refine Ai ?_);(try (refine hK _ ?_;clear hK K));try refine iC ?_)) | refine Cg _ (Lq _ _) ?_)
   rw [Tm.mt_old hv hl]
   refine Bg (Aa (x.beq t)) hS ha0 rfl trivial rfl rfl (by simp only [go_sem,fN,seval,eT,iR,e3,e4,e7,hSa]) fun i hi hne=>?_
   have i3:¬ i=3:=by omega
   have i4:¬ i=4:=by omega
   have i7:¬ i=7:=by omega
   simp only [go_sem,fN,seval,eT,iR,i3,i4,i7]
  | none =>
   repeat' with_reducible first | refine W ?_ | refine Z0 ?_ | ((first | refine Wo fun K hK=>?_ | refine Wp ?_ | refine Wq ?_ | refine Wr ?_);(try simp only [go_sem,fN,seval,eT,iR,hv,hSa,n3,n4,n7,d3,d4,d7,e3,e4,e7,DV,JN,KV.of,Io,Jw,hl,Uu,dT,dF,nL]);(repeat refine Ai ?_);(try (refine hK _ ?_;clear hK K));try refine iC ?_)
   rw [Tm.mt_new hv hl]
   refine Bg (Aa true) hS ha0 rfl trivial rfl rfl (by simp only [go_sem,fN,seval,eT,iR,e3,e4,e7,hSa]) fun i hi hne=>?_
   have i3:¬ i=3:=by omega
   have i4:¬ i=4:=by omega
   have i7:¬ i=7:=by omega
   simp only [go_sem,fN,seval,eT,iR,i3,i4,i7,hne]
 | false =>
  by_cases hn:p.name=t.name
  case neg =>
   have hc:¬ (p.name=t.name∧p.args.length=t.args.length):=fun h=>hn h.1
   repeat' with_reducible first | refine W ?_ | refine Z0 ?_ | ((first | refine Wo fun K hK=>?_ | refine Wp ?_ | refine Wq ?_ | refine Wr ?_);(try simp only [go_sem,fN,seval,eT,iR,hv,hSa,n3,n4,n7,d3,d4,d7,e3,e4,e7,hn,dT,dF,nL]);(repeat refine Ai ?_);(try (refine hK _ ?_;clear hK K));try refine iC ?_)
   rw [Tm.mt_clash hv hc]
   refine Bg (Aa false) hS ha0 rfl trivial rfl rfl (by simp only [go_sem,fN,seval,eT,iR,e3,e4,hSa]) fun i hi hne=>?_
   have i3:¬ i=3:=by omega
   have i4:¬ i=4:=by omega
   simp only [go_sem,fN,seval,eT,iR,i3,i4]
  by_cases hlen:p.args.length=t.args.length
  case neg =>
   have hc:¬ (p.name=t.name∧p.args.length=t.args.length):=fun h=>hlen h.2
   have hlen':¬ (p.args.length:Int)=t.args.length:=by omega
   repeat' with_reducible first | refine W ?_ | refine Z0 ?_ | ((first | refine Wo fun K hK=>?_ | refine Wp ?_ | refine Wq ?_ | refine Wr ?_);(try simp only [go_sem,fN,seval,eT,iR,hv,hSa,n3,n4,n7,d3,d4,d7,e3,e4,e7,hn,hlen',dT,dF,nL]);(repeat refine Ai ?_);(try (refine hK _ ?_;clear hK K));try refine iC ?_)
   rw [Tm.mt_clash hv hc]
   refine Bg (Aa false) hS ha0 rfl trivial rfl rfl (by simp only [go_sem,fN,seval,eT,iR,e3,e4,hSa]) fun i hi hne=>?_
   have i3:¬ i=3:=by omega
   have i4:¬ i=4:=by omega
   simp only [go_sem,fN,seval,eT,iR,i3,i4]
  have hlen':(p.args.length:Int)=t.args.length:=by omega
  have hknot:p.mt t l=Tm.mtL p.args t.args l:=Tm.mt_knot hv hn hlen
  repeat' with_reducible first | refine W ?_ | refine Z0 ?_ | ((first | refine Wo fun K hK=>?_ | refine Wp ?_ | refine Wq ?_ | refine Wr ?_);(try simp only [go_sem,fN,seval,eT,iR,hv,hSa,n3,n4,n7,d3,d4,d7,e3,e4,e7,hn,hlen',dT,dF,nL]);(repeat refine Ai ?_);(try (refine hK _ ?_;clear hK K));try refine iC ?_)
  refine IWP.loop (fun m x=>∃ k,k≤p.args.length∧m=p.args.length - k∧(Tm.mtL (p.args.take k) (t.args.take k) l).2=true∧x.env 2=.one (.mptr a0)∧x.env 3=.one (.ptr 3 1 0 0)∧x.env 4=.one (.ptr 4 1 0 0)∧x.env 44=AO p.args.length∧x.env 45=AO k ∧
    x.S 3=some (.box 37 [.st (.str t.name),.st (.list (p.args.map Ap))])∧x.S 4=some (.box 37 [.st (.str t.name),.st (.list (t.args.map Ap))])∧x.S a0=some (U9 (Tm.mtL (p.args.take k) (t.args.take k) l).1)∧∀ i,1000≤i→i ≠ a0→x.S i=S i)
   p.args.length ⟨0,Nat.zero_le _,rfl,by simp [Tm.mtL],rfl,rfl,rfl,by simp only [go_sem,fN,seval,eT,iR,hlen'],rfl,by simp only [go_sem,fN,seval,eT,iR,hn],rfl,by (simp only [go_sem,fN,seval,eT,iR,e3,e4,hSa]);simp [Tm.mtL],fun i hi hne=>?_⟩ ?_
  ·have i3:¬ i=3:=by omega
   have i4:¬ i=4:=by omega
   simp only [go_sem,fN,seval,eT,iR,i3,i4]
  rintro m ⟨env,S1⟩ ⟨k,hk,rfl,hok,e2,e3',e4',e44,e45,s3,s4,sa,hrest⟩
  simp only at e2 e3' e4' e44 e45 s3 s4 sa hrest
  have hend:∀ (b:Bool) (r:List Bd) (env:Nat→AV) (S2:AA),env 6=Aa b→S2 a0=some (U9 r)→(∀ i,1000≤i→i ≠ a0→S2 i=S i)→Jt C [.t 6] (Aa b) (AG S a0 (some (U9 r))) .ret ⟨env,S2⟩:=fun b r env S2 h6 h1 h2 =>
   Bg (Aa b) hS ha0 rfl trivial (by simp only [AB,AD,AK,h6,Option.map_some]) rfl h1 h2
  by_cases hlt:(k:Int) < p.args.length
  ·obtain ⟨a,ha⟩:=Ag (show k < p.args.length by omega)
   obtain ⟨c,hc⟩:=Ag (show k < t.args.length by omega)
   have hstep:=Tm.mtL_take hlen ha hc hok
   repeat' with_reducible first | refine W ?_ | refine Z0 ?_ | ((first | refine Wo fun K hK=>?_ | refine Wp ?_ | refine Wq ?_ | refine Wr ?_);(try simp only [go_sem,fN,seval,eT,iR,e2,e3',e4',e44,e45,s3,s4,sa,hlt,ha,hc,dT,dF,nL]);(repeat refine Ai ?_);(try (refine hK _ ?_;clear hK K));try refine iC ?_)
   refine ⟨_,_,ih _ (Tm.lt_of_arg (AQ ha)) a (by have:=Tm.size_mem (AQ ha);omega) rfl c (up1 a0) (Tm.mtL (p.args.take k) (t.args.take k) l).1 (upS S1) (At a0) (by rw [A0,sa];rfl),?_⟩
   rw [← hstep]
   cases hb:(Tm.mtL (p.args.take (k + 1)) (t.args.take (k + 1)) l).2 with
   | true =>
    repeat' with_reducible first | refine W ?_ | refine Z0 ?_ | ((first | refine Wo fun K hK=>?_ | refine Wp ?_ | refine Wq ?_ | refine Wr ?_);(try simp only [go_sem,fN,seval,eT,iR,hb,e2,e3',e4',e44,e45,s3,s4,dT,dF,nL]);(repeat refine Ai ?_);(try (refine hK _ ?_;clear hK K));try refine iC ?_)
    refine AI ⟨p.args.length - (k + 1),by omega,k + 1,by omega,rfl,hb,?_⟩
    simp only [go_sem,fN,seval,eT,iR,e2,e3',e4',e44,s3,s4,d3,d4]
    refine ⟨by congr 3,fun i hi hne=>?_⟩
    simp only [go_sem,fN,seval,eT,iR,hne]
    exact hrest i hi hne
   | false =>
    have hno:=Tm.mtL_no hlen hb
    repeat' with_reducible first | refine W ?_ | refine Z0 ?_ | ((first | refine Wo fun K hK=>?_ | refine Wp ?_ | refine Wq ?_ | refine Wr ?_);(try simp only [go_sem,fN,seval,eT,iR,hb,e2,e3',e4',e44,e45,s3,s4,dT,dF,nL]);(repeat refine Ai ?_);(try (refine hK _ ?_;clear hK K));try refine iC ?_)
    rw [hknot,hno]
    refine hend false _ _ _ rfl (by simp only [go_sem,fN,seval,eT,iR]) fun i hi hne=>?_
    simp only [go_sem,fN,seval,eT,iR,hne]
    exact hrest i hi hne
  ·rw [List.take_of_length_le (by omega),List.take_of_length_le (by omega)] at hok sa
   repeat' with_reducible first | refine W ?_ | refine Z0 ?_ | ((first | refine Wo fun K hK=>?_ | refine Wp ?_ | refine Wq ?_ | refine Wr ?_);(try simp only [go_sem,fN,seval,eT,iR,e44,e45,hlt,dT,dF,nL]);(repeat refine Ai ?_);(try (refine hK _ ?_;clear hK K));try refine iC ?_)
   rw [hknot,hok]
   exact hend true _ _ _ rfl sa hrest
theorem ND {l m:List Bd} (h:l.Perm m) (hn:Bc m):BS l=BS m :=
 El (Bo (Dk h.symm hn)) (Bo hn) ((CL l).trans (h.trans (CL m).symm))
theorem R8 (p t:Tm) (hp:p.size≤100000) (ht:t.size≤1000000):AU Tryz.prog 112 [aTm p,aTm t] (.tup [Uk (A8 p t),Aa (CN p t)]):=by
 have hnm:=JB p t
 have hml:=YP p t
 have hms:=UM p t
 refine NJ.ac fun C hC=>?_
 unfold H2
 repeat' with_reducible first | refine W ?_ | refine Z0 ?_ | ((first | refine Wo fun K hK=>?_ | refine Wp ?_ | refine Wq ?_ | refine Wr ?_);(try simp only [go_sem,fN,seval,eT,iR,dT,dF,nL]);(repeat refine Ai ?_);(try (refine hK _ ?_;clear hK K));try refine iC ?_)
 refine ⟨_,_,AAO p (by omega) t (up1 10) [] _ (At 10) (by rw [A0];rfl),?_⟩
 cases hc:(p.mt t []).2 with
 | false =>
  repeat' with_reducible first | refine W ?_ | refine Z0 ?_ | ((first | refine Wo fun K hK=>?_ | refine Wp ?_ | refine Wq ?_ | refine Wr ?_);(try simp only [go_sem,fN,seval,eT,iR,hc,dT,dF,nL]);(repeat refine Ai ?_);(try (refine hK _ ?_;clear hK K));try refine iC ?_)
  simp only [go_sem,fN,seval,AN,AS.result,AB,AD,AK]
  unfold A8 CN
  rw [hc]
  rfl
 | true =>
  have hca:A8 p t=BS (p.mt t []).1:=by unfold A8;rw [if_pos hc]
  have his:CN p t=true:=hc
  repeat' with_reducible first | refine W ?_ | refine Z0 ?_ | ((first | refine Wo fun K hK=>?_ | refine Wp ?_ | refine Wq ?_ | refine Wr ?_);(try simp only [go_sem,fN,seval,eT,iR,hc,DV,dT,dF,nL]);(repeat refine Ai ?_);(try (refine hK _ ?_;clear hK K));try refine iC ?_)
  rw [hca,his]
  generalize (p.mt t []).1=l at *
  refine IWP.ghost (Ac.ownM 7 500 82 3 (by rfl) (by rfl) (by rw [hC];decide)) ?_
  refine IWP.loopD [9] (fun m x=>∃ seen:List Nat,seen.Nodup∧(∀ j ∈ seen,j < l.length)∧m=l.length - seen.length∧x.env 7=.one (.row 500 seen.length)∧x.env 17=.one (.ptr 17 1 0 0)∧x.S 10=some (U9 l)∧x.S 17=some (.iter (.mptr 10) l.length seen)∧x.S 500=some (BR (met l seen))∧x.S 9=none) l.length ⟨[],List.nodup_nil,by simp,rfl,rfl,rfl,by simp only [go_sem,fN,seval,eT,iR],by simp only [go_sem,fN,seval,eT,iR],rfl,rfl⟩ ?_
  rintro m ⟨env,S⟩ ⟨seen,hnd,hlt,rfl,e7,e17,s10,s17,s500,s9⟩
  simp only at e7 e17 s10 s17 s500 s9
  have hsl:=Qk hnd hlt
  have hmt:=Tl hlt
  repeat' with_reducible first | refine W ?_ | refine Z0 ?_ | ((first | refine Wo fun K hK=>?_ | refine Wp ?_ | refine Wq ?_ | refine Wr ?_);(try simp only [go_sem,fN,seval,eT,iR,e7,e17,s10,s17,E8,dT,dF,nL]);(repeat refine Ai ?_);(try (refine hK _ ?_;clear hK K));try refine iC ?_)
  refine ⟨fun hall=>?_,fun j x c hx hj hkv=>?_⟩
  ·have hmp:=WD hnd hlt hall
   have hl':seen.length=l.length:=by rw [← hmt];exact hmp.length_eq
   refine hK _ ?_
   clear hK K
   refine Wb ?_
   refine Wa ?_
   with_reducible refine Wp ?_
   simp only [go_sem,fN,seval,true_implies,false_implies,implies_true,dT,dF,nL]
   (try with_reducible refine iC ?_)
   repeat' (with_reducible first | refine Wb ?_ | refine Wc ?_ | refine Wd ?_ | refine We ?_ | refine Wg ?_ | refine Wh ?_ | refine Wi ?_ | refine Wj ?_ | refine Wk (by decide) ?_ | refine Wl ?_ | refine Wm ?_ | refine Wn ?_)
   refine IWP.mid (fun x=>x.env 4=.one (.row 500 l.length)∧x.env 5=Aa true∧x.S 500=some (BR (BS l))) ?_ ?_
   ·have hs:=Sn (met l seen) (Dk hmp.symm hnm) (by omega) (up1 500) (At 500) (upS S) (by rw [A0,s500];rfl)
    rw [hmt,hl',ND hmp hnm] at hs
    rw [hl'] at e7
    repeat' with_reducible first | refine W ?_ | refine Z0 ?_ | ((first | refine Wo fun K hK=>?_ | refine Wq ?_ | refine Wr ?_);(try simp only [go_sem,fN,seval,eT,iR,e7]);(repeat refine Ai ?_);(try (refine hK _ ?_;clear hK K)))
    refine ⟨_,_,hs,?_⟩
    repeat' with_reducible first | refine W ?_ | refine Z0 ?_ | ((first | refine Wo fun K hK=>?_ | refine Wq ?_ | refine Wr ?_);(try simp only [go_sem,fN,seval,eT,iR,e7]);(repeat refine Ai ?_);(try (refine hK _ ?_;clear hK K)))
    refine ⟨rfl,?_⟩
    simp only [go_sem,fN,seval,eT,iR]
   rintro ⟨env,S⟩ ⟨e4,e5,s500⟩
   simp only at e4 e5 s500
   refine IWP.ghost (Ac.share (id:=500) s500) ?_
   repeat' with_reducible first | refine W ?_ | refine Z0 ?_ | ((first | refine Wo fun K hK=>?_ | refine Wq ?_ | refine Wr ?_);(try simp only [go_sem,fN,seval,eT,iR]);(repeat refine Ai ?_);(try (refine hK _ ?_;clear hK K)))
   simp only [go_sem,fN,seval,AN,AS.result,AB,AD,AK,e4,e5,BY]
  ·rw [Option.map_eq_some_iff] at hx
   obtain ⟨b,hb,rfl⟩:=hx
   have hbz:=hms b (AQ hb)
   have hjl:j < l.length:=by
    rcases Nat.lt_or_ge j l.length with h | h
    ·exact h
    ·rw [List.getElem?_eq_none h] at hb;cases hb
   have hcv:c=.one (.st (.str b.1)):=by
    have:some (AV.one (.st (.str b.1)))=some c:=hkv
    cases this
    rfl
   subst hcv
   have hnd':(seen ++ [j]).Nodup:=by
    rw [List.nodup_append]
    exact ⟨hnd,by simp,fun a ha b hb e=>hj (by rw [List.mem_singleton.1 hb] at e;rw [← e];exact ha)⟩
   have hlt':∀ i ∈ seen ++ [j],i < l.length:=fun i hi=>by
    rcases List.mem_append.1 hi with h | h
    ·exact hlt i h
    ·rw [List.mem_singleton.1 h];exact hjl
   have hsl':=Qk hnd' hlt'
   rw [List.length_append,List.length_singleton] at hsl'
   refine hK _ ?_
   clear hK K
   refine Wb ?_
   repeat' (first | (with_reducible first | refine W ?_ | refine Z0 ?_ | ((first | refine Wo fun K hK=>?_ | refine Wp ?_ | refine Wq ?_ | refine Wr ?_);(try simp only [go_sem,fN,seval,eT,iR,e7,e17,s10,s17,s500,s9,E8,List.getLast?_concat,hb,SN,KV.sv,hmt,C3,dT,dF,nL]);(repeat refine Ai ?_);(try (refine hK _ ?_;clear hK K));try refine iC ?_)) | refine Cg _ (Gs b.2 (by omega)) ?_)
   refine AI ⟨l.length - (seen.length + 1),by omega,seen ++ [j],hnd',hlt',by rw [List.length_append,List.length_singleton],?_⟩
   rw [XB hb]
   simp only [go_sem,fN,seval,AS.drop,Ao,AC.clears,AC.clear,AC.highs,AC.high,Bool.not_false,Bool.true_and,Bool.and_self,AV.purge,AV.purges,AC.purge,AL.purge,List.contains_cons,List.contains_nil,Nat.reduceBEq,Bool.or_self,Bool.or_false,Bool.false_or,Bool.or_true,eT,iR,e7,e17,s10,s500]
   show AL.mrow _ _ ((met l seen).map C3 ++ [C3 b])=BR _
   rw [BR,List.map_append]
   rfl

def Ip:IR :=
 (.seq (.ops [.i 1 (.box 37 (.t 0)),.i 2 (.mov (.n 0))]) (.seq (.ops [.i 3 (.mov (.n 1))]) (.seq (.seq (.ops [.f 6 1 1,.l 7 6,.i 8 (.len false (.t 7)),.i 9 (.mov (.n 0))]) (.block 0 (.loop (.seq (.ops [.i 10 (.bin .lss (.t 9) (.t 8))]) (.seq (.cond (.t 10) .skip (.exit 0)) (.seq (.block 1 (.seq (.ops [.i 11 (.indexAddr 2 (.t 7) (.t 9)),.L 12 2 11,.i 5 (.alloc 37 [.st (.str (ByteArray.mk (#[]))),.full []]),.s 2 5 12]) (.ops [.m 13 3,.L 14 2 5,.i 15 (.call 44 [.t 14]),.i 16 (.bin .add (.t 13) (.t 15)),.m 3 16]))) (.ops [.i 17 (.bin .add (.t 9) (.n 1)),.m 9 17]))))))) (.seq (.ops [.m 18 3,.m 2 18]) .ret))))
theorem PW:OkF Tryz.prog 44 19 [] Ip [.t 2]:=.of Tryz.func44 rfl rfl (by kernel_rfl) rfl

theorem LM (t:Tm) (hz:t.size≤1000000):AU Tryz.prog 44 [aTm t] (AO t.size):=by
 induction h:SizeOf.sizeOf t using Nat.strongRecOn generalizing t with
 | _ N ih =>
 subst h
 have hs:=Tm.size_eq t
 have hln:=Tm.length_le t.args
 refine PW.ac fun C hC=>?_
 unfold Ip
 repeat' with_reducible first | refine W ?_ | refine Z0 ?_ | ((first | refine Wo fun K hK=>?_ | refine Wp ?_ | refine Wq ?_ | refine Wr ?_);(try simp only [go_sem,fN,seval,eT,iR,dT,dF,nL]);(repeat refine Ai ?_);(try (refine hK _ ?_;clear hK K));try refine iC ?_)
 refine IWP.loopD [5] (fun m s=>∃ k,k≤t.args.length∧m=t.args.length - k∧s.env 3=AO ((1 + Tm.sizes (t.args.take k):Nat):Int)∧s.env 7=Gh t.args∧s.env 8=AO t.args.length∧s.env 9=AO k∧s.S 5=none) t.args.length ⟨0,Nat.zero_le _,rfl,rfl,rfl,rfl,rfl,rfl⟩ ?_
 rintro m ⟨env,S⟩ ⟨k,hk,rfl,e3,e7,e8,e9,s5⟩
 simp only at e3 e7 e8 e9 s5
 by_cases hlt:(k:Int) < t.args.length
 ·obtain ⟨a,ha⟩:=Ag (show k < t.args.length by omega)
  have h1:=Tm.sizes_take ha
  have h2:=Tm.sizes_take_le t.args (k + 1)
  repeat' (first | (with_reducible first | refine W ?_ | refine Z0 ?_ | ((first | refine Wo fun K hK=>?_ | refine Wp ?_ | refine Wq ?_ | refine Wr ?_);(try simp only [go_sem,fN,seval,eT,iR,e3,e7,e8,e9,s5,hlt,ha,dT,dF,nL]);(repeat refine Ai ?_);(try (refine hK _ ?_;clear hK K));try refine iC ?_)) | refine Cg _ (ih _ (Tm.lt_of_arg (AQ ha)) a (by omega) rfl) ?_)
  refine AI ⟨t.args.length - (k + 1),by omega,k + 1,by omega,rfl,?_⟩
  simp only [go_sem,fN,seval,AS.drop,Ao,AC.clears,AC.clear,AC.highs,AC.high,Bool.not_false,Bool.true_and,Bool.and_self,AV.purge,AV.purges,AC.purge,AL.purge,List.contains_cons,List.contains_nil,Nat.reduceBEq,Bool.or_self,Bool.or_false,Bool.false_or,Bool.or_true,eT,iR,e3,e7,e8,e9,s5]
  exact ⟨by rw [h1];congr 3;omega,by congr 3⟩
 ·repeat' with_reducible first | refine W ?_ | refine Z0 ?_ | ((first | refine Wo fun K hK=>?_ | refine Wp ?_ | refine Wq ?_ | refine Wr ?_);(try simp only [go_sem,fN,seval,eT,iR,e3,e7,e8,e9,hlt,dT,dF,nL]);(repeat refine Ai ?_);(try (refine hK _ ?_;clear hK K));try refine iC ?_)
  simp only [go_sem,fN,seval,AN,AS.result,AB,AD,AK]
  rw [List.take_of_length_le (by omega),hs]

theorem LZ (l:List Tm) (h0:0 < l.length) (hl:l.length≤1000000):GA Tryz.prog 79 [Gh l] 37 2 (l.map Ap) true:=by
 unfold GA
 rw [List.length_map]
 refine Bj.acS fun hS C hC=>?_
 unfold A6
 have h0':¬ l.length=0:=by omega
 have hb:l.length * 40≤140737488355328:=by omega
 repeat' with_reducible first | refine W ?_ | refine Z0 ?_ | ((first | refine Wo fun K hK=>?_ | refine Wp ?_ | refine Wq ?_ | refine Wr ?_);(try simp only [go_sem,fN,seval,eT,iR,h0',hb,dT,dF,nL]);(repeat refine Ai ?_);(try (refine hK _ ?_;clear hK K));try refine iC ?_)
 exact AAf (mu:=true) trivial 7 (by decide) rfl (fun i hi=>by show AG _ _ _ _=_;rw [AH _ (by omega)];rfl) rfl
def Im (r:Tm × Int × Int):AV:=.tup [aTm r.1,AO r.2.1,AO r.2.2]
theorem Sk {R:List Pr} (hR:AZ R) (t:Tm) (hc:t.chk=0) (hz:t.size≤1000000) (f:Nat) (hf:f≤R.length):AU Tryz.prog 78 [CH R,aTm t,AO f] (Im (Ey t f (R.drop f))):=by
 unfold Im
 have h40:=hR.len
 refine K0.ac fun C hC=>?_
 unfold GT
 repeat' with_reducible first | refine W ?_ | refine Z0 ?_ | ((first | refine Wo fun K hK=>?_ | refine Wp ?_ | refine Wq ?_ | refine Wr ?_);(try simp only [go_sem,fN,seval,eT,iR,dT,dF,nL]);(repeat refine Ai ?_);(try (refine hK _ ?_;clear hK K));try refine iC ?_)
 refine IWP.loop (fun m s=>∃ k,k≤R.length∧m=R.length - k∧Ey t f (R.drop f)=Ey t k (R.drop k)∧s.env 0=CH R∧s.env 4=.one (.ptr 4 1 0 0)∧s.env 6=.one (.ptr 6 1 0 0)∧s.S 4=some (.box 37 [.st (.str t.name),.st (.list (t.args.map Ap))])∧s.S 6=some (.box 37 [.st (.str ⟨#[]⟩),.full []])∧s.S 12=none∧s.env 9=AO k) (R.length - f) ⟨f,hf,rfl,rfl,rfl,rfl,rfl,rfl,rfl,rfl,rfl⟩ ?_
 rintro m ⟨env,S⟩ ⟨k,hk,rfl,hrk,e0,e4,e6,s4,s6,s12,e9⟩
 simp only at e0 e4 e6 s4 s6 s12 e9
 rw [hrk]
 by_cases hlt:(k:Int) < R.length
 ·obtain ⟨r,hr⟩:=Ag (show k < R.length by omega)
  have hmem:=AQ hr
  have c1:=Tm.may_chk (hR.left r hmem)
  have c2:=Tm.may_chk (hR.right r hmem)
  have hok:=Fs c1.1 hc
  have hd:=Bi hr
  rw [hd,Ey]
  by_cases hcase:CN r.1 t=true
  ·rw [if_pos hcase]
   have hon:=Nt (A8 r.1 t) (by have:=QN (p:=r.1) (t:=t);omega) hok.ord r.2 hok.var c2.1
   by_cases hon2:(A7 (A8 r.1 t) r.2).2=true
   ·repeat' (first | (with_reducible first | refine W ?_ | refine Z0 ?_ | ((first | refine Wo fun K hK=>?_ | refine Wp ?_ | refine Wq ?_ | refine Wr ?_);(try simp only [go_sem,fN,seval,eT,iR,e0,e4,e6,s4,s6,s12,e9,hlt,hr,Bf,hcase,hon2,dT,dF,nL]);(repeat refine Ai ?_);(try (refine hK _ ?_;clear hK K));try refine iC ?_)) | refine Cg _ (R8 r.1 t (by omega) hz) ?_ | refine Cg _ (hon) ?_)
    simp only [go_sem,fN,seval,AN,AS.result,AB,AD,AK,e6,s6,hon2]
   ·have hnil:=Pk hon2
    simp only [Bool.not_eq_true] at hon2
    repeat' (first | (with_reducible first | refine W ?_ | refine Z0 ?_ | ((first | refine Wo fun K hK=>?_ | refine Wp ?_ | refine Wq ?_ | refine Wr ?_);(try simp only [go_sem,fN,seval,eT,iR,e0,e4,e6,s4,s6,s12,e9,hlt,hr,Bf,hcase,hon2,dT,dF,nL]);(repeat refine Ai ?_);(try (refine hK _ ?_;clear hK K));try refine iC ?_)) | refine Cg _ (R8 r.1 t (by omega) hz) ?_ | refine Cg _ (hon) ?_)
    simp only [go_sem,fN,seval,AN,AS.result,AB,AD,AK,e6,s6,hon2,hnil]
    rfl
  ·rw [if_neg hcase]
   repeat' (first | (with_reducible first | refine W ?_ | refine Z0 ?_ | ((first | refine Wo fun K hK=>?_ | refine Wp ?_ | refine Wq ?_ | refine Wr ?_);(try simp only [go_sem,fN,seval,eT,iR,e0,e4,e6,s4,s6,s12,e9,hlt,hr,Bf,hcase,dT,dF,nL]);(repeat refine Ai ?_);(try (refine hK _ ?_;clear hK K));try refine iC ?_)) | refine Cg _ (R8 r.1 t (by omega) hz) ?_)
   refine AI ⟨R.length - (k + 1),by omega,k + 1,by omega,rfl,?_,?_⟩
   ·rfl
   ·simp only [go_sem,fN,seval,eT,iR,e0,e4,e6,s4,s6,s12,e9]
    congr 3
 ·have hd:R.drop k=[]:=List.drop_of_length_le (by omega)
  rw [hd]
  repeat' with_reducible first | refine W ?_ | refine Z0 ?_ | ((first | refine Wo fun K hK=>?_ | refine Wp ?_ | refine Wq ?_ | refine Wr ?_);(try simp only [go_sem,fN,seval,eT,iR,e0,e4,e6,s4,s6,s12,e9,hlt,dT,dF,nL]);(repeat refine Ai ?_);(try (refine hK _ ?_;clear hK K));try refine iC ?_)
  simp only [go_sem,fN,seval,AN,AS.result,AB,AD,AK,e6,s6]
  rfl
def EG (t:Tm) (r:Option (Tm × Int)):AV:=match r with
 | none=>.tup [aTm t,Aa false,AO 0]
 | some (x,e)=>.tup [aTm x,Aa true,AO e]
theorem Zm {R:List Pr} {t:Tm} (h:FW R t=none):Im (Ey t 0 (R.drop 0))=.tup [aTm Tm.nil,AO (-1),AO 0]:=by
 have:=Mm R t R 0
 unfold FW at h
 rw [h] at this
 rw [List.drop_zero,Im,this]
theorem Zn {R:List Pr} {t x:Tm} {e:Int} (h:FW R t=some (x,e)):∃ i:Nat,Im (Ey t 0 (R.drop 0))=.tup [aTm x,AO i,AO e]:=by
 have:=Mm R t R 0
 unfold FW at h
 rw [h] at this
 obtain ⟨i,hi⟩:=this
 exact ⟨i,by rw [List.drop_zero,Im,hi]⟩
theorem QA {R:List Pr} (hR:AZ R) (t:Tm) (hc:t.chk=0) (hz:t.size≤1000000):AU Tryz.prog 77 [CH R,aTm t] (EG Tm.nil (t.inn R)):=by
 induction h:SizeOf.sizeOf t using Nat.strongRecOn generalizing t with
 | _ N ih =>
 subst h
 have hs:=Tm.size_eq t
 have hln:=Tm.length_le t.args
 refine Gv.ac fun C hC=>?_
 unfold D5
 repeat' with_reducible first | refine W ?_ | refine Z0 ?_ | ((first | refine Wo fun K hK=>?_ | refine Wp ?_ | refine Wq ?_ | refine Wr ?_);(try simp only [go_sem,fN,seval,eT,iR,dT,dF,nL]);(repeat refine Ai ?_);(try (refine hK _ ?_;clear hK K));try refine iC ?_)
 refine IWP.loopD [8] (fun m s=>∃ k,k≤t.args.length∧m=t.args.length - k∧(∀ b ∈ t.args.take k,b.inn R=none)∧s.env 0=CH R∧s.env 3=.one (.ptr 3 1 0 0)∧s.env 4=.one (.ptr 4 1 0 0)∧s.S 3=some (.box 37 [.st (.str t.name),.st (.list (t.args.map Ap))])∧s.S 4=some (.box 37 [.st (.str ⟨#[]⟩),.full []])∧s.S 8=none∧s.S 11=none∧s.S 12=none∧s.S 41=none∧s.env 17=AO t.args.length∧s.env 18=AO k)
  t.args.length ⟨0,Nat.zero_le _,rfl,by simp,rfl,rfl,rfl,rfl,rfl,rfl,rfl,rfl,rfl,rfl,rfl⟩ ?_
 rintro m ⟨env,S⟩ ⟨k,hk,rfl,hno,e0,e3,e4,s3,s4,s8,s11,s12,s41,e17,e18⟩
 simp only at e0 e3 e4 s3 s4 s8 s11 s12 s41 e17 e18
 by_cases hlt:(k:Int) < t.args.length
 ·obtain ⟨a,ha⟩:=Ag (show k < t.args.length by omega)
  have hmem:=AQ ha
  have hcon:=ih _ (Tm.lt_of_arg hmem) a ((Tm.chk_args hc).2 a hmem) (by have:=Tm.size_mem hmem;omega) rfl
  cases hi:a.inn R with
  | none =>
   rw [hi] at hcon
   unfold EG at hcon
   repeat' (first | (with_reducible first | refine W ?_ | refine Z0 ?_ | ((first | refine Wo fun K hK=>?_ | refine Wp ?_ | refine Wq ?_ | refine Wr ?_);(try simp only [go_sem,fN,seval,eT,iR,e0,e3,e4,s3,s4,s8,s11,s12,s41,e17,e18,hlt,ha,dT,dF,nL]);(repeat refine Ai ?_);(try (refine hK _ ?_;clear hK K));try refine iC ?_)) | refine Cg _ (hcon) ?_)
   refine AI ⟨t.args.length - (k + 1),by omega,k + 1,by omega,rfl,?_,?_⟩
   ·intro b hb
    rw [Al ha] at hb
    rcases List.mem_append.1 hb with hb | hb
    ·exact hno b hb
    ·rw [List.mem_singleton.1 hb]
     exact hi
   ·simp only [go_sem,fN,seval,AS.drop,Ao,AC.clears,AC.clear,AC.highs,AC.high,Bool.not_false,Bool.true_and,Bool.and_self,AV.purge,AV.purges,AC.purge,AL.purge,List.contains_cons,List.contains_nil,Nat.reduceBEq,Bool.or_self,Bool.or_false,Bool.false_or,Bool.or_true,eT,iR,e0,e3,e4,s3,s4,s8,s11,s12,s41,e17,e18]
    congr 3
  | some r =>
   obtain ⟨y,e⟩:=r
   rw [hi] at hcon
   unfold EG at hcon
   have hin:t.inn R=some (.mk t.name (t.args.set k y),e):=by
    rw [Tm.inn_eq,UK ha hno hi]
   rw [hin]
   unfold EG
   by_cases he:e=0
   all_goals
    repeat' (first | (with_reducible first | refine W ?_ | refine Z0 ?_ | ((first | refine Wo fun K hK=>?_ | refine Wp ?_ | refine Wq ?_ | refine Wr ?_);(try simp only [go_sem,fN,seval,eT,iR,e0,e3,e4,s3,s4,s8,s11,s12,s41,e17,e18,hlt,ha,he,dT,dF,nL]);(repeat refine Ai ?_);(try (refine hK _ ?_;clear hK K));try refine iC ?_)) | refine Cg _ (hcon) ?_)
    refine ⟨_,_,_,_,LZ t.args (by omega) (by omega),by simp [AG,s41],?_⟩
    refine Wr ?_
    simp only [go_sem,fN,seval,eT,iR,e0,e3,e4,s3,s4,s8,s11,s12,s41,e17,e18,hlt,ha,he]
    refine hK _ ?_
    clear hK K
    refine Wb ?_
    refine IWP.mid (fun x=>x.env 4=.one (.ptr 4 1 0 0)∧x.env 11=.one (.ptr 11 1 0 0)∧x.env 9=Aa true∧x.env 10=AO e∧x.S 4=some (.box 37 [.st (.str ⟨#[]⟩),.full []])∧x.S 11=some (.box 37 [.st (.str t.name),.row 41 t.args.length])∧x.S 41=some (.mrow 37 2 ((t.args.set k y).map Ap))) ?_ ?_
    ·repeat' with_reducible first | refine W ?_ | refine Z0 ?_ | ((first | refine Wo fun K hK=>?_ | refine Wp ?_ | refine Wq ?_ | refine Wr ?_);(try simp only [go_sem,fN,seval,eT,iR,e0,e3,e4,s3,s4,s8,s11,s12,s41,e17,e18,hlt,ha,he,dT,dF,nL]);(repeat refine Ai ?_);(try (refine hK _ ?_;clear hK K));try refine iC ?_)
     refine ⟨rfl,?_⟩
     simp only [go_sem,fN,seval,eT,iR,e0,e3,e4,s3,s4,s8,s11,s12,s41,e17,e18,hlt,ha,he]
     rw [List.map_set,Af]
    rintro ⟨env,S⟩ ⟨e4,e11,e9,e10,s4,s11,s41⟩
    simp only at e4 e11 e9 e10 s4 s11 s41
    refine IWP.ghost (Ac.share (id:=41) s41) ?_
    have hl1:(t.args.set k y).length=t.args.length:=by simp
    repeat' with_reducible first | refine W ?_ | refine Z0 ?_ | ((first | refine Wo fun K hK=>?_ | refine Wp ?_ | refine Wq ?_ | refine Wr ?_);(try simp only [go_sem,fN,seval,eT,iR,e4,e11,e9,e10,s4,s11,hl1,dT,dF,nL]);(repeat refine Ai ?_);(try (refine hK _ ?_;clear hK K));try refine iC ?_)
    simp only [go_sem,fN,seval,AN,AS.result,AB,AD,AK,e4,s4,hl1]
    first | rfl | (rw [he];rfl)
 ·rw [List.take_of_length_le (by omega)] at hno
  have hin:t.inn R=FW R t:=by rw [Tm.inn_eq,Qu hno]
  rw [hin]
  have hroot:=Sk hR t hc hz 0 (by omega)
  cases hr:FW R t with
  | none =>
   rw [Zm hr] at hroot
   unfold EG
   repeat' (first | (with_reducible first | refine W ?_ | refine Z0 ?_ | ((first | refine Wo fun K hK=>?_ | refine Wp ?_ | refine Wq ?_ | refine Wr ?_);(try simp only [go_sem,fN,seval,eT,iR,e0,e3,e4,s3,s4,s8,s11,s12,s41,e17,e18,hlt,dT,dF,nL]);(repeat refine Ai ?_);(try (refine hK _ ?_;clear hK K));try refine iC ?_)) | refine Cg _ (hroot) ?_)
   simp only [go_sem,fN,seval,AN,AS.result,AB,AD,AK,e4,s4]
  | some r =>
   obtain ⟨x,e⟩:=r
   obtain ⟨i,hi⟩:=Zn hr
   rw [hi] at hroot
   unfold EG
   repeat' (first | (with_reducible first | refine W ?_ | refine Z0 ?_ | ((first | refine Wo fun K hK=>?_ | refine Wp ?_ | refine Wq ?_ | refine Wr ?_);(try simp only [go_sem,fN,seval,eT,iR,e0,e3,e4,s3,s4,s8,s11,s12,s41,e17,e18,hlt,dT,dF,nL]);(repeat refine Ai ?_);(try (refine hK _ ?_;clear hK K));try refine iC ?_)) | refine Cg _ (hroot) ?_)
   simp only [go_sem,fN,seval,AN,AS.result,AB,AD,AK,e4,s4]
theorem Rs {R:List Pr} (hR:AZ R) (t:Tm) (hc:t.chk=0) (hz:t.size≤1000000):AU Tryz.prog 43 [CH R,aTm t] (EG t (t.out R)):=by
 induction h:SizeOf.sizeOf t using Nat.strongRecOn generalizing t with
 | _ N ih =>
 subst h
 have hs:=Tm.size_eq t
 have hln:=Tm.length_le t.args
 have hroot:=Sk hR t hc hz 0 (by omega)
 cases hr:FW R t with
 | some r =>
  obtain ⟨x,e⟩:=r
  obtain ⟨i,hi⟩:=Zn hr
  rw [hi] at hroot
  rw [Tm.out_eq,hr]
  unfold EG
  refine D4.ac fun C hC=>?_
  unfold Cj
  repeat' (first | (with_reducible first | refine W ?_ | refine Z0 ?_ | ((first | refine Wo fun K hK=>?_ | refine Wp ?_ | refine Wq ?_ | refine Wr ?_);(try simp only [go_sem,fN,seval,eT,iR,dT,dF,nL]);(repeat refine Ai ?_);(try (refine hK _ ?_;clear hK K));try refine iC ?_)) | refine Cg _ (hroot) ?_)
  simp only [go_sem,fN,seval,AN,AS.result,AB,AD,AK]
 | none =>
 rw [Zm hr] at hroot
 have hout:t.out R=match Tm.outL R t.args with
  | some (ys,e)=>some (.mk t.name ys,e)
  | none=>none:=by
  rw [Tm.out_eq]
  simp only [hr]
  cases Tm.outL R t.args <;> rfl
 rw [hout]
 refine D4.ac fun C hC=>?_
 unfold Cj
 repeat' (first | (with_reducible first | refine W ?_ | refine Z0 ?_ | ((first | refine Wo fun K hK=>?_ | refine Wp ?_ | refine Wq ?_ | refine Wr ?_);(try simp only [go_sem,fN,seval,eT,iR,dT,dF,nL]);(repeat refine Ai ?_);(try (refine hK _ ?_;clear hK K));try refine iC ?_)) | refine Cg _ (hroot) ?_)
 refine IWP.loopD [11] (fun m s=>∃ k,k≤t.args.length∧m=t.args.length - k∧(∀ b ∈ t.args.take k,b.out R=none)∧s.env 0=CH R∧s.env 3=.one (.ptr 3 1 0 0)∧s.env 4=.one (.ptr 4 1 0 0)∧s.S 3=some (.box 37 [.st (.str t.name),.st (.list (t.args.map Ap))])∧s.S 4=some (.box 37 [.st (.str ⟨#[]⟩),.full []])∧s.S 11=none∧s.S 14=none∧s.S 58=none∧s.env 34=AO t.args.length∧s.env 35=AO k)
  t.args.length ⟨0,Nat.zero_le _,rfl,by simp,rfl,rfl,rfl,rfl,rfl,rfl,rfl,rfl,rfl,rfl⟩ ?_
 rintro m ⟨env,S⟩ ⟨k,hk,rfl,hno,e0,e3,e4,s3,s4,s11,s14,s58,e34,e35⟩
 simp only at e0 e3 e4 s3 s4 s11 s14 s58 e34 e35
 by_cases hlt:(k:Int) < t.args.length
 ·obtain ⟨a,ha⟩:=Ag (show k < t.args.length by omega)
  have hmem:=AQ ha
  have hcon:=ih _ (Tm.lt_of_arg hmem) a ((Tm.chk_args hc).2 a hmem) (by have:=Tm.size_mem hmem;omega) rfl
  cases hi:a.out R with
  | none =>
   rw [hi] at hcon
   unfold EG at hcon
   repeat' (first | (with_reducible first | refine W ?_ | refine Z0 ?_ | ((first | refine Wo fun K hK=>?_ | refine Wp ?_ | refine Wq ?_ | refine Wr ?_);(try simp only [go_sem,fN,seval,eT,iR,e0,e3,e4,s3,s4,s11,s14,s58,e34,e35,hlt,ha,dT,dF,nL]);(repeat refine Ai ?_);(try (refine hK _ ?_;clear hK K));try refine iC ?_)) | refine Cg _ (hcon) ?_)
   refine AI ⟨t.args.length - (k + 1),by omega,k + 1,by omega,rfl,?_,?_⟩
   ·intro b hb
    rw [Al ha] at hb
    rcases List.mem_append.1 hb with hb | hb
    ·exact hno b hb
    ·rw [List.mem_singleton.1 hb]
     exact hi
   ·simp only [go_sem,fN,seval,AS.drop,Ao,AC.clears,AC.clear,AC.highs,AC.high,Bool.not_false,Bool.true_and,Bool.and_self,AV.purge,AV.purges,AC.purge,AL.purge,List.contains_cons,List.contains_nil,Nat.reduceBEq,Bool.or_self,Bool.or_false,Bool.false_or,Bool.or_true,eT,iR,e0,e3,e4,s3,s4,s11,s14,s58,e34,e35]
    congr 3
  | some r =>
   obtain ⟨y,e⟩:=r
   rw [hi] at hcon
   unfold EG at hcon
   rw [Tt ha hno hi]
   unfold EG
   by_cases he:e=0
   all_goals
    repeat' (first | (with_reducible first | refine W ?_ | refine Z0 ?_ | ((first | refine Wo fun K hK=>?_ | refine Wp ?_ | refine Wq ?_ | refine Wr ?_);(try simp only [go_sem,fN,seval,eT,iR,e0,e3,e4,s3,s4,s11,s14,s58,e34,e35,hlt,ha,he,dT,dF,nL]);(repeat refine Ai ?_);(try (refine hK _ ?_;clear hK K));try refine iC ?_)) | refine Cg _ (hcon) ?_)
    refine ⟨_,_,_,_,LZ t.args (by omega) (by omega),by simp [AG,s58],?_⟩
    refine Wr ?_
    simp only [go_sem,fN,seval,eT,iR,e0,e3,e4,s3,s4,s11,s14,s58,e34,e35,hlt,ha,he]
    refine hK _ ?_
    clear hK K
    refine Wb ?_
    refine IWP.mid (fun x=>x.env 4=.one (.ptr 4 1 0 0)∧x.env 14=.one (.ptr 14 1 0 0)∧x.env 12=Aa true∧x.env 13=AO e∧x.S 4=some (.box 37 [.st (.str ⟨#[]⟩),.full []])∧x.S 14=some (.box 37 [.st (.str t.name),.row 58 t.args.length])∧x.S 58=some (.mrow 37 2 ((t.args.set k y).map Ap))) ?_ ?_
    ·repeat' with_reducible first | refine W ?_ | refine Z0 ?_ | ((first | refine Wo fun K hK=>?_ | refine Wp ?_ | refine Wq ?_ | refine Wr ?_);(try simp only [go_sem,fN,seval,eT,iR,e0,e3,e4,s3,s4,s11,s14,s58,e34,e35,hlt,ha,he,dT,dF,nL]);(repeat refine Ai ?_);(try (refine hK _ ?_;clear hK K));try refine iC ?_)
     refine ⟨rfl,?_⟩
     simp only [go_sem,fN,seval,eT,iR,e0,e3,e4,s3,s4,s11,s14,s58,e34,e35,hlt,ha,he]
     rw [List.map_set,Af]
    rintro ⟨env,S⟩ ⟨e4,e14,e12,e13,s4,s14,s58⟩
    simp only at e4 e14 e12 e13 s4 s14 s58
    refine IWP.ghost (Ac.share (id:=58) s58) ?_
    have hl1:(t.args.set k y).length=t.args.length:=by simp
    repeat' with_reducible first | refine W ?_ | refine Z0 ?_ | ((first | refine Wo fun K hK=>?_ | refine Wp ?_ | refine Wq ?_ | refine Wr ?_);(try simp only [go_sem,fN,seval,eT,iR,e4,e14,e12,e13,s4,s14,hl1,dT,dF,nL]);(repeat refine Ai ?_);(try (refine hK _ ?_;clear hK K));try refine iC ?_)
    simp only [go_sem,fN,seval,AN,AS.result,AB,AD,AK,e4,s4,hl1]
    first | rfl | (rw [he];rfl)
 ·rw [List.take_of_length_le (by omega)] at hno
  rw [Q1 hno]
  unfold EG
  repeat' with_reducible first | refine W ?_ | refine Z0 ?_ | ((first | refine Wo fun K hK=>?_ | refine Wp ?_ | refine Wq ?_ | refine Wr ?_);(try simp only [go_sem,fN,seval,eT,iR,e0,e3,e4,s3,s4,s11,s14,s58,e34,e35,hlt,dT,dF,nL]);(repeat refine Ai ?_);(try (refine hK _ ?_;clear hK K));try refine iC ?_)
  simp only [go_sem,fN,seval,AN,AS.result,AB,AD,AK,e4,s4]

end Go.Proofs.YtbhnmjkmieiadaaGreatDoor
