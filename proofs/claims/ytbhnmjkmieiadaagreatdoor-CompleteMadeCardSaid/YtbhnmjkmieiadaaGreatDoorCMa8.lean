/-
  Part 8 of the texts. Conditions: none.
-/
import Derived.Test.YtbhnmjkmieiadaaGreatDoorCMa7
namespace Go.Proofs.YtbhnmjkmieiadaaGreatDoor
open Go Go.RowKit
set_option maxRecDepth 100000
def LM:IR :=
 (.seq (.ops [.i 2 (.mov (.c (.one (.full []))))]) (.seq (.ops [.i 3 (.mov (.c (.one (.full []))))]) (.seq (.seq (.ops [.i 4 (.mov (.n 0))]) (.block 0 (.loop (.seq (.seq (.ops [.m 7 4,.m 8 0,.i 9 (.len false (.t 8)),.i 10 (.bin .lss (.t 7) (.t 9))]) (.cond (.t 10) .skip (.exit 0))) (.seq (.block 1 (.seq (.ops [.m 13 3,.m 14 0,.m 15 4,.i 16 (.indexAddr 3 (.t 14) (.t 15)),.L 17 3 16,.i 18 (.buildSlice false 82 3 [.t 17]),.i 19 (.append true 82 3 56 (.t 13) (.t 18)),.m 3 19]) (.seq (.ops [.m 20 3,.i 21 (.len false (.t 20)),.i 22 (.bin .sub (.t 21) (.n 1)),.m 5 22]) (.block 2 (.loop (.seq (.seq (.ops [.m 23 5,.i 24 (.bin .gtr (.t 23) (.n 0)),.m 25 24,.mk (some 26) (some (25,true)) (.mov (.t 3)) .no,.mk (some 27) (some (25,true)) (.mov (.t 5)) .no,.mk (some 28) (some (25,true)) (.indexAddr 3 (.t 26) (.t 27)) .no,.mk (some 29) (some (25,true)) (.fieldAddr 0 (.t 28)) .no,.mk (some 30) (some (25,true)) (.load false 1 (.t 29)) .no,.mk (some 31) (some (25,true)) (.mov (.t 3)) .no,.mk (some 32) (some (25,true)) (.mov (.t 5)) .no,.mk (some 33) (some (25,true)) (.bin .sub (.t 32) (.n 1)) .no,.mk (some 34) (some (25,true)) (.indexAddr 3 (.t 31) (.t 33)) .no,.mk (some 35) (some (25,true)) (.fieldAddr 0 (.t 34)) .no,.mk (some 36) (some (25,true)) (.load false 1 (.t 35)) .no,.mk (some 37) (some (25,true)) (.bin .lss (.t 30) (.t 36)) .no,.i 38 (.pick (.t 25) (.t 37) (.c (.one (.st (.bool false)))))]) (.cond (.t 38) .skip (.exit 2))) (.seq (.block 3 (.seq (.ops [.m 41 3,.m 42 5,.i 43 (.indexAddr 3 (.t 41) (.t 42)),.L 44 3 43,.i 6 (.alloc 82 [.st (.str (ByteArray.mk (#[]))),.st (.str (ByteArray.mk (#[]))),.full []]),.s 3 6 44]) (.seq (.ops [.m 45 3,.m 46 5,.m 47 3,.m 48 5,.i 49 (.bin .sub (.t 48) (.n 1)),.i 50 (.indexAddr 3 (.t 47) (.t 49)),.L 51 3 50,.i 52 (.indexAddr 3 (.t 45) (.t 46)),.s 3 52 51]) (.ops [.m 53 3,.m 54 5,.i 55 (.bin .sub (.t 54) (.n 1)),.L 56 3 6,.i 57 (.indexAddr 3 (.t 53) (.t 55)),.s 3 57 56])))) (.ops [.m 39 5,.i 40 (.bin .sub (.t 39) (.n 1)),.m 5 40])))))))) (.ops [.m 11 4,.i 12 (.bin .add (.t 11) (.n 1)),.m 4 12])))))) (.seq (.ops [.m 58 3,.m 2 58]) .ret))))
theorem RO:OkF Tryz.prog 119 59 [28,34,43,50,52,57,19] LM [.t 2]:=.of Tryz.func119 rfl rfl (by kernel_rfl) rfl

set_option linter.unusedVariables false
set_option linter.unusedSimpArgs false
set_option maxHeartbeats 800000
theorem UP{l:List Bd}{b:Bd}{k:Nat}(hk:k≤l.length)(h1:∀c∈l.take k,sLt b.1 c.1=false)(h2:∀c,l[k]?=some c→sLt b.1 c.1=true):H8 b l=l.take k++b::l.drop k:=by
 induction l generalizing k with
 | nil=>simp[H8]
 | cons c l ih =>
  cases k with
  | zero =>
   unfold H8;rw[if_pos (h2 c rfl)];rfl
  | succ k =>
   unfold H8;rw[if_neg (by rw[h1 c (by simp)];simp),ih (by simpa using hk) (fun c hc=>h1 c (by simp[hc])) (fun c hc=>h2 c (by simpa using hc))];rfl
def C7(acc:List Bd)(b:Bd)(k:Nat):List Bd:=acc.take k++b::acc.drop k
theorem I2(acc:List Bd)(b:Bd)(k:Nat):(C7 acc b k).length=acc.length+1:=by
 have:=congrArg List.length (List.take_append_drop k acc);unfold C7;rw[List.length_append]at this ⊢;rw[List.length_cons];omega
theorem UK{acc:List Bd}{b:Bd}{k:Nat}(h:k≤acc.length):(C7 acc b k)[k]?=some b:=by
 unfold C7;rw[List.getElem?_append_right (by rw[List.length_take];omega),List.length_take,Nat.min_eq_left h,Nat.sub_self];rfl
theorem Rr{acc:List Bd}{b c:Bd}{k:Nat}(h:acc[k]?=some c):(C7 acc b (k+1))[k]?=some c:=by
 have:=B8 h;unfold C7;rw[List.getElem?_append_left (by rw[List.length_take];omega),List.getElem?_take,if_pos (by omega),h]
theorem Ra{acc:List Bd}{b c:Bd}{k:Nat}(h:acc[k]?=some c):((C7 acc b (k+1)).set (k+1) c).set k b=C7 acc b k:=by
 have hk:=B8 h;apply List.ext_getElem?;intro i;have hl:((C7 acc b (k+1)).set (k+1) c).length=acc.length+1:=by rw[List.length_set,I2]
 rw[List.getElem?_set,List.getElem?_set];unfold C7 at hl ⊢;by_cases h1:k=i
 ·subst h1;rw[if_pos rfl,if_pos (by rw[hl];omega),List.getElem?_append_right (by rw[List.length_take];omega),List.length_take,Nat.min_eq_left (by omega),Nat.sub_self];rfl
 ·rw[if_neg h1];by_cases h2:k+1=i
  ·subst h2;have e:=I2 acc b (k+1);unfold C7 at e;rw[if_pos rfl,if_pos (by rw[e];omega),List.getElem?_append_right (by rw[List.length_take];omega),List.length_take,Nat.min_eq_left (by omega),show k+1-k=1 by omega,List.getElem?_cons_succ,List.getElem?_drop,Nat.add_zero,h]
  ·rw[if_neg h2];rcases Nat.lt_or_ge i k with h3|h3
   ·rw[List.getElem?_append_left (by rw[List.length_take];omega),List.getElem?_append_left (by rw[List.length_take];omega),List.getElem?_take,List.getElem?_take,if_pos (by omega),if_pos h3]
   ·rw[List.getElem?_append_right (by rw[List.length_take];omega),List.getElem?_append_right (by rw[List.length_take];omega),List.length_take,List.length_take,Nat.min_eq_left (by omega),Nat.min_eq_left (by omega)];obtain⟨j,rfl⟩:∃j,i=k+2+j:=⟨i-(k+2),by omega⟩
    rw[show k+2+j-(k+1)=j+1 by omega,show k+2+j-k=j+1+1 by omega,List.getElem?_cons_succ,List.getElem?_cons_succ,List.getElem?_drop,List.getElem?_drop];congr 1;omega
theorem Rn(acc:List Bd)(b:Bd):C7 acc b acc.length=acc++[b]:=by
 unfold C7;rw[List.take_length,List.drop_length]
theorem O5(l:List Bd)(hn:Bg l)(hl:l.length≤100000):AW Tryz.prog 119 [ER l] (ER (BE l)):=by
 refine RO.ac fun C hC=>?_;unfold LM;refine Gg ?_;refine IWP.ghost (AY.ownM 3 900 82 3 rfl rfl (by rw[hC];decide)) ?_;refine IWP.loopD [6] (fun m s=>∃i,i≤l.length∧m=l.length-i∧s.env 0=ER l∧s.env 3=.one (.row 900 i)∧s.env 4=AO i∧s.S 900=some (Bl (BE (l.take i)))∧s.S 6=none) l.length ⟨0,Nat.zero_le _,rfl,rfl,rfl,rfl,rfl,rfl⟩ ?_;rintro m ⟨env,S⟩ ⟨i,hi,rfl,e0,e3,e4,s900,s6⟩;simp only at e0 e3 e4 s900 s6;have hlen:(BE (l.take i)).length=i:=by rw[Bi,List.length_take];omega
 have hnt:∀j,Bg (l.take j):=fun j=>by
  unfold Bg;rw[List.map_take];exact hn.sublist (List.take_sublist _ _)
 by_cases hlt:(i:Int)<l.length
 ·obtain⟨b,hb⟩:=Aa (show i<l.length by omega);have ho:=Bz (hnt i);have hmap:(BE (l.take i)).map BZ++[BZ b]=(C7 (BE (l.take i)) b i).map BZ:=by
   have:=Rn (BE (l.take i)) b;rw[hlen]at this;rw[this,List.map_append];rfl
  have hsnoc:BE (l.take (i+1))=H8 b (BE (l.take i)):=by rw[Ab hb,UO]
  generalize hacc:BE (l.take i)=acc at *;refine Gf (F9 e0 e3 e4 s900 s6 hlt hb hlen @BZ.eq_1) ?_;refine IWP.loopD [6] (fun m s=>∃k,k≤i∧m=k∧(∀c∈acc.drop k,sLt b.1 c.1=true)∧s.env 0=ER l∧s.env 3=.one (.row 900 (i+1))∧s.env 4=AO i∧s.env 5=AO k∧s.S 900=some (Bl (C7 acc b k))∧s.S 6=none) i ⟨i,Nat.le_refl _,rfl,?_,?_⟩ ?_
  ·rw[←hlen,List.drop_length];simp
  ·simp only[go_sem,fN,seval,eT,iR,e0,e3,e4,s6,hlen];refine⟨by congr 3;omega,?_⟩;show AJ.mrow _ _ (acc.map BZ++[BZ b])=_
   rw[hmap]
  rintro k ⟨env2,S2⟩ ⟨_,hk,rfl,hd,e0,e3,e4,e5,s900,s6⟩;simp only at e0 e3 e4 e5 s900 s6;have hcl:=I2 acc b k;rw[hlen]at hcl;have hck:=UK (b:=b) (show k≤acc.length by omega);have hend:(∀c,acc[k-1]?=some c→0<k→sLt b.1 c.1=false)→H8 b acc=C7 acc b k:=fun h=>by
   refine UP (by omega) (fun c hc=>?_) fun c hc=>hd c (by rw[A5 hc];simp);cases k with
   | zero=>simp at hc
   | succ k =>
    obtain⟨p,hp⟩:=Aa (show k<acc.length by omega);have h1:=h p hp (by omega);obtain⟨j,hj,rfl⟩:=List.getElem_of_mem hc;rw[List.length_take]at hj;rw[List.getElem_take];have hcj:acc[j]?=some acc[j]:=List.getElem?_eq_getElem (by omega);cases hx:sLt b.1 acc[j].1 with
    | false=>rfl
    | true =>
     rcases Nat.lt_or_ge j k with h3|h3
     ·have:=EF hx (LQ ho hcj hp h3);rw[this]at h1;cases h1
     ·have e:j=k:=by omega
      subst e;rw[hp]at hcj;cases hcj;rw[hx]at h1;cases h1
  by_cases hk0:0<(k:Int)
  ·obtain⟨k,rfl⟩:∃q,k=q+1:=⟨k-1,by omega⟩
   obtain⟨c,hc⟩:=Aa (show k<acc.length by omega);have hcp:=Rr (b:=b) hc;have hz:(((k+1:Nat):Int)-1).toNat=k:=by omega
   have hz0:(0:Int)≤((k+1:Nat):Int)-1:=by omega
   have hl1:k+1<i+1:=by omega
   have hl2:k<i+1:=by omega
   cases hx:sLt b.1 c.1 with
   | true =>
    have hkk:¬k+1=k:=by omega
    repeat' with_reducible first|refine W ?_|refine Z0 ?_|((first|refine Wo fun K hK=>?_|refine Wp ?_|refine Wq ?_|refine Wr ?_);(try simp only[go_sem,fN,seval,eT,iR,e0,e3,e4,e5,s900,s6,hk0,hck,hcp,hz,hz0,hcl,hl1,hl2,hx,BZ,List.length_set,List.getElem?_set,hkk,dT,dF,nL]);(repeat refine Ai ?_);(try(refine hK _ ?_;clear hK K));try refine iC ?_)
    refine AE ⟨k,by omega,k,by omega,rfl,fun d hd'=>?_,?_⟩
    ·rw[A5 hc]at hd';rcases List.mem_cons.1 hd' with rfl|hd'
     ·exact hx
     ·exact hd d hd'
    ·simp only[go_sem,fN,seval,AS.drop,AT,AC.clears,AC.clear,AC.highs,AC.high,zD,AV.purge,AV.purges,AC.purge,AJ.purge,Nat.reduceBEq,eT,iR,e0,e3,e4,e5,s6];refine⟨by congr 3;omega,?_⟩;show AJ.mrow _ _ ((((C7 acc b (k+1)).map BZ).set (k+1) (BZ c)).set k (BZ b))=_
     rw[←List.map_set,←List.map_set,Ra hc]
   | false =>
    refine Gf (F16 e0 e3 e4 e5 s900 s6 hk0 hck hcp hz hz0 hcl hl1 hl2 hx @BZ.eq_1) ?_;refine AE ⟨l.length-(i+1),by omega,i+1,by omega,rfl,?_⟩;rw[hsnoc,hend fun d hd' _=>by
     rw[show k+1-1=k by omega,hc]at hd';cases hd';exact hx]
    simp only[go_sem,fN,seval,AS.drop,AT,AC.clears,AC.clear,AC.highs,AC.high,zD,AV.purge,AV.purges,AC.purge,AJ.purge,Nat.reduceBEq,eT,iR,e0,e3,e4,s900,s6];congr 3
  ·refine Gf (F7 e0 e3 e4 e5 s900 s6 hk0) ?_;refine AE ⟨l.length-(i+1),by omega,i+1,by omega,rfl,?_⟩;rw[hsnoc,hend fun d hd' h=>by omega];simp only[go_sem,fN,seval,AS.drop,AT,AC.clears,AC.clear,AC.highs,AC.high,zD,AV.purge,AV.purges,AC.purge,AJ.purge,Nat.reduceBEq,eT,iR,e0,e3,e4,s900,s6];congr 3
 ·refine IWP.ghost (AY.share (id:=900) s900) ?_;refine Gf (F4 e0 e3 e4 hlt) ?_;simp only[go_sem,fN,seval,AQ,AS.result,AB,AD,AM,hlen];rw[List.take_of_length_le (by omega)]

def Hc:IR :=
 (.seq (.ops [.i 2 (.mov (.n 0))]) (.seq (.seq (.ops [.m 8 0,.i 9 (.len false (.t 8)),.i 10 (.bin .gtr (.t 9) (.n 40))]) (.cond (.t 10) (.seq (.ops [.i 2 (.mov (.n 3))]) .ret) .skip)) (.seq (.seq (.ops [.m 11 0,.i 12 (.len false (.t 11)),.i 13 (.mov (.n 0))]) (.block 0 (.loop (.seq (.ops [.i 14 (.bin .lss (.t 13) (.t 12))]) (.seq (.cond (.t 14) .skip (.exit 0)) (.seq (.block 1 (.seq (.ops [.i 15 (.indexAddr 4 (.t 11) (.t 13)),.L 16 4 15,.i 4 (.alloc 40 [.st (.str (ByteArray.mk (#[]))),.full [],.st (.str (ByteArray.mk (#[]))),.full []]),.s 4 4 16]) (.seq (.ops [.f 17 0 4,.L 18 2 17,.f 19 2 4,.L 20 2 19,.i 21 (.buildSlice false 37 2 [.t 18,.t 20]),.i 22 (.len false (.t 21)),.i 23 (.mov (.n 0))]) (.block 2 (.loop (.seq (.ops [.i 24 (.bin .lss (.t 23) (.t 22))]) (.seq (.cond (.t 24) .skip (.exit 2)) (.seq (.block 3 (.seq (.ops [.i 25 (.indexAddr 2 (.t 21) (.t 23)),.L 26 2 25,.i 6 (.alloc 37 [.st (.str (ByteArray.mk (#[]))),.full []]),.s 2 6 26]) (.seq (.ops [.L 27 2 6,.i 28 (.call 46 [.t 27]),.m 7 28]) (.seq (.ops [.m 29 7,.i 30 (.bin .neq (.t 29) (.n 0))]) (.cond (.t 30) (.seq (.ops [.m 31 7,.m 2 31]) .ret) .skip))))) (.ops [.i 32 (.bin .add (.t 23) (.n 1)),.m 23 32]))))))))) (.ops [.i 33 (.bin .add (.t 13) (.n 1)),.m 13 33]))))))) (.seq (.ops [.i 2 (.mov (.n 0))]) .ret))))
theorem Mn:OkF Tryz.prog 32 34 [] Hc [.t 2]:=.of Tryz.func32 rfl rfl (by kernel_rfl) rfl
def Gj:IR :=
 (.seq (.ops [.i 3 (.box 37 (.t 1)),.i 4 (.mov (.c (.one (.st (.bool false)))))]) (.seq (.seq (.ops [.f 7 0 3,.l 8 7,.m 9 0,.i 10 (.bin .eql (.t 8) (.t 9))]) (.cond (.t 10) (.seq (.ops [.i 4 (.mov (.c (.one (.st (.bool true)))))]) .ret) .skip)) (.seq (.seq (.ops [.f 11 1 3,.l 12 11,.i 13 (.len false (.t 12)),.i 14 (.mov (.n 0))]) (.block 0 (.loop (.seq (.ops [.i 15 (.bin .lss (.t 14) (.t 13))]) (.seq (.cond (.t 15) .skip (.exit 0)) (.seq (.block 1 (.seq (.ops [.i 16 (.indexAddr 2 (.t 12) (.t 14)),.L 17 2 16,.i 6 (.alloc 37 [.st (.str (ByteArray.mk (#[]))),.full []]),.s 2 6 17]) (.seq (.ops [.m 18 0,.L 19 2 6,.i 20 (.call 116 [.t 18,.t 19])]) (.cond (.t 20) (.seq (.ops [.i 4 (.mov (.c (.one (.st (.bool true)))))]) .ret) .skip)))) (.ops [.i 21 (.bin .add (.t 14) (.n 1)),.m 14 21]))))))) (.seq (.ops [.i 4 (.mov (.c (.one (.st (.bool false)))))]) .ret))))
theorem Lr:OkF Tryz.prog 116 22 [] Gj [.t 4]:=.of Tryz.func116 rfl rfl (by kernel_rfl) rfl
def HU:IR :=
 (.seq (.ops [.i 2 (.mov (.c (.one (.full [])))),.i 3 (.mov (.n 0))]) (.seq (.ops [.i 4 (.mov (.c (.one (.full []))))]) (.seq (.ops [.i 5 (.mov (.c (.one (.full []))))]) (.seq (.seq (.ops [.m 15 0,.i 16 (.len false (.t 15)),.i 17 (.bin .sub (.t 16) (.n 1)),.m 6 17]) (.block 0 (.loop (.seq (.seq (.ops [.m 18 6,.i 19 (.bin .geq (.t 18) (.n 0))]) (.cond (.t 19) .skip (.exit 0))) (.seq (.block 1 (.ops [.m 22 5,.m 23 0,.m 24 6,.i 25 (.indexAddr 4 (.t 23) (.t 24)),.L 26 4 25,.i 27 (.buildSlice false 40 4 [.t 26]),.i 28 (.appP 40 4 80 (.t 22) (.t 27)),.m 5 28])) (.ops [.m 20 6,.i 21 (.bin .sub (.t 20) (.n 1)),.m 6 21])))))) (.seq (.block 2 (.loop (.seq (.seq (.ops [.m 29 5,.i 30 (.len false (.t 29)),.i 31 (.bin .gtr (.t 30) (.n 0))]) (.cond (.t 31) .skip (.exit 2))) (.block 3 (.seq (.ops [.m 32 5,.m 33 5,.i 34 (.len false (.t 33)),.i 35 (.bin .sub (.t 34) (.n 1)),.i 36 (.indexP 4 (.t 32) (.t 35)),.L 37 4 36,.i 7 (.alloc 40 [.st (.str (ByteArray.mk (#[]))),.full [],.st (.str (ByteArray.mk (#[]))),.full []]),.s 4 7 37]) (.seq (.ops [.m 38 5,.m 39 5,.i 40 (.len false (.t 39)),.i 41 (.bin .sub (.t 40) (.n 1)),.i 42 (.cutP 4 (.t 38) (.t 41)),.m 5 42]) (.seq (.ops [.m 44 4,.f 45 0 7,.L 46 2 45,.i 47 (.callR 110 [.t 44,.t 46]),.m 43 47,.i 48 (.extract 0 (.t 43)),.i 49 (.extract 1 (.t 43)),.i 8 (.alloc 37 [.st (.str (ByteArray.mk (#[]))),.full []]),.s 2 8 48,.m 9 49]) (.seq (.ops [.m 51 4,.f 52 2 7,.L 53 2 52,.i 54 (.callR 110 [.t 51,.t 53]),.m 50 54,.i 55 (.extract 0 (.t 50)),.i 56 (.extract 1 (.t 50)),.i 10 (.alloc 37 [.st (.str (ByteArray.mk (#[]))),.full []]),.s 2 10 55,.m 11 56]) (.seq (.seq (.ops [.m 57 9,.i 58 (.un .not (.t 57)),.m 59 58,.mk (some 60) (some (59,false)) (.mov (.t 11)) .no,.mk (some 61) (some (59,false)) (.un .not (.t 60)) .no,.i 62 (.pick (.t 59) (.c (.one (.st (.bool true)))) (.t 61))]) (.cond (.t 62) (.seq (.ops [.i 2 (.mov (.c (.one (.full [])))),.i 3 (.mov (.n 8))]) .ret) .skip)) (.block 4 (.seq (.ops [.f 86 0 8,.l 87 86,.i 88 (.call 67 [.t 87]),.m 89 88,.mk (some 90) (some (89,true)) (.fieldAddr 0 (.t 8)) .no,.mk (some 91) (some (89,true)) (.load false 1 (.t 90)) .no,.mk (some 92) (some (89,true)) (.fieldAddr 0 (.t 10)) .no,.mk (some 93) (some (89,true)) (.load false 1 (.t 92)) .no,.mk (some 94) (some (89,true)) (.bin .eql (.t 91) (.t 93)) .no,.i 95 (.pick (.t 89) (.t 94) (.c (.one (.st (.bool false))))),.m 85 95]) (.cond (.t 85) .skip (.seq (.ops [.f 97 0 8,.l 98 97,.i 99 (.call 67 [.t 98]),.m 100 99,.mk (some 101) (some (100,false)) (.fieldAddr 0 (.t 10)) .no,.mk (some 102) (some (100,false)) (.load false 1 (.t 101)) .no,.mk (some 103) (some (100,false)) (.call 67 [.t 102]) .no,.i 104 (.pick (.t 100) (.c (.one (.st (.bool true)))) (.t 103)),.m 96 104]) (.cond (.t 96) (.seq (.seq (.ops [.f 105 0 8,.l 106 105,.i 107 (.call 67 [.t 106]),.i 108 (.un .not (.t 107))]) (.cond (.t 108) (.ops [.L 109 2 10,.L 110 2 8,.s 2 8 109,.s 2 10 110]) .skip)) (.seq (.seq (.ops [.f 111 0 8,.l 112 111,.L 113 2 10,.i 114 (.call 116 [.t 112,.t 113])]) (.cond (.t 114) (.seq (.ops [.i 2 (.mov (.c (.one (.full [])))),.i 3 (.mov (.n 6))]) .ret) .skip)) (.seq (.ops [.f 115 0 8,.l 116 115,.L 117 2 10,.i 118 (.build [.st (.str (ByteArray.mk (#[]))),.st (.str (ByteArray.mk (#[]))),.full []] [(0,1,.t 116),(1,2,.t 117)]),.i 119 (.buildSlice false 82 3 [.t 118]),.m 12 119]) (.seq (.seq (.ops [.m 120 4,.i 121 (.len false (.t 120)),.i 122 (.mov (.n 0))]) (.block 7 (.loop (.seq (.ops [.i 123 (.bin .lss (.t 122) (.t 121))]) (.seq (.cond (.t 123) .skip (.exit 7)) (.seq (.block 8 (.seq (.ops [.m 124 122,.m 13 124]) (.seq (.ops [.m 126 4,.m 127 13,.m 128 12,.m 129 4,.m 130 13,.i 131 (.indexAddr 3 (.t 129) (.t 130)),.f 132 1 131,.L 133 2 132,.i 134 (.call 110 [.t 128,.t 133]),.m 125 134,.i 135 (.extract 0 (.t 125)),.i 136 (.extract 1 (.t 125)),.i 137 (.indexAddr 3 (.t 126) (.t 127)),.f 138 1 137,.s 2 138 135,.m 9 136]) (.seq (.ops [.m 139 9,.i 140 (.un .not (.t 139))]) (.cond (.t 140) (.seq (.ops [.i 2 (.mov (.c (.one (.full [])))),.i 3 (.mov (.n 8))]) .ret) .skip))))) (.ops [.i 141 (.bin .add (.t 122) (.n 1)),.m 122 141]))))))) (.ops [.m 142 4,.m 143 12,.i 144 (.indexAddr 3 (.t 143) (.n 0)),.L 145 3 144,.i 146 (.buildSlice false 82 3 [.t 145]),.i 147 (.append false 82 3 56 (.t 142) (.t 146)),.i 148 (.callS 117 [.t 147]),.m 4 148]))))) (.seq (.ops [.f 150 0 8,.l 151 150,.f 152 0 10,.l 153 152,.i 154 (.bin .neq (.t 151) (.t 153)),.m 155 154,.mk (some 156) (some (155,false)) (.fieldAddr 1 (.t 8)) .no,.mk (some 157) (some (155,false)) (.load false 1 (.t 156)) .no,.mk (some 158) (some (155,false)) (.len false (.t 157)) .no,.mk (some 159) (some (155,false)) (.fieldAddr 1 (.t 10)) .no,.mk (some 160) (some (155,false)) (.load false 1 (.t 159)) .no,.mk (some 161) (some (155,false)) (.len false (.t 160)) .no,.mk (some 162) (some (155,false)) (.bin .neq (.t 158) (.t 161)) .no,.i 163 (.pick (.t 155) (.c (.one (.st (.bool true)))) (.t 162)),.m 149 163]) (.cond (.t 149) (.seq (.ops [.i 2 (.mov (.c (.one (.full [])))),.i 3 (.mov (.n 5))]) .ret) (.seq (.ops [.f 63 1 8,.l 64 63,.i 65 (.len false (.t 64)),.i 66 (.bin .sub (.t 65) (.n 1)),.m 14 66]) (.block 5 (.loop (.seq (.seq (.ops [.m 67 14,.i 68 (.bin .geq (.t 67) (.n 0))]) (.cond (.t 68) .skip (.exit 5))) (.seq (.block 6 (.ops [.m 71 5,.f 72 1 8,.l 73 72,.m 74 14,.i 75 (.indexAddr 2 (.t 73) (.t 74)),.L 76 2 75,.f 77 1 10,.l 78 77,.m 79 14,.i 80 (.indexAddr 2 (.t 78) (.t 79)),.L 81 2 80,.i 82 (.build [.st (.str (ByteArray.mk (#[]))),.full [],.st (.str (ByteArray.mk (#[]))),.full []] [(0,2,.t 76),(2,2,.t 81)]),.i 83 (.buildSlice false 40 4 [.t 82]),.i 84 (.appP 40 4 80 (.t 71) (.t 83)),.m 5 84])) (.ops [.m 69 14,.i 70 (.bin .sub (.t 69) (.n 1)),.m 14 70])))))))))))))))))))))) (.seq (.ops [.m 164 4,.m 2 164,.i 3 (.mov (.n 0))]) .ret))))))
theorem Nq:OkF Tryz.prog 86 165 [30000028,30000036,30000042,30000084,40000047,40000054,148] HU [.t 2,.t 3]:=.of Tryz.func86 rfl rfl (by kernel_rfl) rfl
def Ie:IR :=
 (.seq (.ops [.i 2 (.mov (.n 0))]) (.seq (.seq (.ops [.m 5 0,.i 6 (.len false (.t 5)),.i 7 (.bin .gtr (.t 6) (.n 40))]) (.cond (.t 7) (.seq (.ops [.i 2 (.mov (.n 3))]) .ret) .skip)) (.seq (.seq (.ops [.i 3 (.mov (.n 0))]) (.block 0 (.loop (.seq (.seq (.ops [.m 8 3,.m 9 0,.i 10 (.len false (.t 9)),.i 11 (.bin .lss (.t 8) (.t 10))]) (.cond (.t 11) .skip (.exit 0))) (.seq (.block 1 (.seq (.ops [.m 14 0,.m 15 3,.i 16 (.indexAddr 4 (.t 14) (.t 15)),.f 17 0 16,.L 18 2 17,.m 19 0,.m 20 3,.i 21 (.indexAddr 4 (.t 19) (.t 20)),.f 22 2 21,.L 23 2 22,.i 24 (.call 52 [.t 18,.t 23]),.m 4 24]) (.seq (.ops [.m 25 4,.i 26 (.bin .neq (.t 25) (.n 0))]) (.cond (.t 26) (.seq (.ops [.m 27 4,.m 2 27]) .ret) .skip)))) (.ops [.m 12 3,.i 13 (.bin .add (.t 12) (.n 1)),.m 3 13])))))) (.seq (.ops [.i 2 (.mov (.n 0))]) .ret))))
theorem OG:OkF Tryz.prog 25 28 [] Ie [.t 2]:=.of Tryz.func25 rfl rfl (by kernel_rfl) rfl
def JB:IR :=
 (.seq (.ops [.i 2 (.mov (.c (.one (.full [])))),.i 3 (.mov (.n 0))]) (.seq (.ops [.i 4 (.mov (.c (.one (.full []))))]) (.seq (.block 0 (.loop (.seq (.seq (.ops [.m 15 0,.i 16 (.len false (.t 15)),.i 17 (.bin .gtr (.t 16) (.n 0))]) (.cond (.t 17) .skip (.exit 0))) (.block 1 (.seq (.ops [.m 19 4,.m 20 0,.i 21 (.indexAddr 4 (.t 20) (.n 0)),.f 22 0 21,.L 23 2 22,.i 24 (.call 92 [.t 19,.t 23]),.m 18 24,.i 25 (.extract 0 (.t 18)),.i 26 (.extract 1 (.t 18)),.i 5 (.alloc 37 [.st (.str (ByteArray.mk (#[]))),.full []]),.s 2 5 25,.m 6 26]) (.seq (.seq (.ops [.m 27 6,.i 28 (.un .not (.t 27))]) (.cond (.t 28) (.seq (.ops [.i 2 (.mov (.c (.one (.full [])))),.i 3 (.mov (.n 8))]) .ret) .skip)) (.seq (.ops [.m 30 4,.m 31 0,.i 32 (.indexAddr 4 (.t 31) (.n 0)),.f 33 2 32,.L 34 2 33,.i 35 (.call 92 [.t 30,.t 34]),.m 29 35,.i 36 (.extract 0 (.t 29)),.i 37 (.extract 1 (.t 29)),.i 7 (.alloc 37 [.st (.str (ByteArray.mk (#[]))),.full []]),.s 2 7 36,.m 6 37]) (.seq (.seq (.ops [.m 38 6,.i 39 (.un .not (.t 38))]) (.cond (.t 39) (.seq (.ops [.i 2 (.mov (.c (.one (.full [])))),.i 3 (.mov (.n 8))]) .ret) .skip)) (.seq (.ops [.m 40 0,.i 41 (.sliceL 4 (.t 40) (some (.n 1)) none),.m 0 41]) (.seq (.seq (.ops [.f 42 0 5,.l 43 42,.i 44 (.call 50 [.t 43]),.m 45 44,.mk (some 46) (some (45,true)) (.fieldAddr 0 (.t 5)) .no,.mk (some 47) (some (45,true)) (.load false 1 (.t 46)) .no,.mk (some 48) (some (45,true)) (.fieldAddr 0 (.t 7)) .no,.mk (some 49) (some (45,true)) (.load false 1 (.t 48)) .no,.mk (some 50) (some (45,true)) (.bin .eql (.t 47) (.t 49)) .no,.i 51 (.pick (.t 45) (.t 50) (.c (.one (.st (.bool false)))))]) (.cond (.t 51) (.exit 1) .skip)) (.seq (.seq (.ops [.f 52 0 5,.l 53 52,.i 54 (.call 50 [.t 53]),.i 55 (.un .not (.t 54)),.m 56 55,.mk (some 57) (some (56,true)) (.fieldAddr 0 (.t 7)) .no,.mk (some 58) (some (56,true)) (.load false 1 (.t 57)) .no,.mk (some 59) (some (56,true)) (.call 50 [.t 58]) .no,.i 60 (.pick (.t 56) (.t 59) (.c (.one (.st (.bool false)))))]) (.cond (.t 60) (.ops [.L 61 2 7,.L 62 2 5,.s 2 5 61,.s 2 7 62]) .skip)) (.seq (.seq (.ops [.f 63 0 5,.l 64 63,.i 65 (.call 50 [.t 64])]) (.cond (.t 65) (.seq (.seq (.ops [.f 66 0 5,.l 67 66,.L 68 2 7,.i 69 (.call 60 [.t 68]),.i 70 (.call 51 [.t 67,.t 69])]) (.cond (.t 70) (.seq (.ops [.i 2 (.mov (.c (.one (.full [])))),.i 3 (.mov (.n 6))]) .ret) .skip)) (.seq (.ops [.f 71 0 5,.l 72 71,.L 73 2 7,.i 74 (.build [.st (.str (ByteArray.mk (#[]))),.st (.str (ByteArray.mk (#[]))),.full []] [(0,1,.t 72),(1,2,.t 73)]),.i 75 (.buildSlice false 82 3 [.t 74]),.m 8 75]) (.seq (.ops [.i 9 (.mov (.c (.one (.full []))))]) (.seq (.seq (.ops [.i 10 (.mov (.n 0))]) (.block 2 (.loop (.seq (.seq (.ops [.m 76 10,.m 77 4,.i 78 (.len false (.t 77)),.i 79 (.bin .lss (.t 76) (.t 78))]) (.cond (.t 79) .skip (.exit 2))) (.seq (.block 3 (.seq (.ops [.m 83 8,.m 84 4,.m 85 10,.i 86 (.indexAddr 3 (.t 84) (.t 85)),.f 87 1 86,.L 88 2 87,.i 89 (.call 92 [.t 83,.t 88]),.m 82 89,.i 90 (.extract 0 (.t 82)),.i 91 (.extract 1 (.t 82)),.i 11 (.alloc 37 [.st (.str (ByteArray.mk (#[]))),.full []]),.s 2 11 90,.m 12 91]) (.seq (.seq (.ops [.m 92 12,.i 93 (.un .not (.t 92))]) (.cond (.t 93) (.seq (.ops [.i 2 (.mov (.c (.one (.full [])))),.i 3 (.mov (.n 8))]) .ret) .skip)) (.ops [.m 94 9,.m 95 4,.m 96 10,.i 97 (.indexAddr 3 (.t 95) (.t 96)),.f 98 0 97,.l 99 98,.L 100 2 11,.i 101 (.build [.st (.str (ByteArray.mk (#[]))),.st (.str (ByteArray.mk (#[]))),.full []] [(0,1,.t 99),(1,2,.t 100)]),.i 102 (.buildSlice false 82 3 [.t 101]),.i 103 (.append false 82 3 56 (.t 94) (.t 102)),.m 9 103])))) (.ops [.m 80 10,.i 81 (.bin .add (.t 80) (.n 1)),.m 10 81])))))) (.seq (.ops [.m 104 9,.m 105 8,.i 106 (.indexAddr 3 (.t 105) (.n 0)),.L 107 3 106,.i 108 (.buildSlice false 82 3 [.t 107]),.i 109 (.append false 82 3 56 (.t 104) (.t 108)),.i 110 (.call 119 [.t 109]),.m 4 110]) (.exit 1)))))) .skip)) (.seq (.seq (.ops [.f 111 0 5,.l 112 111,.f 113 0 7,.l 114 113,.i 115 (.bin .neq (.t 112) (.t 114)),.m 116 115,.mk (some 117) (some (116,false)) (.fieldAddr 1 (.t 5)) .no,.mk (some 118) (some (116,false)) (.load false 1 (.t 117)) .no,.mk (some 119) (some (116,false)) (.len false (.t 118)) .no,.mk (some 120) (some (116,false)) (.fieldAddr 1 (.t 7)) .no,.mk (some 121) (some (116,false)) (.load false 1 (.t 120)) .no,.mk (some 122) (some (116,false)) (.len false (.t 121)) .no,.mk (some 123) (some (116,false)) (.bin .neq (.t 119) (.t 122)) .no,.i 124 (.pick (.t 116) (.c (.one (.st (.bool true)))) (.t 123))]) (.cond (.t 124) (.seq (.ops [.i 2 (.mov (.c (.one (.full [])))),.i 3 (.mov (.n 5))]) .ret) .skip)) (.seq (.ops [.i 13 (.mov (.c (.one (.full []))))]) (.seq (.seq (.ops [.i 14 (.mov (.n 0))]) (.block 4 (.loop (.seq (.seq (.ops [.m 125 14,.f 126 1 5,.l 127 126,.i 128 (.len false (.t 127)),.i 129 (.bin .lss (.t 125) (.t 128))]) (.cond (.t 129) .skip (.exit 4))) (.seq (.block 5 (.ops [.m 132 13,.f 133 1 5,.l 134 133,.m 135 14,.i 136 (.indexAddr 2 (.t 134) (.t 135)),.L 137 2 136,.f 138 1 7,.l 139 138,.m 140 14,.i 141 (.indexAddr 2 (.t 139) (.t 140)),.L 142 2 141,.i 143 (.build [.st (.str (ByteArray.mk (#[]))),.full [],.st (.str (ByteArray.mk (#[]))),.full []] [(0,2,.t 137),(2,2,.t 142)]),.i 144 (.buildSlice false 40 4 [.t 143]),.i 145 (.append false 40 4 80 (.t 132) (.t 144)),.m 13 145])) (.ops [.m 130 14,.i 131 (.bin .add (.t 130) (.n 1)),.m 14 131])))))) (.ops [.m 146 13,.m 147 0,.i 148 (.append false 40 4 80 (.t 146) (.t 147)),.m 0 148])))))))))))))))) (.seq (.ops [.m 149 4,.m 2 149,.i 3 (.mov (.n 0))]) .ret))))
theorem Qt:OkF Tryz.prog 96 150 [] JB [.t 2,.t 3]:=.of Tryz.func96 rfl rfl (by kernel_rfl) rfl



theorem Zo(x:ByteArray)(t:Tm):AW Tryz.prog 116 [Bs x,aTm t] (AZ (occ x t)):=by
 induction h:SizeOf.sizeOf t using Nat.strongRecOn generalizing t with
 | _ N ih =>
 subst h;rw[NC];refine Lr.ac fun C hC=>?_;unfold Gj;refine IWP.learn 1 (by omega) fun hkn=>?_;have hkn:=F_ hkn;by_cases hn:t.name=x
 ·refine Gf hn ?_;simp only[go_sem,fN,seval,AQ,AS.result,AB,AD,AM];rw[Bool.true_or]
 rw[decide_eq_false hn,Bool.false_or];refine Gf hn ?_;refine IWP.loopD [6] (fun m s=>∃k,k≤t.args.length∧m=t.args.length-k∧(t.args.take k).any (occ x)=false∧s.env 0=Bs x∧s.env 12=.one (.st (.list (t.args.map Al)))∧s.env 13=AO t.args.length∧s.env 14=AO k∧s.S 6=none) t.args.length ⟨0,Nat.zero_le _,rfl,rfl,rfl,rfl,rfl,rfl,rfl⟩ ?_;rintro m ⟨env,S⟩ ⟨k,hk,rfl,h0,e0,e12,e13,e14,s6⟩;simp only at e0 e12 e13 e14 s6;by_cases hlt:(k:Int)<t.args.length
 ·obtain⟨a,ha⟩:=Aa (show k<t.args.length by omega);repeat' first|refine Gf (F7 e0 e12 e13 e14 s6 hlt ha) ?_|refine Mm fun K hK=>?_
  refine⟨_,ih _ (Tm.lt_of_arg (AN ha)) a rfl,?_⟩;cases hc:occ x a with
  | true =>
   refine Gf hc ?_;simp only[go_sem,fN,seval,AQ,AS.result,AB,AD,AM];have:t.args.any (occ x)=true:=List.any_eq_true.2 ⟨a,AN ha,hc⟩
   rw[this]
  | false =>
   refine Gf (F6 hc e0 e12 e13 e14 s6) ?_;refine AE ⟨t.args.length-(k+1),by omega,k+1,by omega,rfl,by rw[Ab ha,List.any_append,h0];simp[hc],?_⟩;simp only[go_sem,fN,seval,AS.drop,AT,AC.clears,AC.clear,AC.highs,AC.high,zD,AV.purge,AV.purges,AC.purge,AJ.purge,Nat.reduceBEq,eT,iR,e0,e12,e13,e14,s6];congr 3
 ·refine Gf (F6 e0 e12 e13 e14 s6 hlt) ?_;simp only[go_sem,fN,seval,AQ,AS.result,AB,AD,AM];rw[List.take_of_length_le (by omega)]at h0;rw[h0]
def BP:List Pr→Int
 | []=>0
 | p::l=>if Bq p.1 p.2=0 then BP l else Bq p.1 p.2
def Bj(l:List Pr):Int:=if 40<l.length then 3 else BP l
theorem EX:∀(xs ys:List Pr),BP (xs++ys)=if BP xs=0 then BP ys else BP xs
 | [],ys=>by simp[BP]
 | p::xs,ys=>by
  simp only[List.cons_append,BP];by_cases h:Bq p.1 p.2=0
  ·simp only[h,if_true,EX]
  ·simp only[h,if_false]
theorem J0{xs:List Pr}{k:Nat}{p:Pr}(h:xs[k]?=some p)(h0:BP (xs.take k)=0):(Bq p.1 p.2=0→BP (xs.take (k+1))=0)∧(Bq p.1 p.2≠0→BP xs=Bq p.1 p.2):=by
 constructor
 ·intro hb;rw[Ab h,EX,if_pos h0];simp[BP,hb]
 ·intro hb;have e:BP xs=BP (xs.take k++xs.drop k):=by rw[List.take_append_drop]
  rw[e,EX,if_pos h0,A5 h];simp[BP,hb]
theorem OS{l:List Pr}(h:Bj l=0):l.length≤40∧∀p∈l,p.1.may=0∧p.2.may=0:=by
 unfold Bj at h;split at h
 ·cases h
 ·refine⟨by omega,?_⟩;have key:∀{l:List Pr},BP l=0→∀p∈l,p.1.may=0∧p.2.may=0:=by
   intro l;induction l with
   | nil=>simp
   | cons p l ih =>
    intro h q hq;simp only[BP]at h;split at h
    ·rename_i h2;rcases List.mem_cons.1 hq with rfl|hq
     ·unfold Bq at h2;split at h2
      ·exact⟨by assumption,h2⟩
      ·rename_i h3;exact absurd h2 h3
     ·exact ih h q hq
    ·rename_i h2;exact absurd h h2
  exact key h
theorem So(l:List Pr):AW Tryz.prog 25 [Be l] (AO (Bj l)):=by
 have hm:Bj l=if 40<l.length then 3 else BP l:=rfl;refine OG.ac fun C hC=>?_;unfold Ie;by_cases h40:(40:Int)<l.length
 ·refine Gf h40 ?_;simp only[go_sem,fN,seval,AQ,AS.result,AB,AD,AM];rw[hm,if_pos (by omega)]
 rw[if_neg (by omega)]at hm;refine Gf h40 ?_;refine IWP.loop (fun m s=>∃k,k≤l.length∧m=l.length-k∧BP (l.take k)=0∧s.env 0=Be l∧s.env 3=AO k) l.length ⟨0,Nat.zero_le _,rfl,rfl,rfl,rfl⟩ ?_;rintro m ⟨env,S⟩ ⟨k,hk,rfl,h0,e0,e3⟩;simp only at e0 e3;by_cases hlt:(k:Int)<l.length
 ·obtain⟨p,hp⟩:=Aa (show k<l.length by omega);obtain⟨g1,g2⟩:=J0 hp h0;repeat' first|refine Gf (F5 e0 e3 hlt hp @Ag.eq_1) ?_|refine Mm fun K hK=>?_
  refine⟨_,X5 p.1 p.2,?_⟩;by_cases hz:Bq p.1 p.2=0
  ·refine Gf (F3 hz e0 e3) ?_;refine AE ⟨l.length-(k+1),by omega,k+1,by omega,rfl,g1 hz,?_⟩;simp only[go_sem,fN,seval,eT,iR,e0,e3];congr 3
  ·refine Gf hz ?_;simp only[go_sem,fN,seval,AQ,AS.result,AB,AD,AM];rw[hm,g2 hz]
 ·refine Gf (F3 e0 e3 hlt) ?_;simp only[go_sem,fN,seval,AQ,AS.result,AB,AD,AM];rw[List.take_of_length_le (by omega)]at h0;rw[hm,h0]
theorem P8(l:List Pr):AW Tryz.prog 32 [Be l] (AO (Bj l)):=by
 have hm:Bj l=if 40<l.length then 3 else BP l:=rfl;refine Mn.ac fun C hC=>?_;unfold Hc;by_cases h40:(40:Int)<l.length
 ·refine Gf h40 ?_;simp only[go_sem,fN,seval,AQ,AS.result,AB,AD,AM];rw[hm,if_pos (by omega)]
 rw[if_neg (by omega)]at hm;refine Gf h40 ?_;refine IWP.loopD [4,6] (fun m s=>∃k,k≤l.length∧m=l.length-k∧BP (l.take k)=0∧s.env 11=Be l∧s.env 12=AO l.length∧s.env 13=AO k∧s.S 4=none∧s.S 6=none) l.length ⟨0,Nat.zero_le _,rfl,rfl,rfl,rfl,rfl,rfl,rfl⟩ ?_;rintro m ⟨env,S⟩ ⟨k,hk,rfl,h0,e11,e12,e13,s4,s6⟩;simp only at e11 e12 e13 s4 s6;by_cases hlt:(k:Int)<l.length
 ·obtain⟨p,hp⟩:=Aa (show k<l.length by omega);obtain⟨g1,g2⟩:=J0 hp h0;refine Gf (F8 e11 e12 e13 s4 s6 hlt hp @Ag.eq_1) ?_;refine IWP.loopD [6] (fun m s=>∃i,i≤2∧m=2-i∧(0<i→p.1.may=0)∧(1<i→p.2.may=0)∧s.env 11=Be l∧s.env 12=AO l.length∧s.env 13=AO k∧s.env 21=.one (.full [Al p.1,Al p.2])∧s.env 22=AO 2∧s.env 23=AO i∧s.S 6=none) 2 ⟨0,by omega,rfl,by simp,by simp,?_⟩ ?_
  ·simp only[go_sem,fN,seval,eT,iR,e11,e12,e13,s4,s6]
  rintro m ⟨env2,S2⟩ ⟨i,hi,rfl,q1,q2,e11,e12,e13,e21,e22,e23,s6⟩;simp only at e11 e12 e13 e21 e22 e23 s6;match i,hi,q1,q2,e23 with
  | 0,_,_,_,e23 =>
   repeat' first|refine Gf (F4 e21 e22 e23 s6) ?_|refine Mm fun K hK=>?_
   refine⟨_,Rk p.1,?_⟩;by_cases hz:p.1.may=0
   ·refine Gf (F8 hz e11 e12 e13 e21 e22 e23 s6) ?_;refine AE ⟨1,by omega,1,by omega,rfl,?_⟩;simp only[go_sem,fN,seval,AS.drop,AT,AC.clears,AC.clear,AC.highs,AC.high,zD,AV.purge,AV.purges,AC.purge,AJ.purge,Nat.reduceBEq,eT,iR,e11,e12,e13,e21,e22,e23,s6]
   ·refine Gf hz ?_;simp only[go_sem,fN,seval,AQ,AS.result,AB,AD,AM];have ht:Bq p.1 p.2=p.1.may:=if_neg hz;rw[hm,g2 (by rw[ht];exact hz),ht]
  | 1,_,q1,_,e23 =>
   have q1:=q1 (by omega);have ht:Bq p.1 p.2=p.2.may:=if_pos q1;repeat' first|refine Gf (F4 e21 e22 e23 s6) ?_|refine Mm fun K hK=>?_
   refine⟨_,Rk p.2,?_⟩;by_cases hz:p.2.may=0
   ·refine Gf (F8 hz e11 e12 e13 e21 e22 e23 s6) ?_;refine AE ⟨0,by omega,2,by omega,rfl,?_⟩;simp only[go_sem,fN,seval,AS.drop,AT,AC.clears,AC.clear,AC.highs,AC.high,zD,AV.purge,AV.purges,AC.purge,AJ.purge,Nat.reduceBEq,eT,iR,e11,e12,e13,e21,e22,e23,s6];exact q1
   ·refine Gf hz ?_;simp only[go_sem,fN,seval,AQ,AS.result,AB,AD,AM];rw[hm,g2 (by rw[ht];exact hz),ht]
  | 2,_,q1,q2,e23 =>
   have hz:Bq p.1 p.2=0:=by unfold Bq;rw[if_pos (q1 (by omega))];exact q2 (by omega)
   refine Gf (F7 e11 e12 e13 e21 e22 e23 s6) ?_;refine AE ⟨l.length-(k+1),by omega,k+1,by omega,rfl,g1 hz,?_⟩;simp only[go_sem,fN,seval,AS.drop,AT,AC.clears,AC.clear,AC.highs,AC.high,zD,AV.purge,AV.purges,AC.purge,AJ.purge,Nat.reduceBEq,eT,iR,e11,e12,e13,s6];congr 3
  | i+3,hi,_,_,_=>omega
 ·refine Gf (F4 e11 e12 e13 hlt) ?_;simp only[go_sem,fN,seval,AQ,AS.result,AB,AD,AM];rw[List.take_of_length_le (by omega)]at h0;rw[hm,h0]

set_option maxHeartbeats 1000000
theorem Ol{m:Nat}{s:List Bd}{p:Pr}{l:List Pr}{r:List Bd×Int}(h:C6 m s (p::l) r):(∃e,Bp s p=.err e∧r=([],e))∨∃s' ps n,Bp s p=.go s' ps∧n<m∧C6 n s' (ps++l) r:=by
 cases h with
 | err h=>exact .inl ⟨_,h,rfl⟩
 | go h1 h2=>exact .inr ⟨_,_,_,h1,by omega,h2⟩
structure OB(U:List ByteArray)(s:List Bd)(t:Tm):Prop where
 chk:t.chk=0
 siz:t.size≤2000
 free:LL s t
 inU:∀y,occ y t=true→y∈U
abbrev OT(t:Tm):AJ:=.box 37 [.st (.str t.name),.st (.list (t.args.map Al))]
def Kf(U:List ByteArray)(s:List Bd)(p:Pr)(u t:Tm):Prop:=OB U s u∧OB U s t ∧
 ((AP u.name=true∧Bp s p=Ce s u.name t)∨(AP u.name=false∧Bp s p=if u.name=t.name∧u.args.length=t.args.length then .go s (u.args.zip t.args) else .err 5))
theorem M0{U:List ByteArray}{s:List Bd}{p:Pr}(ha:OB U s (p.1.on s))(hb:OB U s (p.2.on s))(hne:¬(AP (p.1.on s).name=true∧(p.1.on s).name=(p.2.on s).name))(hv:AP (p.1.on s).name=true∨AP (p.2.on s).name=false):Kf U s p (p.1.on s) (p.2.on s):=by
 have h0:¬(2000<(p.1.on s).size∨2000<(p.2.on s).size):=by have:=ha.siz;have:=hb.siz;omega
 refine⟨ha,hb,?_⟩;cases h1:AP (p.1.on s).name with
 | true =>
  refine .inl ⟨rfl,?_⟩;unfold Bp;rw[if_neg h0,if_neg hne,if_pos h1]
 | false =>
  have h2:AP (p.2.on s).name=false:=hv.resolve_left (by rw[h1];simp);refine .inr ⟨rfl,?_⟩;unfold Bp;rw[if_neg h0,if_neg hne,if_neg (by rw[h1];simp),if_neg (by rw[h2];simp)]
theorem TR{U:List ByteArray}{s:List Bd}{p:Pr}(ha:OB U s (p.1.on s))(hb:OB U s (p.2.on s))(h1:AP (p.1.on s).name=false)(h2:AP (p.2.on s).name=true):Kf U s p (p.2.on s) (p.1.on s):=by
 have h0:¬(2000<(p.1.on s).size∨2000<(p.2.on s).size):=by have:=ha.siz;have:=hb.siz;omega
 refine⟨hb,ha,.inl ⟨h2,?_⟩⟩;unfold Bp;rw[if_neg h0,if_neg (by rw[h1];simp),if_neg (by rw[h1];simp),if_pos h2]
theorem WE(U:List ByteArray)(hU:U.length≤20000)(C0:Nat)(hC0:C0≤100000000000)(n:Nat)(l:List Pr)(r:List Bd×Int)(hr:C6 n [] l r)(hg:Cb U C0 [] l):AW Tryz.prog 96 [Be l] (.tup [ER r.1,AO r.2]):=by
 refine Qt.ac fun C hC=>?_;unfold JB;refine Gg ?_;refine IWP.loop (fun m x=>∃s l,C6 m s l r∧Cb U C0 s l∧outV x.S (x.env 0)=some (Be l)∧outV x.S (x.env 4)=some (ER s)∧∀i,1000≤i→x.S i=none) n ⟨[],l,hr,hg,rfl,rfl,fun _ _=>rfl⟩ ?_;rintro m ⟨env0,S0⟩ ⟨s,l,hr,hg,o0,o4,h1000⟩;refine IWP.ghost (AY.settle 0 o0) ?_;refine IWP.ghost (AY.settle 4 (v:=ER s) o4) ?_;refine IWP.fresh h1000 fun env henv=>?_;have e0:env 0=Be l:=henv 0 _ rfl;have e4:env 4=ER s:=henv 4 _ rfl;clear henv o0 o4 h1000 env0 S0;cases l with
 | nil =>
  cases hr;refine Gf (F2 e0 e4) ?_;simp only[go_sem,fN,seval,AQ,AS.result,AB,AD,AM]
 | cons p l =>
  have hinv:=Ol hr;obtain⟨hc1,hc2⟩:=hg.lchk p (by simp);have hUp:=hg.lU p (by simp);obtain⟨hz1,hz2⟩:=hg.lsiz p (by simp);obtain⟨a1,a2,a3⟩:=onU hg hc1 fun y=>(hUp y).1;obtain⟨b1,b2,b3⟩:=onU hg hc2 fun y=>(hUp y).2;have hl0:(0:Int)<((l.length+1:Nat):Int):=by omega
  by_cases ha:(p.1.on s).size≤2000
  case neg =>
   have he:Au s p.1=(Tm.nil,false):=by unfold Au;rw[if_neg ha]
   have hst:Bp s p=.err 8:=by unfold Bp;rw[if_pos (by omega)]
   repeat' first|refine Gf (F5 e0 e4 hl0 @Ag.eq_1 he) ?_|refine Mm fun K hK=>?_|refine Cg _ (Ee s p.1 (by omega)) ?_
   simp only[go_sem,fN,seval,AQ,AS.result,AB,AD,AM];rcases hinv with⟨e,h1,rfl⟩|⟨s',ps,q,h1,_⟩
   ·rw[hst]at h1;cases h1;rfl
   ·rw[hst]at h1;cases h1
  by_cases hb:(p.2.on s).size≤2000
  case neg =>
   have he:Au s p.1=(p.1.on s,true):=by unfold Au;rw[if_pos ha]
   have he2:Au s p.2=(Tm.nil,false):=by unfold Au;rw[if_neg hb]
   have hst:Bp s p=.err 8:=by unfold Bp;rw[if_pos (by omega)]
   repeat' first|refine Gf (F6 e0 e4 hl0 @Ag.eq_1 he he2) ?_|refine Mm fun K hK=>?_|refine Cg _ (Ee s p.1 (by omega)) ?_|refine Cg _ (Ee s p.2 (by omega)) ?_
   simp only[go_sem,fN,seval,AQ,AS.result,AB,AD,AM];rcases hinv with⟨e,h1,rfl⟩|⟨s',ps,q,h1,_⟩
   ·rw[hst]at h1;cases h1;rfl
   ·rw[hst]at h1;cases h1
  have he:Au s p.1=(p.1.on s,true):=by unfold Au;rw[if_pos ha]
  have he2:Au s p.2=(p.2.on s,true):=by unfold Au;rw[if_pos hb]
  have htk:List.take l.length (List.map Ag l)=l.map Ag:=List.take_of_length_le (by simp);have hta:OB U s (p.1.on s):=⟨a1,ha,a2,a3⟩
  have htb:OB U s (p.2.on s):=⟨b1,hb,b2,b3⟩
  repeat' first|refine Gf (F6 e0 e4 hl0 @Ag.eq_1 he he2) ?_|refine Mm fun K hK=>?_|refine Cg _ (Ee s p.1 (by omega)) ?_|refine Cg _ (Ee s p.2 (by omega)) ?_
  refine⟨_,BN _,?_⟩;by_cases hsame:AP (p.1.on s).name=true∧(p.1.on s).name=(p.2.on s).name
  ·have hst:Bp s p=.go s []:=by unfold Bp;rw[if_neg (by omega),if_pos hsame]
   have hsv:AP (p.2.on s).name=true:=by rw[←hsame.2];exact hsame.1
   refine Gf (F5 hsame.1 hsv hsame.2 e0 e4) ?_;rcases hinv with⟨e,h1,_⟩|⟨s',ps,q,h1,h2,h3⟩
   ·rw[hst]at h1;cases h1
   rw[hst]at h1;cases h1;refine AE ⟨q,h2,s,l,h3,hg.tail,?_,?_,fun i hi=>?_⟩
   ·simp only[go_sem,fN,seval,eT,iR,htk]
   ·simp only[go_sem,fN,seval,eT,iR,e4]
   ·have i5:¬i=5:=by omega
    have i7:¬i=7:=by omega
    simp only[go_sem,fN,seval,eT,iR,i5,i7]
  apply ABo
  ·intro rest;cases hv:AP (p.1.on s).name with
   | true =>
    have hne:¬(p.1.on s).name=(p.2.on s).name:=fun h=>hsame ⟨hv,h⟩;repeat' with_reducible first|refine W ?_|refine Z0 ?_|((first|refine Wo fun K hK=>?_|refine Wq ?_|refine Wr ?_);(try simp only[go_sem,fN,seval,eT,iR,hv,hne]);(repeat refine Ai ?_);(try(refine hK _ ?_;skip)))
    with_reducible refine Wp ?_
    simp only[go_sem,fN,seval,true_implies,false_implies,implies_true,dT,dF,nL];(try with_reducible refine iC ?_);refine Wd ?_;refine Wb ?_;refine IWP.mid (fun x=>∃u t,Kf U s p u t∧x.env 0=Be l∧x.env 4=ER s∧x.env 5=.one (.ptr 5 1 0 0)∧x.env 7=.one (.ptr 7 1 0 0)∧x.S 5=some (OT u)∧x.S 7=some (OT t)∧∀i,i≠5→i≠7→x.S i=none) ?_ rest;repeat' with_reducible first|refine W ?_|refine Z0 ?_|((first|refine Wo fun K hK=>?_|refine Wp ?_|refine Wq ?_|refine Wr ?_);(try simp only[go_sem,fN,seval,eT,iR,dT,dF,nL]);(repeat refine Ai ?_);(try(refine hK _ ?_;skip));try refine iC ?_)
    refine⟨_,BN _,?_⟩;repeat' with_reducible first|refine W ?_|refine Z0 ?_|((first|refine Wo fun K hK=>?_|refine Wp ?_|refine Wq ?_|refine Wr ?_);(try simp only[go_sem,fN,seval,eT,iR,hv,dT,dF,nL]);(repeat refine Ai ?_);(try(refine hK _ ?_;skip));try refine iC ?_)
    refine⟨rfl,_,_,M0 hta htb hsame (.inl hv),?_⟩;simp only[go_sem,fN,seval,eT,iR,e0,e4,htk];exact fun i h5 h7=>by(simp only[go_sem,fN,seval,eT,iR,h5,h7])
   | false =>
    repeat' with_reducible first|refine W ?_|refine Z0 ?_|((first|refine Wo fun K hK=>?_|refine Wq ?_|refine Wr ?_);(try simp only[go_sem,fN,seval,eT,iR,hv]);(repeat refine Ai ?_);(try(refine hK _ ?_;skip)))
    with_reducible refine Wp ?_
    simp only[go_sem,fN,seval,true_implies,false_implies,implies_true,dT,dF,nL];(try with_reducible refine iC ?_);refine Wd ?_;refine Wb ?_;refine IWP.mid (fun x=>∃u t,Kf U s p u t∧x.env 0=Be l∧x.env 4=ER s∧x.env 5=.one (.ptr 5 1 0 0)∧x.env 7=.one (.ptr 7 1 0 0)∧x.S 5=some (OT u)∧x.S 7=some (OT t)∧∀i,i≠5→i≠7→x.S i=none) ?_ rest;repeat' with_reducible first|refine W ?_|refine Z0 ?_|((first|refine Wo fun K hK=>?_|refine Wp ?_|refine Wq ?_|refine Wr ?_);(try simp only[go_sem,fN,seval,eT,iR,dT,dF,nL]);(repeat refine Ai ?_);(try(refine hK _ ?_;skip));try refine iC ?_)
    refine⟨_,BN _,?_⟩;repeat' with_reducible first|refine W ?_|refine Z0 ?_|((first|refine Wo fun K hK=>?_|refine Wp ?_|refine Wq ?_|refine Wr ?_);(try simp only[go_sem,fN,seval,eT,iR,hv,dT,dF,nL]);(repeat refine Ai ?_);(try(refine hK _ ?_;skip));try refine iC ?_)
    refine⟨_,BN _,?_⟩;cases hw:AP (p.2.on s).name with
    | true =>
     repeat' with_reducible first|refine W ?_|refine Z0 ?_|((first|refine Wo fun K hK=>?_|refine Wp ?_|refine Wq ?_|refine Wr ?_);(try simp only[go_sem,fN,seval,eT,iR,hv,hw,dT,dF,nL]);(repeat refine Ai ?_);(try(refine hK _ ?_;skip));try refine iC ?_)
     refine⟨rfl,_,_,TR hta htb hv hw,?_⟩;simp only[go_sem,fN,seval,eT,iR,e0,e4,htk];exact fun i h5 h7=>by(simp only[go_sem,fN,seval,eT,iR,h5,h7])
    | false =>
     repeat' with_reducible first|refine W ?_|refine Z0 ?_|((first|refine Wo fun K hK=>?_|refine Wp ?_|refine Wq ?_|refine Wr ?_);(try simp only[go_sem,fN,seval,eT,iR,hv,hw,dT,dF,nL]);(repeat refine Ai ?_);(try(refine hK _ ?_;skip));try refine iC ?_)
     refine⟨rfl,_,_,M0 hta htb hsame (.inr hw),?_⟩;simp only[go_sem,fN,seval,eT,iR,e0,e4,htk];exact fun i h5 h7=>by(simp only[go_sem,fN,seval,eT,iR,h5,h7])
  rintro⟨env,S⟩ ⟨u,t,⟨hu,ht,hst⟩,e0,e4,e5,e7,s5,s7,sno⟩;simp only at e0 e4 e5 e7 s5 s7 sno;rcases hst with⟨hv,hst⟩|⟨hv,hst⟩
  ·-- a variable
   rw[hst]at hinv;repeat' first|refine Gf (F7 e5 s5 hv e0 e4 e7 s7) ?_|refine Mm fun K hK=>?_|refine Cg _ (BN _) ?_|refine Cg _ (Ny t (by have:=ht.siz;omega)) ?_
   refine⟨_,AAi u.name t.varsOf,?_⟩;have hio:=LA hv t;cases ho:occ u.name t with
   | true =>
    have hbv:Ce s u.name t=.err 6:=by unfold Ce;rw[if_pos ho]
    rw[ho]at hio;refine Gf hio ?_;simp only[go_sem,fN,seval,AQ,AS.result,AB,AD,AM];rcases hinv with⟨e,h1,rfl⟩|⟨s',ps,q,h1,_⟩
    ·rw[hbv]at h1;cases h1;rfl
    ·rw[hbv]at h1;cases h1
   | false =>
    rw[ho]at hio;refine Gf (F7 hio e0 e4 e5 e7 s5 s7) ?_;have hsl:s.length≤20000:=Nat.le_trans hg.len hU;have s900:S 900=none:=sno 900 (by omega) (by omega);have s11:S 11=none:=sno 11 (by omega) (by omega);refine IWP.ghost (AY.own 9 900 82 3 (xs:=[]) rfl s900 (by simp) (by rw[hC];decide)) ?_;refine IWP.loopD [11] (fun m x=>∃i,i≤s.length∧m=s.length-i∧(∀c∈s.take i,(c.2.on [(u.name,t)]).size≤2000)∧x.env 0=Be l∧x.env 4=ER s∧x.env 8=.one (.full [BZ (u.name,t)])∧x.env 9=.one (.row 900 i)∧x.env 10=AO i∧x.S 900=some (.arow 82 3 (((s.take i).map fun b=>(b.1,b.2.on [(u.name,t)])).map BZ))∧x.S 11=none∧∀i,1000≤i→x.S i=none)
     s.length ⟨0,Nat.zero_le _,rfl,by simp,?_⟩ ?_
    ·simp only[go_sem,fN,seval,eT,iR,e0,e4,BZ];refine⟨s11,fun i hi=>?_⟩;have i9:¬i=900:=by omega
     simp only[go_sem,fN,seval,eT,iR,i9];exact sno i (by omega) (by omega)
    rintro mm ⟨env2,S2⟩ ⟨i,hi,rfl,h20,e0,e4,e8,e9,e10,s900,s11,sno⟩;simp only at e0 e4 e8 e9 e10 s900 s11 sno;have hli:(s.take i).length=i:=by rw[List.length_take];omega
    by_cases hlt:(i:Int)<s.length
    ·obtain⟨b,hb⟩:=Aa (show i<s.length by omega);have hbz:=hg.siz b (AN hb);repeat' first|refine Gf (F9 e0 e4 e8 e9 e10 s11 hlt hb @BZ.eq_1) ?_|refine Mm fun K hK=>?_
     refine⟨_,Ee [(u.name,t)] b.2 (by omega),?_⟩;by_cases hz:(b.2.on [(u.name,t)]).size≤2000
     ·have hon:Au [(u.name,t)] b.2=(b.2.on [(u.name,t)],true):=by unfold Au;rw[if_pos hz]
      refine Gf (F11 hon e0 e4 e8 e9 e10 s900 s11 hb hli @BZ.eq_1) ?_;refine AE ⟨s.length-(i+1),by omega,i+1,by omega,rfl,fun c hc=>?_,?_⟩
      ·rw[Ab hb]at hc;rcases List.mem_append.1 hc with hc|hc
       ·exact h20 c hc
       ·rw[List.mem_singleton.1 hc];exact hz
      ·simp only[go_sem,fN,seval,AS.drop,AT,AC.clears,AC.clear,AC.highs,AC.high,zD,AV.purge,AV.purges,AC.purge,AJ.purge,Nat.reduceBEq,eT,iR,e0,e4,e8,e9,e10,s900,s11];refine⟨rfl,by congr 3,?_,fun j hj=>?_⟩
       ·rw[Ab hb,List.map_append,List.map_append];rfl
       ·have j11b:(j==11)=false:=by simp;omega
        have j11:¬j=11:=by omega
        have j900:¬j=900:=by omega
        simp only[go_sem,fN,seval,AS.drop,AT,AC.clears,AC.clear,AC.highs,AC.high,zD,AV.purge,AV.purges,AC.purge,AJ.purge,Nat.reduceBEq,eT,iR,j11b,j11,j900];rw[sno j hj];rfl
     ·have hon:Au [(u.name,t)] b.2=(Tm.nil,false):=by unfold Au;rw[if_neg hz]
      have hbv:Ce s u.name t=.err 8:=by
       unfold Ce;rw[if_neg (by rw[ho];simp),if_neg];intro hall;have:=List.all_eq_true.1 hall b (AN hb);exact hz (by simpa using this)
      refine Gf hon ?_;simp only[go_sem,fN,seval,AQ,AS.result,AB,AD,AM];rcases hinv with⟨e,h1,rfl⟩|⟨s',ps,q,h1,_⟩
      ·rw[hbv]at h1;cases h1;rfl
      ·rw[hbv]at h1;cases h1
    ·have hall:s.take i=s:=List.take_of_length_le (by omega);obtain rfl:i=s.length:=by omega
     rw[hall]at s900 h20;have hbv:Ce s u.name t=.go (BE (s.map (fun b=>(b.1,b.2.on [(u.name,t)]))++[(u.name,t)])) []:=by
      unfold Ce;rw[if_neg (by rw[ho];simp),if_pos];exact List.all_eq_true.2 fun b hb=>by simpa using h20 b hb
     obtain⟨hg',_⟩:=D_ hg (hst.trans hbv);rcases hinv with⟨e,h1,_⟩|⟨s',ps,q,h1,h2,h3⟩
     ·rw[hbv]at h1;cases h1
     rw[hbv]at h1;cases h1;have hnamed:=DB (Bu _) (Ct hg'.ord);have hL:(s.map (fun b=>(b.1,b.2.on [(u.name,t)]))).map BZ++[[SV.str u.name,SV.str t.name,SV.list (t.args.map Al)]]=(s.map (fun b=>(b.1,b.2.on [(u.name,t)]))++[(u.name,t)]).map BZ:=by
      rw[List.map_append];rfl
     repeat' first|refine Gf (F8 e0 e4 e8 e9 e10 s900 hlt @BZ.eq_1) ?_|refine Mm fun K hK=>?_
     rw[hL];refine⟨_,O5 _ hnamed (by simp;omega),?_⟩;repeat' first|refine Gf e0 ?_|refine Mm fun K hK=>?_
     refine AE ⟨q,h2,_,l,h3,hg',?_,?_,fun j hj=>?_⟩
     ·simp only[go_sem,fN,seval,eT,iR,e0]
     ·simp only[go_sem,fN,seval,eT,iR]
     ·have j900:¬j=900:=by omega
      simp only[go_sem,fN,seval,eT,iR,j900];exact sno j hj
  ·-- two knots
   rw[hst]at hinv;have husz:=ht.siz;have huk:=Tm.length_le u.args;have hus:=Tm.size_eq u;have husz:=hu.siz;by_cases hsame:u.name=t.name∧u.args.length=t.args.length
   ·rw[if_pos hsame]at hst hinv;obtain⟨hg',_⟩:=D_ hg hst;rcases hinv with⟨e,h1,_⟩|⟨s',ps,q,h1,h2,h3⟩
    ·cases h1
    cases h1;have hargs:(u.args.length:Int)=t.args.length:=by rw[hsame.2]
    repeat' first|refine Gf (F2 e5 s5) ?_|refine Mm fun K hK=>?_
    refine⟨_,BN _,?_⟩;have hvt:AP t.name=false:=by rw[←hsame.1];exact hv
    refine Gf (F10 hv hvt e0 e4 e5 e7 s5 s7 hsame.1 hsame.2) ?_;have s901:S 901=none:=sno 901 (by omega) (by omega);refine IWP.ghost (AY.own 13 901 40 4 (xs:=[]) rfl s901 (by simp) (by rw[hC];decide)) ?_;refine IWP.loop (fun m x=>∃i,i≤u.args.length∧m=u.args.length-i∧x.env 0=Be l∧x.env 4=ER s∧x.env 5=.one (.ptr 5 1 0 0)∧x.env 7=.one (.ptr 7 1 0 0)∧x.env 13=.one (.row 901 i)∧x.env 14=AO i∧x.S 5=some (OT u)∧x.S 7=some (OT t)∧x.S 901=some (.arow 40 4 (((u.args.zip t.args).take i).map Ag))∧∀i,1000≤i→x.S i=none)
     u.args.length ⟨0,Nat.zero_le _,rfl,?_⟩ ?_
    ·simp only[go_sem,fN,seval,eT,iR,e0,e4,e5,e7,s5,s7];intro i hi;have i9:¬i=901:=by omega
     simp only[go_sem,fN,seval,eT,iR,i9];exact sno i (by omega) (by omega)
    have hzl:(u.args.zip t.args).length=u.args.length:=by rw[List.length_zip,hsame.2,Nat.min_self]
    have hstk:l.length≤100000000000:=by have:=hg.stack;rw[List.length_cons]at this;omega
    rintro mm ⟨env2,S2⟩ ⟨i,hi,rfl,e0,e4,e5,e7,e13,e14,s5,s7,s901,sno⟩;simp only at e0 e4 e5 e7 e13 e14 s5 s7 s901 sno;have hli:((u.args.zip t.args).take i).length=i:=by rw[List.length_take];omega
    by_cases hlt:(i:Int)<u.args.length
    ·obtain⟨a,ha⟩:=Aa (show i<u.args.length by omega);obtain⟨c,hc⟩:=Aa (show i<t.args.length by omega);have hac:(u.args.zip t.args)[i]?=some (a,c):=List.getElem?_zip_eq_some.2 ⟨ha,hc⟩;refine Gf (F14 e0 e4 e5 e7 e13 e14 s5 s7 s901 hlt ha hc hli @Ag.eq_1) ?_;refine AE ⟨u.args.length-(i+1),by omega,i+1,by omega,rfl,?_⟩;simp only[go_sem,fN,seval,eT,iR,e0,e4,e5,e7,e13,e14,s5,s7,s901];refine⟨by congr 3,?_,fun j hj=>?_⟩
     ·rw[Ab hac,List.map_append];rfl
     ·have j901:¬j=901:=by omega
      simp only[go_sem,fN,seval,eT,iR,j901];exact sno j hj
    ·obtain rfl:i=u.args.length:=by omega
     have hall:(u.args.zip t.args).take u.args.length=u.args.zip t.args:=List.take_of_length_le (by omega);rw[hall]at s901 hli;refine Gf (F12 e0 e4 e5 e7 e13 e14 s5 s7 s901 hlt hli @Ag.eq_1) ?_;refine AE ⟨q,h2,s,u.args.zip t.args++l,h3,hg',?_,?_,fun j hj=>?_⟩
     ·simp only[go_sem,fN,seval,eT,iR,hzl];rw[←List.map_append]
     ·simp only[go_sem,fN,seval,eT,iR,e4]
     ·have j901:¬j=901:=by omega
      simp only[go_sem,fN,seval,eT,iR,j901];exact sno j hj
   ·rw[if_neg hsame]at hst hinv;repeat' first|refine Gf (F2 e5 s5) ?_|refine Mm fun K hK=>?_
    refine⟨_,BN _,?_⟩;by_cases hn:u.name=t.name
    ·have hl:¬(u.args.length:Int)=t.args.length:=fun h=>hsame ⟨hn,by omega⟩;have hvt:AP t.name=false:=by rw[←hn];exact hv
     refine Gf (F10 hv hvt e0 e4 e5 e7 s5 s7 hn hl) ?_;simp only[go_sem,fN,seval,AQ,AS.result,AB,AD,AM];rcases hinv with⟨e,h1,rfl⟩|⟨s',ps,q,h1,_⟩
     ·cases h1;rfl
     ·cases h1
    ·refine Gf (F8 hv e0 e4 e5 e7 s5 s7 hn) ?_;simp only[go_sem,fN,seval,AQ,AS.result,AB,AD,AM];rcases hinv with⟨e,h1,rfl⟩|⟨s',ps,q,h1,_⟩
     ·cases h1;rfl
     ·cases h1

set_option maxHeartbeats 2000000
def Stk(xs:List (List SV))(l:List Pr):Prop:=xs.take l.length=l.reverse.map Ag∧l.length≤xs.length
theorem Stk.push{xs:List (List SV)}{l:List Pr}(h:Stk xs l)(p:Pr):Stk (xs.take l.length++[Ag p]++xs.drop (l.length+1)) (p::l):=by
 obtain⟨h1,h2⟩:=h;have hl:(xs.take l.length).length=l.length:=by rw[List.length_take];omega
 refine⟨?_,by simp only[List.length_append,List.length_take,List.length_cons,List.length_nil];omega⟩;rw[List.length_cons,List.take_append_of_le_length (by rw[List.length_append,hl];simp),List.take_of_length_le (by rw[List.length_append,hl];simp),h1,List.reverse_cons,List.map_append];rfl
theorem Stk.pushLen{xs:List (List SV)}{l:List Pr}(h:Stk xs l)(p:Pr):(xs.take l.length++[Ag p]++xs.drop (l.length+1)).length=if xs.length≤l.length+1 then l.length+1 else xs.length:=by
 have:=h.2;simp only[List.length_append,List.length_take,List.length_drop,List.length_cons,List.length_nil];split <;> omega
theorem Stk.top{xs:List (List SV)}{p:Pr}{l:List Pr}(h:Stk xs (p::l)):xs[l.length]?=some (Ag p):=by
 obtain⟨h1,h2⟩:=h;have e:(xs.take (p::l).length)[l.length]?=xs[l.length]?:=by rw[List.getElem?_take,if_pos (by simp)]
 rw[←e,h1,List.reverse_cons,List.map_append,List.getElem?_append_right (by simp)];simp
theorem Stk.pop{xs:List (List SV)}{p:Pr}{l:List Pr}(h:Stk xs (p::l)):Stk xs l:=by
 obtain⟨h1,h2⟩:=h;rw[List.length_cons]at h2;refine⟨?_,by omega⟩;have e:xs.take l.length=(xs.take (p::l).length).take l.length:=by rw[List.take_take,List.length_cons,Nat.min_eq_left (by omega)]
 rw[e,h1,List.reverse_cons,List.map_append,List.take_append_of_le_length (by simp),List.take_of_length_le (by simp)]
def E4(s:List Bd)(x:ByteArray)(t:Tm)(i:Nat):List Bd:=(s.take i).map (fun b=>(b.1,b.2.on [(x,t)]))++s.drop i
theorem UN(s:List Bd)(x:ByteArray)(t:Tm)(i:Nat):(E4 s x t i).length=s.length:=by
 have:=congrArg List.length (List.take_append_drop i s);unfold E4;rw[List.length_append]at this ⊢;rw[List.length_map];exact this
theorem T_{s:List Bd}{x:ByteArray}{t:Tm}{i:Nat}{b:Bd}(h:s[i]?=some b):(E4 s x t i)[i]?=some b:=by
 have:=B8 h;unfold E4;rw[List.getElem?_append_right (by rw[List.length_map,List.length_take];omega),List.length_map,List.length_take,Nat.min_eq_left (by omega),Nat.sub_self,A5 h];rfl
theorem Ui{s:List Bd}{x:ByteArray}{t:Tm}{i:Nat}{b:Bd}(h:s[i]?=some b):(E4 s x t i).set i (b.1,b.2.on [(x,t)])=E4 s x t (i+1):=by
 have:=B8 h;unfold E4;rw[List.set_append_right _ _ (by rw[List.length_map,List.length_take];omega),List.length_map,List.length_take,Nat.min_eq_left (by omega),Nat.sub_self,A5 h,Ab h,List.map_append,List.append_assoc];rfl
theorem UI(s:List Bd)(x:ByteArray)(t:Tm):E4 s x t s.length=s.map fun b=>(b.1,b.2.on [(x,t)]):=by
 unfold E4;rw[List.take_length,List.drop_length,List.append_nil]
theorem AAq(U:List ByteArray)(hU:U.length≤20000)(C0:Nat)(hC0:C0≤100000000000)(n:Nat)(l:List Pr)(r:List Bd×Int)(hr:C6 n [] l r)(hg:Cb U C0 [] l):AW Tryz.prog 86 [Be l] (.tup [ER r.1,AO r.2]):=by
 have hll:l.length≤100000000001:=by have:=hg.stack;omega
 refine Nq.ac fun C hC=>?_;unfold HU;refine Gg ?_;refine IWP.ghost (AY.ownM 4 500 82 3 rfl rfl (by rw[hC];decide)) ?_;refine IWP.ghost (AY.ownM 5 501 40 4 rfl rfl (by rw[hC];decide)) ?_;refine IWP.ghost (AY.toPart 5 501 0 rfl (by rw[hC];decide)) ?_;refine IWP.loop (fun m x=>∃(k:Nat) (xs:List (List SV)),k≤l.length∧m=k∧Stk xs (l.drop k)∧x.env 0=Be l∧x.env 4=.one (.row 500 0)∧x.env 5=.one (.part 501 (l.drop k).length xs.length)∧x.env 6=.one (.st (.int .i64 ((k:Int)-1)))∧x.S 500=some (Bl [])∧x.S 501=some (.mrow 40 4 xs)∧x.S 7=none∧x.S 8=none∧x.S 10=none) l.length ⟨l.length,[],Nat.le_refl _,rfl,?_⟩ ?_
 ·rw[List.drop_length];exact⟨⟨rfl,Nat.le_refl _⟩,rfl,rfl,rfl,rfl,rfl,rfl,rfl,rfl,rfl⟩
 ·rintro k ⟨env,S⟩ ⟨_,xs,hk,rfl,hstk,e0,e4,e5,e6,s500,s501,s7,s8,s10⟩;simp only at e0 e4 e5 e6 s500 s501 s7 s8 s10;by_cases hk0:0≤(k:Int)-1
  ·obtain⟨k,rfl⟩:∃q,k=q+1:=⟨k-1,by omega⟩
   obtain⟨p,hp⟩:=Aa (show k<l.length by omega);have hz:(((k+1:Nat):Int)-1).toNat=k:=by omega
   have hp':l[(((k+1:Nat):Int)-1).toNat]?=some p:=by rw[hz];exact hp
   have hdl:(List.drop (k+1) l).length≤100000000001:=by rw[List.length_drop];omega
   refine Gf (F13 e0 e4 e5 e6 s500 s501 s7 s8 s10 hk0 hz hp @Ag.eq_1) ?_;refine AE ⟨k,by omega,k,_,by omega,rfl,by rw[A5 hp];exact hstk.push p,?_⟩;simp only[go_sem,fN,seval,eT,iR,e0,e4,e5,e6,s500,s7,s8,s10];have hpl:(List.take (List.drop (k+1) l).length xs).length+1+(List.drop ((List.drop (k+1) l).length+1) xs).length=if xs.length≤(List.drop (k+1) l).length+1 then(List.drop (k+1) l).length+1 else xs.length:=by
    have:=hstk.pushLen p;simpa only[List.length_append,List.length_cons,List.length_nil,Nat.zero_add]using this
   rw[hpl,A5 hp];refine⟨rfl,?_,rfl⟩;congr 3;omega
  ·obtain rfl:k=0:=by omega
   rw[List.drop_zero]at hstk e5;refine Gf (F2 e6 hk0) ?_;refine IWP.loopD [7,8,10] (fun m x=>∃s l xs,C6 m s l r∧Cb U C0 s l∧Stk xs l∧x.env 4=.one (.row 500 s.length)∧x.env 5=.one (.part 501 l.length xs.length)∧x.S 500=some (Bl s)∧x.S 501=some (.mrow 40 4 xs)∧x.S 7=none∧x.S 8=none∧x.S 10=none) n ⟨[],l,xs,hr,hg,hstk,?_⟩ ?_
   ·simp only[go_sem,fN,seval,eT,iR,e4,e5,s500,s501,s7,s8,s10]
   clear hr hg hstk e0 e4 e5 e6 s500 s501 s7 s8 s10 hll hk hk0 env S xs;rintro m ⟨env,S⟩ ⟨s,l,xs,hr,hg,hstk,e4,e5,s500,s501,s7,s8,s10⟩;simp only at e4 e5 s500 s501 s7 s8 s10;have hsl:s.length≤20000:=Nat.le_trans hg.len hU;cases l with
   | nil =>
    cases hr;refine IWP.ghost (AY.share (id:=500) s500) ?_;refine Gf (F3 e4 e5 s501) ?_;simp only[go_sem,fN,seval,AQ,AS.result,AB,AD,AM]
   | cons p l =>
    have hinv:=Ol hr;obtain⟨hc1,hc2⟩:=hg.lchk p (by simp);have hUp:=hg.lU p (by simp);obtain⟨hz1,hz2⟩:=hg.lsiz p (by simp);obtain⟨a1,a2,a3⟩:=onU hg hc1 fun y=>(hUp y).1;obtain⟨b1,b2,b3⟩:=onU hg hc2 fun y=>(hUp y).2;have hl0:(0:Int)<((l.length+1:Nat):Int):=by omega
    have hl1:(((l.length+1:Nat):Int)-1)=(l.length:Int):=by omega
    have hl2:(l.length:Int)<((l.length+1:Nat):Int):=by omega
    have hl3:(l.length:Int)≤((l.length+1:Nat):Int):=by omega
    have hlb:l.length≤100000000000:=by have:=hg.stack;rw[List.length_cons]at this;omega
    have htop:=hstk.top;have hstk':=hstk.pop;rw[List.length_cons]at e5;have onc:∀t:Tm,t.chk=0→∀T:AA,(∀q∈[(500,Bl s)],T q.1=some q.2)→Ah Tryz.prog 110 [.one (.row (up1 500) s.length),aTm t] (upS T) (.tup [aTm (Au s t).1,AZ (Au s t).2]) (upS T) :=
     fun t ht T hT=>AB3 s (by omega) hg.ord t hg.var ht (up1 500) (Ap 500) (upS T) (by rw[Ax,hT _ (List.mem_singleton.2 rfl)];rfl)
    by_cases ha:(p.1.on s).size≤2000
    case neg =>
     have he:Au s p.1=(Tm.nil,false):=by unfold Au;rw[if_neg ha]
     have hst:Bp s p=.err 8:=by unfold Bp;rw[if_pos (by omega)]
     repeat' first|refine Gf (F13 e4 e5 s500 s501 s7 s8 s10 hl0 hl1 hl2 hl3 htop @Ag.eq_1) ?_|refine Mm fun K hK=>?_
     refine⟨_,[(500,Bl s)],BC (by(simp only[go_sem,fN,seval,eT,iR,s500])),onc p.1 hc1,?_⟩;repeat' first|refine Gf (F5 he e4 e5 s8 s10) ?_|refine Mm fun K hK=>?_
     refine⟨_,[(500,Bl s)],BC (by(simp only[go_sem,fN,seval,eT,iR,s500])),onc p.2 hc2,?_⟩;refine Gf (F5 he e4 e5 s8 s10) ?_;simp only[go_sem,fN,seval,AQ,AS.result,AB,AD,AM];rcases hinv with⟨e,h1,rfl⟩|⟨s',ps,q,h1,_⟩
     ·rw[hst]at h1;cases h1;rfl
     ·rw[hst]at h1;cases h1
    by_cases hb:(p.2.on s).size≤2000
    case neg =>
     have he:Au s p.1=(p.1.on s,true):=by unfold Au;rw[if_pos ha]
     have he2:Au s p.2=(Tm.nil,false):=by unfold Au;rw[if_neg hb]
     have hst:Bp s p=.err 8:=by unfold Bp;rw[if_pos (by omega)]
     repeat' first|refine Gf (F13 e4 e5 s500 s501 s7 s8 s10 hl0 hl1 hl2 hl3 htop @Ag.eq_1) ?_|refine Mm fun K hK=>?_
     refine⟨_,[(500,Bl s)],BC (by(simp only[go_sem,fN,seval,eT,iR,s500])),onc p.1 hc1,?_⟩;repeat' first|refine Gf (F5 he e4 e5 s8 s10) ?_|refine Mm fun K hK=>?_
     refine⟨_,[(500,Bl s)],BC (by(simp only[go_sem,fN,seval,eT,iR,s500])),onc p.2 hc2,?_⟩;refine Gf (F6 he he2 e4 e5 s8 s10) ?_;simp only[go_sem,fN,seval,AQ,AS.result,AB,AD,AM];rcases hinv with⟨e,h1,rfl⟩|⟨s',ps,q,h1,_⟩
     ·rw[hst]at h1;cases h1;rfl
     ·rw[hst]at h1;cases h1
    have he:Au s p.1=(p.1.on s,true):=by unfold Au;rw[if_pos ha]
    have he2:Au s p.2=(p.2.on s,true):=by unfold Au;rw[if_pos hb]
    have hta:OB U s (p.1.on s):=⟨a1,ha,a2,a3⟩
    have htb:OB U s (p.2.on s):=⟨b1,hb,b2,b3⟩
    repeat' first|refine Gf (F13 e4 e5 s500 s501 s7 s8 s10 hl0 hl1 hl2 hl3 htop @Ag.eq_1) ?_|refine Mm fun K hK=>?_
    refine⟨_,[(500,Bl s)],BC (by(simp only[go_sem,fN,seval,eT,iR,s500])),onc p.1 hc1,?_⟩;repeat' first|refine Gf (F5 he e4 e5 s8 s10) ?_|refine Mm fun K hK=>?_
    refine⟨_,[(500,Bl s)],BC (by(simp only[go_sem,fN,seval,eT,iR,s500])),onc p.2 hc2,?_⟩;repeat' first|refine Gf (F6 he he2 e4 e5 s8 s10) ?_|refine Mm fun K hK=>?_
    refine⟨_,Az _,?_⟩;by_cases hsame:AP (p.1.on s).name=true∧(p.1.on s).name=(p.2.on s).name
    ·have hst:Bp s p=.go s []:=by unfold Bp;rw[if_neg (by omega),if_pos hsame]
     have hsv:AP (p.2.on s).name=true:=by rw[←hsame.2];exact hsame.1
     refine Gf (F5 hsame.1 hsv hsame.2 e4 e5) ?_;rcases hinv with⟨e,h1,_⟩|⟨s',ps,q,h1,h2,h3⟩
     ·rw[hst]at h1;cases h1
     rw[hst]at h1;cases h1;refine AE ⟨q,h2,s,l,xs,h3,hg.tail,hstk',?_⟩;simp only[go_sem,fN,seval,AS.drop,AT,AC.clears,AC.clear,AC.highs,AC.high,zD,AV.purge,AV.purges,AC.purge,AJ.purge,Nat.reduceBEq,eT,iR,e4,s500,s501]
    by_cases hvv:AP (p.1.on s).name=true∨AP (p.2.on s).name=true
    ·apply ABo
     ·intro rest;cases hv:AP (p.1.on s).name with
      | true =>
       have hne:¬(p.1.on s).name=(p.2.on s).name:=fun h=>hsame ⟨hv,h⟩;repeat' with_reducible first|refine W ?_|refine Z0 ?_|((first|refine Wo fun K hK=>?_|refine Wp ?_|refine Wq ?_|refine Wr ?_);(try simp only[go_sem,fN,seval,eT,iR,hv,hne,dT,dF,nL]);(repeat refine Ai ?_);(try(refine hK _ ?_;skip));try refine iC ?_)
       refine⟨_,Az _,?_⟩;repeat' with_reducible first|refine W ?_|refine Z0 ?_|((first|refine Wo fun K hK=>?_|refine Wq ?_|refine Wr ?_);(try simp only[go_sem,fN,seval,eT,iR,hv]);(repeat refine Ai ?_);(try(refine hK _ ?_;skip)))
       with_reducible refine Wp ?_
       simp only[go_sem,fN,seval,true_implies,false_implies,implies_true,dT,dF,nL];(try with_reducible refine iC ?_);refine IWP.mid (fun x=>∃u t,Kf U s p u t∧AP u.name=true∧x.env 4=.one (.row 500 s.length)∧x.env 5=.one (.part 501 l.length xs.length)∧x.env 8=.one (.ptr 8 1 0 0)∧x.env 10=.one (.ptr 10 1 0 0)∧x.S 500=some (Bl s)∧x.S 501=some (.mrow 40 4 xs)∧x.S 8=some (OT u)∧x.S 10=some (OT t)) ?_ rest;repeat' with_reducible first|refine W ?_|refine Z0 ?_|((first|refine Wo fun K hK=>?_|refine Wp ?_|refine Wq ?_|refine Wr ?_);(try simp only[go_sem,fN,seval,eT,iR,dT,dF,nL]);(repeat refine Ai ?_);(try(refine hK _ ?_;skip));try refine iC ?_)
       refine⟨_,Az _,?_⟩;repeat' with_reducible first|refine W ?_|refine Z0 ?_|((first|refine Wo fun K hK=>?_|refine Wp ?_|refine Wq ?_|refine Wr ?_);(try simp only[go_sem,fN,seval,eT,iR,hv,dT,dF,nL]);(repeat refine Ai ?_);(try(refine hK _ ?_;skip));try refine iC ?_)
       refine⟨rfl,_,_,M0 hta htb hsame (.inl hv),hv,?_⟩;simp only[go_sem,fN,seval,eT,iR,e4,s500,s501]
      | false =>
       have hw:AP (p.2.on s).name=true:=hvv.resolve_left (by rw[hv];simp);repeat' with_reducible first|refine W ?_|refine Z0 ?_|((first|refine Wo fun K hK=>?_|refine Wp ?_|refine Wq ?_|refine Wr ?_);(try simp only[go_sem,fN,seval,eT,iR,hv,dT,dF,nL]);(repeat refine Ai ?_);(try(refine hK _ ?_;skip));try refine iC ?_)
       refine⟨_,Az _,?_⟩;repeat' with_reducible first|refine W ?_|refine Z0 ?_|((first|refine Wo fun K hK=>?_|refine Wp ?_|refine Wq ?_|refine Wr ?_);(try simp only[go_sem,fN,seval,eT,iR,hv,dT,dF,nL]);(repeat refine Ai ?_);(try(refine hK _ ?_;skip));try refine iC ?_)
       refine⟨_,Az _,?_⟩;repeat' with_reducible first|refine W ?_|refine Z0 ?_|((first|refine Wo fun K hK=>?_|refine Wq ?_|refine Wr ?_);(try simp only[go_sem,fN,seval,eT,iR,hv,hw]);(repeat refine Ai ?_);(try(refine hK _ ?_;skip)))
       with_reducible refine Wp ?_
       simp only[go_sem,fN,seval,true_implies,false_implies,implies_true,dT,dF,nL];(try with_reducible refine iC ?_);refine IWP.mid (fun x=>∃u t,Kf U s p u t∧AP u.name=true∧x.env 4=.one (.row 500 s.length)∧x.env 5=.one (.part 501 l.length xs.length)∧x.env 8=.one (.ptr 8 1 0 0)∧x.env 10=.one (.ptr 10 1 0 0)∧x.S 500=some (Bl s)∧x.S 501=some (.mrow 40 4 xs)∧x.S 8=some (OT u)∧x.S 10=some (OT t)) ?_ rest;repeat' with_reducible first|refine W ?_|refine Z0 ?_|((first|refine Wo fun K hK=>?_|refine Wp ?_|refine Wq ?_|refine Wr ?_);(try simp only[go_sem,fN,seval,eT,iR,dT,dF,nL]);(repeat refine Ai ?_);(try(refine hK _ ?_;skip));try refine iC ?_)
       refine⟨_,Az _,?_⟩;repeat' with_reducible first|refine W ?_|refine Z0 ?_|((first|refine Wo fun K hK=>?_|refine Wp ?_|refine Wq ?_|refine Wr ?_);(try simp only[go_sem,fN,seval,eT,iR,hv,dT,dF,nL]);(repeat refine Ai ?_);(try(refine hK _ ?_;skip));try refine iC ?_)
       refine⟨rfl,_,_,TR hta htb hv hw,hw,?_⟩;simp only[go_sem,fN,seval,eT,iR,e4,s500,s501]
     clear e4 e5 s500 s501 s7 s8 s10;rintro⟨env,S⟩ ⟨u,t,⟨hu,ht,hst⟩,hv,e4,e5,e8,e10,s500,s501,s8,s10⟩;simp only at e4 e5 e8 e10 s500 s501 s8 s10;have hst:Bp s p=Ce s u.name t:=by
      rcases hst with⟨_,h⟩|⟨h,_⟩
      ·exact h
      ·rw[hv]at h;cases h
     rw[hst]at hinv;repeat' first|refine Gf (F8 e4 e5 e8 e10 s500 s501 s8 s10) ?_|refine Mm fun K hK=>?_
     refine⟨_,Zo u.name t,?_⟩;cases ho:occ u.name t with
     | true =>
      have hbv:Ce s u.name t=.err 6:=by unfold Ce;rw[if_pos ho]
      refine Gf ho ?_;simp only[go_sem,fN,seval,AQ,AS.result,AB,AD,AM];rcases hinv with⟨e,h1,rfl⟩|⟨s',ps,q,h1,_⟩
      ·rw[hbv]at h1;cases h1;rfl
      ·rw[hbv]at h1;cases h1
     | false =>
      refine Gf (F9 ho e4 e5 e8 e10 s500 s501 s8 s10) ?_;refine IWP.loop (fun m x=>∃i,i≤s.length∧m=s.length-i∧(∀c∈s.take i,(c.2.on [(u.name,t)]).size≤2000)∧x.env 4=.one (.row 500 s.length)∧x.env 5=.one (.part 501 l.length xs.length)∧x.env 12=.one (.full [BZ (u.name,t)])∧x.env 121=AO s.length∧x.env 122=AO i∧x.S 500=some (Bl (E4 s u.name t i))∧x.S 501=some (.mrow 40 4 xs)) s.length ⟨0,Nat.zero_le _,rfl,by simp,?_⟩ ?_
      ·simp only[go_sem,fN,seval,eT,iR,e4,e5,s500,s501,BZ];rfl
      rintro mm ⟨env,S⟩ ⟨i,hi,rfl,h20,e4,e5,e12,e121,e122,s500,s501⟩;simp only at e4 e5 e12 e121 e122 s500 s501;have hhl:=UN s u.name t i;by_cases hlt:(i:Int)<s.length
      ·have hlt':i<s.length:=by omega
       obtain⟨b,hb⟩:=Aa hlt';have hbz:=hg.siz b (AN hb);have hbh:=T_ (x:=u.name) (t:=t) hb;have hone:∀c∈([(u.name,t)]:List Bd),AP c.1=true:=by simp[hv]
       repeat' first|refine Gf (F12 e4 e5 e12 e121 e122 s500 s501 hlt hlt' hhl hbh @BZ.eq_1) ?_|refine Mm fun K hK=>?_
       refine⟨_,NX [(u.name,t)] (by simp) (List.pairwise_singleton _ _) b.2 hone (hg.chk b (AN hb)),?_⟩;by_cases hz:(b.2.on [(u.name,t)]).size≤2000
       ·have hon:Au [(u.name,t)] b.2=(b.2.on [(u.name,t)],true):=by unfold Au;rw[if_pos hz]
        refine Gf (F13 hon e4 e5 e12 e121 e122 s500 s501 hlt hlt' hhl hbh @BZ.eq_1) ?_;refine AE ⟨s.length-(i+1),by omega,i+1,by omega,rfl,fun c hc=>?_,?_⟩
        ·rw[Ab hb]at hc;rcases List.mem_append.1 hc with hc|hc
         ·exact h20 c hc
         ·rw[List.mem_singleton.1 hc];exact hz
        ·simp only[go_sem,fN,seval,eT,iR,e4,e5,e12,e121,e122,s500,s501];refine⟨rfl,by congr 3,?_⟩;show AJ.mrow _ _ (((E4 s u.name t i).map BZ).set i (BZ (b.1,b.2.on [(u.name,t)])))=_
         rw[←List.map_set,Ui hb]
       ·have hon:Au [(u.name,t)] b.2=(Tm.nil,false):=by unfold Au;rw[if_neg hz]
        have hbv:Ce s u.name t=.err 8:=by
         unfold Ce;rw[if_neg (by rw[ho];simp),if_neg];intro hall;have:=List.all_eq_true.1 hall b (AN hb);exact hz (by simpa using this)
        refine Gf (F13 hon e4 e5 e12 e121 e122 s500 s501 hlt hlt' hhl hbh @BZ.eq_1) ?_;simp only[go_sem,fN,seval,AQ,AS.result,AB,AD,AM];rcases hinv with⟨e,h1,rfl⟩|⟨s',ps,q,h1,_⟩
        ·rw[hbv]at h1;cases h1;rfl
        ·rw[hbv]at h1;cases h1
      ·obtain rfl:i=s.length:=by omega
       rw[List.take_of_length_le (Nat.le_refl _)]at h20;rw[UI]at s500;have hbv:Ce s u.name t=.go (BE (s.map (fun b=>(b.1,b.2.on [(u.name,t)]))++[(u.name,t)])) []:=by
        unfold Ce;rw[if_neg (by rw[ho];simp),if_pos];exact List.all_eq_true.2 fun b hb=>by simpa using h20 b hb
       obtain⟨hg',_⟩:=D_ hg (hst.trans hbv);rcases hinv with⟨e,h1,_⟩|⟨s',ps,q,h1,h2,h3⟩
       ·rw[hbv]at h1;cases h1
       rw[hbv]at h1;cases h1;have hnamed:=DB (Bu _) (Ct hg'.ord);have hL:(s.map (fun b=>(b.1,b.2.on [(u.name,t)]))).map BZ++[[SV.str u.name,SV.str t.name,SV.list (t.args.map Al)]]=(s.map (fun b=>(b.1,b.2.on [(u.name,t)]))++[(u.name,t)]).map BZ:=by
        rw[List.map_append];rfl
       have hLl:(s.map (fun b=>(b.1,b.2.on [(u.name,t)]))++[(u.name,t)]).length=s.length+1:=by simp
       have hsort:=fun S h=>Tk _ hnamed (by omega) (up1 500) (Ap 500) S h;have hsl2:=Bi (s.map (fun b=>(b.1,b.2.on [(u.name,t)]))++[(u.name,t)]);rw[hLl]at hsort hsl2;repeat' first|refine Gf (F9 e4 e5 e12 e121 e122 s500 s501 hlt @BZ.eq_1) ?_|refine Mm fun K hK=>?_
       rw[hL];refine⟨_,_,hsort _ (by rw[Ax,AG];rfl),?_⟩;repeat' first|refine Gf (F2 e5 s501) ?_|refine Mm fun K hK=>?_
       refine AE ⟨q,h2,_,l,xs,h3,hg',hstk',?_⟩;simp only[go_sem,fN,seval,AS.drop,AT,AC.clears,AC.clear,AC.highs,AC.high,zD,AV.purge,AV.purges,AC.purge,AJ.purge,Nat.reduceBEq,eT,iR,e5,s501,hsl2]
    ·-- two knots
     have hv:AP (p.1.on s).name=false:=by
      cases h:AP (p.1.on s).name with
      | false=>rfl
      | true=>exact absurd (.inl h) hvv
     have hw:AP (p.2.on s).name=false:=by
      cases h:AP (p.2.on s).name with
      | false=>rfl
      | true=>exact absurd (.inr h) hvv
     have hst:Bp s p=if(p.1.on s).name=(p.2.on s).name∧(p.1.on s).args.length=(p.2.on s).args.length then .go s ((p.1.on s).args.zip (p.2.on s).args) else .err 5:=by
      unfold Bp;rw[if_neg (by omega),if_neg hsame,if_neg (by rw[hv];simp),if_neg (by rw[hw];simp)]
     rw[hst]at hinv;have huk:=Tm.length_le (p.1.on s).args;have hus:=Tm.size_eq (p.1.on s);have htk:=Tm.length_le (p.2.on s).args;have hts:=Tm.size_eq (p.2.on s);by_cases hsame2:(p.1.on s).name=(p.2.on s).name∧(p.1.on s).args.length=(p.2.on s).args.length
     ·rw[if_pos hsame2]at hst hinv;obtain⟨hg',_⟩:=D_ hg hst;rcases hinv with⟨e,h1,_⟩|⟨s',ps,q,h1,h2,h3⟩
      ·cases h1
      cases h1;repeat' first|refine Gf (F8 hv hw e4 e5 s500 s501 hsame2.1 hsame2.2) ?_|refine Mm fun K hK=>?_|refine Cg _ (Az _) ?_
      have hzl:((p.1.on s).args.zip (p.2.on s).args).length=(p.2.on s).args.length:=by rw[List.length_zip,hsame2.2,Nat.min_self]
      refine IWP.loop (fun m x=>∃(k:Nat) (xs:List (List SV)) (n1 n2:ByteArray),k≤(p.2.on s).args.length∧m=k∧Stk xs (((p.1.on s).args.zip (p.2.on s).args).drop k++l)∧x.env 4=.one (.row 500 s.length)∧x.env 5=.one (.part 501 (((p.1.on s).args.zip (p.2.on s).args).drop k++l).length xs.length)∧x.env 8=.one (.ptr 8 1 0 0)∧x.env 10=.one (.ptr 10 1 0 0)∧x.env 14=.one (.st (.int .i64 ((k:Int)-1)))∧x.S 500=some (Bl s)∧x.S 501=some (.mrow 40 4 xs) ∧
        x.S 8=some (.box 37 [.st (.str n1),.st (.list ((p.1.on s).args.map Al))])∧x.S 10=some (.box 37 [.st (.str n2),.st (.list ((p.2.on s).args.map Al))])) (p.2.on s).args.length ⟨(p.2.on s).args.length,xs,(p.2.on s).name,(p.2.on s).name,Nat.le_refl _,rfl,?_⟩ ?_
      ·rw[←hzl,List.drop_length,hzl];refine⟨hstk',?_⟩;simp only[go_sem,fN,seval,eT,iR,e4,s500,s501,hsame2.1]
      rintro k ⟨env,S⟩ ⟨_,xs,n1,n2,hk,rfl,hstk,e4,e5,e8,e10,e14,s500,s501,s8,s10⟩;simp only at e4 e5 e8 e10 e14 s500 s501 s8 s10;by_cases hk0:0≤(k:Int)-1
      ·obtain⟨k,rfl⟩:∃q,k=q+1:=⟨k-1,by omega⟩
       obtain⟨x,hx⟩:=Aa (show k<(p.1.on s).args.length by omega);obtain⟨y,hy⟩:=Aa (show k<(p.2.on s).args.length by omega);have hxy:((p.1.on s).args.zip (p.2.on s).args)[k]?=some (x,y):=List.getElem?_zip_eq_some.2 ⟨hx,hy⟩;have hz:(((k+1:Nat):Int)-1).toNat=k:=by omega
       have hdl:(((p.1.on s).args.zip (p.2.on s).args).drop (k+1)++l).length≤100000002000:=by rw[List.length_append,List.length_drop,hzl];omega
       generalize hD:((p.1.on s).args.zip (p.2.on s).args).drop (k+1)++l=D at *;refine Gf (F13 e4 e5 e8 e10 e14 s500 s501 s8 s10 hk0 hz hx hy) ?_;have hcons:((p.1.on s).args.zip (p.2.on s).args).drop k++l=(x,y)::D:=by rw[A5 hxy,List.cons_append,hD]
       have hDl:(((p.1.on s).args.zip (p.2.on s).args).drop k).length+l.length=D.length+1:=by rw[←List.length_append,hcons,List.length_cons]
       refine AE ⟨k,by omega,k,_,n1,n2,by omega,rfl,by rw[hcons];exact hstk.push (x,y),?_⟩;have hpl:(List.take D.length xs).length+1+(List.drop (D.length+1) xs).length=if xs.length≤D.length+1 then D.length+1 else xs.length:=by
        have:=hstk.pushLen (x,y);simpa only[List.length_append,List.length_cons,List.length_nil,Nat.zero_add]using this
       simp only[go_sem,fN,seval,eT,iR,e4,e5,e8,e10,e14,s500,s501,s8,s10,hDl,hpl];refine⟨?_,rfl⟩;congr 3;omega
      ·obtain rfl:k=0:=by omega
       rw[List.drop_zero]at hstk e5;refine Gf (F4 e4 e5 e14 hk0) ?_;refine AE ⟨q,h2,s,_,xs,h3,hg',hstk,?_⟩;simp only[go_sem,fN,seval,AS.drop,AT,AC.clears,AC.clear,AC.highs,AC.high,zD,AV.purge,AV.purges,AC.purge,AJ.purge,Nat.reduceBEq,eT,iR,e4,e5,s500,s501]
     ·rw[if_neg hsame2]at hst hinv;by_cases hn:(p.1.on s).name=(p.2.on s).name
      ·have hl:¬((p.1.on s).args.length:Int)=(p.2.on s).args.length:=fun h=>hsame2 ⟨hn,by omega⟩;repeat' first|refine Gf (F6 hv hw e4 e5 hn hl) ?_|refine Mm fun K hK=>?_|refine Cg _ (Az _) ?_
       simp only[go_sem,fN,seval,AQ,AS.result,AB,AD,AM];rcases hinv with⟨e,h1,rfl⟩|⟨s',ps,q,h1,_⟩
       ·cases h1;rfl
       ·cases h1
      ·repeat' first|refine Gf (F5 hv hw e4 e5 hn) ?_|refine Mm fun K hK=>?_|refine Cg _ (Az _) ?_
       simp only[go_sem,fN,seval,AQ,AS.result,AB,AD,AM];rcases hinv with⟨e,h1,rfl⟩|⟨s',ps,q,h1,_⟩
       ·cases h1;rfl
       ·cases h1

def H0(l:List Pr):List ByteArray:=l.flatMap fun p=>(p.1.knots++p.2.knots).map (·.name)
theorem RJ{l:List Pr}(h:∀p∈l,p.1.size≤200∧p.2.size≤200):(H0 l).length≤400*l.length:=by
 unfold H0;induction l with
 | nil=>simp
 | cons p l ih =>
  have:=ih fun q hq=>h q (by simp[hq]);have h1:=h p (by simp);rw[List.flatMap_cons,List.length_append,List.length_map,List.length_append,Tm.knots_length,Tm.knots_length,List.length_cons];omega
theorem Md(v:Nat)(hv:v≤16000)(s:List Bd):∀(l:List Pr),l.length≤40→Kg 100000000000 v s l
 | [],_=>trivial
 | p::l,h=>by
  rw[List.length_cons]at h;have:=Nat.min_le_right (p.1.on s).size 2000;exact⟨by omega,Md v hv s l (by omega)⟩
theorem Ck{l:List Pr}(h:Bj l=0):(H0 l).length≤20000∧Cb (H0 l) 100000000000 [] l:=by
 obtain⟨h1,h2⟩:=OS h;have hc:∀p∈l,(p.1.chk=0∧p.1.size≤200)∧(p.2.chk=0∧p.2.size≤200):=fun p hp=>⟨Tm.may_chk (h2 p hp).1,Tm.may_chk (h2 p hp).2⟩
 have hlen:=RJ fun p hp=>⟨(hc p hp).1.2,(hc p hp).2.2⟩
 refine⟨by omega,⟨List.Pairwise.nil,by simp,by simp,by simp,by simp,by simp,by simp,fun p hp=>⟨(hc p hp).1.1,(hc p hp).2.1⟩,fun p hp y=>⟨fun hy=>?_,fun hy=>?_⟩,fun p hp=>?_,Md _ (by simp;omega) [] l h1⟩⟩
 ·unfold occ at hy;obtain⟨k,hk,e⟩:=List.any_eq_true.1 hy;exact List.mem_flatMap.2 ⟨p,hp,List.mem_map.2 ⟨k,by simp[hk],by simpa using e⟩⟩
 ·unfold occ at hy;obtain⟨k,hk,e⟩:=List.any_eq_true.1 hy;exact List.mem_flatMap.2 ⟨p,hp,List.mem_map.2 ⟨k,by simp[hk],by simpa using e⟩⟩
 ·have:=hc p hp;omega
theorem Rl{l:List Pr}(h:Bj l=0):∃n r,C6 n [] l r:=Kv _ _ [] l (Ck h).2 rfl rfl

abbrev vT(x:ByteArray):Tm:=.mk x []
def Sol(s θ:List Bd):Prop:=∀b∈s,b.2.on θ=(vT b.1).on θ
theorem Vr{θ:List Bd}{t:Tm}(h:t.args≠[]):t.on θ=.mk t.name (t.args.map (Tm.on θ)):=Tm.on_knot (.inr h)
theorem L4{t:Tm}(h:t.args=[]):t=vT t.name:=by
 cases t with
 | mk n xs =>
  change xs=[]at h;subst h;rfl
theorem Q3{s θ:List Bd}(hv:∀b∈s,AP b.1=true)(hs:Sol s θ){t:Tm}(hc:t.chk=0):(t.on s).on θ=t.on θ:=by
 induction hN:SizeOf.sizeOf t using Nat.strongRecOn generalizing t with
 | _ N ih =>
 subst hN;obtain⟨c1,c2⟩:=Tm.chk_args hc;cases hl:lookup s t.name with
 | some x =>
  obtain⟨b,hb,hbn,hbx⟩:=DR hl;have h0:=c1 (by rw[←hbn];exact hv b hb);rw[Tm.on_leaf hl h0,←hbx,hs b hb,hbn,←L4 h0]
 | none =>
  rw[Tm.on_knot (.inl hl)];by_cases h0:t.args=[]
  ·have:(Tm.mk t.name (t.args.map (Tm.on s)))=t:=by
    cases t with
    | mk n xs =>
     change xs=[]at h0;subst h0;rfl
   rw[this]
  ·rw[Vr (t:=Tm.mk t.name (t.args.map (Tm.on s))) (by rw[Tm.args_mk];simpa using h0),Vr h0];congr 1;rw[Tm.args_mk,List.map_map];exact List.map_congr_left fun a ha=>ih _ (Tm.lt_of_arg ha) (c2 a ha) rfl
theorem MD{θ:List Bd}(hv:∀b∈θ,AP b.1=true){t:Tm}(hn:¬AP t.name=true):t.on θ=.mk t.name (t.args.map (Tm.on θ)):=by
 refine Tm.on_knot (.inl (DU fun b hb e=>hn ?_));rw[←e];exact hv b hb
theorem RM{s θ:List Bd}{x:ByteArray}{t:Tm}(hv:∀b∈s,AP b.1=true)(hx:AP x=true)(hc:∀b∈s,b.2.chk=0)(h1:t.on θ=(vT x).on θ):Sol s θ↔Sol (s.map fun b=>(b.1,b.2.on [(x,t)])) θ:=by
 have hone:Sol [(x,t)] θ:=fun b hb=>by
  rw[List.mem_singleton]at hb;subst hb;exact h1
 have hvo:∀b∈([(x,t)]:List Bd),AP b.1=true:=by simp[hx]
 constructor
 ·intro hs b hb;obtain⟨c,hc',rfl⟩:=List.mem_map.1 hb;show(c.2.on [(x,t)]).on θ=_
  rw[Q3 hvo hone (hc c hc')];exact hs c hc'
 ·intro hs b hb;have:=hs (b.1,b.2.on [(x,t)]) (List.mem_map.2 ⟨b,hb,rfl⟩);change (b.2.on [(x,t)]).on θ=(vT b.1).on θ at this;rwa [Q3 hvo hone (hc b hb)]at this
theorem Yn{s θ:List Bd}{b:Bd}:Sol (BE (s++[b])) θ↔Sol s θ∧b.2.on θ=(vT b.1).on θ:=by
 constructor
 ·intro h;exact⟨fun c hc=>h c (CG.2 (by simp[hc])),h b (CG.2 (by simp))⟩
 ·rintro⟨h1,h2⟩ c hc;rcases List.mem_append.1 (CG.1 hc) with h|h
  ·exact h1 c h
  ·rw[List.mem_singleton]at h;subst h;exact h2
theorem zip_map{f:Tm→Tm}:∀{xs ys:List Tm},xs.length=ys.length→((∀p∈xs.zip ys,f p.1=f p.2)↔xs.map f=ys.map f)
 | [],[],_=>by simp
 | x::xs,y::ys,h=>by
  have:=zip_map (f:=f) (xs:=xs) (ys:=ys) (by simpa using h);simp only[List.zip_cons_cons,List.mem_cons,forall_eq_or_imp,List.map_cons,List.cons.injEq];rw[this]
theorem Zp{U:List ByteArray}{C:Nat}{s:List Bd}{p:Pr}{l:List Pr}(h:Cb U C s (p::l)){θ:List Bd}(hθ:∀b∈θ,AP b.1=true){s':List Bd}{ps:List Pr}(hs:Bp s p=.go s' ps):(Sol s θ∧p.1.on θ=p.2.on θ)↔(Sol s' θ∧∀q∈ps,q.1.on θ=q.2.on θ):=by
 obtain⟨hc1,hc2⟩:=h.lchk p (by simp);have hU:=h.lU p (by simp);obtain⟨a1,a2,a3⟩:=onU h hc1 fun y=>(hU y).1;obtain⟨b1,b2,b3⟩:=onU h hc2 fun y=>(hU y).2;have e1:=fun hsol=>Q3 h.var (θ:=θ) hsol hc1;have e2:=fun hsol=>Q3 h.var (θ:=θ) hsol hc2;have bind:∀{x t u:Tm},AP x.name=true→x.chk=0→Ce s x.name t=.go s' ps→(Sol s θ∧x.on θ=t.on θ↔Sol s' θ∧∀q∈ps,q.1.on θ=q.2.on θ):=by
  intro x t u hx hxc hb;have hxl:=L4 ((Tm.chk_args hxc).1 hx);unfold Ce at hb;split at hb
  ·cases hb
  split at hb
  ·cases hb;rw[Yn];constructor
   ·rintro⟨k1,k2⟩;have k3:t.on θ=(vT x.name).on θ:=by rw[←hxl];exact k2.symm
    exact⟨⟨(RM h.var hx h.chk k3).1 k1,k3⟩,fun q hq=>by cases hq⟩
   ·rintro⟨⟨k1,k3⟩,_⟩;exact⟨(RM h.var hx h.chk k3).2 k1,by rw[hxl];exact k3.symm⟩
  ·cases hb
 unfold Bp at hs;split at hs
 ·cases hs
 split at hs
 ·rename_i hv;cases hs;have l1:=L4 ((Tm.chk_args a1).1 hv.1);have l2:=L4 ((Tm.chk_args b1).1 (by rw[←hv.2];exact hv.1));constructor
  ·rintro⟨k1,_⟩;exact⟨k1,fun q hq=>by cases hq⟩
  ·rintro⟨k1,_⟩;refine⟨k1,?_⟩;rw[←e1 k1,←e2 k1,l1,l2,hv.2]
 split at hs
 ·rename_i hv;rw[←bind (u:=p.2.on s) hv a1 hs];constructor
  ·rintro⟨k1,k2⟩;exact⟨k1,by rw[e1 k1,e2 k1];exact k2⟩
  ·rintro⟨k1,k2⟩;exact⟨k1,by rw[e1 k1,e2 k1]at k2;exact k2⟩
 split at hs
 ·rename_i hv;rw[←bind (u:=p.1.on s) hv b1 hs];constructor
  ·rintro⟨k1,k2⟩;exact⟨k1,by rw[e1 k1,e2 k1];exact k2.symm⟩
  ·rintro⟨k1,k2⟩;exact⟨k1,by rw[e1 k1,e2 k1]at k2;exact k2.symm⟩
 rename_i hv1 hv2;split at hs
 ·rename_i heq;cases hs;rw[zip_map heq.2];constructor
  ·rintro⟨k1,k2⟩;refine⟨k1,?_⟩;rw[←e1 k1,←e2 k1,MD hθ hv1,MD hθ hv2]at k2;injection k2
  ·rintro⟨k1,k2⟩;refine⟨k1,?_⟩;rw[←e1 k1,←e2 k1,MD hθ hv1,MD hθ hv2,k2,heq.1]
 ·cases hs
theorem Z_{s:List Bd}{p:Pr}{e:Int}(h:Bp s p=.err e):e≠0:=by
 have hb:∀{x:ByteArray} {t:Tm},Ce s x t=.err e→e≠0:=by
  intro x t hb;unfold Ce at hb;split at hb
  ·cases hb;decide
  split at hb
  ·cases hb
  ·cases hb;decide
 unfold Bp at h;split at h
 ·cases h;decide
 split at h
 ·cases h
 split at h
 ·exact hb h
 split at h
 ·exact hb h
 split at h
 ·cases h
 ·cases h;decide
theorem YK{s:List Bd}(hn:Bg s)(hi:∀b∈s,LL s b.2):Sol s s:=fun b hb=>by
 rw[ABD (hi b hb),Tm.on_leaf (t:=vT b.1) ((T9 hn).2 (by exact hb)) rfl]
theorem OO{U:List ByteArray}{C:Nat}{n:Nat}{s:List Bd}{l:List Pr}{r:List Bd×Int}(hr:C6 n s l r):Cb U C s l→r.2=0→Cb U C r.1 []∧Sol s r.1∧∀p∈l,p.1.on r.1=p.2.on r.1:=by
 induction hr with
 | nil=>exact fun h _=>⟨h,YK (Ct h.ord) h.idem,fun p hp=>by cases hp⟩
 | err he=>exact fun _ h0=>absurd h0 (Z_ he)
 | @go s p l s' ps n r hst hr ih =>
  intro h h0;obtain⟨h',_⟩:=D_ h hst;obtain⟨q0,q1,q2⟩:=ih h' h0;obtain⟨k1,k2⟩:=(Zp h q0.var hst).2 ⟨q1,fun q hq=>q2 q (by simp[hq])⟩;refine⟨q0,k1,fun q hq=>?_⟩;rcases List.mem_cons.1 hq with rfl|hq
  ·exact k2
  ·exact q2 q (by simp[hq])

def Ll(T:List (ByteArray×ByteArray))(n:ByteArray):ByteArray:=match T.find? fun p=>decide (p.1=n) with
 | some p=>p.2
 | none=>match T.find? fun p=>decide (p.2=n) with
  | some p=>p.1
  | none=>n
section
variable {T:List (ByteArray×ByteArray)}
theorem X8{p:ByteArray×ByteArray}(hn:(T.map (·.1)).Nodup)(hp:p∈T):T.find? (fun q=>decide (q.1=p.1))=some p:=by
 induction T with
 | nil=>cases hp
 | cons q T ih =>
  rw[List.map_cons,List.nodup_cons]at hn;rw[List.find?_cons];rcases List.mem_cons.1 hp with rfl|hp
  ·simp
  ·have:q.1≠p.1:=fun e=>hn.1 (by rw[e];exact List.mem_map_of_mem hp)
   rw[decide_eq_false this];exact ih hn.2 hp
theorem Zy{p:ByteArray×ByteArray}(hn:(T.map (·.2)).Nodup)(hp:p∈T):T.find? (fun q=>decide (q.2=p.2))=some p:=by
 induction T with
 | nil=>cases hp
 | cons q T ih =>
  rw[List.map_cons,List.nodup_cons]at hn;rw[List.find?_cons];rcases List.mem_cons.1 hp with rfl|hp
  ·simp
  ·have:q.2≠p.2:=fun e=>hn.1 (by rw[e];exact List.mem_map_of_mem hp)
   rw[decide_eq_false this];exact ih hn.2 hp
theorem F0(h:((T.map (·.1))++(T.map (·.2))).Nodup){p:ByteArray×ByteArray}(hp:p∈T):Ll T p.1=p.2:=by
 rw[List.nodup_append]at h;unfold Ll;rw[X8 h.1 hp]
theorem Ko(h:((T.map (·.1))++(T.map (·.2))).Nodup){p:ByteArray×ByteArray}(hp:p∈T):Ll T p.2=p.1:=by
 rw[List.nodup_append]at h;unfold Ll;have h1:T.find? (fun q=>decide (q.1=p.2))=none:=by
  rw[List.find?_eq_none];intro q hq e;exact h.2.2 q.1 (List.mem_map_of_mem hq) p.2 (List.mem_map_of_mem hp) (by simpa using e)
 rw[h1,Zy h.2.1 hp]
theorem J_{n:ByteArray}(h1:∀p∈T,p.1≠n)(h2:∀p∈T,p.2≠n):Ll T n=n:=by
 unfold Ll;rw[List.find?_eq_none.2 fun p hp=>by simpa using h1 p hp,List.find?_eq_none.2 fun p hp=>by simpa using h2 p hp]
theorem Xg(h:((T.map (·.1))++(T.map (·.2))).Nodup)(hv:∀p∈T,AP p.1=true∧AP p.2=true):Ren (Ll T):=by
 have key:∀n,(∃p∈T,p.1=n)∨(∃p∈T,p.2=n)∨((∀p∈T,p.1≠n)∧∀p∈T,p.2≠n):=fun n=>by
  by_cases h1:∃p∈T,p.1=n
  ·exact .inl h1
  by_cases h2:∃p∈T,p.2=n
  ·exact .inr (.inl h2)
  exact .inr (.inr ⟨fun p hp e=>h1 ⟨p,hp,e⟩,fun p hp e=>h2 ⟨p,hp,e⟩⟩)
 refine⟨fun n=>?_,fun n=>?_,fun n hn=>?_⟩
 ·rcases key n with⟨p,hp,rfl⟩|⟨p,hp,rfl⟩|⟨h1,h2⟩
  ·rw[F0 h hp,Ko h hp]
  ·rw[Ko h hp,F0 h hp]
  ·rw[J_ h1 h2,J_ h1 h2]
 ·rcases key n with⟨p,hp,rfl⟩|⟨p,hp,rfl⟩|⟨h1,h2⟩
  ·rw[F0 h hp,(hv p hp).1,(hv p hp).2]
  ·rw[Ko h hp,(hv p hp).1,(hv p hp).2]
  ·rw[J_ h1 h2]
 ·rcases key n with⟨p,hp,rfl⟩|⟨p,hp,rfl⟩|⟨h1,h2⟩
  ·rw[(hv p hp).1]at hn;cases hn
  ·rw[(hv p hp).2]at hn;cases hn
  ·exact J_ h1 h2
end
def Bk(c:UInt8)(k:Nat):ByteArray:=⟨#[c]⟩++IA k
theorem GQ(c:UInt8)(k:Nat):(Bk c k).data.toList=c::Lib.decDigits k:=by
 unfold Bk IA;simp
theorem PU{c d:UInt8}{m n:Nat}(h:Bk c m=Bk d n):c=d∧m=n:=by
 have h1:=congrArg (fun b:ByteArray=>b.data.toList) h;simp only[GQ]at h1;have h2:=congrArg YO (List.cons.inj h1).2;rw[SC,SC]at h2;exact⟨(List.cons.inj h1).1,h2⟩
theorem Si(c:UInt8)(k:Nat):Ar (Bk c k) 0=(c.toNat:Int):=by
 unfold Ar;rw[GQ];rfl
theorem Nw(c:UInt8)(k:Nat):(Bk c k).size=1+Lib.nDigits k:=by
 have:(Bk c k).size=(Bk c k).data.toList.length:=by
  show(Bk c k).data.size=_
  rw[Array.length_toList]
 rw[this,GQ,List.length_cons,Lib.decDigits_length];omega
theorem Ov{c:UInt8}(h1:65≤c.toNat)(h2:c.toNat≤90)(k:Nat):AP (Bk c k)=true:=by
 unfold AP;rw[Si,Nw,decide_eq_true (by omega),decide_eq_true (show(65:Int)≤(c.toNat:Int) by omega),decide_eq_true (show(c.toNat:Int)≤90 by omega)];rfl
theorem ZD{c:UInt8}(h1:65≤c.toNat)(h2:c.toNat≤90){k:Nat}(h:k<1000000):BA (Bk c k)=true:=by
 have h6:=Ql (u:=k) (k:=6) (by omega) (by omega);unfold BA;rw[Si,Nw,decide_eq_true (show 1≤1+Lib.nDigits k by omega),decide_eq_true (show 1+Lib.nDigits k≤8 by omega),decide_eq_false (show ¬((c.toNat:Int)≤57) by omega)];have:CH (Bk c k) (1+Lib.nDigits k)=true:=by
  unfold CH;rw[GQ];refine List.all_eq_true.2 fun d hd=>?_;have hd:=List.mem_of_mem_take hd;rcases List.mem_cons.1 hd with rfl|hd
  ·unfold BS;rw[decide_eq_true (show 65≤(d.toNat:Int)∧(d.toNat:Int)≤90 by omega)];simp
  ·have:=HT _ d hd;unfold BS;rw[decide_eq_true (show 48≤(d.toNat:Int)∧(d.toNat:Int)≤57 by omega),Bool.or_true]
 rw[this];simp
def nmB(c:UInt8):Nat→List ByteArray→List Bd
 | _,[]=>[]
 | k,n::l=>(n,.mk (Bk c k) [])::nmB c (k+1) l
theorem Ev(c:UInt8):∀(l:List ByteArray) (k:Nat) (n:ByteArray),lookup (nmB c k l) n=if Ba l n<l.length then some (.mk (Bk c (k+Ba l n)) []) else none
 | [],k,n=>by simp[nmB,Ix,Ba]
 | x::l,k,n=>by
  rw[nmB,Ha,Ba];by_cases e:x=n
  ·rw[if_pos e,if_pos e];simp
  ·rw[if_neg e,if_neg e,Ev c l (k+1) n,List.length_cons];by_cases h:Ba l n<l.length
   ·rw[if_pos h,if_pos (by omega)];congr 3;omega
   ·rw[if_neg h,if_neg (by omega)]
theorem SW(c:UInt8):∀(l:List ByteArray) (k:Nat) (n:ByteArray),nmB c k (l++[n])=nmB c k l++[(n,.mk (Bk c (k+l.length)) [])]
 | [],k,n=>by simp[nmB]
 | x::l,k,n=>by
  rw[List.cons_append,nmB,SW c l (k+1) n,nmB,List.cons_append,List.length_cons,show k+1+l.length=k+(l.length+1) by omega]
theorem L2(c:UInt8):∀(l:List ByteArray) (k:Nat),(nmB c k l).length=l.length
 | [],_=>rfl
 | n::l,k=>by rw[nmB,List.length_cons,List.length_cons,L2 c l]
theorem KF(c:UInt8):∀(l:List ByteArray) (k:Nat),(nmB c k l).map (·.1)=l
 | [],_=>rfl
 | n::l,k=>by rw[nmB,List.map_cons,KF c l]
theorem VY{f:ByteArray→ByteArray}(hf:Ren f){c d:UInt8}{k j:Nat}{l:List ByteArray}(hl:∀n∈l,AP n=true)(h:∀i,i<l.length→f (Bk c (k+i))=Bk d (j+i))(t:Tm)(hc:t.chk=0)(hv:∀n,AP n=true→occ n t=true→n∈l):(t.on (nmB c k l)).ren f=t.on (nmB d j l):=by
 induction hN:SizeOf.sizeOf t using Nat.strongRecOn generalizing t with
 | _ N ih =>
 subst hN;have ha:=Tm.chk_args hc;have hmap:(t.args.map (Tm.on (nmB c k l))).map (Tm.ren f)=t.args.map (Tm.on (nmB d j l)):=by
  rw[List.map_map];exact List.map_congr_left fun a h=>ih _ (Tm.lt_of_arg h) a (ha.2 a h) (fun n hn ho=>hv n hn (L_ h ho)) rfl
 by_cases hvr:AP t.name=true
 ·have h0:=ha.1 hvr;have hm:=hv t.name hvr (H1.2 (.inl rfl));have hp:=EH.2 hm;have e1:=Ev c l k t.name;have e2:=Ev d l j t.name;rw[if_pos hp]at e1 e2;rw[Tm.on_leaf e1 h0,Tm.on_leaf e2 h0,Tm.ren_eq];show Tm.mk (f (Bk c (k+Ba l t.name))) []=_
  rw[h _ hp]
 ·have hno:t.name∉l:=fun hm=>hvr (hl _ hm);have hp:¬Ba l t.name<l.length:=fun h=>hno (EH.1 h);have e1:=Ev c l k t.name;have e2:=Ev d l j t.name;rw[if_neg hp]at e1 e2;rw[Tm.on_knot (.inl e1),Tm.on_knot (.inl e2),Tm.ren_eq];show Tm.mk (f t.name) ((t.args.map (Tm.on (nmB c k l))).map (Tm.ren f))=_
  rw[hmap,hf.con _ (by simpa using hvr)]
def DI(c:UInt8)(k:Nat)(r:Pr):Pr:=(r.1.on (nmB c k r.1.varsOf),r.2.on (nmB c k r.1.varsOf))
def Mu(c:UInt8)(k:Nat)(d:UInt8)(j:Nat)(N:Nat):List (ByteArray×ByteArray):=(List.range N).map fun i=>(Bk c (k+i),Bk d (j+i))
def LY:List (ByteArray×ByteArray):=Mu 88 1 80 0 1000++Mu 89 1 81 0 1000
theorem KE:((LY.map (·.1))++(LY.map (·.2))).Nodup:=by
 have one:∀(c:UInt8) (k N:Nat),((List.range N).map fun i=>Bk c (k+i)).Nodup:=fun c k N=>by
  rw[List.nodup_iff_pairwise_ne,List.pairwise_map];refine List.Pairwise.imp (fun {a b} hne h=>hne ?_) List.nodup_range;have:=(PU h).2;omega
 have e1:LY.map (·.1)=((List.range 1000).map fun i=>Bk 88 (1+i))++((List.range 1000).map fun i=>Bk 89 (1+i)):=by
  unfold LY Mu;rw[List.map_append,List.map_map,List.map_map];rfl
 have e2:LY.map (·.2)=((List.range 1000).map fun i=>Bk 80 (0+i))++((List.range 1000).map fun i=>Bk 81 (0+i)):=by
  unfold LY Mu;rw[List.map_append,List.map_map,List.map_map];rfl
 have apart:∀{c d:UInt8} {k j:Nat} {n:ByteArray},c≠d→n∈((List.range 1000).map fun i=>Bk c (k+i))→n∈((List.range 1000).map fun i=>Bk d (j+i))→False:=fun hne h1 h2=>by
  obtain⟨a,_,rfl⟩:=List.mem_map.1 h1;obtain⟨b,_,h⟩:=List.mem_map.1 h2;exact hne (PU h).1.symm
 rw[e1,e2];refine List.nodup_append.2 ⟨List.nodup_append.2 ⟨one _ _ _,one _ _ _,fun a ha b hb e=>?_⟩,List.nodup_append.2 ⟨one _ _ _,one _ _ _,fun a ha b hb e=>?_⟩,fun a ha b hb e=>?_⟩
 ·subst e;exact apart (by decide) ha hb
 ·subst e;exact apart (by decide) ha hb
 ·subst e;rcases List.mem_append.1 ha with ha|ha <;> rcases List.mem_append.1 hb with hb|hb <;> exact apart (by decide) ha hb
def ZO:ByteArray→ByteArray:=Ll LY
theorem Na:Ren ZO:=Xg KE fun p hp=>by
 unfold LY Mu at hp;rcases List.mem_append.1 hp with hp|hp <;> obtain⟨i,_,rfl⟩:=List.mem_map.1 hp <;> exact⟨Ov (by decide) (by decide) _,Ov (by decide) (by decide) _⟩
theorem ABY{i:Nat}(h:i<1000):ZO (Bk 88 (1+i))=Bk 80 (0+i):=F0 KE (p:=(Bk 88 (1+i),Bk 80 (0+i))) (List.mem_append_left _ (List.mem_map.2 ⟨i,List.mem_range.2 h,rfl⟩))
theorem ABH{i:Nat}(h:i<1000):ZO (Bk 89 (1+i))=Bk 81 (0+i):=F0 KE (p:=(Bk 89 (1+i),Bk 81 (0+i))) (List.mem_append_right _ (List.mem_map.2 ⟨i,List.mem_range.2 h,rfl⟩))
theorem Se{c d:UInt8}(h:∀i,i<1000→ZO (Bk c (1+i))=Bk d (0+i)){r:Pr}(h1:r.1.chk=0)(h2:r.2.chk=0)(hl:r.1.varsOf.length≤1000)(hv:∀v∈r.2.varsOf,v∈r.1.varsOf):E6 ZO (DI c 1 r)=DI d 0 r:=by
 have occv:∀{t:Tm} {n:ByteArray},AP n=true→occ n t=true→n∈t.varsOf:=fun {t n} hn ho=>by
  rw[←LA hn]at ho;exact C8.1 ho
 unfold DI E6;rw[VY Na (HO r.1) (fun i hi=>h i (by omega)) r.1 h1 fun n hn ho=>occv hn ho,VY Na (HO r.1) (fun i hi=>h i (by omega)) r.2 h2 fun n hn ho=>hv n (occv hn ho)]

theorem Xe:∀{n m:Nat} {s:List Bd} {l:List Pr} {r r':List Bd×Int},C6 n s l r→C6 m s l r'→r=r':=by
 intro n m s l r r' h;induction h generalizing m with
 | nil =>
  intro k;cases k;rfl
 | err he =>
  intro k;cases k with
  | err h2 =>
   rw[he]at h2;cases h2;rfl
  | go h2 _ =>
   rw[he]at h2;cases h2
 | go hg hr ih =>
  intro k;cases k with
  | err h2 =>
   rw[hg]at h2;cases h2
  | go h2 h3 =>
   rw[hg]at h2;cases h2;exact ih h3
noncomputable def H9(l:List Pr):List Bd×Int:=open Classical in if h:∃r n,C6 n [] l r then h.choose else([],0)
theorem JK{n:Nat}{l:List Pr}{r:List Bd×Int}(h:C6 n [] l r):H9 l=r:=by
 unfold H9;have hx:∃r n,C6 n [] l r:=⟨r,n,h⟩
 rw[dif_pos hx];obtain⟨m,hm⟩:=hx.choose_spec;exact Xe hm h
theorem YX{f:ByteArray→ByteArray}(hf:Ren f){l:List Pr}(hl:Bj l=0):(H9 (l.map (E6 f))).2=(H9 l).2∧KA f (H9 l).1 (H9 (l.map (E6 f))).1:=by
 obtain⟨_,hg⟩:=Ck hl;obtain⟨n,r,hr⟩:=Kv _ _ _ _ hg rfl rfl;obtain⟨r',h1,h2,h3⟩:=WT hf hr hg (.nil f);rw[JK hr,JK h1];exact⟨h2,h3⟩
section
variable {f:ByteArray→ByteArray}
mutual
theorem NS:∀t:Tm,(t.ren f).places=t.places
 | .mk n xs=>by rw[Tm.ren,Tm.places,Tm.places,LE 0 xs]
theorem LE:∀(k:Nat) (xs:List Tm),Tm.placesFrom k (Tm.renL f xs)=Tm.placesFrom k xs
 | _,[]=>rfl
 | k,x::xs=>by rw[Tm.renL,Tm.placesFrom,Tm.placesFrom,NS x,LE (k+1) xs]
end
theorem VG:∀(p:List Int) (t:Tm),(t.ren f).atP p=(t.atP p).map (Tm.ren f)
 | [],t=>by rw[Tm.atP_nil,Tm.atP_nil];rfl
 | i::p,t=>by
  rw[Tm.atP_cons,Tm.atP_cons,Tm.ren_args,List.getElem?_map];split
  ·rfl
  ·cases t.args[i.toNat]? with
   | none=>rfl
   | some a=>exact VG p a
theorem Ss:∀(p:List Int) (t x:Tm),(t.ren f).putP p (x.ren f)=(t.putP p x).ren f
 | [],t,x=>by rw[Tm.putP_nil,Tm.putP_nil]
 | i::p,t,x=>by
  rw[Tm.putP_cons,Tm.putP_cons,Tm.ren_args,List.getElem?_map];cases h:t.args[i.toNat]? with
  | none=>rfl
  | some a =>
   show Tm.mk (t.ren f).name ((t.args.map (Tm.ren f)).set i.toNat ((a.ren f).putP p (x.ren f)))=(Tm.mk t.name (t.args.set i.toNat (a.putP p x))).ren f
   rw[Ss p a x,Tm.ren_name,Tm.ren_eq (.mk t.name _)];congr 1;exact(List.map_set).symm
end
def Bv(l r:Tm):Pr:=((l.cn []).1,(r.cn (l.cn []).2).1)
theorem Uh{f:ByteArray→ByteArray}(hf:Ren f)(l r:Tm):Bv (l.ren f) (r.ren f)=Bv l r:=by
 have h1:=Us hf l [];rw[List.map_nil]at h1;unfold Bv;rw[h1];have h2:=Us hf r (l.cn []).2;rw[h2]
noncomputable def Cm(a b:Pr)(same:Bool)(p:List Int):Option (List Pr):=match a.1.atP p with
 | none=>some []
 | some x=>if AP x.name=true∨(same=true∧p=[]) then some []
  else if(H9 [(x,b.1)]).2=8 then none
  else if(H9 [(x,b.1)]).2≠0 then some []
  else if(Au (H9 [(x,b.1)]).1 a.2).2=true∧(Au (H9 [(x,b.1)]).1 (a.1.putP p b.2)).2=true then some [Bv (Au (H9 [(x,b.1)]).1 a.2).1 (Au (H9 [(x,b.1)]).1 (a.1.putP p b.2)).1]
  else none
theorem GL{x y:Tm}(hx:x.may=0)(hy:y.may=0):Bj [(x,y)]=0:=by
 simp[Bj,BP,Bq,hx,hy]
theorem Ks{t:Tm}(hc:t.chk=0)(hz:t.size≤200):t.may=0:=by
 unfold Tm.may;rw[if_neg (by omega),hc]
theorem Rf{f:ByteArray→ByteArray}(hf:Ren f){a b:Pr}(ha:a.1.chk=0)(hz:a.1.size≤200)(hb:b.1.chk=0)(hbz:b.1.size≤200)(same:Bool)(p:List Int)(hp:p∈a.1.places):Cm (E6 f a) (E6 f b) same p=Cm a b same p:=by
 obtain⟨x,hx,hk⟩:=EA a.1 p hp;have hxc:=HH a.1 x ha hk;have hxz:=CF a.1 x hk;have hmay:=GL (Ks hxc (by omega)) (Ks hb hbz);obtain⟨h1,h2⟩:=YX hf hmay;have he:[(x,b.1)].map (E6 f)=[(x.ren f,b.1.ren f)]:=rfl;rw[he]at h1 h2;unfold Cm;rw[show(E6 f a).1=a.1.ren f from rfl,show(E6 f b).1=b.1.ren f from rfl,show(E6 f a).2=a.2.ren f from rfl,show(E6 f b).2=b.2.ren f from rfl,VG,hx];simp only[Option.map_some,Tm.ren_name,hf.var,h1,Ss];split
 ·rfl
 split
 ·rfl
 split
 ·rfl
 rcases TQ hf h2 a.2 with e1|⟨e1,e1'⟩
 ·rcases TQ hf h2 (a.1.putP p b.2) with e2|⟨e2,e2'⟩
  ·rw[e1,e2];simp only[Uh hf]
  ·rw[if_neg (fun h=>by rw[e2']at h;exact absurd h.2 (by decide)),if_neg (fun h=>by rw[e2]at h;exact absurd h.2 (by decide))]
 ·rw[if_neg (fun h=>by rw[e1']at h;exact absurd h.1 (by decide)),if_neg (fun h=>by rw[e1]at h;exact absurd h.1 (by decide))]
noncomputable def DE(a b:Pr)(same:Bool):List (List Int)→Option (List Pr)
 | []=>some []
 | p::ps=>match Cm a b same p with
  | none=>none
  | some x=>(DE a b same ps).map (x++·)
noncomputable def Nv(a b:Pr)(same:Bool):Option (List Pr):=DE a b same a.1.places
theorem ZB{f:ByteArray→ByteArray}(hf:Ren f){a b:Pr}(ha:a.1.chk=0)(hz:a.1.size≤200)(hb:b.1.chk=0)(hbz:b.1.size≤200)(same:Bool):Nv (E6 f a) (E6 f b) same=Nv a b same:=by
 unfold Nv;rw[show(E6 f a).1=a.1.ren f from rfl,NS];have key:∀ps:List (List Int),(∀p∈ps,p∈a.1.places)→DE (E6 f a) (E6 f b) same ps=DE a b same ps:=fun ps=>by
  induction ps with
  | nil=>exact fun _=>rfl
  | cons p ps ih =>
   intro h;rw[DE,DE,Rf hf ha hz hb hbz same p (h p (by simp)),ih fun q hq=>h q (List.mem_cons_of_mem _ hq)]
 exact key _ fun p hp=>hp
theorem UB{U:List ByteArray}{C:Nat}{n:Nat}{s:List Bd}{l:List Pr}{r:List Bd×Int}(hr:C6 n s l r):Cb U C s l→r.2=0→Cb U C r.1 []:=fun h h0=>(OO hr h h0).1
theorem Oo{l:List Pr}(h:Bj l=0)(h0:(H9 l).2=0):Cb (H0 l) 100000000000 (H9 l).1 []:=by
 obtain⟨_,hg⟩:=Ck h;obtain⟨n,r,hr⟩:=Kv _ _ _ _ hg rfl rfl;rw[JK hr]at h0 ⊢;exact UB hr hg h0
theorem Ja:∀(p:List Int) (t x:Tm),t.chk=0→x.chk=0→(t.putP p x).chk=0
 | [],t,x,_,hx=>by rw[Tm.putP_nil];exact hx
 | i::p,t,x,ht,hx=>by
  rw[Tm.putP_cons];split
  ·rename_i a ha;have hl:=(List.getElem?_eq_some_iff.1 ha).1;refine Q_ (n:=t.name) (xs:=t.args) (by cases t;exact ht) hl ?_;exact Ja p a x ((Tm.chk_args ht).2 a (List.mem_of_getElem? ha)) hx
  ·exact ht
theorem Jo{s:List Bd}(hs:∀b∈s,b.2.chk=0){t:Tm}(hc:t.chk=0)(h:(Au s t).2=true):(Au s t).1.chk=0:=by
 unfold Au at h ⊢;split
 ·exact NE hs hc
 ·rename_i hn;rw[if_neg hn]at h;cases h
theorem Il:∀(l:List ByteArray) (k:Nat) {b:Bd},b∈CK k l→∃j,j<k+l.length∧b.2=LK j
 | [],k,b,h=>by simp[CK]at h
 | n::l,k,b,h=>by
  rw[CK]at h;rcases List.mem_cons.1 h with rfl|h
  ·exact⟨k,by simp,rfl⟩
  ·obtain⟨j,h1,h2⟩:=Il l (k+1) h;exact⟨j,by rw[List.length_cons];omega,h2⟩
theorem P_(c:UInt8):∀(l:List ByteArray) (k:Nat) {b:Bd},b∈nmB c k l→∃j,j<k+l.length∧b.2=.mk (Bk c j) []
 | [],k,b,h=>by simp[nmB]at h
 | n::l,k,b,h=>by
  rw[nmB]at h;rcases List.mem_cons.1 h with rfl|h
  ·exact⟨k,by simp,rfl⟩
  ·obtain⟨j,h1,h2⟩:=P_ c l (k+1) h;exact⟨j,by rw[List.length_cons];omega,h2⟩
theorem VW{s:List Bd}(hs:∀b∈s,b.2.size=1)(t:Tm):(t.on s).size=t.size:=by
 induction hN:SizeOf.sizeOf t using Nat.strongRecOn generalizing t with
 | _ N ih =>
 subst hN;have key:(Tm.mk t.name (t.args.map (Tm.on s))).size=t.size:=by
  rw[Tm.size_eq,Tm.size_eq t];show 1+Tm.sizes (t.args.map (Tm.on s))=_
  have:∀l:List Tm,(∀a∈l,(a.on s).size=a.size)→Tm.sizes (l.map (Tm.on s))=Tm.sizes l:=fun l h=>by
   induction l with
   | nil=>rfl
   | cons a l ih2 =>
    rw[List.map_cons,Tm.sizes,Tm.sizes,h a (by simp),ih2 fun b hb=>h b (List.mem_cons_of_mem _ hb)]
  rw[this _ fun a ha=>ih _ (Tm.lt_of_arg ha) a rfl]
 by_cases h0:t.args=[]
 ·cases hl:lookup s t.name with
  | some x =>
   obtain⟨b,hb,_,rfl⟩:=DR hl;rw[Tm.on_leaf hl h0,hs b hb,Tm.size_eq t,h0];rfl
  | none=>rw[Tm.on_knot (.inl hl)];exact key
 ·rw[Tm.on_knot (.inr h0)];exact key
theorem ZV{t:Tm}(hc:t.chk=0){l:List ByteArray}(hl:∀n∈(t.cn l).2,AP n=true)(hk:(t.cn l).2.length<900000):(t.cn l).1.chk=0:=by
 rw[Yb t hc l _ hl ⟨[],by simp⟩];refine NE (fun b hb=>?_) hc;obtain⟨j,h1,h2⟩:=Il _ _ hb;rw[h2];exact WF (by omega)
def ABz(n i j:Nat):List (Nat×Nat):=(List.range' j (n-j)).map (fun j=>(i,j))++(List.range' (i+1) (n-(i+1))).flatMap fun i=>(List.range' 0 n).map fun j=>(i,j)
noncomputable def crR(R:List Pr)(c d:UInt8)(k:Nat)(i j:Nat):Option (List Pr):=match R[i]?,R[j]? with
 | some a,some b=>Nv (DI c k a) (DI d k b) (decide (i=j))
 | _,_=>none
theorem ED{c:UInt8}(h1:65≤c.toNat)(h2:c.toNat≤90){k:Nat}(hk:k≤1){t:Tm}{V:List ByteArray}(hV:V.length≤1000)(ht:t.chk=0):(t.on (nmB c k V)).chk=0∧(t.on (nmB c k V)).size=t.size:=by
 refine⟨NE (fun b hb=>?_) ht,VW (fun b hb=>?_) t⟩
 ·obtain⟨j,q1,q2⟩:=P_ c V k hb;rw[q2];exact TI (ZD h1 h2 (by omega))
 ·obtain⟨j,q1,q2⟩:=P_ c V k hb;rw[q2];rfl

theorem AY.memoWeak{C:Ctx}{s:AS}{id:Nat}{f f':List SV→List SV→SV→Prop}(hS:s.S id=some (.memo f))(hf:∀cs ds x,f cs ds x→f' cs ds x):AY C s (s.set id (.memo f')):=fun a w ⟨σ,ι,R⟩=>by
 have hb:=R.blk _ _ hS;cases hb with
 | @memo _ g ents h1 h2 h3 h4 =>
  obtain⟨hu,R'⟩:=R.turn (w':=w) hS (.memo f') (ι id) (σ':=σ) (fun _ _ h=>h) (fun _ _ _=>rfl) R.fit (Nat.le_refl _) (fun _=>⟨rfl,rfl⟩) ⟨rfl,rfl,rfl⟩ (Nat.le_refl _) (fun _ _ _=>rfl) (fun g h=>.inl h) (fun hu=>.memo h1 h2 (h3.weak hf) h4);exact⟨σ,_,R'⟩
theorem AY.freeze{C:Ctx}{s:AS}(id:Nat)(ts:List Nat){ty:TypeId}{xs:List SV}(hS:s.S id=some (.box ty (xs.map .st)))(hl:0<xs.length)(ht:∀t∈ts,s.env t=.one (.ptr id 1 0 0)) :
  AY C s ⟨fun t=>if t∈ts then .one (.eptr xs) else s.env t,AI s.S id (some (.dead 1 0))⟩:=fun a w ⟨σ,ι,R⟩=>by
 have hb:=R.blk _ _ hS;cases hb with
 | @box _ _ g vs h1 h2 h3 h4 h5 =>
  have hkeep:=Fz (σ:=σ) (w':=w) (g:=g) (k:=xs.length) (fun p x e hx=>by rw[h5 _ e]at hx;cases hx);obtain⟨hu,R'⟩:=R.turn (w':=w) hS (.dead 1 0) (ι id) (σ':=Es σ w g xs.length) hkeep (fun p hp _=>Fk (fun e=>hp (by rw[e];exact h1))) (Eo R.fit) (Nat.le_refl _) (fun _=>⟨rfl,rfl⟩) ⟨rfl,rfl,rfl⟩ (Nat.le_refl _) (fun _ _ _=>rfl) (fun g h=>.inl h)
   (fun hu=>.dead fun g' hg'=>by rw[h1]at hg';cases hg';exact⟨_,h3,rfl⟩)
  refine⟨_,_,R'.size,fun i hi=>?_,R'.nod,R'.fit,R'.blk,R'.inj,R'.base,R'.ext,R'.old,R'.os,R'.grown,R'.same,R'.upd⟩;show Ae _ _ _ _ (if i∈ts then .one (.eptr xs) else s.env i)
  split
  ·rename_i hm;have re:=R.env i hi;rw[ht i hm]at re;obtain⟨b,q1,q2,q3⟩:=Fu (Ad re);rw[hS]at q1;cases q1;obtain⟨g',e1,e2⟩:=q3 rfl;rw[h1]at e1;cases e1;rw[e2];have cell:∀j x,xs[j]?=some x→∃v,vs[j]?=some v∧A8 σ v x:=fun j x hx=>by
    obtain⟨v,v1,v2⟩:=h4.get (j:=j) (b:=.st x) (by rw[List.getElem?_map,hx];rfl);exact⟨v,by simpa using v1,CU v2⟩
   refine .one (.eptr (fun j=>(vs[j]?).getD undef) (fun j x hx=>?_) (fun j x hx=>?_) (fun _ _=>?_))
   ·obtain⟨v,v1,v2⟩:=cell j x hx;have hj:=(List.getElem?_eq_some_iff.1 hx).1;rw[show(0*(AJ.box ty (xs.map AC.st)).wid+0+j)=j by omega,L7 hj,cell_of_row w g _ _ _ _ h3,v1];rfl
   ·obtain⟨v,v1,v2⟩:=cell j x hx;rw[v1];exact v2.mono hkeep
   ·rw[Hr hl,Fo h3]
  ·exact R'.env i hi

def Co:IR :=
 (.seq (.ops [.i 6 (.mov (.c (.one (.st (.bool false)))))]) (.seq (.seq (.ops [.m 11 1,.i 12 (.nilCheck (.t 11)),.f 13 1 12,.l 14 13,.i 15 (.len false (.t 14)),.i 16 (.mov (.n 0))]) (.block 0 (.loop (.seq (.ops [.i 17 (.bin .lss (.t 16) (.t 15))]) (.seq (.cond (.t 17) .skip (.exit 0)) (.seq (.block 1 (.seq (.ops [.m 18 16,.m 7 18]) (.seq (.ops [.m 19 1,.i 20 (.nilCheck (.t 19)),.f 21 1 20,.l 22 21,.m 23 7,.i 24 (.indexAddr 2 (.t 22) (.t 23)),.L 25 2 24,.m 26 2,.i 27 (.nilCheck (.t 26)),.L 28 2 27,.i 29 (.call 69 [.t 25,.t 28]),.m 30 29,.mk (some 31) (some (30,false)) (.mov (.t 0)) .no,.mk (some 32) (some (30,false)) (.mov (.t 1)) .no,.mk (some 33) (some (30,false)) (.nilCheck (.t 32)) .no,.mk (some 34) (some (30,false)) (.fieldAddr 1 (.t 33)) .no,.mk (some 35) (some (30,false)) (.load false 1 (.t 34)) .no,.mk (some 36) (some (30,false)) (.mov (.t 7)) .no,.mk (some 37) (some (30,false)) (.indexAddr 2 (.t 35) (.t 36)) .no,.mk (some 38) (some (30,false)) (.mov (.t 2)) .no,.mk (some 39) (some (30,false)) (.callR 100 [.t 31,.t 37,.t 38]) .no,.i 40 (.pick (.t 30) (.c (.one (.st (.bool true)))) (.t 39))]) (.cond (.t 40) (.seq (.ops [.i 6 (.mov (.c (.one (.st (.bool true)))))]) .ret) .skip)))) (.ops [.i 41 (.bin .add (.t 16) (.n 1)),.m 16 41]))))))) (.seq (.seq (.ops [.m 42 2,.i 43 (.nilCheck (.t 42)),.f 44 0 43,.l 45 44,.i 46 (.call 67 [.t 45])]) (.cond (.t 46) (.seq (.ops [.i 6 (.mov (.c (.one (.st (.bool false)))))]) .ret) .skip)) (.seq (.ops [.m 47 0,.i 48 (.nilCheck (.t 47)),.f 49 0 48,.l 50 49,.m 51 1,.i 52 (.nilCheck (.t 51)),.L 53 2 52,.m 54 2,.i 55 (.nilCheck (.t 54)),.L 56 2 55,.i 57 (.call 133 [.t 50,.t 53,.t 56]),.m 8 57]) (.seq (.seq (.ops [.m 58 8,.i 59 (.bin .lss (.t 58) (.n 0))]) (.cond (.t 59) (.seq (.ops [.i 6 (.mov (.c (.one (.st (.bool false)))))]) .ret) .skip)) (.seq (.seq (.ops [.m 60 2,.i 61 (.nilCheck (.t 60)),.f 62 1 61,.l 63 62,.i 64 (.len false (.t 63)),.i 65 (.mov (.n 0))]) (.block 2 (.loop (.seq (.ops [.i 66 (.bin .lss (.t 65) (.t 64))]) (.seq (.cond (.t 66) .skip (.exit 2)) (.seq (.block 3 (.seq (.ops [.m 67 65,.m 9 67]) (.seq (.ops [.m 68 0,.m 69 1,.m 70 2,.i 71 (.nilCheck (.t 70)),.f 72 1 71,.l 73 72,.m 74 9,.i 75 (.indexAddr 2 (.t 73) (.t 74)),.i 76 (.callR 100 [.t 68,.t 69,.t 75]),.i 77 (.un .not (.t 76))]) (.cond (.t 77) (.seq (.ops [.i 6 (.mov (.c (.one (.st (.bool false)))))]) .ret) .skip)))) (.ops [.i 78 (.bin .add (.t 65) (.n 1)),.m 65 78]))))))) (.seq (.seq (.ops [.m 79 8,.i 80 (.bin .gtr (.t 79) (.n 0))]) (.cond (.t 80) (.seq (.ops [.i 6 (.mov (.c (.one (.st (.bool true)))))]) .ret) .skip)) (.seq (.seq (.ops [.m 81 1,.i 82 (.nilCheck (.t 81)),.f 83 1 82,.l 84 83,.i 85 (.len false (.t 84)),.i 86 (.mov (.n 0))]) (.block 4 (.loop (.seq (.ops [.i 87 (.bin .lss (.t 86) (.t 85))]) (.seq (.cond (.t 87) .skip (.exit 4)) (.seq (.block 5 (.seq (.ops [.m 88 86,.m 10 88]) (.seq (.ops [.m 89 1,.i 90 (.nilCheck (.t 89)),.f 91 1 90,.l 92 91,.m 93 10,.i 94 (.indexAddr 2 (.t 92) (.t 93)),.L 95 2 94,.m 96 2,.i 97 (.nilCheck (.t 96)),.f 98 1 97,.l 99 98,.m 100 10,.i 101 (.indexAddr 2 (.t 99) (.t 100)),.L 102 2 101,.i 103 (.call 69 [.t 95,.t 102]),.i 104 (.un .not (.t 103))]) (.cond (.t 104) (.seq (.ops [.m 105 0,.m 106 1,.i 107 (.nilCheck (.t 106)),.f 108 1 107,.l 109 108,.m 110 10,.i 111 (.indexAddr 2 (.t 109) (.t 110)),.m 112 2,.i 113 (.nilCheck (.t 112)),.f 114 1 113,.l 115 114,.m 116 10,.i 117 (.indexAddr 2 (.t 115) (.t 116)),.i 118 (.callR 100 [.t 105,.t 111,.t 117]),.m 6 118]) .ret) .skip)))) (.ops [.i 119 (.bin .add (.t 86) (.n 1)),.m 86 119]))))))) (.seq (.ops [.i 6 (.mov (.c (.one (.st (.bool false)))))]) .ret)))))))))
theorem EV:OkF Tryz.prog 122 120 [40000039,40000076,40000118] Co [.t 6]:=.of Tryz.func122 rfl rfl (by kernel_rfl) rfl
def Cc:IR :=
 (.seq (.ops [.i 6 (.mov (.c (.one (.st (.bool false)))))]) (.seq (.seq (.ops [.m 11 1,.i 12 (.nilCheck (.t 11)),.f 13 0 12,.l 14 13,.i 15 (.call 67 [.t 14])]) (.cond (.t 15) (.seq (.ops [.i 6 (.mov (.c (.one (.st (.bool false)))))]) .ret) .skip)) (.seq (.ops [.m 16 1,.m 17 2,.i 18 (.buildArr [.t 16,.t 17]),.i 7 (.alloc 144 [.st (.lit (.pointer none)),.st (.lit (.pointer none))]),.s 2 7 18]) (.seq (.seq (.ops [.m 20 0,.i 21 (.nilCheck (.t 20)),.f 22 1 21,.l 23 22,.L 24 2 7,.i 25 (.memoGet true (.one (.st (.bool false))) (.t 23) (.t 24)),.m 19 25,.i 26 (.extract 0 (.t 19)),.i 27 (.extract 1 (.t 19)),.m 8 26,.m 9 27]) (.seq (.ops [.m 28 9]) (.cond (.t 28) (.seq (.ops [.m 29 8,.m 6 29]) .ret) .skip))) (.seq (.ops [.m 30 0,.m 31 1,.m 32 2,.i 33 (.callR 122 [.t 30,.t 31,.t 32]),.m 10 33]) (.seq (.ops [.m 34 0,.i 35 (.nilCheck (.t 34)),.f 36 1 35,.l 37 36,.L 38 2 7,.m 39 10,.mk none none (.memoSet (.t 37) (.t 38) (.t 39)) .no]) (.seq (.ops [.m 40 10,.m 6 40]) .ret)))))))
theorem D2:OkF Tryz.prog 100 41 [40000033] Cc [.t 6]:=.of Tryz.func100 rfl rfl (by kernel_rfl) rfl
def HW:IR :=
 (.seq (.ops [.i 4 (.box 37 (.t 1)),.i 5 (.box 37 (.t 2)),.i 6 (.mov (.c (.one (.st (.bool false)))))]) (.seq (.ops [.m 8 0,.i 9 .makeMemo,.i 10 (.build [.full [],.st (.lit (.map none))] [(0,1,.t 8),(1,1,.t 9)]),.i 11 (.box 130 (.t 10)),.m 7 11]) (.seq (.ops [.m 12 7,.i 13 (.callR 100 [.t 12,.t 4,.t 5]),.m 6 13]) .ret)))
theorem NA:OkF Tryz.prog 70 14 [40000013] HW [.t 6]:=.of Tryz.func70 rfl rfl (by kernel_rfl) rfl

theorem Qo{σ:Sto}{v:Value}{s s':ByteArray}(h:A8 σ v (.str s))(h':A8 σ v (.str s')):s=s':=by
 cases h with
 | str _=>cases h' with
  | str _=>rfl
theorem Xh{σ:Sto}{v:Value}{xs ys:List (List SV)}(h:A8 σ v (.list xs))(h':A8 σ v (.list ys))(w:Nat)(hx:∀x∈xs,x.length=w)(hy:∀y∈ys,y.length=w) :
  xs.length=ys.length∧∀(k:Nat) (x y:List SV),xs[k]?=some x→ys[k]?=some y→∃c:Nat→Value,(∀j u,x[j]?=some u→A8 σ (c j) u)∧∀j u,y[j]?=some u→A8 σ (c j) u:=by
 cases h with
 | @list p len cap b o w1 _ c h1 h2 h3 h4 h5 h6 hh h7 h8 =>
 cases h' with
 | @list _ _ _ b' o' w2 _ c' k1 k2 k3 k4 k5 k6 kh k7 k8 =>
 refine⟨by omega,fun k x y ex ey=>⟨c k,fun j u hu=>h8 k x j u ex hu,fun j u hu=>?_⟩⟩;have m1:=List.mem_of_getElem? ex;have m2:=List.mem_of_getElem? ey;have hl:=(List.getElem?_eq_some_iff.1 ex).1;have e1:=h5 (by omega);have e2:=k5 (by omega);rw[e1]at e2;cases e2;have w1e:w1=w:=(h6 x m1).symm.trans (hx x m1);have w2e:w2=w:=(k6 y m2).symm.trans (hy y m2);have hj:j<x.length:=by
  rw[hx x m1,←hy y m2];exact(List.getElem?_eq_some_iff.1 hu).1
 have q1:=h7 k x j _ ex (List.getElem?_eq_getElem hj);have q2:=k7 k y j u ey hu;rw[w1e]at q1;rw[w2e,q1]at q2;rw[Option.some.inj q2];exact k8 k y j u ey hu
theorem RN:∀(N:Nat) (a b:Tm) (σ:Sto) (c:Nat→Value),SizeOf.sizeOf a<N→(∀j x,(Al a)[j]?=some x→A8 σ (c j) x)→(∀j x,(Al b)[j]?=some x→A8 σ (c j) x)→a=b
 | 0,_,_,_,_,h,_,_=>absurd h (Nat.not_lt_zero _)
 | N+1,a,b,σ,c,hN,ha,hb=>by
  rw[Ao]at ha hb;have hn:=Qo (ha 0 _ rfl) (hb 0 _ rfl);have hlen:∀{l:List Tm},∀x∈l.map Al,x.length=2:=fun x hx=>by
   obtain⟨t,_,rfl⟩:=List.mem_map.1 hx;exact RQ t
  obtain⟨hl,hr⟩:=Xh (ha 1 _ rfl) (hb 1 _ rfl) 2 hlen hlen;rw[List.length_map,List.length_map]at hl;have hargs:a.args=b.args:=by
   apply List.ext_getElem?;intro k;by_cases hk:k<a.args.length
   ·have e1:a.args[k]?=some a.args[k]:=List.getElem?_eq_getElem hk;have e2:b.args[k]?=some (b.args[k]'(by omega)):=List.getElem?_eq_getElem (by omega);obtain⟨c',q1,q2⟩:=hr k (Al a.args[k]) (Al (b.args[k]'(by omega))) (by rw[List.getElem?_map,e1];rfl) (by rw[List.getElem?_map,e2];rfl);have hlt:=Tm.lt_of_arg (List.mem_of_getElem? e1);rw[e1,e2,RN N _ _ σ c' (by omega) q1 q2]
   ·rw[List.getElem?_eq_none (by omega),List.getElem?_eq_none (by omega)]
  cases a;cases b;simp only[Tm.name,Tm.args]at hn hargs;rw[hn,hargs]
theorem Vq{a b:Tm}(h:W2 (Al a) (Al b)):a=b:=by
 obtain⟨σ,c,h1,h2⟩:=h;exact RN _ a b σ c (Nat.lt_succ_self _) h1 h2

def HC:List ByteArray→ByteArray→Int→Int
 | [],_,_=>-1
 | x::xs,s,i=>if x=s then i else HC xs s (i+1)
def B2(row:List ByteArray)(s:ByteArray):Int:=HC row s 0
def FY(x y:Int):Int:=if x<y then -1 else if y<x then 1 else 0
def Cf(row:List ByteArray)(a b:Tm):Int :=
 if FY (B2 row a.name) (B2 row b.name)≠0 then FY (B2 row a.name) (B2 row b.name) else if DZ a.name b.name≠0 then DZ a.name b.name else FY a.args.length b.args.length
theorem X7{x y:Int}:FY x y<0↔x<y:=by unfold FY;split <;> (try split) <;> omega
theorem Rx{x y:Int}:0<FY x y↔y<x:=by unfold FY;split <;> (try split) <;> omega
theorem Fb{x y:Int}:FY x y=0↔x=y:=by unfold FY;split <;> (try split) <;> omega
theorem AAk{a b:ByteArray}:DZ a b<0↔sLt a b=true:=by
 unfold DZ;split
 ·rename_i h;simp[h]
 ·rename_i h;split <;> simp[h]
theorem Qx{a b:ByteArray}:DZ a b=0↔a=b:=by
 unfold DZ;split
 ·rename_i h;constructor
  ·intro h';cases h'
  ·intro e;subst e;rw[BY]at h;cases h
 ·split <;> simp_all
theorem AAP{a b:ByteArray}:0<DZ a b↔sLt b a=true:=by
 unfold DZ;split
 ·rename_i h;rw[Fw h];simp
 ·rename_i h;split
  ·rename_i e;subst e;rw[BY];simp
  ·rename_i e;rcases EC a b with h1|h1|h1
   ·exact absurd h1 h
   ·exact absurd h1 e
   ·simp[h1]
theorem Nh{row:List ByteArray}{a b:Tm}:0<Cf row a b↔B2 row b.name<B2 row a.name∨(B2 row a.name=B2 row b.name∧(sLt b.name a.name=true∨(a.name=b.name∧b.args.length<a.args.length))):=by
 unfold Cf;rcases Int.lt_trichotomy (B2 row a.name) (B2 row b.name) with h|h|h
 ·have h1:=X7.2 h;rw[if_pos (by omega)];constructor
  ·intro h2;omega
  ·intro h2;omega
 ·have h1:=Fb.2 h;rw[if_neg (by omega)];rcases EC a.name b.name with h2|h2|h2
  ·have h3:=AAk.2 h2;rw[if_pos (by omega)];constructor
   ·intro h4;omega
   ·rintro(h4|⟨_,h4|⟨h4,_⟩⟩)
    ·omega
    ·rw[Fw h2]at h4;cases h4
    ·rw[h4,BY]at h2;cases h2
  ·have h3:=Qx.2 h2;rw[if_neg (by omega),Rx];constructor
   ·intro h4;exact .inr ⟨h,.inr ⟨h2,by omega⟩⟩
   ·rintro(h4|⟨_,h4|⟨_,h4⟩⟩)
    ·omega
    ·rw[h2,BY]at h4;cases h4
    ·omega
  ·have h3:=AAP.2 h2;rw[if_pos (by omega)];exact⟨fun _=>.inr ⟨h,.inl h2⟩,fun _=>h3⟩
 ·have h1:=Rx.2 h;rw[if_pos (by omega)];exact⟨fun _=>.inl h,fun _=>h1⟩
theorem Hh{row:List ByteArray}{a b:Tm}:Cf row a b=0↔a.name=b.name∧a.args.length=b.args.length:=by
 unfold Cf;constructor
 ·intro h;by_cases h1:FY (B2 row a.name) (B2 row b.name)≠0
  ·rw[if_pos h1]at h;exact absurd h h1
  rw[if_neg h1]at h;by_cases h2:DZ a.name b.name≠0
  ·rw[if_pos h2]at h;exact absurd h h2
  rw[if_neg h2,Fb]at h;exact⟨Qx.1 (by omega),by omega⟩
 ·rintro⟨h1,h2⟩;rw[if_neg (by rw[h1,Classical.not_not];exact Fb.2 rfl),if_neg (by rw[Classical.not_not];exact Qx.2 h1),h2];exact Fb.2 rfl
theorem Rj{row:List ByteArray}{a b:Tm}:Cf row a b<0↔0<Cf row b a:=by
 rw[Nh];have h1:=@Nh row a b;have h0:=@Hh row a b;constructor
 ·intro h;rcases Int.lt_trichotomy (B2 row a.name) (B2 row b.name) with h2|h2|h2
  ·exact .inl h2
  ·rcases EC a.name b.name with h3|h3|h3
   ·exact .inr ⟨h2.symm,.inl h3⟩
   ·rcases Nat.lt_trichotomy a.args.length b.args.length with h4|h4|h4
    ·exact .inr ⟨h2.symm,.inr ⟨h3.symm,h4⟩⟩
    ·have:=h0.2 ⟨h3,h4⟩;omega
    ·have:=h1.2 (.inr ⟨h2,.inr ⟨h3,h4⟩⟩);omega
   ·have:=h1.2 (.inr ⟨h2,.inl h3⟩);omega
  ·have:=h1.2 (.inl h2);omega
 ·intro h;have hn:¬0<Cf row a b:=fun h2=>by
   rcases h1.1 h2 with h3|⟨h3,h4|⟨h4,h5⟩⟩ <;> rcases h with h6|⟨h6,h7|⟨h7,h8⟩⟩
   ·omega
   ·omega
   ·omega
   ·omega
   ·rw[Fw h4]at h7;cases h7
   ·rw[h7,BY]at h4;cases h4
   ·omega
   ·rw[h4,BY]at h7;cases h7
   ·omega
  have hz:¬Cf row a b=0:=fun h2=>by
   obtain⟨e1,e2⟩:=h0.1 h2;rcases h with h6|⟨h6,h7|⟨h7,h8⟩⟩
   ·rw[e1]at h6;omega
   ·rw[e1,BY]at h7;cases h7
   ·omega
  omega
inductive Lex(R:Tm→Tm→Prop):List Tm→List Tm→Prop
 | here {x y xs ys}:x≠y→R x y→xs.length=ys.length→Lex R (x::xs) (y::ys)
 | on {x xs ys}:Lex R xs ys→Lex R (x::xs) (x::ys)
theorem Lex.irrefl{R:Tm→Tm→Prop}:∀{xs:List Tm},¬Lex R xs xs
 | [],h=>by cases h
 | x::xs,h=>by
  cases h with
  | here h _ _=>exact h rfl
  | on h=>exact Lex.irrefl h
section
variable {s:List Bd} {a b:Tm} {row:List ByteArray}
end

inductive Pa(row:List ByteArray):Tm→Tm→Prop
 | is {a x:Tm}:AP a.name=false→x∈a.args→Pa row a x
 | sub {a b x:Tm}:AP a.name=false→x∈a.args→Pa row x b→Pa row a b
 | gt {a b:Tm}:AP a.name=false→AP b.name=false→0<Cf row a b→(∀y∈b.args,Pa row a y)→Pa row a b
 | lex {a b x y:Tm} {p xs ys:List Tm}:AP a.name=false→AP b.name=false→Cf row a b=0→(∀y∈b.args,Pa row a y)→a.args=p++x::xs→b.args=p++y::ys→x≠y→Pa row x y→Pa row a b
theorem Lex.split{R:Tm→Tm→Prop}{xs ys:List Tm}(h:Lex R xs ys):∃p x y us vs,xs=p++x::us∧ys=p++y::vs∧x≠y∧R x y:=by
 induction h with
 | here hne hr hl=>exact⟨[],_,_,_,_,rfl,rfl,hne,hr⟩
 | on k ih =>
  obtain⟨p,x,y,us,vs,e1,e2,h1,h2⟩:=ih;exact⟨_::p,x,y,us,vs,by rw[e1];rfl,by rw[e2];rfl,h1,h2⟩
theorem Lex.at2{R:Tm→Tm→Prop}{x y:Tm}(hne:x≠y)(h:R x y){us vs:List Tm}(hl:us.length=vs.length):∀p:List Tm,Lex R (p++x::us) (p++y::vs)
 | []=>.here hne h hl
 | z::p=>.on (Lex.at2 hne h hl p)
theorem QU{row:List ByteArray}{a b:Tm}:Pa row a b↔AP a.name=false∧((∃x∈a.args,x=b∨Pa row x b)∨(AP b.name=false∧¬Cf row a b<0∧(∀y∈b.args,Pa row a y)∧(0<Cf row a b∨Lex (Pa row) a.args b.args))):=by
 constructor
 ·intro h;cases h with
  | is h1 h2=>exact⟨h1,.inl ⟨_,h2,.inl rfl⟩⟩
  | sub h1 h2 h3=>exact⟨h1,.inl ⟨_,h2,.inr h3⟩⟩
  | gt h1 h2 h3 h4=>exact⟨h1,.inr ⟨h2,by omega,h4,.inl h3⟩⟩
  | lex h1 h2 h3 h4 e1 e2 hne h5 =>
   refine⟨h1,.inr ⟨h2,by omega,h4,.inr ?_⟩⟩;have hl:=(Hh.1 h3).2;rw[e1,e2]at hl ⊢;exact Lex.at2 hne h5 (by simpa using hl) _
 ·rintro⟨h1,⟨x,hx,rfl|h⟩|⟨h2,h3,h4,h5⟩⟩
  ·exact .is h1 hx
  ·exact .sub h1 hx h
  ·by_cases h6:0<Cf row a b
   ·exact .gt h1 h2 h6 h4
   ·rcases h5 with h5|h5
    ·exact absurd h5 h6
    ·obtain⟨p,x,y,us,vs,e1,e2,hne,h7⟩:=h5.split;exact .lex h1 h2 (by omega) h4 e1 e2 hne h7
variable {row:List ByteArray} {a b c:Tm}
theorem Pa.fn(h:Pa row a b):AP a.name=false:=(QU.1 h).1

mutual
theorem Tm.knots_drop:∀(t:Tm) (i:Nat) (x:Tm),t.knots[i]?=some x→∃rest,t.knots.drop i=x.knots++rest
 | .mk n xs,i,x,h=>by
  rw[Tm.knots]at h ⊢;cases i with
  | zero =>
   rw[List.getElem?_cons_zero]at h;cases h;exact⟨[],by rw[List.drop_zero,List.append_nil,Tm.knots]⟩
  | succ i =>
   rw[List.getElem?_cons_succ]at h;rw[List.drop_succ_cons];exact Tm.knotsL_drop xs i x h
theorem Tm.knotsL_drop:∀(xs:List Tm) (i:Nat) (x:Tm),(Tm.knotsL xs)[i]?=some x→∃rest,(Tm.knotsL xs).drop i=x.knots++rest
 | [],i,x,h=>by simp[Tm.knotsL]at h
 | t::ts,i,x,h=>by
  rw[Tm.knotsL]at h ⊢;by_cases hi:i<t.knots.length
  ·rw[List.getElem?_append_left hi]at h;obtain⟨rest,hr⟩:=Tm.knots_drop t i x h;exact⟨rest++Tm.knotsL ts,by rw[List.drop_append_of_le_length (by omega),hr,List.append_assoc]⟩
  ·rw[List.getElem?_append_right (by omega)]at h;obtain⟨rest,hr⟩:=Tm.knotsL_drop ts _ x h;exact⟨rest,by rw[List.drop_append,List.drop_eq_nil_of_le (by omega),List.nil_append];exact hr⟩
end
def CQ(x:Tm)(i m:Nat):Nat:=i+1+Tm.sizes (x.args.take m)
theorem GR(x:Tm)(i:Nat):CQ x i 0=i+1:=by unfold CQ;simp[Tm.sizes]
theorem Er{x c:Tm}{m:Nat}(i:Nat)(h:x.args[m]?=some c):CQ x i (m+1)=CQ x i m+c.size:=by
 unfold CQ;rw[Ab h,Tm.sizes_append];simp only[Tm.sizes];omega
theorem Fv(x:Tm)(i:Nat):CQ x i x.args.length=i+x.size:=by
 unfold CQ;rw[List.take_length];cases x;simp only[Tm.size,Tm.args_mk];omega
theorem YQ(x:Tm)(i m:Nat):CQ x i m≤i+x.size:=by
 by_cases h:x.args.length≤m
 ·rw[←Fv x i];unfold CQ;rw[List.take_of_length_le h,List.take_length];exact Nat.le_refl _
 ·rw[←Fv x i];unfold CQ;have e:x.args=x.args.take m++x.args.drop m:=(List.take_append_drop _ _).symm;rw[List.take_length];conv=>rhs;rw[e,Tm.sizes_append]
  omega
theorem Mf(x:Tm)(i m:Nat):i<CQ x i m:=by unfold CQ;omega
theorem Q8{x:Tm}{i m:Nat}(h:m<x.args.length):CQ x i m<i+x.size:=by
 have h1:x.args[m]?=some x.args[m]:=List.getElem?_eq_getElem h;have h2:=Er i h1;have h3:=YQ x i (m+1);have:0<(x.args[m]).size:=Tm.size_pos _
 omega
theorem J1{t x c:Tm}{i m:Nat}(h:t.knots[i]?=some x)(hc:x.args[m]?=some c):t.knots[CQ x i m]?=some c:=by
 obtain⟨rest,hr⟩:=Tm.knots_drop t i x h;have hm:m<x.args.length:=(List.getElem?_eq_some_iff.1 hc).1;have e:t.knots[CQ x i m]?=(t.knots.drop i)[CQ x i m-i]?:=by
  rw[List.getElem?_drop];congr 1;have:=Mf x i m;omega
 rw[e,hr,List.getElem?_append_left (by rw[Tm.knots_length];have:=Q8 (i:=i) hm;have:=Mf x i m;omega)];have e2:CQ x i m-i=Tm.sizes (x.args.take m)+1:=by unfold CQ;omega
 rw[e2,Tm.knots_eq,List.getElem?_cons_succ];have e3:x.args=x.args.take m++c::x.args.drop (m+1):=by
  have h1:=(List.getElem?_eq_some_iff.1 hc).2;conv=>lhs;rw[←List.take_append_drop m x.args,List.drop_eq_getElem_cons hm,h1]
 have e4:Tm.knotsL x.args=Tm.knotsL (x.args.take m)++(c.knots++Tm.knotsL (x.args.drop (m+1))):=by
  conv=>lhs;rw[e3,Tm.knotsL_append,Tm.knotsL]
 rw[e4,List.getElem?_append_right (by rw[Tm.knotsL_length];exact Nat.le_refl _),Tm.knotsL_length,Nat.sub_self,Tm.knots_eq];rfl
theorem MP{t x:Tm}{i:Nat}(h:t.knots[i]?=some x):i+x.size≤t.size:=by
 obtain⟨rest,hr⟩:=Tm.knots_drop t i x h;have h1:=congrArg List.length hr;have hi:i<t.knots.length:=(List.getElem?_eq_some_iff.1 h).1;rw[List.length_drop,List.length_append,Tm.knots_length,Tm.knots_length]at h1;rw[Tm.knots_length]at hi;omega
open Classical in
noncomputable def paB(row:List ByteArray)(a b:Tm):Bool:=decide (Pa row a b)
theorem FI{row:List ByteArray}{a b:Tm}:paB row a b=true↔Pa row a b:=by unfold paB;simp
theorem Iy{row:List ByteArray}{a b:Tm}:paB row a b=false↔¬Pa row a b:=by unfold paB;simp
theorem VF{row:List ByteArray}{a b:Tm}(h:AP a.name=true):paB row a b=false:=Iy.2 fun k=>by have:=k.fn;rw[h]at this;cases this
theorem MB{row:List ByteArray}{a b x:Tm}(h:AP a.name=false)(hx:x∈a.args)(k:x=b∨paB row x b=true):paB row a b=true :=
 FI.2 (QU.2 ⟨h,.inl ⟨x,hx,k.imp id FI.1⟩⟩)
theorem MZ{row:List ByteArray}{a b:Tm}(h:AP a.name=false)(hno:∀x∈a.args,x≠b∧paB row x b=false):Pa row a b↔(AP b.name=false∧¬Cf row a b<0∧(∀y∈b.args,Pa row a y)∧(0<Cf row a b∨Lex (Pa row) a.args b.args)):=by
 rw[QU];constructor
 ·rintro⟨_,⟨x,hx,e|k⟩|h⟩
  ·exact absurd e (hno x hx).1
  ·exact absurd k (Iy.1 (hno x hx).2)
  ·exact h
 ·exact fun k=>⟨h,.inr k⟩
theorem Fs{row:List ByteArray}{a b:Tm}(h:AP a.name=false)(hno:∀x∈a.args,x≠b∧paB row x b=false)(hs:AP b.name=true∨Cf row a b<0∨∃y∈b.args,paB row a y=false):paB row a b=false:=by
 rw[Iy,MZ h hno];rintro⟨h1,h2,h3,_⟩;rcases hs with hs|hs|⟨y,hy,k⟩
 ·rw[h1]at hs;cases hs
 ·exact h2 hs
 ·exact Iy.1 k (h3 y hy)
theorem Yq{row:List ByteArray}{a b:Tm}(h:AP a.name=false)(hb:AP b.name=false)(hs:0<Cf row a b)(hall:∀y∈b.args,paB row a y=true):paB row a b=true :=
 FI.2 (.gt h hb hs fun y hy=>FI.1 (hall y hy))
theorem Lex.tail{R:Tm→Tm→Prop}:∀{xs ys:List Tm} {x y:Tm},x≠y→Lex R (x::xs) (y::ys)→R x y
 | _,_,_,_,hne,.here _ h _=>h
 | _,_,_,_,hne,.on _=>absurd rfl hne
theorem Lex.same{R:Tm→Tm→Prop}:∀{xs ys:List Tm} {x:Tm},Lex R (x::xs) (x::ys)→Lex R xs ys
 | _,_,_,.here hne _ _=>absurd rfl hne
 | _,_,_,.on h=>h
theorem Lex.first{R:Tm→Tm→Prop}{x y:Tm}{us vs:List Tm}(hne:x≠y):∀{p q:List Tm},p=q→Lex R (p++x::us) (q++y::vs)→R x y
 | [],_,rfl,h=>Lex.tail hne h
 | z::p,_,rfl,h=>Lex.first hne rfl (Lex.same h)
theorem Jt{xs:List Tm}{k:Nat}{x:Tm}(h:xs[k]?=some x):xs=xs.take k++x::xs.drop (k+1):=by
 have hm:k<xs.length:=(List.getElem?_eq_some_iff.1 h).1;have h1:=(List.getElem?_eq_some_iff.1 h).2;conv=>lhs;rw[←List.take_append_drop k xs,List.drop_eq_getElem_cons hm,h1]
theorem P5{row:List ByteArray}{a b x y:Tm}{k:Nat}(h:AP a.name=false)(hb:AP b.name=false)(hno:∀x∈a.args,x≠b∧paB row x b=false)(hs:Cf row a b=0)(hall:∀y∈b.args,paB row a y=true)(hp:a.args.take k=b.args.take k)(hx:a.args[k]?=some x)(hy:b.args[k]?=some y)(hne:x≠y):paB row a b=paB row x y:=by
 cases hxy:paB row x y with
 | true=>exact FI.2 (.lex h hb hs (fun y hy=>FI.1 (hall y hy)) (Jt hx) ((Jt hy).trans (by rw[hp])) hne (FI.1 hxy))
 | false =>
  rw[Iy,MZ h hno];rintro⟨_,_,_,k1|k1⟩
  ·omega
  ·refine Iy.1 hxy ?_;rw[Jt hx,Jt hy]at k1;exact Lex.first hne hp k1
theorem RR{row:List ByteArray}{a b:Tm}(h:AP a.name=false)(hno:∀x∈a.args,x≠b∧paB row x b=false)(hs:Cf row a b=0)(he:a.args=b.args):paB row a b=false:=by
 rw[Iy,MZ h hno];rintro⟨_,_,_,k1|k1⟩
 ·omega
 ·rw[he]at k1;exact Lex.irrefl k1



def Cd:IR :=
 (.seq (.ops [.i 4 (.mov (.n 0))]) (.seq (.seq (.ops [.m 6 0,.i 7 (.len false (.t 6)),.i 8 (.mov (.n 0))]) (.block 0 (.loop (.seq (.ops [.i 9 (.bin .lss (.t 8) (.t 7))]) (.seq (.cond (.t 9) .skip (.exit 0)) (.seq (.block 1 (.seq (.ops [.m 10 8,.m 5 10]) (.seq (.ops [.m 11 1,.m 12 0,.m 13 5,.i 14 (.indexAddr 1 (.t 12) (.t 13)),.l 15 14,.i 16 (.bin .eql (.t 11) (.t 15))]) (.cond (.t 16) (.seq (.ops [.m 17 5,.m 4 17]) .ret) .skip)))) (.ops [.i 18 (.bin .add (.t 8) (.n 1)),.m 8 18]))))))) (.seq (.ops [.i 4 (.mov (.c (.one (.st (.int .i64 (-1))))))]) .ret)))
theorem D6:OkF Tryz.prog 98 19 [] Cd [.t 4]:=.of Tryz.func98 rfl rfl (by kernel_rfl) rfl
def Ft:IR :=
 (.seq (.ops [.i 2 (.mov (.c (.one (.st (.bool false)))))]) (.seq (.ops [.m 3 0,.m 4 0,.i 5 (.bin .neq (.t 3) (.t 4)),.m 2 5]) .ret))
theorem Kl:OkF Tryz.prog 154 6 [] Ft [.t 2]:=.of Tryz.func154 rfl rfl (by kernel_rfl) rfl
def Ex:IR :=
 (.seq (.ops [.i 4 (.mov (.n 0))]) (.seq (.ops [.m 7 0,.i 8 (.call 154 [.t 7]),.m 5 8]) (.seq (.ops [.m 9 1,.i 10 (.call 154 [.t 9]),.m 6 10]) (.seq (.seq (.ops [.m 11 5]) (.cond (.t 11) (.seq (.seq (.ops [.m 12 6]) (.cond (.t 12) (.seq (.ops [.i 4 (.mov (.n 0))]) .ret) .skip)) (.seq (.ops [.i 4 (.mov (.c (.one (.st (.int .i64 (-1))))))]) .ret)) .skip)) (.seq (.seq (.ops [.m 13 6]) (.cond (.t 13) (.seq (.ops [.i 4 (.mov (.n 1))]) .ret) .skip)) (.seq (.seq (.ops [.m 14 0,.m 15 1,.i 16 (.bin .lss (.t 14) (.t 15))]) (.cond (.t 16) (.seq (.ops [.i 4 (.mov (.c (.one (.st (.int .i64 (-1))))))]) .ret) .skip)) (.seq (.seq (.ops [.m 17 0,.m 18 1,.i 19 (.bin .gtr (.t 17) (.t 18))]) (.cond (.t 19) (.seq (.ops [.i 4 (.mov (.n 1))]) .ret) .skip)) (.seq (.ops [.i 4 (.mov (.n 0))]) .ret))))))))
theorem Ii:OkF Tryz.prog 140 20 [] Ex [.t 4]:=.of Tryz.func140 rfl rfl (by kernel_rfl) rfl
def IM:IR :=
 (.seq (.ops [.i 2 (.mov (.n 0))]) (.seq (.ops [.i 3 (.mov (.n 0))]) (.seq (.seq (.ops [.m 6 0,.i 7 (.len false (.t 6)),.i 8 (.mov (.n 0))]) (.block 0 (.loop (.seq (.ops [.i 9 (.bin .lss (.t 8) (.t 7))]) (.seq (.cond (.t 9) .skip (.exit 0)) (.seq (.block 1 (.seq (.ops [.i 10 (.indexAddr 1 (.t 6) (.t 8)),.l 11 10,.m 5 11]) (.seq (.ops [.m 12 5,.m 13 3,.i 14 (.bin .neq (.t 12) (.t 13))]) (.cond (.t 14) (.seq (.ops [.m 15 5,.m 2 15]) .ret) .skip)))) (.ops [.i 16 (.bin .add (.t 8) (.n 1)),.m 8 16]))))))) (.seq (.ops [.m 17 3,.m 2 17]) .ret))))
theorem OH:OkF Tryz.prog 139 18 [] IM [.t 2]:=.of Tryz.func139 rfl rfl (by kernel_rfl) rfl
def Fl:IR :=
 (.seq (.ops [.i 4 (.box 37 (.t 1)),.i 5 (.box 37 (.t 2)),.i 6 (.mov (.n 0))]) (.seq (.ops [.m 7 0,.f 8 0 4,.l 9 8,.i 10 (.call 98 [.t 7,.t 9]),.m 11 0,.f 12 0 5,.l 13 12,.i 14 (.call 98 [.t 11,.t 13]),.i 15 (.call 140 [.t 10,.t 14]),.f 16 0 4,.l 17 16,.f 18 0 5,.l 19 18,.i 20 (.call 132 [.t 17,.t 19]),.f 21 1 4,.l 22 21,.i 23 (.len false (.t 22)),.f 24 1 5,.l 25 24,.i 26 (.len false (.t 25)),.i 27 (.call 140 [.t 23,.t 26]),.i 28 (.buildFlat [.t 15,.t 20,.t 27]),.i 29 (.call 139 [.t 28]),.m 6 29]) .ret))
theorem Ki:OkF Tryz.prog 133 30 [] Fl [.t 6]:=.of Tryz.func133 rfl rfl (by kernel_rfl) rfl
def HF:IR :=
 (.seq (.ops [.i 2 (.mov (.n 0))]) (.seq (.seq (.ops [.m 5 0,.i 6 (.len false (.t 5)),.i 7 (.bin .gtr (.t 6) (.n 40))]) (.cond (.t 7) (.seq (.ops [.i 2 (.mov (.n 3))]) .ret) .skip)) (.seq (.seq (.ops [.m 8 0,.i 9 (.len false (.t 8)),.i 10 (.mov (.n 0))]) (.block 0 (.loop (.seq (.ops [.i 11 (.bin .lss (.t 10) (.t 9))]) (.seq (.cond (.t 11) .skip (.exit 0)) (.seq (.block 1 (.seq (.ops [.m 12 10,.i 13 (.indexAddr 1 (.t 8) (.t 10)),.l 14 13,.m 3 12,.m 4 14]) (.seq (.seq (.ops [.m 15 4,.i 16 (.call 66 [.t 15]),.i 17 (.un .not (.t 16)),.m 18 17,.mk (some 19) (some (18,false)) (.mov (.t 4)) .no,.mk (some 20) (some (18,false)) (.call 67 [.t 19]) .no,.i 21 (.pick (.t 18) (.c (.one (.st (.bool true)))) (.t 20))]) (.cond (.t 21) (.seq (.ops [.i 2 (.mov (.n 1))]) .ret) .skip)) (.seq (.ops [.m 22 0,.m 23 3,.i 24 (.sliceL 1 (.t 22) none (some (.t 23))),.m 25 4,.i 26 (.call 68 [.t 24,.t 25])]) (.cond (.t 26) (.seq (.ops [.i 2 (.mov (.n 4))]) .ret) .skip))))) (.ops [.i 27 (.bin .add (.t 10) (.n 1)),.m 10 27]))))))) (.seq (.ops [.i 2 (.mov (.n 0))]) .ret))))
theorem NJ:OkF Tryz.prog 31 28 [] HF [.t 2]:=.of Tryz.func31 rfl rfl (by kernel_rfl) rfl

end Go.Proofs.YtbhnmjkmieiadaaGreatDoor
