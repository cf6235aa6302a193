/-
  Part 11 of the texts. Conditions: none.
-/
import Derived.Test.YtbhnmjkmieiadaaGreatDoorTCo10
namespace Go.Proofs.YtbhnmjkmieiadaaGreatDoor
open Go Go.RowKit
set_option linter.unusedVariables false
set_option linter.unusedSimpArgs false
set_option maxHeartbeats 1000000
def SK (b:Bd):KV × AV:=(.s b.1,aTm b.2)
abbrev VW (l:List Bd):AK:=.map none (l.map SK)
theorem Jj (l:List Bd) (n:ByteArray):DR (l.map SK) (.s n)=(lookup l n).map fun t=>aTm t:=by
 induction l with
 | nil=>rfl
 | cons b l ih =>
  unfold lookup
  rw [List.map_cons,DR,List.find?_cons]
  by_cases h:b.1=n
  ·have h1:decide (b.1=n)=true:=decide_eq_true h
   rw [if_pos (show (SK b).1=KV.s n from congrArg KV.s h)]
   simp only [h1]
   rfl
  ·have h1:decide (b.1=n)=false:=decide_eq_false h
   rw [if_neg (show ¬ (SK b).1=KV.s n from fun e=>h (KV.s.inj e)),ih]
   simp only [h1]
   rfl
theorem U0 {l:List Bd} {n:ByteArray} (h:lookup l n=none) (t:Tm):Kl (l.map SK) (.s n) (aTm t)=(l ++ [(n,t)]).map SK:=by
 rw [Nu (by rw [Jj,h];rfl),List.map_append]
 rfl
theorem Zc (p:Tm) (hz:p.size≤1000000):∀ (t:Tm) (a0:Nat) (l:List Bd) (S:AA),1000≤a0→S a0=some (VW l) →
  Ah Tryz.prog 127 [aTm p,aTm t,.one (.mptr a0)] S (Ad (p.mt t l).2) (AG S a0 (some (VW (p.mt t l).1))):=by
 induction h:SizeOf.sizeOf p using Nat.strongRecOn generalizing p with
 | _ N ih =>
 subst h
 intro t a0 l S ha0 hSa
 have hs:=Tm.size_eq p
 have hln:=Tm.length_le p.args
 refine NE.acS fun hS C hC=>?_
 have n3:S 3=none:=AJ hS (by omega)
 have n4:S 4=none:=AJ hS (by omega)
 have n7:S 7=none:=AJ hS (by omega)
 have d3:¬ 3=a0:=by omega
 have d4:¬ 4=a0:=by omega
 have d7:¬ 7=a0:=by omega
 have e3:¬ a0=3:=by omega
 have e4:¬ a0=4:=by omega
 have e7:¬ a0=7:=by omega
 unfold Hm
 repeat' with_reducible first | refine W ?_ | refine Z0 ?_ | ((first | refine Wo fun K hK=>?_ | refine Wp ?_ | refine Wq ?_ | refine Wr ?_);(try simp only [go_sem,fN,seval,eT,iR,n3,n4,dT,dF,nL]);(repeat refine Ai ?_);(try (refine hK _ ?_;clear hK K));try refine iC ?_)
 refine ⟨_,Al _,?_⟩
 cases hv:AP p.name with
 | true =>
  cases hl:lookup l p.name with
  | some x =>
   repeat' (first | (with_reducible first | refine W ?_ | refine Z0 ?_ | ((first | refine Wo fun K hK=>?_ | refine Wp ?_ | refine Wq ?_ | refine Wr ?_);(try simp only [go_sem,fN,seval,eT,iR,hv,hSa,n3,n4,n7,d3,d4,d7,e3,e4,e7,De,Iq,KV.of,JC,Jj,hl,dT,dF,nL]);(repeat refine Ai ?_);(try (refine hK _ ?_;clear hK K));try refine iC ?_)) | refine Cg _ (Jc _ _) ?_)
   rw [Tm.mt_old hv hl]
   refine Bi (Ad (x.beq t)) hS ha0 rfl trivial rfl rfl (by simp only [go_sem,fN,seval,eT,iR,e3,e4,e7,hSa]) fun i hi hne=>?_
   have i3:¬ i=3:=by omega
   have i4:¬ i=4:=by omega
   have i7:¬ i=7:=by omega
   simp only [go_sem,fN,seval,eT,iR,i3,i4,i7]
  | none =>
   repeat' with_reducible first | refine W ?_ | refine Z0 ?_ | ((first | refine Wo fun K hK=>?_ | refine Wp ?_ | refine Wq ?_ | refine Wr ?_);(try simp only [go_sem,fN,seval,eT,iR,hv,hSa,n3,n4,n7,d3,d4,d7,e3,e4,e7,De,Iq,KV.of,JC,Jj,hl,U0,dT,dF,nL]);(repeat refine Ai ?_);(try (refine hK _ ?_;clear hK K));try refine iC ?_)
   rw [Tm.mt_new hv hl]
   refine Bi (Ad true) hS ha0 rfl trivial rfl rfl (by simp only [go_sem,fN,seval,eT,iR,e3,e4,e7,hSa]) fun i hi hne=>?_
   have i3:¬ i=3:=by omega
   have i4:¬ i=4:=by omega
   have i7:¬ i=7:=by omega
   simp only [go_sem,fN,seval,eT,iR,i3,i4,i7,hne]
 | false =>
  by_cases hn:p.name=t.name
  case neg =>
   have hc:¬ (p.name=t.name∧p.args.length=t.args.length):=fun h=>hn h.1
   repeat' with_reducible first | refine W ?_ | refine Z0 ?_ | ((first | refine Wo fun K hK=>?_ | refine Wp ?_ | refine Wq ?_ | refine Wr ?_);(try simp only [go_sem,fN,seval,eT,iR,hv,hSa,n3,n4,n7,d3,d4,d7,e3,e4,e7,hn,dT,dF,nL]);(repeat refine Ai ?_);(try (refine hK _ ?_;clear hK K));try refine iC ?_)
   rw [Tm.mt_clash hv hc]
   refine Bi (Ad false) hS ha0 rfl trivial rfl rfl (by simp only [go_sem,fN,seval,eT,iR,e3,e4,hSa]) fun i hi hne=>?_
   have i3:¬ i=3:=by omega
   have i4:¬ i=4:=by omega
   simp only [go_sem,fN,seval,eT,iR,i3,i4]
  by_cases hlen:p.args.length=t.args.length
  case neg =>
   have hc:¬ (p.name=t.name∧p.args.length=t.args.length):=fun h=>hlen h.2
   have hlen':¬ (p.args.length:Int)=t.args.length:=by omega
   repeat' with_reducible first | refine W ?_ | refine Z0 ?_ | ((first | refine Wo fun K hK=>?_ | refine Wp ?_ | refine Wq ?_ | refine Wr ?_);(try simp only [go_sem,fN,seval,eT,iR,hv,hSa,n3,n4,n7,d3,d4,d7,e3,e4,e7,hn,hlen',dT,dF,nL]);(repeat refine Ai ?_);(try (refine hK _ ?_;clear hK K));try refine iC ?_)
   rw [Tm.mt_clash hv hc]
   refine Bi (Ad false) hS ha0 rfl trivial rfl rfl (by simp only [go_sem,fN,seval,eT,iR,e3,e4,hSa]) fun i hi hne=>?_
   have i3:¬ i=3:=by omega
   have i4:¬ i=4:=by omega
   simp only [go_sem,fN,seval,eT,iR,i3,i4]
  have hlen':(p.args.length:Int)=t.args.length:=by omega
  have hknot:p.mt t l=Tm.mtL p.args t.args l:=Tm.mt_knot hv hn hlen
  repeat' with_reducible first | refine W ?_ | refine Z0 ?_ | ((first | refine Wo fun K hK=>?_ | refine Wp ?_ | refine Wq ?_ | refine Wr ?_);(try simp only [go_sem,fN,seval,eT,iR,hv,hSa,n3,n4,n7,d3,d4,d7,e3,e4,e7,hn,hlen',dT,dF,nL]);(repeat refine Ai ?_);(try (refine hK _ ?_;clear hK K));try refine iC ?_)
  refine IWP.loop (fun m x=>∃ k,k≤p.args.length∧m=p.args.length - k∧(Tm.mtL (p.args.take k) (t.args.take k) l).2=true∧x.env 2=.one (.mptr a0)∧x.env 3=.one (.ptr 3 1 0 0)∧x.env 4=.one (.ptr 4 1 0 0)∧x.env 44=AN p.args.length∧x.env 45=AN k ∧
    x.S 3=some (.box 37 [.st (.str t.name),.st (.list (p.args.map Ao))])∧x.S 4=some (.box 37 [.st (.str t.name),.st (.list (t.args.map Ao))])∧x.S a0=some (VW (Tm.mtL (p.args.take k) (t.args.take k) l).1)∧∀ i,1000≤i→i ≠ a0→x.S i=S i)
   p.args.length ⟨0,Nat.zero_le _,rfl,by simp [Tm.mtL],rfl,rfl,rfl,by simp only [go_sem,fN,seval,eT,iR,hlen'],rfl,by simp only [go_sem,fN,seval,eT,iR,hn],rfl,by (simp only [go_sem,fN,seval,eT,iR,e3,e4,hSa]);simp [Tm.mtL],fun i hi hne=>?_⟩ ?_
  ·have i3:¬ i=3:=by omega
   have i4:¬ i=4:=by omega
   simp only [go_sem,fN,seval,eT,iR,i3,i4]
  rintro m ⟨env,S1⟩ ⟨k,hk,rfl,hok,e2,e3',e4',e44,e45,s3,s4,sa,hrest⟩
  simp only at e2 e3' e4' e44 e45 s3 s4 sa hrest
  have hend:∀ (b:Bool) (r:List Bd) (env:Nat→AV) (S2:AA),env 6=Ad b→S2 a0=some (VW r)→(∀ i,1000≤i→i ≠ a0→S2 i=S i)→F7 C [.t 6] (Ad b) (AG S a0 (some (VW r))) .ret ⟨env,S2⟩:=fun b r env S2 h6 h1 h2 =>
   Bi (Ad b) hS ha0 rfl trivial (by simp only [AB,AD,AL,h6,Option.map_some]) rfl h1 h2
  by_cases hlt:(k:Int) < p.args.length
  ·obtain ⟨a,ha⟩:=Aj (show k < p.args.length by omega)
   obtain ⟨c,hc⟩:=Aj (show k < t.args.length by omega)
   have hstep:=Tm.mtL_take hlen ha hc hok
   repeat' with_reducible first | refine W ?_ | refine Z0 ?_ | ((first | refine Wo fun K hK=>?_ | refine Wp ?_ | refine Wq ?_ | refine Wr ?_);(try simp only [go_sem,fN,seval,eT,iR,e2,e3',e4',e44,e45,s3,s4,sa,hlt,ha,hc,dT,dF,nL]);(repeat refine Ai ?_);(try (refine hK _ ?_;clear hK K));try refine iC ?_)
   refine ⟨_,_,ih _ (Tm.lt_of_arg (AU ha)) a (by have:=Tm.size_mem (AU ha);omega) rfl c (up1 a0) (Tm.mtL (p.args.take k) (t.args.take k) l).1 (upS S1) (Ap a0) (by rw [At,sa];rfl),?_⟩
   rw [← hstep]
   cases hb:(Tm.mtL (p.args.take (k + 1)) (t.args.take (k + 1)) l).2 with
   | true =>
    repeat' with_reducible first | refine W ?_ | refine Z0 ?_ | ((first | refine Wo fun K hK=>?_ | refine Wp ?_ | refine Wq ?_ | refine Wr ?_);(try simp only [go_sem,fN,seval,eT,iR,hb,e2,e3',e4',e44,e45,s3,s4,dT,dF,nL]);(repeat refine Ai ?_);(try (refine hK _ ?_;clear hK K));try refine iC ?_)
    refine AH ⟨p.args.length - (k + 1),by omega,k + 1,by omega,rfl,hb,?_⟩
    simp only [go_sem,fN,seval,eT,iR,e2,e3',e4',e44,s3,s4,d3,d4]
    refine ⟨by congr 3,fun i hi hne=>?_⟩
    simp only [go_sem,fN,seval,eT,iR,hne]
    exact hrest i hi hne
   | false =>
    have hno:=Tm.mtL_no hlen hb
    repeat' with_reducible first | refine W ?_ | refine Z0 ?_ | ((first | refine Wo fun K hK=>?_ | refine Wp ?_ | refine Wq ?_ | refine Wr ?_);(try simp only [go_sem,fN,seval,eT,iR,hb,e2,e3',e4',e44,e45,s3,s4,dT,dF,nL]);(repeat refine Ai ?_);(try (refine hK _ ?_;clear hK K));try refine iC ?_)
    rw [hknot,hno]
    refine hend false _ _ _ rfl (by simp only [go_sem,fN,seval,eT,iR]) fun i hi hne=>?_
    simp only [go_sem,fN,seval,eT,iR,hne]
    exact hrest i hi hne
  ·rw [List.take_of_length_le (by omega),List.take_of_length_le (by omega)] at hok sa
   repeat' with_reducible first | refine W ?_ | refine Z0 ?_ | ((first | refine Wo fun K hK=>?_ | refine Wp ?_ | refine Wq ?_ | refine Wr ?_);(try simp only [go_sem,fN,seval,eT,iR,e44,e45,hlt,dT,dF,nL]);(repeat refine Ai ?_);(try (refine hK _ ?_;clear hK K));try refine iC ?_)
   rw [hknot,hok]
   exact hend true _ _ _ rfl sa hrest
theorem M5 {l m:List Bd} (h:l.Perm m) (hn:Bp m):Bb l=Bb m :=
 Eg (Bz (Ef h.symm hn)) (Bz hn) ((Cr l).trans (h.trans (Cr m).symm))
theorem J2 (p t:Tm) (hp:p.size≤100000) (ht:t.size≤1000000):AY Tryz.prog 112 [aTm p,aTm t] (.tup [Ru (Bl p t),Ad (Ex p t)]):=by
 have hnm:=P4 p t
 have hml:=V_ p t
 have hms:=YO p t
 refine Mv.ac fun C hC=>?_
 unfold H0
 repeat' with_reducible first | refine W ?_ | refine Z0 ?_ | ((first | refine Wo fun K hK=>?_ | refine Wp ?_ | refine Wq ?_ | refine Wr ?_);(try simp only [go_sem,fN,seval,eT,iR,dT,dF,nL]);(repeat refine Ai ?_);(try (refine hK _ ?_;clear hK K));try refine iC ?_)
 refine ⟨_,_,Zc p (by omega) t (up1 10) [] _ (Ap 10) (by rw [At];rfl),?_⟩
 cases hc:(p.mt t []).2 with
 | false =>
  repeat' with_reducible first | refine W ?_ | refine Z0 ?_ | ((first | refine Wo fun K hK=>?_ | refine Wp ?_ | refine Wq ?_ | refine Wr ?_);(try simp only [go_sem,fN,seval,eT,iR,hc,dT,dF,nL]);(repeat refine Ai ?_);(try (refine hK _ ?_;clear hK K));try refine iC ?_)
  simp only [go_sem,fN,seval,AR,AS.result,AB,AD,AL]
  unfold Bl Ex
  rw [hc]
  rfl
 | true =>
  have hca:Bl p t=Bb (p.mt t []).1:=by unfold Bl;rw [if_pos hc]
  have his:Ex p t=true:=hc
  repeat' with_reducible first | refine W ?_ | refine Z0 ?_ | ((first | refine Wo fun K hK=>?_ | refine Wp ?_ | refine Wq ?_ | refine Wr ?_);(try simp only [go_sem,fN,seval,eT,iR,hc,De,dT,dF,nL]);(repeat refine Ai ?_);(try (refine hK _ ?_;clear hK K));try refine iC ?_)
  rw [hca,his]
  generalize (p.mt t []).1=l at *
  refine IWP.ghost (Aa.ownM 7 500 82 3 (by rfl) (by rfl) (by rw [hC];decide)) ?_
  refine IWP.loopD [9] (fun m x=>∃ seen:List Nat,seen.Nodup∧(∀ j ∈ seen,j < l.length)∧m=l.length - seen.length∧x.env 7=.one (.row 500 seen.length)∧x.env 17=.one (.ptr 17 1 0 0)∧x.S 10=some (VW l)∧x.S 17=some (.iter (.mptr 10) l.length seen)∧x.S 500=some (BW (met l seen))∧x.S 9=none) l.length ⟨[],List.nodup_nil,by simp,rfl,rfl,rfl,by simp only [go_sem,fN,seval,eT,iR],by simp only [go_sem,fN,seval,eT,iR],rfl,rfl⟩ ?_
  rintro m ⟨env,S⟩ ⟨seen,hnd,hlt,rfl,e7,e17,s10,s17,s500,s9⟩
  simp only at e7 e17 s10 s17 s500 s9
  have hsl:=Qy hnd hlt
  have hmt:=S9 hlt
  repeat' with_reducible first | refine W ?_ | refine Z0 ?_ | ((first | refine Wo fun K hK=>?_ | refine Wp ?_ | refine Wq ?_ | refine Wr ?_);(try simp only [go_sem,fN,seval,eT,iR,e7,e17,s10,s17,FE,dT,dF,nL]);(repeat refine Ai ?_);(try (refine hK _ ?_;clear hK K));try refine iC ?_)
  refine ⟨fun hall=>?_,fun j x c hx hj hkv=>?_⟩
  ·have hmp:=Xb hnd hlt hall
   have hl':seen.length=l.length:=by rw [← hmt];exact hmp.length_eq
   refine hK _ ?_
   clear hK K
   refine Wb ?_
   refine Wa ?_
   with_reducible refine Wp ?_
   simp only [go_sem,fN,seval,true_implies,false_implies,implies_true,dT,dF,nL]
   (try with_reducible refine iC ?_)
   repeat' (with_reducible first | refine Wb ?_ | refine Wc ?_ | refine Wd ?_ | refine We ?_ | refine Wg ?_ | refine Wh ?_ | refine Wi ?_ | refine Wj ?_ | refine Wk (by decide) ?_ | refine Wl ?_ | refine Wm ?_ | refine Wn ?_)
   refine IWP.mid (fun x=>x.env 4=.one (.row 500 l.length)∧x.env 5=Ad true∧x.S 500=some (BW (Bb l))) ?_ ?_
   ·have hs:=SN (met l seen) (Ef hmp.symm hnm) (by omega) (up1 500) (Ap 500) (upS S) (by rw [At,s500];rfl)
    rw [hmt,hl',M5 hmp hnm] at hs
    rw [hl'] at e7
    repeat' with_reducible first | refine W ?_ | refine Z0 ?_ | ((first | refine Wo fun K hK=>?_ | refine Wq ?_ | refine Wr ?_);(try simp only [go_sem,fN,seval,eT,iR,e7]);(repeat refine Ai ?_);(try (refine hK _ ?_;clear hK K)))
    refine ⟨_,_,hs,?_⟩
    repeat' with_reducible first | refine W ?_ | refine Z0 ?_ | ((first | refine Wo fun K hK=>?_ | refine Wq ?_ | refine Wr ?_);(try simp only [go_sem,fN,seval,eT,iR,e7]);(repeat refine Ai ?_);(try (refine hK _ ?_;clear hK K)))
    refine ⟨rfl,?_⟩
    simp only [go_sem,fN,seval,eT,iR]
   rintro ⟨env,S⟩ ⟨e4,e5,s500⟩
   simp only at e4 e5 s500
   refine IWP.ghost (Aa.share (id:=500) s500) ?_
   repeat' with_reducible first | refine W ?_ | refine Z0 ?_ | ((first | refine Wo fun K hK=>?_ | refine Wq ?_ | refine Wr ?_);(try simp only [go_sem,fN,seval,eT,iR]);(repeat refine Ai ?_);(try (refine hK _ ?_;clear hK K)))
   simp only [go_sem,fN,seval,AR,AS.result,AB,AD,AL,e4,e5,Bc]
  ·rw [Option.map_eq_some_iff] at hx
   obtain ⟨b,hb,rfl⟩:=hx
   have hbz:=hms b (AU hb)
   have hjl:j < l.length:=by
    rcases Nat.lt_or_ge j l.length with h | h
    ·exact h
    ·rw [List.getElem?_eq_none h] at hb;cases hb
   have hcv:c=.one (.st (.str b.1)):=by
    have:some (AV.one (.st (.str b.1)))=some c:=hkv
    cases this
    rfl
   subst hcv
   have hnd':(seen ++ [j]).Nodup:=by
    rw [List.nodup_append]
    exact ⟨hnd,by simp,fun a ha b hb e=>hj (by rw [List.mem_singleton.1 hb] at e;rw [← e];exact ha)⟩
   have hlt':∀ i ∈ seen ++ [j],i < l.length:=fun i hi=>by
    rcases List.mem_append.1 hi with h | h
    ·exact hlt i h
    ·rw [List.mem_singleton.1 h];exact hjl
   have hsl':=Qy hnd' hlt'
   rw [List.length_append,List.length_singleton] at hsl'
   refine hK _ ?_
   clear hK K
   refine Wb ?_
   repeat' (first | (with_reducible first | refine W ?_ | refine Z0 ?_ | ((first | refine Wo fun K hK=>?_ | refine Wp ?_ | refine Wq ?_ | refine Wr ?_);(try simp only [go_sem,fN,seval,eT,iR,e7,e17,s10,s17,s500,s9,FE,List.getLast?_concat,hb,SK,KV.sv,hmt,Cx,dT,dF,nL]);(repeat refine Ai ?_);(try (refine hK _ ?_;clear hK K));try refine iC ?_)) | refine Cg _ (J5 b.2 (by omega)) ?_)
   refine AH ⟨l.length - (seen.length + 1),by omega,seen ++ [j],hnd',hlt',by rw [List.length_append,List.length_singleton],?_⟩
   rw [Xc hb]
   simp only [go_sem,fN,seval,AS.drop,Ac,AC.clears,AC.clear,AC.highs,AC.high,zD,AV.purge,AV.purges,AC.purge,AK.purge,Nat.reduceBEq,eT,iR,e7,e17,s10,s500]
   show AK.mrow _ _ ((met l seen).map Cx ++ [Cx b])=BW _
   rw [BW,List.map_append]
   rfl

theorem Lu (l:List Tm) (h0:0 < l.length) (hl:l.length≤1000000):Hf Tryz.prog 79 [F6 l] 37 2 (l.map Ao) true:=by
 unfold Hf
 rw [List.length_map]
 refine Bt.acS fun hS C hC=>?_
 unfold BA
 have h0':¬ l.length=0:=by omega
 have hb:l.length * 40≤140737488355328:=by omega
 repeat' with_reducible first | refine W ?_ | refine Z0 ?_ | ((first | refine Wo fun K hK=>?_ | refine Wp ?_ | refine Wq ?_ | refine Wr ?_);(try simp only [go_sem,fN,seval,eT,iR,h0',hb,dT,dF,nL]);(repeat refine Ai ?_);(try (refine hK _ ?_;clear hK K));try refine iC ?_)
 exact Ye (mu:=true) trivial 7 (by decide) rfl (fun i hi=>by show AG _ _ _ _=_;rw [AF _ (by omega)];rfl) rfl
def GM (r:Tm × Int × Int):AV:=.tup [aTm r.1,AN r.2.1,AN r.2.2]
theorem Xh {R:List Pr} (hR:A7 R) (t:Tm) (hc:t.chk=0) (hz:t.size≤1000000) (f:Nat) (hf:f≤R.length):AY Tryz.prog 78 [CI R,aTm t,AN f] (GM (DU t f (R.drop f))):=by
 unfold GM
 have h40:=hR.len
 refine GQ.ac fun C hC=>?_
 unfold EL
 repeat' with_reducible first | refine W ?_ | refine Z0 ?_ | ((first | refine Wo fun K hK=>?_ | refine Wp ?_ | refine Wq ?_ | refine Wr ?_);(try simp only [go_sem,fN,seval,eT,iR,dT,dF,nL]);(repeat refine Ai ?_);(try (refine hK _ ?_;clear hK K));try refine iC ?_)
 refine IWP.loop (fun m s=>∃ k,k≤R.length∧m=R.length - k∧DU t f (R.drop f)=DU t k (R.drop k)∧s.env 0=CI R∧s.env 4=.one (.ptr 4 1 0 0)∧s.env 6=.one (.ptr 6 1 0 0)∧s.S 4=some (.box 37 [.st (.str t.name),.st (.list (t.args.map Ao))])∧s.S 6=some (.box 37 [.st (.str ⟨#[]⟩),.full []])∧s.S 12=none∧s.env 9=AN k) (R.length - f) ⟨f,hf,rfl,rfl,rfl,rfl,rfl,rfl,rfl,rfl,rfl⟩ ?_
 rintro m ⟨env,S⟩ ⟨k,hk,rfl,hrk,e0,e4,e6,s4,s6,s12,e9⟩
 simp only at e0 e4 e6 s4 s6 s12 e9
 rw [hrk]
 by_cases hlt:(k:Int) < R.length
 ·obtain ⟨r,hr⟩:=Aj (show k < R.length by omega)
  have hmem:=AU hr
  have c1:=Tm.may_chk (hR.left r hmem)
  have c2:=Tm.may_chk (hR.right r hmem)
  have hok:=Pb c1.1 hc
  have hd:=BQ hr
  rw [hd,DU]
  by_cases hcase:Ex r.1 t=true
  ·rw [if_pos hcase]
   have hon:=Lg (Bl r.1 t) (by have:=KZ (p:=r.1) (t:=t);omega) hok.ord r.2 hok.var c2.1
   by_cases hon2:(BD (Bl r.1 t) r.2).2=true
   ·repeat' (first | (with_reducible first | refine W ?_ | refine Z0 ?_ | ((first | refine Wo fun K hK=>?_ | refine Wp ?_ | refine Wq ?_ | refine Wr ?_);(try simp only [go_sem,fN,seval,eT,iR,e0,e4,e6,s4,s6,s12,e9,hlt,hr,As,hcase,hon2,dT,dF,nL]);(repeat refine Ai ?_);(try (refine hK _ ?_;clear hK K));try refine iC ?_)) | refine Cg _ (J2 r.1 t (by omega) hz) ?_ | refine Cg _ (hon) ?_)
    simp only [go_sem,fN,seval,AR,AS.result,AB,AD,AL,e6,s6,hon2]
   ·have hnil:=Ky hon2
    simp only [Bool.not_eq_true] at hon2
    repeat' (first | (with_reducible first | refine W ?_ | refine Z0 ?_ | ((first | refine Wo fun K hK=>?_ | refine Wp ?_ | refine Wq ?_ | refine Wr ?_);(try simp only [go_sem,fN,seval,eT,iR,e0,e4,e6,s4,s6,s12,e9,hlt,hr,As,hcase,hon2,dT,dF,nL]);(repeat refine Ai ?_);(try (refine hK _ ?_;clear hK K));try refine iC ?_)) | refine Cg _ (J2 r.1 t (by omega) hz) ?_ | refine Cg _ (hon) ?_)
    simp only [go_sem,fN,seval,AR,AS.result,AB,AD,AL,e6,s6,hon2,hnil]
    rfl
  ·rw [if_neg hcase]
   repeat' (first | (with_reducible first | refine W ?_ | refine Z0 ?_ | ((first | refine Wo fun K hK=>?_ | refine Wp ?_ | refine Wq ?_ | refine Wr ?_);(try simp only [go_sem,fN,seval,eT,iR,e0,e4,e6,s4,s6,s12,e9,hlt,hr,As,hcase,dT,dF,nL]);(repeat refine Ai ?_);(try (refine hK _ ?_;clear hK K));try refine iC ?_)) | refine Cg _ (J2 r.1 t (by omega) hz) ?_)
   refine AH ⟨R.length - (k + 1),by omega,k + 1,by omega,rfl,?_,?_⟩
   ·rfl
   ·simp only [go_sem,fN,seval,eT,iR,e0,e4,e6,s4,s6,s12,e9]
    congr 3
 ·have hd:R.drop k=[]:=List.drop_of_length_le (by omega)
  rw [hd]
  repeat' with_reducible first | refine W ?_ | refine Z0 ?_ | ((first | refine Wo fun K hK=>?_ | refine Wp ?_ | refine Wq ?_ | refine Wr ?_);(try simp only [go_sem,fN,seval,eT,iR,e0,e4,e6,s4,s6,s12,e9,hlt,dT,dF,nL]);(repeat refine Ai ?_);(try (refine hK _ ?_;clear hK K));try refine iC ?_)
  simp only [go_sem,fN,seval,AR,AS.result,AB,AD,AL,e6,s6]
  rfl
def EN (t:Tm) (r:Option (Tm × Int)):AV:=match r with
 | none=>.tup [aTm t,Ad false,AN 0]
 | some (x,e)=>.tup [aTm x,Ad true,AN e]
theorem ZR {R:List Pr} {t:Tm} (h:Gg R t=none):GM (DU t 0 (R.drop 0))=.tup [aTm Tm.nil,AN (-1),AN 0]:=by
 have:=LH R t R 0
 unfold Gg at h
 rw [h] at this
 rw [List.drop_zero,GM,this]
theorem ZQ {R:List Pr} {t x:Tm} {e:Int} (h:Gg R t=some (x,e)):∃ i:Nat,GM (DU t 0 (R.drop 0))=.tup [aTm x,AN i,AN e]:=by
 have:=LH R t R 0
 unfold Gg at h
 rw [h] at this
 obtain ⟨i,hi⟩:=this
 exact ⟨i,by rw [List.drop_zero,GM,hi]⟩
theorem Ql {R:List Pr} (hR:A7 R) (t:Tm) (hc:t.chk=0) (hz:t.size≤1000000):AY Tryz.prog 77 [CI R,aTm t] (EN Tm.nil (t.inn R)):=by
 induction h:SizeOf.sizeOf t using Nat.strongRecOn generalizing t with
 | _ N ih =>
 subst h
 have hs:=Tm.size_eq t
 have hln:=Tm.length_le t.args
 refine HF.ac fun C hC=>?_
 unfold D4
 repeat' with_reducible first | refine W ?_ | refine Z0 ?_ | ((first | refine Wo fun K hK=>?_ | refine Wp ?_ | refine Wq ?_ | refine Wr ?_);(try simp only [go_sem,fN,seval,eT,iR,dT,dF,nL]);(repeat refine Ai ?_);(try (refine hK _ ?_;clear hK K));try refine iC ?_)
 refine IWP.loopD [8] (fun m s=>∃ k,k≤t.args.length∧m=t.args.length - k∧(∀ b ∈ t.args.take k,b.inn R=none)∧s.env 0=CI R∧s.env 3=.one (.ptr 3 1 0 0)∧s.env 4=.one (.ptr 4 1 0 0)∧s.S 3=some (.box 37 [.st (.str t.name),.st (.list (t.args.map Ao))])∧s.S 4=some (.box 37 [.st (.str ⟨#[]⟩),.full []])∧s.S 8=none∧s.S 11=none∧s.S 12=none∧s.S 41=none∧s.env 17=AN t.args.length∧s.env 18=AN k)
  t.args.length ⟨0,Nat.zero_le _,rfl,by simp,rfl,rfl,rfl,rfl,rfl,rfl,rfl,rfl,rfl,rfl,rfl⟩ ?_
 rintro m ⟨env,S⟩ ⟨k,hk,rfl,hno,e0,e3,e4,s3,s4,s8,s11,s12,s41,e17,e18⟩
 simp only at e0 e3 e4 s3 s4 s8 s11 s12 s41 e17 e18
 by_cases hlt:(k:Int) < t.args.length
 ·obtain ⟨a,ha⟩:=Aj (show k < t.args.length by omega)
  have hmem:=AU ha
  have hcon:=ih _ (Tm.lt_of_arg hmem) a ((Tm.chk_args hc).2 a hmem) (by have:=Tm.size_mem hmem;omega) rfl
  cases hi:a.inn R with
  | none =>
   rw [hi] at hcon
   unfold EN at hcon
   repeat' (first | (with_reducible first | refine W ?_ | refine Z0 ?_ | ((first | refine Wo fun K hK=>?_ | refine Wp ?_ | refine Wq ?_ | refine Wr ?_);(try simp only [go_sem,fN,seval,eT,iR,e0,e3,e4,s3,s4,s8,s11,s12,s41,e17,e18,hlt,ha,dT,dF,nL]);(repeat refine Ai ?_);(try (refine hK _ ?_;clear hK K));try refine iC ?_)) | refine Cg _ (hcon) ?_)
   refine AH ⟨t.args.length - (k + 1),by omega,k + 1,by omega,rfl,?_,?_⟩
   ·intro b hb
    rw [Au ha] at hb
    rcases List.mem_append.1 hb with hb | hb
    ·exact hno b hb
    ·rw [List.mem_singleton.1 hb]
     exact hi
   ·simp only [go_sem,fN,seval,AS.drop,Ac,AC.clears,AC.clear,AC.highs,AC.high,zD,AV.purge,AV.purges,AC.purge,AK.purge,Nat.reduceBEq,eT,iR,e0,e3,e4,s3,s4,s8,s11,s12,s41,e17,e18]
    congr 3
  | some r =>
   obtain ⟨y,e⟩:=r
   rw [hi] at hcon
   unfold EN at hcon
   have hin:t.inn R=some (.mk t.name (t.args.set k y),e):=by
    rw [Tm.inn_eq,Pp ha hno hi]
   rw [hin]
   unfold EN
   by_cases he:e=0
   all_goals
    repeat' (first | (with_reducible first | refine W ?_ | refine Z0 ?_ | ((first | refine Wo fun K hK=>?_ | refine Wp ?_ | refine Wq ?_ | refine Wr ?_);(try simp only [go_sem,fN,seval,eT,iR,e0,e3,e4,s3,s4,s8,s11,s12,s41,e17,e18,hlt,ha,he,dT,dF,nL]);(repeat refine Ai ?_);(try (refine hK _ ?_;clear hK K));try refine iC ?_)) | refine Cg _ (hcon) ?_)
    refine ⟨_,_,_,_,Lu t.args (by omega) (by omega),by simp [AG,s41],?_⟩
    refine Wr ?_
    simp only [go_sem,fN,seval,eT,iR,e0,e3,e4,s3,s4,s8,s11,s12,s41,e17,e18,hlt,ha,he]
    refine hK _ ?_
    clear hK K
    refine Wb ?_
    refine IWP.mid (fun x=>x.env 4=.one (.ptr 4 1 0 0)∧x.env 11=.one (.ptr 11 1 0 0)∧x.env 9=Ad true∧x.env 10=AN e∧x.S 4=some (.box 37 [.st (.str ⟨#[]⟩),.full []])∧x.S 11=some (.box 37 [.st (.str t.name),.row 41 t.args.length])∧x.S 41=some (.mrow 37 2 ((t.args.set k y).map Ao))) ?_ ?_
    ·repeat' with_reducible first | refine W ?_ | refine Z0 ?_ | ((first | refine Wo fun K hK=>?_ | refine Wp ?_ | refine Wq ?_ | refine Wr ?_);(try simp only [go_sem,fN,seval,eT,iR,e0,e3,e4,s3,s4,s8,s11,s12,s41,e17,e18,hlt,ha,he,dT,dF,nL]);(repeat refine Ai ?_);(try (refine hK _ ?_;clear hK K));try refine iC ?_)
     refine ⟨rfl,?_⟩
     simp only [go_sem,fN,seval,eT,iR,e0,e3,e4,s3,s4,s8,s11,s12,s41,e17,e18,hlt,ha,he]
     rw [List.map_set,An]
    rintro ⟨env,S⟩ ⟨e4,e11,e9,e10,s4,s11,s41⟩
    simp only at e4 e11 e9 e10 s4 s11 s41
    refine IWP.ghost (Aa.share (id:=41) s41) ?_
    have hl1:(t.args.set k y).length=t.args.length:=by simp
    repeat' with_reducible first | refine W ?_ | refine Z0 ?_ | ((first | refine Wo fun K hK=>?_ | refine Wp ?_ | refine Wq ?_ | refine Wr ?_);(try simp only [go_sem,fN,seval,eT,iR,e4,e11,e9,e10,s4,s11,hl1,dT,dF,nL]);(repeat refine Ai ?_);(try (refine hK _ ?_;clear hK K));try refine iC ?_)
    simp only [go_sem,fN,seval,AR,AS.result,AB,AD,AL,e4,s4,hl1]
    first | rfl | (rw [he];rfl)
 ·rw [List.take_of_length_le (by omega)] at hno
  have hin:t.inn R=Gg R t:=by rw [Tm.inn_eq,MV hno]
  rw [hin]
  have hroot:=Xh hR t hc hz 0 (by omega)
  cases hr:Gg R t with
  | none =>
   rw [ZR hr] at hroot
   unfold EN
   repeat' (first | (with_reducible first | refine W ?_ | refine Z0 ?_ | ((first | refine Wo fun K hK=>?_ | refine Wp ?_ | refine Wq ?_ | refine Wr ?_);(try simp only [go_sem,fN,seval,eT,iR,e0,e3,e4,s3,s4,s8,s11,s12,s41,e17,e18,hlt,dT,dF,nL]);(repeat refine Ai ?_);(try (refine hK _ ?_;clear hK K));try refine iC ?_)) | refine Cg _ (hroot) ?_)
   simp only [go_sem,fN,seval,AR,AS.result,AB,AD,AL,e4,s4]
  | some r =>
   obtain ⟨x,e⟩:=r
   obtain ⟨i,hi⟩:=ZQ hr
   rw [hi] at hroot
   unfold EN
   repeat' (first | (with_reducible first | refine W ?_ | refine Z0 ?_ | ((first | refine Wo fun K hK=>?_ | refine Wp ?_ | refine Wq ?_ | refine Wr ?_);(try simp only [go_sem,fN,seval,eT,iR,e0,e3,e4,s3,s4,s8,s11,s12,s41,e17,e18,hlt,dT,dF,nL]);(repeat refine Ai ?_);(try (refine hK _ ?_;clear hK K));try refine iC ?_)) | refine Cg _ (hroot) ?_)
   simp only [go_sem,fN,seval,AR,AS.result,AB,AD,AL,e4,s4]

def S5 (r:Tm × Int × Int):AV:=.tup [aTm r.1,AN r.2.1,AN r.2.2]
abbrev ZT (t:Tm):AK:=.box 37 [.st (.str t.name),.st (.list (t.args.map Ao))]
abbrev ZP:AK:=.box 37 [.st (.str ⟨#[]⟩),.full []]
theorem Ny {step:Tm→Option (Tm × Int)} {t:Tm} (h:step t=none) (k:Nat) (n:Int):B_ step k n t=(t,n,0):=by
 cases k <;> (unfold B_;rw [h])
theorem Nx {step:Tm→Option (Tm × Int)} {t:Tm} {r:Tm × Int} (h:step t=some r) (n:Int):B_ step 0 n t=(Tm.nil,0,9):=by
 unfold B_
 rw [h]
theorem Ps {step:Tm→Option (Tm × Int)} {t x:Tm} {e:Int} (h:step t=some (x,e)) (he:e ≠ 0) (k:Nat) (n:Int):B_ step (k + 1) n t=(Tm.nil,0,e):=by
 rw [B_,h]
 exact if_pos he
theorem L4 {step:Tm→Option (Tm × Int)} {t x:Tm} (h:step t=some (x,0)) (hz:2000 < x.size) (k:Nat) (n:Int):B_ step (k + 1) n t=(Tm.nil,0,8):=by
 rw [B_,h]
 simp only [ne_eq,not_true_eq_false,if_false]
 exact if_pos hz
theorem Tx {step:Tm→Option (Tm × Int)} {t x:Tm} (h:step t=some (x,0)) (hz:¬ 2000 < x.size) (k:Nat) (n:Int):B_ step (k + 1) n t=B_ step k (n + 1) x:=by
 rw [B_,h]
 simp only [ne_eq,not_true_eq_false,if_false]
 exact if_neg hz
theorem PE {R:List Pr} (hR:A7 R) (t0:Tm) (hc0:t0.chk=0) (hz0:t0.size≤900000) (most:Nat) (hm:most≤1000000):AY Tryz.prog 41 [CI R,aTm t0,AN most] (S5 (B_ (Tm.inn R) most 0 t0)):=by
 unfold S5
 refine Kg.ac fun C hC=>?_
 unfold GU
 repeat' (first | (with_reducible first | refine W ?_ | refine Z0 ?_ | ((first | refine Wo fun K hK=>?_ | refine Wp ?_ | refine Wq ?_ | refine Wr ?_);(try simp only [go_sem,fN,seval,eT,iR,dT,dF,nL]);(repeat refine Ai ?_);(try (refine hK _ ?_;clear hK K));try refine iC ?_)) | refine Cg _ (J5 t0 (by omega)) ?_)
 refine IWP.loopD [10] (fun m s=>∃ (n:Nat) (t:Tm),n≤most∧m=most - n∧B_ (Tm.inn R) most 0 t0=B_ (Tm.inn R) (most - n) n t∧t.chk=0∧t.size≤900000∧s.env 0=CI R∧s.env 2=AN most∧s.env 4=.one (.ptr 4 1 0 0)∧s.env 6=.one (.ptr 6 1 0 0)∧s.env 9=AN n∧s.S 4=some (ZT t)∧s.S 6=some ZP∧s.S 10=none)
  most ⟨0,t0,by omega,by omega,rfl,hc0,hz0,rfl,rfl,rfl,rfl,rfl,rfl,rfl,rfl⟩ ?_
 rintro m ⟨env,S⟩ ⟨n,t,hn,rfl,hend,hc,hz,e0,e2,e4,e6,e9,s4,s6,s10⟩
 simp only at e0 e2 e4 e6 e9 s4 s6 s10
 rw [hend]
 have hcon:=Ql hR t hc (by omega)
 cases hs:t.inn R with
 | none =>
  rw [hs] at hcon
  unfold EN at hcon
  rw [Ny hs]
  repeat' (first | (with_reducible first | refine W ?_ | refine Z0 ?_ | ((first | refine Wo fun K hK=>?_ | refine Wp ?_ | refine Wq ?_ | refine Wr ?_);(try simp only [go_sem,fN,seval,eT,iR,e0,e2,e4,e6,e9,s4,s6,s10,dT,dF,nL]);(repeat refine Ai ?_);(try (refine hK _ ?_;clear hK K));try refine iC ?_)) | refine Cg _ (hcon) ?_)
  simp only [go_sem,fN,seval,AR,AS.result,AB,AD,AL,e6,s6]
 | some r =>
  obtain ⟨x,e⟩:=r
  rw [hs] at hcon
  unfold EN at hcon
  obtain ⟨g1,g2,g3⟩:=I7 hR hc hs
  by_cases hmost:n=most
  ·have hmi:(n:Int)=most:=by omega
   rw [show most - n=0 by omega,Nx hs]
   repeat' (first | (with_reducible first | refine W ?_ | refine Z0 ?_ | ((first | refine Wo fun K hK=>?_ | refine Wp ?_ | refine Wq ?_ | refine Wr ?_);(try simp only [go_sem,fN,seval,eT,iR,e0,e2,e4,e6,e9,s4,s6,s10,hmi,dT,dF,nL]);(repeat refine Ai ?_);(try (refine hK _ ?_;clear hK K));try refine iC ?_)) | refine Cg _ (hcon) ?_)
   simp only [go_sem,fN,seval,AR,AS.result,AB,AD,AL,e6,s6]
   rfl
  have hmi:¬ (n:Int)=most:=by omega
  obtain ⟨k,hk⟩:∃ k,most - n=k + 1:=⟨most - n - 1,by omega⟩
  rw [hk]
  by_cases he:e=0
  case neg =>
   rw [Ps hs he]
   repeat' (first | (with_reducible first | refine W ?_ | refine Z0 ?_ | ((first | refine Wo fun K hK=>?_ | refine Wp ?_ | refine Wq ?_ | refine Wr ?_);(try simp only [go_sem,fN,seval,eT,iR,e0,e2,e4,e6,e9,s4,s6,s10,hmi,he,dT,dF,nL]);(repeat refine Ai ?_);(try (refine hK _ ?_;clear hK K));try refine iC ?_)) | refine Cg _ (hcon) ?_)
   simp only [go_sem,fN,seval,AR,AS.result,AB,AD,AL,e6,s6]
   rfl
  case pos =>
  subst he
  have hsz:=F_ x (by omega)
  by_cases hgr:(2000:Int) < x.size
  ·rw [L4 hs (by omega)]
   repeat' (first | (with_reducible first | refine W ?_ | refine Z0 ?_ | ((first | refine Wo fun K hK=>?_ | refine Wp ?_ | refine Wq ?_ | refine Wr ?_);(try simp only [go_sem,fN,seval,eT,iR,e0,e2,e4,e6,e9,s4,s6,s10,hmi,hgr,dT,dF,nL]);(repeat refine Ai ?_);(try (refine hK _ ?_;clear hK K));try refine iC ?_)) | refine Cg _ (hcon) ?_ | refine Cg _ (hsz) ?_)
   simp only [go_sem,fN,seval,AR,AS.result,AB,AD,AL,e6,s6]
   rfl
  ·repeat' (first | (with_reducible first | refine W ?_ | refine Z0 ?_ | ((first | refine Wo fun K hK=>?_ | refine Wp ?_ | refine Wq ?_ | refine Wr ?_);(try simp only [go_sem,fN,seval,eT,iR,e0,e2,e4,e6,e9,s4,s6,s10,hmi,hgr,dT,dF,nL]);(repeat refine Ai ?_);(try (refine hK _ ?_;clear hK K));try refine iC ?_)) | refine Cg _ (hcon) ?_ | refine Cg _ (hsz) ?_)
   refine AH ⟨most - (n + 1),by omega,n + 1,x,by omega,rfl,?_,g2 rfl,by omega,?_⟩
   ·rw [show most - (n + 1)=k by omega]
    exact Tx hs (by omega) k n
   ·simp only [go_sem,fN,seval,AS.drop,Ac,AC.clears,AC.clear,AC.highs,AC.high,zD,AV.purge,AV.purges,AC.purge,AK.purge,Nat.reduceBEq,eT,iR,e0,e2,e4,e6,e9,s4,s6,s10]
    congr 3
theorem UY {R:List Pr} {t:Tm} (h:MT R t=0):A7 R∧t.chk=0∧t.size≤200:=by
 unfold MT at h
 by_cases h0:BG R=0
 ·rw [if_pos h0] at h
  exact ⟨Dy h0,Tm.may_chk h⟩
 ·rw [if_neg h0] at h
  exact absurd h h0
theorem PI {m:Int} (h:Ct m=0):0≤m∧m≤400:=by
 unfold Ct at h
 split at h
 ·cases h
 ·omega
theorem ZV {R:List Pr} (hR:A7 R) (a b:Tm) (ha:a.chk=0) (hb:b.chk=0) (za:a.size≤900000) (zb:b.size≤900000) (most:Nat) (hm:most≤1000000):AY Tryz.prog 36 [CI R,aTm a,aTm b,AN most] (.tup [Ad (KJ R most a b).1,AN (KJ R most a b).2]):=by
 have l1:=PE hR a ha za most hm
 have l2:=PE hR b hb zb most hm
 have hmet:KJ R most a b=if (B_ (Tm.inn R) most 0 a).2.2 ≠ 0 then (false,(B_ (Tm.inn R) most 0 a).2.2) else if (B_ (Tm.inn R) most 0 b).2.2 ≠ 0 then (false,(B_ (Tm.inn R) most 0 b).2.2) else ((B_ (Tm.inn R) most 0 a).1.beq (B_ (Tm.inn R) most 0 b).1,0):=rfl
 rw [hmet]
 unfold S5 at l1 l2
 generalize B_ (Tm.inn R) most 0 a=x at *
 generalize B_ (Tm.inn R) most 0 b=y at *
 clear hmet
 refine MN.ac fun C hC=>?_
 unfold HA
 by_cases h1:x.2.2=0
 case neg =>
  rw [if_pos h1]
  repeat' (first | (with_reducible first | refine W ?_ | refine Z0 ?_ | ((first | refine Wo fun K hK=>?_ | refine Wp ?_ | refine Wq ?_ | refine Wr ?_);(try simp only [go_sem,fN,seval,eT,iR,h1,dT,dF,nL]);(repeat refine Ai ?_);(try (refine hK _ ?_;clear hK K));try refine iC ?_)) | refine Cg _ (l1) ?_)
  simp only [go_sem,fN,seval,AR,AS.result,AB,AD,AL]
 case pos =>
 rw [if_neg (fun h=>h h1)]
 by_cases h2:y.2.2=0
 case neg =>
  rw [if_pos h2]
  repeat' (first | (with_reducible first | refine W ?_ | refine Z0 ?_ | ((first | refine Wo fun K hK=>?_ | refine Wp ?_ | refine Wq ?_ | refine Wr ?_);(try simp only [go_sem,fN,seval,eT,iR,h1,h2,dT,dF,nL]);(repeat refine Ai ?_);(try (refine hK _ ?_;clear hK K));try refine iC ?_)) | refine Cg _ (l1) ?_ | refine Cg _ (l2) ?_)
  simp only [go_sem,fN,seval,AR,AS.result,AB,AD,AL]
 case pos =>
 rw [if_neg (fun h=>h h2)]
 repeat' (first | (with_reducible first | refine W ?_ | refine Z0 ?_ | ((first | refine Wo fun K hK=>?_ | refine Wp ?_ | refine Wq ?_ | refine Wr ?_);(try simp only [go_sem,fN,seval,eT,iR,h1,h2,dT,dF,nL]);(repeat refine Ai ?_);(try (refine hK _ ?_;clear hK K));try refine iC ?_)) | refine Cg _ (l1) ?_ | refine Cg _ (l2) ?_ | refine Cg _ (Jc x.1 y.1) ?_)
 simp only [go_sem,fN,seval,AR,AS.result,AB,AD,AL]
def Ld (R:List Pr) (a b:Tm) (m:Int):Bool × Int:=if MT R a=0 then (if b.may=0 then (if Ct m=0 then KJ R m.toNat a b else (false,Ct m)) else (false,b.may)) else (false,MT R a)
theorem Z2 (R:List Pr) (a b:Tm) (m:Int):AY Tryz.prog 22 [CI R,aTm a,aTm b,AN m] (.tup [Ad (Ld R a b m).1,AN (Ld R a b m).2]):=by
 unfold Ld
 refine Kc.ac fun C hC=>?_
 unfold GT
 by_cases ha:MT R a=0
 case neg =>
  rw [if_neg ha]
  repeat' (first | (with_reducible first | refine W ?_ | refine Z0 ?_ | ((first | refine Wo fun K hK=>?_ | refine Wp ?_ | refine Wq ?_ | refine Wr ?_);(try simp only [go_sem,fN,seval,eT,iR,ha,dT,dF,nL]);(repeat refine Ai ?_);(try (refine hK _ ?_;clear hK K));try refine iC ?_)) | refine Cg _ (Hb R a) ?_)
  simp only [go_sem,fN,seval,AR,AS.result,AB,AD,AL]
 case pos =>
 rw [if_pos ha]
 by_cases hb:b.may=0
 case neg =>
  rw [if_neg hb]
  repeat' (first | (with_reducible first | refine W ?_ | refine Z0 ?_ | ((first | refine Wo fun K hK=>?_ | refine Wp ?_ | refine Wq ?_ | refine Wr ?_);(try simp only [go_sem,fN,seval,eT,iR,ha,hb,dT,dF,nL]);(repeat refine Ai ?_);(try (refine hK _ ?_;clear hK K));try refine iC ?_)) | refine Cg _ (Hb R a) ?_ | refine Cg _ (DT b) ?_)
  simp only [go_sem,fN,seval,AR,AS.result,AB,AD,AL]
 case pos =>
 rw [if_pos hb]
 by_cases hf:Ct m=0
 case neg =>
  rw [if_neg hf]
  repeat' (first | (with_reducible first | refine W ?_ | refine Z0 ?_ | ((first | refine Wo fun K hK=>?_ | refine Wp ?_ | refine Wq ?_ | refine Wr ?_);(try simp only [go_sem,fN,seval,eT,iR,ha,hb,hf,dT,dF,nL]);(repeat refine Ai ?_);(try (refine hK _ ?_;clear hK K));try refine iC ?_)) | refine Cg _ (Hb R a) ?_ | refine Cg _ (DT b) ?_ | refine Cg _ (XL m) ?_)
  simp only [go_sem,fN,seval,AR,AS.result,AB,AD,AL]
 case pos =>
 rw [if_pos hf]
 obtain ⟨hR,hc,hz⟩:=UY ha
 obtain ⟨hcb,hzb⟩:=Tm.may_chk hb
 obtain ⟨m0,m1⟩:=PI hf
 obtain ⟨n,rfl⟩:∃ n:Nat,m=n:=⟨m.toNat,by omega⟩
 rw [Int.toNat_natCast]
 have hmet:=ZV hR a b hc hcb (by omega) (by omega) n (by omega)
 repeat' (first | (with_reducible first | refine W ?_ | refine Z0 ?_ | ((first | refine Wo fun K hK=>?_ | refine Wp ?_ | refine Wq ?_ | refine Wr ?_);(try simp only [go_sem,fN,seval,eT,iR,ha,hb,hf,dT,dF,nL]);(repeat refine Ai ?_);(try (refine hK _ ?_;clear hK K));try refine iC ?_)) | refine Cg _ (Hb R a) ?_ | refine Cg _ (DT b) ?_ | refine Cg _ (XL n) ?_ | refine Cg _ (hmet) ?_)
 simp only [go_sem,fN,seval,AR,AS.result,AB,AD,AL]



set_option maxHeartbeats 1600000
def crV (o:Option (List Pr)):AV:=match o with
 | none=>.tup [CI [],AN 8]
 | some l=>.tup [CI l,AN 0]
abbrev Hk (p:Pr):AK:=.box 40 [.st (.str p.1.name),.st (.list (p.1.args.map Ao)),.st (.str p.2.name),.st (.list (p.2.args.map Ao))]
structure Sv (p:Pr):Prop where
 c1:p.1.chk=0
 c2:p.2.chk=0
 z1:p.1.size≤200
 z2:p.2.size≤200
theorem HQ {c:UInt8} (h65:65≤c.toNat) (h90:c.toNat≤90) {k:Nat} (hk:k≤1) {r:Pr} (h1:r.1.may=0) (h2:r.2.may=0):Sv (Ew c k r):=by
 obtain ⟨c1,z1⟩:=Tm.may_chk h1
 obtain ⟨c2,z2⟩:=Tm.may_chk h2
 have hvl:=KR r.1
 have f1:=Fu h65 h90 hk (show r.1.varsOf.length≤1000 by omega) c1
 have f2:=Fu h65 h90 hk (show r.1.varsOf.length≤1000 by omega) c2
 exact ⟨f1.1,f2.1,by rw [Ew];show (Tm.on _ r.1).size≤200;rw [f1.2];exact z1,by rw [Ew];show (Tm.on _ r.2).size≤200;rw [f2.2];exact z2⟩
theorem Mq {A B:Pr} (hA:Sv A) (hB:Sv B) (same:Bool) {p:List Int} {x:Tm} (hx:A.1.atP p=some x) (hk:x ∈ A.1.knots) :
  ((AP x.name=true ∨ (same=true∧p=[]))∧DA A B same p=some []) ∨ (¬ (AP x.name=true ∨ (same=true∧p=[]))∧∃ n r,C3 n [] [(x,B.1)] r∧Bg [(x,B.1)]=0 ∧
   ((r.2=8∧DA A B same p=none) ∨ (r.2 ≠ 8∧r.2 ≠ 0∧DA A B same p=some []) ∨ (r.2=0∧Co (Ha [(x,B.1)]) 100000000000 r.1 [] ∧
    DA A B same p=if (BD r.1 A.2).2=true∧(BD r.1 (A.1.putP p B.2)).2=true then some [DF (BD r.1 A.2).1 (BD r.1 (A.1.putP p B.2)).1] else none))):=by
 have hxc:=JO A.1 x hA.c1 hk
 have hxz:=Fi A.1 x hk
 have hAz:=hA.z1
 have hmay:=JL (Pq hxc (by omega)) (Pq hB.c1 hB.z1)
 obtain ⟨n,r,hr⟩:=RE hmay
 have hs:=PO hr
 unfold DA
 simp only [hx,hs]
 by_cases h1:AP x.name=true ∨ (same=true∧p=[])
 ·exact .inl ⟨h1,by rw [if_pos h1]⟩
 refine .inr ⟨h1,n,r,hr,hmay,?_⟩
 rw [if_neg h1]
 by_cases h2:r.2=8
 ·exact .inl ⟨h2,by rw [if_pos h2]⟩
 rw [if_neg h2]
 by_cases h3:r.2=0
 ·refine .inr (.inr ⟨h3,?_,by rw [if_neg (fun h=>h h3)]⟩)
  have:=OC hmay (by rw [hs];exact h3)
  rw [hs] at this
  exact this
 ·exact .inr (.inl ⟨h2,h3,by rw [if_pos h3]⟩)
theorem Se {A B:Pr} {same:Bool} {ps:List (List Int)} {i:Nat} {p:List Int} (h:ps[i]?=some p) {acc:List Pr} (hall:Ej A B same ps=(Ej A B same (ps.drop i)).map (acc ++ ·)):(DA A B same p=none→Ej A B same ps=none)∧∀ x,DA A B same p=some x→Ej A B same ps=(Ej A B same (ps.drop (i + 1))).map ((acc ++ x) ++ ·):=by
 rw [BQ h,Ej] at hall
 refine ⟨fun h1=>?_,fun x h1=>?_⟩
 ·rw [h1] at hall
  exact hall
 ·rw [h1] at hall
  simp only [Option.map_map] at hall
  rw [hall]
  congr 1
  funext l
  simp
theorem Jo {a b:Pr} (ha1:a.1.may=0) (ha2:a.2.may=0) (hb1:b.1.may=0) (hb2:b.2.may=0) (same:Bool):AY Tryz.prog 74 [aPr a,aPr b,Ad same] (crV (VK (Ew 88 1 a) (Ew 89 1 b) same)):=by
 have pa:=TX 88 (by decide) (by decide) ha1 ha2
 have pb:=TX 89 (by decide) (by decide) hb1 hb2
 have hA:=HQ (c:=88) (by decide) (by decide) (k:=1) (by omega) ha1 ha2
 have hB:=HQ (c:=89) (by decide) (by decide) (k:=1) (by omega) hb1 hb2
 generalize Ew 88 1 a=A at *
 generalize Ew 89 1 b=B at *
 obtain ⟨A1,A2,A3,A4⟩:=hA
 obtain ⟨B1,B1',B3,B4⟩:=hB
 have hpl:=Tm.places_length A.1
 have hall:=Zt A.1 (by omega)
 unfold VK
 refine Hg.ac fun C hC=>?_
 unfold ER
 repeat' (first | (with_reducible first | refine W ?_ | refine Z0 ?_ | ((first | refine Wo fun K hK=>?_ | refine Wp ?_ | refine Wq ?_ | refine Wr ?_);(try simp only [go_sem,fN,seval,eT,iR,dT,dF,nL]);(repeat refine Ai ?_);(try (refine hK _ ?_;clear hK K));try refine iC ?_)) | refine Cg _ (pa) ?_ | refine Cg _ (pb) ?_ | refine Cg _ (hall) ?_)
 refine IWP.ghost (Aa.own 8 500 40 4 (xs:=([]:List Pr).map As) (by rfl) (by rfl) HW (by rw [hC];decide)) ?_
 refine IWP.loopD [13,17,19] (fun m s=>∃ i acc,i≤A.1.places.length∧m=A.1.places.length - i∧acc.length≤i∧Ej A B same A.1.places=(Ej A B same (A.1.places.drop i)).map (acc ++ ·)∧s.env 2=Ad same∧s.env 8=.one (.row 500 acc.length)∧s.env 9=.one (.ptr 9 1 0 0)∧s.env 10=.one (.ptr 10 1 0 0)∧s.env 28=Zh A.1.places∧s.env 29=AN A.1.places.length∧s.env 30=AN i∧s.S 9=some (Hk A)∧s.S 10=some (Hk B)∧s.S 13=none∧s.S 17=none∧s.S 19=none∧s.S 500=some (.arow 40 4 (acc.map As))) A.1.places.length ⟨0,[],Nat.zero_le _,rfl,Nat.zero_le _,by simp,rfl,rfl,rfl,rfl,rfl,rfl,rfl,rfl,rfl,rfl,rfl,rfl,rfl⟩ ?_
 rintro m ⟨env,S⟩ ⟨i,acc,hi,rfl,hal,hcr,e2,e8,e9,e10,e28,e29,e30,s9,s10,s13,s17,s19,s500⟩
 simp only at e2 e8 e9 e10 e28 e29 e30 s9 s10 s13 s17 s19 s500
 have hl:(acc.map As).length=acc.length:=by simp
 by_cases hlt:i < A.1.places.length
 case neg =>
  rw [List.drop_of_length_le (by omega)] at hcr
  simp only [Ej,Option.map_some,List.append_nil] at hcr
  rw [hcr]
  have hlt':¬ (i:Int) < A.1.places.length:=by omega
  unfold crV
  repeat' with_reducible first | refine W ?_ | refine Z0 ?_ | ((first | refine Wo fun K hK=>?_ | refine Wp ?_ | refine Wq ?_ | refine Wr ?_);(try simp only [go_sem,fN,seval,eT,iR,e2,e8,e9,e10,e28,e29,e30,s9,s10,s13,s17,s19,s500,hlt',dT,dF,nL]);(repeat refine Ai ?_);(try (refine hK _ ?_;clear hK K));try refine iC ?_)
  simp only [go_sem,fN,seval,AR,AS.result,AB,AD,AL,s500,hl]
 obtain ⟨p,hp⟩:=Aj hlt
 have hlt':(i:Int) < A.1.places.length:=by omega
 obtain ⟨x,hx,hxk⟩:=J3 A.1 p (AU hp)
 have hxz:=Fi A.1 x hxk
 have hpd:=Tm.places_deep A.1 p (AU hp)
 have hbel:=Xq A.1 p (by omega)
 rw [hx] at hbel
 have hwith:=S_ B.2 (by omega) p A.1 (by omega) (by rw [hx];simp) (by omega)
 obtain ⟨hno,hyes⟩:=Se hp hcr
 have hpi:(p.map R_).length=p.length:=by simp
 have hadd:∀ ys:List Pr,acc ++ ys=acc ++ ys:=fun _=>rfl
 rcases Mq ⟨A1,A2,A3,A4⟩ ⟨B1,B1',B3,B4⟩ same hx hxk with ⟨h1,h2⟩ | ⟨h1,n,r,hr,hmay,h2⟩
 ·have hn:=hyes _ h2
  by_cases hv:AP x.name=true
  ·repeat' (first | (with_reducible first | refine W ?_ | refine Z0 ?_ | ((first | refine Wo fun K hK=>?_ | refine Wp ?_ | refine Wq ?_ | refine Wr ?_);(try simp only [go_sem,fN,seval,eT,iR,e2,e8,e9,e10,e28,e29,e30,s9,s10,s13,s17,s19,s500,hlt',hp,hv,dT,dF,nL]);(repeat refine Ai ?_);(try (refine hK _ ?_;clear hK K));try refine iC ?_)) | refine Cg _ (hbel) ?_ | refine Cg _ (Al x.name) ?_)
   refine AH ⟨A.1.places.length - (i + 1),by omega,i + 1,acc ++ [],by omega,rfl,by simp;omega,hn,?_⟩
   rw [List.append_nil]
   simp only [go_sem,fN,seval,AS.drop,Ac,AC.clears,AC.clear,AC.highs,AC.high,zD,AV.purge,AV.purges,AC.purge,AK.purge,Nat.reduceBEq,eT,iR,e2,e8,e9,e10,e28,e29,e30,s9,s10,s13,s17,s19,s500]
   congr 3
  ·obtain ⟨rfl,rfl⟩:same=true∧p=[]:=by
    rcases h1 with h1 | h1
    ·exact absurd h1 hv
    ·exact h1
   repeat' (first | (with_reducible first | refine W ?_ | refine Z0 ?_ | ((first | refine Wo fun K hK=>?_ | refine Wp ?_ | refine Wq ?_ | refine Wr ?_);(try simp only [go_sem,fN,seval,eT,iR,e2,e8,e9,e10,e28,e29,e30,s9,s10,s13,s17,s19,s500,hlt',hp,hv,dT,dF,nL]);(repeat refine Ai ?_);(try (refine hK _ ?_;clear hK K));try refine iC ?_)) | refine Cg _ (hbel) ?_ | refine Cg _ (Al x.name) ?_)
   refine AH ⟨A.1.places.length - (i + 1),by omega,i + 1,acc ++ [],by omega,rfl,by simp;omega,hn,?_⟩
   rw [List.append_nil]
   simp only [go_sem,fN,seval,AS.drop,Ac,AC.clears,AC.clear,AC.highs,AC.high,zD,AV.purge,AV.purges,AC.purge,AK.purge,Nat.reduceBEq,eT,iR,e2,e8,e9,e10,e28,e29,e30,s9,s10,s13,s17,s19,s500]
   congr 3
 ·have hv:¬ AP x.name=true:=fun h=>h1 (.inl h)
  have hs:(same=false∧True) ∨ (same=true∧¬ (p.length:Int)=0):=by
   cases same with
   | false=>exact .inl ⟨rfl,trivial⟩
   | true=>exact .inr ⟨rfl,fun h=>h1 (.inr ⟨rfl,List.length_eq_zero_iff.1 (by omega)⟩)⟩
  have hsv:=Tz _ (DJ hmay).1 _ (Nat.le_refl _) n _ r hr (DJ hmay).2
  have hU:=(DJ hmay).1
  unfold CI at hsv
  simp only [List.map_cons,List.map_nil,As] at hsv
  rcases hs with ⟨rfl,hp0⟩ | ⟨rfl,hp0⟩
  all_goals
   rcases h2 with ⟨r8,hc⟩ | ⟨r8,r0,hc⟩ | ⟨r0,hg,hc⟩
   ·rw [hno hc]
    unfold crV
    repeat' (first | (with_reducible first | refine W ?_ | refine Z0 ?_ | ((first | refine Wo fun K hK=>?_ | refine Wp ?_ | refine Wq ?_ | refine Wr ?_);(try simp only [go_sem,fN,seval,eT,iR,e2,e8,e9,e10,e28,e29,e30,s9,s10,s13,s17,s19,s500,hlt',hp,hv,hp0,r8,dT,dF,nL]);(repeat refine Ai ?_);(try (refine hK _ ?_;clear hK K));try refine iC ?_)) | refine Cg _ (hbel) ?_ | refine Cg _ (Al x.name) ?_ | refine Cg _ (hsv) ?_)
    simp only [go_sem,fN,seval,AR,AS.result,AB,AD,AL]
    rfl
   ·have hn:=hyes _ hc
    repeat' (first | (with_reducible first | refine W ?_ | refine Z0 ?_ | ((first | refine Wo fun K hK=>?_ | refine Wp ?_ | refine Wq ?_ | refine Wr ?_);(try simp only [go_sem,fN,seval,eT,iR,e2,e8,e9,e10,e28,e29,e30,s9,s10,s13,s17,s19,s500,hlt',hp,hv,hp0,r8,r0,dT,dF,nL]);(repeat refine Ai ?_);(try (refine hK _ ?_;clear hK K));try refine iC ?_)) | refine Cg _ (hbel) ?_ | refine Cg _ (Al x.name) ?_ | refine Cg _ (hsv) ?_)
    refine AH ⟨A.1.places.length - (i + 1),by omega,i + 1,acc ++ [],by omega,rfl,by simp;omega,hn,?_⟩
    rw [List.append_nil]
    simp only [go_sem,fN,seval,AS.drop,Ac,AC.clears,AC.clear,AC.highs,AC.high,zD,AV.purge,AV.purges,AC.purge,AK.purge,Nat.reduceBEq,eT,iR,e2,e8,e9,e10,e28,e29,e30,s9,s10,s13,s17,s19,s500]
    congr 3
   ·have hgl:=hg.len
    have on1:=Lg r.1 (by omega) hg.ord A.2 hg.var A2
    have on2:=Lg r.1 (by omega) hg.ord (A.1.putP p B.2) hg.var (L5 p A.1 B.2 A1 B1')
    have y1:(BD r.1 A.2).1.size≤2000:=Fp
    have y2:(BD r.1 (A.1.putP p B.2)).1.size≤2000:=Fp
    generalize BD r.1 A.2=y at *
    generalize BD r.1 (A.1.putP p B.2)=z at *
    obtain ⟨y,yb⟩:=y
    obtain ⟨z,zb⟩:=z
    simp only at on1 on2 y1 y2 hc
    by_cases hb:yb=true∧zb=true
    ·obtain ⟨rfl,rfl⟩:=hb
     rw [if_pos ⟨rfl,rfl⟩] at hc
     have hn:=hyes _ hc
     have hnm:=Qp [y,z] (by simp only [Tm.sizes];omega)
     rw [show (Tm.cnL [y,z] []).1=[(DF y z).1,(DF y z).2] from rfl] at hnm
     unfold F6 at hnm
     simp only [List.map_cons,List.map_nil,An] at hnm
     generalize DF y z=q at *
     repeat' (first | (with_reducible first | refine W ?_ | refine Z0 ?_ | ((first | refine Wo fun K hK=>?_ | refine Wp ?_ | refine Wq ?_ | refine Wr ?_);(try simp only [go_sem,fN,seval,eT,iR,e2,e8,e9,e10,e28,e29,e30,s9,s10,s13,s17,s19,s500,hlt',hp,hv,hp0,r0,hl,dT,dF,nL]);(repeat refine Ai ?_);(try (refine hK _ ?_;clear hK K));try refine iC ?_)) | refine Cg _ (hbel) ?_ | refine Cg _ (Al x.name) ?_ | refine Cg _ (hsv) ?_ | refine Cg _ (on1) ?_ | refine Cg _ (hwith) ?_ | refine Cg _ (on2) ?_ | refine Cg _ (hnm) ?_)
     refine AH ⟨A.1.places.length - (i + 1),by omega,i + 1,acc ++ [q],by omega,rfl,by simp;omega,hn,?_⟩
     simp only [go_sem,fN,seval,AS.drop,Ac,AC.clears,AC.clear,AC.highs,AC.high,zD,AV.purge,AV.purges,AC.purge,AK.purge,Nat.reduceBEq,eT,iR,e2,e8,e9,e10,e28,e29,e30,s9,s10,s13,s17,s19,s500]
     refine ⟨by congr 3,?_⟩
     rw [List.map_append]
     rfl
    ·rw [if_neg hb] at hc
     rw [hno hc]
     unfold crV
     cases yb
     ·repeat' (first | (with_reducible first | refine W ?_ | refine Z0 ?_ | ((first | refine Wo fun K hK=>?_ | refine Wp ?_ | refine Wq ?_ | refine Wr ?_);(try simp only [go_sem,fN,seval,eT,iR,e2,e8,e9,e10,e28,e29,e30,s9,s10,s13,s17,s19,s500,hlt',hp,hv,hp0,r0,hl,dT,dF,nL]);(repeat refine Ai ?_);(try (refine hK _ ?_;clear hK K));try refine iC ?_)) | refine Cg _ (hbel) ?_ | refine Cg _ (Al x.name) ?_ | refine Cg _ (hsv) ?_ | refine Cg _ (on1) ?_ | refine Cg _ (hwith) ?_ | refine Cg _ (on2) ?_)
      simp only [go_sem,fN,seval,AR,AS.result,AB,AD,AL]
      rfl
     ·cases zb
      ·repeat' (first | (with_reducible first | refine W ?_ | refine Z0 ?_ | ((first | refine Wo fun K hK=>?_ | refine Wp ?_ | refine Wq ?_ | refine Wr ?_);(try simp only [go_sem,fN,seval,eT,iR,e2,e8,e9,e10,e28,e29,e30,s9,s10,s13,s17,s19,s500,hlt',hp,hv,hp0,r0,hl,dT,dF,nL]);(repeat refine Ai ?_);(try (refine hK _ ?_;clear hK K));try refine iC ?_)) | refine Cg _ (hbel) ?_ | refine Cg _ (Al x.name) ?_ | refine Cg _ (hsv) ?_ | refine Cg _ (on1) ?_ | refine Cg _ (hwith) ?_ | refine Cg _ (on2) ?_)
       simp only [go_sem,fN,seval,AR,AS.result,AB,AD,AL]
       rfl
      ·exact absurd ⟨rfl,rfl⟩ hb

theorem Tr {t:Tm} (hc:t.chk=0) {l:List ByteArray} (hl:∀ n ∈ (t.cn l).2,AP n=true):(t.cn l).1.size=t.size:=by
 rw [WI t hc l _ hl ⟨[],by simp⟩]
 refine TF (fun b hb=>?_) t
 obtain ⟨j,h1,h2⟩:=IA _ _ hb
 rw [h2]
 rfl
structure Gx (q:Pr):Prop where
 c1:q.1.chk=0
 c2:q.2.chk=0
 z1:q.1.size≤2000
 z2:q.2.size≤2000
theorem Ts {t:Tm} (hc:t.chk=0) {l:List ByteArray} (hl:∀ n ∈ l,AP n=true):∀ n ∈ (t.cn l).2,AP n=true:=by
 rw [Rb t hc]
 exact IY _ l hl
theorem NP {l r:Tm} (h1:l.chk=0) (h2:r.chk=0) (z1:l.size≤2000) (z2:r.size≤2000):Gx (DF l r):=by
 have v1:=Ts h1 (l:=[]) (by simp)
 have v2:=Ts h2 v1
 have n1:=F3 l []
 have n2:=F3 r (l.cn []).2
 rw [List.length_nil] at n1
 exact ⟨X9 h1 v1 (by omega),X9 h2 v2 (by omega),by show (l.cn []).1.size≤_;rw [Tr h1 v1];exact z1,by show (r.cn _).1.size≤_;rw [Tr h2 v2];exact z2⟩
theorem Rj {A B:Pr} (a1:A.1.chk=0) (a2:A.2.chk=0) (z1:A.1.size≤200) (b1:B.1.chk=0) (b2:B.2.chk=0) (bz:B.1.size≤200) {same:Bool} {p:List Int} (hp:p ∈ A.1.places) {x:List Pr} (h:DA A B same p=some x):x.length≤1∧∀ q ∈ x,Gx q:=by
 obtain ⟨t,ht,hk⟩:=J3 A.1 p hp
 have hxc:=JO A.1 t a1 hk
 have hxz:=Fi A.1 t hk
 have hmay:=JL (Pq hxc (by omega)) (Pq b1 bz)
 unfold DA at h
 simp only [ht] at h
 split at h
 ·cases h
  exact ⟨by simp,by simp⟩
 split at h
 ·cases h
 split at h
 ·cases h
  exact ⟨by simp,by simp⟩
 rename_i h8 h0
 have h0:(Kt [(t,B.1)]).2=0:=by
  rcases Decidable.em ((Kt [(t,B.1)]).2=0) with h | h
  ·exact h
  ·exact absurd h h0
 have hg:=OC hmay h0
 split at h
 ·rename_i hb
  cases h
  refine ⟨by simp,fun q hq=>?_⟩
  rw [List.mem_singleton.1 hq]
  exact NP (Qk hg.chk a2 hb.1) (Qk hg.chk (L5 p A.1 B.2 a1 b2) hb.2) Fp Fp
 ·cases h
theorem L_ {A B:Pr} (a1:A.1.chk=0) (a2:A.2.chk=0) (z1:A.1.size≤200) (b1:B.1.chk=0) (b2:B.2.chk=0) (bz:B.1.size≤200) {same:Bool}:∀ {ps:List (List Int)},(∀ p ∈ ps,p ∈ A.1.places)→∀ {x:List Pr},Ej A B same ps=some x→x.length≤ps.length∧∀ q ∈ x,Gx q
 | [],_,x,h=>by
  cases h
  exact ⟨by simp,by simp⟩
 | p :: ps,hps,x,h=>by
  rw [Ej] at h
  split at h
  ·cases h
  ·rename_i y hy
   rw [Option.map_eq_some_iff] at h
   obtain ⟨z,h1,rfl⟩:=h
   obtain ⟨k1,k2⟩:=Rj a1 a2 z1 b1 b2 bz (hps p (by simp)) hy
   obtain ⟨k3,k4⟩:=L_ a1 a2 z1 b1 b2 bz (fun q hq=>hps q (List.mem_cons_of_mem _ hq)) h1
   refine ⟨by simp only [List.length_append,List.length_cons];omega,fun q hq=>?_⟩
   rcases List.mem_append.1 hq with hq | hq
   ·exact k2 q hq
   ·exact k4 q hq
theorem T9 {cr:Nat→Nat→Option (List Pr)}:∀ (l:List (Nat × Nat)) (acc:List Pr),(∀ q ∈ acc,Gx q)→acc.length≤400→(∀ q ∈ l,∀ x,cr q.1 q.2=some x→∀ p ∈ x,Gx p)→(∀ q ∈ (Ib cr l acc).1,Gx q)∧(Ib cr l acc).1.length≤400
 | [],acc,h,hl,_=>⟨h,hl⟩
 | q :: l,acc,h,hl,hc=>by
  rw [Ib]
  split
  ·exact ⟨by simp,by simp⟩
  ·rename_i x hx
   split
   ·exact ⟨by simp,by simp⟩
   ·refine T9 l (acc ++ x) (fun p hp=>?_) (by omega) fun q' hq'=>hc q' (List.mem_cons_of_mem _ hq')
    rcases List.mem_append.1 hp with hp | hp
    ·exact h p hp
    ·exact hc q (by simp) x hx p hp

theorem Xf {R:List Pr} {c d:UInt8} {k i j:Nat} {a b:Pr} (hi:R[i]?=some a) (hj:R[j]?=some b):crR R c d k i j=VK (Ew c k a) (Ew d k b) (decide (i=j)):=by
 unfold crR
 rw [hi,hj]
theorem YH {n i j:Nat}:∀ q ∈ Ge n i j,j≤n→i < n→q.1 < n∧q.2 < n:=fun q hq h1 h2=>by
 unfold Ge at hq
 rcases List.mem_append.1 hq with hq | hq
 ·obtain ⟨a,ha,rfl⟩:=List.mem_map.1 hq
  rw [List.mem_range'_1] at ha
  exact ⟨h2,by show a < n;omega⟩
 ·obtain ⟨a,ha,hq⟩:=List.mem_flatMap.1 hq
  obtain ⟨b,hb,rfl⟩:=List.mem_map.1 hq
  rw [List.mem_range'_1] at ha hb
  exact ⟨by show a < n;omega,by show b < n;omega⟩
theorem W1 {R:List Pr} (hR:A7 R) {i j:Nat} {x:List Pr} (hi:i < R.length) (hj:j < R.length) (h:crR R 88 89 1 i j=some x):x.length≤200∧∀ q ∈ x,Gx q:=by
 obtain ⟨a,ha⟩:=Aj hi
 obtain ⟨b,hb⟩:=Aj hj
 rw [Xf ha hb] at h
 have ma:=AU ha
 have mb:=AU hb
 have oA:=HQ (c:=88) (by decide) (by decide) (k:=1) (by omega) (hR.left a ma) (hR.right a ma)
 have oB:=HQ (c:=89) (by decide) (by decide) (k:=1) (by omega) (hR.left b mb) (hR.right b mb)
 have:=L_ oA.c1 oA.c2 oA.z1 oB.c1 oB.c2 oB.z1 (fun p hp=>hp) h
 rw [Tm.places_length] at this
 exact ⟨by have:=oA.z1;omega,this.2⟩
theorem Vh {R:List Pr} (hR:A7 R):(∀ q ∈ (EG R 88 89 1).1,Gx q)∧(EG R 88 89 1).1.length≤400:=by
 unfold EG
 split
 ·exact ⟨by simp,by simp⟩
 ·rename_i h
  exact T9 _ _ (by simp) (by simp) fun q hq x hx=>by
   obtain ⟨h1,h2⟩:=YH q hq (by omega) (by omega)
   exact (W1 hR h1 h2 hx).2
noncomputable def P8 (R:List Pr) (c d:UInt8) (k i:Nat) (acc:List Pr):List Pr × Int:=if i < R.length then Ib (crR R c d k) (Ge R.length i 0) acc else (acc,0)
theorem Yh {R:List Pr} {c d:UInt8} {k i:Nat} {acc:List Pr} (h:i < R.length):P8 R c d k i acc=Ib (crR R c d k) (Ge R.length i 0) acc:=if_pos h
theorem Uk {R:List Pr} {c d:UInt8} {k i:Nat} {acc:List Pr} (h:i < R.length):Ib (crR R c d k) (Ge R.length i R.length) acc=P8 R c d k (i + 1) acc:=by
 unfold P8
 by_cases h1:i + 1 < R.length
 ·rw [if_pos h1,V4 h1]
 ·rw [if_neg h1,Xp (by omega),Ib]
theorem Qs (R:List Pr) (c d:UInt8) (k:Nat):EG R c d k=P8 R c d k 0 []:=by
 unfold EG P8
 by_cases h:R.length=0
 ·rw [if_pos h,if_neg (by omega)]
 ·rw [if_neg h,if_pos (by omega)]
def prV (r:List Pr × Int):AV:=.tup [CI r.1,AN r.2]
theorem WN {R:List Pr} (hR:A7 R) (h0:BG R=0):AY Tryz.prog 35 [CI R] (prV (EG R 88 89 1)):=by
 have h40:=hR.len
 rw [Qs]
 unfold prV
 refine JN.ac fun C hC=>?_
 unfold E_
 repeat' (first | (with_reducible first | refine W ?_ | refine Z0 ?_ | ((first | refine Wo fun K hK=>?_ | refine Wp ?_ | refine Wq ?_ | refine Wr ?_);(try simp only [go_sem,fN,seval,eT,iR,h0,dT,dF,nL]);(repeat refine Ai ?_);(try (refine hK _ ?_;clear hK K));try refine iC ?_)) | refine Cg _ (IS R) ?_)
 refine IWP.ghost (Aa.own 5 500 40 4 (xs:=([]:List Pr).map As) (by rfl) (by rfl) HW (by rw [hC];decide)) ?_
 refine IWP.loopD [7,9] (fun m s=>∃ i acc,i≤R.length∧m=R.length - i∧acc.length≤400∧P8 R 88 89 1 0 []=P8 R 88 89 1 i acc∧s.env 0=CI R∧s.env 5=.one (.row 500 acc.length)∧s.env 17=CI R∧s.env 18=AN R.length∧s.env 19=AN i∧s.S 7=none∧s.S 9=none∧s.S 500=some (.arow 40 4 (acc.map As))) R.length ⟨0,[],Nat.zero_le _,rfl,Nat.zero_le _,rfl,rfl,rfl,rfl,rfl,rfl,rfl,rfl,rfl⟩ ?_
 rintro m ⟨env,S⟩ ⟨i,acc,hi,rfl,hal,htot,e0,e5,e17,e18,e19,s7,s9,s500⟩
 simp only at e0 e5 e17 e18 e19 s7 s9 s500
 have hl:(acc.map As).length=acc.length:=by simp
 rw [htot]
 by_cases hlt:i < R.length
 case neg =>
  have hlt':¬ (i:Int) < R.length:=by omega
  rw [P8,if_neg hlt]
  repeat' with_reducible first | refine W ?_ | refine Z0 ?_ | ((first | refine Wo fun K hK=>?_ | refine Wp ?_ | refine Wq ?_ | refine Wr ?_);(try simp only [go_sem,fN,seval,eT,iR,e0,e5,e17,e18,e19,s7,s9,s500,hlt',dT,dF,nL]);(repeat refine Ai ?_);(try (refine hK _ ?_;clear hK K));try refine iC ?_)
  simp only [go_sem,fN,seval,AR,AS.result,AB,AD,AL,s500,hl]
 have hlt':(i:Int) < R.length:=by omega
 obtain ⟨a,ha⟩:=Aj hlt
 have ma:=AU ha
 rw [Yh hlt]
 repeat' with_reducible first | refine W ?_ | refine Z0 ?_ | ((first | refine Wo fun K hK=>?_ | refine Wp ?_ | refine Wq ?_ | refine Wr ?_);(try simp only [go_sem,fN,seval,eT,iR,e0,e5,e17,e18,e19,s7,s9,s500,hlt',ha,As,dT,dF,nL]);(repeat refine Ai ?_);(try (refine hK _ ?_;clear hK K));try refine iC ?_)
 refine IWP.loopD [9] (fun m s=>∃ j acc2,j≤R.length∧m=R.length - j∧acc2.length≤400∧Ib (crR R 88 89 1) (Ge R.length i 0) acc=Ib (crR R 88 89 1) (Ge R.length i j) acc2∧s.env 0=CI R∧s.env 5=.one (.row 500 acc2.length)∧s.env 6=AN i∧s.env 7=.one (.ptr 7 1 0 0)∧s.env 17=CI R∧s.env 18=AN R.length∧s.env 19=AN i∧s.env 24=CI R∧s.env 25=AN R.length∧s.env 26=AN j∧s.S 7=some (Hk a)∧s.S 9=none∧s.S 500=some (.arow 40 4 (acc2.map As))) R.length ⟨0,acc,Nat.zero_le _,rfl,hal,rfl,?_⟩ ?_
 ·simp only [go_sem,fN,seval,eT,iR,e0,e5,e17,e18,e19,s7,s9,s500]
 rintro m ⟨env,S⟩ ⟨j,acc2,hj,rfl,hal2,htot2,e0,e5,e6,e7,e17,e18,e19,e24,e25,e26,s7,s9,s500⟩
 simp only at e0 e5 e6 e7 e17 e18 e19 e24 e25 e26 s7 s9 s500
 have hl2:(acc2.map As).length=acc2.length:=by simp
 rw [htot2]
 by_cases hjl:j < R.length
 case neg =>
  have hjl':¬ (j:Int) < R.length:=by omega
  obtain rfl:j=R.length:=by omega
  have hnx:=Uk (c:=88) (d:=89) (k:=1) (acc:=acc2) hlt
  repeat' with_reducible first | refine W ?_ | refine Z0 ?_ | ((first | refine Wo fun K hK=>?_ | refine Wp ?_ | refine Wq ?_ | refine Wr ?_);(try simp only [go_sem,fN,seval,eT,iR,e0,e5,e6,e7,e17,e18,e19,e24,e25,e26,s7,s9,s500,hjl',dT,dF,nL]);(repeat refine Ai ?_);(try (refine hK _ ?_;clear hK K));try refine iC ?_)
  refine AH ⟨R.length - (i + 1),by omega,i + 1,acc2,by omega,rfl,hal2,?_,?_⟩
  ·exact hnx
  ·simp only [go_sem,fN,seval,AS.drop,Ac,AC.clears,AC.clear,AC.highs,AC.high,zD,AV.purge,AV.purges,AC.purge,AK.purge,Nat.reduceBEq,eT,iR,e0,e5,e6,e7,e17,e18,e19,e24,e25,e26,s7,s9,s500]
   congr 3
 have hjl':(j:Int) < R.length:=by omega
 obtain ⟨b,hb⟩:=Aj hjl
 have mb:=AU hb
 have hij:decide ((i:Int)=(j:Int))=decide (i=j):=by
  rw [decide_eq_decide]
  omega
 have hbt:=Jo (hR.left a ma) (hR.right a ma) (hR.left b mb) (hR.right b mb) (decide (i=j))
 rw [← Xf ha hb,← hij] at hbt
 rw [ZL hjl,Ib] at htot2 ⊢
 cases hcr:crR R 88 89 1 i j with
 | none =>
  rw [hcr] at hbt
  unfold crV at hbt
  simp only [hcr]
  repeat' (first | (with_reducible first | refine W ?_ | refine Z0 ?_ | ((first | refine Wo fun K hK=>?_ | refine Wp ?_ | refine Wq ?_ | refine Wr ?_);(try simp only [go_sem,fN,seval,eT,iR,e0,e5,e6,e7,e17,e18,e19,e24,e25,e26,s7,s9,s500,hjl',hb,As,dT,dF,nL]);(repeat refine Ai ?_);(try (refine hK _ ?_;clear hK K));try refine iC ?_)) | refine Cg _ (hbt) ?_)
  simp only [go_sem,fN,seval,AR,AS.result,AB,AD,AL]
  rfl
 | some x =>
  rw [hcr] at hbt
  unfold crV at hbt
  simp only [hcr]
  have hxl:=(W1 hR hlt hjl hcr).1
  have hxm:(x.map As).length=x.length:=by simp
  have hla:(acc2 ++ x).length=acc2.length + x.length:=List.length_append
  by_cases hg:400 < (acc2 ++ x).length
  ·rw [if_pos hg]
   have hg':(400:Int) < ((acc2.length + x.length:Nat):Int):=by omega
   repeat' (first | (with_reducible first | refine W ?_ | refine Z0 ?_ | ((first | refine Wo fun K hK=>?_ | refine Wp ?_ | refine Wq ?_ | refine Wr ?_);(try simp only [go_sem,fN,seval,eT,iR,e0,e5,e6,e7,e17,e18,e19,e24,e25,e26,s7,s9,s500,hjl',hb,As,hl2,hxm,hg',dT,dF,nL]);(repeat refine Ai ?_);(try (refine hK _ ?_;clear hK K));try refine iC ?_)) | refine Cg _ (hbt) ?_)
   simp only [go_sem,fN,seval,AR,AS.result,AB,AD,AL]
   rfl
  ·rw [if_neg hg]
   have hg':¬ (400:Int) < ((acc2.length + x.length:Nat):Int):=by omega
   repeat' (first | (with_reducible first | refine W ?_ | refine Z0 ?_ | ((first | refine Wo fun K hK=>?_ | refine Wp ?_ | refine Wq ?_ | refine Wr ?_);(try simp only [go_sem,fN,seval,eT,iR,e0,e5,e6,e7,e17,e18,e19,e24,e25,e26,s7,s9,s500,hjl',hb,As,hl2,hxm,hg',dT,dF,nL]);(repeat refine Ai ?_);(try (refine hK _ ?_;clear hK K));try refine iC ?_)) | refine Cg _ (hbt) ?_)
   refine AH ⟨R.length - (j + 1),by omega,j + 1,acc2 ++ x,by omega,rfl,by omega,rfl,?_⟩
   simp only [go_sem,fN,seval,AS.drop,Ac,AC.clears,AC.clear,AC.highs,AC.high,zD,AV.purge,AV.purges,AC.purge,AK.purge,Nat.reduceBEq,eT,iR,e0,e5,e6,e7,e17,e18,e19,e24,e25,e26,s7,s9,s500]
   refine ⟨by congr 3,?_⟩
   rw [List.map_append]
def N1 (R:List Pr) (m:Nat):List Pr→Bool × Int
 | []=>(true,0)
 | p :: l=>if (KJ R m p.1 p.2).2=0 then (if (KJ R m p.1 p.2).1=true then N1 R m l else (false,0)) else (false,(KJ R m p.1 p.2).2)
noncomputable def TU (R:List Pr) (m:Int):Bool × Int:=if (EG R 88 89 1).2=0 then (if Ct m=0 then N1 R m.toNat (EG R 88 89 1).1 else (false,Ct m)) else (false,(EG R 88 89 1).2)
def joV (r:Bool × Int):AV:=.tup [Ad r.1,AN r.2]
theorem Y8 {R:List Pr} (hR:A7 R) (h0:BG R=0) (m:Int):AY Tryz.prog 13 [CI R,AN m] (joV (TU R m)):=by
 have hp:=WN hR h0
 obtain ⟨hok,hlen⟩:=Vh hR
 unfold TU
 generalize EG R 88 89 1=P at *
 obtain ⟨l,e⟩:=P
 unfold prV at hp
 simp only at hp hok hlen ⊢
 have fm:Ct m=if m < 0 ∨ 400 < m then 10 else 0:=rfl
 unfold joV
 by_cases he:e=0
 case neg =>
  rw [if_neg he]
  refine Cs.ac fun C hC=>?_
  unfold CQ
  repeat' (first | (with_reducible first | refine W ?_ | refine Z0 ?_ | ((first | refine Wo fun K hK=>?_ | refine Wp ?_ | refine Wq ?_ | refine Wr ?_);(try simp only [go_sem,fN,seval,eT,iR,he,dT,dF,nL]);(repeat refine Ai ?_);(try (refine hK _ ?_;clear hK K));try refine iC ?_)) | refine Cg _ (hp) ?_)
  simp only [go_sem,fN,seval,AR,AS.result,AB,AD,AL]
 subst he
 rw [if_pos rfl]
 by_cases m1:m < 0
 ·have f1:Ct m=10:=by rw [fm,if_pos (.inl m1)]
  rw [f1,if_neg (by decide)]
  refine Cs.ac fun C hC=>?_
  unfold CQ
  repeat' (first | (with_reducible first | refine W ?_ | refine Z0 ?_ | ((first | refine Wo fun K hK=>?_ | refine Wp ?_ | refine Wq ?_ | refine Wr ?_);(try simp only [go_sem,fN,seval,eT,iR,m1,dT,dF,nL]);(repeat refine Ai ?_);(try (refine hK _ ?_;clear hK K));try refine iC ?_)) | refine Cg _ (hp) ?_)
  simp only [go_sem,fN,seval,AR,AS.result,AB,AD,AL]
 by_cases m2:400 < m
 ·have f1:Ct m=10:=by rw [fm,if_pos (.inr m2)]
  rw [f1,if_neg (by decide)]
  refine Cs.ac fun C hC=>?_
  unfold CQ
  repeat' (first | (with_reducible first | refine W ?_ | refine Z0 ?_ | ((first | refine Wo fun K hK=>?_ | refine Wp ?_ | refine Wq ?_ | refine Wr ?_);(try simp only [go_sem,fN,seval,eT,iR,m1,m2,dT,dF,nL]);(repeat refine Ai ?_);(try (refine hK _ ?_;clear hK K));try refine iC ?_)) | refine Cg _ (hp) ?_)
  simp only [go_sem,fN,seval,AR,AS.result,AB,AD,AL]
 have f1:Ct m=0:=by rw [fm,if_neg (by omega)]
 rw [f1,if_pos rfl]
 obtain ⟨n,rfl⟩:∃ n:Nat,m=n:=⟨m.toNat,by omega⟩
 rw [Int.toNat_natCast]
 refine Cs.ac fun C hC=>?_
 unfold CQ
 repeat' (first | (with_reducible first | refine W ?_ | refine Z0 ?_ | ((first | refine Wo fun K hK=>?_ | refine Wp ?_ | refine Wq ?_ | refine Wr ?_);(try simp only [go_sem,fN,seval,eT,iR,m1,m2,dT,dF,nL]);(repeat refine Ai ?_);(try (refine hK _ ?_;clear hK K));try refine iC ?_)) | refine Cg _ (hp) ?_)
 refine IWP.loopD [9] (fun m s=>∃ k,k≤l.length∧m=l.length - k∧N1 R n l=N1 R n (l.drop k)∧s.env 0=CI R∧s.env 1=AN n∧s.env 30=CI l∧s.env 31=AN l.length∧s.env 32=AN k∧s.S 9=none) l.length ⟨0,Nat.zero_le _,rfl,rfl,rfl,rfl,rfl,rfl,rfl,rfl⟩ ?_
 rintro m ⟨env,S⟩ ⟨k,hk,rfl,hj,e0,e1,e30,e31,e32,s9⟩
 simp only at e0 e1 e30 e31 e32 s9
 rw [hj]
 by_cases hkl:k < l.length
 case neg =>
  have hkl':¬ (k:Int) < l.length:=by omega
  rw [List.drop_of_length_le (by omega)]
  repeat' with_reducible first | refine W ?_ | refine Z0 ?_ | ((first | refine Wo fun K hK=>?_ | refine Wp ?_ | refine Wq ?_ | refine Wr ?_);(try simp only [go_sem,fN,seval,eT,iR,e0,e1,e30,e31,e32,s9,hkl',dT,dF,nL]);(repeat refine Ai ?_);(try (refine hK _ ?_;clear hK K));try refine iC ?_)
  simp only [go_sem,fN,seval,AR,AS.result,AB,AD,AL]
  rfl
 have hkl':(k:Int) < l.length:=by omega
 obtain ⟨q,hq⟩:=Aj hkl
 have o:=hok q (AU hq)
 have hmet:=ZV hR q.1 q.2 o.c1 o.c2 (by have:=o.z1;omega) (by have:=o.z2;omega) n (by omega)
 rw [BQ hq,N1]
 generalize KJ R n q.1 q.2=y at *
 by_cases y2:y.2=0
 ·by_cases y1:y.1=true
  ·rw [if_pos y2,if_pos y1]
   repeat' (first | (with_reducible first | refine W ?_ | refine Z0 ?_ | ((first | refine Wo fun K hK=>?_ | refine Wp ?_ | refine Wq ?_ | refine Wr ?_);(try simp only [go_sem,fN,seval,eT,iR,e0,e1,e30,e31,e32,s9,hkl',hq,As,y1,y2,dT,dF,nL]);(repeat refine Ai ?_);(try (refine hK _ ?_;clear hK K));try refine iC ?_)) | refine Cg _ (hmet) ?_)
   refine AH ⟨l.length - (k + 1),by omega,k + 1,by omega,rfl,rfl,?_⟩
   simp only [go_sem,fN,seval,AS.drop,Ac,AC.clears,AC.clear,AC.highs,AC.high,zD,AV.purge,AV.purges,AC.purge,AK.purge,Nat.reduceBEq,eT,iR,e0,e1,e30,e31,e32,s9]
   congr 3
  ·rw [if_pos y2,if_neg y1]
   repeat' (first | (with_reducible first | refine W ?_ | refine Z0 ?_ | ((first | refine Wo fun K hK=>?_ | refine Wp ?_ | refine Wq ?_ | refine Wr ?_);(try simp only [go_sem,fN,seval,eT,iR,e0,e1,e30,e31,e32,s9,hkl',hq,As,y1,y2,dT,dF,nL]);(repeat refine Ai ?_);(try (refine hK _ ?_;clear hK K));try refine iC ?_)) | refine Cg _ (hmet) ?_)
   simp only [go_sem,fN,seval,AR,AS.result,AB,AD,AL]
 ·rw [if_neg y2]
  repeat' (first | (with_reducible first | refine W ?_ | refine Z0 ?_ | ((first | refine Wo fun K hK=>?_ | refine Wp ?_ | refine Wq ?_ | refine Wr ?_);(try simp only [go_sem,fN,seval,eT,iR,e0,e1,e30,e31,e32,s9,hkl',hq,As,y2,dT,dF,nL]);(repeat refine Ai ?_);(try (refine hK _ ?_;clear hK K));try refine iC ?_)) | refine Cg _ (hmet) ?_)
  simp only [go_sem,fN,seval,AR,AS.result,AB,AD,AL]

set_option maxRecDepth 100000
def Be:IR :=
 (.seq (.ops [.i 2 (.alloc 37 [.st (.str (ByteArray.mk (#[]))),.full []])]) (.seq (.ops [.i 3 (.mov (.n 0))]) (.seq (.block 0 (.loop (.seq (.seq (.ops [.m 6 3,.m 7 0,.i 8 (.nilCheck (.t 7)),.f 9 0 8,.l 10 9,.i 11 (.len true (.t 10)),.i 12 (.bin .lss (.t 6) (.t 11)),.m 13 12,.mk (some 14) (some (13,true)) (.mov (.t 0)) .no,.mk (some 15) (some (13,true)) (.nilCheck (.t 14)) .no,.mk (some 16) (some (13,true)) (.fieldAddr 0 (.t 15)) .no,.mk (some 17) (some (13,true)) (.load false 1 (.t 16)) .no,.mk (some 18) (some (13,true)) (.mov (.t 3)) .no,.mk (some 19) (some (13,true)) (.indexStr (.t 17) (.t 18)) .no,.mk (some 20) (some (13,true)) (.call 97 [.t 19]) .no,.i 21 (.pick (.t 13) (.t 20) (.c (.one (.st (.bool false)))))]) (.cond (.t 21) .skip (.exit 0))) (.block 1 (.ops [.m 22 3,.i 23 (.bin .add (.t 22) (.n 1)),.m 3 23]))))) (.seq (.seq (.ops [.m 24 3,.i 25 (.bin .eql (.t 24) (.n 0))]) (.cond (.t 25) (.seq (.seq (.ops [.m 26 0,.i 27 (.nilCheck (.t 26)),.f 28 0 27,.l 29 28,.i 30 (.bin .eql (.t 29) (.c (.one (.st (.str (ByteArray.mk (#[])))))))]) (.cond (.t 30) (.ops [.i 31 (.iface 109 (.n 13)),.mk none none (.pan (.t 31)) .no]) .skip)) (.ops [.i 32 (.iface 109 (.n 12)),.mk none none (.pan (.t 32)) .no])) .skip)) (.seq (.ops [.m 33 0,.i 34 (.nilCheck (.t 33)),.f 35 0 34,.l 36 35,.m 37 3,.i 38 (.sliceS (.t 36) none (some (.t 37))),.i 39 (.build [.st (.str (ByteArray.mk (#[]))),.full []] [(0,1,.t 38)]),.i 4 (.alloc 37 [.st (.str (ByteArray.mk (#[]))),.full []]),.s 2 4 39]) (.seq (.seq (.ops [.f 40 0 4,.l 41 40,.i 42 (.call 66 [.t 41]),.i 43 (.un .not (.t 42))]) (.cond (.t 43) (.ops [.i 44 (.iface 109 (.n 1)),.mk none none (.pan (.t 44)) .no]) .skip)) (.seq (.seq (.ops [.m 45 0,.i 46 (.nilCheck (.t 45)),.f 47 1 46,.l 48 47,.i 49 (.bin .sub (.t 48) (.n 1)),.i 50 (.nilCheck (.t 45)),.f 51 1 50,.s 1 51 49]) (.seq (.ops [.m 52 0,.i 53 (.nilCheck (.t 52)),.f 54 1 53,.l 55 54,.i 56 (.bin .lss (.t 55) (.n 0))]) (.cond (.t 56) (.ops [.i 57 (.iface 109 (.n 3)),.mk none none (.pan (.t 57)) .no]) .skip))) (.seq (.ops [.m 58 0,.m 59 0,.i 60 (.nilCheck (.t 59)),.f 61 0 60,.l 62 61,.m 63 3,.i 64 (.sliceS (.t 62) (some (.t 63)) none),.i 65 (.nilCheck (.t 58)),.f 66 0 65,.s 1 66 64]) (.seq (.seq (.ops [.m 67 0,.i 68 (.nilCheck (.t 67)),.f 69 0 68,.l 70 69,.i 71 (.call 115 [.t 70,.c (.one (.st (.str (ByteArray.mk (#[40])))))]),.i 72 (.un .not (.t 71))]) (.cond (.t 72) (.seq (.ops [.L 73 2 4,.s 2 2 73]) .ret) .skip)) (.seq (.seq (.ops [.f 74 0 4,.l 75 74,.i 76 (.call 67 [.t 75])]) (.cond (.t 76) (.ops [.i 77 (.iface 109 (.n 2)),.mk none none (.pan (.t 77)) .no]) .skip)) (.seq (.seq (.ops [.i 5 (.mov (.c (.one (.st (.bool true)))))]) (.block 2 (.loop (.seq (.seq (.ops [.m 78 5]) (.cond (.t 78) .skip (.exit 2))) (.block 3 (.seq (.ops [.m 79 0,.m 80 0,.i 81 (.nilCheck (.t 80)),.f 82 0 81,.l 83 82,.i 84 (.sliceS (.t 83) (some (.n 1)) none),.i 85 (.nilCheck (.t 79)),.f 86 0 85,.s 1 86 84]) (.seq (.ops [.mk (some 87) none (.fieldAddr 1 (.t 4)) (.onb 4),.mk (some 88) none (.load false 1 (.t 87)) (.onb 4),.m 89 0,.mk (some 90) none (.callS 85 [.t 89]) (.keeps [4,4]),.i 91 (.buildSlice false 37 2 [.t 90]),.i 92 (.append false 37 2 40 (.t 88) (.t 91)),.f 93 1 4,.s 1 93 92]) (.block 4 (.seq (.ops [.m 95 0,.i 96 (.nilCheck (.t 95)),.f 97 0 96,.l 98 97,.i 99 (.bin .eql (.t 98) (.c (.one (.st (.str (ByteArray.mk (#[]))))))),.m 94 99]) (.cond (.t 94) (.ops [.i 100 (.iface 109 (.n 13)),.mk none none (.pan (.t 100)) .no]) (.seq (.ops [.m 102 0,.i 103 (.nilCheck (.t 102)),.f 104 0 103,.l 105 104,.i 106 (.indexStr (.t 105) (.n 0)),.i 107 (.bin .eql (.t 106) (.c (.one (.st (.int .u8 41))))),.m 101 107]) (.cond (.t 101) (.ops [.i 5 (.mov (.c (.one (.st (.bool false)))))]) (.seq (.ops [.m 109 0,.i 110 (.nilCheck (.t 109)),.f 111 0 110,.l 112 111,.i 113 (.indexStr (.t 112) (.n 0)),.i 114 (.bin .neq (.t 113) (.c (.one (.st (.int .u8 44))))),.m 108 114]) (.cond (.t 108) (.ops [.i 115 (.iface 109 (.n 12)),.mk none none (.pan (.t 115)) .no]) .skip)))))))))))))) (.seq (.ops [.m 116 0,.m 117 0,.i 118 (.nilCheck (.t 117)),.f 119 0 118,.l 120 119,.i 121 (.sliceS (.t 120) (some (.n 1)) none),.i 122 (.nilCheck (.t 116)),.f 123 0 122,.s 1 123 121]) (.seq (.ops [.L 124 2 4,.s 2 2 124]) .ret)))))))))))))
theorem CV:OkF Tryz.prog 85 125 [90] Be [.cell 2 true 2]:=.of Tryz.func85 rfl rfl (by kernel_rfl) rfl
def D9:IR :=
 (.seq (.ops [.i 4 (.mov (.c (.one (.st (.bool false)))))]) (.seq (.ops [.m 5 0,.m 6 1,.i 7 (.call 129 [.t 5,.t 6]),.m 4 7]) .ret))
theorem Gh:OkF Tryz.prog 115 8 [] D9 [.t 4]:=.of Tryz.func115 rfl rfl (by kernel_rfl) rfl
def BT:IR :=
 (.seq (.ops [.i 4 (.mov (.c (.one (.st (.bool false)))))]) (.seq (.ops [.m 5 0,.i 6 (.len true (.t 5)),.m 7 1,.i 8 (.len true (.t 7)),.i 9 (.bin .geq (.t 6) (.t 8)),.m 10 9,.mk (some 11) (some (10,true)) (.mov (.t 0)) .no,.mk (some 12) (some (10,true)) (.mov (.t 1)) .no,.mk (some 13) (some (10,true)) (.len true (.t 12)) .no,.mk (some 14) (some (10,true)) (.sliceS (.t 11) none (some (.t 13))) .no,.mk (some 15) (some (10,true)) (.mov (.t 1)) .no,.mk (some 16) (some (10,true)) (.bin .eql (.t 14) (.t 15)) .no,.i 17 (.pick (.t 10) (.t 16) (.c (.one (.st (.bool false))))),.m 4 17]) .ret))
theorem B8:OkF Tryz.prog 129 18 [] BT [.t 4]:=.of Tryz.func129 rfl rfl (by kernel_rfl) rfl
def NZ:IR :=
 (.seq (.ops [.i 6 (.alloc 37 [.st (.str (ByteArray.mk (#[]))),.full []]),.i 7 (.mov (.n 0)),.i 8 (.mov (.n 0)),.i 9 (.mov (.n 0))]) (.seq (.ops [.m 16 1,.m 10 16]) (.seq (.block 0 (.loop (.seq (.seq (.ops [.m 17 1,.m 18 0,.i 19 (.len true (.t 18)),.i 20 (.bin .lss (.t 17) (.t 19)),.m 21 20,.mk (some 22) (some (21,true)) (.mov (.t 0)) .no,.mk (some 23) (some (21,true)) (.mov (.t 1)) .no,.mk (some 24) (some (21,true)) (.indexStr (.t 22) (.t 23)) .no,.mk (some 25) (some (21,true)) (.call 87 [.t 24]) .no,.i 26 (.pick (.t 21) (.t 25) (.c (.one (.st (.bool false)))))]) (.cond (.t 26) .skip (.exit 0))) (.block 1 (.ops [.m 27 1,.i 28 (.bin .add (.t 27) (.n 1)),.m 1 28]))))) (.seq (.seq (.ops [.m 29 1,.m 30 10,.i 31 (.bin .eql (.t 29) (.t 30))]) (.cond (.t 31) (.seq (.seq (.ops [.m 32 1,.m 33 0,.i 34 (.len true (.t 33)),.i 35 (.bin .eql (.t 32) (.t 34))]) (.cond (.t 35) (.seq (.ops [.i 36 (.build [.st (.str (ByteArray.mk (#[]))),.full []] []),.m 37 1,.m 38 2,.s 2 6 36,.m 7 37,.m 8 38,.i 9 (.mov (.n 13))]) .ret) .skip)) (.seq (.ops [.i 39 (.build [.st (.str (ByteArray.mk (#[]))),.full []] []),.m 40 1,.m 41 2,.s 2 6 39,.m 7 40,.m 8 41,.i 9 (.mov (.n 12))]) .ret)) .skip)) (.seq (.ops [.m 42 0,.m 43 10,.m 44 1,.i 45 (.sliceS (.t 42) (some (.t 43)) (some (.t 44))),.i 46 (.build [.st (.str (ByteArray.mk (#[]))),.full []] [(0,1,.t 45)]),.i 11 (.alloc 37 [.st (.str (ByteArray.mk (#[]))),.full []]),.s 2 11 46]) (.seq (.seq (.ops [.f 47 0 11,.l 48 47,.i 49 (.call 49 [.t 48]),.i 50 (.un .not (.t 49))]) (.cond (.t 50) (.seq (.ops [.L 51 2 11,.m 52 1,.m 53 2,.s 2 6 51,.m 7 52,.m 8 53,.i 9 (.mov (.n 1))]) .ret) .skip)) (.seq (.ops [.m 54 2,.i 55 (.bin .add (.t 54) (.n 1)),.m 2 55]) (.seq (.seq (.ops [.m 56 2,.i 57 (.bin .gtr (.t 56) (.n 200))]) (.cond (.t 57) (.seq (.ops [.L 58 2 11,.m 59 1,.m 60 2,.s 2 6 58,.m 7 59,.m 8 60,.i 9 (.mov (.n 3))]) .ret) .skip)) (.seq (.seq (.ops [.m 61 1,.m 62 0,.i 63 (.len true (.t 62)),.i 64 (.bin .eql (.t 61) (.t 63)),.m 65 64,.mk (some 66) (some (65,false)) (.mov (.t 0)) .no,.mk (some 67) (some (65,false)) (.mov (.t 1)) .no,.mk (some 68) (some (65,false)) (.indexStr (.t 66) (.t 67)) .no,.mk (some 69) (some (65,false)) (.bin .neq (.t 68) (.c (.one (.st (.int .u8 40))))) .no,.i 70 (.pick (.t 65) (.c (.one (.st (.bool true)))) (.t 69))]) (.cond (.t 70) (.seq (.ops [.L 71 2 11,.m 72 1,.m 73 2,.s 2 6 71,.m 7 72,.m 8 73,.i 9 (.mov (.n 0))]) .ret) .skip)) (.seq (.seq (.ops [.f 74 0 11,.l 75 74,.i 76 (.call 50 [.t 75])]) (.cond (.t 76) (.seq (.ops [.L 77 2 11,.m 78 1,.m 79 2,.s 2 6 77,.m 7 78,.m 8 79,.i 9 (.mov (.n 2))]) .ret) .skip)) (.block 2 (.loop (.block 3 (.seq (.ops [.m 81 0,.m 82 1,.i 83 (.bin .add (.t 82) (.n 1)),.m 84 2,.i 85 (.call 65 [.t 81,.t 83,.t 84]),.m 80 85,.i 86 (.extract 0 (.t 80)),.i 87 (.extract 1 (.t 80)),.i 88 (.extract 2 (.t 80)),.i 89 (.extract 3 (.t 80)),.i 12 (.alloc 37 [.st (.str (ByteArray.mk (#[]))),.full []]),.s 2 12 86,.m 13 87,.m 14 88,.m 15 89]) (.seq (.seq (.ops [.m 90 15,.i 91 (.bin .neq (.t 90) (.n 0))]) (.cond (.t 91) (.seq (.ops [.L 92 2 11,.m 93 13,.m 94 14,.m 95 15,.s 2 6 92,.m 7 93,.m 8 94,.m 9 95]) .ret) .skip)) (.seq (.ops [.f 96 1 11,.l 97 96,.L 98 2 12,.i 99 (.buildSlice false 37 2 [.t 98]),.i 100 (.append false 37 2 40 (.t 97) (.t 99)),.f 101 1 11,.s 1 101 100]) (.seq (.ops [.m 102 13,.m 1 102]) (.seq (.ops [.m 103 14,.m 2 103]) (.seq (.seq (.ops [.m 104 1,.m 105 0,.i 106 (.len true (.t 105)),.i 107 (.bin .eql (.t 104) (.t 106))]) (.cond (.t 107) (.seq (.ops [.L 108 2 11,.m 109 1,.m 110 2,.s 2 6 108,.m 7 109,.m 8 110,.i 9 (.mov (.n 13))]) .ret) .skip)) (.seq (.seq (.ops [.m 111 0,.m 112 1,.i 113 (.indexStr (.t 111) (.t 112)),.i 114 (.bin .eql (.t 113) (.c (.one (.st (.int .u8 41)))))]) (.cond (.t 114) (.seq (.ops [.L 115 2 11,.m 116 1,.i 117 (.bin .add (.t 116) (.n 1)),.m 118 2,.s 2 6 115,.m 7 117,.m 8 118,.i 9 (.mov (.n 0))]) .ret) .skip)) (.seq (.ops [.m 119 0,.m 120 1,.i 121 (.indexStr (.t 119) (.t 120)),.i 122 (.bin .neq (.t 121) (.c (.one (.st (.int .u8 44)))))]) (.cond (.t 122) (.seq (.ops [.L 123 2 11,.m 124 1,.m 125 2,.s 2 6 123,.m 7 124,.m 8 125,.i 9 (.mov (.n 12))]) .ret) .skip))))))))))))))))))))))
theorem U6:OkF Tryz.prog 65 126 [] NZ [.cell 6 true 2,.t 7,.t 8,.t 9]:=.of Tryz.func65 rfl rfl (by kernel_rfl) rfl
def NR:IR :=
 (.seq (.ops [.i 2 (.alloc 37 [.st (.str (ByteArray.mk (#[]))),.full []]),.i 3 (.mov (.n 0))]) (.seq (.seq (.ops [.m 8 0,.i 9 (.len true (.t 8)),.i 10 (.bin .gtr (.t 9) (.n 4000))]) (.cond (.t 10) (.seq (.ops [.i 11 (.build [.st (.str (ByteArray.mk (#[]))),.full []] []),.s 2 2 11,.i 3 (.mov (.n 3))]) .ret) .skip)) (.seq (.ops [.m 13 0,.i 14 (.call 65 [.t 13,.n 0,.n 0]),.m 12 14,.i 15 (.extract 0 (.t 12)),.i 16 (.extract 1 (.t 12)),.i 17 (.extract 2 (.t 12)),.i 18 (.extract 3 (.t 12)),.i 4 (.alloc 37 [.st (.str (ByteArray.mk (#[]))),.full []]),.s 2 4 15,.m 5 16,.m 6 17,.m 7 18]) (.seq (.seq (.ops [.m 19 7,.i 20 (.bin .eql (.t 19) (.n 0)),.m 21 20,.mk (some 22) (some (21,true)) (.mov (.t 5)) .no,.mk (some 23) (some (21,true)) (.mov (.t 0)) .no,.mk (some 24) (some (21,true)) (.len true (.t 23)) .no,.mk (some 25) (some (21,true)) (.bin .lss (.t 22) (.t 24)) .no,.i 26 (.pick (.t 21) (.t 25) (.c (.one (.st (.bool false)))))]) (.cond (.t 26) (.ops [.i 7 (.mov (.n 12))]) .skip)) (.seq (.seq (.ops [.m 27 7,.i 28 (.bin .neq (.t 27) (.n 0))]) (.cond (.t 28) (.seq (.ops [.i 29 (.build [.st (.str (ByteArray.mk (#[]))),.full []] []),.m 30 7,.s 2 2 29,.m 3 30]) .ret) .skip)) (.seq (.ops [.L 31 2 4,.s 2 2 31,.i 3 (.mov (.n 0))]) .ret))))))
theorem VI:OkF Tryz.prog 30 32 [] NR [.cell 2 true 2,.t 3]:=.of Tryz.func30 rfl rfl (by kernel_rfl) rfl
def Kr:IR :=
 (.seq (.ops [.i 5 .never,.i 6 .never,.m 4 6,.i 7 (.extract 0 (.t 4)),.i 8 (.extract 1 (.t 4)),.m 2 7,.m 3 8]) (.seq (.ops [.m 9 3]) (.cond (.t 9) (.ops [.i 10 (.build [.st (.str (ByteArray.mk (#[]))),.full []] []),.m 11 2,.s 2 0 10,.s 1 1 11]) .skip)))
theorem GP:A9 Tryz.prog 12 [] (Tryz.f84.body.getD .skip)=some Kr:=by kernel_rfl
def NB:IR :=
 (.seq (.ops [.i 2 (.alloc 37 [.st (.str (ByteArray.mk (#[]))),.full []]),.i 3 (.alloc 23 [.st (.int .i64 0)])]) (.seq (.seq (.ops [.m 5 0,.i 6 (.len true (.t 5)),.i 7 (.bin .gtr (.t 6) (.n 4000))]) (.cond (.t 7) (.seq (.ops [.i 8 (.build [.st (.str (ByteArray.mk (#[]))),.full []] []),.s 2 2 8,.mk none none (.store 1 (.t 3) (.n 3)) .no]) .ret) .skip)) (.seq (.ops [.i 9 (.makeFunc 84 [.t 2,.t 3]),.mk none none .never .no]) (.seq (.ops [.m 10 0,.i 11 (.build [.st (.str (ByteArray.mk (#[]))),.st (.int .i64 0)] [(0,1,.t 10),(1,1,.n 200)]),.i 12 (.box 113 (.t 11)),.m 4 12]) (.seq (.ops [.m 13 4,.i 14 (.callS 85 [.t 13]),.s 2 2 14]) (.seq (.seq (.ops [.m 15 4,.i 16 (.nilCheck (.t 15)),.f 17 0 16,.l 18 17,.i 19 (.bin .neq (.t 18) (.c (.one (.st (.str (ByteArray.mk (#[])))))))]) (.cond (.t 19) (.ops [.i 20 (.iface 109 (.n 12)),.mk none none (.pan (.t 20)) .no]) .skip)) (.seq (.ops [.L 21 2 2,.s 2 2 21,.mk none none (.store 1 (.t 3) (.n 0)) .no]) .ret)))))))
theorem M2:A9 Tryz.prog 22 [14] (Tryz.f47.body.getD .skip)=some NB:=by kernel_rfl

def BU (s:ByteArray) (i:Nat):ByteArray:=s.extract i s.size
theorem Dr (s:ByteArray) (i:Nat):(BU s i).size=s.size - i:=by
 unfold BU
 rw [ByteArray.size_extract]
 omega
theorem US (s:ByteArray):BU s 0=s:=by
 unfold BU
 rw [ByteArray.extract_zero_size]
theorem F2 {s:ByteArray} {i k:Nat} (h:i + k < s.size):Cv (BU s i) k=Ak s (i + k):=by
 unfold Cv Ak BU
 rw [ByteArray.data_extract,Array.toList_extract]
 simp only [List.getD_eq_getElem?_getD]
 congr 3
 rw [List.extract_eq_take_drop,List.getElem?_take_of_lt (by omega),List.getElem?_drop]
theorem UH {s:ByteArray} {i n:Nat} (h:i + n≤s.size):(BU s i).extract 0 n=s.extract i (i + n):=by
 unfold BU
 rw [ByteArray.extract_extract]
 congr 1
 omega
theorem tail_drop {s:ByteArray} {i n:Nat} (h:i + n≤s.size):(BU s i).extract n (BU s i).size=BU s (i + n):=by
 rw [Dr]
 unfold BU
 rw [ByteArray.extract_extract]
 congr 1
 omega
def Sl (s:ByteArray):Nat→Nat→Nat
 | 0,i=>i
 | k + 1,i=>if BI (Ak s i)=true then Sl s k (i + 1) else i
def Ab (s:ByteArray) (i:Nat):Nat:=Sl s (s.size - i) i
theorem Q6 {s:ByteArray} {i:Nat} (h:i < s.size) (hl:BI (Ak s i)=true):Ab s i=Ab s (i + 1):=by
 unfold Ab
 obtain ⟨k,hk⟩:∃ k,s.size - i=k + 1:=⟨s.size - i - 1,by omega⟩
 rw [hk,show s.size - (i + 1)=k by omega,Sl,if_pos hl]
theorem MS {s:ByteArray} {i:Nat} (h:i < s.size) (hl:¬ BI (Ak s i)=true):Ab s i=i:=by
 unfold Ab
 obtain ⟨k,hk⟩:∃ k,s.size - i=k + 1:=⟨s.size - i - 1,by omega⟩
 rw [hk,Sl,if_neg hl]
theorem OM {s:ByteArray} {i:Nat} (h:s.size≤i):Ab s i=i:=by
 unfold Ab
 rw [show s.size - i=0 by omega]
 rfl
theorem T4 (s:ByteArray):∀ k i:Nat,i≤Sl s k i∧Sl s k i≤i + k
 | 0,i=>⟨Nat.le_refl _,Nat.le_refl _⟩
 | k + 1,i=>by
  rw [Sl]
  split
  ·have:=T4 s k (i + 1)
   omega
  ·omega
theorem MC {s:ByteArray} {i:Nat} (h:i≤s.size):i≤Ab s i∧Ab s i≤s.size:=by
 have:=T4 s (s.size - i) i
 unfold Ab
 omega
structure Rd where
 t:Tm
 i:Nat
 k:Nat
 e:Int
mutual
def rd (s:ByteArray):Nat→Nat→Nat→Rd
 | 0,i,k=>⟨.mk ⟨#[]⟩ [],i,k,99⟩
 | f + 1,i,k =>
  if Ab s i=i then ⟨.mk ⟨#[]⟩ [],i,k,if i=s.size then 13 else 12⟩
  else if A_ (s.extract i (Ab s i))=true then
   if 200 < k + 1 then ⟨.mk (s.extract i (Ab s i)) [],Ab s i,k + 1,3⟩
   else if Ab s i=s.size ∨ Ak s (Ab s i) ≠ 40 then ⟨.mk (s.extract i (Ab s i)) [],Ab s i,k + 1,0⟩
   else if AP (s.extract i (Ab s i))=true then ⟨.mk (s.extract i (Ab s i)) [],Ab s i,k + 1,2⟩
   else rdA s f (s.extract i (Ab s i)) [] (Ab s i) (k + 1)
  else ⟨.mk (s.extract i (Ab s i)) [],Ab s i,k,1⟩
def rdA (s:ByteArray):Nat→ByteArray→List Tm→Nat→Nat→Rd
 | 0,n,acc,i,k=>⟨.mk ⟨#[]⟩ [],i,k,99⟩
 | f + 1,n,acc,i,k =>
  if (rd s f (i + 1) k).e=0 then
   if (rd s f (i + 1) k).i=s.size then ⟨.mk n (acc ++ [(rd s f (i + 1) k).t]),(rd s f (i + 1) k).i,(rd s f (i + 1) k).k,13⟩
   else if Ak s (rd s f (i + 1) k).i=41 then ⟨.mk n (acc ++ [(rd s f (i + 1) k).t]),(rd s f (i + 1) k).i + 1,(rd s f (i + 1) k).k,0⟩
   else if Ak s (rd s f (i + 1) k).i=44 then rdA s f n (acc ++ [(rd s f (i + 1) k).t]) (rd s f (i + 1) k).i (rd s f (i + 1) k).k
   else ⟨.mk n (acc ++ [(rd s f (i + 1) k).t]),(rd s f (i + 1) k).i,(rd s f (i + 1) k).k,12⟩
  else ⟨.mk n acc,(rd s f (i + 1) k).i,(rd s f (i + 1) k).k,(rd s f (i + 1) k).e⟩
end
structure AAH (s:ByteArray) (i k:Nat) (r:Rd):Prop where
 le:i≤r.i
 in_:r.i≤s.size
 knots:k≤r.k
 most:r.k≤201
 ok:r.e=0→i < r.i∧r.k≤200∧k < r.k∧r.t.size≤r.k - k
 err:0≤r.e∧r.e≤13
structure Z6 (s:ByteArray) (acc:List Tm) (i k:Nat) (r:Rd):Prop where
 le:i≤r.i
 in_:r.i≤s.size
 knots:k≤r.k
 most:r.k≤201
 ok:r.e=0→i < r.i∧r.k≤200∧k < r.k∧r.t.size≤(r.k - k) + (1 + Tm.sizes acc)
 err:0≤r.e∧r.e≤13
theorem LC (xs:List Tm) (a:Tm):Tm.sizes (xs ++ [a])=Tm.sizes xs + a.size:=by
 rw [Tm.sizes_append]
 simp [Tm.sizes]
mutual
theorem TA (s:ByteArray):∀ f i k:Nat,i≤s.size→k≤200→2 * (s.size - i) < f→AAH s i k (rd s f i k)
 | 0,i,k,_,_,h=>absurd h (Nat.not_lt_zero _)
 | f + 1,i,k,hi,hk,hf=>by
  obtain ⟨l1,l2⟩:=MC hi
  rw [rd]
  by_cases h0:Ab s i=i
  ·rw [if_pos h0]
   by_cases h1:i=s.size
   ·rw [if_pos h1]
    exact ⟨Nat.le_refl _,hi,Nat.le_refl _,by show k≤201;omega,fun h=>absurd h (by show ¬ (13:Int)=0;decide),by show (0:Int)≤13∧(13:Int)≤13;decide⟩
   ·rw [if_neg h1]
    exact ⟨Nat.le_refl _,hi,Nat.le_refl _,by show k≤201;omega,fun h=>absurd h (by show ¬ (12:Int)=0;decide),by show (0:Int)≤12∧(12:Int)≤13;decide⟩
  ·rw [if_neg h0]
   by_cases h1:A_ (s.extract i (Ab s i))=true
   ·rw [if_pos h1]
    by_cases h2:200 < k + 1
    ·rw [if_pos h2]
     exact ⟨l1,l2,Nat.le_succ _,by show k + 1≤201;omega,fun h=>absurd h (by show ¬ (3:Int)=0;decide),by show (0:Int)≤3∧(3:Int)≤13;decide⟩
    ·rw [if_neg h2]
     by_cases h3:Ab s i=s.size ∨ Ak s (Ab s i) ≠ 40
     ·rw [if_pos h3]
      exact ⟨l1,l2,Nat.le_succ _,by show k + 1≤201;omega,fun _=>⟨by show i < Ab s i;omega,by show k + 1≤200;omega,Nat.lt_succ_self _,by show (Tm.mk _ []).size≤k + 1 - k;simp [Tm.size,Tm.sizes]⟩,by show (0:Int)≤0∧(0:Int)≤13;decide⟩
     ·rw [if_neg h3]
      by_cases h4:AP (s.extract i (Ab s i))=true
      ·rw [if_pos h4]
       exact ⟨l1,l2,Nat.le_succ _,by show k + 1≤201;omega,fun h=>absurd h (by show ¬ (2:Int)=0;decide),by show (0:Int)≤2∧(2:Int)≤13;decide⟩
      ·rw [if_neg h4]
       have hlt:Ab s i < s.size:=by
        have:Ab s i ≠ s.size:=fun h=>h3 (.inl h)
        omega
       have:=WJ s f (s.extract i (Ab s i)) [] (Ab s i) (k + 1) hlt (by omega) (by omega)
       refine ⟨Nat.le_trans l1 this.le,this.in_,by have:=this.knots;omega,this.most,fun h=>?_,this.err⟩
       obtain ⟨q1,q2,q3,q4⟩:=this.ok h
       simp only [Tm.sizes] at q4
       exact ⟨by omega,q2,by omega,by omega⟩
   ·rw [if_neg h1]
    exact ⟨l1,l2,Nat.le_refl _,by show k≤201;omega,fun h=>absurd h (by show ¬ (1:Int)=0;decide),by show (0:Int)≤1∧(1:Int)≤13;decide⟩
theorem WJ (s:ByteArray):∀ (f:Nat) (n:ByteArray) (acc:List Tm) (i k:Nat),i < s.size→k≤200→2 * (s.size - i)≤f→Z6 s acc i k (rdA s f n acc i k)
 | 0,n,acc,i,k,hi,_,h=>by omega
 | f + 1,n,acc,i,k,hi,hk,hf=>by
  have h:=TA s f (i + 1) k (by omega) hk (by omega)
  have hle:=h.le
  have hin:=h.in_
  have hkn:=h.knots
  have hmo:=h.most
  rw [rdA]
  generalize rd s f (i + 1) k=r at *
  by_cases h0:r.e=0
  ·obtain ⟨o1,o2,o3,o4⟩:=h.ok h0
   rw [if_pos h0]
   by_cases h1:r.i=s.size
   ·rw [if_pos h1]
    exact ⟨by show i≤r.i;omega,hin,hkn,hmo,fun h=>absurd h (by show ¬ (13:Int)=0;decide),by show (0:Int)≤13∧(13:Int)≤13;decide⟩
   ·rw [if_neg h1]
    by_cases h2:Ak s r.i=41
    ·rw [if_pos h2]
     refine ⟨by show i≤r.i + 1;omega,by show r.i + 1≤s.size;omega,hkn,hmo,fun _=>⟨by show i < r.i + 1;omega,o2,o3,?_⟩,by show (0:Int)≤0∧(0:Int)≤13;decide⟩
     show 1 + Tm.sizes (acc ++ [r.t])≤_
     rw [LC]
     show _≤r.k - k + _
     omega
    ·rw [if_neg h2]
     by_cases h3:Ak s r.i=44
     ·rw [if_pos h3]
      have:=WJ s f n (acc ++ [r.t]) r.i r.k (by omega) o2 (by omega)
      refine ⟨by have:=this.le;omega,this.in_,by have:=this.knots;omega,this.most,fun h=>?_,this.err⟩
      obtain ⟨q1,q2,q3,q4⟩:=this.ok h
      rw [LC] at q4
      exact ⟨by omega,q2,by omega,by omega⟩
     ·rw [if_neg h3]
      exact ⟨by show i≤r.i;omega,hin,hkn,hmo,fun h=>absurd h (by show ¬ (12:Int)=0;decide),by show (0:Int)≤12∧(12:Int)≤13;decide⟩
  ·rw [if_neg h0]
   exact ⟨by show i≤r.i;omega,hin,hkn,hmo,fun h=>absurd h h0,h.err⟩
end
def rdS (s:ByteArray):Rd:=rd s (2 * s.size + 1) 0 0
def EK (s:ByteArray):Tm × Int:=if 4000 < s.size then (.mk ⟨#[]⟩ [],3) else if (rdS s).e=0 then (if (rdS s).i < s.size then (.mk ⟨#[]⟩ [],12) else ((rdS s).t,0)) else (.mk ⟨#[]⟩ [],(rdS s).e)

theorem IWP.cut {P:Program} {C:Ctx} {mu:List Nat} {Q:AX→AS→Prop} {s:AS} {x:IR} (id:Nat) (M:AS→Prop) (h1:IWP P C mu x (fun e s=>e=.exit id∧M s) s) (h2:∀ s,M s→Q (.exit id) s):IWP P C mu x Q s :=
 h1.mono fun e s h=>by
  obtain ⟨rfl,hm⟩:=h
  exact h2 s hm
abbrev ID:AK:=.box 37 [.st (.str ⟨#[]⟩),.full []]
def rdV (r:Rd):AV:=.tup [aTm r.t,AN r.i,AN r.k,AN r.e]
theorem TK {s:ByteArray} {f i k:Nat} (h0:Ab s i=i):rd s (f + 1) i k=⟨.mk ⟨#[]⟩ [],i,k,if i=s.size then 13 else 12⟩:=by rw [rd,if_pos h0]
theorem Ta {s:ByteArray} {f i k:Nat} (h0:¬ Ab s i=i) (h1:¬ A_ (s.extract i (Ab s i))=true):rd s (f + 1) i k=⟨.mk (s.extract i (Ab s i)) [],Ab s i,k,1⟩:=by rw [rd,if_neg h0,if_neg h1]
theorem QY {s:ByteArray} {f i k:Nat} (h0:¬ Ab s i=i) (h1:A_ (s.extract i (Ab s i))=true) (h2:200 < k + 1):rd s (f + 1) i k=⟨.mk (s.extract i (Ab s i)) [],Ab s i,k + 1,3⟩:=by rw [rd,if_neg h0,if_pos h1,if_pos h2]
theorem Oy {s:ByteArray} {f i k:Nat} (h0:¬ Ab s i=i) (h1:A_ (s.extract i (Ab s i))=true) (h2:¬ 200 < k + 1) (h3:Ab s i=s.size ∨ Ak s (Ab s i) ≠ 40):rd s (f + 1) i k=⟨.mk (s.extract i (Ab s i)) [],Ab s i,k + 1,0⟩:=by rw [rd,if_neg h0,if_pos h1,if_neg h2,if_pos h3]
theorem TV {s:ByteArray} {f i k:Nat} (h0:¬ Ab s i=i) (h1:A_ (s.extract i (Ab s i))=true) (h2:¬ 200 < k + 1) (h3:¬ (Ab s i=s.size ∨ Ak s (Ab s i) ≠ 40)) (h4:AP (s.extract i (Ab s i))=true):rd s (f + 1) i k=⟨.mk (s.extract i (Ab s i)) [],Ab s i,k + 1,2⟩:=by rw [rd,if_neg h0,if_pos h1,if_neg h2,if_neg h3,if_pos h4]
theorem TS {s:ByteArray} {f i k:Nat} (h0:¬ Ab s i=i) (h1:A_ (s.extract i (Ab s i))=true) (h2:¬ 200 < k + 1) (h3:¬ (Ab s i=s.size ∨ Ak s (Ab s i) ≠ 40)) (h4:¬ AP (s.extract i (Ab s i))=true):rd s (f + 1) i k=rdA s f (s.extract i (Ab s i)) [] (Ab s i) (k + 1):=by rw [rd,if_neg h0,if_pos h1,if_neg h2,if_neg h3,if_neg h4]
theorem TM {s:ByteArray} {f:Nat} {n:ByteArray} {acc:List Tm} {i k:Nat} (h:¬ (rd s f (i + 1) k).e=0):rdA s (f + 1) n acc i k=⟨.mk n acc,(rd s f (i + 1) k).i,(rd s f (i + 1) k).k,(rd s f (i + 1) k).e⟩:=by rw [rdA,if_neg h]
theorem Nf {s:ByteArray} {f:Nat} {n:ByteArray} {acc:List Tm} {i k:Nat} (h:(rd s f (i + 1) k).e=0) (h1:(rd s f (i + 1) k).i=s.size):rdA s (f + 1) n acc i k=⟨.mk n (acc ++ [(rd s f (i + 1) k).t]),(rd s f (i + 1) k).i,(rd s f (i + 1) k).k,13⟩:=by rw [rdA,if_pos h,if_pos h1]
theorem Nd {s:ByteArray} {f:Nat} {n:ByteArray} {acc:List Tm} {i k:Nat} (h:(rd s f (i + 1) k).e=0) (h1:¬ (rd s f (i + 1) k).i=s.size) (h2:Ak s (rd s f (i + 1) k).i=41):rdA s (f + 1) n acc i k=⟨.mk n (acc ++ [(rd s f (i + 1) k).t]),(rd s f (i + 1) k).i + 1,(rd s f (i + 1) k).k,0⟩:=by rw [rdA,if_pos h,if_neg h1,if_pos h2]
theorem W_ {s:ByteArray} {f:Nat} {n:ByteArray} {acc:List Tm} {i k:Nat} (h:(rd s f (i + 1) k).e=0) (h1:¬ (rd s f (i + 1) k).i=s.size) (h2:¬ Ak s (rd s f (i + 1) k).i=41) (h3:Ak s (rd s f (i + 1) k).i=44):rdA s (f + 1) n acc i k=rdA s f n (acc ++ [(rd s f (i + 1) k).t]) (rd s f (i + 1) k).i (rd s f (i + 1) k).k:=by rw [rdA,if_pos h,if_neg h1,if_neg h2,if_pos h3]
theorem QN {s:ByteArray} {f:Nat} {n:ByteArray} {acc:List Tm} {i k:Nat} (h:(rd s f (i + 1) k).e=0) (h1:¬ (rd s f (i + 1) k).i=s.size) (h2:¬ Ak s (rd s f (i + 1) k).i=41) (h3:¬ Ak s (rd s f (i + 1) k).i=44):rdA s (f + 1) n acc i k=⟨.mk n (acc ++ [(rd s f (i + 1) k).t]),(rd s f (i + 1) k).i,(rd s f (i + 1) k).k,12⟩:=by rw [rdA,if_pos h,if_neg h1,if_neg h2,if_neg h3]
theorem Ea (acc:List Tm) (a:Tm):(acc ++ [a]).map Ao=acc.map Ao ++ [[.str a.name,.list (a.args.map Ao)]]:=by
 rw [List.map_append,List.map_cons,List.map_nil,An a]
theorem ZX (s:ByteArray) (hs:s.size≤100000):∀ f i k:Nat,i≤s.size→k≤200→2 * (s.size - i) < f→AY Tryz.prog 65 [Bo s,AN i,AN k] (rdV (rd s f i k)):=by
 intro f
 induction f using Nat.strongRecOn with
 | _ f ih =>
 intro i k hi hk hf
 obtain ⟨f,rfl⟩:∃ g,f=g + 1:=⟨f - 1,by omega⟩
 obtain ⟨l1,l2⟩:=MC hi
 refine U6.ac fun C hC=>?_
 unfold NZ
 repeat' with_reducible first | refine W ?_ | refine Z0 ?_ | ((first | refine Wo fun K hK=>?_ | refine Wp ?_ | refine Wq ?_ | refine Wr ?_);(try simp only [go_sem,fN,seval,eT,iR,dT,dF,nL]);(repeat refine Ai ?_);(try (refine hK _ ?_;clear hK K));try refine iC ?_)
 refine IWP.cut 0 (fun x=>x.env 0=Bo s∧x.env 1=AN (Ab s i)∧x.env 2=AN k∧x.env 10=AN i∧x.env 6=.one (.ptr 6 1 0 0)∧x.S 6=some ID∧x.S 11=none∧x.S 12=none∧x.S 900=none) ?_ ?_
 ·refine IWP.loop (fun m x=>∃ j,i≤j∧j≤s.size∧m=s.size - j∧Ab s i=Ab s j∧x.env 0=Bo s∧x.env 1=AN j∧x.env 2=AN k∧x.env 10=AN i∧x.env 6=.one (.ptr 6 1 0 0)∧x.S 6=some ID∧x.S 11=none∧x.S 12=none∧x.S 900=none) (s.size - i) ⟨i,Nat.le_refl _,hi,rfl,rfl,rfl,rfl,rfl,rfl,rfl,rfl,rfl,rfl,rfl⟩ ?_
  rintro m ⟨env,S⟩ ⟨j,hij,hj,rfl,hl,e0,e1,e2,e10,e6,s6,s11,s12,s900⟩
  simp only at e0 e1 e2 e10 e6 s6 s11 s12 s900
  by_cases hlt:(j:Int) < s.size
  ·have hb:=EX s j
   by_cases hlet:BI (Cv s j)=true
   ·repeat' (first | (with_reducible first | refine W ?_ | refine Z0 ?_ | ((first | refine Wo fun K hK=>?_ | refine Wp ?_ | refine Wq ?_ | refine Wr ?_);(try simp only [go_sem,fN,seval,eT,iR,e0,e1,e2,e10,e6,s6,hlt,hlet,dT,dF,nL]);(repeat refine Ai ?_);(try (refine hK _ ?_;clear hK K));try refine iC ?_)) | refine Cg _ (H5 (Cv s j) hb.1) ?_)
    refine AH ⟨s.size - (j + 1),by omega,j + 1,by omega,by omega,rfl,?_,?_⟩
    ·rw [hl]
     exact Q6 (by omega) hlet
    ·simp only [go_sem,fN,seval,eT,iR,e0,e1,e2,e10,e6,s6,s11,s12,s900]
     congr 3
   ·have hst:Ab s j=j:=MS (by omega) hlet
    repeat' (first | (with_reducible first | refine W ?_ | refine Z0 ?_ | ((first | refine Wo fun K hK=>?_ | refine Wp ?_ | refine Wq ?_ | refine Wr ?_);(try simp only [go_sem,fN,seval,eT,iR,e0,e1,e2,e10,e6,s6,hlt,hlet,dT,dF,nL]);(repeat refine Ai ?_);(try (refine hK _ ?_;clear hK K));try refine iC ?_)) | refine Cg _ (H5 (Cv s j) hb.1) ?_)
    refine ⟨rfl,?_⟩
    simp only [go_sem,fN,seval,eT,iR,e0,e1,e2,e10,e6,s6,s11,s12,s900]
    rw [hl,hst]
  ·have hst:Ab s j=j:=OM (by omega)
   repeat' with_reducible first | refine W ?_ | refine Z0 ?_ | ((first | refine Wo fun K hK=>?_ | refine Wp ?_ | refine Wq ?_ | refine Wr ?_);(try simp only [go_sem,fN,seval,eT,iR,e0,e1,e2,e10,e6,s6,hlt,dT,dF,nL]);(repeat refine Ai ?_);(try (refine hK _ ?_;clear hK K));try refine iC ?_)
   refine ⟨rfl,?_⟩
   simp only [go_sem,fN,seval,eT,iR,e0,e1,e2,e10,e6,s6,s11,s12,s900]
   rw [hl,hst]
 rintro ⟨env,S⟩ ⟨e0,e1,e2,e10,e6,s6,s11,s12,s900⟩
 simp only at e0 e1 e2 e10 e6 s6 s11 s12 s900
 by_cases h0:Ab s i=i
 ·rw [TK h0]
  rw [h0] at e1
  unfold rdV
  by_cases hsz:i=s.size
  ·have hszi:(i:Int)=s.size:=by omega
   rw [if_pos hsz]
   repeat' with_reducible first | refine W ?_ | refine Z0 ?_ | ((first | refine Wo fun K hK=>?_ | refine Wp ?_ | refine Wq ?_ | refine Wr ?_);(try simp only [go_sem,fN,seval,eT,iR,e0,e1,e2,e10,e6,s6,hszi,dT,dF,nL]);(repeat refine Ai ?_);(try (refine hK _ ?_;clear hK K));try refine iC ?_)
   simp only [go_sem,fN,seval,AR,AS.result,AB,AD,AL,e6,s6]
   rfl
  ·have hszi:¬ (i:Int)=s.size:=by omega
   rw [if_neg hsz]
   repeat' with_reducible first | refine W ?_ | refine Z0 ?_ | ((first | refine Wo fun K hK=>?_ | refine Wp ?_ | refine Wq ?_ | refine Wr ?_);(try simp only [go_sem,fN,seval,eT,iR,e0,e1,e2,e10,e6,s6,hszi,dT,dF,nL]);(repeat refine Ai ?_);(try (refine hK _ ?_;clear hK K));try refine iC ?_)
   simp only [go_sem,fN,seval,AR,AS.result,AB,AD,AL,e6,s6]
   rfl
 have h0i:¬ ((Ab s i:Nat):Int)=i:=by omega
 by_cases h1:A_ (s.extract i (Ab s i))=true
 case neg =>
  rw [Ta h0 h1]
  unfold rdV
  repeat' (first | (with_reducible first | refine W ?_ | refine Z0 ?_ | ((first | refine Wo fun K hK=>?_ | refine Wp ?_ | refine Wq ?_ | refine Wr ?_);(try simp only [go_sem,fN,seval,eT,iR,e0,e1,e2,e10,e6,s6,s11,h0i,h1,dT,dF,nL]);(repeat refine Ai ?_);(try (refine hK _ ?_;clear hK K));try refine iC ?_)) | refine Cg _ (Fj (s.extract i (Ab s i))) ?_)
  simp only [go_sem,fN,seval,AR,AS.result,AB,AD,AL,e6,s6]
  rfl
 case pos =>
 by_cases h2:200 < k + 1
 ·have h2i:(200:Int) < k + 1:=by omega
  rw [QY h0 h1 h2]
  unfold rdV
  repeat' (first | (with_reducible first | refine W ?_ | refine Z0 ?_ | ((first | refine Wo fun K hK=>?_ | refine Wp ?_ | refine Wq ?_ | refine Wr ?_);(try simp only [go_sem,fN,seval,eT,iR,e0,e1,e2,e10,e6,s6,s11,h0i,h1,h2i,dT,dF,nL]);(repeat refine Ai ?_);(try (refine hK _ ?_;clear hK K));try refine iC ?_)) | refine Cg _ (Fj (s.extract i (Ab s i))) ?_)
  simp only [go_sem,fN,seval,AR,AS.result,AB,AD,AL,e6,s6]
  rfl
 have h2i:¬ (200:Int) < k + 1:=by omega
 by_cases h3:Ab s i=s.size
 ·have h3i:((Ab s i:Nat):Int)=s.size:=by omega
  have h0s:¬ (s.size:Int)=i:=by omega
  rw [Oy h0 h1 h2 (.inl h3)]
  unfold rdV
  rw [h3] at h1 e1
  rw [h3]
  repeat' (first | (with_reducible first | refine W ?_ | refine Z0 ?_ | ((first | refine Wo fun K hK=>?_ | refine Wp ?_ | refine Wq ?_ | refine Wr ?_);(try simp only [go_sem,fN,seval,eT,iR,e0,e1,e2,e10,e6,s6,s11,h0s,h1,h2i,dT,dF,nL]);(repeat refine Ai ?_);(try (refine hK _ ?_;clear hK K));try refine iC ?_)) | refine Cg _ (Fj (s.extract i s.size)) ?_)
  simp only [go_sem,fN,seval,AR,AS.result,AB,AD,AL,e6,s6]
  rfl
 have h3i:¬ ((Ab s i:Nat):Int)=s.size:=by omega
 by_cases h3':Cv s (Ab s i)=40
 case neg =>
  rw [Oy h0 h1 h2 (.inr h3')]
  unfold rdV
  repeat' (first | (with_reducible first | refine W ?_ | refine Z0 ?_ | ((first | refine Wo fun K hK=>?_ | refine Wp ?_ | refine Wq ?_ | refine Wr ?_);(try simp only [go_sem,fN,seval,eT,iR,e0,e1,e2,e10,e6,s6,s11,h0i,h1,h2i,h3i,h3',dT,dF,nL]);(repeat refine Ai ?_);(try (refine hK _ ?_;clear hK K));try refine iC ?_)) | refine Cg _ (Fj (s.extract i (Ab s i))) ?_)
  simp only [go_sem,fN,seval,AR,AS.result,AB,AD,AL,e6,s6]
  rfl
 case pos =>
 have h3n:¬ (Ab s i=s.size ∨ Ak s (Ab s i) ≠ 40):=fun h=>h.elim h3 (fun h=>h h3')
 by_cases h4:AP (s.extract i (Ab s i))=true
 ·rw [TV h0 h1 h2 h3n h4]
  unfold rdV
  repeat' (first | (with_reducible first | refine W ?_ | refine Z0 ?_ | ((first | refine Wo fun K hK=>?_ | refine Wp ?_ | refine Wq ?_ | refine Wr ?_);(try simp only [go_sem,fN,seval,eT,iR,e0,e1,e2,e10,e6,s6,s11,h0i,h1,h2i,h3i,h3',h4,dT,dF,nL]);(repeat refine Ai ?_);(try (refine hK _ ?_;clear hK K));try refine iC ?_)) | refine Cg _ (Fj (s.extract i (Ab s i))) ?_ | refine Cg _ (Tc (s.extract i (Ab s i))) ?_)
  simp only [go_sem,fN,seval,AR,AS.result,AB,AD,AL,e6,s6]
  rfl
 rw [TS h0 h1 h2 h3n h4]
 have hlt0:Ab s i < s.size:=by omega
 have hf0:2 * (s.size - Ab s i)≤f:=by omega
 clear h0
 obtain ⟨n,hn⟩:∃ n,s.extract i (Ab s i)=n:=⟨_,rfl⟩
 rw [hn] at h1 h4 ⊢
 generalize Ab s i=to at *
 repeat' (first | (with_reducible first | refine W ?_ | refine Z0 ?_ | ((first | refine Wo fun K hK=>?_ | refine Wp ?_ | refine Wq ?_ | refine Wr ?_);(try simp only [go_sem,fN,seval,eT,iR,e0,e1,e2,e10,e6,s6,s11,h0i,h1,h2i,h3i,h3',h4,hn,dT,dF,nL]);(repeat refine Ai ?_);(try (refine hK _ ?_;clear hK K));try refine iC ?_)) | refine Cg _ (Fj n) ?_ | refine Cg _ (Tc n) ?_)
 refine IWP.ghost (Aa.ownC 11 1 900 37 2 (xs:=([]:List Tm).map Ao) rfl rfl (by simp only [go_sem,fN,seval,eT,iR,s900,s11]) Do) ?_
 refine IWP.loopD [12] (fun m x=>∃ (g:Nat) (acc:List Tm) (j c:Nat),rdA s f n [] to (k + 1)=rdA s g n acc j c∧m=s.size - j∧2 * (s.size - j)≤g∧g≤f∧j < s.size∧c≤200∧acc.length≤c∧x.env 0=Bo s∧x.env 1=AN j∧x.env 2=AN c∧x.env 6=.one (.ptr 6 1 0 0)∧x.env 11=.one (.ptr 11 1 0 0)∧x.S 6=some ID∧x.S 11=some (.box 37 [.st (.str n),.row 900 acc.length])∧x.S 900=some (.arow 37 2 (acc.map Ao))∧x.S 12=none)
  (s.size - to) ⟨f,[],to,k + 1,rfl,rfl,hf0,Nat.le_refl _,hlt0,by omega,by simp,?_⟩ ?_
 ·simp only [go_sem,fN,seval,eT,iR,e0,e1,e2,e10,e6,s6,s11,s12,s900]
  exact ⟨by congr 3,rfl⟩
 rintro m ⟨env,S⟩ ⟨g,acc,j,c,hrd,rfl,hg,hgf,hj,hc,hac,e0,e1,e2,e6,e11,s6,s11,s900,s12⟩
 simp only at e0 e1 e2 e6 e11 s6 s11 s900 s12
 rw [hrd]
 obtain ⟨g,rfl⟩:∃ g',g=g' + 1:=⟨g - 1,by omega⟩
 have hcall:=ih g (by omega) (j + 1) c (by omega) hc (by omega)
 have hok:=TA s g (j + 1) c (by omega) hc (by omega)
 rw [show ((j + 1:Nat):Int)=(j:Int) + 1 by omega] at hcall
 have hle:=hok.le
 have hin:=hok.in_
 have hal:(acc.map Ao).length=acc.length:=List.length_map _
 by_cases q0:(rd s g (j + 1) c).e=0
 case neg =>
  rw [TM q0]
  unfold rdV at hcall ⊢
  repeat' (first | (with_reducible first | refine W ?_ | refine Z0 ?_ | ((first | refine Wo fun K hK=>?_ | refine Wp ?_ | refine Wq ?_ | refine Wr ?_);(try simp only [go_sem,fN,seval,eT,iR,e0,e1,e2,e6,e11,s6,s11,s900,s12,q0,dT,dF,nL]);(repeat refine Ai ?_);(try (refine hK _ ?_;clear hK K));try refine iC ?_)) | refine Cg _ (hcall) ?_)
  simp only [go_sem,fN,seval,AR,AS.result,AB,AD,AL,e6,s6,s11,s900]
  rfl
 case pos =>
 obtain ⟨o1,o2,o3,o4⟩:=hok.ok q0
 by_cases q1:(rd s g (j + 1) c).i=s.size
 ·have q1i:(((rd s g (j + 1) c).i:Nat):Int)=s.size:=by omega
  rw [Nf q0 q1]
  unfold rdV at hcall ⊢
  repeat' (first | (with_reducible first | refine W ?_ | refine Z0 ?_ | ((first | refine Wo fun K hK=>?_ | refine Wp ?_ | refine Wq ?_ | refine Wr ?_);(try simp only [go_sem,fN,seval,eT,iR,e0,e1,e2,e6,e11,s6,s11,s900,s12,q0,q1i,dT,dF,nL]);(repeat refine Ai ?_);(try (refine hK _ ?_;clear hK K));try refine iC ?_)) | refine Cg _ (hcall) ?_)
  simp only [go_sem,fN,seval,AR,AS.result,AB,AD,AL,e6,s6,s11,s900]
  rw [← Ea]
  rfl
 have q1i:¬ (((rd s g (j + 1) c).i:Nat):Int)=s.size:=by omega
 by_cases q2:Cv s (rd s g (j + 1) c).i=41
 ·rw [Nd q0 q1 q2]
  unfold rdV at hcall ⊢
  repeat' (first | (with_reducible first | refine W ?_ | refine Z0 ?_ | ((first | refine Wo fun K hK=>?_ | refine Wp ?_ | refine Wq ?_ | refine Wr ?_);(try simp only [go_sem,fN,seval,eT,iR,e0,e1,e2,e6,e11,s6,s11,s900,s12,q0,q1i,q2,dT,dF,nL]);(repeat refine Ai ?_);(try (refine hK _ ?_;clear hK K));try refine iC ?_)) | refine Cg _ (hcall) ?_)
  simp only [go_sem,fN,seval,AR,AS.result,AB,AD,AL,e6,s6,s11,s900]
  rw [← Ea]
  rfl
 by_cases q3:Cv s (rd s g (j + 1) c).i=44
 ·rw [W_ q0 q1 q2 q3]
  unfold rdV at hcall
  repeat' (first | (with_reducible first | refine W ?_ | refine Z0 ?_ | ((first | refine Wo fun K hK=>?_ | refine Wp ?_ | refine Wq ?_ | refine Wr ?_);(try simp only [go_sem,fN,seval,eT,iR,e0,e1,e2,e6,e11,s6,s11,s900,s12,q0,q1i,q2,q3,dT,dF,nL]);(repeat refine Ai ?_);(try (refine hK _ ?_;clear hK K));try refine iC ?_)) | refine Cg _ (hcall) ?_)
  refine AH ⟨s.size - (rd s g (j + 1) c).i,by omega,g,acc ++ [(rd s g (j + 1) c).t],(rd s g (j + 1) c).i,(rd s g (j + 1) c).k,rfl,rfl,by omega,by omega,by omega,o2,by simp;omega,?_⟩
  simp only [go_sem,fN,seval,AS.drop,Ac,AC.clears,AC.clear,AC.highs,AC.high,zD,AV.purge,AV.purges,AC.purge,AK.purge,Nat.reduceBEq,eT,iR,e0,e1,e2,e6,e11,s6,s11,s900,s12]
  rw [Ea]
 ·rw [QN q0 q1 q2 q3]
  unfold rdV at hcall ⊢
  repeat' (first | (with_reducible first | refine W ?_ | refine Z0 ?_ | ((first | refine Wo fun K hK=>?_ | refine Wp ?_ | refine Wq ?_ | refine Wr ?_);(try simp only [go_sem,fN,seval,eT,iR,e0,e1,e2,e6,e11,s6,s11,s900,s12,q0,q1i,q2,q3,dT,dF,nL]);(repeat refine Ai ?_);(try (refine hK _ ?_;clear hK K));try refine iC ?_)) | refine Cg _ (hcall) ?_)
  simp only [go_sem,fN,seval,AR,AS.result,AB,AD,AL,e6,s6,s11,s900]
  rw [← Ea]
  rfl
def Hs (r:Tm × Int):AV:=.tup [aTm r.1,AN r.2]
theorem Th (s:ByteArray):AY Tryz.prog 30 [Bo s] (Hs (EK s)):=by
 have hro:EK s=if 4000 < s.size then (.mk ⟨#[]⟩ [],3) else if (rdS s).e=0 then (if (rdS s).i < s.size then (.mk ⟨#[]⟩ [],12) else ((rdS s).t,0)) else (.mk ⟨#[]⟩ [],(rdS s).e):=rfl
 refine VI.ac fun C hC=>?_
 unfold NR
 by_cases h0:(4000:Int) < s.size
 ·rw [hro,if_pos (by omega)]
  unfold Hs
  repeat' with_reducible first | refine W ?_ | refine Z0 ?_ | ((first | refine Wo fun K hK=>?_ | refine Wp ?_ | refine Wq ?_ | refine Wr ?_);(try simp only [go_sem,fN,seval,eT,iR,h0,dT,dF,nL]);(repeat refine Ai ?_);(try (refine hK _ ?_;clear hK K));try refine iC ?_)
  simp only [go_sem,fN,seval,AR,AS.result,AB,AD,AL]
  rfl
 rw [hro,if_neg (by omega)]
 have hcall:=ZX s (by omega) (2 * s.size + 1) 0 0 (by omega) (by omega) (by omega)
 have hr:rd s (2 * s.size + 1) 0 0=rdS s:=rfl
 rw [hr] at hcall
 unfold rdV at hcall
 by_cases h1:(rdS s).e=0
 ·rw [if_pos h1]
  by_cases h2:(rdS s).i < s.size
  ·have h2i:((rdS s).i:Int) < s.size:=by omega
   rw [if_pos h2]
   unfold Hs
   repeat' (first | (with_reducible first | refine W ?_ | refine Z0 ?_ | ((first | refine Wo fun K hK=>?_ | refine Wp ?_ | refine Wq ?_ | refine Wr ?_);(try simp only [go_sem,fN,seval,eT,iR,h0,h1,h2i,dT,dF,nL]);(repeat refine Ai ?_);(try (refine hK _ ?_;clear hK K));try refine iC ?_)) | refine Cg _ (hcall) ?_)
   simp only [go_sem,fN,seval,AR,AS.result,AB,AD,AL]
   rfl
  ·have h2i:¬ ((rdS s).i:Int) < s.size:=by omega
   rw [if_neg h2]
   unfold Hs
   repeat' (first | (with_reducible first | refine W ?_ | refine Z0 ?_ | ((first | refine Wo fun K hK=>?_ | refine Wp ?_ | refine Wq ?_ | refine Wr ?_);(try simp only [go_sem,fN,seval,eT,iR,h0,h1,h2i,dT,dF,nL]);(repeat refine Ai ?_);(try (refine hK _ ?_;clear hK K));try refine iC ?_)) | refine Cg _ (hcall) ?_)
   simp only [go_sem,fN,seval,AR,AS.result,AB,AD,AL]
 ·rw [if_neg h1]
  unfold Hs
  repeat' (first | (with_reducible first | refine W ?_ | refine Z0 ?_ | ((first | refine Wo fun K hK=>?_ | refine Wp ?_ | refine Wq ?_ | refine Wr ?_);(try simp only [go_sem,fN,seval,eT,iR,h0,h1,dT,dF,nL]);(repeat refine Ai ?_);(try (refine hK _ ?_;clear hK K));try refine iC ?_)) | refine Cg _ (hcall) ?_)
  simp only [go_sem,fN,seval,AR,AS.result,AB,AD,AL]
  rfl


def OT:IR :=
 (.seq (.ops [.i 4 (.mov (.n 0))]) (.seq (.seq (.ops [.m 5 0,.i 6 (.bin .lss (.t 5) (.n 0))]) (.cond (.t 6) (.ops [.m 7 0,.i 8 (.bin .add (.t 7) (.n 1)),.i 9 (.un .neg (.t 8)),.m 0 9]) .skip)) (.seq (.ops [.m 10 0,.m 11 1,.i 12 (.bin .rem (.t 10) (.t 11)),.m 4 12]) .ret)))
theorem Uc:OkF Tryz.prog 9 13 [] OT [.t 4]:=.of Tryz.func9 rfl rfl (by kernel_rfl) rfl

def GW (c n:Int):Int:=(if c < 0 then -(c + 1) else c) % n
theorem G8 (c n:Int) (hn:1≤n):0≤GW c n∧GW c n < n:=⟨Int.emod_nonneg _ (by omega),Int.emod_lt_of_pos _ (by omega)⟩
theorem Lq {x n:Int} (hx:0≤x) (hn:1≤n):x.tmod n=x % n∧0≤x % n∧x % n < n∧x % n≤x:=by
 rw [Int.tmod_eq_emod_of_nonneg hx]
 refine ⟨rfl,Int.emod_nonneg _ (by omega),Int.emod_lt_of_pos _ (by omega),?_⟩
 by_cases h:x < n
 ·rw [Int.emod_eq_of_lt hx h];exact Int.le_refl _
 ·have:=Int.emod_lt_of_pos x (show 0 < n by omega);omega
theorem Sc (c n:Int) (hc:inR .i64 c) (hn:1≤n):AY Tryz.prog 9 [AN c,AN n] (AN (GW c n)):=by
 rw [I9] at hc
 refine Uc.ac fun C hC=>?_
 unfold OT
 repeat' with_reducible first | refine W ?_ | refine Z0 ?_ | ((first | refine Wo fun K hK=>?_ | refine Wq ?_ | refine Wr ?_);(try simp only [go_sem,fN,seval,eT,iR]);(repeat refine Ai ?_);(try (refine hK _ ?_;clear hK K)))
 with_reducible refine Wp ?_
 simp only [go_sem,fN,seval,true_implies,false_implies,implies_true,dT,dF,nL]
 (try with_reducible refine iC ?_)
 refine ⟨fun h0=>?_,fun h0=>?_⟩
 ·have h1:=Lq (x:=0 - (c + 1)) (n:=n) (by omega) hn
  repeat' with_reducible first | refine W ?_ | refine Z0 ?_ | ((first | refine Wo fun K hK=>?_ | refine Wq ?_ | refine Wr ?_);(try simp only [go_sem,fN,seval,eT,iR,h1.1]);(repeat refine Ai ?_);(try (refine hK _ ?_;clear hK K)))
  simp only [go_sem,fN,seval,AR,AS.result,AB,AD,AL]
  unfold GW
  rw [if_pos h0]
  congr 5
  omega
 ·have h1:=Lq (x:=c) (n:=n) (by omega) hn
  repeat' with_reducible first | refine W ?_ | refine Z0 ?_ | ((first | refine Wo fun K hK=>?_ | refine Wq ?_ | refine Wr ?_);(try simp only [go_sem,fN,seval,eT,iR,h1.1]);(repeat refine Ai ?_);(try (refine hK _ ?_;clear hK K)))
  simp only [go_sem,fN,seval,AR,AS.result,AB,AD,AL]
  unfold GW
  rw [if_neg h0]

noncomputable def I_:List ByteArray→List Pr
 | a :: b :: l=>((EK a).1,(EK b).1) :: I_ l
 | _=>[]
theorem VZ {L:List ByteArray} {i:Nat} {a b:ByteArray} (ha:L[i]?=some a) (hb:L[i + 1]?=some b):I_ (L.drop i)=((EK a).1,(EK b).1) :: I_ (L.drop (i + 2)):=by
 rw [BQ ha,BQ hb,I_]
theorem Uf {L:List ByteArray} {i:Nat} (h:L.length≤i + 1):I_ (L.drop i)=[]:=by
 have hl:(L.drop i).length≤1:=by rw [List.length_drop];omega
 match hd:L.drop i,hl with
 | [],_=>rfl
 | [x],_=>rfl
 | x :: y :: l,hl=>exact absurd hl (by simp)

def I0:IR :=
 (.seq (.ops [.i 2 (.mov (.c (.one (.full []))))]) (.seq (.ops [.i 11 (.buildFlat [.c (.one (.st (.str (ByteArray.mk (#[102,40,101,44,88,41]))))),.c (.one (.st (.str (ByteArray.mk (#[88]))))),.c (.one (.st (.str (ByteArray.mk (#[102,40,105,40,88,41,44,88,41]))))),.c (.one (.st (.str (ByteArray.mk (#[101]))))),.c (.one (.st (.str (ByteArray.mk (#[102,40,102,40,88,44,89,41,44,90,41]))))),.c (.one (.st (.str (ByteArray.mk (#[102,40,88,44,102,40,89,44,90,41,41])))))]),.i 12 (.buildFlat [.c (.one (.st (.str (ByteArray.mk (#[102,40,97,44,88,41]))))),.c (.one (.st (.str (ByteArray.mk (#[88]))))),.c (.one (.st (.str (ByteArray.mk (#[102,40,104,40,88,41,44,89,41]))))),.c (.one (.st (.str (ByteArray.mk (#[104,40,102,40,88,44,89,41,41])))))]),.i 13 (.buildFlat [.c (.one (.st (.str (ByteArray.mk (#[104,40,104,40,88,41,41]))))),.c (.one (.st (.str (ByteArray.mk (#[88]))))),.c (.one (.st (.str (ByteArray.mk (#[104,40,107,40,88,41,41]))))),.c (.one (.st (.str (ByteArray.mk (#[107,40,104,40,88,41,41])))))]),.i 14 (.buildFlat [.c (.one (.st (.str (ByteArray.mk (#[102,40,88,44,89,41]))))),.c (.one (.st (.str (ByteArray.mk (#[102,40,89,44,88,41])))))]),.i 15 (.buildFlat [.c (.one (.st (.str (ByteArray.mk (#[102,40,102,40,88,44,89,41,44,90,41]))))),.c (.one (.st (.str (ByteArray.mk (#[102,40,88,44,102,40,89,44,90,41,41]))))),.c (.one (.st (.str (ByteArray.mk (#[102,40,97,44,88,41]))))),.c (.one (.st (.str (ByteArray.mk (#[88]))))),.c (.one (.st (.str (ByteArray.mk (#[102,40,88,44,97,41]))))),.c (.one (.st (.str (ByteArray.mk (#[88])))))]),.i 16 (.buildFlat [.c (.one (.st (.str (ByteArray.mk (#[104,40,104,40,104,40,88,41,41,41]))))),.c (.one (.st (.str (ByteArray.mk (#[88]))))),.c (.one (.st (.str (ByteArray.mk (#[104,40,104,40,104,40,104,40,104,40,88,41,41,41,41,41]))))),.c (.one (.st (.str (ByteArray.mk (#[88])))))]),.i 17 (.buildFlat [.c (.one (.st (.str (ByteArray.mk (#[97]))))),.c (.one (.st (.str (ByteArray.mk (#[98]))))),.c (.one (.st (.str (ByteArray.mk (#[104,40,97,41]))))),.c (.one (.st (.str (ByteArray.mk (#[99]))))),.c (.one (.st (.str (ByteArray.mk (#[104,40,98,41]))))),.c (.one (.st (.str (ByteArray.mk (#[107,40,99,41])))))]),.i 18 (.buildFlat [.c (.one (.st (.str (ByteArray.mk (#[107,40,104,40,88,41,41]))))),.c (.one (.st (.str (ByteArray.mk (#[88]))))),.c (.one (.st (.str (ByteArray.mk (#[104,40,107,40,88,41,41]))))),.c (.one (.st (.str (ByteArray.mk (#[88])))))]),.i 19 (.buildFlat [.c (.one (.st (.str (ByteArray.mk (#[102,40,88,44,88,41]))))),.c (.one (.st (.str (ByteArray.mk (#[97]))))),.c (.one (.st (.str (ByteArray.mk (#[102,40,97,44,88,41]))))),.c (.one (.st (.str (ByteArray.mk (#[88])))))]),.i 20 (.buildSlice false 26 1 [.t 11,.t 12,.t 13,.t 14,.t 15,.t 16,.t 17,.t 18,.t 19]),.m 3 20]) (.seq (.ops [.m 21 3,.m 22 0,.m 23 3,.i 24 (.len false (.t 23)),.i 25 (.call 9 [.t 22,.t 24]),.i 26 (.indexAddr 1 (.t 21) (.t 25)),.l 27 26,.m 4 27]) (.seq (.ops [.i 5 (.mov (.c (.one (.full []))))]) (.seq (.seq (.ops [.i 6 (.mov (.n 0))]) (.block 0 (.loop (.seq (.seq (.ops [.m 28 6,.i 29 (.bin .add (.t 28) (.n 1)),.m 30 4,.i 31 (.len false (.t 30)),.i 32 (.bin .lss (.t 29) (.t 31))]) (.cond (.t 32) .skip (.exit 0))) (.seq (.block 1 (.seq (.ops [.m 36 4,.m 37 6,.i 38 (.indexAddr 1 (.t 36) (.t 37)),.l 39 38,.i 40 (.call 30 [.t 39]),.m 35 40,.i 41 (.extract 0 (.t 35)),.i 42 (.extract 1 (.t 35)),.i 7 (.alloc 37 [.st (.str (ByteArray.mk (#[]))),.full []]),.s 2 7 41,.m 8 42]) (.seq (.ops [.m 44 4,.m 45 6,.i 46 (.bin .add (.t 45) (.n 1)),.i 47 (.indexAddr 1 (.t 44) (.t 46)),.l 48 47,.i 49 (.call 30 [.t 48]),.m 43 49,.i 50 (.extract 0 (.t 43)),.i 51 (.extract 1 (.t 43)),.i 9 (.alloc 37 [.st (.str (ByteArray.mk (#[]))),.full []]),.s 2 9 50,.m 10 51]) (.ops [.m 52 5,.L 53 2 7,.L 54 2 9,.i 55 (.build [.st (.str (ByteArray.mk (#[]))),.full [],.st (.str (ByteArray.mk (#[]))),.full []] [(0,2,.t 53),(2,2,.t 54)]),.i 56 (.buildSlice false 40 4 [.t 55]),.i 57 (.append false 40 4 80 (.t 52) (.t 56)),.m 5 57])))) (.ops [.m 33 6,.i 34 (.bin .add (.t 33) (.n 2)),.m 6 34])))))) (.seq (.ops [.m 58 5,.m 2 58]) .ret))))))
theorem PQ:OkF Tryz.prog 8 59 [] I0 [.t 2]:=.of Tryz.func8 rfl rfl (by kernel_rfl) rfl

def FH:List (List ByteArray):=[[⟨#[102,40,101,44,88,41]⟩,⟨#[88]⟩,⟨#[102,40,105,40,88,41,44,88,41]⟩,⟨#[101]⟩,⟨#[102,40,102,40,88,44,89,41,44,90,41]⟩,⟨#[102,40,88,44,102,40,89,44,90,41,41]⟩],
 [⟨#[102,40,97,44,88,41]⟩,⟨#[88]⟩,⟨#[102,40,104,40,88,41,44,89,41]⟩,⟨#[104,40,102,40,88,44,89,41,41]⟩],
 [⟨#[104,40,104,40,88,41,41]⟩,⟨#[88]⟩,⟨#[104,40,107,40,88,41,41]⟩,⟨#[107,40,104,40,88,41,41]⟩],
 [⟨#[102,40,88,44,89,41]⟩,⟨#[102,40,89,44,88,41]⟩],
 [⟨#[102,40,102,40,88,44,89,41,44,90,41]⟩,⟨#[102,40,88,44,102,40,89,44,90,41,41]⟩,⟨#[102,40,97,44,88,41]⟩,⟨#[88]⟩,⟨#[102,40,88,44,97,41]⟩,⟨#[88]⟩],
 [⟨#[104,40,104,40,104,40,88,41,41,41]⟩,⟨#[88]⟩,⟨#[104,40,104,40,104,40,104,40,104,40,88,41,41,41,41,41]⟩,⟨#[88]⟩],
 [⟨#[97]⟩,⟨#[98]⟩,⟨#[104,40,97,41]⟩,⟨#[99]⟩,⟨#[104,40,98,41]⟩,⟨#[107,40,99,41]⟩],
 [⟨#[107,40,104,40,88,41,41]⟩,⟨#[88]⟩,⟨#[104,40,107,40,88,41,41]⟩,⟨#[88]⟩],
 [⟨#[102,40,88,44,88,41]⟩,⟨#[97]⟩,⟨#[102,40,97,44,88,41]⟩,⟨#[88]⟩]]
noncomputable def W7 (k:Nat):List Pr:=I_ (FH.getD k [])
def Y4:List (List Pr):=[[(.mk ⟨#[102]⟩ [.mk ⟨#[101]⟩ [],.mk ⟨#[88]⟩ []],.mk ⟨#[88]⟩ []),(.mk ⟨#[102]⟩ [.mk ⟨#[105]⟩ [.mk ⟨#[88]⟩ []],.mk ⟨#[88]⟩ []],.mk ⟨#[101]⟩ []),(.mk ⟨#[102]⟩ [.mk ⟨#[102]⟩ [.mk ⟨#[88]⟩ [],.mk ⟨#[89]⟩ []],.mk ⟨#[90]⟩ []],.mk ⟨#[102]⟩ [.mk ⟨#[88]⟩ [],.mk ⟨#[102]⟩ [.mk ⟨#[89]⟩ [],.mk ⟨#[90]⟩ []]])],
 [(.mk ⟨#[102]⟩ [.mk ⟨#[97]⟩ [],.mk ⟨#[88]⟩ []],.mk ⟨#[88]⟩ []),(.mk ⟨#[102]⟩ [.mk ⟨#[104]⟩ [.mk ⟨#[88]⟩ []],.mk ⟨#[89]⟩ []],.mk ⟨#[104]⟩ [.mk ⟨#[102]⟩ [.mk ⟨#[88]⟩ [],.mk ⟨#[89]⟩ []]])],
 [(.mk ⟨#[104]⟩ [.mk ⟨#[104]⟩ [.mk ⟨#[88]⟩ []]],.mk ⟨#[88]⟩ []),(.mk ⟨#[104]⟩ [.mk ⟨#[107]⟩ [.mk ⟨#[88]⟩ []]],.mk ⟨#[107]⟩ [.mk ⟨#[104]⟩ [.mk ⟨#[88]⟩ []]])],
 [(.mk ⟨#[102]⟩ [.mk ⟨#[88]⟩ [],.mk ⟨#[89]⟩ []],.mk ⟨#[102]⟩ [.mk ⟨#[89]⟩ [],.mk ⟨#[88]⟩ []])],
 [(.mk ⟨#[102]⟩ [.mk ⟨#[102]⟩ [.mk ⟨#[88]⟩ [],.mk ⟨#[89]⟩ []],.mk ⟨#[90]⟩ []],.mk ⟨#[102]⟩ [.mk ⟨#[88]⟩ [],.mk ⟨#[102]⟩ [.mk ⟨#[89]⟩ [],.mk ⟨#[90]⟩ []]]),(.mk ⟨#[102]⟩ [.mk ⟨#[97]⟩ [],.mk ⟨#[88]⟩ []],.mk ⟨#[88]⟩ []),(.mk ⟨#[102]⟩ [.mk ⟨#[88]⟩ [],.mk ⟨#[97]⟩ []],.mk ⟨#[88]⟩ [])],
 [(.mk ⟨#[104]⟩ [.mk ⟨#[104]⟩ [.mk ⟨#[104]⟩ [.mk ⟨#[88]⟩ []]]],.mk ⟨#[88]⟩ []),(.mk ⟨#[104]⟩ [.mk ⟨#[104]⟩ [.mk ⟨#[104]⟩ [.mk ⟨#[104]⟩ [.mk ⟨#[104]⟩ [.mk ⟨#[88]⟩ []]]]]],.mk ⟨#[88]⟩ [])],
 [(.mk ⟨#[97]⟩ [],.mk ⟨#[98]⟩ []),(.mk ⟨#[104]⟩ [.mk ⟨#[97]⟩ []],.mk ⟨#[99]⟩ []),(.mk ⟨#[104]⟩ [.mk ⟨#[98]⟩ []],.mk ⟨#[107]⟩ [.mk ⟨#[99]⟩ []])],
 [(.mk ⟨#[107]⟩ [.mk ⟨#[104]⟩ [.mk ⟨#[88]⟩ []]],.mk ⟨#[88]⟩ []),(.mk ⟨#[104]⟩ [.mk ⟨#[107]⟩ [.mk ⟨#[88]⟩ []]],.mk ⟨#[88]⟩ [])],
 [(.mk ⟨#[102]⟩ [.mk ⟨#[88]⟩ [],.mk ⟨#[88]⟩ []],.mk ⟨#[97]⟩ []),(.mk ⟨#[102]⟩ [.mk ⟨#[97]⟩ [],.mk ⟨#[88]⟩ []],.mk ⟨#[88]⟩ [])]]
set_option maxRecDepth 100000 in
theorem TN:∀ k,k < 9→W7 k=Y4.getD k []
 | 0,_=>by kernel_rfl
 | 1,_=>by kernel_rfl
 | 2,_=>by kernel_rfl
 | 3,_=>by kernel_rfl
 | 4,_=>by kernel_rfl
 | 5,_=>by kernel_rfl
 | 6,_=>by kernel_rfl
 | 7,_=>by kernel_rfl
 | 8,_=>by kernel_rfl
 | k + 9,h=>by omega
theorem UV (m:Int) (hm:inR .i64 m):∃ k:Nat,k < 9∧GW m 9=(k:Int)∧AY Tryz.prog 8 [AN m] (CI (W7 k)):=by
 have r1:=G8 m 9 (by omega)
 have p1:=Sc m 9 hm (by omega)
 obtain ⟨k,e1⟩:∃ k:Nat,GW m 9=k:=⟨(GW m 9).toNat,by omega⟩
 rw [e1] at p1 r1
 refine ⟨k,by omega,e1,?_⟩
 have key:∀ L:List ByteArray,L.length≤6→([[.list [[.str ⟨#[102,40,101,44,88,41]⟩],[.str ⟨#[88]⟩],[.str ⟨#[102,40,105,40,88,41,44,88,41]⟩],[.str ⟨#[101]⟩],[.str ⟨#[102,40,102,40,88,44,89,41,44,90,41]⟩],[.str ⟨#[102,40,88,44,102,40,89,44,90,41,41]⟩]]],[.list [[.str ⟨#[102,40,97,44,88,41]⟩],[.str ⟨#[88]⟩],[.str ⟨#[102,40,104,40,88,41,44,89,41]⟩],[.str ⟨#[104,40,102,40,88,44,89,41,41]⟩]]],[.list [[.str ⟨#[104,40,104,40,88,41,41]⟩],[.str ⟨#[88]⟩],[.str ⟨#[104,40,107,40,88,41,41]⟩],[.str ⟨#[107,40,104,40,88,41,41]⟩]]],[.list [[.str ⟨#[102,40,88,44,89,41]⟩],[.str ⟨#[102,40,89,44,88,41]⟩]]],[.list [[.str ⟨#[102,40,102,40,88,44,89,41,44,90,41]⟩],[.str ⟨#[102,40,88,44,102,40,89,44,90,41,41]⟩],[.str ⟨#[102,40,97,44,88,41]⟩],[.str ⟨#[88]⟩],[.str ⟨#[102,40,88,44,97,41]⟩],[.str ⟨#[88]⟩]]],[.list [[.str ⟨#[104,40,104,40,104,40,88,41,41,41]⟩],[.str ⟨#[88]⟩],[.str ⟨#[104,40,104,40,104,40,104,40,104,40,88,41,41,41,41,41]⟩],[.str ⟨#[88]⟩]]],[.list [[.str ⟨#[97]⟩],[.str ⟨#[98]⟩],[.str ⟨#[104,40,97,41]⟩],[.str ⟨#[99]⟩],[.str ⟨#[104,40,98,41]⟩],[.str ⟨#[107,40,99,41]⟩]]],[.list [[.str ⟨#[107,40,104,40,88,41,41]⟩],[.str ⟨#[88]⟩],[.str ⟨#[104,40,107,40,88,41,41]⟩],[.str ⟨#[88]⟩]]],[.list [[.str ⟨#[102,40,88,44,88,41]⟩],[.str ⟨#[97]⟩],[.str ⟨#[102,40,97,44,88,41]⟩],[.str ⟨#[88]⟩]]]]:List (List SV))[k]?=some [.list (L.map DH)]→AY Tryz.prog 8 [AN m] (CI (I_ L)):=fun L hL hrow=>by
  refine PQ.ac fun C hC=>?_
  unfold I0
  repeat' (first | (with_reducible first | refine W ?_ | refine Z0 ?_ | ((first | refine Wo fun K hK=>?_ | refine Wp ?_ | refine Wq ?_ | refine Wr ?_);(try simp only [go_sem,fN,seval,eT,iR,hrow,dT,dF,nL]);(repeat refine Ai ?_);(try (refine hK _ ?_;clear hK K));try refine iC ?_)) | refine Cg _ (p1) ?_)
  refine IWP.ghost (Aa.own 5 500 40 4 (xs:=([]:List Pr).map As) (by rfl) (by rfl) HW (by rw [hC];decide)) ?_
  refine IWP.loopD [7,9] (fun z s=>∃ i acc,i≤L.length + 1∧z=L.length + 1 - i∧acc.length≤i∧I_ L=acc ++ I_ (L.drop i)∧s.env 4=CX L∧s.env 5=.one (.row 500 acc.length)∧s.env 6=AN i∧s.S 7=none∧s.S 9=none∧s.S 500=some (.arow 40 4 (acc.map As))∧∀ j,1000≤j→s.S j=none) (L.length + 1) ⟨0,[],Nat.zero_le _,rfl,Nat.le_refl _,rfl,rfl,rfl,rfl,rfl,rfl,rfl,?_⟩ ?_
  ·intro j hj
   show AG _ _ _ _=_
   rw [AF _ (by omega)]
   rfl
  rintro z ⟨env,S⟩ ⟨i,acc,hi,rfl,hal,htot,e4,e5,e6,s7,s9,s500,sh⟩
  simp only at e4 e5 e6 s7 s9 s500 sh
  have hl:(acc.map As).length=acc.length:=by simp
  by_cases hlt:i + 1 < L.length
  ·have hlt':((i:Int) + 1 < L.length):=by omega
   obtain ⟨a,ha⟩:=Aj (show i < L.length by omega)
   obtain ⟨b,hb⟩:=Aj hlt
   have hi0:((i:Int) + 1).toNat=i + 1:=by omega
   have hra:=Th a
   have hrb:=Th b
   unfold Hs at hra hrb
   repeat' (first | (with_reducible first | refine W ?_ | refine Z0 ?_ | ((first | refine Wo fun K hK=>?_ | refine Wp ?_ | refine Wq ?_ | refine Wr ?_);(try simp only [go_sem,fN,seval,eT,iR,e4,e5,e6,s7,s9,s500,hlt',ha,hb,hi0,As,hl,dT,dF,nL]);(repeat refine Ai ?_);(try (refine hK _ ?_;clear hK K));try refine iC ?_)) | refine Cg _ (hra) ?_ | refine Cg _ (hrb) ?_)
   refine AH ⟨L.length + 1 - (i + 2),by omega,i + 2,acc ++ [((EK a).1,(EK b).1)],by omega,rfl,by simp;omega,?_,?_⟩
   ·rw [htot,VZ ha hb,List.append_assoc]
    rfl
   ·simp only [go_sem,fN,seval,AS.drop,Ac,AC.clears,AC.clear,AC.highs,AC.high,zD,AV.purge,AV.purges,AC.purge,AK.purge,Nat.reduceBEq,eT,iR,e4,e5,e6,s7,s9,s500]
    refine ⟨by congr 3,?_,fun j hj=>?_⟩
    ·rw [List.map_append]
     rfl
    ·have n7:(j=7)=False:=eq_false (by omega)
     have n9:(j=9)=False:=eq_false (by omega)
     have n500:(j=500)=False:=eq_false (by omega)
     simp [n7,n9,n500,sh j hj]
  ·have hlt':¬ ((i:Int) + 1 < L.length):=by omega
   rw [Uf (by omega),List.append_nil] at htot
   rw [htot]
   repeat' with_reducible first | refine W ?_ | refine Z0 ?_ | ((first | refine Wo fun K hK=>?_ | refine Wp ?_ | refine Wq ?_ | refine Wr ?_);(try simp only [go_sem,fN,seval,eT,iR,e4,e5,e6,s500,hlt',hl,dT,dF,nL]);(repeat refine Ai ?_);(try (refine hK _ ?_;clear hK K));try refine iC ?_)
   simp only [go_sem,fN,seval,AR,AS.result,AB,AD,AL,s500,hl]
 match k,(show k < 9 by omega) with
 | 0,_=>exact key (FH.getD 0 []) (by decide) rfl
 | 1,_=>exact key (FH.getD 1 []) (by decide) rfl
 | 2,_=>exact key (FH.getD 2 []) (by decide) rfl
 | 3,_=>exact key (FH.getD 3 []) (by decide) rfl
 | 4,_=>exact key (FH.getD 4 []) (by decide) rfl
 | 5,_=>exact key (FH.getD 5 []) (by decide) rfl
 | 6,_=>exact key (FH.getD 6 []) (by decide) rfl
 | 7,_=>exact key (FH.getD 7 []) (by decide) rfl
 | 8,_=>exact key (FH.getD 8 []) (by decide) rfl

def Ik:IR :=
 (.seq (.ops [.i 2 (.mov (.c (.one (.full []))))]) (.seq (.ops [.i 4 (.buildFlat [.c (.one (.st (.str (ByteArray.mk (#[97]))))),.c (.one (.st (.str (ByteArray.mk (#[98]))))),.c (.one (.st (.str (ByteArray.mk (#[99]))))),.c (.one (.st (.str (ByteArray.mk (#[104]))))),.c (.one (.st (.str (ByteArray.mk (#[107]))))),.c (.one (.st (.str (ByteArray.mk (#[102]))))),.c (.one (.st (.str (ByteArray.mk (#[103])))))]),.i 5 (.buildFlat [.c (.one (.st (.str (ByteArray.mk (#[103]))))),.c (.one (.st (.str (ByteArray.mk (#[102]))))),.c (.one (.st (.str (ByteArray.mk (#[107]))))),.c (.one (.st (.str (ByteArray.mk (#[104]))))),.c (.one (.st (.str (ByteArray.mk (#[99]))))),.c (.one (.st (.str (ByteArray.mk (#[98]))))),.c (.one (.st (.str (ByteArray.mk (#[97])))))]),.i 6 (.buildFlat [.c (.one (.st (.str (ByteArray.mk (#[102]))))),.c (.one (.st (.str (ByteArray.mk (#[104])))))]),.i 7 (.buildFlat [.c (.one (.st (.str (ByteArray.mk (#[101]))))),.c (.one (.st (.str (ByteArray.mk (#[102]))))),.c (.one (.st (.str (ByteArray.mk (#[105])))))]),.i 8 (.buildFlat [.c (.one (.st (.str (ByteArray.mk (#[99]))))),.c (.one (.st (.str (ByteArray.mk (#[97]))))),.c (.one (.st (.str (ByteArray.mk (#[107]))))),.c (.one (.st (.str (ByteArray.mk (#[104]))))),.c (.one (.st (.str (ByteArray.mk (#[103]))))),.c (.one (.st (.str (ByteArray.mk (#[102])))))]),.i 9 (.buildSlice false 26 1 [.t 4,.t 5,.t 6,.c (.one (.full [])),.t 7,.t 8]),.m 3 9]) (.seq (.ops [.m 10 3,.m 11 0,.m 12 3,.i 13 (.len false (.t 12)),.i 14 (.call 9 [.t 11,.t 13]),.i 15 (.indexAddr 1 (.t 10) (.t 14)),.l 16 15,.m 2 16]) .ret)))
theorem Pl:OkF Tryz.prog 7 17 [] Ik [.t 2]:=.of Tryz.func7 rfl rfl (by kernel_rfl) rfl

def NT:List (List ByteArray):=[[⟨#[97]⟩,⟨#[98]⟩,⟨#[99]⟩,⟨#[104]⟩,⟨#[107]⟩,⟨#[102]⟩,⟨#[103]⟩],[⟨#[103]⟩,⟨#[102]⟩,⟨#[107]⟩,⟨#[104]⟩,⟨#[99]⟩,⟨#[98]⟩,⟨#[97]⟩],[⟨#[102]⟩,⟨#[104]⟩],[],[⟨#[101]⟩,⟨#[102]⟩,⟨#[105]⟩],[⟨#[99]⟩,⟨#[97]⟩,⟨#[107]⟩,⟨#[104]⟩,⟨#[103]⟩,⟨#[102]⟩]]
theorem VB (m:Int) (hm:inR .i64 m):∃ k:Nat,k < 6∧AY Tryz.prog 7 [AN m] (CX (NT.getD k [])):=by
 have r1:=G8 m 6 (by omega)
 have p1:=Sc m 6 hm (by omega)
 obtain ⟨k,e1⟩:∃ k:Nat,GW m 6=k:=⟨(GW m 6).toNat,by omega⟩
 rw [e1] at p1 r1
 have key:∀ row:List ByteArray,[([.list [[.str ⟨#[97]⟩],[.str ⟨#[98]⟩],[.str ⟨#[99]⟩],[.str ⟨#[104]⟩],[.str ⟨#[107]⟩],[.str ⟨#[102]⟩],[.str ⟨#[103]⟩]]]:List SV),[.list [[.str ⟨#[103]⟩],[.str ⟨#[102]⟩],[.str ⟨#[107]⟩],[.str ⟨#[104]⟩],[.str ⟨#[99]⟩],[.str ⟨#[98]⟩],[.str ⟨#[97]⟩]]],[.list [[.str ⟨#[102]⟩],[.str ⟨#[104]⟩]]],[.list []],[.list [[.str ⟨#[101]⟩],[.str ⟨#[102]⟩],[.str ⟨#[105]⟩]]],[.list [[.str ⟨#[99]⟩],[.str ⟨#[97]⟩],[.str ⟨#[107]⟩],[.str ⟨#[104]⟩],[.str ⟨#[103]⟩],[.str ⟨#[102]⟩]]]][k]?=some [.list (row.map DH)]→AY Tryz.prog 7 [AN m] (CX row):=fun row hrow=>by
  refine Pl.ac fun C hC=>?_
  unfold Ik
  repeat' (first | (with_reducible first | refine W ?_ | refine Z0 ?_ | ((first | refine Wo fun K hK=>?_ | refine Wp ?_ | refine Wq ?_ | refine Wr ?_);(try simp only [go_sem,fN,seval,eT,iR,hrow,dT,dF,nL]);(repeat refine Ai ?_);(try (refine hK _ ?_;clear hK K));try refine iC ?_)) | refine Cg _ (p1) ?_)
  simp only [go_sem,fN,seval,AR,AS.result,AB,AD,AL]
 refine ⟨k,by omega,?_⟩
 match k,(show k < 6 by omega) with
 | 0,_=>exact key _ rfl
 | 1,_=>exact key _ rfl
 | 2,_=>exact key _ rfl
 | 3,_=>exact key _ rfl
 | 4,_=>exact key _ rfl
 | 5,_=>exact key _ rfl
theorem N9:∀ k,k < 6→Ds (NT.getD k [])=0:=by decide +kernel

def Ys (cr:Nat→Nat→Option (Option (List Pr))):List (Nat × Nat)→List Pr→Option (List Pr × Int)
 | [],acc=>some (acc,0)
 | q :: l,acc=>match cr q.1 q.2 with
  | none=>none
  | some none=>some ([],8)
  | some (some x)=>if 400 < (acc ++ x).length then some ([],3) else Ys cr l (acc ++ x)
theorem TC {cr:Nat→Nat→Option (Option (List Pr))} {cr':Nat→Nat→Option (List Pr)} (h:∀ i j o,cr i j=some o→cr' i j=o):∀ {l:List (Nat × Nat)} {acc:List Pr} {r:List Pr × Int},Ys cr l acc=some r→Ib cr' l acc=r
 | [],acc,r,e=>by
  cases e
  rfl
 | q :: l,acc,r,e=>by
  unfold Ys at e
  unfold Ib
  cases h1:cr q.1 q.2 with
  | none=>rw [h1] at e;cases e
  | some o =>
   rw [h1] at e
   rw [h _ _ _ h1]
   cases o with
   | none=>simpa using e
   | some x =>
    simp only at e ⊢
    split at e
    ·rename_i hh;rw [if_pos hh];simpa using e
    ·rename_i hh;rw [if_neg hh];exact TC h e
def Ze (f:Nat) (R:List Pr) (i j:Nat):Option (Option (List Pr)):=match R[i]?,R[j]? with
 | some a,some b=>Qz f (Ew 88 1 a) (Ew 89 1 b) (decide (i=j))
 | _,_=>some none
theorem ZH {f:Nat} {R:List Pr} (i j:Nat) (o:Option (List Pr)) (h:Ze f R i j=some o):crR R 88 89 1 i j=o:=by
 unfold Ze at h
 unfold crR
 split at h
 ·rename_i a b h1 h2
  rw [h1,h2]
  exact D6 h
 ·rename_i hno
  cases h
  split
  ·rename_i a b h1 h2
   exact absurd h2 (hno a b h1)
  ·rfl
def S8 (f:Nat) (R:List Pr):Option (List Pr × Int):=if R.length=0 then some ([],0) else Ys (Ze f R) (Ge R.length 0 0) []
theorem VT {f:Nat} {R:List Pr} {r:List Pr × Int} (h:S8 f R=some r):EG R 88 89 1=r:=by
 unfold S8 at h
 unfold EG
 split at h
 ·rename_i q;rw [if_pos q];simpa using h
 ·rename_i q;rw [if_neg q];exact TC ZH h
def YD (f:Nat) (R:List Pr):Bool:=match S8 f R with
 | none=>false
 | some (l,e)=>decide (e=0) && (let q:=N1 R 200 l;q.1 && decide (q.2=0))
theorem XY {f:Nat} {R:List Pr} (h:YD f R=true):TU R 200=(true,0):=by
 unfold YD at h
 split at h
 ·cases h
 ·rename_i l e hp
  simp only [Bool.and_eq_true,decide_eq_true_eq] at h
  unfold TU
  rw [VT hp]
  simp only
  rw [if_pos h.1,if_pos (by decide)]
  exact Prod.ext h.2.1 h.2.2
def Ws (f:Nat) (row:List ByteArray) (eqs R:List Pr) (e:Int):Bool :=
 if e ≠ 0 then R.isEmpty && (decide (e=14) || decide (e=9) || decide (e=8) || decide (e=3))
 else decide (BG R=0) && YD f R && R.all (fun r=>paF row (r.1.size + r.2.size + 1) r.1 r.2) && !R.isEmpty && eqs.all fun q=>(Ld R q.1 q.2 200).1 && decide ((Ld R q.1 q.2 200).2=0)
def MA (f:Nat) (row:List ByteArray) (eqs:List Pr):Bool:=match FZ f row 60 [] eqs with
 | none=>false
 | some (R,e)=>Ws f row eqs R e
theorem Vn {f:Nat} {row:List ByteArray} {eqs:List Pr} (h:MA f row eqs=true) {n:Nat} (hn:n≤60):∃ R e,FZ f row n [] eqs=some (R,e)∧Ws f row eqs R e=true:=by
 unfold MA at h
 split at h
 ·cases h
 ·rename_i R e hc
  rw [show 60=n + (60 - n) by omega] at hc
  rcases LT n (60 - n) [] eqs _ hc with h1 | h1
  ·exact ⟨R,e,h1,h⟩
  ·exact ⟨[],9,h1,by rfl⟩

set_option maxRecDepth 1000000 in
theorem Qh:∀ k,k < 8→∀ j,j < 6→MA 4000 (NT.getD j []) (Y4.getD (k + 1) [])=true:=by decide +kernel

set_option maxRecDepth 1000000 in
theorem PM:∀ j,j < 6→MA 4000 (NT.getD j []) (Y4.getD 0 [])=true:=by decide +kernel

end Go.Proofs.YtbhnmjkmieiadaaGreatDoor
