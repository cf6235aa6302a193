/-
  Part 9 of the texts. Conditions: none.
-/
import Derived.Test.YtbhnmjkmieiadaaGreatDoorTCo8
namespace Go.Proofs.YtbhnmjkmieiadaaGreatDoor
open Go Go.RowKit
set_option linter.unusedVariables false
set_option linter.unusedSimpArgs false
set_option maxHeartbeats 2000000
def Stk (xs:List (List SV)) (l:List Pr):Prop:=xs.take l.length=l.reverse.map As∧l.length≤xs.length
theorem Stk.push {xs:List (List SV)} {l:List Pr} (h:Stk xs l) (p:Pr):Stk (xs.take l.length ++ [As p] ++ xs.drop (l.length + 1)) (p :: l):=by
 obtain ⟨h1,h2⟩:=h
 have hl:(xs.take l.length).length=l.length:=by rw [List.length_take];omega
 refine ⟨?_,by simp only [List.length_append,List.length_take,List.length_cons,List.length_nil];omega⟩
 rw [List.length_cons,List.take_append_of_le_length (by rw [List.length_append,hl];simp),List.take_of_length_le (by rw [List.length_append,hl];simp),h1,List.reverse_cons,List.map_append]
 rfl
theorem Stk.pushLen {xs:List (List SV)} {l:List Pr} (h:Stk xs l) (p:Pr):(xs.take l.length ++ [As p] ++ xs.drop (l.length + 1)).length=if xs.length≤l.length + 1 then l.length + 1 else xs.length:=by
 have:=h.2
 simp only [List.length_append,List.length_take,List.length_drop,List.length_cons,List.length_nil]
 split <;> omega
theorem Stk.top {xs:List (List SV)} {p:Pr} {l:List Pr} (h:Stk xs (p :: l)):xs[l.length]?=some (As p):=by
 obtain ⟨h1,h2⟩:=h
 have e:(xs.take (p :: l).length)[l.length]?=xs[l.length]?:=by rw [List.getElem?_take,if_pos (by simp)]
 rw [← e,h1,List.reverse_cons,List.map_append,List.getElem?_append_right (by simp)]
 simp
theorem Stk.pop {xs:List (List SV)} {p:Pr} {l:List Pr} (h:Stk xs (p :: l)):Stk xs l:=by
 obtain ⟨h1,h2⟩:=h
 rw [List.length_cons] at h2
 refine ⟨?_,by omega⟩
 have e:xs.take l.length=(xs.take (p :: l).length).take l.length:=by rw [List.take_take,List.length_cons,Nat.min_eq_left (by omega)]
 rw [e,h1,List.reverse_cons,List.map_append,List.take_append_of_le_length (by simp),List.take_of_length_le (by simp)]
def Es (s:List Bd) (x:ByteArray) (t:Tm) (i:Nat):List Bd:=(s.take i).map (fun b=>(b.1,b.2.on [(x,t)])) ++ s.drop i
theorem Sx (s:List Bd) (x:ByteArray) (t:Tm) (i:Nat):(Es s x t i).length=s.length:=by
 have:=congrArg List.length (List.take_append_drop i s)
 unfold Es
 rw [List.length_append] at this ⊢
 rw [List.length_map]
 exact this
theorem Rn {s:List Bd} {x:ByteArray} {t:Tm} {i:Nat} {b:Bd} (h:s[i]?=some b):(Es s x t i)[i]?=some b:=by
 have:=Cf h
 unfold Es
 rw [List.getElem?_append_right (by rw [List.length_map,List.length_take];omega),List.length_map,List.length_take,Nat.min_eq_left (by omega),Nat.sub_self,BQ h]
 rfl
theorem Ry {s:List Bd} {x:ByteArray} {t:Tm} {i:Nat} {b:Bd} (h:s[i]?=some b):(Es s x t i).set i (b.1,b.2.on [(x,t)])=Es s x t (i + 1):=by
 have:=Cf h
 unfold Es
 rw [List.set_append_right _ _ (by rw [List.length_map,List.length_take];omega),List.length_map,List.length_take,Nat.min_eq_left (by omega),Nat.sub_self,BQ h,Au h,List.map_append,List.append_assoc]
 rfl
theorem Rg (s:List Bd) (x:ByteArray) (t:Tm):Es s x t s.length=s.map fun b=>(b.1,b.2.on [(x,t)]):=by
 unfold Es
 rw [List.take_length,List.drop_length,List.append_nil]
theorem Tz (U:List ByteArray) (hU:U.length≤20000) (C0:Nat) (hC0:C0≤100000000000) (n:Nat) (l:List Pr) (r:List Bd × Int) (hr:C3 n [] l r) (hg:Co U C0 [] l):AY Tryz.prog 86 [CI l] (.tup [Ru r.1,AN r.2]):=by
 have hll:l.length≤100000000001:=by have:=hg.stack;omega
 refine L6.ac fun C hC=>?_
 unfold Gj
 repeat' with_reducible first | refine W ?_ | refine Z0 ?_ | ((first | refine Wo fun K hK=>?_ | refine Wp ?_ | refine Wq ?_ | refine Wr ?_);(try simp only [go_sem,fN,seval,eT,iR,dT,dF,nL]);(repeat refine Ai ?_);(try (refine hK _ ?_;clear hK K));try refine iC ?_)
 refine IWP.ghost (Aa.ownM 4 500 82 3 rfl rfl (by rw [hC];decide)) ?_
 refine IWP.ghost (Aa.ownM 5 501 40 4 rfl rfl (by rw [hC];decide)) ?_
 refine IWP.ghost (Aa.toPart 5 501 0 rfl (by rw [hC];decide)) ?_
 refine IWP.loop (fun m x=>∃ (k:Nat) (xs:List (List SV)),k≤l.length∧m=k∧Stk xs (l.drop k)∧x.env 0=CI l∧x.env 4=.one (.row 500 0)∧x.env 5=.one (.part 501 (l.drop k).length xs.length)∧x.env 6=.one (.st (.int .i64 ((k:Int) - 1)))∧x.S 500=some (BW [])∧x.S 501=some (.mrow 40 4 xs)∧x.S 7=none∧x.S 8=none∧x.S 10=none) l.length ⟨l.length,[],Nat.le_refl _,rfl,?_⟩ ?_
 ·rw [List.drop_length]
  exact ⟨⟨rfl,Nat.le_refl _⟩,rfl,rfl,rfl,rfl,rfl,rfl,rfl,rfl,rfl⟩
 ·rintro k ⟨env,S⟩ ⟨_,xs,hk,rfl,hstk,e0,e4,e5,e6,s500,s501,s7,s8,s10⟩
  simp only at e0 e4 e5 e6 s500 s501 s7 s8 s10
  by_cases hk0:0≤(k:Int) - 1
  ·obtain ⟨k,rfl⟩:∃ q,k=q + 1:=⟨k - 1,by omega⟩
   obtain ⟨p,hp⟩:=Aj (show k < l.length by omega)
   have hz:(((k + 1:Nat):Int) - 1).toNat=k:=by omega
   have hp':l[(((k + 1:Nat):Int) - 1).toNat]?=some p:=by rw [hz];exact hp
   have hdl:(List.drop (k + 1) l).length≤100000000001:=by rw [List.length_drop];omega
   repeat' with_reducible first | refine W ?_ | refine Z0 ?_ | ((first | refine Wo fun K hK=>?_ | refine Wp ?_ | refine Wq ?_ | refine Wr ?_);(try simp only [go_sem,fN,seval,eT,iR,e0,e4,e5,e6,s500,s501,s7,s8,s10,hk0,hz,hp,As,dT,dF,nL]);(repeat refine Ai ?_);(try (refine hK _ ?_;clear hK K));try refine iC ?_)
   refine AH ⟨k,by omega,k,_,by omega,rfl,by rw [BQ hp];exact hstk.push p,?_⟩
   simp only [go_sem,fN,seval,eT,iR,e0,e4,e5,e6,s500,s7,s8,s10]
   have hpl:(List.take (List.drop (k + 1) l).length xs).length + 1 + (List.drop ((List.drop (k + 1) l).length + 1) xs).length=if xs.length≤(List.drop (k + 1) l).length + 1 then (List.drop (k + 1) l).length + 1 else xs.length:=by
    have:=hstk.pushLen p
    simpa only [List.length_append,List.length_cons,List.length_nil,Nat.zero_add] using this
   rw [hpl,BQ hp]
   refine ⟨rfl,?_,rfl⟩
   congr 3
   omega
  ·obtain rfl:k=0:=by omega
   rw [List.drop_zero] at hstk e5
   repeat' with_reducible first | refine W ?_ | refine Z0 ?_ | ((first | refine Wo fun K hK=>?_ | refine Wp ?_ | refine Wq ?_ | refine Wr ?_);(try simp only [go_sem,fN,seval,eT,iR,e6,hk0,dT,dF,nL]);(repeat refine Ai ?_);(try (refine hK _ ?_;clear hK K));try refine iC ?_)
   refine IWP.loopD [7,8,10] (fun m x=>∃ s l xs,C3 m s l r∧Co U C0 s l∧Stk xs l∧x.env 4=.one (.row 500 s.length)∧x.env 5=.one (.part 501 l.length xs.length)∧x.S 500=some (BW s)∧x.S 501=some (.mrow 40 4 xs)∧x.S 7=none∧x.S 8=none∧x.S 10=none) n ⟨[],l,xs,hr,hg,hstk,?_⟩ ?_
   ·simp only [go_sem,fN,seval,eT,iR,e4,e5,s500,s501,s7,s8,s10]
   clear hr hg hstk e0 e4 e5 e6 s500 s501 s7 s8 s10 hll hk hk0 env S xs
   rintro m ⟨env,S⟩ ⟨s,l,xs,hr,hg,hstk,e4,e5,s500,s501,s7,s8,s10⟩
   simp only at e4 e5 s500 s501 s7 s8 s10
   have hsl:s.length≤20000:=Nat.le_trans hg.len hU
   cases l with
   | nil =>
    cases hr
    refine IWP.ghost (Aa.share (id:=500) s500) ?_
    repeat' with_reducible first | refine W ?_ | refine Z0 ?_ | ((first | refine Wo fun K hK=>?_ | refine Wp ?_ | refine Wq ?_ | refine Wr ?_);(try simp only [go_sem,fN,seval,eT,iR,e4,e5,s501,dT,dF,nL]);(repeat refine Ai ?_);(try (refine hK _ ?_;clear hK K));try refine iC ?_)
    simp only [go_sem,fN,seval,AR,AS.result,AB,AD,AL]
   | cons p l =>
    have hinv:=VH hr
    obtain ⟨hc1,hc2⟩:=hg.lchk p (by simp)
    have hUp:=hg.lU p (by simp)
    obtain ⟨hz1,hz2⟩:=hg.lsiz p (by simp)
    obtain ⟨a1,a2,a3⟩:=onU hg hc1 fun y=>(hUp y).1
    obtain ⟨b1,b2,b3⟩:=onU hg hc2 fun y=>(hUp y).2
    have hl0:(0:Int) < ((l.length + 1:Nat):Int):=by omega
    have hl1:(((l.length + 1:Nat):Int) - 1)=(l.length:Int):=by omega
    have hl2:(l.length:Int) < ((l.length + 1:Nat):Int):=by omega
    have hl3:(l.length:Int)≤((l.length + 1:Nat):Int):=by omega
    have hlb:l.length≤100000000000:=by have:=hg.stack;rw [List.length_cons] at this;omega
    have htop:=hstk.top
    have hstk':=hstk.pop
    rw [List.length_cons] at e5
    have onc:∀ t:Tm,t.chk=0→∀ T:AA,(∀ q ∈ [(500,BW s)],T q.1=some q.2)→Ah Tryz.prog 110 [.one (.row (up1 500) s.length),aTm t] (upS T) (.tup [aTm (BD s t).1,Ad (BD s t).2]) (upS T) :=
     fun t ht T hT=>AAG s (by omega) hg.ord t hg.var ht (up1 500) (Ap 500) (upS T) (by rw [At,hT _ (List.mem_singleton.2 rfl)];rfl)
    by_cases ha:(p.1.on s).size≤2000
    case neg =>
     have he:BD s p.1=(Tm.nil,false):=by unfold BD;rw [if_neg ha]
     have hst:CU s p=.err 8:=by unfold CU;rw [if_pos (by omega)]
     repeat' with_reducible first | refine W ?_ | refine Z0 ?_ | ((first | refine Wo fun K hK=>?_ | refine Wp ?_ | refine Wq ?_ | refine Wr ?_);(try simp only [go_sem,fN,seval,eT,iR,e4,e5,s500,s501,s7,s8,s10,hl0,hl1,hl2,hl3,htop,As,dT,dF,nL]);(repeat refine Ai ?_);(try (refine hK _ ?_;clear hK K));try refine iC ?_)
     refine ⟨_,[(500,BW s)],BV (by (simp only [go_sem,fN,seval,eT,iR,s500])),onc p.1 hc1,?_⟩
     repeat' with_reducible first | refine W ?_ | refine Z0 ?_ | ((first | refine Wo fun K hK=>?_ | refine Wp ?_ | refine Wq ?_ | refine Wr ?_);(try simp only [go_sem,fN,seval,eT,iR,he,e4,e5,s8,s10,dT,dF,nL]);(repeat refine Ai ?_);(try (refine hK _ ?_;clear hK K));try refine iC ?_)
     refine ⟨_,[(500,BW s)],BV (by (simp only [go_sem,fN,seval,eT,iR,s500])),onc p.2 hc2,?_⟩
     repeat' with_reducible first | refine W ?_ | refine Z0 ?_ | ((first | refine Wo fun K hK=>?_ | refine Wp ?_ | refine Wq ?_ | refine Wr ?_);(try simp only [go_sem,fN,seval,eT,iR,he,e4,e5,s8,s10,dT,dF,nL]);(repeat refine Ai ?_);(try (refine hK _ ?_;clear hK K));try refine iC ?_)
     simp only [go_sem,fN,seval,AR,AS.result,AB,AD,AL]
     rcases hinv with ⟨e,h1,rfl⟩ | ⟨s',ps,q,h1,_⟩
     ·rw [hst] at h1
      cases h1
      rfl
     ·rw [hst] at h1
      cases h1
    by_cases hb:(p.2.on s).size≤2000
    case neg =>
     have he:BD s p.1=(p.1.on s,true):=by unfold BD;rw [if_pos ha]
     have he2:BD s p.2=(Tm.nil,false):=by unfold BD;rw [if_neg hb]
     have hst:CU s p=.err 8:=by unfold CU;rw [if_pos (by omega)]
     repeat' with_reducible first | refine W ?_ | refine Z0 ?_ | ((first | refine Wo fun K hK=>?_ | refine Wp ?_ | refine Wq ?_ | refine Wr ?_);(try simp only [go_sem,fN,seval,eT,iR,e4,e5,s500,s501,s7,s8,s10,hl0,hl1,hl2,hl3,htop,As,dT,dF,nL]);(repeat refine Ai ?_);(try (refine hK _ ?_;clear hK K));try refine iC ?_)
     refine ⟨_,[(500,BW s)],BV (by (simp only [go_sem,fN,seval,eT,iR,s500])),onc p.1 hc1,?_⟩
     repeat' with_reducible first | refine W ?_ | refine Z0 ?_ | ((first | refine Wo fun K hK=>?_ | refine Wp ?_ | refine Wq ?_ | refine Wr ?_);(try simp only [go_sem,fN,seval,eT,iR,he,e4,e5,s8,s10,dT,dF,nL]);(repeat refine Ai ?_);(try (refine hK _ ?_;clear hK K));try refine iC ?_)
     refine ⟨_,[(500,BW s)],BV (by (simp only [go_sem,fN,seval,eT,iR,s500])),onc p.2 hc2,?_⟩
     repeat' with_reducible first | refine W ?_ | refine Z0 ?_ | ((first | refine Wo fun K hK=>?_ | refine Wp ?_ | refine Wq ?_ | refine Wr ?_);(try simp only [go_sem,fN,seval,eT,iR,he,he2,e4,e5,s8,s10,dT,dF,nL]);(repeat refine Ai ?_);(try (refine hK _ ?_;clear hK K));try refine iC ?_)
     simp only [go_sem,fN,seval,AR,AS.result,AB,AD,AL]
     rcases hinv with ⟨e,h1,rfl⟩ | ⟨s',ps,q,h1,_⟩
     ·rw [hst] at h1
      cases h1
      rfl
     ·rw [hst] at h1
      cases h1
    have he:BD s p.1=(p.1.on s,true):=by unfold BD;rw [if_pos ha]
    have he2:BD s p.2=(p.2.on s,true):=by unfold BD;rw [if_pos hb]
    have hta:QE U s (p.1.on s):=⟨a1,ha,a2,a3⟩
    have htb:QE U s (p.2.on s):=⟨b1,hb,b2,b3⟩
    repeat' with_reducible first | refine W ?_ | refine Z0 ?_ | ((first | refine Wo fun K hK=>?_ | refine Wp ?_ | refine Wq ?_ | refine Wr ?_);(try simp only [go_sem,fN,seval,eT,iR,e4,e5,s500,s501,s7,s8,s10,hl0,hl1,hl2,hl3,htop,As,dT,dF,nL]);(repeat refine Ai ?_);(try (refine hK _ ?_;clear hK K));try refine iC ?_)
    refine ⟨_,[(500,BW s)],BV (by (simp only [go_sem,fN,seval,eT,iR,s500])),onc p.1 hc1,?_⟩
    repeat' with_reducible first | refine W ?_ | refine Z0 ?_ | ((first | refine Wo fun K hK=>?_ | refine Wp ?_ | refine Wq ?_ | refine Wr ?_);(try simp only [go_sem,fN,seval,eT,iR,he,e4,e5,s8,s10,dT,dF,nL]);(repeat refine Ai ?_);(try (refine hK _ ?_;clear hK K));try refine iC ?_)
    refine ⟨_,[(500,BW s)],BV (by (simp only [go_sem,fN,seval,eT,iR,s500])),onc p.2 hc2,?_⟩
    repeat' with_reducible first | refine W ?_ | refine Z0 ?_ | ((first | refine Wo fun K hK=>?_ | refine Wp ?_ | refine Wq ?_ | refine Wr ?_);(try simp only [go_sem,fN,seval,eT,iR,he,he2,e4,e5,s8,s10,dT,dF,nL]);(repeat refine Ai ?_);(try (refine hK _ ?_;clear hK K));try refine iC ?_)
    refine ⟨_,Al _,?_⟩
    by_cases hsame:AP (p.1.on s).name=true∧(p.1.on s).name=(p.2.on s).name
    ·have hst:CU s p=.go s []:=by unfold CU;rw [if_neg (by omega),if_pos hsame]
     have hsv:AP (p.2.on s).name=true:=by rw [← hsame.2];exact hsame.1
     repeat' with_reducible first | refine W ?_ | refine Z0 ?_ | ((first | refine Wo fun K hK=>?_ | refine Wp ?_ | refine Wq ?_ | refine Wr ?_);(try simp only [go_sem,fN,seval,eT,iR,hsame.1,hsv,hsame.2,e4,e5,dT,dF,nL]);(repeat refine Ai ?_);(try (refine hK _ ?_;clear hK K));try refine iC ?_)
     rcases hinv with ⟨e,h1,_⟩ | ⟨s',ps,q,h1,h2,h3⟩
     ·rw [hst] at h1
      cases h1
     rw [hst] at h1
     cases h1
     refine AH ⟨q,h2,s,l,xs,h3,hg.tail,hstk',?_⟩
     simp only [go_sem,fN,seval,AS.drop,Ac,AC.clears,AC.clear,AC.highs,AC.high,zD,AV.purge,AV.purges,AC.purge,AK.purge,Nat.reduceBEq,eT,iR,e4,s500,s501]
    by_cases hvv:AP (p.1.on s).name=true ∨ AP (p.2.on s).name=true
    ·apply AAE
     ·intro rest
      cases hv:AP (p.1.on s).name with
      | true =>
       have hne:¬ (p.1.on s).name=(p.2.on s).name:=fun h=>hsame ⟨hv,h⟩
       repeat' with_reducible first | refine W ?_ | refine Z0 ?_ | ((first | refine Wo fun K hK=>?_ | refine Wp ?_ | refine Wq ?_ | refine Wr ?_);(try simp only [go_sem,fN,seval,eT,iR,hv,hne,dT,dF,nL]);(repeat refine Ai ?_);(try (refine hK _ ?_;skip));try refine iC ?_)
       refine ⟨_,Al _,?_⟩
       repeat' with_reducible first | refine W ?_ | refine Z0 ?_ | ((first | refine Wo fun K hK=>?_ | refine Wq ?_ | refine Wr ?_);(try simp only [go_sem,fN,seval,eT,iR,hv]);(repeat refine Ai ?_);(try (refine hK _ ?_;skip)))
       with_reducible refine Wp ?_
       simp only [go_sem,fN,seval,true_implies,false_implies,implies_true,dT,dF,nL]
       (try with_reducible refine iC ?_)
       refine IWP.mid (fun x=>∃ u t,Pk U s p u t∧AP u.name=true∧x.env 4=.one (.row 500 s.length)∧x.env 5=.one (.part 501 l.length xs.length)∧x.env 8=.one (.ptr 8 1 0 0)∧x.env 10=.one (.ptr 10 1 0 0)∧x.S 500=some (BW s)∧x.S 501=some (.mrow 40 4 xs)∧x.S 8=some (Yl u)∧x.S 10=some (Yl t)) ?_ rest
       repeat' with_reducible first | refine W ?_ | refine Z0 ?_ | ((first | refine Wo fun K hK=>?_ | refine Wp ?_ | refine Wq ?_ | refine Wr ?_);(try simp only [go_sem,fN,seval,eT,iR,dT,dF,nL]);(repeat refine Ai ?_);(try (refine hK _ ?_;skip));try refine iC ?_)
       refine ⟨_,Al _,?_⟩
       repeat' with_reducible first | refine W ?_ | refine Z0 ?_ | ((first | refine Wo fun K hK=>?_ | refine Wp ?_ | refine Wq ?_ | refine Wr ?_);(try simp only [go_sem,fN,seval,eT,iR,hv,dT,dF,nL]);(repeat refine Ai ?_);(try (refine hK _ ?_;skip));try refine iC ?_)
       refine ⟨rfl,_,_,YG hta htb hsame (.inl hv),hv,?_⟩
       simp only [go_sem,fN,seval,eT,iR,e4,s500,s501]
      | false =>
       have hw:AP (p.2.on s).name=true:=hvv.resolve_left (by rw [hv];simp)
       repeat' with_reducible first | refine W ?_ | refine Z0 ?_ | ((first | refine Wo fun K hK=>?_ | refine Wp ?_ | refine Wq ?_ | refine Wr ?_);(try simp only [go_sem,fN,seval,eT,iR,hv,dT,dF,nL]);(repeat refine Ai ?_);(try (refine hK _ ?_;skip));try refine iC ?_)
       refine ⟨_,Al _,?_⟩
       repeat' with_reducible first | refine W ?_ | refine Z0 ?_ | ((first | refine Wo fun K hK=>?_ | refine Wp ?_ | refine Wq ?_ | refine Wr ?_);(try simp only [go_sem,fN,seval,eT,iR,hv,dT,dF,nL]);(repeat refine Ai ?_);(try (refine hK _ ?_;skip));try refine iC ?_)
       refine ⟨_,Al _,?_⟩
       repeat' with_reducible first | refine W ?_ | refine Z0 ?_ | ((first | refine Wo fun K hK=>?_ | refine Wq ?_ | refine Wr ?_);(try simp only [go_sem,fN,seval,eT,iR,hv,hw]);(repeat refine Ai ?_);(try (refine hK _ ?_;skip)))
       with_reducible refine Wp ?_
       simp only [go_sem,fN,seval,true_implies,false_implies,implies_true,dT,dF,nL]
       (try with_reducible refine iC ?_)
       refine IWP.mid (fun x=>∃ u t,Pk U s p u t∧AP u.name=true∧x.env 4=.one (.row 500 s.length)∧x.env 5=.one (.part 501 l.length xs.length)∧x.env 8=.one (.ptr 8 1 0 0)∧x.env 10=.one (.ptr 10 1 0 0)∧x.S 500=some (BW s)∧x.S 501=some (.mrow 40 4 xs)∧x.S 8=some (Yl u)∧x.S 10=some (Yl t)) ?_ rest
       repeat' with_reducible first | refine W ?_ | refine Z0 ?_ | ((first | refine Wo fun K hK=>?_ | refine Wp ?_ | refine Wq ?_ | refine Wr ?_);(try simp only [go_sem,fN,seval,eT,iR,dT,dF,nL]);(repeat refine Ai ?_);(try (refine hK _ ?_;skip));try refine iC ?_)
       refine ⟨_,Al _,?_⟩
       repeat' with_reducible first | refine W ?_ | refine Z0 ?_ | ((first | refine Wo fun K hK=>?_ | refine Wp ?_ | refine Wq ?_ | refine Wr ?_);(try simp only [go_sem,fN,seval,eT,iR,hv,dT,dF,nL]);(repeat refine Ai ?_);(try (refine hK _ ?_;skip));try refine iC ?_)
       refine ⟨rfl,_,_,YK hta htb hv hw,hw,?_⟩
       simp only [go_sem,fN,seval,eT,iR,e4,s500,s501]
     clear e4 e5 s500 s501 s7 s8 s10
     rintro ⟨env,S⟩ ⟨u,t,⟨hu,ht,hst⟩,hv,e4,e5,e8,e10,s500,s501,s8,s10⟩
     simp only at e4 e5 e8 e10 s500 s501 s8 s10
     have hst:CU s p=EQ s u.name t:=by
      rcases hst with ⟨_,h⟩ | ⟨h,_⟩
      ·exact h
      ·rw [hv] at h;cases h
     rw [hst] at hinv
     repeat' with_reducible first | refine W ?_ | refine Z0 ?_ | ((first | refine Wo fun K hK=>?_ | refine Wp ?_ | refine Wq ?_ | refine Wr ?_);(try simp only [go_sem,fN,seval,eT,iR,e4,e5,e8,e10,s500,s501,s8,s10,dT,dF,nL]);(repeat refine Ai ?_);(try (refine hK _ ?_;clear hK K));try refine iC ?_)
     refine ⟨_,YJ u.name t,?_⟩
     cases ho:occ u.name t with
     | true =>
      have hbv:EQ s u.name t=.err 6:=by unfold EQ;rw [if_pos ho]
      repeat' with_reducible first | refine W ?_ | refine Z0 ?_ | ((first | refine Wo fun K hK=>?_ | refine Wp ?_ | refine Wq ?_ | refine Wr ?_);(try simp only [go_sem,fN,seval,eT,iR,ho,dT,dF,nL]);(repeat refine Ai ?_);(try (refine hK _ ?_;clear hK K));try refine iC ?_)
      simp only [go_sem,fN,seval,AR,AS.result,AB,AD,AL]
      rcases hinv with ⟨e,h1,rfl⟩ | ⟨s',ps,q,h1,_⟩
      ·rw [hbv] at h1
       cases h1
       rfl
      ·rw [hbv] at h1
       cases h1
     | false =>
      repeat' with_reducible first | refine W ?_ | refine Z0 ?_ | ((first | refine Wo fun K hK=>?_ | refine Wp ?_ | refine Wq ?_ | refine Wr ?_);(try simp only [go_sem,fN,seval,eT,iR,ho,e4,e5,e8,e10,s500,s501,s8,s10,dT,dF,nL]);(repeat refine Ai ?_);(try (refine hK _ ?_;clear hK K));try refine iC ?_)
      refine IWP.loop (fun m x=>∃ i,i≤s.length∧m=s.length - i∧(∀ c ∈ s.take i,(c.2.on [(u.name,t)]).size≤2000)∧x.env 4=.one (.row 500 s.length)∧x.env 5=.one (.part 501 l.length xs.length)∧x.env 12=.one (.full [Cx (u.name,t)])∧x.env 121=AN s.length∧x.env 122=AN i∧x.S 500=some (BW (Es s u.name t i))∧x.S 501=some (.mrow 40 4 xs)) s.length ⟨0,Nat.zero_le _,rfl,by simp,?_⟩ ?_
      ·simp only [go_sem,fN,seval,eT,iR,e4,e5,s500,s501,Cx]
       rfl
      rintro mm ⟨env,S⟩ ⟨i,hi,rfl,h20,e4,e5,e12,e121,e122,s500,s501⟩
      simp only at e4 e5 e12 e121 e122 s500 s501
      have hhl:=Sx s u.name t i
      by_cases hlt:(i:Int) < s.length
      ·have hlt':i < s.length:=by omega
       obtain ⟨b,hb⟩:=Aj hlt'
       have hbz:=hg.siz b (AU hb)
       have hbh:=Rn (x:=u.name) (t:=t) hb
       have hone:∀ c ∈ ([(u.name,t)]:List Bd),AP c.1=true:=by simp [hv]
       repeat' with_reducible first | refine W ?_ | refine Z0 ?_ | ((first | refine Wo fun K hK=>?_ | refine Wp ?_ | refine Wq ?_ | refine Wr ?_);(try simp only [go_sem,fN,seval,eT,iR,e4,e5,e12,e121,e122,s500,s501,hlt,hlt',hhl,hbh,Cx,dT,dF,nL]);(repeat refine Ai ?_);(try (refine hK _ ?_;clear hK K));try refine iC ?_)
       refine ⟨_,Lg [(u.name,t)] (by simp) (List.pairwise_singleton _ _) b.2 hone (hg.chk b (AU hb)),?_⟩
       by_cases hz:(b.2.on [(u.name,t)]).size≤2000
       ·have hon:BD [(u.name,t)] b.2=(b.2.on [(u.name,t)],true):=by unfold BD;rw [if_pos hz]
        repeat' with_reducible first | refine W ?_ | refine Z0 ?_ | ((first | refine Wo fun K hK=>?_ | refine Wp ?_ | refine Wq ?_ | refine Wr ?_);(try simp only [go_sem,fN,seval,eT,iR,hon,e4,e5,e12,e121,e122,s500,s501,hlt,hlt',hhl,hbh,Cx,dT,dF,nL]);(repeat refine Ai ?_);(try (refine hK _ ?_;clear hK K));try refine iC ?_)
        refine AH ⟨s.length - (i + 1),by omega,i + 1,by omega,rfl,fun c hc=>?_,?_⟩
        ·rw [Au hb] at hc
         rcases List.mem_append.1 hc with hc | hc
         ·exact h20 c hc
         ·rw [List.mem_singleton.1 hc];exact hz
        ·simp only [go_sem,fN,seval,eT,iR,e4,e5,e12,e121,e122,s500,s501]
         refine ⟨rfl,by congr 3,?_⟩
         show AK.mrow _ _ (((Es s u.name t i).map Cx).set i (Cx (b.1,b.2.on [(u.name,t)])))=_
         rw [← List.map_set,Ry hb]
       ·have hon:BD [(u.name,t)] b.2=(Tm.nil,false):=by unfold BD;rw [if_neg hz]
        have hbv:EQ s u.name t=.err 8:=by
         unfold EQ
         rw [if_neg (by rw [ho];simp),if_neg]
         intro hall
         have:=List.all_eq_true.1 hall b (AU hb)
         exact hz (by simpa using this)
        repeat' with_reducible first | refine W ?_ | refine Z0 ?_ | ((first | refine Wo fun K hK=>?_ | refine Wp ?_ | refine Wq ?_ | refine Wr ?_);(try simp only [go_sem,fN,seval,eT,iR,hon,e4,e5,e12,e121,e122,s500,s501,hlt,hlt',hhl,hbh,Cx,dT,dF,nL]);(repeat refine Ai ?_);(try (refine hK _ ?_;clear hK K));try refine iC ?_)
        simp only [go_sem,fN,seval,AR,AS.result,AB,AD,AL]
        rcases hinv with ⟨e,h1,rfl⟩ | ⟨s',ps,q,h1,_⟩
        ·rw [hbv] at h1
         cases h1
         rfl
        ·rw [hbv] at h1
         cases h1
      ·obtain rfl:i=s.length:=by omega
       rw [List.take_of_length_le (Nat.le_refl _)] at h20
       rw [Rg] at s500
       have hbv:EQ s u.name t=.go (Bb (s.map (fun b=>(b.1,b.2.on [(u.name,t)])) ++ [(u.name,t)])) []:=by
        unfold EQ
        rw [if_neg (by rw [ho];simp),if_pos]
        exact List.all_eq_true.2 fun b hb=>by simpa using h20 b hb
       obtain ⟨hg',_⟩:=HU hg (hst.trans hbv)
       rcases hinv with ⟨e,h1,_⟩ | ⟨s',ps,q,h1,h2,h3⟩
       ·rw [hbv] at h1
        cases h1
       rw [hbv] at h1
       cases h1
       have hnamed:=Ef (Cr _) (C8 hg'.ord)
       have hL:(s.map (fun b=>(b.1,b.2.on [(u.name,t)]))).map Cx ++ [[SV.str u.name,SV.str t.name,SV.list (t.args.map Ao)]]=(s.map (fun b=>(b.1,b.2.on [(u.name,t)])) ++ [(u.name,t)]).map Cx:=by
        rw [List.map_append]
        rfl
       have hLl:(s.map (fun b=>(b.1,b.2.on [(u.name,t)])) ++ [(u.name,t)]).length=s.length + 1:=by simp
       have hsort:=fun S h=>SN _ hnamed (by omega) (up1 500) (Ap 500) S h
       have hsl2:=Bc (s.map (fun b=>(b.1,b.2.on [(u.name,t)])) ++ [(u.name,t)])
       rw [hLl] at hsort hsl2
       repeat' with_reducible first | refine W ?_ | refine Z0 ?_ | ((first | refine Wo fun K hK=>?_ | refine Wp ?_ | refine Wq ?_ | refine Wr ?_);(try simp only [go_sem,fN,seval,eT,iR,e4,e5,e12,e121,e122,s500,s501,hlt,Cx,dT,dF,nL]);(repeat refine Ai ?_);(try (refine hK _ ?_;clear hK K));try refine iC ?_)
       rw [hL]
       refine ⟨_,_,hsort _ (by rw [At,AE];rfl),?_⟩
       repeat' with_reducible first | refine W ?_ | refine Z0 ?_ | ((first | refine Wo fun K hK=>?_ | refine Wp ?_ | refine Wq ?_ | refine Wr ?_);(try simp only [go_sem,fN,seval,eT,iR,e5,s501,dT,dF,nL]);(repeat refine Ai ?_);(try (refine hK _ ?_;clear hK K));try refine iC ?_)
       refine AH ⟨q,h2,_,l,xs,h3,hg',hstk',?_⟩
       simp only [go_sem,fN,seval,AS.drop,Ac,AC.clears,AC.clear,AC.highs,AC.high,zD,AV.purge,AV.purges,AC.purge,AK.purge,Nat.reduceBEq,eT,iR,e5,s501,hsl2]
    ·-- two knots
     have hv:AP (p.1.on s).name=false:=by
      cases h:AP (p.1.on s).name with
      | false=>rfl
      | true=>exact absurd (.inl h) hvv
     have hw:AP (p.2.on s).name=false:=by
      cases h:AP (p.2.on s).name with
      | false=>rfl
      | true=>exact absurd (.inr h) hvv
     have hst:CU s p=if (p.1.on s).name=(p.2.on s).name∧(p.1.on s).args.length=(p.2.on s).args.length then .go s ((p.1.on s).args.zip (p.2.on s).args) else .err 5:=by
      unfold CU
      rw [if_neg (by omega),if_neg hsame,if_neg (by rw [hv];simp),if_neg (by rw [hw];simp)]
     rw [hst] at hinv
     have huk:=Tm.length_le (p.1.on s).args
     have hus:=Tm.size_eq (p.1.on s)
     have htk:=Tm.length_le (p.2.on s).args
     have hts:=Tm.size_eq (p.2.on s)
     by_cases hsame2:(p.1.on s).name=(p.2.on s).name∧(p.1.on s).args.length=(p.2.on s).args.length
     ·rw [if_pos hsame2] at hst hinv
      obtain ⟨hg',_⟩:=HU hg hst
      rcases hinv with ⟨e,h1,_⟩ | ⟨s',ps,q,h1,h2,h3⟩
      ·cases h1
      cases h1
      repeat' (first | (with_reducible first | refine W ?_ | refine Z0 ?_ | ((first | refine Wo fun K hK=>?_ | refine Wp ?_ | refine Wq ?_ | refine Wr ?_);(try simp only [go_sem,fN,seval,eT,iR,hv,hw,e4,e5,s500,s501,hsame2.1,hsame2.2,dT,dF,nL]);(repeat refine Ai ?_);(try (refine hK _ ?_;clear hK K));try refine iC ?_)) | refine Cg _ (Al _) ?_)
      have hzl:((p.1.on s).args.zip (p.2.on s).args).length=(p.2.on s).args.length:=by rw [List.length_zip,hsame2.2,Nat.min_self]
      refine IWP.loop (fun m x=>∃ (k:Nat) (xs:List (List SV)) (n1 n2:ByteArray),k≤(p.2.on s).args.length∧m=k∧Stk xs (((p.1.on s).args.zip (p.2.on s).args).drop k ++ l)∧x.env 4=.one (.row 500 s.length)∧x.env 5=.one (.part 501 (((p.1.on s).args.zip (p.2.on s).args).drop k ++ l).length xs.length)∧x.env 8=.one (.ptr 8 1 0 0)∧x.env 10=.one (.ptr 10 1 0 0)∧x.env 14=.one (.st (.int .i64 ((k:Int) - 1)))∧x.S 500=some (BW s)∧x.S 501=some (.mrow 40 4 xs) ∧
        x.S 8=some (.box 37 [.st (.str n1),.st (.list ((p.1.on s).args.map Ao))])∧x.S 10=some (.box 37 [.st (.str n2),.st (.list ((p.2.on s).args.map Ao))])) (p.2.on s).args.length ⟨(p.2.on s).args.length,xs,(p.2.on s).name,(p.2.on s).name,Nat.le_refl _,rfl,?_⟩ ?_
      ·rw [← hzl,List.drop_length,hzl]
       refine ⟨hstk',?_⟩
       simp only [go_sem,fN,seval,eT,iR,e4,s500,s501,hsame2.1]
      rintro k ⟨env,S⟩ ⟨_,xs,n1,n2,hk,rfl,hstk,e4,e5,e8,e10,e14,s500,s501,s8,s10⟩
      simp only at e4 e5 e8 e10 e14 s500 s501 s8 s10
      by_cases hk0:0≤(k:Int) - 1
      ·obtain ⟨k,rfl⟩:∃ q,k=q + 1:=⟨k - 1,by omega⟩
       obtain ⟨x,hx⟩:=Aj (show k < (p.1.on s).args.length by omega)
       obtain ⟨y,hy⟩:=Aj (show k < (p.2.on s).args.length by omega)
       have hxy:((p.1.on s).args.zip (p.2.on s).args)[k]?=some (x,y):=List.getElem?_zip_eq_some.2 ⟨hx,hy⟩
       have hz:(((k + 1:Nat):Int) - 1).toNat=k:=by omega
       have hdl:(((p.1.on s).args.zip (p.2.on s).args).drop (k + 1) ++ l).length≤100000002000:=by rw [List.length_append,List.length_drop,hzl];omega
       generalize hD:((p.1.on s).args.zip (p.2.on s).args).drop (k + 1) ++ l=D at *
       repeat' with_reducible first | refine W ?_ | refine Z0 ?_ | ((first | refine Wo fun K hK=>?_ | refine Wp ?_ | refine Wq ?_ | refine Wr ?_);(try simp only [go_sem,fN,seval,eT,iR,e4,e5,e8,e10,e14,s500,s501,s8,s10,hk0,hz,hx,hy,dT,dF,nL]);(repeat refine Ai ?_);(try (refine hK _ ?_;clear hK K));try refine iC ?_)
       have hcons:((p.1.on s).args.zip (p.2.on s).args).drop k ++ l=(x,y) :: D:=by rw [BQ hxy,List.cons_append,hD]
       have hDl:(((p.1.on s).args.zip (p.2.on s).args).drop k).length + l.length=D.length + 1:=by rw [← List.length_append,hcons,List.length_cons]
       refine AH ⟨k,by omega,k,_,n1,n2,by omega,rfl,by rw [hcons];exact hstk.push (x,y),?_⟩
       have hpl:(List.take D.length xs).length + 1 + (List.drop (D.length + 1) xs).length=if xs.length≤D.length + 1 then D.length + 1 else xs.length:=by
        have:=hstk.pushLen (x,y)
        simpa only [List.length_append,List.length_cons,List.length_nil,Nat.zero_add] using this
       simp only [go_sem,fN,seval,eT,iR,e4,e5,e8,e10,e14,s500,s501,s8,s10,hDl,hpl]
       refine ⟨?_,rfl⟩
       congr 3
       omega
      ·obtain rfl:k=0:=by omega
       rw [List.drop_zero] at hstk e5
       repeat' with_reducible first | refine W ?_ | refine Z0 ?_ | ((first | refine Wo fun K hK=>?_ | refine Wp ?_ | refine Wq ?_ | refine Wr ?_);(try simp only [go_sem,fN,seval,eT,iR,e4,e5,e14,hk0,dT,dF,nL]);(repeat refine Ai ?_);(try (refine hK _ ?_;clear hK K));try refine iC ?_)
       refine AH ⟨q,h2,s,_,xs,h3,hg',hstk,?_⟩
       simp only [go_sem,fN,seval,AS.drop,Ac,AC.clears,AC.clear,AC.highs,AC.high,zD,AV.purge,AV.purges,AC.purge,AK.purge,Nat.reduceBEq,eT,iR,e4,e5,s500,s501]
     ·rw [if_neg hsame2] at hst hinv
      by_cases hn:(p.1.on s).name=(p.2.on s).name
      ·have hl:¬ ((p.1.on s).args.length:Int)=(p.2.on s).args.length:=fun h=>hsame2 ⟨hn,by omega⟩
       repeat' (first | (with_reducible first | refine W ?_ | refine Z0 ?_ | ((first | refine Wo fun K hK=>?_ | refine Wp ?_ | refine Wq ?_ | refine Wr ?_);(try simp only [go_sem,fN,seval,eT,iR,hv,hw,e4,e5,hn,hl,dT,dF,nL]);(repeat refine Ai ?_);(try (refine hK _ ?_;clear hK K));try refine iC ?_)) | refine Cg _ (Al _) ?_)
       simp only [go_sem,fN,seval,AR,AS.result,AB,AD,AL]
       rcases hinv with ⟨e,h1,rfl⟩ | ⟨s',ps,q,h1,_⟩
       ·cases h1
        rfl
       ·cases h1
      ·repeat' (first | (with_reducible first | refine W ?_ | refine Z0 ?_ | ((first | refine Wo fun K hK=>?_ | refine Wp ?_ | refine Wq ?_ | refine Wr ?_);(try simp only [go_sem,fN,seval,eT,iR,hv,hw,e4,e5,hn,dT,dF,nL]);(repeat refine Ai ?_);(try (refine hK _ ?_;clear hK K));try refine iC ?_)) | refine Cg _ (Al _) ?_)
       simp only [go_sem,fN,seval,AR,AS.result,AB,AD,AL]
       rcases hinv with ⟨e,h1,rfl⟩ | ⟨s',ps,q,h1,_⟩
       ·cases h1
        rfl
       ·cases h1

def Ha (l:List Pr):List ByteArray:=l.flatMap fun p=>(p.1.knots ++ p.2.knots).map (·.name)
theorem Qw {l:List Pr} (h:∀ p ∈ l,p.1.size≤200∧p.2.size≤200):(Ha l).length≤400 * l.length:=by
 unfold Ha
 induction l with
 | nil=>simp
 | cons p l ih =>
  have:=ih fun q hq=>h q (by simp [hq])
  have h1:=h p (by simp)
  rw [List.flatMap_cons,List.length_append,List.length_map,List.length_append,Tm.knots_length,Tm.knots_length,List.length_cons]
  omega
theorem K9 (v:Nat) (hv:v≤16000) (s:List Bd):∀ (l:List Pr),l.length≤40→Ju 100000000000 v s l
 | [],_=>trivial
 | p :: l,h=>by
  rw [List.length_cons] at h
  have:=Nat.min_le_right (p.1.on s).size 2000
  exact ⟨by omega,K9 v hv s l (by omega)⟩
theorem DJ {l:List Pr} (h:Bg l=0):(Ha l).length≤20000∧Co (Ha l) 100000000000 [] l:=by
 obtain ⟨h1,h2⟩:=Mp h
 have hc:∀ p ∈ l,(p.1.chk=0∧p.1.size≤200)∧(p.2.chk=0∧p.2.size≤200):=fun p hp=>⟨Tm.may_chk (h2 p hp).1,Tm.may_chk (h2 p hp).2⟩
 have hlen:=Qw fun p hp=>⟨(hc p hp).1.2,(hc p hp).2.2⟩
 refine ⟨by omega,⟨List.Pairwise.nil,by simp,by simp,by simp,by simp,by simp,by simp,fun p hp=>⟨(hc p hp).1.1,(hc p hp).2.1⟩,fun p hp y=>⟨fun hy=>?_,fun hy=>?_⟩,fun p hp=>?_,K9 _ (by simp;omega) [] l h1⟩⟩
 ·unfold occ at hy
  obtain ⟨k,hk,e⟩:=List.any_eq_true.1 hy
  exact List.mem_flatMap.2 ⟨p,hp,List.mem_map.2 ⟨k,by simp [hk],by simpa using e⟩⟩
 ·unfold occ at hy
  obtain ⟨k,hk,e⟩:=List.any_eq_true.1 hy
  exact List.mem_flatMap.2 ⟨p,hp,List.mem_map.2 ⟨k,by simp [hk],by simpa using e⟩⟩
 ·have:=hc p hp
  omega
theorem RE {l:List Pr} (h:Bg l=0):∃ n r,C3 n [] l r:=N5 _ _ [] l (DJ h).2 rfl rfl
theorem Up {l:List Pr} (h:Bg l=0) {n:Nat} {r:List Bd × Int} (hr:C3 n [] l r):AY Tryz.prog 48 [CI l] (.tup [Ru r.1,AN r.2]):=by
 refine MW.ac fun C hC=>?_
 unfold G_
 repeat' (first | (with_reducible first | refine W ?_ | refine Z0 ?_ | ((first | refine Wo fun K hK=>?_ | refine Wp ?_ | refine Wq ?_ | refine Wr ?_);(try simp only [go_sem,fN,seval,eT,iR,h,dT,dF,nL]);(repeat refine Ai ?_);(try (refine hK _ ?_;clear hK K));try refine iC ?_)) | refine Cg _ (JE l) ?_ | refine Cg _ (Tz _ (DJ h).1 _ (Nat.le_refl _) n l r hr (DJ h).2) ?_)
 simp only [go_sem,fN,seval,AR,AS.result,AB,AD,AL]

abbrev vT (x:ByteArray):Tm:=.mk x []
def Sol (s θ:List Bd):Prop:=∀ b ∈ s,b.2.on θ=(vT b.1).on θ
theorem UB {θ:List Bd} {t:Tm} (h:t.args ≠ []):t.on θ=.mk t.name (t.args.map (Tm.on θ)):=Tm.on_knot (.inr h)
theorem K6 {t:Tm} (h:t.args=[]):t=vT t.name:=by
 cases t with
 | mk n xs =>
  change xs=[] at h
  subst h
  rfl
theorem Pc {s θ:List Bd} (hv:∀ b ∈ s,AP b.1=true) (hs:Sol s θ) {t:Tm} (hc:t.chk=0):(t.on s).on θ=t.on θ:=by
 induction hN:SizeOf.sizeOf t using Nat.strongRecOn generalizing t with
 | _ N ih =>
 subst hN
 obtain ⟨c1,c2⟩:=Tm.chk_args hc
 cases hl:lookup s t.name with
 | some x =>
  obtain ⟨b,hb,hbn,hbx⟩:=DM hl
  have h0:=c1 (by rw [← hbn];exact hv b hb)
  rw [Tm.on_leaf hl h0,← hbx,hs b hb,hbn,← K6 h0]
 | none =>
  rw [Tm.on_knot (.inl hl)]
  by_cases h0:t.args=[]
  ·have:(Tm.mk t.name (t.args.map (Tm.on s)))=t:=by
    cases t with
    | mk n xs =>
     change xs=[] at h0
     subst h0
     rfl
   rw [this]
  ·rw [UB (t:=Tm.mk t.name (t.args.map (Tm.on s))) (by rw [Tm.args_mk];simpa using h0),UB h0]
   congr 1
   rw [Tm.args_mk,List.map_map]
   exact List.map_congr_left fun a ha=>ih _ (Tm.lt_of_arg ha) (c2 a ha) rfl
theorem Kx {θ:List Bd} (hv:∀ b ∈ θ,AP b.1=true) {t:Tm} (hn:¬ AP t.name=true):t.on θ=.mk t.name (t.args.map (Tm.on θ)):=by
 refine Tm.on_knot (.inl (FA fun b hb e=>hn ?_))
 rw [← e]
 exact hv b hb
theorem RD {s θ:List Bd} {x:ByteArray} {t:Tm} (hv:∀ b ∈ s,AP b.1=true) (hx:AP x=true) (hc:∀ b ∈ s,b.2.chk=0) (h1:t.on θ=(vT x).on θ):Sol s θ ↔ Sol (s.map fun b=>(b.1,b.2.on [(x,t)])) θ:=by
 have hone:Sol [(x,t)] θ:=fun b hb=>by
  rw [List.mem_singleton] at hb
  subst hb
  exact h1
 have hvo:∀ b ∈ ([(x,t)]:List Bd),AP b.1=true:=by simp [hx]
 constructor
 ·intro hs b hb
  obtain ⟨c,hc',rfl⟩:=List.mem_map.1 hb
  show (c.2.on [(x,t)]).on θ=_
  rw [Pc hvo hone (hc c hc')]
  exact hs c hc'
 ·intro hs b hb
  have:=hs (b.1,b.2.on [(x,t)]) (List.mem_map.2 ⟨b,hb,rfl⟩)
  change (b.2.on [(x,t)]).on θ=(vT b.1).on θ at this
  rwa [Pc hvo hone (hc b hb)] at this
theorem V9 {s θ:List Bd} {b:Bd}:Sol (Bb (s ++ [b])) θ ↔ Sol s θ∧b.2.on θ=(vT b.1).on θ:=by
 constructor
 ·intro h
  exact ⟨fun c hc=>h c (B2.2 (by simp [hc])),h b (B2.2 (by simp))⟩
 ·rintro ⟨h1,h2⟩ c hc
  rcases List.mem_append.1 (B2.1 hc) with h | h
  ·exact h1 c h
  ·rw [List.mem_singleton] at h
   subst h
   exact h2
theorem Ty {f:Tm→Tm}:∀ {xs ys:List Tm},xs.length=ys.length→((∀ p ∈ xs.zip ys,f p.1=f p.2) ↔ xs.map f=ys.map f)
 | [],[],_=>by simp
 | x :: xs,y :: ys,h=>by
  have:=Ty (f:=f) (xs:=xs) (ys:=ys) (by simpa using h)
  simp only [List.zip_cons_cons,List.mem_cons,forall_eq_or_imp,List.map_cons,List.cons.injEq]
  rw [this]
theorem W8 {U:List ByteArray} {C:Nat} {s:List Bd} {p:Pr} {l:List Pr} (h:Co U C s (p :: l)) {θ:List Bd} (hθ:∀ b ∈ θ,AP b.1=true) {s':List Bd} {ps:List Pr} (hs:CU s p=.go s' ps):(Sol s θ∧p.1.on θ=p.2.on θ) ↔ (Sol s' θ∧∀ q ∈ ps,q.1.on θ=q.2.on θ):=by
 obtain ⟨hc1,hc2⟩:=h.lchk p (by simp)
 have hU:=h.lU p (by simp)
 obtain ⟨a1,a2,a3⟩:=onU h hc1 fun y=>(hU y).1
 obtain ⟨b1,b2,b3⟩:=onU h hc2 fun y=>(hU y).2
 have e1:=fun hsol=>Pc h.var (θ:=θ) hsol hc1
 have e2:=fun hsol=>Pc h.var (θ:=θ) hsol hc2
 have bind:∀ {x t u:Tm},AP x.name=true→x.chk=0→EQ s x.name t=.go s' ps→(Sol s θ∧x.on θ=t.on θ ↔ Sol s' θ∧∀ q ∈ ps,q.1.on θ=q.2.on θ):=by
  intro x t u hx hxc hb
  have hxl:=K6 ((Tm.chk_args hxc).1 hx)
  unfold EQ at hb
  split at hb
  ·cases hb
  split at hb
  ·cases hb
   rw [V9]
   constructor
   ·rintro ⟨k1,k2⟩
    have k3:t.on θ=(vT x.name).on θ:=by rw [← hxl];exact k2.symm
    exact ⟨⟨(RD h.var hx h.chk k3).1 k1,k3⟩,fun q hq=>by cases hq⟩
   ·rintro ⟨⟨k1,k3⟩,_⟩
    exact ⟨(RD h.var hx h.chk k3).2 k1,by rw [hxl];exact k3.symm⟩
  ·cases hb
 unfold CU at hs
 split at hs
 ·cases hs
 split at hs
 ·rename_i hv
  cases hs
  have l1:=K6 ((Tm.chk_args a1).1 hv.1)
  have l2:=K6 ((Tm.chk_args b1).1 (by rw [← hv.2];exact hv.1))
  constructor
  ·rintro ⟨k1,_⟩
   exact ⟨k1,fun q hq=>by cases hq⟩
  ·rintro ⟨k1,_⟩
   refine ⟨k1,?_⟩
   rw [← e1 k1,← e2 k1,l1,l2,hv.2]
 split at hs
 ·rename_i hv
  rw [← bind (u:=p.2.on s) hv a1 hs]
  constructor
  ·rintro ⟨k1,k2⟩
   exact ⟨k1,by rw [e1 k1,e2 k1];exact k2⟩
  ·rintro ⟨k1,k2⟩
   exact ⟨k1,by rw [e1 k1,e2 k1] at k2;exact k2⟩
 split at hs
 ·rename_i hv
  rw [← bind (u:=p.1.on s) hv b1 hs]
  constructor
  ·rintro ⟨k1,k2⟩
   exact ⟨k1,by rw [e1 k1,e2 k1];exact k2.symm⟩
  ·rintro ⟨k1,k2⟩
   exact ⟨k1,by rw [e1 k1,e2 k1] at k2;exact k2.symm⟩
 rename_i hv1 hv2
 split at hs
 ·rename_i heq
  cases hs
  rw [Ty heq.2]
  constructor
  ·rintro ⟨k1,k2⟩
   refine ⟨k1,?_⟩
   rw [← e1 k1,← e2 k1,Kx hθ hv1,Kx hθ hv2] at k2
   injection k2
  ·rintro ⟨k1,k2⟩
   refine ⟨k1,?_⟩
   rw [← e1 k1,← e2 k1,Kx hθ hv1,Kx hθ hv2,k2,heq.1]
 ·cases hs
theorem Yz {s:List Bd} {p:Pr} {e:Int} (h:CU s p=.err e):e ≠ 0:=by
 have hb:∀ {x:ByteArray} {t:Tm},EQ s x t=.err e→e ≠ 0:=by
  intro x t hb
  unfold EQ at hb
  split at hb
  ·cases hb;decide
  split at hb
  ·cases hb
  ·cases hb;decide
 unfold CU at h
 split at h
 ·cases h;decide
 split at h
 ·cases h
 split at h
 ·exact hb h
 split at h
 ·exact hb h
 split at h
 ·cases h
 ·cases h;decide
theorem Xu {s:List Bd} (hn:Bp s) (hi:∀ b ∈ s,Ln s b.2):Sol s s:=fun b hb=>by
 rw [ZM (hi b hb),Tm.on_leaf (t:=vT b.1) ((SA hn).2 (by exact hb)) rfl]
theorem M_ {U:List ByteArray} {C:Nat} {n:Nat} {s:List Bd} {l:List Pr} {r:List Bd × Int} (hr:C3 n s l r):Co U C s l→r.2=0→Co U C r.1 []∧Sol s r.1∧∀ p ∈ l,p.1.on r.1=p.2.on r.1:=by
 induction hr with
 | nil=>exact fun h _=>⟨h,Xu (C8 h.ord) h.idem,fun p hp=>by cases hp⟩
 | err he=>exact fun _ h0=>absurd h0 (Yz he)
 | @go s p l s' ps n r hst hr ih =>
  intro h h0
  obtain ⟨h',_⟩:=HU h hst
  obtain ⟨q0,q1,q2⟩:=ih h' h0
  obtain ⟨k1,k2⟩:=(W8 h q0.var hst).2 ⟨q1,fun q hq=>q2 q (by simp [hq])⟩
  refine ⟨q0,k1,fun q hq=>?_⟩
  rcases List.mem_cons.1 hq with rfl | hq
  ·exact k2
  ·exact q2 q (by simp [hq])

section
variable {T:List (ByteArray × ByteArray)}
end
def Fn (c:UInt8) (k:Nat):ByteArray:=⟨#[c]⟩ ++ Qe k
theorem IC (c:UInt8) (k:Nat):(Fn c k).data.toList=c :: Lib.decDigits k:=by
 unfold Fn Qe
 simp
theorem XX (c:UInt8) (k:Nat):Ak (Fn c k) 0=(c.toNat:Int):=by
 unfold Ak
 rw [IC]
 rfl
theorem Sw (c:UInt8) (k:Nat):(Fn c k).size=1 + Lib.nDigits k:=by
 have:(Fn c k).size=(Fn c k).data.toList.length:=by
  show (Fn c k).data.size=_
  rw [Array.length_toList]
 rw [this,IC,List.length_cons,Lib.decDigits_length]
 omega
theorem V7 {c:UInt8} (h1:65≤c.toNat) (h2:c.toNat≤90) {k:Nat} (h:k < 1000000):A_ (Fn c k)=true:=by
 have h6:=PU (u:=k) (k:=6) (by omega) (by omega)
 unfold A_
 rw [XX,Sw,decide_eq_true (show 1≤1 + Lib.nDigits k by omega),decide_eq_true (show 1 + Lib.nDigits k≤8 by omega),decide_eq_false (show ¬ ((c.toNat:Int)≤57) by omega)]
 have:B0 (Fn c k) (1 + Lib.nDigits k)=true:=by
  unfold B0
  rw [IC]
  refine List.all_eq_true.2 fun d hd=>?_
  have hd:=List.mem_of_mem_take hd
  rcases List.mem_cons.1 hd with rfl | hd
  ·unfold BI
   rw [decide_eq_true (show 65≤(d.toNat:Int)∧(d.toNat:Int)≤90 by omega)]
   simp
  ·have:=HE _ d hd
   unfold BI
   rw [decide_eq_true (show 48≤(d.toNat:Int)∧(d.toNat:Int)≤57 by omega),Bool.or_true]
 rw [this]
 simp
def nmB (c:UInt8):Nat→List ByteArray→List Bd
 | _,[]=>[]
 | k,n :: l=>(n,.mk (Fn c k) []) :: nmB c (k + 1) l
theorem P1 (c:UInt8):∀ (l:List ByteArray) (k:Nat) (n:ByteArray),nmB c k (l ++ [n])=nmB c k l ++ [(n,.mk (Fn c (k + l.length)) [])]
 | [],k,n=>by simp [nmB]
 | x :: l,k,n=>by
  rw [List.cons_append,nmB,P1 c l (k + 1) n,nmB,List.cons_append,List.length_cons,show k + 1 + l.length=k + (l.length + 1) by omega]
theorem Og (c:UInt8):∀ (l:List ByteArray) (k:Nat),(nmB c k l).length=l.length
 | [],_=>rfl
 | n :: l,k=>by rw [nmB,List.length_cons,List.length_cons,Og c l]
theorem Ja (c:UInt8):∀ (l:List ByteArray) (k:Nat),(nmB c k l).map (·.1)=l
 | [],_=>rfl
 | n :: l,k=>by rw [nmB,List.map_cons,Ja c l]
def Ew (c:UInt8) (k:Nat) (r:Pr):Pr:=(r.1.on (nmB c k r.1.varsOf),r.2.on (nmB c k r.1.varsOf))

theorem Us:∀ {n m:Nat} {s:List Bd} {l:List Pr} {r r':List Bd × Int},C3 n s l r→C3 m s l r'→r=r':=by
 intro n m s l r r' h
 induction h generalizing m with
 | nil =>
  intro k
  cases k
  rfl
 | err he =>
  intro k
  cases k with
  | err h2 =>
   rw [he] at h2
   cases h2
   rfl
  | go h2 _ =>
   rw [he] at h2
   cases h2
 | go hg hr ih =>
  intro k
  cases k with
  | err h2 =>
   rw [hg] at h2
   cases h2
  | go h2 h3 =>
   rw [hg] at h2
   cases h2
   exact ih h3
noncomputable def Kt (l:List Pr):List Bd × Int:=open Classical in if h:∃ r n,C3 n [] l r then h.choose else ([],0)
theorem PO {n:Nat} {l:List Pr} {r:List Bd × Int} (h:C3 n [] l r):Kt l=r:=by
 unfold Kt
 have hx:∃ r n,C3 n [] l r:=⟨r,n,h⟩
 rw [dif_pos hx]
 obtain ⟨m,hm⟩:=hx.choose_spec
 exact Us hm h
section
variable {f:ByteArray→ByteArray}
end
def DF (l r:Tm):Pr:=((l.cn []).1,(r.cn (l.cn []).2).1)
noncomputable def DA (a b:Pr) (same:Bool) (p:List Int):Option (List Pr):=match a.1.atP p with
 | none=>some []
 | some x=>if AP x.name=true ∨ (same=true∧p=[]) then some []
  else if (Kt [(x,b.1)]).2=8 then none
  else if (Kt [(x,b.1)]).2 ≠ 0 then some []
  else if (BD (Kt [(x,b.1)]).1 a.2).2=true∧(BD (Kt [(x,b.1)]).1 (a.1.putP p b.2)).2=true then some [DF (BD (Kt [(x,b.1)]).1 a.2).1 (BD (Kt [(x,b.1)]).1 (a.1.putP p b.2)).1]
  else none
theorem JL {x y:Tm} (hx:x.may=0) (hy:y.may=0):Bg [(x,y)]=0:=by
 simp [Bg,BO,BS,hx,hy]
theorem Pq {t:Tm} (hc:t.chk=0) (hz:t.size≤200):t.may=0:=by
 unfold Tm.may
 rw [if_neg (by omega),hc]
noncomputable def Ej (a b:Pr) (same:Bool):List (List Int)→Option (List Pr)
 | []=>some []
 | p :: ps=>match DA a b same p with
  | none=>none
  | some x=>(Ej a b same ps).map (x ++ ·)
noncomputable def VK (a b:Pr) (same:Bool):Option (List Pr):=Ej a b same a.1.places
theorem SQ {U:List ByteArray} {C:Nat} {n:Nat} {s:List Bd} {l:List Pr} {r:List Bd × Int} (hr:C3 n s l r):Co U C s l→r.2=0→Co U C r.1 []:=fun h h0=>(M_ hr h h0).1
theorem OC {l:List Pr} (h:Bg l=0) (h0:(Kt l).2=0):Co (Ha l) 100000000000 (Kt l).1 []:=by
 obtain ⟨_,hg⟩:=DJ h
 obtain ⟨n,r,hr⟩:=N5 _ _ _ _ hg rfl rfl
 rw [PO hr] at h0 ⊢
 exact SQ hr hg h0
theorem L5:∀ (p:List Int) (t x:Tm),t.chk=0→x.chk=0→(t.putP p x).chk=0
 | [],t,x,_,hx=>by rw [Tm.putP_nil];exact hx
 | i :: p,t,x,ht,hx=>by
  rw [Tm.putP_cons]
  split
  ·rename_i a ha
   have hl:=(List.getElem?_eq_some_iff.1 ha).1
   refine PD (n:=t.name) (xs:=t.args) (by cases t;exact ht) hl ?_
   exact L5 p a x ((Tm.chk_args ht).2 a (List.mem_of_getElem? ha)) hx
  ·exact ht
theorem Qk {s:List Bd} (hs:∀ b ∈ s,b.2.chk=0) {t:Tm} (hc:t.chk=0) (h:(BD s t).2=true):(BD s t).1.chk=0:=by
 unfold BD at h ⊢
 split
 ·exact Lt hs hc
 ·rename_i hn
  rw [if_neg hn] at h
  cases h
theorem IA:∀ (l:List ByteArray) (k:Nat) {b:Bd},b ∈ FJ k l→∃ j,j < k + l.length∧b.2=MB j
 | [],k,b,h=>by simp [FJ] at h
 | n :: l,k,b,h=>by
  rw [FJ] at h
  rcases List.mem_cons.1 h with rfl | h
  ·exact ⟨k,by simp,rfl⟩
  ·obtain ⟨j,h1,h2⟩:=IA l (k + 1) h
   exact ⟨j,by rw [List.length_cons];omega,h2⟩
theorem Of (c:UInt8):∀ (l:List ByteArray) (k:Nat) {b:Bd},b ∈ nmB c k l→∃ j,j < k + l.length∧b.2=.mk (Fn c j) []
 | [],k,b,h=>by simp [nmB] at h
 | n :: l,k,b,h=>by
  rw [nmB] at h
  rcases List.mem_cons.1 h with rfl | h
  ·exact ⟨k,by simp,rfl⟩
  ·obtain ⟨j,h1,h2⟩:=Of c l (k + 1) h
   exact ⟨j,by rw [List.length_cons];omega,h2⟩
theorem TF {s:List Bd} (hs:∀ b ∈ s,b.2.size=1) (t:Tm):(t.on s).size=t.size:=by
 induction hN:SizeOf.sizeOf t using Nat.strongRecOn generalizing t with
 | _ N ih =>
 subst hN
 have key:(Tm.mk t.name (t.args.map (Tm.on s))).size=t.size:=by
  rw [Tm.size_eq,Tm.size_eq t]
  show 1 + Tm.sizes (t.args.map (Tm.on s))=_
  have:∀ l:List Tm,(∀ a ∈ l,(a.on s).size=a.size)→Tm.sizes (l.map (Tm.on s))=Tm.sizes l:=fun l h=>by
   induction l with
   | nil=>rfl
   | cons a l ih2 =>
    rw [List.map_cons,Tm.sizes,Tm.sizes,h a (by simp),ih2 fun b hb=>h b (List.mem_cons_of_mem _ hb)]
  rw [this _ fun a ha=>ih _ (Tm.lt_of_arg ha) a rfl]
 by_cases h0:t.args=[]
 ·cases hl:lookup s t.name with
  | some x =>
   obtain ⟨b,hb,_,rfl⟩:=DM hl
   rw [Tm.on_leaf hl h0,hs b hb,Tm.size_eq t,h0]
   rfl
  | none=>rw [Tm.on_knot (.inl hl)];exact key
 ·rw [Tm.on_knot (.inr h0)]
  exact key
theorem X9 {t:Tm} (hc:t.chk=0) {l:List ByteArray} (hl:∀ n ∈ (t.cn l).2,AP n=true) (hk:(t.cn l).2.length < 900000):(t.cn l).1.chk=0:=by
 rw [WI t hc l _ hl ⟨[],by simp⟩]
 refine Lt (fun b hb=>?_) hc
 obtain ⟨j,h1,h2⟩:=IA _ _ hb
 rw [h2]
 exact Vd (by omega)
def Ib (cr:Nat→Nat→Option (List Pr)):List (Nat × Nat)→List Pr→List Pr × Int
 | [],acc=>(acc,0)
 | q :: l,acc=>match cr q.1 q.2 with
  | none=>([],8)
  | some x=>if 400 < (acc ++ x).length then ([],3) else Ib cr l (acc ++ x)
def Ge (n i j:Nat):List (Nat × Nat):=(List.range' j (n - j)).map (fun j=>(i,j)) ++ (List.range' (i + 1) (n - (i + 1))).flatMap fun i=>(List.range' 0 n).map fun j=>(i,j)
theorem ZL {n i j:Nat} (h:j < n):Ge n i j=(i,j) :: Ge n i (j + 1):=by
 unfold Ge
 rw [show n - j=(n - (j + 1)) + 1 by omega,List.range'_succ]
 rfl
theorem V4 {n i:Nat} (h:i + 1 < n):Ge n i n=Ge n (i + 1) 0:=by
 unfold Ge
 rw [Nat.sub_self,show n - (i + 1)=(n - (i + 1 + 1)) + 1 by omega,List.range'_succ,List.flatMap_cons,Nat.sub_zero]
 rfl
theorem Xp {n i:Nat} (h:n≤i + 1):Ge n i n=[]:=by
 unfold Ge
 rw [Nat.sub_self,show n - (i + 1)=0 by omega]
 rfl
noncomputable def crR (R:List Pr) (c d:UInt8) (k:Nat) (i j:Nat):Option (List Pr):=match R[i]?,R[j]? with
 | some a,some b=>VK (Ew c k a) (Ew d k b) (decide (i=j))
 | _,_=>none
noncomputable def EG (R:List Pr) (c d:UInt8) (k:Nat):List Pr × Int:=if R.length=0 then ([],0) else Ib (crR R c d k) (Ge R.length 0 0) []
theorem Fu {c:UInt8} (h1:65≤c.toNat) (h2:c.toNat≤90) {k:Nat} (hk:k≤1) {t:Tm} {V:List ByteArray} (hV:V.length≤1000) (ht:t.chk=0):(t.on (nmB c k V)).chk=0∧(t.on (nmB c k V)).size=t.size:=by
 refine ⟨Lt (fun b hb=>?_) ht,TF (fun b hb=>?_) t⟩
 ·obtain ⟨j,q1,q2⟩:=Of c V k hb
  rw [q2]
  exact Q0 (V7 h1 h2 (by omega))
 ·obtain ⟨j,q1,q2⟩:=Of c V k hb
  rw [q2]
  rfl

theorem Aa.memoWeak {C:Ctx} {s:AS} {id:Nat} {f f':List SV→List SV→SV→Prop} (hS:s.S id=some (.memo f)) (hf:∀ cs ds x,f cs ds x→f' cs ds x):Aa C s (s.set id (.memo f')):=fun a w ⟨σ,ι,R⟩=>by
 have hb:=R.blk _ _ hS
 cases hb with
 | @memo _ g ents h1 h2 h3 h4 =>
  obtain ⟨hu,R'⟩:=R.turn (w':=w) hS (.memo f') (ι id) (σ':=σ) (fun _ _ h=>h) (fun _ _ _=>rfl) R.fit (Nat.le_refl _) (fun _=>⟨rfl,rfl⟩) ⟨rfl,rfl,rfl⟩ (Nat.le_refl _) (fun _ _ _=>rfl) (fun g h=>.inl h) (fun hu=>.memo h1 h2 (h3.weak hf) h4)
  exact ⟨σ,_,R'⟩
theorem Aa.freeze {C:Ctx} {s:AS} (id:Nat) (ts:List Nat) {ty:TypeId} {xs:List SV} (hS:s.S id=some (.box ty (xs.map .st))) (hl:0 < xs.length) (ht:∀ t ∈ ts,s.env t=.one (.ptr id 1 0 0)) :
  Aa C s ⟨fun t=>if t ∈ ts then .one (.eptr xs) else s.env t,AG s.S id (some (.dead 1 0))⟩:=fun a w ⟨σ,ι,R⟩=>by
 have hb:=R.blk _ _ hS
 cases hb with
 | @box _ _ g vs h1 h2 h3 h4 h5 =>
  have hkeep:=FS (σ:=σ) (w':=w) (g:=g) (k:=xs.length) (fun p x e hx=>by rw [h5 _ e] at hx;cases hx)
  obtain ⟨hu,R'⟩:=R.turn (w':=w) hS (.dead 1 0) (ι id) (σ':=El σ w g xs.length) hkeep (fun p hp _=>FT (fun e=>hp (by rw [e];exact h1))) (En R.fit) (Nat.le_refl _) (fun _=>⟨rfl,rfl⟩) ⟨rfl,rfl,rfl⟩ (Nat.le_refl _) (fun _ _ _=>rfl) (fun g h=>.inl h)
   (fun hu=>.dead fun g' hg'=>by rw [h1] at hg';cases hg';exact ⟨_,h3,rfl⟩)
  refine ⟨_,_,R'.size,fun i hi=>?_,R'.nod,R'.fit,R'.blk,R'.inj,R'.base,R'.ext,R'.old,R'.os,R'.grown,R'.same,R'.upd⟩
  show AQ _ _ _ _ (if i ∈ ts then .one (.eptr xs) else s.env i)
  split
  ·rename_i hm
   have re:=R.env i hi
   rw [ht i hm] at re
   obtain ⟨b,q1,q2,q3⟩:=Fo (AW re)
   rw [hS] at q1
   cases q1
   obtain ⟨g',e1,e2⟩:=q3 rfl
   rw [h1] at e1
   cases e1
   rw [e2]
   have cell:∀ j x,xs[j]?=some x→∃ v,vs[j]?=some v∧A5 σ v x:=fun j x hx=>by
    obtain ⟨v,v1,v2⟩:=h4.get (j:=j) (b:=.st x) (by rw [List.getElem?_map,hx];rfl)
    exact ⟨v,by simpa using v1,CG v2⟩
   refine .one (.eptr (fun j=>(vs[j]?).getD undef) (fun j x hx=>?_) (fun j x hx=>?_) (fun _ _=>?_))
   ·obtain ⟨v,v1,v2⟩:=cell j x hx
    have hj:=(List.getElem?_eq_some_iff.1 hx).1
    rw [show (0 * (AK.box ty (xs.map AC.st)).wid + 0 + j)=j by omega,Kw hj,cell_of_row w g _ _ _ _ h3,v1]
    rfl
   ·obtain ⟨v,v1,v2⟩:=cell j x hx
    rw [v1]
    exact v2.mono hkeep
   ·rw [HI hl,FO h3]
  ·exact R'.env i hi

set_option maxRecDepth 100000
def Cb:IR :=
 (.seq (.ops [.i 6 (.mov (.c (.one (.st (.bool false)))))]) (.seq (.seq (.ops [.m 11 1,.i 12 (.nilCheck (.t 11)),.f 13 1 12,.l 14 13,.i 15 (.len false (.t 14)),.i 16 (.mov (.n 0))]) (.block 0 (.loop (.seq (.ops [.i 17 (.bin .lss (.t 16) (.t 15))]) (.seq (.cond (.t 17) .skip (.exit 0)) (.seq (.block 1 (.seq (.ops [.m 18 16,.m 7 18]) (.seq (.ops [.m 19 1,.i 20 (.nilCheck (.t 19)),.f 21 1 20,.l 22 21,.m 23 7,.i 24 (.indexAddr 2 (.t 22) (.t 23)),.L 25 2 24,.m 26 2,.i 27 (.nilCheck (.t 26)),.L 28 2 27,.i 29 (.call 69 [.t 25,.t 28]),.m 30 29,.mk (some 31) (some (30,false)) (.mov (.t 0)) .no,.mk (some 32) (some (30,false)) (.mov (.t 1)) .no,.mk (some 33) (some (30,false)) (.nilCheck (.t 32)) .no,.mk (some 34) (some (30,false)) (.fieldAddr 1 (.t 33)) .no,.mk (some 35) (some (30,false)) (.load false 1 (.t 34)) .no,.mk (some 36) (some (30,false)) (.mov (.t 7)) .no,.mk (some 37) (some (30,false)) (.indexAddr 2 (.t 35) (.t 36)) .no,.mk (some 38) (some (30,false)) (.mov (.t 2)) .no,.mk (some 39) (some (30,false)) (.callR 100 [.t 31,.t 37,.t 38]) .no,.i 40 (.pick (.t 30) (.c (.one (.st (.bool true)))) (.t 39))]) (.cond (.t 40) (.seq (.ops [.i 6 (.mov (.c (.one (.st (.bool true)))))]) .ret) .skip)))) (.ops [.i 41 (.bin .add (.t 16) (.n 1)),.m 16 41]))))))) (.seq (.seq (.ops [.m 42 2,.i 43 (.nilCheck (.t 42)),.f 44 0 43,.l 45 44,.i 46 (.call 67 [.t 45])]) (.cond (.t 46) (.seq (.ops [.i 6 (.mov (.c (.one (.st (.bool false)))))]) .ret) .skip)) (.seq (.ops [.m 47 0,.i 48 (.nilCheck (.t 47)),.f 49 0 48,.l 50 49,.m 51 1,.i 52 (.nilCheck (.t 51)),.L 53 2 52,.m 54 2,.i 55 (.nilCheck (.t 54)),.L 56 2 55,.i 57 (.call 133 [.t 50,.t 53,.t 56]),.m 8 57]) (.seq (.seq (.ops [.m 58 8,.i 59 (.bin .lss (.t 58) (.n 0))]) (.cond (.t 59) (.seq (.ops [.i 6 (.mov (.c (.one (.st (.bool false)))))]) .ret) .skip)) (.seq (.seq (.ops [.m 60 2,.i 61 (.nilCheck (.t 60)),.f 62 1 61,.l 63 62,.i 64 (.len false (.t 63)),.i 65 (.mov (.n 0))]) (.block 2 (.loop (.seq (.ops [.i 66 (.bin .lss (.t 65) (.t 64))]) (.seq (.cond (.t 66) .skip (.exit 2)) (.seq (.block 3 (.seq (.ops [.m 67 65,.m 9 67]) (.seq (.ops [.m 68 0,.m 69 1,.m 70 2,.i 71 (.nilCheck (.t 70)),.f 72 1 71,.l 73 72,.m 74 9,.i 75 (.indexAddr 2 (.t 73) (.t 74)),.i 76 (.callR 100 [.t 68,.t 69,.t 75]),.i 77 (.un .not (.t 76))]) (.cond (.t 77) (.seq (.ops [.i 6 (.mov (.c (.one (.st (.bool false)))))]) .ret) .skip)))) (.ops [.i 78 (.bin .add (.t 65) (.n 1)),.m 65 78]))))))) (.seq (.seq (.ops [.m 79 8,.i 80 (.bin .gtr (.t 79) (.n 0))]) (.cond (.t 80) (.seq (.ops [.i 6 (.mov (.c (.one (.st (.bool true)))))]) .ret) .skip)) (.seq (.seq (.ops [.m 81 1,.i 82 (.nilCheck (.t 81)),.f 83 1 82,.l 84 83,.i 85 (.len false (.t 84)),.i 86 (.mov (.n 0))]) (.block 4 (.loop (.seq (.ops [.i 87 (.bin .lss (.t 86) (.t 85))]) (.seq (.cond (.t 87) .skip (.exit 4)) (.seq (.block 5 (.seq (.ops [.m 88 86,.m 10 88]) (.seq (.ops [.m 89 1,.i 90 (.nilCheck (.t 89)),.f 91 1 90,.l 92 91,.m 93 10,.i 94 (.indexAddr 2 (.t 92) (.t 93)),.L 95 2 94,.m 96 2,.i 97 (.nilCheck (.t 96)),.f 98 1 97,.l 99 98,.m 100 10,.i 101 (.indexAddr 2 (.t 99) (.t 100)),.L 102 2 101,.i 103 (.call 69 [.t 95,.t 102]),.i 104 (.un .not (.t 103))]) (.cond (.t 104) (.seq (.ops [.m 105 0,.m 106 1,.i 107 (.nilCheck (.t 106)),.f 108 1 107,.l 109 108,.m 110 10,.i 111 (.indexAddr 2 (.t 109) (.t 110)),.m 112 2,.i 113 (.nilCheck (.t 112)),.f 114 1 113,.l 115 114,.m 116 10,.i 117 (.indexAddr 2 (.t 115) (.t 116)),.i 118 (.callR 100 [.t 105,.t 111,.t 117]),.m 6 118]) .ret) .skip)))) (.ops [.i 119 (.bin .add (.t 86) (.n 1)),.m 86 119]))))))) (.seq (.ops [.i 6 (.mov (.c (.one (.st (.bool false)))))]) .ret)))))))))
theorem EF:OkF Tryz.prog 122 120 [40000039,40000076,40000118] Cb [.t 6]:=.of Tryz.func122 rfl rfl (by kernel_rfl) rfl
def CN:IR :=
 (.seq (.ops [.i 6 (.mov (.c (.one (.st (.bool false)))))]) (.seq (.seq (.ops [.m 11 1,.i 12 (.nilCheck (.t 11)),.f 13 0 12,.l 14 13,.i 15 (.call 67 [.t 14])]) (.cond (.t 15) (.seq (.ops [.i 6 (.mov (.c (.one (.st (.bool false)))))]) .ret) .skip)) (.seq (.ops [.m 16 1,.m 17 2,.i 18 (.buildArr [.t 16,.t 17]),.i 7 (.alloc 144 [.st (.lit (.pointer none)),.st (.lit (.pointer none))]),.s 2 7 18]) (.seq (.seq (.ops [.m 20 0,.i 21 (.nilCheck (.t 20)),.f 22 1 21,.l 23 22,.L 24 2 7,.i 25 (.memoGet true (.one (.st (.bool false))) (.t 23) (.t 24)),.m 19 25,.i 26 (.extract 0 (.t 19)),.i 27 (.extract 1 (.t 19)),.m 8 26,.m 9 27]) (.seq (.ops [.m 28 9]) (.cond (.t 28) (.seq (.ops [.m 29 8,.m 6 29]) .ret) .skip))) (.seq (.ops [.m 30 0,.m 31 1,.m 32 2,.i 33 (.callR 122 [.t 30,.t 31,.t 32]),.m 10 33]) (.seq (.ops [.m 34 0,.i 35 (.nilCheck (.t 34)),.f 36 1 35,.l 37 36,.L 38 2 7,.m 39 10,.mk none none (.memoSet (.t 37) (.t 38) (.t 39)) .no]) (.seq (.ops [.m 40 10,.m 6 40]) .ret)))))))
theorem Dw:OkF Tryz.prog 100 41 [40000033] CN [.t 6]:=.of Tryz.func100 rfl rfl (by kernel_rfl) rfl
def Gl:IR :=
 (.seq (.ops [.i 4 (.box 37 (.t 1)),.i 5 (.box 37 (.t 2)),.i 6 (.mov (.c (.one (.st (.bool false)))))]) (.seq (.ops [.m 8 0,.i 9 .makeMemo,.i 10 (.build [.full [],.st (.lit (.map none))] [(0,1,.t 8),(1,1,.t 9)]),.i 11 (.box 130 (.t 10)),.m 7 11]) (.seq (.ops [.m 12 7,.i 13 (.callR 100 [.t 12,.t 4,.t 5]),.m 6 13]) .ret)))
theorem MM:OkF Tryz.prog 70 14 [40000013] Gl [.t 6]:=.of Tryz.func70 rfl rfl (by kernel_rfl) rfl
def Hr:IR :=
 (.seq (.ops [.i 4 (.box 37 (.t 1)),.i 5 (.box 37 (.t 2)),.i 6 (.mov (.c (.one (.st (.bool false))))),.i 7 (.mov (.n 0))]) (.seq (.seq (.ops [.m 9 0,.L 10 2 4,.L 11 2 5,.i 12 (.call 75 [.t 9,.t 10,.t 11]),.m 8 12]) (.seq (.ops [.m 13 8,.i 14 (.bin .neq (.t 13) (.n 0))]) (.cond (.t 14) (.seq (.ops [.m 15 8,.i 6 (.mov (.c (.one (.st (.bool false))))),.m 7 15]) .ret) .skip))) (.seq (.ops [.m 16 0,.L 17 2 4,.L 18 2 5,.i 19 (.call 70 [.t 16,.t 17,.t 18]),.m 6 19,.i 7 (.mov (.n 0))]) .ret)))
theorem Mn:OkF Tryz.prog 37 20 [] Hr [.t 6,.t 7]:=.of Tryz.func37 rfl rfl (by kernel_rfl) rfl

theorem PK {σ:Sto} {v:Value} {s s':ByteArray} (h:A5 σ v (.str s)) (h':A5 σ v (.str s')):s=s':=by
 cases h with
 | str _=>cases h' with
  | str _=>rfl
theorem UK {σ:Sto} {v:Value} {xs ys:List (List SV)} (h:A5 σ v (.list xs)) (h':A5 σ v (.list ys)) (w:Nat) (hx:∀ x ∈ xs,x.length=w) (hy:∀ y ∈ ys,y.length=w) :
  xs.length=ys.length∧∀ (k:Nat) (x y:List SV),xs[k]?=some x→ys[k]?=some y→∃ c:Nat→Value,(∀ j u,x[j]?=some u→A5 σ (c j) u)∧∀ j u,y[j]?=some u→A5 σ (c j) u:=by
 cases h with
 | @list p len cap b o w1 _ c h1 h2 h3 h4 h5 h6 hh h7 h8 =>
 cases h' with
 | @list _ _ _ b' o' w2 _ c' k1 k2 k3 k4 k5 k6 kh k7 k8 =>
 refine ⟨by omega,fun k x y ex ey=>⟨c k,fun j u hu=>h8 k x j u ex hu,fun j u hu=>?_⟩⟩
 have m1:=List.mem_of_getElem? ex
 have m2:=List.mem_of_getElem? ey
 have hl:=(List.getElem?_eq_some_iff.1 ex).1
 have e1:=h5 (by omega)
 have e2:=k5 (by omega)
 rw [e1] at e2
 cases e2
 have w1e:w1=w:=(h6 x m1).symm.trans (hx x m1)
 have w2e:w2=w:=(k6 y m2).symm.trans (hy y m2)
 have hj:j < x.length:=by
  rw [hx x m1,← hy y m2]
  exact (List.getElem?_eq_some_iff.1 hu).1
 have q1:=h7 k x j _ ex (List.getElem?_eq_getElem hj)
 have q2:=k7 k y j u ey hu
 rw [w1e] at q1
 rw [w2e,q1] at q2
 rw [Option.some.inj q2]
 exact k8 k y j u ey hu
theorem QV:∀ (N:Nat) (a b:Tm) (σ:Sto) (c:Nat→Value),SizeOf.sizeOf a < N→(∀ j x,(Ao a)[j]?=some x→A5 σ (c j) x)→(∀ j x,(Ao b)[j]?=some x→A5 σ (c j) x)→a=b
 | 0,_,_,_,_,h,_,_=>absurd h (Nat.not_lt_zero _)
 | N + 1,a,b,σ,c,hN,ha,hb=>by
  rw [An] at ha hb
  have hn:=PK (ha 0 _ rfl) (hb 0 _ rfl)
  have hlen:∀ {l:List Tm},∀ x ∈ l.map Ao,x.length=2:=fun x hx=>by
   obtain ⟨t,_,rfl⟩:=List.mem_map.1 hx
   exact QB t
  obtain ⟨hl,hr⟩:=UK (ha 1 _ rfl) (hb 1 _ rfl) 2 hlen hlen
  rw [List.length_map,List.length_map] at hl
  have hargs:a.args=b.args:=by
   apply List.ext_getElem?
   intro k
   by_cases hk:k < a.args.length
   ·have e1:a.args[k]?=some a.args[k]:=List.getElem?_eq_getElem hk
    have e2:b.args[k]?=some (b.args[k]'(by omega)):=List.getElem?_eq_getElem (by omega)
    obtain ⟨c',q1,q2⟩:=hr k (Ao a.args[k]) (Ao (b.args[k]'(by omega))) (by rw [List.getElem?_map,e1];rfl) (by rw [List.getElem?_map,e2];rfl)
    have hlt:=Tm.lt_of_arg (List.mem_of_getElem? e1)
    rw [e1,e2,QV N _ _ σ c' (by omega) q1 q2]
   ·rw [List.getElem?_eq_none (by omega),List.getElem?_eq_none (by omega)]
  cases a
  cases b
  simp only [Tm.name,Tm.args] at hn hargs
  rw [hn,hargs]
theorem Td {a b:Tm} (h:Um (Ao a) (Ao b)):a=b:=by
 obtain ⟨σ,c,h1,h2⟩:=h
 exact QV _ a b σ c (Nat.lt_succ_self _) h1 h2

def LL:List ByteArray→ByteArray→Int→Int
 | [],_,_=>-1
 | x :: xs,s,i=>if x=s then i else LL xs s (i + 1)
def EI (row:List ByteArray) (s:ByteArray):Int:=LL row s 0
def Hh (x y:Int):Int:=if x < y then -1 else if y < x then 1 else 0
def Ey (row:List ByteArray) (a b:Tm):Int :=
 if Hh (EI row a.name) (EI row b.name) ≠ 0 then Hh (EI row a.name) (EI row b.name) else if D_ a.name b.name ≠ 0 then D_ a.name b.name else Hh a.args.length b.args.length
theorem HN {x y:Int}:Hh x y=0 ↔ x=y:=by unfold Hh;split <;> (try split) <;> omega
theorem Tj {a b:ByteArray}:D_ a b=0 ↔ a=b:=by
 unfold D_
 split
 ·rename_i h
  constructor
  ·intro h';cases h'
  ·intro e;subst e;rw [DE] at h;cases h
 ·split <;> simp_all
theorem OH {row:List ByteArray} {a b:Tm}:Ey row a b=0 ↔ a.name=b.name∧a.args.length=b.args.length:=by
 unfold Ey
 constructor
 ·intro h
  by_cases h1:Hh (EI row a.name) (EI row b.name) ≠ 0
  ·rw [if_pos h1] at h;exact absurd h h1
  rw [if_neg h1] at h
  by_cases h2:D_ a.name b.name ≠ 0
  ·rw [if_pos h2] at h;exact absurd h h2
  rw [if_neg h2,HN] at h
  exact ⟨Tj.1 (by omega),by omega⟩
 ·rintro ⟨h1,h2⟩
  rw [if_neg (by rw [h1,Classical.not_not];exact HN.2 rfl),if_neg (by rw [Classical.not_not];exact Tj.2 h1),h2]
  exact HN.2 rfl
mutual
def Tm.occN (v:ByteArray):Tm→Nat
 | .mk n xs=>(if n=v then 1 else 0) + Tm.occNs v xs
def Tm.occNs (v:ByteArray):List Tm→Nat
 | []=>0
 | t :: ts=>t.occN v + Tm.occNs v ts
end
def okV (a b:Tm):Prop:=∀ v,AP v=true→b.occN v≤a.occN v
theorem okV.trans {a b c:Tm} (h:okV a b) (k:okV b c):okV a c:=fun v hv=>Nat.le_trans (k v hv) (h v hv)
inductive Lex (R:Tm→Tm→Prop):List Tm→List Tm→Prop
 | here {x y xs ys}:x ≠ y→R x y→xs.length=ys.length→Lex R (x :: xs) (y :: ys)
 | on {x xs ys}:Lex R xs ys→Lex R (x :: xs) (x :: ys)
theorem Lex.len {R:Tm→Tm→Prop} {xs ys:List Tm} (h:Lex R xs ys):xs.length=ys.length:=by
 induction h with
 | here _ _ h=>simp [h]
 | on _ ih=>simp [ih]
theorem Lex.irrefl {R:Tm→Tm→Prop}:∀ {xs:List Tm},¬ Lex R xs xs
 | [],h=>by cases h
 | x :: xs,h=>by
  cases h with
  | here h _ _=>exact h rfl
  | on h=>exact Lex.irrefl h
theorem Lex.trans {R:Tm→Tm→Prop}:∀ {xs ys zs:List Tm},(∀ x ∈ xs,∀ y ∈ ys,∀ z ∈ zs,R x y→R y z→R x z∧x ≠ z)→Lex R xs ys→Lex R ys zs→Lex R xs zs:=by
 intro xs ys zs ht h k
 induction h generalizing zs with
 | here hne hr hl =>
  cases k with
  | here hne2 hr2 hl2 =>
   obtain ⟨h1,h2⟩:=ht _ (by simp) _ (by simp) _ (by simp) hr hr2
   exact .here h2 h1 (hl.trans hl2)
  | on k=>exact .here hne hr (hl.trans k.len)
 | on h ih =>
  cases k with
  | here hne2 hr2 hl2=>exact .here hne2 hr2 (h.len.trans hl2)
  | on k=>exact .on (ih (fun x hx y hy z hz=>ht x (by simp [hx]) y (by simp [hy]) z (by simp [hz])) k)
section
variable {s:List Bd} {a b:Tm} {row:List ByteArray}
theorem Lex.map {R:Tm→Tm→Prop} {f:Tm→Tm}:∀ {xs ys:List Tm},(∀ x ∈ xs,∀ y ∈ ys,R x y→R (f x) (f y)∧f x ≠ f y)→Lex R xs ys→Lex R (xs.map f) (ys.map f):=by
 intro xs ys h k
 induction k with
 | here hne hr hl =>
  obtain ⟨h1,h2⟩:=h _ (by simp) _ (by simp) hr
  exact .here h2 h1 (by simp [hl])
 | on k ih=>exact .on (ih fun x hx y hy=>h x (by simp [hx]) y (by simp [hy]))
theorem Lex.at {R:Tm→Tm→Prop} {x y:Tm} (hne:x ≠ y) (h:R x y):∀ (xs ys:List Tm),Lex R (xs ++ x :: ys) (xs ++ y :: ys)
 | [],ys=>.here hne h rfl
 | z :: xs,ys=>.on (Lex.at hne h xs ys)
end

inductive Pa (row:List ByteArray):Tm→Tm→Prop
 | is {a x:Tm}:AP a.name=false→x ∈ a.args→Pa row a x
 | sub {a b x:Tm}:AP a.name=false→x ∈ a.args→Pa row x b→Pa row a b
 | gt {a b:Tm}:AP a.name=false→AP b.name=false→0 < Ey row a b→(∀ y ∈ b.args,Pa row a y)→Pa row a b
 | lex {a b x y:Tm} {p xs ys:List Tm}:AP a.name=false→AP b.name=false→Ey row a b=0→(∀ y ∈ b.args,Pa row a y)→a.args=p ++ x :: xs→b.args=p ++ y :: ys→x ≠ y→Pa row x y→Pa row a b
theorem Lex.split {R:Tm→Tm→Prop} {xs ys:List Tm} (h:Lex R xs ys):∃ p x y us vs,xs=p ++ x :: us∧ys=p ++ y :: vs∧x ≠ y∧R x y:=by
 induction h with
 | here hne hr hl=>exact ⟨[],_,_,_,_,rfl,rfl,hne,hr⟩
 | on k ih =>
  obtain ⟨p,x,y,us,vs,e1,e2,h1,h2⟩:=ih
  exact ⟨_ :: p,x,y,us,vs,by rw [e1];rfl,by rw [e2];rfl,h1,h2⟩
theorem Lex.at2 {R:Tm→Tm→Prop} {x y:Tm} (hne:x ≠ y) (h:R x y) {us vs:List Tm} (hl:us.length=vs.length):∀ p:List Tm,Lex R (p ++ x :: us) (p ++ y :: vs)
 | []=>.here hne h hl
 | z :: p=>.on (Lex.at2 hne h hl p)
theorem Pd {row:List ByteArray} {a b:Tm}:Pa row a b ↔ AP a.name=false∧((∃ x ∈ a.args,x=b ∨ Pa row x b) ∨ (AP b.name=false∧¬ Ey row a b < 0∧(∀ y ∈ b.args,Pa row a y)∧(0 < Ey row a b ∨ Lex (Pa row) a.args b.args))):=by
 constructor
 ·intro h
  cases h with
  | is h1 h2=>exact ⟨h1,.inl ⟨_,h2,.inl rfl⟩⟩
  | sub h1 h2 h3=>exact ⟨h1,.inl ⟨_,h2,.inr h3⟩⟩
  | gt h1 h2 h3 h4=>exact ⟨h1,.inr ⟨h2,by omega,h4,.inl h3⟩⟩
  | lex h1 h2 h3 h4 e1 e2 hne h5 =>
   refine ⟨h1,.inr ⟨h2,by omega,h4,.inr ?_⟩⟩
   have hl:=(OH.1 h3).2
   rw [e1,e2] at hl ⊢
   exact Lex.at2 hne h5 (by simpa using hl) _
 ·rintro ⟨h1,⟨x,hx,rfl | h⟩ | ⟨h2,h3,h4,h5⟩⟩
  ·exact .is h1 hx
  ·exact .sub h1 hx h
  ·by_cases h6:0 < Ey row a b
   ·exact .gt h1 h2 h6 h4
   ·rcases h5 with h5 | h5
    ·exact absurd h5 h6
    ·obtain ⟨p,x,y,us,vs,e1,e2,hne,h7⟩:=h5.split
     exact .lex h1 h2 (by omega) h4 e1 e2 hne h7
variable {row:List ByteArray} {a b c:Tm}
theorem Pa.fn (h:Pa row a b):AP a.name=false:=(Pd.1 h).1

open Classical in
noncomputable def paB (row:List ByteArray) (a b:Tm):Bool:=decide (Pa row a b)
theorem FD {row:List ByteArray} {a b:Tm}:paB row a b=true ↔ Pa row a b:=by unfold paB;simp
theorem IQ {row:List ByteArray} {a b:Tm}:paB row a b=false ↔ ¬ Pa row a b:=by unfold paB;simp
theorem YS {row:List ByteArray} {a b:Tm} (h:AP a.name=true):paB row a b=false:=IQ.2 fun k=>by have:=k.fn;rw [h] at this;cases this
theorem T6 {row:List ByteArray} {a b x:Tm} (h:AP a.name=false) (hx:x ∈ a.args) (k:x=b ∨ paB row x b=true):paB row a b=true :=
 FD.2 (Pd.2 ⟨h,.inl ⟨x,hx,k.imp id FD.1⟩⟩)
theorem Lx {row:List ByteArray} {a b:Tm} (h:AP a.name=false) (hno:∀ x ∈ a.args,x ≠ b∧paB row x b=false):Pa row a b ↔ (AP b.name=false∧¬ Ey row a b < 0∧(∀ y ∈ b.args,Pa row a y)∧(0 < Ey row a b ∨ Lex (Pa row) a.args b.args)):=by
 rw [Pd]
 constructor
 ·rintro ⟨_,⟨x,hx,e | k⟩ | h⟩
  ·exact absurd e (hno x hx).1
  ·exact absurd k (IQ.1 (hno x hx).2)
  ·exact h
 ·exact fun k=>⟨h,.inr k⟩
theorem LE {row:List ByteArray} {a b:Tm} (h:AP a.name=false) (hno:∀ x ∈ a.args,x ≠ b∧paB row x b=false) (hs:AP b.name=true ∨ Ey row a b < 0 ∨ ∃ y ∈ b.args,paB row a y=false):paB row a b=false:=by
 rw [IQ,Lx h hno]
 rintro ⟨h1,h2,h3,_⟩
 rcases hs with hs | hs | ⟨y,hy,k⟩
 ·rw [h1] at hs;cases hs
 ·exact h2 hs
 ·exact IQ.1 k (h3 y hy)
theorem Zm {row:List ByteArray} {a b:Tm} (h:AP a.name=false) (hb:AP b.name=false) (hs:0 < Ey row a b) (hall:∀ y ∈ b.args,paB row a y=true):paB row a b=true :=
 FD.2 (.gt h hb hs fun y hy=>FD.1 (hall y hy))
theorem Lex.tail {R:Tm→Tm→Prop}:∀ {xs ys:List Tm} {x y:Tm},x ≠ y→Lex R (x :: xs) (y :: ys)→R x y
 | _,_,_,_,hne,.here _ h _=>h
 | _,_,_,_,hne,.on _=>absurd rfl hne
theorem Lex.same {R:Tm→Tm→Prop}:∀ {xs ys:List Tm} {x:Tm},Lex R (x :: xs) (x :: ys)→Lex R xs ys
 | _,_,_,.here hne _ _=>absurd rfl hne
 | _,_,_,.on h=>h
theorem Lex.first {R:Tm→Tm→Prop} {x y:Tm} {us vs:List Tm} (hne:x ≠ y):∀ {p q:List Tm},p=q→Lex R (p ++ x :: us) (q ++ y :: vs)→R x y
 | [],_,rfl,h=>Lex.tail hne h
 | z :: p,_,rfl,h=>Lex.first hne rfl (Lex.same h)
theorem I3 {xs:List Tm} {k:Nat} {x:Tm} (h:xs[k]?=some x):xs=xs.take k ++ x :: xs.drop (k + 1):=by
 have hm:k < xs.length:=(List.getElem?_eq_some_iff.1 h).1
 have h1:=(List.getElem?_eq_some_iff.1 h).2
 conv=>lhs;rw [← List.take_append_drop k xs,List.drop_eq_getElem_cons hm,h1]
theorem VF {row:List ByteArray} {a b x y:Tm} {k:Nat} (h:AP a.name=false) (hb:AP b.name=false) (hno:∀ x ∈ a.args,x ≠ b∧paB row x b=false) (hs:Ey row a b=0) (hall:∀ y ∈ b.args,paB row a y=true) (hp:a.args.take k=b.args.take k) (hx:a.args[k]?=some x) (hy:b.args[k]?=some y) (hne:x ≠ y):paB row a b=paB row x y:=by
 cases hxy:paB row x y with
 | true=>exact FD.2 (.lex h hb hs (fun y hy=>FD.1 (hall y hy)) (I3 hx) ((I3 hy).trans (by rw [hp])) hne (FD.1 hxy))
 | false =>
  rw [IQ,Lx h hno]
  rintro ⟨_,_,_,k1 | k1⟩
  ·omega
  ·refine IQ.1 hxy ?_
   rw [I3 hx,I3 hy] at k1
   exact Lex.first hne hp k1
theorem WS {row:List ByteArray} {a b:Tm} (h:AP a.name=false) (hno:∀ x ∈ a.args,x ≠ b∧paB row x b=false) (hs:Ey row a b=0) (he:a.args=b.args):paB row a b=false:=by
 rw [IQ,Lx h hno]
 rintro ⟨_,_,_,k1 | k1⟩
 ·omega
 ·rw [he] at k1
  exact Lex.irrefl k1

def Hz:IR :=
 (.seq (.ops [.i 2 (.box 37 (.t 0)),.i 3 (.box 37 (.t 1)),.i 4 (.mov (.n 0))]) (.seq (.seq (.ops [.L 6 2 2,.i 7 (.call 46 [.t 6]),.m 5 7]) (.seq (.ops [.m 8 5,.i 9 (.bin .neq (.t 8) (.n 0))]) (.cond (.t 9) (.seq (.ops [.m 10 5,.m 4 10]) .ret) .skip))) (.seq (.ops [.L 11 2 3,.i 12 (.call 46 [.t 11]),.m 4 12]) .ret)))
theorem NF:OkF Tryz.prog 103 13 [] Hz [.t 4]:=.of Tryz.func103 rfl rfl (by kernel_rfl) rfl

theorem Ou (a b:Tm):AY Tryz.prog 103 [aTm a,aTm b] (AN (BS a b)):=by
 refine NF.ac fun C hC=>?_
 unfold Hz
 repeat' with_reducible first | refine W ?_ | refine Z0 ?_ | ((first | refine Wo fun K hK=>?_ | refine Wp ?_ | refine Wq ?_ | refine Wr ?_);(try simp only [go_sem,fN,seval,eT,iR,dT,dF,nL]);(repeat refine Ai ?_);(try (refine hK _ ?_;clear hK K));try refine iC ?_)
 refine ⟨_,DT a,?_⟩
 by_cases h:a.may=0
 ·repeat' (first | (with_reducible first | refine W ?_ | refine Z0 ?_ | ((first | refine Wo fun K hK=>?_ | refine Wp ?_ | refine Wq ?_ | refine Wr ?_);(try simp only [go_sem,fN,seval,eT,iR,h,dT,dF,nL]);(repeat refine Ai ?_);(try (refine hK _ ?_;clear hK K));try refine iC ?_)) | refine Cg _ (DT b) ?_)
  simp only [go_sem,fN,seval,AR,AS.result,AB,AD,AL]
  unfold BS
  rw [if_pos h]
 ·repeat' with_reducible first | refine W ?_ | refine Z0 ?_ | ((first | refine Wo fun K hK=>?_ | refine Wp ?_ | refine Wq ?_ | refine Wr ?_);(try simp only [go_sem,fN,seval,eT,iR,h,dT,dF,nL]);(repeat refine Ai ?_);(try (refine hK _ ?_;clear hK K));try refine iC ?_)
  simp only [go_sem,fN,seval,AR,AS.result,AB,AD,AL]
  unfold BS
  rw [if_neg h]

def CO:IR :=
 (.seq (.ops [.i 4 (.mov (.n 0))]) (.seq (.seq (.ops [.m 6 0,.i 7 (.len false (.t 6)),.i 8 (.mov (.n 0))]) (.block 0 (.loop (.seq (.ops [.i 9 (.bin .lss (.t 8) (.t 7))]) (.seq (.cond (.t 9) .skip (.exit 0)) (.seq (.block 1 (.seq (.ops [.m 10 8,.m 5 10]) (.seq (.ops [.m 11 1,.m 12 0,.m 13 5,.i 14 (.indexAddr 1 (.t 12) (.t 13)),.l 15 14,.i 16 (.bin .eql (.t 11) (.t 15))]) (.cond (.t 16) (.seq (.ops [.m 17 5,.m 4 17]) .ret) .skip)))) (.ops [.i 18 (.bin .add (.t 8) (.n 1)),.m 8 18]))))))) (.seq (.ops [.i 4 (.mov (.c (.one (.st (.int .i64 (-1))))))]) .ret)))
theorem Dn:OkF Tryz.prog 98 19 [] CO [.t 4]:=.of Tryz.func98 rfl rfl (by kernel_rfl) rfl
def Ff:IR :=
 (.seq (.ops [.i 2 (.mov (.c (.one (.st (.bool false)))))]) (.seq (.ops [.m 3 0,.m 4 0,.i 5 (.bin .neq (.t 3) (.t 4)),.m 2 5]) .ret))
theorem Jp:OkF Tryz.prog 154 6 [] Ff [.t 2]:=.of Tryz.func154 rfl rfl (by kernel_rfl) rfl
def Er:IR :=
 (.seq (.ops [.i 4 (.mov (.n 0))]) (.seq (.ops [.m 7 0,.i 8 (.call 154 [.t 7]),.m 5 8]) (.seq (.ops [.m 9 1,.i 10 (.call 154 [.t 9]),.m 6 10]) (.seq (.seq (.ops [.m 11 5]) (.cond (.t 11) (.seq (.seq (.ops [.m 12 6]) (.cond (.t 12) (.seq (.ops [.i 4 (.mov (.n 0))]) .ret) .skip)) (.seq (.ops [.i 4 (.mov (.c (.one (.st (.int .i64 (-1))))))]) .ret)) .skip)) (.seq (.seq (.ops [.m 13 6]) (.cond (.t 13) (.seq (.ops [.i 4 (.mov (.n 1))]) .ret) .skip)) (.seq (.seq (.ops [.m 14 0,.m 15 1,.i 16 (.bin .lss (.t 14) (.t 15))]) (.cond (.t 16) (.seq (.ops [.i 4 (.mov (.c (.one (.st (.int .i64 (-1))))))]) .ret) .skip)) (.seq (.seq (.ops [.m 17 0,.m 18 1,.i 19 (.bin .gtr (.t 17) (.t 18))]) (.cond (.t 19) (.seq (.ops [.i 4 (.mov (.n 1))]) .ret) .skip)) (.seq (.ops [.i 4 (.mov (.n 0))]) .ret))))))))
theorem IU:OkF Tryz.prog 140 20 [] Er [.t 4]:=.of Tryz.func140 rfl rfl (by kernel_rfl) rfl
def Hw:IR :=
 (.seq (.ops [.i 2 (.mov (.n 0))]) (.seq (.ops [.i 3 (.mov (.n 0))]) (.seq (.seq (.ops [.m 6 0,.i 7 (.len false (.t 6)),.i 8 (.mov (.n 0))]) (.block 0 (.loop (.seq (.ops [.i 9 (.bin .lss (.t 8) (.t 7))]) (.seq (.cond (.t 9) .skip (.exit 0)) (.seq (.block 1 (.seq (.ops [.i 10 (.indexAddr 1 (.t 6) (.t 8)),.l 11 10,.m 5 11]) (.seq (.ops [.m 12 5,.m 13 3,.i 14 (.bin .neq (.t 12) (.t 13))]) (.cond (.t 14) (.seq (.ops [.m 15 5,.m 2 15]) .ret) .skip)))) (.ops [.i 16 (.bin .add (.t 8) (.n 1)),.m 8 16]))))))) (.seq (.ops [.m 17 3,.m 2 17]) .ret))))
theorem Mw:OkF Tryz.prog 139 18 [] Hw [.t 2]:=.of Tryz.func139 rfl rfl (by kernel_rfl) rfl
def Fd:IR :=
 (.seq (.ops [.i 4 (.box 37 (.t 1)),.i 5 (.box 37 (.t 2)),.i 6 (.mov (.n 0))]) (.seq (.ops [.m 7 0,.f 8 0 4,.l 9 8,.i 10 (.call 98 [.t 7,.t 9]),.m 11 0,.f 12 0 5,.l 13 12,.i 14 (.call 98 [.t 11,.t 13]),.i 15 (.call 140 [.t 10,.t 14]),.f 16 0 4,.l 17 16,.f 18 0 5,.l 19 18,.i 20 (.call 132 [.t 17,.t 19]),.f 21 1 4,.l 22 21,.i 23 (.len false (.t 22)),.f 24 1 5,.l 25 24,.i 26 (.len false (.t 25)),.i 27 (.call 140 [.t 23,.t 26]),.i 28 (.buildFlat [.t 15,.t 20,.t 27]),.i 29 (.call 139 [.t 28]),.m 6 29]) .ret))
theorem Jt:OkF Tryz.prog 133 30 [] Fd [.t 6]:=.of Tryz.func133 rfl rfl (by kernel_rfl) rfl
def G3:IR :=
 (.seq (.ops [.i 2 (.mov (.n 0))]) (.seq (.seq (.ops [.m 5 0,.i 6 (.len false (.t 5)),.i 7 (.bin .gtr (.t 6) (.n 40))]) (.cond (.t 7) (.seq (.ops [.i 2 (.mov (.n 3))]) .ret) .skip)) (.seq (.seq (.ops [.m 8 0,.i 9 (.len false (.t 8)),.i 10 (.mov (.n 0))]) (.block 0 (.loop (.seq (.ops [.i 11 (.bin .lss (.t 10) (.t 9))]) (.seq (.cond (.t 11) .skip (.exit 0)) (.seq (.block 1 (.seq (.ops [.m 12 10,.i 13 (.indexAddr 1 (.t 8) (.t 10)),.l 14 13,.m 3 12,.m 4 14]) (.seq (.seq (.ops [.m 15 4,.i 16 (.call 66 [.t 15]),.i 17 (.un .not (.t 16)),.m 18 17,.mk (some 19) (some (18,false)) (.mov (.t 4)) .no,.mk (some 20) (some (18,false)) (.call 67 [.t 19]) .no,.i 21 (.pick (.t 18) (.c (.one (.st (.bool true)))) (.t 20))]) (.cond (.t 21) (.seq (.ops [.i 2 (.mov (.n 1))]) .ret) .skip)) (.seq (.ops [.m 22 0,.m 23 3,.i 24 (.sliceL 1 (.t 22) none (some (.t 23))),.m 25 4,.i 26 (.call 68 [.t 24,.t 25])]) (.cond (.t 26) (.seq (.ops [.i 2 (.mov (.n 4))]) .ret) .skip))))) (.ops [.i 27 (.bin .add (.t 10) (.n 1)),.m 10 27]))))))) (.seq (.ops [.i 2 (.mov (.n 0))]) .ret))))
theorem Lv:OkF Tryz.prog 31 28 [] G3 [.t 2]:=.of Tryz.func31 rfl rfl (by kernel_rfl) rfl
def Hv:IR :=
 (.seq (.ops [.i 4 (.box 37 (.t 1)),.i 5 (.box 37 (.t 2)),.i 6 (.mov (.n 0))]) (.seq (.seq (.ops [.m 8 0,.i 9 (.call 31 [.t 8]),.m 7 9]) (.seq (.ops [.m 10 7,.i 11 (.bin .neq (.t 10) (.n 0))]) (.cond (.t 11) (.seq (.ops [.m 12 7,.m 6 12]) .ret) .skip))) (.seq (.ops [.L 13 2 4,.L 14 2 5,.i 15 (.call 103 [.t 13,.t 14]),.m 6 15]) .ret)))
theorem My:OkF Tryz.prog 75 16 [] Hv [.t 6]:=.of Tryz.func75 rfl rfl (by kernel_rfl) rfl

def E0:List Int→Int
 | []=>0
 | x :: xs=>if x ≠ 0 then x else E0 xs
theorem Rr (row:List ByteArray) (a b:Tm):Ey row a b=E0 [Hh (EI row a.name) (EI row b.name),D_ a.name b.name,Hh a.args.length b.args.length]:=by
 unfold Ey
 simp only [E0]
 split
 ·rfl
 ·split
  ·rfl
  ·split
   ·rfl
   ·omega
def OY:List ByteArray→List ByteArray→Int
 | _,[]=>0
 | seen,x :: xs=>if A_ x=true∧AP x=false then (if DL x seen=true then 4 else OY (seen ++ [x]) xs) else 1
def Ds (row:List ByteArray):Int:=if 40 < row.length then 3 else OY [] row

def met {α:Type} (l:List α) (seen:List Nat):List α:=seen.filterMap fun j=>l[j]?
theorem Xc {α:Type} {l:List α} {seen:List Nat} {j:Nat} {b:α} (h:l[j]?=some b):met l (seen ++ [j])=met l seen ++ [b]:=by
 unfold met
 rw [List.filterMap_append,List.filterMap_cons_some h]
 rfl
theorem S9 {α:Type} {l:List α}:∀ {seen:List Nat},(∀ j ∈ seen,j < l.length)→(met l seen).length=seen.length
 | [],_=>rfl
 | j :: seen,h=>by
  have hj:=h j (by simp)
  unfold met
  rw [List.filterMap_cons_some (List.getElem?_eq_getElem hj),List.length_cons,List.length_cons]
  exact congrArg (· + 1) (S9 fun i hi=>h i (by simp [hi]))
theorem Qy {n:Nat} {seen:List Nat} (hn:seen.Nodup) (h:∀ j ∈ seen,j < n):seen.length≤n:=by
 have h1:seen.Perm ((List.range n).filter fun j=>decide (j ∈ seen)):=(List.perm_ext_iff_of_nodup hn (List.nodup_range.filter _)).2 fun j=>by
  rw [List.mem_filter,List.mem_range,decide_eq_true_eq]
  exact ⟨fun hj=>⟨h j hj,hj⟩,fun hj=>hj.2⟩
 rw [h1.length_eq]
 exact Nat.le_trans (List.length_filter_le _ _) (Nat.le_of_eq List.length_range)
theorem Xb {α:Type} {l:List α} {seen:List Nat} (hn:seen.Nodup) (h:∀ j ∈ seen,j < l.length) (hall:∀ j,j < l.length→j ∈ seen):(met l seen).Perm l:=by
 have hp:seen.Perm (List.range l.length):=(List.perm_ext_iff_of_nodup hn List.nodup_range).2 fun j=>⟨fun hj=>List.mem_range.2 (h j hj),fun hj=>hall j (List.mem_range.1 hj)⟩
 have:=hp.filterMap fun j=>l[j]?
 rw [EJ] at this
 exact this

def Ae:IR :=
 (.seq (.ops [.i 6 (.mov (.c (.one (.st (.bool false)))))]) (.seq (.seq (.ops [.m 10 0,.i 11 (.len false (.t 10)),.m 12 1,.i 13 (.len false (.t 12)),.i 14 (.bin .neq (.t 11) (.t 13))]) (.cond (.t 14) (.seq (.ops [.i 6 (.mov (.c (.one (.st (.bool false)))))]) .ret) .skip)) (.seq (.seq (.ops [.m 15 0,.i 16 (.len false (.t 15)),.i 17 (.mov (.n 0))]) (.block 0 (.loop (.seq (.ops [.i 18 (.bin .lss (.t 17) (.t 16))]) (.seq (.cond (.t 18) .skip (.exit 0)) (.seq (.block 1 (.seq (.ops [.m 19 17,.i 20 (.indexAddr 2 (.t 15) (.t 17)),.L 21 2 20,.i 8 (.alloc 37 [.st (.str (ByteArray.mk (#[]))),.full []]),.m 7 19,.s 2 8 21]) (.seq (.ops [.m 22 1,.m 23 7,.i 24 (.indexAddr 2 (.t 22) (.t 23)),.L 25 2 24,.i 9 (.alloc 37 [.st (.str (ByteArray.mk (#[]))),.full []]),.s 2 9 25]) (.seq (.ops [.m 26 2,.L 27 2 8,.L 28 2 9,.i 29 (.callV (.t 26) [.t 27,.t 28]),.i 30 (.un .not (.t 29))]) (.cond (.t 30) (.seq (.ops [.i 6 (.mov (.c (.one (.st (.bool false)))))]) .ret) .skip))))) (.ops [.i 31 (.bin .add (.t 17) (.n 1)),.m 17 31]))))))) (.seq (.ops [.i 6 (.mov (.c (.one (.st (.bool true)))))]) .ret))))
theorem A0:OkF Tryz.prog 99 32 [] Ae [.t 6]:=.of Tryz.func99 rfl rfl (by kernel_rfl) rfl
def JM:IR :=
 (.seq (.ops [.i 2 (.box 37 (.t 0)),.i 3 (.box 37 (.t 1)),.i 4 (.mov (.c (.one (.st (.bool false)))))]) (.seq (.ops [.f 5 0 2,.l 6 5,.f 7 0 3,.l 8 7,.i 9 (.bin .eql (.t 6) (.t 8)),.m 10 9,.mk (some 11) (some (10,true)) (.fieldAddr 1 (.t 2)) .no,.mk (some 12) (some (10,true)) (.load false 1 (.t 11)) .no,.mk (some 13) (some (10,true)) (.fieldAddr 1 (.t 3)) .no,.mk (some 14) (some (10,true)) (.load false 1 (.t 13)) .no,.mk (some 15) (some (10,true)) (.call 99 [.t 12,.t 14,.c (.one (.fn 69 []))]) .no,.i 16 (.pick (.t 10) (.t 15) (.c (.one (.st (.bool false))))),.m 4 16]) .ret))
theorem O0:OkF Tryz.prog 69 17 [] JM [.t 4]:=.of Tryz.func69 rfl rfl (by kernel_rfl) rfl

theorem Tm.beqL_no {xs ys:List Tm} (h:xs ≠ ys):Tm.beqL xs ys=false:=by
 rw [← Bool.not_eq_true,Tm.beqL_iff]
 exact h
theorem QX (xs ys:List Tm) (ih:∀ x ∈ xs,∀ y,AY Tryz.prog 69 [aTm x,aTm y] (Ad (x.beq y))) :
  AY Tryz.prog 99 [F6 xs,F6 ys,.one (.fn 69 [])] (Ad (Tm.beqL xs ys)):=by
 have hplain:B6 Tryz.prog 69=true:=by kernel_rfl
 refine A0.ac fun C hC=>?_
 unfold Ae
 refine IWP.learn 0 (by omega) fun hkn=>?_
 have hkx:=Fe hkn
 rw [List.length_map] at hkx
 by_cases hl:xs.length=ys.length
 ·have hl':(xs.length:Int)=ys.length:=by omega
  repeat' with_reducible first | refine W ?_ | refine Z0 ?_ | ((first | refine Wo fun K hK=>?_ | refine Wp ?_ | refine Wq ?_ | refine Wr ?_);(try simp only [go_sem,fN,seval,eT,iR,hl',dT,dF,nL]);(repeat refine Ai ?_);(try (refine hK _ ?_;clear hK K));try refine iC ?_)
  refine IWP.loopD [8,9] (fun n s=>∃ k,k≤xs.length∧n=xs.length - k∧xs.take k=ys.take k∧s.env 1=F6 ys∧s.env 2=.one (.fn 69 [])∧s.env 15=F6 xs∧s.env 16=AN xs.length∧s.env 17=AN k∧s.S 8=none∧s.S 9=none) xs.length ⟨0,Nat.zero_le _,rfl,rfl,rfl,rfl,rfl,by simp only [go_sem,fN,seval,eT,iR,hl'],rfl,rfl,rfl⟩ ?_
  rintro n ⟨env,S⟩ ⟨k,hk,rfl,h0,e1,e2,e15,e16,e17,s8,s9⟩
  simp only at e1 e2 e15 e16 e17 s8 s9
  by_cases hlt:(k:Int) < xs.length
  ·obtain ⟨x,hx⟩:=Aj (show k < xs.length by omega)
   obtain ⟨y,hy⟩:=Aj (show k < ys.length by omega)
   repeat' with_reducible first | refine W ?_ | refine Z0 ?_ | ((first | refine Wo fun K hK=>?_ | refine Wp ?_ | refine Wq ?_ | refine Wr ?_);(try simp only [go_sem,fN,seval,eT,iR,e1,e2,e15,e16,e17,s8,s9,hlt,hx,hy,hplain,dT,dF,nL]);(repeat refine Ai ?_);(try (refine hK _ ?_;clear hK K));try refine iC ?_)
   refine ⟨_,_,(ih x (AU hx) y).toS rfl,?_⟩
   cases hxy:x.beq y with
   | false =>
    repeat' with_reducible first | refine W ?_ | refine Z0 ?_ | ((first | refine Wo fun K hK=>?_ | refine Wp ?_ | refine Wq ?_ | refine Wr ?_);(try simp only [go_sem,fN,seval,eT,iR,hxy,dT,dF,nL]);(repeat refine Ai ?_);(try (refine hK _ ?_;clear hK K));try refine iC ?_)
    simp only [go_sem,fN,seval,AR,AS.result,AB,AD,AL]
    rw [Tm.beqL_no fun e=>by
     subst e
     rw [hx] at hy
     cases hy
     rw [Tm.beq_refl] at hxy
     cases hxy]
   | true =>
    have hxy':=(Tm.beq_iff x y).1 hxy
    repeat' with_reducible first | refine W ?_ | refine Z0 ?_ | ((first | refine Wo fun K hK=>?_ | refine Wp ?_ | refine Wq ?_ | refine Wr ?_);(try simp only [go_sem,fN,seval,eT,iR,hxy,e1,e2,e15,e16,e17,s8,s9,dT,dF,nL]);(repeat refine Ai ?_);(try (refine hK _ ?_;clear hK K));try refine iC ?_)
    refine AH ⟨xs.length - (k + 1),by omega,k + 1,by omega,rfl,?_,?_⟩
    ·rw [Au hx,Au hy,h0,hxy']
    ·simp only [go_sem,fN,seval,AS.drop,Ac,AC.clears,AC.clear,AC.highs,AC.high,zD,AV.purge,AV.purges,AC.purge,AK.purge,Nat.reduceBEq,eT,iR,e1,e2,e15,e16,e17,s8,s9]
     congr 3
  ·repeat' with_reducible first | refine W ?_ | refine Z0 ?_ | ((first | refine Wo fun K hK=>?_ | refine Wp ?_ | refine Wq ?_ | refine Wr ?_);(try simp only [go_sem,fN,seval,eT,iR,e1,e2,e15,e16,e17,hlt,dT,dF,nL]);(repeat refine Ai ?_);(try (refine hK _ ?_;clear hK K));try refine iC ?_)
   simp only [go_sem,fN,seval,AR,AS.result,AB,AD,AL]
   rw [List.take_of_length_le (by omega),List.take_of_length_le (by omega)] at h0
   rw [(Tm.beqL_iff xs ys).2 h0]
 ·have hl':¬ (xs.length:Int)=ys.length:=by omega
  repeat' with_reducible first | refine W ?_ | refine Z0 ?_ | ((first | refine Wo fun K hK=>?_ | refine Wp ?_ | refine Wq ?_ | refine Wr ?_);(try simp only [go_sem,fN,seval,eT,iR,hl',dT,dF,nL]);(repeat refine Ai ?_);(try (refine hK _ ?_;clear hK K));try refine iC ?_)
  simp only [go_sem,fN,seval,AR,AS.result,AB,AD,AL]
  rw [Tm.beqL_no fun e=>hl (by rw [e])]
theorem Jc (a b:Tm):AY Tryz.prog 69 [aTm a,aTm b] (Ad (a.beq b)):=by
 induction h:SizeOf.sizeOf a using Nat.strongRecOn generalizing a b with
 | _ N ih =>
 subst h
 have hE:=QX a.args b.args fun x hx y=>ih _ (Tm.lt_of_arg hx) x y rfl
 have he:a.beq b=(decide (a.name=b.name) && Tm.beqL a.args b.args):=by cases a;cases b;rfl
 refine O0.ac fun C hC=>?_
 unfold JM
 by_cases hn:a.name=b.name
 ·repeat' (first | (with_reducible first | refine W ?_ | refine Z0 ?_ | ((first | refine Wo fun K hK=>?_ | refine Wp ?_ | refine Wq ?_ | refine Wr ?_);(try simp only [go_sem,fN,seval,eT,iR,hn,dT,dF,nL]);(repeat refine Ai ?_);(try (refine hK _ ?_;clear hK K));try refine iC ?_)) | refine Cg _ (hE) ?_)
  simp only [go_sem,fN,seval,AR,AS.result,AB,AD,AL]
  rw [he,decide_eq_true hn]
  rfl
 ·repeat' with_reducible first | refine W ?_ | refine Z0 ?_ | ((first | refine Wo fun K hK=>?_ | refine Wp ?_ | refine Wq ?_ | refine Wr ?_);(try simp only [go_sem,fN,seval,eT,iR,hn,dT,dF,nL]);(repeat refine Ai ?_);(try (refine hK _ ?_;clear hK K));try refine iC ?_)
  simp only [go_sem,fN,seval,AR,AS.result,AB,AD,AL]
  rw [he,decide_eq_false hn]
  rfl

def Ix:IR :=
 (.seq (.ops [.i 1 (.box 37 (.t 0)),.i 2 (.mov (.n 0))]) (.seq (.ops [.i 3 (.mov (.n 1))]) (.seq (.seq (.ops [.f 6 1 1,.l 7 6,.i 8 (.len false (.t 7)),.i 9 (.mov (.n 0))]) (.block 0 (.loop (.seq (.ops [.i 10 (.bin .lss (.t 9) (.t 8))]) (.seq (.cond (.t 10) .skip (.exit 0)) (.seq (.block 1 (.seq (.ops [.i 11 (.indexAddr 2 (.t 7) (.t 9)),.L 12 2 11,.i 5 (.alloc 37 [.st (.str (ByteArray.mk (#[]))),.full []]),.s 2 5 12]) (.ops [.m 13 3,.L 14 2 5,.i 15 (.call 44 [.t 14]),.i 16 (.bin .add (.t 13) (.t 15)),.m 3 16]))) (.ops [.i 17 (.bin .add (.t 9) (.n 1)),.m 9 17]))))))) (.seq (.ops [.m 18 3,.m 2 18]) .ret))))
theorem Pn:OkF Tryz.prog 44 19 [] Ix [.t 2]:=.of Tryz.func44 rfl rfl (by kernel_rfl) rfl

theorem F_ (t:Tm) (hz:t.size≤1000000):AY Tryz.prog 44 [aTm t] (AN t.size):=by
 induction h:SizeOf.sizeOf t using Nat.strongRecOn generalizing t with
 | _ N ih =>
 subst h
 have hs:=Tm.size_eq t
 have hln:=Tm.length_le t.args
 refine Pn.ac fun C hC=>?_
 unfold Ix
 repeat' with_reducible first | refine W ?_ | refine Z0 ?_ | ((first | refine Wo fun K hK=>?_ | refine Wp ?_ | refine Wq ?_ | refine Wr ?_);(try simp only [go_sem,fN,seval,eT,iR,dT,dF,nL]);(repeat refine Ai ?_);(try (refine hK _ ?_;clear hK K));try refine iC ?_)
 refine IWP.loopD [5] (fun m s=>∃ k,k≤t.args.length∧m=t.args.length - k∧s.env 3=AN ((1 + Tm.sizes (t.args.take k):Nat):Int)∧s.env 7=F6 t.args∧s.env 8=AN t.args.length∧s.env 9=AN k∧s.S 5=none) t.args.length ⟨0,Nat.zero_le _,rfl,rfl,rfl,rfl,rfl,rfl⟩ ?_
 rintro m ⟨env,S⟩ ⟨k,hk,rfl,e3,e7,e8,e9,s5⟩
 simp only at e3 e7 e8 e9 s5
 by_cases hlt:(k:Int) < t.args.length
 ·obtain ⟨a,ha⟩:=Aj (show k < t.args.length by omega)
  have h1:=Tm.sizes_take ha
  have h2:=Tm.sizes_take_le t.args (k + 1)
  repeat' (first | (with_reducible first | refine W ?_ | refine Z0 ?_ | ((first | refine Wo fun K hK=>?_ | refine Wp ?_ | refine Wq ?_ | refine Wr ?_);(try simp only [go_sem,fN,seval,eT,iR,e3,e7,e8,e9,s5,hlt,ha,dT,dF,nL]);(repeat refine Ai ?_);(try (refine hK _ ?_;clear hK K));try refine iC ?_)) | refine Cg _ (ih _ (Tm.lt_of_arg (AU ha)) a (by omega) rfl) ?_)
  refine AH ⟨t.args.length - (k + 1),by omega,k + 1,by omega,rfl,?_⟩
  simp only [go_sem,fN,seval,AS.drop,Ac,AC.clears,AC.clear,AC.highs,AC.high,zD,AV.purge,AV.purges,AC.purge,AK.purge,Nat.reduceBEq,eT,iR,e3,e7,e8,e9,s5]
  exact ⟨by rw [h1];congr 3;omega,by congr 3⟩
 ·repeat' with_reducible first | refine W ?_ | refine Z0 ?_ | ((first | refine Wo fun K hK=>?_ | refine Wp ?_ | refine Wq ?_ | refine Wr ?_);(try simp only [go_sem,fN,seval,eT,iR,e3,e7,e8,e9,hlt,dT,dF,nL]);(repeat refine Ai ?_);(try (refine hK _ ?_;clear hK K));try refine iC ?_)
  simp only [go_sem,fN,seval,AR,AS.result,AB,AD,AL]
  rw [List.take_of_length_le (by omega),hs]

theorem Q2 (l:List ByteArray) (x:ByteArray):AY Tryz.prog 98 [CX l,Bo x] (AN (EI l x)):=by
 refine Dn.ac fun C hC=>?_
 unfold CO
 refine IWP.learn 0 (by omega) fun hkn=>?_
 have hkn:=Fe hkn
 rw [List.length_map] at hkn
 repeat' with_reducible first | refine W ?_ | refine Z0 ?_ | ((first | refine Wo fun K hK=>?_ | refine Wp ?_ | refine Wq ?_ | refine Wr ?_);(try simp only [go_sem,fN,seval,eT,iR,dT,dF,nL]);(repeat refine Ai ?_);(try (refine hK _ ?_;clear hK K));try refine iC ?_)
 refine IWP.loop (fun n s=>∃ k,k≤l.length∧n=l.length - k∧EI l x=LL (l.drop k) x k∧s.env 0=CX l∧s.env 1=Bo x∧s.env 7=AN l.length∧s.env 8=AN k) l.length ⟨0,Nat.zero_le _,rfl,rfl,rfl,rfl,rfl,rfl⟩ ?_
 rintro n ⟨env,S⟩ ⟨k,hk,rfl,hr,e0,e1,e7,e8⟩
 simp only at e0 e1 e7 e8
 by_cases hlt:(k:Int) < l.length
 ·obtain ⟨a,ha⟩:=Aj (show k < l.length by omega)
  rw [BQ ha,LL] at hr
  by_cases he:x=a
  ·subst he
   rw [if_pos rfl] at hr
   repeat' with_reducible first | refine W ?_ | refine Z0 ?_ | ((first | refine Wo fun K hK=>?_ | refine Wp ?_ | refine Wq ?_ | refine Wr ?_);(try simp only [go_sem,fN,seval,eT,iR,e0,e1,e7,e8,hlt,ha,dT,dF,nL]);(repeat refine Ai ?_);(try (refine hK _ ?_;clear hK K));try refine iC ?_)
   simp only [go_sem,fN,seval,AR,AS.result,AB,AD,AL]
   rw [hr]
  ·rw [if_neg fun e=>he e.symm] at hr
   repeat' with_reducible first | refine W ?_ | refine Z0 ?_ | ((first | refine Wo fun K hK=>?_ | refine Wp ?_ | refine Wq ?_ | refine Wr ?_);(try simp only [go_sem,fN,seval,eT,iR,e0,e1,e7,e8,hlt,ha,he,dT,dF,nL]);(repeat refine Ai ?_);(try (refine hK _ ?_;clear hK K));try refine iC ?_)
   refine AH ⟨l.length - (k + 1),by omega,k + 1,by omega,rfl,by rw [hr];rfl,?_⟩
   simp only [go_sem,fN,seval,eT,iR,e0,e1,e7,e8]
   congr 3
 ·rw [List.drop_of_length_le (by omega),LL] at hr
  repeat' with_reducible first | refine W ?_ | refine Z0 ?_ | ((first | refine Wo fun K hK=>?_ | refine Wp ?_ | refine Wq ?_ | refine Wr ?_);(try simp only [go_sem,fN,seval,eT,iR,e0,e1,e7,e8,hlt,dT,dF,nL]);(repeat refine Ai ?_);(try (refine hK _ ?_;clear hK K));try refine iC ?_)
  simp only [go_sem,fN,seval,AR,AS.result,AB,AD,AL]
  rw [hr]
theorem FR (x:Int):AY Tryz.prog 154 [AN x] (Ad false):=by
 refine Jp.ac fun C hC=>?_
 unfold Ff
 repeat' with_reducible first | refine W ?_ | refine Z0 ?_ | ((first | refine Wo fun K hK=>?_ | refine Wp ?_ | refine Wq ?_ | refine Wr ?_);(try simp only [go_sem,fN,seval,eT,iR,dT,dF,nL]);(repeat refine Ai ?_);(try (refine hK _ ?_;clear hK K));try refine iC ?_)
 simp only [go_sem,fN,seval,AR,AS.result,AB,AD,AL]
theorem S7 (x y:Int):AY Tryz.prog 140 [AN x,AN y] (AN (Hh x y)):=by
 refine IU.ac fun C hC=>?_
 unfold Er
 rcases Int.lt_trichotomy x y with h | h | h
 ·have hc:Hh x y=-1:=by unfold Hh;rw [if_pos h]
  rw [hc]
  repeat' (first | (with_reducible first | refine W ?_ | refine Z0 ?_ | ((first | refine Wo fun K hK=>?_ | refine Wp ?_ | refine Wq ?_ | refine Wr ?_);(try simp only [go_sem,fN,seval,eT,iR,h,dT,dF,nL]);(repeat refine Ai ?_);(try (refine hK _ ?_;clear hK K));try refine iC ?_)) | refine Cg _ (FR x) ?_ | refine Cg _ (FR y) ?_)
  simp only [go_sem,fN,seval,AR,AS.result,AB,AD,AL]
 ·have hc:Hh x y=0:=HN.2 h
  have h1:¬ y < y:=by omega
  rw [hc]
  repeat' (first | (with_reducible first | refine W ?_ | refine Z0 ?_ | ((first | refine Wo fun K hK=>?_ | refine Wp ?_ | refine Wq ?_ | refine Wr ?_);(try simp only [go_sem,fN,seval,eT,iR,h,h1,dT,dF,nL]);(repeat refine Ai ?_);(try (refine hK _ ?_;clear hK K));try refine iC ?_)) | refine Cg _ (FR x) ?_ | refine Cg _ (FR y) ?_)
  simp only [go_sem,fN,seval,AR,AS.result,AB,AD,AL]
 ·have hc:Hh x y=1:=by unfold Hh;rw [if_neg (by omega),if_pos h]
  have h1:¬ x < y:=by omega
  rw [hc]
  repeat' (first | (with_reducible first | refine W ?_ | refine Z0 ?_ | ((first | refine Wo fun K hK=>?_ | refine Wp ?_ | refine Wq ?_ | refine Wr ?_);(try simp only [go_sem,fN,seval,eT,iR,h,h1,dT,dF,nL]);(repeat refine Ai ?_);(try (refine hK _ ?_;clear hK K));try refine iC ?_)) | refine Cg _ (FR x) ?_ | refine Cg _ (FR y) ?_)
  simp only [go_sem,fN,seval,AR,AS.result,AB,AD,AL]
theorem AAJ (l:List Int):AY Tryz.prog 139 [RU l] (AN (E0 l)):=by
 refine Mw.ac fun C hC=>?_
 unfold Hw
 refine IWP.learn 0 (by omega) fun hkn=>?_
 have hkn:=Fe hkn
 rw [List.length_map] at hkn
 repeat' with_reducible first | refine W ?_ | refine Z0 ?_ | ((first | refine Wo fun K hK=>?_ | refine Wp ?_ | refine Wq ?_ | refine Wr ?_);(try simp only [go_sem,fN,seval,eT,iR,dT,dF,nL]);(repeat refine Ai ?_);(try (refine hK _ ?_;clear hK K));try refine iC ?_)
 refine IWP.loop (fun n s=>∃ k,k≤l.length∧n=l.length - k∧E0 l=E0 (l.drop k)∧s.env 3=AN 0∧s.env 6=RU l∧s.env 7=AN l.length∧s.env 8=AN k) l.length ⟨0,Nat.zero_le _,rfl,rfl,rfl,rfl,rfl,rfl⟩ ?_
 rintro n ⟨env,S⟩ ⟨k,hk,rfl,hr,e3,e6,e7,e8⟩
 simp only at e3 e6 e7 e8
 by_cases hlt:(k:Int) < l.length
 ·obtain ⟨a,ha⟩:=Aj (show k < l.length by omega)
  rw [BQ ha,E0] at hr
  by_cases he:a=0
  ·rw [if_neg (by omega)] at hr
   repeat' with_reducible first | refine W ?_ | refine Z0 ?_ | ((first | refine Wo fun K hK=>?_ | refine Wp ?_ | refine Wq ?_ | refine Wr ?_);(try simp only [go_sem,fN,seval,eT,iR,e3,e6,e7,e8,hlt,ha,he,dT,dF,nL]);(repeat refine Ai ?_);(try (refine hK _ ?_;clear hK K));try refine iC ?_)
   refine AH ⟨l.length - (k + 1),by omega,k + 1,by omega,rfl,hr,?_⟩
   simp only [go_sem,fN,seval,eT,iR,e3,e6,e7,e8]
   congr 3
  ·rw [if_pos he] at hr
   repeat' with_reducible first | refine W ?_ | refine Z0 ?_ | ((first | refine Wo fun K hK=>?_ | refine Wp ?_ | refine Wq ?_ | refine Wr ?_);(try simp only [go_sem,fN,seval,eT,iR,e3,e6,e7,e8,hlt,ha,he,dT,dF,nL]);(repeat refine Ai ?_);(try (refine hK _ ?_;clear hK K));try refine iC ?_)
   simp only [go_sem,fN,seval,AR,AS.result,AB,AD,AL]
   rw [hr]
 ·rw [List.drop_of_length_le (by omega),E0] at hr
  repeat' with_reducible first | refine W ?_ | refine Z0 ?_ | ((first | refine Wo fun K hK=>?_ | refine Wp ?_ | refine Wq ?_ | refine Wr ?_);(try simp only [go_sem,fN,seval,eT,iR,e3,e6,e7,e8,hlt,dT,dF,nL]);(repeat refine Ai ?_);(try (refine hK _ ?_;clear hK K));try refine iC ?_)
  simp only [go_sem,fN,seval,AR,AS.result,AB,AD,AL]
  rw [hr]
theorem Uv (row:List ByteArray) (a b:Tm):AY Tryz.prog 133 [CX row,aTm a,aTm b] (AN (Ey row a b)):=by
 have h:=Rr row a b
 have ho:=AAJ [Hh (EI row a.name) (EI row b.name),D_ a.name b.name,Hh a.args.length b.args.length]
 rw [← h] at ho
 refine Jt.ac fun C hC=>?_
 unfold Fd
 repeat' (first | (with_reducible first | refine W ?_ | refine Z0 ?_ | ((first | refine Wo fun K hK=>?_ | refine Wp ?_ | refine Wq ?_ | refine Wr ?_);(try simp only [go_sem,fN,seval,eT,iR,dT,dF,nL]);(repeat refine Ai ?_);(try (refine hK _ ?_;clear hK K));try refine iC ?_)) | refine Cg _ (Q2 row a.name) ?_ | refine Cg _ (Q2 row b.name) ?_ | refine Cg _ (S7 _ _) ?_ | refine Cg _ (N8 a.name b.name) ?_ | refine Cg _ (ho) ?_)
 simp only [go_sem,fN,seval,AR,AS.result,AB,AD,AL]
theorem H6 (row:List ByteArray):AY Tryz.prog 31 [CX row] (AN (Ds row)):=by
 refine Lv.ac fun C hC=>?_
 unfold G3
 by_cases h40:40 < row.length
 ·have h40':(40:Int) < row.length:=by omega
  repeat' with_reducible first | refine W ?_ | refine Z0 ?_ | ((first | refine Wo fun K hK=>?_ | refine Wp ?_ | refine Wq ?_ | refine Wr ?_);(try simp only [go_sem,fN,seval,eT,iR,h40',dT,dF,nL]);(repeat refine Ai ?_);(try (refine hK _ ?_;clear hK K));try refine iC ?_)
  simp only [go_sem,fN,seval,AR,AS.result,AB,AD,AL]
  unfold Ds
  rw [if_pos h40]
 ·have h40':¬ (40:Int) < row.length:=by omega
  have hm:Ds row=OY [] row:=by unfold Ds;rw [if_neg h40]
  repeat' with_reducible first | refine W ?_ | refine Z0 ?_ | ((first | refine Wo fun K hK=>?_ | refine Wp ?_ | refine Wq ?_ | refine Wr ?_);(try simp only [go_sem,fN,seval,eT,iR,h40',dT,dF,nL]);(repeat refine Ai ?_);(try (refine hK _ ?_;clear hK K));try refine iC ?_)
  refine IWP.loop (fun n s=>∃ k,k≤row.length∧n=row.length - k∧Ds row=OY (row.take k) (row.drop k)∧s.env 0=CX row∧s.env 8=CX row∧s.env 9=AN row.length∧s.env 10=AN k) row.length ⟨0,Nat.zero_le _,rfl,hm,rfl,rfl,rfl,rfl⟩ ?_
  rintro n ⟨env,S⟩ ⟨k,hk,rfl,hr,e0,e8,e9,e10⟩
  simp only at e0 e8 e9 e10
  by_cases hlt:(k:Int) < row.length
  ·obtain ⟨a,ha⟩:=Aj (show k < row.length by omega)
   rw [BQ ha,OY] at hr
   have htk:(row.map DH).take k=(row.take k).map DH:=(List.map_take).symm
   have hw1:∀ x ∈ row.map DH,x.length=1:=OJ
   repeat' with_reducible first | refine W ?_ | refine Z0 ?_ | ((first | refine Wo fun K hK=>?_ | refine Wp ?_ | refine Wq ?_ | refine Wr ?_);(try simp only [go_sem,fN,seval,eT,iR,e0,e8,e9,e10,hlt,ha,dT,dF,nL]);(repeat refine Ai ?_);(try (refine hK _ ?_;clear hK K));try refine iC ?_)
   refine ⟨_,H9 a,?_⟩
   cases h1:A_ a with
   | false =>
    rw [if_neg (by rw [h1];simp)] at hr
    repeat' with_reducible first | refine W ?_ | refine Z0 ?_ | ((first | refine Wo fun K hK=>?_ | refine Wp ?_ | refine Wq ?_ | refine Wr ?_);(try simp only [go_sem,fN,seval,eT,iR,h1,e0,e8,e9,e10,dT,dF,nL]);(repeat refine Ai ?_);(try (refine hK _ ?_;clear hK K));try refine iC ?_)
    simp only [go_sem,fN,seval,AR,AS.result,AB,AD,AL]
    rw [hr]
   | true =>
    repeat' with_reducible first | refine W ?_ | refine Z0 ?_ | ((first | refine Wo fun K hK=>?_ | refine Wp ?_ | refine Wq ?_ | refine Wr ?_);(try simp only [go_sem,fN,seval,eT,iR,h1,e0,e8,e9,e10,dT,dF,nL]);(repeat refine Ai ?_);(try (refine hK _ ?_;clear hK K));try refine iC ?_)
    refine ⟨_,Al a,?_⟩
    cases h2:AP a with
    | true =>
     rw [if_neg (by rw [h2];simp)] at hr
     repeat' with_reducible first | refine W ?_ | refine Z0 ?_ | ((first | refine Wo fun K hK=>?_ | refine Wp ?_ | refine Wq ?_ | refine Wr ?_);(try simp only [go_sem,fN,seval,eT,iR,h1,h2,e0,e8,e9,e10,dT,dF,nL]);(repeat refine Ai ?_);(try (refine hK _ ?_;clear hK K));try refine iC ?_)
     simp only [go_sem,fN,seval,AR,AS.result,AB,AD,AL]
     rw [hr]
    | false =>
     rw [if_pos ⟨h1,h2⟩] at hr
     repeat' with_reducible first | refine W ?_ | refine Z0 ?_ | ((first | refine Wo fun K hK=>?_ | refine Wp ?_ | refine Wq ?_ | refine Wr ?_);(try simp only [go_sem,fN,seval,eT,iR,h1,h2,e0,e8,e9,e10,dT,dF,nL]);(repeat refine Ai ?_);(try (refine hK _ ?_;clear hK K));try refine iC ?_)
     have hcon:AY Tryz.prog 68 [.one (.st (.list ((row.map DH).take k))),Bo a] (Ad (DL a (row.take k))):=by
      rw [htk]
      exact F1 _ _
     refine ⟨_,hcon,?_⟩
     cases h3:DL a (row.take k) with
     | true =>
      rw [if_pos h3] at hr
      repeat' with_reducible first | refine W ?_ | refine Z0 ?_ | ((first | refine Wo fun K hK=>?_ | refine Wp ?_ | refine Wq ?_ | refine Wr ?_);(try simp only [go_sem,fN,seval,eT,iR,h3,e0,e8,e9,e10,dT,dF,nL]);(repeat refine Ai ?_);(try (refine hK _ ?_;clear hK K));try refine iC ?_)
      simp only [go_sem,fN,seval,AR,AS.result,AB,AD,AL]
      rw [hr]
     | false =>
      rw [if_neg (by rw [h3];simp),← Au ha] at hr
      repeat' with_reducible first | refine W ?_ | refine Z0 ?_ | ((first | refine Wo fun K hK=>?_ | refine Wp ?_ | refine Wq ?_ | refine Wr ?_);(try simp only [go_sem,fN,seval,eT,iR,h3,e0,e8,e9,e10,dT,dF,nL]);(repeat refine Ai ?_);(try (refine hK _ ?_;clear hK K));try refine iC ?_)
      refine AH ⟨row.length - (k + 1),by omega,k + 1,by omega,rfl,hr,?_⟩
      simp only [go_sem,fN,seval,eT,iR,e0,e8,e9,e10]
      congr 3
  ·rw [List.drop_of_length_le (by omega),OY] at hr
   repeat' with_reducible first | refine W ?_ | refine Z0 ?_ | ((first | refine Wo fun K hK=>?_ | refine Wp ?_ | refine Wq ?_ | refine Wr ?_);(try simp only [go_sem,fN,seval,eT,iR,e0,e8,e9,e10,hlt,dT,dF,nL]);(repeat refine Ai ?_);(try (refine hK _ ?_;clear hK K));try refine iC ?_)
   simp only [go_sem,fN,seval,AR,AS.result,AB,AD,AL]
   rw [hr]
def EV (row:List ByteArray) (a b:Tm):Int:=if Ds row=0 then BS a b else Ds row
theorem KM (row:List ByteArray) (a b:Tm):AY Tryz.prog 75 [CX row,aTm a,aTm b] (AN (EV row a b)):=by
 unfold EV
 refine My.ac fun C hC=>?_
 unfold Hv
 by_cases h:Ds row=0
 ·repeat' (first | (with_reducible first | refine W ?_ | refine Z0 ?_ | ((first | refine Wo fun K hK=>?_ | refine Wp ?_ | refine Wq ?_ | refine Wr ?_);(try simp only [go_sem,fN,seval,eT,iR,h,dT,dF,nL]);(repeat refine Ai ?_);(try (refine hK _ ?_;clear hK K));try refine iC ?_)) | refine Cg _ (H6 row) ?_ | refine Cg _ (Ou a b) ?_)
  simp only [go_sem,fN,seval,AR,AS.result,AB,AD,AL,h]
 ·repeat' (first | (with_reducible first | refine W ?_ | refine Z0 ?_ | ((first | refine Wo fun K hK=>?_ | refine Wp ?_ | refine Wq ?_ | refine Wr ?_);(try simp only [go_sem,fN,seval,eT,iR,h,dT,dF,nL]);(repeat refine Ai ?_);(try (refine hK _ ?_;clear hK K));try refine iC ?_)) | refine Cg _ (H6 row) ?_)
  simp only [go_sem,fN,seval,AR,AS.result,AB,AD,AL,h]
theorem PA {row:List ByteArray} {a b:Tm} (h:EV row a b=0):Ds row=0∧a.may=0∧b.may=0:=by
 unfold EV BS at h
 split at h
 ·rename_i h1
  split at h
  ·rename_i h2
   exact ⟨h1,h2,h⟩
  ·rename_i h2
   exact absurd h h2
 ·rename_i h1
  exact absurd h h1

def G5 (row:List ByteArray) (cs ds:List SV) (x:SV):Prop:=∃ a b,cs=Ao a∧ds=Ao b∧x=.bool (paB row a b)
def Jd (row:List ByteArray) (m:Nat):AK:=.box 130 [.st (.list (row.map DH)),.mptr m]
abbrev Ks (t:Tm):AV:=.one (.eptr [.str t.name,.list (t.args.map Ao)])
theorem X2 {row:List ByteArray} {a b:Tm} {cs ds:List SV} {x:SV} (h1:Um (Ao a) cs) (h2:Um (Ao b) ds) (h:G5 row cs ds x):x=.bool (paB row a b):=by
 obtain ⟨a',b',rfl,rfl,rfl⟩:=h
 rw [Td h1,Td h2]
def J7 (row:List ByteArray) (a b:Tm):Prop:=∀ (p m:Nat) (S:AA),1000≤p→1000≤m→S p=some (Jd row m)→S m=some (.memo (G5 row)) →
 Ah Tryz.prog 100 [.one (.ptr p 1 0 0),Ks a,Ks b] S (Ad (paB row a b)) S
def Z7 (row:List ByteArray) (a b:Tm):Prop:=∀ (p m:Nat) (S:AA),1000≤p→1000≤m→S p=some (Jd row m)→S m=some (.memo (G5 row)) →
 Ah Tryz.prog 122 [.one (.ptr p 1 0 0),Ks a,Ks b] S (Ad (paB row a b)) S
theorem YZ {row:List ByteArray} {a b:Tm} (hask:AP a.name=false→Z7 row a b):J7 row a b:=fun p m S hp hm sp sm=>by
 refine Dw.acS fun hS C hC=>?_
 unfold CN
 have n7:S 7=none:=AJ hS (by omega)
 have p7:¬ p=7:=by omega
 have m7:¬ m=7:=by omega
 unfold Jd at sp
 cases hv:AP a.name with
 | true =>
  repeat' (first | (with_reducible first | refine W ?_ | refine Z0 ?_ | ((first | refine Wo fun K hK=>?_ | refine Wp ?_ | refine Wq ?_ | refine Wr ?_);(try simp only [go_sem,fN,seval,eT,iR,hv,dT,dF,nL]);(repeat refine Ai ?_);(try (refine hK _ ?_;clear hK K));try refine iC ?_)) | refine Cg _ (Al a.name) ?_)
  refine Ay (Ad false) hS trivial ?_ ?_ fun _ _=>rfl
  ·simp only [go_sem,fN,seval,eT,iR,AB,AD,AL]
  ·simp only [go_sem,fN,seval,eT,iR]
   rw [YS hv]
 | false =>
  repeat' (first | (with_reducible first | refine W ?_ | refine Z0 ?_ | ((first | refine Wo fun K hK=>?_ | refine Wp ?_ | refine Wq ?_ | refine Wr ?_);(try simp only [go_sem,fN,seval,eT,iR,hv,n7,p7,m7,sp,sm,AS.caps,FI,JV,Oa,JC,dT,dF,nL]);(repeat refine Ai ?_);(try (refine hK _ ?_;clear hK K));try refine iC ?_)) | refine Cg _ (Al a.name) ?_)
  refine ⟨rfl,?_,fun cs' ds' x t1 t2 hf=>?_⟩
  ·refine hK _ ?_
   clear hK K
   refine Wb ?_
   repeat' with_reducible first | refine W ?_ | refine Z0 ?_ | ((first | refine Wo fun K hK=>?_ | refine Wp ?_ | refine Wq ?_ | refine Wr ?_);(try simp only [go_sem,fN,seval,eT,iR,hv,n7,p7,m7,sp,sm,dT,dF,nL]);(repeat refine Ai ?_);(try (refine hK _ ?_;clear hK K));try refine iC ?_)
   refine ⟨_,[(p,Jd row m),(m,.memo (G5 row))],fun q hq=>?_,fun T hT=>hask hv (up1 p) (up1 m) (upS T) (Ap p) (Ap m) (by rw [At,hT (p,Jd row m) (by simp)];rfl) (by rw [At,hT (m,.memo (G5 row)) (by simp)];rfl),?_⟩
   ·simp only [List.mem_cons,List.not_mem_nil,or_false] at hq
    rcases hq with rfl | rfl
    ·simp only [go_sem,fN,seval,eT,iR,p7,sp,Jd]
    ·simp only [go_sem,fN,seval,eT,iR,m7,sm]
   repeat' with_reducible first | refine W ?_ | refine Z0 ?_ | ((first | refine Wo fun K hK=>?_ | refine Wp ?_ | refine Wq ?_ | refine Wr ?_);(try simp only [go_sem,fN,seval,eT,iR,hv,n7,p7,m7,sp,sm,AS.caps,FI,JV,Oa,dT,dF,nL]);(repeat refine Ai ?_);(try (refine hK _ ?_;clear hK K));try refine iC ?_)
   refine ⟨rfl,⟨a,b,(An a).symm,(An b).symm,rfl⟩,?_⟩
   refine hK _ ?_
   clear hK K
   refine Wb ?_
   repeat' with_reducible first | refine W ?_ | refine Z0 ?_ | ((first | refine Wo fun K hK=>?_ | refine Wp ?_ | refine Wq ?_ | refine Wr ?_);(try simp only [go_sem,fN,seval,eT,iR,n7,dT,dF,nL]);(repeat refine Ai ?_);(try (refine hK _ ?_;clear hK K));try refine iC ?_)
   refine Ay (Ad (paB row a b)) hS trivial ?_ ?_ fun k hk=>?_
   ·simp only [go_sem,fN,seval,eT,iR,AB,AD,AL]
   ·rfl
   ·have k7:¬ k=7:=by omega
    simp only [go_sem,fN,seval,eT,iR,k7]
  ·have hx:=X2 (a:=a) (b:=b) (by rw [An];exact t1) (by rw [An];exact t2) hf
   subst hx
   refine hK _ ?_
   clear hK K
   refine Wb ?_
   repeat' with_reducible first | refine W ?_ | refine Z0 ?_ | ((first | refine Wo fun K hK=>?_ | refine Wp ?_ | refine Wq ?_ | refine Wr ?_);(try simp only [go_sem,fN,seval,eT,iR,hv,n7,p7,m7,sp,sm,dT,dF,nL]);(repeat refine Ai ?_);(try (refine hK _ ?_;clear hK K));try refine iC ?_)
   refine Ay (Ad (paB row a b)) hS trivial ?_ ?_ fun k hk=>?_
   ·simp only [go_sem,fN,seval,eT,iR,AB,AD,AL]
   ·rfl
   ·have k7:¬ k=7:=by omega
    simp only [go_sem,fN,seval,eT,iR,k7]
theorem PF {a b:Tm}:a.beq b=true ↔ a=b:=Tm.beq_iff a b
theorem AAD {row:List ByteArray} {a b:Tm} (hv:AP a.name=false) (ha:a.size≤1000000) (hb:b.size≤1000000) (ih1:∀ x ∈ a.args,J7 row x b) (ih2:∀ y ∈ b.args,J7 row a y) (ih3:∀ x ∈ a.args,∀ y ∈ b.args,J7 row x y):Z7 row a b:=fun p m S hp hm sp sm=>by
 refine EF.acS fun hS C hC=>?_
 unfold Cb
 have hla:=Tm.length_le a.args
 have hlb:=Tm.length_le b.args
 have hsa:=Tm.size_eq a
 have hsb:=Tm.size_eq b
 have sp0:=sp
 unfold Jd at sp
 have rows:∀ q ∈ [(p,Jd row m),(m,AK.memo (G5 row))],S q.1=some q.2:=fun q hq=>by
  simp only [List.mem_cons,List.not_mem_nil,or_false] at hq
  rcases hq with rfl | rfl
  ·exact sp0
  ·exact sm
 have call:∀ x y:Tm,J7 row x y→∀ T:AA,(∀ q ∈ [(p,Jd row m),(m,AK.memo (G5 row))],T q.1=some q.2)→Ah Tryz.prog 100 [.one (.ptr (up1 p) 1 0 0),Ks x,Ks y] (upS T) (Ad (paB row x y)) (upS T):=fun x y h T hT =>
  h (up1 p) (up1 m) (upS T) (Ap p) (Ap m) (by rw [At,hT (p,Jd row m) (by simp)];rfl) (by rw [At,hT (m,.memo (G5 row)) (by simp)];rfl)
 repeat' with_reducible first | refine W ?_ | refine Z0 ?_ | ((first | refine Wo fun K hK=>?_ | refine Wp ?_ | refine Wq ?_ | refine Wr ?_);(try simp only [go_sem,fN,seval,eT,iR,dT,dF,nL]);(repeat refine Ai ?_);(try (refine hK _ ?_;clear hK K));try refine iC ?_)
 refine IWP.loop (fun n s=>∃ k,k≤a.args.length∧n=a.args.length - k∧(∀ x ∈ a.args.take k,x ≠ b∧paB row x b=false)∧s.env 0=.one (.ptr p 1 0 0)∧s.env 1=Ks a∧s.env 2=Ks b∧s.env 6=Ad false∧s.env 15=AN a.args.length∧s.env 16=AN k∧s.S=S) a.args.length ⟨0,Nat.zero_le _,rfl,by simp,by (simp only [go_sem,fN,seval,eT,iR]),by (simp only [go_sem,fN,seval,eT,iR]),by (simp only [go_sem,fN,seval,eT,iR]),by (simp only [go_sem,fN,seval,eT,iR]),by (simp only [go_sem,fN,seval,eT,iR]),by (simp only [go_sem,fN,seval,eT,iR]),rfl⟩ ?_
 rintro n ⟨env,S1⟩ ⟨k,hk,rfl,hno,e0,e1,e2,e6,e15,e16,hS1⟩
 simp only at e0 e1 e2 e6 e15 e16 hS1
 subst hS1
 by_cases hlt:(k:Int) < a.args.length
 ·obtain ⟨x,hx⟩:=Aj (show k < a.args.length by omega)
  have hxm:=AU hx
  cases hxb:x.beq b with
  | true =>
   repeat' (first | (with_reducible first | refine W ?_ | refine Z0 ?_ | ((first | refine Wo fun K hK=>?_ | refine Wp ?_ | refine Wq ?_ | refine Wr ?_);(try simp only [go_sem,fN,seval,eT,iR,e0,e1,e2,e6,e15,e16,hlt,hx,hxb,An,dT,dF,nL]);(repeat refine Ai ?_);(try (refine hK _ ?_;clear hK K));try refine iC ?_)) | refine Cg _ (Jc x b) ?_)
   refine Ay (Ad true) hS trivial ?_ ?_ fun _ _=>rfl
   ·simp only [go_sem,fN,seval,eT,iR,AB,AD,AL]
   ·simp only [go_sem,fN,seval,eT,iR]
    rw [T6 hv hxm (.inl (PF.1 hxb))]
  | false =>
   repeat' (first | (with_reducible first | refine W ?_ | refine Z0 ?_ | ((first | refine Wo fun K hK=>?_ | refine Wp ?_ | refine Wq ?_ | refine Wr ?_);(try simp only [go_sem,fN,seval,eT,iR,e0,e1,e2,e6,e15,e16,hlt,hx,hxb,An,dT,dF,nL]);(repeat refine Ai ?_);(try (refine hK _ ?_;clear hK K));try refine iC ?_)) | refine Cg _ (Jc x b) ?_)
   refine ⟨_,_,rows,call x b (ih1 x hxm),?_⟩
   cases hp1:paB row x b with
   | true =>
    repeat' with_reducible first | refine W ?_ | refine Z0 ?_ | ((first | refine Wo fun K hK=>?_ | refine Wp ?_ | refine Wq ?_ | refine Wr ?_);(try simp only [go_sem,fN,seval,eT,iR,e0,e1,e2,e6,e15,e16,hlt,hx,hxb,hp1,An,dT,dF,nL]);(repeat refine Ai ?_);(try (refine hK _ ?_;clear hK K));try refine iC ?_)
    refine Ay (Ad true) hS trivial ?_ ?_ fun _ _=>rfl
    ·simp only [go_sem,fN,seval,eT,iR,AB,AD,AL]
    ·simp only [go_sem,fN,seval,eT,iR]
     rw [T6 hv hxm (.inr hp1)]
   | false =>
    repeat' with_reducible first | refine W ?_ | refine Z0 ?_ | ((first | refine Wo fun K hK=>?_ | refine Wp ?_ | refine Wq ?_ | refine Wr ?_);(try simp only [go_sem,fN,seval,eT,iR,e0,e1,e2,e6,e15,e16,hlt,hx,hxb,hp1,An,dT,dF,nL]);(repeat refine Ai ?_);(try (refine hK _ ?_;clear hK K));try refine iC ?_)
    refine AH ⟨a.args.length - (k + 1),by omega,k + 1,by omega,rfl,fun y hy=>?_,?_⟩
    ·rw [Au hx,List.mem_append,List.mem_singleton] at hy
     rcases hy with hy | rfl
     ·exact hno y hy
     ·exact ⟨fun e=>(by rw [PF.2 e] at hxb;cases hxb),hp1⟩
    ·simp only [go_sem,fN,seval,eT,iR,e0,e1,e2,e6,e15,e16]
     congr 3
 ·rw [List.take_of_length_le (by omega)] at hno
  repeat' with_reducible first | refine W ?_ | refine Z0 ?_ | ((first | refine Wo fun K hK=>?_ | refine Wp ?_ | refine Wq ?_ | refine Wr ?_);(try simp only [go_sem,fN,seval,eT,iR,e0,e1,e2,e6,e15,e16,hlt,An,dT,dF,nL]);(repeat refine Ai ?_);(try (refine hK _ ?_;clear hK K));try refine iC ?_)
  refine ⟨_,Al b.name,?_⟩
  cases hvb:AP b.name with
  | true =>
   repeat' with_reducible first | refine W ?_ | refine Z0 ?_ | ((first | refine Wo fun K hK=>?_ | refine Wp ?_ | refine Wq ?_ | refine Wr ?_);(try simp only [go_sem,fN,seval,eT,iR,e0,e1,e2,e6,hvb,An,dT,dF,nL]);(repeat refine Ai ?_);(try (refine hK _ ?_;clear hK K));try refine iC ?_)
   refine Ay (Ad false) hS trivial ?_ ?_ fun _ _=>rfl
   ·simp only [go_sem,fN,seval,eT,iR,AB,AD,AL]
   ·simp only [go_sem,fN,seval,eT,iR]
    rw [LE hv hno (.inl hvb)]
  | false =>
   repeat' with_reducible first | refine W ?_ | refine Z0 ?_ | ((first | refine Wo fun K hK=>?_ | refine Wp ?_ | refine Wq ?_ | refine Wr ?_);(try simp only [go_sem,fN,seval,eT,iR,e0,e1,e2,e6,hvb,sp,An,dT,dF,nL]);(repeat refine Ai ?_);(try (refine hK _ ?_;clear hK K));try refine iC ?_)
   refine ⟨_,Uv row a b,?_⟩
   by_cases hsy:Ey row a b < 0
   ·repeat' with_reducible first | refine W ?_ | refine Z0 ?_ | ((first | refine Wo fun K hK=>?_ | refine Wp ?_ | refine Wq ?_ | refine Wr ?_);(try simp only [go_sem,fN,seval,eT,iR,e0,e1,e2,e6,hvb,hsy,An,dT,dF,nL]);(repeat refine Ai ?_);(try (refine hK _ ?_;clear hK K));try refine iC ?_)
    refine Ay (Ad false) hS trivial ?_ ?_ fun _ _=>rfl
    ·simp only [go_sem,fN,seval,eT,iR,AB,AD,AL]
    ·simp only [go_sem,fN,seval,eT,iR]
     rw [LE hv hno (.inr (.inl hsy))]
   ·repeat' with_reducible first | refine W ?_ | refine Z0 ?_ | ((first | refine Wo fun K hK=>?_ | refine Wp ?_ | refine Wq ?_ | refine Wr ?_);(try simp only [go_sem,fN,seval,eT,iR,e0,e1,e2,e6,hvb,hsy,An,dT,dF,nL]);(repeat refine Ai ?_);(try (refine hK _ ?_;clear hK K));try refine iC ?_)
    refine IWP.loop (fun n s=>∃ j,j≤b.args.length∧n=b.args.length - j∧(∀ y ∈ b.args.take j,paB row a y=true)∧s.env 0=.one (.ptr p 1 0 0)∧s.env 1=Ks a∧s.env 2=Ks b∧s.env 6=Ad false∧s.env 8=AN (Ey row a b)∧s.env 64=AN b.args.length∧s.env 65=AN j∧s.S=S1) b.args.length ⟨0,Nat.zero_le _,rfl,by simp,by (simp only [go_sem,fN,seval,eT,iR,e0]),by (simp only [go_sem,fN,seval,eT,iR,e1]),by (simp only [go_sem,fN,seval,eT,iR,e2]),by (simp only [go_sem,fN,seval,eT,iR,e6]),by (simp only [go_sem,fN,seval,eT,iR]),by (simp only [go_sem,fN,seval,eT,iR]),by (simp only [go_sem,fN,seval,eT,iR]),rfl⟩ ?_
    clear e0 e1 e2 e6 e15 e16 hlt
    rintro n ⟨env,S2⟩ ⟨j,hj,rfl,hall,e0,e1,e2,e6,e8,e64,e65,hS2⟩
    simp only at e0 e1 e2 e6 e8 e64 e65 hS2
    subst hS2
    by_cases hlt:(j:Int) < b.args.length
    ·obtain ⟨y,hy⟩:=Aj (show j < b.args.length by omega)
     have hym:=AU hy
     repeat' with_reducible first | refine W ?_ | refine Z0 ?_ | ((first | refine Wo fun K hK=>?_ | refine Wp ?_ | refine Wq ?_ | refine Wr ?_);(try simp only [go_sem,fN,seval,eT,iR,e0,e1,e2,e6,e8,e64,e65,hlt,hy,An,dT,dF,nL]);(repeat refine Ai ?_);(try (refine hK _ ?_;clear hK K));try refine iC ?_)
     refine ⟨_,_,rows,call a y (ih2 y hym),?_⟩
     cases hq:paB row a y with
     | false =>
      repeat' with_reducible first | refine W ?_ | refine Z0 ?_ | ((first | refine Wo fun K hK=>?_ | refine Wp ?_ | refine Wq ?_ | refine Wr ?_);(try simp only [go_sem,fN,seval,eT,iR,e0,e1,e2,e6,e8,e64,e65,hlt,hy,hq,An,dT,dF,nL]);(repeat refine Ai ?_);(try (refine hK _ ?_;clear hK K));try refine iC ?_)
      refine Ay (Ad false) hS trivial ?_ ?_ fun _ _=>rfl
      ·simp only [go_sem,fN,seval,eT,iR,AB,AD,AL]
      ·simp only [go_sem,fN,seval,eT,iR]
       rw [LE hv hno (.inr (.inr ⟨y,hym,hq⟩))]
     | true =>
      repeat' with_reducible first | refine W ?_ | refine Z0 ?_ | ((first | refine Wo fun K hK=>?_ | refine Wp ?_ | refine Wq ?_ | refine Wr ?_);(try simp only [go_sem,fN,seval,eT,iR,e0,e1,e2,e6,e8,e64,e65,hlt,hy,hq,An,dT,dF,nL]);(repeat refine Ai ?_);(try (refine hK _ ?_;clear hK K));try refine iC ?_)
      refine AH ⟨b.args.length - (j + 1),by omega,j + 1,by omega,rfl,fun u hu=>?_,?_⟩
      ·rw [Au hy,List.mem_append,List.mem_singleton] at hu
       rcases hu with hu | rfl
       ·exact hall u hu
       ·exact hq
      ·simp only [go_sem,fN,seval,eT,iR,e0,e1,e2,e6,e8,e64,e65]
       congr 3
    ·rw [List.take_of_length_le (by omega)] at hall
     by_cases hgt:0 < Ey row a b
     ·repeat' with_reducible first | refine W ?_ | refine Z0 ?_ | ((first | refine Wo fun K hK=>?_ | refine Wp ?_ | refine Wq ?_ | refine Wr ?_);(try simp only [go_sem,fN,seval,eT,iR,e0,e1,e2,e6,e8,e64,e65,hlt,hgt,An,dT,dF,nL]);(repeat refine Ai ?_);(try (refine hK _ ?_;clear hK K));try refine iC ?_)
      refine Ay (Ad true) hS trivial ?_ ?_ fun _ _=>rfl
      ·simp only [go_sem,fN,seval,eT,iR,AB,AD,AL]
      ·simp only [go_sem,fN,seval,eT,iR]
       rw [Zm hv hvb hgt hall]
     ·have hz:Ey row a b=0:=by omega
      have hll:=(OH.1 hz).2
      repeat' with_reducible first | refine W ?_ | refine Z0 ?_ | ((first | refine Wo fun K hK=>?_ | refine Wp ?_ | refine Wq ?_ | refine Wr ?_);(try simp only [go_sem,fN,seval,eT,iR,e0,e1,e2,e6,e8,e64,e65,hlt,hgt,An,dT,dF,nL]);(repeat refine Ai ?_);(try (refine hK _ ?_;clear hK K));try refine iC ?_)
      refine IWP.loop (fun n s=>∃ i,i≤a.args.length∧n=a.args.length - i∧a.args.take i=b.args.take i∧s.env 0=.one (.ptr p 1 0 0)∧s.env 1=Ks a∧s.env 2=Ks b∧s.env 6=Ad false∧s.env 85=AN a.args.length∧s.env 86=AN i∧s.S=S2) a.args.length ⟨0,Nat.zero_le _,rfl,by simp,by (simp only [go_sem,fN,seval,eT,iR,e0]),by (simp only [go_sem,fN,seval,eT,iR,e1]),by (simp only [go_sem,fN,seval,eT,iR,e2]),by (simp only [go_sem,fN,seval,eT,iR,e6]),by (simp only [go_sem,fN,seval,eT,iR]),by (simp only [go_sem,fN,seval,eT,iR]),rfl⟩ ?_
      clear e0 e1 e2 e6 e8 e64 e65 hlt
      rintro n ⟨env,S3⟩ ⟨i,hi,rfl,hpre,e0,e1,e2,e6,e85,e86,hS3⟩
      simp only at e0 e1 e2 e6 e85 e86 hS3
      subst hS3
      by_cases hlt:(i:Int) < a.args.length
      ·obtain ⟨x,hx⟩:=Aj (show i < a.args.length by omega)
       obtain ⟨y,hy⟩:=Aj (show i < b.args.length by omega)
       repeat' with_reducible first | refine W ?_ | refine Z0 ?_ | ((first | refine Wo fun K hK=>?_ | refine Wp ?_ | refine Wq ?_ | refine Wr ?_);(try simp only [go_sem,fN,seval,eT,iR,e0,e1,e2,e6,e85,e86,hlt,hx,hy,An,dT,dF,nL]);(repeat refine Ai ?_);(try (refine hK _ ?_;clear hK K));try refine iC ?_)
       refine ⟨_,Jc x y,?_⟩
       cases hxy:x.beq y with
       | true =>
        repeat' with_reducible first | refine W ?_ | refine Z0 ?_ | ((first | refine Wo fun K hK=>?_ | refine Wp ?_ | refine Wq ?_ | refine Wr ?_);(try simp only [go_sem,fN,seval,eT,iR,e0,e1,e2,e6,e85,e86,hlt,hx,hy,hxy,An,dT,dF,nL]);(repeat refine Ai ?_);(try (refine hK _ ?_;clear hK K));try refine iC ?_)
        refine AH ⟨a.args.length - (i + 1),by omega,i + 1,by omega,rfl,?_,?_⟩
        ·rw [Au hx,Au hy,hpre,PF.1 hxy]
        ·simp only [go_sem,fN,seval,eT,iR,e0,e1,e2,e6,e85,e86]
         congr 3
       | false =>
        repeat' with_reducible first | refine W ?_ | refine Z0 ?_ | ((first | refine Wo fun K hK=>?_ | refine Wp ?_ | refine Wq ?_ | refine Wr ?_);(try simp only [go_sem,fN,seval,eT,iR,e0,e1,e2,e6,e85,e86,hlt,hx,hy,hxy,An,dT,dF,nL]);(repeat refine Ai ?_);(try (refine hK _ ?_;clear hK K));try refine iC ?_)
        refine ⟨_,_,rows,call x y (ih3 x (AU hx) y (AU hy)),?_⟩
        repeat' with_reducible first | refine W ?_ | refine Z0 ?_ | ((first | refine Wo fun K hK=>?_ | refine Wp ?_ | refine Wq ?_ | refine Wr ?_);(try simp only [go_sem,fN,seval,eT,iR,e0,e1,e2,e6,e85,e86,hlt,hx,hy,hxy,An,dT,dF,nL]);(repeat refine Ai ?_);(try (refine hK _ ?_;clear hK K));try refine iC ?_)
        refine Ay (Ad (paB row x y)) hS trivial ?_ ?_ fun _ _=>rfl
        ·simp only [go_sem,fN,seval,eT,iR,AB,AD,AL]
        ·rw [VF hv hvb hno hz hall hpre hx hy fun e=>by rw [PF.2 e] at hxy;cases hxy]
         rfl
      ·have hae:a.args=b.args:=by
        rw [List.take_of_length_le (by omega),List.take_of_length_le (by omega)] at hpre
        exact hpre
       repeat' with_reducible first | refine W ?_ | refine Z0 ?_ | ((first | refine Wo fun K hK=>?_ | refine Wp ?_ | refine Wq ?_ | refine Wr ?_);(try simp only [go_sem,fN,seval,eT,iR,e0,e1,e2,e6,e85,e86,hlt,An,dT,dF,nL]);(repeat refine Ai ?_);(try (refine hK _ ?_;clear hK K));try refine iC ?_)
       refine Ay (Ad false) hS trivial ?_ ?_ fun _ _=>rfl
       ·simp only [go_sem,fN,seval,eT,iR,AB,AD,AL,e6]
       ·simp only [go_sem,fN,seval,eT,iR]
        rw [WS hv hno hz hae]
theorem He (row:List ByteArray):∀ (N:Nat) (a b:Tm),SizeOf.sizeOf a + SizeOf.sizeOf b < N→a.size≤1000000→b.size≤1000000→J7 row a b
 | 0,_,_,h,_,_=>absurd h (Nat.not_lt_zero _)
 | N + 1,a,b,h,ha,hb=>YZ fun hv=>AAD hv ha hb
   (fun x hx=>He row N x b (by have:=Tm.lt_of_arg hx;omega) (by have:=Tm.size_mem hx;have:=Tm.size_eq a;omega) hb)
   (fun y hy=>He row N a y (by have:=Tm.lt_of_arg hy;omega) ha (by have:=Tm.size_mem hy;have:=Tm.size_eq b;omega))
   (fun x hx y hy=>He row N x y (by have:=Tm.lt_of_arg hx;have:=Tm.lt_of_arg hy;omega) (by have:=Tm.size_mem hx;have:=Tm.size_eq a;omega) (by have:=Tm.size_mem hy;have:=Tm.size_eq b;omega))
def TJ (t:Tm):AK:=.box 37 ([SV.str t.name,SV.list (t.args.map Ao)].map .st)
theorem La (row:List ByteArray) (a b:Tm) (ha:a.size≤1000000) (hb:b.size≤1000000):AY Tryz.prog 70 [CX row,aTm a,aTm b] (Ad (paB row a b)):=by
 refine MM.ac fun C hC=>?_
 unfold Gl
 refine IWP.mid (fun x=>x.env 0=CX row∧x.env 4=.one (.ptr 4 1 0 0)∧x.env 5=.one (.ptr 5 1 0 0)∧x.S=AG (AG noS 4 (some (TJ a))) 5 (some (TJ b))) ?_ ?_
 ·repeat' with_reducible first | refine W ?_ | refine Z0 ?_ | ((first | refine Wo fun K hK=>?_ | refine Wq ?_ | refine Wr ?_);(try simp only [go_sem,fN,seval,eT,iR,An]);(repeat refine Ai ?_);(try (refine hK _ ?_;clear hK K)))
  exact ⟨rfl,rfl,rfl,rfl,rfl⟩
 rintro ⟨env,S⟩ ⟨e0,e4,e5,hS⟩
 simp only at e0 e4 e5 hS
 subst hS
 refine IWP.mid (fun x=>x.env 4=.one (.ptr 4 1 0 0)∧x.env 5=.one (.ptr 5 1 0 0)∧x.env 7=.one (.ptr 11 1 0 0)∧x.S=AG (AG (AG (AG noS 4 (some (TJ a))) 5 (some (TJ b))) 9 (some (.memo fun _ _ _=>False))) 11 (some (Jd row 9))) ?_ ?_
 ·repeat' with_reducible first | refine W ?_ | refine Z0 ?_ | ((first | refine Wo fun K hK=>?_ | refine Wq ?_ | refine Wr ?_);(try simp only [go_sem,fN,seval,eT,iR,e0,e4,e5,An]);(repeat refine Ai ?_);(try (refine hK _ ?_;clear hK K)))
  exact ⟨rfl,e4,e5,rfl,rfl⟩
 rintro ⟨env,S⟩ ⟨e4,e5,e7,hS⟩
 simp only at e4 e5 e7 hS
 subst hS
 refine IWP.ghost (Aa.memoWeak (id:=9) (f':=G5 row) rfl fun _ _ _ h=>h.elim) ?_
 refine IWP.ghost (Aa.freeze 4 [4] (ty:=37) (xs:=[SV.str a.name,SV.list (a.args.map Ao)]) rfl (Nat.succ_pos _) (fun t ht=>by rw [List.mem_singleton] at ht;subst ht;exact e4)) ?_
 refine IWP.ghost (Aa.freeze 5 [5] (ty:=37) (xs:=[SV.str b.name,SV.list (b.args.map Ao)]) rfl (Nat.succ_pos _) (fun t ht=>by rw [List.mem_singleton] at ht;subst ht;exact e5)) ?_
 repeat' with_reducible first | refine W ?_ | refine Z0 ?_ | ((first | refine Wo fun K hK=>?_ | refine Wp ?_ | refine Wq ?_ | refine Wr ?_);(try simp only [go_sem,fN,seval,eT,iR,e4,e5,e7,AS.set,List.mem_singleton,dT,dF,nL]);(repeat refine Ai ?_);(try (refine hK _ ?_;clear hK K));try refine iC ?_)
 refine ⟨_,[(11,Jd row 9),(9,.memo (G5 row))],fun q hq=>?_,fun T hT=>He row _ a b (Nat.lt_succ_self _) ha hb (up1 11) (up1 9) (upS T) (Ap _) (Ap _) (by rw [At,hT (11,Jd row 9) (by simp)];rfl) (by rw [At,hT (9,.memo (G5 row)) (by simp)];rfl),?_⟩
 ·simp only [List.mem_cons,List.not_mem_nil,or_false] at hq
  rcases hq with rfl | rfl <;> rfl
 repeat' with_reducible first | refine W ?_ | refine Z0 ?_ | ((first | refine Wo fun K hK=>?_ | refine Wp ?_ | refine Wq ?_ | refine Wr ?_);(try simp only [go_sem,fN,seval,eT,iR,e4,e5,e7,AS.set,List.mem_singleton,dT,dF,nL]);(repeat refine Ai ?_);(try (refine hK _ ?_;clear hK K));try refine iC ?_)
 simp only [go_sem,fN,seval,AR,AS.result,AB,AD,AL]
noncomputable def Sa (row:List ByteArray) (a b:Tm):Bool:=if EV row a b=0 then paB row a b else false
theorem Qa (row:List ByteArray) (a b:Tm):AY Tryz.prog 37 [CX row,aTm a,aTm b] (.tup [Ad (Sa row a b),AN (EV row a b)]):=by
 unfold Sa
 refine Mn.ac fun C hC=>?_
 unfold Hr
 by_cases h:EV row a b=0
 ·obtain ⟨_,h1,h2⟩:=PA h
  have z1:=(Tm.may_chk h1).2
  have z2:=(Tm.may_chk h2).2
  repeat' (first | (with_reducible first | refine W ?_ | refine Z0 ?_ | ((first | refine Wo fun K hK=>?_ | refine Wp ?_ | refine Wq ?_ | refine Wr ?_);(try simp only [go_sem,fN,seval,eT,iR,h,dT,dF,nL]);(repeat refine Ai ?_);(try (refine hK _ ?_;clear hK K));try refine iC ?_)) | refine Cg _ (KM row a b) ?_ | refine Cg _ (La row a b (by omega) (by omega)) ?_)
  simp only [go_sem,fN,seval,AR,AS.result,AB,AD,AL,h]
  try rfl
 ·repeat' (first | (with_reducible first | refine W ?_ | refine Z0 ?_ | ((first | refine Wo fun K hK=>?_ | refine Wp ?_ | refine Wq ?_ | refine Wr ?_);(try simp only [go_sem,fN,seval,eT,iR,h,dT,dF,nL]);(repeat refine Ai ?_);(try (refine hK _ ?_;clear hK K));try refine iC ?_)) | refine Cg _ (KM row a b) ?_)
  simp only [go_sem,fN,seval,AR,AS.result,AB,AD,AL,h]
  try rfl

end Go.Proofs.YtbhnmjkmieiadaaGreatDoor
