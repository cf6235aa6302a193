/-
  Part 7 of the texts. Conditions: none.
-/
import Derived.Test.YtbhnmjkmieiadaaGreatDoorCMa6
import Derived.Shelf.Strconv.Itoa3
import Derived.Shelf.SlSortCmp.WholeK
import Derived.Shelf.SlSortCmp.NoneTotal
import Derived.Test.YtbhnmjkmieiadaaGreatDoorProg
namespace Go.Proofs.YtbhnmjkmieiadaaGreatDoor
open Go Go.RowKit
set_option linter.unusedVariables false
set_option linter.unusedSimpArgs false
set_option maxHeartbeats 400000
theorem Vp(s:List Bd)(t:Tm)(hz:t.size≤1000000):AW Tryz.prog 62 [ER s,aTm t] (aTm (t.on s)):=by
 induction h:SizeOf.sizeOf t using Nat.strongRecOn generalizing t with
 | _ N ih =>
 subst h;have hs:=Tm.size_eq t;have hkn:=Tm.length_le t.args;by_cases hleaf:(∃x,lookup s t.name=some x)∧t.args=[]
 ·obtain⟨⟨x,hx⟩,h0⟩:=hleaf;have h0':(t.args.length:Int)=0:=by rw[h0];rfl
  rw[Tm.on_leaf hx h0];refine Ve.ac fun C hC=>?_;unfold P7;repeat' (first|(with_reducible first|refine W ?_|refine Z0 ?_|((first|refine Wo fun K hK=>?_|refine Wq ?_|refine Wr ?_);(try simp only[go_sem,fN,seval,eT,iR,hx,h0',Option.isSome_some]);(repeat refine Ai ?_);(try(refine hK _ ?_;clear hK K))))|refine Cg _ (SI s t.name) ?_)
  with_reducible refine Wp ?_
  simp only[go_sem,fN,seval,true_implies,false_implies,implies_true,dT,dF,nL];(try with_reducible refine iC ?_);refine Hg ?_;simp only[go_sem,fN,seval,AQ,AS.result,AB,AD,AM]
 ·have hon:t.on s=.mk t.name (t.args.map (Tm.on s)):=Tm.on_knot (by
   cases hl:lookup s t.name with
   | none=>exact .inl rfl
   | some x=>exact .inr fun h0=>hleaf ⟨⟨x,hl⟩,h0⟩)
  rw[hon];refine Ve.ac fun C hC=>?_;unfold P7;repeat' first|refine Hg ?_|refine Mm fun K hK=>?_
  refine⟨_,SI s t.name,?_⟩;cases hl:lookup s t.name;case' none =>
   repeat' with_reducible first|refine W ?_|refine Z0 ?_|((first|refine Wo fun K hK=>?_|refine Wq ?_|refine Wr ?_);(try simp only[go_sem,fN,seval,eT,iR,hl,Option.isSome_none]);(repeat refine Ai ?_);(try(refine hK _ ?_;clear hK K)))
   with_reducible refine Wp ?_
   simp only[go_sem,fN,seval,true_implies,false_implies,implies_true,dT,dF,nL];(try with_reducible refine iC ?_);refine Hg ?_
  case' some x =>
   have h0':¬(t.args.length:Int)=0:=fun h=>hleaf ⟨⟨_,hl⟩,List.eq_nil_of_length_eq_zero (by omega)⟩;repeat' with_reducible first|refine W ?_|refine Z0 ?_|((first|refine Wo fun K hK=>?_|refine Wq ?_|refine Wr ?_);(try simp only[go_sem,fN,seval,eT,iR,hl,h0',Option.isSome_some]);(repeat refine Ai ?_);(try(refine hK _ ?_;clear hK K)))
   with_reducible refine Wp ?_
   simp only[go_sem,fN,seval,true_implies,false_implies,implies_true,dT,dF,nL];(try with_reducible refine iC ?_);refine Hg ?_
  all_goals
   refine IWP.ghost (AY.ownC 7 1 44 37 2 (xs:=([]:List Tm).map Al) rfl rfl rfl Cv) ?_;refine IWP.loop (fun m x=>∃k,k≤t.args.length∧m=t.args.length-k∧x.env 0=ER s∧x.env 3=.one (.ptr 3 1 0 0)∧x.env 4=.one (.ptr 4 1 0 0)∧x.env 7=.one (.ptr 7 1 0 0)∧x.S 3=some (.box 37 [.st (.str t.name),.st (.list (t.args.map Al))])∧x.S 4=some (.box 37 [.st (.str ⟨#[]⟩),.full []])∧x.S 7=some (.box 37 [.st (.str t.name),.row 44 k])∧x.S 44=some (.arow 37 2 (((t.args.take k).map (Tm.on s)).map Al))∧x.env 8=AO k)
    t.args.length ⟨0,Nat.zero_le _,rfl,rfl,rfl,rfl,rfl,rfl,rfl,rfl,rfl,rfl⟩ ?_
   rintro m ⟨env,S⟩ ⟨k,hk,rfl,e0,e3,e4,e7,s3,s4,s7,s44,e8⟩;simp only at e0 e3 e4 e7 s3 s4 s7 s44 e8;have hlk:(t.args.take k).length=k:=by rw[List.length_take];omega
   by_cases hlt:(k:Int)<t.args.length
   ·obtain⟨a,ha⟩:=Aa (show k<t.args.length by omega);refine Hf (F10 e0 e3 e4 e7 s3 s4 s7 s44 e8 hlt) ?_;with_reducible refine Wp ?_
    simp only[go_sem,fN,seval,true_implies,false_implies,implies_true,dT,dF,nL,hlt];(try with_reducible refine iC ?_);repeat' first|refine Hf (F11 e0 e3 e4 e7 s3 s4 s7 s44 e8 ha hlk) ?_|refine Mm fun K hK=>?_|refine Cg _ (ih _ (Tm.lt_of_arg (AN ha)) a (by have:=Tm.size_mem (AN ha);omega) rfl) ?_
    refine AE ⟨t.args.length-(k+1),by omega,k+1,by omega,rfl,?_⟩;simp only[go_sem,fN,seval,eT,iR,e0,e3,e4,e7,s3,s4,s7,s44,e8];exact⟨by rw[Ab ha];simp[Ao],by congr 3⟩
   ·refine Hf (F10 e0 e3 e4 e7 s3 s4 s7 s44 e8 hlt) ?_;with_reducible refine Wp ?_
    simp only[go_sem,fN,seval,true_implies,false_implies,implies_true,dT,dF,nL,hlt];(try with_reducible refine iC ?_);have hall:t.args.take k=t.args:=List.take_of_length_le (by omega);rw[hall]at hlk s44;refine Hf (F10 e0 e3 e4 e7 s3 s4 s7 s44 e8 hlk) ?_;simp only[go_sem,fN,seval,AQ,AS.result,AB,AD,AM,e4,s44,hlk];rfl
theorem VO(s:List Bd)(t:Tm)(m:Int)(h0:0≤m)(h1:m≤9223372036854775806):AW Tryz.prog 120 [ER s,aTm t,AO m] (AO (BB (t.on s).size m)):=by
 induction h:SizeOf.sizeOf t using Nat.strongRecOn generalizing t m with
 | _ N ih =>
 subst h;by_cases hleaf:(∃x,lookup s t.name=some x)∧t.args=[]
 ·obtain⟨⟨x,hx⟩,ha0⟩:=hleaf;have h0':(t.args.length:Int)=0:=by rw[ha0];rfl
  rw[Tm.on_leaf hx ha0];refine Mt.ac fun C hC=>?_;unfold I3;repeat' (first|(with_reducible first|refine W ?_|refine Z0 ?_|((first|refine Wo fun K hK=>?_|refine Wq ?_|refine Wr ?_);(try simp only[go_sem,fN,seval,eT,iR,hx,h0',Option.isSome_some]);(repeat refine Ai ?_);(try(refine hK _ ?_;clear hK K))))|refine Cg _ (SI s t.name) ?_)
  with_reducible refine Wp ?_
  simp only[go_sem,fN,seval,true_implies,false_implies,implies_true,dT,dF,nL];(try with_reducible refine iC ?_);repeat' first|refine Hg ?_|refine Mm fun K hK=>?_|refine Cg _ (GC x m h0 h1) ?_
  simp only[go_sem,fN,seval,AQ,AS.result,AB,AD,AM]
 ·have hon:t.on s=.mk t.name (t.args.map (Tm.on s)):=Tm.on_knot (by
   cases hl:lookup s t.name with
   | none=>exact .inl rfl
   | some x=>exact .inr fun h0=>hleaf ⟨⟨x,hl⟩,h0⟩)
  have hs:(t.on s).size=1+Tm.sizes (t.args.map (Tm.on s)):=by rw[hon];rfl
  refine Mt.ac fun C hC=>?_;unfold I3;refine IWP.learn 1 (by omega) fun hkn=>?_;have hkn:=F_ hkn;repeat' first|refine Hg ?_|refine Mm fun K hK=>?_
  refine⟨_,SI s t.name,?_⟩;cases hl:lookup s t.name;case' none =>
   repeat' with_reducible first|refine W ?_|refine Z0 ?_|((first|refine Wo fun K hK=>?_|refine Wq ?_|refine Wr ?_);(try simp only[go_sem,fN,seval,eT,iR,hl,Option.isSome_none]);(repeat refine Ai ?_);(try(refine hK _ ?_;clear hK K)))
   with_reducible refine Wp ?_
   simp only[go_sem,fN,seval,true_implies,false_implies,implies_true,dT,dF,nL];(try with_reducible refine iC ?_);refine Hg ?_
  case' some x =>
   have h0':¬(t.args.length:Int)=0:=fun h=>hleaf ⟨⟨_,hl⟩,List.eq_nil_of_length_eq_zero (by omega)⟩;repeat' with_reducible first|refine W ?_|refine Z0 ?_|((first|refine Wo fun K hK=>?_|refine Wq ?_|refine Wr ?_);(try simp only[go_sem,fN,seval,eT,iR,hl,h0',Option.isSome_some]);(repeat refine Ai ?_);(try(refine hK _ ?_;clear hK K)))
   with_reducible refine Wp ?_
   simp only[go_sem,fN,seval,true_implies,false_implies,implies_true,dT,dF,nL];(try with_reducible refine iC ?_);refine Hg ?_
  all_goals
   refine IWP.loop (fun n x=>∃k,k≤t.args.length∧n=t.args.length-k∧x.env 9=AO (BB (1+Tm.sizes ((t.args.take k).map (Tm.on s))) m)∧x.env 0=ER s∧x.env 2=AO m∧x.env 4=.one (.ptr 4 1 0 0)∧x.env 10=AO k∧x.S 4=some (.box 37 [.st (.str t.name),.st (.list (t.args.map Al))])) t.args.length ⟨0,Nat.zero_le _,rfl,by
    simp only[go_sem,fN,seval,eT,iR];rw[BB];have z0:Tm.sizes []=0:=rfl;congr 3;split <;> omega,rfl,rfl,rfl,rfl,rfl⟩ ?_
   rintro n ⟨env,S⟩ ⟨k,hk,rfl,e9,e0,e2,e4,e10,s4⟩;simp only at e9 e0 e2 e4 e10 s4;have z4:=JE (1+Tm.sizes ((t.args.take k).map (Tm.on s))) m h0;have zle:1+Tm.sizes ((t.args.take k).map (Tm.on s))≤(t.on s).size:=by
    rw[hs,List.map_take];have:=Tm.sizes_take_le (t.args.map (Tm.on s)) k;omega
   by_cases hlt:(k:Int)<t.args.length
   ·obtain⟨a,ha⟩:=Aa (show k<t.args.length by omega);have ha':(t.args.map (Tm.on s))[k]?=some (a.on s):=by rw[List.getElem?_map,ha];rfl
    have z1:=Tm.sizes_take ha';rw[←List.map_take,←List.map_take]at z1;by_cases hb:m<BB (1+Tm.sizes ((t.args.take k).map (Tm.on s))) m
    ·have hb':¬BB (1+Tm.sizes ((t.args.take k).map (Tm.on s))) m≤m:=by omega
     refine Hf (F8 e9 e0 e2 e4 e10 s4 hlt hb') ?_;with_reducible refine Wp ?_
     simp only[go_sem,fN,seval,true_implies,false_implies,implies_true,dT,dF,nL,hb'];(try with_reducible refine iC ?_);refine Hf (F2 e9 e2) ?_;with_reducible refine Wp ?_
     simp only[go_sem,fN,seval,true_implies,false_implies,implies_true,dT,dF,nL,hb];(try with_reducible refine iC ?_);refine Hf e2 ?_;simp only[go_sem,fN,seval,AQ,AS.result,AB,AD,AM];rw[GO hb zle]
    ·have hb':BB (1+Tm.sizes ((t.args.take k).map (Tm.on s))) m≤m:=by omega
     obtain⟨b1,b2⟩:=JI hb;refine Hf (F8 e9 e0 e2 e4 e10 s4 hlt hb') ?_;with_reducible refine Wp ?_
     simp only[go_sem,fN,seval,true_implies,false_implies,implies_true,dT,dF,nL,hb'];(try with_reducible refine iC ?_);repeat' first|refine Hf (F7 e9 e0 e2 e4 e10 s4 ha) ?_|refine Mm fun K hK=>?_
     refine⟨_,ih _ (Tm.lt_of_arg (AN ha)) a (m-BB (1+Tm.sizes ((t.args.take k).map (Tm.on s))) m) (by omega) (by omega) rfl,?_⟩;have z5:=JE (a.on s).size (m-BB (1+Tm.sizes ((t.args.take k).map (Tm.on s))) m) (by omega);refine Hf (F6 e9 e0 e2 e4 e10 s4) ?_;refine AE ⟨t.args.length-(k+1),by omega,k+1,by omega,rfl,?_⟩;simp only[go_sem,fN,seval,eT,iR,e9,e0,e2,e4,e10,s4];exact⟨by rw[b1,ML b2,z1];congr 4;omega,by congr 3⟩
   ·refine Hf (F7 e9 e0 e2 e4 e10 s4 hlt) ?_;with_reducible refine Wp ?_
    simp only[go_sem,fN,seval,true_implies,false_implies,implies_true,dT,dF,nL];(try with_reducible refine iC ?_);have hfull:1+Tm.sizes ((t.args.take k).map (Tm.on s))=(t.on s).size:=by rw[List.take_of_length_le (by omega),hs]
    rw[hfull]at e9 z4;refine Hf (F2 e9 e2) ?_;by_cases hb:m<BB (t.on s).size m
    ·with_reducible refine Wp ?_
     simp only[go_sem,fN,seval,true_implies,false_implies,implies_true,dT,dF,nL,hb];(try with_reducible refine iC ?_);refine Hf e2 ?_;simp only[go_sem,fN,seval,AQ,AS.result,AB,AD,AM];rw[GO hb (Nat.le_refl _)]
    ·with_reducible refine Wp ?_
     simp only[go_sem,fN,seval,true_implies,false_implies,implies_true,dT,dF,nL,hb];(try with_reducible refine iC ?_);refine Hf e9 ?_;simp only[go_sem,fN,seval,AQ,AS.result,AB,AD,AM,e9]
def Au(s:List Bd)(t:Tm):Tm×Bool:=if(t.on s).size≤2000 then(t.on s,true) else(Tm.nil,false)
theorem Ee(s:List Bd)(t:Tm)(hz:t.size≤1000000):AW Tryz.prog 92 [ER s,aTm t] (.tup [aTm (Au s t).1,AZ (Au s t).2]):=by
 by_cases hb:(2000:Int)<BB (t.on s).size 2000
 ·have e:Au s t=(Tm.nil,false):=by
   unfold Au;rw[if_neg];intro h;unfold BB at hb;split at hb <;> omega
  rw[e];refine U1.ac fun C hC=>?_;unfold QK;repeat' first|refine Hf hb ?_|refine Mm fun K hK=>?_|refine Cg _ (VO s t 2000 (by omega) (by omega)) ?_
  with_reducible refine Wp ?_
  simp only[go_sem,fN,seval,true_implies,false_implies,implies_true,dT,dF,nL,hb];(try with_reducible refine iC ?_);refine Hg ?_;simp only[go_sem,fN,seval,AQ,AS.result,AB,AD,AM];rfl
 ·have e:Au s t=(t.on s,true):=by
   unfold Au;rw[if_pos];have:=(JI hb).2;omega
  rw[e];refine U1.ac fun C hC=>?_;unfold QK;repeat' first|refine Hf hb ?_|refine Mm fun K hK=>?_|refine Cg _ (VO s t 2000 (by omega) (by omega)) ?_
  with_reducible refine Wp ?_
  simp only[go_sem,fN,seval,true_implies,false_implies,implies_true,dT,dF,nL,hb];(try with_reducible refine iC ?_);repeat' first|refine Hg ?_|refine Mm fun K hK=>?_|refine Cg _ (Vp s t hz) ?_
  simp only[go_sem,fN,seval,AQ,AS.result,AB,AD,AM]

structure Ren(f:ByteArray→ByteArray):Prop where
 inv:∀n,f (f n)=n
 var:∀n,AP (f n)=AP n
 con:∀n,AP n=false→f n=n
theorem Ren.inj{f:ByteArray→ByteArray}(hf:Ren f){a b:ByteArray}:f a=f b↔a=b:=⟨fun h=>by rw[←hf.inv a,h,hf.inv],fun h=>by rw[h]⟩
mutual
def Tm.ren(f:ByteArray→ByteArray):Tm→Tm
 | .mk n xs=>.mk (f n) (Tm.renL f xs)
def Tm.renL(f:ByteArray→ByteArray):List Tm→List Tm
 | []=>[]
 | x::xs=>x.ren f::Tm.renL f xs
end
section
variable {f:ByteArray→ByteArray}
theorem Tm.renL_eq:∀xs:List Tm,Tm.renL f xs=xs.map (Tm.ren f)
 | []=>rfl
 | x::xs=>by rw[Tm.renL,Tm.renL_eq xs];rfl
theorem Tm.ren_eq(t:Tm):t.ren f=.mk (f t.name) (t.args.map (Tm.ren f)):=by
 cases t;rw[Tm.ren,Tm.renL_eq];rfl
theorem Tm.ren_name(t:Tm):(t.ren f).name=f t.name:=by rw[Tm.ren_eq];rfl
theorem Tm.ren_args(t:Tm):(t.ren f).args=t.args.map (Tm.ren f):=by rw[Tm.ren_eq];rfl
mutual
theorem Tm.ren_size:∀t:Tm,(t.ren f).size=t.size
 | .mk n xs=>by rw[Tm.ren,Tm.size,Tm.size,Tm.renL_sizes xs]
theorem Tm.renL_sizes:∀xs:List Tm,Tm.sizes (Tm.renL f xs)=Tm.sizes xs
 | []=>rfl
 | x::xs=>by rw[Tm.renL,Tm.sizes,Tm.sizes,Tm.ren_size x,Tm.renL_sizes xs]
end
theorem AAx(hf:Ren f)(x:ByteArray)(t:Tm):occ (f x) (t.ren f)=occ x t:=by
 induction h:SizeOf.sizeOf t using Nat.strongRecOn generalizing t with
 | _ N ih =>
 subst h;rw[NC,NC,Tm.ren_name,Tm.ren_args,List.any_map];congr 1
 ·exact decide_eq_decide.2 hf.inj
 ·rw[Bool.eq_iff_iff,List.any_eq_true,List.any_eq_true];constructor
  ·rintro⟨a,ha,h⟩;exact⟨a,ha,by rw[←ih _ (Tm.lt_of_arg ha) a rfl];exact h⟩
  ·rintro⟨a,ha,h⟩;exact⟨a,ha,by rw[Function.comp_apply,ih _ (Tm.lt_of_arg ha) a rfl];exact h⟩
theorem Cw:∀{l:List Bd},Bg l→∀{n:ByteArray} {t:Tm},lookup l n=some t↔(n,t)∈l
 | [],_,n,t=>by simp[lookup]
 | b::l,h,n,t=>by
  have h':b.1∉l.map (·.1)∧Bg l:=by
   unfold Bg at h;rw[List.map_cons,List.nodup_cons]at h;exact h
  have ih:=Cw h'.2 (n:=n) (t:=t);unfold lookup at ih ⊢;rw[List.find?_cons];by_cases hb:b.1=n
  ·rw[decide_eq_true hb];constructor
   ·intro h2;cases h2;exact List.mem_cons.2 (.inl (by rw[←hb]))
   ·intro h2;rcases List.mem_cons.1 h2 with h2|h2
    ·rw[←h2];rfl
    ·exact absurd (List.mem_map.2 ⟨_,h2,hb.symm⟩) h'.1
  ·rw[decide_eq_false hb,ih];constructor
   ·exact fun h2=>List.mem_cons_of_mem _ h2
   ·intro h2;rcases List.mem_cons.1 h2 with h2|h2
    ·rw[←h2]at hb;exact absurd rfl hb
    ·exact h2
theorem HG{l m:List Bd}(hp:l.Perm m)(hn:Bg m)(n:ByteArray):lookup l n=lookup m n:=by
 have hl:=DB hp.symm hn;cases h:lookup m n with
 | some t=>exact(Cw hl).2 (hp.mem_iff.2 ((Cw hn).1 h))
 | none =>
  cases h2:lookup l n with
  | none=>rfl
  | some t =>
   rw[(Cw hn).2 (hp.mem_iff.1 ((Cw hl).1 h2))]at h;cases h
theorem GP(h:Tm→Tm):∀(s:List Bd) (n:ByteArray),lookup (s.map fun b=>(b.1,h b.2)) n=(lookup s n).map h
 | [],n=>rfl
 | b::s,n=>by
  have ih:=GP h s n;unfold lookup at ih ⊢;rw[List.map_cons,List.find?_cons,List.find?_cons];by_cases hb:b.1=n
  ·simp[hb]
  ·rw[decide_eq_false hb];simpa[hb]using ih
theorem GB(s:List Bd)(x n:ByteArray)(t:Tm):lookup (s++[(x,t)]) n=(lookup s n).or (if x=n then some t else none):=by
 unfold lookup;rw[List.find?_append];cases h:s.find? fun b=>decide (b.1=n) with
 | some b=>simp
 | none =>
  by_cases hx:x=n
  ·simp[hx]
  ·simp[hx]
structure KA(f:ByteArray→ByteArray)(s s':List Bd):Prop where
 n1:Bg s
 n2:Bg s'
 eq:∀n,lookup s' (f n)=(lookup s n).map (Tm.ren f)
theorem KA.nil(f:ByteArray→ByteArray):KA f [] []:=⟨List.nodup_nil,List.nodup_nil,fun _=>rfl⟩
theorem KA.one(hf:Ren f)(x:ByteArray)(t:Tm):KA f [(x,t)] [(f x,t.ren f)]:=⟨by simp[Bg],by simp[Bg],fun n=>by
 have h1:=GB [] x n t;have h2:=GB [] (f x) (f n) (t.ren f);rw[List.nil_append]at h1 h2;rw[h1,h2];by_cases h:x=n
 ·simp[lookup,h]
 ·simp[lookup,h,mt hf.inj.1 h]⟩
theorem Kh(hf:Ren f){s s':List Bd}(h:KA f s s')(t:Tm):(t.ren f).on s'=(t.on s).ren f:=by
 induction hN:SizeOf.sizeOf t using Nat.strongRecOn generalizing t with
 | _ N ih =>
 subst hN;have hmap:(t.ren f).args.map (Tm.on s')=(t.args.map (Tm.on s)).map (Tm.ren f):=by
  rw[Tm.ren_args,List.map_map,List.map_map];exact List.map_congr_left fun a ha=>ih _ (Tm.lt_of_arg ha) a rfl
 by_cases h0:t.args=[]
 ·have h0':(t.ren f).args=[]:=by rw[Tm.ren_args,h0];rfl
  have hl:=h.eq t.name;cases hx:lookup s t.name with
  | some x =>
   rw[hx]at hl;rw[Tm.on_leaf hx h0,Tm.on_leaf (x:=x.ren f) (by rw[Tm.ren_name];exact hl) h0']
  | none =>
   rw[hx]at hl;rw[Tm.on_knot (.inl hx),Tm.on_knot (.inl (by rw[Tm.ren_name];exact hl)),hmap,Tm.ren_name,Tm.ren_eq (.mk t.name _)];rfl
 ·have h0':(t.ren f).args≠[]:=by
   rw[Tm.ren_args];intro h;exact h0 (List.map_eq_nil_iff.1 h)
  rw[Tm.on_knot (.inr h0),Tm.on_knot (.inr h0'),hmap,Tm.ren_name,Tm.ren_eq (.mk t.name _)];rfl
theorem TQ(hf:Ren f){s s':List Bd}(h:KA f s s')(t:Tm):Au s' (t.ren f)=((Au s t).1.ren f,(Au s t).2)∨(Au s t).2=false∧(Au s' (t.ren f)).2=false:=by
 unfold Au;rw[Kh hf h,Tm.ren_size];split
 ·exact .inl rfl
 ·exact .inr ⟨rfl,rfl⟩
def E6(f:ByteArray→ByteArray)(p:Pr):Pr:=(p.1.ren f,p.2.ren f)
theorem PI(hf:Ren f){s s':List Bd}(h:KA f s s'){x:ByteArray}(hx:∀b∈s,b.1≠x)(t:Tm) :
  (∃e,Ce s x t=.err e∧Ce s' (f x) (t.ren f)=.err e)∨∃s1 s1',Ce s x t=.go s1 []∧Ce s' (f x) (t.ren f)=.go s1' []∧KA f s1 s1':=by
 have hlx:lookup s x=none:=DU hx;have hlx':lookup s' (f x)=none:=by rw[h.eq,hlx];rfl
 have hx':∀b∈s',b.1≠f x:=fun b hb e=>by
  have:=(Cw h.n2).2 (show(b.1,b.2)∈s' from hb);rw[e,hlx']at this;cases this
 have h1:=KA.one hf x t;unfold Ce;rw[AAx hf];by_cases ho:occ x t=true
 ·rw[if_pos ho,if_pos ho];exact .inl ⟨6,rfl,rfl⟩
 rw[if_neg ho,if_neg ho];have hall:(s.all fun b=>decide ((b.2.on [(x,t)]).size≤2000))=(s'.all fun b=>decide ((b.2.on [(f x,t.ren f)]).size≤2000)):=by
  rw[Bool.eq_iff_iff,List.all_eq_true,List.all_eq_true];constructor
  ·intro ha b hb;have hl:=(Cw h.n2).2 (show(b.1,b.2)∈s' from hb);have he:=h.eq (f b.1);rw[hf.inv,hl]at he;cases hs:lookup s (f b.1) with
   | none=>rw[hs]at he;cases he
   | some t0 =>
    rw[hs]at he;have he:b.2=t0.ren f:=by simpa using he
    have:=ha _ ((Cw h.n1).1 hs);rw[he,Kh hf h1,Tm.ren_size];exact this
  ·intro ha b hb;have hl:=(Cw h.n1).2 (show(b.1,b.2)∈s from hb);have he:=h.eq b.1;rw[hl]at he;have:=ha _ ((Cw h.n2).1 he);rw[Kh hf h1,Tm.ren_size]at this;exact this
 rw[←hall];by_cases ha:(s.all fun b=>decide ((b.2.on [(x,t)]).size≤2000))=true
 case neg =>
  rw[if_neg ha,if_neg ha];exact .inl ⟨8,rfl,rfl⟩
 rw[if_pos ha,if_pos ha];have nm:∀{s:List Bd} {x:ByteArray} {t:Tm} {g:Tm→Tm},Bg s→(∀b∈s,b.1≠x)→Bg (s.map (fun b=>(b.1,g b.2))++[(x,t)]):=fun {s x t g} hn hx=>by
  unfold Bg at *;rw[List.map_append,List.map_map,List.nodup_append];refine⟨hn,by simp,fun a ha b hb=>?_⟩;obtain⟨c,hc,rfl⟩:=List.mem_map.1 ha;have hb:b=x:=by simpa using hb
  rw[hb];exact hx c hc
 have m1:=nm (t:=t) (g:=Tm.on [(x,t)]) h.n1 hx;have m2:=nm (t:=t.ren f) (g:=Tm.on [(f x,t.ren f)]) h.n2 hx';refine .inr ⟨_,_,rfl,rfl,DB (Bu _).symm m1,DB (Bu _).symm m2,fun n=>?_⟩;rw[HG (Bu _) m1,HG (Bu _) m2,GB,GB,GP,GP,h.eq];by_cases hn:x=n
 ·subst hn;rw[hlx];simp
 ·rw[if_neg hn,if_neg (mt hf.inj.1 hn)];cases lookup s n with
  | none=>rfl
  | some t0=>simp[Kh hf h1]
theorem PC(hf:Ren f){U:List ByteArray}{C:Nat}{s s':List Bd}{p:Pr}{l:List Pr}(hg:Cb U C s (p::l))(h:KA f s s') :
  (∃e,Bp s p=.err e∧Bp s' (E6 f p)=.err e)∨∃s1 s1' ps,Bp s p=.go s1 ps∧Bp s' (E6 f p)=.go s1' (ps.map (E6 f))∧KA f s1 s1':=by
 obtain⟨c1,c2⟩:=hg.lchk p List.mem_cons_self;have hU:=hg.lU p List.mem_cons_self;obtain⟨a1,a2,a3⟩:=onU hg c1 fun y hy=>(hU y).1 hy;obtain⟨b1,b2,b3⟩:=onU hg c2 fun y hy=>(hU y).2 hy;have nd:∀{t:Tm},LL s t→∀b∈s,b.1≠t.name:=fun {t} ht b hb e=>by
  have:=ht b hb;rw[e]at this;have h2:occ t.name t=true:=H1.2 (.inl rfl);rw[this]at h2;cases h2
 unfold Bp;rw[show(E6 f p).1=p.1.ren f from rfl,show(E6 f p).2=p.2.ren f from rfl,Kh hf h,Kh hf h];generalize p.1.on s=x at *;generalize p.2.on s=y at *;simp only[Tm.ren_size,Tm.ren_name,hf.var,hf.inj];by_cases q1:2000<x.size∨2000<y.size
 ·rw[if_pos q1,if_pos q1];exact .inl ⟨8,rfl,rfl⟩
 rw[if_neg q1,if_neg q1];by_cases q2:AP x.name=true∧x.name=y.name
 ·rw[if_pos q2,if_pos q2];exact .inr ⟨s,s',[],rfl,rfl,h⟩
 rw[if_neg q2,if_neg q2];by_cases q3:AP x.name=true
 ·rw[if_pos q3,if_pos q3];rcases PI hf h (nd a2) y with⟨e,h1,h2⟩|⟨s1,s1',h1,h2,h3⟩
  ·exact .inl ⟨e,h1,h2⟩
  ·exact .inr ⟨s1,s1',[],h1,h2,h3⟩
 rw[if_neg q3,if_neg q3];by_cases q4:AP y.name=true
 ·rw[if_pos q4,if_pos q4];rcases PI hf h (nd b2) x with⟨e,h1,h2⟩|⟨s1,s1',h1,h2,h3⟩
  ·exact .inl ⟨e,h1,h2⟩
  ·exact .inr ⟨s1,s1',[],h1,h2,h3⟩
 rw[if_neg q4,if_neg q4];simp only[Tm.ren_args,List.length_map];by_cases q5:x.name=y.name∧x.args.length=y.args.length
 ·rw[if_pos q5,if_pos q5];refine .inr ⟨s,s',_,rfl,?_,h⟩;rw[List.zip_map];rfl
 ·rw[if_neg q5,if_neg q5];exact .inl ⟨5,rfl,rfl⟩
theorem WT(hf:Ren f){U:List ByteArray}{C:Nat}:∀{n:Nat} {s:List Bd} {l:List Pr} {r:List Bd×Int},C6 n s l r→Cb U C s l→∀{s'},KA f s s'→∃r',C6 n s' (l.map (E6 f)) r'∧r'.2=r.2∧KA f r.1 r'.1:=by
 intro n s l r hu;induction hu with
 | nil=>exact fun _ s' h=>⟨(s',0),.nil,rfl,h⟩
 | err he =>
  intro hg s' h;rcases PC hf hg h with⟨e,h1,h2⟩|⟨s1,s1',ps,h1,h2,h3⟩
  ·rw[he]at h1;cases h1;exact⟨([],_),.err h2,rfl,.nil f⟩
  ·rw[he]at h1;cases h1
 | go hgo hr ih =>
  intro hg s' h;rcases PC hf hg h with⟨e,h1,h2⟩|⟨s1,s1',ps,h1,h2,h3⟩
  ·rw[hgo]at h1;cases h1
  ·rw[hgo]at h1;cases h1;obtain⟨r',k1,k2,k3⟩:=ih (D_ hg hgo).1 h3;rw[List.map_append]at k1;exact⟨r',.go h2 k1,k2,k3⟩
theorem M6(hf:Ren f):∀(l:List ByteArray) (n:ByteArray),Ba (l.map f) (f n)=Ba l n
 | [],n=>rfl
 | m::l,n=>by
  have ih:=M6 hf l n;rw[List.map_cons,Ba,Ba,ih];by_cases h:m=n
  ·simp[h]
  ·simp[h,mt hf.inj.1 h]
theorem YM(hf:Ren f)(l:List ByteArray)(n:ByteArray):CE (l.map f) (f n)=(CE l n).map f:=by
 unfold CE;rw[M6 hf,List.length_map];split <;> simp
mutual
theorem Us(hf:Ren f):∀(t:Tm) (l:List ByteArray),(t.ren f).cn (l.map f)=((t.cn l).1,(t.cn l).2.map f)
 | .mk n xs,l=>by
  rw[Tm.ren,Tm.cn,Tm.cn,hf.var,M6 hf,YM hf,U7 hf xs l];by_cases h:AP n=true
  ·rw[if_pos h,if_pos h]
  ·rw[if_neg h,if_neg h,hf.con n (by simpa using h)]
theorem U7(hf:Ren f):∀(xs:List Tm) (l:List ByteArray),Tm.cnL (Tm.renL f xs) (l.map f)=((Tm.cnL xs l).1,(Tm.cnL xs l).2.map f)
 | [],l=>rfl
 | x::xs,l=>by rw[Tm.renL,Tm.cnL,Tm.cnL,Us hf x l,U7 hf xs]
end
end

mutual
def Tm.mt:Tm→Tm→List Bd→List Bd×Bool
 | .mk n xs,t,l=>if AP n=true then(match lookup l n with
   | some x=>(l,x.beq t)
   | none=>(l++[(n,t)],true))
  else if n=t.name∧xs.length=t.args.length then Tm.mtL xs t.args l else(l,false)
def Tm.mtL:List Tm→List Tm→List Bd→List Bd×Bool
 | x::xs,y::ys,l=>if(x.mt y l).2=true then Tm.mtL xs ys (x.mt y l).1 else((x.mt y l).1,false)
 | _,_,l=>(l,true)
end
section
variable {p t:Tm} {l:List Bd}
theorem Tm.mt_old(hv:AP p.name=true){x:Tm}(h:lookup l p.name=some x):p.mt t l=(l,x.beq t):=by
 cases p with
 | mk n xs =>
  simp only[Tm.name_mk]at hv h;rw[Tm.mt,if_pos hv,h]
theorem Tm.mt_new(hv:AP p.name=true)(h:lookup l p.name=none):p.mt t l=(l++[(p.name,t)],true):=by
 cases p with
 | mk n xs =>
  simp only[Tm.name_mk]at hv h;rw[Tm.mt,if_pos hv,h];rfl
theorem Tm.mt_clash(hv:AP p.name=false)(h:¬(p.name=t.name∧p.args.length=t.args.length)):p.mt t l=(l,false):=by
 cases p with
 | mk n xs =>
  simp only[Tm.name_mk,Tm.args_mk]at hv h;rw[Tm.mt,if_neg (by simp[hv]),if_neg h]
theorem Tm.mt_knot(hv:AP p.name=false)(h1:p.name=t.name)(h2:p.args.length=t.args.length):p.mt t l=Tm.mtL p.args t.args l:=by
 cases p with
 | mk n xs =>
  simp only[Tm.name_mk,Tm.args_mk]at hv h1 h2;rw[Tm.mt,if_neg (by simp[hv]),if_pos ⟨h1,h2⟩];rfl
end
theorem Tm.mtL_nil(ys:List Tm)(l:List Bd):Tm.mtL [] ys l=(l,true):=by cases ys <;> simp[Tm.mtL]
theorem Tm.mtL_append:∀(xs ys xs' ys':List Tm) (l:List Bd),xs.length=ys.length→Tm.mtL (xs++xs') (ys++ys') l=if(Tm.mtL xs ys l).2=true then Tm.mtL xs' ys' (Tm.mtL xs ys l).1 else((Tm.mtL xs ys l).1,false)
 | [],[],xs',ys',l,_=>by simp[Tm.mtL_nil]
 | x::xs,y::ys,xs',ys',l,h=>by
  simp only[List.cons_append,Tm.mtL];by_cases hx:(x.mt y l).2=true
  ·simp only[hx,if_true];exact Tm.mtL_append xs ys xs' ys' _ (by simpa using h)
  ·simp only[hx];simp
 | [],y::ys,_,_,_,h=>by simp at h
 | x::xs,[],_,_,_,h=>by simp at h
theorem Tm.mtL_take{xs ys:List Tm}{k:Nat}{x y:Tm}{l:List Bd}(hl:xs.length=ys.length)(hx:xs[k]?=some x)(hy:ys[k]?=some y)(h:(Tm.mtL (xs.take k) (ys.take k) l).2=true) :
  Tm.mtL (xs.take (k+1)) (ys.take (k+1)) l=x.mt y (Tm.mtL (xs.take k) (ys.take k) l).1:=by
 rw[Ab hx,Ab hy,Tm.mtL_append _ _ _ _ _ (by simp[hl]),if_pos h];generalize Tm.mtL (xs.take k) (ys.take k) l=q;simp only[Tm.mtL];split
 ·rename_i h1;exact Prod.ext rfl h1.symm
 ·rename_i h1;exact Prod.ext rfl (by simpa using h1)
theorem Tm.mtL_no{xs ys:List Tm}{k:Nat}{l:List Bd}(hl:xs.length=ys.length)(h:(Tm.mtL (xs.take k) (ys.take k) l).2=false):Tm.mtL xs ys l=((Tm.mtL (xs.take k) (ys.take k) l).1,false):=by
 have e:Tm.mtL xs ys l=Tm.mtL (xs.take k++xs.drop k) (ys.take k++ys.drop k) l:=by rw[List.take_append_drop,List.take_append_drop]
 rw[e,Tm.mtL_append _ _ _ _ _ (by simp[hl]),h];rfl
structure Lv(l l':List Bd)(many most:Nat):Prop where
 named:Bg l→Bg l'
 len:l'.length≤l.length+many
 size:∀b∈l',b∈l∨b.2.size≤most
theorem Lv.refl(l:List Bd)(n m:Nat):Lv l l n m:=⟨fun h=>h,by omega,fun b hb=>.inl hb⟩
theorem Lv.trans{a b c:List Bd}{n m k n' m':Nat}(h:Lv a b n m)(h':Lv b c n' m')(hn:n+n'≤k){M:Nat}(h1:m≤M)(h2:m'≤M):Lv a c k M:=by
 refine⟨fun q=>h'.named (h.named q),by have:=h.len;have:=h'.len;omega,fun x hx=>?_⟩;rcases h'.size x hx with h3|h3
 ·rcases h.size x h3 with h4|h4
  ·exact .inl h4
  ·exact .inr (by omega)
 ·exact .inr (by omega)
theorem RA{l:List Bd}{n:ByteArray}(h:lookup l n=none):n∉l.map (·.1):=by
 intro hm;obtain⟨b,hb,rfl⟩:=List.mem_map.1 hm;unfold lookup at h;rw[Option.map_eq_none_iff,List.find?_eq_none]at h;exact h b hb (by simp)
theorem Ur{l:List Bd}{b:Bd}(h:lookup l b.1=none)(hn:Bg l):Bg (l++[b]):=by
 unfold Bg at *;rw[List.map_append,List.nodup_append];refine⟨hn,by simp,fun x hx y hy e=>?_⟩;simp only[List.map_cons,List.map_nil,List.mem_singleton]at hy;subst hy;subst e;exact RA h hx
mutual
theorem Tm.mt_ok:∀(p t:Tm) (l:List Bd),Lv l (p.mt t l).1 p.size t.size
 | .mk n xs,t,l=>by
  rw[Tm.mt];split
  ·split
   ·exact Lv.refl _ _ _
   ·rename_i h;refine⟨fun hn=>Ur h hn,?_,fun b hb=>?_⟩
    ·have:=Tm.size_pos (.mk n xs);rw[List.length_append,List.length_singleton];omega
    ·rcases List.mem_append.1 hb with hb|hb
     ·exact .inl hb
     ·rw[List.mem_singleton]at hb;subst hb;exact .inr (Nat.le_refl _)
  ·split
   ·have:=Tm.mtL_ok xs t.args l;have h1:=Tm.size_eq t;exact⟨this.named,by have:=this.len;rw[Tm.size];omega,fun b hb=>(this.size b hb).imp_right (by omega)⟩
   ·exact Lv.refl _ _ _
theorem Tm.mtL_ok:∀(xs ys:List Tm) (l:List Bd),Lv l (Tm.mtL xs ys l).1 (Tm.sizes xs) (Tm.sizes ys)
 | [],ys,l=>by rw[Tm.mtL_nil];exact Lv.refl _ _ _
 | x::xs,[],l=>by rw[Tm.mtL];exact Lv.refl _ _ _;simp
 | x::xs,y::ys,l=>by
  rw[Tm.mtL];have h1:=Tm.mt_ok x y l;split
  ·exact h1.trans (Tm.mtL_ok xs ys _) (by rw[Tm.sizes];exact Nat.le_refl _) (by rw[Tm.sizes];omega) (by rw[Tm.sizes];omega)
  ·exact⟨h1.named,by have:=h1.len;rw[Tm.sizes];show(x.mt y l).1.length≤_;omega,fun b hb=>(h1.size b hb).imp_right (by rw[Tm.sizes];omega)⟩
end
def BH(p t:Tm):List Bd:=if(p.mt t []).2=true then BE (p.mt t []).1 else[]
def BJ(p t:Tm):Bool:=(p.mt t []).2
theorem W3:Bg []:=List.nodup_nil
theorem MI(p t:Tm):Bg (p.mt t []).1:=(Tm.mt_ok p t []).named W3
theorem UJ(p t:Tm):(p.mt t []).1.length≤p.size:=by have:=(Tm.mt_ok p t []).len;simpa using this
theorem AAu(p t:Tm):∀b∈(p.mt t []).1,b.2.size≤t.size:=fun b hb=>((Tm.mt_ok p t []).size b hb).resolve_left (by simp)
mutual
def Tm.hasCase(p:Tm):Tm→Bool
 | .mk n xs=>BJ p (.mk n xs)||Tm.hasCaseL p xs
def Tm.hasCaseL(p:Tm):List Tm→Bool
 | []=>false
 | t::ts=>Tm.hasCase p t||Tm.hasCaseL p ts
end
mutual
theorem Tm.hasCase_knots(p:Tm):∀t:Tm,Tm.hasCase p t=t.knots.any (BJ p)
 | .mk n xs=>by rw[Tm.hasCase,Tm.knots,List.any_cons,Tm.hasCase_knotsL p xs]
theorem Tm.hasCase_knotsL(p:Tm):∀xs:List Tm,Tm.hasCaseL p xs=(Tm.knotsL xs).any (BJ p)
 | []=>rfl
 | t::ts=>by rw[Tm.hasCaseL,Tm.knotsL,List.any_append,Tm.hasCase_knots p t,Tm.hasCase_knotsL p ts]
end

def Tm.atP:Tm→List Int→Option Tm
 | t,[]=>some t
 | t,i::p=>if i<0 then none else match t.args[i.toNat]? with
  | some a=>a.atP p
  | none=>none
def Tm.putP:Tm→List Int→Tm→Tm
 | t,[],x=>x
 | t,i::p,x=>match t.args[i.toNat]? with
  | some a=>.mk t.name (t.args.set i.toNat (a.putP p x))
  | none=>t
theorem Tm.atP_nil(t:Tm):t.atP []=some t:=by cases t;rfl
theorem Tm.putP_nil(t x:Tm):t.putP [] x=x:=by cases t;rfl
theorem Tm.atP_cons(t:Tm)(i:Int)(p:List Int):t.atP (i::p)=if i<0 then none else match t.args[i.toNat]? with
  | some a=>a.atP p
  | none=>none:=by cases t;rfl
theorem Tm.putP_cons(t:Tm)(i:Int)(p:List Int)(x:Tm):t.putP (i::p) x=match t.args[i.toNat]? with
  | some a=>.mk t.name (t.args.set i.toNat (a.putP p x))
  | none=>t:=by cases t;rfl
theorem Tm.atP_at{t a:Tm}{k:Nat}(h:t.args[k]?=some a)(p:List Int):t.atP ((k:Int)::p)=a.atP p:=by
 rw[Tm.atP_cons,if_neg (by omega),Int.toNat_natCast,h]
theorem Tm.putP_at{t a:Tm}{k:Nat}(h:t.args[k]?=some a)(p:List Int)(x:Tm):t.putP ((k:Int)::p) x=.mk t.name (t.args.set k (a.putP p x)):=by
 rw[Tm.putP_cons,Int.toNat_natCast,h]
def atT(T:Tm→Bool)(t:Tm)(p:List Int):Bool:=match t.atP p with
 | some x=>T x
 | none=>false
mutual
def Tm.findP(T:Tm→Bool):Tm→Option (List Int)
 | .mk n xs=>if T (.mk n xs)=true then some [] else Tm.findPL T 0 xs
def Tm.findPL(T:Tm→Bool):Nat→List Tm→Option (List Int)
 | _,[]=>none
 | k,x::xs=>match x.findP T with
  | some p=>some ((k:Int)::p)
  | none=>Tm.findPL T (k+1) xs
end
mutual
theorem Tm.places_find(T:Tm→Bool):∀t:Tm,t.places.find? (atT T t)=t.findP T
 | .mk n xs=>by
  rw[Tm.places,Tm.findP,List.find?_cons];by_cases h:T (.mk n xs)=true
  ·rw[show atT T (.mk n xs) []=true from h,if_pos h]
  ·rw[show atT T (.mk n xs) []=false by
    rw[←Bool.not_eq_true];exact h,if_neg h]
   exact Tm.placesFrom_find T n xs 0 xs (by simp)
theorem Tm.placesFrom_find(T:Tm→Bool)(n:ByteArray)(all:List Tm):∀(k:Nat) (xs:List Tm),all.drop k=xs→(Tm.placesFrom k xs).find? (atT T (.mk n all))=Tm.findPL T k xs
 | _,[],_=>rfl
 | k,x::xs,h=>by
  have hk:all[k]?=some x:=by
   have:=congrArg (fun l=>l[0]?) h;simpa using this
  rw[Tm.placesFrom,Tm.findPL,List.find?_append,List.find?_map];have e:(atT T (.mk n all) ∘ fun p=>(k:Int)::p)=atT T x:=by
   funext p;show atT T (.mk n all) ((k:Int)::p)=atT T x p
   unfold atT;rw[Tm.atP_at (t:=.mk n all) hk]
  rw[e,Tm.places_find T x,Tm.placesFrom_find T n all (k+1) xs (by rw[←List.tail_drop,h];rfl)];cases x.findP T <;> rfl
end
mutual
theorem Tm.findP_at(T:Tm→Bool):∀(t:Tm) (p:List Int),t.findP T=some p→∃x,t.atP p=some x∧T x=true∧x∈t.knots
 | .mk n xs,p,h=>by
  rw[Tm.findP]at h;split at h
  ·rename_i ht;cases h;exact⟨_,rfl,ht,by rw[Tm.knots];exact List.mem_cons_self⟩
  ·obtain⟨x,h1,h2,h3⟩:=Tm.findPL_at T n xs 0 xs p (by simp) h;exact⟨x,h1,h2,by rw[Tm.knots];exact List.mem_cons_of_mem _ h3⟩
theorem Tm.findPL_at(T:Tm→Bool)(n:ByteArray)(all:List Tm):∀(k:Nat) (xs:List Tm) (p:List Int),all.drop k=xs→Tm.findPL T k xs=some p→∃x,(Tm.mk n all).atP p=some x∧T x=true∧x∈Tm.knotsL xs
 | _,[],p,_,h=>by cases h
 | k,x::xs,p,h,hf=>by
  have hk:all[k]?=some x:=by
   have:=congrArg (fun l=>l[0]?) h;simpa using this
  rw[Tm.findPL]at hf;split at hf
  ·rename_i q hq;cases hf;obtain⟨y,h1,h2,h3⟩:=Tm.findP_at T x q hq;exact⟨y,by rw[Tm.atP_at (t:=.mk n all) hk];exact h1,h2,by rw[Tm.knotsL];exact List.mem_append_left _ h3⟩
  ·obtain⟨y,h1,h2,h3⟩:=Tm.findPL_at T n all (k+1) xs p (by rw[←List.tail_drop,h];rfl) hf;exact⟨y,h1,h2,by rw[Tm.knotsL];exact List.mem_append_right _ h3⟩
end
def Dc(R:List Pr)(t:Tm):Bool:=R.any fun r=>BJ r.1 t
def CI(R:List Pr)(t:Tm):List Pr→Option (Tm×Int)
 | []=>none
 | r::l=>if BJ r.1 t=true then(if(Au (BH r.1 t) r.2).2=true then some ((Au (BH r.1 t) r.2).1,0) else some (Tm.nil,8)) else CI R t l
def DV(R:List Pr)(t:Tm):Option (Tm×Int):=CI R t R
theorem IP(R:List Pr)(t:Tm):∀l:List Pr,CI R t l=none↔l.any (fun r=>BJ r.1 t)=false
 | []=>by simp[CI]
 | r::l=>by
  rw[CI,List.any_cons,Bool.or_eq_false_iff,←IP R t l];by_cases h:BJ r.1 t=true
  ·rw[if_pos h,h];split <;> simp
  ·rw[if_neg h];simp only[Bool.not_eq_true]at h;simp[h]
theorem C_{R:List Pr}{t:Tm}:DV R t=none↔Dc R t=false:=IP R t R
theorem K0{R:List Pr}{t x:Tm}{e:Int}:∀{l:List Pr},CI R t l=some (x,e)→(e=0∨e=8)∧x.size≤2000∧(e=8→x=Tm.nil)
 | [],h=>by cases h
 | r::l,h=>by
  rw[CI]at h;split at h
  ·split at h
   ·cases h;refine⟨.inl rfl,?_,by simp⟩;unfold Au;split
    ·assumption
    ·decide
   ·cases h;exact⟨.inr rfl,by decide,fun _=>rfl⟩
  ·exact K0 h
mutual
def Tm.inn(R:List Pr):Tm→Option (Tm×Int)
 | .mk n xs=>match Tm.innL R xs with
  | some (ys,e)=>some (.mk n ys,e)
  | none=>DV R (.mk n xs)
def Tm.innL(R:List Pr):List Tm→Option (List Tm×Int)
 | []=>none
 | x::xs=>match Tm.inn R x with
  | some (y,e)=>some (y::xs,e)
  | none=>match Tm.innL R xs with
   | some (ys,e)=>some (x::ys,e)
   | none=>none
end
mutual
def Tm.out(R:List Pr):Tm→Option (Tm×Int)
 | .mk n xs=>match DV R (.mk n xs) with
  | some r=>some r
  | none=>match Tm.outL R xs with
   | some (ys,e)=>some (.mk n ys,e)
   | none=>none
def Tm.outL(R:List Pr):List Tm→Option (List Tm×Int)
 | []=>none
 | x::xs=>match Tm.out R x with
  | some (y,e)=>some (y::xs,e)
  | none=>match Tm.outL R xs with
   | some (ys,e)=>some (x::ys,e)
   | none=>none
end
theorem Tm.inn_eq(R:List Pr)(t:Tm):t.inn R=match Tm.innL R t.args with
  | some (ys,e)=>some (.mk t.name ys,e)
  | none=>DV R t:=by cases t;rfl
def OD(R:List Pr)(xs:List Tm):Bool:=(Tm.knotsL xs).any (Dc R)
def FV(R:List Pr)(x:Tm):Bool:=Dc R x&&!OD R x.args
mutual
theorem Tm.inn_none(R:List Pr):∀t:Tm,t.inn R=none↔t.knots.any (Dc R)=false
 | .mk n xs=>by
  rw[Tm.inn,Tm.knots,List.any_cons,Bool.or_eq_false_iff,←Tm.innL_none R xs];cases Tm.innL R xs with
  | none=>simp[C_]
  | some r=>simp
theorem Tm.innL_none(R:List Pr):∀xs:List Tm,Tm.innL R xs=none↔(Tm.knotsL xs).any (Dc R)=false
 | []=>by simp[Tm.innL,Tm.knotsL]
 | x::xs=>by
  rw[Tm.innL,Tm.knotsL,List.any_append,Bool.or_eq_false_iff,←Tm.innL_none R xs,←Tm.inn_none R x];cases Tm.inn R x with
  | some r=>simp
  | none=>cases Tm.innL R xs <;> simp
end
def Dk(R:List Pr)(t:Tm):Option (List Int)→Option (Tm×Int)
 | none=>none
 | some p=>match t.atP p with
  | none=>none
  | some x=>(DV R x).map fun r=>(t.putP p r.1,r.2)
mutual
theorem Tm.inn_find(R:List Pr):∀t:Tm,t.inn R=Dk R t (t.findP (FV R))
 | .mk n xs=>by
  rw[Tm.inn,Tm.findP];by_cases h:FV R (.mk n xs)=true
  ·rw[if_pos h];unfold FV at h;rw[Bool.and_eq_true,Bool.not_eq_true']at h;rw[(Tm.innL_none R xs).2 h.2];simp only[Dk,Tm.atP];cases DV R (.mk n xs) <;> simp[Tm.putP]
  ·rw[if_neg h];have key:=Tm.innL_find R n xs 0 xs (by simp);cases hi:Tm.innL R xs with
   | some r =>
    rw[←key,hi];simp
   | none =>
    rw[hi]at key;rw[←key];have h1:=(Tm.innL_none R xs).1 hi;show DV R (.mk n xs)=none
    rw[C_,←Bool.not_eq_true];intro hf;exact h (by unfold FV;rw[hf,show OD R (Tm.mk n xs).args=false from h1];rfl)
theorem Tm.innL_find(R:List Pr)(n:ByteArray)(all:List Tm):∀(k:Nat) (xs:List Tm),all.drop k=xs→(match Tm.innL R xs with
   | some r=>some (Tm.mk n (all.take k++r.1),r.2)
   | none=>none)=Dk R (.mk n all) (Tm.findPL (FV R) k xs)
 | _,[],_=>rfl
 | k,x::xs,h=>by
  have hk:all[k]?=some x:=by
   have:=congrArg (fun l=>l[0]?) h;simpa using this
  have hlt:k<all.length:=(List.getElem?_eq_some_iff.1 hk).1;have hd:all.drop (k+1)=xs:=by rw[←List.tail_drop,h];rfl
  rw[Tm.innL,Tm.findPL,Tm.inn_find R x];cases hp:x.findP (FV R) with
  | some p =>
   simp only[Dk];rw[Tm.atP_at (t:=.mk n all) hk];cases hx:x.atP p with
   | none =>
    obtain⟨y,hy,_⟩:=Tm.findP_at _ x p hp;rw[hx]at hy;cases hy
   | some y =>
    cases hr:DV R y with
    | none =>
     obtain⟨y',hy,h1,_⟩:=Tm.findP_at _ x p hp;rw[hx]at hy;cases hy;unfold FV at h1;rw[Bool.and_eq_true]at h1;rw[C_.1 hr]at h1;exact absurd h1.1 (by simp)
    | some r =>
     simp only[Option.map_some,hr];rw[Tm.putP_at (t:=.mk n all) hk];simp only[Tm.name_mk,Tm.args_mk];rw[List.set_eq_take_append_cons_drop,if_pos hlt,hd]
  | none =>
   have key:=Tm.innL_find R n all (k+1) xs hd;simp only[Dk]at key ⊢;rw[←key];cases Tm.innL R xs with
   | none=>rfl
   | some r =>
    simp only;rw[List.take_add_one,hk];simp
end
mutual
theorem Tm.out_find(R:List Pr):∀t:Tm,t.out R=Dk R t (t.findP (Dc R))
 | .mk n xs=>by
  rw[Tm.out,Tm.findP];by_cases h:Dc R (.mk n xs)=true
  ·rw[if_pos h];simp only[Dk,Tm.atP];cases hr:DV R (.mk n xs) with
   | none =>
    rw[C_.1 hr]at h;cases h
   | some r=>simp[Tm.putP]
  ·rw[if_neg h,←Tm.outL_find R n xs 0 xs (by simp),C_.2 (by simpa using h)];cases Tm.outL R xs <;> simp
theorem Tm.outL_find(R:List Pr)(n:ByteArray)(all:List Tm):∀(k:Nat) (xs:List Tm),all.drop k=xs→(match Tm.outL R xs with
   | some r=>some (Tm.mk n (all.take k++r.1),r.2)
   | none=>none)=Dk R (.mk n all) (Tm.findPL (Dc R) k xs)
 | _,[],_=>rfl
 | k,x::xs,h=>by
  have hk:all[k]?=some x:=by
   have:=congrArg (fun l=>l[0]?) h;simpa using this
  have hlt:k<all.length:=(List.getElem?_eq_some_iff.1 hk).1;have hd:all.drop (k+1)=xs:=by rw[←List.tail_drop,h];rfl
  rw[Tm.outL,Tm.findPL,Tm.out_find R x];cases hp:x.findP (Dc R) with
  | some p =>
   simp only[Dk];rw[Tm.atP_at (t:=.mk n all) hk];cases hx:x.atP p with
   | none =>
    obtain⟨y,hy,_⟩:=Tm.findP_at _ x p hp;rw[hx]at hy;cases hy
   | some y =>
    cases hr:DV R y with
    | none =>
     obtain⟨y',hy,h1,_⟩:=Tm.findP_at _ x p hp;rw[hx]at hy;cases hy;rw[C_.1 hr]at h1;cases h1
    | some r =>
     simp only[Option.map_some,hr];rw[Tm.putP_at (t:=.mk n all) hk];simp only[Tm.name_mk,Tm.args_mk];rw[List.set_eq_take_append_cons_drop,if_pos hlt,hd]
  | none =>
   have key:=Tm.outL_find R n all (k+1) xs hd;simp only[Dk]at key ⊢;rw[←key];cases Tm.outL R xs with
   | none=>rfl
   | some r =>
    simp only;rw[List.take_add_one,hk];simp
end
def CM(step:Tm→Option (Tm×Int)):Nat→Int→Tm→Tm×Int×Int
 | 0,n,t=>match step t with
  | none=>(t,n,0)
  | some _=>(Tm.nil,0,9)
 | k+1,n,t=>match step t with
  | none=>(t,n,0)
  | some (x,e)=>if e≠0 then(Tm.nil,0,e) else if 2000<x.size then(Tm.nil,0,8) else CM step k (n+1) x

def VC(b:Bd):Prop:=AP b.1=true∧BA b.1=true∧b.2.chk=0
theorem XY{t:Tm}(h:t.chk=0):BA t.name=true:=by
 have:=P4 h;unfold B9 at this;split at this
 ·assumption
 ·cases this
mutual
theorem Vf:∀(p:Tm),p.chk=0→∀(t:Tm),t.chk=0→∀(l:List Bd),(∀b∈l,VC b)→∀b∈(p.mt t l).1,VC b
 | .mk n xs,hc,t,ht,l,hl=>by
  obtain⟨c1,c2⟩:=Tm.chk_args hc;simp only[Tm.name_mk,Tm.args_mk]at c1 c2;rw[Tm.mt];split
  ·rename_i hv;split
   ·exact hl
   ·intro b hb;rcases List.mem_append.1 hb with hb|hb
    ·exact hl b hb
    ·rw[List.mem_singleton]at hb;subst hb;exact⟨hv,XY hc,ht⟩
  ·split
   ·exact TE xs c2 t.args (Tm.chk_args ht).2 l hl
   ·exact hl
theorem TE:∀(xs:List Tm),(∀x∈xs,x.chk=0)→∀(ys:List Tm),(∀y∈ys,y.chk=0)→∀(l:List Bd),(∀b∈l,VC b)→∀b∈(Tm.mtL xs ys l).1,VC b
 | [],_,ys,_,l,hl=>by rw[Tm.mtL_nil];exact hl
 | x::xs,_,[],_,l,hl=>by rw[Tm.mtL];exact hl;simp
 | x::xs,hc,y::ys,hy,l,hl=>by
  rw[Tm.mtL];have h1:=Vf x (hc x (by simp)) y (hy y (by simp)) l hl;split
  ·exact TE xs (fun a ha=>hc a (by simp[ha])) ys (fun a ha=>hy a (by simp[ha])) _ h1
  ·exact h1
end
section
variable {p t:Tm}
theorem Qj(hp:p.chk=0)(ht:t.chk=0):OkB (BH p t):=by
 unfold BH;have hg:=Vf p hp t ht [] (by simp);split
 ·exact⟨Bz (MI p t),fun b hb=>(hg b (CG.1 hb)).1,fun b hb=>(hg b (CG.1 hb)).2.1,fun b hb=>(hg b (CG.1 hb)).2.2⟩
 ·exact⟨List.Pairwise.nil,by simp,by simp,by simp⟩
theorem LI:(BH p t).length≤p.size:=by
 unfold BH;split
 ·rw[Bi];exact UJ p t
 ·simp
end

def Z5{α:Type}(f:α→Int):List α→Int
 | []=>0
 | x::xs=>if f x=0 then Z5 f xs else f x
theorem Od{α:Type}{f:α→Int}:∀{xs:List α},Z5 f xs=0→∀x∈xs,f x=0
 | [],_,x,h=>by cases h
 | y::ys,h0,x,hx=>by
  rw[Z5]at h0;by_cases hy:f y=0
  ·rw[if_pos hy]at h0;rcases List.mem_cons.1 hx with rfl|hx
   ·exact hy
   ·exact Od h0 x hx
  ·rw[if_neg hy]at h0;exact absurd h0 hy
def VZ(r:Pr):Bool:=r.2.varsOf.any fun v=>!Dt v r.1.varsOf
def Qs(r:Pr):Int:=if Bq r.1 r.2=0 then(if AP r.1.name=true then 2 else if VZ r=true then 15 else 0) else Bq r.1 r.2
def Bc(R:List Pr):Int:=if 40<R.length then 3 else Z5 Qs R
structure A7(R:List Pr):Prop where
 len:R.length≤40
 left:∀r∈R,r.1.may=0
 right:∀r∈R,r.2.may=0
 head:∀r∈R,AP r.1.name=false
 vars:∀r∈R,∀v∈r.2.varsOf,v∈r.1.varsOf
theorem RG{r:Pr}(h:Qs r=0):r.1.may=0∧r.2.may=0∧AP r.1.name=false∧VZ r=false:=by
 unfold Qs at h;by_cases h1:Bq r.1 r.2=0
 ·rw[if_pos h1]at h;by_cases h2:AP r.1.name=true
  ·rw[if_pos h2]at h;cases h
  ·rw[if_neg h2]at h;by_cases h3:VZ r=true
   ·rw[if_pos h3]at h;cases h
   ·unfold Bq at h1;by_cases h4:r.1.may=0
    ·rw[if_pos h4]at h1;exact⟨h4,h1,by simpa using h2,by simpa using h3⟩
    ·rw[if_neg h4]at h1;exact absurd h1 h4
 ·rw[if_neg h1]at h;exact absurd h h1
theorem Cu{R:List Pr}(h:Bc R=0):A7 R:=by
 unfold Bc at h;by_cases h0:40<R.length
 ·rw[if_pos h0]at h;cases h
 ·rw[if_neg h0]at h;have key:=fun r hr=>RG (Od h r hr);refine⟨by omega,fun r hr=>(key r hr).1,fun r hr=>(key r hr).2.1,fun r hr=>(key r hr).2.2.1,fun r hr v hv=>?_⟩;have:=(key r hr).2.2.2;unfold VZ at this;rw[List.any_eq_false]at this;have:=this v hv;simp only[Bool.not_eq_true',Bool.not_eq_false]at this;exact C8.1 this
def ABA(R:List Pr)(t:Tm):Int:=if Bc R=0 then t.may else Bc R
def Db(t:Tm):Nat→List Pr→Tm×Int×Int
 | _,[]=>(Tm.nil,-1,0)
 | k,r::l=>if BJ r.1 t=true then((Au (BH r.1 t) r.2).1,(k:Int),if(Au (BH r.1 t) r.2).2=true then 0 else 8) else Db t (k+1) l
theorem L1{s:List Bd}{t:Tm}(h:¬(Au s t).2=true):(Au s t).1=Tm.nil:=by
 unfold Au at *;split
 ·rename_i h1;rw[if_pos h1]at h;exact absurd rfl h
 ·rfl
theorem NW(R:List Pr)(t:Tm):∀(l:List Pr) (k:Nat),match CI R t l with
  | none=>Db t k l=(Tm.nil,-1,0)
  | some (x,e)=>∃i:Nat,Db t k l=(x,(i:Int),e)
 | [],k=>rfl
 | r::l,k=>by
  rw[CI,Db];by_cases h:BJ r.1 t=true
  ·rw[if_pos h,if_pos h];by_cases h2:(Au (BH r.1 t) r.2).2=true
   ·rw[if_pos h2,if_pos h2];exact⟨k,rfl⟩
   ·rw[if_neg h2,if_neg h2];exact⟨k,by rw[L1 h2]⟩
  ·rw[if_neg h,if_neg h];exact NW R t l (k+1)
theorem QT{R:List Pr}:∀{xs:List Tm} {k:Nat} {a y:Tm} {e:Int},xs[k]?=some a→(∀b∈xs.take k,b.inn R=none)→a.inn R=some (y,e)→Tm.innL R xs=some (xs.set k y,e)
 | [],k,a,y,e,h,_,_=>by simp at h
 | x::xs,0,a,y,e,h,_,hy=>by
  simp at h;subst h;rw[Tm.innL,hy];rfl
 | x::xs,k+1,a,y,e,h,hn,hy=>by
  rw[Tm.innL,hn x (by simp),QT (xs:=xs) (k:=k) (by simpa using h) (fun b hb=>hn b (by rw[List.take_succ_cons];exact List.mem_cons_of_mem _ hb)) hy];rfl
theorem MO{R:List Pr}:∀{xs:List Tm},(∀b∈xs,b.inn R=none)→Tm.innL R xs=none
 | [],_=>rfl
 | x::xs,h=>by rw[Tm.innL,h x (by simp),MO (fun b hb=>h b (List.mem_cons_of_mem _ hb))]
theorem K7{R:List Pr}(hR:A7 R){t x:Tm}{e:Int}(ht:t.chk=0):∀{l:List Pr},(∀r∈l,r∈R)→CI R t l=some (x,e)→x.chk=0∨e=8
 | [],_,h=>by cases h
 | r::l,hl,h=>by
  rw[CI]at h;have hr:=hl r (by simp);split at h
  ·rename_i hc;split at h
   ·rename_i h2;cases h;left;have e1:(Au (BH r.1 t) r.2).1=r.2.on (BH r.1 t):=by
     unfold Au at h2 ⊢;split
     ·rfl
     ·rename_i h3;rw[if_neg h3]at h2;cases h2
    rw[e1];exact AAR (Qj (Tm.may_chk (hR.left r hr)).1 ht).chk (Tm.may_chk (hR.right r hr)).1
   ·cases h;exact .inr rfl
  ·exact K7 hR ht (fun r hr=>hl r (List.mem_cons_of_mem _ hr)) h
theorem Q_{n:ByteArray}{xs:List Tm}{k:Nat}{y:Tm}(h:(Tm.mk n xs).chk=0)(hk:k<xs.length)(hy:y.chk=0):(Tm.mk n (xs.set k y)).chk=0:=by
 refine Rm h (by simp) fun z hz=>?_;rcases List.mem_or_eq_of_mem_set hz with hz|rfl
 ·exact(Tm.chk_args h).2 z hz
 ·exact hy
theorem Fg:∀{xs:List Tm} {k:Nat} {a:Tm} (y:Tm),xs[k]?=some a→Tm.sizes (xs.set k y)+a.size=Tm.sizes xs+y.size
 | [],k,a,y,h=>by simp at h
 | x::xs,0,a,y,h=>by
  simp at h;subst h;simp only[List.set_cons_zero,Tm.sizes];omega
 | x::xs,k+1,a,y,h=>by
  have:=Fg (xs:=xs) (k:=k) y (by simpa using h);simp only[List.set_cons_succ,Tm.sizes];omega
mutual
theorem Js{R:List Pr}(hR:A7 R):∀{t x:Tm} {e:Int},t.chk=0→t.inn R=some (x,e)→(e=0∨e=8)∧(e=0→x.chk=0)∧x.size≤t.size+2000
 | .mk n xs,x,e,hc,h=>by
  rw[Tm.inn]at h;split at h
  ·rename_i ys e' hy;cases h;obtain⟨k,a,y,h1,h2,h3,h4,h5,h6⟩:=Pm (xs:=xs) hR (fun b hb=>(Tm.chk_args hc).2 b hb) hy;subst h2;have h7:=Fg y h1;have hk:=B8 h1;refine⟨h4,fun he=>Q_ hc hk (h5 he),?_⟩;have z1:(Tm.mk n (xs.set k y)).size=1+Tm.sizes (xs.set k y):=rfl;have z2:(Tm.mk n xs).size=1+Tm.sizes xs:=rfl;omega
  ·obtain⟨h1,h2,h3⟩:=K0 h;refine⟨h1,fun he=>(K7 hR hc (fun r hr=>hr) h).resolve_right (by omega),by omega⟩
theorem Pm{R:List Pr}(hR:A7 R):∀{xs ys:List Tm} {e:Int},(∀b∈xs,b.chk=0)→Tm.innL R xs=some (ys,e)→∃k a y,xs[k]?=some a∧ys=xs.set k y∧a.inn R=some (y,e)∧(e=0∨e=8)∧(e=0→y.chk=0)∧y.size≤a.size+2000
 | [],ys,e,_,h=>by cases h
 | x::xs,ys,e,hc,h=>by
  rw[Tm.innL]at h;split at h
  ·rename_i y e' hy;cases h;obtain⟨q1,q2,q3⟩:=Js hR (hc x (by simp)) hy;exact⟨0,x,y,rfl,rfl,hy,q1,q2,q3⟩
  ·split at h
   ·rename_i ys' e' hy;cases h;obtain⟨k,a,y,h1,h2,h3,h4⟩:=Pm hR (fun b hb=>hc b (List.mem_cons_of_mem _ hb)) hy;exact⟨k+1,a,y,by simpa using h1,by rw[h2];rfl,h3,h4⟩
   ·cases h
end
mutual
theorem TU{R:List Pr}(hR:A7 R):∀{t x:Tm} {e:Int},t.chk=0→t.out R=some (x,e)→(e=0∨e=8)∧(e=0→x.chk=0)∧x.size≤t.size+2000
 | .mk n xs,x,e,hc,h=>by
  rw[Tm.out]at h;split at h
  ·rename_i r hr;obtain⟨x',e'⟩:=r;cases h;obtain⟨h1,h2,h3⟩:=K0 hr;refine⟨h1,fun he=>(K7 hR hc (fun r hr=>hr) hr).resolve_right (by omega),by omega⟩
  ·split at h
   ·rename_i ys e' hy;cases h;obtain⟨k,a,y,h1,h2,h3,h4,h5,h6⟩:=O7 (xs:=xs) hR (fun b hb=>(Tm.chk_args hc).2 b hb) hy;subst h2;have h7:=Fg y h1;have hk:=B8 h1;refine⟨h4,fun he=>Q_ hc hk (h5 he),?_⟩;have z1:(Tm.mk n (xs.set k y)).size=1+Tm.sizes (xs.set k y):=rfl;have z2:(Tm.mk n xs).size=1+Tm.sizes xs:=rfl;omega
   ·cases h
theorem O7{R:List Pr}(hR:A7 R):∀{xs ys:List Tm} {e:Int},(∀b∈xs,b.chk=0)→Tm.outL R xs=some (ys,e)→∃k a y,xs[k]?=some a∧ys=xs.set k y∧a.out R=some (y,e)∧(e=0∨e=8)∧(e=0→y.chk=0)∧y.size≤a.size+2000
 | [],ys,e,_,h=>by cases h
 | x::xs,ys,e,hc,h=>by
  rw[Tm.outL]at h;split at h
  ·rename_i y e' hy;cases h;obtain⟨q1,q2,q3⟩:=TU hR (hc x (by simp)) hy;exact⟨0,x,y,rfl,rfl,hy,q1,q2,q3⟩
  ·split at h
   ·rename_i ys' e' hy;cases h;obtain⟨k,a,y,h1,h2,h3,h4⟩:=O7 hR (fun b hb=>hc b (List.mem_cons_of_mem _ hb)) hy;exact⟨k+1,a,y,by simpa using h1,by rw[h2];rfl,h3,h4⟩
   ·cases h
end

mutual
theorem EA:∀(t:Tm) (p:List Int),p∈t.places→∃x,t.atP p=some x∧x∈t.knots
 | .mk n xs,p,h=>by
  rw[Tm.places]at h;rcases List.mem_cons.1 h with rfl|h
  ·exact⟨_,rfl,by rw[Tm.knots];exact List.mem_cons_self⟩
  ·obtain⟨x,h1,h2⟩:=Ia n xs 0 xs p (by simp) h;exact⟨x,h1,by rw[Tm.knots];exact List.mem_cons_of_mem _ h2⟩
theorem Ia(n:ByteArray)(all:List Tm):∀(k:Nat) (xs:List Tm) (p:List Int),all.drop k=xs→p∈Tm.placesFrom k xs→∃x,(Tm.mk n all).atP p=some x∧x∈Tm.knotsL xs
 | _,[],p,_,h=>by simp[Tm.placesFrom]at h
 | k,x::xs,p,hd,h=>by
  have hk:all[k]?=some x:=by
   have:=congrArg (fun l=>l[0]?) hd;simpa using this
  rw[Tm.placesFrom]at h;rcases List.mem_append.1 h with h|h
  ·obtain⟨q,hq,rfl⟩:=List.mem_map.1 h;obtain⟨y,h1,h2⟩:=EA x q hq;exact⟨y,by rw[Tm.atP_at (t:=.mk n all) hk];exact h1,by rw[Tm.knotsL];exact List.mem_append_left _ h2⟩
  ·obtain⟨y,h1,h2⟩:=Ia n all (k+1) xs p (by rw[←List.tail_drop,hd];rfl) h;exact⟨y,h1,by rw[Tm.knotsL];exact List.mem_append_right _ h2⟩
end
mutual
theorem HH:∀(t x:Tm),t.chk=0→x∈t.knots→x.chk=0
 | .mk n xs,x,hc,h=>by
  rw[Tm.knots]at h;rcases List.mem_cons.1 h with rfl|h
  ·exact hc
  ·exact O1 xs x (fun b hb=>(Tm.chk_args hc).2 b hb) h
theorem O1:∀(xs:List Tm) (x:Tm),(∀b∈xs,b.chk=0)→x∈Tm.knotsL xs→x.chk=0
 | [],x,_,h=>by simp[Tm.knotsL]at h
 | y::ys,x,hc,h=>by
  rw[Tm.knotsL]at h;rcases List.mem_append.1 h with h|h
  ·exact HH y x (hc y (by simp)) h
  ·exact O1 ys x (fun b hb=>hc b (List.mem_cons_of_mem _ hb)) h
end
mutual
theorem CF:∀(t x:Tm),x∈t.knots→x.size≤t.size
 | .mk n xs,x,h=>by
  rw[Tm.knots]at h;rcases List.mem_cons.1 h with rfl|h
  ·exact Nat.le_refl _
  ·have:=NI xs x h;simp only[Tm.size];omega
theorem NI:∀(xs:List Tm) (x:Tm),x∈Tm.knotsL xs→x.size≤Tm.sizes xs
 | [],x,h=>by simp[Tm.knotsL]at h
 | y::ys,x,h=>by
  rw[Tm.knotsL]at h;simp only[Tm.sizes];rcases List.mem_append.1 h with h|h
  ·have:=CF y x h;omega
  ·have:=NI ys x h;omega
end
def Lb(inner:Bool)(R:List Pr)(t:Tm):Option (Tm×Int):=if inner=true then t.inn R else t.out R
def C1(inner:Bool)(R:List Pr):Tm→Bool:=if inner=true then FV R else Dc R
theorem MX(inner:Bool)(R:List Pr)(t:Tm):Lb inner R t=Dk R t (t.findP (C1 inner R)):=by
 cases inner with
 | true=>exact Tm.inn_find R t
 | false=>exact Tm.out_find R t
theorem Im{inner:Bool}{R:List Pr}(hR:A7 R){t x:Tm}{e:Int}(hc:t.chk=0)(h:Lb inner R t=some (x,e)):(e=0∨e=8)∧(e=0→x.chk=0)∧x.size≤t.size+2000:=by
 cases inner with
 | true=>exact Js hR hc h
 | false=>exact TU hR hc h
theorem Hi{inner:Bool}{R:List Pr}{x:Tm}(h:C1 inner R x=true):Dc R x=true:=by
 cases inner with
 | true =>
  unfold C1 FV at h;simp only[if_true,Bool.and_eq_true]at h;exact h.1
 | false=>exact h
theorem Jh{inner:Bool}{R:List Pr}(hR:A7 R):∀(k:Nat) (n:Int) (t:Tm),t.chk=0→(CM (Lb inner R) k n t).1.chk=0∨(CM (Lb inner R) k n t).2.2≠0
 | 0,n,t,hc=>by
  unfold CM;split
  ·exact .inl hc
  ·exact .inr (by decide)
 | k+1,n,t,hc=>by
  rw[CM];split
  ·exact .inl hc
  ·rename_i x e hs;obtain⟨h1,h2,h3⟩:=Im hR hc hs;by_cases he:e≠0
   ·rw[if_pos he];exact .inr he
   ·rw[if_neg he];by_cases hz:2000<x.size
    ·rw[if_pos hz];exact .inr (by decide)
    ·rw[if_neg hz];exact Jh hR k (n+1) x (h2 (by omega))
theorem Dz{step:Tm→Option (Tm×Int)}:∀(k:Nat) (n:Int) (t:Tm) (M:Nat),t.size≤M→2000≤M→(CM step k n t).1.size≤M
 | 0,n,t,M,h,hM=>by
  unfold CM;split
  ·exact h
  ·show Tm.nil.size≤M
   have:Tm.nil.size=1:=rfl
   omega
 | k+1,n,t,M,h,hM=>by
  have hn:Tm.nil.size=1:=rfl;rw[CM];split
  ·exact h
  ·rename_i x e hs;by_cases he:e≠0
   ·rw[if_pos he];show Tm.nil.size≤M
    omega
   ·rw[if_neg he];by_cases hz:2000<x.size
    ·rw[if_pos hz];show Tm.nil.size≤M
     omega
    ·rw[if_neg hz];exact Dz k (n+1) x M (by omega) hM
def VU(R:List Pr)(most:Nat)(a b:Tm):Bool×Int :=
 let x:=CM (Tm.inn R) most 0 a
 let y:=CM (Tm.inn R) most 0 b
 if x.2.2≠0 then(false,x.2.2) else if y.2.2≠0 then(false,y.2.2) else(x.1.beq y.1,0)

def CN:List (Tm×Nat)→Tm→Tm
 | [],x=>x
 | (t,i)::V,x=>CN V (.mk t.name (t.args.set i x))
mutual
def Tm.visits:List (Tm×Nat)→Tm→List (List (Tm×Nat)×Tm)
 | V,.mk n xs=>(V,.mk n xs)::Tm.visitsL V (.mk n xs) 0 xs
def Tm.visitsL:List (Tm×Nat)→Tm→Nat→List Tm→List (List (Tm×Nat)×Tm)
 | _,_,_,[]=>[]
 | V,t,k,x::xs=>Tm.visits ((t,k)::V) x++Tm.visitsL V t (k+1) xs
end
theorem Tm.visits_eq(V:List (Tm×Nat))(t:Tm):t.visits V=(V,t)::Tm.visitsL V t 0 t.args:=by cases t;rfl
theorem QS{V:List (Tm×Nat)}{t a:Tm}{k:Nat}{xs:List Tm}(h:xs[k]?=some a):Tm.visitsL V t k (xs.drop k)=a.visits ((t,k)::V)++Tm.visitsL V t (k+1) (xs.drop (k+1)):=by
 obtain⟨hk,he⟩:=List.getElem?_eq_some_iff.1 h;rw[List.drop_eq_getElem_cons hk,he,Tm.visitsL]
abbrev IB:=(Tm→Tm)×Tm
def DF(q:List (Tm×Nat)×Tm):IB:=(CN q.1,q.2)
def Va(V:List (Tm×Nat))(t:Tm)(p:List Int):IB:=(fun y=>CN V (t.putP p y),(t.atP p).getD Tm.nil)
mutual
theorem DJ:∀(t:Tm) (V:List (Tm×Nat)),(t.visits V).map DF=t.places.map (Va V t)
 | .mk n xs,V=>by
  rw[Tm.visits,Tm.places,List.map_cons,List.map_cons,G4 n xs 0 xs V (by simp)];rfl
theorem G4(n:ByteArray)(all:List Tm):∀(k:Nat) (xs:List Tm) (V:List (Tm×Nat)),all.drop k=xs→(Tm.visitsL V (.mk n all) k xs).map DF=(Tm.placesFrom k xs).map (Va V (.mk n all))
 | _,[],_,_=>rfl
 | k,x::xs,V,h=>by
  have hk:all[k]?=some x:=by
   have:=congrArg (fun l=>l[0]?) h;simpa using this
  rw[Tm.visitsL,Tm.placesFrom,List.map_append,List.map_append,DJ x,G4 n all (k+1) xs V (by rw[←List.tail_drop,h];rfl),List.map_map];congr 1;refine List.map_congr_left fun p _=>?_;show(fun y=>CN ((Tm.mk n all,k)::V) (x.putP p y),(x.atP p).getD Tm.nil)=(fun y=>CN V ((Tm.mk n all).putP ((k:Int)::p) y),((Tm.mk n all).atP ((k:Int)::p)).getD Tm.nil)
  rw[Tm.atP_at (t:=.mk n all) hk];congr 1;funext y;rw[Tm.putP_at (t:=.mk n all) hk];rfl
end
def DX(q:IB):List Pr→Option (List Tm)
 | []=>some []
 | r::l=>if BJ r.1 q.2=true then(if(Au (BH r.1 q.2) r.2).2=true∧(q.1 (Au (BH r.1 q.2) r.2).1).size≤2000 then(DX q l).map (q.1 (Au (BH r.1 q.2) r.2).1::·) else none) else DX q l
def Bx(R:List Pr):List IB→Option (List Tm)
 | []=>some []
 | q::l=>match DX q R with
  | none=>none
  | some a=>(Bx R l).map (a++·)
def KW(R:List Pr)(t:Tm):Option (List Tm):=Bx R (t.places.map (Va [] t))
theorem OQ(R:List Pr)(t:Tm):KW R t=Bx R ((t.visits []).map DF):=by rw[DJ];rfl
theorem FT(R:List Pr):∀a b:List IB,Bx R (a++b)=match Bx R a with
  | none=>none
  | some x=>(Bx R b).map (x++·)
 | [],b=>by
  simp only[List.nil_append,Bx];cases Bx R b <;> simp
 | q::a,b=>by
  rw[List.cons_append,Bx,Bx,FT R a b];cases DX q R with
  | none=>rfl
  | some x =>
   simp only;cases Bx R a with
   | none=>rfl
   | some y=>cases Bx R b <;> simp
theorem TK{R:List Pr}{a:List IB}{q:IB}{x y:List Tm}(h:Bx R a=some x)(h2:DX q R=some y):Bx R (a++[q])=some (x++y):=by
 rw[FT,h];simp[Bx,h2]
theorem Uq{R:List Pr}{a b:List IB}{q:IB}(h2:DX q R=none):Bx R (a++q::b)=none:=by
 rw[FT,Bx,h2];cases Bx R a <;> rfl
theorem PY(q:IB):∀(l:List Pr) (k:Nat),(Db q.2 k l=(Tm.nil,-1,0)∧DX q l=some []) ∨
  ∃(i:Nat) (y:Tm) (r:Pr),k≤i∧i<k+l.length∧r∈l∧BJ r.1 q.2=true∧(Au (BH r.1 q.2) r.2).1=y∧((Db q.2 k l=(y,(i:Int),0)∧(Au (BH r.1 q.2) r.2).2=true∧DX q l=if(q.1 y).size≤2000 then(DX q (l.drop (i+1-k))).map (q.1 y::·) else none)∨(Db q.2 k l=(Tm.nil,(i:Int),8)∧DX q l=none))
 | [],k=>.inl ⟨rfl,rfl⟩
 | r::l,k=>by
  rw[Db,DX];by_cases h:BJ r.1 q.2=true
  ·rw[if_pos h,if_pos h];refine .inr ⟨k,_,r,Nat.le_refl k,by simp,by simp,h,rfl,?_⟩;by_cases h2:(Au (BH r.1 q.2) r.2).2=true
   ·refine .inl ⟨by rw[if_pos h2],h2,?_⟩;by_cases h3:(q.1 (Au (BH r.1 q.2) r.2).1).size≤2000
    ·rw[if_pos ⟨h2,h3⟩,if_pos h3,show k+1-k=1 by omega];rfl
    ·rw[if_neg (fun h=>h3 h.2),if_neg h3]
   ·exact .inr ⟨by rw[if_neg h2,L1 h2],by rw[if_neg (fun h=>h2 h.1)]⟩
  ·rw[if_neg h,if_neg h];rcases PY q l (k+1) with⟨h1,h3⟩|⟨i,y,r',h1,h2,hm,hc,hy,h3⟩
   ·exact .inl ⟨h1,h3⟩
   ·refine .inr ⟨i,y,r',by omega,by rw[List.length_cons];omega,List.mem_cons_of_mem _ hm,hc,hy,?_⟩;rcases h3 with⟨h3,h4,h5⟩|h3
    ·refine .inl ⟨h3,h4,?_⟩;rw[h5,show i+1-k=(i+1-(k+1))+1 by omega,List.drop_succ_cons]
    ·exact .inr h3
theorem D1{s:List Bd}{t:Tm}:(Au s t).1.size≤2000:=by
 unfold Au;split
 ·assumption
 ·decide
def PP:List (Tm×Nat)→Prop
 | []=>True
 | (t,i)::V=>i<t.args.length∧t.args.length≤1000000∧PP V
mutual
theorem PW:∀(t:Tm) (V:List (Tm×Nat)),PP V→t.size≤1000000→∀q∈t.visits V,PP q.1∧q.2∈t.knots
 | .mk n xs,V,hV,hz,q,hq=>by
  rw[Tm.visits]at hq;rw[Tm.knots];rcases List.mem_cons.1 hq with rfl|hq
  ·exact⟨hV,List.mem_cons_self⟩
  ·have:=NR n xs 0 xs V (by simp) hV hz q hq;exact⟨this.1,List.mem_cons_of_mem _ this.2⟩
theorem NR(n:ByteArray)(all:List Tm):∀(k:Nat) (xs:List Tm) (V:List (Tm×Nat)),all.drop k=xs→PP V→(Tm.mk n all).size≤1000000→∀q∈Tm.visitsL V (.mk n all) k xs,PP q.1∧q.2∈Tm.knotsL xs
 | _,[],_,_,_,_,q,hq=>by simp[Tm.visitsL]at hq
 | k,x::xs,V,h,hV,hz,q,hq=>by
  have hk:all[k]?=some x:=by
   have:=congrArg (fun l=>l[0]?) h;simpa using this
  have hlt:k<all.length:=(List.getElem?_eq_some_iff.1 hk).1;have hl:=Tm.length_le all;have hx:=Fg x hk;have hx2:x.size≤Tm.sizes all:=by
   have h2:=Tm.length_le all;have:∀{l:List Tm},x∈l→x.size≤Tm.sizes l:=fun {l} hm=>by
    induction l with
    | nil=>cases hm
    | cons y ys ih =>
     simp only[Tm.sizes];rcases List.mem_cons.1 hm with rfl|hm
     ·omega
     ·have:=ih hm;omega
   exact this (List.mem_of_getElem? hk)
  simp only[Tm.size]at hz;rw[Tm.visitsL]at hq;rw[Tm.knotsL];rcases List.mem_append.1 hq with hq|hq
  ·have:=PW x ((.mk n all,k)::V) ⟨hlt,by show all.length≤_;omega,hV⟩ (by omega) q hq;exact⟨this.1,List.mem_append_left _ this.2⟩
  ·have:=NR n all (k+1) xs V (by rw[←List.tail_drop,h];rfl) hV (by simp only[Tm.size];omega) q hq;exact⟨this.1,List.mem_append_right _ this.2⟩
end
theorem Kk:∀(p:List Int) (t y:Tm),(t.putP p y).size≤t.size+y.size
 | [],t,y=>by rw[Tm.putP_nil];omega
 | i::p,t,y=>by
  rw[Tm.putP_cons];split
  ·rename_i a ha;have h1:=Fg (a.putP p y) ha;have h2:=Kk p a y;have h3:=Tm.size_eq t;simp only[Tm.size];omega
  ·omega
theorem SS{t:Tm}{q:List (Tm×Nat)×Tm}(hq:q∈t.visits [])(y:Tm):(CN q.1 y).size≤t.size+y.size:=by
 have h1:DF q∈(t.visits []).map DF:=List.mem_map_of_mem hq;rw[DJ]at h1;obtain⟨p,_,h2⟩:=List.mem_map.1 h1;have h3:CN q.1=fun y=>CN [] (t.putP p y):=(congrArg Prod.fst h2).symm;rw[h3];exact Kk p t y
theorem K9{q:IB}:∀{l:List Pr} {a:List Tm},DX q l=some a→a.length≤l.length
 | [],a,h=>by cases h;simp
 | r::l,a,h=>by
  rw[DX]at h;split at h
  ·split at h
   ·rw[Option.map_eq_some_iff]at h;obtain⟨b,h1,rfl⟩:=h;have:=K9 h1;simp only[List.length_cons];omega
   ·cases h
  ·have:=K9 h;simp only[List.length_cons];omega
theorem Mi{R:List Pr}:∀{l:List IB} {a:List Tm},Bx R l=some a→a.length≤l.length*R.length
 | [],a,h=>by cases h;simp
 | q::l,a,h=>by
  rw[Bx]at h;split at h
  ·cases h
  ·rename_i b hb;rw[Option.map_eq_some_iff]at h;obtain⟨c,h1,rfl⟩:=h;have h2:=K9 hb;have h3:=Mi h1;simp only[List.length_cons,List.length_append,Nat.add_mul];omega
theorem Th(t:Tm)(V:List (Tm×Nat)):(t.visits V).length=t.size:=by
 have:=congrArg List.length (DJ t V);simp only[List.length_map]at this;rw[this,Tm.places_length]

theorem Tw{ds:List Nat}(hds:∀d∈ds,d<1000){x:Option AJ}(hb:∀b,x=some b→b.high=true):x.map (AJ.purge ds)=x:=by
 cases h:x with
 | none=>rfl
 | some b=>rw[Option.map_some,AJ.purge_high hds (hb b h)]
theorem Qd{S S1:AA}{a0:Nat}{b:AJ}(hS:Ay S)(ha:1000≤a0)(h1:S1 a0=some b)(h2:∀i,1000≤i→i≠a0→S1 i=S i):CP S1=AI S a0 (some b):=by
 funext i;show(if i<1000 then none else S1 i)=_
 by_cases e:i=a0
 ·subst e;rw[if_neg (by omega),AG,h1]
 ·rw[AH _ e];by_cases hi:i<1000
  ·rw[if_pos hi,AK hS hi]
  ·rw[if_neg hi,h2 i (by omega) e]
theorem Ni{S S1:AA}{a0:Nat}{b:AJ}(hS:Ay S)(hb:b.high=true)(h1:S1 a0=some b)(h2:∀i,1000≤i→i≠a0→S1 i=S i):∀i c,1000≤i→S1 i=some c→c.high=true:=fun i c hi hc=>by
 by_cases e:i=a0
 ·subst e;rw[h1]at hc;cases hc;exact hb
 ·rw[h2 i hi e]at hc;exact(hS i c hc).2
theorem B5{C:Ctx}{rs:List RV}{r:AV}{e:AX}{s:AS}{S:AA}{a0:Nat}{b:AJ}(r0:AV)(hS:Ay S)(ha:1000≤a0)(hb:b.high=true)(he:match e with|.normal=>True|.ret=>True|_=>False)
  (h1:(AB s rs).map AM=some r0) (h2:outV s.S r0=some r) (h3:s.S a0=some b) (h4:∀i,1000≤i→i≠a0→s.S i=S i):FR C rs r (AI S a0 (some b)) e s :=
 Nb he r0 h1 h2 (Ni hS hb h3 h4) (Qd hS ha h3 h4) (Bb hS ha hb)
theorem YI{C:Ctx}{rs:List RV}{r:AV}{e:AX}{s:AS}{S:AA}{a0 b0:Nat}{b c:AJ}(r0:AV)(hS:Ay S)(ha:1000≤a0)(hb0:1000≤b0)(hne:b0≠a0)(hb:b.high=true)(hc:c.high=true)(he:match e with|.normal=>True|.ret=>True|_=>False)
  (h1:(AB s rs).map AM=some r0) (h2:outV s.S r0=some r) (h3:s.S a0=some b) (h3':s.S b0=some c) (h4:∀i,1000≤i→i≠a0→i≠b0→s.S i=S i):FR C rs r (AI (AI S a0 (some b)) b0 (some c)) e s :=
 Nb he r0 h1 h2 (fun i x hi hx=>by
  by_cases e1:i=a0
  ·subst e1;rw[h3]at hx;cases hx;exact hb
  ·by_cases e2:i=b0
   ·subst e2;rw[h3']at hx;cases hx;exact hc
   ·rw[h4 i hi e1 e2]at hx;exact(hS i x hx).2) (by
  funext i;show(if i<1000 then none else s.S i)=_
  by_cases e2:i=b0
  ·subst e2;rw[AG,if_neg (by omega),h3']
  ·rw[AH _ e2];by_cases e1:i=a0
   ·subst e1;rw[AG,if_neg (by omega),h3]
   ·rw[AH _ e1];by_cases hi:i<1000
    ·rw[if_pos hi,AK hS hi]
    ·rw[if_neg hi,h4 i (by omega) e1 e2]) (Bb (Bb hS ha hb) hb0 hc)
theorem AY.settleC{C:Ctx}{s:AS}(id j:Nat){ty:TypeId}{cs:List AC}{c:AC}{x:SV}(hb:s.S id=some (.box ty cs))(hc:cs[j]?=some c)(hx:stC s.S c=some x):AY C s (s.set id (.box ty (cs.set j (.st x)))):=fun a w ⟨σ,ι,R⟩=>by
 have hbk:=R.blk id _ hb;cases hbk with
 | @box _ _ g vs h1 h2 h3 h4 h5 =>
  obtain⟨v,hv,hr⟩:=h4.get hc;have hsr:=R.stC hr hx;obtain⟨hu2,R2⟩:=R.turn (w':=w) hb (.box ty (cs.set j (.st x))) (ι id) (σ':=σ) (fun _ _ h=>h) (fun _ _ _=>rfl) R.fit (Nat.le_refl _) (fun _=>⟨rfl,rfl⟩) ⟨rfl,rfl,rfl⟩ (Nat.le_refl _) (fun _ _ _=>rfl) (fun g h=>.inl h) (fun hu2=>by
   refine .box h1 h2 h3 (An.of_get (by rw[List.length_set];exact h4.len) fun k u c' hu' hck=>?_) h5;by_cases hk:k=j
   ·subst hk;rw[hv]at hu';cases hu';have hlt:k<cs.length:=(List.getElem?_eq_some_iff.1 hc).1;rw[List.getElem?_set_self hlt]at hck;cases hck;exact .st hsr
   ·rw[List.getElem?_set_ne (fun e=>hk e.symm)]at hck;obtain⟨u',q1,q2⟩:=h4.get hck;rw[hu']at q1;cases q1;exact q2.mono (fun _ _ h=>h) hu2)
  exact⟨_,_,R2⟩
theorem Ua(i a0:Nat):Bm i a0 i=a0:=by simp[Bm]

set_option maxHeartbeats 800000
def DW(u:Tm)(left:Int):Tm×Int:=if(u.size:Int)≤left then(u,left-u.size) else(Tm.nil,-1)
abbrev Jp(s:List Bd)(left:Int):AJ:=.box 150 [.st (.list (s.map BZ)),.st (.int .i64 left)]
theorem El{u:Tm}{left:Int}(h:(u.size:Int)≤left):DW u left=(u,left-u.size):=if_pos h
theorem EI{u:Tm}{left:Int}(h:¬(u.size:Int)≤left):DW u left=(Tm.nil,-1):=if_neg h
theorem Oz(s:List Bd)(h40:s.length≤100000)(ho:BU s)(turn:Bool)(f:Tm→Tm)(t:Tm)(hl:turn=true→lookup s t.name=none)
  (ih:∀a∈t.args,∀(a0:Nat) (left:Int) (S:AA),1000≤a0→0≤left→left≤1000000→S a0=some (Jp s left) →
   Ah Tryz.prog 126 [.one (.ptr a0 1 0 0),aTm a,AZ turn] S (aTm (DW (f a) left).1) (AI S a0 (some (Jp s (DW (f a) left).2))))
  (a0:Nat) (left:Int) (S:AA) (ha0:1000≤a0) (h0:0≤left) (h1:left≤1000000) (hSa:S a0=some (Jp s left)) :
  Ah Tryz.prog 126 [.one (.ptr a0 1 0 0),aTm t,AZ turn] S (aTm (DW (.mk t.name (t.args.map f)) left).1) (AI S a0 (some (Jp s (DW (.mk t.name (t.args.map f)) left).2))):=by
 refine Ci.acS fun hS C hC=>?_;have hu:(Tm.mk t.name (t.args.map f)).size=1+Tm.sizes (t.args.map f):=rfl;have hlen:=Tm.length_le (t.args.map f);rw[List.length_map]at hlen;have n4:S 4=none:=AK hS (by omega);have n6:S 6=none:=AK hS (by omega);have n7:S 7=none:=AK hS (by omega);have n9:S 9=none:=AK hS (by omega);have n11:S 11=none:=AK hS (by omega);have n900:S 900=none:=AK hS (by omega);have d4:¬4=a0:=by omega
 have d6:¬6=a0:=by omega
 have d7:¬7=a0:=by omega
 have d9:¬9=a0:=by omega
 have d11:¬11=a0:=by omega
 have d900:¬900=a0:=by omega
 have e4:¬a0=4:=by omega
 have e6:¬a0=6:=by omega
 have e7:¬a0=7:=by omega
 have e9:¬a0=9:=by omega
 have e11:¬a0=11:=by omega
 have e900:¬a0=900:=by omega
 unfold B0;cases turn;case' false =>
  refine Hf (F10 hSa n4 n6 n7 d4 d6 d7 e4 e6 e7) ?_;with_reducible refine Wp ?_
  simp only[go_sem,fN,seval,true_implies,false_implies,implies_true,dT,dF,nL];(try with_reducible refine iC ?_);refine Hf (F13 hSa n4 n6 n7 n9 d4 d6 d7 d9 e4 e6 e7 e9) ?_
 case' true =>
  have hln:=hl rfl;refine Hf (F10 hSa n4 n6 n7 d4 d6 d7 e4 e6 e7) ?_;with_reducible refine Wp ?_
  simp only[go_sem,fN,seval,true_implies,false_implies,implies_true,dT,dF,nL];(try with_reducible refine iC ?_);repeat' first|refine Hf (F11 hSa n4 n6 n7 d4 d6 d7 e4 e6 e7 hln) ?_|refine Mm fun K hK=>?_|refine Cg _ (ZX s h40 ho t.name) ?_
  with_reducible refine Wp ?_
  simp only[go_sem,fN,seval,true_implies,false_implies,implies_true,dT,dF,nL];(try with_reducible refine iC ?_);refine Hf (F13 hSa n4 n6 n7 n9 d4 d6 d7 d9 e4 e6 e7 e9) ?_
 all_goals
  by_cases hz:left=0
  ·subst hz;have hno:¬((Tm.mk t.name (t.args.map f)).size:Int)≤0:=by rw[hu];omega
   rw[EI hno];with_reducible refine Wp ?_
   simp only[go_sem,fN,seval,true_implies,false_implies,implies_true,dT,dF,nL];(try with_reducible refine iC ?_);refine Hf (F13 hSa n4 n6 n7 n9 d4 d6 d7 d9 e4 e6 e7 e9) ?_;refine B5 (.agg [.st (.str ⟨#[]⟩),.full []]) hS ha0 rfl trivial ?_ ?_ ?_ fun i hi hne=>?_
   ·simp only[go_sem,fN,seval,eT,iR,AB,AD,AM,e4,e6,e7,e9,d4,d6,d7,d9]
   ·simp only[go_sem,fN,seval,eT,iR,Tm.nil];rfl
   ·simp only[go_sem,fN,seval,eT,iR,e4,e6,e7,e9]
   ·have i4:¬i=4:=by omega
    have i6:¬i=6:=by omega
    have i7:¬i=7:=by omega
    simp only[go_sem,fN,seval,eT,iR,i4,i6,i7,hne]
  have hz':¬left-1<0:=by omega
  with_reducible refine Wp ?_
  simp only[go_sem,fN,seval,true_implies,false_implies,implies_true,dT,dF,nL,hz'];(try with_reducible refine iC ?_);refine Hf (F13 hSa n4 n6 n7 n9 d4 d6 d7 d9 e4 e6 e7 e9) ?_;refine IWP.ghost (AY.ownC 9 1 900 37 2 (xs:=([]:List Tm).map Al) (by simp only[go_sem,fN,seval,eT,iR,d9,d4,d6,d7,e9];rfl) rfl (by simp only[go_sem,fN,seval,eT,iR,n900,d900]) Cv) ?_;refine IWP.loopD [11] (fun m x=>∃k,k≤t.args.length∧m=t.args.length-k∧(Tm.sizes ((t.args.take k).map f):Int)≤left-1∧x.env 0=.one (.ptr a0 1 0 0)∧x.env 2=AZ _∧x.env 6=.one (.ptr 6 1 0 0)∧x.env 9=.one (.ptr 9 1 0 0)∧x.env 44=.one (.st (.list (t.args.map Al)))∧x.env 45=AO t.args.length∧x.env 46=AO k ∧
    x.S 6=some (.box 37 [.st (.str ⟨#[]⟩),.full []])∧x.S 9=some (.box 37 [.st (.str t.name),.row 900 k])∧x.S 900=some (.arow 37 2 (((t.args.take k).map f).map Al))∧x.S 11=none∧x.S a0=some (Jp s (left-1-Tm.sizes ((t.args.take k).map f)))∧∀i,1000≤i→i≠a0→x.S i=S i)
   t.args.length ⟨0,Nat.zero_le _,rfl,by show(0:Int)≤_;omega,rfl,rfl,rfl,rfl,rfl,rfl,rfl,by simp only[go_sem,fN,seval,eT,iR,d6,d4,d7,d9,e6],by(simp only[go_sem,fN,seval,eT,iR,d9]);rfl,by simp only[go_sem,fN,seval,eT,iR,e9],by simp only[go_sem,fN,seval,eT,iR,n11,d11],by(simp only[go_sem,fN,seval,eT,iR,e9,e900]);simp[Tm.sizes],fun i hi hne=>?_⟩ ?_
  ·have i4:¬i=4:=by omega
   have i6:¬i=6:=by omega
   have i7:¬i=7:=by omega
   have i9:¬i=9:=by omega
   have i900:¬i=900:=by omega
   simp only[go_sem,fN,seval,eT,iR,i4,i6,i7,i9,i900,hne]
  rintro m ⟨env,S1⟩ ⟨k,hk,rfl,hsz,e0,e2,e6',e9',e44,e45,e46,s6,s9,s900,s11,sa,hrest⟩;simp only at e0 e2 e6' e9' e44 e45 e46 s6 s9 s900 s11 sa hrest;have hlk:(t.args.take k).length=k:=by rw[List.length_take];omega
  have hle:=Tm.sizes_take_le (t.args.map f) k;rw[←List.map_take]at hle;have hkl:=Tm.length_le ((t.args.take k).map f);rw[List.length_map,hlk]at hkl;by_cases hlt:(k:Int)<t.args.length
  ·obtain⟨a,ha⟩:=Aa (show k<t.args.length by omega);have ha':(t.args.map f)[k]?=some (f a):=by rw[List.getElem?_map,ha];rfl
   have z1:=Tm.sizes_take ha';have z2:=Tm.sizes_take_le (t.args.map f) (k+1);rw[←List.map_take,←List.map_take]at z1;rw[←List.map_take]at z2;refine Hf (F13 e0 e2 e6' e9' e44 e45 e46 s6 s9 s900 s11 sa hlt) ?_;with_reducible refine Wp ?_
   simp only[go_sem,fN,seval,true_implies,false_implies,implies_true,dT,dF,nL,hlt];(try with_reducible refine iC ?_);repeat' first|refine Hf (F16 e0 e2 e6' e9' e44 e45 e46 s6 s9 s900 s11 sa d11 d9 e11 ha) ?_|refine Mm fun K hK=>?_
   have hcall:=ih a (AN ha) (up1 a0) (left-1-Tm.sizes ((t.args.take k).map f)) (upS (AI (AI S1 11 (some (.box 37 [.st (.str ⟨#[]⟩),.full []]))) 11 (some (.box 37 [.st (.str a.name),.st (.list (a.args.map Al))])))) (Ap a0) (by omega) (by omega) (by rw[Ax,AH _ e11,AH _ e11,sa];rfl);by_cases hfit:((f a).size:Int)≤left-1-Tm.sizes ((t.args.take k).map f)
   ·rw[El hfit]at hcall;refine⟨_,_,hcall,?_⟩;have hge:¬left-1-Tm.sizes ((t.args.take k).map f)-(f a).size<0:=by omega
    refine Hf (F18 e0 e2 e6' e9' e44 e45 e46 s6 s9 s900 s11 d11 d9 e11 e9 e900 d900 hlk) ?_;with_reducible refine Wp ?_
    simp only[go_sem,fN,seval,true_implies,false_implies,implies_true,dT,dF,nL,hge];(try with_reducible refine iC ?_);repeat' first|refine Hf (F14 e0 e2 e6' e9' e44 e45 e46 s6 s9 s900 s11 d11 d9 e11) ?_|refine Mm fun K hK=>?_
    refine AE ⟨t.args.length-(k+1),by omega,k+1,by omega,rfl,?_⟩;have hib:(a0==11)=false:=by simp;omega
    have hzz:((Tm.sizes ((t.args.take (k+1)).map f):Nat):Int)=Tm.sizes ((t.args.take k).map f)+(f a).size:=by omega
    refine⟨by omega,?_⟩;simp only[go_sem,fN,seval,AS.drop,AT,AC.clears,AC.clear,AC.highs,AC.high,zD,AV.purge,AV.purges,AC.purge,AJ.purge,Nat.reduceBEq,eT,iR,e0,e2,e6',e9',e44,e45,s6,s9,s900,d11,d9,e11,e9,e900,d900,d6,hib];refine⟨by congr 3,by rw[Ab ha,List.map_append,List.map_append,List.map_cons,List.map_nil,List.map_cons,List.map_nil,Ao],?_,fun i hi hne=>?_⟩
    ·congr 5;omega
    ·have i9:¬i=9:=by omega
     have i11:¬i=11:=by omega
     have i900:¬i=900:=by omega
     have i11b:(i==11)=false:=by simp;omega
     simp only[go_sem,fN,seval,AS.drop,AT,AC.clears,AC.clear,AC.highs,AC.high,zD,AV.purge,AV.purges,AC.purge,AJ.purge,Nat.reduceBEq,eT,iR,i9,i11,i11b,i900,hne];rw[hrest i hi hne];exact Tw (by decide) fun b hb=>(hS i b hb).2
   ·have hno:¬((Tm.mk t.name (t.args.map f)).size:Int)≤left:=by rw[hu];omega
    rw[EI hfit]at hcall;refine⟨_,_,hcall,?_⟩;repeat' first|refine Hf (F18 e0 e2 e6' e9' e44 e45 e46 s6 s9 s900 s11 d11 d9 e11 e9 e900 d900 hlk) ?_|refine Mm fun K hK=>?_
    with_reducible refine Wp ?_
    simp only[go_sem,fN,seval,true_implies,false_implies,implies_true,dT,dF,nL];(try with_reducible refine iC ?_);refine Hf (F18 e0 e2 e6' e9' e44 e45 e46 s6 s9 s900 s11 d11 d9 e11 e6 d6 d900 e900) ?_;rw[EI hno];refine B5 (.agg [.st (.str ⟨#[]⟩),.full []]) hS ha0 rfl trivial ?_ ?_ ?_ fun i hi hne=>?_
    ·simp only[go_sem,fN,seval,eT,iR,AB,AD,AM,e6',s6,e6,e9,e11,e900,d6,d9,d11,d900]
    ·simp only[go_sem,fN,seval,eT,iR,Tm.nil];rfl
    ·simp only[go_sem,fN,seval,eT,iR,e6,e9,e11,e900]
    ·have i6:¬i=6:=by omega
     have i9:¬i=9:=by omega
     have i11:¬i=11:=by omega
     have i900:¬i=900:=by omega
     simp only[go_sem,fN,seval,eT,iR,i6,i9,i11,i900,hne];exact hrest i hi hne
  ·have hall:t.args.take k=t.args:=List.take_of_length_le (by omega);rw[hall]at hlk s900 hsz sa;have hyes:((Tm.mk t.name (t.args.map f)).size:Int)≤left:=by rw[hu];omega
   refine Hf (F13 e0 e2 e6' e9' e44 e45 e46 s6 s9 s900 s11 sa hlt) ?_;with_reducible refine Wp ?_
   simp only[go_sem,fN,seval,true_implies,false_implies,implies_true,dT,dF,nL,hlt];(try with_reducible refine iC ?_);refine Hf (F13 e0 e2 e6' e9' e44 e45 e46 s6 s9 s900 s11 sa d6) ?_;rw[El hyes];refine B5 (.agg [.st (.str t.name),.row 900 k]) hS ha0 rfl trivial ?_ ?_ ?_ fun i hi hne=>?_
   ·simp only[go_sem,fN,seval,eT,iR,AB,AD,AM,e6',s6]
   ·simp only[go_sem,fN,seval,eT,iR,s900,hlk];rfl
   ·simp only[go_sem,fN,seval,eT,iR,e6,sa,hu];rw[show left-1-(Tm.sizes (t.args.map f):Int)=left-((1+Tm.sizes (t.args.map f):Nat):Int) by omega]
   ·have i6:¬i=6:=by omega
    simp only[go_sem,fN,seval,eT,iR,i6];exact hrest i hi hne
theorem AAg(s:List Bd)(h40:s.length≤100000)(ho:BU s)(t:Tm):∀(a0:Nat) (left:Int) (S:AA),1000≤a0→0≤left→left≤1000000→S a0=some (Jp s left) →
  Ah Tryz.prog 126 [.one (.ptr a0 1 0 0),aTm t,AZ false] S (aTm (DW t left).1) (AI S a0 (some (Jp s (DW t left).2))):=by
 induction h:SizeOf.sizeOf t using Nat.strongRecOn generalizing t with
 | _ N ih =>
 subst h;intro a0 left S h1 h2 h3 h4;have:=Oz s h40 ho false id t (fun h=>by cases h) (fun a ha=>ih _ (Tm.lt_of_arg ha) a rfl) a0 left S h1 h2 h3 h4;rw[List.map_id,Tm.eta]at this;exact this
theorem AA0(s:List Bd)(h40:s.length≤100000)(ho:BU s)(t:Tm)(hv:∀b∈s,AP b.1=true)(hchk:t.chk=0):∀(a0:Nat) (left:Int) (S:AA),1000≤a0→0≤left→left≤1000000→S a0=some (Jp s left) →
  Ah Tryz.prog 126 [.one (.ptr a0 1 0 0),aTm t,AZ true] S (aTm (DW (t.on s) left).1) (AI S a0 (some (Jp s (DW (t.on s) left).2))):=by
 induction h:SizeOf.sizeOf t using Nat.strongRecOn generalizing t with
 | _ N ih =>
 subst h;intro a0 left S ha0 h0 h1 hSa;obtain⟨c1,c2⟩:=Tm.chk_args hchk;cases hl:lookup s t.name with
 | none =>
  have:=Oz s h40 ho true (Tm.on s) t (fun _=>hl) (fun a ha=>ih _ (Tm.lt_of_arg ha) a (c2 a ha) rfl) a0 left S ha0 h0 h1 hSa;rw[←Tm.on_knot (.inl hl)]at this;exact this
 | some x =>
  obtain⟨b,hb,hbn,_⟩:=DR hl;have hargs:=c1 (by rw[←hbn];exact hv b hb);rw[Tm.on_leaf hl hargs];refine Ci.acS fun hS C hC=>?_;have n4:S 4=none:=AK hS (by omega);have n6:S 6=none:=AK hS (by omega);have n7:S 7=none:=AK hS (by omega);have e4:¬a0=4:=by omega
  have e6:¬a0=6:=by omega
  have e7:¬a0=7:=by omega
  have d4:¬4=a0:=by omega
  have d6:¬6=a0:=by omega
  have d7:¬7=a0:=by omega
  unfold B0;refine Hf (F10 hSa n4 n6 n7 d4 d6 d7 e4 e6 e7) ?_;with_reducible refine Wp ?_
  simp only[go_sem,fN,seval,true_implies,false_implies,implies_true,dT,dF,nL];(try with_reducible refine iC ?_);repeat' first|refine Hf (F11 hSa n4 n6 n7 d4 d6 d7 e4 e6 e7 hl) ?_|refine Mm fun K hK=>?_|refine Cg _ (ZX s h40 ho t.name) ?_
  with_reducible refine Wp ?_
  simp only[go_sem,fN,seval,true_implies,false_implies,implies_true,dT,dF,nL];(try with_reducible refine iC ?_);repeat' first|refine Hf (F10 hSa n4 n6 n7 d4 d6 d7 e4 e6 e7) ?_|refine Mm fun K hK=>?_
  have hcall:=fun S' h=>AAg s h40 ho x (up1 a0) left S' (Ap a0) h0 h1 h;refine⟨_,_,hcall _ (by rw[Ax];(simp only[go_sem,fN,seval,eT,iR,e4,e6,e7,hSa])),?_⟩;repeat' first|refine Hf (F6 e4 e6 e7 d4 d6 d7) ?_|refine Mm fun K hK=>?_
  refine B5 (aTm (DW x left).1) hS ha0 rfl trivial ?_ ?_ ?_ fun i hi hne=>?_
  ·simp only[go_sem,fN,seval,eT,iR,AB,AD,AM,e4,e6,e7,d4,d6,d7]
  ·simp only[go_sem,fN,seval,eT,iR]
  ·simp only[go_sem,fN,seval,eT,iR,e4,e6,e7]
  ·have i4:¬i=4:=by omega
   have i6:¬i=6:=by omega
   have i7:¬i=7:=by omega
   simp only[go_sem,fN,seval,eT,iR,i4,i6,i7,hne]
theorem NX(s:List Bd)(h40:s.length≤100000)(ho:BU s)(t:Tm)(hv:∀b∈s,AP b.1=true)(hchk:t.chk=0):AW Tryz.prog 110 [ER s,aTm t] (.tup [aTm (Au s t).1,AZ (Au s t).2]):=by
 refine SL.ac fun C hC=>?_;unfold LX;repeat' first|refine Hg ?_|refine Mm fun K hK=>?_
 have hcall:=fun S' h=>AA0 s h40 ho t hv hchk (up1 10) 2000 S' (Ap 10) (by omega) (by omega) h;refine⟨_,_,hcall _ (by rw[Ax];rfl),?_⟩;by_cases hfit:((t.on s).size:Int)≤2000
 ·have e:Au s t=(t.on s,true):=by
   unfold Au;rw[if_pos (by omega)]
  rw[El hfit];have hge:(0:Int)≤2000-(t.on s).size:=by omega
  refine Hf hge ?_;rw[e];simp only[go_sem,fN,seval,AQ,AS.result,AB,AD,AM]
 ·have e:Au s t=(Tm.nil,false):=by
   unfold Au;rw[if_neg (by omega)]
  rw[EI hfit];refine Hg ?_;rw[e];simp only[go_sem,fN,seval,AQ,AS.result,AB,AD,AM]

set_option maxRecDepth 100000
def Av:IR :=
 (.seq (.ops [.i 6 (.mov (.n 0)),.i 7 (.mov (.c (.one (.st (.bool false)))))]) (.seq (.ops [.m 12 0,.i 13 (.len false (.t 12)),.m 8 13]) (.seq (.ops [.m 14 8,.i 9 (.mov (.n 0)),.m 10 14]) (.seq (.block 0 (.loop (.seq (.seq (.ops [.m 15 9,.m 16 10,.i 17 (.bin .lss (.t 15) (.t 16))]) (.cond (.t 17) .skip (.exit 0))) (.block 1 (.seq (.ops [.m 18 9,.m 19 10,.i 20 (.bin .add (.t 18) (.t 19)),.i 21 (.conv .u64 (.t 20)),.i 22 (.bin .shr (.t 21) (.c (.one (.st (.int .u64 1))))),.i 23 (.conv .i64 (.t 22)),.m 11 23]) (.seq (.ops [.m 24 2,.m 25 0,.m 26 11,.i 27 (.indexAddr 3 (.t 25) (.t 26)),.L 28 3 27,.m 29 1,.i 30 (.callV (.t 24) [.t 28,.t 29]),.i 31 (.bin .lss (.t 30) (.n 0))]) (.cond (.t 31) (.ops [.m 32 11,.i 33 (.bin .add (.t 32) (.n 1)),.m 9 33]) (.ops [.m 34 11,.m 10 34])))))))) (.seq (.ops [.m 35 9,.m 36 9,.m 37 8,.i 38 (.bin .lss (.t 36) (.t 37)),.m 39 38,.mk (some 40) (some (39,true)) (.mov (.t 2)) .no,.mk (some 41) (some (39,true)) (.mov (.t 0)) .no,.mk (some 42) (some (39,true)) (.mov (.t 9)) .no,.mk (some 43) (some (39,true)) (.indexAddr 3 (.t 41) (.t 42)) .no,.mk (some 44) (some (39,true)) (.load true 3 (.t 43)) .no,.mk (some 45) (some (39,true)) (.mov (.t 1)) .no,.mk (some 46) (some (39,true)) (.callV (.t 40) [.t 44,.t 45]) .no,.mk (some 47) (some (39,true)) (.bin .eql (.t 46) (.n 0)) .no,.i 48 (.pick (.t 39) (.t 47) (.c (.one (.st (.bool false))))),.m 6 35,.m 7 48]) .ret)))))
theorem BO:OkF Tryz.prog 142 49 [] Av [.t 6,.t 7]:=.of Tryz.func142 rfl rfl (by kernel_rfl) rfl
def G5:IR :=
 (.seq (.ops [.i 4 (.alloc 37 [.st (.str (ByteArray.mk (#[]))),.full []]),.i 5 (.mov (.c (.one (.st (.bool false)))))]) (.seq (.ops [.m 9 0,.m 10 1,.i 11 (.callR 142 [.t 9,.t 10,.c (.one (.fn 143 []))]),.m 8 11,.i 12 (.extract 0 (.t 8)),.i 13 (.extract 1 (.t 8)),.m 6 12,.m 7 13]) (.seq (.seq (.ops [.m 14 7,.i 15 (.un .not (.t 14))]) (.cond (.t 15) (.seq (.ops [.i 16 (.build [.st (.str (ByteArray.mk (#[]))),.full []] []),.s 2 4 16,.i 5 (.mov (.c (.one (.st (.bool false)))))]) .ret) .skip)) (.seq (.ops [.m 17 0,.m 18 6,.i 19 (.indexAddr 3 (.t 17) (.t 18)),.f 20 1 19,.L 21 2 20,.s 2 4 21,.i 5 (.mov (.c (.one (.st (.bool true)))))]) .ret))))
theorem Mb:OkF Tryz.prog 135 22 [40000011] G5 [.cell 4 true 2,.t 5]:=.of Tryz.func135 rfl rfl (by kernel_rfl) rfl
def Bw:IR :=
 (.seq (.ops [.i 4 (.box 37 (.t 1)),.i 6 (.alloc 37 [.st (.str (ByteArray.mk (#[]))),.full []])]) (.seq (.seq (.ops [.m 12 2]) (.cond (.t 12) (.seq (.ops [.m 14 0,.i 15 (.nilCheck (.t 14)),.f 16 0 15,.l 17 16,.f 18 0 4,.l 19 18,.i 20 (.callR 135 [.t 17,.t 19]),.m 13 20,.i 21 (.extract 0 (.t 13)),.i 22 (.extract 1 (.t 13)),.i 7 (.alloc 37 [.st (.str (ByteArray.mk (#[]))),.full []]),.s 2 7 21,.m 8 22]) (.seq (.ops [.m 23 8]) (.cond (.t 23) (.seq (.ops [.m 24 0,.L 25 2 7,.i 26 (.callS 126 [.t 24,.t 25,.c (.one (.st (.bool false)))]),.s 2 6 26]) .ret) .skip))) .skip)) (.seq (.seq (.ops [.m 27 0,.i 28 (.nilCheck (.t 27)),.f 29 1 28,.l 30 29,.i 31 (.bin .sub (.t 30) (.n 1)),.i 32 (.nilCheck (.t 27)),.f 33 1 32,.s 1 33 31]) (.seq (.ops [.m 34 0,.i 35 (.nilCheck (.t 34)),.f 36 1 35,.l 37 36,.i 38 (.bin .lss (.t 37) (.n 0))]) (.cond (.t 38) (.seq (.ops [.i 39 (.build [.st (.str (ByteArray.mk (#[]))),.full []] []),.s 2 6 39]) .ret) .skip))) (.seq (.ops [.f 40 0 4,.l 41 40,.i 42 (.build [.st (.str (ByteArray.mk (#[]))),.full []] [(0,1,.t 41)]),.i 9 (.alloc 37 [.st (.str (ByteArray.mk (#[]))),.full []]),.s 2 9 42]) (.seq (.seq (.ops [.f 43 1 4,.l 44 43,.i 45 (.len false (.t 44)),.i 46 (.mov (.n 0))]) (.block 0 (.loop (.seq (.ops [.i 47 (.bin .lss (.t 46) (.t 45))]) (.seq (.cond (.t 47) .skip (.exit 0)) (.seq (.block 1 (.seq (.ops [.i 48 (.indexAddr 2 (.t 44) (.t 46)),.L 49 2 48,.i 11 (.alloc 37 [.st (.str (ByteArray.mk (#[]))),.full []]),.s 2 11 49]) (.seq (.ops [.mk (some 50) none (.fieldAddr 1 (.t 9)) (.onb 9),.mk (some 51) none (.load false 1 (.t 50)) (.onb 9),.m 52 0,.L 53 2 11,.m 54 2,.mk (some 55) none (.callS 126 [.t 52,.t 53,.t 54]) (.keeps [9,9]),.i 56 (.buildSlice false 37 2 [.t 55]),.i 57 (.append false 37 2 40 (.t 51) (.t 56)),.f 58 1 9,.s 1 58 57]) (.seq (.ops [.m 59 0,.i 60 (.nilCheck (.t 59)),.f 61 1 60,.l 62 61,.i 63 (.bin .lss (.t 62) (.n 0))]) (.cond (.t 63) (.seq (.ops [.i 64 (.build [.st (.str (ByteArray.mk (#[]))),.full []] []),.s 2 6 64]) .ret) .skip))))) (.ops [.i 65 (.bin .add (.t 46) (.n 1)),.m 46 65]))))))) (.seq (.ops [.L 66 2 9,.s 2 6 66]) .ret))))))
theorem CX:OkF Tryz.prog 126 67 [40000020,26,55] Bw [.cell 6 true 2]:=.of Tryz.func126 rfl rfl (by kernel_rfl) rfl
def Je:IR :=
 (.seq (.ops [.i 3 (.box 37 (.t 1)),.i 4 (.alloc 37 [.st (.str (ByteArray.mk (#[]))),.full []]),.i 5 (.mov (.c (.one (.st (.bool false)))))]) (.seq (.ops [.m 8 0,.i 9 (.build [.full [],.st (.int .i64 0)] [(0,1,.t 8),(1,1,.n 2000)]),.i 10 (.box 150 (.t 9)),.m 6 10]) (.seq (.ops [.m 11 6,.L 12 2 3,.i 13 (.callS 126 [.t 11,.t 12,.c (.one (.st (.bool true)))]),.i 7 (.alloc 37 [.st (.str (ByteArray.mk (#[]))),.full []]),.s 2 7 13]) (.seq (.ops [.L 14 2 7,.m 15 6,.mk (some 16) none (.nilCheck (.t 15)) (.onb 10),.mk (some 17) none (.fieldAddr 1 (.t 16)) (.onb 10),.mk (some 18) none (.load false 1 (.t 17)) (.onb 10),.i 19 (.bin .geq (.t 18) (.n 0)),.mk none none (.store 2 (.t 4) (.t 14)) (.onb 4),.m 5 19]) .ret))))
theorem Q6:OkF Tryz.prog 110 20 [13,10060010] Je [.cell 4 true 2,.t 5]:=.of Tryz.func110 rfl rfl (by kernel_rfl) rfl

abbrev Bl(l:List Bd):AJ:=.mrow 82 3 (l.map BZ)

theorem X3(l:List Bd)(n:ByteArray)(i0:Nat)(hi0:i0≤l.length)(h40:l.length≤100000)(hlo:∀k b,l[k]?=some b→k<i0→sLt b.1 n=true)(hhi:∀k b,l[k]?=some b→i0≤k→sLt b.1 n=false)(r:Nat)(hr:1000≤r)(S:AA)(sr:S r=some (Bl l)) :
  Ah Tryz.prog 142 [.one (.row r l.length),Bs n,.one (.fn 143 [])] S (.tup [AO i0,AZ (Cn l n i0)]) S:=by
 have hplain:CY Tryz.prog 143=true:=by kernel_rfl
 refine BO.acS fun hS C hC=>?_;unfold Av;refine Hf sr ?_;refine IWP.loop (fun m s=>∃i j:Nat,i≤i0∧i0≤j∧j≤l.length∧m=j-i∧s.env 0=.one (.row r l.length)∧s.env 1=Bs n∧s.env 2=.one (.fn 143 [])∧s.env 8=AO l.length∧s.env 9=AO i∧s.env 10=AO j∧s.S=S) l.length ⟨0,l.length,Nat.zero_le _,hi0,Nat.le_refl _,rfl,rfl,rfl,rfl,rfl,rfl,rfl,rfl⟩ ?_;rintro m ⟨env,S1⟩ ⟨i,j,hi,hj,hjl,rfl,e0,e1,e2,e8,e9,e10,hS1⟩;simp only at e0 e1 e2 e8 e9 e10 hS1;subst hS1;by_cases hlt:(i:Int)<j
 ·obtain⟨z1,z2,z3⟩:=ABx (show i<j by omega);obtain⟨b,hb⟩:=Aa (show(i+j) / 2<l.length by omega);refine Hf (F8 e0 e1 e2 e8 e9 e10 hlt sr) ?_;with_reducible refine Wp ?_
  simp only[go_sem,fN,seval,true_implies,false_implies,implies_true,dT,dF,nL,hlt];(try with_reducible refine iC ?_);have hbits:(1:Nat)≤IntKind.u64.bits:=by show 1≤64;omega
  have hz0:(0:Int)≤(((i+j) / 2:Nat):Int):=Int.natCast_nonneg _;repeat' first|refine Hf (F15 e0 e1 e2 e8 e9 e10 hlt z1 z3 @Ho hbits hb @BZ.eq_1 hplain sr) ?_|refine Mm fun K hK=>?_
  refine⟨_,_,L3 b n _,?_⟩;cases hc:sLt b.1 n with
  | true =>
   have hneg:DZ b.1 n<0:=Cr.2 hc;refine Hf hneg ?_;with_reducible refine Wp ?_
   simp only[go_sem,fN,seval,true_implies,false_implies,implies_true,dT,dF,nL,hneg];(try with_reducible refine iC ?_);refine Hf (F6 e0 e1 e2 e8 e9 e10) ?_;refine AE ⟨j-((i+j) / 2+1),by omega,(i+j) / 2+1,j,?_,hj,hjl,rfl,?_⟩
   ·rcases Nat.lt_or_ge ((i+j) / 2) i0 with h|h
    ·omega
    ·rw[hhi _ b hb h]at hc;cases hc
   ·simp only[go_sem,fN,seval,eT,iR,e0,e1,e2,e8,e9,e10];congr 3
  | false =>
   have hneg:¬DZ b.1 n<0:=fun h=>by rw[Cr.1 h]at hc;cases hc
   refine Hf hneg ?_;with_reducible refine Wp ?_
   simp only[go_sem,fN,seval,true_implies,false_implies,implies_true,dT,dF,nL,hneg];(try with_reducible refine iC ?_);refine Hf (F6 e0 e1 e2 e8 e9 e10) ?_;refine AE ⟨(i+j) / 2-i,by omega,i,(i+j) / 2,hi,?_,by omega,rfl,?_⟩
   ·rcases Nat.lt_or_ge ((i+j) / 2) i0 with h|h
    ·rw[hlo _ b hb h]at hc;cases hc
    ·omega
   ·simp only[go_sem,fN,seval,eT,iR,e0,e1,e2,e8,e9,e10]
 ·have hii:i=i0:=by omega
  subst hii;have hjj:j=i:=by omega
  subst hjj;refine Hf (F8 e0 e1 e2 e8 e9 e10 hlt sr) ?_;with_reducible refine Wp ?_
  simp only[go_sem,fN,seval,true_implies,false_implies,implies_true,dT,dF,nL,hlt];(try with_reducible refine iC ?_);by_cases hil:(j:Int)<l.length
  ·have hil':j<l.length:=by omega
   obtain⟨b,hb⟩:=Aa hil';repeat' first|refine Hf (F12 e0 e1 e2 e8 e9 e10 hil hil' hb @BZ.eq_1 hplain sr) ?_|refine Mm fun K hK=>?_
   refine⟨_,_,L3 b n _,?_⟩;repeat' first|refine Hg ?_|refine Mm fun K hK=>?_
   refine Aq (.tup [AO j,AZ (Cn l n j)]) hS trivial ?_ ?_ fun _ _=>rfl
   ·simp only[go_sem,fN,seval,eT,iR,AB,AD,AM,e9,e10];unfold Cn;rw[hb];simp only[On]
   ·rfl
  ·refine Hf (F7 e0 e1 e2 e8 e9 e10 hil) ?_;refine Aq (.tup [AO j,AZ (Cn l n j)]) hS trivial ?_ ?_ fun _ _=>rfl
   ·simp only[go_sem,fN,seval,eT,iR,AB,AD,AM,e9,e10];unfold Cn;rw[List.getElem?_eq_none (by omega)]
   ·rfl
theorem Za(l:List Bd)(h40:l.length≤100000)(ho:BU l)(n:ByteArray)(r:Nat)(hr:1000≤r)(S:AA)(sr:S r=some (Bl l)):Ah Tryz.prog 135 [.one (.row r l.length),Bs n] S (.tup [aTm ((lookup l n).getD Tm.nil),AZ (lookup l n).isSome]) S:=by
 obtain⟨i,hi,hlo,hhi,_⟩:=TD l h40 ho n;refine Mb.acS fun hS C hC=>?_;unfold G5;have n4:S 4=none:=AK hS (by omega);have r4:¬r=4:=by omega
 repeat' first|refine Hf n4 ?_|refine Mm fun K hK=>?_
 refine⟨_,[(r,Bl l)],BC (by(simp only[go_sem,fN,seval,eT,iR,r4,sr])),fun T hT=>X3 l n i hi h40 hlo hhi (up1 r) (Ap r) (upS T) (by rw[Ax,hT _ (List.mem_singleton.2 rfl)];rfl),?_⟩;rcases Jk hlo hhi ho with⟨b,hb,he,hl⟩|⟨hf,hl⟩
 ·have hf:Cn l n i=true:=by unfold Cn;rw[hb];exact decide_eq_true he
  have hil:=B8 hb;refine Hf hf ?_;with_reducible refine Wp ?_
  simp only[go_sem,fN,seval,true_implies,false_implies,implies_true,dT,dF,nL,hf];(try with_reducible refine iC ?_);refine Hf (F5 hb @BZ.eq_1 sr r4 hil) ?_;refine Aq (.tup [aTm b.2,AZ true]) hS trivial ?_ ?_ fun k hk=>?_
  ·simp only[go_sem,fN,seval,eT,iR,AB,AD,AM]
  ·simp only[go_sem,fN,seval,eT,iR];rw[hl];rfl
  ·have k4:¬k=4:=by omega
   simp only[go_sem,fN,seval,eT,iR,k4]
 ·refine Hf hf ?_;with_reducible refine Wp ?_
  simp only[go_sem,fN,seval,true_implies,false_implies,implies_true,dT,dF,nL,hf];(try with_reducible refine iC ?_);refine Hg ?_;refine Aq (.tup [.agg [.st (.str ⟨#[]⟩),.full []],AZ false]) hS trivial ?_ ?_ fun k hk=>?_
  ·simp only[go_sem,fN,seval,eT,iR,AB,AD,AM]
  ·simp only[go_sem,fN,seval,eT,iR];rw[hl];rfl
  ·have k4:¬k=4:=by omega
   simp only[go_sem,fN,seval,eT,iR,k4]
abbrev E3(r n:Nat)(left:Int):AJ:=.box 150 [.row r n,.st (.int .i64 left)]
theorem M8(s:List Bd)(h40:s.length≤100000)(ho:BU s)(turn:Bool)(f:Tm→Tm)(t:Tm)(hl:turn=true→lookup s t.name=none)
  (ih:∀a∈t.args,∀(a0 r:Nat) (left:Int) (S:AA),1000≤a0→1000≤r→¬r=a0→0≤left→left≤1000000→S a0=some (E3 r s.length left)→S r=some (Bl s) →
   Ah Tryz.prog 126 [.one (.ptr a0 1 0 0),aTm a,AZ turn] S (aTm (DW (f a) left).1) (AI S a0 (some (E3 r s.length (DW (f a) left).2))))
  (a0 r:Nat) (left:Int) (S:AA) (ha0:1000≤a0) (hr0:1000≤r) (hra:¬r=a0) (h0:0≤left) (h1:left≤1000000) (hSa:S a0=some (E3 r s.length left)) (hSr:S r=some (Bl s)) :
  Ah Tryz.prog 126 [.one (.ptr a0 1 0 0),aTm t,AZ turn] S (aTm (DW (.mk t.name (t.args.map f)) left).1) (AI S a0 (some (E3 r s.length (DW (.mk t.name (t.args.map f)) left).2))):=by
 refine CX.acS fun hS C hC=>?_;have hu:(Tm.mk t.name (t.args.map f)).size=1+Tm.sizes (t.args.map f):=rfl;have hlen:=Tm.length_le (t.args.map f);rw[List.length_map]at hlen;have hhigh:∀left,(E3 r s.length left).high=true:=fun left=>by
  show((AC.row r s.length).high&&AC.highs [.st (.int .i64 left)])=true
  rw[EN hr0];rfl
 have n4:S 4=none:=AK hS (by omega);have n6:S 6=none:=AK hS (by omega);have n7:S 7=none:=AK hS (by omega);have n9:S 9=none:=AK hS (by omega);have n11:S 11=none:=AK hS (by omega);have n900:S 900=none:=AK hS (by omega);have d4:¬4=a0:=by omega
 have d6:¬6=a0:=by omega
 have d7:¬7=a0:=by omega
 have d9:¬9=a0:=by omega
 have d11:¬11=a0:=by omega
 have d900:¬900=a0:=by omega
 have e4:¬a0=4:=by omega
 have e6:¬a0=6:=by omega
 have e7:¬a0=7:=by omega
 have e9:¬a0=9:=by omega
 have e11:¬a0=11:=by omega
 have e900:¬a0=900:=by omega
 have f4:¬r=4:=by omega
 have f6:¬r=6:=by omega
 have f7:¬r=7:=by omega
 have f9:¬r=9:=by omega
 have f11:¬r=11:=by omega
 have f900:¬r=900:=by omega
 unfold Bw;cases turn;case' false =>
  refine Hf (F10 hSa n4 n6 n7 d4 d6 d7 e4 e6 e7) ?_;with_reducible refine Wp ?_
  simp only[go_sem,fN,seval,true_implies,false_implies,implies_true,dT,dF,nL];(try with_reducible refine iC ?_);refine Hf (F13 hSa n4 n6 n7 n9 d4 d6 d7 d9 e4 e6 e7 e9) ?_
 case' true =>
  have hln:=hl rfl;refine Hf (F10 hSa n4 n6 n7 d4 d6 d7 e4 e6 e7) ?_;with_reducible refine Wp ?_
  simp only[go_sem,fN,seval,true_implies,false_implies,implies_true,dT,dF,nL];(try with_reducible refine iC ?_);repeat' first|refine Hf (F10 hSa n4 n6 n7 d4 d6 d7 e4 e6 e7) ?_|refine Mm fun K hK=>?_
  refine⟨_,[(r,Bl s)],BC (by(simp only[go_sem,fN,seval,eT,iR,f4,f6,f7,hSr])),fun T hT=>Za s h40 ho t.name (up1 r) (Ap r) (upS T) (by rw[Ax,hT _ (List.mem_singleton.2 rfl)];rfl),?_⟩;repeat' first|refine Hf (F2 hln n7) ?_|refine Mm fun K hK=>?_
  with_reducible refine Wp ?_
  simp only[go_sem,fN,seval,true_implies,false_implies,implies_true,dT,dF,nL];(try with_reducible refine iC ?_);refine Hf (F13 hSa n4 n6 n7 n9 d4 d6 d7 d9 e4 e6 e7 e9) ?_
 all_goals
  by_cases hz:left=0
  ·subst hz;have hno:¬((Tm.mk t.name (t.args.map f)).size:Int)≤0:=by rw[hu];omega
   rw[EI hno];with_reducible refine Wp ?_
   simp only[go_sem,fN,seval,true_implies,false_implies,implies_true,dT,dF,nL];(try with_reducible refine iC ?_);refine Hf (F13 hSa n4 n6 n7 n9 d4 d6 d7 d9 e4 e6 e7 e9) ?_;refine B5 (.agg [.st (.str ⟨#[]⟩),.full []]) hS ha0 (hhigh _) trivial ?_ ?_ ?_ fun i hi hne=>?_
   ·simp only[go_sem,fN,seval,eT,iR,AB,AD,AM,e4,e6,e7,e9,d4,d6,d7,d9]
   ·simp only[go_sem,fN,seval,eT,iR,Tm.nil];rfl
   ·simp only[go_sem,fN,seval,eT,iR,e4,e6,e7,e9]
   ·have i4:¬i=4:=by omega
    have i6:¬i=6:=by omega
    have i7:¬i=7:=by omega
    simp only[go_sem,fN,seval,eT,iR,i4,i6,i7,hne]
  have hz':¬left-1<0:=by omega
  with_reducible refine Wp ?_
  simp only[go_sem,fN,seval,true_implies,false_implies,implies_true,dT,dF,nL,hz'];(try with_reducible refine iC ?_);refine Hf (F13 hSa n4 n6 n7 n9 d4 d6 d7 d9 e4 e6 e7 e9) ?_;refine IWP.ghost (AY.ownC 9 1 900 37 2 (xs:=([]:List Tm).map Al) (by simp only[go_sem,fN,seval,eT,iR,d9,d4,d6,d7,e9];rfl) rfl (by simp only[go_sem,fN,seval,eT,iR,n900,d900]) Cv) ?_;refine IWP.loopD [11] (fun m x=>∃k,k≤t.args.length∧m=t.args.length-k∧(Tm.sizes ((t.args.take k).map f):Int)≤left-1∧x.env 0=.one (.ptr a0 1 0 0)∧x.env 2=AZ _∧x.env 6=.one (.ptr 6 1 0 0)∧x.env 9=.one (.ptr 9 1 0 0)∧x.env 44=.one (.st (.list (t.args.map Al)))∧x.env 45=AO t.args.length∧x.env 46=AO k ∧
    x.S 6=some (.box 37 [.st (.str ⟨#[]⟩),.full []])∧x.S 9=some (.box 37 [.st (.str t.name),.row 900 k])∧x.S 900=some (.arow 37 2 (((t.args.take k).map f).map Al))∧x.S 11=none∧x.S a0=some (E3 r s.length (left-1-Tm.sizes ((t.args.take k).map f)))∧∀i,1000≤i→i≠a0→x.S i=S i)
   t.args.length ⟨0,Nat.zero_le _,rfl,by show(0:Int)≤_;omega,rfl,rfl,rfl,rfl,rfl,rfl,rfl,by simp only[go_sem,fN,seval,eT,iR,d6,d4,d7,d9,e6],by(simp only[go_sem,fN,seval,eT,iR,d9]);rfl,by simp only[go_sem,fN,seval,eT,iR,e9],by simp only[go_sem,fN,seval,eT,iR,n11,d11],by(simp only[go_sem,fN,seval,eT,iR,e9,e900]);simp[Tm.sizes],fun i hi hne=>?_⟩ ?_
  ·have i4:¬i=4:=by omega
   have i6:¬i=6:=by omega
   have i7:¬i=7:=by omega
   have i9:¬i=9:=by omega
   have i900:¬i=900:=by omega
   simp only[go_sem,fN,seval,eT,iR,i4,i6,i7,i9,i900,hne]
  rintro m ⟨env,S1⟩ ⟨k,hk,rfl,hsz,e0,e2,e6',e9',e44,e45,e46,s6,s9,s900,s11,sa,hrest⟩;simp only at e0 e2 e6' e9' e44 e45 e46 s6 s9 s900 s11 sa hrest;have hlk:(t.args.take k).length=k:=by rw[List.length_take];omega
  have hle:=Tm.sizes_take_le (t.args.map f) k;rw[←List.map_take]at hle;have hkl:=Tm.length_le ((t.args.take k).map f);rw[List.length_map,hlk]at hkl;have hSr1:S1 r=some (Bl s):=(hrest r hr0 hra).trans hSr;by_cases hlt:(k:Int)<t.args.length
  ·obtain⟨a,ha⟩:=Aa (show k<t.args.length by omega);have ha':(t.args.map f)[k]?=some (f a):=by rw[List.getElem?_map,ha];rfl
   have z1:=Tm.sizes_take ha';have z2:=Tm.sizes_take_le (t.args.map f) (k+1);rw[←List.map_take,←List.map_take]at z1;rw[←List.map_take]at z2;refine Hf (F13 e0 e2 e6' e9' e44 e45 e46 s6 s9 s900 s11 sa hlt) ?_;with_reducible refine Wp ?_
   simp only[go_sem,fN,seval,true_implies,false_implies,implies_true,dT,dF,nL,hlt];(try with_reducible refine iC ?_);repeat' first|refine Hf (F16 e0 e2 e6' e9' e44 e45 e46 s6 s9 s900 s11 sa d11 d9 e11 ha) ?_|refine Mm fun K hK=>?_
   have hcall:=ih a (AN ha) (up1 a0) (up1 r) (left-1-Tm.sizes ((t.args.take k).map f)) (upS (AI (AI S1 11 (some (.box 37 [.st (.str ⟨#[]⟩),.full []]))) 11 (some (.box 37 [.st (.str a.name),.st (.list (a.args.map Al))])))) (Ap a0) (Ap r) (by unfold up1;omega) (by omega) (by omega) (by rw[Ax,AH _ e11,AH _ e11,sa];rfl) (by rw[Ax,AH _ f11,AH _ f11,hSr1];rfl);by_cases hfit:((f a).size:Int)≤left-1-Tm.sizes ((t.args.take k).map f)
   ·rw[El hfit]at hcall;refine⟨_,_,hcall,?_⟩;have hge:¬left-1-Tm.sizes ((t.args.take k).map f)-(f a).size<0:=by omega
    refine Hf (F18 e0 e2 e6' e9' e44 e45 e46 s6 s9 s900 s11 d11 d9 e11 e9 e900 d900 hlk) ?_;with_reducible refine Wp ?_
    simp only[go_sem,fN,seval,true_implies,false_implies,implies_true,dT,dF,nL,hge];(try with_reducible refine iC ?_);repeat' first|refine Hf (F14 e0 e2 e6' e9' e44 e45 e46 s6 s9 s900 s11 d11 d9 e11) ?_|refine Mm fun K hK=>?_
    refine AE ⟨t.args.length-(k+1),by omega,k+1,by omega,rfl,?_⟩;have hib:(a0==11)=false:=by simp;omega
    have hrb:(r==11)=false:=by simp;omega
    have hzz:((Tm.sizes ((t.args.take (k+1)).map f):Nat):Int)=Tm.sizes ((t.args.take k).map f)+(f a).size:=by omega
    refine⟨by omega,?_⟩;simp only[go_sem,fN,seval,AS.drop,AT,AC.clears,AC.clear,AC.highs,AC.high,zD,AV.purge,AV.purges,AC.purge,AJ.purge,Nat.reduceBEq,eT,iR,e0,e2,e6',e9',e44,e45,s6,s9,s900,d11,d9,e11,e9,e900,d900,d6,hib,hrb];refine⟨by congr 3,by rw[Ab ha,List.map_append,List.map_append,List.map_cons,List.map_nil,List.map_cons,List.map_nil,Ao],?_,fun i hi hne=>?_⟩
    ·congr 5;omega
    ·have i9:¬i=9:=by omega
     have i11:¬i=11:=by omega
     have i900:¬i=900:=by omega
     have i11b:(i==11)=false:=by simp;omega
     simp only[go_sem,fN,seval,AS.drop,AT,AC.clears,AC.clear,AC.highs,AC.high,zD,AV.purge,AV.purges,AC.purge,AJ.purge,Nat.reduceBEq,eT,iR,i9,i11,i11b,i900,hne];rw[hrest i hi hne];exact Tw (by decide) fun b hb=>(hS i b hb).2
   ·have hno:¬((Tm.mk t.name (t.args.map f)).size:Int)≤left:=by rw[hu];omega
    rw[EI hfit]at hcall;refine⟨_,_,hcall,?_⟩;repeat' first|refine Hf (F18 e0 e2 e6' e9' e44 e45 e46 s6 s9 s900 s11 d11 d9 e11 e9 e900 d900 hlk) ?_|refine Mm fun K hK=>?_
    with_reducible refine Wp ?_
    simp only[go_sem,fN,seval,true_implies,false_implies,implies_true,dT,dF,nL];(try with_reducible refine iC ?_);refine Hf (F18 e0 e2 e6' e9' e44 e45 e46 s6 s9 s900 s11 d11 d9 e11 e6 d6 d900 e900) ?_;rw[EI hno];refine B5 (.agg [.st (.str ⟨#[]⟩),.full []]) hS ha0 (hhigh _) trivial ?_ ?_ ?_ fun i hi hne=>?_
    ·simp only[go_sem,fN,seval,eT,iR,AB,AD,AM,e6',s6,e6,e9,e11,e900,d6,d9,d11,d900]
    ·simp only[go_sem,fN,seval,eT,iR,Tm.nil];rfl
    ·simp only[go_sem,fN,seval,eT,iR,e6,e9,e11,e900]
    ·have i6:¬i=6:=by omega
     have i9:¬i=9:=by omega
     have i11:¬i=11:=by omega
     have i900:¬i=900:=by omega
     simp only[go_sem,fN,seval,eT,iR,i6,i9,i11,i900,hne];exact hrest i hi hne
  ·have hall:t.args.take k=t.args:=List.take_of_length_le (by omega);rw[hall]at hlk s900 hsz sa;have hyes:((Tm.mk t.name (t.args.map f)).size:Int)≤left:=by rw[hu];omega
   refine Hf (F13 e0 e2 e6' e9' e44 e45 e46 s6 s9 s900 s11 sa hlt) ?_;with_reducible refine Wp ?_
   simp only[go_sem,fN,seval,true_implies,false_implies,implies_true,dT,dF,nL,hlt];(try with_reducible refine iC ?_);refine Hf (F13 e0 e2 e6' e9' e44 e45 e46 s6 s9 s900 s11 sa d6) ?_;rw[El hyes];refine B5 (.agg [.st (.str t.name),.row 900 k]) hS ha0 (hhigh _) trivial ?_ ?_ ?_ fun i hi hne=>?_
   ·simp only[go_sem,fN,seval,eT,iR,AB,AD,AM,e6',s6]
   ·simp only[go_sem,fN,seval,eT,iR,s900,hlk];rfl
   ·simp only[go_sem,fN,seval,eT,iR,e6,sa,hu];rw[show left-1-(Tm.sizes (t.args.map f):Int)=left-((1+Tm.sizes (t.args.map f):Nat):Int) by omega]
   ·have i6:¬i=6:=by omega
    simp only[go_sem,fN,seval,eT,iR,i6];exact hrest i hi hne
theorem AAs(s:List Bd)(h40:s.length≤100000)(ho:BU s)(t:Tm):∀(a0 r:Nat) (left:Int) (S:AA),1000≤a0→1000≤r→¬r=a0→0≤left→left≤1000000→S a0=some (E3 r s.length left)→S r=some (Bl s) →
  Ah Tryz.prog 126 [.one (.ptr a0 1 0 0),aTm t,AZ false] S (aTm (DW t left).1) (AI S a0 (some (E3 r s.length (DW t left).2))):=by
 induction h:SizeOf.sizeOf t using Nat.strongRecOn generalizing t with
 | _ N ih =>
 subst h;intro a0 r left S h1 h1' h1'' h2 h3 h4 h5;have:=M8 s h40 ho false id t (fun h=>by cases h) (fun a ha=>ih _ (Tm.lt_of_arg ha) a rfl) a0 r left S h1 h1' h1'' h2 h3 h4 h5;rw[List.map_id,Tm.eta]at this;exact this
theorem AAt(s:List Bd)(h40:s.length≤100000)(ho:BU s)(t:Tm)(hv:∀b∈s,AP b.1=true)(hchk:t.chk=0):∀(a0 r:Nat) (left:Int) (S:AA),1000≤a0→1000≤r→¬r=a0→0≤left→left≤1000000→S a0=some (E3 r s.length left)→S r=some (Bl s) →
  Ah Tryz.prog 126 [.one (.ptr a0 1 0 0),aTm t,AZ true] S (aTm (DW (t.on s) left).1) (AI S a0 (some (E3 r s.length (DW (t.on s) left).2))):=by
 induction h:SizeOf.sizeOf t using Nat.strongRecOn generalizing t with
 | _ N ih =>
 subst h;intro a0 r left S ha0 hr0 hra h0 h1 hSa hSr;obtain⟨c1,c2⟩:=Tm.chk_args hchk;cases hl:lookup s t.name with
 | none =>
  have:=M8 s h40 ho true (Tm.on s) t (fun _=>hl) (fun a ha=>ih _ (Tm.lt_of_arg ha) a (c2 a ha) rfl) a0 r left S ha0 hr0 hra h0 h1 hSa hSr;rw[←Tm.on_knot (.inl hl)]at this;exact this
 | some x =>
  obtain⟨b,hb,hbn,_⟩:=DR hl;have hargs:=c1 (by rw[←hbn];exact hv b hb);rw[Tm.on_leaf hl hargs];refine CX.acS fun hS C hC=>?_;have n4:S 4=none:=AK hS (by omega);have n6:S 6=none:=AK hS (by omega);have n7:S 7=none:=AK hS (by omega);have e4:¬a0=4:=by omega
  have e6:¬a0=6:=by omega
  have e7:¬a0=7:=by omega
  have d4:¬4=a0:=by omega
  have d6:¬6=a0:=by omega
  have d7:¬7=a0:=by omega
  have f4:¬r=4:=by omega
  have f6:¬r=6:=by omega
  have f7:¬r=7:=by omega
  have hhigh:∀left,(E3 r s.length left).high=true:=fun left=>by
   show((AC.row r s.length).high&&AC.highs [.st (.int .i64 left)])=true
   rw[EN hr0];rfl
  unfold Bw;refine Hf (F10 hSa n4 n6 n7 d4 d6 d7 e4 e6 e7) ?_;with_reducible refine Wp ?_
  simp only[go_sem,fN,seval,true_implies,false_implies,implies_true,dT,dF,nL];(try with_reducible refine iC ?_);repeat' first|refine Hf (F10 hSa n4 n6 n7 d4 d6 d7 e4 e6 e7) ?_|refine Mm fun K hK=>?_
  refine⟨_,[(r,Bl s)],BC (by(simp only[go_sem,fN,seval,eT,iR,f4,f6,f7,hSr])),fun T hT=>Za s h40 ho t.name (up1 r) (Ap r) (upS T) (by rw[Ax,hT _ (List.mem_singleton.2 rfl)];rfl),?_⟩;repeat' first|refine Hf (F2 hl n7) ?_|refine Mm fun K hK=>?_
  with_reducible refine Wp ?_
  simp only[go_sem,fN,seval,true_implies,false_implies,implies_true,dT,dF,nL];(try with_reducible refine iC ?_);repeat' first|refine Hf (F10 hSa n4 n6 n7 d4 d6 d7 e4 e6 e7) ?_|refine Mm fun K hK=>?_
  have hcall:=fun S' h h'=>AAs s h40 ho x (up1 a0) (up1 r) left S' (Ap a0) (Ap r) (by unfold up1;omega) h0 h1 h h';refine⟨_,_,hcall _ (by rw[Ax];(simp only[go_sem,fN,seval,eT,iR,e4,e6,e7,hSa])) (by rw[Ax];(simp only[go_sem,fN,seval,eT,iR,f4,f6,f7,hSr])),?_⟩;repeat' first|refine Hf (F6 e4 e6 e7 d4 d6 d7) ?_|refine Mm fun K hK=>?_
  refine B5 (aTm (DW x left).1) hS ha0 (hhigh _) trivial ?_ ?_ ?_ fun i hi hne=>?_
  ·simp only[go_sem,fN,seval,eT,iR,AB,AD,AM,e4,e6,e7,d4,d6,d7]
  ·simp only[go_sem,fN,seval,eT,iR]
  ·simp only[go_sem,fN,seval,eT,iR,e4,e6,e7]
  ·have i4:¬i=4:=by omega
   have i6:¬i=6:=by omega
   have i7:¬i=7:=by omega
   simp only[go_sem,fN,seval,eT,iR,i4,i6,i7,hne]
theorem AB3(s:List Bd)(h40:s.length≤100000)(ho:BU s)(t:Tm)(hv:∀b∈s,AP b.1=true)(hchk:t.chk=0)(r:Nat)(hr:1000≤r)(S:AA)(sr:S r=some (Bl s)) :
  Ah Tryz.prog 110 [.one (.row r s.length),aTm t] S (.tup [aTm (Au s t).1,AZ (Au s t).2]) S:=by
 refine Q6.acS fun hS C hC=>?_;unfold Je;have n3:S 3=none:=AK hS (by omega);have n4:S 4=none:=AK hS (by omega);have n7:S 7=none:=AK hS (by omega);have n10:S 10=none:=AK hS (by omega);have r3:¬r=3:=by omega
 have r4:¬r=4:=by omega
 have r7:¬r=7:=by omega
 have r10:¬r=10:=by omega
 repeat' first|refine Hf (F4 n3 n4 n7 n10) ?_|refine Mm fun K hK=>?_
 have hcall:=fun S' h h'=>AAt s h40 ho t hv hchk (up1 10) (up1 r) 2000 S' (Ap 10) (Ap r) (by unfold up1;omega) (by omega) (by omega) h h';refine⟨_,_,hcall _ (by rw[Ax];rfl) (by rw[Ax];(simp only[go_sem,fN,seval,eT,iR,r3,r4,r10,sr])),?_⟩;by_cases hfit:((t.on s).size:Int)≤2000
 ·have e:Au s t=(t.on s,true):=by
   unfold Au;rw[if_pos (by omega)]
  rw[El hfit];have hge:(0:Int)≤2000-(t.on s).size:=by omega
  refine Hf (F2 hge n7) ?_;rw[e];refine Aq (.tup [aTm (t.on s),AZ true]) hS trivial ?_ ?_ fun k hk=>?_
  ·simp only[go_sem,fN,seval,eT,iR,AB,AD,AM]
  ·simp only[go_sem,fN,seval,eT,iR]
  ·have k3:¬k=3:=by omega
   have k4:¬k=4:=by omega
   have k7:¬k=7:=by omega
   have k10:¬k=10:=by omega
   simp only[go_sem,fN,seval,eT,iR,k3,k4,k7,k10]
 ·have e:Au s t=(Tm.nil,false):=by
   unfold Au;rw[if_neg (by omega)]
  rw[EI hfit];refine Hf n7 ?_;rw[e];refine Aq (.tup [aTm Tm.nil,AZ false]) hS trivial ?_ ?_ fun k hk=>?_
  ·simp only[go_sem,fN,seval,eT,iR,AB,AD,AM]
  ·simp only[go_sem,fN,seval,eT,iR]
  ·have k3:¬k=3:=by omega
   have k4:¬k=4:=by omega
   have k7:¬k=7:=by omega
   have k10:¬k=10:=by omega
   simp only[go_sem,fN,seval,eT,iR,k3,k4,k7,k10]

open Go.Proofs Go.Shelf
def Tryz.laysM171_ren:Go.Shelf.Ren:=⟨fun|171=>123|243=>134|246=>141|283=>155|284=>156|285=>157|286=>158|129=>153|317=>164|318=>165|319=>166|320=>167|337=>169|338=>170|n=>n,fun|3=>3|9=>9|2=>2|4=>4|171=>178|0=>0|53=>176|37=>122|5=>5|173=>180|212=>190|51=>174|20=>20|213=>191|46=>160|232=>195|233=>196|n=>n,fun|17=>0|18=>1|19=>2|n=>n⟩
theorem Tryz.laysM171:Go.Proofs.LaysM.n171 Tryz.prog Tryz.laysM171_ren:={
 mixed:=by kernel_rfl
 f129:=Tryz.func153.trans (congrArg some (by kernel_rfl))
 f171:=Tryz.func123.trans (congrArg some (by kernel_rfl))
 f243:=Tryz.func134.trans (congrArg some (by kernel_rfl))
 f246:=Tryz.func141.trans (congrArg some (by kernel_rfl))
 f283:=Tryz.func155.trans (congrArg some (by kernel_rfl))
 f284:=Tryz.func156.trans (congrArg some (by kernel_rfl))
 f285:=Tryz.func157.trans (congrArg some (by kernel_rfl))
 f286:=Tryz.func158.trans (congrArg some (by kernel_rfl))
 f317:=Tryz.func164.trans (congrArg some (by kernel_rfl))
 f318:=Tryz.func165.trans (congrArg some (by kernel_rfl))
 f319:=Tryz.func166.trans (congrArg some (by kernel_rfl))
 f320:=Tryz.func167.trans (congrArg some (by kernel_rfl))
 f337:=Tryz.func169.trans (congrArg some (by kernel_rfl))
 f338:=Tryz.func170.trans (congrArg some (by kernel_rfl))
 t0:=Tryz.underlying0
 a0:=Tryz.isAgg0
 z0:=Tryz.sizeOf0
 v0:=Tryz.zeroValue0
 t2:=Tryz.underlying2
 a2:=Tryz.isAgg2
 z2:=Tryz.sizeOf2
 v2:=Tryz.zeroValue2
 t3:=Tryz.underlying3
 a3:=Tryz.isAgg3
 z3:=Tryz.sizeOf3
 v3:=Tryz.zeroValue3
 t4:=Tryz.underlying4
 a4:=Tryz.isAgg4
 z4:=Tryz.sizeOf4
 v4:=Tryz.zeroValue4
 t5:=Tryz.underlying5
 a5:=Tryz.isAgg5
 z5:=Tryz.sizeOf5
 v5:=Tryz.zeroValue5
 t9:=Tryz.underlying9
 a9:=Tryz.isAgg9
 z9:=Tryz.sizeOf9
 v9:=Tryz.zeroValue9
 t20:=Tryz.underlying20
 a20:=Tryz.isAgg20
 z20:=Tryz.sizeOf20
 v20:=Tryz.zeroValue20
 t37:=Tryz.underlying122
 a37:=Tryz.isAgg122
 z37:=Tryz.sizeOf122
 v37:=Tryz.zeroValue122
 t46:=Tryz.underlying160
 a46:=Tryz.isAgg160
 z46:=Tryz.sizeOf160
 v46:=Tryz.zeroValue160
 t51:=Tryz.underlying174
 a51:=Tryz.isAgg174
 z51:=Tryz.sizeOf174
 v51:=Tryz.zeroValue174
 t53:=Tryz.underlying176
 a53:=Tryz.isAgg176
 z53:=Tryz.sizeOf176
 v53:=Tryz.zeroValue176
 t171:=Tryz.underlying178
 a171:=Tryz.isAgg178
 z171:=Tryz.sizeOf178
 v171:=Tryz.zeroValue178
 t173:=Tryz.underlying180
 a173:=Tryz.isAgg180
 z173:=Tryz.sizeOf180
 v173:=Tryz.zeroValue180
 t212:=Tryz.underlying190
 a212:=Tryz.isAgg190
 z212:=Tryz.sizeOf190
 v212:=Tryz.zeroValue190
 t213:=Tryz.underlying191
 a213:=Tryz.isAgg191
 z213:=Tryz.sizeOf191
 t232:=Tryz.underlying195
 a232:=Tryz.isAgg195
 z232:=Tryz.sizeOf195
 v232:=Tryz.zeroValue195
 t233:=Tryz.underlying196
 a233:=Tryz.isAgg196
 z233:=Tryz.sizeOf196
 v233:=Tryz.zeroValue196
 g17:=by kernel_rfl
 g18:=by kernel_rfl
 g19:=by kernel_rfl
 i0:=by kernel_rfl
 i2:=by kernel_rfl
 i3:=by kernel_rfl
 i4:=by kernel_rfl
 i5:=by kernel_rfl
 i9:=by kernel_rfl
 i20:=by kernel_rfl
 i37:=by kernel_rfl
 i46:=by kernel_rfl
 i51:=by kernel_rfl
 i53:=by kernel_rfl
 i171:=by kernel_rfl
 i173:=by kernel_rfl
 i212:=by kernel_rfl
 i232:=by kernel_rfl
 i233:=by kernel_rfl
 m17:=by kernel_rfl
 m18:=by kernel_rfl
 m19:=by kernel_rfl }
def Tryz.sortBd_ren:Go.Shelf.Ren:=⟨fun|6=>130|15=>137|14=>136|28=>152|29=>153|20=>144|21=>145|22=>146|23=>147|24=>148|25=>149|26=>150|27=>151|46=>159|47=>160|48=>161|49=>162|50=>163|57=>168|n=>n,fun|22=>78|24=>82|25=>156|3=>3|39=>160|0=>0|53=>174|55=>176|4=>4|46=>168|45=>167|50=>163|5=>5|9=>9|66=>182|70=>186|76=>192|77=>193|n=>n,fun|n=>n⟩
theorem Tryz.sortBd:Go.Proofs.SlLaysF0.n6 Tryz.prog Tryz.sortBd_ren:={
 mixed:=by kernel_rfl
 f6:=⟨Tryz.f130.name,by decide,Tryz.func130.trans (congrArg some (by kernel_rfl))⟩
 f14:=⟨Tryz.f136.name,by decide,Tryz.func136.trans (congrArg some (by kernel_rfl))⟩
 f15:=Tryz.func137.trans (congrArg some (by kernel_rfl))
 f20:=⟨Tryz.f144.name,by decide,Tryz.func144.trans (congrArg some (by kernel_rfl))⟩
 f21:=⟨Tryz.f145.name,by decide,Tryz.func145.trans (congrArg some (by kernel_rfl))⟩
 f22:=⟨Tryz.f146.name,by decide,Tryz.func146.trans (congrArg some (by kernel_rfl))⟩
 f23:=⟨Tryz.f147.name,by decide,Tryz.func147.trans (congrArg some (by kernel_rfl))⟩
 f24:=⟨Tryz.f148.name,by decide,Tryz.func148.trans (congrArg some (by kernel_rfl))⟩
 f25:=⟨Tryz.f149.name,by decide,Tryz.func149.trans (congrArg some (by kernel_rfl))⟩
 f26:=⟨Tryz.f150.name,by decide,Tryz.func150.trans (congrArg some (by kernel_rfl))⟩
 f27:=⟨Tryz.f151.name,by decide,Tryz.func151.trans (congrArg some (by kernel_rfl))⟩
 f28:=Tryz.func152.trans (congrArg some (by kernel_rfl))
 f29:=Tryz.func153.trans (congrArg some (by kernel_rfl))
 f46:=⟨Tryz.f159.name,by decide,Tryz.func159.trans (congrArg some (by kernel_rfl))⟩
 f47:=Tryz.func160.trans (congrArg some (by kernel_rfl))
 f48:=Tryz.func161.trans (congrArg some (by kernel_rfl))
 f49:=⟨Tryz.f162.name,by decide,Tryz.func162.trans (congrArg some (by kernel_rfl))⟩
 f50:=⟨Tryz.f163.name,by decide,Tryz.func163.trans (congrArg some (by kernel_rfl))⟩
 f57:=⟨Tryz.f168.name,by decide,Tryz.func168.trans (congrArg some (by kernel_rfl))⟩
 t0:=Tryz.underlying0
 a0:=Tryz.isAgg0
 z0:=Tryz.sizeOf0
 v0:=Tryz.zeroValue0
 t3:=Tryz.underlying3
 a3:=Tryz.isAgg3
 z3:=Tryz.sizeOf3
 v3:=Tryz.zeroValue3
 t4:=Tryz.underlying4
 a4:=Tryz.isAgg4
 z4:=Tryz.sizeOf4
 v4:=Tryz.zeroValue4
 t5:=Tryz.underlying5
 a5:=Tryz.isAgg5
 z5:=Tryz.sizeOf5
 v5:=Tryz.zeroValue5
 t9:=Tryz.underlying9
 a9:=Tryz.isAgg9
 z9:=Tryz.sizeOf9
 v9:=Tryz.zeroValue9
 t22:=Tryz.underlying78
 a22:=Tryz.isAgg78
 z22:=Tryz.sizeOf78
 v22:=Tryz.zeroValue78
 t25:=Tryz.underlying156
 a25:=Tryz.isAgg156
 z25:=Tryz.sizeOf156
 v25:=Tryz.zeroValue156
 t39:=Tryz.underlying160
 a39:=Tryz.isAgg160
 z39:=Tryz.sizeOf160
 v39:=Tryz.zeroValue160
 t45:=Tryz.underlying167
 a45:=Tryz.isAgg167
 z45:=Tryz.sizeOf167
 v45:=Tryz.zeroValue167
 t46:=Tryz.underlying168
 a46:=Tryz.isAgg168
 z46:=Tryz.sizeOf168
 v46:=Tryz.zeroValue168
 t50:=Tryz.underlying163
 a50:=Tryz.isAgg163
 z50:=Tryz.sizeOf163
 v50:=Tryz.zeroValue163
 t53:=Tryz.underlying174
 a53:=Tryz.isAgg174
 z53:=Tryz.sizeOf174
 v53:=Tryz.zeroValue174
 t55:=Tryz.underlying176
 a55:=Tryz.isAgg176
 z55:=Tryz.sizeOf176
 v55:=Tryz.zeroValue176
 t66:=Tryz.underlying182
 a66:=Tryz.isAgg182
 z66:=Tryz.sizeOf182
 v66:=Tryz.zeroValue182
 t70:=Tryz.underlying186
 a70:=Tryz.isAgg186
 z70:=Tryz.sizeOf186
 v70:=Tryz.zeroValue186
 t76:=Tryz.underlying192
 a76:=Tryz.isAgg192
 z76:=Tryz.sizeOf192
 v76:=Tryz.zeroValue192
 t77:=Tryz.underlying193
 a77:=Tryz.isAgg193
 z77:=Tryz.sizeOf193
 v77:=Tryz.zeroValue193 }

def HN:IR :=
 (.seq (.ops [.i 2 (.mov (.c (.one (.full []))))]) (.seq (.ops [.m 3 0,.i 4 (.callS 130 [.t 3,.c (.one (.fn 131 []))])]) (.seq (.ops [.m 5 0,.m 2 5]) .ret)))
theorem MW:OkF Tryz.prog 117 6 [4] HN [.t 2]:=.of Tryz.func117 rfl rfl (by kernel_rfl) rfl

open Go.Lib Go.Sort
set_option maxHeartbeats 1000000
theorem AAz{P:Program}{w:World}(t:TypeId)(x y:ByteArray):(binOp .gtr t (.string x) (.string y)).run P w=.ok (.bool (!(sLt x y||decide (x=y)))) w:=by
 simp only[binOp,Op.stringOp,DK];rfl
attribute [go_sem] AAz
theorem AAF(s:ByteArray)(W:World):Calls Tryz.prog 138 #[.string s] W fun e w'=>e=.returned (.bool false)∧w'=W:=by
 go_enter Tryz.func138,Tryz.ntmps138
 go_wp2_with fail
 go_ret
 exact⟨rfl,rfl⟩
theorem WH(a b:ByteArray)(W:World):Calls Tryz.prog 132 #[.string a,.string b] W fun e w'=>e=.returned (.int .i64 (DZ a b))∧w'=W:=by
 have h1:=AAF;have hl:sLt a b=Op.bytesLess a.toList b.toList:=rfl;have hc:DZ a b=if sLt a b=true then -1 else if a=b then 0 else 1:=rfl;generalize DZ a b=r at hc ⊢;go_enter Tryz.func132,Tryz.ntmps132
 go_wp2_with (go_at_call 138;refine(h1 _ _).mono ?_;rintro e w' ⟨rfl,rfl⟩)
 all_goals go_ret
 all_goals refine⟨?_,rfl⟩
 all_goals simp_all
abbrev FD:=ByteArray×ByteArray×Option Addr×Nat×Nat
def Cy(x:FD):List Value:=[.string x.1,.string x.2.1,.slice x.2.2.1 x.2.2.2.1 x.2.2.2.2]
theorem AAw(x y:FD)(W:World):Calls Tryz.prog 131 #[.agg (Cy x).toArray,.agg (Cy y).toArray] W fun e w'=>e=.returned (.int .i64 (DZ x.1 y.1))∧∃q os',w'=grow (W.drewN q) os':=by
 have hcon:=fun W'=>WH x.1 y.1 W';generalize DZ x.1 y.1=r at hcon ⊢;unfold Cy;go_enter Tryz.func131,Tryz.ntmps131
 go_wp2_with (go_at_call 132;refine(hcon _).mono ?_;rintro e w' ⟨rfl,rfl⟩)
 go_ret
 exact⟨rfl,0,_,by rw[alloc_eq_grow,alloc_eq_grow,grow_grow];rfl⟩
theorem Wz:SWO (ltOf fun x y:FD=>DZ x.1 y.1) where
 irrefl x:=by
  simp only[ltOf,decide_eq_false_iff_not]
  intro h
  have:=Cr.1 h
  rw[BY]at this
  cases this
 trans x y z h k:=by
  simp only[ltOf,decide_eq_true_eq]at *
  exact Cr.2 (EF (Cr.1 h) (Cr.1 k))
 ntrans x y z h k:=by
  simp only[ltOf,decide_eq_false_iff_not]at *
  intro e
  have e:=Cr.1 e
  have h:sLt x.1 y.1=false:=by
   cases hx:sLt x.1 y.1 with
   | false=>rfl
   | true=>exact absurd (Cr.2 hx) h
  have k:sLt y.1 z.1=false:=by
   cases hx:sLt y.1 z.1 with
   | false=>rfl
   | true=>exact absurd (Cr.2 hx) k
  rcases EC y.1 z.1 with q|q|q
  ·rw[q]at k;cases k
  ·rw[q]at h;rw[e]at h;cases h
  ·have:=EF e q
   rw[this]at h
   cases h
def X9(σ:Sto)(x:FD)(b:Bd):Prop:=x.1=b.1∧An (A8 σ) (Cy x) (BZ b)
theorem XJ{α β:Type}{R:α→β→Prop}{l1 l2:List α}(hp:l1.Perm l2):∀{m1:List β},An R l1 m1→∃m2,An R l2 m2∧m1.Perm m2:=by
 induction hp with
 | nil=>intro m1 h;exact⟨m1,h,List.Perm.refl _⟩
 | cons x _ ih =>
  intro m1 h;cases h with
  | cons h1 h2 =>
   obtain⟨m2,q1,q2⟩:=ih h2;exact⟨_::m2,.cons h1 q1,q2.cons _⟩
 | swap x y l =>
  intro m1 h;cases h with
  | cons h1 h2 =>
   cases h2 with
   | cons h2 h3=>exact⟨_,.cons h2 (.cons h1 h3),List.Perm.swap _ _ _⟩
 | trans _ _ ih1 ih2 =>
  intro m1 h;obtain⟨m2,q1,q2⟩:=ih1 h;obtain⟨m3,q3,q4⟩:=ih2 q1;exact⟨m3,q3,q2.trans q4⟩
theorem AAS{σ:Sto}{b:Bd}{v1 v2 v3:Value}(h1:A8 σ v1 (.str b.1))(h2:A8 σ v2 (.str b.2.name))(h3:A8 σ v3 (.list (b.2.args.map Al))):∃x:FD,[v1,v2,v3]=Cy x∧X9 σ x b:=by
 have e1:=(E2 (S:=noS) (ι:=noH) (.one (.st h1))).1;have e2:=(E2 (S:=noS) (ι:=noH) (.one (.st h2))).1;obtain⟨p,cap,e3,_⟩:=Cj h3;subst e1 e2 e3;exact⟨(b.1,b.2.name,p,_,cap),rfl,rfl,.cons h1 (.cons h2 (.cons h3 .nil))⟩
theorem Nm{σ:Sto}{vs:Array Value}:∀(l:List Bd) (base:Nat),(∀k b,l[k]?=some b→∀j a,(BZ b)[j]?=some a→∃v,vs[base+k*3+j]?=some v∧A8 σ v a) →
  ∃d:List FD,An (X9 σ) d l∧∀k x j v,d[k]?=some x→(Cy x)[j]?=some v→vs[base+k*3+j]?=some v
 | [],base,_=>⟨[],.nil,by simp⟩
 | b::l,base,h=>by
  obtain⟨d,d1,d2⟩:=Nm l (base+3) (fun k c hc j a ha=>by
   obtain⟨v,v1,v2⟩:=h (k+1) c (by simpa using hc) j a ha;exact⟨v,by rw[←v1];congr 1;omega,v2⟩)
  obtain⟨u1,p1,q1⟩:=h 0 b rfl 0 _ rfl;obtain⟨u2,p2,q2⟩:=h 0 b rfl 1 _ rfl;obtain⟨u3,p3,q3⟩:=h 0 b rfl 2 _ rfl;obtain⟨x,x1,x2⟩:=AAS q1 q2 q3;refine⟨x::d,.cons x2 d1,fun k y j v hy hv=>?_⟩;cases k with
  | zero =>
   simp only[List.getElem?_cons_zero,Option.some.injEq]at hy;subst hy;rw[←x1]at hv;match j,hv with
   | 0,hv=>cases hv;exact p1
   | 1,hv=>cases hv;exact p2
   | 2,hv=>cases hv;exact p3
   | j+3,hv=>simp at hv
  | succ k =>
   have:=d2 k y j v (by simpa using hy) hv;rw[←this];congr 1;omega
theorem KM(x:FD):(Cy x).length=3:=rfl
theorem Ro{d:Array FD}{t:Nat}(h:t<d.size*3):∃x v,d[t / 3]?=some x∧(Cy x)[t % 3]?=some v∧(flatK Cy 3 d)[t]! = v:=by
 have hk:t / 3<d.size:=by omega
 have hj:t % 3<(Cy d[t / 3]).length:=by rw[KM];omega
 refine⟨d[t / 3],(Cy d[t / 3])[t % 3],Array.getElem?_eq_getElem hk,List.getElem?_eq_getElem hj,?_⟩;rw[get_flatK _ _ _ _ h,getElem!_pos d (t / 3) hk,getElem!_pos (Cy d[t / 3]) (t % 3) hj]
theorem WY(w:World)(g n:Nat)(d:Array FD)(os:Array Obj)(vs:Array Value)(e:TypeId)(hg:w.heap[g]?=some (.cells vs e (0,0))) :
  (sortWorldK Cy 3 w g 0 n d os).heap[g]?=some (.cells (putCells id 0 (flatK Cy 3 d) vs) e (0,0))∧(∀k,k<w.heap.size→k≠g→(sortWorldK Cy 3 w g 0 n d os).heap[k]?=w.heap[k]?)∧w.heap.size≤(sortWorldK Cy 3 w g 0 n d os).heap.size:=by
 have hlt:=(Array.getElem?_eq_some_iff.1 hg).1;have hsz:(putRowK Cy 3 (Sort.ahead w n) g 0 d).heap.size=w.heap.size:=by simp[putRowK,putRow,mapBlock,Sort.ahead]
 refine⟨?_,fun k hk hne=>?_,?_⟩
 ·unfold sortWorldK;rw[heap_grow_old _ _ (by rw[hsz];exact hlt)];simp[putRowK,putRow,mapBlock,Sort.ahead,Array.getElem?_modify,hg,onCells]
 ·unfold sortWorldK;rw[heap_grow_old _ _ (by rw[hsz];exact hk)];simp[putRowK,putRow,mapBlock,Sort.ahead,Array.getElem?_modify,Ne.symm hne]
 ·unfold sortWorldK;rw[Go.Sort.size_grow,hsz];omega
theorem Z2{d:Array FD}{vs:Array Value}(hs:d.size*3≤vs.size){k:Nat}{x:FD}{j:Nat}{v:Value}(hx:d[k]?=some x)(hv:(Cy x)[j]?=some v):(putCells id 0 (flatK Cy 3 d) vs)[k*3+j]?=some v:=by
 have hk:=(Array.getElem?_eq_some_iff.1 hx).1;have hj:j<3:=by have:=(List.getElem?_eq_some_iff.1 hv).1;rw[KM]at this;exact this
 have hlt:k*3+j<d.size*3:=by omega
 obtain⟨y,u,h1,h2,h3⟩:=Ro hlt;have e1:(k*3+j) / 3=k:=by omega
 have e2:(k*3+j) % 3=j:=by omega
 rw[e1,hx]at h1;cases h1;rw[e2,hv]at h2;cases h2;unfold putCells;rw[Array.getElem?_mapIdx,Array.getElem?_eq_getElem (by omega),Option.map_some,if_pos (by rw[size_flatK];omega)];simp only[Nat.sub_zero,id,h3]
theorem X4(d:Array FD)(vs:Array Value):(putCells id 0 (flatK Cy 3 d) vs).size=vs.size:=by simp[putCells]
theorem AAa{S:AA}{r:Nat}{b:AJ}(h:S r=some b):AI S r (some b)=S:=by
 funext k;unfold AI;split
 ·rename_i e;rw[e,h]
 ·rfl
theorem Wu{d:Array FD}{vs:Array Value}{t:Nat}(h:d.size*3≤t):(putCells id 0 (flatK Cy 3 d) vs)[t]?=vs[t]?:=by
 unfold putCells;rw[Array.getElem?_mapIdx];cases hv:vs[t]? with
 | none=>rfl
 | some v=>rw[Option.map_some,if_neg (by rw[size_flatK];omega)]
abbrev G0(l:List Bd)(ys:List (List SV)):AJ:=.mrow 82 3 (l.map BZ++ys)
theorem WC(l:List Bd)(ys:List (List SV))(hys:∀y∈ys,y.length=3)(hn:Bg l)(hl:l.length≤100000)(r:Nat)(hr:1000≤r)(S:AA)(sr:S r=some (G0 l ys))(hS:Ay S)(σ:Sto)(w:World)(ι:A6)(hF:Fit σ w)(hO:Fi σ S ι w) :
  Calls Tryz.prog 130 #[.slice (ι r).p l.length (ι r).cap,.func (.func 131) #[] #[]] w fun e w'=>∃v σ' ι',e=.returned v∧Ay (AI S r (some (G0 (BE l) ys)))∧Upd S ι (AI S r (some (G0 (BE l) ys))) ι'∧Fi σ' (AI S r (some (G0 (BE l) ys))) ι' w'∧Ae σ' (AI S r (some (G0 (BE l) ys))) ι' v (.tup [])∧Fit σ' w'∧(∀p x,σ p=some x→σ' p=some x) ∧
   (∀p:Addr,p.block<w.heap.size→C3 S ι p.block→σ' p=σ p)∧(w'.os=w.os∧w'.tape=w.tape∧w'.output=w.output)∧w.heap.size≤w'.heap.size ∧
   (∀g,g<w.heap.size→C3 S ι g→w'.heap[g]?=w.heap[g]?)∧(∀id b g,AI S r (some (G0 (BE l) ys)) id=some b→(ι' id).g=some g→w.heap.size≤g∨¬C3 S ι g):=by
 have hS':Ay (AI S r (some (G0 (BE l) ys))):=Bb hS hr rfl;have hb:CA σ S ι w (ι r) (.mrow 82 3 (l.map BZ++ys)):=hO.1 r _ sr;generalize hxs:l.map BZ++ys=xs at hb;have hlen:xs.length=l.length+ys.length:=by rw[←hxs,List.length_append,List.length_map]
 generalize hh:ι r=hd at hb;cases hb with
 | mnil k1 k2 =>
  obtain⟨hl0,hy0⟩:l=[]∧ys=[]:=by simpa using hxs
  subst hl0 hy0;refine(AnyF.slices_SortFunc_none Tryz.sortBd hd.p hd.cap _ w).mono fun e w' ⟨he,hw⟩=>?_;subst hw;have hid:AI S r (some (G0 (BE []) []))=S:=AAa sr;rw[hid];exact⟨_,σ,ι,he,hS,Upd.refl _ _,hO,.tup (fun _=>undef) rfl (by simp) (by simp),hF,fun _ _ h=>h,fun _ _ _=>rfl,⟨rfl,rfl,rfl⟩,Nat.le_refl _,fun _ _ _=>rfl,fun id b g h1 h2=>.inr fun hno=>hno id b h1 h2⟩
 | @mrow _ _ _ g cs k1 k2 k3 k4 k5 k6 k7 k8 k9 =>
  subst hxs;obtain⟨d,d1,d2⟩:=Nm (σ:=σ) (vs:=cs) l 0 (fun k b hb j a ha=>by
   obtain⟨v,v1,v2⟩:=k8 k (BZ b) j a (by rw[List.getElem?_append_left (by rw[List.length_map];exact B8 hb),List.getElem?_map,hb];rfl) ha;exact⟨v,by rw[Nat.zero_add];exact v1,v2⟩)
  have dlen:d.length=l.length:=d1.len;have hcap:l.length≤hd.cap:=by omega
  have hfits:d.toArray.size*3≤cs.size:=by
   rw[k6];simp only[List.size_toArray,dlen];exact Nat.mul_le_mul_right 3 hcap
  have hH:HoldsK Cy 3 w g 0 d.toArray:=fun j hj=>by
   rw[size_flatK]at hj;obtain⟨x,v,q1,q2,q3⟩:=Ro hj;have q1:d[j / 3]?=some x:=by simpa using q1
   have hc:=d2 _ _ _ _ q1 q2;have e:0+j / 3*3+j % 3=j:=by omega
   rw[e]at hc;refine⟨?_,?_⟩
   ·rw[cell_of_row w g _ _ _ _ k3,Nat.zero_add,hc,q3];rfl
   ·exact Blk.frozen k3 _
  have eg:∀args w,(callFunc 131 args).run Tryz.prog w=.ok (.enter 131 args) w:=enters_of Tryz.func131 (by kernel_rfl) rfl;have hgl:g<w.heap.size:=(Array.getElem?_eq_some_iff.1 k3).1;have hcon:=AnyQ.slices_SortFunc Tryz.sortBd 3 Tryz.isAgg82 Tryz.sizeOf82 Cy KM (fun x v hv=>by simp[Cy]at hv;rcases hv with rfl|rfl|rfl <;> rfl) (fun x y:FD=>DZ x.1 y.1) Wz 131 #[] g 0 hd.cap d.toArray w eg (fun _ _ _ _ x y=>AAw x y _) hH hgl (by simp[dlen];omega);rw[show d.toArray.size=l.length by simp[dlen]]at hcon;rw[k2,show(l.length)=l.length from rfl];refine Calls.mono hcon fun e w' ⟨he,d',n,os,hp,hs,hw⟩=>?_;obtain⟨hp1,hp2,hp3⟩:=hp;have hd'l:d'.size=l.length:=by rw[hp1];simp[dlen]
  have hperm:d.Perm d'.toList:=by
   have e1:d'.extract 0 l.length=d':=by rw[←hd'l];exact Array.extract_size
   have e2:d.toArray.extract 0 l.length=d.toArray:=by
    rw[show l.length=d.toArray.size by simp[dlen]];exact Array.extract_size
   rw[e1,e2]at hp3;exact hp3.symm
  obtain⟨l',l1,l2⟩:=XJ hperm d1;have hl'len:l'.length=l.length:=l2.length_eq.symm;have hord:BU l':=by
   unfold BU;rw[List.pairwise_iff_getElem];intro i j hi hj hij;obtain⟨x,x1,x2,_⟩:=l1.get (List.getElem?_eq_getElem hi);obtain⟨y,y1,y2,_⟩:=l1.get (List.getElem?_eq_getElem hj);have hso:=hs i j (Nat.zero_le _) hij (by omega);have e1:d'[i]! = x:=by
    rw[Array.getElem?_toList]at x1;rw[getElem!_def,x1]
   have e2:d'[j]! = y:=by
    rw[Array.getElem?_toList]at y1;rw[getElem!_def,y1]
   rw[e1,e2]at hso;simp only[ltOf,decide_eq_false_iff_not]at hso;have hno:sLt l'[j].1 l'[i].1=false:=by
    cases hx:sLt l'[j].1 l'[i].1 with
    | false=>rfl
    | true=>exact absurd (Cr.2 (by rw[x2,y2];exact hx)) hso
   have hdiff:l'[i].1≠l'[j].1:=by
    have hn':=DB l2 hn;unfold Bg at hn';rw[List.nodup_iff_pairwise_ne,List.pairwise_map,List.pairwise_iff_getElem]at hn';exact hn' i j hi hj hij
   rcases EC l'[i].1 l'[j].1 with q|q|q
   ·exact q
   ·exact absurd q hdiff
   ·rw[q]at hno;cases hno
  have hl':l'=BE l:=Ew hord (Bz hn) ((l2.symm).trans (Bu l).symm);subst hl';obtain⟨w1,w2,w3⟩:=WY w g n d' os cs _ k3;rw[←hw]at w1 w2 w3;have hfits':d'.size*3≤cs.size:=by rw[hd'l];rw[←dlen];simpa using hfits
  have hupd:Upd S ι (AI S r (some (G0 (BE l) ys))) ι:=fun id b hb=>by
   by_cases e:id=r
   ·subst e;rw[sr]at hb;cases hb;exact⟨_,AG _ _ _,by simp[AJ.len,Bi],fun _=>⟨rfl,rfl⟩⟩
   ·exact⟨b,by rw[AH _ e];exact hb,Nat.le_refl _,fun _=>⟨rfl,rfl⟩⟩
  have hotherg:∀id b g',id≠r→S id=some b→(ι id).g=some g'→g'≠g:=fun id b g' hne hb hg' e=>by
   subst e;exact hne (hO.2 id r b _ g' hb sr hg' (by rw[hh];exact k1))
  have hFit:Fit σ w':=fun p x hp=>by
   have hlt:=hF.lt hp;by_cases e:p.block=g
   ·rw[k9 p e]at hp;cases hp
   ·exact(EG (w2 _ hlt e)).trans (hF p x hp)
  refine⟨_,σ,ι,he,hS',hupd,⟨fun id b hb=>?_,fun id id' b b' g' q1 q2 q3 q4=>?_⟩,.tup (fun _=>undef) rfl (by simp) (by simp),hFit,fun _ _ h=>h,fun _ _ _=>rfl,?_,w3,fun g' q1 q2=>?_,fun id b g' q1 q2=>?_⟩
  ·by_cases e:id=r
   ·subst e;rw[AG]at hb;cases hb;rw[hh];have hlen':((BE l).map BZ++ys).length=l.length+ys.length:=by rw[List.length_append,List.length_map,Bi]
    refine .mrow k1 k2 w1 (by rw[hlen',←hlen];exact k4) k5 (by rw[X4];exact k6) (fun x hx=>?_) (fun k x j a hx ha=>?_) k9
    ·rcases List.mem_append.1 hx with hx|hx
     ·exact Hw x hx
     ·exact hys x hx
    rcases Nat.lt_or_ge k l.length with hk|hk
    ·rw[List.getElem?_append_left (by rw[List.length_map,Bi];exact hk),List.getElem?_map,Option.map_eq_some_iff]at hx;obtain⟨b,hb,rfl⟩:=hx;obtain⟨y,y1,y2,y3⟩:=l1.get hb;obtain⟨v,v1,v2⟩:=y3.get ha;exact⟨v,Z2 hfits' (by simpa using y1) v1,v2⟩
    ·rw[List.getElem?_append_right (by rw[List.length_map,Bi];exact hk),List.length_map,Bi]at hx;obtain⟨v,v1,v2⟩:=k8 k x j a (by rw[List.getElem?_append_right (by rw[List.length_map];exact hk),List.length_map];exact hx) ha;exact⟨v,by rw[Wu (by rw[hd'l];omega)];exact v1,v2⟩
   ·rw[AH _ e]at hb;refine(hO.1 id b hb).mono (fun _ _ h=>h) hupd (fun g' hg'=>w2 g' ((hO.1 id b hb).gsome hg') (hotherg id b g' e hb hg')) (fun _ _ _ _=>rfl)
  ·have back:∀i c,AI S r (some (G0 (BE l) ys)) i=some c→∃c',S i=some c':=fun i c hc=>by
    by_cases e:i=r
    ·subst e;exact⟨_,sr⟩
    ·rw[AH _ e]at hc;exact⟨c,hc⟩
   obtain⟨c1,c1'⟩:=back _ _ q1;obtain⟨c2,c2'⟩:=back _ _ q2;exact hO.2 _ _ _ _ _ c1' c2' q3 q4
  ·rw[hw];exact⟨rfl,rfl,rfl⟩
  ·exact w2 g' q1 fun e=>q2 r _ sr (by rw[hh,e];exact k1)
  ·refine .inr fun hno=>?_;by_cases e:id=r
   ·subst e;exact hno id _ sr q2
   ·rw[AH _ e]at q1;exact hno id _ q1 q2
theorem Tc(l:List Bd)(hn:Bg l)(hl:l.length≤100000)(r:Nat)(hr:1000≤r)(S:AA)(sr:S r=some (Bl l)) :
  Ah Tryz.prog 130 [.one (.row r l.length),.one (.fn 131 [])] S (.tup []) (AI S r (some (Bl (BE l)))):=by
 intro hS σ w vs ι hG hF hO hv;cases hv with
 | @cons v1 _ _ _ h1 hv =>
 cases hv with
 | @cons v2 _ _ _ h2 hv =>
 cases hv;obtain⟨b,b1,b2,b3⟩:=C9 (Ad h1);rw[sr]at b1;cases b1;have hv1:=b3 (by simp[AJ.len]);subst hv1;have hv2:v2=.func (.func 131) #[] #[]:=by
  cases Ad h2 with
  | @fn _ vs _ c q1 q2 q3 =>
   have e:vs=#[]:=Array.eq_empty_of_size_eq_zero (by simpa using q1);rw[e]
 subst hv2;have e:∀m:List Bd,Bl m=G0 m []:=fun m=>by rw[G0,List.append_nil]
 rw[e]at sr ⊢;exact WC l [] (by simp) hn hl r hr S sr hS σ w ι hF hO
theorem Tk(l:List Bd)(hn:Bg l)(hl:l.length≤100000)(r:Nat)(hr:1000≤r)(S:AA)(sr:S r=some (Bl l)) :
  Ah Tryz.prog 117 [.one (.row r l.length)] S (.one (.row r l.length)) (AI S r (some (Bl (BE l)))):=by
 refine MW.acS fun hS C hC=>?_;unfold HN;repeat' first|refine Hg ?_|refine Mm fun K hK=>?_
 refine⟨_,_,Tc l hn hl (up1 r) (Ap r) (upS S) (by rw[Ax,sr];rfl),?_⟩;repeat' first|refine Hg ?_|refine Mm fun K hK=>?_
 have hc:=Bb (b:=Bl (BE l)) hS hr rfl;refine Ka trivial ?_ (EN (n:=l.length) hr) (fun i b _ h=>(hc i b h).2) (It hc) hc;simp only[go_sem,fN,seval,eT,iR,AB,AD,AM]

end Go.Proofs.YtbhnmjkmieiadaaGreatDoor
