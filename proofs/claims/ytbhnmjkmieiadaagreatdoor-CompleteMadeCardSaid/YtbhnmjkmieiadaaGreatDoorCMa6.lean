/-
  Part 6 of the texts. Conditions: none.
-/
import Derived.Test.YtbhnmjkmieiadaaGreatDoorCMa5
import Derived.Lib.ItoaNum
namespace Go.Proofs.YtbhnmjkmieiadaaGreatDoor
open Go Go.RowKit
set_option linter.unusedVariables false
def occ(x:ByteArray)(t:Tm):Bool:=t.knots.any fun k=>decide (k.name=x)
theorem Mh(p:Tm→Bool):∀xs:List Tm,(Tm.knotsL xs).any p=xs.any fun t=>t.knots.any p
 | []=>rfl
 | t::ts=>by rw[Tm.knotsL,List.any_append,Mh p ts,List.any_cons]
theorem NC(x:ByteArray)(t:Tm):occ x t=(decide (t.name=x)||t.args.any (occ x)):=by
 unfold occ;rw[Tm.knots_eq,List.any_cons,Mh]
theorem H1{x:ByteArray}{t:Tm}:occ x t=true↔t.name=x∨∃a∈t.args,occ x a=true:=by
 rw[NC,Bool.or_eq_true,decide_eq_true_eq,List.any_eq_true]
theorem L_{x:ByteArray}{t a:Tm}(ha:a∈t.args)(h:occ x a=true):occ x t=true:=H1.2 (.inr ⟨a,ha,h⟩)
theorem QO{x:ByteArray}{t:Tm}(h:occ x t=false):t.name≠x∧∀a∈t.args,occ x a=false:=by
 rw[NC,Bool.or_eq_false_iff,decide_eq_false_iff_not,List.any_eq_false]at h;exact⟨h.1,fun a ha=>by simpa using h.2 a ha⟩
theorem LJ{x:ByteArray}(hv:AP x=true):∀(ks:List Tm) (l:List ByteArray),x∈Aj l ks↔x∈l∨∃k∈ks,k.name=x
 | [],l=>by simp[Aj]
 | t::ks,l=>by
  have e:Aj l (t::ks)=Aj (BM l t.name) ks:=rfl;rw[e,LJ hv ks];have h1:x∈BM l t.name↔x∈l∨t.name=x:=by
   unfold BM;split
   ·rename_i h;rw[List.mem_append,List.mem_singleton];exact⟨fun h=>h.imp id Eq.symm,fun h=>h.imp id Eq.symm⟩
   ·rename_i h;refine⟨.inl,fun h'=>?_⟩;rcases h' with h'|h'
    ·exact h'
    ·subst h';rw[hv,Bool.true_and,Bool.not_eq_true']at h;have h:Dt t.name l=true:=by
      cases hc:Dt t.name l with
      | true=>rfl
      | false=>exact absurd hc h
     exact C8.1 h
  rw[h1];simp only[List.mem_cons,exists_eq_or_imp];constructor
  ·rintro((h|h)|h)
   ·exact .inl h
   ·exact .inr (.inl h)
   ·exact .inr (.inr h)
  ·rintro(h|h|h)
   ·exact .inl (.inl h)
   ·exact .inl (.inr h)
   ·exact .inr h
theorem LA{x:ByteArray}(hv:AP x=true)(t:Tm):Dt x t.varsOf=occ x t:=by
 rw[Bool.eq_iff_iff,C8];unfold Tm.varsOf occ;rw[LJ hv];simp[List.any_eq_true]
def LL(s:List Bd)(t:Tm):Prop:=∀b∈s,occ b.1 t=false
theorem ABD{s:List Bd}{t:Tm}(h:LL s t):t.on s=t:=by
 induction hN:SizeOf.sizeOf t using Nat.strongRecOn generalizing t with
 | _ N ih =>
 subst hN;have hl:lookup s t.name=none:=DU fun b hb e=>(QO (h b hb)).1 e.symm;rw[Tm.on_knot (.inl hl)];have hm:t.args.map (Tm.on s)=t.args:=by
  conv=>rhs;rw[←List.map_id t.args]
  exact List.map_congr_left fun a ha=>ih _ (Tm.lt_of_arg ha) (fun b hb=>(QO (h b hb)).2 a ha) rfl
 rw[hm];cases t;rfl
theorem Tg{s:List Bd}{n:ByteArray}(h:lookup s n=none):∀b∈s,b.1≠n:=by
 unfold lookup at h;rw[Option.map_eq_none_iff,List.find?_eq_none]at h;exact fun b hb e=>h b hb (by simpa using e)
theorem UR{s:List Bd}(hv:∀b∈s,AP b.1=true){t:Tm}(hc:t.chk=0){y:ByteArray}(h:occ y (t.on s)=true):(occ y t=true∧∀b∈s,b.1≠y)∨∃b∈s,occ y b.2=true:=by
 induction hN:SizeOf.sizeOf t using Nat.strongRecOn generalizing t with
 | _ N ih =>
 subst hN;obtain⟨c1,c2⟩:=Tm.chk_args hc;cases hl:lookup s t.name with
 | some x =>
  obtain⟨b,hb,hbn,hbx⟩:=DR hl;rw[Tm.on_leaf hl (c1 (by rw[←hbn];exact hv b hb)),←hbx]at h;exact .inr ⟨b,hb,h⟩
 | none =>
  rw[Tm.on_knot (.inl hl),H1]at h;rcases h with h|⟨a,ha,h⟩
  ·simp only[Tm.name_mk]at h;refine .inl ⟨H1.2 (.inl h),fun b hb=>?_⟩;rw[←h];exact Tg hl b hb
  ·simp only[Tm.args_mk,List.mem_map]at ha;obtain⟨c,hc',rfl⟩:=ha;rcases ih _ (Tm.lt_of_arg hc') (c2 c hc') h rfl with h|h
   ·exact .inl ⟨L_ hc' h.1,h.2⟩
   ·exact .inr h
theorem ABL{t:Tm}(h:B9 t=0)(ha:∀a∈t.args,a.chk=0):t.chk=0:=by
 rw[Tm.chk_eq,if_pos h];have key:∀{xs:List Tm},(∀a∈xs,a.chk=0)→Tm.chkL xs=0:=by
  intro xs;induction xs with
  | nil=>intro _;rfl
  | cons x xs ih=>intro hx;simp only[Tm.chkL];rw[if_pos (hx x (by simp))];exact ih fun a ha=>hx a (by simp[ha])
 exact key ha
theorem AAo{t:Tm}(h:t.chk=0):B9 t=0:=by
 rw[Tm.chk_eq]at h;by_cases h1:B9 t=0
 ·exact h1
 ·rw[if_neg h1]at h;exact h
theorem NE{s:List Bd}(hs:∀b∈s,b.2.chk=0){t:Tm}(hc:t.chk=0):(t.on s).chk=0:=by
 induction hN:SizeOf.sizeOf t using Nat.strongRecOn generalizing t with
 | _ N ih =>
 subst hN;obtain⟨c1,c2⟩:=Tm.chk_args hc;by_cases hleaf:(∃x,lookup s t.name=some x)∧t.args=[]
 ·obtain⟨⟨x,hx⟩,h0⟩:=hleaf;rw[Tm.on_leaf hx h0];obtain⟨b,hb,_,rfl⟩:=DR hx;exact hs b hb
 ·have hon:t.on s=.mk t.name (t.args.map (Tm.on s)):=Tm.on_knot (by
   cases hl:lookup s t.name with
   | none=>exact .inl rfl
   | some x=>exact .inr fun h0=>hleaf ⟨⟨x,hl⟩,h0⟩)
  rw[hon];refine ABL ?_ fun a ha=>?_
  ·have:=AAo hc;unfold B9 at this ⊢;simpa only[Tm.name_mk,Tm.args_mk,List.length_map]using this
  ·simp only[Tm.args_mk,List.mem_map]at ha;obtain⟨c,hc',rfl⟩:=ha;exact ih _ (Tm.lt_of_arg hc') (c2 c hc') rfl
inductive ABn where
 | err (e:Int)
 | go (s:List Bd) (ps:List Pr)
def Ce(s:List Bd)(x:ByteArray)(t:Tm):ABn :=
 if occ x t=true then .err 6 else if(s.all fun b=>decide ((b.2.on [(x,t)]).size≤2000))=true then .go (BE (s.map (fun b=>(b.1,b.2.on [(x,t)]))++[(x,t)])) [] else .err 8
def Bp(s:List Bd)(p:Pr):ABn :=
 if 2000<(p.1.on s).size∨2000<(p.2.on s).size then .err 8
 else if AP (p.1.on s).name=true∧(p.1.on s).name=(p.2.on s).name then .go s []
 else if AP (p.1.on s).name=true then Ce s (p.1.on s).name (p.2.on s)
 else if AP (p.2.on s).name=true then Ce s (p.2.on s).name (p.1.on s)
 else if(p.1.on s).name=(p.2.on s).name∧(p.1.on s).args.length=(p.2.on s).args.length then .go s ((p.1.on s).args.zip (p.2.on s).args)
 else .err 5
inductive C6:Nat→List Bd→List Pr→List Bd×Int→Prop
 | nil {s}:C6 0 s [] (s,0)
 | err {s p l e}:Bp s p=.err e→C6 1 s (p::l) ([],e)
 | go {s p l s' ps n r}:Bp s p=.go s' ps→C6 n s' (ps++l) r→C6 (n+1) s (p::l) r
def Kg(C v:Nat)(s:List Bd):List Pr→Prop
 | []=>True
 | p::l=>l.length+2000*min (p.1.on s).size 2000+4000000*v≤C∧Kg C v s l
theorem Kg.less{C v v':Nat}{s s':List Bd}(hv:v'+1≤v):∀{l:List Pr},Kg C v s l→Kg C v' s' l
 | [],_=>trivial
 | p::l,h=>⟨by have:=h.1;have:=Nat.min_le_right (p.1.on s').size 2000;omega,Kg.less hv h.2⟩
theorem Kg.more{C v m:Nat}{s:List Bd}{l:List Pr}(hm:m+1≤2000)(hC:l.length+2000*(m+1)+4000000*v≤C)(hl:Kg C v s l):∀{ps:List Pr},ps.length≤2000→(∀c∈ps,(c.1.on s).size≤m)→Kg C v s (ps++l)
 | [],_,_=>hl
 | c::ps,h1,h2=>by
  refine⟨?_,Kg.more hm hC hl (by simp at h1;omega) fun c hc=>h2 c (by simp[hc])⟩;have h3:=h2 c (by simp);have h4:=Nat.min_le_left (c.1.on s).size 2000;simp only[List.length_cons]at h1;have e:(ps++l).length=ps.length+l.length:=List.length_append;show(ps++l).length+_+_≤C
  omega
structure Cb(U:List ByteArray)(C:Nat)(s:List Bd)(l:List Pr):Prop where
 ord:BU s
 var:∀b∈s,AP b.1=true
 inU:∀b∈s,b.1∈U
 chk:∀b∈s,b.2.chk=0
 siz:∀b∈s,b.2.size≤2000
 idem:∀b∈s,LL s b.2
 ranU:∀b∈s,∀y,occ y b.2=true→y∈U
 lchk:∀p∈l,p.1.chk=0∧p.2.chk=0
 lU:∀p∈l,∀y,(occ y p.1=true→y∈U)∧(occ y p.2=true→y∈U)
 lsiz:∀p∈l,p.1.size≤2000∧p.2.size≤2000
 fits:Kg C (U.length-s.length) s l
theorem LW{x:ByteArray}:∀{m:List ByteArray},x∈m→(m.filter fun y=>!decide (y=x)).length+1≤m.length
 | y::m,h=>by
  have hle:=List.length_filter_le (fun y=>!decide (y=x)) m;by_cases e:y=x
  ·rw[List.filter_cons_of_neg (by simp[e]),List.length_cons];omega
  ·rw[List.filter_cons_of_pos (by simp[e]),List.length_cons,List.length_cons];have:=LW (x:=x) (m:=m) ((List.mem_cons.1 h).resolve_left fun h=>e h.symm);omega
theorem Kq:∀{l m:List ByteArray},l.Nodup→(∀x∈l,x∈m)→l.length≤m.length
 | [],m,_,_=>Nat.zero_le _
 | x::l,m,hn,hs=>by
  obtain⟨n1,n2⟩:=List.nodup_cons.1 hn;have h1:=Kq (m:=m.filter fun y=>!decide (y=x)) n2 fun y hy=>List.mem_filter.2 ⟨hs y (by simp[hy]),by
   have:y≠x:=fun e=>n1 (by rw[←e];exact hy)
   simp[this]⟩
  have:=LW (hs x (by simp));rw[List.length_cons];omega
theorem Cb.len{U:List ByteArray}{C:Nat}{s:List Bd}{l:List Pr}(h:Cb U C s l):s.length≤U.length:=by
 have:=Kq (l:=s.map (fun b:Bd=>b.1)) (m:=U) (Ct h.ord) fun x hx=>by
  obtain⟨b,hb,rfl⟩:=List.mem_map.1 hx;exact h.inU b hb
 simpa using this
theorem Cb.stack{U:List ByteArray}{C:Nat}{s:List Bd}{l:List Pr}(h:Cb U C s l):l.length≤C+1:=by
 cases l with
 | nil=>simp
 | cons p l=>have:=h.fits.1;simp;omega
def G3(s:List Bd):List Pr→Nat
 | []=>0
 | p::l=>(p.1.on s).size+G3 s l
theorem Lj(s:List Bd):∀(ps l:List Pr),G3 s (ps++l)=G3 s ps+G3 s l
 | [],l=>by simp[G3]
 | p::ps,l=>by rw[List.cons_append,G3,Lj s ps l,G3];omega
theorem FP{α β:Type}{xs:List α}{ys:List β}{c:α×β}(h:c∈xs.zip ys):c.1∈xs∧c.2∈ys:=by
 obtain⟨a,b⟩:=c;exact⟨(List.of_mem_zip h).1,(List.of_mem_zip h).2⟩
theorem Cb.tail{U:List ByteArray}{C:Nat}{s:List Bd}{p:Pr}{l:List Pr}(h:Cb U C s (p::l)):Cb U C s l :=
 { h with lchk:=fun q hq=>h.lchk q (by simp[hq]),lU:=fun q hq=>h.lU q (by simp[hq]),lsiz:=fun q hq=>h.lsiz q (by simp[hq]),fits:=h.fits.2 }
theorem onU{U:List ByteArray}{C:Nat}{s:List Bd}{l:List Pr}(h:Cb U C s l){t:Tm}(hc:t.chk=0)(hU:∀y,occ y t=true→y∈U):(t.on s).chk=0∧LL s (t.on s)∧∀y,occ y (t.on s)=true→y∈U:=by
 refine⟨NE h.chk hc,fun b hb=>?_,fun y hy=>?_⟩
 ·cases ho:occ b.1 (t.on s) with
  | false=>rfl
  | true =>
   rcases UR h.var hc ho with⟨_,k⟩|⟨c,hc',k⟩
   ·exact absurd rfl (k b hb)
   ·rw[h.idem c hc' b hb]at k;cases k
 ·rcases UR h.var hc hy with⟨k,_⟩|⟨c,hc',k⟩
  ·exact hU y k
  ·exact h.ranU c hc' y k
theorem Mq{U:List ByteArray}{C:Nat}{s:List Bd}{l:List Pr}(h:Cb U C s l){x:ByteArray}{t:Tm}(hx:AP x=true)(hxU:x∈U)(hxs:∀b∈s,b.1≠x)(htc:t.chk=0)(hts:t.size≤2000)(htn:LL s t)(htU:∀y,occ y t=true→y∈U){s':List Bd}{ps:List Pr}(hb:Ce s x t=.go s' ps) :
  ps=[]∧Cb U C s' l∧s.length<s'.length:=by
 unfold Ce at hb;split at hb
 ·cases hb
 rename_i ho;have ho:occ x t=false:=by simpa using ho
 split at hb
 ·rename_i hall;cases hb;have hone:∀b∈[(x,t)],AP b.1=true:=by simp[hx]
  have honec:∀b∈([(x,t)]:List Bd),b.2.chk=0:=by simp[htc]
  have hmem:∀b,b∈s.map (fun b=>(b.1,b.2.on [(x,t)]))++[(x,t)]↔(∃c∈s,b=(c.1,c.2.on [(x,t)]))∨b=(x,t):=fun b=>by
   simp only[List.mem_append,List.mem_map,List.mem_singleton];constructor
   ·rintro(⟨c,hc,rfl⟩|h)
    ·exact .inl ⟨c,hc,rfl⟩
    ·exact .inr h
   ·rintro(⟨c,hc,rfl⟩|h)
    ·exact .inl ⟨c,hc,rfl⟩
    ·exact .inr h
  have hnamed:Bg (s.map (fun b=>(b.1,b.2.on [(x,t)]))++[(x,t)]):=by
   have:=Ct h.ord;unfold Bg at this ⊢;rw[List.map_append,List.map_map,List.nodup_append];refine⟨this,by simp,fun a ha b hb e=>?_⟩;obtain⟨c,hc,rfl⟩:=List.mem_map.1 ha;simp only[List.map_cons,List.map_nil,List.mem_singleton]at hb;exact hxs c hc (e.trans hb)
  have hoccr:∀c∈s,∀y,occ y (c.2.on [(x,t)])=true→(occ y c.2=true∧x≠y)∨occ y t=true:=fun c hc y hy=>by
   rcases UR hone (h.chk c hc) hy with⟨k1,k2⟩|⟨b,hb,k⟩
   ·exact .inl ⟨k1,k2 (x,t) (by simp)⟩
   ·rw[List.mem_singleton]at hb;subst hb;exact .inr k
  have hfree:∀b∈s.map (fun b=>(b.1,b.2.on [(x,t)]))++[(x,t)],∀c∈s.map (fun b=>(b.1,b.2.on [(x,t)]))++[(x,t)],occ c.1 b.2=false:=fun b hb c hc=>by
   cases hoc:occ c.1 b.2 with
   | false=>rfl
   | true =>
    exfalso;rcases(hmem b).1 hb with⟨b',hb',rfl⟩|rfl
    ·rcases hoccr b' hb' _ hoc with⟨k1,k2⟩|k
     ·rcases(hmem c).1 hc with⟨c',hc',rfl⟩|rfl
      ·have:=h.idem b' hb' c' hc';rw[k1]at this;cases this
      ·exact k2 rfl
     ·rcases(hmem c).1 hc with⟨c',hc',rfl⟩|rfl
      ·have:=htn c' hc';rw[k]at this;cases this
      ·rw[k]at ho;cases ho
    ·rcases(hmem c).1 hc with⟨c',hc',rfl⟩|rfl
     ·have:=htn c' hc';rw[hoc]at this;cases this
     ·rw[hoc]at ho;cases ho
  have hlen:(BE (s.map (fun b=>(b.1,b.2.on [(x,t)]))++[(x,t)])).length=s.length+1:=by rw[Bi];simp
  have hinU:∀b∈BE (s.map (fun b=>(b.1,b.2.on [(x,t)]))++[(x,t)]),b.1∈U:=fun b hb=>by
   rcases(hmem b).1 (CG.1 hb) with⟨c,hc,rfl⟩|rfl
   ·exact h.inU c hc
   ·exact hxU
  have hle:s.length+1≤U.length:=by
   have:=Kq (l:=(BE (s.map (fun b=>(b.1,b.2.on [(x,t)]))++[(x,t)])).map (fun b:Bd=>b.1)) (m:=U) (Ct (Bz hnamed)) fun y hy=>by
    obtain⟨b,hb,rfl⟩:=List.mem_map.1 hy;exact hinU b hb
   rw[List.length_map,hlen]at this;exact this
  refine⟨rfl,⟨Bz hnamed,fun b hb=>?_,hinU,fun b hb=>?_,fun b hb=>?_,fun b hb c hc=>hfree b (CG.1 hb) c (CG.1 hc),fun b hb y hy=>?_,h.lchk,h.lU,h.lsiz,Kg.less (by rw[hlen];omega) h.fits⟩,by rw[hlen];omega⟩
  ·rcases(hmem b).1 (CG.1 hb) with⟨c,hc,rfl⟩|rfl
   ·exact h.var c hc
   ·exact hx
  ·rcases(hmem b).1 (CG.1 hb) with⟨c,hc,rfl⟩|rfl
   ·exact NE honec (h.chk c hc)
   ·exact htc
  ·rcases(hmem b).1 (CG.1 hb) with⟨c,hc,rfl⟩|rfl
   ·have:=List.all_eq_true.1 hall c hc;simpa using this
   ·exact hts
  ·rcases(hmem b).1 (CG.1 hb) with⟨c,hc,rfl⟩|rfl
   ·rcases hoccr c hc y hy with k|k
    ·exact h.ranU c hc y k.1
    ·exact htU y k
   ·exact htU y hy
 ·cases hb
theorem D_{U:List ByteArray}{C:Nat}{s:List Bd}{p:Pr}{l:List Pr}(h:Cb U C s (p::l)){s':List Bd}{ps:List Pr}(hs:Bp s p=.go s' ps) :
  Cb U C s' (ps++l)∧(s.length<s'.length∨(s'=s∧G3 s (ps++l)<G3 s (p::l))):=by
 obtain⟨hc1,hc2⟩:=h.lchk p (by simp);have hU:=h.lU p (by simp);obtain⟨a1,a2,a3⟩:=onU h hc1 fun y=>(hU y).1;obtain⟨b1,b2,b3⟩:=onU h hc2 fun y=>(hU y).2;have hpos:=Tm.size_pos (p.1.on s);have nameNo:∀{t:Tm},LL s t→∀b∈s,b.1≠t.name:=fun {t} hn b hb e=>(QO (hn b hb)).1 e.symm;have nameU:∀{t:Tm},(∀y,occ y t=true→y∈U)→t.name∈U:=fun {t} ht=>ht _ (H1.2 (.inl rfl));unfold Bp at hs;split at hs
 ·cases hs
 rename_i hz;rw[not_or]at hz;split at hs
 ·cases hs;exact⟨h.tail,.inr ⟨rfl,by simp only[List.nil_append,G3];omega⟩⟩
 split at hs
 ·rename_i hv;obtain⟨rfl,k1,k2⟩:=Mq h.tail hv (nameU a3) (nameNo a2) b1 (by omega) b2 b3 hs;exact⟨k1,.inl k2⟩
 split at hs
 ·rename_i hv;obtain⟨rfl,k1,k2⟩:=Mq h.tail hv (nameU b3) (nameNo b2) a1 (by omega) a2 a3 hs;exact⟨k1,.inl k2⟩
 split at hs
 ·rename_i heq;cases hs;have hsz:=Tm.size_eq (p.1.on s);have hlen:=Tm.length_le (p.1.on s).args;have hid:∀a∈(p.1.on s).args,a.on s=a:=fun a ha=>ABD fun b hb=>(QO (a2 b hb)).2 a ha;have hsum:∀(xs ys:List Tm),(∀a∈xs,a.on s=a)→G3 s (xs.zip ys)≤Tm.sizes xs:=by
   intro xs;induction xs with
   | nil=>intro ys _;simp[G3]
   | cons x xs ih =>
    intro ys hx;cases ys with
    | nil=>simp[G3]
    | cons y ys =>
     have:=ih ys fun a ha=>hx a (by simp[ha]);simp only[List.zip_cons_cons,G3,Tm.sizes];rw[hx x (by simp)];omega
  have hzl:((p.1.on s).args.zip (p.2.on s).args).length≤(p.1.on s).args.length:=by rw[List.length_zip];exact Nat.min_le_left _ _
  have hmin:min (p.1.on s).size 2000=(p.1.on s).size:=Nat.min_eq_left (by omega);have hf:=h.fits.1;rw[hmin]at hf;have hszb:=Tm.size_eq (p.2.on s);refine⟨⟨h.ord,h.var,h.inU,h.chk,h.siz,h.idem,h.ranU,fun q hq=>?_,fun q hq=>?_,fun q hq=>?_,Kg.more (m:=(p.1.on s).size-1) (by omega) (by omega) h.fits.2 (by omega) fun c hc=>?_⟩,.inr ⟨rfl,?_⟩⟩
  ·rcases List.mem_append.1 hq with hq|hq
   ·exact⟨(Tm.chk_args a1).2 _ (FP hq).1,(Tm.chk_args b1).2 _ (FP hq).2⟩
   ·exact h.tail.lchk q hq
  ·rcases List.mem_append.1 hq with hq|hq
   ·exact fun y=>⟨fun hy=>a3 y (L_ (FP hq).1 hy),fun hy=>b3 y (L_ (FP hq).2 hy)⟩
   ·exact h.tail.lU q hq
  ·rcases List.mem_append.1 hq with hq|hq
   ·have h1:=Tm.size_mem (FP hq).1;have h2:=Tm.size_mem (FP hq).2;omega
   ·exact h.tail.lsiz q hq
  ·rw[hid _ (FP hc).1];have h1:=Tm.size_mem (FP hc).1;omega
  ·rw[Lj];have h1:=hsum _ (p.2.on s).args hid;simp only[G3];omega
 ·cases hs
theorem Kv{U:List ByteArray}{C:Nat}:∀(v m:Nat) (s:List Bd) (l:List Pr),Cb U C s l→U.length-s.length=v→G3 s l=m→∃n r,C6 n s l r:=by
 intro v;induction v using Nat.strongRecOn with
 | _ v ihv =>
 intro m;induction m using Nat.strongRecOn with
 | _ m ihm =>
 intro s l h hv hm;cases l with
 | nil=>exact⟨0,_,.nil⟩
 | cons p l =>
  cases hs:Bp s p with
  | err e=>exact⟨1,_,.err hs⟩
  | go s' ps =>
   obtain⟨h',hd⟩:=D_ h hs;have hlen:=h'.len;rcases hd with hd|⟨rfl,hd⟩
   ·obtain⟨n,r,hr⟩:=ihv (U.length-s'.length) (by omega) _ s' _ h' rfl rfl;exact⟨n+1,r,.go hs hr⟩
   ·obtain⟨n,r,hr⟩:=ihm (G3 s' (ps++l)) (by omega) s' _ h' hv rfl;exact⟨n+1,r,.go hs hr⟩


theorem Ix(y:ByteArray):lookup [] y=none:=rfl
theorem Ha(b:Bd)(l:List Bd)(y:ByteArray):lookup (b::l) y=if b.1=y then some b.2 else lookup l y:=by
 unfold lookup;by_cases h:b.1=y
 ·rw[List.find?_cons_of_pos (by simpa using h),if_pos h];rfl
 ·rw[List.find?_cons_of_neg (by simpa using h),if_neg h]
theorem T9{l:List Bd}(hn:Bg l){y:ByteArray}{x:Tm}:lookup l y=some x↔(y,x)∈l:=by
 induction l with
 | nil=>simp[Ix]
 | cons b l ih =>
  obtain⟨n1,n2⟩:=List.nodup_cons.1 (show((b::l).map fun c:Bd=>c.1).Nodup from hn);rw[Ha,List.mem_cons];by_cases h:b.1=y
  ·rw[if_pos h];constructor
   ·intro e;cases e;exact .inl (by rw[←h])
   ·rintro(e|e)
    ·rw[←e]
    ·exact absurd (List.mem_map.2 ⟨(y,x),e,rfl⟩) (by subst h;exact n1)
  ·rw[if_neg h,ih n2];constructor
   ·exact .inr
   ·rintro(e|e)
    ·exact absurd (by rw[←e]) h
    ·exact e
def ZQ(y:ByteArray):Tm:=.mk y []
structure OkB(s:List Bd):Prop where
 ord:BU s
 var:∀b∈s,AP b.1=true
 nam:∀b∈s,BA b.1=true
 chk:∀b∈s,b.2.chk=0
theorem P4{t:Tm}(h:t.chk=0):B9 t=0:=by
 rw[Tm.chk_eq]at h;by_cases h1:B9 t=0
 ·exact h1
 ·rw[if_neg h1]at h;exact h
theorem Rm{n:ByteArray}{xs ys:List Tm}(h:(Tm.mk n xs).chk=0)(hl:ys.length=xs.length)(hy:∀y∈ys,y.chk=0):(Tm.mk n ys).chk=0:=by
 have h1:B9 (Tm.mk n ys)=0:=by
  have:=P4 h;unfold B9 at this ⊢;rw[Tm.name_mk,Tm.args_mk]at this ⊢;rw[hl];exact this
 rw[Tm.chk_eq,if_pos h1,Tm.args_mk];clear h h1 hl;induction ys with
 | nil=>rfl
 | cons x ys ih =>
  simp only[Tm.chkL];rw[if_pos (hy x (by simp))];exact ih fun y h=>hy y (by simp[h])
theorem AAR{s:List Bd}(hs:∀b∈s,b.2.chk=0){t:Tm}(hc:t.chk=0):(t.on s).chk=0:=by
 induction hN:SizeOf.sizeOf t using Nat.strongRecOn generalizing t with
 | _ N ih =>
 subst hN;obtain⟨c1,c2⟩:=Tm.chk_args hc;by_cases hleaf:(∃x,lookup s t.name=some x)∧t.args=[]
 ·obtain⟨⟨x,hx⟩,h0⟩:=hleaf;rw[Tm.on_leaf hx h0];obtain⟨b,hb,_,rfl⟩:=DR hx;exact hs b hb
 ·have hon:t.on s=.mk t.name (t.args.map (Tm.on s)):=Tm.on_knot (by
   cases hl:lookup s t.name with
   | none=>exact .inl rfl
   | some x=>exact .inr fun h0=>hleaf ⟨⟨x,hl⟩,h0⟩)
  rw[hon];refine Rm (xs:=t.args) (by cases t;exact hc) (by simp) fun y hy=>?_;obtain⟨c,hc',rfl⟩:=List.mem_map.1 hy;exact ih _ (Tm.lt_of_arg hc') (c2 c hc') rfl
theorem TI{y:ByteArray}(h:BA y=true):(ZQ y).chk=0:=by
 have h0:B9 (ZQ y)=0:=by
  unfold B9 ZQ;rw[Tm.name_mk,if_pos h,if_neg (by simp[Tm.args_mk])]
 rw[Tm.chk_eq,if_pos h0];rfl

set_option maxRecDepth 100000
def HA:IR :=
 (.seq (.ops [.i 2 (.mov (.c (.one (.st (.bool false)))))]) (.seq (.ops [.m 3 0,.i 4 (.bin .geq (.t 3) (.c (.one (.st (.int .u8 97))))),.m 5 4,.mk (some 6) (some (5,true)) (.mov (.t 0)) .no,.mk (some 7) (some (5,true)) (.bin .leq (.t 6) (.c (.one (.st (.int .u8 122))))) .no,.i 8 (.pick (.t 5) (.t 7) (.c (.one (.st (.bool false))))),.m 9 8,.mk (some 10) (some (9,false)) (.mov (.t 0)) .no,.mk (some 11) (some (9,false)) (.bin .geq (.t 10) (.c (.one (.st (.int .u8 65))))) .no,.mk (some 12) (some (9,false)) (.mov (.t 11)) .no,.mk (some 13) (some (12,true)) (.mov (.t 0)) .no,.mk (some 14) (some (12,true)) (.bin .leq (.t 13) (.c (.one (.st (.int .u8 90))))) .no,.mk (some 15) (some (9,false)) (.pick (.t 12) (.t 14) (.c (.one (.st (.bool false))))) .no,.i 16 (.pick (.t 9) (.c (.one (.st (.bool true)))) (.t 15)),.m 17 16,.mk (some 18) (some (17,false)) (.mov (.t 0)) .no,.mk (some 19) (some (17,false)) (.bin .geq (.t 18) (.c (.one (.st (.int .u8 48))))) .no,.mk (some 20) (some (17,false)) (.mov (.t 19)) .no,.mk (some 21) (some (20,true)) (.mov (.t 0)) .no,.mk (some 22) (some (20,true)) (.bin .leq (.t 21) (.c (.one (.st (.int .u8 57))))) .no,.mk (some 23) (some (17,false)) (.pick (.t 20) (.t 22) (.c (.one (.st (.bool false))))) .no,.i 24 (.pick (.t 17) (.c (.one (.st (.bool true)))) (.t 23)),.m 2 24]) .ret))
theorem MU:OkF Tryz.prog 97 25 [] HA [.t 2]:=.of Tryz.func97 rfl rfl (by kernel_rfl) rfl
def IU:IR :=
 (.seq (.ops [.i 2 (.mov (.c (.one (.st (.bool false)))))]) (.seq (.ops [.m 3 0,.i 4 (.bin .geq (.t 3) (.c (.one (.st (.int .u8 97))))),.m 5 4,.mk (some 6) (some (5,true)) (.mov (.t 0)) .no,.mk (some 7) (some (5,true)) (.bin .leq (.t 6) (.c (.one (.st (.int .u8 122))))) .no,.i 8 (.pick (.t 5) (.t 7) (.c (.one (.st (.bool false))))),.m 9 8,.mk (some 10) (some (9,false)) (.mov (.t 0)) .no,.mk (some 11) (some (9,false)) (.bin .geq (.t 10) (.c (.one (.st (.int .u8 65))))) .no,.mk (some 12) (some (9,false)) (.mov (.t 11)) .no,.mk (some 13) (some (12,true)) (.mov (.t 0)) .no,.mk (some 14) (some (12,true)) (.bin .leq (.t 13) (.c (.one (.st (.int .u8 90))))) .no,.mk (some 15) (some (9,false)) (.pick (.t 12) (.t 14) (.c (.one (.st (.bool false))))) .no,.i 16 (.pick (.t 9) (.c (.one (.st (.bool true)))) (.t 15)),.m 17 16,.mk (some 18) (some (17,false)) (.mov (.t 0)) .no,.mk (some 19) (some (17,false)) (.bin .geq (.t 18) (.c (.one (.st (.int .u8 48))))) .no,.mk (some 20) (some (17,false)) (.mov (.t 19)) .no,.mk (some 21) (some (20,true)) (.mov (.t 0)) .no,.mk (some 22) (some (20,true)) (.bin .leq (.t 21) (.c (.one (.st (.int .u8 57))))) .no,.mk (some 23) (some (17,false)) (.pick (.t 20) (.t 22) (.c (.one (.st (.bool false))))) .no,.i 24 (.pick (.t 17) (.c (.one (.st (.bool true)))) (.t 23)),.m 2 24]) .ret))
theorem OF:OkF Tryz.prog 87 25 [] IU [.t 2]:=.of Tryz.func87 rfl rfl (by kernel_rfl) rfl
def Df:IR :=
 (.seq (.ops [.i 2 (.mov (.c (.one (.st (.bool false)))))]) (.seq (.seq (.ops [.m 4 0,.i 5 (.len true (.t 4)),.i 6 (.bin .lss (.t 5) (.n 1)),.m 7 6,.mk (some 8) (some (7,false)) (.mov (.t 0)) .no,.mk (some 9) (some (7,false)) (.len true (.t 8)) .no,.mk (some 10) (some (7,false)) (.bin .gtr (.t 9) (.n 8)) .no,.i 11 (.pick (.t 7) (.c (.one (.st (.bool true)))) (.t 10)),.m 12 11,.mk (some 13) (some (12,false)) (.mov (.t 0)) .no,.mk (some 14) (some (12,false)) (.indexStr (.t 13) (.n 0)) .no,.mk (some 15) (some (12,false)) (.bin .geq (.t 14) (.c (.one (.st (.int .u8 48))))) .no,.mk (some 16) (some (12,false)) (.mov (.t 15)) .no,.mk (some 17) (some (16,true)) (.mov (.t 0)) .no,.mk (some 18) (some (16,true)) (.indexStr (.t 17) (.n 0)) .no,.mk (some 19) (some (16,true)) (.bin .leq (.t 18) (.c (.one (.st (.int .u8 57))))) .no,.mk (some 20) (some (12,false)) (.pick (.t 16) (.t 19) (.c (.one (.st (.bool false))))) .no,.i 21 (.pick (.t 12) (.c (.one (.st (.bool true)))) (.t 20))]) (.cond (.t 21) (.seq (.ops [.i 2 (.mov (.c (.one (.st (.bool false)))))]) .ret) .skip)) (.seq (.seq (.ops [.m 22 0,.i 23 (.len true (.t 22)),.i 24 (.mov (.n 0))]) (.block 0 (.loop (.seq (.ops [.i 25 (.bin .lss (.t 24) (.t 23))]) (.seq (.cond (.t 25) .skip (.exit 0)) (.seq (.block 1 (.seq (.ops [.m 26 24,.m 3 26]) (.seq (.ops [.m 27 0,.m 28 3,.i 29 (.indexStr (.t 27) (.t 28)),.i 30 (.call 97 [.t 29]),.i 31 (.un .not (.t 30))]) (.cond (.t 31) (.seq (.ops [.i 2 (.mov (.c (.one (.st (.bool false)))))]) .ret) .skip)))) (.ops [.i 32 (.bin .add (.t 24) (.n 1)),.m 24 32]))))))) (.seq (.ops [.i 2 (.mov (.c (.one (.st (.bool true)))))]) .ret))))
theorem Ef:OkF Tryz.prog 66 33 [] Df [.t 2]:=.of Tryz.func66 rfl rfl (by kernel_rfl) rfl
def EK:IR :=
 (.seq (.ops [.i 2 (.mov (.c (.one (.st (.bool false)))))]) (.seq (.seq (.ops [.m 4 0,.i 5 (.bin .eql (.t 4) (.c (.one (.st (.str (ByteArray.mk (#[]))))))),.m 6 5,.mk (some 7) (some (6,false)) (.mov (.t 0)) .no,.mk (some 8) (some (6,false)) (.len true (.t 7)) .no,.mk (some 9) (some (6,false)) (.bin .gtr (.t 8) (.n 8)) .no,.i 10 (.pick (.t 6) (.c (.one (.st (.bool true)))) (.t 9)),.m 11 10,.mk (some 12) (some (11,false)) (.mov (.t 0)) .no,.mk (some 13) (some (11,false)) (.indexStr (.t 12) (.n 0)) .no,.mk (some 14) (some (11,false)) (.bin .geq (.t 13) (.c (.one (.st (.int .u8 48))))) .no,.mk (some 15) (some (11,false)) (.mov (.t 14)) .no,.mk (some 16) (some (15,true)) (.mov (.t 0)) .no,.mk (some 17) (some (15,true)) (.indexStr (.t 16) (.n 0)) .no,.mk (some 18) (some (15,true)) (.bin .leq (.t 17) (.c (.one (.st (.int .u8 57))))) .no,.mk (some 19) (some (11,false)) (.pick (.t 15) (.t 18) (.c (.one (.st (.bool false))))) .no,.i 20 (.pick (.t 11) (.c (.one (.st (.bool true)))) (.t 19))]) (.cond (.t 20) (.seq (.ops [.i 2 (.mov (.c (.one (.st (.bool false)))))]) .ret) .skip)) (.seq (.seq (.ops [.i 3 (.mov (.n 0))]) (.block 0 (.loop (.seq (.seq (.ops [.m 21 3,.m 22 0,.i 23 (.len true (.t 22)),.i 24 (.bin .lss (.t 21) (.t 23))]) (.cond (.t 24) .skip (.exit 0))) (.seq (.block 1 (.seq (.ops [.m 27 0,.m 28 3,.i 29 (.indexStr (.t 27) (.t 28)),.i 30 (.call 87 [.t 29]),.i 31 (.un .not (.t 30))]) (.cond (.t 31) (.seq (.ops [.i 2 (.mov (.c (.one (.st (.bool false)))))]) .ret) .skip))) (.ops [.m 25 3,.i 26 (.bin .add (.t 25) (.n 1)),.m 3 26])))))) (.seq (.ops [.i 2 (.mov (.c (.one (.st (.bool true)))))]) .ret))))
theorem FB:OkF Tryz.prog 49 32 [] EK [.t 2]:=.of Tryz.func49 rfl rfl (by kernel_rfl) rfl
def D5:IR :=
 (.seq (.ops [.i 2 (.mov (.c (.one (.st (.bool false)))))]) (.seq (.ops [.m 3 0,.i 4 (.bin .neq (.t 3) (.c (.one (.st (.str (ByteArray.mk (#[]))))))),.m 5 4,.mk (some 6) (some (5,true)) (.mov (.t 0)) .no,.mk (some 7) (some (5,true)) (.indexStr (.t 6) (.n 0)) .no,.mk (some 8) (some (5,true)) (.bin .geq (.t 7) (.c (.one (.st (.int .u8 65))))) .no,.i 9 (.pick (.t 5) (.t 8) (.c (.one (.st (.bool false))))),.m 10 9,.mk (some 11) (some (10,true)) (.mov (.t 0)) .no,.mk (some 12) (some (10,true)) (.indexStr (.t 11) (.n 0)) .no,.mk (some 13) (some (10,true)) (.bin .leq (.t 12) (.c (.one (.st (.int .u8 90))))) .no,.i 14 (.pick (.t 10) (.t 13) (.c (.one (.st (.bool false))))),.m 2 14]) .ret))
theorem Fd:OkF Tryz.prog 67 15 [] D5 [.t 2]:=.of Tryz.func67 rfl rfl (by kernel_rfl) rfl
def Ik:IR :=
 (.seq (.ops [.i 2 (.mov (.c (.one (.st (.bool false)))))]) (.seq (.ops [.m 3 0,.i 4 (.bin .neq (.t 3) (.c (.one (.st (.str (ByteArray.mk (#[]))))))),.m 5 4,.mk (some 6) (some (5,true)) (.mov (.t 0)) .no,.mk (some 7) (some (5,true)) (.indexStr (.t 6) (.n 0)) .no,.mk (some 8) (some (5,true)) (.bin .geq (.t 7) (.c (.one (.st (.int .u8 65))))) .no,.i 9 (.pick (.t 5) (.t 8) (.c (.one (.st (.bool false))))),.m 10 9,.mk (some 11) (some (10,true)) (.mov (.t 0)) .no,.mk (some 12) (some (10,true)) (.indexStr (.t 11) (.n 0)) .no,.mk (some 13) (some (10,true)) (.bin .leq (.t 12) (.c (.one (.st (.int .u8 90))))) .no,.i 14 (.pick (.t 10) (.t 13) (.c (.one (.st (.bool false))))),.m 2 14]) .ret))
theorem MK:OkF Tryz.prog 50 15 [] Ik [.t 2]:=.of Tryz.func50 rfl rfl (by kernel_rfl) rfl
def Hb:IR :=
 (.seq (.ops [.i 2 (.box 37 (.t 0)),.i 4 (.mov (.n 0))]) (.seq (.ops [.m 7 1,.i 8 (.bin .sub (.t 7) (.n 1)),.m 1 8]) (.seq (.seq (.ops [.f 9 1 2,.l 10 9,.i 11 (.len false (.t 10)),.i 12 (.mov (.n 0))]) (.block 0 (.loop (.seq (.ops [.i 13 (.bin .lss (.t 12) (.t 11))]) (.seq (.cond (.t 13) .skip (.exit 0)) (.seq (.block 1 (.seq (.ops [.i 14 (.indexAddr 2 (.t 10) (.t 12)),.L 15 2 14,.i 6 (.alloc 37 [.st (.str (ByteArray.mk (#[]))),.full []]),.s 2 6 15]) (.seq (.seq (.ops [.m 16 1,.i 17 (.bin .lss (.t 16) (.n 0))]) (.cond (.t 17) (.exit 0) .skip)) (.ops [.L 18 2 6,.m 19 1,.i 20 (.call 82 [.t 18,.t 19]),.m 1 20])))) (.ops [.i 21 (.bin .add (.t 12) (.n 1)),.m 12 21]))))))) (.seq (.ops [.m 22 1,.m 4 22]) .ret))))
theorem NO:OkF Tryz.prog 82 23 [] Hb [.t 4]:=.of Tryz.func82 rfl rfl (by kernel_rfl) rfl
def Ow:IR :=
 (.seq (.ops [.i 2 (.box 37 (.t 0)),.i 4 (.mov (.n 0))]) (.seq (.ops [.i 5 (.mov (.n 1))]) (.seq (.seq (.ops [.i 6 (.mov (.n 0))]) (.block 0 (.loop (.seq (.seq (.ops [.m 7 6,.f 8 1 2,.l 9 8,.i 10 (.len false (.t 9)),.i 11 (.bin .lss (.t 7) (.t 10)),.m 12 11,.mk (some 13) (some (12,true)) (.mov (.t 5)) .no,.mk (some 14) (some (12,true)) (.mov (.t 1)) .no,.mk (some 15) (some (12,true)) (.bin .leq (.t 13) (.t 14)) .no,.i 16 (.pick (.t 12) (.t 15) (.c (.one (.st (.bool false)))))]) (.cond (.t 16) .skip (.exit 0))) (.seq (.block 1 (.ops [.m 19 5,.f 20 1 2,.l 21 20,.m 22 6,.i 23 (.indexAddr 2 (.t 21) (.t 22)),.L 24 2 23,.m 25 1,.m 26 5,.i 27 (.bin .sub (.t 25) (.t 26)),.i 28 (.call 21 [.t 24,.t 27]),.i 29 (.bin .add (.t 19) (.t 28)),.m 5 29])) (.ops [.m 17 6,.i 18 (.bin .add (.t 17) (.n 1)),.m 6 18])))))) (.seq (.seq (.ops [.m 30 5,.m 31 1,.i 32 (.bin .gtr (.t 30) (.t 31))]) (.cond (.t 32) (.seq (.ops [.m 33 1,.i 34 (.bin .add (.t 33) (.n 1)),.m 4 34]) .ret) .skip)) (.seq (.ops [.m 35 5,.m 4 35]) .ret)))))
theorem V2:OkF Tryz.prog 21 36 [] Ow [.t 4]:=.of Tryz.func21 rfl rfl (by kernel_rfl) rfl
def IS:IR :=
 (.seq (.ops [.i 1 (.box 37 (.t 0)),.i 2 (.mov (.n 0))]) (.seq (.seq (.ops [.f 6 0 1,.l 7 6,.i 8 (.call 66 [.t 7]),.i 9 (.un .not (.t 8))]) (.cond (.t 9) (.seq (.ops [.i 2 (.mov (.n 1))]) .ret) .skip)) (.seq (.seq (.ops [.f 10 0 1,.l 11 10,.i 12 (.call 67 [.t 11]),.m 13 12,.mk (some 14) (some (13,true)) (.fieldAddr 1 (.t 1)) .no,.mk (some 15) (some (13,true)) (.load false 1 (.t 14)) .no,.mk (some 16) (some (13,true)) (.len false (.t 15)) .no,.mk (some 17) (some (13,true)) (.bin .gtr (.t 16) (.n 0)) .no,.i 18 (.pick (.t 13) (.t 17) (.c (.one (.st (.bool false)))))]) (.cond (.t 18) (.seq (.ops [.i 2 (.mov (.n 2))]) .ret) .skip)) (.seq (.seq (.ops [.f 19 1 1,.l 20 19,.i 21 (.len false (.t 20)),.i 22 (.mov (.n 0))]) (.block 0 (.loop (.seq (.ops [.i 23 (.bin .lss (.t 22) (.t 21))]) (.seq (.cond (.t 23) .skip (.exit 0)) (.seq (.block 1 (.seq (.ops [.i 24 (.indexAddr 2 (.t 20) (.t 22)),.L 25 2 24,.i 4 (.alloc 37 [.st (.str (ByteArray.mk (#[]))),.full []]),.s 2 4 25]) (.seq (.ops [.L 26 2 4,.i 27 (.call 83 [.t 26]),.m 5 27]) (.seq (.ops [.m 28 5,.i 29 (.bin .neq (.t 28) (.n 0))]) (.cond (.t 29) (.seq (.ops [.m 30 5,.m 2 30]) .ret) .skip))))) (.ops [.i 31 (.bin .add (.t 22) (.n 1)),.m 22 31]))))))) (.seq (.ops [.i 2 (.mov (.n 0))]) .ret)))))
theorem OA:OkF Tryz.prog 83 32 [] IS [.t 2]:=.of Tryz.func83 rfl rfl (by kernel_rfl) rfl
def IT:IR :=
 (.seq (.ops [.i 1 (.box 37 (.t 0)),.i 2 (.mov (.n 0))]) (.seq (.seq (.ops [.L 3 2 1,.i 4 (.call 82 [.t 3,.n 200]),.i 5 (.bin .lss (.t 4) (.n 0))]) (.cond (.t 5) (.seq (.ops [.i 2 (.mov (.n 3))]) .ret) .skip)) (.seq (.ops [.L 6 2 1,.i 7 (.call 83 [.t 6]),.m 2 7]) .ret)))
theorem N8:OkF Tryz.prog 46 8 [] IT [.t 2]:=.of Tryz.func46 rfl rfl (by kernel_rfl) rfl
def MQ:IR :=
 (.seq (.ops [.i 1 (.box 37 (.t 0)),.i 2 (.mov (.c (.one (.full []))))]) (.seq (.ops [.L 5 2 1,.i 6 (.buildSlice false 37 2 [.t 5]),.m 3 6]) (.seq (.seq (.ops [.i 4 (.mov (.n 0))]) (.block 0 (.loop (.seq (.seq (.ops [.m 7 4,.f 8 1 1,.l 9 8,.i 10 (.len false (.t 9)),.i 11 (.bin .lss (.t 7) (.t 10))]) (.cond (.t 11) .skip (.exit 0))) (.seq (.block 1 (.ops [.m 14 3,.f 15 1 1,.l 16 15,.m 17 4,.i 18 (.indexAddr 2 (.t 16) (.t 17)),.L 19 2 18,.i 20 (.call 57 [.t 19]),.i 21 (.append false 37 2 40 (.t 14) (.t 20)),.m 3 21])) (.ops [.m 12 4,.i 13 (.bin .add (.t 12) (.n 1)),.m 4 13])))))) (.seq (.ops [.m 22 3,.m 2 22]) .ret))))
theorem Tq:OkF Tryz.prog 57 23 [] MQ [.t 2]:=.of Tryz.func57 rfl rfl (by kernel_rfl) rfl
def J6:IR :=
 (.seq (.ops [.i 1 (.box 37 (.t 0)),.i 2 (.mov (.n 0))]) (.seq (.seq (.ops [.L 5 2 1,.i 6 (.call 21 [.t 5,.n 200]),.i 7 (.bin .gtr (.t 6) (.n 200))]) (.cond (.t 7) (.seq (.ops [.i 2 (.mov (.n 3))]) .ret) .skip)) (.seq (.ops [.L 8 2 1,.i 9 (.call 57 [.t 8]),.m 3 9]) (.seq (.seq (.ops [.i 4 (.mov (.n 0))]) (.block 0 (.loop (.seq (.seq (.ops [.m 10 4,.m 11 3,.i 12 (.len false (.t 11)),.i 13 (.bin .lss (.t 10) (.t 12))]) (.cond (.t 13) .skip (.exit 0))) (.seq (.block 1 (.seq (.seq (.ops [.m 16 3,.m 17 4,.i 18 (.indexAddr 2 (.t 16) (.t 17)),.f 19 0 18,.l 20 19,.i 21 (.call 49 [.t 20]),.i 22 (.un .not (.t 21))]) (.cond (.t 22) (.seq (.ops [.i 2 (.mov (.n 1))]) .ret) .skip)) (.seq (.ops [.m 23 3,.m 24 4,.i 25 (.indexAddr 2 (.t 23) (.t 24)),.f 26 0 25,.l 27 26,.i 28 (.call 50 [.t 27]),.m 29 28,.mk (some 30) (some (29,true)) (.mov (.t 3)) .no,.mk (some 31) (some (29,true)) (.mov (.t 4)) .no,.mk (some 32) (some (29,true)) (.indexAddr 2 (.t 30) (.t 31)) .no,.mk (some 33) (some (29,true)) (.fieldAddr 1 (.t 32)) .no,.mk (some 34) (some (29,true)) (.load false 1 (.t 33)) .no,.mk (some 35) (some (29,true)) (.len false (.t 34)) .no,.mk (some 36) (some (29,true)) (.bin .gtr (.t 35) (.n 0)) .no,.i 37 (.pick (.t 29) (.t 36) (.c (.one (.st (.bool false)))))]) (.cond (.t 37) (.seq (.ops [.i 2 (.mov (.n 2))]) .ret) .skip)))) (.ops [.m 14 4,.i 15 (.bin .add (.t 14) (.n 1)),.m 4 15])))))) (.seq (.ops [.i 2 (.mov (.n 0))]) .ret)))))
theorem Qy:OkF Tryz.prog 88 38 [] J6 [.t 2]:=.of Tryz.func88 rfl rfl (by kernel_rfl) rfl
def LD:IR :=
 (.seq (.ops [.i 2 (.box 37 (.t 0)),.i 3 (.box 37 (.t 1)),.i 4 (.mov (.n 0))]) (.seq (.ops [.L 6 2 2,.i 7 (.call 88 [.t 6]),.m 5 7]) (.seq (.seq (.ops [.m 8 5,.i 9 (.bin .eql (.t 8) (.n 0))]) (.cond (.t 9) (.ops [.L 10 2 3,.i 11 (.call 88 [.t 10]),.m 5 11]) .skip)) (.seq (.ops [.m 12 5,.m 4 12]) .ret))))
theorem Ri:OkF Tryz.prog 52 13 [] LD [.t 4]:=.of Tryz.func52 rfl rfl (by kernel_rfl) rfl
def Ob:IR :=
 (.seq (.ops [.i 2 (.box 37 (.t 0)),.i 3 (.box 37 (.t 1)),.i 4 (.mov (.c (.one (.st (.bool false)))))]) (.seq (.seq (.ops [.f 6 0 2,.l 7 6,.f 8 0 3,.l 9 8,.i 10 (.bin .neq (.t 7) (.t 9)),.m 11 10,.mk (some 12) (some (11,false)) (.fieldAddr 1 (.t 2)) .no,.mk (some 13) (some (11,false)) (.load false 1 (.t 12)) .no,.mk (some 14) (some (11,false)) (.len false (.t 13)) .no,.mk (some 15) (some (11,false)) (.fieldAddr 1 (.t 3)) .no,.mk (some 16) (some (11,false)) (.load false 1 (.t 15)) .no,.mk (some 17) (some (11,false)) (.len false (.t 16)) .no,.mk (some 18) (some (11,false)) (.bin .neq (.t 14) (.t 17)) .no,.i 19 (.pick (.t 11) (.c (.one (.st (.bool true)))) (.t 18))]) (.cond (.t 19) (.seq (.ops [.i 4 (.mov (.c (.one (.st (.bool false)))))]) .ret) .skip)) (.seq (.seq (.ops [.i 5 (.mov (.n 0))]) (.block 0 (.loop (.seq (.seq (.ops [.m 20 5,.f 21 1 2,.l 22 21,.i 23 (.len false (.t 22)),.i 24 (.bin .lss (.t 20) (.t 23))]) (.cond (.t 24) .skip (.exit 0))) (.seq (.block 1 (.seq (.ops [.f 27 1 2,.l 28 27,.m 29 5,.i 30 (.indexAddr 2 (.t 28) (.t 29)),.L 31 2 30,.f 32 1 3,.l 33 32,.m 34 5,.i 35 (.indexAddr 2 (.t 33) (.t 34)),.L 36 2 35,.i 37 (.call 19 [.t 31,.t 36]),.i 38 (.un .not (.t 37))]) (.cond (.t 38) (.seq (.ops [.i 4 (.mov (.c (.one (.st (.bool false)))))]) .ret) .skip))) (.ops [.m 25 5,.i 26 (.bin .add (.t 25) (.n 1)),.m 5 26])))))) (.seq (.ops [.i 4 (.mov (.c (.one (.st (.bool true)))))]) .ret))))
theorem V8:OkF Tryz.prog 19 39 [] Ob [.t 4]:=.of Tryz.func19 rfl rfl (by kernel_rfl) rfl
def Vb:IR :=
 (.seq (.ops [.i 4 (.mov (.c (.one (.st (.bool false)))))]) (.seq (.seq (.ops [.i 5 (.mov (.n 0))]) (.block 0 (.loop (.seq (.seq (.ops [.m 6 5,.m 7 1,.i 8 (.len false (.t 7)),.i 9 (.bin .lss (.t 6) (.t 8))]) (.cond (.t 9) .skip (.exit 0))) (.seq (.block 1 (.seq (.ops [.m 12 1,.m 13 5,.i 14 (.indexAddr 1 (.t 12) (.t 13)),.l 15 14,.m 16 0,.i 17 (.bin .eql (.t 15) (.t 16))]) (.cond (.t 17) (.seq (.ops [.i 4 (.mov (.c (.one (.st (.bool true)))))]) .ret) .skip))) (.ops [.m 10 5,.i 11 (.bin .add (.t 10) (.n 1)),.m 5 11])))))) (.seq (.ops [.i 4 (.mov (.c (.one (.st (.bool false)))))]) .ret)))
theorem Z7:OkF Tryz.prog 51 18 [] Vb [.t 4]:=.of Tryz.func51 rfl rfl (by kernel_rfl) rfl
def LZ:IR :=
 (.seq (.ops [.i 1 (.box 37 (.t 0)),.i 2 (.mov (.c (.one (.full []))))]) (.seq (.ops [.L 6 2 1,.i 7 (.call 57 [.t 6]),.m 3 7]) (.seq (.ops [.i 4 (.mov (.c (.one (.full []))))]) (.seq (.seq (.ops [.i 5 (.mov (.n 0))]) (.block 0 (.loop (.seq (.seq (.ops [.m 8 5,.m 9 3,.i 10 (.len false (.t 9)),.i 11 (.bin .lss (.t 8) (.t 10))]) (.cond (.t 11) .skip (.exit 0))) (.seq (.block 1 (.seq (.ops [.m 14 3,.m 15 5,.i 16 (.indexAddr 2 (.t 14) (.t 15)),.f 17 0 16,.l 18 17,.i 19 (.call 50 [.t 18]),.m 20 19,.mk (some 21) (some (20,true)) (.mov (.t 3)) .no,.mk (some 22) (some (20,true)) (.mov (.t 5)) .no,.mk (some 23) (some (20,true)) (.indexAddr 2 (.t 21) (.t 22)) .no,.mk (some 24) (some (20,true)) (.fieldAddr 0 (.t 23)) .no,.mk (some 25) (some (20,true)) (.load false 1 (.t 24)) .no,.mk (some 26) (some (20,true)) (.mov (.t 4)) .no,.mk (some 27) (some (20,true)) (.call 51 [.t 25,.t 26]) .no,.mk (some 28) (some (20,true)) (.un .not (.t 27)) .no,.i 29 (.pick (.t 20) (.t 28) (.c (.one (.st (.bool false)))))]) (.cond (.t 29) (.ops [.m 30 4,.m 31 3,.m 32 5,.i 33 (.indexAddr 2 (.t 31) (.t 32)),.f 34 0 33,.l 35 34,.i 36 (.buildFlat [.t 35]),.i 37 (.append false 9 1 16 (.t 30) (.t 36)),.m 4 37]) .skip))) (.ops [.m 12 5,.i 13 (.bin .add (.t 12) (.n 1)),.m 5 13])))))) (.seq (.ops [.m 38 4,.m 2 38]) .ret)))))
theorem Sx:OkF Tryz.prog 60 39 [] LZ [.t 2]:=.of Tryz.func60 rfl rfl (by kernel_rfl) rfl
def Jc:IR :=
 (.seq (.ops [.i 1 (.box 37 (.t 0)),.i 2 (.alloc 37 [.st (.str (ByteArray.mk (#[]))),.full []])]) (.seq (.ops [.f 6 0 1,.l 7 6,.i 8 (.build [.st (.str (ByteArray.mk (#[]))),.full []] [(0,1,.t 7)]),.i 3 (.alloc 37 [.st (.str (ByteArray.mk (#[]))),.full []]),.s 2 3 8]) (.seq (.seq (.ops [.f 9 1 1,.l 10 9,.i 11 (.len false (.t 10)),.i 12 (.mov (.n 0))]) (.block 0 (.loop (.seq (.ops [.i 13 (.bin .lss (.t 12) (.t 11))]) (.seq (.cond (.t 13) .skip (.exit 0)) (.seq (.block 1 (.seq (.ops [.i 14 (.indexAddr 2 (.t 10) (.t 12)),.L 15 2 14,.i 5 (.alloc 37 [.st (.str (ByteArray.mk (#[]))),.full []]),.s 2 5 15]) (.ops [.f 16 1 3,.l 17 16,.L 18 2 5,.i 19 (.call 42 [.t 18]),.i 20 (.buildSlice false 37 2 [.t 19]),.i 21 (.append false 37 2 40 (.t 17) (.t 20)),.f 22 1 3,.s 1 22 21]))) (.ops [.i 23 (.bin .add (.t 12) (.n 1)),.m 12 23]))))))) (.seq (.ops [.L 24 2 3,.s 2 2 24]) .ret))))
theorem Q0:OkF Tryz.prog 42 25 [] Jc [.cell 2 true 2]:=.of Tryz.func42 rfl rfl (by kernel_rfl) rfl
def B7:IR :=
 (.seq (.ops [.i 4 (.mov (.n 0))]) (.seq (.seq (.ops [.m 6 0,.i 7 (.len false (.t 6)),.i 8 (.mov (.n 0))]) (.block 0 (.loop (.seq (.ops [.i 9 (.bin .lss (.t 8) (.t 7))]) (.seq (.cond (.t 9) .skip (.exit 0)) (.seq (.block 1 (.seq (.ops [.m 10 8,.m 5 10]) (.seq (.ops [.m 11 1,.m 12 0,.m 13 5,.i 14 (.indexAddr 1 (.t 12) (.t 13)),.l 15 14,.i 16 (.bin .eql (.t 11) (.t 15))]) (.cond (.t 16) (.seq (.ops [.m 17 5,.m 4 17]) .ret) .skip)))) (.ops [.i 18 (.bin .add (.t 8) (.n 1)),.m 8 18]))))))) (.seq (.ops [.i 4 (.mov (.c (.one (.st (.int .i64 (-1))))))]) .ret)))
theorem Ch:OkF Tryz.prog 98 19 [] B7 [.t 4]:=.of Tryz.func98 rfl rfl (by kernel_rfl) rfl
def CS:IR :=
 (.seq (.ops [.i 4 (.mov (.c (.one (.st (.bool false)))))]) (.seq (.ops [.m 5 0,.m 6 1,.i 7 (.call 98 [.t 5,.t 6]),.i 8 (.bin .geq (.t 7) (.n 0)),.m 4 8]) .ret))
theorem Dg:OkF Tryz.prog 68 9 [] CS [.t 4]:=.of Tryz.func68 rfl rfl (by kernel_rfl) rfl
def GS:IR :=
 (.seq (.ops [.i 2 (.box 37 (.t 0)),.i 4 (.mov (.c (.one (.full []))))]) (.seq (.seq (.ops [.f 7 0 2,.l 8 7,.i 9 (.call 67 [.t 8]),.m 10 9,.mk (some 11) (some (10,true)) (.mov (.t 1)) .no,.mk (some 12) (some (10,true)) (.fieldAddr 0 (.t 2)) .no,.mk (some 13) (some (10,true)) (.load false 1 (.t 12)) .no,.mk (some 14) (some (10,true)) (.call 68 [.t 11,.t 13]) .no,.mk (some 15) (some (10,true)) (.un .not (.t 14)) .no,.i 16 (.pick (.t 10) (.t 15) (.c (.one (.st (.bool false)))))]) (.cond (.t 16) (.ops [.m 17 1,.f 18 0 2,.l 19 18,.i 20 (.buildFlat [.t 19]),.i 21 (.append false 9 1 16 (.t 17) (.t 20)),.m 1 21]) .skip)) (.seq (.seq (.ops [.f 22 1 2,.l 23 22,.i 24 (.len false (.t 23)),.i 25 (.mov (.n 0))]) (.block 0 (.loop (.seq (.ops [.i 26 (.bin .lss (.t 25) (.t 24))]) (.seq (.cond (.t 26) .skip (.exit 0)) (.seq (.block 1 (.seq (.ops [.i 27 (.indexAddr 2 (.t 23) (.t 25)),.L 28 2 27,.i 6 (.alloc 37 [.st (.str (ByteArray.mk (#[]))),.full []]),.s 2 6 28]) (.ops [.L 29 2 6,.m 30 1,.i 31 (.callS 124 [.t 29,.t 30]),.m 1 31]))) (.ops [.i 32 (.bin .add (.t 25) (.n 1)),.m 25 32]))))))) (.seq (.ops [.m 33 1,.m 4 33]) .ret))))
theorem JQ:OkF Tryz.prog 124 34 [31] GS [.t 4]:=.of Tryz.func124 rfl rfl (by kernel_rfl) rfl
def JL:IR :=
 (.seq (.ops [.i 1 (.box 37 (.t 0)),.i 2 (.mov (.c (.one (.full []))))]) (.seq (.ops [.L 3 2 1,.i 4 (.callS 124 [.t 3,.c (.one (.full []))]),.m 2 4]) .ret))
theorem Qk:OkF Tryz.prog 104 5 [4] JL [.t 2]:=.of Tryz.func104 rfl rfl (by kernel_rfl) rfl

set_option linter.unusedSimpArgs false
set_option maxHeartbeats 400000
theorem EQ(s:ByteArray)(k:Nat):Gy s k=Ar s k:=rfl
theorem QE{s:ByteArray}(h:¬s.size=0):¬s=⟨#[]⟩:=fun e=>h (by rw[e];rfl)
theorem Nk{s:ByteArray}(h:s.size=0):s=⟨#[]⟩:=by
 have:=ByteArray.size_eq_zero_iff.1 h;exact this
theorem Xq(n:Int)(h0:0≤n):AW Tryz.prog 97 [.one (.st (.int .u8 n))] (AZ (BS n)):=by
 refine MU.ac fun C hC=>?_;unfold HA;have hc:(97≤n∧n≤122)∨(122<n)∨(n<97∧65≤n∧n≤90)∨(n<97∧90<n)∨(n<65∧48≤n∧n≤57)∨(n<65∧57<n)∨(n<48):=by omega
 rcases hc with h|h|h|h|h|h|h
 ·have h1:97≤n:=h.1;have h2:n≤122:=h.2;refine Hf (F2 h1 h2) ?_;simp only[go_sem,fN,seval,AQ,AS.result,AB,AD,AM,BS,h1,h2];try simp
 ·have h1:97≤n:=by omega
  have h2:¬n≤122:=by omega
  have h3:65≤n:=by omega
  have h4:¬n≤90:=by omega
  have h5:48≤n:=by omega
  have h6:¬n≤57:=by omega
  refine Hf (F6 h1 h2 h3 h4 h5 h6) ?_;simp only[go_sem,fN,seval,AQ,AS.result,AB,AD,AM,BS,h1,h2,h3,h4,h5,h6];try simp
 ·have h1:¬97≤n:=by omega
  have h3:65≤n:=by omega
  have h4:n≤90:=by omega
  refine Hf (F3 h1 h3 h4) ?_;simp only[go_sem,fN,seval,AQ,AS.result,AB,AD,AM,BS,h1,h3,h4];try simp
 ·have h1:¬97≤n:=by omega
  have h3:65≤n:=by omega
  have h4:¬n≤90:=by omega
  have h5:48≤n:=by omega
  have h6:¬n≤57:=by omega
  refine Hf (F5 h1 h3 h4 h5 h6) ?_;simp only[go_sem,fN,seval,AQ,AS.result,AB,AD,AM,BS,h1,h3,h4,h5,h6];try simp
 ·have h1:¬97≤n:=by omega
  have h3:¬65≤n:=by omega
  have h5:48≤n:=by omega
  have h6:n≤57:=by omega
  refine Hf (F4 h1 h3 h5 h6) ?_;simp only[go_sem,fN,seval,AQ,AS.result,AB,AD,AM,BS,h1,h3,h5,h6];try simp
 ·have h1:¬97≤n:=by omega
  have h3:¬65≤n:=by omega
  have h5:48≤n:=by omega
  have h6:¬n≤57:=by omega
  refine Hf (F4 h1 h3 h5 h6) ?_;simp only[go_sem,fN,seval,AQ,AS.result,AB,AD,AM,BS,h1,h3,h5,h6];try simp
 ·have h1:¬97≤n:=by omega
  have h3:¬65≤n:=by omega
  have h5:¬48≤n:=by omega
  refine Hf (F3 h1 h3 h5) ?_;simp only[go_sem,fN,seval,AQ,AS.result,AB,AD,AM,BS,h1,h3,h5];try simp
theorem Iw(n:Int)(h0:0≤n):AW Tryz.prog 87 [.one (.st (.int .u8 n))] (AZ (BS n)):=by
 refine OF.ac fun C hC=>?_;unfold IU;have hc:(97≤n∧n≤122)∨(122<n)∨(n<97∧65≤n∧n≤90)∨(n<97∧90<n)∨(n<65∧48≤n∧n≤57)∨(n<65∧57<n)∨(n<48):=by omega
 rcases hc with h|h|h|h|h|h|h
 ·have h1:97≤n:=h.1;have h2:n≤122:=h.2;refine Hf (F2 h1 h2) ?_;simp only[go_sem,fN,seval,AQ,AS.result,AB,AD,AM,BS,h1,h2];try simp
 ·have h1:97≤n:=by omega
  have h2:¬n≤122:=by omega
  have h3:65≤n:=by omega
  have h4:¬n≤90:=by omega
  have h5:48≤n:=by omega
  have h6:¬n≤57:=by omega
  refine Hf (F6 h1 h2 h3 h4 h5 h6) ?_;simp only[go_sem,fN,seval,AQ,AS.result,AB,AD,AM,BS,h1,h2,h3,h4,h5,h6];try simp
 ·have h1:¬97≤n:=by omega
  have h3:65≤n:=by omega
  have h4:n≤90:=by omega
  refine Hf (F3 h1 h3 h4) ?_;simp only[go_sem,fN,seval,AQ,AS.result,AB,AD,AM,BS,h1,h3,h4];try simp
 ·have h1:¬97≤n:=by omega
  have h3:65≤n:=by omega
  have h4:¬n≤90:=by omega
  have h5:48≤n:=by omega
  have h6:¬n≤57:=by omega
  refine Hf (F5 h1 h3 h4 h5 h6) ?_;simp only[go_sem,fN,seval,AQ,AS.result,AB,AD,AM,BS,h1,h3,h4,h5,h6];try simp
 ·have h1:¬97≤n:=by omega
  have h3:¬65≤n:=by omega
  have h5:48≤n:=by omega
  have h6:n≤57:=by omega
  refine Hf (F4 h1 h3 h5 h6) ?_;simp only[go_sem,fN,seval,AQ,AS.result,AB,AD,AM,BS,h1,h3,h5,h6];try simp
 ·have h1:¬97≤n:=by omega
  have h3:¬65≤n:=by omega
  have h5:48≤n:=by omega
  have h6:¬n≤57:=by omega
  refine Hf (F4 h1 h3 h5 h6) ?_;simp only[go_sem,fN,seval,AQ,AS.result,AB,AD,AM,BS,h1,h3,h5,h6];try simp
 ·have h1:¬97≤n:=by omega
  have h3:¬65≤n:=by omega
  have h5:¬48≤n:=by omega
  refine Hf (F3 h1 h3 h5) ?_;simp only[go_sem,fN,seval,AQ,AS.result,AB,AD,AM,BS,h1,h3,h5];try simp
theorem Az(s:ByteArray):AW Tryz.prog 67 [Bs s] (AZ (AP s)):=by
 by_cases h0:s.size=0
 ·have:=Nk h0;subst this;refine Fd.ac fun C hC=>?_;unfold D5;refine Hg ?_;simp only[go_sem,fN,seval,AQ,AS.result,AB,AD,AM];rfl
 ·have h1:=QE h0;have h2:0<s.size:=by omega
  refine Fd.ac fun C hC=>?_;unfold D5;by_cases h3:65≤Ar s 0 <;> by_cases h4:Ar s 0≤90;all_goals
   refine Hf (F5 h1 h2 @EQ h3 h4) ?_;simp only[go_sem,fN,seval,AQ,AS.result,AB,AD,AM,AP,h3,h4,h2];try simp
theorem BN(s:ByteArray):AW Tryz.prog 50 [Bs s] (AZ (AP s)):=by
 by_cases h0:s.size=0
 ·have:=Nk h0;subst this;refine MK.ac fun C hC=>?_;unfold Ik;refine Hg ?_;simp only[go_sem,fN,seval,AQ,AS.result,AB,AD,AM];rfl
 ·have h1:=QE h0;have h2:0<s.size:=by omega
  refine MK.ac fun C hC=>?_;unfold Ik;by_cases h3:65≤Ar s 0 <;> by_cases h4:Ar s 0≤90;all_goals
   refine Hf (F5 h1 h2 @EQ h3 h4) ?_;simp only[go_sem,fN,seval,AQ,AS.result,AB,AD,AM,AP,h3,h4,h2];try simp
theorem O2(s:ByteArray)(h1:1≤s.size)(h8:s.size≤8)(hd:¬(48≤Ar s 0∧Ar s 0≤57)):BA s=CH s s.size:=by
 unfold BA;have:(decide (48≤Ar s 0)&&decide (Ar s 0≤57))=false:=by
  rw[Bool.and_eq_false_iff];simp;omega
 rw[this];simp[h1,h8]
theorem ZP(s:ByteArray):AW Tryz.prog 66 [Bs s] (AZ (BA s)):=by
 by_cases h0:s.size<1
 ·have e:BA s=false:=by simp[BA];omega
  rw[e];have h0':(s.size:Int)<1:=by omega
  refine Ef.ac fun C hC=>?_;unfold Df;refine Hf h0' ?_;with_reducible refine Wp ?_
  simp only[go_sem,fN,seval,true_implies,false_implies,implies_true,dT,dF,nL,h0'];(try with_reducible refine iC ?_);refine Hg ?_;simp only[go_sem,fN,seval,AQ,AS.result,AB,AD,AM]
 have h0':¬(s.size:Int)<1:=by omega
 by_cases h8:8<s.size
 ·have e:BA s=false:=by simp[BA];omega
  rw[e];have h8':(8:Int)<s.size:=by omega
  refine Ef.ac fun C hC=>?_;unfold Df;refine Hf (F2 h0' h8') ?_;with_reducible refine Wp ?_
  simp only[go_sem,fN,seval,true_implies,false_implies,implies_true,dT,dF,nL,h0'];(try with_reducible refine iC ?_);refine Hg ?_;simp only[go_sem,fN,seval,AQ,AS.result,AB,AD,AM]
 have h8':¬(8:Int)<s.size:=by omega
 have hpos:0<s.size:=by omega
 by_cases hd:48≤Ar s 0∧Ar s 0≤57
 ·have e:BA s=false:=by simp[BA,hd.1,hd.2]
  rw[e];refine Ef.ac fun C hC=>?_;unfold Df;refine Hf (F6 h0' h8' hpos @EQ hd.1 hd.2) ?_;with_reducible refine Wp ?_
  simp only[go_sem,fN,seval,true_implies,false_implies,implies_true,dT,dF,nL,h0'];(try with_reducible refine iC ?_);refine Hg ?_;simp only[go_sem,fN,seval,AQ,AS.result,AB,AD,AM]
 rw[O2 s (by omega) (by omega) hd];have hd2:(48≤Ar s 0∧¬Ar s 0≤57)∨(¬48≤Ar s 0):=by omega
 refine Ef.ac fun C hC=>?_;unfold Df;have h57:48≤Ar s 0→¬Ar s 0≤57:=fun h h'=>hd ⟨h,h'⟩;by_cases h48:48≤Ar s 0;all_goals
  simp only[h48,true_implies,false_implies]at h57;refine Hf (F6 h0' h8' hpos @EQ h48 h57) ?_;with_reducible refine Wp ?_
  simp only[go_sem,fN,seval,true_implies,false_implies,implies_true,dT,dF,nL,h0'];(try with_reducible refine iC ?_);refine Hg ?_;refine IWP.loop (fun m x=>∃k,k≤s.size∧m=s.size-k∧CH s k=true∧x.env 0=Bs s∧x.env 23=AO s.size∧x.env 24=AO k) s.size ⟨0,Nat.zero_le _,rfl,rfl,rfl,rfl,rfl⟩ ?_;rintro m ⟨env,S⟩ ⟨k,hk,rfl,hl,e0,e23,e24⟩;simp only at e0 e23 e24;refine Hf (F3 e0 e23 e24) ?_;with_reducible refine Wp ?_
  simp only[go_sem,fN,seval,true_implies,false_implies,implies_true,dT,dF,nL,e0,e23,e24];(try with_reducible refine iC ?_);refine⟨fun hlt=>?_,fun hge=>?_⟩
  ·have hlt':k<s.size:=by omega
   repeat' first|refine Hf (F5 e0 e23 e24 hlt' @EQ) ?_|refine Mm fun K hK=>?_|refine Cg _ (Xq _ (GJ s k).1) ?_
   with_reducible refine Wp ?_
   simp only[go_sem,fN,seval,true_implies,false_implies,implies_true,dT,dF,nL];(try with_reducible refine iC ?_);refine⟨fun hn=>?_,fun hn=>?_⟩
   ·refine Hg ?_;simp only[go_sem,fN,seval,AQ,AS.result,AB,AD,AM];rw[JM s k hlt' (by simpa using hn)]
   ·refine Hf (F3 e0 e23 e24) ?_;refine AE ⟨s.size-(k+1),by omega,k+1,by omega,rfl,?_,?_⟩
    ·rw[G7 s k hlt',hl];simpa using hn
    ·simp only[go_sem,fN,seval,eT,iR,e0,e23,e24];congr 3
  ·refine Hg ?_;simp only[go_sem,fN,seval,AQ,AS.result,AB,AD,AM];rw[show s.size=k by omega,hl]
theorem C4(s:ByteArray):AW Tryz.prog 49 [Bs s] (AZ (BA s)):=by
 by_cases h0:s.size<1
 ·have e:BA s=false:=by simp[BA];omega
  rw[e];have h0':s=⟨#[]⟩:=Nk (by omega);subst h0';refine FB.ac fun C hC=>?_;unfold EK;refine Hg ?_;with_reducible refine Wp ?_
  simp only[go_sem,fN,seval,true_implies,false_implies,implies_true,dT,dF,nL];(try with_reducible refine iC ?_);refine Hg ?_;simp only[go_sem,fN,seval,AQ,AS.result,AB,AD,AM]
 have h0':¬s=⟨#[]⟩:=QE (by omega);by_cases h8:8<s.size
 ·have e:BA s=false:=by simp[BA];omega
  rw[e];have h8':(8:Int)<s.size:=by omega
  refine FB.ac fun C hC=>?_;unfold EK;refine Hf (F2 h0' h8') ?_;with_reducible refine Wp ?_
  simp only[go_sem,fN,seval,true_implies,false_implies,implies_true,dT,dF,nL,h0'];(try with_reducible refine iC ?_);refine Hg ?_;simp only[go_sem,fN,seval,AQ,AS.result,AB,AD,AM]
 have h8':¬(8:Int)<s.size:=by omega
 have hpos:0<s.size:=by omega
 by_cases hd:48≤Ar s 0∧Ar s 0≤57
 ·have e:BA s=false:=by simp[BA,hd.1,hd.2]
  rw[e];refine FB.ac fun C hC=>?_;unfold EK;refine Hf (F6 h0' h8' hpos @EQ hd.1 hd.2) ?_;with_reducible refine Wp ?_
  simp only[go_sem,fN,seval,true_implies,false_implies,implies_true,dT,dF,nL,h0'];(try with_reducible refine iC ?_);refine Hg ?_;simp only[go_sem,fN,seval,AQ,AS.result,AB,AD,AM]
 rw[O2 s (by omega) (by omega) hd];refine FB.ac fun C hC=>?_;unfold EK;have h57:48≤Ar s 0→¬Ar s 0≤57:=fun h h'=>hd ⟨h,h'⟩;by_cases h48:48≤Ar s 0;all_goals
  simp only[h48,true_implies,false_implies]at h57;refine Hf (F6 h0' h8' hpos @EQ h48 h57) ?_;with_reducible refine Wp ?_
  simp only[go_sem,fN,seval,true_implies,false_implies,implies_true,dT,dF,nL,h0'];(try with_reducible refine iC ?_);refine Hg ?_;refine IWP.loop (fun m x=>∃k,k≤s.size∧m=s.size-k∧CH s k=true∧x.env 0=Bs s∧x.env 3=AO k) s.size ⟨0,Nat.zero_le _,rfl,rfl,rfl,rfl⟩ ?_;rintro m ⟨env,S⟩ ⟨k,hk,rfl,hl,e0,e3⟩;simp only at e0 e3;refine Hf (F2 e0 e3) ?_;with_reducible refine Wp ?_
  simp only[go_sem,fN,seval,true_implies,false_implies,implies_true,dT,dF,nL,e0,e3];(try with_reducible refine iC ?_);refine⟨fun hlt=>?_,fun hge=>?_⟩
  ·have hlt':k<s.size:=by omega
   repeat' first|refine Hf (F4 e0 e3 hlt' @EQ) ?_|refine Mm fun K hK=>?_|refine Cg _ (Iw _ (GJ s k).1) ?_
   with_reducible refine Wp ?_
   simp only[go_sem,fN,seval,true_implies,false_implies,implies_true,dT,dF,nL];(try with_reducible refine iC ?_);refine⟨fun hn=>?_,fun hn=>?_⟩
   ·refine Hg ?_;simp only[go_sem,fN,seval,AQ,AS.result,AB,AD,AM];rw[JM s k hlt' (by simpa using hn)]
   ·refine Hf (F2 e0 e3) ?_;refine AE ⟨s.size-(k+1),by omega,k+1,by omega,rfl,?_,?_⟩
    ·rw[G7 s k hlt',hl];simpa using hn
    ·simp only[go_sem,fN,seval,eT,iR,e0,e3];congr 3
  ·refine Hg ?_;simp only[go_sem,fN,seval,AQ,AS.result,AB,AD,AM];rw[show s.size=k by omega,hl]
theorem YC(t:Tm)(m:Int)(h0:0≤m)(h1:m≤9223372036854775807):AW Tryz.prog 82 [aTm t,AO m] (AO (Cx t.size m)):=by
 induction h:SizeOf.sizeOf t using Nat.strongRecOn generalizing t m with
 | _ N ih =>
 subst h;have hs:=Tm.size_eq t;refine NO.ac fun C hC=>?_;unfold Hb;refine IWP.learn 0 (by omega) fun hkn=>?_;have hkn:=F_ hkn;refine Hg ?_;refine IWP.loopD [6] (fun n s=>∃k,k≤t.args.length∧n=t.args.length-k∧s.env 1=AO (Cx (1+Tm.sizes (t.args.take k)) m)∧s.env 10=.one (.st (.list (t.args.map Al)))∧s.env 11=AO t.args.length∧s.env 12=AO k∧s.S 6=none) t.args.length ⟨0,Nat.zero_le _,rfl,by
  simp only[go_sem,fN,seval,eT,iR];rw[Cx];have z0:Tm.sizes []=0:=rfl;congr 3;split <;> omega,rfl,rfl,rfl,rfl⟩ ?_
 rintro n ⟨env,S⟩ ⟨k,hk,rfl,e1,e10,e11,e12,s6⟩;simp only at e1 e10 e11 e12 s6;refine Hf (F5 e1 e10 e11 e12 s6) ?_;with_reducible refine Wp ?_
 simp only[go_sem,fN,seval,true_implies,false_implies,implies_true,dT,dF,nL,e1,e10,e11,e12,s6];(try with_reducible refine iC ?_);refine⟨fun hlt=>?_,fun hge=>?_⟩
 ·obtain⟨a,ha⟩:=Aa (show k<t.args.length by omega);have z1:=Tm.sizes_take ha;have z2:=Tm.sizes_take_le t.args (k+1);have z3:=Tm.length_le t.args;have z4:=W1 (1+Tm.sizes (t.args.take k)) m h0;refine Hf (F6 e1 e10 e11 e12 s6 ha) ?_;with_reducible refine Wp ?_
  simp only[go_sem,fN,seval,true_implies,false_implies,implies_true,dT,dF,nL,e1];(try with_reducible refine iC ?_);refine⟨fun hb=>?_,fun hb=>?_⟩
  ·refine Hf e1 ?_;simp only[go_sem,fN,seval,AQ,AS.result,AB,AD,AM,e1];rw[To hb (show _≤t.size by rw[hs];omega)]
  ·repeat' first|refine Hf (F6 e1 e10 e11 e12 s6 ha) ?_|refine Mm fun K hK=>?_|refine Cg _ (ih _ (Tm.lt_of_arg (AN ha)) a _ (by omega) (by omega) rfl) ?_
   refine AE ⟨t.args.length-(k+1),by omega,k+1,by omega,rfl,?_⟩;simp only[go_sem,fN,seval,AS.drop,AT,AC.clears,AC.clear,AC.highs,AC.high,zD,AV.purge,AV.purges,AC.purge,AJ.purge,Nat.reduceBEq,eT,iR,e1,e10,e11,e12,s6];exact⟨by rw[SJ (by omega),z1];congr 4;omega,by congr 3⟩
 ·refine Hf e1 ?_;simp only[go_sem,fN,seval,AQ,AS.result,AB,AD,AM,e1];rw[List.take_of_length_le (by omega),hs]
theorem GC(t:Tm)(m:Int)(h0:0≤m)(h1:m≤9223372036854775806):AW Tryz.prog 21 [aTm t,AO m] (AO (BB t.size m)):=by
 induction h:SizeOf.sizeOf t using Nat.strongRecOn generalizing t m with
 | _ N ih =>
 subst h;have hs:=Tm.size_eq t;refine V2.ac fun C hC=>?_;unfold Ow;refine IWP.learn 0 (by omega) fun hkn=>?_;have hkn:=F_ hkn;refine Hg ?_;refine IWP.loop (fun n s=>∃k,k≤t.args.length∧n=t.args.length-k∧s.env 5=AO (BB (1+Tm.sizes (t.args.take k)) m)∧s.env 1=AO m∧s.env 2=.one (.ptr 2 1 0 0)∧s.env 6=AO k∧s.S 2=some (.box 37 [.st (.str t.name),.st (.list (t.args.map Al))])) t.args.length ⟨0,Nat.zero_le _,rfl,by
  simp only[go_sem,fN,seval,eT,iR];rw[BB];have z0:Tm.sizes []=0:=rfl;congr 3;split <;> omega,rfl,rfl,rfl,rfl⟩ ?_
 rintro n ⟨env,S⟩ ⟨k,hk,rfl,e5,e1,e2,e6,s2⟩;simp only at e5 e1 e2 e6 s2;have z4:=JE (1+Tm.sizes (t.args.take k)) m h0;by_cases hlt:(k:Int)<t.args.length
 ·obtain⟨a,ha⟩:=Aa (show k<t.args.length by omega);have z1:=Tm.sizes_take ha;have z2:=Tm.sizes_take_le t.args (k+1);by_cases hb:m<BB (1+Tm.sizes (t.args.take k)) m
  ·have hb':¬BB (1+Tm.sizes (t.args.take k)) m≤m:=by omega
   refine Hf (F7 e5 e1 e2 e6 s2 hlt hb') ?_;with_reducible refine Wp ?_
   simp only[go_sem,fN,seval,true_implies,false_implies,implies_true,dT,dF,nL,hb'];(try with_reducible refine iC ?_);refine Hf (F5 e5 e1 e2 e6 s2) ?_;with_reducible refine Wp ?_
   simp only[go_sem,fN,seval,true_implies,false_implies,implies_true,dT,dF,nL,hb];(try with_reducible refine iC ?_);refine Hf e1 ?_;simp only[go_sem,fN,seval,AQ,AS.result,AB,AD,AM];rw[GO hb (show _≤t.size by rw[hs];omega)]
  ·have hb':BB (1+Tm.sizes (t.args.take k)) m≤m:=by omega
   obtain⟨b1,b2⟩:=JI hb;refine Hf (F7 e5 e1 e2 e6 s2 hlt hb') ?_;with_reducible refine Wp ?_
   simp only[go_sem,fN,seval,true_implies,false_implies,implies_true,dT,dF,nL,hb'];(try with_reducible refine iC ?_);repeat' first|refine Hf (F6 e5 e1 e2 e6 s2 ha) ?_|refine Mm fun K hK=>?_
   refine⟨_,ih _ (Tm.lt_of_arg (AN ha)) a (m-BB (1+Tm.sizes (t.args.take k)) m) (by omega) (by omega) rfl,?_⟩;have z5:=JE a.size (m-BB (1+Tm.sizes (t.args.take k)) m) (by omega);refine Hf (F5 e5 e1 e2 e6 s2) ?_;refine AE ⟨t.args.length-(k+1),by omega,k+1,by omega,rfl,?_⟩;simp only[go_sem,fN,seval,eT,iR,e5,e1,e2,e6,s2];exact⟨by rw[b1,ML b2,z1];congr 4;omega,by congr 3⟩
 ·refine Hf (F6 e5 e1 e2 e6 s2 hlt) ?_;with_reducible refine Wp ?_
  simp only[go_sem,fN,seval,true_implies,false_implies,implies_true,dT,dF,nL];(try with_reducible refine iC ?_);have hfull:1+Tm.sizes (t.args.take k)=t.size:=by rw[List.take_of_length_le (by omega),hs]
  rw[hfull]at e5 z4;refine Hf (F2 e5 e1) ?_;by_cases hb:m<BB t.size m
  ·with_reducible refine Wp ?_
   simp only[go_sem,fN,seval,true_implies,false_implies,implies_true,dT,dF,nL,hb];(try with_reducible refine iC ?_);refine Hf e1 ?_;simp only[go_sem,fN,seval,AQ,AS.result,AB,AD,AM];rw[GO hb (Nat.le_refl _)]
  ·with_reducible refine Wp ?_
   simp only[go_sem,fN,seval,true_implies,false_implies,implies_true,dT,dF,nL,hb];(try with_reducible refine iC ?_);refine Hf e5 ?_;simp only[go_sem,fN,seval,AQ,AS.result,AB,AD,AM,e5]
theorem AAV(t:Tm):AW Tryz.prog 83 [aTm t] (AO t.chk):=by
 induction h:SizeOf.sizeOf t using Nat.strongRecOn generalizing t with
 | _ N ih =>
 subst h;have hc:=Tm.chk_eq t;have hc1:B9 t=if BA t.name=true then(if AP t.name=true∧0<t.args.length then 2 else 0) else 1:=rfl;refine OA.ac fun C hC=>?_;unfold IS;refine IWP.learn 0 (by omega) fun hkn=>?_;have hkn:=F_ hkn;repeat' first|refine Hg ?_|refine Mm fun K hK=>?_
 refine⟨_,ZP _,?_⟩;cases hn:BA t.name with
 | false =>
  rw[hn,if_neg (by simp)]at hc1;refine Hg ?_;with_reducible refine Wp ?_
  simp only[go_sem,fN,seval,true_implies,false_implies,implies_true,dT,dF,nL];(try with_reducible refine iC ?_);refine Hg ?_;simp only[go_sem,fN,seval,AQ,AS.result,AB,AD,AM];rw[hc,hc1];rfl
 | true =>
  rw[hn,if_pos rfl]at hc1;refine Hg ?_;with_reducible refine Wp ?_
  simp only[go_sem,fN,seval,true_implies,false_implies,implies_true,dT,dF,nL];(try with_reducible refine iC ?_);repeat' first|refine Hg ?_|refine Mm fun K hK=>?_
  refine⟨_,Az _,?_⟩;by_cases hv:AP t.name=true∧0<t.args.length
  ·obtain⟨hv1,hv2⟩:=hv;have hv2':(0:Int)<t.args.length:=by omega
   rw[if_pos ⟨hv1,hv2⟩]at hc1;rw[hv1];refine Hf hv2' ?_;with_reducible refine Wp ?_
   simp only[go_sem,fN,seval,true_implies,false_implies,implies_true,dT,dF,nL,hv2'];(try with_reducible refine iC ?_);refine Hg ?_;simp only[go_sem,fN,seval,AQ,AS.result,AB,AD,AM];rw[hc,hc1];rfl
  ·rw[if_neg hv]at hc1;rw[if_pos hc1]at hc;have hv2:AP t.name=true→¬(0:Int)<t.args.length:=fun h h'=>hv ⟨h,by omega⟩;cases hvv:AP t.name;all_goals
    simp only[hvv,true_implies,false_implies,Bool.false_eq_true]at hv2;refine Hf hv2 ?_;with_reducible refine Wp ?_
    simp only[go_sem,fN,seval,true_implies,false_implies,implies_true,dT,dF,nL,hv2];(try with_reducible refine iC ?_);refine Hg ?_;refine IWP.loopD [4] (fun n s=>∃k,k≤t.args.length∧n=t.args.length-k∧Tm.chkL (t.args.take k)=0∧s.env 20=.one (.st (.list (t.args.map Al)))∧s.env 21=AO t.args.length∧s.env 22=AO k∧s.S 4=none) t.args.length ⟨0,Nat.zero_le _,rfl,rfl,rfl,rfl,rfl,rfl⟩ ?_;rintro n ⟨env,S⟩ ⟨k,hk,rfl,h0,e20,e21,e22,s4⟩;simp only at e20 e21 e22 s4;refine Hf (F4 e20 e21 e22 s4) ?_;with_reducible refine Wp ?_
    simp only[go_sem,fN,seval,true_implies,false_implies,implies_true,dT,dF,nL,e20,e21,e22,s4];(try with_reducible refine iC ?_);refine⟨fun hlt=>?_,fun hge=>?_⟩
    ·obtain⟨a,ha⟩:=Aa (show k<t.args.length by omega);obtain⟨g1,g2⟩:=Tm.chkL_get ha h0;repeat' first|refine Hf (F5 e20 e21 e22 s4 ha) ?_|refine Mm fun K hK=>?_|refine Cg _ (ih _ (Tm.lt_of_arg (AN ha)) a rfl) ?_
     with_reducible refine Wp ?_
     simp only[go_sem,fN,seval,true_implies,false_implies,implies_true,dT,dF,nL];(try with_reducible refine iC ?_);refine⟨fun hb=>?_,fun hb=>?_⟩
     ·refine Hg ?_;simp only[go_sem,fN,seval,AQ,AS.result,AB,AD,AM];rw[hc,g2 hb]
     ·refine Hf (F4 e20 e21 e22 s4) ?_;refine AE ⟨t.args.length-(k+1),by omega,k+1,by omega,rfl,g1 (by omega),?_⟩;simp only[go_sem,fN,seval,AS.drop,AT,AC.clears,AC.clear,AC.highs,AC.high,zD,AV.purge,AV.purges,AC.purge,AJ.purge,Nat.reduceBEq,eT,iR,e20,e21,e22,s4];congr 3
    ·refine Hg ?_;simp only[go_sem,fN,seval,AQ,AS.result,AB,AD,AM];rw[List.take_of_length_le (by omega)]at h0;rw[hc,h0]
theorem Rk(t:Tm):AW Tryz.prog 46 [aTm t] (AO t.may):=by
 have hm:t.may=if 200<t.size then 3 else t.chk:=rfl;refine N8.ac fun C hC=>?_;unfold IT;repeat' first|refine Hg ?_|refine Mm fun K hK=>?_
 refine⟨_,YC t 200 (by omega) (by omega),?_⟩;by_cases h:Cx t.size 200<0
 ·refine Hf h ?_;with_reducible refine Wp ?_
  simp only[go_sem,fN,seval,true_implies,false_implies,implies_true,dT,dF,nL,h];(try with_reducible refine iC ?_);refine Hg ?_;simp only[go_sem,fN,seval,AQ,AS.result,AB,AD,AM];unfold Cx at h;rw[hm,if_pos (by split at h <;> omega)]
 ·refine Hf h ?_;with_reducible refine Wp ?_
  simp only[go_sem,fN,seval,true_implies,false_implies,implies_true,dT,dF,nL,h];(try with_reducible refine iC ?_);repeat' first|refine Hg ?_|refine Mm fun K hK=>?_|refine Cg _ (AAV t) ?_
  simp only[go_sem,fN,seval,AQ,AS.result,AB,AD,AM];unfold Cx at h;rw[hm,if_neg (by split at h <;> omega)]
theorem Ei(t:Tm)(hz:t.size≤1000000):AW Tryz.prog 57 [aTm t] (CJ t.knots):=by
 induction h:SizeOf.sizeOf t using Nat.strongRecOn generalizing t with
 | _ N ih =>
 subst h;have hs:=Tm.size_eq t;refine Tq.ac fun C hC=>?_;unfold MQ;refine Hg ?_;refine IWP.ghost (AY.own 3 21 37 2 (xs:=([t].map Al)) (by simp only[go_sem,fN,seval,eT,iR]) rfl Cv (by omega)) ?_;have hlen:=Tm.length_le t.args;refine IWP.loopD [] (fun m s=>∃k,k≤t.args.length∧m=t.args.length-k∧s.env 1=.one (.ptr 1 1 0 0)∧s.S 1=some (.box 37 [.st (.str t.name),.st (.list (t.args.map Al))])∧s.env 3=.one (.row 21 (t::Tm.knotsL (t.args.take k)).length)∧s.S 21=some (.arow 37 2 ((t::Tm.knotsL (t.args.take k)).map Al))∧s.env 4=AO k)
  t.args.length ⟨0,Nat.zero_le _,rfl,rfl,rfl,rfl,rfl,rfl⟩ ?_
 rintro m ⟨env,S⟩ ⟨k,hk,rfl,e1,s1,e3,s21,e4⟩;simp only at e1 s1 e3 s21 e4;refine Hf (F5 e1 s1 e3 s21 e4) ?_;with_reducible refine Wp ?_
 simp only[go_sem,fN,seval,true_implies,false_implies,implies_true,dT,dF,nL];(try with_reducible refine iC ?_);refine⟨fun hlt=>?_,fun hge=>?_⟩
 ·obtain⟨a,ha⟩:=Aa (show k<t.args.length by omega);have z1:=Tm.sizes_take ha;have z2:=Tm.sizes_take_le t.args (k+1);have z3:=Tm.knots_length a;have z4:=Tm.knotsL_length (t.args.take k);repeat' first|refine Hf (F6 e1 s1 e3 s21 e4 ha) ?_|refine Mm fun K hK=>?_|refine Cg _ (ih _ (Tm.lt_of_arg (AN ha)) a (by omega) rfl) ?_
  refine AE ⟨t.args.length-(k+1),by omega,k+1,by omega,rfl,?_⟩;simp only[go_sem,fN,seval,AS.drop,AT,AC.clears,AC.clear,AC.highs,AC.high,zD,AV.purge,AV.purges,AC.purge,AJ.purge,Nat.reduceBEq,eT,iR,e1,s1,e3,s21,e4];rw[Tm.knotsL_take ha];exact⟨by simp <;> omega,by simp[Ao],rfl⟩
 ·refine Hf (F5 e1 s1 e3 s21 e4) ?_;simp only[go_sem,fN,seval,AQ,AS.result,AB,AD,AM,e3,s21];rw[List.take_of_length_le (by omega),Tm.knots_eq];rfl
theorem Pc(t:Tm):AW Tryz.prog 88 [aTm t] (AO t.may):=by
 have hm:t.may=if 200<t.size then 3 else t.chk:=rfl;refine Qy.ac fun C hC=>?_;unfold J6;repeat' first|refine Hg ?_|refine Mm fun K hK=>?_
 refine⟨_,GC t 200 (by omega) (by omega),?_⟩;by_cases h:(200:Int)<BB t.size 200
 ·refine Hf h ?_;with_reducible refine Wp ?_
  simp only[go_sem,fN,seval,true_implies,false_implies,implies_true,dT,dF,nL,h];(try with_reducible refine iC ?_);refine Hg ?_;simp only[go_sem,fN,seval,AQ,AS.result,AB,AD,AM];unfold BB at h;rw[hm,if_pos (by split at h <;> omega)]
 have hz:=(JI h).2;rw[if_neg (by omega)]at hm;refine Hf h ?_;with_reducible refine Wp ?_
 simp only[go_sem,fN,seval,true_implies,false_implies,implies_true,dT,dF,nL,h];(try with_reducible refine iC ?_);repeat' first|refine Hg ?_|refine Mm fun K hK=>?_|refine Cg _ (Ei t (by omega)) ?_
 have hl:=Tm.knots_length t;have hc:=Tm.firstErr_knots t;refine IWP.loop (fun n s=>∃k,k≤t.knots.length∧n=t.knots.length-k∧B_ (t.knots.take k)=0∧s.env 3=CJ t.knots∧s.env 4=AO k) t.knots.length ⟨0,Nat.zero_le _,rfl,rfl,rfl,rfl⟩ ?_;rintro n ⟨env,S⟩ ⟨k,hk,rfl,h0,e3,e4⟩;simp only at e3 e4;refine Hf (F2 e3 e4) ?_;with_reducible refine Wp ?_
 simp only[go_sem,fN,seval,true_implies,false_implies,implies_true,dT,dF,nL];(try with_reducible refine iC ?_);refine⟨fun hlt=>?_,fun hge=>?_⟩
 ·obtain⟨a,ha⟩:=Aa (show k<t.knots.length by omega);obtain⟨g1,g2⟩:=Qu ha h0;have hc1:B9 a=if BA a.name=true then(if AP a.name=true∧0<a.args.length then 2 else 0) else 1:=rfl;repeat' first|refine Hf (F3 e3 e4 ha) ?_|refine Mm fun K hK=>?_
  refine⟨_,C4 _,?_⟩;cases hn:BA a.name with
  | false =>
   rw[hn,if_neg (by simp)]at hc1;refine Hg ?_;with_reducible refine Wp ?_
   simp only[go_sem,fN,seval,true_implies,false_implies,implies_true,dT,dF,nL];(try with_reducible refine iC ?_);refine Hg ?_;simp only[go_sem,fN,seval,AQ,AS.result,AB,AD,AM];rw[hm,←hc,g2 (by omega),hc1]
  | true =>
   rw[hn,if_pos rfl]at hc1;refine Hg ?_;with_reducible refine Wp ?_
   simp only[go_sem,fN,seval,true_implies,false_implies,implies_true,dT,dF,nL];(try with_reducible refine iC ?_);repeat' first|refine Hf (F3 e3 e4 ha) ?_|refine Mm fun K hK=>?_
   refine⟨_,BN _,?_⟩;by_cases hv:AP a.name=true∧0<a.args.length
   ·obtain⟨hv1,hv2⟩:=hv;have hv2':(0:Int)<a.args.length:=by omega
    rw[if_pos ⟨hv1,hv2⟩]at hc1;rw[hv1];refine Hf (F4 e3 e4 ha hv2') ?_;with_reducible refine Wp ?_
    simp only[go_sem,fN,seval,true_implies,false_implies,implies_true,dT,dF,nL,hv2'];(try with_reducible refine iC ?_);refine Hg ?_;simp only[go_sem,fN,seval,AQ,AS.result,AB,AD,AM];rw[hm,←hc,g2 (by omega),hc1]
   ·rw[if_neg hv]at hc1;have hv2:AP a.name=true→¬(0:Int)<a.args.length:=fun h h'=>hv ⟨h,by omega⟩;cases hvv:AP a.name;all_goals
     simp only[hvv,true_implies,false_implies,Bool.false_eq_true]at hv2;refine Hf (F4 e3 e4 ha hv2) ?_;with_reducible refine Wp ?_
     simp only[go_sem,fN,seval,true_implies,false_implies,implies_true,dT,dF,nL,hv2];(try with_reducible refine iC ?_);refine Hf (F2 e3 e4) ?_;refine AE ⟨t.knots.length-(k+1),by omega,k+1,by omega,rfl,g1 hc1,?_⟩;simp only[go_sem,fN,seval,eT,iR,e3,e4];congr 3
 ·refine Hg ?_;simp only[go_sem,fN,seval,AQ,AS.result,AB,AD,AM];rw[List.take_of_length_le (by omega)]at h0;rw[hm,←hc,h0]
def Bq(a b:Tm):Int:=if a.may=0 then b.may else a.may
theorem X5(t u:Tm):AW Tryz.prog 52 [aTm t,aTm u] (AO (Bq t u)):=by
 refine Ri.ac fun C hC=>?_;unfold LD;repeat' first|refine Hg ?_|refine Mm fun K hK=>?_
 refine⟨_,Pc t,?_⟩;by_cases h:t.may=0
 ·refine Hf h ?_;with_reducible refine Wp ?_
  simp only[go_sem,fN,seval,true_implies,false_implies,implies_true,dT,dF,nL,h];(try with_reducible refine iC ?_);repeat' first|refine Hg ?_|refine Mm fun K hK=>?_|refine Cg _ (Pc u) ?_
  simp only[go_sem,fN,seval,AQ,AS.result,AB,AD,AM];rw[Bq,if_pos h]
 ·refine Hf h ?_;with_reducible refine Wp ?_
  simp only[go_sem,fN,seval,true_implies,false_implies,implies_true,dT,dF,nL,h];(try with_reducible refine iC ?_);refine Hg ?_;simp only[go_sem,fN,seval,AQ,AS.result,AB,AD,AM];rw[Bq,if_neg h]
theorem AAi(x:ByteArray)(l:List ByteArray):AW Tryz.prog 51 [Bs x,Bn l] (AZ (Dt x l)):=by
 refine Z7.ac fun C hC=>?_;unfold Vb;refine IWP.learn 1 (by omega) fun hkn=>?_;have hkn:=DT hkn;rw[List.length_map]at hkn;refine Hg ?_;refine IWP.loop (fun n s=>∃k,k≤l.length∧n=l.length-k∧Dt x (l.take k)=false∧s.env 0=Bs x∧s.env 1=Bn l∧s.env 5=AO k) l.length ⟨0,Nat.zero_le _,rfl,rfl,rfl,rfl,rfl⟩ ?_;rintro n ⟨env,S⟩ ⟨k,hk,rfl,h0,e0,e1,e5⟩;simp only at e0 e1 e5;refine Hf (F3 e0 e1 e5) ?_;with_reducible refine Wp ?_
 simp only[go_sem,fN,seval,true_implies,false_implies,implies_true,dT,dF,nL];(try with_reducible refine iC ?_);refine⟨fun hlt=>?_,fun hge=>?_⟩
 ·obtain⟨a,ha⟩:=Aa (show k<l.length by omega);refine Hf (F4 e0 e1 e5 ha) ?_;with_reducible refine Wp ?_
  simp only[go_sem,fN,seval,true_implies,false_implies,implies_true,dT,dF,nL];(try with_reducible refine iC ?_);refine⟨fun hb=>?_,fun hb=>?_⟩
  ·refine Hg ?_;simp only[go_sem,fN,seval,AQ,AS.result,AB,AD,AM];rw[C8.2 (by rw[←hb];exact AN ha)]
  ·refine Hf (F3 e0 e1 e5) ?_;refine AE ⟨l.length-(k+1),by omega,k+1,by omega,rfl,?_,?_⟩
   ·rw[Ab ha,Hz];rw[Hz]at h0;simp only[List.mem_append,List.mem_singleton,not_or];exact⟨h0,fun e=>hb e.symm⟩
   ·simp only[go_sem,fN,seval,eT,iR,e0,e1,e5];congr 3
 ·refine Hg ?_;simp only[go_sem,fN,seval,AQ,AS.result,AB,AD,AM];rw[List.take_of_length_le (by omega)]at h0;rw[h0]
theorem AAj(l:List ByteArray)(x:ByteArray):∃i:Int,AW Tryz.prog 98 [Bn l,Bs x] (AO i)∧(0≤i↔Dt x l=true):=by
 by_cases hin:Dt x l=true
 ·obtain⟨k0,hk0,hmin⟩:∃k,l[k]?=some x∧∀j,j<k→l[j]?≠some x:=by
   have hx:=C8.1 hin;have⟨k,hk⟩:=List.getElem?_of_mem hx;induction k using Nat.strongRecOn with
   | _ k ih =>
    by_cases h:∃j,j<k∧l[j]?=some x
    ·obtain⟨j,hj,hjx⟩:=h;exact ih j hj hjx
    ·exact⟨k,hk,fun j hj hjx=>h ⟨j,hj,hjx⟩⟩
  have hlt0:=B8 hk0;refine⟨k0,?_,by simp[hin]⟩;refine Ch.ac fun C hC=>?_;unfold B7;refine IWP.learn 0 (by omega) fun hkn=>?_;have hkn:=DT hkn;rw[List.length_map]at hkn;refine Hg ?_;refine IWP.loop (fun n s=>∃k,k≤k0∧n=k0-k∧s.env 0=Bn l∧s.env 1=Bs x∧s.env 7=AO l.length∧s.env 8=AO k) k0 ⟨0,Nat.zero_le _,rfl,rfl,rfl,rfl,rfl⟩ ?_;rintro n ⟨env,S⟩ ⟨k,hk,rfl,e0,e1,e7,e8⟩;simp only at e0 e1 e7 e8;have hlt:(k:Int)<l.length:=by omega
  refine Hf (F5 e0 e1 e7 e8 hlt) ?_;with_reducible refine Wp ?_
  simp only[go_sem,fN,seval,true_implies,false_implies,implies_true,dT,dF,nL,e0,e1,e7,e8,hlt];(try with_reducible refine iC ?_);obtain⟨a,ha⟩:=Aa (show k<l.length by omega);refine Hf (F5 e0 e1 e7 e8 ha) ?_;by_cases he:k=k0
  ·subst he;rw[hk0]at ha;cases ha;with_reducible refine Wp ?_
   simp only[go_sem,fN,seval,true_implies,false_implies,implies_true,dT,dF,nL];(try with_reducible refine iC ?_);refine Hf (F4 e0 e1 e7 e8) ?_;simp only[go_sem,fN,seval,AQ,AS.result,AB,AD,AM]
  ·have hne:¬x=a:=fun e=>hmin k (by omega) (by rw[ha,e]);with_reducible refine Wp ?_
   simp only[go_sem,fN,seval,true_implies,false_implies,implies_true,dT,dF,nL,hne];(try with_reducible refine iC ?_);refine Hf (F4 e0 e1 e7 e8) ?_;refine AE ⟨k0-(k+1),by omega,k+1,by omega,rfl,?_⟩;simp only[go_sem,fN,seval,eT,iR,e0,e1,e7,e8];congr 3
 ·rw[Bool.not_eq_true]at hin;refine⟨-1,?_,by simp[hin]⟩;refine Ch.ac fun C hC=>?_;unfold B7;refine IWP.learn 0 (by omega) fun hkn=>?_;have hkn:=DT hkn;rw[List.length_map]at hkn;refine Hg ?_;refine IWP.loop (fun n s=>∃k,k≤l.length∧n=l.length-k∧s.env 0=Bn l∧s.env 1=Bs x∧s.env 7=AO l.length∧s.env 8=AO k) l.length ⟨0,Nat.zero_le _,rfl,rfl,rfl,rfl,rfl⟩ ?_;rintro n ⟨env,S⟩ ⟨k,hk,rfl,e0,e1,e7,e8⟩;simp only at e0 e1 e7 e8;by_cases hlt:(k:Int)<l.length
  ·refine Hf (F5 e0 e1 e7 e8 hlt) ?_;with_reducible refine Wp ?_
   simp only[go_sem,fN,seval,true_implies,false_implies,implies_true,dT,dF,nL,e0,e1,e7,e8,hlt];(try with_reducible refine iC ?_);obtain⟨a,ha⟩:=Aa (show k<l.length by omega);have hne:¬x=a:=fun e=>by
    rw[Hz]at hin;exact hin (by rw[e];exact AN ha)
   refine Hf (F5 e0 e1 e7 e8 ha) ?_;with_reducible refine Wp ?_
   simp only[go_sem,fN,seval,true_implies,false_implies,implies_true,dT,dF,nL,hne];(try with_reducible refine iC ?_);refine Hf (F4 e0 e1 e7 e8) ?_;refine AE ⟨l.length-(k+1),by omega,k+1,by omega,rfl,?_⟩;simp only[go_sem,fN,seval,eT,iR,e0,e1,e7,e8];congr 3
  ·refine Hf (F5 e0 e1 e7 e8 hlt) ?_;with_reducible refine Wp ?_
   simp only[go_sem,fN,seval,true_implies,false_implies,implies_true,dT,dF,nL,e0,e1,e7,e8,hlt];(try with_reducible refine iC ?_);refine Hg ?_;simp only[go_sem,fN,seval,AQ,AS.result,AB,AD,AM]
theorem I1(l:List ByteArray)(x:ByteArray):AW Tryz.prog 68 [Bn l,Bs x] (AZ (Dt x l)):=by
 obtain⟨i,h1,h2⟩:=AAj l x;refine Dg.ac fun C hC=>?_;unfold CS;repeat' first|refine Hg ?_|refine Mm fun K hK=>?_|refine Cg _ (h1) ?_
 simp only[go_sem,fN,seval,AQ,AS.result,AB,AD,AM];congr 4;cases hi:Dt x l with
 | true=>exact decide_eq_true (h2.2 hi)
 | false =>
  refine decide_eq_false fun h=>?_;rw[h2.1 h]at hi;cases hi
mutual
def Tm.beq:Tm→Tm→Bool
 | .mk n xs,.mk m ys=>decide (n=m)&&Tm.beqL xs ys
def Tm.beqL:List Tm→List Tm→Bool
 | [],[]=>true
 | x::xs,y::ys=>x.beq y&&Tm.beqL xs ys
 | _,_=>false
end
mutual
theorem Tm.beq_iff:∀a b:Tm,a.beq b=true↔a=b
 | .mk n xs,.mk m ys=>by
  rw[Tm.beq,Bool.and_eq_true,Tm.beqL_iff xs ys,decide_eq_true_eq,Tm.mk.injEq]
theorem Tm.beqL_iff:∀xs ys:List Tm,Tm.beqL xs ys=true↔xs=ys
 | [],[]=>by simp[Tm.beqL]
 | x::xs,y::ys=>by rw[Tm.beqL,Bool.and_eq_true,Tm.beq_iff x y,Tm.beqL_iff xs ys,List.cons.injEq]
 | [],y::ys=>by simp[Tm.beqL]
 | x::xs,[]=>by simp[Tm.beqL]
end
theorem Tm.beq_refl(a:Tm):a.beq a=true:=(Tm.beq_iff a a).2 rfl
theorem Tm.eq_of{a b:Tm}(h1:a.name=b.name)(h2:a.args=b.args):a=b:=by
 cases a;cases b;simp only[Tm.name_mk,Tm.args_mk]at h1 h2;rw[h1,h2]
theorem H5(a b:Tm):AW Tryz.prog 19 [aTm a,aTm b] (AZ (a.beq b)):=by
 induction h:SizeOf.sizeOf a using Nat.strongRecOn generalizing a b with
 | _ N ih =>
 subst h;have hno:a≠b→a.beq b=false:=fun h=>by
  rw[←Bool.not_eq_true,Tm.beq_iff];exact h
 refine V8.ac fun C hC=>?_;unfold Ob;refine IWP.learn 0 (by omega) fun hkn=>?_;have hkn:=F_ hkn;by_cases hn:a.name=b.name
 ·by_cases hl:a.args.length=b.args.length
  ·have hl':(a.args.length:Int)=b.args.length:=by omega
   refine Hf (F2 hn hl') ?_;with_reducible refine Wp ?_
   simp only[go_sem,fN,seval,true_implies,false_implies,implies_true,dT,dF,nL,hn,hl'];(try with_reducible refine iC ?_);refine Hg ?_;refine IWP.loop (fun n s=>∃k,k≤a.args.length∧n=a.args.length-k∧a.args.take k=b.args.take k∧s.env 2=.one (.ptr 2 1 0 0)∧s.env 3=.one (.ptr 3 1 0 0)∧s.S 2=some (.box 37 [.st (.str b.name),.st (.list (a.args.map Al))])∧s.S 3=some (.box 37 [.st (.str b.name),.st (.list (b.args.map Al))])∧s.env 5=AO k) a.args.length ⟨0,Nat.zero_le _,rfl,rfl,rfl,rfl,rfl,rfl,rfl⟩ ?_;rintro n ⟨env,S⟩ ⟨k,hk,rfl,h0,e2,e3,s2,s3,e5⟩;simp only at e2 e3 s2 s3 e5;refine Hf (F5 e2 e3 s2 s3 e5) ?_;with_reducible refine Wp ?_
   simp only[go_sem,fN,seval,true_implies,false_implies,implies_true,dT,dF,nL];(try with_reducible refine iC ?_);refine⟨fun hlt=>?_,fun hge=>?_⟩
   ·obtain⟨x,hx⟩:=Aa (show k<a.args.length by omega);obtain⟨y,hy⟩:=Aa (show k<b.args.length by omega);repeat' first|refine Hf (F7 e2 e3 s2 s3 e5 hx hy) ?_|refine Mm fun K hK=>?_|refine Cg _ (ih _ (Tm.lt_of_arg (AN hx)) x y rfl) ?_
    cases hxy:x.beq y with
    | false =>
     with_reducible refine Wp ?_
     simp only[go_sem,fN,seval,true_implies,false_implies,implies_true,dT,dF,nL];(try with_reducible refine iC ?_);refine Hg ?_;simp only[go_sem,fN,seval,AQ,AS.result,AB,AD,AM];rw[hno fun e=>by
      subst e;rw[hx]at hy;cases hy;rw[Tm.beq_refl]at hxy;cases hxy]
    | true =>
     have hxy:=(Tm.beq_iff x y).1 hxy;with_reducible refine Wp ?_
     simp only[go_sem,fN,seval,true_implies,false_implies,implies_true,dT,dF,nL];(try with_reducible refine iC ?_);refine Hf (F5 e2 e3 s2 s3 e5) ?_;refine AE ⟨a.args.length-(k+1),by omega,k+1,by omega,rfl,?_,?_⟩
     ·rw[Ab hx,Ab hy,h0,hxy]
     ·simp only[go_sem,fN,seval,eT,iR,e2,e3,s2,s3,e5];congr 3
   ·refine Hg ?_;simp only[go_sem,fN,seval,AQ,AS.result,AB,AD,AM];rw[List.take_of_length_le (by omega),List.take_of_length_le (by omega)]at h0;rw[Tm.eq_of hn h0,Tm.beq_refl]
  ·have hl':¬(a.args.length:Int)=b.args.length:=by omega
   refine Hf (F2 hn hl') ?_;with_reducible refine Wp ?_
   simp only[go_sem,fN,seval,true_implies,false_implies,implies_true,dT,dF,nL,hn,hl'];(try with_reducible refine iC ?_);refine Hg ?_;simp only[go_sem,fN,seval,AQ,AS.result,AB,AD,AM];rw[hno fun e=>hl (by rw[e])]
 ·refine Hf hn ?_;with_reducible refine Wp ?_
  simp only[go_sem,fN,seval,true_implies,false_implies,implies_true,dT,dF,nL,hn];(try with_reducible refine iC ?_);refine Hg ?_;simp only[go_sem,fN,seval,AQ,AS.result,AB,AD,AM];rw[hno fun e=>hn (by rw[e])]
def Tm.nil:Tm:=.mk ⟨#[]⟩ []

theorem Fa{ts:List ByteArray}:∀x∈ts.map CV,x.length=1:=by
 intro x hx;obtain⟨a,_,rfl⟩:=List.mem_map.1 hx;rfl
theorem Ny(t:Tm)(hz:t.size≤1000000):AW Tryz.prog 60 [aTm t] (Bn t.varsOf):=by
 have hl:=Tm.knots_length t;refine Sx.ac fun C hC=>?_;unfold LZ;repeat' first|refine Hg ?_|refine Mm fun K hK=>?_|refine Cg _ (Ei t hz) ?_
 refine IWP.ghost (AY.own 4 37 9 1 (xs:=([]:List ByteArray).map CV) rfl rfl Fa (by omega)) ?_;refine IWP.loopD [] (fun m s=>∃k,k≤t.knots.length∧m=t.knots.length-k∧s.env 3=CJ t.knots∧s.env 4=.one (.row 37 (Aj [] (t.knots.take k)).length)∧s.S 37=some (.arow 9 1 ((Aj [] (t.knots.take k)).map CV))∧s.env 5=AO k)
  t.knots.length ⟨0,Nat.zero_le _,rfl,rfl,rfl,rfl,rfl⟩ ?_
 rintro m ⟨env,S⟩ ⟨k,hk,rfl,e3,e4,s37,e5⟩;simp only at e3 e4 s37 e5;have hlen:=Do (t.knots.take k) [];rw[List.length_take,List.length_nil]at hlen;by_cases hlt:(k:Int)<t.knots.length
 ·obtain⟨a,ha⟩:=Aa (show k<t.knots.length by omega);refine Hf (F5 e3 e4 s37 e5 hlt) ?_;with_reducible refine Wp ?_
  simp only[go_sem,fN,seval,true_implies,false_implies,implies_true,dT,dF,nL,hlt];(try with_reducible refine iC ?_);repeat' first|refine Hf (F5 e3 e4 s37 e5 ha) ?_|refine Mm fun K hK=>?_
  refine⟨_,BN _,?_⟩;have hstep:Aj [] (t.knots.take (k+1))=BM (Aj [] (t.knots.take k)) a.name:=by rw[Ab ha,QL]
  cases hv:AP a.name with
  | false =>
   rw[Kn hv]at hstep;refine Hf (F5 e3 e4 s37 e5 ha) ?_;with_reducible refine Wp ?_
   simp only[go_sem,fN,seval,true_implies,false_implies,implies_true,dT,dF,nL];(try with_reducible refine iC ?_);refine Hf (F4 e3 e4 s37 e5) ?_;refine AE ⟨t.knots.length-(k+1),by omega,k+1,by omega,rfl,?_⟩;simp only[go_sem,fN,seval,AS.drop,AT,AC.clears,AC.clear,AC.highs,AC.high,zD,AV.purge,AV.purges,AC.purge,AJ.purge,Nat.reduceBEq,eT,iR,e3,e4,s37,e5,hstep];congr 3
  | true =>
   refine Hf (F5 e3 e4 s37 e5 ha) ?_;refine⟨_,AAi _ _,?_⟩;cases hi:Dt a.name (Aj [] (t.knots.take k)) with
   | true =>
    rw[Fe hi]at hstep;refine Hf (F4 e3 e4 s37 e5) ?_;with_reducible refine Wp ?_
    simp only[go_sem,fN,seval,true_implies,false_implies,implies_true,dT,dF,nL];(try with_reducible refine iC ?_);refine Hf (F4 e3 e4 s37 e5) ?_;refine AE ⟨t.knots.length-(k+1),by omega,k+1,by omega,rfl,?_⟩;simp only[go_sem,fN,seval,AS.drop,AT,AC.clears,AC.clear,AC.highs,AC.high,zD,AV.purge,AV.purges,AC.purge,AJ.purge,Nat.reduceBEq,eT,iR,e3,e4,s37,e5,hstep];congr 3
   | false =>
    rw[GW hv hi]at hstep;refine Hf (F4 e3 e4 s37 e5) ?_;with_reducible refine Wp ?_
    simp only[go_sem,fN,seval,true_implies,false_implies,implies_true,dT,dF,nL];(try with_reducible refine iC ?_);refine Hf (F5 e3 e4 s37 e5 ha) ?_;refine AE ⟨t.knots.length-(k+1),by omega,k+1,by omega,rfl,?_⟩;simp only[go_sem,fN,seval,AS.drop,AT,AC.clears,AC.clear,AC.highs,AC.high,zD,AV.purge,AV.purges,AC.purge,AJ.purge,Nat.reduceBEq,eT,iR,e3,e4,s37,e5,hstep];exact⟨by rw[List.map_append];rfl,by congr 3⟩
 ·refine Hf (F5 e3 e4 s37 e5 hlt) ?_;with_reducible refine Wp ?_
  simp only[go_sem,fN,seval,true_implies,false_implies,implies_true,dT,dF,nL,hlt];(try with_reducible refine iC ?_);refine Hf (F2 e4 s37) ?_;simp only[go_sem,fN,seval,AQ,AS.result,AB,AD,AM,e4,s37];rw[List.take_of_length_le (by omega)];rfl
theorem I7{α:Type}(f:Nat→α)(i:Nat)(a b:α):AI (AI f i a) i b=AI f i b:=by
 funext k;unfold AI;split <;> rfl
theorem Pb{α:Type}(f:Nat→α){i j:Nat}(h:¬i=j)(a b:α):AI (AI f i a) j b=AI (AI f j b) i a:=by
 funext k;unfold AI;split
 ·rename_i e;subst e;rw[if_neg (fun e=>h e.symm)]
 ·rfl
theorem Ot(t:Tm)(hz:t.size≤1000000)
  (ih:∀a∈t.args,∀(i:Nat) (l:List ByteArray) (S:AA),1000≤i→l.length+a.size≤3000000→S i=some (.arow 9 1 (l.map CV)) →
   Ah Tryz.prog 124 [aTm a,.one (.row i l.length)] S (.one (.row i (Aj l a.knots).length)) (AI S i (some (.arow 9 1 ((Aj l a.knots).map CV)))))
  (C:Ctx) (hC:C.n=34) (i:Nat) (hi:20<i) (l:List ByteArray) (hlz:l.length+t.size≤3000000) (S:AA) (hS:Ay S) (env:Nat→AV) (e0:env 0=aTm t) (e1:env 1=.one (.row i l.length))
  (Q:AX→AS→Prop) (hQ:∀env',env' 4=.one (.row i (Aj l t.knots).length)→Q .ret ⟨env',AI (AI S 2 (some (.box 37 [.st (.str t.name),.st (.list (t.args.map Al))]))) i (some (.arow 9 1 ((Aj l t.knots).map CV)))⟩) :
  IWP Tryz.prog C [31] GS Q ⟨env,AI S i (some (.arow 9 1 (l.map CV)))⟩:=by
 have hs:=Tm.size_eq t;have hk:=Tm.knots_eq t;have hc2:=AK hS (i:=2) (by omega);have hc6:=AK hS (i:=6) (by omega);have hi2:¬2=i:=by omega
 have hi6:¬6=i:=by omega
 have hi2':¬i=2:=by omega
 have hi6':¬i=6:=by omega
 unfold GS;have hlk:∀k,(Aj (BM l t.name) (Tm.knotsL (t.args.take k))).length≤l.length+1+Tm.sizes (t.args.take k):=fun k=>by
  have h1:=Do (Tm.knotsL (t.args.take k)) (BM l t.name);have h2:=IZ l t.name;have h3:=Tm.knotsL_length (t.args.take k);omega
 repeat' first|refine Hf (F7 e0 e1 hc2 hi2 hi6 hi2' hi6') ?_|refine Mm fun K hK=>?_
 refine⟨_,Az _,?_⟩;rcases(show AP t.name=false∨(AP t.name=true∧Dt t.name l=true)∨(AP t.name=true∧Dt t.name l=false) by cases AP t.name <;> cases Dt t.name l <;> simp) with hv|⟨hv,hin⟩|⟨hv,hin⟩
 case' inl =>
  have hl1:=Kn (l:=l) hv;refine Hf (F5 e0 e1 hv hi2 hi2') ?_;with_reducible refine Wp ?_
  simp only[go_sem,fN,seval,true_implies,false_implies,implies_true,dT,dF,nL,hv];(try with_reducible refine iC ?_);refine Hf (F4 e0 e1 hi2 hi2') ?_
 case' inr.inl =>
  have hl1:=Fe (l:=l) hin;repeat' first|refine Hf (F6 e0 e1 hv hi2 hi2' hin) ?_|refine Mm fun K hK=>?_|refine Cg _ (I1 _ _) ?_
  with_reducible refine Wp ?_
  simp only[go_sem,fN,seval,true_implies,false_implies,implies_true,dT,dF,nL,hv];(try with_reducible refine iC ?_);refine Hf (F4 e0 e1 hi2 hi2') ?_
 case' inr.inr =>
  have hl1:=GW (l:=l) hv hin;repeat' first|refine Hf (F6 e0 e1 hv hi2 hi2' hin) ?_|refine Mm fun K hK=>?_|refine Cg _ (I1 _ _) ?_
  with_reducible refine Wp ?_
  simp only[go_sem,fN,seval,true_implies,false_implies,implies_true,dT,dF,nL,hv];(try with_reducible refine iC ?_);refine Hf (F4 e0 e1 hi2 hi2') ?_
 all_goals
  refine IWP.loopD [6] (fun m s=>∃k,k≤t.args.length∧m=t.args.length-k∧s.env 1=.one (.row i (Aj (BM l t.name) (Tm.knotsL (t.args.take k))).length)∧s.env 23=.one (.st (.list (t.args.map Al)))∧s.env 24=AO t.args.length∧s.env 25=AO k∧s.S=AI (AI S 2 (some (.box 37 [.st (.str t.name),.st (.list (t.args.map Al))]))) i (some (.arow 9 1 ((Aj (BM l t.name) (Tm.knotsL (t.args.take k))).map CV)))) t.args.length ⟨0,Nat.zero_le _,rfl,?_,rfl,rfl,rfl,?_⟩ ?_
  ·show _=AV.one (.row i (BM l t.name).length)
   rw[hl1];simp only[go_sem,fN,seval,eT,iR,e1]
  ·show _=AI (AI S 2 _) i (some (.arow 9 1 ((BM l t.name).map CV)))
   rw[hl1];first
    | (simp only[I7];exact Pb _ hi2' _ _)
    | (simp only[Pb _ hi2',I7,List.map_append];rfl)
  rintro m ⟨env',S'⟩ ⟨k,hk',rfl,e1',e23,e24,e25,hS'⟩;simp only at e1' e23 e24 e25 hS';have s6:S' 6=none:=by rw[hS',AH _ hi6,AH _ (by omega),hc6]
  have si:S' i=some (.arow 9 1 ((Aj (BM l t.name) (Tm.knotsL (t.args.take k))).map CV)):=by rw[hS',AG]
  have hlk':=hlk k;have z3:=Tm.length_le t.args;by_cases hlt:(k:Int)<t.args.length
  ·obtain⟨a,ha⟩:=Aa (show k<t.args.length by omega);have z1:=Tm.sizes_take ha;have z2:=Tm.sizes_take_le t.args (k+1);refine Hf (F7 e1' e23 e24 e25 s6 si hlt) ?_;with_reducible refine Wp ?_
   simp only[go_sem,fN,seval,true_implies,false_implies,implies_true,dT,dF,nL,e1',e23,e24,e25,s6,si,hlt];(try with_reducible refine iC ?_);repeat' first|refine Hf (F7 e1' e23 e24 e25 s6 si ha) ?_|refine Mm fun K hK=>?_
   have hni:([6]:List Nat).contains i=false:=by simp;omega
   refine⟨_,_,ih a (AN ha) (up1 i) _ _ (Ap i) (by omega) (by rw[Ax,AH _ hi6',AH _ hi6',si];rfl),?_⟩;repeat' first|refine Hf (F3 e23 e24 e25) ?_|refine Mm fun K hK=>?_
   refine AE ⟨t.args.length-(k+1),by omega,k+1,by omega,rfl,?_⟩;have hib:(i==6)=false:=by simp;omega
   simp only[go_sem,fN,seval,AS.drop,AC.clears,AC.clear,AC.highs,AC.high,zD,AV.purge,AV.purges,AC.purge,AJ.purge,Nat.reduceBEq,eT,iR,e23,e24,hib];rw[Tm.knotsL_take ha,HS];refine⟨rfl,by congr 3,?_⟩;rw[K5 hni,TG rfl,TG rfl,hS',K5 hni,K5 rfl,Sg (by decide) hS,I7];rfl
  ·refine Hf (F5 e1' e23 e24 e25 hlt) ?_;with_reducible refine Wp ?_
   simp only[go_sem,fN,seval,true_implies,false_implies,implies_true,dT,dF,nL,e1',e23,e24,e25,hlt];(try with_reducible refine iC ?_);refine Hf e1' ?_;rw[hS'];have hfin:Aj (BM l t.name) (Tm.knotsL (t.args.take k))=Aj l t.knots:=by rw[List.take_of_length_le (by omega),hk];rfl
   rw[hfin];refine hQ _ ?_;simp only[go_sem,fN,seval,eT,iR]
theorem XE{α:Type}{f:Nat→α}{i:Nat}{a:α}(h:f i=a):AI f i a=f:=by
 funext k;unfold AI;split
 ·rename_i e;rw[e,h]
 ·rfl
theorem X1(t:Tm)(hz:t.size≤1000000):∀(i:Nat) (l:List ByteArray) (S:AA),1000≤i→l.length+t.size≤3000000→S i=some (.arow 9 1 (l.map CV)) →
   Ah Tryz.prog 124 [aTm t,.one (.row i l.length)] S (.one (.row i (Aj l t.knots).length)) (AI S i (some (.arow 9 1 ((Aj l t.knots).map CV)))):=by
 induction h:SizeOf.sizeOf t using Nat.strongRecOn generalizing t with
 | _ N ih =>
 subst h;have hs:=Tm.size_eq t;intro i l S hi hl hSi;refine JQ.acS fun hS C hC=>?_;have hcore:=Ot t hz (fun a ha=>ih _ (Tm.lt_of_arg ha) a (by have:=Tm.size_mem ha;omega) rfl) C hC i (by omega) l hl S hS (fun j=>([aTm t,.one (.row i l.length)][j]?).getD (.tup [])) rfl rfl
  (FR C [.t 4] (.one (.row i (Aj l t.knots).length)) (AI S i (some (.arow 9 1 ((Aj l t.knots).map CV))))) ?_
 ·rw[XE hSi]at hcore;exact hcore
 ·intro env' e4;have hc':Ay (AI S i (some (.arow 9 1 ((Aj l t.knots).map CV)))):=Bb hS hi rfl;refine Vl trivial ⟨_,AY.low (Y8 (Kx (by omega) fun k c _ hk=>(hS k c hk).2) rfl),?_,?_,hc'⟩
  ·simp only[AB,AD,AM,e4,AV.low,AV.high,AC.high,hi,decide_true,if_true,Option.map_some]
  ·show CP _=_
   rw[Ww _ hi,J8 _ (by omega),It hS]
theorem Yz(t:Tm)(hz:t.size≤1000000)(a0:Nat)(S:AA)(ha:1000≤a0)(hSa:S a0=none) :
   Ah Tryz.prog 124 [aTm t,.one (.full [])] S (.one (.row a0 (Aj [] t.knots).length)) (AI S a0 (some (.arow 9 1 ((Aj [] t.knots).map CV)))):=by
 have hs:=Tm.size_eq t;refine JQ.acS fun hS C hC=>?_;refine IWP.ghost (AY.own 1 21 9 1 (xs:=([]:List ByteArray).map CV) rfl (AK hS (by omega)) Fa (by omega)) ?_;refine Ot t hz (fun a ha=>X1 a (by have:=Tm.size_mem ha;omega)) C hC 21 (by omega) [] (by simp;omega) S hS _ rfl rfl _ ?_;intro env' e4;have hb:∀i b,1000≤i→AI (AI S 2 (some (.box 37 [.st (.str t.name),.st (.list (t.args.map Al))]))) 21 (some (.arow 9 1 ((Aj [] t.knots).map CV))) i=some b→b.high=true:=Kx (by omega) (Kx (by omega) fun k c _ hk=>(hS k c hk).2);refine Vl trivial ⟨_,AY.hand 21 a0 (b0:=.arow 9 1 ((Aj [] t.knots).map CV)) (by omega) ha (by show AI _ _ _ _=_;rw[AH _ (by omega),AH _ (by omega),hSa]) (by simp only[AG]) rfl hb,?_,?_,Bb hS ha rfl⟩
 ·simp only[AB,AD,AM,e4,AV.hand,AV.ren,AC.ren,Bm,if_true,AV.high,AC.high,ha,decide_true,Option.map_some]
 ·show AI (CP _) _ _=_
  rw[J8 _ (by omega),J8 _ (by omega),It hS]
theorem ABE(t:Tm)(hz:t.size≤1000000):AW Tryz.prog 104 [aTm t] (Bn t.varsOf):=by
 refine Qk.ac fun C hC=>?_;unfold JL;repeat' first|refine Hg ?_|refine Mm fun K hK=>?_
 refine⟨_,_,Yz t hz (up1 10) _ (Ap 10) (by rw[Ax];rfl),?_⟩;repeat' first|refine Hg ?_|refine Mm fun K hK=>?_
 simp only[go_sem,fN,seval,AQ,AS.result,AB,AD,AM];rfl
theorem KJ(t:Tm)(hz:t.size≤1000000):AW Tryz.prog 42 [aTm t] (aTm t):=by
 induction h:SizeOf.sizeOf t using Nat.strongRecOn generalizing t with
 | _ N ih =>
 subst h;have hs:=Tm.size_eq t;have hkn:=Tm.length_le t.args;refine Q0.ac fun C hC=>?_;unfold Jc;refine Hg ?_;refine IWP.ghost (AY.ownC 3 1 21 37 2 (xs:=([]:List Tm).map Al) rfl rfl rfl Cv) ?_;refine IWP.loopD [5] (fun m s=>∃k,k≤t.args.length∧m=t.args.length-k∧s.env 2=.one (.ptr 2 1 0 0)∧s.env 3=.one (.ptr 3 1 0 0)∧s.S 2=some (.box 37 [.st (.str ⟨#[]⟩),.full []])∧s.S 3=some (.box 37 [.st (.str t.name),.row 21 k])∧s.S 21=some (.arow 37 2 ((t.args.take k).map Al))∧s.env 10=.one (.st (.list (t.args.map Al)))∧s.env 11=AO t.args.length∧s.env 12=AO k∧s.S 5=none)
  t.args.length ⟨0,Nat.zero_le _,rfl,rfl,rfl,rfl,rfl,rfl,rfl,rfl,rfl,rfl⟩ ?_
 rintro m ⟨env,S⟩ ⟨k,hk,rfl,e2,e3,s2,s3,s21,e10,e11,e12,s5⟩;simp only at e2 e3 s2 s3 s21 e10 e11 e12 s5;have hlk:(t.args.take k).length=k:=by rw[List.length_take];omega
 by_cases hlt:(k:Int)<t.args.length
 ·obtain⟨a,ha⟩:=Aa (show k<t.args.length by omega);refine Hf (F10 e2 e3 s2 s3 s21 e10 e11 e12 s5 hlt) ?_;with_reducible refine Wp ?_
  simp only[go_sem,fN,seval,true_implies,false_implies,implies_true,dT,dF,nL,e10,e11,e12,hlt];(try with_reducible refine iC ?_);repeat' first|refine Hf (F11 e2 e3 s2 s3 s21 e10 e11 e12 s5 ha hlk) ?_|refine Mm fun K hK=>?_|refine Cg _ (ih _ (Tm.lt_of_arg (AN ha)) a (by have:=Tm.size_mem (AN ha);omega) rfl) ?_
  refine AE ⟨t.args.length-(k+1),by omega,k+1,by omega,rfl,?_⟩;simp only[go_sem,fN,seval,AS.drop,AT,AC.clears,AC.clear,AC.highs,AC.high,zD,AV.purge,AV.purges,AC.purge,AJ.purge,Nat.reduceBEq,eT,iR,e2,e3,s2,s3,s21,e10,e11,e12,s5];exact⟨by rw[Ab ha];simp[Ao],by congr 3⟩
 ·refine Hf (F10 e2 e3 s2 s3 s21 e10 e11 e12 s5 hlt) ?_;with_reducible refine Wp ?_
  simp only[go_sem,fN,seval,true_implies,false_implies,implies_true,dT,dF,nL,e10,e11,e12,hlt];(try with_reducible refine iC ?_);refine Hf (F9 e2 e3 s2 s3 s21 e10 e11 e12 s5) ?_;have hall:t.args.take k=t.args:=List.take_of_length_le (by omega);rw[hall]at hlk s21;simp only[go_sem,fN,seval,AQ,AS.result,AB,AD,AM,e2,s2,s21,hlk]

def YO(l:List UInt8):Nat:=l.foldl (fun v d=>v*10+(d.toNat-48)) 0
theorem XC(l:List UInt8)(d:UInt8):YO (l++[d])=YO l*10+(d.toNat-48):=by unfold YO;rw[List.foldl_append];rfl
theorem VP{k:Nat}(h:k<10):(UInt8.ofNat (48+k)).toNat-48=k:=by
 rw[UInt8.toNat_ofNat_of_lt' (by show _<256;omega)];omega
theorem SC(u:Nat):YO (Lib.decDigits u)=u:=by
 induction u using Nat.strongRecOn with
 | _ u ih =>
  by_cases h:u<10
  ·rw[Lib.decDigits,dif_pos h];show 0*10+_=u
   rw[VP h];omega
  ·rw[Lib.decDigits,dif_neg h,XC,ih _ (by omega),VP (Nat.mod_lt _ (by omega))];omega
def IA(n:Nat):ByteArray:=⟨(Lib.decDigits n).toArray⟩
theorem M_{n:Nat}(h:n<10):IA n=⟨#[UInt8.ofNat (48+n)]⟩:=by unfold IA;rw[Lib.decDigits,dif_pos h]
theorem Yt{n:Nat}(h:¬n<10):IA n=IA (n / 10)++IA (n % 10):=by
 rw[M_ (n:=n % 10) (Nat.mod_lt _ (by omega))];unfold IA;conv=>lhs;rw[Lib.decDigits,dif_neg h]
 apply ByteArray.ext;simp
def DS(k:Nat):ByteArray:=⟨#[90]⟩++IA (k+1)
def LK(k:Nat):Tm:=.mk (DS k) []
theorem Iq(k:Nat):(DS k).data.toList=90::Lib.decDigits (k+1):=by
 unfold DS IA;simp
theorem Ql{u k:Nat}(h:u<10^k)(hk:1≤k):Lib.nDigits u≤k:=by
 induction k generalizing u with
 | zero=>omega
 | succ k ih =>
  by_cases h1:u<10
  ·rw[Lib.nDigits_small h1];omega
  ·rw[Lib.nDigits_big h1];have:1≤k:=by
    rcases Nat.eq_zero_or_pos k with h0|h0
    ·subst h0;rw[Nat.zero_add,Nat.pow_one]at h;omega
    ·exact h0
   have:=ih (u:=u / 10) (by rw[Nat.pow_succ]at h;omega) this;omega
theorem XN(n:Nat):(IA n).size=Lib.nDigits n:=by
 show(Lib.decDigits n).toArray.size=_
 rw[List.size_toArray,Lib.decDigits_length]
theorem Cl{n:Nat}(h:n<1000000):(IA n).size≤6:=by rw[XN];exact Ql (k:=6) (by omega) (by omega)
theorem HT(u:Nat):∀d∈Lib.decDigits u,48≤d.toNat∧d.toNat≤57:=by
 induction u using Nat.strongRecOn with
 | _ u ih =>
  by_cases h:u<10
  ·rw[Lib.decDigits,dif_pos h];intro d hd;rw[List.mem_singleton]at hd;subst hd;rw[UInt8.toNat_ofNat_of_lt' (by show _<256;omega)];omega
  ·rw[Lib.decDigits,dif_neg h];intro d hd;rcases List.mem_append.1 hd with hd|hd
   ·exact ih _ (by omega) d hd
   ·rw[List.mem_singleton]at hd;subst hd;rw[UInt8.toNat_ofNat_of_lt' (by show _<256;omega)];omega
theorem Xx(k:Nat):Ar (DS k) 0=90:=by
 unfold Ar;rw[Iq];rfl
theorem Mj(k:Nat):(DS k).size=1+Lib.nDigits (k+1):=by
 have:(DS k).size=(DS k).data.toList.length:=by
  show(DS k).data.size=_
  rw[Array.length_toList]
 rw[this,Iq,List.length_cons,Lib.decDigits_length];omega
theorem Yd{k:Nat}(h:k+1<1000000):BA (DS k)=true:=by
 have h6:=Ql (u:=k+1) (k:=6) (by omega) (by omega);unfold BA;rw[Xx,Mj,decide_eq_true (show 1≤1+Lib.nDigits (k+1) by omega),decide_eq_true (show 1+Lib.nDigits (k+1)≤8 by omega)];have:CH (DS k) (1+Lib.nDigits (k+1))=true:=by
  unfold CH;rw[Iq];refine List.all_eq_true.2 fun c hc=>?_;have hc:=List.mem_of_mem_take hc;rcases List.mem_cons.1 hc with rfl|hc
  ·decide
  ·have:=HT _ c hc;unfold BS;rw[decide_eq_true (show 48≤(c.toNat:Int)∧(c.toNat:Int)≤57 by omega),Bool.or_true]
 rw[this];decide
theorem WF{k:Nat}(h:k+1<1000000):(LK k).chk=0:=TI (Yd h)
def Xn(n:ByteArray)(xs:List Tm)(b:Tm):Prop:=AP n=false∧n=b.name∧xs.length=b.args.length
instance(n:ByteArray)(xs:List Tm)(b:Tm):Decidable (Xn n xs b):=by unfold Xn;infer_instance
def ABt(l m:List Pr):Prop:=∃r,m=l++r
theorem ABt.refl(l:List Pr):ABt l l:=⟨[],by simp⟩


def Ba:List ByteArray→ByteArray→Nat
 | [],_=>0
 | x::l,n=>if x=n then 0 else Ba l n+1
def CE(l:List ByteArray)(n:ByteArray):List ByteArray:=if Ba l n<l.length then l else l++[n]
theorem U5(l:List ByteArray)(n:ByteArray):Ba l n≤l.length:=by
 induction l with
 | nil=>exact Nat.le_refl _
 | cons p l ih=>rw[Ba];split <;> simp;omega
theorem EH{l:List ByteArray}{n:ByteArray}:Ba l n<l.length↔n∈l:=by
 induction l with
 | nil=>simp[Ba]
 | cons x l ih =>
  rw[Ba];by_cases e:x=n
  ·rw[if_pos e];simp[e]
  ·rw[if_neg e,List.length_cons,List.mem_cons];constructor
   ·intro h;exact .inr (ih.1 (by omega))
   ·rintro(h|h)
    ·exact absurd h.symm e
    ·have:=ih.2 h;omega
theorem LR{l m:List ByteArray}{n:ByteArray}(h:Ba l n<l.length):Ba (l++m) n=Ba l n:=by
 induction l with
 | nil=>simp[Ba]at h
 | cons x l ih =>
  rw[Ba]at h;rw[List.cons_append,Ba,Ba];by_cases e:x=n
  ·rw[if_pos e,if_pos e]
  ·rw[if_neg e]at h;rw[if_neg e,if_neg e,ih (by simpa using h)]
theorem Hy{l:List ByteArray}{n:ByteArray}(h:¬Ba l n<l.length):Ba (l++[n]) n=l.length:=by
 induction l with
 | nil=>simp[Ba]
 | cons x l ih =>
  rw[Ba]at h;rw[List.cons_append,Ba];by_cases e:x=n
  ·rw[if_pos e]at h;simp at h
  ·rw[if_neg e]at h;rw[if_neg e,ih (by simpa using h),List.length_cons]
theorem R_{l:List ByteArray}{n:ByteArray}(hv:AP n=true):CE l n=BM l n:=by
 unfold CE;by_cases h:n∈l
 ·rw[if_pos (EH.2 h),Fe (C8.2 h)]
 ·rw[if_neg (fun k=>h (EH.1 k)),GW hv (Hz.2 h)]
mutual
def Tm.cn:Tm→List ByteArray→Tm×List ByteArray
 | .mk n xs,l=>if AP n=true then(LK (Ba l n),CE l n) else(.mk n (Tm.cnL xs l).1,(Tm.cnL xs l).2)
def Tm.cnL:List Tm→List ByteArray→List Tm×List ByteArray
 | [],l=>([],l)
 | x::xs,l=>((x.cn l).1::(Tm.cnL xs (x.cn l).2).1,(Tm.cnL xs (x.cn l).2).2)
end
theorem ABO{t:Tm}{l:List ByteArray}(h:AP t.name=true):t.cn l=(LK (Ba l t.name),CE l t.name):=by
 cases t with
 | mk n xs =>
  have h:AP n=true:=h;rw[Tm.cn,if_pos h];rfl
theorem AAG{t:Tm}{l:List ByteArray}(h:AP t.name=false):t.cn l=(.mk t.name (Tm.cnL t.args l).1,(Tm.cnL t.args l).2):=by
 cases t with
 | mk n xs =>
  have h:AP n=false:=h;rw[Tm.cn,if_neg (by rw[h];simp)];rfl
theorem NQ:∀(xs ys:List Tm) (l:List ByteArray),Tm.cnL (xs++ys) l=((Tm.cnL xs l).1++(Tm.cnL ys (Tm.cnL xs l).2).1,(Tm.cnL ys (Tm.cnL xs l).2).2)
 | [],ys,l=>by simp[Tm.cnL]
 | x::xs,ys,l=>by
  simp only[List.cons_append,Tm.cnL];rw[NQ xs ys]
theorem NL{xs:List Tm}{k:Nat}{x:Tm}{l:List ByteArray}(hx:xs[k]?=some x):Tm.cnL (xs.take (k+1)) l=((Tm.cnL (xs.take k) l).1++[(x.cn (Tm.cnL (xs.take k) l).2).1],(x.cn (Tm.cnL (xs.take k) l).2).2):=by
 rw[Ab hx,NQ];simp[Tm.cnL]
theorem Qp:∀(xs:List Tm) (l:List ByteArray),(Tm.cnL xs l).1.length=xs.length
 | [],l=>rfl
 | x::xs,l=>by simp only[Tm.cnL,List.length_cons];rw[Qp xs]
def CK(k:Nat):List ByteArray→List Bd
 | []=>[]
 | n::l=>(n,LK k)::CK (k+1) l
theorem FQ:∀(l:List ByteArray) (k:Nat) (n:ByteArray),lookup (CK k l) n=if Ba l n<l.length then some (LK (k+Ba l n)) else none
 | [],k,n=>by simp[CK,Ix,Ba]
 | x::l,k,n=>by
  rw[CK,Ha,Ba];by_cases e:x=n
  ·rw[if_pos e,if_pos e];simp
  ·rw[if_neg e,if_neg e,FQ l (k+1) n,List.length_cons];by_cases h:Ba l n<l.length
   ·rw[if_pos h,if_pos (by omega)];congr 2;omega
   ·rw[if_neg h,if_neg (by omega)]
theorem Lg:∀(l:List ByteArray) (k:Nat) (n:ByteArray),CK k (l++[n])=CK k l++[(n,LK (k+l.length))]
 | [],k,n=>by simp[CK]
 | x::l,k,n=>by
  rw[List.cons_append,CK,Lg l (k+1) n,CK,List.cons_append,List.length_cons,show k+1+l.length=k+(l.length+1) by omega]
theorem NY:∀(l:List ByteArray) (k:Nat),(CK k l).length=l.length
 | [],_=>rfl
 | n::l,k=>by rw[CK,List.length_cons,List.length_cons,NY l]
def HR(l m:List ByteArray):Prop:=∃r,m=l++r
theorem HR.trans{a b c:List ByteArray}(h:HR a b)(k:HR b c):HR a c:=by
 obtain⟨r,rfl⟩:=h;obtain⟨q,rfl⟩:=k;exact⟨r++q,by simp⟩
theorem XK(l:List ByteArray)(n:ByteArray):HR l (CE l n):=by
 unfold CE;split
 ·exact⟨[],by simp⟩
 ·exact⟨_,rfl⟩
mutual
theorem AAr:∀(t:Tm) (l:List ByteArray),HR l (t.cn l).2
 | .mk n xs,l=>by
  rw[Tm.cn];split
  ·exact XK l n
  ·exact Nn xs l
theorem Nn:∀(xs:List Tm) (l:List ByteArray),HR l (Tm.cnL xs l).2
 | [],l=>⟨[],by simp[Tm.cnL]⟩
 | x::xs,l=>by
  simp only[Tm.cnL];exact(AAr x l).trans (Nn xs _)
end
theorem V0{l m:List ByteArray}{n:ByteArray}(hg:HR (CE l n) m):Ba m n=Ba l n∧Ba m n<m.length:=by
 obtain⟨r,rfl⟩:=hg;unfold CE;by_cases h:Ba l n<l.length
 ·rw[if_pos h,LR h,List.length_append];exact⟨rfl,by omega⟩
 ·rw[if_neg h,LR (by rw[Hy h];simp),Hy h];have:=U5 l n;refine⟨by omega,by rw[List.length_append,List.length_append,List.length_singleton];omega⟩
mutual
theorem Nd:∀(t:Tm),t.chk=0→∀l,(t.cn l).2=Aj l t.knots
 | .mk n xs,hc,l=>by
  obtain⟨c1,c2⟩:=Tm.chk_args hc;simp only[Tm.name_mk,Tm.args_mk]at c1 c2;have hk:Aj l (Tm.mk n xs).knots=Aj (BM l n) (Tm.knotsL xs):=rfl;rw[hk,Tm.cn];cases hv:AP n with
  | true =>
   have h0:=c1 hv;subst h0;rw[if_pos rfl];exact R_ hv
  | false =>
   rw[if_neg (by simp),Kn hv];exact Kc xs c2 l
theorem Kc:∀(xs:List Tm),(∀x∈xs,x.chk=0)→∀l,(Tm.cnL xs l).2=Aj l (Tm.knotsL xs)
 | [],_,l=>rfl
 | x::xs,hc,l=>by
  simp only[Tm.cnL];rw[Kc xs (fun a ha=>hc a (by simp[ha])),Nd x (hc x (by simp)),Tm.knotsL,HS]
end
mutual
theorem Yb:∀(t:Tm),t.chk=0→∀l m,(∀n∈m,AP n=true)→HR (t.cn l).2 m→(t.cn l).1=t.on (CK 0 m)
 | .mk n xs,hc,l,m,hm,hg=>by
  obtain⟨c1,c2⟩:=Tm.chk_args hc;simp only[Tm.name_mk,Tm.args_mk]at c1 c2;rw[Tm.cn]at hg ⊢;cases hv:AP n with
  | true =>
   have h0:=c1 hv;subst h0;rw[hv,if_pos rfl]at hg;rw[if_pos rfl];obtain⟨p1,p2⟩:=V0 (show HR (CE l n) m from hg);rw[Tm.on_leaf (t:=.mk n []) (x:=LK (Ba l n)) (by rw[Tm.name_mk,FQ,if_pos p2,p1,Nat.zero_add]) rfl]
  | false =>
   rw[hv,if_neg (by simp)]at hg;rw[if_neg (by simp)];have hl:lookup (CK 0 m) n=none:=by
    rw[FQ,if_neg];intro h;have:=hm n (EH.1 h);rw[hv]at this;cases this
   rw[Tm.on_knot (t:=.mk n xs) (.inl hl),Tm.name_mk,Tm.args_mk,Uc xs c2 l m hm hg]
theorem Uc:∀(xs:List Tm),(∀x∈xs,x.chk=0)→∀l m,(∀n∈m,AP n=true)→HR (Tm.cnL xs l).2 m→(Tm.cnL xs l).1=xs.map (Tm.on (CK 0 m))
 | [],_,l,m,_,_=>rfl
 | x::xs,hc,l,m,hm,hg=>by
  simp only[Tm.cnL]at hg ⊢;rw[List.map_cons,Yb x (hc x (by simp)) l m hm ((Nn xs _).trans hg),Uc xs (fun a ha=>hc a (by simp[ha])) _ m hm hg]
end
theorem Rq(l:List ByteArray)(n:ByteArray):(CE l n).length≤l.length+1:=by unfold CE;split <;> simp
mutual
theorem Gb:∀(t:Tm) (l:List ByteArray),(t.cn l).2.length≤l.length+t.size
 | .mk n xs,l=>by
  rw[Tm.cn,Tm.size];split
  ·have:=Rq l n;show(CE l n).length≤_
   omega
  ·have:=Cs xs l;show(Tm.cnL xs l).2.length≤_
   omega
theorem Cs:∀(xs:List Tm) (l:List ByteArray),(Tm.cnL xs l).2.length≤l.length+Tm.sizes xs
 | [],l=>by simp[Tm.cnL]
 | x::xs,l=>by
  simp only[Tm.cnL,Tm.sizes];have h1:=Gb x l;have h2:=Cs xs (x.cn l).2;omega
end
theorem GH(ks:List Tm):∀l:List ByteArray,(∀n∈l,AP n=true)→∀n∈Aj l ks,AP n=true:=by
 induction ks with
 | nil=>exact fun l h=>h
 | cons k ks ih =>
  intro l h;have e:Aj l (k::ks)=Aj (BM l k.name) ks:=rfl;rw[e];refine ih _ fun n hn=>?_;unfold BM at hn;split at hn
  ·rename_i h1;rcases List.mem_append.1 hn with h2|h2
   ·exact h n h2
   ·rw[List.mem_singleton.1 h2];rw[Bool.and_eq_true]at h1;exact h1.1
  ·exact h n hn
theorem HO(t:Tm):∀n∈t.varsOf,AP n=true:=GH _ [] (by simp)
theorem OC(ks:List Tm):∀l:List ByteArray,l.Nodup→(Aj l ks).Nodup:=by
 induction ks with
 | nil=>exact fun l h=>h
 | cons k ks ih =>
  intro l h;have e:Aj l (k::ks)=Aj (BM l k.name) ks:=rfl;rw[e];refine ih _ ?_;unfold BM;split
  ·rename_i h1;rw[Bool.and_eq_true,Bool.not_eq_true']at h1;have h2:=Hz.1 h1.2;rw[List.nodup_append];exact⟨h,by simp,fun a ha b hb e=>h2 (by rw[List.mem_singleton.1 hb]at e;rw[←e];exact ha)⟩
  ·exact h
theorem RI(t:Tm):t.varsOf.Nodup:=OC _ [] List.nodup_nil

def S_:IR :=
 (.seq (.ops [.i 4 (.alloc 37 [.st (.str (ByteArray.mk (#[]))),.full []]),.i 5 (.mov (.c (.one (.st (.bool false)))))]) (.seq (.seq (.ops [.i 6 (.mov (.n 0))]) (.block 0 (.loop (.seq (.seq (.ops [.m 7 6,.m 8 0,.i 9 (.len false (.t 8)),.i 10 (.bin .lss (.t 7) (.t 9))]) (.cond (.t 10) .skip (.exit 0))) (.seq (.block 1 (.seq (.ops [.m 13 0,.m 14 6,.i 15 (.indexAddr 3 (.t 13) (.t 14)),.f 16 0 15,.l 17 16,.m 18 1,.i 19 (.bin .eql (.t 17) (.t 18))]) (.cond (.t 19) (.seq (.ops [.m 20 0,.m 21 6,.i 22 (.indexAddr 3 (.t 20) (.t 21)),.f 23 1 22,.L 24 2 23,.s 2 4 24,.i 5 (.mov (.c (.one (.st (.bool true)))))]) .ret) .skip))) (.ops [.m 11 6,.i 12 (.bin .add (.t 11) (.n 1)),.m 6 12])))))) (.seq (.ops [.i 25 (.build [.st (.str (ByteArray.mk (#[]))),.full []] []),.s 2 4 25,.i 5 (.mov (.c (.one (.st (.bool false)))))]) .ret)))
theorem ZG:OkF Tryz.prog 94 26 [] S_ [.cell 4 true 2,.t 5]:=.of Tryz.func94 rfl rfl (by kernel_rfl) rfl
def I3:IR :=
 (.seq (.ops [.i 4 (.box 37 (.t 1)),.i 6 (.mov (.n 0))]) (.seq (.ops [.m 12 0,.f 13 0 4,.l 14 13,.i 15 (.call 94 [.t 12,.t 14]),.m 11 15,.i 16 (.extract 0 (.t 11)),.i 17 (.extract 1 (.t 11)),.i 7 (.alloc 37 [.st (.str (ByteArray.mk (#[]))),.full []]),.s 2 7 16,.m 8 17]) (.seq (.seq (.ops [.m 18 8,.m 19 18,.mk (some 20) (some (19,true)) (.fieldAddr 1 (.t 4)) .no,.mk (some 21) (some (19,true)) (.load false 1 (.t 20)) .no,.mk (some 22) (some (19,true)) (.len false (.t 21)) .no,.mk (some 23) (some (19,true)) (.bin .eql (.t 22) (.n 0)) .no,.i 24 (.pick (.t 19) (.t 23) (.c (.one (.st (.bool false)))))]) (.cond (.t 24) (.seq (.ops [.L 25 2 7,.m 26 2,.i 27 (.call 21 [.t 25,.t 26]),.m 6 27]) .ret) .skip)) (.seq (.ops [.i 9 (.mov (.n 1))]) (.seq (.seq (.ops [.i 10 (.mov (.n 0))]) (.block 0 (.loop (.seq (.seq (.ops [.m 28 10,.f 29 1 4,.l 30 29,.i 31 (.len false (.t 30)),.i 32 (.bin .lss (.t 28) (.t 31)),.m 33 32,.mk (some 34) (some (33,true)) (.mov (.t 9)) .no,.mk (some 35) (some (33,true)) (.mov (.t 2)) .no,.mk (some 36) (some (33,true)) (.bin .leq (.t 34) (.t 35)) .no,.i 37 (.pick (.t 33) (.t 36) (.c (.one (.st (.bool false)))))]) (.cond (.t 37) .skip (.exit 0))) (.seq (.block 1 (.ops [.m 40 9,.m 41 0,.f 42 1 4,.l 43 42,.m 44 10,.i 45 (.indexAddr 2 (.t 43) (.t 44)),.L 46 2 45,.m 47 2,.m 48 9,.i 49 (.bin .sub (.t 47) (.t 48)),.i 50 (.call 120 [.t 41,.t 46,.t 49]),.i 51 (.bin .add (.t 40) (.t 50)),.m 9 51])) (.ops [.m 38 10,.i 39 (.bin .add (.t 38) (.n 1)),.m 10 39])))))) (.seq (.seq (.ops [.m 52 9,.m 53 2,.i 54 (.bin .gtr (.t 52) (.t 53))]) (.cond (.t 54) (.seq (.ops [.m 55 2,.i 56 (.bin .add (.t 55) (.n 1)),.m 6 56]) .ret) .skip)) (.seq (.ops [.m 57 9,.m 6 57]) .ret)))))))
theorem Mt:OkF Tryz.prog 120 58 [] I3 [.t 6]:=.of Tryz.func120 rfl rfl (by kernel_rfl) rfl
def P7:IR :=
 (.seq (.ops [.i 3 (.box 37 (.t 1)),.i 4 (.alloc 37 [.st (.str (ByteArray.mk (#[]))),.full []])]) (.seq (.ops [.m 10 0,.f 11 0 3,.l 12 11,.i 13 (.call 94 [.t 10,.t 12]),.m 9 13,.i 14 (.extract 0 (.t 9)),.i 15 (.extract 1 (.t 9)),.i 5 (.alloc 37 [.st (.str (ByteArray.mk (#[]))),.full []]),.s 2 5 14,.m 6 15]) (.seq (.seq (.ops [.m 16 6,.m 17 16,.mk (some 18) (some (17,true)) (.fieldAddr 1 (.t 3)) .no,.mk (some 19) (some (17,true)) (.load false 1 (.t 18)) .no,.mk (some 20) (some (17,true)) (.len false (.t 19)) .no,.mk (some 21) (some (17,true)) (.bin .eql (.t 20) (.n 0)) .no,.i 22 (.pick (.t 17) (.t 21) (.c (.one (.st (.bool false)))))]) (.cond (.t 22) (.seq (.ops [.L 23 2 5,.s 2 4 23]) .ret) .skip)) (.seq (.ops [.f 24 0 3,.l 25 24,.i 26 (.build [.st (.str (ByteArray.mk (#[]))),.full []] [(0,1,.t 25)]),.i 7 (.alloc 37 [.st (.str (ByteArray.mk (#[]))),.full []]),.s 2 7 26]) (.seq (.seq (.ops [.i 8 (.mov (.n 0))]) (.block 0 (.loop (.seq (.seq (.ops [.m 27 8,.f 28 1 3,.l 29 28,.i 30 (.len false (.t 29)),.i 31 (.bin .lss (.t 27) (.t 30))]) (.cond (.t 31) .skip (.exit 0))) (.seq (.block 1 (.ops [.f 34 1 7,.l 35 34,.m 36 0,.f 37 1 3,.l 38 37,.m 39 8,.i 40 (.indexAddr 2 (.t 38) (.t 39)),.L 41 2 40,.i 42 (.call 62 [.t 36,.t 41]),.i 43 (.buildSlice false 37 2 [.t 42]),.i 44 (.append false 37 2 40 (.t 35) (.t 43)),.f 45 1 7,.s 1 45 44])) (.ops [.m 32 8,.i 33 (.bin .add (.t 32) (.n 1)),.m 8 33])))))) (.seq (.ops [.L 46 2 7,.s 2 4 46]) .ret))))))
theorem Ve:OkF Tryz.prog 62 47 [] P7 [.cell 4 true 2]:=.of Tryz.func62 rfl rfl (by kernel_rfl) rfl
def QK:IR :=
 (.seq (.ops [.i 3 (.box 37 (.t 1)),.i 4 (.alloc 37 [.st (.str (ByteArray.mk (#[]))),.full []]),.i 5 (.mov (.c (.one (.st (.bool false)))))]) (.seq (.seq (.ops [.m 6 0,.L 7 2 3,.i 8 (.call 120 [.t 6,.t 7,.n 2000]),.i 9 (.bin .gtr (.t 8) (.n 2000))]) (.cond (.t 9) (.seq (.ops [.i 10 (.build [.st (.str (ByteArray.mk (#[]))),.full []] []),.s 2 4 10,.i 5 (.mov (.c (.one (.st (.bool false)))))]) .ret) .skip)) (.seq (.ops [.m 11 0,.L 12 2 3,.i 13 (.call 62 [.t 11,.t 12]),.s 2 4 13,.i 5 (.mov (.c (.one (.st (.bool true)))))]) .ret)))
theorem U1:OkF Tryz.prog 92 14 [] QK [.cell 4 true 2,.t 5]:=.of Tryz.func92 rfl rfl (by kernel_rfl) rfl
def EY:IR :=
 (.seq (.ops [.i 2 (.mov (.c (.one (.st (.bool false)))))]) (.seq (.ops [.m 3 0,.m 4 0,.i 5 (.bin .neq (.t 3) (.t 4)),.m 2 5]) .ret))
theorem H7:OkF Tryz.prog 138 6 [] EY [.t 2]:=.of Tryz.func138 rfl rfl (by kernel_rfl) rfl
def Du:IR :=
 (.seq (.ops [.i 4 (.mov (.n 0))]) (.seq (.ops [.m 7 0,.i 8 (.call 138 [.t 7]),.m 5 8]) (.seq (.ops [.m 9 1,.i 10 (.call 138 [.t 9]),.m 6 10]) (.seq (.seq (.ops [.m 11 5]) (.cond (.t 11) (.seq (.seq (.ops [.m 12 6]) (.cond (.t 12) (.seq (.ops [.i 4 (.mov (.n 0))]) .ret) .skip)) (.seq (.ops [.i 4 (.mov (.c (.one (.st (.int .i64 (-1))))))]) .ret)) .skip)) (.seq (.seq (.ops [.m 13 6]) (.cond (.t 13) (.seq (.ops [.i 4 (.mov (.n 1))]) .ret) .skip)) (.seq (.seq (.ops [.m 14 0,.m 15 1,.i 16 (.bin .lss (.t 14) (.t 15))]) (.cond (.t 16) (.seq (.ops [.i 4 (.mov (.c (.one (.st (.int .i64 (-1))))))]) .ret) .skip)) (.seq (.seq (.ops [.m 17 0,.m 18 1,.i 19 (.bin .gtr (.t 17) (.t 18))]) (.cond (.t 19) (.seq (.ops [.i 4 (.mov (.n 1))]) .ret) .skip)) (.seq (.ops [.i 4 (.mov (.n 0))]) .ret))))))))
theorem G1:OkF Tryz.prog 132 20 [] Du [.t 4]:=.of Tryz.func132 rfl rfl (by kernel_rfl) rfl
def Gv:IR :=
 (.seq (.ops [.i 2 (.box 82 (.t 0)),.i 4 (.mov (.n 0))]) (.seq (.ops [.f 5 0 2,.l 6 5,.m 7 1,.i 8 (.call 132 [.t 6,.t 7]),.m 4 8]) .ret))
theorem Lt:OkF Tryz.prog 143 9 [] Gv [.t 4]:=.of Tryz.func143 rfl rfl (by kernel_rfl) rfl
def Aw:IR :=
 (.seq (.ops [.i 6 (.mov (.n 0)),.i 7 (.mov (.c (.one (.st (.bool false)))))]) (.seq (.ops [.m 12 0,.i 13 (.len false (.t 12)),.m 8 13]) (.seq (.ops [.m 14 8,.i 9 (.mov (.n 0)),.m 10 14]) (.seq (.block 0 (.loop (.seq (.seq (.ops [.m 15 9,.m 16 10,.i 17 (.bin .lss (.t 15) (.t 16))]) (.cond (.t 17) .skip (.exit 0))) (.block 1 (.seq (.ops [.m 18 9,.m 19 10,.i 20 (.bin .add (.t 18) (.t 19)),.i 21 (.conv .u64 (.t 20)),.i 22 (.bin .shr (.t 21) (.c (.one (.st (.int .u64 1))))),.i 23 (.conv .i64 (.t 22)),.m 11 23]) (.seq (.ops [.m 24 2,.m 25 0,.m 26 11,.i 27 (.indexAddr 3 (.t 25) (.t 26)),.L 28 3 27,.m 29 1,.i 30 (.callV (.t 24) [.t 28,.t 29]),.i 31 (.bin .lss (.t 30) (.n 0))]) (.cond (.t 31) (.ops [.m 32 11,.i 33 (.bin .add (.t 32) (.n 1)),.m 9 33]) (.ops [.m 34 11,.m 10 34])))))))) (.seq (.ops [.m 35 9,.m 36 9,.m 37 8,.i 38 (.bin .lss (.t 36) (.t 37)),.m 39 38,.mk (some 40) (some (39,true)) (.mov (.t 2)) .no,.mk (some 41) (some (39,true)) (.mov (.t 0)) .no,.mk (some 42) (some (39,true)) (.mov (.t 9)) .no,.mk (some 43) (some (39,true)) (.indexAddr 3 (.t 41) (.t 42)) .no,.mk (some 44) (some (39,true)) (.load true 3 (.t 43)) .no,.mk (some 45) (some (39,true)) (.mov (.t 1)) .no,.mk (some 46) (some (39,true)) (.callV (.t 40) [.t 44,.t 45]) .no,.mk (some 47) (some (39,true)) (.bin .eql (.t 46) (.n 0)) .no,.i 48 (.pick (.t 39) (.t 47) (.c (.one (.st (.bool false))))),.m 6 35,.m 7 48]) .ret)))))
theorem BR:OkF Tryz.prog 142 49 [] Aw [.t 6,.t 7]:=.of Tryz.func142 rfl rfl (by kernel_rfl) rfl
def Ib:IR :=
 (.seq (.ops [.i 4 (.alloc 37 [.st (.str (ByteArray.mk (#[]))),.full []]),.i 5 (.mov (.c (.one (.st (.bool false)))))]) (.seq (.ops [.m 9 0,.m 10 1,.i 11 (.call 142 [.t 9,.t 10,.c (.one (.fn 143 []))]),.m 8 11,.i 12 (.extract 0 (.t 8)),.i 13 (.extract 1 (.t 8)),.m 6 12,.m 7 13]) (.seq (.seq (.ops [.m 14 7,.i 15 (.un .not (.t 14))]) (.cond (.t 15) (.seq (.ops [.i 16 (.build [.st (.str (ByteArray.mk (#[]))),.full []] []),.s 2 4 16,.i 5 (.mov (.c (.one (.st (.bool false)))))]) .ret) .skip)) (.seq (.ops [.m 17 0,.m 18 6,.i 19 (.indexAddr 3 (.t 17) (.t 18)),.f 20 1 19,.L 21 2 20,.s 2 4 21,.i 5 (.mov (.c (.one (.st (.bool true)))))]) .ret))))
theorem OV:OkF Tryz.prog 135 22 [] Ib [.cell 4 true 2,.t 5]:=.of Tryz.func135 rfl rfl (by kernel_rfl) rfl
def B0:IR :=
 (.seq (.ops [.i 4 (.box 37 (.t 1)),.i 6 (.alloc 37 [.st (.str (ByteArray.mk (#[]))),.full []])]) (.seq (.seq (.ops [.m 12 2]) (.cond (.t 12) (.seq (.ops [.m 14 0,.i 15 (.nilCheck (.t 14)),.f 16 0 15,.l 17 16,.f 18 0 4,.l 19 18,.i 20 (.call 135 [.t 17,.t 19]),.m 13 20,.i 21 (.extract 0 (.t 13)),.i 22 (.extract 1 (.t 13)),.i 7 (.alloc 37 [.st (.str (ByteArray.mk (#[]))),.full []]),.s 2 7 21,.m 8 22]) (.seq (.ops [.m 23 8]) (.cond (.t 23) (.seq (.ops [.m 24 0,.L 25 2 7,.i 26 (.callS 126 [.t 24,.t 25,.c (.one (.st (.bool false)))]),.s 2 6 26]) .ret) .skip))) .skip)) (.seq (.seq (.ops [.m 27 0,.i 28 (.nilCheck (.t 27)),.f 29 1 28,.l 30 29,.i 31 (.bin .sub (.t 30) (.n 1)),.i 32 (.nilCheck (.t 27)),.f 33 1 32,.s 1 33 31]) (.seq (.ops [.m 34 0,.i 35 (.nilCheck (.t 34)),.f 36 1 35,.l 37 36,.i 38 (.bin .lss (.t 37) (.n 0))]) (.cond (.t 38) (.seq (.ops [.i 39 (.build [.st (.str (ByteArray.mk (#[]))),.full []] []),.s 2 6 39]) .ret) .skip))) (.seq (.ops [.f 40 0 4,.l 41 40,.i 42 (.build [.st (.str (ByteArray.mk (#[]))),.full []] [(0,1,.t 41)]),.i 9 (.alloc 37 [.st (.str (ByteArray.mk (#[]))),.full []]),.s 2 9 42]) (.seq (.seq (.ops [.f 43 1 4,.l 44 43,.i 45 (.len false (.t 44)),.i 46 (.mov (.n 0))]) (.block 0 (.loop (.seq (.ops [.i 47 (.bin .lss (.t 46) (.t 45))]) (.seq (.cond (.t 47) .skip (.exit 0)) (.seq (.block 1 (.seq (.ops [.i 48 (.indexAddr 2 (.t 44) (.t 46)),.L 49 2 48,.i 11 (.alloc 37 [.st (.str (ByteArray.mk (#[]))),.full []]),.s 2 11 49]) (.seq (.ops [.mk (some 50) none (.fieldAddr 1 (.t 9)) (.onb 9),.mk (some 51) none (.load false 1 (.t 50)) (.onb 9),.m 52 0,.L 53 2 11,.m 54 2,.mk (some 55) none (.callS 126 [.t 52,.t 53,.t 54]) (.keeps [9,9]),.i 56 (.buildSlice false 37 2 [.t 55]),.i 57 (.append false 37 2 40 (.t 51) (.t 56)),.f 58 1 9,.s 1 58 57]) (.seq (.ops [.m 59 0,.i 60 (.nilCheck (.t 59)),.f 61 1 60,.l 62 61,.i 63 (.bin .lss (.t 62) (.n 0))]) (.cond (.t 63) (.seq (.ops [.i 64 (.build [.st (.str (ByteArray.mk (#[]))),.full []] []),.s 2 6 64]) .ret) .skip))))) (.ops [.i 65 (.bin .add (.t 46) (.n 1)),.m 46 65]))))))) (.seq (.ops [.L 66 2 9,.s 2 6 66]) .ret))))))
theorem Ci:OkF Tryz.prog 126 67 [26,55] B0 [.cell 6 true 2]:=.of Tryz.func126 rfl rfl (by kernel_rfl) rfl
def LX:IR :=
 (.seq (.ops [.i 3 (.box 37 (.t 1)),.i 4 (.alloc 37 [.st (.str (ByteArray.mk (#[]))),.full []]),.i 5 (.mov (.c (.one (.st (.bool false)))))]) (.seq (.ops [.m 8 0,.i 9 (.build [.full [],.st (.int .i64 0)] [(0,1,.t 8),(1,1,.n 2000)]),.i 10 (.box 150 (.t 9)),.m 6 10]) (.seq (.ops [.m 11 6,.L 12 2 3,.i 13 (.callS 126 [.t 11,.t 12,.c (.one (.st (.bool true)))]),.i 7 (.alloc 37 [.st (.str (ByteArray.mk (#[]))),.full []]),.s 2 7 13]) (.seq (.ops [.L 14 2 7,.m 15 6,.mk (some 16) none (.nilCheck (.t 15)) (.onb 10),.mk (some 17) none (.fieldAddr 1 (.t 16)) (.onb 10),.mk (some 18) none (.load false 1 (.t 17)) (.onb 10),.i 19 (.bin .geq (.t 18) (.n 0)),.mk none none (.store 2 (.t 4) (.t 14)) (.onb 4),.m 5 19]) .ret))))
theorem SL:OkF Tryz.prog 110 20 [13,10060010] LX [.cell 4 true 2,.t 5]:=.of Tryz.func110 rfl rfl (by kernel_rfl) rfl

theorem SI(l:List Bd)(n:ByteArray):AW Tryz.prog 94 [ER l,Bs n] (.tup [aTm ((lookup l n).getD Tm.nil),AZ (lookup l n).isSome]):=by
 refine ZG.ac fun C hC=>?_;unfold S_;refine IWP.learn 0 (by omega) fun hkn=>?_;have hkn:=DT hkn;rw[List.length_map]at hkn;refine Hg ?_;refine IWP.loop (fun m s=>∃k,k≤l.length∧m=l.length-k∧(∀c∈l.take k,c.1≠n)∧s.env 0=ER l∧s.env 1=Bs n∧s.env 4=.one (.ptr 4 1 0 0)∧s.S 4=some (.box 37 [.st (.str ⟨#[]⟩),.full []])∧s.env 6=AO k) l.length ⟨0,Nat.zero_le _,rfl,by simp,rfl,rfl,rfl,rfl,rfl⟩ ?_;rintro m ⟨env,S⟩ ⟨k,hk,rfl,h0,e0,e1,e4,s4,e6⟩;simp only at e0 e1 e4 s4 e6;by_cases hlt:(k:Int)<l.length
 ·obtain⟨b,hb⟩:=Aa (show k<l.length by omega);refine Hf (F6 e0 e1 e4 s4 e6 hlt) ?_;with_reducible refine Wp ?_
  simp only[go_sem,fN,seval,true_implies,false_implies,implies_true,dT,dF,nL,hlt];(try with_reducible refine iC ?_);refine Hf (F7 e0 e1 e4 s4 e6 hb @BZ.eq_1) ?_;by_cases he:b.1=n
  ·with_reducible refine Wp ?_
   simp only[go_sem,fN,seval,true_implies,false_implies,implies_true,dT,dF,nL,he];(try with_reducible refine iC ?_);refine Hf (F7 e0 e1 e4 s4 e6 hb @BZ.eq_1) ?_;simp only[go_sem,fN,seval,AQ,AS.result,AB,AD,AM,e4];rw[LG hb he h0];rfl
  ·with_reducible refine Wp ?_
   simp only[go_sem,fN,seval,true_implies,false_implies,implies_true,dT,dF,nL,he];(try with_reducible refine iC ?_);refine Hf (F5 e0 e1 e4 s4 e6) ?_;refine AE ⟨l.length-(k+1),by omega,k+1,by omega,rfl,?_,?_⟩
   ·rw[Ab hb];intro c hc;rcases List.mem_append.1 hc with hc|hc
    ·exact h0 c hc
    ·rw[List.mem_singleton.1 hc];exact he
   ·simp only[go_sem,fN,seval,eT,iR,e0,e1,e4,s4,e6];congr 3
 ·refine Hf (F6 e0 e1 e4 s4 e6 hlt) ?_;with_reducible refine Wp ?_
  simp only[go_sem,fN,seval,true_implies,false_implies,implies_true,dT,dF,nL,hlt];(try with_reducible refine iC ?_);refine Hf (F5 e0 e1 e4 s4 e6) ?_;simp only[go_sem,fN,seval,AQ,AS.result,AB,AD,AM,e4];rw[List.take_of_length_le (by omega)]at h0;rw[DU h0];rfl
theorem VE(a:ByteArray):AW Tryz.prog 138 [Bs a] (AZ false):=by
 refine H7.ac fun C hC=>?_;unfold EY;refine Hg ?_;simp only[go_sem,fN,seval,AQ,AS.result,AB,AD,AM]
theorem Oh(a b:ByteArray):AW Tryz.prog 132 [Bs a,Bs b] (AO (DZ a b)):=by
 refine G1.ac fun C hC=>?_;unfold Du;repeat' first|refine Hg ?_|refine Mm fun K hK=>?_|refine Cg _ (VE a) ?_|refine Cg _ (VE b) ?_
 with_reducible refine Wp ?_
 simp only[go_sem,fN,seval,true_implies,false_implies,implies_true,dT,dF,nL];(try with_reducible refine iC ?_);refine Hg ?_;with_reducible refine Wp ?_
 simp only[go_sem,fN,seval,true_implies,false_implies,implies_true,dT,dF,nL];(try with_reducible refine iC ?_);refine Hg ?_;unfold DZ;cases h:sLt a b with
 | true =>
  with_reducible refine Wp ?_
  simp only[go_sem,fN,seval,true_implies,false_implies,implies_true,dT,dF,nL];(try with_reducible refine iC ?_);refine Hg ?_;simp only[go_sem,fN,seval,AQ,AS.result,AB,AD,AM]
 | false =>
  with_reducible refine Wp ?_
  simp only[go_sem,fN,seval,true_implies,false_implies,implies_true,dT,dF,nL];(try with_reducible refine iC ?_);by_cases he:a=b
  ·refine Hf (F4 h he @Bool.or_true @Bool.or_false) ?_;with_reducible refine Wp ?_
   simp only[go_sem,fN,seval,true_implies,false_implies,implies_true,dT,dF,nL,h,he,Bool.or_true,Bool.or_false];(try with_reducible refine iC ?_);refine Hg ?_;simp only[go_sem,fN,seval,AQ,AS.result,AB,AD,AM,h,he]
  ·refine Hf (F4 h he @Bool.or_true @Bool.or_false) ?_;with_reducible refine Wp ?_
   simp only[go_sem,fN,seval,true_implies,false_implies,implies_true,dT,dF,nL,h,he,Bool.or_true,Bool.or_false];(try with_reducible refine iC ?_);refine Hg ?_;simp only[go_sem,fN,seval,AQ,AS.result,AB,AD,AM,h,he]
theorem Z6(b:Bd)(n:ByteArray):AW Tryz.prog 143 [aBd b,Bs n] (AO (DZ b.1 n)):=by
 refine Lt.ac fun C hC=>?_;unfold Gv;repeat' first|refine Hg ?_|refine Mm fun K hK=>?_|refine Cg _ (Oh b.1 n) ?_
 simp only[go_sem,fN,seval,AQ,AS.result,AB,AD,AM]
theorem Cr{a b:ByteArray}:DZ a b<0↔sLt a b=true:=by
 unfold DZ;split
 ·rename_i h;simp[h]
 ·rename_i h;split <;> simp[h]
theorem On{a b:ByteArray}:DZ a b=0↔a=b:=by
 unfold DZ;split
 ·rename_i h;constructor
  ·intro h';cases h'
  ·intro e;subst e;rw[BY]at h;cases h
 ·split <;> simp_all
def Cn(l:List Bd)(n:ByteArray)(i:Nat):Bool:=match l[i]? with
 | some b=>decide (b.1=n)
 | none=>false
theorem L3(b:Bd)(n:ByteArray)(S:AA):Ah Tryz.prog 143 [aBd b,Bs n] S (AO (DZ b.1 n)) S:=(Z6 b n).toS rfl
theorem ABx{i j:Nat}(h:i<j):(((i:Int)+j).fdiv 2)=(((i+j) / 2:Nat):Int)∧i≤(i+j) / 2∧(i+j) / 2<j:=by
 refine⟨?_,by omega,by omega⟩;rw[Int.fdiv_eq_ediv_of_nonneg _ (by omega)];omega
theorem TD(l:List Bd)(h40:l.length≤100000)(ho:BU l)(n:ByteArray) :
  ∃i:Nat,i≤l.length∧(∀k b,l[k]?=some b→k<i→sLt b.1 n=true)∧(∀k b,l[k]?=some b→i≤k→sLt b.1 n=false) ∧
   AW Tryz.prog 142 [ER l,Bs n,.one (.fn 143 [])] (.tup [AO i,AZ (Cn l n i)]):=by
 obtain⟨i0,hi0,hlo,hhi⟩:∃i:Nat,i≤l.length∧(∀k b,l[k]?=some b→k<i→sLt b.1 n=true)∧(∀k b,l[k]?=some b→i≤k→sLt b.1 n=false):=by
  clear h40;induction l with
  | nil=>exact⟨0,by simp,by simp,by simp⟩
  | cons c l ih =>
   obtain⟨o1,o2⟩:=List.pairwise_cons.1 ho;obtain⟨i,q1,q2,q3⟩:=ih o2;cases hc:sLt c.1 n with
   | true =>
    refine⟨i+1,by simp;omega,fun k b hk hki=>?_,fun k b hk hki=>?_⟩
    ·cases k with
     | zero=>simp at hk;subst hk;exact hc
     | succ k=>exact q2 k b (by simpa using hk) (by omega)
    ·cases k with
     | zero=>omega
     | succ k=>exact q3 k b (by simpa using hk) (by omega)
   | false =>
    refine⟨0,by simp,fun k b hk hki=>by omega,fun k b hk hki=>?_⟩;cases k with
    | zero=>simp at hk;subst hk;exact hc
    | succ k =>
     have hm:=AN (show l[k]?=some b by simpa using hk);cases hb:sLt b.1 n with
     | false=>rfl
     | true=>have:=EF (o1 b hm) hb;rw[hc]at this;cases this
 refine⟨i0,hi0,hlo,hhi,?_⟩;have hplain:CY Tryz.prog 143=true:=by kernel_rfl
 refine BR.ac fun C hC=>?_;unfold Aw;refine Hg ?_;refine IWP.loop (fun m s=>∃i j:Nat,i≤i0∧i0≤j∧j≤l.length∧m=j-i∧s.env 0=ER l∧s.env 1=Bs n∧s.env 2=.one (.fn 143 [])∧s.env 8=AO l.length∧s.env 9=AO i∧s.env 10=AO j) l.length ⟨0,l.length,Nat.zero_le _,hi0,Nat.le_refl _,rfl,rfl,rfl,rfl,rfl,rfl,rfl⟩ ?_;rintro m ⟨env,S⟩ ⟨i,j,hi,hj,hjl,rfl,e0,e1,e2,e8,e9,e10⟩;simp only at e0 e1 e2 e8 e9 e10;by_cases hlt:(i:Int)<j
 ·obtain⟨z1,z2,z3⟩:=ABx (show i<j by omega);obtain⟨b,hb⟩:=Aa (show(i+j) / 2<l.length by omega);refine Hf (F7 e0 e1 e2 e8 e9 e10 hlt) ?_;with_reducible refine Wp ?_
  simp only[go_sem,fN,seval,true_implies,false_implies,implies_true,dT,dF,nL,hlt];(try with_reducible refine iC ?_);have hbits:(1:Nat)≤IntKind.u64.bits:=by show 1≤64;omega
  repeat' first|refine Hf (F13 e0 e1 e2 e8 e9 e10 hlt z1 @Ho hbits hb @BZ.eq_1 hplain) ?_|refine Mm fun K hK=>?_
  refine⟨_,_,L3 b n _,?_⟩;cases hc:sLt b.1 n with
  | true =>
   have hneg:DZ b.1 n<0:=Cr.2 hc;refine Hf hneg ?_;with_reducible refine Wp ?_
   simp only[go_sem,fN,seval,true_implies,false_implies,implies_true,dT,dF,nL,hneg];(try with_reducible refine iC ?_);refine Hf (F6 e0 e1 e2 e8 e9 e10) ?_;refine AE ⟨j-((i+j) / 2+1),by omega,(i+j) / 2+1,j,?_,hj,hjl,rfl,?_⟩
   ·rcases Nat.lt_or_ge ((i+j) / 2) i0 with h|h
    ·omega
    ·rw[hhi _ b hb h]at hc;cases hc
   ·simp only[go_sem,fN,seval,eT,iR,e0,e1,e2,e8,e9,e10];congr 3
  | false =>
   have hneg:¬DZ b.1 n<0:=fun h=>by rw[Cr.1 h]at hc;cases hc
   refine Hf hneg ?_;with_reducible refine Wp ?_
   simp only[go_sem,fN,seval,true_implies,false_implies,implies_true,dT,dF,nL,hneg];(try with_reducible refine iC ?_);refine Hf (F6 e0 e1 e2 e8 e9 e10) ?_;refine AE ⟨(i+j) / 2-i,by omega,i,(i+j) / 2,hi,?_,by omega,rfl,?_⟩
   ·rcases Nat.lt_or_ge ((i+j) / 2) i0 with h|h
    ·rw[hlo _ b hb h]at hc;cases hc
    ·omega
   ·simp only[go_sem,fN,seval,eT,iR,e0,e1,e2,e8,e9,e10]
 ·have hii:i=i0:=by omega
  subst hii;have hjj:j=i:=by omega
  subst hjj;refine Hf (F7 e0 e1 e2 e8 e9 e10 hlt) ?_;with_reducible refine Wp ?_
  simp only[go_sem,fN,seval,true_implies,false_implies,implies_true,dT,dF,nL,hlt];(try with_reducible refine iC ?_);by_cases hil:(j:Int)<l.length
  ·obtain⟨b,hb⟩:=Aa (show j<l.length by omega);repeat' first|refine Hf (F10 e0 e1 e2 e8 e9 e10 hil hb @BZ.eq_1 hplain) ?_|refine Mm fun K hK=>?_
   refine⟨_,_,L3 b n _,?_⟩;repeat' first|refine Hg ?_|refine Mm fun K hK=>?_
   simp only[go_sem,fN,seval,AQ,AS.result,AB,AD,AM];unfold Cn;rw[hb];simp only[On]
  ·refine Hf (F7 e0 e1 e2 e8 e9 e10 hil) ?_;simp only[go_sem,fN,seval,AQ,AS.result,AB,AD,AM];unfold Cn;rw[List.getElem?_eq_none (by omega)]
theorem Jk{l:List Bd}{n:ByteArray}{i:Nat}(hlo:∀k b,l[k]?=some b→k<i→sLt b.1 n=true)(hhi:∀k b,l[k]?=some b→i≤k→sLt b.1 n=false)(ho:BU l) :
  (∃b,l[i]?=some b∧b.1=n∧lookup l n=some b.2)∨(Cn l n i=false∧lookup l n=none):=by
 have hlow:∀c∈l.take i,c.1≠n:=fun c hc e=>by
  obtain⟨k,hk,rfl⟩:=List.getElem_of_mem hc;rw[List.length_take]at hk;have:=hlo k l[k] (List.getElem?_eq_getElem (by omega)) (by omega);rw[List.getElem_take]at e;rw[e,BY]at this;cases this
 by_cases hil:i<l.length
 ·obtain⟨b,hb⟩:=Aa hil;by_cases he:b.1=n
  ·exact .inl ⟨b,hb,he,LG hb he hlow⟩
  ·refine .inr ⟨by unfold Cn;rw[hb];exact decide_eq_false he,DU fun c hc e=>?_⟩;obtain⟨k,hk,rfl⟩:=List.getElem_of_mem hc;have hck:=List.getElem?_eq_getElem hk;rcases Nat.lt_trichotomy k i with h|h|h
   ·have:=hlo k _ hck h;rw[e,BY]at this;cases this
   ·subst h;rw[hb]at hck;cases hck;exact he e
   ·have h1:=LQ ho hb hck h;rw[e,hhi i b hb (Nat.le_refl _)]at h1;cases h1
 ·refine .inr ⟨by unfold Cn;rw[List.getElem?_eq_none (by omega)],DU fun c hc=>hlow c ?_⟩;rw[List.take_of_length_le (by omega)];exact hc
theorem ZX(l:List Bd)(h40:l.length≤100000)(ho:BU l)(n:ByteArray):AW Tryz.prog 135 [ER l,Bs n] (.tup [aTm ((lookup l n).getD Tm.nil),AZ (lookup l n).isSome]):=by
 obtain⟨i,hi,hlo,hhi,hs⟩:=TD l h40 ho n;refine OV.ac fun C hC=>?_;unfold Ib;repeat' first|refine Hg ?_|refine Mm fun K hK=>?_
 refine⟨_,hs,?_⟩;rcases Jk hlo hhi ho with⟨b,hb,he,hl⟩|⟨hf,hl⟩
 ·have hf:Cn l n i=true:=by unfold Cn;rw[hb];exact decide_eq_true he
  refine Hf hf ?_;with_reducible refine Wp ?_
  simp only[go_sem,fN,seval,true_implies,false_implies,implies_true,dT,dF,nL,hf];(try with_reducible refine iC ?_);refine Hf (F2 hb @BZ.eq_1) ?_;simp only[go_sem,fN,seval,AQ,AS.result,AB,AD,AM];rw[hl];rfl
 ·refine Hf hf ?_;with_reducible refine Wp ?_
  simp only[go_sem,fN,seval,true_implies,false_implies,implies_true,dT,dF,nL,hf];(try with_reducible refine iC ?_);refine Hg ?_;simp only[go_sem,fN,seval,AQ,AS.result,AB,AD,AM];rw[hl];rfl

end Go.Proofs.YtbhnmjkmieiadaaGreatDoor
