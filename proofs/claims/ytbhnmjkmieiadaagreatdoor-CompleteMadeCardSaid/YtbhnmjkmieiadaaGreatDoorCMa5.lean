/-
  Part 5 of the texts. Conditions: none.
-/
import Derived.Test.YtbhnmjkmieiadaaGreatDoorCMa4
import Derived.OrdersIn
namespace Go.Proofs.YtbhnmjkmieiadaaGreatDoor
open Go Go.RowKit
set_option linter.unusedVariables false
set_option maxHeartbeats 400000
section
variable {P:Program} {C:Ctx} {a:Act} {w:World} {σ:Sto} {ι:A6} {s:AS} {Q:Exit→Act→World→Prop}
theorem Yc{v:Value}(h:Ae σ s.S ι v (.tup [])):v=.tuple #[]:=by
 cases h with
 | @tup vs _ c h1 =>
  have e:vs=#[]:=Array.eq_empty_of_size_eq_zero (by simpa using h1);rw[e]
theorem Pd{mu:List Nat}{ops:Array Oper}{i:Nat}{o:Oper}{k k':Ins}(hi:ops[i]?=some o)(htr:SR P C.n mu ops.toList o=some k)(hk':k'.dst=k.dst∧k'.guard=k.guard∧k'.kd=k.kd){K:AS→Prop}{next:Act→World→Prop}(R:Ac C σ ι s a w)(h:k'.go P s K)(hn:∀s' a' w',K s'→Bh C s' a' w'→next a' w') :
  wpOpIn (fen C.ro) 0 P ops Q i next a w:=by
 unfold SR at htr;split at htr
 ·rename_i g kd e1 e2;cases htr;obtain⟨dst',g',kd',tag'⟩:=k';obtain⟨hk1,hk2,hk3⟩:=hk';dsimp only at hk1 hk2 hk3
  subst hk1 hk2 hk3;unfold wpOpIn;rw[hi];dsimp only
  have body:∀{K':AV→AS→Prop},kd'.goT P (o.dst.getD 0) s tag' K'→(∀av s',K' av s'→K (s'.put o.dst av))→o.wpIn (fen C.ro) 0 P a w next Q:=fun hk hK'=>ZT e2 R (ABQ hk) fun av s' a' w' hav hH=>hn _ _ _ (hK' _ _ hav) hH
  unfold Ins.go at h;dsimp only at h
  cases hg:o.guard with
  | none =>
   rw[hg]at e1;simp only[Qb,Option.some.injEq]at e1;subst e1;rw[if_pos (by simp[Region.wanted,hg])];exact body h fun _ _ hk=>hk
  | some jw =>
   obtain⟨j,want⟩:=jw;rw[hg]at e1;simp only[Qb]at e1;split at e1
   ·rename_i oj hoj;split at e1
    ·rename_i t ht;split at e1
     ·rename_i hlt;cases e1;dsimp only at h
      have hoj':ops[j]?=some oj:=by simpa using hoj
      have rt:=R.env t hlt;have hsz:t<a.tmps.size:=Nat.lt_of_lt_of_le hlt R.size;have hy:∀b,a.tmps.getD t undef=.bool b→yielded ops a.tmps j=some b:=fun b hb=>by
       unfold yielded;rw[hoj'];simp only[Option.bind_some,ht];rw[Array.getD_eq_getD_getElem?,Array.getElem?_eq_getElem hsz]at hb;rw[Array.getElem?_eq_getElem hsz];simp only[Option.getD_some]at hb;rw[hb]
      split at h
      ·rename_i b e3;rw[e3]at rt;have hb:=hy b (D9 rt);by_cases hw:b=want
       ·rw[if_pos (by simp[Region.wanted,hg,hb,hw])];exact body (h.1 hw) fun _ _ hk=>hk
       ·rw[if_neg (by simp[Region.wanted,hg,hb,hw])];exact⟨fun _ _=>trivial,hn _ _ _ (h.2 hw) ⟨σ,ι,R.put (.tup (fun _=>undef) rfl (by simp) (by simp))⟩⟩
      ·rename_i e3;rw[e3]at rt;have hv:=Yc rt;have hb:yielded ops a.tmps j=none:=by
        unfold yielded;rw[hoj'];simp only[Option.bind_some,ht];rw[Array.getD_eq_getD_getElem?,Array.getElem?_eq_getElem hsz]at hv;rw[Array.getElem?_eq_getElem hsz];simp only[Option.getD_some]at hv;rw[hv]
       rw[if_neg (by simp[Region.wanted,hg,hb])];exact⟨fun _ _=>trivial,hn _ _ _ h ⟨σ,ι,R.put (.tup (fun _=>undef) rfl (by simp) (by simp))⟩⟩
      ·exact h.elim
     ·cases e1
    ·cases e1
   ·cases e1
 ·cases htr
theorem Km{n:Nat}{mu:List Nat}{ops:List Oper}:∀{l:List Oper} {ks:List Ins},My P n mu ops l=some ks→l.length=ks.length∧∀(i:Nat) (o:Oper),l[i]?=some o→∃k,ks[i]?=some k∧SR P n mu ops o=some k
 | [],ks,h=>by
  simp only[My,Option.some.injEq]at h;subst h;simp
 | o::os,ks,h=>by
  simp only[My]at h;split at h
  ·rename_i k ks' e1 e2;cases h;obtain⟨h1,h2⟩:=Km e2;refine⟨by simp[h1],fun i o' ho'=>?_⟩;cases i with
   | zero =>
    simp at ho';subst ho';exact⟨k,rfl,e1⟩
   | succ i=>simpa using h2 i o' (by simpa using ho')
  ·cases h
theorem ET{α:Type}:∀l:List α,(List.range l.length).filterMap (fun i=>l[i]?)=l
 | []=>rfl
 | x::l=>by
  rw[List.length_cons,List.range_succ_eq_map,List.filterMap_cons,List.filterMap_map];simp only[List.getElem?_cons_zero];congr 1;have:=ET l;exact this
theorem Sd{mu:List Nat}{ops:Array Oper}{ks:List Ins}{id:Nat}(htr:My P C.n mu ops.toList ops.toList=some ks){K:AS→Prop}(R:Ac C σ ι s a w)(h:Run P ks s K)(hn:∀s' a' w',K s'→Bh C s' a' w'→Q .normal a' w') :
  (Code.region id ops false).wpIn (fen C.ro) 0 P Q a w:=by
 obtain⟨hl,hget⟩:=Km htr;refine wpIn_region ?_;have key:∀(m k:Nat) (s:AS) (a:Act) (w:World),k+m=ops.size→Bh C s a w→Run P (ks.drop k) s K→wpOpsIn (fen C.ro) 0 P ops Q (List.range' k m) a w:=by
  intro m;induction m with
  | zero =>
   intro k s a w hk hH hr;have:ks.drop k=[]:=List.drop_of_length_le (by simp at hl;omega)
   rw[this]at hr;exact hn _ _ _ hr hH
  | succ m ih =>
   intro k s a w hk hH hr;have hlt:k<ops.toList.length:=by simp;omega
   obtain⟨kk,h1,h2⟩:=hget k _ (List.getElem?_eq_getElem hlt);have hd:ks.drop k=kk::ks.drop (k+1):=by
    have hk':=(List.getElem?_eq_some_iff.1 h1).1;rw[List.drop_eq_getElem_cons hk'];congr 1;exact(List.getElem?_eq_some_iff.1 h1).2
   rw[hd,Sf]at hr;obtain⟨σ,ι,R⟩:=hH;rw[List.range'_succ,wpOpsIn_cons];exact Pd (i:=k) (by rw[←Array.getElem?_toList];exact List.getElem?_eq_getElem hlt) h2 ⟨rfl,rfl,rfl⟩ R hr fun s' a' w' hK hH'=>ih (k+1) s' a' w' (by omega) hH' hK
 rw[List.range_eq_range'];exact key ops.size 0 s a w (by omega) ⟨σ,ι,R⟩ (by simpa using h)
def Ih(ops:List Oper):Nat→Nat→Nat→Bool
 | 0,_,_=>false
 | f+1,j,i=>match ops[i]? with
  | some o=>o.after.any fun e=>Region.binds .any e&&(e.on==j||Ih ops f j e.on)
  | none=>false
def QW(ops:List Oper)(ks:List Ins):Bool :=
 (List.range ops.length).all fun i =>
  (match ops[i]? with|some o=>o.after.all (fun e=>!Region.binds .any e||e.on<i)|none=>true) &&
  (List.range i).all fun j=>match ks[j]?,ks[i]? with
   | some x,some y=>x.indep y||Ih ops ops.length j i
   | _,_=>true
theorem N6{ops:Array Oper}{listed:Array Bool}(hdc:∀k o,ops[k]?=some o→listed.getD k true=true→k<ops.size→∀e∈o.after,Region.binds .any e=true→listed.getD e.on false=true){i:Nat} :
  ∀(f j i:Nat),(∀o,ops[i]?=some o→∀e∈o.after,Region.binds .any e=true→listed.getD e.on false=true)→Ih ops.toList f j i=true→listed.getD j false=true:=by
 intro f;induction f with
 | zero=>intro j i _ h;simp[Ih]at h
 | succ f ih =>
  intro j i hi h;simp only[Ih]at h;split at h
  ·rename_i o ho;have ho':ops[i]?=some o:=by simpa using ho
   obtain⟨k,hk,h2⟩:=Array.any_eq_true.1 h;simp only[Bool.and_eq_true,Bool.or_eq_true,beq_iff_eq]at h2;have hl:=hi o ho' _ (Array.getElem_mem hk) h2.1;rcases h2.2 with h3|h3
   ·rw[←h3];exact hl
   ·refine ih j _ (fun o2 ho2 e he hb=>?_) h3;have hlt:=(Array.getElem?_eq_some_iff.1 ho2).1;refine hdc _ o2 ho2 ?_ hlt e he hb;rcases Nat.lt_or_ge (o.after[k]).on listed.size with h'|h'
    ·simp[h']at hl ⊢;exact hl
    ·simp[Array.getElem?_eq_none h']
  ·cases h
def Sn(ks ks':List Ins):Prop:=ks.length=ks'.length∧∀(i:Nat) k,ks[i]?=some k→∃k':Ins,ks'[i]?=some k'∧k'.dst=k.dst∧k'.guard=k.guard∧k'.kd=k.kd
def Vn(f:Nat→Tag):Nat→List Ins→List Ins
 | _,[]=>[]
 | i,k::ks=>⟨k.dst,k.guard,k.kd,f i⟩::Vn f (i+1) ks
theorem Sw(f:Nat→Tag):∀(n:Nat) (ks:List Ins),Sn ks (Vn f n ks)
 | _,[]=>⟨rfl,fun i k h=>by simp at h⟩
 | n,k::ks=>by
  obtain⟨h1,h2⟩:=Sw f (n+1) ks;refine⟨by simp[Vn,h1],fun i k' hk'=>?_⟩;cases i with
  | zero =>
   simp only[List.getElem?_cons_zero,Option.some.injEq]at hk';subst hk';exact⟨_,rfl,rfl,rfl,rfl⟩
  | succ i=>exact h2 i k' (by simpa using hk')
theorem Sn.refl(ks:List Ins):Sn ks ks:=⟨rfl,fun i k h=>⟨k,h,rfl,rfl,rfl⟩⟩
theorem MM{mu:List Nat}{ops:Array Oper}{ks0 ks:List Ins}{id:Nat}(hmix:P.follows .mixedOrders=true)(htr:My P C.n mu ops.toList ops.toList=some ks0)(hre:Sn ks0 ks)(hok:QW ops.toList ks=true){K:AS→Prop}(R:Ac C σ ι s a w)(h:Run P ks s K)(hn:∀s' a' w',K s'→Bh C s' a' w'→Q .normal a' w') :
  (Code.region id ops true).wpIn (fen C.ro) 0 P Q a w:=by
 obtain⟨hl0,hget0⟩:=Km htr;have hl:ops.size=ks.length:=by
  rw[←hre.1,←hl0,Array.length_toList]
 have hget:∀(i:Nat) (o:Oper),ops.toList[i]?=some o→∃k',ks[i]?=some k'∧∃k,SR P C.n mu ops.toList o=some k∧k'.dst=k.dst∧k'.guard=k.guard∧k'.kd=k.kd:=fun i o ho=>by
  obtain⟨k,h1,h2⟩:=hget0 i o ho;obtain⟨k',q1,q2⟩:=hre.2 i k h1;exact⟨k',q1,k,h2,q2⟩
 refine wpIn_region_any hmix ?_;have hchk:∀i,i<ops.size→(∀o,ops[i]?=some o→∀e∈o.after,Region.binds .any e=true→e.on<i)∧∀j,j<i→∀x y,ks[j]?=some x→ks[i]?=some y→x.indep y=true∨Ih ops.toList ops.toList.length j i=true:=fun i hi=>by
  have h1:=List.all_eq_true.1 hok i (List.mem_range.2 (by simpa using hi));simp only[Bool.and_eq_true]at h1;refine⟨fun o ho e he hb=>?_,fun j hj x y hx hy=>?_⟩
  ·have h2:=h1.1;rw[show ops.toList[i]?=some o by simpa using ho]at h2;dsimp only at h2
   obtain⟨k,hk,rfl⟩:=Array.getElem_of_mem he;have h3:=(Array.all_eq_true.1 h2) k hk;simpa[hb]using h3
  ·have h2:=List.all_eq_true.1 h1.2 j (List.mem_range.2 hj);rw[hx,hy]at h2;simpa using h2
 have key:∀(f:Nat) (T:List Nat) (listed:Array Bool) (s:AS) (a:Act) (w:World),T.length≤f→listed.size=ops.size→T.Pairwise (·<·)→(∀i,i∈T↔i<ops.size∧listed.getD i true=false) →
   (∀k o,ops[k]?=some o→listed.getD k true=true→k<ops.size→∀e∈o.after,Region.binds .any e=true→listed.getD e.on false=true)→Bh C s a w→Run P (T.filterMap fun i=>ks[i]?) s K→wpAnyIn (fen C.ro) 0 P .any ops Q f listed a w:=by
  intro f;induction f with
  | zero =>
   intro T listed s a w hf hsz hs hT hdc hH hr;have hT0:T=[]:=List.eq_nil_of_length_eq_zero (by omega);subst hT0;refine⟨?_,hn _ _ _ hr hH⟩;rw[List.eq_nil_iff_forall_not_mem];intro i hi;obtain⟨q1,o,q2,q3⟩:=mem_ready.1 hi;have:=(hT i).2 ⟨(Array.getElem?_eq_some_iff.1 q2).1,q1⟩;cases this
  | succ f ih =>
   intro T listed s a w hf hsz hs hT hdc hH hr;refine⟨fun hready=>?_,fun i hi=>?_⟩
   ·-- nothing may come up: nothing is left
    cases T with
    | nil=>exact hn _ _ _ hr hH
    | cons i T =>
     exfalso;obtain⟨hi1,hi2⟩:=(hT i).1 (by simp);have:i∈Region.ready .any ops listed:=by
      refine mem_ready.2 ⟨hi2,ops[i],Array.getElem?_eq_getElem hi1,fun e he hb=>?_⟩;have hlt:=(hchk i hi1).1 _ (Array.getElem?_eq_getElem hi1) e he hb;cases hq:listed.getD e.on true with
      | true =>
       simp[show e.on<listed.size by omega]at hq ⊢;exact hq
      | false =>
       have hmem:=(hT e.on).2 ⟨by omega,hq⟩;rcases List.mem_cons.1 hmem with h|h
       ·omega
       ·have:=(List.pairwise_cons.1 hs).1 _ h;omega
     rw[hready]at this;cases this
   ·obtain⟨q1,o,q2,q3⟩:=mem_ready.1 hi;have hi1:=(Array.getElem?_eq_some_iff.1 q2).1;have hmem:=(hT i).2 ⟨hi1,q1⟩;obtain⟨pre,post,rfl⟩:=List.append_of_mem hmem;obtain⟨y,hy1,y0,hy2,hy3⟩:=hget i o (by simpa using q2);rw[List.filterMap_append,List.filterMap_cons,hy1]at hr;dsimp only at hr
    have hpre:∀j∈pre,j<i:=fun j hj=>(List.pairwise_append.1 hs).2.2 j hj i (by simp);have hfront:=WO (P:=P) (K:=K) (pre:=pre.filterMap fun i=>ks[i]?) (y:=y) (post:=post.filterMap fun i=>ks[i]?) (fun x hx=>by
     obtain⟨j,hj,hxj⟩:=List.mem_filterMap.1 hx;have hji:=hpre j hj;rcases(hchk i hi1).2 j hji x y hxj hy1 with hind|hbe
     ·exact hind
     ·exfalso;have h1:=N6 (ops:=ops) (listed:=listed) hdc (i:=i) _ j i (fun o2 ho2 e he hb=>by
       rw[q2]at ho2;cases ho2;exact q3 e he hb) hbe
      have h2:=((hT j).1 (by simp[hj])).2;have h3:=((hT j).1 (by simp[hj])).1;simp[show j<listed.size by omega]at h1 h2;rw[h1]at h2;cases h2) hr
    obtain⟨σ,ι,R⟩:=hH;refine Pd q2 hy2 hy3 R hfront fun s' a' w' hK hH'=>?_;rw[←List.filterMap_append]at hK;have hsub:(pre++post).Pairwise (·<·):=by
     refine hs.sublist ?_;exact List.Sublist.append (List.Sublist.refl pre) (List.sublist_cons_self i post)
    have hni:i∉pre++post:=fun hm=>by
     rcases List.mem_append.1 hm with hm|hm
     ·have:=hpre i hm;omega
     ·have:=(List.pairwise_cons.1 (List.pairwise_append.1 hs).2.1).1 i hm;omega
    refine ih (pre++post) (listed.setIfInBounds i true) s' a' w' (by simp at hf ⊢;omega) (by simpa using hsz) hsub (fun j=>?_) (fun k ok hok2 hlk hkk e he hb=>?_) hH' hK
    ·constructor
     ·intro hj;have hji:i≠j:=fun e=>hni (e ▸ hj);have:=(hT j).1 (by
       rcases List.mem_append.1 hj with h|h
       ·simp[h]
       ·simp[h])
      rw[getD_set_ne true hji];exact this
     ·rintro⟨h1,h2⟩;have hji:i≠j:=fun e=>by
       subst e;simp[show i<listed.size by omega]at h2
      rw[getD_set_ne true hji]at h2;have:=(hT j).2 ⟨h1,h2⟩;rcases List.mem_append.1 this with h|h
      ·exact List.mem_append.2 (.inl h)
      ·rcases List.mem_cons.1 h with h|h
       ·exact absurd h.symm hji
       ·exact List.mem_append.2 (.inr h)
    ·by_cases hki:i=k
     ·subst hki;rw[q2]at hok2;cases hok2;exact getD_set_true (q3 e he hb)
     ·rw[getD_set_ne true hki]at hlk;exact getD_set_true (hdc k ok hok2 hlk hkk e he hb)
 refine key ops.size (List.range ops.size) (Array.replicate ops.size false) s a _ (by simp) (by simp) List.pairwise_lt_range (fun i=>?_) (fun k o hk hlk hkk e he hb=>?_) ⟨σ,ι,R.drew⟩ ?_
 ·rw[List.mem_range];constructor
  ·intro hi;exact⟨hi,by simp[hi]⟩
  ·exact fun h=>h.1
 ·simp[hkk]at hlk
 ·have e:(List.range ops.size).filterMap (fun i=>ks[i]?)=ks:=by
   rw[hl];exact ET ks
  rw[e];exact h
end

def Qh(hints:List Nat)(ks:List Ins):Nat→Nat→Nat
 | 0,t=>t
 | f+1,t=>match hints.find? fun m=>m / 10000==1000+t with
  | some m=>m % 10000
  | none=>match ks.find? fun k=>k.dst==some t with
   | some k=>match k.kd with
    | .mov (.t u)=>Qh hints ks f u
    | .fieldAddr _ (.t u)=>Qh hints ks f u
    | .nilCheck (.t u)=>Qh hints ks f u
    | _=>t
   | none=>t
def XA(ops:List Oper)(ks:List Ins):List (Nat×Nat) :=
 (List.range ops.length).flatMap fun i=>(List.range i).filterMap fun j=>match ks[j]?,ks[i]? with
  | some x,some y=>if x.indep y||Ih ops ops.length j i then none else some (j,i)
  | _,_=>none
def Q1(hints:List Nat)(ks:List Ins)(i:Nat):Option Nat:=match ks[i]? with
 | some k=>match k.kd with
  | .indexAddr _ (.t u) _=>(hints.find? fun m=>m / 10000==1000+u).map (· % 10000)
  | .indexAddr _ _ _=>none
  | kd=>match kd.ptrOpd with
   | some (.t u)=>some (Qh hints ks ks.length u)
   | _=>none
 | none=>none
def ABr(hints:List Nat)(ks:List Ins)(conf:List (Nat×Nat))(i:Nat):Tag :=
 if conf.any fun p=>p.1==i||p.2==i then match ks[i]? with
  | some k=>match k.kd with
   | .load _ _ _|.store _ _ _|.fieldAddr _ _|.nilCheck _|.indexAddr _ _ _=>match Q1 hints ks i with
    | some id=>.onb id
    | none=>.no
   | .callS _ _|.callV _ _|.callN _ _|.append _ _ _ _ _ _=>.keeps (conf.filterMap fun p=>if p.1==i then Q1 hints ks p.2 else if p.2==i then Q1 hints ks p.1 else none)
   | _=>.no
  | none=>.no
 else .no
def Yi(mu:List Nat)(ops:List Oper)(ks:List Ins):List Ins:=Vn (ABr (mu.filter fun m=>10000000≤m) ks (XA ops ks)) 0 ks
def Bf(P:Program)(n:Nat)(mu:List Nat):Code→Option IR
 | .skip=>some .skip
 | .region _ ops draw=>match My P n mu ops.toList ops.toList with
  | some ks=>if draw then if P.follows .mixedOrders&&QW ops.toList ks then some (.ops ks) else if P.follows .mixedOrders&&QW ops.toList (Yi mu ops.toList ks) then some (.ops (Yi mu ops.toList ks)) else none else some (.ops ks)
  | none=>none
 | .seq x y=>match Bf P n mu x,Bf P n mu y with
  | some x',some y'=>some (.seq x' y')
  | _,_=>none
 | .cond c x y=>match AR n c,Bf P n mu x,Bf P n mu y with
  | some c',some x',some y'=>some (.cond c' x' y')
  | _,_,_=>none
 | .block id x=>(Bf P n mu x).map (.block id)
 | .loop x=>(Bf P n mu x).map .loop
 | .rangeFunc g ps x y=>match AR n g,Bf P n mu x,Bf P n mu y with
  | some g',some x',some y'=>if ps.toList.all (fun p=>decide (p<n)) then some (.rangeF g' ps.toList x' y') else none
  | _,_,_=>none
 | .exit id=>some (.exit id)
 | .ret=>some .ret
 | _=>none
inductive AX where
 | normal
 | exit (id:Nat)
 | ret
 | pan (v:Value)
def AB1(C:Ctx)(Q:AX→AS→Prop):Exit→Act→World→Prop
 | .normal,a,w=>∃s,Q .normal s∧Bh C s a w
 | .exit id,a,w=>∃s,Q (.exit id) s∧Bh C s a w
 | .ret,a,w=>∃s,Q .ret s∧Bh C s a w
 | .panic ch,a,w=>∃s v,(Q (.pan v) s∧ch=[{ v:=v,recovered:=false }])∧Bh C s a w
 | _,_,_=>False
def IWP(P:Program)(C:Ctx)(mu:List Nat)(x:IR)(Q:AX→AS→Prop)(s:AS):Prop :=
 ∀c,Bf P C.n mu c=some x→∀a w,Bh C s a w→c.wpIn (fen C.ro) 0 P (AB1 C Q) a w
def AY(C:Ctx)(s s':AS):Prop:=∀a w,Bh C s a w→Bh C s' a w
def AX.then(K:AS→Prop)(Q:AX→AS→Prop):AX→AS→Prop
 | .normal,s=>K s
 | e,s=>Q e s
def AX.inBlock(id:Nat)(Q:AX→AS→Prop):AX→AS→Prop
 | .exit id',s=>if id'=id then Q .normal s else Q (.exit id') s
 | e,s=>Q e s
section
variable {P:Program} {C:Ctx} {mu:List Nat} {Q Q':AX→AS→Prop} {s s':AS} {x y:IR}
theorem IWP.mono(h:IWP P C mu x Q s)(hq:∀e s,Q e s→Q' e s):IWP P C mu x Q' s:=fun c hc a w hH=>wpIn_mono (h c hc a w hH) fun e a' w' he=>by
 cases e <;> first|exact he|(obtain⟨s1,v,h1,h2⟩:=he;exact⟨s1,v,⟨hq _ _ h1.1,h1.2⟩,h2⟩)|(obtain⟨s1,h1,h2⟩:=he;exact⟨s1,hq _ _ h1,h2⟩)
theorem IWP.ghost(hg:AY C s s')(h:IWP P C mu x Q s'):IWP P C mu x Q s:=fun c hc a w hH=>h c hc a w (hg a w hH)
theorem AY.refl(C:Ctx)(s:AS):AY C s s:=fun _ _ h=>h
theorem AY.trans{s1 s2 s3:AS}(h:AY C s1 s2)(k:AY C s2 s3):AY C s1 s3:=fun a w hH=>k a w (h a w hH)
theorem IWP.skip(h:Q .normal s):IWP P C mu .skip Q s:=fun c hc a w hH=>by
 cases c <;> simp only[Bf]at hc <;> first|exact wpIn_skip ⟨s,h,hH⟩|(exfalso;revert hc;(repeat' split) <;> simp)
theorem IWP.ops{l:List Ins}(h:Run P l s (Q .normal)):IWP P C mu (.ops l) Q s:=fun c hc a w hH=>by
 cases c <;> simp only[Bf]at hc
 case region id ops draw =>
  split at hc
  ·rename_i ks e1;obtain⟨σ,ι,R⟩:=hH;cases draw with
   | true =>
    simp only[if_true]at hc;split at hc
    ·rename_i h1;cases hc;simp only[Bool.and_eq_true]at h1;exact MM h1.1 e1 (Sn.refl _) h1.2 R h fun s' a' w' hs hh=>⟨s',hs,hh⟩
    ·split at hc
     ·rename_i h1;cases hc;simp only[Bool.and_eq_true]at h1;exact MM h1.1 e1 (Sw _ 0 _) h1.2 R h fun s' a' w' hs hh=>⟨s',hs,hh⟩
     ·cases hc
   | false =>
    simp only[Bool.false_eq_true,if_false,Option.some.injEq,IR.ops.injEq]at hc;subst hc;exact Sd e1 R h fun s' a' w' hs hh=>⟨s',hs,hh⟩
  ·cases hc
 all_goals (exfalso;revert hc;(repeat' split) <;> simp)
def S9(P:Program)(C:Ctx)(mu:List Nat)(y:IR)(Q:AX→AS→Prop):AX→AS→Prop:=AX.then (IWP P C mu y Q) Q
theorem HV(h:IWP P C mu y Q s):S9 P C mu y Q .normal s:=h
theorem Pt{id:Nat}(h:Q (.exit id) s):S9 P C mu y Q (.exit id) s:=h
theorem Sp(h:Q .ret s):S9 P C mu y Q .ret s:=h
theorem HP{id:Nat}(h:Q .normal s):AX.inBlock id Q .normal s:=h
theorem J7{id:Nat}(h:Q .normal s):AX.inBlock id Q (.exit id) s:=by simp only[AX.inBlock,if_true];exact h
theorem Jz{id id':Nat}(hne:id'≠id)(h:Q (.exit id') s):AX.inBlock id Q (.exit id') s:=by simp only[AX.inBlock,hne,if_false];exact h
theorem Lc{id:Nat}(h:Q .ret s):AX.inBlock id Q .ret s:=h
theorem AE{K:AS→Prop}(h:K s):AX.then K Q .normal s:=h
theorem Oy{K:AS→Prop}{id:Nat}(h:Q (.exit id) s):AX.then K Q (.exit id) s:=h
theorem S6{K:AS→Prop}(h:Q .ret s):AX.then K Q .ret s:=h
theorem IWP.opsK{l:List Ins}(h:∀K:AS→Prop,(∀s,Q .normal s→K s)→Run P l s K):IWP P C mu (.ops l) Q s:=IWP.ops (h _ fun _ h=>h)
theorem IWP.seq(h:IWP P C mu x (S9 P C mu y Q) s):IWP P C mu (.seq x y) Q s:=fun c hc a w hH=>by
 cases c <;> simp only[Bf]at hc
 case seq c1 c2 =>
  split at hc
  ·rename_i x' y' e1 e2;cases hc;refine wpIn_seq (wpIn_mono (h c1 e1 a w hH) fun e a' w' he=>?_);cases e <;> first|exact he|(obtain⟨s1,h1,h2⟩:=he;exact h1 c2 e2 a' w' h2)
  ·cases hc
 all_goals (exfalso;revert hc;(repeat' split) <;> simp)
theorem IWP.cond{c0:Opd}(h:match s.ev c0 with|.one (.st (.bool b))=>(b=true→IWP P C mu x Q s)∧(b=false→IWP P C mu y Q s)|.one .ubool=>IWP P C mu x Q s∧IWP P C mu y Q s|_=>False):IWP P C mu (.cond c0 x y) Q s:=fun c hc a w hH=>by
 cases c <;> simp only[Bf]at hc
 case cond cc c1 c2 =>
  split at hc
  ·rename_i c' x' y' e0 e1 e2;cases hc;split at h
   ·rename_i b eb;obtain⟨σ,ι,R⟩:=hH;have rb:=R.ev e0;rw[eb]at rb;exact wpIn_cond_split (D9 rb) (fun ht=>h.1 ht c1 e1 a w ⟨σ,ι,R⟩) (fun ht=>h.2 ht c2 e2 a w ⟨σ,ι,R⟩)
   ·rename_i eb;obtain⟨σ,ι,R⟩:=hH;have rb:=R.ev e0;rw[eb]at rb;obtain⟨b,hb⟩:=Ut rb;exact wpIn_cond_split hb (fun _=>h.1 c1 e1 a w ⟨σ,ι,R⟩) (fun _=>h.2 c2 e2 a w ⟨σ,ι,R⟩)
   ·exact h.elim
  ·cases hc
 all_goals (exfalso;revert hc;(repeat' split) <;> simp)
theorem IWP.block{id:Nat}(h:IWP P C mu x (AX.inBlock id Q) s):IWP P C mu (.block id x) Q s:=fun c hc a w hH=>by
 cases c <;> simp only[Bf]at hc
 case block id' c1 =>
  rw[Option.map_eq_some_iff]at hc;obtain⟨x',e1,e2⟩:=hc;cases e2;refine wpIn_block (wpIn_mono (h c1 e1 a w hH) fun e a' w' he=>?_);cases e <;> first|exact he|skip
  case exit id2 =>
   obtain⟨s1,h1,h2⟩:=he;simp only[AX.inBlock]at h1;simp only[Exit.inBlock];by_cases e:id2=id
   ·rw[if_pos e]at h1 ⊢;exact⟨s1,h1,h2⟩
   ·rw[if_neg e]at h1 ⊢;exact⟨s1,h1,h2⟩
 all_goals (exfalso;revert hc;(repeat' split) <;> simp)
theorem IWP.exit{id:Nat}(h:Q (.exit id) s):IWP P C mu (.exit id) Q s:=fun c hc a w hH=>by
 cases c <;> simp only[Bf]at hc
 case exit id' =>
  cases hc;exact wpIn_exit ⟨s,h,hH⟩
 all_goals (exfalso;revert hc;(repeat' split) <;> simp)
theorem IWP.ret(h:Q .ret s):IWP P C mu .ret Q s:=fun c hc a w hH=>by
 cases c <;> simp only[Bf]at hc
 case ret=>exact wpIn_ret ⟨s,h,hH⟩
 all_goals (exfalso;revert hc;(repeat' split) <;> simp)
theorem IWP.loop(Inv:Nat→AS→Prop)(m0:Nat)(h0:Inv m0 s)(h:∀m s,Inv m s→IWP P C mu x (AX.then (fun s'=>∃m',m'<m∧Inv m' s') Q) s):IWP P C mu (.loop x) Q s:=fun c hc a w hH=>by
 cases c <;> simp only[Bf]at hc
 case loop c1 =>
  rw[Option.map_eq_some_iff]at hc;obtain⟨x',e1,e2⟩:=hc;cases e2;have least:∀a w,(∃m s,Inv m s∧Bh C s a w)→∃m,(∃s,Inv m s∧Bh C s a w)∧∀m',(∃s,Inv m' s∧Bh C s a w)→m≤m':=fun a w ⟨m,s,h1,h2⟩=>by
   have key:∀n m,m≤n→(∃s,Inv m s∧Bh C s a w)→∃m,(∃s,Inv m s∧Bh C s a w)∧∀m',(∃s,Inv m' s∧Bh C s a w)→m≤m':=by
    intro n;induction n with
    | zero=>intro m hm hs;exact⟨m,hs,fun m' _=>by omega⟩
    | succ n ih =>
     intro m hm hs;by_cases hex:∃m',m'<m∧∃s,Inv m' s∧Bh C s a w
     ·obtain⟨m',hlt,hs'⟩:=hex;exact ih m' (by omega) hs'
     ·refine⟨m,hs,fun m' hs'=>?_⟩;rcases Nat.lt_or_ge m' m with hlt|hge
      ·exact absurd ⟨m',hlt,hs'⟩ hex
      ·exact hge
   exact key m m (Nat.le_refl _) ⟨s,h1,h2⟩
  open Classical in
  refine wpIn_loop (fun a w=>∃m s,Inv m s∧Bh C s a w) (fun a w=>if hx:∃m s,Inv m s∧Bh C s a w then(least a w hx).choose else 0) ⟨m0,s,h0,hH⟩ fun a w hI=>?_;obtain⟨⟨s1,i1,i2⟩,hmin⟩:=(least a w hI).choose_spec;refine wpIn_mono (h _ s1 i1 c1 e1 a w i2) fun e a' w' he=>?_;cases e <;> first|exact he|skip
  case normal =>
   obtain⟨s2,⟨m',hlt,hinv⟩,hH2⟩:=he;have hx':∃m s,Inv m s∧Bh C s a' w':=⟨m',s2,hinv,hH2⟩
   refine⟨hx',?_⟩;rw[dif_pos hx',dif_pos hI];have:=(least a' w' hx').choose_spec.2 m' ⟨s2,hinv,hH2⟩;omega
 all_goals (exfalso;revert hc;(repeat' split) <;> simp)
end
mutual
def SV.known:SV→Prop
 | .int k n=>inR k n
 | .str b=>b.size≤maxLen
 | .list xs=>xs.length≤maxLen∧SV.knownLL xs
 | _=>True
def SV.knownLL:List (List SV)→Prop
 | []=>True
 | x::xs=>SV.knownL x∧SV.knownLL xs
def SV.knownL:List SV→Prop
 | []=>True
 | c::cs=>c.known∧SV.knownL cs
end
theorem Mg:∀{l:List SV},SV.knownL l↔∀c∈l,c.known
 | []=>by simp[SV.knownL]
 | c::cs=>by simp[SV.knownL,Mg (l:=cs)]
theorem Lo:∀{l:List (List SV)},SV.knownLL l↔∀x∈l,SV.knownL x
 | []=>by simp[SV.knownLL]
 | c::cs=>by simp[SV.knownLL,Lo (l:=cs)]
def AC.known(S:AA):AC→Prop
 | .st c=>c.known
 | .full xs=>xs.length≤maxLen∧SV.knownLL xs
 | _=>True
def AV.known(S:AA):AV→Prop
 | .one c=>c.known S
 | .agg cs=>∀c∈cs,c.known S
 | _=>True
theorem A8.known{σ:Sto}{v:Value}{c:SV}(h:A8 σ v c):c.known:=by
 induction h with
 | int h=>exact h
 | str h=>exact h
 | @list p len cap b o w xs c h1 h2 h3 h4 h5 h6 hh h7 h8 ih =>
  refine⟨by omega,Lo.2 fun x hx=>Mg.2 fun y hy=>?_⟩;obtain⟨k,hk,rfl⟩:=List.getElem_of_mem hx;obtain⟨j,hj,rfl⟩:=List.getElem_of_mem hy;exact ih k _ j _ (List.getElem?_eq_getElem hk) (List.getElem?_eq_getElem hj)
 | _=>trivial
theorem At.known{σ:Sto}{S:AA}{ι:A6}{v:Value}{c:AC}(h:At σ S ι v c):c.known S:=by
 cases h with
 | st h=>exact h.known
 | full h=>exact h.known
 | _=>trivial
theorem Ae.known{σ:Sto}{S:AA}{ι:A6}{v:Value}{c:AV}(h:Ae σ S ι v c):c.known S:=by
 cases h with
 | one h=>exact h.known
 | agg h =>
  intro c hc;obtain⟨i,hi,rfl⟩:=List.getElem_of_mem hc;obtain⟨b,_,hb⟩:=h.get (List.getElem?_eq_getElem hi);exact hb.known
 | _=>trivial
theorem IWP.learn{P:Program}{C:Ctx}{mu:List Nat}{Q:AX→AS→Prop}{s:AS}{x:IR}(t:Nat)(ht:t<C.n)(h:(s.env t).known s.S→IWP P C mu x Q s):IWP P C mu x Q s:=fun c hc a w hH=>by
 obtain⟨σ,ι,R⟩:=hH;exact h (R.env t ht).known c hc a w ⟨σ,ι,R⟩
inductive RV where
 | t (i:Nat)
 | cell (i:Nat) (g:Bool) (n:Nat)
def Ep(P:Program)(n:Nat):List ResultVar→Option (List RV)
 | []=>some []
 | .tmp t::l=>match Ep P n l with
  | some r=>if t<n then some (.t t::r) else none
  | none=>none
 | .cell t ty::l=>match Ep P n l,Sr P ty with
  | some r,some (g,k)=>if t<n then some (.cell t g k::r) else none
  | _,_=>none
def AD(s:AS):RV→Option AV
 | .t i=>some (s.env i)
 | .cell i g n=>match s.env i with
  | .one (.ptr id m k off)=>match DL s.S id m k with
   | some cs=>if off+n≤cs.length then some (Qz g ((cs.drop off).take n)) else none
   | none=>none
  | _=>none
def AB(s:AS):List RV→Option (List AV)
 | []=>some []
 | r::l=>match AD s r,AB s l with
  | some v,some vs=>some (v::vs)
  | _,_=>none
def AM:List AV→AV
 | [v]=>v
 | vs=>.tup vs
def AS.result(s:AS)(rs:List RV):Option AV:=match AB s rs with
 | some vs=>outV s.S (AM vs)
 | none=>none
def Mw(tmps:Array Value):ResultVar→Sem Value
 | .tmp t=>pure (tmps.getD t undef)
 | .cell x t=>do loadVar t (←asAddr (tmps.getD x undef))
theorem Tf(fn:Func)(tmps:Array Value):results fn tmps=(do
  let vs ←fn.results.mapM (Mw tmps)
  pure (if h:vs.size=1 then vs[0] else .tuple vs)):=rfl
section
variable {P:Program} {C:Ctx} {a:Act} {w:World} {σ:Sto} {ι:A6} {s:AS}
theorem Jw(R:Ac C σ ι s a w):∀{l:List ResultVar} {rs:List RV} {vs:List AV},Ep P C.n l=some rs→AB s rs=some vs →
  ∃xs:List Value,(l.mapM (Mw a.tmps)).run P w=.ok xs w∧An (Ae σ s.S ι) xs vs
 | [],rs,vs,h1,h2=>by
  simp only[Ep,Option.some.injEq]at h1;subst h1;simp only[AB,Option.some.injEq]at h2;subst h2;exact⟨[],by simp,.nil⟩
 | .tmp t::l,rs,vs,h1,h2=>by
  simp only[Ep]at h1;split at h1
  ·rename_i r e1;split at h1
   ·rename_i hlt;cases h1;simp only[AB,AD]at h2;split at h2
    ·rename_i v vs' e2 e3;cases h2;cases e2;obtain⟨xs,k1,k2⟩:=Jw R e1 e3;exact⟨_::xs,by simp[List.mapM_cons,Mw,k1],.cons (R.env t hlt) k2⟩
    ·cases h2
   ·cases h1
  ·cases h1
 | .cell t ty::l,rs,vs,h1,h2=>by
  simp only[Ep]at h1;split at h1
  ·rename_i r g k e1 e4;split at h1
   ·rename_i hlt;cases h1;simp only[AB]at h2;split at h2
    ·rename_i v vs' e2 e3;cases h2;obtain⟨xs,k1,k2⟩:=Jw R e1 e3;simp only[AD]at e2;split at e2
     ·rename_i id m kk off e5;split at e2
      ·rename_i cs e6;split at e2
       ·rename_i hle;cases e2;have rt:=R.env t hlt;rw[e5]at rt;obtain⟨b,oo,hex,ys,v2,v3⟩:=R.ptr_cells (Ad rt) e6;have hlen:=v3.len;obtain⟨dd,i,q1,q2,q3,q4⟩:=I0 e4;obtain⟨v,r1,r2⟩:=GF (P:=P) (w:=w) (b:=b) (o:=oo+off) (cs:=(ys.drop off).take k) q1 q2 (fun j v hj=>by
         rw[List.getElem?_take]at hj;split at hj
         ·rw[List.getElem?_drop]at hj;rw[Nat.add_assoc];exact v2 _ _ hj
         ·cases hj) g q3 (by simp;omega)
        have r1':(loadVar ty ⟨b,oo+off,none⟩).run P w=.ok v w:=by
         simpa[Instr.loadAt,Instr.sureAddr]using r1
        exact⟨v::xs,by simp[List.mapM_cons,Mw,hex,asAddr,r1',k1],.cons (Fn ((v3.drop off).take k) r2) k2⟩
       ·cases e2
      ·cases e2
     ·cases e2
    ·cases h2
   ·cases h1
  ·cases h1
theorem Nt{S:AA}{fn:Func}{tmps:Array Value}{xs:List Value}{vs:List AV}(k1:(fn.results.toList.mapM (Mw tmps)).run P w=.ok xs w)(k2:An (Ae σ S ι) xs vs):∃v,(results fn tmps).run P w=.ok v w∧Ae σ S ι v (AM vs):=by
 have hl:=k2.len;have hrun:(results fn tmps).run P w=.ok (if h:xs.toArray.size=1 then xs.toArray[0] else .tuple xs.toArray) w:=by
  rw[Tf,Array.mapM_eq_mapM_toList];simp[k1]
 refine⟨_,hrun,?_⟩;match xs,vs,k2,hl with
 | [x],[v],k2,_ =>
  cases k2 with
  | cons k2 _=>simpa[AM]using k2
 | [],[],k2,_=>simpa[AM]using Ae.tup (σ:=σ) (S:=S) (ι:=ι) (vs:=#[]) (ps:=[]) (fun _=>undef) rfl (by simp) (by simp)
 | x::y::xs,v::v'::vs,k2,hl =>
  have ht:AM (v::v'::vs)=.tup (v::v'::vs):=rfl;rw[ht];have hne:¬(x::y::xs).toArray.size=1:=by simp
  rw[dif_neg hne];refine .tup (fun j=>((x::y::xs)[j]?).getD undef) (by simpa using hl) (fun j b hb=>?_) (fun j b hb=>?_)
  ·obtain⟨a1,h1,_⟩:=k2.get hb;rw[h1];simpa using h1
  ·obtain⟨a1,h1,h2⟩:=k2.get hb;rw[h1];exact h2
theorem AAQ(R:Ac C σ ι s a w){fn:Func}{rs:List RV}{r:AV}(h1:Ep P C.n fn.results.toList=some rs)(h2:s.result rs=some r):∃v,(results fn a.tmps).run P w=.ok v w∧Ae σ noS noH v r:=by
 unfold AS.result at h2;split at h2
 ·rename_i vs e1;obtain⟨xs,k1,k2⟩:=Jw R h1 e1;obtain⟨v,v1,v2⟩:=Nt (fn:=fn) (tmps:=a.tmps) k1 k2;exact⟨v,v1,R.outV v2 h2⟩
 ·cases h2
end
def AS.start(xs:List AV):AS:=⟨fun i=>(xs[i]?).getD (.tup []),noS⟩
def AQ(rs:List RV)(r:AV)(e:AX)(s:AS):Prop:=(match e with|.normal=>True|.ret=>True|_=>False)∧s.result rs=some r
theorem Nj{P:Program}{f:FuncId}{fn:Func}{mu:List Nat}{c:Code}{x:IR}{rs:List RV}{xs:List AV}{r:AV}(hf:P.funcs[f]?=some fn)(hb:fn.body=some c)(hx:Bf P fn.ntmps mu c=some x)(hr:Ep P fn.ntmps fn.results.toList=some rs)(hn:xs.length≤fn.ntmps)
  (h:∀C:Ctx,C.n=fn.ntmps→C.Top→IWP P C mu x (AQ rs r) (AS.start xs)):AW P f xs r:=by
 intro σ w vs hglob hfit hvs;have hl:=hvs.len;let C:Ctx:=⟨fn.ntmps,w.heap.size,fun _=>False,σ,w,noS,noH,fun i b h=>by simp[noS]at h,hglob,[],none,false⟩
 refine callsIn_wide.1 (callsIn_of_wp_marks (n:=0) hf hb trivial ?_);have R:Ac C σ noH (AS.start xs) { tmps:=vs.toArray++Array.replicate (fn.ntmps-vs.toArray.size) undef,defers:=[] } w:=by
  refine⟨by simp[C];omega,fun i hi=>?_,Hj,hfit,fun id b h=>by simp[AS.start,noS]at h,fun id id' b b' g h=>by simp[AS.start,noS]at h,fun id b g h=>by simp[AS.start,noS]at h,fun _ _ h=>h,fun _ _ _=>rfl,⟨rfl,rfl,rfl⟩,⟨Nat.le_refl _,Nat.le_refl _⟩,fun _ _ _=>rfl,Upd.refl _ _⟩;show Ae σ noS noH _ ((xs[i]?).getD (.tup []))
  rw[Array.getD_eq_getD_getElem?];by_cases hlt:i<vs.length
  ·rw[Array.getElem?_append_left (by simpa using hlt)];obtain⟨b,hb1,hb2⟩:=hvs.get' (List.getElem?_eq_getElem hlt);rw[hb1];simpa[hlt]using hb2
  ·rw[Array.getElem?_append_right (by simp;omega),List.getElem?_eq_none (by omega)];have hi':i<fn.ntmps:=hi;rw[Array.getElem?_replicate,if_pos (by simp;omega)];exact .tup (fun _=>undef) rfl (by simp) (by simp)
 refine wpIn_mono (h C rfl ⟨rfl,rfl⟩ c hx _ w ⟨σ,noH,R⟩) fun e a' w' he=>?_;have fin:∀s,s.result rs=some r→Bh C s a' w'→LeavesInM Fence.wide 0 P fn a'.tmps (fun e w'=>∃v σ',e=.returned v∧Ae σ' noS noH v r∧Fit σ' w'∧Ext w.heap.size σ σ'∧Below w.heap.size w w') a'.defers .returning w':=fun s hs hH=>by
  obtain⟨σ',ι',R1⟩:=hH;refine R1.leaves (fun h=>by cases h) fun a2 w2 R' hd ht=>?_;obtain⟨v,v1,v2⟩:=AAQ R' (fn:=fn) hr hs;exact⟨v,v1,v,σ',rfl,v2,R'.fit,⟨R'.ext,fun p hp=>R'.old p hp (fun h=>h)⟩,⟨R'.os.1,R'.os.2.1,R'.os.2.2,R'.grown.2,fun k hk=>R'.same k hk (fun h=>h)⟩⟩
 cases e with
 | normal=>obtain⟨s,h1,h2⟩:=he;exact fin s h1.2 h2
 | ret=>obtain⟨s,h1,h2⟩:=he;exact fin s h1.2 h2
 | exit id=>obtain⟨s,h1,h2⟩:=he;exact h1.1.elim
 | panic ch=>obtain⟨s,v,h1,h2⟩:=he;exact h1.1.1.elim
 | _=>exact he.elim
theorem XW{P:Program}{f:FuncId}{fn:Func}{mu:List Nat}{c:Code}{x:IR}{rs:List RV}{xs:List AV}{r:AV}(hf:P.funcs[f]?=some fn)(hb:fn.body=some c)(hx:Bf P fn.ntmps mu c=some x)(hr:Ep P fn.ntmps fn.results.toList=some rs)(hn:xs.length≤fn.ntmps)
  (h:∀C:Ctx,C.n=fn.ntmps→IWP P C mu x (AQ rs r) (AS.start xs)):AW P f xs r:=Nj hf hb hx hr hn fun C h1 _=>h C h1
def FR(C:Ctx)(rs:List RV)(r:AV)(S':AA)(e:AX)(s:AS):Prop:=(match e with|.normal=>True|.ret=>True|_=>False)∧∃s2 s3 r0,AY C s s2∧(AB s2 rs).map AM=some r0∧(∀σ ι a w,Ac C σ ι s2 a w→∃σ' ι',Ac C σ' ι' s3 a w∧∀v,Ae σ s2.S ι v r0→Ae σ' s3.S ι' v r)∧s3.S=S'∧Ay S'
theorem Vl{C:Ctx}{rs:List RV}{r:AV}{S':AA}{e:AX}{s:AS}(he:match e with|.normal=>True|.ret=>True|_=>False)(h:∃s2,AY C s s2∧(AB s2 rs).map AM=some r∧s2.S=S'∧Ay S'):FR C rs r S' e s:=by
 obtain⟨s2,h1,h2,h3,h4⟩:=h;exact⟨he,s2,s2,r,h1,h2,fun σ ι a w R=>⟨σ,ι,R,fun _ h=>h⟩,h3,h4⟩
def AS.startS(xs:List AV)(S:AA):AS:=⟨fun i=>(xs[i]?).getD (.tup []),S⟩
theorem SP{P:Program}{f:FuncId}{fn:Func}{mu:List Nat}{c:Code}{x:IR}{rs:List RV}{xs:List AV}{S:AA}{r:AV}{S':AA}(hf:P.funcs[f]?=some fn)(hb:fn.body=some c)(hx:Bf P fn.ntmps mu c=some x)(hr:Ep P fn.ntmps fn.results.toList=some rs)(hn:xs.length≤fn.ntmps)
  (h:Ay S→∀C:Ctx,C.n=fn.ntmps→C.Top→IWP P C mu x (FR C rs r S') (AS.startS xs S)):Ah P f xs S r S':=by
 intro hclean σ w vs ι hglob hfit hown hvs;have hl:=hvs.len;let C:Ctx:=⟨fn.ntmps,w.heap.size,fun g=>¬C3 S ι g,σ,w,S,ι,hclean,hglob,[],none,false⟩
 refine callsIn_wide.1 (callsIn_of_wp_marks (n:=0) hf hb trivial ?_);have R:Ac C σ ι (AS.startS xs S) { tmps:=vs.toArray++Array.replicate (fn.ntmps-vs.toArray.size) undef,defers:=[] } w:=by
  refine⟨by simp[C];omega,fun i hi=>?_,Hj,hfit,hown.1,hown.2,fun id b g h hg=>.inr (fun hno=>hno id b h hg),fun _ _ h=>h,fun _ _ _=>rfl,⟨rfl,rfl,rfl⟩,⟨Nat.le_refl _,Nat.le_refl _⟩,fun _ _ _=>rfl,Upd.refl _ _⟩;show Ae σ S ι _ ((xs[i]?).getD (.tup []))
  rw[Array.getD_eq_getD_getElem?];by_cases hlt:i<vs.length
  ·rw[Array.getElem?_append_left (by simpa using hlt)];obtain⟨b,hb1,hb2⟩:=hvs.get' (List.getElem?_eq_getElem hlt);rw[hb1];simpa[hlt]using hb2
  ·rw[Array.getElem?_append_right (by simp;omega),List.getElem?_eq_none (by omega)];have hi':i<fn.ntmps:=hi;rw[Array.getElem?_replicate,if_pos (by simp;omega)];exact .tup (fun _=>undef) rfl (by simp) (by simp)
 refine wpIn_mono (h hclean C rfl ⟨rfl,rfl⟩ c hx _ w ⟨σ,ι,R⟩) fun e a' w' he=>?_;have fin:∀s,(∃s2 s3 r0,AY C s s2∧(AB s2 rs).map AM=some r0∧(∀σ ι a w,Ac C σ ι s2 a w→∃σ' ι',Ac C σ' ι' s3 a w∧∀v,Ae σ s2.S ι v r0→Ae σ' s3.S ι' v r)∧s3.S=S'∧Ay S')→Bh C s a' w'→LeavesInM Fence.wide 0 P fn a'.tmps (fun e w'=>∃v σ' ι',e=.returned v∧Ay S'∧Upd S ι S' ι'∧Fi σ' S' ι' w'∧Ae σ' S' ι' v r∧Fit σ' w'∧(∀p x,σ p=some x→σ' p=some x) ∧
   (∀p:Addr,p.block<w.heap.size→C3 S ι p.block→σ' p=σ p)∧(w'.os=w.os∧w'.tape=w.tape∧w'.output=w.output)∧w.heap.size≤w'.heap.size ∧
   (∀g,g<w.heap.size→C3 S ι g→w'.heap[g]?=w.heap[g]?)∧(∀id b g,S' id=some b→(ι' id).g=some g→w.heap.size≤g∨¬C3 S ι g)) a'.defers .returning w':=fun s ⟨s2,s3,r0,hg,hres,hlow,hS,hc⟩ hH=>by
  obtain⟨σ1,ι1,R1⟩:=hg _ _ hH;refine R1.leaves (fun h=>by cases h) fun a2 w2 R2 hd ht=>?_;subst hS;rw[Option.map_eq_some_iff]at hres;obtain⟨vs2,e1,rfl⟩:=hres;obtain⟨xs2,k1,k2⟩:=Jw R2 hr e1;obtain⟨v,v1,v20⟩:=Nt (fn:=fn) (tmps:=a2.tmps) k1 k2;obtain⟨σ',ι',R',hv'⟩:=hlow _ _ _ _ R2;have v2:=hv' v v20;exact⟨v,v1,v,σ',ι',rfl,hc,R'.upd,⟨R'.blk,R'.inj⟩,v2,R'.fit,R'.ext,fun p h1 h2=>R'.old p h1 (fun h=>h h2),R'.os,R'.grown.2,fun g h1 h2=>R'.same g h1 (fun h=>h h2),fun id b g h1 h2=>R'.base id b g h1 h2⟩
 cases e with
 | normal=>obtain⟨s,h1,h2⟩:=he;exact fin s h1.2 h2
 | ret=>obtain⟨s,h1,h2⟩:=he;exact fin s h1.2 h2
 | exit id=>obtain⟨s,h1,h2⟩:=he;exact h1.1.elim
 | panic ch=>obtain⟨s,v,h1,h2⟩:=he;exact h1.1.1.elim
 | _=>exact he.elim
theorem Uw{P:Program}{f:FuncId}{fn:Func}{mu:List Nat}{c:Code}{x:IR}{rs:List RV}{xs:List AV}{S:AA}{r:AV}{S':AA}(hf:P.funcs[f]?=some fn)(hb:fn.body=some c)(hx:Bf P fn.ntmps mu c=some x)(hr:Ep P fn.ntmps fn.results.toList=some rs)(hn:xs.length≤fn.ntmps)
  (h:Ay S→∀C:Ctx,C.n=fn.ntmps→IWP P C mu x (FR C rs r S') (AS.startS xs S)):Ah P f xs S r S':=SP hf hb hx hr hn fun h0 C h1 _=>h h0 C h1
def AAC(C:Ctx)(rs:List RV)(Post:AV→AA→Prop)(e:AX)(s:AS):Prop:=∃r S',Post r S'∧FR C rs r S' e s
theorem XR{P:Program}{fn:Func}{C:Ctx}{rs:List RV}{Post:AV→AA→Prop}{e:AX}{s:AS}{a':Act}{w':World}{S:AA}{ι:A6}(hC:C.N=C.w0.heap.size)(hG:∀g,C.G g↔¬C3 S ι g)(hS0:C.S0=S)(hι0:C.ι0=ι)(hds:C.ds=[])(hr:Ep P C.n fn.results.toList=some rs)(h:AAC C rs Post e s)(hH:Bh C s a' w') :
  LeavesInM Fence.wide 0 P fn a'.tmps (UW C.σ0 S ι C.w0 Post) a'.defers .returning w':=by
 obtain⟨r,S',hP,_,s2,s3,r0,hg,hres,hlow,hS,hc⟩:=h;obtain⟨σ1,ι1,R1⟩:=hg _ _ hH;refine R1.leaves (fun h=>by cases h) fun a2 w2 R2 hd ht=>?_;subst hS;rw[Option.map_eq_some_iff]at hres;obtain⟨vs2,e1,rfl⟩:=hres;obtain⟨xs2,k1,k2⟩:=Jw R2 hr e1;obtain⟨v,v1,v20⟩:=Nt (fn:=fn) (tmps:=a2.tmps) k1 k2;obtain⟨σ',ι',R',hv'⟩:=hlow _ _ _ _ R2;have v2:=hv' v v20;rw[hds];have hupd:=R'.upd;rw[hS0,hι0]at hupd;exact⟨v,v1,v,r,s3.S,σ',ι',rfl,hP,hc,hupd,⟨R'.blk,R'.inj⟩,v2,R'.fit,R'.ext,fun p h1 h2=>R'.old p (by rw[hC];exact h1) (fun h=>(hG _).1 h h2),R'.os,R'.grown.2,fun g h1 h2=>R'.same g (by rw[hC];exact h1) (fun h=>(hG _).1 h h2),fun id b g h1 h2=>(R'.base id b g h1 h2).imp (fun h=>by rw[←hC];exact h) fun h=>(hG _).1 h⟩
theorem Uv{P:Program}{f:FuncId}{fn:Func}{mu:List Nat}{c:Code}{x:IR}{rs:List RV}{xs:List AV}{S:AA}{Post:AV→AA→Prop}(hf:P.funcs[f]?=some fn)(hb:fn.body=some c)(hx:Bf P fn.ntmps mu c=some x)(hr:Ep P fn.ntmps fn.results.toList=some rs)(hn:xs.length≤fn.ntmps)
  (h:Ay S→∀C:Ctx,C.n=fn.ntmps→C.Top→IWP P C mu x (AAC C rs Post) (AS.startS xs S)):E_ P f xs S Post:=by
 intro hclean σ w vs ι hglob hfit hown hvs;have hl:=hvs.len;let C:Ctx:=⟨fn.ntmps,w.heap.size,fun g=>¬C3 S ι g,σ,w,S,ι,hclean,hglob,[],none,false⟩
 refine callsIn_wide.1 (callsIn_of_wp_marks (n:=0) hf hb trivial ?_);have R:Ac C σ ι (AS.startS xs S) { tmps:=vs.toArray++Array.replicate (fn.ntmps-vs.toArray.size) undef,defers:=[] } w:=by
  refine⟨by simp[C];omega,fun i hi=>?_,Hj,hfit,hown.1,hown.2,fun id b g h hg=>.inr (fun hno=>hno id b h hg),fun _ _ h=>h,fun _ _ _=>rfl,⟨rfl,rfl,rfl⟩,⟨Nat.le_refl _,Nat.le_refl _⟩,fun _ _ _=>rfl,Upd.refl _ _⟩;show Ae σ S ι _ ((xs[i]?).getD (.tup []))
  rw[Array.getD_eq_getD_getElem?];by_cases hlt:i<vs.length
  ·rw[Array.getElem?_append_left (by simpa using hlt)];obtain⟨b,hb1,hb2⟩:=hvs.get' (List.getElem?_eq_getElem hlt);rw[hb1];simpa[hlt]using hb2
  ·rw[Array.getElem?_append_right (by simp;omega),List.getElem?_eq_none (by omega)];have hi':i<fn.ntmps:=hi;rw[Array.getElem?_replicate,if_pos (by simp;omega)];exact .tup (fun _=>undef) rfl (by simp) (by simp)
 refine wpIn_mono (h hclean C rfl ⟨rfl,rfl⟩ c hx _ w ⟨σ,ι,R⟩) fun e a' w' he=>?_;have fin:∀e s,AAC C rs Post e s→Bh C s a' w'→LeavesInM Fence.wide 0 P fn a'.tmps (UW σ S ι w Post) a'.defers .returning w':=fun e s h1 h2=>XR (C:=C) rfl (fun g=>Iff.rfl) rfl rfl rfl hr h1 h2;cases e with
 | normal=>obtain⟨s,h1,h2⟩:=he;exact fin _ s h1 h2
 | ret=>obtain⟨s,h1,h2⟩:=he;exact fin _ s h1 h2
 | exit id=>obtain⟨s,⟨r,S',hP,h1⟩,h2⟩:=he;exact h1.1.elim
 | panic ch=>obtain⟨s,v,⟨⟨r,S',hP,h1⟩,_⟩,h2⟩:=he;exact h1.1.elim
 | _=>exact he.elim
structure OkF(P:Program)(f n:Nat)(mu:List Nat)(x:IR)(rs:List RV):Prop where
 ok:∃fn c,P.funcs[f]?=some fn∧fn.body=some c∧fn.ntmps=n∧Bf P n mu c=some x∧Ep P n fn.results.toList=some rs
section
variable {P:Program} {f n:Nat} {mu:List Nat} {x:IR} {rs:List RV}
theorem OkF.of{fn:Func}(hf:P.funcs[f]?=some fn)(hb:fn.body.isSome=true)(hn:fn.ntmps=n)(hx:Bf P n mu (fn.body.getD .skip)=some x)(hr:Ep P n fn.results.toList=some rs):OkF P f n mu x rs:=by
 obtain⟨c,hc⟩:=Option.isSome_iff_exists.1 hb;rw[hc]at hx;exact⟨fn,c,hf,hc,hn,hx,hr⟩
theorem OkF.ac(o:OkF P f n mu x rs){xs:List AV}{r:AV}(h:∀C:Ctx,C.n=n→IWP P C mu x (AQ rs r) (AS.start xs))(hn:xs.length≤n:=by exact Nat.le_of_ble_eq_true rfl):AW P f xs r:=by
 obtain⟨fn,c,hf,hb,rfl,hx,hr⟩:=o.ok;exact XW hf hb hx hr hn h
theorem OkF.acT(o:OkF P f n mu x rs){xs:List AV}{r:AV}(h:∀C:Ctx,C.n=n→C.Top→IWP P C mu x (AQ rs r) (AS.start xs))(hn:xs.length≤n:=by exact Nat.le_of_ble_eq_true rfl):AW P f xs r:=by
 obtain⟨fn,c,hf,hb,rfl,hx,hr⟩:=o.ok;exact Nj hf hb hx hr hn h
theorem OkF.acR(o:OkF P f n mu x rs){xs:List AV}{S:AA}{Post:AV→AA→Prop}(h:Ay S→∀C:Ctx,C.n=n→C.Top→IWP P C mu x (AAC C rs Post) (AS.startS xs S))(hn:xs.length≤n:=by exact Nat.le_of_ble_eq_true rfl):E_ P f xs S Post:=by
 obtain⟨fn,c,hf,hb,rfl,hx,hr⟩:=o.ok;exact Uv hf hb hx hr hn h
theorem OkF.acS(o:OkF P f n mu x rs){xs:List AV}{S S':AA}{r:AV}(h:Ay S→∀C:Ctx,C.n=n→IWP P C mu x (FR C rs r S') (AS.startS xs S))(hn:xs.length≤n:=by exact Nat.le_of_ble_eq_true rfl):Ah P f xs S r S':=by
 obtain⟨fn,c,hf,hb,rfl,hx,hr⟩:=o.ok;exact Uw hf hb hx hr hn h
end

set_option linter.unusedSimpArgs false
mutual
def AC.clear(ds:List Nat):AC→Bool
 | .row id _=>!ds.contains id
 | .part id _ _=>!ds.contains id
 | .rest id _ _=>!ds.contains id
 | .ptr id _ _ _=>!ds.contains id
 | .mptr id=>!ds.contains id
 | .yld id=>!ds.contains id
 | .ubool=>true
 | .fn _ caps=>AC.clears ds caps
 | .st _=>true
 | .full _=>true
 | .eptr _=>true
 | .any=>true
def AC.clears(ds:List Nat):List AC→Bool
 | []=>true
 | c::cs=>c.clear ds&&AC.clears ds cs
end
theorem Mz{ds:List Nat}:∀{l:List AC},AC.clears ds l=true→∀a∈l,a.clear ds=true
 | [],_,a,ha=>by simp at ha
 | x::xs,hx,a,ha=>by
  rw[AC.clears,Bool.and_eq_true]at hx;rcases List.mem_cons.1 ha with rfl|ha
  ·exact hx.1
  ·exact Mz hx.2 a ha
def AC.purge(ds:List Nat):AC→AC
 | .row id n=>if ds.contains id then .any else .row id n
 | .part id k n=>if ds.contains id then .any else .part id k n
 | .rest id k n=>if ds.contains id then .any else .rest id k n
 | .ptr id n k off=>if ds.contains id then .any else .ptr id n k off
 | .mptr id=>if ds.contains id then .any else .mptr id
 | .yld id=>if ds.contains id then .any else .yld id
 | .fn f caps=>if AC.clears ds caps then .fn f caps else .any
 | c=>c
mutual
def AV.purge(ds:List Nat):AV→AV
 | .one c=>.one (c.purge ds)
 | .agg cs=>.agg (cs.map (AC.purge ds))
 | .tup vs=>.tup (AV.purges ds vs)
 | .any=>.any
def AV.purges(ds:List Nat):List AV→List AV
 | []=>[]
 | v::vs=>v.purge ds::AV.purges ds vs
end
def AJ.purge(ds:List Nat):AJ→AJ
 | .box e cs=>.box e (cs.map (AC.purge ds))
 | .crow e cs=>.crow e (cs.map (AC.purge ds))
 | .iter x n seen=>.iter (x.purge ds) n seen
 | .loop env r=>.loop (AV.purges ds env) r
 | b=>b
def AT(ds:List Nat)(S:AA):AA:=fun id=>if ds.contains id then none else(S id).map (AJ.purge ds)
def AS.drop(ds:List Nat)(s:AS):AS:=⟨fun i=>(s.env i).purge ds,AT ds s.S⟩
theorem Dn{ds:List Nat}(hds:∀d∈ds,d<1000){id:Nat}(h:1000≤id):ds.contains id=false:=by
 cases hc:ds.contains id with
 | false=>rfl
 | true =>
  have:=hds id (List.contains_iff_mem.1 hc);omega
mutual
theorem AC.clear_high{ds:List Nat}(hds:∀d∈ds,d<1000):∀{c:AC},c.high=true→c.clear ds=true
 | .st _,_=>rfl
 | .full _,_=>rfl
 | .row id n,h=>by
  rw[AC.high]at h;rw[AC.clear,Dn hds (of_decide_eq_true h)];rfl
 | .part id k n,h=>by
  rw[AC.high]at h;rw[AC.clear,Dn hds (of_decide_eq_true h)];rfl
 | .rest id k n,h=>by
  rw[AC.high]at h;rw[AC.clear,Dn hds (of_decide_eq_true h)];rfl
 | .ptr id n k off,h=>by
  rw[AC.high]at h;rw[AC.clear,Dn hds (of_decide_eq_true h)];rfl
 | .mptr id,h=>by
  rw[AC.high]at h;rw[AC.clear,Dn hds (of_decide_eq_true h)];rfl
 | .yld id,h=>by
  rw[AC.high]at h;rw[AC.clear,Dn hds (of_decide_eq_true h)];rfl
 | .ubool,_=>rfl
 | .eptr _,_=>rfl
 | .fn f caps,h=>by
  rw[AC.high]at h;rw[AC.clear];exact AC.clears_highs hds h
 | .any,_=>rfl
theorem AC.clears_highs{ds:List Nat}(hds:∀d∈ds,d<1000):∀{cs:List AC},AC.highs cs=true→AC.clears ds cs=true
 | [],_=>rfl
 | c::cs,h=>by
  rw[AC.highs,Bool.and_eq_true]at h;rw[AC.clears,AC.clear_high hds h.1,AC.clears_highs hds h.2];rfl
end
theorem AC.purge_high{ds:List Nat}(hds:∀d∈ds,d<1000):∀{c:AC},c.high=true→c.purge ds=c
 | .st _,_=>rfl
 | .full _,_=>rfl
 | .row id n,h=>by
  rw[AC.high]at h;simp only[AC.purge,Dn hds (of_decide_eq_true h),Bool.false_eq_true,if_false]
 | .part id k n,h=>by
  rw[AC.high]at h;simp only[AC.purge,Dn hds (of_decide_eq_true h),Bool.false_eq_true,if_false]
 | .rest id k n,h=>by
  rw[AC.high]at h;simp only[AC.purge,Dn hds (of_decide_eq_true h),Bool.false_eq_true,if_false]
 | .ptr id n k off,h=>by
  rw[AC.high]at h;simp only[AC.purge,Dn hds (of_decide_eq_true h),Bool.false_eq_true,if_false]
 | .mptr id,h=>by
  rw[AC.high]at h;simp only[AC.purge,Dn hds (of_decide_eq_true h),Bool.false_eq_true,if_false]
 | .yld id,h=>by
  rw[AC.high]at h;simp only[AC.purge,Dn hds (of_decide_eq_true h),Bool.false_eq_true,if_false]
 | .ubool,_=>rfl
 | .eptr _,_=>rfl
 | .fn f caps,h=>by
  rw[AC.high]at h;simp only[AC.purge,AC.clears_highs hds h,if_true]
 | .any,_=>rfl
mutual
theorem AV.purge_high{ds:List Nat}(hds:∀d∈ds,d<1000):∀{c:AV},c.high=true→c.purge ds=c
 | .one c,h=>by rw[AV.high]at h;rw[AV.purge,AC.purge_high hds h]
 | .agg cs,h=>by
  rw[AV.high]at h;rw[AV.purge];congr 1;exact(List.map_congr_left fun a ha=>AC.purge_high hds (CW h a ha)).trans (List.map_id _)
 | .tup vs,h=>by rw[AV.high]at h;rw[AV.purge,AV.purges_high hds h]
 | .any,_=>rfl
theorem AV.purges_high{ds:List Nat}(hds:∀d∈ds,d<1000):∀{c:List AV},AV.highs c=true→AV.purges ds c=c
 | [],_=>rfl
 | c::cs,h=>by
  rw[AV.highs,Bool.and_eq_true]at h;rw[AV.purges,AV.purge_high hds h.1,AV.purges_high hds h.2]
end
theorem AJ.purge_high{ds:List Nat}(hds:∀d∈ds,d<1000){b:AJ}(h:b.high=true):b.purge ds=b:=by
 cases b with
 | box e cs =>
  rw[AJ.high]at h;simp only[AJ.purge];congr 1;exact(List.map_congr_left fun a ha=>AC.purge_high hds (CW h a ha)).trans (List.map_id _)
 | crow e cs =>
  rw[AJ.high]at h;simp only[AJ.purge];congr 1;exact(List.map_congr_left fun a ha=>AC.purge_high hds (CW h a ha)).trans (List.map_id _)
 | arow=>rfl
 | mrow=>rfl
 | map=>rfl
 | memo=>rfl
 | iter x =>
  rw[AJ.high]at h;simp only[AJ.purge,AC.purge_high hds h]
 | loop env r =>
  rw[AJ.high]at h;simp only[AJ.purge,AV.purges_high hds h]
 | dead=>rfl
theorem Sg{ds:List Nat}(hds:∀d∈ds,d<1000){S:AA}(h:Ay S):AT ds S=S:=by
 funext id;unfold AT;cases hb:S id with
 | none=>split <;> rfl
 | some b =>
  obtain⟨h1,h2⟩:=h id b hb;rw[Dn hds h1,if_neg (by simp),Option.map_some,AJ.purge_high hds h2]
theorem TG{ds:List Nat}{S:AA}{i:Nat}{b:Option AJ}(h:ds.contains i=true):AT ds (AI S i b)=AT ds S:=by
 funext k;unfold AT;by_cases e:k=i
 ·subst e;rw[if_pos h,if_pos h]
 ·rw[AH _ e]
theorem K5{ds:List Nat}{S:AA}{i:Nat}{b:AJ}(h:ds.contains i=false):AT ds (AI S i (some b))=AI (AT ds S) i (some (b.purge ds)):=by
 funext k;unfold AT;by_cases e:k=i
 ·subst e;rw[AG,AG,if_neg (by rw[h];simp)];rfl
 ·rw[AH _ e,AH _ e]
section
variable {C:Ctx} {σ:Sto} {ι:A6} {s:AS} {a:Act} {w:World} {ds:List Nat}
theorem Br(b:AJ):(b.purge ds).len=b.len:=by cases b <;> first|rfl|simp[AJ.purge,AJ.len]
theorem Hk(b:AJ):(b.purge ds).wid=b.wid:=by cases b <;> rfl
theorem At.keepClear{ds:List Nat}{S S2:AA}(hS:∀id b,ds.contains id=false→S id=some b→∃b',S2 id=some b'∧b'.len=b.len∧b'.wid=b.wid){v:Value}{c:AC}(h:At σ S ι v c)(hc:c.clear ds=true):At σ S2 ι v c:=by
 induction h with
 | st h=>exact .st h
 | full h=>exact .full h
 | row h1 h2 h3 h4 =>
  rw[AC.clear]at hc;obtain⟨b',q1,q2,q3⟩:=hS _ _ (by simpa using hc) h1;exact .row q1 (by rw[q2];exact h2) h3 (by rw[q2];exact h4)
 | part h1 h2 h3 h4 =>
  rw[AC.clear]at hc;obtain⟨b',q1,q2,q3⟩:=hS _ _ (by simpa using hc) h1;exact .part q1 (by rw[q2];exact h2) h3 (by rw[q2];exact h4)
 | rest h1 h2 h3 h4 =>
  rw[AC.clear]at hc;obtain⟨b',q1,q2,q3⟩:=hS _ _ (by simpa using hc) h1;exact .rest q1 (by rw[q2];exact h2) h3 (by rw[q2,q3];exact h4)
 | ptr h1 h2 h3 h4 =>
  rw[AC.clear]at hc;obtain⟨b',q1,q2,q3⟩:=hS _ _ (by simpa using hc) h1;exact .ptr q1 (by rw[q2];exact h2) h3 (by rw[q2,q3];exact h4)
 | mptr h1 h2 h3 h4 =>
  rw[AC.clear]at hc;obtain⟨b',q1,q2,q3⟩:=hS _ _ (by simpa using hc) h1;exact .mptr q1 (by rw[q2];exact h2) h3 (by rw[q2];exact h4)
 | yld h1 h2 h3 h4 =>
  rw[AC.clear]at hc;obtain⟨b',q1,q2,q3⟩:=hS _ _ (by simpa using hc) h1;exact .yld q1 (by rw[q2];exact h2) h3 (by rw[q2];exact h4)
 | ubool=>exact .ubool
 | eptr c h1 h2 hh=>exact .eptr c h1 h2 hh
 | fn c h1 h2 h3 ih =>
  rw[AC.clear]at hc;exact .fn c h1 h2 (fun j a ha=>ih j a ha (Mz hc a (List.mem_of_getElem? ha)))
 | any h=>exact .any h
theorem At.purge(hds:∀d∈ds,d<1000){v:Value}{c:AC}(h:At σ s.S ι v c):At σ (s.drop ds).S ι v (c.purge ds):=by
 have h0:=h;cases h with
 | st h=>exact .st h
 | full h=>exact .full h
 | @row _ id n b h1 h2 h3 h4 =>
  simp only[AC.purge];split
  ·exact .any h3
  ·rename_i hn;exact .row (b:=b.purge ds) (by simp only[AS.drop,AT,hn];rw[h1];rfl) (by rw[Br];exact h2) h3 (by rw[Br];exact h4)
 | @part _ id k n b h1 h2 h3 h4 =>
  simp only[AC.purge];split
  ·exact .any h3
  ·rename_i hn;exact .part (b:=b.purge ds) (by simp only[AS.drop,AT,hn];rw[h1];rfl) (by rw[Br];exact h2) h3 (by rw[Br];exact h4)
 | @rest _ id k n b h1 h2 h3 h4 =>
  simp only[AC.purge];split
  ·exact .any h3
  ·rename_i hn;exact .rest (b:=b.purge ds) (by simp only[AS.drop,AT,hn];rw[h1];rfl) (by rw[Br];exact h2) h3 (by rw[Br,Hk];exact h4)
 | @ptr _ id n k off b h1 h2 h3 h4 =>
  simp only[AC.purge];split
  ·exact .any h3
  ·rename_i hn;exact .ptr (b:=b.purge ds) (by simp only[AS.drop,AT,hn];rw[h1];rfl) (by rw[Br];exact h2) h3 (by rw[Br,Hk];exact h4)
 | @mptr _ id b h1 h2 h3 h4 =>
  simp only[AC.purge];split
  ·exact .any h3
  ·rename_i hn;exact .mptr (b:=b.purge ds) (by simp only[AS.drop,AT,hn];rw[h1];rfl) (by rw[Br];exact h2) h3 (by rw[Br];exact h4)
 | @yld _ id b h1 h2 h3 h4 =>
  simp only[AC.purge];split
  ·exact .any h3
  ·rename_i hn;exact .yld (b:=b.purge ds) (by simp only[AS.drop,AT,hn];rw[h1];rfl) (by rw[Br];exact h2) h3 (by rw[Br];exact h4)
 | ubool=>exact .ubool
 | eptr c h1 h2 hh=>exact .eptr c h1 h2 hh
 | @fn f vs caps c h1 h2 h3 =>
  simp only[AC.purge];split
  ·rename_i hh;exact h0.keepClear (ds:=ds) (fun id b hid hb=>⟨b.purge ds,by
    show AT ds s.S id=_
    unfold AT;rw[hid,hb];rfl,Br b,Hk b⟩) (by rw[AC.clear];exact hh)
  ·exact .any rfl
 | any h=>exact .any h
mutual
theorem Ae.purge(hds:∀d∈ds,d<1000):∀{v:Value} {c:AV},Ae σ s.S ι v c→Ae σ (s.drop ds).S ι v (c.purge ds)
 | v,.one c,h=>by cases h with|one h=>exact .one (h.purge hds)
 | v,.agg cs,h=>by cases h with|agg h=>exact .agg ((h.mono fun _ _ x=>x.purge hds).map_right)
 | v,.tup vs,h=>by
  cases h with
  | tup c h1 h2 h3 =>
   obtain⟨k1,k2⟩:=Ae.purges hds (c:=c) h3;exact .tup c (by rw[h1,k1]) (fun j b hb=>by
    rcases Nat.lt_or_ge j vs.length with hj|hj
    ·exact h2 j _ (List.getElem?_eq_getElem hj)
    ·rw[List.getElem?_eq_none (by omega)]at hb;cases hb) k2
 | v,.any,h=>.any
theorem Ae.purges(hds:∀d∈ds,d<1000):∀{vs:List AV} {c:Nat→Value},(∀j b,vs[j]?=some b→Ae σ s.S ι (c j) b)→vs.length=(AV.purges ds vs).length∧∀j b,(AV.purges ds vs)[j]?=some b→Ae σ (s.drop ds).S ι (c j) b
 | [],c,h=>by simp[AV.purges]
 | x::xs,c,h=>by
  obtain⟨m1,m2⟩:=Ae.purges hds (vs:=xs) (c:=fun j=>c (j+1)) (fun j b hb=>h (j+1) b (by simpa using hb));refine⟨by simp[AV.purges,←m1],fun j b hb=>?_⟩;cases j with
  | zero =>
   simp[AV.purges]at hb;subst hb;exact Ae.purge hds (h 0 x rfl)
  | succ j=>exact m2 j b (by simpa[AV.purges]using hb)
end
theorem CA.purge(hds:∀d∈ds,d<1000){h:Hnd}{b:AJ}(hr:CA σ s.S ι w h b):CA σ (s.drop ds).S ι w h (b.purge ds):=by
 cases hr with
 | box h1 h2 h3 h4 h5=>exact .box h1 h2 h3 ((h4.mono fun _ _ x=>x.purge hds).map_right) h5
 | crow h1 h2 h3 hc hm h4 h5=>exact .crow h1 h2 h3 (by simpa using hc) hm (by rw[List.length_map];exact(h4.mono fun _ _ x=>x.purge hds).map_right) h5
 | afull h1 h2 h3 h4=>exact .afull h1 h2 h3 h4
 | arow h1 h2 h3 h4 h5 h6 h7 h8 h9 hh=>exact .arow h1 h2 h3 h4 h5 h6 h7 h8 h9 hh
 | mnil h1 h2=>exact .mnil h1 h2
 | mrow h1 h2 h3 h4 h5 h6 h7 h8 h9=>exact .mrow h1 h2 h3 h4 h5 h6 h7 h8 h9
 | map h1 h2 h3 h4=>exact .map h1 h2 h3 h4
 | memo h1 h2 h3 h4=>exact .memo h1 h2 h3 h4
 | iter h1 h2 h3 h4=>exact .iter h1 h2 (h3.purge hds) h4
 | loop h1 h2 h3 h4 h5 =>
  obtain⟨k1,k2⟩:=Ae.purges hds h4;exact .loop h1 h2 (by rw[←k1];exact h3) k2 h5
 | dead h1=>exact .dead h1
theorem Hq{id:Nat}{b:AJ}(h:(s.drop ds).S id=some b):∃b',s.S id=some b'∧b=b'.purge ds:=by
 simp only[AS.drop,AT]at h;split at h
 ·cases h
 ·rw[Option.map_eq_some_iff]at h;obtain⟨b',h1,h2⟩:=h;exact⟨b',h1,h2.symm⟩
theorem AY.drop(ds:List Nat)(s:AS)(hds:∀d∈ds,d<1000):AY C s (s.drop ds):=fun a w ⟨σ,ι,R⟩=>by
 refine⟨σ,ι,R.size,fun i hi=>(R.env i hi).purge hds,R.nod,R.fit,fun id b h=>?_,fun id id' b b' g h1 h2 g1 g2=>?_,fun id b g h hg=>?_,R.ext,R.old,R.os,R.grown,R.same,fun id b hb=>?_⟩
 ·obtain⟨b',h1,rfl⟩:=Hq h;exact(R.blk id b' h1).purge hds
 ·obtain⟨c1,k1,_⟩:=Hq h1;obtain⟨c2,k2,_⟩:=Hq h2;exact R.inj _ _ _ _ _ k1 k2 g1 g2
 ·obtain⟨c1,k1,_⟩:=Hq h;exact R.base _ _ _ k1 hg
 ·obtain⟨b',h1,h2,h3⟩:=R.upd id b hb;have hid:=(C.clean id b hb).1;have hnc:ds.contains id=false:=by
   cases hc:ds.contains id with
   | false=>rfl
   | true =>
    have:=hds id (List.contains_iff_mem.1 hc);omega
  refine⟨b'.purge ds,by simp only[AS.drop,AT,hnc];rw[h1];rfl,by rw[Br];exact h2,fun hl=>?_⟩;rw[Br]at hl;rw[Hk];exact h3 hl
theorem AY.share{id:Nat}{e:TypeId}{wd:Nat}{xs:List (List SV)}(hS:s.S id=some (.mrow e wd xs)):AY C s (s.set id (.arow e wd xs)):=fun a w ⟨σ,ι,R⟩=>by
 have hb:=R.blk _ _ hS;have hι:AI ι id (ι id)=ι:=by
  funext k;unfold AI;split
  ·rename_i h;rw[h]
  ·rfl
 cases hb with
 | mnil h1 h2 =>
  obtain⟨hu,R'⟩:=R.turn (w':=w) hS (.arow e wd []) (ι id) (σ':=σ) (fun _ _ h=>h) (fun _ _ _=>rfl) R.fit (Nat.le_refl _) (fun _=>⟨rfl,rfl⟩) ⟨rfl,rfl,rfl⟩ (Nat.le_refl _) (fun _ _ _=>rfl) (fun g h=>.inl h) (fun hu=>.afull h1 (by simpa using h2) (by simp) (.list (b:=0) (o:=0) (w:=0) (fun _ _=>undef) rfl (by simp) (by rw[h2];simp[maxLen]) (fun _=>h2) (by simp) (by simp) (fun _ h _=>absurd h (by omega)) (by simp) (by simp)));exact⟨σ,_,R'⟩
 | @mrow _ _ _ g vs h1 h2 h3 h4 h5 h6 h7 h8 h9 =>
  have hl:BV σ vs.toList wd xs:=⟨h7,fun k x j y hx hy=>by simpa using h8 k x j y hx hy⟩
  have hkeep:=Fz (σ:=σ) (w':=w) (g:=g) (k:=xs.length*wd) (fun p x e hx=>by rw[h9 _ e]at hx;cases hx);obtain⟨hu,R'⟩:=R.turn (w':=w) hS (.arow e wd xs) (ι id) (σ':=Es σ w g (xs.length*wd)) hkeep (fun p hp _=>Fk (fun e=>hp (by rw[e];exact h1))) (Eo R.fit) (Nat.le_refl _) (fun _=>⟨rfl,rfl⟩) ⟨rfl,rfl,rfl⟩ (Nat.le_refl _) (fun _ _ _=>rfl) (fun g h=>.inl h)
   (fun hu=>by
    have:=KP (S':=(s.set id (.arow e wd xs)).S) (ι':=AI ι id (ι id)) (w':=w) (p:=(ι id).p) h2 h3 h4 h5 h6 hl hkeep (fun p hp hne=>absurd (h9 p hp) hne);rw[←h1]at this;exact this)
  exact⟨_,_,R'⟩
theorem AY.own(t id:Nat)(e:TypeId)(wd:Nat){xs:List (List SV)}(ht:s.env t=.one (.full xs))(hid:s.S id=none)(hw:∀x∈xs,x.length=wd)(hn:t<C.n):AY C s ⟨AI s.env t (.one (.row id xs.length)),AI s.S id (some (.arow e wd xs))⟩:=fun a w ⟨σ,ι,R⟩=>by
 have rt:=R.env t hn;rw[ht]at rt;generalize hv:a.tmps.getD t undef=v at rt;cases Ad rt with
 | @full p len xs hs =>
  have hl:len=xs.length:=by
   obtain⟨p',cap',e1,_⟩:=Cj hs;cases e1;rfl
  subst hl;obtain⟨hu,R'⟩:=R.fresh (w':=w) hid (.arow e wd xs) ⟨p,xs.length,none⟩ (Ext.refl _ _) R.fit (Below.refl _ _) (by simp) (fun S' ι' hu=>.afull rfl rfl hw hs);refine⟨σ,_,R'.size,fun i hi=>?_,R'.nod,R'.fit,R'.blk,R'.inj,R'.base,R'.ext,R'.old,R'.os,R'.grown,R'.same,R'.upd⟩;show Ae σ (s.set id (.arow e wd xs)).S _ _ (AI s.env t _ i)
  unfold AI;split
  ·rename_i e1;subst e1;rw[hv];exact .one (.row (b:=.arow e wd xs) (by simp[AS.set,AG]) (Nat.le_refl _) rfl fun _=>by simp[AI])
  ·exact R'.env i hi
theorem AY.ownM(t id:Nat)(e:TypeId)(wd:Nat)(ht:s.env t=.one (.full []))(hid:s.S id=none)(hn:t<C.n):AY C s ⟨AI s.env t (.one (.row id 0)),AI s.S id (some (.mrow e wd []))⟩:=fun a w ⟨σ,ι,R⟩=>by
 have rt:=R.env t hn;rw[ht]at rt;generalize hv:a.tmps.getD t undef=v at rt;cases Ad rt with
 | @full p len xs hs =>
  have hl:len=0:=by
   obtain⟨p',cap',e1,_⟩:=Cj hs;cases e1;rfl
  subst hl;obtain⟨hu,R'⟩:=R.fresh (w':=w) hid (.mrow e wd []) ⟨p,0,none⟩ (Ext.refl _ _) R.fit (Below.refl _ _) (by simp) (fun S' ι' hu=>.mnil rfl rfl);refine⟨σ,_,R'.size,fun i hi=>?_,R'.nod,R'.fit,R'.blk,R'.inj,R'.base,R'.ext,R'.old,R'.os,R'.grown,R'.same,R'.upd⟩;show Ae σ (s.set id (.mrow e wd [])).S _ _ (AI s.env t _ i)
  unfold AI;split
  ·rename_i e1;subst e1;rw[hv];exact .one (.row (b:=.mrow e wd []) (by simp[AS.set,AG]) (Nat.le_refl _) rfl fun _=>by simp[AI])
  ·exact R'.env i hi
theorem AY.toPart(t id n:Nat)(ht:s.env t=.one (.row id n))(hn:t<C.n):AY C s ⟨AI s.env t (.one (.part id n n)),s.S⟩:=fun a w ⟨σ,ι,R⟩=>by
 have rt:=R.env t hn;rw[ht]at rt;refine⟨σ,ι,R.size,fun i hi=>?_,R.nod,R.fit,R.blk,R.inj,R.base,R.ext,R.old,R.os,R.grown,R.same,R.upd⟩;show Ae σ s.S ι _ (AI s.env t _ i)
 unfold AI;split
 ·rename_i e1;subst e1;obtain⟨b,h1,h2,h3⟩:=C9 (Ad rt);exact .one (.part h1 h2 (Ad rt).one fun hl=>⟨Nat.le_refl _,h3 hl⟩)
 ·exact R.env i hi
theorem AY.ownC(id j nid:Nat)(e:TypeId)(wd:Nat){xs:List (List SV)}{ty:TypeId}{cs:List AC}(hb:s.S id=some (.box ty cs))(hc:cs[j]?=some (.full xs))(hn:s.S nid=none)(hw:∀x∈xs,x.length=wd) :
  AY C s ((s.set nid (.arow e wd xs)).set id (.box ty (cs.set j (.row nid xs.length)))):=fun a w ⟨σ,ι,R⟩=>by
 have hbk:=R.blk id _ hb;have hne:id≠nid:=fun e=>by subst e;rw[hb]at hn;cases hn
 cases hbk with
 | @box _ _ g vs h1 h2 h3 h4 h5 =>
  obtain⟨v,hv,hr⟩:=h4.get hc;cases hr with
  | @full p len xs hs =>
   have hl:len=xs.length:=by
    obtain⟨p',cap',e1,_⟩:=Cj hs;cases e1;rfl
   subst hl;obtain⟨hu,R'⟩:=R.fresh (w':=w) hn (.arow e wd xs) ⟨p,xs.length,none⟩ (Ext.refl _ _) R.fit (Below.refl _ _) (by simp) (fun S' ι' hu=>.afull rfl rfl hw hs);have hb':(s.set nid (.arow e wd xs)).S id=some (.box ty cs):=by simp[AS.set,AH _ hne,hb]
   have hι:AI ι nid ⟨p,xs.length,none⟩ id=ι id:=AH _ hne _;obtain⟨hu2,R2⟩:=R'.turn (w':=w) hb' (.box ty (cs.set j (.row nid xs.length))) (AI ι nid ⟨p,xs.length,none⟩ id) (σ':=σ) (fun _ _ h=>h) (fun _ _ _=>rfl) R.fit (Nat.le_refl _) (fun _=>⟨by simp[AJ.wid],rfl⟩) ⟨rfl,rfl,rfl⟩ (Nat.le_refl _) (fun _ _ _=>rfl) (fun g h=>.inl h) (fun hu2=>by
    refine .box (by rw[hι];exact h1) (by rw[hι];exact h2) h3 (An.of_get (by rw[List.length_set];exact h4.len) fun k u c hu' hck=>?_) h5;by_cases hk:k=j
    ·subst hk;rw[hv]at hu';cases hu';have hlt:k<cs.length:=(List.getElem?_eq_some_iff.1 hc).1;rw[List.getElem?_set_self hlt]at hck;cases hck;exact .row (b:=.arow e wd xs) (by simp[AS.set,AI,hne.symm]) (Nat.le_refl _) rfl fun _=>by simp[AI,hne.symm]
    ·rw[List.getElem?_set_ne (fun e=>hk e.symm)]at hck;obtain⟨u',q1,q2⟩:=h4.get hck;rw[hu']at q1;cases q1;exact(q2.mono (fun _ _ h=>h) hu).mono (fun _ _ h=>h) hu2)
   exact⟨_,_,R2⟩
theorem Q9{v:Value}{c:AV}(h:Ae σ noS noH v c):Ae σ s.S ι v c:=h.mono (fun _ _ h=>h) (Ju _ _)
theorem AY.settle(t:Nat){v:AV}(h:outV s.S (s.env t)=some v):AY C s ⟨AI s.env t v,s.S⟩:=fun a w ⟨σ,ι,R⟩=>by
 refine⟨σ,ι,R.size,fun i hi=>?_,R.nod,R.fit,R.blk,R.inj,R.base,R.ext,R.old,R.os,R.grown,R.same,R.upd⟩;show Ae σ s.S ι _ (AI s.env t v i)
 unfold AI;split
 ·rename_i e;subst e;exact Q9 (R.outV (R.env i hi) h)
 ·exact R.env i hi
def AV.low(v:AV):AV:=if v.high then v else .any
theorem Ac.low(R:Ac C σ ι s a w)(hb:∀i b,1000≤i→s.S i=some b→b.high=true):Ac C σ ι ⟨fun i=>(s.env i).low,CP s.S⟩ a w:=by
 have hS:∀i b,1000≤i→s.S i=some b→CP s.S i=some b:=fun i b hi h=>by
  show(if i<1000 then none else s.S i)=some b
  rw[if_neg (by omega),h]
 have hinv:∀i b,CP s.S i=some b→1000≤i∧s.S i=some b:=fun i b h=>by
  have h':(if i<1000 then none else s.S i)=some b:=h;split at h'
  ·cases h'
  ·exact⟨by omega,h'⟩
 refine⟨R.size,fun i hi=>?_,R.nod,R.fit,fun id b h=>?_,fun id id' b b' g h1 h2 g1 g2=>R.inj _ _ _ _ g (hinv _ _ h1).2 (hinv _ _ h2).2 g1 g2,fun id b g h hg=>R.base _ _ g (hinv _ _ h).2 hg,R.ext,R.old,R.os,R.grown,R.same,fun id b h=>?_⟩
 ·show Ae σ (CP s.S) ι _ ((s.env i).low)
  unfold AV.low;split
  ·rename_i hh;exact(R.env i hi).low hS hh
  ·exact .any
 ·obtain⟨h1,h2⟩:=hinv _ _ h;have hh:=hb id b h1 h2;cases R.blk id b h2 with
  | box k1 k2 k3 k4 k5=>exact .box k1 k2 k3 (N0 hS k4 hh) k5
  | crow k1 k2 k3 kc km k4 k5=>exact .crow k1 k2 k3 kc km (N0 hS k4 hh) k5
  | afull k1 k2 k3 k4=>exact .afull k1 k2 k3 k4
  | arow k1 k2 k3 k4 k5 k6 k7 k8 k9 kh=>exact .arow k1 k2 k3 k4 k5 k6 k7 k8 k9 kh
  | mnil k1 k2=>exact .mnil k1 k2
  | mrow k1 k2 k3 k4 k5 k6 k7 k8 k9=>exact .mrow k1 k2 k3 k4 k5 k6 k7 k8 k9
  | map k1 k2 k3 k4=>exact .map k1 k2 k3 k4
  | memo k1 k2 k3 k4=>exact .memo k1 k2 k3 k4
  | iter k1 k2 k3 k4=>exact .iter k1 k2 (k3.low hS hh) k4
  | loop k1 k2 k3 k4 k5=>exact .loop k1 k2 k3 (Ae.lows hS k4 hh) k5
  | dead k1=>exact .dead k1
 ·obtain⟨b',h1,h2⟩:=R.upd id b h;exact⟨b',hS _ _ (C.clean id b h).1 h1,h2⟩
theorem AY.low(hb:∀i b,1000≤i→s.S i=some b→b.high=true):AY C s ⟨fun i=>(s.env i).low,CP s.S⟩:=fun a w ⟨σ,ι,R⟩=>⟨σ,ι,R.low hb⟩
def Bm(id a:Nat)(i:Nat):Nat:=if i=id then a else i
def AV.hand(id a:Nat)(v:AV):AV:=if(v.ren (Bm id a)).high then v.ren (Bm id a) else .any
section
variable {S S2:AA} {ι2:A6} {id a0:Nat}
theorem At.hand(hS:∀i b,1000≤Bm id a0 i→S i=some b→S2 (Bm id a0 i)=some b∧ι2 (Bm id a0 i)=ι i){v:Value}{c:AC}(h:At σ S ι v c)(hc:(c.ren (Bm id a0)).high=true):At σ S2 ι2 v (c.ren (Bm id a0)):=by
 induction h with
 | st h=>exact .st h
 | full h=>exact .full h
 | row h1 h2 h3 h4 =>
  rw[AC.ren,AC.high]at hc;obtain⟨q1,q2⟩:=hS _ _ (of_decide_eq_true hc) h1;rw[AC.ren];exact .row q1 h2 h3 (fun hn=>by rw[q2];exact h4 hn)
 | part h1 h2 h3 h4 =>
  rw[AC.ren,AC.high]at hc;obtain⟨q1,q2⟩:=hS _ _ (of_decide_eq_true hc) h1;rw[AC.ren];exact .part q1 h2 h3 (fun hn=>by rw[q2];exact h4 hn)
 | rest h1 h2 h3 h4 =>
  rw[AC.ren,AC.high]at hc;obtain⟨q1,q2⟩:=hS _ _ (of_decide_eq_true hc) h1;rw[AC.ren];exact .rest q1 h2 h3 (fun hn=>by rw[q2];exact h4 hn)
 | ptr h1 h2 h3 h4 =>
  rw[AC.ren,AC.high]at hc;obtain⟨q1,q2⟩:=hS _ _ (of_decide_eq_true hc) h1;rw[AC.ren];exact .ptr q1 h2 h3 (fun hn=>by rw[q2];exact h4 hn)
 | mptr h1 h2 h3 h4 =>
  rw[AC.ren,AC.high]at hc;obtain⟨q1,q2⟩:=hS _ _ (of_decide_eq_true hc) h1;rw[AC.ren];exact .mptr q1 h2 h3 (fun hn=>by rw[q2];exact h4 hn)
 | yld h1 h2 h3 h4 =>
  rw[AC.ren,AC.high]at hc;obtain⟨q1,q2⟩:=hS _ _ (of_decide_eq_true hc) h1;rw[AC.ren];exact .yld q1 h2 h3 (fun hn=>by rw[q2];exact h4 hn)
 | ubool=>exact .ubool
 | eptr c h1 h2 hh=>exact .eptr c h1 h2 hh
 | @fn f vs caps c h1 h2 h3 ih =>
  rw[AC.ren,AC.high]at hc;rw[AC.ren];have key:∀(j:Nat) (b:AC),(AC.rens (Bm id a0) caps)[j]?=some b→∃a,caps[j]?=some a∧b=a.ren (Bm id a0):=fun j b hb=>by
   rw[AC.rens_eq,List.getElem?_map,Option.map_eq_some_iff]at hb;obtain⟨a,ha,rfl⟩:=hb;exact⟨a,ha,rfl⟩
  refine .fn c (by rw[AC.rens_eq];simpa using h1) (fun j b hb=>?_) (fun j b hb=>?_)
  ·obtain⟨a,ha,rfl⟩:=key j b hb;exact h2 j a ha
  ·have hm:=CW hc b (List.mem_of_getElem? hb);obtain⟨a,ha,rfl⟩:=key j b hb;exact ih j a ha hm
 | any h=>exact .any h
mutual
theorem Ae.hand(hS:∀i b,1000≤Bm id a0 i→S i=some b→S2 (Bm id a0 i)=some b∧ι2 (Bm id a0 i)=ι i):∀{v:Value} {c:AV},Ae σ S ι v c→(c.ren (Bm id a0)).high=true→Ae σ S2 ι2 v (c.ren (Bm id a0))
 | v,.one c,h,hc=>by
  rw[AV.ren]at hc ⊢;rw[AV.high]at hc;cases h with|one h=>exact .one (h.hand hS hc)
 | v,.agg cs,h,hc=>by
  rw[AV.ren]at hc ⊢;rw[AV.high]at hc;cases h with
  | agg h =>
   refine .agg (An.of_get (by rw[AC.rens_eq];simpa using h.len) fun j x c hx hcj=>?_);have hm:=CW hc c (List.mem_of_getElem? hcj);rw[AC.rens_eq,List.getElem?_map,Option.map_eq_some_iff]at hcj;obtain⟨c',hc',rfl⟩:=hcj;obtain⟨x',h1,h2⟩:=h.get hc';rw[hx]at h1;cases h1;exact h2.hand hS hm
 | v,.tup vs,h,hc=>by
  rw[AV.ren]at hc ⊢;rw[AV.high]at hc;cases h with
  | tup c h1 h2 h3 =>
   obtain⟨k1,k2⟩:=Ae.hands hS h3 hc;exact .tup c (by rw[h1,k1]) (fun j b hb=>by
    rcases Nat.lt_or_ge j vs.length with hj|hj
    ·exact h2 j _ (List.getElem?_eq_getElem hj)
    ·rw[List.getElem?_eq_none (by omega)]at hb;cases hb) k2
 | v,.any,h,_=>.any
theorem Ae.hands(hS:∀i b,1000≤Bm id a0 i→S i=some b→S2 (Bm id a0 i)=some b∧ι2 (Bm id a0 i)=ι i):∀{vs:List AV} {c:Nat→Value},(∀j b,vs[j]?=some b→Ae σ S ι (c j) b)→AV.highs (AV.rens (Bm id a0) vs)=true→vs.length=(AV.rens (Bm id a0) vs).length∧∀j b,(AV.rens (Bm id a0) vs)[j]?=some b→Ae σ S2 ι2 (c j) b
 | [],c,h,_=>by simp[AV.rens]
 | x::xs,c,h,hc=>by
  rw[AV.rens,AV.highs,Bool.and_eq_true]at hc;obtain⟨m1,m2⟩:=Ae.hands hS (vs:=xs) (c:=fun j=>c (j+1)) (fun j b hb=>h (j+1) b (by simpa using hb)) hc.2;refine⟨by simp[AV.rens,←m1],fun j b hb=>?_⟩;cases j with
  | zero =>
   simp[AV.rens]at hb;subst hb;exact Ae.hand hS (h 0 x rfl) hc.1
  | succ j=>exact m2 j b (by simpa[AV.rens]using hb)
end
end
theorem At.stay{S S2:AA}{ι2:A6}(hS:∀i b,1000≤i→S i=some b→S2 i=some b∧ι2 i=ι i){v:Value}{c:AC}(h:At σ S ι v c)(hc:c.high=true):At σ S2 ι2 v c:=by
 induction h with
 | st h=>exact .st h
 | full h=>exact .full h
 | row h1 h2 h3 h4 =>
  rw[AC.high]at hc;obtain⟨q1,q2⟩:=hS _ _ (of_decide_eq_true hc) h1;exact .row q1 h2 h3 (fun hn=>by rw[q2];exact h4 hn)
 | part h1 h2 h3 h4 =>
  rw[AC.high]at hc;obtain⟨q1,q2⟩:=hS _ _ (of_decide_eq_true hc) h1;exact .part q1 h2 h3 (fun hn=>by rw[q2];exact h4 hn)
 | rest h1 h2 h3 h4 =>
  rw[AC.high]at hc;obtain⟨q1,q2⟩:=hS _ _ (of_decide_eq_true hc) h1;exact .rest q1 h2 h3 (fun hn=>by rw[q2];exact h4 hn)
 | ptr h1 h2 h3 h4 =>
  rw[AC.high]at hc;obtain⟨q1,q2⟩:=hS _ _ (of_decide_eq_true hc) h1;exact .ptr q1 h2 h3 (fun hn=>by rw[q2];exact h4 hn)
 | mptr h1 h2 h3 h4 =>
  rw[AC.high]at hc;obtain⟨q1,q2⟩:=hS _ _ (of_decide_eq_true hc) h1;exact .mptr q1 h2 h3 (fun hn=>by rw[q2];exact h4 hn)
 | yld h1 h2 h3 h4 =>
  rw[AC.high]at hc;obtain⟨q1,q2⟩:=hS _ _ (of_decide_eq_true hc) h1;exact .yld q1 h2 h3 (fun hn=>by rw[q2];exact h4 hn)
 | ubool=>exact .ubool
 | eptr c h1 h2 hh=>exact .eptr c h1 h2 hh
 | fn c h1 h2 h3 ih =>
  rw[AC.high]at hc;exact .fn c h1 h2 (fun j a ha=>ih j a ha (CW hc a (List.mem_of_getElem? ha)))
 | any h=>exact .any h
theorem Ac.hand(R:Ac C σ ι s a w)(id a0:Nat){b0:AJ}(hid:id<1000)(ha:1000≤a0)(hSa:s.S a0=none)(hb0:s.S id=some b0)(hbh:b0.high=true)(hb:∀i b,1000≤i→s.S i=some b→b.high=true) :
  Ac C σ (AI ι a0 (ι id)) ⟨fun i=>(s.env i).hand id a0,AI (CP s.S) a0 (some b0)⟩ a w∧∀i b,1000≤Bm id a0 i→s.S i=some b→AI (CP s.S) a0 (some b0) (Bm id a0 i)=some b∧AI ι a0 (ι id) (Bm id a0 i)=ι i:=by
 have hlow:∀i,1000≤i→CP s.S i=s.S i:=fun i hi=>by
  show(if i<1000 then none else s.S i)=_
  rw[if_neg (by omega)]
 have hS:∀i b,1000≤Bm id a0 i→s.S i=some b→AI (CP s.S) a0 (some b0) (Bm id a0 i)=some b∧AI ι a0 (ι id) (Bm id a0 i)=ι i:=fun i b hi h=>by
  unfold Bm at hi ⊢;by_cases e:i=id
  ·subst e;rw[if_pos rfl,AG,AG,←hb0,h];exact⟨rfl,rfl⟩
  ·rw[if_neg e]at hi ⊢;have hne:i≠a0:=fun e=>by subst e;rw[hSa]at h;cases h
   rw[AH _ hne,AH _ hne,hlow i hi];exact⟨h,rfl⟩
 have hS':∀i b,1000≤i→s.S i=some b→AI (CP s.S) a0 (some b0) i=some b∧AI ι a0 (ι id) i=ι i:=fun i b hi h=>by
  have hne:i≠a0:=fun e=>by subst e;rw[hSa]at h;cases h
  rw[AH _ hne,AH _ hne,hlow i hi];exact⟨h,rfl⟩
 have hinv:∀i b,AI (CP s.S) a0 (some b0) i=some b→(i=a0∧b=b0)∨(i≠a0∧1000≤i∧s.S i=some b):=fun i b h=>by
  by_cases e:i=a0
  ·subst e;rw[AG]at h;cases h;exact .inl ⟨rfl,rfl⟩
  ·rw[AH _ e]at h;have h':(if i<1000 then none else s.S i)=some b:=h;split at h'
   ·cases h'
   ·exact .inr ⟨e,by omega,h'⟩
 refine⟨⟨R.size,fun i hi=>?_,R.nod,R.fit,fun i b h=>?_,fun i j b c g h1 h2 g1 g2=>?_,fun i b g h hg=>?_,R.ext,R.old,R.os,R.grown,R.same,fun i b h=>?_⟩,hS⟩
 ·show Ae σ (AI (CP s.S) a0 (some b0)) _ _ ((s.env i).hand id a0)
  unfold AV.hand;split
  ·rename_i hh;exact(R.env i hi).hand hS hh
  ·exact .any
 ·rcases hinv i b h with⟨rfl,rfl⟩|⟨hne,h1,h2⟩
  ·rw[AG];exact(R.blk id _ hb0).samecells (fun v c hv hc=>hv.stay hS' hc) hbh
  ·rw[AH _ hne];exact(R.blk i b h2).samecells (fun v c hv hc=>hv.stay hS' hc) (hb i b h1 h2)
 ·rcases hinv i b h1 with⟨rfl,rfl⟩|⟨hne,k1,k2⟩ <;> rcases hinv j c h2 with⟨rfl,rfl⟩|⟨hne',k1',k2'⟩
  ·rfl
  ·rw[AG]at g1;rw[AH _ hne']at g2;have:=R.inj _ _ _ _ g hb0 k2' g1 g2;omega
  ·rw[AG]at g2;rw[AH _ hne]at g1;have:=R.inj _ _ _ _ g k2 hb0 g1 g2;omega
  ·rw[AH _ hne]at g1;rw[AH _ hne']at g2;exact R.inj _ _ _ _ g k2 k2' g1 g2
 ·rcases hinv i b h with⟨rfl,rfl⟩|⟨hne,k1,k2⟩
  ·rw[AG]at hg;exact R.base _ _ g hb0 hg
  ·rw[AH _ hne]at hg;exact R.base _ _ g k2 hg
 ·obtain⟨b',h1,h2,h3⟩:=R.upd i b h;obtain⟨q1,q2⟩:=hS' i b' (C.clean i b h).1 h1;exact⟨b',q1,h2,fun hl=>⟨(h3 hl).1,by rw[q2];exact(h3 hl).2⟩⟩
theorem AY.hand(id a0:Nat){b0:AJ}(hid:id<1000)(ha:1000≤a0)(hSa:s.S a0=none)(hb0:s.S id=some b0)(hbh:b0.high=true)(hb:∀i b,1000≤i→s.S i=some b→b.high=true):AY C s ⟨fun i=>(s.env i).hand id a0,AI (CP s.S) a0 (some b0)⟩:=fun a w ⟨σ,ι,R⟩ =>
 ⟨σ,_,(R.hand id a0 hid ha hSa hb0 hbh hb).1⟩
theorem KL{C:Ctx}{rs:List RV}{S':AA}{e:AX}{s:AS}(he:match e with|.normal=>True|.ret=>True|_=>False)(id a0:Nat)(r0:AV){b0:AJ}(hid:id<1000)(ha:1000≤a0)(hSa:s.S a0=none)(hb0:s.S id=some b0)(hbh:b0.high=true)(hb:∀i b,1000≤i→s.S i=some b→b.high=true)
  (h1:(AB s rs).map AM=some r0) (hh:(r0.ren (Bm id a0)).high=true) (h3:AI (CP s.S) a0 (some b0)=S') (hc:Ay S'):FR C rs (r0.ren (Bm id a0)) S' e s :=
 ⟨he,s,⟨fun i=>(s.env i).hand id a0,AI (CP s.S) a0 (some b0)⟩,r0,AY.refl _ _,h1,fun σ ι a w R=>⟨σ,_,(R.hand id a0 hid ha hSa hb0 hbh hb).1,fun v hv=>hv.hand (R.hand id a0 hid ha hSa hb0 hbh hb).2 hh⟩,h3,hc⟩
theorem Ax(S:AA)(i:Nat):upS S (up1 i)=(S i).map (AJ.ren up1):=by
 show(if i+1000<1000 then none else(S (i+1000-1000)).map (AJ.ren up1))=_
 rw[if_neg (by omega),Nat.add_sub_cancel]
theorem Qi(S:AA)(i:Nat)(b:AJ):dnS (AI S (up1 i) (some b))=AI (dnS S) i (some (b.ren dn1)):=by
 funext k;show(AI S (up1 i) (some b) (up1 k)).map _=AI (dnS S) i _ k
 by_cases h:k=i
 ·subst h;rw[AG,AG];rfl
 ·have hne:up1 k≠up1 i:=fun e=>h (by have:=congrArg dn1 e;rw[M1,M1]at this;exact this);rw[AH _ hne,AH _ h];rfl
theorem J8(S:AA){i:Nat}(h:i<1000)(b:Option AJ):CP (AI S i b)=CP S:=by
 funext k;show(if k<1000 then none else AI S i b k)=(if k<1000 then none else S k)
 split
 ·rfl
 ·exact AH _ (by omega) _
theorem Ww(S:AA){i:Nat}(h:1000≤i)(b:Option AJ):CP (AI S i b)=AI (CP S) i b:=by
 funext k;show(if k<1000 then none else AI S i b k)=AI (CP S) i b k
 by_cases e:k=i
 ·subst e;rw[if_neg (by omega),AG,AG]
 ·rw[AH _ e,AH _ e];rfl
theorem Bb{S:AA}(h:Ay S){i:Nat}(hi:1000≤i){b:AJ}(hb:b.high=true):Ay (AI S i (some b)):=fun k c hk=>by
 by_cases e:k=i
 ·subst e;rw[AG]at hk;cases hk;exact⟨hi,hb⟩
 ·rw[AH _ e]at hk;exact h k c hk
theorem Y8{S:AA}{i:Nat}{b:AJ}(h:∀k c,1000≤k→S k=some c→c.high=true)(hb:b.high=true):∀k c,1000≤k→AI S i (some b) k=some c→c.high=true:=fun k c hk hc=>by
 by_cases e:k=i
 ·subst e;rw[AG]at hc;cases hc;exact hb
 ·rw[AH _ e]at hc;exact h k c hk hc
theorem Kx{S:AA}{i:Nat}(hi:i<1000){b:Option AJ}(h:∀k c,1000≤k→S k=some c→c.high=true):∀k c,1000≤k→AI S i b k=some c→c.high=true:=fun k c hk hc=>by
 rw[AH _ (by omega)]at hc;exact h k c hk hc
end
theorem IWP.loopD{P:Program}{C:Ctx}{mu:List Nat}{Q:AX→AS→Prop}{s:AS}{x:IR}(ds:List Nat)(Inv:Nat→AS→Prop)(m0:Nat)(h0:Inv m0 s)(h:∀m s,Inv m s→IWP P C mu x (AX.then (fun s'=>∃m',m'<m∧Inv m' (s'.drop ds)) Q) s)(hds:∀d∈ds,d<1000:=by decide):IWP P C mu (.loop x) Q s:=by
 refine IWP.loop (fun m s=>∃s1,AY C s s1∧Inv m s1) m0 ⟨s,AY.refl _ _,h0⟩ fun m s ⟨s1,hg,hi⟩=>?_;refine(IWP.ghost hg (h m s1 hi)).mono fun e s2 he=>?_;cases e with
 | normal =>
  obtain⟨m',h1,h2⟩:=he;exact⟨m',h1,_,AY.drop ds s2 hds,h2⟩
 | _=>exact he
theorem At.out{σ:Sto}{S:AA}{ι:A6}{v:Value}{c:AC}(h:At σ S ι v c)(hc:outC noS c=some c):At σ noS noH v c:=by
 cases h with
 | st h=>exact .st h
 | full h=>simp[outC,stC]at hc
 | row h1 h2 h3 h4=>simp[outC,stC,noS]at hc
 | part h1 h2 h3 h4=>simp[outC,stC,noS]at hc
 | rest h1 h2 h3 h4=>simp[outC,stC,noS]at hc
 | ptr h1 h2 h3 h4=>simp[outC,stC]at hc
 | mptr h1 h2 h3 h4=>simp[outC,stC]at hc
 | yld h1 h2 h3 h4=>simp[outC,stC]at hc
 | ubool=>exact .ubool
 | eptr c h1 h2 hh=>exact .eptr c h1 h2 hh
 | @fn f vs caps c h1 h2 h3 =>
  cases caps with
  | nil=>exact .fn c h1 h2 (by simp)
  | cons x xs =>
   have hall:(x::xs).all AC.stay=true:=by
    unfold outC at hc;by_cases e:(x::xs).all AC.stay=true
    ·exact e
    ·simp only[e,if_false]at hc;cases hc
   exact .fn c h1 h2 fun j a ha=>(h3 j a ha).staying (List.all_eq_true.1 hall a (List.mem_of_getElem? ha))
 | any h=>simp[outC,stC]at hc
theorem MT:∀{cs:List AC},outCs noS cs=some cs→∀c∈cs,outC noS c=some c
 | [],_,c,hc=>by simp at hc
 | x::xs,h,c,hc=>by
  simp only[outCs]at h;split at h
  ·rename_i y ys h1 h2;simp only[Option.some.injEq,List.cons.injEq]at h;obtain⟨rfl,rfl⟩:=h;rcases List.mem_cons.1 hc with rfl|hc
   ·exact h1
   ·exact MT h2 c hc
  ·cases h
mutual
theorem Ae.out{σ:Sto}{S:AA}{ι:A6}:∀{v:Value} {c:AV},Ae σ S ι v c→outV noS c=some c→Ae σ noS noH v c
 | v,.one c,h,hc=>by
  rw[outV,Option.map_eq_some_iff]at hc;obtain⟨a,h1,h2⟩:=hc;cases h2;cases h with|one h=>exact .one (h.out h1)
 | v,.agg cs,h,hc=>by
  rw[outV,Option.map_eq_some_iff]at hc;obtain⟨a,h1,h2⟩:=hc;cases h2;cases h with
  | agg h=>exact .agg (An.of_get h.len fun j x c hx hcj=>by
    obtain⟨x',q1,q2⟩:=h.get hcj;rw[hx]at q1;cases q1;exact q2.out (MT h1 c (List.mem_of_getElem? hcj)))
 | v,.tup vs,h,hc=>by
  rw[outV,Option.map_eq_some_iff]at hc;obtain⟨a,h1,h2⟩:=hc;cases h2;cases h with
  | tup c k1 k2 k3=>exact .tup c k1 k2 (Ae.outs k3 h1)
 | v,.any,h,_=>.any
theorem Ae.outs{σ:Sto}{S:AA}{ι:A6}:∀{vs:List AV} {c:Nat→Value},(∀j b,vs[j]?=some b→Ae σ S ι (c j) b)→outVs noS vs=some vs→∀j b,vs[j]?=some b→Ae σ noS noH (c j) b
 | [],c,h,_,j,b,hb=>by simp at hb
 | x::xs,c,h,hc,j,b,hb=>by
  rw[outVs]at hc;split at hc
  ·rename_i y ys h1 h2;simp only[Option.some.injEq,List.cons.injEq]at hc;obtain⟨rfl,rfl⟩:=hc;cases j with
   | zero =>
    simp at hb;subst hb;exact Ae.out (h 0 _ rfl) h1
   | succ j=>exact Ae.outs (c:=fun j=>c (j+1)) (fun j b hb=>h (j+1) b (by simpa using hb)) h2 j b (by simpa using hb)
  ·cases hc
end
theorem AW.toS{P:Program}{f:FuncId}{xs:List AV}{S:AA}{r:AV}(h:AW P f xs r)(hx:outVs noS xs=some xs):Ah P f xs S r S:=by
 intro hclean σ w vs ι hglob hfit hown hvs;have hvs':An (Ae σ noS noH) vs xs:=An.of_get hvs.len fun j v x hv hxj=>by
  have:=Ae.outs (c:=fun j=>(vs[j]?).getD undef) (σ:=σ) (S:=S) (ι:=ι) (vs:=xs) (fun j b hb=>by
   obtain⟨v',h1,h2⟩:=hvs.get hb;rw[h1];exact h2) hx j x hxj
  rw[hv]at this;exact this
 refine(h σ w vs hglob hfit hvs').mono fun e w' he=>?_;obtain⟨v,σ',he1,he2,hf,hext,hb⟩:=he;have hlt:∀id b g,S id=some b→(ι id).g=some g→g<w.heap.size:=fun id b g h1 h2=>(hown.1 id b h1).gsome h2;refine⟨v,σ',ι,he1,hclean,Upd.refl _ _,⟨fun id b hid=>(hown.1 id b hid).mono hext.keep (Upd.refl _ _) (fun g hg=>hb.block g (hlt id b g hid hg)) (fun g hg p hp=>hext.old p (by have:=hlt id b g hid hg;omega)),hown.2⟩,
  Q9 (s:=⟨fun _=>.any,S⟩) he2,hf,hext.keep,fun p hp _=>hext.old p hp,⟨hb.os,hb.tape,hb.output⟩,hb.size,fun g hg _=>hb.block g hg,fun id b g h1 h2=>.inr fun hn=>hn id b h1 h2⟩
theorem Nb{C:Ctx}{rs:List RV}{r:AV}{S':AA}{e:AX}{s:AS}(he:match e with|.normal=>True|.ret=>True|_=>False)(r0:AV)(h1:(AB s rs).map AM=some r0)(h2:outV s.S r0=some r)(hb:∀i b,1000≤i→s.S i=some b→b.high=true)(h3:CP s.S=S')(hc:Ay S'):FR C rs r S' e s:=by
 refine⟨he,s,⟨fun i=>(s.env i).low,CP s.S⟩,r0,AY.refl _ _,h1,fun σ ι a w R=>?_,h3,hc⟩;exact⟨σ,ι,R.low hb,fun v hv=>Q9 (s:=⟨fun i=>(s.env i).low,CP s.S⟩) (R.outV hv h2)⟩
theorem Ka{C:Ctx}{rs:List RV}{r:AV}{S':AA}{e:AX}{s:AS}(he:match e with|.normal=>True|.ret=>True|_=>False)(h1:(AB s rs).map AM=some r)(hh:r.high=true)(hb:∀i b,1000≤i→s.S i=some b→b.high=true)(h3:CP s.S=S')(hc:Ay S'):FR C rs r S' e s :=
 ⟨he,s,⟨fun i=>(s.env i).low,CP s.S⟩,r,AY.refl _ _,h1,fun σ ι a w R=>⟨σ,ι,R.low hb,fun v hv=>hv.low (fun i b hi hS=>by
  show CP s.S i=some b
  unfold CP;rw[if_neg (by omega)];exact hS) hh⟩,h3,hc⟩
theorem Aq{C:Ctx}{rs:List RV}{r:AV}{e:AX}{s:AS}{S:AA}(r0:AV)(hS:Ay S)(he:match e with|.normal=>True|.ret=>True|_=>False)
  (h1:(AB s rs).map AM=some r0) (h2:outV s.S r0=some r) (h4:∀i,1000≤i→s.S i=S i):FR C rs r S e s :=
 Nb he r0 h1 h2 (fun i b hi hb=>(hS i b (by rw[←h4 i hi];exact hb)).2) (by
  funext i;unfold CP;split
  ·exact(AK hS (by omega)).symm
  ·exact h4 i (by omega)) hS
theorem Mx{C:Ctx}{rs:List RV}{r:AV}{S':AA}{e:AX}{s s1:AS}(hg:AY C s s1)(h:FR C rs r S' e s1):FR C rs r S' e s:=by
 obtain⟨he,s2,s3,r0,h1,h2⟩:=h;exact⟨he,s2,s3,r0,hg.trans h1,h2⟩
theorem AA4{C:Ctx}{rs:List RV}{e:AX}{s:AS}{ty:TypeId}{w n:Nat}{ys:List (List SV)}{mu:Bool}(he:match e with|.normal=>True|.ret=>True|_=>False)(id:Nat)(hid:id<1000)(hb0:s.S id=some (KG mu ty w ys))(hlow:∀i,1000≤i→s.S i=none)
  (h1:(AB s rs).map AM=some (.one (.row id n))):FR C rs (.one (.row 1000 n)) (fun i=>if i=1000 then some (KG mu ty w ys) else noS i) e s:=by
 have e1:(AV.one (.row id n)).ren (Bm id 1000)=.one (.row 1000 n):=by simp[AV.ren,AC.ren,Bm]
 rw[←e1];refine KL he id 1000 _ hid (by decide) (hlow 1000 (by decide)) hb0 (by cases mu <;> rfl) (fun i b hi hb=>by rw[hlow i hi]at hb;cases hb) h1 (by rw[e1];rfl) ?_ ?_
 ·funext i;unfold AI CP noS;by_cases h2:i=1000
  ·rw[if_pos h2,if_pos h2]
  ·rw[if_neg h2,if_neg h2];split
   ·rfl
   ·exact hlow i (by omega)
 ·intro i b hb;have hb:(if i=1000 then some (KG mu ty w ys) else noS i)=some b:=hb;split at hb
  ·rename_i h2;cases hb;exact⟨by omega,by cases mu <;> rfl⟩
  ·cases hb

theorem XH(c P Q:Prop)[Decidable c]:((c→P)∧(¬c→Q))=if c then P else Q:=by
 by_cases h:c <;> simp[h]
theorem ZU{c A B:Prop}[Decidable c](h:(c→A)∧(¬c→B)):if c then A else B:=by
 by_cases hc:c
 ·rw[if_pos hc];exact h.1 hc
 ·rw[if_neg hc];exact h.2 hc
theorem Zf(b:Bool)(P Q:Prop):((b=true→P)∧(b=false→Q))=if b=true then P else Q:=by
 cases b <;> simp
attribute [congr] SE.congr K3.congr
mutual
def Al:Tm→List SV
 | .mk n xs=>[.str n,.list (Vx xs)]
def Vx:List Tm→List (List SV)
 | []=>[]
 | t::ts=>Al t::Vx ts
end
theorem R9:∀xs:List Tm,Vx xs=xs.map Al
 | []=>rfl
 | t::ts=>by rw[Vx,R9 ts];rfl
theorem Ao(t:Tm):Al t=[.str t.name,.list (t.args.map Al)]:=by
 cases t;rw[Al,R9];rfl
theorem RQ(t:Tm):(Al t).length=2:=by rw[Ao];rfl
class AAe{α:Type}(f:α→List SV)(n:outParam Nat):Prop where
 ok:∀a,(f a).length=n
theorem AB4{α:Type}{f:α→List SV}{n:Nat}[h:AAe f n]{ts:List α}:∀x∈ts.map f,x.length=n:=fun x hx=>by
 obtain⟨a,_,rfl⟩:=List.mem_map.1 hx;exact h.ok a
instance:AAe Al 2:=⟨fun t=>by rw[Ao];rfl⟩
theorem Cv{ts:List Tm}:∀x∈ts.map Al,x.length=2:=by
 intro x hx;obtain⟨a,_,rfl⟩:=List.mem_map.1 hx;exact RQ a
theorem Tm.args_mk(n:ByteArray)(xs:List Tm):(Tm.mk n xs).args=xs:=rfl
theorem Tm.name_mk(n:ByteArray)(xs:List Tm):(Tm.mk n xs).name=n:=rfl
abbrev AO(n:Int):AV:=.one (.st (.int .i64 n))
abbrev AZ(b:Bool):AV:=.one (.st (.bool b))
abbrev Bs(s:ByteArray):AV:=.one (.st (.str s))
abbrev aTm(t:Tm):AV:=.agg [.st (.str t.name),.st (.list (t.args.map Al))]
abbrev HM(n:Int):List SV:=[.int .i64 n]
abbrev CV(s:ByteArray):List SV:=[.str s]
abbrev NU(p:List Int):List SV:=[.list (p.map HM)]
abbrev OU(l:List (List Int)):AV:=.one (.st (.list (l.map NU)))
abbrev Gx(l:List Int):AV:=.one (.st (.list (l.map HM)))
abbrev Bn(l:List ByteArray):AV:=.one (.st (.list (l.map CV)))
abbrev CJ(l:List Tm):AV:=.one (.st (.list (l.map Al)))
theorem Aa{α:Type}{xs:List α}{k:Nat}(h:k<xs.length):∃a,xs[k]?=some a:=⟨xs[k],List.getElem?_eq_getElem h⟩
theorem Qa(n:Int):inR .i64 n ↔ -9223372036854775808≤n∧n≤9223372036854775807:=by
 simp[inR,IntKind.min,IntKind.max,IntKind.signed,IntKind.bits]
theorem Em:maxLen=9223372036854775807:=by simp[maxLen]
theorem DT{S:AA}{xs:List (List SV)}(h:(AV.one (.st (.list xs))).known S):xs.length≤9223372036854775807:=by
 simp only[AV.known,AC.known,SV.known]at h;rw[Em]at h;exact h.1
theorem F_{S:AA}{t:Tm}(h:(aTm t).known S):t.name.size≤9223372036854775807∧t.args.length≤9223372036854775807:=by
 have h1:t.name.size≤maxLen:=by
  have:=h (.st (.str t.name)) (by simp);simpa[AC.known,SV.known]using this
 have h2:t.args.length≤maxLen:=by
  have:=h (.st (.list (t.args.map Al))) (by simp);simp only[AC.known,SV.known,List.length_map]at this;exact this.1
 rw[Em]at h1 h2;exact⟨h1,h2⟩

def Kd.isCall:Kd→Bool
 | .call _ _=>true
 | .callS _ _=>true
 | .callV _ _=>true
 | .callN _ _=>true
 | .callR _ _=>true
 | .callW _ _=>true
 | .callX _ _=>true
 | .callY _ _=>true
 | .buildFlat _=>false
 | .cutP _ _ _=>false
 | .indexP _ _ _=>false
 | .appP _ _ _ _ _=>false
 | .restP _ _ _=>false
 | .appS _ _ _=>false
 | .loadL _ _ _=>false
 | .indexL _ _ _=>false
 | .buildL _ _=>false
 | .fieldL _ _=>false
 | .lenL _ _=>false
 | .appF _ _ _ _ _ _=>false
 | .clearP _ _ _ _=>false
 | .copyP _ _=>false
 | .mov _=>false
 | .pick _ _ _=>false
 | .alloc _ _=>false
 | .box _ _=>false
 | .build _ _=>false
 | .buildSlice _ _ _ _=>false
 | .load _ _ _=>false
 | .store _ _ _=>false
 | .fieldAddr _ _=>false
 | .field _ _ _ _=>false
 | .indexAddr _ _ _=>false
 | .indexArr _ _ _ _=>false
 | .indexStr _ _=>false
 | .bin _ _ _=>false
 | .eqB _ _ _=>false
 | .eqN _ _=>false
 | .eqE _ _=>false
 | .eqP _ _=>false
 | .bits _ _ _=>false
 | .never=>false
 | .pan _=>false
 | .iface _ _=>false
 | .strOf _ _=>false
 | .un _ _=>false
 | .sliceS _ _ _=>false
 | .sliceL _ _ _ _=>false
 | .sliceM _ _ _ _=>false
 | .extract _ _=>false
 | .len _ _=>false
 | .append _ _ _ _ _ _=>false
 | .conv _ _=>false
 | .nilCheck _=>false
 | .mm _ _ _=>false
 | .makeSlice _ _ _ _ _ _=>false
 | .makeFunc _ _=>false
 | .makeMap _=>false
 | .lookup _ _ _ _ _=>false
 | .mapSet _ _ _ _=>false
 | .mapEntry _ _ _ _=>false
 | .entrySet _ _ _=>false
 | .rangeM _=>false
 | .next _=>false
 | .entry _=>false
 | .lenM _=>false
 | .buildArr _=>false
 | .makeMemo=>false
 | .memoGet _ _ _ _=>false
 | .memoSet _ _ _=>false
inductive AA9(P:Program)(f:FuncId)(vs:List AV)(d:Option Nat)(l:List Ins)(s:AS)(K:AS→Prop):Prop
 | mk (r:AV) (h1:AW P f vs r) (h2:Run P l (s.put d r) K)
inductive QD(P:Program)(f:FuncId)(vs:List AV)(S:AA)(ks:List Nat)(d:Option Nat)(l:List Ins)(env:Nat→AV)(K:AS→Prop):Prop
 | mk (r:AV) (S':AA) (h1:Ah P f vs (upS S) r S') (h2:(∀k∈ks,dnS S' k=S k)∧Run P l ((⟨env,dnS S'⟩:AS).put d (r.ren dn1)) K)
inductive Zn(P:Program)(f:FuncId)(vs:List AV)(ks:List Nat)(d:Option Nat)(l:List Ins)(s:AS)(K:AS→Prop):Prop
 | mk (mu:Bool) (e:TypeId) (w:Nat) (ys:List (List SV)) (h1:Ht P f vs e w ys mu) (h2:s.S (d.getD 0)=none∧(∀k∈ks,(s.set (d.getD 0) (KG mu e w ys)).S k=s.S k)∧Run P l ((s.set (d.getD 0) (KG mu e w ys)).put d (.one (.row (d.getD 0) ys.length))) K)
inductive ABP(P:Program)(f:FuncId)(vs:List AV)(d:Option Nat)(l:List Ins)(s:AS)(K:AS→Prop):Prop
 | mk (r:AV) (rows:List (Nat×AJ)) (h0:∀q∈rows,s.S q.1=some q.2) (h1:∀T:AA,(∀q∈rows,T q.1=some q.2)→Ah P f vs (upS T) r (upS T)) (h2:Run P l (s.put d (r.ren dn1)) K)
inductive YF(P:Program)(f:FuncId)(vs:List AV)(ks:List Nat)(d:Option Nat)(l:List Ins)(s:AS)(K:AS→Prop):Prop
 | mk (r:AV) (rows:List (Nat×AJ×AJ)) (h0:LH s.S rows) (h1:∀T:AA,LH T rows→Ah P f vs (upS T) r (upS (E5 T rows))) (h2:(∀k∈ks,E5 s.S rows k=s.S k)∧Run P l ((⟨s.env,E5 s.S rows⟩:AS).put d (r.ren dn1)) K)
inductive Ij(P:Program)(S:AA)(hs:Bool)(G:AA→(AV→AA→Prop)→Prop)(d:Option Nat)(l:List Ins)(env:Nat→AV)(K:AS→Prop):Prop
 | mk (T:AA) (Post:AV→AA→Prop) (h1:Ay T) (h2:∀i,1000≤i→S i=T i) (h3:hs=true) (h4:G T Post) (h5:∀r S',Ay S'→Post r S'→Run P l ((⟨env,Ec S S'⟩:AS).put d r) K)
theorem TC{S:AA}{i:Nat}{b c:AJ}(h:S i=some b):LH S [(i,b,c)]:=fun q hq=>by rw[List.mem_singleton.1 hq];exact h
theorem Vj{S:AA}{i:Nat}{b c:AJ}(h:LH S [(i,b,c)]):S i=some b:=h _ (List.mem_singleton.2 rfl)
theorem Rw{S:AA}{i j:Nat}{b c d e:AJ}(h:S i=some b)(h':S j=some d):LH S [(i,b,c),(j,d,e)]:=fun q hq=>by
 rcases List.mem_cons.1 hq with rfl|hq
 ·exact h
 ·rw[List.mem_singleton.1 hq];exact h'
theorem BC{S:AA}{i:Nat}{b:AJ}(h:S i=some b):∀q∈[(i,b)],S q.1=some q.2:=fun q hq=>by rw[List.mem_singleton.1 hq];exact h
def Kd.goC(P:Program)(d:Option Nat)(s:AS)(t:Tag)(l:List Ins)(K:AS→Prop):Kd→Prop
 | .call f xs=>match t with
  | .no=>match outVs s.S (s.evs xs) with
   | some vs=>AA9 P f vs d l s K
   | none=>False
  | _=>False
 | .callR f xs=>match t with
  | .no=>ABP P f (AV.rens up1 (s.evs xs)) d l s K
  | _=>False
 | .callW f xs=>match t with
  | .no=>YF P f (AV.rens up1 (s.evs xs)) [] d l s K
  | .keeps ks=>YF P f (AV.rens up1 (s.evs xs)) ks d l s K
  | .onb _=>False
 | .callX f xs=>match t with
  | .no=>Ij P s.S (AV.highs ((s.evs xs).map (Iz s.S))) (E_ P f ((s.evs xs).map (Iz s.S))) d l s.env K
  | _=>False
 | .callY f xs=>match t with
  | .no=>Ij P s.S ((s.ev f).high&&AV.highs ((s.evs xs).map (Iz s.S))) (J4 P (s.ev f) ((s.evs xs).map (Iz s.S))) d l s.env K
  | _=>False
 | .callN f xs=>match t with
  | .no=>match outVs s.S (s.evs xs) with
   | some vs=>Zn P f vs [] d l s K
   | none=>False
  | .keeps ks=>match outVs s.S (s.evs xs) with
   | some vs=>Zn P f vs ks d l s K
   | none=>False
  | .onb _=>False
 | .callS f xs=>match t with
  | .no=>QD P f (AV.rens up1 (s.evs xs)) s.S [] d l s.env K
  | .keeps ks=>QD P f (AV.rens up1 (s.evs xs)) s.S ks d l s.env K
  | .onb _=>False
 | .callV f xs=>match(s.ev f).fnOf with
  | some (g,caps)=>CY P g=true∧match t with
   | .no=>QD P g (AV.rens up1 (s.evs xs++caps.map .one)) s.S [] d l s.env K
   | .keeps ks=>QD P g (AV.rens up1 (s.evs xs++caps.map .one)) s.S ks d l s.env K
   | .onb _=>False
  | _=>False
 | _=>False
def Ip(P:Program):List Ins→AS→(AS→Prop)→Prop
 | [],s,K=>K s
 | i::l,s,K=>match i.kd.isCall with
  | false=>match i.guard with
   | none=>i.kd.goT P (i.dst.getD 0) s i.tag fun v s'=>Ip P l (s'.put i.dst v) K
   | some (g,want)=>match s.env g with
    | .one (.st (.bool b))=>(b=want→i.kd.goT P (i.dst.getD 0) s i.tag fun v s'=>Ip P l (s'.put i.dst v) K)∧(¬b=want→Ip P l (s.put i.dst (.tup [])) K)
    | .tup []=>Ip P l (s.put i.dst (.tup [])) K
    | _=>False
  | true=>match i.guard with
   | none=>i.kd.goC P i.dst s i.tag l K
   | some (g,want)=>match s.env g with
    | .one (.st (.bool b))=>(b=want→i.kd.goC P i.dst s i.tag l K)∧(¬b=want→Ip P l (s.put i.dst (.tup [])) K)
    | .tup []=>Ip P l (s.put i.dst (.tup [])) K
    | _=>False
section
variable {P:Program}
theorem VB{kd:Kd}{d:Option Nat}{s:AS}{t:Tag}{l:List Ins}{K:AS→Prop}(h:kd.goC P d s t l K):kd.goT P (d.getD 0) s t fun v s'=>Run P l (s'.put d v) K:=by
 cases kd <;> simp only[Kd.goC]at h
 case call f xs =>
  cases t <;> simp only at h;split at h
  ·rename_i vs e;obtain⟨r,h1,h2⟩:=h;simp only[Kd.goT,Kd.go,e];exact⟨r,h1,trivial,h2⟩
  ·exact h.elim
 case callN f xs =>
  cases t <;> simp only at h
  ·split at h
   ·rename_i vs e;obtain⟨mu,ty,w,ys,h1,h2,_,h3⟩:=h;simp only[Kd.goT,Kd.go,e];exact⟨mu,ty,w,ys,h1,h2,trivial,h3⟩
   ·exact h.elim
  ·split at h
   ·rename_i vs e;obtain⟨mu,ty,w,ys,h1,h2,h4,h3⟩:=h;simp only[Kd.goT,Kd.go,e];exact⟨mu,ty,w,ys,h1,h2,h4,h3⟩
   ·exact h.elim
 case callW f xs =>
  cases t <;> simp only at h
  ·obtain⟨r,rows,h0,h1,_,h2⟩:=h;simp only[Kd.goT,Kd.go];exact⟨r,rows,h0,h1,trivial,h2⟩
  ·obtain⟨r,rows,h0,h1,hk,h2⟩:=h;simp only[Kd.goT,Kd.go];exact⟨r,rows,h0,h1,hk,h2⟩
 case callX f xs =>
  cases t <;> simp only at h;obtain⟨T,Post,h1,h2,h3,h4,h5⟩:=h;exact⟨T,Post,h1,h2,h3,h4,fun r S' k1 k2=>⟨trivial,h5 r S' k1 k2⟩⟩
 case callY f xs =>
  cases t <;> simp only at h;obtain⟨T,Post,h1,h2,h3,h4,h5⟩:=h;exact⟨T,Post,h1,h2,h3,h4,fun r S' k1 k2=>⟨trivial,h5 r S' k1 k2⟩⟩
 case callR f xs =>
  cases t <;> simp only at h;obtain⟨r,rows,h0,h1,h2⟩:=h;simp only[Kd.goT,Kd.go];exact⟨r,rows,h0,h1,trivial,h2⟩
 case callS f xs =>
  cases t <;> simp only at h
  ·obtain⟨r,S',h1,h2,h3⟩:=h;exact⟨r,S',h1,trivial,h3⟩
  ·obtain⟨r,S',h1,h2,h3⟩:=h;exact⟨r,S',h1,h2,h3⟩
 case callV f xs =>
  split at h
  ·rename_i g caps e;obtain⟨hp,h⟩:=h;cases t <;> simp only at h
   ·obtain⟨r,S',h1,h2,h3⟩:=h;simp only[Kd.goT,Kd.go,e];exact⟨hp,r,S',h1,trivial,h3⟩
   ·obtain⟨r,S',h1,h2,h3⟩:=h;simp only[Kd.goT,Kd.go,e];exact⟨hp,r,S',h1,h2,h3⟩
  ·exact h.elim
theorem DA:∀{l:List Ins} {s:AS} {K:AS→Prop},Ip P l s K→Run P l s K
 | [],s,K,h=>h
 | i::l,s,K,h=>by
  unfold Ip at h;unfold Run;split at h
  ·split at h
   ·rename_i e;simp only[e];exact Fh h fun v s' _ h'=>DA h'
   ·rename_i g want e;simp only[e];split at h
    ·rename_i b e2;simp only[e2];exact⟨fun hb=>Fh (h.1 hb) fun v s' _ h'=>DA h',fun hb=>DA (h.2 hb)⟩
    ·rename_i e2;simp only[e2];exact DA h
    ·exact h.elim
  ·split at h
   ·rename_i e;simp only[e];exact VB h
   ·rename_i g want e;simp only[e];split at h
    ·rename_i b e2;simp only[e2];exact⟨fun hb=>VB (h.1 hb),fun hb=>DA (h.2 hb)⟩
    ·rename_i e2;simp only[e2];exact DA h
    ·exact h.elim
theorem K4{l:List Ins}{s:AS}{K:AS→Prop}{A:Prop}(h:A∧Ip P l s K):A∧Run P l s K:=⟨h.1,DA h.2⟩
theorem IWP.ops2{C:Ctx}{mu:List Nat}{Q:AX→AS→Prop}{s:AS}{l:List Ins}(h:∀K:AS→Prop,(∀s,Q .normal s→K s)→Ip P l s K):IWP P C mu (.ops l) Q s:=IWP.opsK fun K hK=>DA (h K hK)
end
attribute [go_sem] AAh YS YU P6 Ins.i Ins.m Ins.L Ins.l Ins.f Ins.s Opd.n KG E5 Ip Kd.isCall Kd.goC Kd.goT Tag.ok Kd.ptrOpd HX List.forall_mem_cons List.not_mem_nil Kd.go AS.ev AS.evs AS.put AS.set AI AV.cells JA Ed HK stP Xy stC stCs outC outCs outV outVs Lm DL C5 DQ Zt FS W6 V3 optI Qz splice AJ.len AS.start AS.startS noS List.getElem?_cons_zero List.getElem?_cons_succ List.getElem?_nil List.getElem?_map Option.isSome_none Option.isSome_some Option.map_some Option.map_none Option.getD_some Option.getD_none List.length_map List.length_cons List.length_nil List.length_append List.map_cons List.map_nil List.take_succ_cons List.take_zero List.take_nil List.drop_succ_cons List.drop_zero List.drop_nil List.nil_append List.cons_append List.append_nil Nat.zero_add Nat.add_zero Nat.le_refl Nat.zero_le if_true if_false Bool.false_eq_true true_and and_true Option.some.injEq Int.toNat_natCast Int.natCast_nonneg Int.ofNat_eq_natCast ite_self decide_true decide_false not_true_eq_false not_false_eq_true true_implies false_implies implies_true Bool.true_eq_false eq_self Bool.not_true Bool.not_false beq_self_eq_true Tm.args_mk Tm.name_mk AV.rens AV.ren AC.ren AC.rens AJ.ren Ax M1 Qi QH
theorem MC(T:AA)(i:Nat)(b:AJ):upS (AI T i (some b))=AI (upS T) (up1 i) (some (b.ren up1)):=by
 funext k;show(if k<1000 then none else(AI T i (some b) (k-1000)).map (AJ.ren up1))=_
 by_cases e:k=up1 i
 ·subst e;rw[AG,if_neg (by have:=Ap i;omega),show up1 i-1000=i from M1 i,AG];rfl
 ·rw[AH _ e];by_cases hk:k<1000
  ·rw[if_pos hk];show none=if k<1000 then none else _
   rw[if_pos hk]
  ·rw[if_neg hk,AH _ (fun h=>e (by rw[←h];exact(NT (by omega)).symm))];show _=if k<1000 then none else _
   rw[if_neg hk]
abbrev Wa:=@IWP.seq
abbrev Wb:=@HV
abbrev Wc:=@IWP.block
abbrev Wd:=@IWP.skip
abbrev We:=@IWP.exit
abbrev Wg:=@Pt
abbrev Wh:=@Sp
abbrev Wi:=@HP
abbrev Wj:=@J7
abbrev Wk:=@Jz
abbrev Wl:=@Lc
abbrev Wm:=@Oy
abbrev Wn:=@S6
abbrev Wo:=@IWP.ops2
abbrev Wp:=@IWP.cond
abbrev Wq:=@DA
abbrev Wr:=@K4
abbrev iC:=@ZU
abbrev Cg:=@AA9.mk
abbrev dT:=@decide_eq_true_eq
abbrev dF:=@decide_eq_false_iff_not
abbrev nL:=@Int.ofNat_lt
abbrev eT:=@Ao
abbrev iR:=@Qa
attribute [go_sem ↓] XH Zf
theorem Ai{a b:Prop}(k:b)(h:a:=by first|omega|exact AB4|(simp[Em] <;> omega)):a∧b:=⟨h,k⟩
theorem Z0{id id':Nat}{Q:AX→AS→Prop}{s:AS}(h:Q (.exit id') s)(hne:id'≠id:=by decide):AX.inBlock id Q (.exit id') s:=Jz hne h
theorem fN{α:Type}(p:α→Prop):∀x∈([]:List α),p x:=List.forall_mem_nil p
class Jr(goal:Prop)(prev:outParam Prop):Prop where
 imp:prev→goal
theorem W{goal prev:Prop}[s:Jr goal prev](h:prev):goal:=s.imp h
section
variable {P:Program} {C:Ctx} {mu:List Nat} {x y:IR} {Q:AX→AS→Prop} {s:AS} {id:Nat} {K:AS→Prop}
instance:Jr (IWP P C mu (.seq x y) Q s) (IWP P C mu x (S9 P C mu y Q) s):=⟨IWP.seq⟩
instance:Jr (S9 P C mu y Q .normal s) (IWP P C mu y Q s):=⟨HV⟩
instance:Jr (IWP P C mu (.block id x) Q s) (IWP P C mu x (AX.inBlock id Q) s):=⟨IWP.block⟩
instance:Jr (IWP P C mu .skip Q s) (Q .normal s):=⟨IWP.skip⟩
instance:Jr (IWP P C mu (.exit id) Q s) (Q (.exit id) s):=⟨IWP.exit⟩
instance:Jr (IWP P C mu .ret Q s) (Q .ret s):=⟨IWP.ret⟩
instance:Jr (S9 P C mu y Q (.exit id) s) (Q (.exit id) s):=⟨Pt⟩
instance:Jr (S9 P C mu y Q .ret s) (Q .ret s):=⟨Sp⟩
instance:Jr (AX.inBlock id Q .normal s) (Q .normal s):=⟨HP⟩
instance:Jr (AX.inBlock id Q (.exit id) s) (Q .normal s):=⟨J7⟩
instance:Jr (AX.inBlock id Q .ret s) (Q .ret s):=⟨Lc⟩
instance:Jr (AX.then K Q (.exit id) s) (Q (.exit id) s):=⟨Oy⟩
instance:Jr (AX.then K Q .ret s) (Q .ret s):=⟨S6⟩
class AA6(goal:Prop)(prev:outParam Prop):Prop where
 imp:prev→goal
class Xm(goal:Prop)(prev:outParam Prop):Prop where
 imp:prev→goal
instance{l:List Ins}:AA6 (Run P l s K) (Ip P l s K):=⟨DA⟩
instance{l:List Ins}{A:Prop}:AA6 (A∧Run P l s K) (A∧Ip P l s K):=⟨K4⟩
instance{l:List Ins}:Xm (Run P l s K) (Ip P l s K):=⟨DA⟩
instance{l:List Ins}{A:Prop}:Xm (A∧Run P l s K) (A∧Ip P l s K):=⟨K4⟩
instance{c0:Opd}:Xm (IWP P C mu (.cond c0 x y) Q s) (match s.ev c0 with|.one (.st (.bool b))=>(b=true→IWP P C mu x Q s)∧(b=false→IWP P C mu y Q s)|.one .ubool=>IWP P C mu x Q s∧IWP P C mu y Q s|_=>False):=⟨IWP.cond⟩
end
theorem IWP.fresh{P:Program}{C:Ctx}{mu:List Nat}{x:IR}{Q:AX→AS→Prop}{s:AS}(h1000:∀i,1000≤i→s.S i=none)(h:∀env':Nat→AV,(∀i v,s.env i=.one (.st v)→env' i=.one (.st v))→IWP P C mu x Q ⟨env',noS⟩):IWP P C mu x Q s:=by
 refine IWP.ghost (AY.low (s:=s) fun i b hi hb=>by rw[h1000 i hi]at hb;cases hb) ?_;have e:CP s.S=noS:=by
  funext i;show(if i<1000 then none else s.S i)=none
  split
  ·rfl
  ·exact h1000 i (by omega)
 rw[e];exact h _ fun i v hv=>by rw[hv];rfl
theorem IWP.mid{P:Program}{C:Ctx}{mu:List Nat}{x y:IR}{Q:AX→AS→Prop}{s:AS}(M:AS→Prop)(h1:IWP P C mu x (fun e s=>e=.normal∧M s) s)(h2:∀s,M s→IWP P C mu y Q s):IWP P C mu (x.seq y) Q s :=
 IWP.seq (h1.mono fun e s ⟨he,hm⟩=>by subst he;exact HV (h2 s hm))
theorem ABo{R G:Prop}(f:R→G)(h:R):G:=f h

structure Mk(p:Prop):Prop where
 out:p
abbrev Mm:=@Mk.mk
theorem Gg{G R:Prop}(k:R)(h:Mk R→G:=by(intro zk;(with_reducible first|refine W ?_|refine Z0 ?_|((first|refine Wo fun K hK=>?_|refine Wp ?_|refine Wq ?_|refine Wr ?_);(try simp only[go_sem,fN,seval,eT,iR,dT,dF,nL]);(repeat refine Ai ?_);(try(refine hK _ ?_;try clear hK K));try refine iC ?_));(repeat' with_reducible first|refine W ?_|refine Z0 ?_|((first|refine Wo fun K hK=>?_|refine Wp ?_|refine Wq ?_|refine Wr ?_);(try simp only[go_sem,fN,seval,eT,iR,dT,dF,nL]);(repeat refine Ai ?_);(try(refine hK _ ?_;try clear hK K));try refine iC ?_));first|exact Mk.out zk|(revert hK;revert K;exact Mk.out (Mk.out zk)))):G:=h ⟨k⟩
theorem Gf{F G R:Prop}(f:F)(k:R)(h:F→Mk R→G:=by(intro zF zk;(with_reducible first|refine W ?_|refine Z0 ?_|((first|refine Wo fun K hK=>?_|refine Wp ?_|refine Wq ?_|refine Wr ?_);(try simp only[go_sem,fN,seval,eT,iR,zF,dT,dF,nL]);(repeat refine Ai ?_);(try(refine hK _ ?_;try clear hK K));try refine iC ?_));(repeat' with_reducible first|refine W ?_|refine Z0 ?_|((first|refine Wo fun K hK=>?_|refine Wp ?_|refine Wq ?_|refine Wr ?_);(try simp only[go_sem,fN,seval,eT,iR,zF,dT,dF,nL]);(repeat refine Ai ?_);(try(refine hK _ ?_;try clear hK K));try refine iC ?_));first|exact Mk.out zk|(revert hK;revert K;exact Mk.out (Mk.out zk)))):G:=h f ⟨k⟩
theorem Hg{G R:Prop}(k:R)(h:Mk R→G:=by(intro zk;(with_reducible first|refine W ?_|refine Z0 ?_|((first|refine Wo fun K hK=>?_|refine Wq ?_|refine Wr ?_);(try simp only[go_sem,fN,seval,eT,iR]);(repeat refine Ai ?_);try(refine hK _ ?_;try clear hK K)));(repeat' with_reducible first|refine W ?_|refine Z0 ?_|((first|refine Wo fun K hK=>?_|refine Wq ?_|refine Wr ?_);(try simp only[go_sem,fN,seval,eT,iR]);(repeat refine Ai ?_);try(refine hK _ ?_;try clear hK K)));first|exact Mk.out zk|(revert hK;revert K;exact Mk.out (Mk.out zk)))):G:=h ⟨k⟩
theorem Hf{F G R:Prop}(f:F)(k:R)(h:F→Mk R→G:=by(intro zF zk;(with_reducible first|refine W ?_|refine Z0 ?_|((first|refine Wo fun K hK=>?_|refine Wq ?_|refine Wr ?_);(try simp only[go_sem,fN,seval,eT,iR,zF]);(repeat refine Ai ?_);try(refine hK _ ?_;try clear hK K)));(repeat' with_reducible first|refine W ?_|refine Z0 ?_|((first|refine Wo fun K hK=>?_|refine Wq ?_|refine Wr ?_);(try simp only[go_sem,fN,seval,eT,iR,zF]);(repeat refine Ai ?_);try(refine hK _ ?_;try clear hK K)));first|exact Mk.out zk|(revert hK;revert K;exact Mk.out (Mk.out zk)))):G:=h f ⟨k⟩
theorem F2{p0 p1:Prop}(x0:p0)(x1:p1):p0∧p1:=⟨x0,x1⟩
theorem F3{p0 p1 p2:Prop}(x0:p0)(x1:p1)(x2:p2):p0∧p1∧p2:=⟨x0,x1,x2⟩
theorem F4{p0 p1 p2 p3:Prop}(x0:p0)(x1:p1)(x2:p2)(x3:p3):p0∧p1∧p2∧p3:=⟨x0,x1,x2,x3⟩
theorem F5{p0 p1 p2 p3 p4:Prop}(x0:p0)(x1:p1)(x2:p2)(x3:p3)(x4:p4):p0∧p1∧p2∧p3∧p4:=⟨x0,x1,x2,x3,x4⟩
theorem F6{p0 p1 p2 p3 p4 p5:Prop}(x0:p0)(x1:p1)(x2:p2)(x3:p3)(x4:p4)(x5:p5):p0∧p1∧p2∧p3∧p4∧p5:=⟨x0,x1,x2,x3,x4,x5⟩
theorem F7{p0 p1 p2 p3 p4 p5 p6:Prop}(x0:p0)(x1:p1)(x2:p2)(x3:p3)(x4:p4)(x5:p5)(x6:p6):p0∧p1∧p2∧p3∧p4∧p5∧p6:=⟨x0,x1,x2,x3,x4,x5,x6⟩
theorem F8{p0 p1 p2 p3 p4 p5 p6 p7:Prop}(x0:p0)(x1:p1)(x2:p2)(x3:p3)(x4:p4)(x5:p5)(x6:p6)(x7:p7):p0∧p1∧p2∧p3∧p4∧p5∧p6∧p7:=⟨x0,x1,x2,x3,x4,x5,x6,x7⟩
theorem F9{p0 p1 p2 p3 p4 p5 p6 p7 p8:Prop}(x0:p0)(x1:p1)(x2:p2)(x3:p3)(x4:p4)(x5:p5)(x6:p6)(x7:p7)(x8:p8):p0∧p1∧p2∧p3∧p4∧p5∧p6∧p7∧p8:=⟨x0,x1,x2,x3,x4,x5,x6,x7,x8⟩
theorem F10{p0 p1 p2 p3 p4 p5 p6 p7 p8 p9:Prop}(x0:p0)(x1:p1)(x2:p2)(x3:p3)(x4:p4)(x5:p5)(x6:p6)(x7:p7)(x8:p8)(x9:p9):p0∧p1∧p2∧p3∧p4∧p5∧p6∧p7∧p8∧p9:=⟨x0,x1,x2,x3,x4,x5,x6,x7,x8,x9⟩
theorem F11{p0 p1 p2 p3 p4 p5 p6 p7 p8 p9 p10:Prop}(x0:p0)(x1:p1)(x2:p2)(x3:p3)(x4:p4)(x5:p5)(x6:p6)(x7:p7)(x8:p8)(x9:p9)(x10:p10):p0∧p1∧p2∧p3∧p4∧p5∧p6∧p7∧p8∧p9∧p10:=⟨x0,x1,x2,x3,x4,x5,x6,x7,x8,x9,x10⟩
theorem F12{p0 p1 p2 p3 p4 p5 p6 p7 p8 p9 p10 p11:Prop}(x0:p0)(x1:p1)(x2:p2)(x3:p3)(x4:p4)(x5:p5)(x6:p6)(x7:p7)(x8:p8)(x9:p9)(x10:p10)(x11:p11):p0∧p1∧p2∧p3∧p4∧p5∧p6∧p7∧p8∧p9∧p10∧p11:=⟨x0,x1,x2,x3,x4,x5,x6,x7,x8,x9,x10,x11⟩
theorem F13{p0 p1 p2 p3 p4 p5 p6 p7 p8 p9 p10 p11 p12:Prop}(x0:p0)(x1:p1)(x2:p2)(x3:p3)(x4:p4)(x5:p5)(x6:p6)(x7:p7)(x8:p8)(x9:p9)(x10:p10)(x11:p11)(x12:p12):p0∧p1∧p2∧p3∧p4∧p5∧p6∧p7∧p8∧p9∧p10∧p11∧p12:=⟨x0,x1,x2,x3,x4,x5,x6,x7,x8,x9,x10,x11,x12⟩
theorem F14{p0 p1 p2 p3 p4 p5 p6 p7 p8 p9 p10 p11 p12 p13:Prop}(x0:p0)(x1:p1)(x2:p2)(x3:p3)(x4:p4)(x5:p5)(x6:p6)(x7:p7)(x8:p8)(x9:p9)(x10:p10)(x11:p11)(x12:p12)(x13:p13):p0∧p1∧p2∧p3∧p4∧p5∧p6∧p7∧p8∧p9∧p10∧p11∧p12∧p13:=⟨x0,x1,x2,x3,x4,x5,x6,x7,x8,x9,x10,x11,x12,x13⟩
theorem F15{p0 p1 p2 p3 p4 p5 p6 p7 p8 p9 p10 p11 p12 p13 p14:Prop}(x0:p0)(x1:p1)(x2:p2)(x3:p3)(x4:p4)(x5:p5)(x6:p6)(x7:p7)(x8:p8)(x9:p9)(x10:p10)(x11:p11)(x12:p12)(x13:p13)(x14:p14):p0∧p1∧p2∧p3∧p4∧p5∧p6∧p7∧p8∧p9∧p10∧p11∧p12∧p13∧p14:=⟨x0,x1,x2,x3,x4,x5,x6,x7,x8,x9,x10,x11,x12,x13,x14⟩
theorem F16{p0 p1 p2 p3 p4 p5 p6 p7 p8 p9 p10 p11 p12 p13 p14 p15:Prop}(x0:p0)(x1:p1)(x2:p2)(x3:p3)(x4:p4)(x5:p5)(x6:p6)(x7:p7)(x8:p8)(x9:p9)(x10:p10)(x11:p11)(x12:p12)(x13:p13)(x14:p14)(x15:p15):p0∧p1∧p2∧p3∧p4∧p5∧p6∧p7∧p8∧p9∧p10∧p11∧p12∧p13∧p14∧p15:=⟨x0,x1,x2,x3,x4,x5,x6,x7,x8,x9,x10,x11,x12,x13,x14,x15⟩
theorem F17{p0 p1 p2 p3 p4 p5 p6 p7 p8 p9 p10 p11 p12 p13 p14 p15 p16:Prop}(x0:p0)(x1:p1)(x2:p2)(x3:p3)(x4:p4)(x5:p5)(x6:p6)(x7:p7)(x8:p8)(x9:p9)(x10:p10)(x11:p11)(x12:p12)(x13:p13)(x14:p14)(x15:p15)(x16:p16):p0∧p1∧p2∧p3∧p4∧p5∧p6∧p7∧p8∧p9∧p10∧p11∧p12∧p13∧p14∧p15∧p16:=⟨x0,x1,x2,x3,x4,x5,x6,x7,x8,x9,x10,x11,x12,x13,x14,x15,x16⟩
theorem F18{p0 p1 p2 p3 p4 p5 p6 p7 p8 p9 p10 p11 p12 p13 p14 p15 p16 p17:Prop}(x0:p0)(x1:p1)(x2:p2)(x3:p3)(x4:p4)(x5:p5)(x6:p6)(x7:p7)(x8:p8)(x9:p9)(x10:p10)(x11:p11)(x12:p12)(x13:p13)(x14:p14)(x15:p15)(x16:p16)(x17:p17):p0∧p1∧p2∧p3∧p4∧p5∧p6∧p7∧p8∧p9∧p10∧p11∧p12∧p13∧p14∧p15∧p16∧p17:=⟨x0,x1,x2,x3,x4,x5,x6,x7,x8,x9,x10,x11,x12,x13,x14,x15,x16,x17⟩
theorem F19{p0 p1 p2 p3 p4 p5 p6 p7 p8 p9 p10 p11 p12 p13 p14 p15 p16 p17 p18:Prop}(x0:p0)(x1:p1)(x2:p2)(x3:p3)(x4:p4)(x5:p5)(x6:p6)(x7:p7)(x8:p8)(x9:p9)(x10:p10)(x11:p11)(x12:p12)(x13:p13)(x14:p14)(x15:p15)(x16:p16)(x17:p17)(x18:p18):p0∧p1∧p2∧p3∧p4∧p5∧p6∧p7∧p8∧p9∧p10∧p11∧p12∧p13∧p14∧p15∧p16∧p17∧p18:=⟨x0,x1,x2,x3,x4,x5,x6,x7,x8,x9,x10,x11,x12,x13,x14,x15,x16,x17,x18⟩
theorem F20{p0 p1 p2 p3 p4 p5 p6 p7 p8 p9 p10 p11 p12 p13 p14 p15 p16 p17 p18 p19:Prop}(x0:p0)(x1:p1)(x2:p2)(x3:p3)(x4:p4)(x5:p5)(x6:p6)(x7:p7)(x8:p8)(x9:p9)(x10:p10)(x11:p11)(x12:p12)(x13:p13)(x14:p14)(x15:p15)(x16:p16)(x17:p17)(x18:p18)(x19:p19):p0∧p1∧p2∧p3∧p4∧p5∧p6∧p7∧p8∧p9∧p10∧p11∧p12∧p13∧p14∧p15∧p16∧p17∧p18∧p19:=⟨x0,x1,x2,x3,x4,x5,x6,x7,x8,x9,x10,x11,x12,x13,x14,x15,x16,x17,x18,x19⟩
theorem F21{p0 p1 p2 p3 p4 p5 p6 p7 p8 p9 p10 p11 p12 p13 p14 p15 p16 p17 p18 p19 p20:Prop}(x0:p0)(x1:p1)(x2:p2)(x3:p3)(x4:p4)(x5:p5)(x6:p6)(x7:p7)(x8:p8)(x9:p9)(x10:p10)(x11:p11)(x12:p12)(x13:p13)(x14:p14)(x15:p15)(x16:p16)(x17:p17)(x18:p18)(x19:p19)(x20:p20):p0∧p1∧p2∧p3∧p4∧p5∧p6∧p7∧p8∧p9∧p10∧p11∧p12∧p13∧p14∧p15∧p16∧p17∧p18∧p19∧p20:=⟨x0,x1,x2,x3,x4,x5,x6,x7,x8,x9,x10,x11,x12,x13,x14,x15,x16,x17,x18,x19,x20⟩
theorem F22{p0 p1 p2 p3 p4 p5 p6 p7 p8 p9 p10 p11 p12 p13 p14 p15 p16 p17 p18 p19 p20 p21:Prop}(x0:p0)(x1:p1)(x2:p2)(x3:p3)(x4:p4)(x5:p5)(x6:p6)(x7:p7)(x8:p8)(x9:p9)(x10:p10)(x11:p11)(x12:p12)(x13:p13)(x14:p14)(x15:p15)(x16:p16)(x17:p17)(x18:p18)(x19:p19)(x20:p20)(x21:p21):p0∧p1∧p2∧p3∧p4∧p5∧p6∧p7∧p8∧p9∧p10∧p11∧p12∧p13∧p14∧p15∧p16∧p17∧p18∧p19∧p20∧p21:=⟨x0,x1,x2,x3,x4,x5,x6,x7,x8,x9,x10,x11,x12,x13,x14,x15,x16,x17,x18,x19,x20,x21⟩
theorem F23{p0 p1 p2 p3 p4 p5 p6 p7 p8 p9 p10 p11 p12 p13 p14 p15 p16 p17 p18 p19 p20 p21 p22:Prop}(x0:p0)(x1:p1)(x2:p2)(x3:p3)(x4:p4)(x5:p5)(x6:p6)(x7:p7)(x8:p8)(x9:p9)(x10:p10)(x11:p11)(x12:p12)(x13:p13)(x14:p14)(x15:p15)(x16:p16)(x17:p17)(x18:p18)(x19:p19)(x20:p20)(x21:p21)(x22:p22):p0∧p1∧p2∧p3∧p4∧p5∧p6∧p7∧p8∧p9∧p10∧p11∧p12∧p13∧p14∧p15∧p16∧p17∧p18∧p19∧p20∧p21∧p22:=⟨x0,x1,x2,x3,x4,x5,x6,x7,x8,x9,x10,x11,x12,x13,x14,x15,x16,x17,x18,x19,x20,x21,x22⟩
theorem F24{p0 p1 p2 p3 p4 p5 p6 p7 p8 p9 p10 p11 p12 p13 p14 p15 p16 p17 p18 p19 p20 p21 p22 p23:Prop}(x0:p0)(x1:p1)(x2:p2)(x3:p3)(x4:p4)(x5:p5)(x6:p6)(x7:p7)(x8:p8)(x9:p9)(x10:p10)(x11:p11)(x12:p12)(x13:p13)(x14:p14)(x15:p15)(x16:p16)(x17:p17)(x18:p18)(x19:p19)(x20:p20)(x21:p21)(x22:p22)(x23:p23):p0∧p1∧p2∧p3∧p4∧p5∧p6∧p7∧p8∧p9∧p10∧p11∧p12∧p13∧p14∧p15∧p16∧p17∧p18∧p19∧p20∧p21∧p22∧p23:=⟨x0,x1,x2,x3,x4,x5,x6,x7,x8,x9,x10,x11,x12,x13,x14,x15,x16,x17,x18,x19,x20,x21,x22,x23⟩
theorem F25{p0 p1 p2 p3 p4 p5 p6 p7 p8 p9 p10 p11 p12 p13 p14 p15 p16 p17 p18 p19 p20 p21 p22 p23 p24:Prop}(x0:p0)(x1:p1)(x2:p2)(x3:p3)(x4:p4)(x5:p5)(x6:p6)(x7:p7)(x8:p8)(x9:p9)(x10:p10)(x11:p11)(x12:p12)(x13:p13)(x14:p14)(x15:p15)(x16:p16)(x17:p17)(x18:p18)(x19:p19)(x20:p20)(x21:p21)(x22:p22)(x23:p23)(x24:p24):p0∧p1∧p2∧p3∧p4∧p5∧p6∧p7∧p8∧p9∧p10∧p11∧p12∧p13∧p14∧p15∧p16∧p17∧p18∧p19∧p20∧p21∧p22∧p23∧p24:=⟨x0,x1,x2,x3,x4,x5,x6,x7,x8,x9,x10,x11,x12,x13,x14,x15,x16,x17,x18,x19,x20,x21,x22,x23,x24⟩
theorem F29{p0 p1 p2 p3 p4 p5 p6 p7 p8 p9 p10 p11 p12 p13 p14 p15 p16 p17 p18 p19 p20 p21 p22 p23 p24 p25 p26 p27 p28:Prop}(x0:p0)(x1:p1)(x2:p2)(x3:p3)(x4:p4)(x5:p5)(x6:p6)(x7:p7)(x8:p8)(x9:p9)(x10:p10)(x11:p11)(x12:p12)(x13:p13)(x14:p14)(x15:p15)(x16:p16)(x17:p17)(x18:p18)(x19:p19)(x20:p20)(x21:p21)(x22:p22)(x23:p23)(x24:p24)(x25:p25)(x26:p26)(x27:p27)(x28:p28):p0∧p1∧p2∧p3∧p4∧p5∧p6∧p7∧p8∧p9∧p10∧p11∧p12∧p13∧p14∧p15∧p16∧p17∧p18∧p19∧p20∧p21∧p22∧p23∧p24∧p25∧p26∧p27∧p28:=⟨x0,x1,x2,x3,x4,x5,x6,x7,x8,x9,x10,x11,x12,x13,x14,x15,x16,x17,x18,x19,x20,x21,x22,x23,x24,x25,x26,x27,x28⟩



theorem PH:∀l:List UInt8,Op.bytesLess l l=false
 | []=>by simp[Op.bytesLess]
 | x::xs=>by simp[Op.bytesLess,PH xs]
theorem Sa:∀(a b c:List UInt8),Op.bytesLess a b=true→Op.bytesLess b c=true→Op.bytesLess a c=true
 | _,[],_,h,_=>by simp[Op.bytesLess]at h
 | _,_::_,[],_,k=>by simp[Op.bytesLess]at k
 | [],_::_,_::_,_,_=>by simp[Op.bytesLess]
 | x::xs,y::ys,z::zs,h,k=>by
  simp only[Op.bytesLess,Bool.or_eq_true,Bool.and_eq_true,decide_eq_true_eq,beq_iff_eq]at h k ⊢;rcases h with h|⟨rfl,h⟩
  ·rcases k with k|⟨rfl,k⟩
   ·exact .inl (UInt8.lt_trans h k)
   ·exact .inl h
  ·rcases k with k|⟨rfl,k⟩
   ·exact .inl k
   ·exact .inr ⟨rfl,Sa xs ys zs h k⟩
theorem SY:∀(a b:List UInt8),Op.bytesLess a b=true∨a=b∨Op.bytesLess b a=true
 | [],[]=>.inr (.inl rfl)
 | [],_::_=>.inl (by simp[Op.bytesLess])
 | _::_,[]=>.inr (.inr (by simp[Op.bytesLess]))
 | x::xs,y::ys=>by
  simp only[Op.bytesLess,Bool.or_eq_true,Bool.and_eq_true,decide_eq_true_eq,beq_iff_eq,List.cons.injEq];rcases Nat.lt_trichotomy x.toNat y.toNat with h|h|h
  ·exact .inl (.inl h)
  ·have e:x=y:=UInt8.toNat_inj.1 h;subst e;rcases SY xs ys with h|h|h
   ·exact .inl (.inr ⟨rfl,h⟩)
   ·exact .inr (.inl ⟨rfl,h⟩)
   ·exact .inr (.inr (.inr ⟨rfl,h⟩))
  ·exact .inr (.inr (.inl h))
theorem Y6{a b:ByteArray}(h:a.toList=b.toList):a=b:=by
 rw[ByteArray.toList_eq,ByteArray.toList_eq]at h;cases a;cases b;simp only at h;congr 1;exact Array.toList_inj.1 h
theorem BY(a:ByteArray):sLt a a=false:=PH _
theorem EF{a b c:ByteArray}(h:sLt a b=true)(k:sLt b c=true):sLt a c=true:=Sa _ _ _ h k
theorem EC(a b:ByteArray):sLt a b=true∨a=b∨sLt b a=true:=by
 rcases SY a.toList b.toList with h|h|h
 ·exact .inl h
 ·exact .inr (.inl (Y6 h))
 ·exact .inr (.inr h)
theorem Fw{a b:ByteArray}(h:sLt a b=true):sLt b a=false:=by
 cases k:sLt b a with
 | false=>rfl
 | true=>have:=EF h k;rw[BY]at this;cases this
def DZ(a b:ByteArray):Int:=if sLt a b=true then -1 else if a=b then 0 else 1
abbrev Bd:=ByteArray×Tm
def BZ(b:Bd):List SV:=[.str b.1,.str b.2.name,.list (b.2.args.map Al)]
abbrev ER(l:List Bd):AV:=.one (.st (.list (l.map BZ)))
abbrev aBd(b:Bd):AV:=.agg [.st (.str b.1),.st (.str b.2.name),.st (.list (b.2.args.map Al))]
instance:AAe BZ 3:=⟨fun _=>rfl⟩
theorem Hw{ts:List Bd}:∀x∈ts.map BZ,x.length=3:=by
 intro x hx;obtain⟨a,_,rfl⟩:=List.mem_map.1 hx;rfl
theorem A5{α:Type}{xs:List α}{k:Nat}{a:α}(h:xs[k]?=some a):xs.drop k=a::xs.drop (k+1):=by
 have hk:=B8 h;rw[List.getElem?_eq_getElem hk]at h;rw[List.drop_eq_getElem_cons hk];simp at h;rw[h]
def BU(l:List Bd):Prop:=l.Pairwise fun a b=>sLt a.1 b.1=true
def lookup(l:List Bd)(n:ByteArray):Option Tm:=(l.find? fun b=>decide (b.1=n)).map (·.2)
theorem DU{l:List Bd}{n:ByteArray}(h:∀b∈l,b.1≠n):lookup l n=none:=by
 unfold lookup;rw[List.find?_eq_none.2 (fun b hb=>by simpa using h b hb)];rfl
theorem LG{l:List Bd}{n:ByteArray}{k:Nat}{b:Bd}(hk:l[k]?=some b)(hb:b.1=n)(h:∀c∈l.take k,c.1≠n):lookup l n=some b.2:=by
 unfold lookup;rw[←List.take_append_drop k l,List.find?_append,List.find?_eq_none.2 (fun c hc=>by simpa using h c hc),A5 hk];simp[hb]
theorem DR{l:List Bd}{n:ByteArray}{x:Tm}(h:lookup l n=some x):∃b∈l,b.1=n∧b.2=x:=by
 unfold lookup at h;rw[Option.map_eq_some_iff]at h;obtain⟨b,h1,h2⟩:=h;exact⟨b,List.mem_of_find?_eq_some h1,by simpa using List.find?_some h1,h2⟩
theorem LQ{l:List Bd}(h:BU l){i j:Nat}{a b:Bd}(hi:l[i]?=some a)(hj:l[j]?=some b)(hij:i<j):sLt a.1 b.1=true:=by
 have h1:=List.pairwise_iff_getElem.1 h;obtain⟨hi1,hi2⟩:=List.getElem?_eq_some_iff.1 hi;obtain⟨hj1,hj2⟩:=List.getElem?_eq_some_iff.1 hj;have:=h1 i j hi1 hj1 hij;rw[hi2,hj2]at this;exact this
mutual
def Tm.on(s:List Bd):Tm→Tm
 | .mk n xs=>match(if xs.isEmpty then lookup s n else none) with
  | some x=>x
  | none=>.mk n (Tm.onL s xs)
def Tm.onL(s:List Bd):List Tm→List Tm
 | []=>[]
 | t::ts=>t.on s::Tm.onL s ts
end
theorem Tm.onL_eq(s:List Bd):∀ts:List Tm,Tm.onL s ts=ts.map (Tm.on s)
 | []=>rfl
 | t::ts=>by rw[Tm.onL,Tm.onL_eq s ts];rfl
theorem Tm.on_leaf{s:List Bd}{t x:Tm}(h:lookup s t.name=some x)(h0:t.args=[]):t.on s=x:=by
 cases t with
 | mk n xs =>
  simp only[Tm.name_mk,Tm.args_mk]at h h0;subst h0;simp[Tm.on,h]
theorem Tm.on_knot{s:List Bd}{t:Tm}(h:lookup s t.name=none∨t.args≠[]):t.on s=.mk t.name (t.args.map (Tm.on s)):=by
 cases t with
 | mk n xs =>
  simp only[Tm.name_mk,Tm.args_mk]at h ⊢;rw[←Tm.onL_eq];rcases h with h|h
  ·simp[Tm.on,h]
  ·cases xs with
   | nil=>exact absurd rfl h
   | cons y ys=>simp[Tm.on]
theorem Tm.chk_args{t:Tm}(h:t.chk=0):(AP t.name=true→t.args=[])∧∀a∈t.args,a.chk=0:=by
 have hc:=Tm.chk_eq t;rw[h]at hc;by_cases h1:B9 t=0
 ·rw[if_pos h1]at hc;have key:∀{xs:List Tm},Tm.chkL xs=0→∀a∈xs,a.chk=0:=by
   intro xs;induction xs with
   | nil=>simp
   | cons x xs ih =>
    intro hx a ha;simp only[Tm.chkL]at hx;split at hx
    ·rename_i h2;rcases List.mem_cons.1 ha with rfl|ha
     ·exact h2
     ·exact ih hx a ha
    ·rename_i h2;exact absurd hx h2
  refine⟨fun hv=>?_,key hc.symm⟩;unfold B9 at h1;split at h1
  ·split at h1
   ·cases h1
   ·rename_i h2;simp only[hv,true_and,Nat.not_lt,Nat.le_zero]at h2;exact List.eq_nil_of_length_eq_zero h2
  ·cases h1
 ·rw[if_neg h1]at hc;exact absurd hc.symm h1
theorem Tm.may_chk{t:Tm}(h:t.may=0):t.chk=0∧t.size≤200:=by
 unfold Tm.may at h;split at h
 ·cases h
 ·exact⟨h,by omega⟩

def H8(b:Bd):List Bd→List Bd
 | []=>[b]
 | c::l=>if sLt b.1 c.1=true then b::c::l else c::H8 b l
def BE(l:List Bd):List Bd:=l.foldl (fun acc b=>H8 b acc) []
def Bg(l:List Bd):Prop:=(l.map (·.1)).Nodup
theorem Hm(b:Bd):∀l:List Bd,(H8 b l).Perm (b::l)
 | []=>List.Perm.refl _
 | c::l=>by
  unfold H8;split
  ·exact List.Perm.refl _
  ·exact((Hm b l).cons c).trans (List.Perm.swap b c l)
theorem JO{b:Bd}:∀{l:List Bd},BU l→(∀c∈l,c.1≠b.1)→BU (H8 b l)
 | [],_,_=>List.pairwise_cons.2 ⟨by simp,List.Pairwise.nil⟩
 | c::l,ho,hn=>by
  obtain⟨o1,o2⟩:=List.pairwise_cons.1 ho;unfold H8;split
  ·rename_i h;exact List.pairwise_cons.2 ⟨fun x hx=>by
    rcases List.mem_cons.1 hx with rfl|hx
    ·exact h
    ·exact EF h (o1 x hx),ho⟩
  ·rename_i h;refine List.pairwise_cons.2 ⟨fun x hx=>?_,JO o2 fun x hx=>hn x (by simp[hx])⟩;rcases List.mem_cons.1 ((Hm b l).mem_iff.1 hx) with rfl|hx
   ·rcases EC c.1 x.1 with k|k|k
    ·exact k
    ·exact absurd k (hn c (by simp))
    ·exact absurd k h
   ·exact o1 x hx
theorem UO(l:List Bd)(b:Bd):BE (l++[b])=H8 b (BE l):=by unfold BE;rw[List.foldl_append];rfl
theorem HB:∀(l acc:List Bd),(l.foldl (fun acc b=>H8 b acc) acc).Perm (l++acc)
 | [],acc=>List.Perm.refl _
 | b::l,acc=>by
  rw[List.foldl_cons];refine(HB l _).trans ?_;refine((Hm b acc).append_left l).trans ?_;exact List.perm_middle
theorem Bu(l:List Bd):(BE l).Perm l:=by
 have:=HB l [];rw[List.append_nil]at this;exact this
theorem E8:∀(l acc:List Bd),BU acc→Bg (acc++l)→BU (l.foldl (fun acc b=>H8 b acc) acc)
 | [],acc,ho,_=>ho
 | b::l,acc,ho,hn=>by
  rw[List.foldl_cons];have hp:(acc++b::l).Perm (H8 b acc++l):=(List.perm_middle).trans (by rw[←List.cons_append];exact((Hm b acc).symm.append_right l));refine E8 l _ (JO ho fun c hc e=>?_) ((hp.map _).nodup_iff.1 hn);unfold Bg at hn;rw[List.map_append,List.nodup_append]at hn;exact hn.2.2 _ (List.mem_map.2 ⟨c,hc,rfl⟩) _ (by simp) e
theorem Bz{l:List Bd}(hn:Bg l):BU (BE l):=E8 l [] List.Pairwise.nil (by simpa using hn)
theorem Ct{l:List Bd}(ho:BU l):Bg l:=by
 unfold Bg;rw[List.nodup_iff_pairwise_ne,List.pairwise_map];exact ho.imp fun {a b} h e=>by rw[e,BY]at h;cases h
theorem Ew:∀{l m:List Bd},BU l→BU m→l.Perm m→l=m
 | [],m,_,_,h=>(List.nil_perm.1 h).symm
 | a::l,[],_,_,h=>absurd h.length_eq (by simp)
 | a::l,c::m,hl,hm,h=>by
  obtain⟨l1,l2⟩:=List.pairwise_cons.1 hl;obtain⟨m1,m2⟩:=List.pairwise_cons.1 hm;have e:a=c:=by
   rcases List.mem_cons.1 (h.mem_iff.1 (List.mem_cons_self)) with e|e
   ·exact e
   ·rcases List.mem_cons.1 (h.mem_iff.2 (List.mem_cons_self)) with e2|e2
    ·exact e2.symm
    ·have:=EF (m1 a e) (l1 c e2);rw[BY]at this;cases this
  subst e;rw[Ew l2 m2 (List.Perm.cons_inv h)]
theorem CG{l:List Bd}{b:Bd}:b∈BE l↔b∈l:=(Bu l).mem_iff
theorem Bi(l:List Bd):(BE l).length=l.length:=(Bu l).length_eq
theorem DB{l m:List Bd}(h:l.Perm m)(hn:Bg l):Bg m:=((h.map _).nodup_iff).1 hn

abbrev Pr:=Tm×Tm
def Ag(p:Pr):List SV:=[.str p.1.name,.list (p.1.args.map Al),.str p.2.name,.list (p.2.args.map Al)]
abbrev Be(l:List Pr):AV:=.one (.st (.list (l.map Ag)))
abbrev aPr(p:Pr):AV:=.agg [.st (.str p.1.name),.st (.list (p.1.args.map Al)),.st (.str p.2.name),.st (.list (p.2.args.map Al))]
instance:AAe Ag 4:=⟨fun _=>rfl⟩
theorem Fj{ts:List Pr}:∀x∈ts.map Ag,x.length=4:=by
 intro x hx;obtain⟨a,_,rfl⟩:=List.mem_map.1 hx;rfl

end Go.Proofs.YtbhnmjkmieiadaaGreatDoor
