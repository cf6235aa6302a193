/-
  Part 3 of the texts. Conditions: none.
-/
import Derived.Test.YtbhnmjkmieiadaaGreatDoorCMa2
namespace Go.Proofs.YtbhnmjkmieiadaaGreatDoor
open Go Go.RowKit
set_option linter.unusedVariables false
set_option maxHeartbeats 400000
def Opd.reads:Opd→List Nat
 | .t i=>[i]
 | .c _=>[]
def HJ:Option Opd→List Nat
 | none=>[]
 | some x=>x.reads
def As:List Opd→List Nat
 | []=>[]
 | x::xs=>x.reads++As xs
def F1:List (Nat×Nat×Opd)→List Nat
 | []=>[]
 | (_,_,x)::xs=>x.reads++F1 xs
def Kd.reads:Kd→List Nat
 | .mov x=>x.reads
 | .pick c x y=>c.reads++(x.reads++y.reads)
 | .alloc _ _=>[]
 | .box _ x=>x.reads
 | .build _ ps=>F1 ps
 | .buildSlice _ _ _ xs=>As xs
 | .load _ _ x=>x.reads
 | .store _ x v=>x.reads++v.reads
 | .fieldAddr _ x=>x.reads
 | .field _ _ _ x=>x.reads
 | .indexAddr _ x i=>x.reads++i.reads
 | .indexArr _ _ x i=>x.reads++i.reads
 | .indexStr x i=>x.reads++i.reads
 | .bin _ x y=>x.reads++y.reads
 | .eqB _ x y=>x.reads++y.reads
 | .eqN _ x=>x.reads
 | .eqE _ x=>x.reads
 | .eqP _ x=>x.reads
 | .bits _ x y=>x.reads++y.reads
 | .never=>[]
 | .pan x=>x.reads
 | .iface _ x=>x.reads
 | .strOf _ x=>x.reads
 | .un _ x=>x.reads
 | .sliceS x lo hi=>x.reads++(HJ lo++HJ hi)
 | .sliceL _ x lo hi=>x.reads++(HJ lo++HJ hi)
 | .sliceM _ x hi mx=>x.reads++(hi.reads++mx.reads)
 | .extract _ x=>x.reads
 | .len _ x=>x.reads
 | .append _ _ _ _ x y=>x.reads++y.reads
 | .call _ xs=>As xs
 | .conv _ x=>x.reads
 | .nilCheck x=>x.reads
 | .mm _ x y=>x.reads++y.reads
 | .makeSlice _ _ _ _ x y=>x.reads++y.reads
 | .makeFunc _ xs=>As xs
 | .callS _ xs=>As xs
 | .callV f xs=>f.reads++As xs
 | .callN _ xs=>As xs
 | .callR _ xs=>As xs
 | .callW _ xs=>As xs
 | .callX _ xs=>As xs
 | .callY f xs=>f.reads++As xs
 | .buildFlat xs=>As xs
 | .cutP _ x hi=>x.reads++hi.reads
 | .indexP _ x i=>x.reads++i.reads
 | .appP _ _ _ x y=>x.reads++y.reads
 | .restP _ x lo=>x.reads++lo.reads
 | .appS _ x y=>x.reads++y.reads
 | .loadL _ _ x=>x.reads
 | .indexL _ x i=>x.reads++i.reads
 | .buildL _ xs=>As xs
 | .fieldL _ x=>x.reads
 | .lenL _ x=>x.reads
 | .appF _ _ _ _ x y=>x.reads++y.reads
 | .clearP _ _ _ x=>x.reads
 | .copyP x y=>x.reads++y.reads
 | .makeMap _=>[]
 | .lookup _ _ _ m k=>m.reads++k.reads
 | .mapSet _ m k v=>m.reads++(k.reads++v.reads)
 | .mapEntry _ _ m k=>m.reads++k.reads
 | .entrySet m i v=>m.reads++(i.reads++v.reads)
 | .rangeM m=>m.reads
 | .next x=>x.reads
 | .entry x=>x.reads
 | .lenM m=>m.reads
 | .buildArr xs=>As xs
 | .makeMemo=>[]
 | .memoGet _ _ m k=>m.reads++k.reads
 | .memoSet m k v=>m.reads++(k.reads++v.reads)
def Kd.det:Kd→Bool
 | .next _|.memoGet _ _ _ _|.callX _ _|.callY _ _=>false
 | _=>true
def Kd.pureS:Kd→Bool
 | .mov _|.pick _ _ _|.build _ _|.field _ _ _ _|.indexStr _ _|.bin _ _ _|.eqB _ _ _|.eqN _ _|.eqE _ _|.eqP _ _|.bits _ _ _|.never|.pan _|.iface _ _|.strOf _ _|.un _ _|.sliceS _ _ _|.extract _ _|.conv _ _|.mm _ _ _|.makeFunc _ _|.buildFlat _|.buildArr _|.loadL _ _ _|.indexL _ _ _|.buildL _ _|.fieldL _ _|.lenL _ _=>true
 | _=>false
def Kd.keepS:Kd→Bool
 | .alloc _ _|.box _ _|.buildSlice true _ _ _|.store _ _ _|.append _ _ _ _ _ _|.makeSlice _ _ _ _ _ _|.callS _ _|.callV _ _|.callN _ _|.callW _ _|.callX _ _|.callY _ _|.appP _ _ _ _ _|.appS _ _ _|.clearP _ _ _ _|.copyP _ _|.makeMap _|.mapSet _ _ _ _|.mapEntry _ _ _ _|.entrySet _ _ _|.rangeM _|.next _|.makeMemo|.memoGet _ _ _ _|.appF _ _ _ _ _ _=>false
 | _=>true
section
variable {P:Program} {s:AS} {d:Nat} {K:AV→AS→Prop} {env':Nat→AV} {S':AA}
theorem AL{x:Opd}(h:∀t∈x.reads,env' t=s.env t):(⟨env',S'⟩:AS).ev x=s.ev x:=by
 cases x with
 | t i=>exact h i (by simp[Opd.reads])
 | c v=>rfl
theorem Fy{x:Option Opd}{n:Int}(h:∀t∈HJ x,env' t=s.env t):optI (⟨env',S'⟩:AS) n x=optI s n x:=by
 cases x with
 | none=>rfl
 | some x=>simp only[optI,AL (s:=s) (x:=x) h]
theorem Di{xs:List Opd}(h:∀t∈As xs,env' t=s.env t):(⟨env',S'⟩:AS).evs xs=s.evs xs:=by
 induction xs with
 | nil=>rfl
 | cons x xs ih =>
  simp only[AS.evs];rw[AL (fun t ht=>h t (by simp[As,ht])),ih (fun t ht=>h t (by simp[As,ht]))]
theorem Ji{xs:List Opd}(h:∀t∈As xs,env' t=s.env t):(⟨env',S'⟩:AS).caps xs=s.caps xs:=by
 induction xs with
 | nil=>rfl
 | cons x xs ih =>
  simp only[AS.caps];rw[AL (fun t ht=>h t (by simp[As,ht])),ih (fun t ht=>h t (by simp[As,ht]))]
theorem O0{ps:List (Nat×Nat×Opd)}(h:∀t∈F1 ps,env' t=s.env t):∀cs,JA (⟨env',S'⟩:AS) cs ps=JA s cs ps:=by
 induction ps with
 | nil=>intro cs;rfl
 | cons x xs ih =>
  obtain⟨off,n,x⟩:=x;intro cs;simp only[JA];rw[AL (fun t ht=>h t (by simp[F1,ht]))];simp only[ih (fun t ht=>h t (by simp[F1,ht]))]
theorem PA{xs:List Opd}(h:∀t∈As xs,env' t=s.env t):Lm (⟨env',S'⟩:AS) xs=Lm s xs:=by
 induction xs with
 | nil=>rfl
 | cons x xs ih =>
  simp only[Lm];rw[AL (fun t ht=>h t (by simp[As,ht])),ih (fun t ht=>h t (by simp[As,ht]))]
theorem Mr{w:Nat}{xs:List Opd}(h:∀t∈As xs,env' t=s.env t):HK (⟨env',S'⟩:AS) w xs=HK s w xs:=by
 induction xs with
 | nil=>rfl
 | cons x xs ih =>
  simp only[HK];rw[AL (fun t ht=>h t (by simp[As,ht]))];simp only[ih (fun t ht=>h t (by simp[As,ht]))]
theorem PJ{w:Nat}{xs:List Opd}(h:∀t∈As xs,env' t=s.env t):Ed (⟨env',s.S⟩:AS) w xs=Ed s w xs:=by
 induction xs with
 | nil=>rfl
 | cons x xs ih =>
  simp only[Ed];rw[AL (fun t ht=>h t (by simp[As,ht]))];simp only[ih (fun t ht=>h t (by simp[As,ht]))]
theorem KO{kd:Kd}(hdet:kd.det=true)(h:kd.go P d s K):∃v S1,K v ⟨s.env,S1⟩∧(kd.keepS=true→S1=s.S)∧∀env':Nat→AV,(∀t∈kd.reads,env' t=s.env t) →
  (∀K':AV→AS→Prop,K' v ⟨env',S1⟩→kd.go P d ⟨env',s.S⟩ K')∧(kd.pureS=true→∀(S':AA) (K':AV→AS→Prop),K' v ⟨env',S'⟩→kd.go P d ⟨env',S'⟩ K'):=by
 cases kd with
 | mov x=>exact⟨_,s.S,h,fun _=>rfl,fun env' he=>⟨fun K' hk=>by simp only[Kd.go,AL he];exact hk,fun _ S' K' hk=>by simp only[Kd.go,AL he];exact hk⟩⟩
 | pick c x y =>
  simp only[Kd.go]at h;split at h
  ·rename_i t e1;have ec:∀env' S',(∀t∈(Kd.pick c x y).reads,env' t=s.env t)→(⟨env',S'⟩:AS).ev c=.one (.st (.bool t))∧(⟨env',S'⟩:AS).ev x=s.ev x∧(⟨env',S'⟩:AS).ev y=s.ev y:=fun env' S' he =>
    ⟨by rw[AL (fun t ht=>he t (by simp[Kd.reads,ht]))];exact e1,AL (fun t ht=>he t (by simp[Kd.reads,ht])),AL (fun t ht=>he t (by simp[Kd.reads,ht]))⟩
   cases t with
   | true=>exact⟨_,s.S,h.1 rfl,fun _=>rfl,fun env' he=>⟨fun K' hk=>by simp only[Kd.go,ec env' _ he];exact⟨fun _=>hk,by simp⟩,fun _ S' K' hk=>by simp only[Kd.go,ec env' _ he];exact⟨fun _=>hk,by simp⟩⟩⟩
   | false=>exact⟨_,s.S,h.2 rfl,fun _=>rfl,fun env' he=>⟨fun K' hk=>by simp only[Kd.go,ec env' _ he];exact⟨by simp,fun _=>hk⟩,fun _ S' K' hk=>by simp only[Kd.go,ec env' _ he];exact⟨by simp,fun _=>hk⟩⟩⟩
  ·exact h.elim
 | alloc e z=>exact⟨_,_,h.2,by simp[Kd.keepS],fun env' he=>⟨fun K' hk=>⟨h.1,hk⟩,by simp[Kd.pureS]⟩⟩
 | box e x =>
  simp only[Kd.go]at h;split at h
  ·rename_i cs e1;exact⟨_,_,h.2,by simp[Kd.keepS],fun env' he=>⟨fun K' hk=>by simp only[Kd.go,AL he,e1];exact⟨h.1,hk⟩,by simp[Kd.pureS]⟩⟩
  ·exact h.elim
 | build z ps =>
  simp only[Kd.go]at h;split at h
  ·rename_i cs e1;exact⟨_,s.S,h,fun _=>rfl,fun env' he=>⟨fun K' hk=>by simp only[Kd.go,O0 he,e1];exact hk,fun _ S' K' hk=>by simp only[Kd.go,O0 he,e1];exact hk⟩⟩
  ·exact h.elim
 | buildSlice mu e w xs =>
  simp only[Kd.go]at h;split at h
  ·rename_i es e1;cases mu with
   | true =>
    simp only[if_true]at h;exact⟨_,_,h.2,by simp[Kd.keepS],fun env' he=>⟨fun K' hk=>by simp only[Kd.go,PJ he,e1,if_true];exact⟨h.1,hk⟩,by simp[Kd.pureS]⟩⟩
   | false =>
    simp only[Bool.false_eq_true,if_false]at h;exact⟨_,s.S,h,fun _=>rfl,fun env' he=>⟨fun K' hk=>by simp only[Kd.go,PJ he,e1,Bool.false_eq_true,if_false];exact hk,by simp[Kd.pureS]⟩⟩
  ·exact h.elim
 | load g n x =>
  simp only[Kd.go]at h;split at h
  ·rename_i cs e1;exact⟨_,s.S,h.2,fun _=>rfl,fun env' he=>⟨fun K' hk=>by simp only[Kd.go,AL he,e1];exact⟨h.1,hk⟩,by simp[Kd.pureS]⟩⟩
  ·rename_i cs e1;exact⟨_,s.S,h.2,fun _=>rfl,fun env' he=>⟨fun K' hk=>by simp only[Kd.go,AL he,e1];exact⟨h.1,hk⟩,by simp[Kd.pureS]⟩⟩
  ·rename_i id m k off e1;split at h
   ·rename_i cs e2;exact⟨_,s.S,h.2,fun _=>rfl,fun env' he=>⟨fun K' hk=>by simp only[Kd.go,AL he,e1,e2];exact⟨h.1,hk⟩,by simp[Kd.pureS]⟩⟩
   ·exact h.elim
  ·exact h.elim
 | store n x v =>
  simp only[Kd.go]at h;split at h
  ·rename_i id m k off c e1 e2;have ec:∀env' S',(∀t∈(Kd.store n x v).reads,env' t=s.env t)→(⟨env',S'⟩:AS).ev x=s.ev x∧(⟨env',S'⟩:AS).ev v=s.ev v:=fun env' S' he =>
    ⟨AL (fun t ht=>he t (by simp[Kd.reads,ht])),AL (fun t ht=>he t (by simp[Kd.reads,ht]))⟩
   split at h
   ·rename_i e cs e3;exact⟨_,_,h.2.2.2,by simp[Kd.keepS],fun env' he=>⟨fun K' hk=>by simp only[Kd.go,ec env' _ he,e1,e2,e3];exact⟨h.1,h.2.1,h.2.2.1,hk⟩,by simp[Kd.pureS]⟩⟩
   ·rename_i e cs e3;exact⟨_,_,h.2.2.2,by simp[Kd.keepS],fun env' he=>⟨fun K' hk=>by simp only[Kd.go,ec env' _ he,e1,e2,e3];exact⟨h.1,h.2.1,h.2.2.1,hk⟩,by simp[Kd.pureS]⟩⟩
   ·rename_i e w xs e3;split at h
    ·rename_i c' x1 e4 e5;exact⟨_,_,h.2.2.2,by simp[Kd.keepS],fun env' he=>⟨fun K' hk=>by simp only[Kd.go,ec env' _ he,e1,e2,e3,e4,e5];exact⟨h.1,h.2.1,h.2.2.1,hk⟩,by simp[Kd.pureS]⟩⟩
    ·exact h.elim
   ·exact h.elim
  ·exact h.elim
 | fieldAddr off x =>
  simp only[Kd.go]at h;split at h
  ·rename_i cs e1;exact⟨_,s.S,h,fun _=>rfl,fun env' he=>⟨fun K' hk=>by simp only[Kd.go,AL he,e1];exact hk,by simp[Kd.pureS]⟩⟩
  ·rename_i cs e1;exact⟨_,s.S,h,fun _=>rfl,fun env' he=>⟨fun K' hk=>by simp only[Kd.go,AL he,e1];exact hk,by simp[Kd.pureS]⟩⟩
  ·rename_i id m k o e1;split at h
   ·rename_i b e2;exact⟨_,s.S,h.2,fun _=>rfl,fun env' he=>⟨fun K' hk=>by simp only[Kd.go,AL he,e1,e2];exact⟨h.1,hk⟩,by simp[Kd.pureS]⟩⟩
   ·exact h.elim
  ·exact h.elim
 | field g off n x =>
  simp only[Kd.go]at h;split at h
  ·rename_i cs e1;exact⟨_,s.S,h.2,fun _=>rfl,fun env' he=>⟨fun K' hk=>by simp only[Kd.go,AL he,e1];exact⟨h.1,hk⟩,fun _ S' K' hk=>by simp only[Kd.go,AL he,e1];exact⟨h.1,hk⟩⟩⟩
  ·exact h.elim
 | indexAddr w x i =>
  simp only[Kd.go]at h;have ec:∀env' S',(∀t∈(Kd.indexAddr w x i).reads,env' t=s.env t)→(⟨env',S'⟩:AS).ev x=s.ev x∧(⟨env',S'⟩:AS).ev i=s.ev i:=fun env' S' he =>
   ⟨AL (fun t ht=>he t (by simp[Kd.reads,ht])),AL (fun t ht=>he t (by simp[Kd.reads,ht]))⟩
  split at h
  ·rename_i c kk n e1 e2;split at h
   ·rename_i xs;unfold C5 at h;obtain⟨h0,h⟩:=h;split at h
    ·rename_i x1 hx1;exact⟨_,s.S,h.2,fun _=>rfl,fun env' he=>⟨fun K' hk=>by simp only[Kd.go,ec env' _ he,e1,e2,C5,hx1];exact⟨h0,h.1,hk⟩,by simp[Kd.pureS]⟩⟩
    ·exact h.elim
   ·rename_i xs;unfold C5 at h;obtain⟨h0,h⟩:=h;split at h
    ·rename_i x1 hx1;exact⟨_,s.S,h.2,fun _=>rfl,fun env' he=>⟨fun K' hk=>by simp only[Kd.go,ec env' _ he,e1,e2,C5,hx1];exact⟨h0,h.1,hk⟩,by simp[Kd.pureS]⟩⟩
    ·exact h.elim
   ·rename_i id m;split at h
    ·rename_i e' w' xs hS;obtain⟨hm,hw,h⟩:=h;unfold C5 at h;obtain⟨h0,h⟩:=h;split at h
     ·rename_i x1 hx1;exact⟨_,s.S,h,fun _=>rfl,fun env' he=>⟨fun K' hk=>by simp only[Kd.go,ec env' _ he,e1,e2,hS,C5,hx1];exact⟨hm,hw,h0,hk⟩,by simp[Kd.pureS]⟩⟩
     ·exact h.elim
    ·rename_i e' w' xs hS;exact⟨_,s.S,h.2.2.2.2,fun _=>rfl,fun env' he=>⟨fun K' hk=>by simp only[Kd.go,ec env' _ he,e1,e2,hS];exact⟨h.1,h.2.1,h.2.2.1,h.2.2.2.1,hk⟩,by simp[Kd.pureS]⟩⟩
    ·rename_i e' cs hS;exact⟨_,s.S,h.2.2.2.2,fun _=>rfl,fun env' he=>⟨fun K' hk=>by simp only[Kd.go,ec env' _ he,e1,e2,hS];exact⟨h.1,h.2.1,h.2.2.1,h.2.2.2.1,hk⟩,by simp[Kd.pureS]⟩⟩
    ·exact h.elim
   ·exact h.elim
  ·exact h.elim
 | indexArr n w x i =>
  simp only[Kd.go]at h;have ec:∀env' S',(∀t∈(Kd.indexArr n w x i).reads,env' t=s.env t)→(⟨env',S'⟩:AS).ev x=s.ev x∧(⟨env',S'⟩:AS).ev i=s.ev i:=fun env' S' he =>
   ⟨AL (fun t ht=>he t (by simp[Kd.reads,ht])),AL (fun t ht=>he t (by simp[Kd.reads,ht]))⟩
  split at h
  ·rename_i cs kk k e1 e2;exact⟨_,s.S,h.2,fun _=>rfl,fun env' he=>⟨fun K' hk=>by simp only[Kd.go,ec env' _ he,e1,e2];exact⟨h.1,hk⟩,by simp[Kd.pureS]⟩⟩
  ·rename_i id m b o kk k e1 e2;split at h
   ·rename_i bl e3;exact⟨_,s.S,h.2.2,fun _=>rfl,fun env' he=>⟨fun K' hk=>by simp only[Kd.go,ec env' _ he,e1,e2,e3];exact⟨h.1,h.2.1,hk⟩,by simp[Kd.pureS]⟩⟩
   ·exact h.elim
  ·exact h.elim
 | indexStr x i =>
  simp only[Kd.go]at h;have ec:∀env' S',(∀t∈(Kd.indexStr x i).reads,env' t=s.env t)→(⟨env',S'⟩:AS).ev x=s.ev x∧(⟨env',S'⟩:AS).ev i=s.ev i:=fun env' S' he =>
   ⟨AL (fun t ht=>he t (by simp[Kd.reads,ht])),AL (fun t ht=>he t (by simp[Kd.reads,ht]))⟩
  split at h
  ·rename_i b kk n e1 e2;exact⟨_,s.S,h.2,fun _=>rfl,fun env' he=>⟨fun K' hk=>by simp only[Kd.go,ec env' _ he,e1,e2];exact⟨h.1,hk⟩,fun _ S' K' hk=>by simp only[Kd.go,ec env' _ he,e1,e2];exact⟨h.1,hk⟩⟩⟩
  ·exact h.elim
 | bin op x y =>
  simp only[Kd.go]at h;have ec:∀env' S',(∀t∈(Kd.bin op x y).reads,env' t=s.env t)→(⟨env',S'⟩:AS).ev x=s.ev x∧(⟨env',S'⟩:AS).ev y=s.ev y:=fun env' S' he =>
   ⟨AL (fun t ht=>he t (by simp[Kd.reads,ht])),AL (fun t ht=>he t (by simp[Kd.reads,ht]))⟩
  split at h
  ·rename_i k m k' n e1 e2;obtain⟨hk0,h⟩:=h;have key:∃v,K (.one (.st v)) s∧∀K2:SV→Prop,K2 v→W6 op k m n K2:=by
    cases op <;> simp only[W6]at h ⊢ <;> first|exact h.elim|exact⟨_,h.2.2,fun K2 hk=>⟨h.1,h.2.1,hk⟩⟩|exact⟨_,h.2,fun K2 hk=>⟨h.1,hk⟩⟩|exact⟨_,h,fun K2 hk=>hk⟩
   obtain⟨v,k1,k2⟩:=key;exact⟨_,s.S,k1,fun _=>rfl,fun env' he=>⟨fun K' hk=>by simp only[Kd.go,ec env' _ he,e1,e2];exact⟨hk0,k2 _ hk⟩,fun _ S' K' hk=>by simp only[Kd.go,ec env' _ he,e1,e2];exact⟨hk0,k2 _ hk⟩⟩⟩
  ·rename_i m n e1 e2;have key:∃v,K (.one (.st v)) s∧∀K2:SV→Prop,K2 v→V3 op m n K2:=by
    cases op <;> simp only[V3]at h ⊢ <;> first|exact h.elim|exact⟨_,h.2,fun K2 hk=>⟨h.1,hk⟩⟩|exact⟨_,h,fun K2 hk=>hk⟩
   obtain⟨v,k1,k2⟩:=key;exact⟨_,s.S,k1,fun _=>rfl,fun env' he=>⟨fun K' hk=>by simp only[Kd.go,ec env' _ he,e1,e2];exact k2 _ hk,fun _ S' K' hk=>by simp only[Kd.go,ec env' _ he,e1,e2];exact k2 _ hk⟩⟩
  ·exact h.elim
 | never=>exact(show False from h).elim
 | pan x=>exact(show False from h).elim
 | iface t x =>
  simp only[Kd.go]at h;split at h
  ·rename_i k n e1;exact⟨_,s.S,h,fun _=>rfl,fun env' he=>⟨fun K' hk=>by simp only[Kd.go,AL he,e1];exact hk,fun _ S' K' hk=>by simp only[Kd.go,AL he,e1];exact hk⟩⟩
  ·exact h.elim
 | strOf i x =>
  simp only[Kd.go]at h;split at h
  ·rename_i ys e1;split at h
   ·rename_i ns e2;exact⟨_,s.S,h.2,fun _=>rfl,fun env' he=>⟨fun K' hk=>by simp only[Kd.go,AL he,e1,e2];exact⟨h.1,hk⟩,fun _ S' K' hk=>by simp only[Kd.go,AL he,e1,e2];exact⟨h.1,hk⟩⟩⟩
   ·exact h.elim
  ·rename_i k n e1;exact⟨_,s.S,h,fun _=>rfl,fun env' he=>⟨fun K' hk=>by simp only[Kd.go,AL he,e1];exact hk,fun _ S' K' hk=>by simp only[Kd.go,AL he,e1];exact hk⟩⟩
  ·exact h.elim
 | eqN neg x =>
  simp only[Kd.go]at h;split at h
  ·rename_i xs e1;exact⟨_,s.S,h,fun _=>rfl,fun env' he=>⟨fun K' hk=>by simp only[Kd.go,AL he,e1];exact hk,fun _ S' K' hk=>by simp only[Kd.go,AL he,e1];exact hk⟩⟩
  ·exact h.elim
 | eqP neg x =>
  simp only[Kd.go]at h;split at h
  ·rename_i e1;exact⟨_,s.S,h,fun _=>rfl,fun env' he=>⟨fun K' hk=>by simp only[Kd.go,AL he,e1];exact hk,fun _ S' K' hk=>by simp only[Kd.go,AL he,e1];exact hk⟩⟩
  ·rename_i cs e1;exact⟨_,s.S,h,fun _=>rfl,fun env' he=>⟨fun K' hk=>by simp only[Kd.go,AL he,e1];exact hk,fun _ S' K' hk=>by simp only[Kd.go,AL he,e1];exact hk⟩⟩
  ·exact h.elim
 | bits op x y =>
  simp only[Kd.go]at h;have ec:∀env' S',(∀t∈(Kd.bits op x y).reads,env' t=s.env t)→(⟨env',S'⟩:AS).ev x=s.ev x∧(⟨env',S'⟩:AS).ev y=s.ev y:=fun env' S' he =>
   ⟨AL (fun t ht=>he t (by simp[Kd.reads,ht])),AL (fun t ht=>he t (by simp[Kd.reads,ht]))⟩
  split at h
  ·rename_i k m k' n e1 e2;have key:∃v,K (.one (.st v)) s∧∀K2:SV→Prop,K2 v→YW op k m k' n K2:=by
    cases op <;> simp only[YW]at h ⊢ <;> first|exact h.elim|exact⟨_,h.2.2,fun K2 hk=>⟨h.1,h.2.1,hk⟩⟩
   obtain⟨v,k1,k2⟩:=key;exact⟨_,s.S,k1,fun _=>rfl,fun env' he=>⟨fun K' hk=>by simp only[Kd.go,ec env' _ he,e1,e2];exact k2 _ hk,fun _ S' K' hk=>by simp only[Kd.go,ec env' _ he,e1,e2];exact k2 _ hk⟩⟩
  ·exact h.elim
 | eqE neg x =>
  simp only[Kd.go]at h;split at h
  ·rename_i e1;exact⟨_,s.S,h,fun _=>rfl,fun env' he=>⟨fun K' hk=>by simp only[Kd.go,AL he,e1];exact hk,fun _ S' K' hk=>by simp only[Kd.go,AL he,e1];exact hk⟩⟩
  ·rename_i e1;exact⟨_,s.S,h,fun _=>rfl,fun env' he=>⟨fun K' hk=>by simp only[Kd.go,AL he,e1];exact hk,fun _ S' K' hk=>by simp only[Kd.go,AL he,e1];exact hk⟩⟩
  ·exact h.elim
 | eqB neg x y =>
  simp only[Kd.go]at h;have ec:∀env' S',(∀t∈(Kd.eqB neg x y).reads,env' t=s.env t)→(⟨env',S'⟩:AS).ev x=s.ev x∧(⟨env',S'⟩:AS).ev y=s.ev y:=fun env' S' he =>
   ⟨AL (fun t ht=>he t (by simp[Kd.reads,ht])),AL (fun t ht=>he t (by simp[Kd.reads,ht]))⟩
  split at h
  ·rename_i m n e1 e2;exact⟨_,s.S,h,fun _=>rfl,fun env' he=>⟨fun K' hk=>by simp only[Kd.go,ec env' _ he,e1,e2];exact hk,fun _ S' K' hk=>by simp only[Kd.go,ec env' _ he,e1,e2];exact hk⟩⟩
  ·exact h.elim
 | un op x =>
  simp only[Kd.go]at h;split at h
  ·rename_i b e1;exact⟨_,s.S,h,fun _=>rfl,fun env' he=>⟨fun K' hk=>by simp only[Kd.go,AL he,e1];exact hk,fun _ S' K' hk=>by simp only[Kd.go,AL he,e1];exact hk⟩⟩
  ·rename_i k n e1;exact⟨_,s.S,h.2,fun _=>rfl,fun env' he=>⟨fun K' hk=>by simp only[Kd.go,AL he,e1];exact⟨h.1,hk⟩,fun _ S' K' hk=>by simp only[Kd.go,AL he,e1];exact⟨h.1,hk⟩⟩⟩
  ·exact h.elim
 | sliceS x lo hi =>
  simp only[Kd.go]at h;have ec:∀env' S',(∀t∈(Kd.sliceS x lo hi).reads,env' t=s.env t)→(⟨env',S'⟩:AS).ev x=s.ev x∧(∀n,optI (⟨env',S'⟩:AS) n lo=optI s n lo)∧(∀n,optI (⟨env',S'⟩:AS) n hi=optI s n hi):=fun env' S' he =>
   ⟨AL (fun t ht=>he t (by simp[Kd.reads,ht])),fun n=>Fy (fun t ht=>he t (by simp[Kd.reads,ht])),fun n=>Fy (fun t ht=>he t (by simp[Kd.reads,ht]))⟩
  split at h
  ·rename_i b e1;split at h
   ·rename_i l hh e2 e3;exact⟨_,s.S,h.2,fun _=>rfl,fun env' he=>⟨fun K' hk=>by simp only[Kd.go,ec env' _ he,e1,e2,e3];exact⟨h.1,hk⟩,fun _ S' K' hk=>by simp only[Kd.go,ec env' _ he,e1,e2,e3];exact⟨h.1,hk⟩⟩⟩
   ·exact h.elim
  ·exact h.elim
 | sliceL w x lo hi =>
  simp only[Kd.go]at h;have ec:∀env' S',(∀t∈(Kd.sliceL w x lo hi).reads,env' t=s.env t)→(⟨env',S'⟩:AS).ev x=s.ev x∧(∀n,optI (⟨env',S'⟩:AS) n lo=optI s n lo)∧(∀n,optI (⟨env',S'⟩:AS) n hi=optI s n hi):=fun env' S' he =>
   ⟨AL (fun t ht=>he t (by simp[Kd.reads,ht])),fun n=>Fy (fun t ht=>he t (by simp[Kd.reads,ht])),fun n=>Fy (fun t ht=>he t (by simp[Kd.reads,ht]))⟩
  split at h
  ·rename_i c e1;split at h
   ·rename_i xs e0;split at h
    ·rename_i l hh e2 e3;exact⟨_,s.S,h.2.2,fun _=>rfl,fun env' he=>⟨fun K' hk=>by simp only[Kd.go,ec env' _ he,e1,e0,e2,e3];exact⟨h.1,h.2.1,hk⟩,by simp[Kd.pureS]⟩⟩
    ·exact h.elim
   ·exact h.elim
  ·exact h.elim
 | sliceM w x hi mx =>
  simp only[Kd.go]at h;have ec:∀env' S',(∀t∈(Kd.sliceM w x hi mx).reads,env' t=s.env t)→(⟨env',S'⟩:AS).ev x=s.ev x∧(⟨env',S'⟩:AS).ev hi=s.ev hi∧(⟨env',S'⟩:AS).ev mx=s.ev mx:=fun env' S' he =>
   ⟨AL (fun t ht=>he t (by simp[Kd.reads,ht])),AL (fun t ht=>he t (by simp[Kd.reads,ht])),AL (fun t ht=>he t (by simp[Kd.reads,ht]))⟩
  split at h
  ·rename_i c e1;split at h
   ·rename_i xs e0;split at h
    ·rename_i kh hh km m e2 e3;exact⟨_,s.S,h.2.2,fun _=>rfl,fun env' he=>⟨fun K' hk=>by simp only[Kd.go,ec env' _ he,e1,e0,e2,e3];exact⟨h.1,h.2.1,hk⟩,by simp[Kd.pureS]⟩⟩
    ·exact h.elim
   ·exact h.elim
  ·exact h.elim
 | extract i x =>
  simp only[Kd.go]at h;split at h
  ·rename_i vs e1;split at h
   ·rename_i v e2;exact⟨_,s.S,h,fun _=>rfl,fun env' he=>⟨fun K' hk=>by simp only[Kd.go,AL he,e1,e2];exact hk,fun _ S' K' hk=>by simp only[Kd.go,AL he,e1,e2];exact hk⟩⟩
   ·exact h.elim
  ·exact h.elim
 | len str x =>
  simp only[Kd.go]at h;split at h
  ·rename_i c e1;split at h
   ·rename_i n e2;exact⟨_,s.S,h,fun _=>rfl,fun env' he=>⟨fun K' hk=>by simp only[Kd.go,AL he,e1,e2];exact hk,by simp[Kd.pureS]⟩⟩
   ·exact h.elim
  ·exact h.elim
 | append mu e w bytes x y =>
  simp only[Kd.go]at h;have ec:∀env' S',(∀t∈(Kd.append mu e w bytes x y).reads,env' t=s.env t)→(⟨env',S'⟩:AS).ev x=s.ev x∧(⟨env',S'⟩:AS).ev y=s.ev y:=fun env' S' he =>
   ⟨AL (fun t ht=>he t (by simp[Kd.reads,ht])),AL (fun t ht=>he t (by simp[Kd.reads,ht]))⟩
  split at h
  ·rename_i cx cy e1 e2;split at h
   ·rename_i ys e3;obtain⟨h1,h⟩:=h;split at h
    ·rename_i xs;exact⟨_,_,h.2.2.2.2.2,by simp[Kd.keepS],fun env' he=>⟨fun K' hk=>by simp only[Kd.go,ec env' _ he,e1,e2,e3];exact⟨h1,h.1,h.2.1,h.2.2.1,h.2.2.2.1,h.2.2.2.2.1,hk⟩,by simp[Kd.pureS]⟩⟩
    ·rename_i id m;split at h
     ·rename_i e' w' xs e4;exact⟨_,_,h.2.2.2,by simp[Kd.keepS],fun env' he=>⟨fun K' hk=>by simp only[Kd.go,ec env' _ he,e1,e2,e3,e4];exact⟨h1,h.1,h.2.1,h.2.2.1,hk⟩,by simp[Kd.pureS]⟩⟩
     ·rename_i e' w' xs e4;exact⟨_,_,h.2.2.2,by simp[Kd.keepS],fun env' he=>⟨fun K' hk=>by simp only[Kd.go,ec env' _ he,e1,e2,e3,e4];exact⟨h1,h.1,h.2.1,h.2.2.1,hk⟩,by simp[Kd.pureS]⟩⟩
     ·exact h.elim
    ·exact h.elim
   ·exact h.elim
  ·exact h.elim
 | call f xs =>
  simp only[Kd.go]at h;split at h
  ·rename_i vs e1;obtain⟨r,hr,hK⟩:=h;exact⟨_,s.S,hK,fun _=>rfl,fun env' he=>⟨fun K' hk=>by simp only[Kd.go,Di he,e1];exact⟨r,hr,hk⟩,by simp[Kd.pureS]⟩⟩
  ·exact h.elim
 | loadL g n x =>
  simp only[Kd.go]at h;split at h
  ·rename_i cs e1;exact⟨_,s.S,h.2,fun _=>rfl,fun env' he=>⟨fun K' hk=>by simp only[Kd.go,AL he,e1];exact⟨h.1,hk⟩,fun _ S' K' hk=>by simp only[Kd.go,AL he,e1];exact⟨h.1,hk⟩⟩⟩
  ·exact h.elim
 | fieldL off x =>
  simp only[Kd.go]at h;split at h
  ·rename_i cs e1;exact⟨_,s.S,h,fun _=>rfl,fun env' he=>⟨fun K' hk=>by simp only[Kd.go,AL he,e1];exact hk,fun _ S' K' hk=>by simp only[Kd.go,AL he,e1];exact hk⟩⟩
  ·exact h.elim
 | appF mu e w bytes x y =>
  simp only[Kd.go]at h;have ec:∀env' S',(∀t∈(Kd.appF mu e w bytes x y).reads,env' t=s.env t)→(⟨env',S'⟩:AS).ev x=s.ev x∧(⟨env',S'⟩:AS).ev y=s.ev y:=fun env' S' he =>
   ⟨AL (fun t ht=>he t (by simp[Kd.reads,ht])),AL (fun t ht=>he t (by simp[Kd.reads,ht]))⟩
  split at h
  ·rename_i xs cy e1 e2;split at h
   ·rename_i ys e3;exact⟨_,_,h.2.2.2.2.2.2,by simp[Kd.keepS],fun env' he=>⟨fun K' hk=>by simp only[Kd.go,ec env' _ he,e1,e2,e3];exact⟨h.1,h.2.1,h.2.2.1,h.2.2.2.1,h.2.2.2.2.1,h.2.2.2.2.2.1,hk⟩,by simp[Kd.pureS]⟩⟩
   ·exact h.elim
  ·exact h.elim
 | lenL str x =>
  simp only[Kd.go]at h;split at h
  ·rename_i c e1;split at h
   ·rename_i n e2;exact⟨_,s.S,h,fun _=>rfl,fun env' he=>⟨fun K' hk=>by simp only[Kd.go,AL he,e1,e2];exact hk,fun _ S' K' hk=>by simp only[Kd.go,AL he,e1,e2];exact hk⟩⟩
   ·exact h.elim
  ·exact h.elim
 | buildL w xs =>
  simp only[Kd.go]at h;split at h
  ·rename_i es e1;exact⟨_,s.S,h,fun _=>rfl,fun env' he=>⟨fun K' hk=>by simp only[Kd.go,Mr he,e1];exact hk,fun _ S' K' hk=>by simp only[Kd.go,Mr he,e1];exact hk⟩⟩
  ·exact h.elim
 | indexL w x i =>
  simp only[Kd.go]at h;have ec:∀env' S',(∀t∈(Kd.indexL w x i).reads,env' t=s.env t)→(⟨env',S'⟩:AS).ev x=s.ev x∧(⟨env',S'⟩:AS).ev i=s.ev i:=fun env' S' he =>
   ⟨AL (fun t ht=>he t (by simp[Kd.reads,ht])),AL (fun t ht=>he t (by simp[Kd.reads,ht]))⟩
  split at h
  ·rename_i xs kk n e1 e2;unfold C5 at h;obtain⟨h0,h⟩:=h;split at h
   ·rename_i x1 hx1;exact⟨_,s.S,h.2,fun _=>rfl,fun env' he=>⟨fun K' hk=>by simp only[Kd.go,ec env' _ he,e1,e2,C5,hx1];exact⟨h0,h.1,hk⟩,fun _ S' K' hk=>by simp only[Kd.go,ec env' _ he,e1,e2,C5,hx1];exact⟨h0,h.1,hk⟩⟩⟩
   ·exact h.elim
  ·rename_i xs kk n e1 e2;unfold C5 at h;obtain⟨h0,h⟩:=h;split at h
   ·rename_i x1 hx1;exact⟨_,s.S,h.2,fun _=>rfl,fun env' he=>⟨fun K' hk=>by simp only[Kd.go,ec env' _ he,e1,e2,C5,hx1];exact⟨h0,h.1,hk⟩,fun _ S' K' hk=>by simp only[Kd.go,ec env' _ he,e1,e2,C5,hx1];exact⟨h0,h.1,hk⟩⟩⟩
   ·exact h.elim
  ·exact h.elim
 | appS e x y =>
  simp only[Kd.go]at h;have ec:∀env' S',(∀t∈(Kd.appS e x y).reads,env' t=s.env t)→(⟨env',S'⟩:AS).ev x=s.ev x∧(⟨env',S'⟩:AS).ev y=s.ev y:=fun env' S' he =>
   ⟨AL (fun t ht=>he t (by simp[Kd.reads,ht])),AL (fun t ht=>he t (by simp[Kd.reads,ht]))⟩
  split at h
  ·rename_i cx b e1 e2;split at h
   ·rename_i xs;exact⟨_,_,h.2.2,by simp[Kd.keepS],fun env' he=>⟨fun K' hk=>by simp only[Kd.go,ec env' _ he,e1,e2];exact⟨h.1,h.2.1,hk⟩,by simp[Kd.pureS]⟩⟩
   ·rename_i id m;split at h
    ·rename_i e' w' xs e4;exact⟨_,_,h.2.2,by simp[Kd.keepS],fun env' he=>⟨fun K' hk=>by simp only[Kd.go,ec env' _ he,e1,e2,e4];exact⟨h.1,h.2.1,hk⟩,by simp[Kd.pureS]⟩⟩
    ·exact h.elim
   ·exact h.elim
  ·exact h.elim
 | restP w x lo =>
  simp only[Kd.go]at h;have ec:∀env' S',(∀t∈(Kd.restP w x lo).reads,env' t=s.env t)→(⟨env',S'⟩:AS).ev x=s.ev x∧(⟨env',S'⟩:AS).ev lo=s.ev lo:=fun env' S' he =>
   ⟨AL (fun t ht=>he t (by simp[Kd.reads,ht])),AL (fun t ht=>he t (by simp[Kd.reads,ht]))⟩
  split at h
  ·rename_i id m kk oo e1 e2;split at h
   ·rename_i e' w' xs e3;exact⟨_,s.S,h.2.2,fun _=>rfl,fun env' he=>⟨fun K' hk=>by simp only[Kd.go,ec env' _ he,e1,e2,e3];exact⟨h.1,h.2.1,hk⟩,by simp[Kd.pureS]⟩⟩
   ·rename_i e' w' xs e3;exact⟨_,s.S,h.2.2,fun _=>rfl,fun env' he=>⟨fun K' hk=>by simp only[Kd.go,ec env' _ he,e1,e2,e3];exact⟨h.1,h.2.1,hk⟩,by simp[Kd.pureS]⟩⟩
   ·exact h.elim
  ·exact h.elim
 | clearP e w z x =>
  simp only[Kd.go]at h;split at h
  ·rename_i id o m e1;split at h
   ·rename_i e' w' xs e3;exact⟨_,_,h.2,by simp[Kd.keepS],fun env' he=>⟨fun K' hk=>by simp only[Kd.go,AL he,e1,e3];exact⟨h.1,hk⟩,by simp[Kd.pureS]⟩⟩
   ·exact h.elim
  ·exact h.elim
 | copyP x y =>
  simp only[Kd.go]at h;have ec:∀env' S',(∀t∈(Kd.copyP x y).reads,env' t=s.env t)→(⟨env',S'⟩:AS).ev x=s.ev x∧(⟨env',S'⟩:AS).ev y=s.ev y:=fun env' S' he =>
   ⟨AL (fun t ht=>he t (by simp[Kd.reads,ht])),AL (fun t ht=>he t (by simp[Kd.reads,ht]))⟩
  split at h
  ·rename_i id o m id2 q m2 e1 e2;split at h
   ·rename_i e' w' xs e3;exact⟨_,_,h.2,by simp[Kd.keepS],fun env' he=>⟨fun K' hk=>by simp only[Kd.go,ec env' _ he,e1,e2,e3];exact⟨h.1,hk⟩,by simp[Kd.pureS]⟩⟩
   ·exact h.elim
  ·exact h.elim
 | cutP w x hi =>
  simp only[Kd.go]at h;have ec:∀env' S',(∀t∈(Kd.cutP w x hi).reads,env' t=s.env t)→(⟨env',S'⟩:AS).ev x=s.ev x∧(⟨env',S'⟩:AS).ev hi=s.ev hi:=fun env' S' he =>
   ⟨AL (fun t ht=>he t (by simp[Kd.reads,ht])),AL (fun t ht=>he t (by simp[Kd.reads,ht]))⟩
  split at h
  ·rename_i id k m kk hh e1 e2;split at h
   ·rename_i e' w' xs e3;exact⟨_,s.S,h.2.2,fun _=>rfl,fun env' he=>⟨fun K' hk=>by simp only[Kd.go,ec env' _ he,e1,e2,e3];exact⟨h.1,h.2.1,hk⟩,by simp[Kd.pureS]⟩⟩
   ·exact h.elim
  ·exact h.elim
 | indexP w x i =>
  simp only[Kd.go]at h;have ec:∀env' S',(∀t∈(Kd.indexP w x i).reads,env' t=s.env t)→(⟨env',S'⟩:AS).ev x=s.ev x∧(⟨env',S'⟩:AS).ev i=s.ev i:=fun env' S' he =>
   ⟨AL (fun t ht=>he t (by simp[Kd.reads,ht])),AL (fun t ht=>he t (by simp[Kd.reads,ht]))⟩
  split at h
  ·rename_i id k m kk hh e1 e2;split at h
   ·rename_i e' w' xs e3;exact⟨_,s.S,h.2.2,fun _=>rfl,fun env' he=>⟨fun K' hk=>by simp only[Kd.go,ec env' _ he,e1,e2,e3];exact⟨h.1,h.2.1,hk⟩,by simp[Kd.pureS]⟩⟩
   ·exact h.elim
  ·exact h.elim
 | appP e w bytes x y =>
  simp only[Kd.go]at h;have ec:∀env' S',(∀t∈(Kd.appP e w bytes x y).reads,env' t=s.env t)→(⟨env',S'⟩:AS).ev x=s.ev x∧(⟨env',S'⟩:AS).ev y=s.ev y:=fun env' S' he =>
   ⟨AL (fun t ht=>he t (by simp[Kd.reads,ht])),AL (fun t ht=>he t (by simp[Kd.reads,ht]))⟩
  split at h
  ·rename_i id k m cy e1 e2;split at h
   ·rename_i e' w' xs ys e3 e4;exact⟨_,_,h.2.2.2.2,by simp[Kd.keepS],fun env' he=>⟨fun K' hk=>by simp only[Kd.go,ec env' _ he,e1,e2,e3,e4];exact⟨h.1,h.2.1,h.2.2.1,h.2.2.2.1,hk⟩,by simp[Kd.pureS]⟩⟩
   ·exact h.elim
  ·exact h.elim
 | buildFlat xs =>
  simp only[Kd.go]at h;split at h
  ·rename_i es e1;exact⟨_,s.S,h,fun _=>rfl,fun env' he=>⟨fun K' hk=>by simp only[Kd.go,PA he,e1];exact hk,fun _ S' K' hk=>by simp only[Kd.go,PA he,e1];exact hk⟩⟩
  ·exact h.elim
 | callR f xs =>
  simp only[Kd.go]at h;obtain⟨r,rows,h0,hr,hK⟩:=h;exact⟨_,s.S,hK,fun _=>rfl,fun env' he=>⟨fun K' hk=>by simp only[Kd.go,Di he];exact⟨r,rows,h0,hr,hk⟩,by simp[Kd.pureS]⟩⟩
 | callW f xs =>
  simp only[Kd.go]at h;obtain⟨r,rows,h0,hr,hK⟩:=h;exact⟨_,_,hK,by simp[Kd.keepS],fun env' he=>⟨fun K' hk=>by simp only[Kd.go,Di he];exact⟨r,rows,h0,hr,hk⟩,by simp[Kd.pureS]⟩⟩
 | callN f xs =>
  simp only[Kd.go]at h;split at h
  ·rename_i vs e1;obtain⟨mu,e,w,ys,hr,hd,hK⟩:=h;exact⟨_,_,hK,by simp[Kd.keepS],fun env' he=>⟨fun K' hk=>by simp only[Kd.go,Di he,e1];exact⟨mu,e,w,ys,hr,hd,hk⟩,by simp[Kd.pureS]⟩⟩
  ·exact h.elim
 | makeMap kt=>exact⟨_,_,h.2,by simp[Kd.keepS],fun env' he=>⟨fun K' hk=>⟨h.1,hk⟩,by simp[Kd.pureS]⟩⟩
 | lookup kt ok z m k =>
  simp only[Kd.go]at h;have ec:∀env' S',(∀t∈(Kd.lookup kt ok z m k).reads,env' t=s.env t)→(⟨env',S'⟩:AS).ev m=s.ev m∧(⟨env',S'⟩:AS).ev k=s.ev k:=fun env' S' he =>
   ⟨AL (fun t ht=>he t (by simp[Kd.reads,ht])),AL (fun t ht=>he t (by simp[Kd.reads,ht]))⟩
  split at h
  ·rename_i id kt' es kv e1 e2;exact⟨_,s.S,h.2,fun _=>rfl,fun env' he=>⟨fun K' hk=>by simp only[Kd.go,ec env' _ he,e1,e2];exact⟨h.1,hk⟩,by simp[Kd.pureS]⟩⟩
  ·exact h.elim
 | mapSet kt m k v =>
  simp only[Kd.go]at h;have ec:∀env' S',(∀t∈(Kd.mapSet kt m k v).reads,env' t=s.env t)→(⟨env',S'⟩:AS).ev m=s.ev m∧(⟨env',S'⟩:AS).ev k=s.ev k∧(⟨env',S'⟩:AS).ev v=s.ev v:=fun env' S' he =>
   ⟨AL (fun t ht=>he t (by simp[Kd.reads,ht])),AL (fun t ht=>he t (by simp[Kd.reads,ht])),AL (fun t ht=>he t (by simp[Kd.reads,ht]))⟩
  split at h
  ·rename_i id kt' es kv v' e1 e2 e3;exact⟨_,_,h.2,by simp[Kd.keepS],fun env' he=>⟨fun K' hk=>by simp only[Kd.go,ec env' _ he,e1,e2,e3];exact⟨h.1,hk⟩,by simp[Kd.pureS]⟩⟩
  ·exact h.elim
 | mapEntry kt z m k =>
  simp only[Kd.go]at h;have ec:∀env' S',(∀t∈(Kd.mapEntry kt z m k).reads,env' t=s.env t)→(⟨env',S'⟩:AS).ev m=s.ev m∧(⟨env',S'⟩:AS).ev k=s.ev k:=fun env' S' he =>
   ⟨AL (fun t ht=>he t (by simp[Kd.reads,ht])),AL (fun t ht=>he t (by simp[Kd.reads,ht]))⟩
  split at h
  ·rename_i id kt' es kv e1 e2;exact⟨_,_,h.2.2,by simp[Kd.keepS],fun env' he=>⟨fun K' hk=>by simp only[Kd.go,ec env' _ he,e1,e2];exact⟨h.1,h.2.1,hk⟩,by simp[Kd.pureS]⟩⟩
  ·exact h.elim
 | entrySet m i v =>
  simp only[Kd.go]at h;have ec:∀env' S',(∀t∈(Kd.entrySet m i v).reads,env' t=s.env t)→(⟨env',S'⟩:AS).ev m=s.ev m∧(⟨env',S'⟩:AS).ev i=s.ev i∧(⟨env',S'⟩:AS).ev v=s.ev v:=fun env' S' he =>
   ⟨AL (fun t ht=>he t (by simp[Kd.reads,ht])),AL (fun t ht=>he t (by simp[Kd.reads,ht])),AL (fun t ht=>he t (by simp[Kd.reads,ht]))⟩
  split at h
  ·rename_i id kt es kk n v' e1 e2 e3;exact⟨_,_,h.2,by simp[Kd.keepS],fun env' he=>⟨fun K' hk=>by simp only[Kd.go,ec env' _ he,e1,e2,e3];exact⟨h.1,hk⟩,by simp[Kd.pureS]⟩⟩
  ·exact h.elim
 | rangeM m =>
  simp only[Kd.go]at h;split at h
  ·rename_i id kt es e1;exact⟨_,_,h.2,by simp[Kd.keepS],fun env' he=>⟨fun K' hk=>by simp only[Kd.go,AL he,e1];exact⟨h.1,hk⟩,by simp[Kd.pureS]⟩⟩
  ·exact h.elim
 | next x=>cases hdet
 | memoGet ok z m k=>cases hdet
 | callX f xs=>cases hdet
 | callY f xs=>cases hdet
 | buildArr caps =>
  simp only[Kd.go]at h;split at h
  ·rename_i cs e1;exact⟨_,s.S,h,fun _=>rfl,fun env' he=>⟨fun K' hk=>by simp only[Kd.go,Ji he,e1];exact hk,fun _ S' K' hk=>by simp only[Kd.go,Ji he,e1];exact hk⟩⟩
  ·exact h.elim
 | makeMemo=>exact⟨_,_,h.2,by simp[Kd.keepS],fun env' he=>⟨fun K' hk=>⟨h.1,hk⟩,by simp[Kd.pureS]⟩⟩
 | memoSet m k v =>
  simp only[Kd.go]at h;have ec:∀env' S',(∀t∈(Kd.memoSet m k v).reads,env' t=s.env t)→(⟨env',S'⟩:AS).ev m=s.ev m∧(⟨env',S'⟩:AS).ev k=s.ev k∧(⟨env',S'⟩:AS).ev v=s.ev v:=fun env' S' he =>
   ⟨AL (fun t ht=>he t (by simp[Kd.reads,ht])),AL (fun t ht=>he t (by simp[Kd.reads,ht])),AL (fun t ht=>he t (by simp[Kd.reads,ht]))⟩
  split at h
  ·rename_i id f cs ds x e1 e2 e3;exact⟨_,s.S,h.2.2,fun _=>rfl,fun env' he=>⟨fun K' hk=>by simp only[Kd.go,ec env' _ he,e1,e2,e3];exact⟨h.1,h.2.1,hk⟩,by simp[Kd.pureS]⟩⟩
  ·exact h.elim
 | lenM m =>
  simp only[Kd.go]at h;split at h
  ·rename_i id kt es e1;exact⟨_,s.S,h.2,fun _=>rfl,fun env' he=>⟨fun K' hk=>by simp only[Kd.go,AL he,e1];exact⟨h.1,hk⟩,by simp[Kd.pureS]⟩⟩
  ·exact h.elim
 | entry x =>
  simp only[Kd.go]at h;split at h
  ·rename_i id m seen kt es e1;split at h
   ·rename_i j e2;split at h
    ·rename_i y e3;split at h
     ·rename_i c e4;exact⟨_,s.S,h,fun _=>rfl,fun env' he=>⟨fun K' hk=>by simp only[Kd.go,AL he,e1,e2,e3,e4];exact hk,by simp[Kd.pureS]⟩⟩
     ·exact h.elim
    ·exact h.elim
   ·exact h.elim
  ·exact h.elim
 | conv k x =>
  simp only[Kd.go]at h;split at h
  ·rename_i k' n e1;exact⟨_,s.S,h.2,fun _=>rfl,fun env' he=>⟨fun K' hk=>by simp only[Kd.go,AL he,e1];exact⟨h.1,hk⟩,fun _ S' K' hk=>by simp only[Kd.go,AL he,e1];exact⟨h.1,hk⟩⟩⟩
  ·exact h.elim
 | nilCheck x =>
  simp only[Kd.go]at h;split at h
  ·rename_i cs e1;exact⟨_,s.S,h,fun _=>rfl,fun env' he=>⟨fun K' hk=>by simp only[Kd.go,AL he,e1];exact hk,by simp[Kd.pureS]⟩⟩
  ·rename_i cs e1;exact⟨_,s.S,h,fun _=>rfl,fun env' he=>⟨fun K' hk=>by simp only[Kd.go,AL he,e1];exact hk,by simp[Kd.pureS]⟩⟩
  ·rename_i id m k o e1;split at h
   ·rename_i b e2;exact⟨_,s.S,h.2,fun _=>rfl,fun env' he=>⟨fun K' hk=>by simp only[Kd.go,AL he,e1,e2];exact⟨h.1,hk⟩,by simp[Kd.pureS]⟩⟩
   ·exact h.elim
  ·exact h.elim
 | mm mx x y =>
  simp only[Kd.go]at h;have ec:∀env' S',(∀t∈(Kd.mm mx x y).reads,env' t=s.env t)→(⟨env',S'⟩:AS).ev x=s.ev x∧(⟨env',S'⟩:AS).ev y=s.ev y:=fun env' S' he =>
   ⟨AL (fun t ht=>he t (by simp[Kd.reads,ht])),AL (fun t ht=>he t (by simp[Kd.reads,ht]))⟩
  split at h
  ·rename_i k m k' n e1 e2;exact⟨_,s.S,h.2,fun _=>rfl,fun env' he=>⟨fun K' hk=>by simp only[Kd.go,ec env' _ he,e1,e2];exact⟨h.1,hk⟩,fun _ S' K' hk=>by simp only[Kd.go,ec env' _ he,e1,e2];exact⟨h.1,hk⟩⟩⟩
  ·exact h.elim
 | makeSlice e w bytes z x y =>
  simp only[Kd.go]at h;have ec:∀env' S',(∀t∈(Kd.makeSlice e w bytes z x y).reads,env' t=s.env t)→(⟨env',S'⟩:AS).ev x=s.ev x∧(⟨env',S'⟩:AS).ev y=s.ev y:=fun env' S' he =>
   ⟨AL (fun t ht=>he t (by simp[Kd.reads,ht])),AL (fun t ht=>he t (by simp[Kd.reads,ht]))⟩
  split at h
  ·rename_i k m k' n e1 e2;exact⟨_,_,h.2.2.2.2.2,by simp[Kd.keepS],fun env' he=>⟨fun K' hk=>by simp only[Kd.go,ec env' _ he,e1,e2];exact⟨h.1,h.2.1,h.2.2.1,h.2.2.2.1,h.2.2.2.2.1,hk⟩,by simp[Kd.pureS]⟩⟩
  ·exact h.elim
 | makeFunc g caps =>
  simp only[Kd.go]at h;split at h
  ·rename_i cs e1;exact⟨_,s.S,h,fun _=>rfl,fun env' he=>⟨fun K' hk=>by simp only[Kd.go,Ji he,e1];exact hk,fun _ S' K' hk=>by simp only[Kd.go,Ji he,e1];exact hk⟩⟩
  ·exact h.elim
 | callS f xs =>
  simp only[Kd.go]at h;obtain⟨r,S',hr,hK⟩:=h;exact⟨_,_,hK,by simp[Kd.keepS],fun env' he=>⟨fun K' hk=>by simp only[Kd.go,Di he];exact⟨r,S',hr,hk⟩,by simp[Kd.pureS]⟩⟩
 | callV f xs =>
  simp only[Kd.go]at h;split at h
  ·rename_i g caps e1;obtain⟨hp,r,S',hr,hK⟩:=h;have e2:∀env' S',(∀t∈(Kd.callV f xs).reads,env' t=s.env t)→(⟨env',S'⟩:AS).ev f=s.ev f∧(⟨env',S'⟩:AS).evs xs=s.evs xs:=fun env' S' he =>
    ⟨AL (fun t ht=>he t (by simp[Kd.reads,ht])),Di (fun t ht=>he t (by simp[Kd.reads,ht]))⟩
   exact⟨_,_,hK,by simp[Kd.keepS],fun env' he=>⟨fun K' hk=>by simp only[Kd.go,e2 env' _ he,e1];exact⟨hp,r,S',hr,hk⟩,by simp[Kd.pureS]⟩⟩
  ·exact h.elim
def GK(S S':AA):Prop:=∀id b,S id=some b→S' id=some b
theorem L6{S S':AA}(h:GK S S'){c:AC}{x:SV}(hx:stC S c=some x):stC S' c=some x:=by
 cases c with
 | row id n =>
  simp only[stC]at hx ⊢;cases hb:S id with
  | none=>rw[hb]at hx;cases hx
  | some b=>rw[hb]at hx;rw[h _ _ hb];exact hx
 | fn f caps=>cases caps <;> exact hx
 | _=>exact hx
theorem TW{S S':AA}(h:GK S S'):∀{cs:List AC} {xs:List SV},stCs S cs=some xs→stCs S' cs=some xs
 | [],xs,hx=>hx
 | c::cs,xs,hx=>by
  simp only[stCs]at hx ⊢;split at hx
  ·rename_i x xs' h1 h2;rw[L6 h h1,TW h h2];exact hx
  ·cases hx
theorem TF{S S':AA}(h:GK S S'){c:AC}{x:AC}(hx:outC S c=some x):outC S' c=some x:=by
 have key:∀c:AC,(stC S c).map AC.st=some x→(stC S' c).map AC.st=some x:=fun c hx=>by
  rw[Option.map_eq_some_iff]at hx ⊢;obtain⟨a,h1,h2⟩:=hx;exact⟨a,L6 h h1,h2⟩
 cases c with
 | fn f caps =>
  cases caps with
  | nil=>exact hx
  | cons y ys=>exact hx
 | eptr cs=>exact hx
 | ubool=>exact hx
 | _=>simp only[outC]at hx ⊢;exact key _ hx
theorem P2{S S':AA}(h:GK S S'):∀{cs:List AC} {xs:List AC},outCs S cs=some xs→outCs S' cs=some xs
 | [],xs,hx=>hx
 | c::cs,xs,hx=>by
  simp only[outCs]at hx ⊢;split at hx
  ·rename_i x xs' h1 h2;rw[TF h h1,P2 h h2];exact hx
  ·cases hx
mutual
theorem Y9{S S':AA}(h:GK S S'):∀{v x:AV},outV S v=some x→outV S' v=some x
 | .one c,x,hx=>by
  rw[outV,Option.map_eq_some_iff]at hx ⊢;obtain⟨a,h1,h2⟩:=hx;exact⟨a,TF h h1,h2⟩
 | .agg cs,x,hx=>by
  rw[outV,Option.map_eq_some_iff]at hx ⊢;obtain⟨a,h1,h2⟩:=hx;exact⟨a,P2 h h1,h2⟩
 | .tup vs,x,hx=>by
  rw[outV,Option.map_eq_some_iff]at hx ⊢;obtain⟨a,h1,h2⟩:=hx;exact⟨a,KQ h h1,h2⟩
 | .any,x,hx=>hx
theorem KQ{S S':AA}(h:GK S S'):∀{vs xs:List AV},outVs S vs=some xs→outVs S' vs=some xs
 | [],xs,hx=>hx
 | v::vs,xs,hx=>by
  rw[outVs]at hx ⊢;split at hx
  ·rename_i x xs' h1 h2;rw[Y9 h h1,KQ h h2];exact hx
  ·cases hx
end
theorem PQ{S':AA}(h:GK s.S S'){w:Nat}(env':Nat→AV):∀{xs:List Opd} {es:List (List SV)},(∀t∈As xs,env' t=s.env t)→Ed s w xs=some es→Ed (⟨env',S'⟩:AS) w xs=some es
 | [],es,_,hx=>hx
 | x::xs,es,he,hx=>by
  simp only[Ed]at hx ⊢;rw[AL (fun t ht=>he t (by simp[As,ht]))];split at hx
  ·rename_i c e1;split at hx
   ·rename_i c' es' e2 e3;rw[TW h e2,PQ h env' (fun t ht=>he t (by simp[As,ht])) e3];exact hx
   ·cases hx
  ·cases hx
theorem Ox{S S':AA}(h:GK S S'){v:AV}{x:Nat×Option KK×List (KV×AV)}(hx:Dp S v=some x):Dp S' v=some x:=by
 unfold Dp at hx ⊢;split at hx
 ·rename_i id;split at hx
  ·rename_i kt es e1;rw[h _ _ e1];exact hx
  ·cases hx
 ·cases hx
theorem UT{S S':AA}(h:GK S S'){v:AV}{x:(Nat×Nat×List Nat)×Option KK×List (KV×AV)}(hx:FW S v=some x):FW S' v=some x:=by
 unfold FW at hx ⊢;split at hx
 ·rename_i id;split at hx
  ·rename_i m n seen e1;split at hx
   ·rename_i kt es e2;simp only[h _ _ e1,h _ _ e2];exact hx
   ·cases hx
  ·cases hx
 ·cases hx
theorem Kd.det_of_keeps{kd:Kd}(h:kd.keepS=true):kd.det=true:=by cases kd <;> first|rfl|cases h
theorem Tx{S S':AA}(h:GK S S'){v:AV}{x:Nat×(List SV→List SV→SV→Prop)}(hx:FX S v=some x):FX S' v=some x:=by
 unfold FX at hx ⊢;split at hx
 ·rename_i id;split at hx
  ·rename_i f e1;rw[h _ _ e1];exact hx
  ·cases hx
 ·cases hx
theorem ABR{kd:Kd}(hk:kd.keepS=true)(h:kd.go P d s K):∃v,K v s∧∀S',GK s.S S'→∀env':Nat→AV,(∀t∈kd.reads,env' t=s.env t)→∀K':AV→AS→Prop,K' v ⟨env',S'⟩→kd.go P d ⟨env',S'⟩ K':=by
 by_cases hp:kd.pureS=true
 ·obtain⟨v,S1,h1,h2,h3⟩:=KO (Kd.det_of_keeps hk) h;have:=h2 hk;subst this;exact⟨v,h1,fun S' _ env' he K' hK=>(h3 env' he).2 hp S' K' hK⟩
 cases kd
 case buildSlice mu e w xs =>
  cases mu with
  | true=>simp[Kd.keepS]at hk
  | false =>
   simp only[Kd.go]at h;split at h
   ·rename_i es e1;simp only[Bool.false_eq_true,if_false]at h;exact⟨_,h,fun S' hs env' he K' hK=>by simp only[Kd.go,PQ hs env' he e1,Bool.false_eq_true,if_false];exact hK⟩
   ·exact h.elim
 case load g n x =>
  simp only[Kd.go]at h;split at h
  ·rename_i cs e1;exact⟨_,h.2,fun S' hs env' he K' hK=>by simp only[Kd.go,AL he,e1];exact⟨h.1,hK⟩⟩
  ·rename_i cs e1;exact⟨_,h.2,fun S' hs env' he K' hK=>by simp only[Kd.go,AL he,e1];exact⟨h.1,hK⟩⟩
  ·rename_i id m k off e1;split at h
   ·rename_i cs e2;refine⟨_,h.2,fun S' hs env' he K' hK=>?_⟩;have e3:DL S' id m k=some cs:=by
     unfold DL at e2 ⊢;cases hb:s.S id with
     | none=>rw[hb]at e2;cases e2
     | some b=>rw[hb]at e2;rw[hs _ _ hb];exact e2
    simp only[Kd.go,AL he,e1,e3];exact⟨h.1,hK⟩
   ·exact h.elim
  ·exact h.elim
 case fieldAddr off x =>
  simp only[Kd.go]at h;split at h
  ·rename_i cs e1;exact⟨_,h,fun S' hs env' he K' hK=>by simp only[Kd.go,AL he,e1];exact hK⟩
  ·rename_i cs e1;exact⟨_,h,fun S' hs env' he K' hK=>by simp only[Kd.go,AL he,e1];exact hK⟩
  ·rename_i id m k o e1;split at h
   ·rename_i b e2;exact⟨_,h.2,fun S' hs env' he K' hK=>by simp only[Kd.go,AL he,e1,hs _ _ e2];exact⟨h.1,hK⟩⟩
   ·exact h.elim
  ·exact h.elim
 case indexArr n w x i =>
  simp only[Kd.go]at h;have ec:∀env' S',(∀t∈(Kd.indexArr n w x i).reads,env' t=s.env t)→(⟨env',S'⟩:AS).ev x=s.ev x∧(⟨env',S'⟩:AS).ev i=s.ev i:=fun env' S' he =>
   ⟨AL (fun t ht=>he t (by simp[Kd.reads,ht])),AL (fun t ht=>he t (by simp[Kd.reads,ht]))⟩
  split at h
  ·rename_i cs kk k e1 e2;exact⟨_,h.2,fun S' hs env' he K' hK=>by simp only[Kd.go,ec env' _ he,e1,e2];exact⟨h.1,hK⟩⟩
  ·rename_i id m b o kk k e1 e2;split at h
   ·rename_i bl e3;exact⟨_,h.2.2,fun S' hs env' he K' hK=>by simp only[Kd.go,ec env' _ he,e1,e2,hs _ _ e3];exact⟨h.1,h.2.1,hK⟩⟩
   ·exact h.elim
  ·exact h.elim
 case indexAddr w x i =>
  simp only[Kd.go]at h;have ec:∀env' S',(∀t∈(Kd.indexAddr w x i).reads,env' t=s.env t)→(⟨env',S'⟩:AS).ev x=s.ev x∧(⟨env',S'⟩:AS).ev i=s.ev i:=fun env' S' he =>
   ⟨AL (fun t ht=>he t (by simp[Kd.reads,ht])),AL (fun t ht=>he t (by simp[Kd.reads,ht]))⟩
  split at h
  ·rename_i c kk n e1 e2;split at h
   ·rename_i xs;unfold C5 at h;obtain⟨h0,h⟩:=h;split at h
    ·rename_i x1 hx1;exact⟨_,h.2,fun S' hs env' he K' hK=>by simp only[Kd.go,ec env' _ he,e1,e2,C5,hx1];exact⟨h0,h.1,hK⟩⟩
    ·exact h.elim
   ·rename_i xs;unfold C5 at h;obtain⟨h0,h⟩:=h;split at h
    ·rename_i x1 hx1;exact⟨_,h.2,fun S' hs env' he K' hK=>by simp only[Kd.go,ec env' _ he,e1,e2,C5,hx1];exact⟨h0,h.1,hK⟩⟩
    ·exact h.elim
   ·rename_i id m;split at h
    ·rename_i e' w' xs hS;obtain⟨hm,hw,h⟩:=h;unfold C5 at h;obtain⟨h0,h⟩:=h;split at h
     ·rename_i x1 hx1;exact⟨_,h,fun S' hs env' he K' hK=>by simp only[Kd.go,ec env' _ he,e1,e2,hs _ _ hS,C5,hx1];exact⟨hm,hw,h0,hK⟩⟩
     ·exact h.elim
    ·rename_i e' w' xs hS;exact⟨_,h.2.2.2.2,fun S' hs env' he K' hK=>by simp only[Kd.go,ec env' _ he,e1,e2,hs _ _ hS];exact⟨h.1,h.2.1,h.2.2.1,h.2.2.2.1,hK⟩⟩
    ·rename_i e' cs hS;exact⟨_,h.2.2.2.2,fun S' hs env' he K' hK=>by simp only[Kd.go,ec env' _ he,e1,e2,hs _ _ hS];exact⟨h.1,h.2.1,h.2.2.1,h.2.2.2.1,hK⟩⟩
    ·exact h.elim
   ·exact h.elim
  ·exact h.elim
 case sliceL w x lo hi =>
  simp only[Kd.go]at h;have ec:∀env' S',(∀t∈(Kd.sliceL w x lo hi).reads,env' t=s.env t)→(⟨env',S'⟩:AS).ev x=s.ev x∧(∀n,optI (⟨env',S'⟩:AS) n lo=optI s n lo)∧(∀n,optI (⟨env',S'⟩:AS) n hi=optI s n hi):=fun env' S' he =>
   ⟨AL (fun t ht=>he t (by simp[Kd.reads,ht])),fun n=>Fy (fun t ht=>he t (by simp[Kd.reads,ht])),fun n=>Fy (fun t ht=>he t (by simp[Kd.reads,ht]))⟩
  split at h
  ·rename_i c e1;split at h
   ·rename_i xs e0;split at h
    ·rename_i l hh e2 e3;exact⟨_,h.2.2,fun S' hs env' he K' hK=>by simp only[Kd.go,ec env' _ he,e1,L6 hs e0,e2,e3];exact⟨h.1,h.2.1,hK⟩⟩
    ·exact h.elim
   ·exact h.elim
  ·exact h.elim
 case sliceM w x hi mx =>
  simp only[Kd.go]at h;have ec:∀env' S',(∀t∈(Kd.sliceM w x hi mx).reads,env' t=s.env t)→(⟨env',S'⟩:AS).ev x=s.ev x∧(⟨env',S'⟩:AS).ev hi=s.ev hi∧(⟨env',S'⟩:AS).ev mx=s.ev mx:=fun env' S' he =>
   ⟨AL (fun t ht=>he t (by simp[Kd.reads,ht])),AL (fun t ht=>he t (by simp[Kd.reads,ht])),AL (fun t ht=>he t (by simp[Kd.reads,ht]))⟩
  split at h
  ·rename_i c e1;split at h
   ·rename_i xs e0;split at h
    ·rename_i kh hh km m e2 e3;exact⟨_,h.2.2,fun S' hs env' he K' hK=>by simp only[Kd.go,ec env' _ he,e1,L6 hs e0,e2,e3];exact⟨h.1,h.2.1,hK⟩⟩
    ·exact h.elim
   ·exact h.elim
  ·exact h.elim
 case len str x =>
  simp only[Kd.go]at h;split at h
  ·rename_i c e1;split at h
   ·rename_i n e2;refine⟨_,h,fun S' hs env' he K' hK=>?_⟩;have e3:FS S' str c=some n:=by
     unfold FS at e2 ⊢;split at e2 <;> try exact e2
     all_goals
      first|(rename_i id k m;cases hb:s.S id with
       | none=>rw[hb]at e2;cases e2
       | some b=>rw[hb]at e2;simp only[hs _ _ hb];exact e2)|(rename_i id m;cases hb:s.S id with
       | none=>rw[hb]at e2;cases e2
       | some b=>rw[hb]at e2;simp only[hs _ _ hb];exact e2)
    simp only[Kd.go,AL he,e1,e3];exact hK
   ·exact h.elim
  ·exact h.elim
 case restP w x lo =>
  simp only[Kd.go]at h;have ec:∀env' S',(∀t∈(Kd.restP w x lo).reads,env' t=s.env t)→(⟨env',S'⟩:AS).ev x=s.ev x∧(⟨env',S'⟩:AS).ev lo=s.ev lo:=fun env' S' he =>
   ⟨AL (fun t ht=>he t (by simp[Kd.reads,ht])),AL (fun t ht=>he t (by simp[Kd.reads,ht]))⟩
  split at h
  ·rename_i id m kk oo e1 e2;split at h
   ·rename_i e' w' xs e3;exact⟨_,h.2.2,fun S' hs env' he K' hK=>by simp only[Kd.go,ec env' _ he,e1,e2,hs _ _ e3];exact⟨h.1,h.2.1,hK⟩⟩
   ·rename_i e' w' xs e3;exact⟨_,h.2.2,fun S' hs env' he K' hK=>by simp only[Kd.go,ec env' _ he,e1,e2,hs _ _ e3];exact⟨h.1,h.2.1,hK⟩⟩
   ·exact h.elim
  ·exact h.elim
 case cutP w x hi =>
  simp only[Kd.go]at h;have ec:∀env' S',(∀t∈(Kd.cutP w x hi).reads,env' t=s.env t)→(⟨env',S'⟩:AS).ev x=s.ev x∧(⟨env',S'⟩:AS).ev hi=s.ev hi:=fun env' S' he =>
   ⟨AL (fun t ht=>he t (by simp[Kd.reads,ht])),AL (fun t ht=>he t (by simp[Kd.reads,ht]))⟩
  split at h
  ·rename_i id k m kk hh e1 e2;split at h
   ·rename_i e' w' xs e3;exact⟨_,h.2.2,fun S' hs env' he K' hK=>by simp only[Kd.go,ec env' _ he,e1,e2,hs _ _ e3];exact⟨h.1,h.2.1,hK⟩⟩
   ·exact h.elim
  ·exact h.elim
 case indexP w x i =>
  simp only[Kd.go]at h;have ec:∀env' S',(∀t∈(Kd.indexP w x i).reads,env' t=s.env t)→(⟨env',S'⟩:AS).ev x=s.ev x∧(⟨env',S'⟩:AS).ev i=s.ev i:=fun env' S' he =>
   ⟨AL (fun t ht=>he t (by simp[Kd.reads,ht])),AL (fun t ht=>he t (by simp[Kd.reads,ht]))⟩
  split at h
  ·rename_i id k m kk hh e1 e2;split at h
   ·rename_i e' w' xs e3;exact⟨_,h.2.2,fun S' hs env' he K' hK=>by simp only[Kd.go,ec env' _ he,e1,e2,hs _ _ e3];exact⟨h.1,h.2.1,hK⟩⟩
   ·exact h.elim
  ·exact h.elim
 case lookup kt ok z m k =>
  simp only[Kd.go]at h;have ec:∀env' S',(∀t∈(Kd.lookup kt ok z m k).reads,env' t=s.env t)→(⟨env',S'⟩:AS).ev m=s.ev m∧(⟨env',S'⟩:AS).ev k=s.ev k:=fun env' S' he =>
   ⟨AL (fun t ht=>he t (by simp[Kd.reads,ht])),AL (fun t ht=>he t (by simp[Kd.reads,ht]))⟩
  split at h
  ·rename_i id kt' es kv e1 e2;exact⟨_,h.2,fun S' hs env' he K' hK=>by simp only[Kd.go,ec env' _ he,Ox hs e1,e2];exact⟨h.1,hK⟩⟩
  ·exact h.elim
 case memoSet m k v =>
  simp only[Kd.go]at h;have ec:∀env' S',(∀t∈(Kd.memoSet m k v).reads,env' t=s.env t)→(⟨env',S'⟩:AS).ev m=s.ev m∧(⟨env',S'⟩:AS).ev k=s.ev k∧(⟨env',S'⟩:AS).ev v=s.ev v:=fun env' S' he =>
   ⟨AL (fun t ht=>he t (by simp[Kd.reads,ht])),AL (fun t ht=>he t (by simp[Kd.reads,ht])),AL (fun t ht=>he t (by simp[Kd.reads,ht]))⟩
  split at h
  ·rename_i id f cs ds x e1 e2 e3;exact⟨_,h.2.2,fun S' hs env' he K' hK=>by simp only[Kd.go,ec env' _ he,Tx hs e1,e2,e3];exact⟨h.1,h.2.1,hK⟩⟩
  ·exact h.elim
 case lenM m =>
  simp only[Kd.go]at h;split at h
  ·rename_i id kt es e1;exact⟨_,h.2,fun S' hs env' he K' hK=>by simp only[Kd.go,AL he,Ox hs e1];exact⟨h.1,hK⟩⟩
  ·exact h.elim
 case entry x =>
  simp only[Kd.go]at h;split at h
  ·rename_i id m seen kt es e1;split at h
   ·rename_i j e2;split at h
    ·rename_i y e3;split at h
     ·rename_i c e4;exact⟨_,h,fun S' hs env' he K' hK=>by simp only[Kd.go,AL he,UT hs e1,e2,e3,e4];exact hK⟩
     ·exact h.elim
    ·exact h.elim
   ·exact h.elim
  ·exact h.elim
 case call f xs =>
  simp only[Kd.go]at h;split at h
  ·rename_i vs e1;obtain⟨r,hr,hK⟩:=h;exact⟨_,hK,fun S' hs env' he K' hK'=>by simp only[Kd.go,Di he,KQ hs e1];exact⟨r,hr,hK'⟩⟩
  ·exact h.elim
 case callR f xs =>
  simp only[Kd.go]at h;obtain⟨r,rows,h0,hr,hK⟩:=h;exact⟨_,hK,fun S' hs env' he K' hK'=>by simp only[Kd.go,Di he];exact⟨r,rows,fun q hq=>hs _ _ (h0 q hq),hr,hK'⟩⟩
 case nilCheck x =>
  simp only[Kd.go]at h;split at h
  ·rename_i cs e1;exact⟨_,h,fun S' hs env' he K' hK=>by simp only[Kd.go,AL he,e1];exact hK⟩
  ·rename_i cs e1;exact⟨_,h,fun S' hs env' he K' hK=>by simp only[Kd.go,AL he,e1];exact hK⟩
  ·rename_i id m k o e1;split at h
   ·rename_i b e2;exact⟨_,h.2,fun S' hs env' he K' hK=>by simp only[Kd.go,AL he,e1,hs _ _ e2];exact⟨h.1,hK⟩⟩
   ·exact h.elim
  ·exact h.elim
 all_goals first|exact absurd rfl hp|cases hk
def Kd.freshS:Kd→Bool
 | .alloc _ _|.box _ _|.buildSlice true _ _ _|.makeSlice _ _ _ _ _ _|.callN _ _|.makeMap _|.rangeM _|.makeMemo|.appF _ _ _ _ _ _=>true
 | _=>false
theorem Dm{S:AA}{d:Nat}{b:AJ}(h:S d=none):GK S (AI S d (some b)):=fun id b' hb=>by
 rw[AH _ (fun e=>by subst e;rw[h]at hb;cases hb),hb]
theorem Y4{kd:Kd}(hf:kd.freshS=true)(h:kd.go P d s K):kd.go P d s fun v s'=>K v s'∧GK s.S s'.S:=by
 cases kd
 case alloc e z=>exact⟨h.1,h.2,Dm h.1⟩
 case box e x =>
  simp only[Kd.go]at h ⊢;split at h
  ·rename_i cs e1;exact⟨h.1,h.2,Dm h.1⟩
  ·exact h.elim
 case buildSlice mu e w xs =>
  cases mu with
  | false=>cases hf
  | true =>
   simp only[Kd.go,if_true]at h ⊢;split at h
   ·rename_i es e1;exact⟨h.1,h.2,Dm h.1⟩
   ·exact h.elim
 case makeSlice e w bytes z x y =>
  simp only[Kd.go]at h ⊢;split at h
  ·exact⟨h.1,h.2.1,h.2.2.1,h.2.2.2.1,h.2.2.2.2.1,h.2.2.2.2.2,Dm h.2.2.2.2.1⟩
  ·exact h.elim
 case callN f xs =>
  simp only[Kd.go]at h ⊢;split at h
  ·rename_i vs e1;obtain⟨mu,e,w,ys,hr,hd,hK⟩:=h;exact⟨mu,e,w,ys,hr,hd,hK,Dm hd⟩
  ·exact h.elim
 case appF mu e w bytes x y =>
  simp only[Kd.go]at h ⊢;split at h
  ·split at h
   ·exact⟨h.1,h.2.1,h.2.2.1,h.2.2.2.1,h.2.2.2.2.1,h.2.2.2.2.2.1,h.2.2.2.2.2.2,Dm h.1⟩
   ·exact h.elim
  ·exact h.elim
 case makeMap kt=>exact⟨h.1,h.2,Dm h.1⟩
 case makeMemo=>exact⟨h.1,h.2,Dm h.1⟩
 case rangeM m =>
  simp only[Kd.go]at h ⊢;split at h
  ·exact⟨h.1,h.2,Dm h.1⟩
  ·exact h.elim
 all_goals cases hf
end

def Ins.go(P:Program)(i:Ins)(s:AS)(K:AS→Prop):Prop:=match i.guard with
 | none=>i.kd.goT P (i.dst.getD 0) s i.tag fun v s'=>K (s'.put i.dst v)
 | some (g,want)=>match s.env g with
  | .one (.st (.bool b))=>(b=want→i.kd.goT P (i.dst.getD 0) s i.tag fun v s'=>K (s'.put i.dst v))∧(¬b=want→K (s.put i.dst (.tup [])))
  | .tup []=>K (s.put i.dst (.tup []))
  | _=>False
theorem Sf(P:Program)(i:Ins)(l:List Ins)(s:AS)(K:AS→Prop):Run P (i::l) s K=i.go P s fun s'=>Run P l s' K:=rfl
def Ins.reads(i:Ins):List Nat:=(match i.guard with|none=>[]|some (g,_)=>[g])++i.kd.reads
def Tag.isNone:Tag→Bool
 | .no=>true
 | _=>false
def Kd.readsAt:Kd→Bool
 | .load _ _ _|.fieldAddr _ _|.nilCheck _|.indexAddr _ _ _=>true
 | _=>false
def Kd.isStore:Kd→Bool
 | .store _ _ _=>true
 | _=>false
def Ins.leaves(a:Nat)(i:Ins):Bool:=match i.tag with
 | .keeps ks=>ks.contains a
 | .onb b=>i.kd.isStore&&!(a==b)
 | .no=>false
def Ins.apart(x y:Ins):Bool:=match x.tag with
 | .onb a=>x.kd.readsAt&&y.leaves a
 | _=>false
def Ins.makes(x y:Ins):Bool:=(match x with|⟨some d,none,.alloc _ _,.no⟩=>!y.kd.reads.contains d&&!(y.dst==some d)|_=>false)&&(match y with|⟨some _,none,.append _ _ _ _ _ _,_⟩=>true|⟨some _,none,.callN _ _,.no⟩=>true|_=>false)
def Ins.looks(x y:Ins):Bool:=(match x.kd with|.indexAddr _ _ _=>true|_=>false)&&x.tag.isNone&&y.kd.isStore
def Ins.beside(x y:Ins):Bool:=match x,y with
 | ⟨none,none,.store _ _ _,.onb a⟩,⟨none,none,.store _ _ _,.onb b⟩=>!(a==b)
 | _,_=>false
def Ins.frames(x y:Ins):Bool:=match x,y with
 | ⟨some c,none,.callW _ xs,.no⟩,⟨some d,none,.alloc _ _,.no⟩=>!(As xs).contains d&&!(c==d)
 | _,_=>false
def Ins.rooms(x y:Ins):Bool:=match x,y with
 | ⟨some c,none,.makeSlice _ _ _ _ (.c _) (.c _),.no⟩,⟨some d,none,.makeSlice _ _ _ _ (.c _) (.c _),.no⟩=>!(c==d)
 | ⟨some c,none,.alloc _ _,.no⟩,⟨some d,none,.alloc _ _,.no⟩=>!(c==d)
 | _,_=>false
def Ins.indep(x y:Ins):Bool :=
 (x.kd.det&&y.kd.det)&&(match x.dst with|none=>true|some d=>!y.reads.contains d&&!(y.dst==some d))&&(match y.dst with|none=>true|some d=>!x.reads.contains d) &&
 ((x.kd.keepS&&y.kd.keepS)||(x.kd.pureS&&x.tag.isNone)||(y.kd.pureS&&y.tag.isNone)||(x.kd.keepS&&y.kd.freshS)||x.apart y||y.apart x||x.makes y||y.makes x||x.looks y||y.looks x||x.beside y||x.frames y||x.rooms y)
section
variable {P:Program} {s:AS} {K:AS→Prop}
theorem KC{kd:Kd}{x:Opd}(h:kd.ptrOpd=some x):∀t∈x.reads,t∈kd.reads:=by
 cases kd <;> simp only[Kd.ptrOpd,Option.some.injEq,reduceCtorEq]at h <;> subst h <;> intro t ht <;> simp[Kd.reads,ht]
theorem AAb{t:Tag}{kd:Kd}{env' env2:Nat→AV}{S1:AA}(h:t.ok kd s ⟨env2,S1⟩)(he:∀t∈kd.reads,env' t=s.env t):t.ok kd ⟨env',s.S⟩ ⟨env',S1⟩:=by
 cases t with
 | no=>trivial
 | keeps ks=>exact h
 | onb id =>
  simp only[Tag.ok]at h ⊢;split at h
  ·rename_i x hx;rw[AL (s:=s) (fun t ht=>he t (KC hx t ht))];exact h
  ·exact h.elim
theorem Vk{t:Tag}{kd:Kd}{env':Nat→AV}{S':AA}{s2:AS}(h:t.ok kd s s2)(he:∀t∈kd.reads,env' t=s.env t):t.ok kd ⟨env',S'⟩ ⟨env',S'⟩:=by
 cases t with
 | no=>trivial
 | keeps ks=>exact fun _ _=>rfl
 | onb id =>
  simp only[Tag.ok]at h ⊢;split at h
  ·rename_i x hx;rw[AL (s:=s) (fun t ht=>he t (KC hx t ht))];exact h
  ·exact h.elim
theorem go_mono{kd:Kd}{d:Nat}{K K':AV→AS→Prop}(h:kd.go P d s K)(hk:∀v s',K v s'→K' v s'):kd.go P d s K':=by
 by_cases hdet:kd.det=true
 ·obtain⟨v,S1,h1,h2,h3⟩:=KO hdet h;exact(h3 s.env (fun _ _=>rfl)).1 _ (hk _ _ h1)
 ·cases kd
  case next x =>
   simp only[Kd.go]at h ⊢;split at h
   ·exact⟨fun hj=>hk _ _ (h.1 hj),fun j x c h1 h2 h3=>hk _ _ (h.2 j x c h1 h2 h3)⟩
   ·exact h.elim
  case memoGet ok z m k =>
   simp only[Kd.go]at h ⊢;split at h
   ·exact⟨h.1,hk _ _ h.2.1,fun cs' ds' x h1 h2 h3=>hk _ _ (h.2.2 cs' ds' x h1 h2 h3)⟩
   ·exact h.elim
  case callX f xs =>
   obtain⟨T,Post,h1,h2,h3,h4,h5⟩:=h;exact⟨T,Post,h1,h2,h3,h4,fun r S' k1 k2=>hk _ _ (h5 r S' k1 k2)⟩
  case callY f xs =>
   obtain⟨T,Post,h1,h2,h3,h4,h5⟩:=h;exact⟨T,Post,h1,h2,h3,h4,fun r S' k1 k2=>hk _ _ (h5 r S' k1 k2)⟩
  all_goals exact absurd rfl hdet
theorem ME{kd:Kd}(hdet:kd.det=true){d:Nat}{t:Tag}{K:AV→AS→Prop}(h:kd.goT P d s t K):∃v S1,K v ⟨s.env,S1⟩∧t.ok kd s ⟨s.env,S1⟩∧(kd.keepS=true→S1=s.S)∧∀env':Nat→AV,(∀t∈kd.reads,env' t=s.env t) →
  (∀K':AV→AS→Prop,K' v ⟨env',S1⟩→kd.goT P d ⟨env',s.S⟩ t K')∧(kd.pureS=true→t.isNone=true→∀(S':AA) (K':AV→AS→Prop),K' v ⟨env',S'⟩→kd.goT P d ⟨env',S'⟩ t K'):=by
 obtain⟨v,S1,⟨h0,h1⟩,h2,h3⟩:=KO hdet h;refine⟨v,S1,h1,h0,h2,fun env' he=>⟨fun K' hk=>?_,fun hp ht S' K' hk=>?_⟩⟩
 ·exact(h3 env' he).1 _ ⟨AAb h0 he,hk⟩
 ·cases t with
  | no=>exact(h3 env' he).2 hp S' _ ⟨trivial,hk⟩
  | onb id=>cases ht
  | keeps ks=>cases ht
theorem Fh{kd:Kd}{d:Nat}{t:Tag}{K K':AV→AS→Prop}(h:kd.goT P d s t K)(hk:∀v s',t.ok kd s s'→K v s'→K' v s'):kd.goT P d s t K':=by
 exact go_mono h fun v s' hv=>⟨hv.1,hk v s' hv.1 hv.2⟩
theorem ABQ{kd:Kd}{d:Nat}{t:Tag}{K:AV→AS→Prop}(h:kd.goT P d s t K):kd.go P d s K:=by
 exact go_mono h fun v s' hv=>hv.2
theorem Jn{i:Ins}(hdet:i.kd.det=true)(h:i.go P s K):∃v S1,K ((⟨s.env,S1⟩:AS).put i.dst v)∧(i.kd.keepS=true→S1=s.S)∧∀env':Nat→AV,(∀t∈i.reads,env' t=s.env t) →
  (∀K':AS→Prop,K' ((⟨env',S1⟩:AS).put i.dst v)→i.go P ⟨env',s.S⟩ K')∧(i.kd.pureS=true→i.tag.isNone=true→∀(S':AA) (K':AS→Prop),K' ((⟨env',S'⟩:AS).put i.dst v)→i.go P ⟨env',S'⟩ K'):=by
 obtain⟨dst,guard,kd,tag⟩:=i;unfold Ins.go at h;dsimp only at h
 cases guard with
 | none =>
  dsimp only at h
  obtain⟨v,S1,h1,_,h2,h3⟩:=ME hdet h;refine⟨v,S1,h1,h2,fun env' he=>?_⟩;obtain⟨k1,k2⟩:=h3 env' (fun t ht=>he t (by simp[Ins.reads,ht]));exact⟨fun K' hk=>by unfold Ins.go;exact k1 _ hk,fun hp ht S' K' hk=>by unfold Ins.go;exact k2 hp ht S' _ hk⟩
 | some gw =>
  obtain⟨g,want⟩:=gw;dsimp only at h
  have eg:∀env':Nat→AV,(∀t∈(Ins.mk dst (some (g,want)) kd tag).reads,env' t=s.env t)→env' g=s.env g:=fun env' he=>he g (by simp[Ins.reads]);split at h
  ·rename_i b e1;by_cases hb:b=want
   ·obtain⟨v,S1,h1,_,h2,h3⟩:=ME hdet (h.1 hb);refine⟨v,S1,h1,h2,fun env' he=>?_⟩;obtain⟨k1,k2⟩:=h3 env' (fun t ht=>he t (by simp[Ins.reads,ht]));have e2:=(eg env' he).trans e1;exact⟨fun K' hk=>by unfold Ins.go;simp only[e2];exact⟨fun _=>k1 _ hk,fun hn=>absurd hb hn⟩,fun hp ht S' K' hk=>by unfold Ins.go;simp only[e2];exact⟨fun _=>k2 hp ht S' _ hk,fun hn=>absurd hb hn⟩⟩
   ·refine⟨.tup [],s.S,h.2 hb,fun _=>rfl,fun env' he=>?_⟩;have e2:=(eg env' he).trans e1;exact⟨fun K' hk=>by unfold Ins.go;simp only[e2];exact⟨fun h=>absurd h hb,fun _=>hk⟩,fun hp ht S' K' hk=>by unfold Ins.go;simp only[e2];exact⟨fun h=>absurd h hb,fun _=>hk⟩⟩
  ·rename_i e1;refine⟨.tup [],s.S,h,fun _=>rfl,fun env' he=>?_⟩;have e2:=(eg env' he).trans e1;exact⟨fun K' hk=>by unfold Ins.go;simp only[e2];exact hk,fun hp ht S' K' hk=>by unfold Ins.go;simp only[e2];exact hk⟩
  ·exact h.elim
theorem AAU{kd:Kd}{d:Nat}{t:Tag}{K:AV→AS→Prop}(hk:kd.keepS=true)(h:kd.goT P d s t K):∃v,K v s∧∀S',GK s.S S'→∀env':Nat→AV,(∀t∈kd.reads,env' t=s.env t)→∀K':AV→AS→Prop,K' v ⟨env',S'⟩→kd.goT P d ⟨env',S'⟩ t K':=by
 obtain⟨v,⟨h0,h1⟩,h2⟩:=ABR hk h;exact⟨v,h1,fun S' hs env' he K' hK=>h2 S' hs env' he _ ⟨Vk h0 he,hK⟩⟩
theorem AAy{kd:Kd}{d a:Nat}{x:Opd}{K:AV→AS→Prop}(hr:kd.readsAt=true)(hx:kd.ptrOpd=some x)(hp:HX a (s.ev x))(h:kd.go P d s K):∃v,K v s∧∀S',S' a=s.S a→∀env':Nat→AV,(∀t∈kd.reads,env' t=s.env t)→∀K':AV→AS→Prop,K' v ⟨env',S'⟩→kd.go P d ⟨env',S'⟩ K':=by
 cases kd
 case load g n y =>
  simp only[Kd.ptrOpd,Option.some.injEq]at hx;subst hx;simp only[Kd.go]at h;split at h
  ·rename_i cs e1;rw[e1]at hp;exact hp.elim
  ·rename_i cs e1;rw[e1]at hp;exact hp.elim
  ·rename_i id m k off e1;rw[e1]at hp;have hp:id=a:=hp;subst hp;split at h
   ·rename_i cs e2;refine⟨_,h.2,fun S' hs env' he K' hK=>?_⟩;have e3:DL S' id m k=some cs:=by
     unfold DL at e2 ⊢;rw[hs];exact e2
    simp only[Kd.go,AL he,e1,e3];exact⟨h.1,hK⟩
   ·exact h.elim
  ·exact h.elim
 case fieldAddr off y =>
  simp only[Kd.ptrOpd,Option.some.injEq]at hx;subst hx;simp only[Kd.go]at h;split at h
  ·rename_i cs e1;rw[e1]at hp;exact hp.elim
  ·rename_i cs e1;rw[e1]at hp;exact hp.elim
  ·rename_i id m k o e1;rw[e1]at hp;have hp:id=a:=hp;subst hp;split at h
   ·rename_i b e2;refine⟨_,h.2,fun S' hs env' he K' hK=>?_⟩;rw[←hs]at e2;simp only[Kd.go,AL he,e1,e2];exact⟨h.1,hK⟩
   ·exact h.elim
  ·exact h.elim
 case indexAddr w y i =>
  simp only[Kd.ptrOpd,Option.some.injEq]at hx;subst hx;simp only[Kd.go]at h;split at h
  ·rename_i c k n e1 e2;rw[e1]at hp;have ec:∀(env':Nat→AV) (S':AA),(∀t∈(Kd.indexAddr w y i).reads,env' t=s.env t)→(⟨env',S'⟩:AS).ev y=s.ev y∧(⟨env',S'⟩:AS).ev i=s.ev i:=fun env' S' he =>
    ⟨AL fun t ht=>he t (by simp[Kd.reads,ht]),AL fun t ht=>he t (by simp[Kd.reads,ht])⟩
   split at h
   ·exact hp.elim
   ·exact hp.elim
   ·rename_i id m;have hp:id=a:=hp;subst hp;split at h
    ·rename_i e w' xs e3;obtain⟨h1,h2,h3⟩:=h;have h3':=h3;unfold C5 at h3;obtain⟨h4,h5⟩:=h3;split at h5
     ·rename_i x hx;refine⟨_,h5,fun S' hs env' he K' hK=>?_⟩;rw[←hs]at e3;simp only[Kd.go,(ec env' S' he).1,(ec env' S' he).2,e1,e2,e3,C5,hx];exact⟨h1,h2,h4,hK⟩
     ·exact h5.elim
    ·rename_i e w' xs e3;obtain⟨h1,h2,h3,h4,h5⟩:=h;refine⟨_,h5,fun S' hs env' he K' hK=>?_⟩;rw[←hs]at e3;simp only[Kd.go,(ec env' S' he).1,(ec env' S' he).2,e1,e2,e3];exact⟨h1,h2,h3,h4,hK⟩
    ·rename_i e cs e3;obtain⟨h1,h2,h3,h4,h5⟩:=h;refine⟨_,h5,fun S' hs env' he K' hK=>?_⟩;rw[←hs]at e3;simp only[Kd.go,(ec env' S' he).1,(ec env' S' he).2,e1,e2,e3];exact⟨h1,h2,h3,h4,hK⟩
    ·exact h.elim
   ·exact h.elim
  ·exact h.elim
 case nilCheck y =>
  simp only[Kd.ptrOpd,Option.some.injEq]at hx;subst hx;simp only[Kd.go]at h;split at h
  ·rename_i cs e1;rw[e1]at hp;exact hp.elim
  ·rename_i cs e1;rw[e1]at hp;exact hp.elim
  ·rename_i id m k o e1;rw[e1]at hp;have hp:id=a:=hp;subst hp;split at h
   ·rename_i b e2;refine⟨_,h.2,fun S' hs env' he K' hK=>?_⟩;rw[←hs]at e2;simp only[Kd.go,AL he,e1,e2];exact⟨h.1,hK⟩
   ·exact h.elim
  ·exact h.elim
 all_goals cases hr
theorem Ys{kd:Kd}{d a:Nat}{K:AV→AS→Prop}(hr:kd.readsAt=true)(h:kd.goT P d s (.onb a) K):∃v,K v s∧∀S',S' a=s.S a→∀env':Nat→AV,(∀t∈kd.reads,env' t=s.env t)→∀K':AV→AS→Prop,K' v ⟨env',S'⟩→kd.goT P d ⟨env',S'⟩ (.onb a) K':=by
 obtain⟨v0,S1,_,h0,_,_⟩:=ME (by cases kd <;> first|rfl|cases hr) h;have h00:=h0;simp only[Tag.ok]at h0;split at h0
 ·rename_i x hx;obtain⟨v,⟨g0,g1⟩,g2⟩:=AAy hr hx h0 h;exact⟨v,g1,fun S' hs env' he K' hK=>g2 S' hs env' he _ ⟨Vk g0 he,hK⟩⟩
 ·exact h0.elim
theorem V4{kd:Kd}{d a b:Nat}{x:Opd}{K:AV→AS→Prop}(hr:kd.isStore=true)(hab:¬a=b)(hx:kd.ptrOpd=some x)(hp:HX b (s.ev x))(h:kd.go P d s K):kd.go P d s fun v s'=>K v s'∧s'.S a=s.S a:=by
 cases kd
 case store n y v =>
  simp only[Kd.ptrOpd,Option.some.injEq]at hx;subst hx;simp only[Kd.go]at h ⊢;split at h
  ·rename_i id m k off c e1 e2;rw[e1]at hp;have hp:id=b:=hp;subst hp;split at h
   ·rename_i e cs e3;exact⟨h.1,h.2.1,h.2.2.1,h.2.2.2,AH _ hab _⟩
   ·rename_i e cs e3;exact⟨h.1,h.2.1,h.2.2.1,h.2.2.2,AH _ hab _⟩
   ·rename_i e w xs e3;split at h
    ·exact⟨h.1,h.2.1,h.2.2.1,h.2.2.2,AH _ hab _⟩
    ·exact h.elim
   ·exact h.elim
  ·exact h.elim
 all_goals cases hr
theorem T4{kd:Kd}{d a:Nat}{dst:Option Nat}{g:Option (Nat×Bool)}{t:Tag}{K:AV→AS→Prop}(hl:(Ins.mk dst g kd t).leaves a=true)(h:kd.goT P d s t K):kd.goT P d s t fun v s'=>K v s'∧s'.S a=s.S a:=by
 cases t with
 | no=>cases hl
 | keeps ks =>
  simp only[Ins.leaves]at hl;exact Fh h fun v s' hok hk=>⟨hk,hok a (List.contains_iff_mem.1 hl)⟩
 | onb b =>
  simp only[Ins.leaves,Bool.and_eq_true,Bool.not_eq_true',beq_eq_false_iff_ne]at hl;obtain⟨v0,S1,_,h0,_,_⟩:=ME (by cases kd <;> first|rfl|cases hl.1) h;simp only[Tag.ok]at h0;split at h0
  ·rename_i x hx;have h2:=V4 hl.1 hl.2 hx h0 h;exact go_mono h2 fun v s' hv=>⟨hv.1.1,hv.1.2,hv.2⟩
  ·exact h0.elim
theorem MG{i:Ins}(X:AA→Prop)(hg:∀{d:Nat} {K:AV→AS→Prop},i.kd.goT P d s i.tag K→∃v,K v s∧∀S',X S'→∀env':Nat→AV,(∀t∈i.kd.reads,env' t=s.env t)→∀K':AV→AS→Prop,K' v ⟨env',S'⟩→i.kd.goT P d ⟨env',S'⟩ i.tag K')(h:i.go P s K) :
  ∃v,K (s.put i.dst v)∧∀S',X S'→∀env':Nat→AV,(∀t∈i.reads,env' t=s.env t)→∀K':AS→Prop,K' ((⟨env',S'⟩:AS).put i.dst v)→i.go P ⟨env',S'⟩ K':=by
 obtain⟨dst,guard,kd,tag⟩:=i;unfold Ins.go at h;dsimp only at h hg
 cases guard with
 | none =>
  dsimp only at h
  obtain⟨v,h1,h2⟩:=hg h;exact⟨v,h1,fun S' hs env' he K' hK=>by unfold Ins.go;exact h2 S' hs env' (fun t ht=>he t (by simp[Ins.reads,ht])) _ hK⟩
 | some gw =>
  obtain⟨g,want⟩:=gw;dsimp only at h
  have eg:∀env':Nat→AV,(∀t∈(Ins.mk dst (some (g,want)) kd tag).reads,env' t=s.env t)→env' g=s.env g:=fun env' he=>he g (by simp[Ins.reads]);split at h
  ·rename_i b e1;by_cases hb:b=want
   ·obtain⟨v,h1,h2⟩:=hg (h.1 hb);refine⟨v,h1,fun S' hs env' he K' hK=>?_⟩;have e2:=(eg env' he).trans e1;unfold Ins.go;simp only[e2];exact⟨fun _=>h2 S' hs env' (fun t ht=>he t (by simp[Ins.reads,ht])) _ hK,fun hn=>absurd hb hn⟩
   ·refine⟨.tup [],h.2 hb,fun S' hs env' he K' hK=>?_⟩;have e2:=(eg env' he).trans e1;unfold Ins.go;simp only[e2];exact⟨fun h=>absurd h hb,fun _=>hK⟩
  ·rename_i e1;refine⟨.tup [],h,fun S' hs env' he K' hK=>?_⟩;have e2:=(eg env' he).trans e1;unfold Ins.go;simp only[e2];exact hK
  ·exact h.elim
theorem AAZ{i:Ins}(hk:i.kd.keepS=true)(h:i.go P s K):∃v,K (s.put i.dst v)∧∀S',GK s.S S'→∀env':Nat→AV,(∀t∈i.reads,env' t=s.env t)→∀K':AS→Prop,K' ((⟨env',S'⟩:AS).put i.dst v)→i.go P ⟨env',S'⟩ K' :=
 MG (GK s.S) (fun h=>AAU hk h) h
theorem S8{i:Ins}{a:Nat}(ht:i.tag=.onb a)(hr:i.kd.readsAt=true)(h:i.go P s K):∃v,K (s.put i.dst v)∧∀S',S' a=s.S a→∀env':Nat→AV,(∀t∈i.reads,env' t=s.env t)→∀K':AS→Prop,K' ((⟨env',S'⟩:AS).put i.dst v)→i.go P ⟨env',S'⟩ K' :=
 MG (fun S'=>S' a=s.S a) (fun h=>by rw[ht]at h ⊢;exact Ys hr h) h
theorem KH{i:Ins}(X:AA→Prop)(h0:X s.S)(hg:∀{d:Nat} {K:AV→AS→Prop},i.kd.goT P d s i.tag K→i.kd.goT P d s i.tag fun v s'=>K v s'∧X s'.S)(h:i.go P s K):i.go P s fun s'=>K s'∧X s'.S:=by
 obtain⟨dst,guard,kd,tag⟩:=i;have hp:∀(s':AS) (v:AV),(s'.put dst v).S=s'.S:=fun s' v=>by cases dst <;> rfl
 unfold Ins.go at h ⊢;dsimp only at h hg ⊢
 have key:∀{K:AS→Prop},(kd.goT P (dst.getD 0) s tag fun v s'=>K (s'.put dst v))→kd.goT P (dst.getD 0) s tag fun v s'=>K (s'.put dst v)∧X (s'.put dst v).S:=fun {K} h =>
  Fh (hg h) fun v s' _ hk=>⟨hk.1,by rw[hp];exact hk.2⟩
 cases guard with
 | none=>exact key h
 | some gw =>
  obtain⟨g,want⟩:=gw;dsimp only at h ⊢
  split at h
  ·rename_i b e1;exact⟨fun hb=>key (h.1 hb),fun hb=>⟨h.2 hb,by rw[hp];exact h0⟩⟩
  ·exact⟨h,by rw[hp];exact h0⟩
  ·exact h.elim
theorem WX{i:Ins}(hf:i.kd.freshS=true)(h:i.go P s K):i.go P s fun s'=>K s'∧GK s.S s'.S :=
 KH (GK s.S) (fun _ _ hb=>hb) (fun {d K} h=>by
  exact go_mono (Y4 hf h) fun v s' hv=>⟨hv.1.1,hv.1.2,hv.2⟩) h
theorem Mo{i:Ins}{a:Nat}(hl:i.leaves a=true)(h:i.go P s K):i.go P s fun s'=>K s'∧s'.S a=s.S a :=
 KH (fun S=>S a=s.S a) rfl (fun h=>T4 (dst:=i.dst) (g:=i.guard) hl h) h
theorem Ge{env:Nat→AV}{S1:AA}{dd:Option Nat}{v:AV}{t:Nat}(h:dd≠some t):((⟨env,S1⟩:AS).put dd v).env t=env t:=by
 cases dd with
 | none=>rfl
 | some d=>exact AH _ (fun e=>h (by rw[e])) _
theorem JJ{env:Nat→AV}{S1:AA}{d1 d2:Option Nat}{v1 v2:AV}(h:∀d,d1=some d→d2≠some d):((⟨env,S1⟩:AS).put d1 v1).put d2 v2=((⟨env,S1⟩:AS).put d2 v2).put d1 v1:=by
 cases d1 with
 | none=>rfl
 | some a =>
  cases d2 with
  | none=>rfl
  | some b =>
   have hne:b≠a:=fun e=>h a rfl (by rw[e]);simp only[AS.put,AS.mk.injEq,and_true];funext k;unfold AI;by_cases h1:k=a
   ·subst h1;rw[if_neg (fun e=>hne e.symm),if_pos rfl,if_pos rfl]
   ·rw[if_neg h1,if_neg h1]
theorem S7{env:Nat→AV}{S1:AA}{dd:Option Nat}{v:AV}:((⟨env,S1⟩:AS).put dd v).S=S1:=by cases dd <;> rfl
theorem Dy{env:Nat→AV}{S1:AA}{dd:Option Nat}{v:AV}:(⟨env,S1⟩:AS).put dd v=⟨((⟨env,S1⟩:AS).put dd v).env,S1⟩:=by cases dd <;> rfl
theorem Ek{env:Nat→AV}{S1 S2:AA}{dd:Option Nat}{v:AV}:((⟨env,S1⟩:AS).put dd v).env=((⟨env,S2⟩:AS).put dd v).env:=by cases dd <;> rfl
theorem later{x y:Ins}(hdy:y.kd.det=true)(hx:∀t∈x.reads,y.dst≠some t)(hy:∀t∈y.reads,x.dst≠some t)(hd:∀d,x.dst=some d→y.dst≠some d)(X:AA→Prop){v:AV}
  (q2:∀S',X S'→∀env':Nat→AV,(∀t∈x.reads,env' t=s.env t)→∀K':AS→Prop,K' ((⟨env',S'⟩:AS).put x.dst v)→x.go P ⟨env',S'⟩ K')
  (q3:y.go P (s.put x.dst v) fun s'=>K s'∧X s'.S):y.go P s fun s2=>x.go P s2 K:=by
 have hS:(s.put x.dst v).S=s.S:=by cases x.dst <;> rfl
 obtain⟨u,S3,r1,r2,r3⟩:=Jn hdy q3;have r1b:X S3:=by
  have:=r1.2;rwa [S7]at this
 obtain⟨c1,_⟩:=r3 s.env (fun t ht=>by
  cases hxd:x.dst with
  | none=>rfl
  | some d=>exact(AH _ (fun e=>hy t ht (by rw[hxd,e])) _).symm)
 rw[hS]at c1;refine c1 _ ?_;rw[Dy];refine q2 S3 r1b _ (fun t ht=>Ge (hx t ht)) _ ?_;have hsx:(s.put x.dst v).env=((⟨s.env,S3⟩:AS).put x.dst v).env:=by cases x.dst <;> rfl
 have e4:(⟨((⟨s.env,S3⟩:AS).put y.dst u).env,S3⟩:AS).put x.dst v=(⟨(s.put x.dst v).env,S3⟩:AS).put y.dst u:=by
  rw[hsx,←Dy,←Dy];exact(JJ hd).symm
 rw[e4];exact r1.1
def Ke:Option AJ→Prop
 | none=>True
 | some (.box _ _)=>True
 | _=>False
theorem Uu{S:AA}{id n:Nat}{ys:List (List SV)}(h:DQ S (.row id n)=some ys):¬Ke (S id):=by
 intro hn;simp only[DQ]at h;cases hS:S id with
 | none=>rw[hS]at h;cases h
 | some b =>
  rw[hS]at h hn;cases b <;> first|exact hn|cases h
theorem Io{S T:AA}{c:Nat}(hn:Ke (S c))(ho:∀i,i≠c→T i=S i){a:AC}{ys:List (List SV)}(h:DQ S a=some ys):DQ T a=some ys:=by
 cases a
 case row id n =>
  have hne:id≠c:=fun e=>by subst e;exact Uu h hn
  simp only[DQ]at h ⊢;rw[ho id hne];exact h
 case st c=>cases c <;> first|exact h|cases h
 all_goals first|exact h|cases h
theorem PF{mu:Bool}{e:TypeId}{w bytes d:Nat}{x y:Opd}{K:AV→AS→Prop}(h:(Kd.append mu e w bytes x y).go P d s K) :
  ∃v id b,K v ⟨s.env,AI s.S id (some b)⟩∧(∀c,Ke (s.S c)→d≠c→id≠c)∧∀(c:Nat) (env':Nat→AV) (T:AA),id≠c→Ke (s.S c)→(∀t∈(Kd.append mu e w bytes x y).reads,env' t=s.env t)→(∀i,i≠c→T i=s.S i)→∀K':AV→AS→Prop,K' v ⟨env',AI T id (some b)⟩→(Kd.append mu e w bytes x y).go P d ⟨env',T⟩ K':=by
 have hex:∀env':Nat→AV,∀T,(∀t∈(Kd.append mu e w bytes x y).reads,env' t=s.env t)→(⟨env',T⟩:AS).ev x=s.ev x∧(⟨env',T⟩:AS).ev y=s.ev y:=fun env' T hr =>
  ⟨AL fun t ht=>hr t (by simp[Kd.reads,ht]),AL fun t ht=>hr t (by simp[Kd.reads,ht])⟩
 simp only[Kd.go]at h;split at h
 ·rename_i cx cy e1 e2;split at h
  ·rename_i ys e3;obtain⟨hw,h⟩:=h;split at h
   ·rename_i xs;refine⟨_,d,_,h.2.2.2.2.2,fun c _ hc=>hc,fun c env' T hid hn hr ho K' hK=>?_⟩;obtain⟨q1,q2⟩:=hex env' T hr;simp only[Kd.go,q1,q2,e1,e2,Io hn ho e3];exact⟨hw,(ho d hid).trans h.1,h.2.1,h.2.2.1,h.2.2.2.1,h.2.2.2.2.1,hK⟩
   ·rename_i id m;split at h
    ·rename_i e' w' xs e4;refine⟨_,id,_,h.2.2.2,fun c hn _ he=>by subst he;rw[e4]at hn;exact hn,fun c env' T hid hn hr ho K' hK=>?_⟩;obtain⟨q1,q2⟩:=hex env' T hr;simp only[Kd.go,q1,q2,e1,e2,Io hn ho e3,ho id hid,e4];exact⟨hw,h.1,h.2.1,h.2.2.1,hK⟩
    ·rename_i e' w' xs e4;refine⟨_,id,_,h.2.2.2,fun c hn _ he=>by subst he;rw[e4]at hn;exact hn,fun c env' T hid hn hr ho K' hK=>?_⟩;obtain⟨q1,q2⟩:=hex env' T hr;simp only[Kd.go,q1,q2,e1,e2,Io hn ho e3,ho id hid,e4];exact⟨hw,h.1,h.2.1,h.2.2.1,hK⟩
    ·exact h.elim
   ·exact h.elim
  ·exact h.elim
 ·exact h.elim
theorem By{α:Type}{f:Nat→α}{i j:Nat}{a b:α}(h:i≠j):AI (AI f i a) j b=AI (AI f j b) i a:=by
 funext k;unfold AI;by_cases h1:k=j <;> by_cases h2:k=i <;> simp_all
theorem BK{α:Type}{f:Nat→α}{i j:Nat}{a:α}(h:j≠i):AI f i a j=f j:=by
 unfold AI;simp[h]
def Bt(S T:AA):Prop:=∀id,(∀e w xs,S id=some (.arow e w xs)↔T id=some (.arow e w xs))∧(∀e w n,(∃xs,S id=some (.mrow e w xs)∧xs.length=n)↔(∃xs,T id=some (.mrow e w xs)∧xs.length=n))∧∀n,(∃e cs,S id=some (.crow e cs)∧cs.length=n)↔(∃e cs,T id=some (.crow e cs)∧cs.length=n)
theorem Bt.refl(S:AA):Bt S S:=fun id=>⟨fun _ _ _=>Iff.rfl,fun _ _ _=>Iff.rfl,fun _=>Iff.rfl⟩
theorem Bt.symm{S T:AA}(h:Bt S T):Bt T S:=fun id=>⟨fun e w xs=>((h id).1 e w xs).symm,fun e w n=>((h id).2.1 e w n).symm,fun n=>((h id).2.2 n).symm⟩
theorem US{S:AA}{a:Nat}{e e':TypeId}{cs cs':List AC}(h:S a=some (.box e cs)):Bt S (AI S a (some (.box e' cs'))):=fun id=>by
 by_cases hi:id=a
 ·subst hi;rw[h,AG];refine⟨fun _ _ _=>⟨fun q=>(by cases q),fun q=>(by cases q)⟩,fun _ _ _=>⟨fun⟨_,q,_⟩=>(by cases q),fun⟨_,q,_⟩=>(by cases q)⟩,fun _=>⟨fun⟨_,_,q,_⟩=>(by cases q),fun⟨_,_,q,_⟩=>(by cases q)⟩⟩
 ·rw[AH _ hi];exact⟨fun _ _ _=>Iff.rfl,fun _ _ _=>Iff.rfl,fun _=>Iff.rfl⟩
theorem RP{S:AA}{a:Nat}{e:TypeId}{cs cs':List AC}(h:S a=some (.crow e cs))(hl:cs'.length=cs.length):Bt S (AI S a (some (.crow e cs'))):=fun id=>by
 by_cases hi:id=a
 ·subst hi;rw[h,AG];refine⟨fun _ _ _=>⟨fun q=>(by cases q),fun q=>(by cases q)⟩,fun _ _ _=>⟨fun⟨_,q,_⟩=>(by cases q),fun⟨_,q,_⟩=>(by cases q)⟩,fun n=>⟨fun⟨e2,ds,q,hn⟩=>?_,fun⟨e2,ds,q,hn⟩=>?_⟩⟩
  ·cases q;exact⟨e,cs',rfl,hl.trans hn⟩
  ·cases q;exact⟨e,cs,rfl,hl.symm.trans hn⟩
 ·rw[AH _ hi];exact⟨fun _ _ _=>Iff.rfl,fun _ _ _=>Iff.rfl,fun _=>Iff.rfl⟩
theorem Ry{S:AA}{a:Nat}{e:TypeId}{w:Nat}{xs ys:List (List SV)}(h:S a=some (.mrow e w xs))(hl:ys.length=xs.length):Bt S (AI S a (some (.mrow e w ys))):=fun id=>by
 by_cases hi:id=a
 ·subst hi;rw[h,AG];refine⟨fun _ _ _=>⟨fun q=>(by cases q),fun q=>(by cases q)⟩,fun e2 w2 n=>⟨fun⟨zs,q,hn⟩=>?_,fun⟨zs,q,hn⟩=>?_⟩,fun _=>⟨fun⟨_,_,q,_⟩=>(by cases q),fun⟨_,_,q,_⟩=>(by cases q)⟩⟩
  ·cases q;exact⟨ys,rfl,hl.trans hn⟩
  ·cases q;exact⟨xs,rfl,hl.symm.trans hn⟩
 ·rw[AH _ hi];exact⟨fun _ _ _=>Iff.rfl,fun _ _ _=>Iff.rfl,fun _=>Iff.rfl⟩
theorem SG{S T:AA}(h:Bt S T){c:AC}{x:SV}(hx:stC S c=some x):stC T c=some x:=by
 cases c with
 | row id n =>
  simp only[stC]at hx ⊢;split at hx
  ·rename_i e w xs e1;rw[((h id).1 e w xs).1 e1];exact hx
  ·cases hx
 | fn f caps=>cases caps <;> exact hx
 | _=>exact hx
theorem Oi{S T:AA}(h:Bt S T):∀{cs:List AC} {xs:List SV},stCs S cs=some xs→stCs T cs=some xs
 | [],xs,hx=>hx
 | c::cs,xs,hx=>by
  simp only[stCs]at hx ⊢;split at hx
  ·rename_i x xs' h1 h2;rw[SG h h1,Oi h h2];exact hx
  ·cases hx
theorem NN{S:AA}{a:Nat}{e:TypeId}{cs:List AC}(h:S a=none):Bt S (AI S a (some (.box e cs))):=fun id=>by
 by_cases hi:id=a
 ·subst hi;rw[h,AG];refine⟨fun _ _ _=>⟨fun q=>(by cases q),fun q=>(by cases q)⟩,fun _ _ _=>⟨fun⟨_,q,_⟩=>(by cases q),fun⟨_,q,_⟩=>(by cases q)⟩,fun _=>⟨fun⟨_,_,q,_⟩=>(by cases q),fun⟨_,_,q,_⟩=>(by cases q)⟩⟩
 ·rw[AH _ hi];exact⟨fun _ _ _=>Iff.rfl,fun _ _ _=>Iff.rfl,fun _=>Iff.rfl⟩
theorem PD{S T:AA}(h:Bt S T){c x:AC}(hx:outC S c=some x):outC T c=some x:=by
 have key:∀c:AC,(stC S c).map AC.st=some x→(stC T c).map AC.st=some x:=fun c hx=>by
  rw[Option.map_eq_some_iff]at hx ⊢;obtain⟨a,h1,h2⟩:=hx;exact⟨a,SG h h1,h2⟩
 cases c with
 | fn f caps =>
  cases caps with
  | nil=>exact hx
  | cons y ys=>exact hx
 | eptr cs=>exact hx
 | ubool=>exact hx
 | _=>simp only[outC]at hx ⊢;exact key _ hx
theorem NB{S T:AA}(h:Bt S T):∀{cs xs:List AC},outCs S cs=some xs→outCs T cs=some xs
 | [],xs,hx=>hx
 | c::cs,xs,hx=>by
  simp only[outCs]at hx ⊢;split at hx
  ·rename_i x xs' h1 h2;rw[PD h h1,NB h h2];exact hx
  ·cases hx
mutual
theorem WS{S T:AA}(h:Bt S T):∀{v x:AV},outV S v=some x→outV T v=some x
 | .one c,x,hx=>by
  simp only[outV,Option.map_eq_some_iff]at hx ⊢;obtain⟨a,h1,h2⟩:=hx;exact⟨a,PD h h1,h2⟩
 | .agg cs,x,hx=>by
  simp only[outV,Option.map_eq_some_iff]at hx ⊢;obtain⟨a,h1,h2⟩:=hx;exact⟨a,NB h h1,h2⟩
 | .tup vs,x,hx=>by
  simp only[outV,Option.map_eq_some_iff]at hx ⊢;obtain⟨a,h1,h2⟩:=hx;exact⟨a,GM h h1,h2⟩
 | .any,x,hx=>hx
theorem GM{S T:AA}(h:Bt S T):∀{vs xs:List AV},outVs S vs=some xs→outVs T vs=some xs
 | [],xs,hx=>hx
 | v::vs,xs,hx=>by
  simp only[outVs]at hx ⊢;split at hx
  ·rename_i x xs' h1 h2;rw[WS h h1,GM h h2];exact hx
  ·cases hx
end
theorem T6{x y:Ins}(hm:x.makes y=true)(h:x.go P s fun s1=>y.go P s1 K):y.go P s fun s2=>x.go P s2 K:=by
 obtain⟨xd,xg,xk,xt⟩:=x;obtain⟨yd,yg,yk,yt⟩:=y;unfold Ins.makes at hm;rw[Bool.and_eq_true]at hm;obtain⟨m1,m2⟩:=hm;split at m1
 ·rename_i d e z hx;cases hx;split at m2
  ·rename_i d' mu ty w bytes x' y' t hy;cases hy;simp only[Bool.and_eq_true,Bool.not_eq_true',beq_eq_false_iff_ne,ne_eq,Option.some.injEq]at m1;obtain⟨r1,r2⟩:=m1;have hrd:∀k∈(Kd.append mu ty w bytes x' y').reads,k≠d:=fun k hk he=>by
    subst he;rw[List.contains_iff_mem.2 hk]at r1;cases r1
   simp only[Ins.go,Kd.goT,Kd.go,AS.set,AS.put,Option.getD_some,Tag.ok]at h;obtain⟨h1,_,h2⟩:=h;obtain⟨v,id,b,k1,k2,k3⟩:=PF (K:=fun v s'=>yt.ok (.append mu ty w bytes x' y') ⟨AI s.env d (.one (.ptr d 1 0 0)),AI s.S d (some (.box e z))⟩ s'∧K (s'.put (some d') v)) h2;have hnr:Ke ((AI s.S d (some (.box e z))) d):=by unfold AI;rw[if_pos rfl];trivial
   have hid:id≠d:=k2 d hnr r2;suffices key:(Kd.append mu ty w bytes x' y').go P d' s fun v s'=>yt.ok (.append mu ty w bytes x' y') s s'∧(⟨some d,none,.alloc e z,.no⟩:Ins).go P (s'.put (some d') v) K from key
   refine k3 d s.env s.S hid hnr (fun k hk=>(BK (hrd k hk)).symm) (fun i hi=>(BK hi).symm) _ ⟨?_,?_⟩
   ·have k0:=k1.1;cases yt with
    | no=>trivial
    | keeps ks =>
     intro k hk;have:=k0 k hk;simp only at this ⊢;by_cases hki:k=id
     ·subst hki;have e0:∀T:AA,AI T k (some b) k=some b:=fun T=>by unfold AI;rw[if_pos rfl]
      rw[BK hid,e0]at this;exact(e0 _).trans this
     ·exact BK hki
    | onb i=>exact k0
   ·simp only[Ins.go,Kd.goT,Kd.go,AS.set,AS.put,Option.getD_some,Tag.ok];refine⟨by rw[BK (Ne.symm hid)];exact h1,trivial,?_⟩;have k4:=k1.2;simp only[AS.put]at k4;rw[By (Ne.symm hid),By (f:=s.env) (Ne.symm r2)]at k4;exact k4
  ·rename_i d' f xs hy;cases hy;simp only[Bool.and_eq_true,Bool.not_eq_true',beq_eq_false_iff_ne,ne_eq,Option.some.injEq]at m1;obtain⟨r1,r2⟩:=m1;have hrd:∀k∈As xs,k≠d:=fun k hk he=>by
    subst he;simp only[Kd.reads]at r1;rw[List.contains_iff_mem.2 hk]at r1;cases r1
   simp only[Ins.go,Kd.goT,Kd.go,AS.set,AS.put,Option.getD_some,Tag.ok]at h ⊢;obtain⟨h1,_,h2⟩:=h;split at h2
   ·rename_i vs e1;obtain⟨mu0,e0,w0,ys,hr,hd',_,hK⟩:=h2;rw[BK r2]at hd';have e2:outVs s.S (s.evs xs)=some vs:=by
     have:=GM (NN (e:=e) (cs:=z) h1).symm e1;rwa [Di (s:=s) (fun t ht=>BK (hrd t ht))]at this
    rw[e2];refine⟨mu0,e0,w0,ys,hr,hd',trivial,by rw[BK (Ne.symm r2)];exact h1,trivial,?_⟩;rw[By (f:=s.S) (i:=d') (j:=d) r2,By (f:=s.env) (i:=d') (j:=d) r2];exact hK
   ·exact h2.elim
  ·cases m2
 ·cases m1
theorem RZ{x y:Ins}(hm:x.makes y=true)(h:y.go P s fun s1=>x.go P s1 K):x.go P s fun s2=>y.go P s2 K:=by
 obtain⟨xd,xg,xk,xt⟩:=x;obtain⟨yd,yg,yk,yt⟩:=y;unfold Ins.makes at hm;rw[Bool.and_eq_true]at hm;obtain⟨m1,m2⟩:=hm;split at m1
 ·rename_i d e z hx;cases hx;split at m2
  ·rename_i d' mu ty w bytes x' y' t hy;cases hy;simp only[Bool.and_eq_true,Bool.not_eq_true',beq_eq_false_iff_ne,ne_eq,Option.some.injEq]at m1;obtain⟨r1,r2⟩:=m1;have hrd:∀k∈(Kd.append mu ty w bytes x' y').reads,k≠d:=fun k hk he=>by
    subst he;rw[List.contains_iff_mem.2 hk]at r1;cases r1
   have h':(Kd.append mu ty w bytes x' y').go P d' s fun v s'=>yt.ok (.append mu ty w bytes x' y') s s'∧(⟨some d,none,.alloc e z,.no⟩:Ins).go P (s'.put (some d') v) K:=h;obtain⟨v,id,b,k1,k2,k3⟩:=PF h';obtain⟨k0,k1⟩:=k1;simp only[Ins.go,Kd.goT,Kd.go,AS.set,AS.put,Option.getD_some,Tag.ok]at k1;obtain⟨c1,_,c2⟩:=k1;have hid:id≠d:=fun he=>by
    subst he;unfold AI at c1;rw[if_pos rfl]at c1;cases c1
   rw[BK (Ne.symm hid)]at c1;have hnr:Ke (s.S d):=by rw[c1];trivial
   refine(show s.S d=none∧True∧(⟨some d',none,.append mu ty w bytes x' y',yt⟩:Ins).go P ⟨AI s.env d (.one (.ptr d 1 0 0)),AI s.S d (some (.box e z))⟩ K from⟨c1,trivial,?_⟩);suffices key:(Kd.append mu ty w bytes x' y').go P d' ⟨AI s.env d (.one (.ptr d 1 0 0)),AI s.S d (some (.box e z))⟩ fun v s'=>yt.ok (.append mu ty w bytes x' y') ⟨AI s.env d (.one (.ptr d 1 0 0)),AI s.S d (some (.box e z))⟩ s'∧K (s'.put (some d') v) from key
   refine k3 d _ _ hid hnr (fun k hk=>BK (hrd k hk)) (fun i hi=>BK hi) _ ⟨?_,?_⟩
   ·cases yt with
    | no=>trivial
    | keeps ks =>
     intro k hk;have:=k0 k hk;simp only at this ⊢;by_cases hki:k=id
     ·subst hki;have e0:∀T:AA,AI T k (some b) k=some b:=fun T=>by unfold AI;rw[if_pos rfl]
      rw[e0]at this;exact(e0 _).trans (this.trans (BK hid).symm)
     ·exact BK hki
    | onb i=>exact k0
   ·show K ⟨AI (AI s.env d (.one (.ptr d 1 0 0))) d' v,AI (AI s.S d (some (.box e z))) id (some b)⟩
    rw[By (Ne.symm hid),By (f:=s.env) (Ne.symm r2)];exact c2
  ·rename_i d' f xs hy;cases hy;simp only[Bool.and_eq_true,Bool.not_eq_true',beq_eq_false_iff_ne,ne_eq,Option.some.injEq]at m1;obtain⟨r1,r2⟩:=m1;have hrd:∀k∈As xs,k≠d:=fun k hk he=>by
    subst he;simp only[Kd.reads]at r1;rw[List.contains_iff_mem.2 hk]at r1;cases r1
   simp only[Ins.go,Kd.goT,Kd.go,AS.set,AS.put,Option.getD_some,Tag.ok]at h ⊢;split at h
   ·rename_i vs e1;obtain⟨mu0,e0,w0,ys,hr,hd',_,h1,_,hK⟩:=h;rw[BK (Ne.symm r2)]at h1;have e2:outVs (AI s.S d (some (.box e z))) ((⟨AI s.env d (.one (.ptr d 1 0 0)),AI s.S d (some (.box e z))⟩:AS).evs xs)=some vs:=by
     rw[Di (s:=s) (fun t ht=>BK (hrd t ht))];exact GM (NN (e:=e) (cs:=z) h1) e1
    refine⟨h1,trivial,?_⟩;rw[e2];refine⟨mu0,e0,w0,ys,hr,by rw[BK r2];exact hd',trivial,?_⟩;rw[By (f:=s.S) (i:=d) (j:=d') (Ne.symm r2),By (f:=s.env) (i:=d) (j:=d') (Ne.symm r2)];exact hK
   ·exact h.elim
  ·cases m2
 ·cases m1
theorem MS{n d a:Nat}{x v:Opd}{K:AV→AS→Prop}(hp:HX a (s.ev x))(h:(Kd.store n x v).go P d s K) :
  ∃b,K .any ⟨s.env,AI s.S a (some b)⟩∧(∀T:AA,T a=s.S a→Bt T (AI T a (some b)))∧∀(env':Nat→AV) (T:AA),(∀t∈(Kd.store n x v).reads,env' t=s.env t)→T a=s.S a→Bt s.S T→∀K':AV→AS→Prop,K' .any ⟨env',AI T a (some b)⟩→(Kd.store n x v).go P d ⟨env',T⟩ K':=by
 have hex:∀env':Nat→AV,∀T,(∀t∈(Kd.store n x v).reads,env' t=s.env t)→(⟨env',T⟩:AS).ev x=s.ev x∧(⟨env',T⟩:AS).ev v=s.ev v:=fun env' T hr =>
  ⟨AL fun t ht=>hr t (by simp[Kd.reads,ht]),AL fun t ht=>hr t (by simp[Kd.reads,ht])⟩
 simp only[Kd.go]at h;split at h
 ·rename_i id m k off c e1 e2;rw[e1]at hp;have hp:id=a:=hp;subst hp;split at h
  ·rename_i e cs e3;refine⟨_,h.2.2.2,fun T hT=>US (hT.trans e3),fun env' T hr hT hR K' hK=>?_⟩;obtain⟨q1,q2⟩:=hex env' T hr;simp only[Kd.go,q1,q2,e1,e2,hT,e3];exact⟨h.1,h.2.1,h.2.2.1,hK⟩
  ·rename_i e cs e3;refine⟨_,h.2.2.2,fun T hT=>RP (hT.trans e3) (by simp[splice];omega),fun env' T hr hT hR K' hK=>?_⟩;obtain⟨q1,q2⟩:=hex env' T hr;simp only[Kd.go,q1,q2,e1,e2,hT,e3];exact⟨h.1,h.2.1,h.2.2.1,hK⟩
  ·rename_i e w xs e3;split at h
   ·rename_i c' y e4 e5;refine⟨_,h.2.2.2,fun T hT=>Ry (hT.trans e3) (by simp),fun env' T hr hT hR K' hK=>?_⟩;obtain⟨q1,q2⟩:=hex env' T hr;simp only[Kd.go,q1,q2,e1,e2,hT,e3,Oi hR e4,e5];exact⟨h.1,h.2.1,h.2.2.1,hK⟩
   ·exact h.elim
  ·exact h.elim
 ·exact h.elim
theorem OE{kd:Kd}(hk:kd.isStore=true){d:Nat}{K:AV→AS→Prop}(h:kd.go P d s K):kd.go P d s fun v s'=>K v s'∧Bt s.S s'.S:=by
 cases kd <;> try(cases hk;done)
 case store n x v =>
  have h0:=h;simp only[Kd.go]at h0;split at h0
  ·rename_i id m k off c e1 e2;obtain⟨b,k1,k2,k3⟩:=MS (a:=id) (by rw[e1];rfl) h;exact k3 s.env s.S (fun _ _=>rfl) rfl (Bt.refl _) _ ⟨k1,k2 s.S rfl⟩
  ·exact h0.elim
theorem Sh{i:Ins}(hk:i.kd.isStore=true)(h:i.go P s K):i.go P s fun s'=>K s'∧Bt s.S s'.S :=
 KH (Bt s.S) (Bt.refl _) (fun {d K} h=>by
  obtain⟨v,S2,⟨⟨q1,q2⟩,q3⟩,_,q5⟩:=KO (by cases hkd:i.kd <;> rw[hkd]at hk <;> first|rfl|cases hk) (OE hk h);exact(q5 s.env (fun _ _=>rfl)).1 _ ⟨q1,q2,q3⟩) h
theorem N_{w d:Nat}{x y:Opd}{K:AV→AS→Prop}(h:(Kd.indexAddr w x y).go P d s K):∃v,K v s∧∀S',Bt s.S S'→∀env':Nat→AV,(∀t∈(Kd.indexAddr w x y).reads,env' t=s.env t)→∀K':AV→AS→Prop,K' v ⟨env',S'⟩→(Kd.indexAddr w x y).go P d ⟨env',S'⟩ K':=by
 have hex:∀env':Nat→AV,∀T,(∀t∈(Kd.indexAddr w x y).reads,env' t=s.env t)→(⟨env',T⟩:AS).ev x=s.ev x∧(⟨env',T⟩:AS).ev y=s.ev y:=fun env' T hr =>
  ⟨AL fun t ht=>hr t (by simp[Kd.reads,ht]),AL fun t ht=>hr t (by simp[Kd.reads,ht])⟩
 simp only[Kd.go]at h;split at h
 ·rename_i c ki n e1 e2;split at h
  ·rename_i xs;unfold C5 at h;split at h
   ·rename_i z hz;refine⟨_,h.2.2,fun S' hS env' hr K' hK=>?_⟩;obtain⟨q1,q2⟩:=hex env' S' hr;simp only[Kd.go,q1,q2,e1,e2,C5,hz];exact⟨h.1,h.2.1,hK⟩
   ·exact h.2.elim
  ·rename_i xs;unfold C5 at h;split at h
   ·rename_i z hz;refine⟨_,h.2.2,fun S' hS env' hr K' hK=>?_⟩;obtain⟨q1,q2⟩:=hex env' S' hr;simp only[Kd.go,q1,q2,e1,e2,C5,hz];exact⟨h.1,h.2.1,hK⟩
   ·exact h.2.elim
  ·rename_i id m;split at h
   ·rename_i e w' xs e3;obtain⟨h1,h2,h⟩:=h;unfold C5 at h;split at h
    ·rename_i z hz;refine⟨_,h.2,fun S' hS env' hr K' hK=>?_⟩;obtain⟨q1,q2⟩:=hex env' S' hr;simp only[Kd.go,q1,q2,e1,e2,((hS id).1 e w' xs).1 e3,C5,hz];exact⟨h1,h2,h.1,hK⟩
    ·exact h.2.elim
   ·rename_i e w' xs e3;refine⟨_,h.2.2.2.2,fun S' hS env' hr K' hK=>?_⟩;obtain⟨ys,e4,e5⟩:=((hS id).2.1 e w' xs.length).1 ⟨xs,e3,rfl⟩;obtain⟨q1,q2⟩:=hex env' S' hr;simp only[Kd.go,q1,q2,e1,e2,e4,e5];exact⟨h.1,h.2.1,h.2.2.1,h.2.2.2.1,hK⟩
   ·rename_i e' cs e3;refine⟨_,h.2.2.2.2,fun S' hS env' hr K' hK=>?_⟩;obtain⟨e2',ds,e4,e5⟩:=((hS id).2.2 cs.length).1 ⟨e',cs,e3,rfl⟩;obtain⟨q1,q2⟩:=hex env' S' hr;simp only[Kd.go,q1,q2,e1,e2,e4,e5];exact⟨h.1,h.2.1,h.2.2.1,h.2.2.2.1,hK⟩
   ·exact h.elim
  ·exact h.elim
 ·exact h.elim
theorem Pw{i:Ins}(hk:(match i.kd with|.indexAddr _ _ _=>true|_=>false)=true)(ht:i.tag.isNone=true)(h:i.go P s K):∃v,K (s.put i.dst v)∧∀S',Bt s.S S'→∀env':Nat→AV,(∀t∈i.reads,env' t=s.env t)→∀K':AS→Prop,K' ((⟨env',S'⟩:AS).put i.dst v)→i.go P ⟨env',S'⟩ K' :=
 MG (Bt s.S) (fun {d K} h=>by
  obtain⟨dst,guard,kd,tag⟩:=i;cases tag <;> try(cases ht;done)
  cases kd <;> try(cases hk;done)
  case indexAddr w x y =>
   obtain⟨v,q1,q2⟩:=N_ h;exact⟨v,q1.2,fun S' hS env' he K' hK=>q2 S' hS env' he _ ⟨trivial,hK⟩⟩) h
theorem TJ{x y:Ins}(hb:x.beside y=true)(h:x.go P s fun s1=>y.go P s1 K):y.go P s fun s2=>x.go P s2 K:=by
 unfold Ins.beside at hb;split at hb
 ·rename_i n1 p1 v1 a n2 p2 v2 b;have hab:¬a=b:=by simpa using hb
  have h':(Kd.store n1 p1 v1).go P 0 s fun v s'=>HX a (s.ev p1)∧(⟨none,none,.store n2 p2 v2,.onb b⟩:Ins).go P s' K:=h;have hpa:HX a (s.ev p1):=by
   obtain⟨v,S1,h1,_⟩:=KO rfl h';exact h1.1
  obtain⟨bx,k1,k2,k3⟩:=MS hpa h';obtain⟨_,k1⟩:=k1;have h2:(Kd.store n2 p2 v2).go P 0 ⟨s.env,AI s.S a (some bx)⟩ fun v s'=>HX b ((⟨s.env,AI s.S a (some bx)⟩:AS).ev p2)∧K s':=k1;have hpb:HX b ((⟨s.env,AI s.S a (some bx)⟩:AS).ev p2):=by
   obtain⟨v,S1,h1,_⟩:=KO rfl h2;exact h1.1
  obtain⟨by_,m1,m2,m3⟩:=MS hpb h2;obtain⟨_,m1⟩:=m1;have hSb:s.S b=AI s.S a (some bx) b:=(AH _ (fun e=>hab e.symm) _).symm;have ep:(⟨s.env,AI s.S a (some bx)⟩:AS).ev p2=s.ev p2:=AL fun _ _=>rfl;rw[ep]at hpb;suffices key:(Kd.store n2 p2 v2).go P 0 s fun v s'=>HX b (s.ev p2)∧(⟨none,none,.store n1 p1 v1,.onb a⟩:Ins).go P s' K from key
  refine m3 s.env s.S (fun _ _=>rfl) hSb (k2 s.S rfl).symm _ ⟨hpb,?_⟩;suffices key:(Kd.store n1 p1 v1).go P 0 ⟨s.env,AI s.S b (some by_)⟩ fun v s'=>HX a ((⟨s.env,AI s.S b (some by_)⟩:AS).ev p1)∧K s' from key
  refine k3 s.env _ (fun _ _=>rfl) (AH _ hab _) (m2 s.S hSb) _ ⟨by rw[show(⟨s.env,AI s.S b (some by_)⟩:AS).ev p1=s.ev p1 from AL fun _ _=>rfl];exact hpa,?_⟩;rw[By (fun e=>hab e.symm)];exact m1
 ·cases hb
theorem LN{x y:Ins}(i1:(match x.dst with|none=>true|some d=>!y.reads.contains d&&!(y.dst==some d))=true)(i2:(match y.dst with|none=>true|some d=>!x.reads.contains d)=true) :
  (∀t∈x.reads,y.dst≠some t)∧(∀t∈y.reads,x.dst≠some t)∧∀d,x.dst=some d→y.dst≠some d:=by
 refine⟨fun t ht e=>?_,fun t ht e=>?_,fun d e e'=>?_⟩
 ·rw[e]at i2;simp only[Bool.not_eq_true']at i2;exact absurd (List.contains_iff_mem.2 ht) (by rw[i2];simp)
 ·rw[e]at i1;simp only[Bool.not_eq_true',Bool.and_eq_true]at i1;exact absurd (List.contains_iff_mem.2 ht) (by rw[i1.1];simp)
 ·rw[e]at i1;simp only[Bool.and_eq_true,Bool.not_eq_true',beq_eq_false_iff_ne]at i1;exact i1.2 e'
theorem UC{x y:Ins}(i1:(match x.dst with|none=>true|some d=>!y.reads.contains d&&!(y.dst==some d))=true)(i2:(match y.dst with|none=>true|some d=>!x.reads.contains d)=true)(i3:x.looks y=true)(h:x.go P s fun s1=>y.go P s1 K):y.go P s fun s2=>x.go P s2 K:=by
 obtain⟨hx,hy,hd⟩:=LN i1 i2;unfold Ins.looks at i3;simp only[Bool.and_eq_true]at i3;obtain⟨v,q1,q2⟩:=Pw i3.1.1 i3.1.2 h;have q3:=Sh i3.2 q1;have hdy:y.kd.det=true:=by cases hkd:y.kd <;> rw[hkd]at i3 <;> first|rfl|cases i3.2
 have hS:(s.put x.dst v).S=s.S:=by cases x.dst <;> rfl
 rw[hS]at q3;exact later hdy hx hy hd (Bt s.S) q2 q3
theorem Ru{x y:Ins}(i1:(match x.dst with|none=>true|some d=>!y.reads.contains d&&!(y.dst==some d))=true)(i2:(match y.dst with|none=>true|some d=>!x.reads.contains d)=true)(i3:y.looks x=true)(h:x.go P s fun s1=>y.go P s1 K):y.go P s fun s2=>x.go P s2 K:=by
 obtain⟨hx,hy,hd⟩:=LN i1 i2;unfold Ins.looks at i3;simp only[Bool.and_eq_true]at i3;have h':=Sh i3.2 h;obtain⟨v,T,c1,_,c3⟩:=Jn (by cases hkd:x.kd <;> rw[hkd]at i3 <;> first|rfl|cases i3.2) h';have c1':=c1.1;have c2:Bt s.S T:=by
  have:=c1.2;rwa [S7]at this
 obtain⟨u,q1,q2⟩:=Pw i3.1.1 i3.1.2 c1';rw[S7]at q2;have hyr:∀t∈y.reads,s.env t=((⟨s.env,T⟩:AS).put x.dst v).env t:=fun t ht=>(Ge (hy t ht)).symm;refine q2 s.S c2.symm s.env hyr _ ?_;obtain⟨c4,_⟩:=c3 ((⟨s.env,s.S⟩:AS).put y.dst u).env (fun t ht=>Ge (hx t ht));rw[Dy];refine c4 _ ?_;have e5:(⟨((⟨s.env,s.S⟩:AS).put y.dst u).env,T⟩:AS).put x.dst v=((⟨s.env,T⟩:AS).put x.dst v).put y.dst u:=by
  have q1:(⟨((⟨s.env,s.S⟩:AS).put y.dst u).env,T⟩:AS)=(⟨s.env,T⟩:AS).put y.dst u:=by rw[Dy (S1:=T),Ek (S1:=T) (S2:=s.S)]
  rw[q1];exact(JJ hd).symm
 rw[e5];exact q1
theorem MR:∀{rows:List (Nat×AJ×AJ)} {T:AA} {d:Nat},E5 T rows d=none→(∀q∈rows,q.1≠d)∧T d=none
 | [],T,d,h=>⟨by simp,h⟩
 | q::l,T,d,h=>by
  obtain⟨h1,h2⟩:=MR (rows:=l) h;have hne:q.1≠d:=fun e=>by
   subst e;unfold AI at h2;rw[if_pos rfl]at h2;cases h2
  refine⟨fun p hp=>?_,by rwa [BK (Ne.symm hne)]at h2⟩;rcases List.mem_cons.1 hp with rfl|hp
  ·exact hne
  ·exact h1 p hp
theorem PG:∀{rows:List (Nat×AJ×AJ)} {T:AA} {d:Nat} {b:Option AJ},(∀q∈rows,q.1≠d)→E5 (AI T d b) rows=AI (E5 T rows) d b
 | [],T,d,b,h=>rfl
 | q::l,T,d,b,h=>by
  show E5 (AI (AI T d b) q.1 (some q.2.2)) l=AI (E5 (AI T q.1 (some q.2.2)) l) d b
  rw[By (Ne.symm (h q (by simp))),PG fun p hp=>h p (by simp[hp])]
theorem Sb{x y:Ins}(hf:x.frames y=true)(h:x.go P s fun s1=>y.go P s1 K):y.go P s fun s2=>x.go P s2 K:=by
 unfold Ins.frames at hf;split at hf
 ·rename_i c f xs d e z;simp only[Bool.and_eq_true,Bool.not_eq_true',beq_eq_false_iff_ne,ne_eq]at hf;obtain⟨r1,r2⟩:=hf;have hrd:∀k∈As xs,k≠d:=fun k hk he=>by
   subst he;rw[List.contains_iff_mem.2 hk]at r1;cases r1
  simp only[Ins.go,Kd.goT,Kd.go,AS.set,AS.put,Option.getD_some,Tag.ok]at h ⊢;obtain⟨r,rows,h0,hc,_,h1,_,hK⟩:=h;obtain⟨hne,hd⟩:=MR h1;refine⟨hd,trivial,?_⟩;rw[Di (s:=s) (fun t ht=>BK (hrd t ht))];refine⟨r,rows,fun q hq=>by rw[BK (hne q hq)];exact h0 q hq,hc,trivial,?_⟩;rw[PG hne,By (f:=s.env) (i:=d) (j:=c) (Ne.symm r2)];exact hK
 ·cases hf
theorem UH{x y:Ins}(hm:x.rooms y=true)(h:x.go P s fun s1=>y.go P s1 K):y.go P s fun s2=>x.go P s2 K:=by
 obtain⟨xd,xg,xk,xt⟩:=x;obtain⟨yd,yg,yk,yt⟩:=y;unfold Ins.rooms at hm;split at hm
 ·rename_i c e w b z u v d e' w' b' z' u' v' hx hy;cases hx;cases hy;simp only[Bool.not_eq_true',beq_eq_false_iff_ne,ne_eq]at hm;simp only[Ins.go,Kd.goT,Kd.go,AS.set,AS.put,Option.getD_some,Tag.ok,AS.ev]at h ⊢;split at h
  ·obtain⟨a1,a2,a3,a4,a5,_,h⟩:=h;split at h
   ·obtain⟨b1,b2,b3,b4,b5,_,h⟩:=h;rw[BK (Ne.symm hm)]at b5;refine⟨b1,b2,b3,b4,b5,trivial,a1,a2,a3,a4,by rw[BK hm];exact a5,trivial,?_⟩;rw[By (f:=s.S) (i:=d) (j:=c) (Ne.symm hm),By (f:=s.env) (i:=d) (j:=c) (Ne.symm hm)];exact h
   ·exact h.elim
  ·exact h.elim
 ·rename_i c e z d e' z' hx hy;cases hx;cases hy;simp only[Bool.not_eq_true',beq_eq_false_iff_ne,ne_eq]at hm;simp only[Ins.go,Kd.goT,Kd.go,AS.set,AS.put,Option.getD_some,Tag.ok]at h ⊢;obtain⟨a1,_,b1,_,h⟩:=h;rw[BK (Ne.symm hm)]at b1;refine⟨b1,trivial,by rw[BK hm];exact a1,trivial,?_⟩;rw[By (f:=s.S) (i:=d) (j:=c) (Ne.symm hm),By (f:=s.env) (i:=d) (j:=c) (Ne.symm hm)];exact h
 ·cases hm
theorem swap{x y:Ins}(hi:x.indep y=true)(h:x.go P s fun s1=>y.go P s1 K):y.go P s fun s2=>x.go P s2 K:=by
 unfold Ins.indep at hi;simp only[Bool.and_eq_true,Bool.or_eq_true]at hi;obtain⟨⟨⟨⟨det1,det2⟩,i1⟩,i2⟩,i3⟩:=hi;rcases i3 with((((((i3|i3)|i3)|i3)|i3)|i3)|i3)|i3
 rotate_left
 ·exact T6 i3 h
 ·exact RZ i3 h
 ·exact UC i1 i2 i3 h
 ·exact Ru i1 i2 i3 h
 ·exact TJ i3 h
 ·exact Sb i3 h
 ·exact UH i3 h
 have hy:∀t∈y.reads,x.dst≠some t:=fun t ht e=>by
  rw[e]at i1;simp only[Bool.not_eq_true',Bool.and_eq_true]at i1;exact absurd (List.contains_iff_mem.2 ht) (by rw[i1.1];simp)
 have hx:∀t∈x.reads,y.dst≠some t:=fun t ht e=>by
  rw[e]at i2;simp only[Bool.not_eq_true']at i2;exact absurd (List.contains_iff_mem.2 ht) (by rw[i2];simp)
 have hd:∀d,x.dst=some d→y.dst≠some d:=fun d e e'=>by
  rw[e]at i1;simp only[Bool.and_eq_true,Bool.not_eq_true',beq_eq_false_iff_ne]at i1;exact i1.2 e'
 obtain⟨v1,S1,h1,k1,m1⟩:=Jn det1 h;rw[Dy]at h1;obtain⟨v2,S2,h2,k2,m2⟩:=Jn det2 h1;dsimp only at h2 k2 m2
 obtain⟨a1,a2⟩:=m2 s.env (fun t ht=>(Ge (hy t ht)).symm);obtain⟨b1,b2⟩:=m1 ((⟨s.env,S1⟩:AS).put y.dst v2).env (fun t ht=>Ge (hx t ht));have e0:∀T:AA,(⟨((⟨s.env,S1⟩:AS).put y.dst v2).env,T⟩:AS).put x.dst v1=(⟨((⟨s.env,S1⟩:AS).put x.dst v1).env,T⟩:AS).put y.dst v2:=fun T=>by
  have q1:(⟨((⟨s.env,S1⟩:AS).put y.dst v2).env,T⟩:AS)=(⟨s.env,T⟩:AS).put y.dst v2:=by rw[Dy (S1:=T),Ek (S1:=T) (S2:=S1)]
  have q2:(⟨((⟨s.env,S1⟩:AS).put x.dst v1).env,T⟩:AS)=(⟨s.env,T⟩:AS).put x.dst v1:=by rw[Dy (S1:=T),Ek (S1:=T) (S2:=S1)]
  rw[q1,q2];exact(JJ hd).symm
 rcases i3 with((((i3|i3)|i3)|i3)|i3)|i3
 ·have e1:=k1 i3.1;have e2:=k2 i3.2;subst e1;subst e2;refine a1 _ ?_;rw[Dy];exact b1 _ (by rw[e0];exact h2)
 ·-- x is pure
  obtain⟨i3,i4⟩:=i3;have e1:S1=s.S:=k1 (by cases hk:x.kd <;> rw[hk]at i3 <;> first|rfl|simp[Kd.pureS]at i3);subst e1;refine a1 _ ?_;rw[Dy,Ek (S1:=S2) (S2:=s.S)];exact b2 i3 i4 S2 _ (by rw[e0];exact h2)
 ·-- y is pure
  obtain⟨i3,i4⟩:=i3;have e2:S2=S1:=k2 (by cases hk:y.kd <;> rw[hk]at i3 <;> first|rfl|simp[Kd.pureS]at i3);subst e2;refine a2 i3 i4 s.S _ ?_;rw[Dy,Ek (S1:=s.S) (S2:=S2)];exact b1 _ (by rw[e0];exact h2)
 ·-- x only reads, y makes a block
  obtain⟨v,q1,q2⟩:=AAZ i3.1 h;have q3:=WX i3.2 q1;have hS:(s.put x.dst v).S=s.S:=by cases x.dst <;> rfl
  rw[hS]at q3;exact later det2 hx hy hd (GK s.S) q2 q3
 ·-- x reads a block that y leaves
  simp only[Ins.apart]at i3;split at i3
  ·rename_i a ha;rw[Bool.and_eq_true]at i3;obtain⟨v,q1,q2⟩:=S8 ha i3.1 h;have q3:=Mo i3.2 q1;have hS:(s.put x.dst v).S=s.S:=by cases x.dst <;> rfl
   rw[hS]at q3;exact later det2 hx hy hd (fun S'=>S' a=s.S a) q2 q3
  ·cases i3
 ·-- y reads a block that x leaves
  simp only[Ins.apart]at i3;split at i3
  ·rename_i a ha;rw[Bool.and_eq_true]at i3;have h':=Mo i3.2 h;obtain⟨v,T,c1,_,c3⟩:=Jn det1 h';have c1':=c1.1;have c2:T a=s.S a:=by
    have:=c1.2;rwa [S7]at this
   obtain⟨u,q1,q2⟩:=S8 ha i3.1 c1';rw[S7]at q2;have hyr:∀t∈y.reads,s.env t=((⟨s.env,T⟩:AS).put x.dst v).env t:=fun t ht=>(Ge (hy t ht)).symm;refine q2 s.S c2.symm s.env hyr _ ?_;obtain⟨c4,_⟩:=c3 ((⟨s.env,s.S⟩:AS).put y.dst u).env (fun t ht=>Ge (hx t ht));rw[Dy];refine c4 _ ?_;have e5:(⟨((⟨s.env,s.S⟩:AS).put y.dst u).env,T⟩:AS).put x.dst v=((⟨s.env,T⟩:AS).put x.dst v).put y.dst u:=by
    have q1:(⟨((⟨s.env,s.S⟩:AS).put y.dst u).env,T⟩:AS)=(⟨s.env,T⟩:AS).put y.dst u:=by rw[Dy (S1:=T),Ek (S1:=T) (S2:=s.S)]
    rw[q1];exact(JJ hd).symm
   rw[e5];exact q1
  ·cases i3
theorem Ins.go_mono{i:Ins}{K':AS→Prop}(h:i.go P s K)(hk:∀s,K s→K' s):i.go P s K':=by
 obtain⟨dst,guard,kd,tag⟩:=i;unfold Ins.go at h ⊢;dsimp only at h ⊢
 cases guard with
 | none=>exact Fh h fun v s' _ hv=>hk _ hv
 | some gw =>
  obtain⟨g,want⟩:=gw;dsimp only at h ⊢
  split at h
  ·exact⟨fun hb=>Fh (h.1 hb) fun v s' _ hv=>hk _ hv,fun hb=>hk _ (h.2 hb)⟩
  ·exact hk _ h
  ·exact h.elim
theorem WO{pre:List Ins}{y:Ins}{post:List Ins}(hi:∀x∈pre,x.indep y=true):∀{s:AS},Run P (pre++y::post) s K→y.go P s fun s'=>Run P (pre++post) s' K:=by
 induction pre with
 | nil=>intro s h;exact h
 | cons x pre ih =>
  intro s h;rw[List.cons_append,Sf]at h;have h2:x.go P s fun s'=>y.go P s' fun s''=>Run P (pre++post) s'' K:=Ins.go_mono h fun s' hs=>ih (fun z hz=>hi z (by simp[hz])) hs;have h3:=swap (hi x (by simp)) h2;exact h3
end

end Go.Proofs.YtbhnmjkmieiadaaGreatDoor
