/-
  Part 4 of the texts. Conditions: none.
-/
import Derived.Test.YtignopbnnaimaaaGreatDoorTWi3
import Derived.MapKept
import Derived.Maps.RangeRun
import Derived.WideKeyRuns
import Derived.DeepKeys3
import Derived.LaidEql
namespace Go.Proofs.YtignopbnnaimaaaGreatDoor
open Go Go.RowKit
set_option linter.unusedVariables false
set_option maxHeartbeats 400000
def Ins.go (P:Program) (i:Ins) (s:AS) (K:AS→Prop):Prop:=match i.guard with
 | none=>i.kd.goT P (i.dst.getD 0) s i.tag fun v s'=>K (s'.put i.dst v)
 | some (g,want)=>match s.env g with
  | .one (.st (.bool b))=>(b=want→i.kd.goT P (i.dst.getD 0) s i.tag fun v s'=>K (s'.put i.dst v))∧(¬ b=want→K (s.put i.dst (.tup [])))
  | .tup []=>K (s.put i.dst (.tup []))
  | _=>False
theorem Fh (P:Program) (i:Ins) (l:List Ins) (s:AS) (K:AS→Prop):Run P (i :: l) s K=i.go P s fun s'=>Run P l s' K:=rfl
def Ins.reads (i:Ins):List Nat:=(match i.guard with | none=>[] | some (g,_)=>[g]) ++ i.kd.reads
def Tag.isNone:Tag→Bool
 | .no=>true
 | _=>false
def Kd.readsAt:Kd→Bool
 | .load _ _ _ | .fieldAddr _ _ | .nilCheck _ | .indexAddr _ _ _=>true
 | _=>false
def Kd.isStore:Kd→Bool
 | .store _ _ _=>true
 | _=>false
def Ins.leaves (a:Nat) (i:Ins):Bool:=match i.tag with
 | .keeps ks=>ks.contains a
 | .onb b=>i.kd.isStore && !(a == b)
 | .no=>false
def Ins.apart (x y:Ins):Bool:=match x.tag with
 | .onb a=>x.kd.readsAt && y.leaves a
 | _=>false
def Ins.makes (x y:Ins):Bool:=(match x with | ⟨some d,none,.alloc _ _,.no⟩=>!y.kd.reads.contains d && !(y.dst == some d) | _=>false) && (match y with | ⟨some _,none,.append _ _ _ _ _ _,_⟩=>true | ⟨some _,none,.callN _ _,.no⟩=>true | _=>false)
def Ins.looks (x y:Ins):Bool:=(match x.kd with | .indexAddr _ _ _=>true | _=>false) && x.tag.isNone && y.kd.isStore
def Ins.beside (x y:Ins):Bool:=match x,y with
 | ⟨none,none,.store _ _ _,.onb a⟩,⟨none,none,.store _ _ _,.onb b⟩=>!(a == b)
 | _,_=>false
def Ins.frames (x y:Ins):Bool:=match x,y with
 | ⟨some c,none,.callW _ xs,.no⟩,⟨some d,none,.alloc _ _,.no⟩=>!(Ao xs).contains d && !(c == d)
 | _,_=>false
def Ins.rooms (x y:Ins):Bool:=match x,y with
 | ⟨some c,none,.makeSlice _ _ _ _ (.c _) (.c _),.no⟩,⟨some d,none,.makeSlice _ _ _ _ (.c _) (.c _),.no⟩=>!(c == d)
 | ⟨some c,none,.alloc _ _,.no⟩,⟨some d,none,.alloc _ _,.no⟩=>!(c == d)
 | _,_=>false
def Ins.indep (x y:Ins):Bool :=
 (x.kd.det && y.kd.det) && (match x.dst with | none=>true | some d=>!y.reads.contains d && !(y.dst == some d)) && (match y.dst with | none=>true | some d=>!x.reads.contains d) &&
 ((x.kd.keepS && y.kd.keepS) || (x.kd.pureS && x.tag.isNone) || (y.kd.pureS && y.tag.isNone) || (x.kd.keepS && y.kd.freshS) || x.apart y || y.apart x || x.makes y || y.makes x || x.looks y || y.looks x || x.beside y || x.frames y || x.rooms y)
section
variable {P:Program} {s:AS} {K:AS→Prop}
theorem G5 {kd:Kd} {x:Opd} (h:kd.ptrOpd=some x):∀ t ∈ x.reads,t ∈ kd.reads:=by
 cases kd <;> simp only [Kd.ptrOpd,Option.some.injEq,reduceCtorEq] at h <;> subst h <;> intro t ht <;> simp [Kd.reads,ht]
theorem TD {t:Tag} {kd:Kd} {env' env2:Nat→AV} {S1:AA} (h:t.ok kd s ⟨env2,S1⟩) (he:∀ t ∈ kd.reads,env' t=s.env t):t.ok kd ⟨env',s.S⟩ ⟨env',S1⟩:=by
 cases t with
 | no=>trivial
 | keeps ks=>exact h
 | onb id =>
  simp only [Tag.ok] at h ⊢
  split at h
  ·rename_i x hx
   rw [AF (s:=s) (fun t ht=>he t (G5 hx t ht))]
   exact h
  ·exact h.elim
theorem O9 {t:Tag} {kd:Kd} {env':Nat→AV} {S':AA} {s2:AS} (h:t.ok kd s s2) (he:∀ t ∈ kd.reads,env' t=s.env t):t.ok kd ⟨env',S'⟩ ⟨env',S'⟩:=by
 cases t with
 | no=>trivial
 | keeps ks=>exact fun _ _=>rfl
 | onb id =>
  simp only [Tag.ok] at h ⊢
  split at h
  ·rename_i x hx
   rw [AF (s:=s) (fun t ht=>he t (G5 hx t ht))]
   exact h
  ·exact h.elim
theorem go_mono {kd:Kd} {d:Nat} {K K':AV→AS→Prop} (h:kd.go P d s K) (hk:∀ v s',K v s'→K' v s'):kd.go P d s K':=by
 by_cases hdet:kd.det=true
 ·obtain ⟨v,S1,h1,h2,h3⟩:=Gj hdet h
  exact (h3 s.env (fun _ _=>rfl)).1 _ (hk _ _ h1)
 ·cases kd
  case next x =>
   simp only [Kd.go] at h ⊢
   split at h
   ·exact ⟨fun hj=>hk _ _ (h.1 hj),fun j x c h1 h2 h3=>hk _ _ (h.2 j x c h1 h2 h3)⟩
   ·exact h.elim
  case memoGet ok z m k =>
   simp only [Kd.go] at h ⊢
   split at h
   ·exact ⟨h.1,hk _ _ h.2.1,fun cs' ds' x h1 h2 h3=>hk _ _ (h.2.2 cs' ds' x h1 h2 h3)⟩
   ·exact h.elim
  case callX f xs =>
   obtain ⟨T,Post,h1,h2,h3,h4,h5⟩:=h
   exact ⟨T,Post,h1,h2,h3,h4,fun r S' k1 k2=>hk _ _ (h5 r S' k1 k2)⟩
  case callY f xs =>
   obtain ⟨T,Post,h1,h2,h3,h4,h5⟩:=h
   exact ⟨T,Post,h1,h2,h3,h4,fun r S' k1 k2=>hk _ _ (h5 r S' k1 k2)⟩
  all_goals exact absurd rfl hdet
theorem If {kd:Kd} (hdet:kd.det=true) {d:Nat} {t:Tag} {K:AV→AS→Prop} (h:kd.goT P d s t K):∃ v S1,K v ⟨s.env,S1⟩∧t.ok kd s ⟨s.env,S1⟩∧(kd.keepS=true→S1=s.S)∧∀ env':Nat→AV,(∀ t ∈ kd.reads,env' t=s.env t) →
  (∀ K':AV→AS→Prop,K' v ⟨env',S1⟩→kd.goT P d ⟨env',s.S⟩ t K')∧(kd.pureS=true→t.isNone=true→∀ (S':AA) (K':AV→AS→Prop),K' v ⟨env',S'⟩→kd.goT P d ⟨env',S'⟩ t K'):=by
 obtain ⟨v,S1,⟨h0,h1⟩,h2,h3⟩:=Gj hdet h
 refine ⟨v,S1,h1,h0,h2,fun env' he=>⟨fun K' hk=>?_,fun hp ht S' K' hk=>?_⟩⟩
 ·exact (h3 env' he).1 _ ⟨TD h0 he,hk⟩
 ·cases t with
  | no=>exact (h3 env' he).2 hp S' _ ⟨trivial,hk⟩
  | onb id=>cases ht
  | keeps ks=>cases ht
theorem Ck {kd:Kd} {d:Nat} {t:Tag} {K K':AV→AS→Prop} (h:kd.goT P d s t K) (hk:∀ v s',t.ok kd s s'→K v s'→K' v s'):kd.goT P d s t K':=by
 exact go_mono h fun v s' hv=>⟨hv.1,hk v s' hv.1 hv.2⟩
theorem UC {kd:Kd} {d:Nat} {t:Tag} {K:AV→AS→Prop} (h:kd.goT P d s t K):kd.go P d s K:=by
 exact go_mono h fun v s' hv=>hv.2
theorem GA {i:Ins} (hdet:i.kd.det=true) (h:i.go P s K):∃ v S1,K ((⟨s.env,S1⟩:AS).put i.dst v)∧(i.kd.keepS=true→S1=s.S)∧∀ env':Nat→AV,(∀ t ∈ i.reads,env' t=s.env t) →
  (∀ K':AS→Prop,K' ((⟨env',S1⟩:AS).put i.dst v)→i.go P ⟨env',s.S⟩ K')∧(i.kd.pureS=true→i.tag.isNone=true→∀ (S':AA) (K':AS→Prop),K' ((⟨env',S'⟩:AS).put i.dst v)→i.go P ⟨env',S'⟩ K'):=by
 obtain ⟨dst,guard,kd,tag⟩:=i
 unfold Ins.go at h
 dsimp only at h
 cases guard with
 | none =>
  dsimp only at h
  obtain ⟨v,S1,h1,_,h2,h3⟩:=If hdet h
  refine ⟨v,S1,h1,h2,fun env' he=>?_⟩
  obtain ⟨k1,k2⟩:=h3 env' (fun t ht=>he t (by simp [Ins.reads,ht]))
  exact ⟨fun K' hk=>by unfold Ins.go;exact k1 _ hk,fun hp ht S' K' hk=>by unfold Ins.go;exact k2 hp ht S' _ hk⟩
 | some gw =>
  obtain ⟨g,want⟩:=gw
  dsimp only at h
  have eg:∀ env':Nat→AV,(∀ t ∈ (Ins.mk dst (some (g,want)) kd tag).reads,env' t=s.env t)→env' g=s.env g:=fun env' he=>he g (by simp [Ins.reads])
  split at h
  ·rename_i b e1
   by_cases hb:b=want
   ·obtain ⟨v,S1,h1,_,h2,h3⟩:=If hdet (h.1 hb)
    refine ⟨v,S1,h1,h2,fun env' he=>?_⟩
    obtain ⟨k1,k2⟩:=h3 env' (fun t ht=>he t (by simp [Ins.reads,ht]))
    have e2:=(eg env' he).trans e1
    exact ⟨fun K' hk=>by unfold Ins.go;simp only [e2];exact ⟨fun _=>k1 _ hk,fun hn=>absurd hb hn⟩,fun hp ht S' K' hk=>by unfold Ins.go;simp only [e2];exact ⟨fun _=>k2 hp ht S' _ hk,fun hn=>absurd hb hn⟩⟩
   ·refine ⟨.tup [],s.S,h.2 hb,fun _=>rfl,fun env' he=>?_⟩
    have e2:=(eg env' he).trans e1
    exact ⟨fun K' hk=>by unfold Ins.go;simp only [e2];exact ⟨fun h=>absurd h hb,fun _=>hk⟩,fun hp ht S' K' hk=>by unfold Ins.go;simp only [e2];exact ⟨fun h=>absurd h hb,fun _=>hk⟩⟩
  ·rename_i e1
   refine ⟨.tup [],s.S,h,fun _=>rfl,fun env' he=>?_⟩
   have e2:=(eg env' he).trans e1
   exact ⟨fun K' hk=>by unfold Ins.go;simp only [e2];exact hk,fun hp ht S' K' hk=>by unfold Ins.go;simp only [e2];exact hk⟩
  ·exact h.elim
theorem TG {kd:Kd} {d:Nat} {t:Tag} {K:AV→AS→Prop} (hk:kd.keepS=true) (h:kd.goT P d s t K):∃ v,K v s∧∀ S',Eu s.S S'→∀ env':Nat→AV,(∀ t ∈ kd.reads,env' t=s.env t)→∀ K':AV→AS→Prop,K' v ⟨env',S'⟩→kd.goT P d ⟨env',S'⟩ t K':=by
 obtain ⟨v,⟨h0,h1⟩,h2⟩:=UQ hk h
 exact ⟨v,h1,fun S' hs env' he K' hK=>h2 S' hs env' he _ ⟨O9 h0 he,hK⟩⟩
theorem Ta {kd:Kd} {d a:Nat} {x:Opd} {K:AV→AS→Prop} (hr:kd.readsAt=true) (hx:kd.ptrOpd=some x) (hp:Fr a (s.ev x)) (h:kd.go P d s K):∃ v,K v s∧∀ S',S' a=s.S a→∀ env':Nat→AV,(∀ t ∈ kd.reads,env' t=s.env t)→∀ K':AV→AS→Prop,K' v ⟨env',S'⟩→kd.go P d ⟨env',S'⟩ K':=by
 cases kd
 case load g n y =>
  simp only [Kd.ptrOpd,Option.some.injEq] at hx
  subst hx
  simp only [Kd.go] at h
  split at h
  ·rename_i cs e1
   rw [e1] at hp
   exact hp.elim
  ·rename_i cs e1
   rw [e1] at hp
   exact hp.elim
  ·rename_i id m k off e1
   rw [e1] at hp
   have hp:id=a:=hp
   subst hp
   split at h
   ·rename_i cs e2
    refine ⟨_,h.2,fun S' hs env' he K' hK=>?_⟩
    have e3:Cf S' id m k=some cs:=by
     unfold Cf at e2 ⊢
     rw [hs]
     exact e2
    simp only [Kd.go,AF he,e1,e3]
    exact ⟨h.1,hK⟩
   ·exact h.elim
  ·exact h.elim
 case fieldAddr off y =>
  simp only [Kd.ptrOpd,Option.some.injEq] at hx
  subst hx
  simp only [Kd.go] at h
  split at h
  ·rename_i cs e1
   rw [e1] at hp
   exact hp.elim
  ·rename_i cs e1
   rw [e1] at hp
   exact hp.elim
  ·rename_i id m k o e1
   rw [e1] at hp
   have hp:id=a:=hp
   subst hp
   split at h
   ·rename_i b e2
    refine ⟨_,h.2,fun S' hs env' he K' hK=>?_⟩
    rw [← hs] at e2
    simp only [Kd.go,AF he,e1,e2]
    exact ⟨h.1,hK⟩
   ·exact h.elim
  ·exact h.elim
 case indexAddr w y i =>
  simp only [Kd.ptrOpd,Option.some.injEq] at hx
  subst hx
  simp only [Kd.go] at h
  split at h
  ·rename_i c k n e1 e2
   rw [e1] at hp
   have ec:∀ (env':Nat→AV) (S':AA),(∀ t ∈ (Kd.indexAddr w y i).reads,env' t=s.env t)→(⟨env',S'⟩:AS).ev y=s.ev y∧(⟨env',S'⟩:AS).ev i=s.ev i:=fun env' S' he =>
    ⟨AF fun t ht=>he t (by simp [Kd.reads,ht]),AF fun t ht=>he t (by simp [Kd.reads,ht])⟩
   split at h
   ·exact hp.elim
   ·exact hp.elim
   ·rename_i id m
    have hp:id=a:=hp
    subst hp
    split at h
    ·rename_i e w' xs e3
     obtain ⟨h1,h2,h3⟩:=h
     have h3':=h3
     unfold CP at h3
     obtain ⟨h4,h5⟩:=h3
     split at h5
     ·rename_i x hx
      refine ⟨_,h5,fun S' hs env' he K' hK=>?_⟩
      rw [← hs] at e3
      simp only [Kd.go,(ec env' S' he).1,(ec env' S' he).2,e1,e2,e3,CP,hx]
      exact ⟨h1,h2,h4,hK⟩
     ·exact h5.elim
    ·rename_i e w' xs e3
     obtain ⟨h1,h2,h3,h4,h5⟩:=h
     refine ⟨_,h5,fun S' hs env' he K' hK=>?_⟩
     rw [← hs] at e3
     simp only [Kd.go,(ec env' S' he).1,(ec env' S' he).2,e1,e2,e3]
     exact ⟨h1,h2,h3,h4,hK⟩
    ·rename_i e cs e3
     obtain ⟨h1,h2,h3,h4,h5⟩:=h
     refine ⟨_,h5,fun S' hs env' he K' hK=>?_⟩
     rw [← hs] at e3
     simp only [Kd.go,(ec env' S' he).1,(ec env' S' he).2,e1,e2,e3]
     exact ⟨h1,h2,h3,h4,hK⟩
    ·exact h.elim
   ·exact h.elim
  ·exact h.elim
 case nilCheck y =>
  simp only [Kd.ptrOpd,Option.some.injEq] at hx
  subst hx
  simp only [Kd.go] at h
  split at h
  ·rename_i cs e1
   rw [e1] at hp
   exact hp.elim
  ·rename_i cs e1
   rw [e1] at hp
   exact hp.elim
  ·rename_i id m k o e1
   rw [e1] at hp
   have hp:id=a:=hp
   subst hp
   split at h
   ·rename_i b e2
    refine ⟨_,h.2,fun S' hs env' he K' hK=>?_⟩
    rw [← hs] at e2
    simp only [Kd.go,AF he,e1,e2]
    exact ⟨h.1,hK⟩
   ·exact h.elim
  ·exact h.elim
 all_goals cases hr
theorem Qm {kd:Kd} {d a:Nat} {K:AV→AS→Prop} (hr:kd.readsAt=true) (h:kd.goT P d s (.onb a) K):∃ v,K v s∧∀ S',S' a=s.S a→∀ env':Nat→AV,(∀ t ∈ kd.reads,env' t=s.env t)→∀ K':AV→AS→Prop,K' v ⟨env',S'⟩→kd.goT P d ⟨env',S'⟩ (.onb a) K':=by
 obtain ⟨v0,S1,_,h0,_,_⟩:=If (by cases kd <;> first | rfl | cases hr) h
 have h00:=h0
 simp only [Tag.ok] at h0
 split at h0
 ·rename_i x hx
  obtain ⟨v,⟨g0,g1⟩,g2⟩:=Ta hr hx h0 h
  exact ⟨v,g1,fun S' hs env' he K' hK=>g2 S' hs env' he _ ⟨O9 g0 he,hK⟩⟩
 ·exact h0.elim
theorem P8 {kd:Kd} {d a b:Nat} {x:Opd} {K:AV→AS→Prop} (hr:kd.isStore=true) (hab:¬ a=b) (hx:kd.ptrOpd=some x) (hp:Fr b (s.ev x)) (h:kd.go P d s K):kd.go P d s fun v s'=>K v s'∧s'.S a=s.S a:=by
 cases kd
 case store n y v =>
  simp only [Kd.ptrOpd,Option.some.injEq] at hx
  subst hx
  simp only [Kd.go] at h ⊢
  split at h
  ·rename_i id m k off c e1 e2
   rw [e1] at hp
   have hp:id=b:=hp
   subst hp
   split at h
   ·rename_i e cs e3
    exact ⟨h.1,h.2.1,h.2.2.1,h.2.2.2,AJ _ hab _⟩
   ·rename_i e cs e3
    exact ⟨h.1,h.2.1,h.2.2.1,h.2.2.2,AJ _ hab _⟩
   ·rename_i e w xs e3
    split at h
    ·exact ⟨h.1,h.2.1,h.2.2.1,h.2.2.2,AJ _ hab _⟩
    ·exact h.elim
   ·exact h.elim
  ·exact h.elim
 all_goals cases hr
theorem Ny {kd:Kd} {d a:Nat} {dst:Option Nat} {g:Option (Nat × Bool)} {t:Tag} {K:AV→AS→Prop} (hl:(Ins.mk dst g kd t).leaves a=true) (h:kd.goT P d s t K):kd.goT P d s t fun v s'=>K v s'∧s'.S a=s.S a:=by
 cases t with
 | no=>cases hl
 | keeps ks =>
  simp only [Ins.leaves] at hl
  exact Ck h fun v s' hok hk=>⟨hk,hok a (List.contains_iff_mem.1 hl)⟩
 | onb b =>
  simp only [Ins.leaves,Bool.and_eq_true,Bool.not_eq_true',beq_eq_false_iff_ne] at hl
  obtain ⟨v0,S1,_,h0,_,_⟩:=If (by cases kd <;> first | rfl | cases hl.1) h
  simp only [Tag.ok] at h0
  split at h0
  ·rename_i x hx
   have h2:=P8 hl.1 hl.2 hx h0 h
   exact go_mono h2 fun v s' hv=>⟨hv.1.1,hv.1.2,hv.2⟩
  ·exact h0.elim
theorem J4 {i:Ins} (X:AA→Prop) (hg:∀ {d:Nat} {K:AV→AS→Prop},i.kd.goT P d s i.tag K→∃ v,K v s∧∀ S',X S'→∀ env':Nat→AV,(∀ t ∈ i.kd.reads,env' t=s.env t)→∀ K':AV→AS→Prop,K' v ⟨env',S'⟩→i.kd.goT P d ⟨env',S'⟩ i.tag K') (h:i.go P s K) :
  ∃ v,K (s.put i.dst v)∧∀ S',X S'→∀ env':Nat→AV,(∀ t ∈ i.reads,env' t=s.env t)→∀ K':AS→Prop,K' ((⟨env',S'⟩:AS).put i.dst v)→i.go P ⟨env',S'⟩ K':=by
 obtain ⟨dst,guard,kd,tag⟩:=i
 unfold Ins.go at h
 dsimp only at h hg
 cases guard with
 | none =>
  dsimp only at h
  obtain ⟨v,h1,h2⟩:=hg h
  exact ⟨v,h1,fun S' hs env' he K' hK=>by unfold Ins.go;exact h2 S' hs env' (fun t ht=>he t (by simp [Ins.reads,ht])) _ hK⟩
 | some gw =>
  obtain ⟨g,want⟩:=gw
  dsimp only at h
  have eg:∀ env':Nat→AV,(∀ t ∈ (Ins.mk dst (some (g,want)) kd tag).reads,env' t=s.env t)→env' g=s.env g:=fun env' he=>he g (by simp [Ins.reads])
  split at h
  ·rename_i b e1
   by_cases hb:b=want
   ·obtain ⟨v,h1,h2⟩:=hg (h.1 hb)
    refine ⟨v,h1,fun S' hs env' he K' hK=>?_⟩
    have e2:=(eg env' he).trans e1
    unfold Ins.go
    simp only [e2]
    exact ⟨fun _=>h2 S' hs env' (fun t ht=>he t (by simp [Ins.reads,ht])) _ hK,fun hn=>absurd hb hn⟩
   ·refine ⟨.tup [],h.2 hb,fun S' hs env' he K' hK=>?_⟩
    have e2:=(eg env' he).trans e1
    unfold Ins.go
    simp only [e2]
    exact ⟨fun h=>absurd h hb,fun _=>hK⟩
  ·rename_i e1
   refine ⟨.tup [],h,fun S' hs env' he K' hK=>?_⟩
   have e2:=(eg env' he).trans e1
   unfold Ins.go
   simp only [e2]
   exact hK
  ·exact h.elim
theorem Tk {i:Ins} (hk:i.kd.keepS=true) (h:i.go P s K):∃ v,K (s.put i.dst v)∧∀ S',Eu s.S S'→∀ env':Nat→AV,(∀ t ∈ i.reads,env' t=s.env t)→∀ K':AS→Prop,K' ((⟨env',S'⟩:AS).put i.dst v)→i.go P ⟨env',S'⟩ K' :=
 J4 (Eu s.S) (fun h=>TG hk h) h
theorem MN {i:Ins} {a:Nat} (ht:i.tag=.onb a) (hr:i.kd.readsAt=true) (h:i.go P s K):∃ v,K (s.put i.dst v)∧∀ S',S' a=s.S a→∀ env':Nat→AV,(∀ t ∈ i.reads,env' t=s.env t)→∀ K':AS→Prop,K' ((⟨env',S'⟩:AS).put i.dst v)→i.go P ⟨env',S'⟩ K' :=
 J4 (fun S'=>S' a=s.S a) (fun h=>by rw [ht] at h ⊢;exact Qm hr h) h
theorem Hf {i:Ins} (X:AA→Prop) (h0:X s.S) (hg:∀ {d:Nat} {K:AV→AS→Prop},i.kd.goT P d s i.tag K→i.kd.goT P d s i.tag fun v s'=>K v s'∧X s'.S) (h:i.go P s K):i.go P s fun s'=>K s'∧X s'.S:=by
 obtain ⟨dst,guard,kd,tag⟩:=i
 have hp:∀ (s':AS) (v:AV),(s'.put dst v).S=s'.S:=fun s' v=>by cases dst <;> rfl
 unfold Ins.go at h ⊢
 dsimp only at h hg ⊢
 have key:∀ {K:AS→Prop},(kd.goT P (dst.getD 0) s tag fun v s'=>K (s'.put dst v))→kd.goT P (dst.getD 0) s tag fun v s'=>K (s'.put dst v)∧X (s'.put dst v).S:=fun {K} h =>
  Ck (hg h) fun v s' _ hk=>⟨hk.1,by rw [hp];exact hk.2⟩
 cases guard with
 | none=>exact key h
 | some gw =>
  obtain ⟨g,want⟩:=gw
  dsimp only at h ⊢
  split at h
  ·rename_i b e1
   exact ⟨fun hb=>key (h.1 hb),fun hb=>⟨h.2 hb,by rw [hp];exact h0⟩⟩
  ·exact ⟨h,by rw [hp];exact h0⟩
  ·exact h.elim
theorem Pg {i:Ins} (hf:i.kd.freshS=true) (h:i.go P s K):i.go P s fun s'=>K s'∧Eu s.S s'.S :=
 Hf (Eu s.S) (fun _ _ hb=>hb) (fun {d K} h=>by
  exact go_mono (SC hf h) fun v s' hv=>⟨hv.1.1,hv.1.2,hv.2⟩) h
theorem I0 {i:Ins} {a:Nat} (hl:i.leaves a=true) (h:i.go P s K):i.go P s fun s'=>K s'∧s'.S a=s.S a :=
 Hf (fun S=>S a=s.S a) rfl (fun h=>Ny (dst:=i.dst) (g:=i.guard) hl h) h
theorem Dk {env:Nat→AV} {S1:AA} {dd:Option Nat} {v:AV} {t:Nat} (h:dd ≠ some t):((⟨env,S1⟩:AS).put dd v).env t=env t:=by
 cases dd with
 | none=>rfl
 | some d=>exact AJ _ (fun e=>h (by rw [e])) _
theorem G8 {env:Nat→AV} {S1:AA} {d1 d2:Option Nat} {v1 v2:AV} (h:∀ d,d1=some d→d2 ≠ some d):((⟨env,S1⟩:AS).put d1 v1).put d2 v2=((⟨env,S1⟩:AS).put d2 v2).put d1 v1:=by
 cases d1 with
 | none=>rfl
 | some a =>
  cases d2 with
  | none=>rfl
  | some b =>
   have hne:b ≠ a:=fun e=>h a rfl (by rw [e])
   simp only [AS.put,AS.mk.injEq,and_true]
   funext k
   unfold AK
   by_cases h1:k=a
   ·subst h1
    rw [if_neg (fun e=>hne e.symm),if_pos rfl,if_pos rfl]
   ·rw [if_neg h1,if_neg h1]
theorem Ka {env:Nat→AV} {S1:AA} {dd:Option Nat} {v:AV}:((⟨env,S1⟩:AS).put dd v).S=S1:=by cases dd <;> rfl
theorem DJ {env:Nat→AV} {S1:AA} {dd:Option Nat} {v:AV}:(⟨env,S1⟩:AS).put dd v=⟨((⟨env,S1⟩:AS).put dd v).env,S1⟩:=by cases dd <;> rfl
theorem Dp {env:Nat→AV} {S1 S2:AA} {dd:Option Nat} {v:AV}:((⟨env,S1⟩:AS).put dd v).env=((⟨env,S2⟩:AS).put dd v).env:=by cases dd <;> rfl
theorem later {x y:Ins} (hdy:y.kd.det=true) (hx:∀ t ∈ x.reads,y.dst ≠ some t) (hy:∀ t ∈ y.reads,x.dst ≠ some t) (hd:∀ d,x.dst=some d→y.dst ≠ some d) (X:AA→Prop) {v:AV}
  (q2:∀ S',X S'→∀ env':Nat→AV,(∀ t ∈ x.reads,env' t=s.env t)→∀ K':AS→Prop,K' ((⟨env',S'⟩:AS).put x.dst v)→x.go P ⟨env',S'⟩ K')
  (q3:y.go P (s.put x.dst v) fun s'=>K s'∧X s'.S):y.go P s fun s2=>x.go P s2 K:=by
 have hS:(s.put x.dst v).S=s.S:=by cases x.dst <;> rfl
 obtain ⟨u,S3,r1,r2,r3⟩:=GA hdy q3
 have r1b:X S3:=by
  have:=r1.2
  rwa [Ka] at this
 obtain ⟨c1,_⟩:=r3 s.env (fun t ht=>by
  cases hxd:x.dst with
  | none=>rfl
  | some d=>exact (AJ _ (fun e=>hy t ht (by rw [hxd,e])) _).symm)
 rw [hS] at c1
 refine c1 _ ?_
 rw [DJ]
 refine q2 S3 r1b _ (fun t ht=>Dk (hx t ht)) _ ?_
 have hsx:(s.put x.dst v).env=((⟨s.env,S3⟩:AS).put x.dst v).env:=by cases x.dst <;> rfl
 have e4:(⟨((⟨s.env,S3⟩:AS).put y.dst u).env,S3⟩:AS).put x.dst v=(⟨(s.put x.dst v).env,S3⟩:AS).put y.dst u:=by
  rw [hsx,← DJ,← DJ]
  exact (G8 hd).symm
 rw [e4]
 exact r1.1
def Hg:Option AU→Prop
 | none=>True
 | some (.box _ _)=>True
 | _=>False
theorem OY {S:AA} {id n:Nat} {ys:List (List SV)} (h:Cp S (.row id n)=some ys):¬ Hg (S id):=by
 intro hn
 simp only [Cp] at h
 cases hS:S id with
 | none=>rw [hS] at h;cases h
 | some b =>
  rw [hS] at h hn
  cases b <;> first | exact hn | cases h
theorem GW {S T:AA} {c:Nat} (hn:Hg (S c)) (ho:∀ i,i ≠ c→T i=S i) {a:AC} {ys:List (List SV)} (h:Cp S a=some ys):Cp T a=some ys:=by
 cases a
 case row id n =>
  have hne:id ≠ c:=fun e=>by subst e;exact OY h hn
  simp only [Cp] at h ⊢
  rw [ho id hne]
  exact h
 case st c=>cases c <;> first | exact h | cases h
 all_goals first | exact h | cases h
theorem Ki {mu:Bool} {e:TypeId} {w bytes d:Nat} {x y:Opd} {K:AV→AS→Prop} (h:(Kd.append mu e w bytes x y).go P d s K) :
  ∃ v id b,K v ⟨s.env,AK s.S id (some b)⟩∧(∀ c,Hg (s.S c)→d ≠ c→id ≠ c)∧∀ (c:Nat) (env':Nat→AV) (T:AA),id ≠ c→Hg (s.S c)→(∀ t ∈ (Kd.append mu e w bytes x y).reads,env' t=s.env t)→(∀ i,i ≠ c→T i=s.S i)→∀ K':AV→AS→Prop,K' v ⟨env',AK T id (some b)⟩→(Kd.append mu e w bytes x y).go P d ⟨env',T⟩ K':=by
 have hex:∀ env':Nat→AV,∀ T,(∀ t ∈ (Kd.append mu e w bytes x y).reads,env' t=s.env t)→(⟨env',T⟩:AS).ev x=s.ev x∧(⟨env',T⟩:AS).ev y=s.ev y:=fun env' T hr =>
  ⟨AF fun t ht=>hr t (by simp [Kd.reads,ht]),AF fun t ht=>hr t (by simp [Kd.reads,ht])⟩
 simp only [Kd.go] at h
 split at h
 ·rename_i cx cy e1 e2
  split at h
  ·rename_i ys e3
   obtain ⟨hw,h⟩:=h
   split at h
   ·rename_i xs
    refine ⟨_,d,_,h.2.2.2.2.2,fun c _ hc=>hc,fun c env' T hid hn hr ho K' hK=>?_⟩
    obtain ⟨q1,q2⟩:=hex env' T hr
    simp only [Kd.go,q1,q2,e1,e2,GW hn ho e3]
    exact ⟨hw,(ho d hid).trans h.1,h.2.1,h.2.2.1,h.2.2.2.1,h.2.2.2.2.1,hK⟩
   ·rename_i id m
    split at h
    ·rename_i e' w' xs e4
     refine ⟨_,id,_,h.2.2.2,fun c hn _ he=>by subst he;rw [e4] at hn;exact hn,fun c env' T hid hn hr ho K' hK=>?_⟩
     obtain ⟨q1,q2⟩:=hex env' T hr
     simp only [Kd.go,q1,q2,e1,e2,GW hn ho e3,ho id hid,e4]
     exact ⟨hw,h.1,h.2.1,h.2.2.1,hK⟩
    ·rename_i e' w' xs e4
     refine ⟨_,id,_,h.2.2.2,fun c hn _ he=>by subst he;rw [e4] at hn;exact hn,fun c env' T hid hn hr ho K' hK=>?_⟩
     obtain ⟨q1,q2⟩:=hex env' T hr
     simp only [Kd.go,q1,q2,e1,e2,GW hn ho e3,ho id hid,e4]
     exact ⟨hw,h.1,h.2.1,h.2.2.1,hK⟩
    ·exact h.elim
   ·exact h.elim
  ·exact h.elim
 ·exact h.elim
theorem BK {α:Type} {f:Nat→α} {i j:Nat} {a b:α} (h:i ≠ j):AK (AK f i a) j b=AK (AK f j b) i a:=by
 funext k
 unfold AK
 by_cases h1:k=j <;> by_cases h2:k=i <;> simp_all
theorem A_ {α:Type} {f:Nat→α} {i j:Nat} {a:α} (h:j ≠ i):AK f i a j=f j:=by
 unfold AK
 simp [h]
def BR (S T:AA):Prop:=∀ id,(∀ e w xs,S id=some (.arow e w xs) ↔ T id=some (.arow e w xs))∧(∀ e w n,(∃ xs,S id=some (.mrow e w xs)∧xs.length=n) ↔ (∃ xs,T id=some (.mrow e w xs)∧xs.length=n))∧∀ n,(∃ e cs,S id=some (.crow e cs)∧cs.length=n) ↔ (∃ e cs,T id=some (.crow e cs)∧cs.length=n)
theorem BR.refl (S:AA):BR S S:=fun id=>⟨fun _ _ _=>Iff.rfl,fun _ _ _=>Iff.rfl,fun _=>Iff.rfl⟩
theorem BR.symm {S T:AA} (h:BR S T):BR T S:=fun id=>⟨fun e w xs=>((h id).1 e w xs).symm,fun e w n=>((h id).2.1 e w n).symm,fun n=>((h id).2.2 n).symm⟩
theorem OS {S:AA} {a:Nat} {e e':TypeId} {cs cs':List AC} (h:S a=some (.box e cs)):BR S (AK S a (some (.box e' cs'))):=fun id=>by
 by_cases hi:id=a
 ·subst hi
  rw [h,AD]
  refine ⟨fun _ _ _=>⟨fun q=>(by cases q),fun q=>(by cases q)⟩,fun _ _ _=>⟨fun ⟨_,q,_⟩=>(by cases q),fun ⟨_,q,_⟩=>(by cases q)⟩,fun _=>⟨fun ⟨_,_,q,_⟩=>(by cases q),fun ⟨_,_,q,_⟩=>(by cases q)⟩⟩
 ·rw [AJ _ hi]
  exact ⟨fun _ _ _=>Iff.rfl,fun _ _ _=>Iff.rfl,fun _=>Iff.rfl⟩
theorem M3 {S:AA} {a:Nat} {e:TypeId} {cs cs':List AC} (h:S a=some (.crow e cs)) (hl:cs'.length=cs.length):BR S (AK S a (some (.crow e cs'))):=fun id=>by
 by_cases hi:id=a
 ·subst hi
  rw [h,AD]
  refine ⟨fun _ _ _=>⟨fun q=>(by cases q),fun q=>(by cases q)⟩,fun _ _ _=>⟨fun ⟨_,q,_⟩=>(by cases q),fun ⟨_,q,_⟩=>(by cases q)⟩,fun n=>⟨fun ⟨e2,ds,q,hn⟩=>?_,fun ⟨e2,ds,q,hn⟩=>?_⟩⟩
  ·cases q
   exact ⟨e,cs',rfl,hl.trans hn⟩
  ·cases q
   exact ⟨e,cs,rfl,hl.symm.trans hn⟩
 ·rw [AJ _ hi]
  exact ⟨fun _ _ _=>Iff.rfl,fun _ _ _=>Iff.rfl,fun _=>Iff.rfl⟩
theorem Ng {S:AA} {a:Nat} {e:TypeId} {w:Nat} {xs ys:List (List SV)} (h:S a=some (.mrow e w xs)) (hl:ys.length=xs.length):BR S (AK S a (some (.mrow e w ys))):=fun id=>by
 by_cases hi:id=a
 ·subst hi
  rw [h,AD]
  refine ⟨fun _ _ _=>⟨fun q=>(by cases q),fun q=>(by cases q)⟩,fun e2 w2 n=>⟨fun ⟨zs,q,hn⟩=>?_,fun ⟨zs,q,hn⟩=>?_⟩,fun _=>⟨fun ⟨_,_,q,_⟩=>(by cases q),fun ⟨_,_,q,_⟩=>(by cases q)⟩⟩
  ·cases q
   exact ⟨ys,rfl,hl.trans hn⟩
  ·cases q
   exact ⟨xs,rfl,hl.symm.trans hn⟩
 ·rw [AJ _ hi]
  exact ⟨fun _ _ _=>Iff.rfl,fun _ _ _=>Iff.rfl,fun _=>Iff.rfl⟩
theorem NU {S T:AA} (h:BR S T) {c:AC} {x:SV} (hx:stC S c=some x):stC T c=some x:=by
 cases c with
 | row id n =>
  simp only [stC] at hx ⊢
  split at hx
  ·rename_i e w xs e1
   rw [((h id).1 e w xs).1 e1]
   exact hx
  ·cases hx
 | fn f caps=>cases caps <;> exact hx
 | _=>exact hx
theorem Ke {S T:AA} (h:BR S T):∀ {cs:List AC} {xs:List SV},stCs S cs=some xs→stCs T cs=some xs
 | [],xs,hx=>hx
 | c :: cs,xs,hx=>by
  simp only [stCs] at hx ⊢
  split at hx
  ·rename_i x xs' h1 h2
   rw [NU h h1,Ke h h2]
   exact hx
  ·cases hx
theorem Ji {S:AA} {a:Nat} {e:TypeId} {cs:List AC} (h:S a=none):BR S (AK S a (some (.box e cs))):=fun id=>by
 by_cases hi:id=a
 ·subst hi
  rw [h,AD]
  refine ⟨fun _ _ _=>⟨fun q=>(by cases q),fun q=>(by cases q)⟩,fun _ _ _=>⟨fun ⟨_,q,_⟩=>(by cases q),fun ⟨_,q,_⟩=>(by cases q)⟩,fun _=>⟨fun ⟨_,_,q,_⟩=>(by cases q),fun ⟨_,_,q,_⟩=>(by cases q)⟩⟩
 ·rw [AJ _ hi]
  exact ⟨fun _ _ _=>Iff.rfl,fun _ _ _=>Iff.rfl,fun _=>Iff.rfl⟩
theorem Kq {S T:AA} (h:BR S T) {c x:AC} (hx:outC S c=some x):outC T c=some x:=by
 have key:∀ c:AC,(stC S c).map AC.st=some x→(stC T c).map AC.st=some x:=fun c hx=>by
  rw [Option.map_eq_some_iff] at hx ⊢
  obtain ⟨a,h1,h2⟩:=hx
  exact ⟨a,NU h h1,h2⟩
 cases c with
 | fn f caps =>
  cases caps with
  | nil=>exact hx
  | cons y ys=>exact hx
 | eptr cs=>exact hx
 | ubool=>exact hx
 | _=>simp only [outC] at hx ⊢;exact key _ hx
theorem Jh {S T:AA} (h:BR S T):∀ {cs xs:List AC},outCs S cs=some xs→outCs T cs=some xs
 | [],xs,hx=>hx
 | c :: cs,xs,hx=>by
  simp only [outCs] at hx ⊢
  split at hx
  ·rename_i x xs' h1 h2
   rw [Kq h h1,Jh h h2]
   exact hx
  ·cases hx
mutual
theorem QX {S T:AA} (h:BR S T):∀ {v x:AV},outV S v=some x→outV T v=some x
 | .one c,x,hx=>by
  simp only [outV,Option.map_eq_some_iff] at hx ⊢
  obtain ⟨a,h1,h2⟩:=hx
  exact ⟨a,Kq h h1,h2⟩
 | .agg cs,x,hx=>by
  simp only [outV,Option.map_eq_some_iff] at hx ⊢
  obtain ⟨a,h1,h2⟩:=hx
  exact ⟨a,Jh h h1,h2⟩
 | .tup vs,x,hx=>by
  simp only [outV,Option.map_eq_some_iff] at hx ⊢
  obtain ⟨a,h1,h2⟩:=hx
  exact ⟨a,Er h h1,h2⟩
 | .any,x,hx=>hx
theorem Er {S T:AA} (h:BR S T):∀ {vs xs:List AV},outVs S vs=some xs→outVs T vs=some xs
 | [],xs,hx=>hx
 | v :: vs,xs,hx=>by
  simp only [outVs] at hx ⊢
  split at hx
  ·rename_i x xs' h1 h2
   rw [QX h h1,Er h h2]
   exact hx
  ·cases hx
end
theorem Nw {x y:Ins} (hm:x.makes y=true) (h:x.go P s fun s1=>y.go P s1 K):y.go P s fun s2=>x.go P s2 K:=by
 obtain ⟨xd,xg,xk,xt⟩:=x
 obtain ⟨yd,yg,yk,yt⟩:=y
 unfold Ins.makes at hm
 rw [Bool.and_eq_true] at hm
 obtain ⟨m1,m2⟩:=hm
 split at m1
 ·rename_i d e z hx
  cases hx
  split at m2
  ·rename_i d' mu ty w bytes x' y' t hy
   cases hy
   simp only [Bool.and_eq_true,Bool.not_eq_true',beq_eq_false_iff_ne,ne_eq,Option.some.injEq] at m1
   obtain ⟨r1,r2⟩:=m1
   have hrd:∀ k ∈ (Kd.append mu ty w bytes x' y').reads,k ≠ d:=fun k hk he=>by
    subst he
    rw [List.contains_iff_mem.2 hk] at r1
    cases r1
   simp only [Ins.go,Kd.goT,Kd.go,AS.set,AS.put,Option.getD_some,Tag.ok] at h
   obtain ⟨h1,_,h2⟩:=h
   obtain ⟨v,id,b,k1,k2,k3⟩:=Ki (K:=fun v s'=>yt.ok (.append mu ty w bytes x' y') ⟨AK s.env d (.one (.ptr d 1 0 0)),AK s.S d (some (.box e z))⟩ s'∧K (s'.put (some d') v)) h2
   have hnr:Hg ((AK s.S d (some (.box e z))) d):=by unfold AK;rw [if_pos rfl];trivial
   have hid:id ≠ d:=k2 d hnr r2
   suffices key:(Kd.append mu ty w bytes x' y').go P d' s fun v s'=>yt.ok (.append mu ty w bytes x' y') s s'∧(⟨some d,none,.alloc e z,.no⟩:Ins).go P (s'.put (some d') v) K from key
   refine k3 d s.env s.S hid hnr (fun k hk=>(A_ (hrd k hk)).symm) (fun i hi=>(A_ hi).symm) _ ⟨?_,?_⟩
   ·have k0:=k1.1
    cases yt with
    | no=>trivial
    | keeps ks =>
     intro k hk
     have:=k0 k hk
     simp only at this ⊢
     by_cases hki:k=id
     ·subst hki
      have e0:∀ T:AA,AK T k (some b) k=some b:=fun T=>by unfold AK;rw [if_pos rfl]
      rw [A_ hid,e0] at this
      exact (e0 _).trans this
     ·exact A_ hki
    | onb i=>exact k0
   ·simp only [Ins.go,Kd.goT,Kd.go,AS.set,AS.put,Option.getD_some,Tag.ok]
    refine ⟨by rw [A_ (Ne.symm hid)];exact h1,trivial,?_⟩
    have k4:=k1.2
    simp only [AS.put] at k4
    rw [BK (Ne.symm hid),BK (f:=s.env) (Ne.symm r2)] at k4
    exact k4
  ·rename_i d' f xs hy
   cases hy
   simp only [Bool.and_eq_true,Bool.not_eq_true',beq_eq_false_iff_ne,ne_eq,Option.some.injEq] at m1
   obtain ⟨r1,r2⟩:=m1
   have hrd:∀ k ∈ Ao xs,k ≠ d:=fun k hk he=>by
    subst he
    simp only [Kd.reads] at r1
    rw [List.contains_iff_mem.2 hk] at r1
    cases r1
   simp only [Ins.go,Kd.goT,Kd.go,AS.set,AS.put,Option.getD_some,Tag.ok] at h ⊢
   obtain ⟨h1,_,h2⟩:=h
   split at h2
   ·rename_i vs e1
    obtain ⟨mu0,e0,w0,ys,hr,hd',_,hK⟩:=h2
    rw [A_ r2] at hd'
    have e2:outVs s.S (s.evs xs)=some vs:=by
     have:=Er (Ji (e:=e) (cs:=z) h1).symm e1
     rwa [Cl (s:=s) (fun t ht=>A_ (hrd t ht))] at this
    rw [e2]
    refine ⟨mu0,e0,w0,ys,hr,hd',trivial,by rw [A_ (Ne.symm r2)];exact h1,trivial,?_⟩
    rw [BK (f:=s.S) (i:=d') (j:=d) r2,BK (f:=s.env) (i:=d') (j:=d) r2]
    exact hK
   ·exact h2.elim
  ·cases m2
 ·cases m1
theorem NB {x y:Ins} (hm:x.makes y=true) (h:y.go P s fun s1=>x.go P s1 K):x.go P s fun s2=>y.go P s2 K:=by
 obtain ⟨xd,xg,xk,xt⟩:=x
 obtain ⟨yd,yg,yk,yt⟩:=y
 unfold Ins.makes at hm
 rw [Bool.and_eq_true] at hm
 obtain ⟨m1,m2⟩:=hm
 split at m1
 ·rename_i d e z hx
  cases hx
  split at m2
  ·rename_i d' mu ty w bytes x' y' t hy
   cases hy
   simp only [Bool.and_eq_true,Bool.not_eq_true',beq_eq_false_iff_ne,ne_eq,Option.some.injEq] at m1
   obtain ⟨r1,r2⟩:=m1
   have hrd:∀ k ∈ (Kd.append mu ty w bytes x' y').reads,k ≠ d:=fun k hk he=>by
    subst he
    rw [List.contains_iff_mem.2 hk] at r1
    cases r1
   have h':(Kd.append mu ty w bytes x' y').go P d' s fun v s'=>yt.ok (.append mu ty w bytes x' y') s s'∧(⟨some d,none,.alloc e z,.no⟩:Ins).go P (s'.put (some d') v) K:=h
   obtain ⟨v,id,b,k1,k2,k3⟩:=Ki h'
   obtain ⟨k0,k1⟩:=k1
   simp only [Ins.go,Kd.goT,Kd.go,AS.set,AS.put,Option.getD_some,Tag.ok] at k1
   obtain ⟨c1,_,c2⟩:=k1
   have hid:id ≠ d:=fun he=>by
    subst he
    unfold AK at c1
    rw [if_pos rfl] at c1
    cases c1
   rw [A_ (Ne.symm hid)] at c1
   have hnr:Hg (s.S d):=by rw [c1];trivial
   refine (show s.S d=none∧True∧(⟨some d',none,.append mu ty w bytes x' y',yt⟩:Ins).go P ⟨AK s.env d (.one (.ptr d 1 0 0)),AK s.S d (some (.box e z))⟩ K from ⟨c1,trivial,?_⟩)
   suffices key:(Kd.append mu ty w bytes x' y').go P d' ⟨AK s.env d (.one (.ptr d 1 0 0)),AK s.S d (some (.box e z))⟩ fun v s'=>yt.ok (.append mu ty w bytes x' y') ⟨AK s.env d (.one (.ptr d 1 0 0)),AK s.S d (some (.box e z))⟩ s'∧K (s'.put (some d') v) from key
   refine k3 d _ _ hid hnr (fun k hk=>A_ (hrd k hk)) (fun i hi=>A_ hi) _ ⟨?_,?_⟩
   ·cases yt with
    | no=>trivial
    | keeps ks =>
     intro k hk
     have:=k0 k hk
     simp only at this ⊢
     by_cases hki:k=id
     ·subst hki
      have e0:∀ T:AA,AK T k (some b) k=some b:=fun T=>by unfold AK;rw [if_pos rfl]
      rw [e0] at this
      exact (e0 _).trans (this.trans (A_ hid).symm)
     ·exact A_ hki
    | onb i=>exact k0
   ·show K ⟨AK (AK s.env d (.one (.ptr d 1 0 0))) d' v,AK (AK s.S d (some (.box e z))) id (some b)⟩
    rw [BK (Ne.symm hid),BK (f:=s.env) (Ne.symm r2)]
    exact c2
  ·rename_i d' f xs hy
   cases hy
   simp only [Bool.and_eq_true,Bool.not_eq_true',beq_eq_false_iff_ne,ne_eq,Option.some.injEq] at m1
   obtain ⟨r1,r2⟩:=m1
   have hrd:∀ k ∈ Ao xs,k ≠ d:=fun k hk he=>by
    subst he
    simp only [Kd.reads] at r1
    rw [List.contains_iff_mem.2 hk] at r1
    cases r1
   simp only [Ins.go,Kd.goT,Kd.go,AS.set,AS.put,Option.getD_some,Tag.ok] at h ⊢
   split at h
   ·rename_i vs e1
    obtain ⟨mu0,e0,w0,ys,hr,hd',_,h1,_,hK⟩:=h
    rw [A_ (Ne.symm r2)] at h1
    have e2:outVs (AK s.S d (some (.box e z))) ((⟨AK s.env d (.one (.ptr d 1 0 0)),AK s.S d (some (.box e z))⟩:AS).evs xs)=some vs:=by
     rw [Cl (s:=s) (fun t ht=>A_ (hrd t ht))]
     exact Er (Ji (e:=e) (cs:=z) h1) e1
    refine ⟨h1,trivial,?_⟩
    rw [e2]
    refine ⟨mu0,e0,w0,ys,hr,by rw [A_ r2];exact hd',trivial,?_⟩
    rw [BK (f:=s.S) (i:=d) (j:=d') (Ne.symm r2),BK (f:=s.env) (i:=d) (j:=d') (Ne.symm r2)]
    exact hK
   ·exact h.elim
  ·cases m2
 ·cases m1
theorem Jw {n d a:Nat} {x v:Opd} {K:AV→AS→Prop} (hp:Fr a (s.ev x)) (h:(Kd.store n x v).go P d s K) :
  ∃ b,K .any ⟨s.env,AK s.S a (some b)⟩∧(∀ T:AA,T a=s.S a→BR T (AK T a (some b)))∧∀ (env':Nat→AV) (T:AA),(∀ t ∈ (Kd.store n x v).reads,env' t=s.env t)→T a=s.S a→BR s.S T→∀ K':AV→AS→Prop,K' .any ⟨env',AK T a (some b)⟩→(Kd.store n x v).go P d ⟨env',T⟩ K':=by
 have hex:∀ env':Nat→AV,∀ T,(∀ t ∈ (Kd.store n x v).reads,env' t=s.env t)→(⟨env',T⟩:AS).ev x=s.ev x∧(⟨env',T⟩:AS).ev v=s.ev v:=fun env' T hr =>
  ⟨AF fun t ht=>hr t (by simp [Kd.reads,ht]),AF fun t ht=>hr t (by simp [Kd.reads,ht])⟩
 simp only [Kd.go] at h
 split at h
 ·rename_i id m k off c e1 e2
  rw [e1] at hp
  have hp:id=a:=hp
  subst hp
  split at h
  ·rename_i e cs e3
   refine ⟨_,h.2.2.2,fun T hT=>OS (hT.trans e3),fun env' T hr hT hR K' hK=>?_⟩
   obtain ⟨q1,q2⟩:=hex env' T hr
   simp only [Kd.go,q1,q2,e1,e2,hT,e3]
   exact ⟨h.1,h.2.1,h.2.2.1,hK⟩
  ·rename_i e cs e3
   refine ⟨_,h.2.2.2,fun T hT=>M3 (hT.trans e3) (by simp [splice];omega),fun env' T hr hT hR K' hK=>?_⟩
   obtain ⟨q1,q2⟩:=hex env' T hr
   simp only [Kd.go,q1,q2,e1,e2,hT,e3]
   exact ⟨h.1,h.2.1,h.2.2.1,hK⟩
  ·rename_i e w xs e3
   split at h
   ·rename_i c' y e4 e5
    refine ⟨_,h.2.2.2,fun T hT=>Ng (hT.trans e3) (by simp),fun env' T hr hT hR K' hK=>?_⟩
    obtain ⟨q1,q2⟩:=hex env' T hr
    simp only [Kd.go,q1,q2,e1,e2,hT,e3,Ke hR e4,e5]
    exact ⟨h.1,h.2.1,h.2.2.1,hK⟩
   ·exact h.elim
  ·exact h.elim
 ·exact h.elim
theorem KE {kd:Kd} (hk:kd.isStore=true) {d:Nat} {K:AV→AS→Prop} (h:kd.go P d s K):kd.go P d s fun v s'=>K v s'∧BR s.S s'.S:=by
 cases kd <;> try (cases hk;done)
 case store n x v =>
  have h0:=h
  simp only [Kd.go] at h0
  split at h0
  ·rename_i id m k off c e1 e2
   obtain ⟨b,k1,k2,k3⟩:=Jw (a:=id) (by rw [e1];rfl) h
   exact k3 s.env s.S (fun _ _=>rfl) rfl (BR.refl _) _ ⟨k1,k2 s.S rfl⟩
  ·exact h0.elim
theorem MJ {i:Ins} (hk:i.kd.isStore=true) (h:i.go P s K):i.go P s fun s'=>K s'∧BR s.S s'.S :=
 Hf (BR s.S) (BR.refl _) (fun {d K} h=>by
  obtain ⟨v,S2,⟨⟨q1,q2⟩,q3⟩,_,q5⟩:=Gj (by cases hkd:i.kd <;> rw [hkd] at hk <;> first | rfl | cases hk) (KE hk h)
  exact (q5 s.env (fun _ _=>rfl)).1 _ ⟨q1,q2,q3⟩) h
theorem KG {w d:Nat} {x y:Opd} {K:AV→AS→Prop} (h:(Kd.indexAddr w x y).go P d s K):∃ v,K v s∧∀ S',BR s.S S'→∀ env':Nat→AV,(∀ t ∈ (Kd.indexAddr w x y).reads,env' t=s.env t)→∀ K':AV→AS→Prop,K' v ⟨env',S'⟩→(Kd.indexAddr w x y).go P d ⟨env',S'⟩ K':=by
 have hex:∀ env':Nat→AV,∀ T,(∀ t ∈ (Kd.indexAddr w x y).reads,env' t=s.env t)→(⟨env',T⟩:AS).ev x=s.ev x∧(⟨env',T⟩:AS).ev y=s.ev y:=fun env' T hr =>
  ⟨AF fun t ht=>hr t (by simp [Kd.reads,ht]),AF fun t ht=>hr t (by simp [Kd.reads,ht])⟩
 simp only [Kd.go] at h
 split at h
 ·rename_i c ki n e1 e2
  split at h
  ·rename_i xs
   unfold CP at h
   split at h
   ·rename_i z hz
    refine ⟨_,h.2.2,fun S' hS env' hr K' hK=>?_⟩
    obtain ⟨q1,q2⟩:=hex env' S' hr
    simp only [Kd.go,q1,q2,e1,e2,CP,hz]
    exact ⟨h.1,h.2.1,hK⟩
   ·exact h.2.elim
  ·rename_i xs
   unfold CP at h
   split at h
   ·rename_i z hz
    refine ⟨_,h.2.2,fun S' hS env' hr K' hK=>?_⟩
    obtain ⟨q1,q2⟩:=hex env' S' hr
    simp only [Kd.go,q1,q2,e1,e2,CP,hz]
    exact ⟨h.1,h.2.1,hK⟩
   ·exact h.2.elim
  ·rename_i id m
   split at h
   ·rename_i e w' xs e3
    obtain ⟨h1,h2,h⟩:=h
    unfold CP at h
    split at h
    ·rename_i z hz
     refine ⟨_,h.2,fun S' hS env' hr K' hK=>?_⟩
     obtain ⟨q1,q2⟩:=hex env' S' hr
     simp only [Kd.go,q1,q2,e1,e2,((hS id).1 e w' xs).1 e3,CP,hz]
     exact ⟨h1,h2,h.1,hK⟩
    ·exact h.2.elim
   ·rename_i e w' xs e3
    refine ⟨_,h.2.2.2.2,fun S' hS env' hr K' hK=>?_⟩
    obtain ⟨ys,e4,e5⟩:=((hS id).2.1 e w' xs.length).1 ⟨xs,e3,rfl⟩
    obtain ⟨q1,q2⟩:=hex env' S' hr
    simp only [Kd.go,q1,q2,e1,e2,e4,e5]
    exact ⟨h.1,h.2.1,h.2.2.1,h.2.2.2.1,hK⟩
   ·rename_i e' cs e3
    refine ⟨_,h.2.2.2.2,fun S' hS env' hr K' hK=>?_⟩
    obtain ⟨e2',ds,e4,e5⟩:=((hS id).2.2 cs.length).1 ⟨e',cs,e3,rfl⟩
    obtain ⟨q1,q2⟩:=hex env' S' hr
    simp only [Kd.go,q1,q2,e1,e2,e4,e5]
    exact ⟨h.1,h.2.1,h.2.2.1,h.2.2.2.1,hK⟩
   ·exact h.elim
  ·exact h.elim
 ·exact h.elim
theorem Ku {i:Ins} (hk:(match i.kd with | .indexAddr _ _ _=>true | _=>false)=true) (ht:i.tag.isNone=true) (h:i.go P s K):∃ v,K (s.put i.dst v)∧∀ S',BR s.S S'→∀ env':Nat→AV,(∀ t ∈ i.reads,env' t=s.env t)→∀ K':AS→Prop,K' ((⟨env',S'⟩:AS).put i.dst v)→i.go P ⟨env',S'⟩ K' :=
 J4 (BR s.S) (fun {d K} h=>by
  obtain ⟨dst,guard,kd,tag⟩:=i
  cases tag <;> try (cases ht;done)
  cases kd <;> try (cases hk;done)
  case indexAddr w x y =>
   obtain ⟨v,q1,q2⟩:=KG h
   exact ⟨v,q1.2,fun S' hS env' he K' hK=>q2 S' hS env' he _ ⟨trivial,hK⟩⟩) h
theorem MR {x y:Ins} (hb:x.beside y=true) (h:x.go P s fun s1=>y.go P s1 K):y.go P s fun s2=>x.go P s2 K:=by
 unfold Ins.beside at hb
 split at hb
 ·rename_i n1 p1 v1 a n2 p2 v2 b
  have hab:¬ a=b:=by simpa using hb
  have h':(Kd.store n1 p1 v1).go P 0 s fun v s'=>Fr a (s.ev p1)∧(⟨none,none,.store n2 p2 v2,.onb b⟩:Ins).go P s' K:=h
  have hpa:Fr a (s.ev p1):=by
   obtain ⟨v,S1,h1,_⟩:=Gj rfl h'
   exact h1.1
  obtain ⟨bx,k1,k2,k3⟩:=Jw hpa h'
  obtain ⟨_,k1⟩:=k1
  have h2:(Kd.store n2 p2 v2).go P 0 ⟨s.env,AK s.S a (some bx)⟩ fun v s'=>Fr b ((⟨s.env,AK s.S a (some bx)⟩:AS).ev p2)∧K s':=k1
  have hpb:Fr b ((⟨s.env,AK s.S a (some bx)⟩:AS).ev p2):=by
   obtain ⟨v,S1,h1,_⟩:=Gj rfl h2
   exact h1.1
  obtain ⟨by_,m1,m2,m3⟩:=Jw hpb h2
  obtain ⟨_,m1⟩:=m1
  have hSb:s.S b=AK s.S a (some bx) b:=(AJ _ (fun e=>hab e.symm) _).symm
  have ep:(⟨s.env,AK s.S a (some bx)⟩:AS).ev p2=s.ev p2:=AF fun _ _=>rfl
  rw [ep] at hpb
  suffices key:(Kd.store n2 p2 v2).go P 0 s fun v s'=>Fr b (s.ev p2)∧(⟨none,none,.store n1 p1 v1,.onb a⟩:Ins).go P s' K from key
  refine m3 s.env s.S (fun _ _=>rfl) hSb (k2 s.S rfl).symm _ ⟨hpb,?_⟩
  suffices key:(Kd.store n1 p1 v1).go P 0 ⟨s.env,AK s.S b (some by_)⟩ fun v s'=>Fr a ((⟨s.env,AK s.S b (some by_)⟩:AS).ev p1)∧K s' from key
  refine k3 s.env _ (fun _ _=>rfl) (AJ _ hab _) (m2 s.S hSb) _ ⟨by rw [show (⟨s.env,AK s.S b (some by_)⟩:AS).ev p1=s.ev p1 from AF fun _ _=>rfl];exact hpa,?_⟩
  rw [BK (fun e=>hab e.symm)]
  exact m1
 ·cases hb
theorem H6 {x y:Ins} (i1:(match x.dst with | none=>true | some d=>!y.reads.contains d && !(y.dst == some d))=true) (i2:(match y.dst with | none=>true | some d=>!x.reads.contains d)=true) :
  (∀ t ∈ x.reads,y.dst ≠ some t)∧(∀ t ∈ y.reads,x.dst ≠ some t)∧∀ d,x.dst=some d→y.dst ≠ some d:=by
 refine ⟨fun t ht e=>?_,fun t ht e=>?_,fun d e e'=>?_⟩
 ·rw [e] at i2
  simp only [Bool.not_eq_true'] at i2
  exact absurd (List.contains_iff_mem.2 ht) (by rw [i2];simp)
 ·rw [e] at i1
  simp only [Bool.not_eq_true',Bool.and_eq_true] at i1
  exact absurd (List.contains_iff_mem.2 ht) (by rw [i1.1];simp)
 ·rw [e] at i1
  simp only [Bool.and_eq_true,Bool.not_eq_true',beq_eq_false_iff_ne] at i1
  exact i1.2 e'
theorem Ni {x y:Ins} (i1:(match x.dst with | none=>true | some d=>!y.reads.contains d && !(y.dst == some d))=true) (i2:(match y.dst with | none=>true | some d=>!x.reads.contains d)=true) (i3:x.looks y=true) (h:x.go P s fun s1=>y.go P s1 K):y.go P s fun s2=>x.go P s2 K:=by
 obtain ⟨hx,hy,hd⟩:=H6 i1 i2
 unfold Ins.looks at i3
 simp only [Bool.and_eq_true] at i3
 obtain ⟨v,q1,q2⟩:=Ku i3.1.1 i3.1.2 h
 have q3:=MJ i3.2 q1
 have hdy:y.kd.det=true:=by cases hkd:y.kd <;> rw [hkd] at i3 <;> first | rfl | cases i3.2
 have hS:(s.put x.dst v).S=s.S:=by cases x.dst <;> rfl
 rw [hS] at q3
 exact later hdy hx hy hd (BR s.S) q2 q3
theorem ME {x y:Ins} (i1:(match x.dst with | none=>true | some d=>!y.reads.contains d && !(y.dst == some d))=true) (i2:(match y.dst with | none=>true | some d=>!x.reads.contains d)=true) (i3:y.looks x=true) (h:x.go P s fun s1=>y.go P s1 K):y.go P s fun s2=>x.go P s2 K:=by
 obtain ⟨hx,hy,hd⟩:=H6 i1 i2
 unfold Ins.looks at i3
 simp only [Bool.and_eq_true] at i3
 have h':=MJ i3.2 h
 obtain ⟨v,T,c1,_,c3⟩:=GA (by cases hkd:x.kd <;> rw [hkd] at i3 <;> first | rfl | cases i3.2) h'
 have c1':=c1.1
 have c2:BR s.S T:=by
  have:=c1.2
  rwa [Ka] at this
 obtain ⟨u,q1,q2⟩:=Ku i3.1.1 i3.1.2 c1'
 rw [Ka] at q2
 have hyr:∀ t ∈ y.reads,s.env t=((⟨s.env,T⟩:AS).put x.dst v).env t:=fun t ht=>(Dk (hy t ht)).symm
 refine q2 s.S c2.symm s.env hyr _ ?_
 obtain ⟨c4,_⟩:=c3 ((⟨s.env,s.S⟩:AS).put y.dst u).env (fun t ht=>Dk (hx t ht))
 rw [DJ]
 refine c4 _ ?_
 have e5:(⟨((⟨s.env,s.S⟩:AS).put y.dst u).env,T⟩:AS).put x.dst v=((⟨s.env,T⟩:AS).put x.dst v).put y.dst u:=by
  have q1:(⟨((⟨s.env,s.S⟩:AS).put y.dst u).env,T⟩:AS)=(⟨s.env,T⟩:AS).put y.dst u:=by rw [DJ (S1:=T),Dp (S1:=T) (S2:=s.S)]
  rw [q1]
  exact (G8 hd).symm
 rw [e5]
 exact q1
theorem I8:∀ {rows:List (Nat × AU × AU)} {T:AA} {d:Nat},E6 T rows d=none→(∀ q ∈ rows,q.1 ≠ d)∧T d=none
 | [],T,d,h=>⟨by simp,h⟩
 | q :: l,T,d,h=>by
  obtain ⟨h1,h2⟩:=I8 (rows:=l) h
  have hne:q.1 ≠ d:=fun e=>by
   subst e
   unfold AK at h2
   rw [if_pos rfl] at h2
   cases h2
  refine ⟨fun p hp=>?_,by rwa [A_ (Ne.symm hne)] at h2⟩
  rcases List.mem_cons.1 hp with rfl | hp
  ·exact hne
  ·exact h1 p hp
theorem K4:∀ {rows:List (Nat × AU × AU)} {T:AA} {d:Nat} {b:Option AU},(∀ q ∈ rows,q.1 ≠ d)→E6 (AK T d b) rows=AK (E6 T rows) d b
 | [],T,d,b,h=>rfl
 | q :: l,T,d,b,h=>by
  show E6 (AK (AK T d b) q.1 (some q.2.2)) l=AK (E6 (AK T q.1 (some q.2.2)) l) d b
  rw [BK (Ne.symm (h q (by simp))),K4 fun p hp=>h p (by simp [hp])]
theorem M1 {x y:Ins} (hf:x.frames y=true) (h:x.go P s fun s1=>y.go P s1 K):y.go P s fun s2=>x.go P s2 K:=by
 unfold Ins.frames at hf
 split at hf
 ·rename_i c f xs d e z
  simp only [Bool.and_eq_true,Bool.not_eq_true',beq_eq_false_iff_ne,ne_eq] at hf
  obtain ⟨r1,r2⟩:=hf
  have hrd:∀ k ∈ Ao xs,k ≠ d:=fun k hk he=>by
   subst he
   rw [List.contains_iff_mem.2 hk] at r1
   cases r1
  simp only [Ins.go,Kd.goT,Kd.go,AS.set,AS.put,Option.getD_some,Tag.ok] at h ⊢
  obtain ⟨r,rows,h0,hc,_,h1,_,hK⟩:=h
  obtain ⟨hne,hd⟩:=I8 h1
  refine ⟨hd,trivial,?_⟩
  rw [Cl (s:=s) (fun t ht=>A_ (hrd t ht))]
  refine ⟨r,rows,fun q hq=>by rw [A_ (hne q hq)];exact h0 q hq,hc,trivial,?_⟩
  rw [K4 hne,BK (f:=s.env) (i:=d) (j:=c) (Ne.symm r2)]
  exact hK
 ·cases hf
theorem Oe {x y:Ins} (hm:x.rooms y=true) (h:x.go P s fun s1=>y.go P s1 K):y.go P s fun s2=>x.go P s2 K:=by
 obtain ⟨xd,xg,xk,xt⟩:=x
 obtain ⟨yd,yg,yk,yt⟩:=y
 unfold Ins.rooms at hm
 split at hm
 ·rename_i c e w b z u v d e' w' b' z' u' v' hx hy
  cases hx
  cases hy
  simp only [Bool.not_eq_true',beq_eq_false_iff_ne,ne_eq] at hm
  simp only [Ins.go,Kd.goT,Kd.go,AS.set,AS.put,Option.getD_some,Tag.ok,AS.ev] at h ⊢
  split at h
  ·obtain ⟨a1,a2,a3,a4,a5,_,h⟩:=h
   split at h
   ·obtain ⟨b1,b2,b3,b4,b5,_,h⟩:=h
    rw [A_ (Ne.symm hm)] at b5
    refine ⟨b1,b2,b3,b4,b5,trivial,a1,a2,a3,a4,by rw [A_ hm];exact a5,trivial,?_⟩
    rw [BK (f:=s.S) (i:=d) (j:=c) (Ne.symm hm),BK (f:=s.env) (i:=d) (j:=c) (Ne.symm hm)]
    exact h
   ·exact h.elim
  ·exact h.elim
 ·rename_i c e z d e' z' hx hy
  cases hx
  cases hy
  simp only [Bool.not_eq_true',beq_eq_false_iff_ne,ne_eq] at hm
  simp only [Ins.go,Kd.goT,Kd.go,AS.set,AS.put,Option.getD_some,Tag.ok] at h ⊢
  obtain ⟨a1,_,b1,_,h⟩:=h
  rw [A_ (Ne.symm hm)] at b1
  refine ⟨b1,trivial,by rw [A_ hm];exact a1,trivial,?_⟩
  rw [BK (f:=s.S) (i:=d) (j:=c) (Ne.symm hm),BK (f:=s.env) (i:=d) (j:=c) (Ne.symm hm)]
  exact h
 ·cases hm
theorem Uv {x y:Ins} (hi:x.indep y=true) (h:x.go P s fun s1=>y.go P s1 K):y.go P s fun s2=>x.go P s2 K:=by
 unfold Ins.indep at hi
 simp only [Bool.and_eq_true,Bool.or_eq_true] at hi
 obtain ⟨⟨⟨⟨det1,det2⟩,i1⟩,i2⟩,i3⟩:=hi
 rcases i3 with ((((((i3 | i3) | i3) | i3) | i3) | i3) | i3) | i3
 rotate_left
 ·exact Nw i3 h
 ·exact NB i3 h
 ·exact Ni i1 i2 i3 h
 ·exact ME i1 i2 i3 h
 ·exact MR i3 h
 ·exact M1 i3 h
 ·exact Oe i3 h
 have hy:∀ t ∈ y.reads,x.dst ≠ some t:=fun t ht e=>by
  rw [e] at i1
  simp only [Bool.not_eq_true',Bool.and_eq_true] at i1
  exact absurd (List.contains_iff_mem.2 ht) (by rw [i1.1];simp)
 have hx:∀ t ∈ x.reads,y.dst ≠ some t:=fun t ht e=>by
  rw [e] at i2
  simp only [Bool.not_eq_true'] at i2
  exact absurd (List.contains_iff_mem.2 ht) (by rw [i2];simp)
 have hd:∀ d,x.dst=some d→y.dst ≠ some d:=fun d e e'=>by
  rw [e] at i1
  simp only [Bool.and_eq_true,Bool.not_eq_true',beq_eq_false_iff_ne] at i1
  exact i1.2 e'
 obtain ⟨v1,S1,h1,k1,m1⟩:=GA det1 h
 rw [DJ] at h1
 obtain ⟨v2,S2,h2,k2,m2⟩:=GA det2 h1
 dsimp only at h2 k2 m2
 obtain ⟨a1,a2⟩:=m2 s.env (fun t ht=>(Dk (hy t ht)).symm)
 obtain ⟨b1,b2⟩:=m1 ((⟨s.env,S1⟩:AS).put y.dst v2).env (fun t ht=>Dk (hx t ht))
 have e0:∀ T:AA,(⟨((⟨s.env,S1⟩:AS).put y.dst v2).env,T⟩:AS).put x.dst v1=(⟨((⟨s.env,S1⟩:AS).put x.dst v1).env,T⟩:AS).put y.dst v2:=fun T=>by
  have q1:(⟨((⟨s.env,S1⟩:AS).put y.dst v2).env,T⟩:AS)=(⟨s.env,T⟩:AS).put y.dst v2:=by rw [DJ (S1:=T),Dp (S1:=T) (S2:=S1)]
  have q2:(⟨((⟨s.env,S1⟩:AS).put x.dst v1).env,T⟩:AS)=(⟨s.env,T⟩:AS).put x.dst v1:=by rw [DJ (S1:=T),Dp (S1:=T) (S2:=S1)]
  rw [q1,q2]
  exact (G8 hd).symm
 rcases i3 with ((((i3 | i3) | i3) | i3) | i3) | i3
 ·have e1:=k1 i3.1
  have e2:=k2 i3.2
  subst e1
  subst e2
  refine a1 _ ?_
  rw [DJ]
  exact b1 _ (by rw [e0];exact h2)
 ·-- x is pure
  obtain ⟨i3,i4⟩:=i3
  have e1:S1=s.S:=k1 (by cases hk:x.kd <;> rw [hk] at i3 <;> first | rfl | simp [Kd.pureS] at i3)
  subst e1
  refine a1 _ ?_
  rw [DJ,Dp (S1:=S2) (S2:=s.S)]
  exact b2 i3 i4 S2 _ (by rw [e0];exact h2)
 ·-- y is pure
  obtain ⟨i3,i4⟩:=i3
  have e2:S2=S1:=k2 (by cases hk:y.kd <;> rw [hk] at i3 <;> first | rfl | simp [Kd.pureS] at i3)
  subst e2
  refine a2 i3 i4 s.S _ ?_
  rw [DJ,Dp (S1:=s.S) (S2:=S2)]
  exact b1 _ (by rw [e0];exact h2)
 ·-- x only reads, y makes a block
  obtain ⟨v,q1,q2⟩:=Tk i3.1 h
  have q3:=Pg i3.2 q1
  have hS:(s.put x.dst v).S=s.S:=by cases x.dst <;> rfl
  rw [hS] at q3
  exact later det2 hx hy hd (Eu s.S) q2 q3
 ·-- x reads a block that y leaves
  simp only [Ins.apart] at i3
  split at i3
  ·rename_i a ha
   rw [Bool.and_eq_true] at i3
   obtain ⟨v,q1,q2⟩:=MN ha i3.1 h
   have q3:=I0 i3.2 q1
   have hS:(s.put x.dst v).S=s.S:=by cases x.dst <;> rfl
   rw [hS] at q3
   exact later det2 hx hy hd (fun S'=>S' a=s.S a) q2 q3
  ·cases i3
 ·-- y reads a block that x leaves
  simp only [Ins.apart] at i3
  split at i3
  ·rename_i a ha
   rw [Bool.and_eq_true] at i3
   have h':=I0 i3.2 h
   obtain ⟨v,T,c1,_,c3⟩:=GA det1 h'
   have c1':=c1.1
   have c2:T a=s.S a:=by
    have:=c1.2
    rwa [Ka] at this
   obtain ⟨u,q1,q2⟩:=MN ha i3.1 c1'
   rw [Ka] at q2
   have hyr:∀ t ∈ y.reads,s.env t=((⟨s.env,T⟩:AS).put x.dst v).env t:=fun t ht=>(Dk (hy t ht)).symm
   refine q2 s.S c2.symm s.env hyr _ ?_
   obtain ⟨c4,_⟩:=c3 ((⟨s.env,s.S⟩:AS).put y.dst u).env (fun t ht=>Dk (hx t ht))
   rw [DJ]
   refine c4 _ ?_
   have e5:(⟨((⟨s.env,s.S⟩:AS).put y.dst u).env,T⟩:AS).put x.dst v=((⟨s.env,T⟩:AS).put x.dst v).put y.dst u:=by
    have q1:(⟨((⟨s.env,s.S⟩:AS).put y.dst u).env,T⟩:AS)=(⟨s.env,T⟩:AS).put y.dst u:=by rw [DJ (S1:=T),Dp (S1:=T) (S2:=s.S)]
    rw [q1]
    exact (G8 hd).symm
   rw [e5]
   exact q1
  ·cases i3
theorem Ins.go_mono {i:Ins} {K':AS→Prop} (h:i.go P s K) (hk:∀ s,K s→K' s):i.go P s K':=by
 obtain ⟨dst,guard,kd,tag⟩:=i
 unfold Ins.go at h ⊢
 dsimp only at h ⊢
 cases guard with
 | none=>exact Ck h fun v s' _ hv=>hk _ hv
 | some gw =>
  obtain ⟨g,want⟩:=gw
  dsimp only at h ⊢
  split at h
  ·exact ⟨fun hb=>Ck (h.1 hb) fun v s' _ hv=>hk _ hv,fun hb=>hk _ (h.2 hb)⟩
  ·exact hk _ h
  ·exact h.elim
theorem LA {pre:List Ins} {y:Ins} {post:List Ins} (hi:∀ x ∈ pre,x.indep y=true):∀ {s:AS},Run P (pre ++ y :: post) s K→y.go P s fun s'=>Run P (pre ++ post) s' K:=by
 induction pre with
 | nil=>intro s h;exact h
 | cons x pre ih =>
  intro s h
  rw [List.cons_append,Fh] at h
  have h2:x.go P s fun s'=>y.go P s' fun s''=>Run P (pre ++ post) s'' K:=Ins.go_mono h fun s' hs=>ih (fun z hz=>hi z (by simp [hz])) hs
  have h3:=Uv (hi x (by simp)) h2
  exact h3
end

open Go.MapKept
open Go.ChangeMaps (setBlock)
set_option linter.unusedSimpArgs false
def KV.val1:Option IntKind→KV→Value
 | some k,.i n=>.int k n
 | none,.s b=>.string b
 | _,_=>.int .i64 0
def KV.val:Option KK→KV→Value
 | some (.int k),.i n=>.int k n
 | none,.s b=>.string b
 | some (.two a b),.p x y=>.agg #[x.val1 a,y.val1 b]
 | _,_=>.int .i64 0
def Ge:Option IntKind→TypeDesc
 | none=>.string
 | some k=>.int k
def O8:TypeDesc→Option (Option IntKind)
 | .string=>some none
 | .int k=>some (some k)
 | _=>none
theorem Jl {t:TypeDesc} {kt:Option IntKind} (h:O8 t=some kt):t=Ge kt:=by
 cases t <;> simp only [O8,Option.some.injEq,reduceCtorEq] at h <;> subst h <;> rfl
def Ll (P:Program) (k:TypeId):Option (Option KK):=match P.underlying k with
 | some .string=>some none
 | some (.int q)=>some (some (.int q))
 | some (.struct fs)=>match fs.toList with
  | [f, g] => if (f.name ≠ "_" ∧ g.name ≠ "_") ∧ (f.offset = 0 ∧ g.offset = 1) ∧ P.stoodInHeld k = false then match P.underlying f.type, P.underlying g.type with
  | some tf,some tg=>match O8 tf,O8 tg with
   | some a,some b=>some (some (.two a b))
   | _,_=>none
  | _,_=>none
  else none
  | _=>none
 | _=>none
structure Ra (P:Program) (k:TypeId) (a b:Option IntKind):Prop where
 two : ∃ f g : Field, P.underlying k = some (.struct #[f, g]) ∧ (f.name ≠ "_" ∧ g.name ≠ "_") ∧ (f.offset = 0 ∧ g.offset = 1) ∧ P.underlying f.type = some (Ge a) ∧ P.underlying g.type = some (Ge b)
 held:P.stoodInHeld k=false
def Iq (P:Program) (k:TypeId):Option KK→Prop
 | none=>P.underlying k=some .string
 | some (.int q)=>P.underlying k=some (.int q)
 | some (.two a b)=>Ra P k a b
theorem Rz {P:Program} {k:TypeId} {kt:Option KK} (h:Ll P k=some kt):Iq P k kt:=by
 unfold Ll at h
 split at h
 ·rename_i e;cases h;exact e
 ·rename_i e;cases h;exact e
 ·rename_i fs e
  split at h
  ·rename_i f g e'
   have e'':fs=#[f,g]:=Array.ext' e'
   subst e''
   split at h
   ·rename_i hc
    split at h
    ·rename_i tf tg e1 e2
     split at h
     ·rename_i a b e3 e4
      cases h
      exact ⟨⟨f,g,e,hc.1,hc.2.1,by rw [e1,Jl e3],by rw [e2,Jl e4]⟩,hc.2.2⟩
     ·cases h
    ·cases h
   ·cases h
  ·cases h
 ·cases h
section
variable {σ:Sto} {kt:Option KK}
theorem NO {o:Option IntKind} {kv:KV} {c:SV} {v:Value} (h:kv.sv1 o=some c) (hr:A0 σ v c):v=kv.val1 o:=by
 cases o <;> cases kv <;> simp only [KV.sv1,Option.some.injEq,reduceCtorEq] at h <;> subst h <;> cases hr <;> rfl
theorem PO {o:Option IntKind} {kv:KV} {c:SV} (h:kv.sv1 o=some c):IsKey (Ge o) (kv.val1 o):=by
 cases o <;> cases kv <;> simp only [KV.sv1,reduceCtorEq] at h <;> simp [IsKey,Ge,KV.val1]
theorem MQ {o:Option IntKind} {k k':KV} {c c':SV} (h:k.sv1 o=some c) (h':k'.sv1 o=some c') (e:k.val1 o=k'.val1 o):k=k':=by
 cases o <;> cases k <;> cases k' <;> simp only [KV.sv1,reduceCtorEq] at h h' <;> simp only [KV.val1,Value.int.injEq,Value.string.injEq,true_and] at e <;> rw [e]
theorem GV {a b:Option IntKind} {kv:KV} {c:AV} (h:kv.sv (some (.two a b))=some c):∃ x y cx cy,kv=.p x y∧x.sv1 a=some cx∧y.sv1 b=some cy∧c=.agg [.st cx,.st cy]:=by
 cases kv with
 | p x y =>
  simp only [KV.sv] at h
  split at h
  ·rename_i c d e1 e2
   cases h
   exact ⟨x,y,c,d,rfl,e1,e2,rfl⟩
  ·cases h
 | _=>cases h
theorem O6 {S:AA} {ι:As} {v:Value} {x y:SV} (h:AN σ S ι v (.agg [.st x,.st y])):∃ v1 v2,v=.agg #[v1,v2]∧A0 σ v1 x∧A0 σ v2 y:=by
 cases h with
 | @agg vs _ h =>
  generalize hl:vs.toList=l at h
  cases h with
  | cons h1 h2 =>
   cases h2 with
   | cons h2 h3 =>
    cases h3
    refine ⟨_,_,?_,B0 h1,B0 h2⟩
    congr 1
    apply Array.ext'
    rw [hl]
theorem Ls {kv:KV} {c:AV} {v:Value} {S:AA} {ι:As} (h:kv.sv kt=some c) (hr:AN σ S ι v c):v=kv.val kt:=by
 match kt with
 | none =>
  cases kv <;> simp only [KV.sv,Option.some.injEq,reduceCtorEq] at h
  subst h
  have:=B0 (Aa hr)
  cases this;rfl
 | some (.int k) =>
  cases kv <;> simp only [KV.sv,Option.some.injEq,reduceCtorEq] at h
  subst h
  have:=B0 (Aa hr)
  cases this;rfl
 | some (.two a b) =>
  obtain ⟨x,y,cx,cy,rfl,h1,h2,rfl⟩:=GV h
  obtain ⟨v1,v2,rfl,r1,r2⟩:=O6 hr
  rw [NO h1 r1,NO h2 r2]
  rfl
theorem Oz {k k':KV} {c c':AV} (h:k.sv kt=some c) (h':k'.sv kt=some c') (e:k.val kt=k'.val kt):k=k':=by
 match kt with
 | none=>cases k <;> cases k' <;> simp only [KV.sv,reduceCtorEq] at h h' <;> simp only [KV.val,Value.string.injEq] at e <;> rw [e]
 | some (.int q)=>cases k <;> cases k' <;> simp only [KV.sv,reduceCtorEq] at h h' <;> simp only [KV.val,Value.int.injEq,true_and] at e <;> rw [e]
 | some (.two a b) =>
  obtain ⟨x,y,cx,cy,rfl,h1,h2,rfl⟩:=GV h
  obtain ⟨x',y',cx',cy',rfl,h1',h2',rfl⟩:=GV h'
  simp only [KV.val,Value.agg.injEq,Array.mk.injEq,List.cons.injEq,and_true] at e
  rw [MQ h1 h1' e.1,MQ h2 h2' e.2]
theorem Ro {c:SV} {kv:KV} (h:KV.of kt c=some kv):kv.sv kt=some (.one (.st c)):=by
 match kt with
 | none=>cases c <;> simp only [KV.of,reduceCtorEq] at h;cases h;rfl
 | some (.int q) =>
  cases c <;> simp only [KV.of,reduceCtorEq] at h
  split at h
  ·rename_i e;cases h;subst e;rfl
  ·cases h
 | some (.two a b)=>cases c <;> simp [KV.of] at h
theorem Oy {o:Option IntKind} {c:SV} {kv:KV} (h:KV.of1 o c=some kv):kv.sv1 o=some c:=by
 cases o <;> cases c <;> simp only [KV.of1,reduceCtorEq] at h
 ·cases h;rfl
 ·split at h
  ·rename_i e;cases h;subst e;rfl
  ·cases h
theorem Ow {c d:SV} {kv:KV} (h:KV.of2 kt c d=some kv):kv.sv kt=some (.agg [.st c,.st d]):=by
 match kt with
 | none=>simp [KV.of2] at h
 | some (.int q)=>simp [KV.of2] at h
 | some (.two a b) =>
  simp only [KV.of2] at h
  split at h
  ·rename_i x y e1 e2
   cases h
   simp only [KV.sv,Oy e1,Oy e2]
  ·cases h
abbrev MS (σ:Sto) (kt:Option KK):MapEntry→KV × AV→Prop:=fun e x=>(∃ c,x.1.sv kt=some c∧AN σ noS noH e.key c)∧AN σ noS noH e.val x.2
theorem HE {e:MapEntry} {x:KV × AV} (h:MS σ kt e x):e.key=x.1.val kt:=by
 obtain ⟨⟨c,h1,h2⟩,_⟩:=h
 exact Ls h1 h2
def CX (kt:Option KK) (kv:KV) (l:List MapEntry) (es:List (KV × AV)) (i:Nat):Option (Nat × Value):=match D2 es kv with
 | none=>none
 | some _=>match l[mAt es kv]? with
  | some e=>some (i + mAt es kv,e.val)
  | none=>none
theorem MZ {kv:KV} {c:AV} (hk:kv.sv kt=some c):∀ {l:List MapEntry} {es:List (KV × AV)},Af (MS σ kt) l es→∀ v,D2 es kv=some v→∃ e,l[mAt es kv]?=some e∧e.key=kv.val kt∧AN σ noS noH e.val v
 | _,_,.nil,v,h=>by cases h
 | _,_,@Af.cons _ _ _ e x l es hx ht,v,h=>by
  simp only [D2,mAt] at h ⊢
  by_cases he:x.1=kv
  ·rw [if_pos he] at h ⊢
   cases h
   exact ⟨e,rfl,by rw [HE hx,he],hx.2⟩
  ·rw [if_neg he] at h ⊢
   obtain ⟨e',q1,q2,q3⟩:=MZ hk ht v h
   exact ⟨e',by simpa using q1,q2,q3⟩
variable {P:Program} {k:TypeId}
theorem LJ {a b:ByteArray}:a.data=b.data ↔ a=b:=by
 cases a;cases b;simp
theorem PE {o:Option IntKind} {t:TypeId} (ht:P.underlying t=some (Ge o)) {x y:KV} {c d:SV} (hx:x.sv1 o=some c) (hy:y.sv1 o=some d) (n:Nat) (w:World):(Op.equalIn (n + 1) t (x.val1 o) (y.val1 o)).run P w=.ok (decide (x=y)) w:=by
 cases o with
 | none =>
  cases x <;> cases y <;> simp only [KV.sv1,reduceCtorEq] at hx hy
  simp only [KV.val1,run_equalIn_string w n t _ _ ht,bytes_beq,KV.s.injEq]
  congr 1
  rw [Bool.eq_iff_iff]
  simp [ByteArray.toList_eq,LJ]
 | some q =>
  cases x <;> cases y <;> simp only [KV.sv1,reduceCtorEq] at hx hy
  simp only [KV.val1,run_equalIn_int w n t q q _ _ ht,KV.i.injEq]
  congr 1
theorem Lf {o:Option IntKind} {t:TypeId} (ht:P.underlying t=some (Ge o)):P.plainKey t=true:=by
 unfold Program.plainKey
 rw [ht]
 cases o <;> rfl
theorem Nh {a b:Option IntKind} (H:Ra P k a b) {x y x' y':KV} {cx cy cx' cy':SV} (h1:x.sv1 a=some cx) (h2:y.sv1 b=some cy) (h3:x'.sv1 a=some cx') (h4:y'.sv1 b=some cy') (w:World) :
  (Op.equal k (.agg #[x.val1 a,y.val1 b]) (.agg #[x'.val1 a,y'.val1 b])).run P w=.ok (decide (KV.p x y=KV.p x' y')) w:=by
 obtain ⟨⟨f,g,e0,⟨n1,n2⟩,⟨o1,o2⟩,e1,e2⟩,hh⟩:=H
 have p0:∀ (u v:Value),(part f.type #[u,v] f.offset).run P w=.ok u w:=fun u v=>by rw [o1];exact run_part_plain w (Lf e1) rfl
 have p1:∀ (u v:Value),(part g.type #[u,v] g.offset).run P w=.ok v w:=fun u v=>by rw [o2];exact run_part_plain w (Lf e2) rfl
 have q1:=PE (P:=P) e1 h1 h3 9998 w
 have q2:=PE (P:=P) e2 h2 h4 9998 w
 unfold Op.equal
 rw [show Op.maxDepth=9999 + 1 from rfl]
 rw [Op.equalIn]
 simp only [Sem.run_bind,run_underlying e0,Result.andThen_ok,run_program,hh,Bool.false_eq_true,if_false,List.forIn_toArray,List.forIn_cons,List.forIn_nil,n1,n2,ne_eq,not_false_eq_true,if_true,p0,p1,q1,Sem.run_pure]
 by_cases hx:x=x'
 ·subst hx
  simp only [decide_true,Bool.not_true,Bool.false_eq_true,if_false,Sem.run_pure,Result.andThen_ok,Sem.run_bind,p1,q2,KV.p.injEq,true_and]
  by_cases hy:y=y'
  ·subst hy;simp
  ·simp [hy]
 ·simp [hx]
theorem Gm {kv:KV} {c:AV} (hk:kv.sv kt=some c) (w:World):(Instr.keyThatStays (kv.val kt) (kv.val kt)).run P w=.ok (kv.val kt) w:=by
 have h:Instr.sameBits 10000 (kv.val kt) (kv.val kt)=true:=by
  match kt with
  | none=>cases kv <;> simp only [KV.sv,reduceCtorEq] at hk;simp [KV.val,Instr.sameBits,bytes_beq]
  | some (.int q)=>cases kv <;> simp only [KV.sv,reduceCtorEq] at hk;simp [KV.val,Instr.sameBits]
  | some (.two a b) =>
   obtain ⟨x,y,cx,cy,rfl,h1,h2,-⟩:=GV hk
   have s1:∀ {o:Option IntKind} {x:KV} {c:SV},x.sv1 o=some c→Instr.sameBits 9999 (x.val1 o) (x.val1 o)=true:=fun {o x c} h=>by
    cases o <;> cases x <;> simp only [KV.sv1,reduceCtorEq] at h <;> simp [KV.val1,Instr.sameBits,bytes_beq]
   show Instr.sameBits (9999 + 1) (.agg _) (.agg _)=true
   rw [Instr.sameBits]
   simp [s1 h1,s1 h2]
 simp [Instr.keyThatStays,h]
theorem Ex (H:Iq P k kt) {kv:KV} {c:AV} (hk:kv.sv kt=some c) (em:Bool) (w:World):(Instr.checkKey em 10000 k (kv.val kt)).run P w=.ok () w:=by
 match kt with
 | none=>cases kv <;> simp only [KV.sv,reduceCtorEq] at hk;exact run_checkKey (d:=.string) H (by simp [IsKey,KV.val]) em 9999
 | some (.int q)=>cases kv <;> simp only [KV.sv,reduceCtorEq] at hk;exact run_checkKey (d:=.int q) H (by simp [IsKey,KV.val]) em 9999
 | some (.two a b) =>
  obtain ⟨x,y,cx,cy,rfl,h1,h2,-⟩:=GV hk
  obtain ⟨⟨f,g,e0,⟨n1,n2⟩,⟨o1,o2⟩,e1,e2⟩,hh⟩:=H
  have p0:∀ (u v:Value),(part f.type #[u,v] f.offset).run P w=.ok u w:=fun u v=>by rw [o1];exact run_part_plain w (Lf e1) rfl
  have p1:∀ (u v:Value),(part g.type #[u,v] g.offset).run P w=.ok v w:=fun u v=>by rw [o2];exact run_part_plain w (Lf e2) rfl
  have q1:=run_checkKey (P:=P) (w:=w) e1 (PO h1) em 9998
  have q2:=run_checkKey (P:=P) (w:=w) e2 (PO h2) em 9998
  show (Instr.checkKey em (9999 + 1) k (.agg #[x.val1 a,y.val1 b])).run P w=_
  rw [Instr.checkKey]
  simp [run_underlying e0,n1,n2,p0,p1,q1,q2]
theorem Ff (H:Iq P k kt) {kv:KV} {c:AV} (hk:kv.sv kt=some c) {l:List MapEntry} {es:List (KV × AV)} (ha:Af (MS σ kt) l es) (w:World) :
  match D2 es kv with
  | none=>(Instr.findKey k (kv.val kt) l).run P w=.ok none w
  | some v=>∃ e,l[mAt es kv]?=some e∧e.key=kv.val kt∧AN σ noS noH e.val v∧(Instr.findKey k (kv.val kt) l).run P w=.ok (some (mAt es kv,e.val)) w:=by
 have key:(Instr.findKey k (kv.val kt) l).run P w=.ok (CX kt kv l es 0) w:=by
  match kt with
  | none =>
   refine run_findKey (d:=.string) H ?_
   have:∀ {l:List MapEntry} {es:List (KV × AV)} (i:Nat),Af (MS σ none) l es→Instr.findNow .string (kv.val none) l i=some (CX none kv l es i):=by
    intro l es i ha
    induction ha generalizing i with
    | nil=>rfl
    | @cons e x l es hx ht ih =>
     have he:=HE hx
     obtain ⟨⟨c',hc',_⟩,_⟩:=hx
     obtain ⟨r,hr,hiff⟩:=sameNow_of_keys (d:=.string) (a:=kv.val none) (b:=e.key) (by cases kv <;> simp [KV.sv] at hk;simp [IsKey,KV.val]) (by rw [he];cases hx1:x.1 <;> simp [hx1,KV.sv] at hc';simp [IsKey,KV.val])
     simp only [Instr.findNow,hr,CX,D2,mAt]
     by_cases hxe:x.1=kv
     ·have hr1:r=true:=hiff.2 (by rw [he,hxe])
      subst hr1
      simp [hxe]
     ·have hr1:r=false:=by
       cases r with
       | false=>rfl
       | true=>exact absurd (Oz hk hc' (by rw [hiff.1 rfl,he])) fun q=>hxe q.symm
      subst hr1
      simp only [ih,hxe,if_false,CX,List.getElem?_cons_succ]
      split <;> (try rfl)
      split <;> simp [Nat.add_assoc,Nat.add_comm 1]
   exact this 0 ha
  | some (.int q) =>
   refine run_findKey (d:=.int q) H ?_
   have:∀ {l:List MapEntry} {es:List (KV × AV)} (i:Nat),Af (MS σ (some (.int q))) l es→Instr.findNow (.int q) (kv.val (some (.int q))) l i=some (CX (some (.int q)) kv l es i):=by
    intro l es i ha
    induction ha generalizing i with
    | nil=>rfl
    | @cons e x l es hx ht ih =>
     have he:=HE hx
     obtain ⟨⟨c',hc',_⟩,_⟩:=hx
     obtain ⟨r,hr,hiff⟩:=sameNow_of_keys (d:=.int q) (a:=kv.val (some (.int q))) (b:=e.key) (by cases kv <;> simp [KV.sv] at hk;simp [IsKey,KV.val]) (by rw [he];cases hx1:x.1 <;> simp [hx1,KV.sv] at hc';simp [IsKey,KV.val])
     simp only [Instr.findNow,hr,CX,D2,mAt]
     by_cases hxe:x.1=kv
     ·have hr1:r=true:=hiff.2 (by rw [he,hxe])
      subst hr1
      simp [hxe]
     ·have hr1:r=false:=by
       cases r with
       | false=>rfl
       | true=>exact absurd (Oz hk hc' (by rw [hiff.1 rfl,he])) fun q=>hxe q.symm
      subst hr1
      simp only [ih,hxe,if_false,CX,List.getElem?_cons_succ]
      split <;> (try rfl)
      split <;> simp [Nat.add_assoc,Nat.add_comm 1]
   exact this 0 ha
  | some (.two a b) =>
   have hw:(match P.underlying k with | some (.array _ _) | some (.struct _)=>true | _=>false)=true:=by
    obtain ⟨⟨f,g,e0,_⟩,_⟩:=H
    rw [e0]
   rw [run_findKey_eq w hw]
   have:∀ {l:List MapEntry} {es:List (KV × AV)} (i:Nat),Af (MS σ (some (.two a b))) l es→(Instr.findAsking k (kv.val (some (.two a b))) l i).run P w=.ok (CX (some (.two a b)) kv l es i) w:=by
    intro l es i ha
    induction ha generalizing i with
    | nil=>simp [Instr.findAsking,CX,D2]
    | @cons e x l es hx ht ih =>
     have he:=HE hx
     obtain ⟨⟨c',hc',_⟩,_⟩:=hx
     obtain ⟨x1,y1,cx,cy,rfl,h1,h2,-⟩:=GV hk
     obtain ⟨x2,y2,cx2,cy2,hx2,h3,h4,-⟩:=GV hc'
     have hq:(Op.equal k (KV.val (some (.two a b)) (.p x1 y1)) e.key).run P w=.ok (decide (KV.p x1 y1=x.1)) w:=by
      rw [he,hx2]
      exact Nh H h1 h2 h3 h4 w
     simp only [Instr.findAsking,Sem.run_bind,hq,Result.andThen_ok,CX,D2,mAt]
     by_cases hxe:x.1=KV.p x1 y1
     ·simp [hxe]
     ·have hxe':¬ KV.p x1 y1=x.1:=fun q=>hxe q.symm
      simp only [hxe,hxe',decide_false,Bool.false_eq_true,if_false,ih,CX,List.getElem?_cons_succ]
      split <;> (try rfl)
      split <;> simp [Nat.add_assoc,Nat.add_comm 1]
   exact this 0 ha
 split
 ·rename_i hm
  rw [key]
  simp only [CX,hm]
 ·rename_i v hm
  obtain ⟨e,q1,q2,q3⟩:=MZ hk ha v hm
  refine ⟨e,q1,q2,q3,?_⟩
  rw [key]
  simp only [CX,hm,q1,Nat.zero_add]
theorem UA {es:List (KV × AV)} {kv:KV} {v:AV} (h:D2 es kv=some v):mAt es kv < es.length:=by
 induction es with
 | nil=>cases h
 | cons x es ih =>
  simp only [D2,mAt] at h ⊢
  split at h
  ·rename_i e;simp [if_pos e]
  ·rename_i e
   have:=ih h
   simp [if_neg e]
   omega
theorem RE {es:List (KV × AV)} {kv:KV} (h:D2 es kv=none):mAt es kv=es.length:=by
 induction es with
 | nil=>rfl
 | cons x es ih =>
  simp only [D2,mAt] at h ⊢
  split at h
  ·cases h
  ·rename_i e
   rw [if_neg e,ih h]
   rfl
theorem P0 {es:List (KV × AV)} {kv:KV} (h:D2 es kv=none) (v:AV):Mx es kv v=es ++ [(kv,v)]:=by
 induction es with
 | nil=>rfl
 | cons x es ih =>
  simp only [D2,Mx] at h ⊢
  split at h
  ·cases h
  ·rename_i e
   rw [if_neg e,ih h]
   rfl
theorem Qh {es:List (KV × AV)} {kv:KV} {v0:AV} (h:D2 es kv=some v0) (v:AV):Mx es kv v=es.modify (mAt es kv) fun x=>(kv,v):=by
 induction es with
 | nil=>cases h
 | cons x es ih =>
  simp only [D2,Mx,mAt] at h ⊢
  split at h
  ·rename_i e;rw [if_pos e,if_pos e];rfl
  ·rename_i e
   rw [if_neg e,if_neg e,ih h]
   rfl
theorem Af.modify {α β:Type} {R:α→β→Prop} {f:α→α} {g:β→β} (hfg:∀ a b,R a b→R (f a) (g b)):∀ {l:List α} {m:List β},Af R l m→∀ i,Af R (l.modify i f) (m.modify i g)
 | _,_,.nil,i=>by simpa using Af.nil
 | _,_,.cons h t,0=>.cons (hfg _ _ h) t
 | _,_,.cons h t,i + 1=>.cons h (Af.modify hfg t i)
theorem Dc.put {ents:Array MapEntry} {es:List (KV × AV)} (h:Dc σ kt ents.toList es) {kv:KV} {c:AV} {key val:Value} {v:AV} (hk:kv.sv kt=some c) (hkey:AN σ noS noH key c) (hv:AN σ noS noH val v):Dc σ kt (ents.push { key:=key,val:=val,born:=ents.size }).toList (es ++ [(kv,v)]):=by
 refine ⟨?_,?_⟩
 ·rw [Array.toList_push]
  exact h.all.append (.cons ⟨⟨c,hk,hkey⟩,hv⟩ .nil)
 ·rw [Array.toList_push,List.map_append,h.born,List.length_append,List.length_singleton,List.range_succ]
  simp
theorem FE {α β:Type} (f:α→α) (g:α→β) (hg:∀ a,g (f a)=g a):∀ (l:List α) (i:Nat),(l.modify i f).map g=l.map g
 | [],i=>by simp
 | a :: l,0=>by simp [hg]
 | a :: l,i + 1=>by simp [FE f g hg l i]
theorem Dc.mod {ents:Array MapEntry} {es:List (KV × AV)} (h:Dc σ kt ents.toList es) (f:MapEntry→MapEntry) (g:KV × AV→KV × AV) (hb:∀ e,(f e).born=e.born) (hr:∀ e x,MS σ kt e x→MS σ kt (f e) (g x)) (i:Nat):Dc σ kt (ents.modify i f).toList (es.modify i g):=by
 rw [Array.toList_modify]
 exact ⟨Af.modify hr h.all i,by rw [FE f _ hb,h.born,List.length_modify]⟩
end
section
variable {P:Program} {C:Ctx} {o:Oper} {a:Act} {w:World} {K:AV→AS→Prop} {σ:Sto} {ι:As} {s:AS} {d:Nat}
theorem Kf {S:AA} {v:AV} {id:Nat} {kt:Option KK} {es:List (KV × AV)} (h:D_ S v=some (id,kt,es)):v=.one (.mptr id)∧S id=some (.map kt es):=by
 unfold D_ at h
 split at h
 ·split at h
  ·rename_i e1
   cases h
   exact ⟨rfl,e1⟩
  ·cases h
 ·cases h
structure L_ (R:Sto) (s:AS) (ι:As) (w:World) (v:Value) (id g:Nat) (ents:Array MapEntry) (kt:Option KK) (es:List (KV × AV)):Prop where
 val:v=.map (some g)
 hnd:(ι id).g=some g
 heap:w.heap[g]?=some (.map ents ents.size)
 rep:Dc R kt ents.toList es
 blk:s.S id=some (.map kt es)
 no:∀ p:Addr,p.block=g→R p=none
theorem AT.hasMap (R:AT C σ ι s a w) {v:Value} {av:AV} {id:Nat} {kt:Option KK} {es:List (KV × AV)} (hv:AN σ s.S ι v av) (h:D_ s.S av=some (id,kt,es)):∃ g ents,L_ σ s ι w v id g ents kt es:=by
 obtain ⟨rfl,hS⟩:=Kf h
 have hb:=R.blk _ _ hS
 cases hb with
 | @map _ _ g ents h1 h2 h3 h4 =>
 cases Aa hv with
 | mptr k1 k2 k3 k4 =>
 rw [hS] at k1
 cases k1
 obtain ⟨g',q1,q2⟩:=k4 rfl
 rw [h1] at q1
 cases q1
 exact ⟨g,ents,q2,h1,h2,h3,hS,h4⟩
theorem L_.len {v:Value} {id g:Nat} {ents:Array MapEntry} {kt:Option KK} {es:List (KV × AV)} (H:L_ σ s ι w v id g ents kt es):ents.size=es.length:=by
 have:=H.rep.all.len
 simpa using this
theorem Hc {kt:Option KK} {av:AV} {kv:KV} {v:Value} {S:AA} (hv:AN σ S ι v av) (h:NN kt av=some kv):∃ c,kv.sv kt=some c∧AN σ noS noH v c∧v=kv.val kt:=by
 unfold NN at h
 split at h
 ·rename_i c
  have hr:A0 σ v c:=B0 (Aa hv)
  have hq:AN σ noS noH v (.one (.st c)):=.one (.st hr)
  exact ⟨_,Ro h,hq,Ls (Ro h) hq⟩
 ·rename_i c d
  obtain ⟨v1,v2,rfl,r1,r2⟩:=O6 hv
  have hq:AN σ noS noH (.agg #[v1,v2]) (.agg [.st c,.st d]):=.agg (.cons (.st r1) (.cons (.st r2) .nil))
  exact ⟨_,Ow h,hq,Ls (Ow h) hq⟩
 ·cases h
theorem DV {g:Nat} {o' o'':Obj} (h:w.heap[g]?=some o''):(setBlock w g o').heap[g]?=some o'∧∀ k,k ≠ g→(setBlock w g o').heap[k]?=w.heap[k]?:=heap_set h
theorem AT.setBlk (R:AT C σ ι s a w) {id g:Nat} {b b':AU} {o' o'':Obj} (hS:s.S id=some b) (hg:(ι id).g=some g) (hw:w.heap[g]?=some o'') (hno:∀ p:Addr,p.block=g→σ p=none) (hlen:b'.len=b.len) (hwid:b'.wid=b.wid)
  (hr:∀ S' ι',Upd s.S ι S' ι'→Bc σ S' ι' (setBlock w g o') (ι id) b'):∃ ι',AT C σ ι' (s.set id b') a (setBlock w g o')∧Upd s.S ι (s.set id b').S ι':=by
 obtain ⟨q1,q2⟩:=DV (o':=o') hw
 obtain ⟨hu,R'⟩:=R.turn (w':=setBlock w g o') hS b' (ι id) (σ':=σ) (fun _ _ h=>h) (fun _ _ _=>rfl) (R.fit.row hno q2) (by rw [hlen];exact Nat.le_refl _) (fun _=>⟨hwid,rfl⟩) ⟨rfl,rfl,rfl⟩ (by simp [setBlock]) (fun k hk hne=>q2 k fun e=>hne (by rw [e];exact hg)) (fun g' h=>.inl h) (fun hu=>hr _ _ hu)
 exact ⟨_,R',hu⟩
theorem Ek {v:Value} {c:AV} (h:AN σ noS noH v c) (S:AA) (ι:As):AN σ S ι v c:=h.mono (fun _ _ h=>h) (HF S ι)
theorem MK {t:TypeId} {kt:Option KK} (ho:o.op=.makeMap t none) (R:AT C σ ι s a w) (h:Kd.go P d s K (.makeMap kt)):BF P C o a w K:=by
 simp only [Kd.go] at h
 obtain ⟨hid,hK⟩:=h
 obtain ⟨hu,R'⟩:=R.fresh (w':=w.alloc (.map #[] 0)) hid (.map kt []) ⟨none,0,some w.heap.size⟩ (Ext.refl _ _) (R.fit.alloc _) (D5.alloc _ _) (by simp) (fun S' ι' hu=>.map (ents:=#[]) rfl (heap_alloc_new w _) ⟨.nil,rfl⟩ (fun p hp=>R.fit.no (by omega)))
 refine ⟨.map (some w.heap.size),_,_,σ,_,_,.inl (by simp [execOp,ho,Instr.makeMap,newObj,Sem.run]),hK,R',.one (.mptr (b:=.map kt []) (by simp [AS.set,AD]) (Nat.le_refl _) rfl fun _=>⟨w.heap.size,by simp [AD],rfl⟩)⟩
theorem No {t key elem:TypeId} {i:TypeInfo} {z:Value} {zv:AV} {kt:Option KK} {x k:Operand} {x' k':Opd} {ok:Bool} (ho:o.op=.lookup t x k ok) (hx:AM C.n x=some x') (hk:AM C.n k=some k') (ht:P.underlying t=some (.map key elem)) (hkey:Iq P key kt) (hi:P.info? elem=some i) (hz:i.zero=some z) (hzv:Jg z=some zv)
  (R:AT C σ ι s a w) (h:Kd.go P d s K (.lookup kt ok zv x' k')):BF P C o a w K:=by
 have rx:=R.ev hx
 have rk:=R.ev hk
 simp only [Kd.go] at h
 split at h
 ·rename_i id kt' es kv e1 e2
  obtain ⟨rfl,hK⟩:=h
  obtain ⟨g,ents,H⟩:=R.hasMap rx e1
  obtain ⟨c,c1,c2,c3⟩:=Hc rk e2
  have hf:=Ff (σ:=σ) hkey c1 H.rep.all w
  have hck:=fun e=>Ex hkey c1 e w
  split at hf
  ·rename_i hm
   rw [hm] at hK
   refine AZ R (if ok then .tuple #[z,.bool false] else z) _ ?_ hK ?_
   ·simp [execOp,ho,Instr.lookup,run_underlying ht,H.val,MapKept.run_getObj_map H.heap,c3,hck,hf,zeroValue,typeInfo,hi,hz,Result.andThen]
   ·cases ok with
    | false=>exact EO hzv
    | true=>exact .tup (fun j=>if j=0 then z else .bool false) rfl (fun j b hb=>by
      match j,hb with
      | 0,hb=>rfl
      | 1,hb=>rfl) (fun j b hb=>by
      match j,hb with
      | 0,hb=>cases hb;exact EO hzv
      | 1,hb=>cases hb;exact .one (.st .bool))
  ·rename_i v hm
   rw [hm] at hK
   obtain ⟨e,q1,q2,q3,q4⟩:=hf
   refine AZ R (if ok then .tuple #[e.val,.bool true] else e.val) _ ?_ hK ?_
   ·simp [execOp,ho,Instr.lookup,run_underlying ht,H.val,MapKept.run_getObj_map H.heap,c3,hck,q4,Result.andThen]
   ·cases ok with
    | false=>exact Ek q3 _ _
    | true=>exact .tup (fun j=>if j=0 then e.val else .bool true) rfl (fun j b hb=>by
      match j,hb with
      | 0,hb=>rfl
      | 1,hb=>rfl) (fun j b hb=>by
      match j,hb with
      | 0,hb=>cases hb;exact Ek q3 _ _
      | 1,hb=>cases hb;exact .one (.st .bool))
 ·exact h.elim
theorem Jn {t key elem:TypeId} {kt:Option KK} {x k v:Operand} {x' k' v':Opd} (ho:o.op=.mapUpdate t x k v ∨ o.op=.insert t x k v) (hx:AM C.n x=some x') (hk:AM C.n k=some k') (hv:AM C.n v=some v') (ht:P.underlying t=some (.map key elem)) (hkey:Iq P key kt)
  (R:AT C σ ι s a w) (h:Kd.go P d s K (.mapSet kt x' k' v')):BF P C o a w K:=by
 have rx:=R.ev hx
 have rk:=R.ev hk
 have rv:=R.ev hv
 simp only [Kd.go] at h
 split at h
 ·rename_i id kt' es kv vv e1 e2 e3
  obtain ⟨rfl,hK⟩:=h
  obtain ⟨g,ents,H⟩:=R.hasMap rx e1
  obtain ⟨c,c1,c2,c3⟩:=Hc rk e2
  have ro:=R.outV rv e3
  have hf:=Ff (σ:=σ) hkey c1 H.rep.all w
  have hck:=fun e=>Ex hkey c1 e w
  have hex:execOp a.eval o=(do Instr.mapUpdate t (a.eval x) (a.eval k) (a.eval v);pure .skip):=by
   rcases ho with ho | ho <;> simp [execOp,ho]
  have hrun:∃ ents',(execOp a.eval o).run P w=.ok .skip (setBlock w g (.map ents' ents'.size))∧Dc σ kt' ents'.toList (Mx es kv vv):=by
   split at hf
   ·rename_i hm
    refine ⟨ents.push { key:=a.eval k,val:=a.eval v,born:=ents.size },?_,?_⟩
    ·rw [hex]
     simp [Instr.mapUpdate,run_underlying ht,H.val,MapKept.run_getObj_map H.heap,c3,hck,hf,Result.andThen,run_setObj_map _ H.heap,setBlock]
    ·rw [P0 hm]
     exact H.rep.put c1 c2 ro
   ·rename_i v0 hm
    obtain ⟨e,q1,q2,q3,q4⟩:=hf
    have hj:ents[mAt es kv]?=some e:=by simpa using q1
    refine ⟨ents.modify (mAt es kv) fun e=>{ e with key:=a.eval k,val:=a.eval v },?_,?_⟩
    ·rw [hex]
     simp [Instr.mapUpdate,run_underlying ht,H.val,MapKept.run_getObj_map H.heap,c3,hck,q4,Result.andThen,hj,q2,Gm c1,run_setObj_map _ H.heap,setBlock]
    ·rw [Qh hm]
     exact H.rep.mod (fun e=>{ e with key:=a.eval k,val:=a.eval v }) (fun _=>(kv,vv)) (fun _=>rfl) (fun e x _=>⟨⟨c,c1,c2⟩,ro⟩) _
  obtain ⟨ents',r1,r2⟩:=hrun
  obtain ⟨ι',R',hu⟩:=R.setBlk (b':=.map kt' (Mx es kv vv)) (o':=.map ents' ents'.size) H.blk H.hnd H.heap H.no rfl rfl (fun S' ι' hu=>.map H.hnd (DV H.heap).1 r2 H.no)
  exact ⟨undef,.any,_,σ,ι',_,.inr ⟨rfl,r1⟩,hK,R',.any⟩
 ·exact h.elim
theorem Lw {t key elem:TypeId} {i:TypeInfo} {z:Value} {zv:AV} {kt:Option KK} {x k:Operand} {x' k':Opd} (ho:o.op=.mapEntry t x k) (hx:AM C.n x=some x') (hk:AM C.n k=some k') (ht:P.underlying t=some (.map key elem)) (hkey:Iq P key kt) (hi:P.info? elem=some i) (hz:i.zero=some z) (hzv:Jg z=some zv)
  (R:AT C σ ι s a w) (h:Kd.go P d s K (.mapEntry kt zv x' k')):BF P C o a w K:=by
 have rx:=R.ev hx
 have rk:=R.ev hk
 simp only [Kd.go] at h
 split at h
 ·rename_i id kt' es kv e1 e2
  obtain ⟨rfl,hlen,hK⟩:=h
  obtain ⟨g,ents,H⟩:=R.hasMap rx e1
  obtain ⟨c,c1,c2,c3⟩:=Hc rk e2
  have hsz:=H.len
  have hf:=Ff (σ:=σ) hkey c1 H.rep.all w
  have hck:=fun e=>Ex hkey c1 e w
  have tupR:∀ {S':AA} {ι':As} {v1:Value} {b1:AV} {n:Nat},n≤maxLen→AN σ S' ι' v1 b1→AN σ S' ι' (.tuple #[v1,.int .i64 n]) (.tup [b1,.one (.st (.int .i64 n))]):=fun {S' ι' v1 b1 n} hn hv=>.tup (fun j=>if j=0 then v1 else .int .i64 n) rfl (fun j b hb=>by
    match j,hb with
    | 0,hb=>rfl
    | 1,hb=>rfl) (fun j b hb=>by
    match j,hb with
    | 0,hb=>cases hb;exact hv
    | 1,hb=>cases hb;exact .one (.st (.int (Ij hn))))
  split at hf
  ·rename_i hm
   have hat:=RE hm
   have hnew:St es kv zv=es ++ [(kv,zv)]:=by unfold St;rw [hm]
   rw [hm,hnew,hat] at hK
   have hrun:(execOp a.eval o).run P w=.ok (.value (.tuple #[z,.int .i64 ents.size])) (setBlock w g (.map (ents.push { key:=a.eval k,val:=z,born:=ents.size }) (ents.push { key:=a.eval k,val:=z,born:=ents.size }).size)):=by
    simp [execOp,ho,Instr.mapEntry,run_underlying ht,H.val,MapKept.run_getObj_map H.heap,c3,hck,hf,zeroValue,typeInfo,hi,hz,Result.andThen,run_setObj_map _ H.heap,setBlock,goInt]
   obtain ⟨ι',R',hu⟩:=R.setBlk (b':=.map kt' (es ++ [(kv,zv)])) (o':=.map (ents.push { key:=a.eval k,val:=z,born:=ents.size }) (ents.push { key:=a.eval k,val:=z,born:=ents.size }).size) H.blk H.hnd H.heap H.no rfl rfl (fun S' ι' hu=>.map H.hnd (DV H.heap).1 (H.rep.put c1 c2 (EO hzv)) H.no)
   rw [hsz] at hrun
   exact ⟨_,_,_,σ,ι',_,.inl hrun,hK,by rw [← hsz];exact R',tupR hlen (EO hzv)⟩
  ·rename_i v0 hm
   obtain ⟨e,q1,q2,q3,q4⟩:=hf
   have hj:ents[mAt es kv]?=some e:=by simpa using q1
   have hnew:St es kv zv=es:=by unfold St;rw [hm]
   rw [hm,hnew] at hK
   have hborn:e.born=mAt es kv:=by
    have h0:(ents.toList.map (·.born))[mAt es kv]?=some e.born:=by rw [List.getElem?_map,q1];rfl
    rw [H.rep.born] at h0
    obtain ⟨h1,h2⟩:=List.getElem?_eq_some_iff.1 h0
    simpa using h2.symm
   have hmod:es=es.modify (mAt es kv) fun x=>(kv,x.2):=by
    have key:∀ es:List (KV × AV),∀ v0,D2 es kv=some v0→es=es.modify (mAt es kv) fun x=>(kv,x.2):=by
     intro es
     induction es with
     | nil=>intro v0 h;cases h
     | cons x es ih =>
      intro v0 h
      simp only [D2,mAt] at h ⊢
      split at h
      ·rename_i ex
       rw [if_pos ex]
       show _=(kv,x.2) :: es
       rw [← ex]
      ·rename_i ex
       rw [if_neg ex]
       show _=x :: es.modify (mAt es kv) _
       rw [← ih v0 h]
    exact key es v0 hm
   have hrun:(execOp a.eval o).run P w=.ok (.value (.tuple #[e.val,.int .i64 (mAt es kv)])) (setBlock w g (.map (ents.modify (mAt es kv) fun e=>{ e with key:=a.eval k }) ents.size)):=by
    simp [execOp,ho,Instr.mapEntry,run_underlying ht,H.val,MapKept.run_getObj_map H.heap,c3,hck,q4,Result.andThen,hj,q2,Gm c1,run_setObj_map _ H.heap,setBlock,goInt,hborn]
   obtain ⟨ι',R',hu⟩:=R.setBlk (b':=.map kt' es) (o':=.map (ents.modify (mAt es kv) fun e=>{ e with key:=a.eval k }) ents.size) H.blk H.hnd H.heap H.no rfl rfl (fun S' ι' hu=>.map (ents:=ents.modify (mAt es kv) fun e=>{ e with key:=a.eval k }) H.hnd (by rw [Array.size_modify];exact (DV H.heap).1) (by
     have:=H.rep.mod (fun e=>{ e with key:=a.eval k }) (fun x=>(kv,x.2)) (fun _=>rfl) (fun e x hx=>⟨⟨c,c1,c2⟩,hx.2⟩) (mAt es kv)
     rw [← hmod] at this
     exact this) H.no)
   exact ⟨_,_,_,σ,ι',_,.inl hrun,hK,R',tupR (by have:=UA hm;omega) (Ek q3 _ _)⟩
 ·exact h.elim
theorem Gt:∀ {l:List MapEntry} (b n:Nat),l.map (·.born)=List.range' b l.length→n < l.length→l.findIdx? (fun e=>(e.born:Int) == ((b + n:Nat):Int))=some n
 | [],b,n,_,h=>by simp at h
 | e :: l,b,n,hl,h=>by
  simp only [List.map_cons,List.length_cons,List.range'_succ,List.cons.injEq] at hl
  rw [List.findIdx?_cons]
  cases n with
  | zero=>rw [if_pos (by simp [hl.1])]
  | succ n =>
   rw [if_neg (by simp [hl.1];omega)]
   have:=Gt (b + 1) n hl.2 (by simpa using h)
   rw [show b + (n + 1)=b + 1 + n by omega,this]
   rfl
theorem Ln {t:TypeId} {x k v:Operand} {x' k' v':Opd} (ho:o.op=.entryStore t x k v) (hx:AM C.n x=some x') (hk:AM C.n k=some k') (hv:AM C.n v=some v')
  (R:AT C σ ι s a w) (h:Kd.go P d s K (.entrySet x' k' v')):BF P C o a w K:=by
 have rx:=R.ev hx
 have rk:=R.ev hk
 have rv:=R.ev hv
 simp only [Kd.go] at h
 split at h
 ·rename_i id kt es kk n vv e1 e2 e3
  obtain ⟨⟨h0,hlt⟩,hK⟩:=h
  obtain ⟨q,rfl⟩:∃ q:Nat,n=q:=⟨n.toNat,by omega⟩
  simp only [Int.toNat_natCast] at hlt hK
  obtain ⟨g,ents,H⟩:=R.hasMap rx e1
  rw [e2] at rk
  obtain ⟨hek,-⟩:=A7 rk
  have ro:=R.outV rv e3
  have hsz:=H.len
  have hfi:ents.findIdx? (fun e=>(e.born:Int) == (q:Int))=some q:=by
   have:=Gt (l:=ents.toList) 0 q (by rw [H.rep.born,List.range_eq_range']) (by simp;omega)
   rw [Nat.zero_add] at this
   rw [← this]
   exact (fun (A:Array MapEntry) p=>(by cases A;exact List.findIdx?_toArray _ _:A.findIdx? p=A.toList.findIdx? p)) _ _
  have hrun:(execOp a.eval o).run P w=.ok .skip (setBlock w g (.map (ents.modify q fun e=>{ e with val:=a.eval v }) ents.size)):=by
   simp [execOp,ho,Instr.entryStore,H.val,MapKept.run_getObj_map H.heap,hek,asInt,asIntOf,Result.andThen,hfi,run_setObj_map _ H.heap,setBlock]
  obtain ⟨ι',R',hu⟩:=R.setBlk (b':=.map kt (es.modify q fun x=>(x.1,vv))) (o':=.map (ents.modify q fun e=>{ e with val:=a.eval v }) ents.size) H.blk H.hnd H.heap H.no rfl rfl (fun S' ι' hu=>.map (ents:=ents.modify q fun e=>{ e with val:=a.eval v }) H.hnd (by rw [Array.size_modify];exact (DV H.heap).1) (H.rep.mod (fun e=>{ e with val:=a.eval v }) (fun x=>(x.1,vv)) (fun _=>rfl) (fun e x hx=>⟨hx.1,ro⟩) _) H.no)
  exact ⟨undef,.any,_,σ,ι',_,.inr ⟨rfl,hrun⟩,hK,R',.any⟩
 ·exact h.elim
theorem Sh {t key elem:TypeId} {x:Operand} {x':Opd} (ho:o.op=.call { callee:=.builtin .len,args:=#[x],argTypes:=#[t] }) (hx:AM C.n x=some x') (ht:P.underlying t=some (.map key elem)) (R:AT C σ ι s a w) (h:Kd.go P d s K (.lenM x')):BF P C o a w K:=by
 have rx:=R.ev hx
 simp only [Kd.go] at h
 split at h
 ·rename_i id kt es e1
  obtain ⟨g,ents,H⟩:=R.hasMap rx e1
  refine AZ R _ _ ?_ h.2 (.one (.st (.int (Ij h.1))))
  simp [execOp,ho,resolve,invoke,builtin,Builtin.len_,run_underlying ht,H.val,MapKept.run_getObj_map H.heap,Result.andThen,goInt,H.len]
 ·exact h.elim
theorem OV {t key elem:TypeId} {x:Operand} {x':Opd} (ho:o.op=.range t x) (hx:AM C.n x=some x') (ht:P.underlying t=some (.map key elem)) (R:AT C σ ι s a w) (h:Kd.go P d s K (.rangeM x')):BF P C o a w K:=by
 have rx:=R.ev hx
 simp only [Kd.go] at h
 split at h
 ·rename_i id kt es e1
  obtain ⟨hid,hK⟩:=h
  obtain ⟨g,ents,H⟩:=R.hasMap rx e1
  obtain ⟨q1,q2⟩:=Kf e1
  rw [q1] at rx
  have hrx:=Aa rx
  rw [H.val] at hrx
  have hsz:=H.len
  obtain ⟨hu,R'⟩:=R.fresh (w':=w.alloc (.mapIter (some g) es.length #[] es.length)) hid (.iter (.mptr id) es.length []) ⟨none,0,some w.heap.size⟩ (Ext.refl _ _) (R.fit.alloc _) (D5.alloc _ _) (by simp) (fun S' ι' hu=>.iter (m:=g) rfl (heap_alloc_new w _) (hrx.mono (fun _ _ h=>h) hu) (fun p hp=>R.fit.no (by omega)))
  refine ⟨.pointer (some ⟨w.heap.size,0,none⟩),_,_,σ,_,_,.inl ?_,hK,R',.one (.ptr (b:=.iter (.mptr id) es.length []) (by simp [AS.set,AD]) (Nat.le_refl _) rfl fun _=>⟨w.heap.size,by simp [AD],by simp [AU.wid]⟩)⟩
  have hr:=run_range_map (P:=P) w t key elem g ents ents.size ht H.heap
  simp [execOp,ho,H.val,hr,Result.andThen,hsz]
 ·exact h.elim
theorem I6 {S:AA} {v:AV} {id m:Nat} {seen:List Nat} {kt:Option KK} {es:List (KV × AV)} (h:FK S v=some ((id,m,seen),kt,es)):v=.one (.ptr id 1 0 0)∧S id=some (.iter (.mptr m) es.length seen)∧S m=some (.map kt es):=by
 unfold FK at h
 split at h
 ·split at h
  ·rename_i e1
   split at h
   ·rename_i e2
    split at h
    ·rename_i hl
     cases h
     exact ⟨rfl,by rw [hl];exact e1,e2⟩
    ·cases h
   ·cases h
  ·cases h
 ·cases h
theorem AT.hasIter (R:AT C σ ι s a w) {v:Value} {av:AV} {id m:Nat} {seen:List Nat} {kt:Option KK} {es:List (KV × AV)} (hv:AN σ s.S ι v av) (h:FK s.S av=some ((id,m,seen),kt,es)) :
  ∃ r g ents,v=.pointer (some ⟨r,0,none⟩)∧(ι id).g=some r∧w.heap[r]?=some (.mapIter (some g) es.length seen.toArray es.length)∧Aq σ s.S ι (.map (some g)) (.mptr m)∧(∀ p:Addr,p.block=r→σ p=none)∧L_ σ s ι w (.map (some g)) m g ents kt es:=by
 obtain ⟨rfl,hS,hM⟩:=I6 h
 obtain ⟨b,hb1,hb2,hb3⟩:=Eg (Aa hv)
 rw [hS] at hb1
 cases hb1
 obtain ⟨r,g1,g2⟩:=hb3 rfl
 have hb:=R.blk _ _ hS
 cases hb with
 | @iter _ _ _ g' m' k1 k2 k3 k4 =>
 rw [k1] at g1
 cases g1
 obtain ⟨g,ents,H⟩:=R.hasMap (v:=.map (some m')) (av:=.one (.mptr m)) (.one k3) (show D_ s.S _=some (m,kt,es) by simp only [D_,hM])
 have:=H.val
 cases this
 exact ⟨r,m',ents,by simpa [AU.wid] using g2,k1,k2,k3,k4,H⟩
theorem PQ {ents:Array MapEntry} {n:Nat} (hb:ents.toList.map (·.born)=List.range n) {e:MapEntry} (he:e ∈ ents.toList):ents.toList[e.born]?=some e:=by
 obtain ⟨j,hj⟩:=List.getElem?_of_mem he
 have h0:(ents.toList.map (·.born))[j]?=some e.born:=by rw [List.getElem?_map,hj];rfl
 rw [hb] at h0
 obtain ⟨h1,h2⟩:=List.getElem?_eq_some_iff.1 h0
 have:e.born=j:=by simpa using h2.symm
 rw [this]
 exact hj
theorem Qv {x:Operand} {x':Opd} (ho:o.op=.next x false) (hx:AM C.n x=some x') (R:AT C σ ι s a w) (h:Kd.go P d s K (.next x')):BF P C o a w K:=by
 have rx:=R.ev hx
 simp only [Kd.go] at h
 split at h
 ·rename_i id m seen kt es e1
  obtain ⟨r,g,ents,v1,v2,v3,v4,v5,H⟩:=R.hasIter rx e1
  obtain ⟨-,hS,hM⟩:=I6 e1
  have hsz:=H.len
  have hbn:=H.rep.born
  have hmem:∀ e ∈ ents.toList,e.born < es.length:=fun e he=>by
   have:=PQ hbn he
   have:=(List.getElem?_eq_some_iff.1 this).1
   simp at this
   omega
  rcases run_next_at (P:=P) w o.type r g es.length es.length seen.toArray ents ents.size v3 H.heap hmem (Nat.le_refl _) with ⟨h0,hrun⟩ | ⟨e,he,w1,hw1,hrun⟩
  ·refine AZ R (.tuple #[.bool false]) _ ?_ (h.1 fun j hj=>?_) (.tup (fun _=>.bool false) rfl (fun j b hb=>by
     match j,hb with
     | 0,hb=>rfl) (fun j b hb=>by
     match j,hb with
     | 0,hb=>cases hb;exact .one (.st .bool)))
   ·simp [execOp,ho,v1,hrun,Result.andThen]
   ·obtain ⟨e,he⟩:∃ e,ents.toList[j]?=some e:=⟨_,List.getElem?_eq_getElem (by simp;omega)⟩
    have hb:e.born=j:=by
     have h0:(ents.toList.map (·.born))[j]?=some e.born:=by rw [List.getElem?_map,he];rfl
     rw [hbn] at h0
     obtain ⟨h1,h2⟩:=List.getElem?_eq_some_iff.1 h0
     simpa using h2.symm
    have hl:leftOf ents seen.toArray=#[]:=Array.eq_empty_of_size_eq_zero h0
    unfold leftOf at hl
    rw [Array.filter_eq_empty_iff] at hl
    have:=hl e (by simpa using List.mem_of_getElem? he)
    rw [hb] at this
    simpa using this
  ·have he0:e ∈ ents.toList∧e.born ∉ seen:=by
    unfold leftOf at he
    simpa using he
   have hat:=PQ hbn he0.1
   obtain ⟨x1,hx1,hr1⟩:=H.rep.all.get' hat
   obtain ⟨⟨c,c1,c2⟩,c3⟩:=hr1
   have hK:=h.2 _ _ c hx1 he0.2 c1
   have R1:AT C σ ι s a w1:=by rcases hw1 with rfl | rfl;exact R;exact R.drew
   have v3':w1.heap[r]?=some (.mapIter (some g) es.length seen.toArray es.length):=by rcases hw1 with rfl | rfl;exact v3;exact v3
   obtain ⟨ι',R',hu⟩:=R1.setBlk (b':=.iter (.mptr m) es.length (seen ++ [e.born])) (o':=.mapIter (some g) es.length (seen.toArray.push e.born) ents.size) hS v2 v3' v5 rfl rfl (fun S' ι' hu=>.iter (m:=g) v2 (by rw [(DV v3').1,hsz];simp) (v4.mono (fun _ _ h=>h) hu) v5)
   refine ⟨.tuple #[.bool true,e.key,e.val],_,_,σ,ι',_,.inl ?_,hK,R',.tup (fun j=>if j=0 then .bool true else if j=1 then e.key else e.val) rfl (fun j b hb=>by
     match j,hb with
     | 0,hb=>rfl
     | 1,hb=>rfl
     | 2,hb=>rfl) (fun j b hb=>by
     match j,hb with
     | 0,hb=>cases hb;exact .one (.st .bool)
     | 1,hb=>cases hb;exact Ek c2 _ _
     | 2,hb=>cases hb;exact Ek c3 _ _)⟩
   simp [execOp,ho,v1,hrun,Result.andThen]
 ·exact h.elim
theorem QM {x:Operand} {x':Opd} (ho:o.op=.entry x) (hx:AM C.n x=some x') (R:AT C σ ι s a w) (h:Kd.go P d s K (.entry x')):BF P C o a w K:=by
 have rx:=R.ev hx
 simp only [Kd.go] at h
 split at h
 ·rename_i id m seen kt es e1
  split at h
  ·rename_i j e2
   split at h
   ·rename_i y e3
    split at h
    ·rename_i c e4
     obtain ⟨r,g,ents,v1,v2,v3,v4,v5,H⟩:=R.hasIter rx e1
     have hsz:=H.len
     obtain ⟨e,he,hr⟩:=H.rep.all.get e3
     obtain ⟨⟨c',c1,c2⟩,c3⟩:=hr
     rw [e4] at c1
     cases c1
     have hb:e.born=j:=by
      have h0:(ents.toList.map (·.born))[j]?=some e.born:=by rw [List.getElem?_map,he];rfl
      rw [H.rep.born] at h0
      obtain ⟨h1,h2⟩:=List.getElem?_eq_some_iff.1 h0
      simpa using h2.symm
     obtain ⟨seen0,rfl⟩:∃ l,seen=l ++ [j]:=by
      rw [List.getLast?_eq_some_iff] at e2
      exact e2
     have hrun:=run_entry_at (P:=P) w r g es.length seen0.toArray ents ents.size e (by rw [v3,hsz,hb];simp) H.heap (List.mem_of_getElem? he) (by rw [H.rep.born];exact List.nodup_range)
     refine AZ R (.tuple #[e.key,e.val]) _ ?_ h (.tup (fun j=>if j=0 then e.key else e.val) rfl (fun j b hb=>by
       match j,hb with
       | 0,hb=>rfl
       | 1,hb=>rfl) (fun j b hb=>by
       match j,hb with
       | 0,hb=>cases hb;exact Ek c2 _ _
       | 1,hb=>cases hb;exact Ek c3 _ _))
     simp [execOp,ho,v1,hrun,Result.andThen]
    ·exact h.elim
   ·exact h.elim
  ·exact h.elim
 ·exact h.elim
end

section
variable {P:Program} {k e el:TypeId} {i j:TypeInfo} (w:World)
end

section
variable {P:Program} {C:Ctx} {o:Oper} {a:Act} {w:World} {K:AV→AS→Prop} {σ:Sto} {ι:As} {s:AS} {d:Nat}
theorem Ez.put {f:List SV→List SV→SV→Prop} {ents:Array MapEntry} (h:Ez σ f ents.toList) {e:MapEntry} (he:∃ v1 v2 cs ds x,e.key=.agg #[v1,v2]∧Aq σ noS noH v1 (.eptr cs)∧Aq σ noS noH v2 (.eptr ds)∧C8 cs=true∧C8 ds=true∧A0 σ e.val x∧f cs ds x):Ez σ f (ents.push e).toList:=fun y hy=>by
 rw [Array.toList_push,List.mem_append,List.mem_singleton] at hy
 rcases hy with hy | rfl
 ·exact h y hy
 ·exact he
end

theorem Cs:∀ {l:List AC},AC.highs l=true→∀ a ∈ l,a.high=true
 | [],_,a,ha=>by simp at ha
 | x :: xs,hx,a,ha=>by
  rw [AC.highs,Bool.and_eq_true] at hx
  rcases List.mem_cons.1 ha with rfl | ha
  ·exact hx.1
  ·exact Cs hx.2 a ha
section
variable {C:Ctx} {σ:Sto} {ι:As} {s:AS} {a:Act} {w:World}
theorem Aq.low {σ:Sto} {S S2:AA} {ι:As} (hS:∀ i b,1000≤i→S i=some b→S2 i=some b) {v:Value} {c:AC} (h:Aq σ S ι v c) (hc:c.high=true):Aq σ S2 ι v c:=by
 induction h with
 | st h=>exact .st h
 | full h=>exact .full h
 | row h1 h2 h3 h4=>exact .row (hS _ _ (by rw [AC.high] at hc;exact of_decide_eq_true hc) h1) h2 h3 h4
 | part h1 h2 h3 h4=>exact .part (hS _ _ (by rw [AC.high] at hc;exact of_decide_eq_true hc) h1) h2 h3 h4
 | rest h1 h2 h3 h4=>exact .rest (hS _ _ (by rw [AC.high] at hc;exact of_decide_eq_true hc) h1) h2 h3 h4
 | ptr h1 h2 h3 h4=>exact .ptr (hS _ _ (by rw [AC.high] at hc;exact of_decide_eq_true hc) h1) h2 h3 h4
 | mptr h1 h2 h3 h4=>exact .mptr (hS _ _ (by rw [AC.high] at hc;exact of_decide_eq_true hc) h1) h2 h3 h4
 | yld h1 h2 h3 h4=>exact .yld (hS _ _ (by rw [AC.high] at hc;exact of_decide_eq_true hc) h1) h2 h3 h4
 | ubool=>exact .ubool
 | eptr c h1 h2 hh=>exact .eptr c h1 h2 hh
 | @fn f vs caps c h1 h2 h3 ih =>
  have key:∀ (l:List AC),AC.highs l=true→∀ a ∈ l,a.high=true:=by
   intro l
   induction l with
   | nil=>simp
   | cons x xs ih2 =>
    intro hx a ha
    rw [AC.highs,Bool.and_eq_true] at hx
    rcases List.mem_cons.1 ha with rfl | ha
    ·exact hx.1
    ·exact ih2 hx.2 a ha
  rw [AC.high] at hc
  exact .fn c h1 h2 (fun j a ha=>ih j a ha (key _ hc a (List.mem_of_getElem? ha)))
 | any h=>exact .any h
theorem J3 {S S2:AA} (hS:∀ i b,1000≤i→S i=some b→S2 i=some b) {vs:List Value} {cs:List AC} (h:Af (Aq σ S ι) vs cs) (hc:AC.highs cs=true):Af (Aq σ S2 ι) vs cs :=
 Af.of_get h.len fun j v c hv hcj=>by
  obtain ⟨v',h1,h2⟩:=h.get hcj
  rw [hv] at h1
  cases h1
  exact h2.low hS (Cs hc c (List.mem_of_getElem? hcj))
mutual
theorem AN.low {S S2:AA} (hS:∀ i b,1000≤i→S i=some b→S2 i=some b):∀ {v:Value} {c:AV},AN σ S ι v c→c.high=true→AN σ S2 ι v c
 | v,.one c,h,hc=>by cases h with | one h=>exact .one (h.low hS (by rw [AV.high] at hc;exact hc))
 | v,.agg cs,h,hc=>by cases h with | agg h=>exact .agg (J3 hS h (by rw [AV.high] at hc;exact hc))
 | v,.tup vs,h,hc=>by
  cases h with
  | tup c h1 h2 h3=>exact .tup c h1 h2 (AN.lows hS h3 (by rw [AV.high] at hc;exact hc))
 | v,.any,h,_=>.any
theorem AN.lows {S S2:AA} (hS:∀ i b,1000≤i→S i=some b→S2 i=some b):∀ {vs:List AV} {c:Nat→Value},(∀ j b,vs[j]?=some b→AN σ S ι (c j) b)→AV.highs vs=true→∀ j b,vs[j]?=some b→AN σ S2 ι (c j) b
 | [],c,h,_,j,b,hb=>by simp at hb
 | x :: xs,c,h,hc,j,b,hb=>by
  rw [AV.highs,Bool.and_eq_true] at hc
  cases j with
  | zero =>
   simp at hb
   subst hb
   exact AN.low hS (h 0 x rfl) hc.1
  | succ j=>exact AN.lows hS (vs:=xs) (c:=fun j=>c (j + 1)) (fun j b hb=>h (j + 1) b (by simpa using hb)) hc.2 j b (by simpa using hb)
end
section
variable {S S2:AA} {ι2:As}
mutual
theorem AN.same (hc:∀ v c,Aq σ S ι v c→c.high=true→Aq σ S2 ι2 v c):∀ {v:Value} {a:AV},AN σ S ι v a→a.high=true→AN σ S2 ι2 v a
 | v,.one c,h,hh=>by cases h with | one h=>exact .one (hc _ _ h (by rw [AV.high] at hh;exact hh))
 | v,.agg cs,h,hh=>by
  rw [AV.high] at hh
  cases h with
  | agg h =>
   refine .agg (Af.of_get h.len fun j x c hx hcj=>?_)
   obtain ⟨x',h1,h2⟩:=h.get hcj
   rw [hx] at h1
   cases h1
   exact hc _ _ h2 (Cs hh c (List.mem_of_getElem? hcj))
 | v,.tup vs,h,hh=>by
  rw [AV.high] at hh
  cases h with
  | tup c h1 h2 h3=>exact .tup c h1 h2 (AN.sames hc h3 hh)
 | v,.any,_,_=>.any
theorem AN.sames (hc:∀ v c,Aq σ S ι v c→c.high=true→Aq σ S2 ι2 v c):∀ {vs:List AV} {c:Nat→Value},(∀ (j:Nat) b,vs[j]?=some b→AN σ S ι (c j) b)→AV.highs vs=true→∀ (j:Nat) b,vs[j]?=some b→AN σ S2 ι2 (c j) b
 | [],_,_,_,j,b,hb=>by simp at hb
 | x :: xs,c,h,hh,j,b,hb=>by
  rw [AV.highs,Bool.and_eq_true] at hh
  cases j with
  | zero =>
   simp at hb
   subst hb
   exact AN.same hc (h 0 x rfl) hh.1
  | succ j=>exact AN.sames hc (vs:=xs) (c:=fun j=>c (j + 1)) (fun j b hb=>h (j + 1) b (by simpa using hb)) hh.2 j b (by simpa using hb)
end
end
theorem Bc.samecells {S S2:AA} {ι2:As} {h:Hnd} {b:AU} (hr:Bc σ S ι w h b) (hc:∀ v c,Aq σ S ι v c→c.high=true→Aq σ S2 ι2 v c) (hb:b.high=true):Bc σ S2 ι2 w h b:=by
 cases hr with
 | box k1 k2 k3 k4 k5 =>
  refine .box k1 k2 k3 (Af.of_get k4.len fun j v c hv hcj=>?_) k5
  obtain ⟨v',h1,h2⟩:=k4.get hcj
  rw [hv] at h1
  cases h1
  exact hc _ _ h2 (Cs hb c (List.mem_of_getElem? hcj))
 | crow k1 k2 k3 kc km k4 k5 =>
  refine .crow k1 k2 k3 kc km (Af.of_get k4.len fun j v c hv hcj=>?_) k5
  obtain ⟨v',h1,h2⟩:=k4.get hcj
  rw [hv] at h1
  cases h1
  exact hc _ _ h2 (Cs hb c (List.mem_of_getElem? hcj))
 | afull k1 k2 k3 k4=>exact .afull k1 k2 k3 k4
 | arow k1 k2 k3 k4 k5 k6 k7 k8 k9 kh=>exact .arow k1 k2 k3 k4 k5 k6 k7 k8 k9 kh
 | mnil k1 k2=>exact .mnil k1 k2
 | mrow k1 k2 k3 k4 k5 k6 k7 k8 k9=>exact .mrow k1 k2 k3 k4 k5 k6 k7 k8 k9
 | map k1 k2 k3 k4=>exact .map k1 k2 k3 k4
 | memo k1 k2 k3 k4=>exact .memo k1 k2 k3 k4
 | iter k1 k2 k3 k4=>exact .iter k1 k2 (hc _ _ k3 hb) k4
 | @loop env r g k1 k2 k3 k4 k5=>exact .loop k1 k2 k3 (AN.sames (c:=fun j=>r.tmps.getD j undef) hc k4 hb) k5
 | dead k1=>exact .dead k1
theorem Do {S S':AA} {i:Nat} (h:i < 1000):EN S S' i=S i:=if_pos h
theorem CC {S S':AA} {i:Nat} (h:1000≤i):EN S S' i=S' i:=if_neg (by omega)
theorem AT.ownT (R:AT C σ ι s a w) {T:AA} (hST:∀ i,1000≤i→s.S i=T i) (hT:An T):Cz σ T ι w:=by
 have hS:∀ i b,1000≤i→s.S i=some b→T i=some b:=fun i b hi hb=>by rw [← hST i hi];exact hb
 refine ⟨fun id b hb=>?_,fun id id' b b' g h1 h2 g1 g2=>?_⟩
 ·obtain ⟨hi,hh⟩:=hT id b hb
  exact (R.blk id b (by rw [hST id hi];exact hb)).samecells (fun v c hv hc=>hv.low hS hc) hh
 ·exact R.inj _ _ _ _ g (by rw [hST id (hT id b h1).1];exact h1) (by rw [hST id' (hT id' b' h2).1];exact h2) g1 g2
theorem JR:∀ {l:List AV},AV.highs l=true→∀ a ∈ l,a.high=true
 | [],_,a,ha=>by simp at ha
 | x :: xs,hx,a,ha=>by
  rw [AV.highs,Bool.and_eq_true] at hx
  rcases List.mem_cons.1 ha with rfl | ha
  ·exact hx.1
  ·exact JR hx.2 a ha
theorem TX (S:AA) (x:AV):HR S x=x ∨ outV S x=some (HR S x):=by
 unfold HR
 cases outV S x with
 | none=>exact .inl rfl
 | some y=>exact .inr rfl
theorem AT.argsT (R:AT C σ ι s a w) {T:AA} (hST:∀ i,1000≤i→s.S i=T i) {vs:List Value} {xs:List AV} (hh:AV.highs (xs.map (HR s.S))=true) (h:Af (AN σ s.S ι) vs xs):Af (AN σ T ι) vs (xs.map (HR s.S)):=by
 have hS:∀ i b,1000≤i→s.S i=some b→T i=some b:=fun i b hi hb=>by rw [← hST i hi];exact hb
 refine Af.of_get (by rw [List.length_map];exact h.len) fun j v b hv hb=>?_
 have hb':=JR hh b (List.mem_of_getElem? hb)
 rw [List.getElem?_map,Option.map_eq_some_iff] at hb
 obtain ⟨x,hx,rfl⟩:=hb
 obtain ⟨v',h1,h2⟩:=h.get hx
 rw [hv] at h1
 cases h1
 rcases TX s.S x with e | e
 ·rw [e] at hb' ⊢
  exact h2.low hS hb'
 ·exact (R.outV h2 e).mono (fun _ _ h=>h) (HF _ _)
theorem AT.join (R:AT C σ ι s a w) {T:AA} (hST:∀ i,1000≤i→s.S i=T i) (hT:An T) {Post:AV→AA→Prop} {e:Ending} {w':World} (he:OH σ T ι w Post e w') :
  ∃ v r S' σ' ι2,e=.returned v∧Post r S'∧An S'∧AT C σ' ι2 ⟨s.env,EN s.S S'⟩ a w'∧AN σ' (EN s.S S') ι2 v r:=by
 obtain ⟨v,r,S',σ',ι',rfl,hP,hS',hupd,hown',hv,hf',hkeep,hold,hos,hsz,hsame,hbase⟩:=he
 have hown:=R.ownT hST hT
 obtain ⟨ι2,hι2⟩:∃ ι2:As,∀ i,ι2 i=if i < 1000 then ι i else ι' i:=⟨fun i=>if i < 1000 then ι i else ι' i,fun _=>rfl⟩
 have hlo:∀ i,i < 1000→ι2 i=ι i:=fun i hi=>by rw [hι2,if_pos hi]
 have hhi:∀ i,1000≤i→ι2 i=ι' i:=fun i hi=>by rw [hι2,if_neg (by omega)]
 have hlt:∀ id b g,s.S id=some b→(ι id).g=some g→g < w.heap.size:=fun id b g h1 h2=>(R.blk id b h1).gsome h2
 have hlow:∀ id b g,id < 1000→s.S id=some b→(ι id).g=some g→BZ T ι g:=fun id b g hi hb hg id2 b2 hb2 hg2=>by
  have h2:=(hT id2 b2 hb2).1
  have:=R.inj _ _ _ _ g hb (by rw [hST id2 h2];exact hb2) hg hg2
  omega
 have hnot:∀ g,g < C.N→¬ C.G g→BZ T ι g:=fun g h1 h2 id b hb hg=>by
  rcases R.base id b g (by rw [hST id (hT id b hb).1];exact hb) hg with h | h
  ·omega
  ·exact h2 h
 have hu:Upd s.S ι (EN s.S S') ι2:=fun id b hb=>by
  rcases Nat.lt_or_ge id 1000 with hi | hi
  ·exact ⟨b,by rw [Do hi];exact hb,Nat.le_refl _,fun _=>⟨rfl,hlo id hi⟩⟩
  ·obtain ⟨b',h1,h2,h3⟩:=hupd id b (by rw [← hST id hi];exact hb)
   exact ⟨b',by rw [CC hi];exact h1,h2,fun hl=>⟨(h3 hl).1,by rw [hhi id hi];exact (h3 hl).2⟩⟩
 have hu2:Upd S' ι' (EN s.S S') ι2:=fun id b hb=>⟨b,by rw [CC (hS' id b hb).1];exact hb,Nat.le_refl _,fun _=>⟨rfl,hhi id (hS' id b hb).1⟩⟩
 refine ⟨v,r,S',σ',ι2,rfl,hP,hS',?_,hv.mono (fun _ _ h=>h) hu2⟩
 refine ⟨R.size,fun i hi=>(R.env i hi).mono hkeep hu,R.nod.mono (fun D h=>(hsame D (Array.getElem?_eq_some_iff.1 h).1 (DK hown.1 h)).trans h),hf',fun id b hb=>?_,fun id id' b b' g h1 h2 g1 g2=>?_,fun id b g hb hg=>?_,fun p x hx=>hkeep _ _ (R.ext p x hx),fun p h1 h2=>?_,⟨hos.1.trans R.os.1,hos.2.1.trans R.os.2.1,hos.2.2.trans R.os.2.2⟩,⟨Nat.le_trans R.grown.1 hsz,Nat.le_trans R.grown.2 hsz⟩,fun g h1 h2=>?_,R.upd.trans hu⟩
 ·rcases Nat.lt_or_ge id 1000 with hi | hi
  ·have hb':s.S id=some b:=(Do (S:=s.S) (S':=S') hi).symm.trans hb
   rw [hlo id hi]
   exact (R.blk id b hb').mono hkeep hu (fun g hg=>hsame g (hlt id b g hb' hg) (hlow id b g hi hb' hg)) (fun g hg p hp=>hold p (by rw [hp];exact hlt id b g hb' hg) (by rw [hp];exact hlow id b g hi hb' hg))
  ·have hb':S' id=some b:=(CC (S:=s.S) (S':=S') hi).symm.trans hb
   rw [hhi id hi]
   exact (hown'.1 id b hb').mono (fun _ _ h=>h) hu2 (fun _ _=>rfl) (fun _ _ _ _=>rfl)
 ·have cross:∀ id id' b b' g,id < 1000→1000≤id'→EN s.S S' id=some b→EN s.S S' id'=some b'→(ι2 id).g=some g→(ι2 id').g=some g→False:=fun id id' b b' g l1 l2 h1 h2 g1 g2=>by
   rw [Do l1] at h1
   rw [CC l2] at h2
   rw [hlo id l1] at g1
   rw [hhi id' l2] at g2
   rcases hbase id' b' g h2 g2 with h | h
   ·have:=hlt id b g h1 g1;omega
   ·exact h (hlow id b g l1 h1 g1)
  change EN s.S S' id=some b at h1
  change EN s.S S' id'=some b' at h2
  rcases Nat.lt_or_ge id 1000 with l1 | l1 <;> rcases Nat.lt_or_ge id' 1000 with l2 | l2
  ·rw [Do l1] at h1
   rw [Do l2] at h2
   rw [hlo id l1] at g1
   rw [hlo id' l2] at g2
   exact R.inj _ _ _ _ g h1 h2 g1 g2
  ·exact (cross id id' b b' g l1 l2 h1 h2 g1 g2).elim
  ·exact (cross id' id b' b g l2 l1 h2 h1 g2 g1).elim
  ·rw [CC l1] at h1
   rw [CC l2] at h2
   rw [hhi id l1] at g1
   rw [hhi id' l2] at g2
   exact hown'.2 _ _ _ _ g h1 h2 g1 g2
 ·change EN s.S S' id=some b at hb
  rcases Nat.lt_or_ge id 1000 with hi | hi
  ·rw [Do hi] at hb
   rw [hlo id hi] at hg
   exact R.base id b g hb hg
  ·rw [CC hi] at hb
   rw [hhi id hi] at hg
   rcases hbase id b g hb hg with h2 | h2
   ·exact .inl (by have:=R.grown.1;omega)
   ·by_cases hN:g < C.N
    ·by_cases hG:C.G g
     ·exact .inr hG
     ·exact absurd (hnot g hN hG) h2
    ·exact .inl (by omega)
 ·exact (hold p (by have:=R.grown.1;omega) (hnot _ h1 h2)).trans (R.old p h1 h2)
 ·exact (hsame g (by have:=R.grown.1;omega) (hnot g h1 h2)).trans (R.same g h1 h2)
end

end Go.Proofs.YtignopbnnaimaaaGreatDoor
