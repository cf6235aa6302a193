/-
  Part 9 of the texts. Conditions: none.
-/
import Derived.Test.YtignopbnnaimaaaGreatDoorTWi8
import Derived.Defers
import Derived.Recover
import Derived.ChangeKeysEq
namespace Go.Proofs.YtignopbnnaimaaaGreatDoor
open Go Go.RowKit
set_option linter.unusedVariables false
set_option maxHeartbeats 400000
def IG (P:Program) (f:FuncId) (xs:List AV) (S:AA) (v:Value) (S':AA):Prop :=
 An S→∀ (σ:Sto) (w:World) (vs:List Value) (ι:As),Bt σ→Fit σ w→Cz σ S ι w→Af (AN σ S ι) vs xs →
  Calls P f vs.toArray w fun e w'=>∃ σ' ι',e=.panicked [{ v:=v,recovered:=false }]∧An S'∧Upd S ι S' ι'∧Cz σ' S' ι' w'∧Fit σ' w'∧(∀ p x,σ p=some x→σ' p=some x) ∧
   (∀ p:Addr,p.block < w.heap.size→BZ S ι p.block→σ' p=σ p)∧(w'.os=w.os∧w'.tape=w.tape∧w'.output=w.output)∧w.heap.size≤w'.heap.size ∧
   (∀ g,g < w.heap.size→BZ S ι g→w'.heap[g]?=w.heap[g]?)∧(∀ id b g,S' id=some b→(ι' id).g=some g→w.heap.size≤g ∨ ¬ BZ S ι g)
section
variable {P:Program} {C:Ctx} {a:Act} {w:World} {σ:Sto} {ι:As} {s:AS} {Q:Exit→Act→World→Prop} {o:Oper}
theorem LB {f:FuncId} {vs:List Value} {avs:List AV} {v:Value} {S':AA} {next:Act→World→Prop} (R:AT C σ ι s a w) (hrun:(execOp a.eval o).run P w=.ok (.enter f vs.toArray) w) (hvs:Af (AN σ s.S ι) vs avs)
  (h:IG P f (AV.rens up1 avs) (upS s.S) v S') (hQ:∀ a' w',Ax C ⟨s.env,dnS S'⟩ a' w'→Q (.panic [{ v:=v,recovered:=false }]) a' w'):o.wp P a w next Q:=by
 have hup:∀ i,dn1 (up1 i)=i:=DF
 have hS:∀ i b,s.S i=some b→upS s.S (up1 i)=some (b.ren up1):=fun i b hb=>A1 hb
 obtain ⟨ι1,hι1⟩:∃ ι1:As,∀ i,ι1 i=ι (dn1 i):=⟨fun i=>ι (dn1 i),fun _=>rfl⟩
 have hι:∀ i b,s.S i=some b→ι1 (up1 i)=ι i:=fun i b _=>by rw [hι1,hup]
 have hown:Cz σ (upS s.S) ι1 w:=by
  refine ⟨fun id b hb=>?_,fun id id' b b' g h1 h2 g1 g2=>?_⟩
  ·obtain ⟨hle,b',h1,rfl⟩:=Bo hb
   have:=Bc.ren (S2:=upS s.S) (ι2:=ι1) (ρ:=up1) hS hι (R.blk _ _ h1)
   rw [hι1]
   exact this
  ·obtain ⟨l1,c1,k1,_⟩:=Bo h1
   obtain ⟨l2,c2,k2,_⟩:=Bo h2
   rw [hι1] at g1 g2
   have:=R.inj _ _ _ _ g k1 k2 g1 g2
   rw [← Ea l1,← Ea l2,this]
 have hargs:Af (AN σ (upS s.S) ι1) vs (AV.rens up1 avs):=by
  rw [AV.rens_eq]
  exact (hvs.mono fun _ _ x=>AN.ren (S2:=upS s.S) (ι2:=ι1) (ρ:=up1) hS hι x).map_right
 unfold Oper.wp
 rw [hrun,Oper.upon_enter]
 refine (h (Ee _) σ w vs _ (C.glob.mono R.ext) R.fit hown hargs).mono fun e w' he=>?_
 obtain ⟨σ',ι',rfl,hclean,hupd,hown',hf',hkeep,hold,hos,hsz,hsame,hbase⟩:=he
 have hSd:∀ i b,S' i=some b→dnS S' (dn1 i)=some (b.ren dn1):=fun i b hb=>Fq (hclean i b hb).1 hb
 obtain ⟨ι2,hι2⟩:∃ ι2:As,∀ i,ι2 i=ι' (up1 i):=⟨fun i=>ι' (up1 i),fun _=>rfl⟩
 have hιd:∀ i b,S' i=some b→ι2 (dn1 i)=ι' i:=fun i b hb=>by
  rw [hι2,Ea (hclean i b hb).1]
 have hu:Upd s.S ι (dnS S') ι2:=fun id b hb=>by
  obtain ⟨b',h1,h2,h3⟩:=hupd _ _ (hS id b hb)
  have h4:=hSd _ _ h1
  rw [hup] at h4
  refine ⟨_,h4,by rw [BH] at h2 ⊢;exact h2,fun hl=>?_⟩
  rw [BH] at hl
  obtain ⟨q1,q2⟩:=h3 (by rw [BH];exact hl)
  refine ⟨by rw [F0] at q1 ⊢;exact q1,?_⟩
  rw [hι2,q2,hι1,hup]
 have hnot:∀ g,g < C.N→¬ C.G g→BZ (upS s.S) ι1 g:=fun g h1 h2 id b hb hg=>by
  obtain ⟨_,b',k1,_⟩:=Bo hb
  rw [hι1] at hg
  rcases R.base _ _ g k1 hg with h | h
  ·omega
  ·exact h2 h
 have R':AT C σ' ι2 ⟨s.env,dnS S'⟩ a w':=by
  refine ⟨R.size,fun i hi=>(R.env i hi).mono hkeep hu,R.nod.mono (fun D h=>(hsame D (Array.getElem?_eq_some_iff.1 h).1 (DK hown.1 h)).trans h),hf',fun id b hb=>?_,fun id id' b b' g h1 h2 g1 g2=>?_,fun id b g hb hg=>?_,fun p x hx=>hkeep _ _ (R.ext p x hx),fun p h1 h2=>?_,⟨hos.1.trans R.os.1,hos.2.1.trans R.os.2.1,hos.2.2.trans R.os.2.2⟩,⟨Nat.le_trans R.grown.1 hsz,Nat.le_trans R.grown.2 hsz⟩,fun g h1 h2=>?_,R.upd.trans hu⟩
  ·obtain ⟨b',h1,rfl⟩:=Bz hb
   have:=Bc.ren (S2:=dnS S') (ι2:=ι2) (ρ:=dn1) hSd hιd (hown'.1 _ _ h1)
   rw [hι2]
   exact this
  ·obtain ⟨c1,k1,_⟩:=Bz h1
   obtain ⟨c2,k2,_⟩:=Bz h2
   rw [hι2] at g1 g2
   have:=congrArg dn1 (hown'.2 _ _ _ _ g k1 k2 g1 g2)
   rw [hup,hup] at this
   exact this
  ·obtain ⟨b',h1,_⟩:=Bz hb
   rw [hι2] at hg
   rcases hbase _ _ g h1 hg with h2 | h2
   ·exact .inl (by have:=R.grown.1;omega)
   ·by_cases hN:g < C.N
    ·by_cases hG:C.G g
     ·exact .inr hG
     ·exact absurd (hnot g hN hG) h2
    ·exact .inl (by omega)
  ·exact (hold p (by have:=R.grown.1;omega) (hnot _ h1 h2)).trans (R.old p h1 h2)
  ·exact (hsame g (by have:=R.grown.1;omega) (hnot g h1 h2)).trans (R.same g h1 h2)
 exact hQ _ _ ⟨σ',_,R'⟩
def BI (P:Program) (kd:Kd) (s:AS) (E:Value→AA→Prop):Prop:=match kd with
 | .callS f xs=>∃ v S',IG P f (AV.rens up1 (s.evs xs)) (upS s.S) v S'∧E v (dnS S')
 | .pan x=>match s.ev x with
  | .one (.st (.lit (.iface t u)))=>E (.iface t u) s.S
  | _=>False
 | _=>False
theorem UL {kd:Kd} {d:Nat} {K:AV→AS→Prop} (h:kd.go P d s K):kd.go P d s fun v s'=>K v s'∧s'.env=s.env:=by
 by_cases hdet:kd.det=true
 ·obtain ⟨v,S1,h1,h2,h3⟩:=Gj hdet h
  exact (h3 s.env (fun _ _=>rfl)).1 _ ⟨h1,rfl⟩
 ·cases kd
  case next x =>
   simp only [Kd.go] at h ⊢
   split at h
   ·exact ⟨fun hj=>⟨h.1 hj,trivial⟩,fun j x c h1 h2 h3=>⟨h.2 j x c h1 h2 h3,rfl⟩⟩
   ·exact h.elim
  case memoGet ok z m k =>
   simp only [Kd.go] at h ⊢
   split at h
   ·exact ⟨h.1,⟨h.2.1,trivial⟩,fun cs' ds' x h1 h2 h3=>⟨h.2.2 cs' ds' x h1 h2 h3,trivial⟩⟩
   ·exact h.elim
  case callX f xs =>
   obtain ⟨T,Post,h1,h2,h3,h4,h5⟩:=h
   exact ⟨T,Post,h1,h2,h3,h4,fun r S' k1 k2=>⟨h5 r S' k1 k2,rfl⟩⟩
  case callY f xs =>
   obtain ⟨T,Post,h1,h2,h3,h4,h5⟩:=h
   exact ⟨T,Post,h1,h2,h3,h4,fun r S' k1 k2=>⟨h5 r S' k1 k2,rfl⟩⟩
  all_goals exact absurd rfl hdet
theorem Qp {s':AS} {dd:Option Nat} {v:AV} {t:Nat} (h:dd ≠ some t):(s'.put dd v).env t=s'.env t:=Dk (env:=s'.env) (S1:=s'.S) h
theorem PV {i:Ins} {K:AS→Prop} (h:i.go P s K):i.go P s fun s'=>K s'∧∀ t,i.dst ≠ some t→s'.env t=s.env t:=by
 have hgo:∀ {d:Nat} {K':AV→AS→Prop},i.kd.goT P d s i.tag K'→i.kd.goT P d s i.tag fun v s'=>K' v s'∧s'.env=s.env:=fun hh=>go_mono (UL hh) fun v s' hv=>⟨hv.1.1,hv.1.2,hv.2⟩
 have hput:∀ (v:AV) (s':AS),s'.env=s.env→∀ t,i.dst ≠ some t→(s'.put i.dst v).env t=s.env t:=fun v s' he t ht=>by rw [Qp ht,he]
 unfold Ins.go at h ⊢
 revert h
 cases i.guard with
 | none =>
  intro h
  exact Ck (hgo h) fun v s' _ hv=>⟨hv.1,hput v s' hv.2⟩
 | some gw =>
  obtain ⟨g,want⟩:=gw
  intro h
  dsimp only at h ⊢
  split at h
  ·rename_i b e1
   refine ⟨fun hb=>Ck (hgo (h.1 hb)) fun v s' _ hv=>⟨hv.1,hput v s' hv.2⟩,fun hb=>⟨h.2 hb,hput _ _ rfl⟩⟩
  ·exact ⟨h,hput _ _ rfl⟩
  ·exact h.elim
theorem Sx {i:Ins} {K K':AS→Prop} (h:i.go P s K) (hm:∀ s,K s→K' s):i.go P s K':=by
 unfold Ins.go at h ⊢
 revert h
 cases i.guard with
 | none =>
  intro h
  exact Ck h fun v s' _ hv=>hm _ hv
 | some gw =>
  obtain ⟨g,want⟩:=gw
  intro h
  dsimp only at h ⊢
  split at h
  ·exact ⟨fun hb=>Ck (h.1 hb) fun v s' _ hv=>hm _ hv,fun hb=>hm _ (h.2 hb)⟩
  ·exact hm _ h
  ·exact h.elim
theorem PK {K K':AS→Prop} (hm:∀ s,K s→K' s):∀ {l:List Ins} {s:AS},Run P l s K→Run P l s K'
 | [],s,h=>hm _ h
 | i :: l,s,h=>by
  rw [Fh] at h ⊢
  exact Sx h fun s' h'=>PK hm h'
theorem OA {kd:Kd} {E E':Value→AA→Prop} (h:BI P kd s E) (hm:∀ v S',E v S'→E' v S'):BI P kd s E':=by
 cases kd <;> simp only [BI] at h ⊢
 case callS f xs =>
  obtain ⟨v,S',h1,h2⟩:=h
  exact ⟨v,S',h1,hm _ _ h2⟩
 case pan x =>
  split at h
  ·exact hm _ _ h
  ·exact h.elim
theorem P2 {kd:Kd} {s1:AS} {E:Value→AA→Prop} (h:BI P kd s1 E) (hS:s1.S=s.S) (he:∀ t ∈ kd.reads,s1.env t=s.env t):BI P kd s E:=by
 cases kd <;> simp only [BI] at h
 case callS f xs =>
  obtain ⟨v,S',h1,h2⟩:=h
  refine ⟨v,S',?_,h2⟩
  have e:s.evs xs=s1.evs xs:=Cl (s:=s1) (env':=s.env) (S':=s.S) fun t ht=>(he t ht).symm
  rw [e,← hS]
  exact h1
 case pan x =>
  have e:s.ev x=s1.ev x:=AF (s:=s1) (env':=s.env) (S':=s.S) fun t ht=>(he t ht).symm
  simp only [BI,e]
  rw [← hS]
  exact h
theorem M4 {n:Nat} {mu:List Nat} {dst:Option Nat} {op:Op} {f:Nat} {xs:List Opd} (h:A8 P n mu dst op=some (.callS f xs)):∃ c,op=.call c∧Gi P n mu dst c=some (.callS f xs):=by
 unfold A8 at h
 split at h
 case h_21 c=>exact ⟨c,rfl,h⟩
 all_goals (exfalso;revert h;(repeat' split) <;> simp)
theorem L4 {n:Nat} {mu:List Nat} {dst:Option Nat} {c:Call} {f:Nat} {xs:List Opd} (h:Gi P n mu dst c=some (.callS f xs)):c.callee=.value (.func f)∧CS P f=true∧Bj n c.args.toList=some xs:=by
 unfold Gi at h
 split at h
 case h_7 g hc =>
  split at h
  ·rename_i hpl
   rw [Option.map_eq_some_iff] at h
   obtain ⟨ys,hy,he⟩:=h
   have hfx:g=f∧ys=xs:=by
    revert he
    (repeat' split) <;> simp <;> (intro h1 h2;exact ⟨h1,h2⟩)
   obtain ⟨rfl,rfl⟩:=hfx
   exact ⟨hc,hpl,hy⟩
  ·cases h
 all_goals (exfalso;revert h;(repeat' split) <;> simp)
theorem OX {n:Nat} {mu:List Nat} {dst:Option Nat} {c:Call} {x:Opd}:¬ Gi P n mu dst c=some (.pan x):=by
 intro h
 unfold Gi at h
 split at h
 all_goals (revert h;(repeat' split) <;> simp)
 all_goals (intro _ _;(repeat' split) <;> simp)
theorem Py {n:Nat} {mu:List Nat} {dst:Option Nat} {op:Op} {x:Opd}:¬ A8 P n mu dst op=some (.pan x):=by
 intro h
 unfold A8 at h
 split at h
 case h_21 c=>exact OX h
 all_goals (revert h;(repeat' split) <;> simp)
theorem In {n:Nat} {op:Op} {k:Kd} (h:I9 P n op=some k):(∀ f xs,k ≠ .callS f xs)∧∀ x,k ≠ .pan x:=by
 refine ⟨fun f xs e=>?_,fun x e=>?_⟩ <;> subst e <;> unfold I9 at h <;> revert h <;> (repeat' split) <;> simp
theorem Km {mu:List Nat} {ops:List Oper} {k k':Ins} (htr:H0 P C.n mu ops o=some k) (hk':k'.dst=k.dst∧k'.guard=k.guard∧k'.kd=k.kd) (hg:k'.guard=none) {E:Value→AA→Prop} {next:Act→World→Prop} (R:AT C σ ι s a w) (h:BI P k'.kd s E)
  (hQ:∀ v S' a' w',E v S'→Ax C ⟨s.env,S'⟩ a' w'→Q (.panic [{ v:=v,recovered:=false }]) a' w'):o.guard=none∧o.wpIn (fen C.ro) 0 P a w next Q:=by
 unfold H0 at htr
 split at htr
 ·rename_i g kd e1 e2
  cases htr
  obtain ⟨hk1,hk2,hk3⟩:=hk'
  dsimp only at hk1 hk2 hk3
  rw [hg] at hk2
  subst hk2
  refine ⟨?_,?_⟩
  ·cases hog:o.guard with
   | none=>rfl
   | some jw =>
    rw [hog] at e1
    obtain ⟨j,want⟩:=jw
    simp only [IU] at e1
    split at e1
    ·split at e1
     ·split at e1 <;> cases e1
     ·cases e1
    ·cases e1
  ·rw [hk3] at h
   clear hk3
   unfold Ti at e2
   cases kd <;> simp only [BI] at h
   case callS f xs =>
    obtain ⟨v,S',h1,h2⟩:=h
    have h0:A8 P C.n mu o.dst o.op=some (.callS f xs):=by
     split at e2
     ·rename_i k0 hk0
      have e2:=KH (Option.some.inj e2)
      subst e2
      exact hk0
     ·split at e2
      ·rename_i k0 hk1
       cases e2
       exact absurd rfl ((In hk1).1 f xs)
      ·split at e2
       ·rw [Option.map_eq_some_iff] at e2
        obtain ⟨_,_,e⟩:=e2
        cases e
       ·exfalso
        revert e2
        (repeat' split) <;> simp
       ·cases e2
    obtain ⟨c,ho,hc⟩:=M4 h0
    obtain ⟨hcal,hpl,hy⟩:=L4 hc
    refine Ey (fun c' e=>by rw [e] at ho;cases ho) ?_
    refine LB (vs:=c.args.toList.map a.eval) R ?_ (R.evs hy) h1 fun a' w' hH=>hQ _ _ _ _ h2 hH
    have:=Ct (P:=P) (w:=w) (args:=c.args.map a.eval) hpl
    have e:(c.args.toList.map a.eval).toArray=c.args.map a.eval:=by rw [← Array.toList_map,Array.toArray_toList]
    rw [e]
    obtain ⟨cal,args,tys⟩:=c
    dsimp only at hcal
    subst hcal
    simp [execOp,ho,resolve,Deferred.ofValue,Act.eval,invoke,this]
   case pan x =>
    split at e2
    ·rename_i k0 hk0
     have e2:=NQ (Option.some.inj e2)
     subst e2
     exact absurd hk0 Py
    ·split at e2
     ·rename_i k0 hk1
      cases e2
      exact absurd rfl ((In hk1).2 x)
     ·split at e2
      ·rename_i y hop
       rw [Option.map_eq_some_iff] at e2
       obtain ⟨x',hx,e⟩:=e2
       cases e
       split at h
       ·rename_i t u e3
        have rx:=R.ev hx
        rw [e3] at rx
        have hex:=JP (B0 (Aa rx))
        refine Ey (fun c e=>by rw [e] at hop;cases hop) ?_
        unfold Oper.wp
        have:(execOp a.eval o).run P w=.halt (.panic (.iface t u)) w:=by
         simp [execOp,hop,hex,Instr.panic,goPanic]
        rw [this,Oper.upon_panic]
        exact hQ _ _ _ _ h ⟨σ,ι,R⟩
       ·exact h.elim
      ·exfalso
       revert e2
       (repeat' split) <;> simp
      ·cases e2
 ·cases htr
def JC (l:List Ins) (j:Nat):Bool:=match l[j]? with
 | some y=>y.guard.isNone && (List.range l.length).all fun i=>match l[i]? with
  | some x=>if i < j then !x.indep y || (x.kd.keepS && x.kd.det) else if j < i then !y.indep x else true
  | none=>true
 | none=>false
theorem H2 {l:List Ins} {j:Nat} {y:Ins} (hj:l[j]?=some y) (h:JC l j=true):y.guard=none∧(∀ i x,i < j→l[i]?=some x→x.indep y=true→x.kd.keepS=true∧x.kd.det=true)∧∀ i x,j < i→l[i]?=some x→y.indep x=false:=by
 unfold JC at h
 rw [hj] at h
 simp only [Bool.and_eq_true,Option.isNone_iff_eq_none,List.all_eq_true,List.mem_range] at h
 refine ⟨h.1,fun i x hi hx hd=>?_,fun i x hi hx=>?_⟩
 ·have:=h.2 i (List.getElem?_eq_some_iff.1 hx).1
  rw [hx] at this
  simpa [hi,hd] using this
 ·have:=h.2 i (List.getElem?_eq_some_iff.1 hx).1
  rw [hx] at this
  simpa [show ¬ i < j by omega,hi] using this
theorem M_ {x y:Ins} (h:x.indep y=true):∀ t ∈ y.reads,x.dst ≠ some t:=by
 unfold Ins.indep at h
 simp only [Bool.and_eq_true] at h
 intro t ht e
 have h1:=h.1.1.2
 rw [e] at h1
 simp [ht] at h1
theorem M2 {R:List Nat}:∀ (l:List Ins) (s:AS) {K:AS→Prop},(∀ x ∈ l,x.kd.keepS=true∧x.kd.det=true∧∀ t ∈ R,x.dst ≠ some t)→Run P l s K→∃ s1,K s1∧s1.S=s.S∧∀ t ∈ R,s1.env t=s.env t
 | [],s,_,_,h=>⟨s,h,rfl,fun _ _=>rfl⟩
 | x :: l,s,K,hx,h=>by
  rw [Fh] at h
  obtain ⟨k1,k2,k3⟩:=hx x List.mem_cons_self
  obtain ⟨v,S1,h1,h2,_⟩:=GA k2 h
  have e:=h2 k1
  subst e
  obtain ⟨s1,m1,m2,m3⟩:=M2 l _ (fun x' hx'=>hx x' (List.mem_cons_of_mem _ hx')) h1
  exact ⟨s1,m1,m2.trans Ka,fun t ht=>(m3 t ht).trans (Dk (k3 t ht))⟩
theorem FT (ks:List Ins):∀ j:Nat,(List.range j).filterMap (fun i=>ks[i]?)=ks.take j
 | 0=>rfl
 | j + 1=>by
  rw [List.range_succ,List.filterMap_append,FT ks j,List.take_add_one]
  cases h:ks[j]? <;> simp [h]
theorem Iy {mu:List Nat} {ops:Array Oper} {ks0 ks:List Ins} {id j:Nat} {y:Ins} {E:Value→AA→Prop} (hmix:P.follows .mixedOrders=true) (htr:G_ P C.n mu ops.toList ops.toList=some ks0) (hre:JF ks0 ks) (hok:Ig ops.toList ks=true) (hj:ks[j]?=some y) (hp:JC ks j=true)
  (R:AT C σ ι s a w) (h:Run P (ks.take j) s fun s1=>BI P y.kd s1 E) (hQ:∀ v S' env a' w',E v S'→(∀ t,(∀ k ∈ ks,k.dst ≠ some t)→env t=s.env t)→Ax C ⟨env,S'⟩ a' w'→Q (.panic [{ v:=v,recovered:=false }]) a' w'):(Code.region id ops true).wpIn (fen C.ro) 0 P Q a w:=by
 obtain ⟨p1,p2,p3⟩:=H2 hj hp
 obtain ⟨hl0,hget0⟩:=EQ htr
 have hl:ops.size=ks.length:=by
  rw [← hre.1,← hl0,Array.length_toList]
 have hjl:j < ops.size:=by rw [hl];exact (List.getElem?_eq_some_iff.1 hj).1
 have hget:∀ (i:Nat) (o:Oper),ops.toList[i]?=some o→∃ k',ks[i]?=some k'∧∃ k,H0 P C.n mu ops.toList o=some k∧k'.dst=k.dst∧k'.guard=k.guard∧k'.kd=k.kd:=fun i o ho=>by
  obtain ⟨k,h1,h2⟩:=hget0 i o ho
  obtain ⟨k',q1,q2⟩:=hre.2 i k h1
  exact ⟨k',q1,k,h2,q2⟩
 refine wpIn_region_any hmix ?_
 have hchk:∀ i,i < ops.size→(∀ o,ops[i]?=some o→∀ e ∈ o.after,Region.binds .any e=true→e.on < i)∧∀ j,j < i→∀ x y,ks[j]?=some x→ks[i]?=some y→x.indep y=true ∨ Em ops.toList ops.toList.length j i=true:=fun i hi=>by
  have h1:=List.all_eq_true.1 hok i (List.mem_range.2 (by simpa using hi))
  simp only [Bool.and_eq_true] at h1
  refine ⟨fun o ho e he hb=>?_,fun j hj x y hx hy=>?_⟩
  ·have h2:=h1.1
   rw [show ops.toList[i]?=some o by simpa using ho] at h2
   dsimp only at h2
   obtain ⟨k,hk,rfl⟩:=Array.getElem_of_mem he
   have h3:=(Array.all_eq_true.1 h2) k hk
   simpa [hb] using h3
  ·have h2:=List.all_eq_true.1 h1.2 j (List.mem_range.2 hj)
   rw [hx,hy] at h2
   simpa using h2
 have key:∀ (f:Nat) (T:List Nat) (listed:Array Bool) (s1:AS) (a:Act) (w:World),(∀ t,(∀ k ∈ ks,k.dst ≠ some t)→s1.env t=s.env t)→T.length≤f→listed.size=ops.size→T.Pairwise (· < ·)→(∀ i,i ∈ T ↔ i < ops.size∧listed.getD i true=false) →
   (∀ k o,ops[k]?=some o→listed.getD k true=true→k < ops.size→∀ e ∈ o.after,Region.binds .any e=true→listed.getD e.on false=true)→j ∈ T→Ax C s1 a w→Run P ((T.filter fun i=>decide (i < j)).filterMap fun i=>ks[i]?) s1 (fun s1=>BI P y.kd s1 E)→wpAnyIn (fen C.ro) 0 P .any ops Q f listed a w:=by
  intro f
  induction f with
  | zero =>
   intro T listed s0 a w hE hf hsz hs hT hdc hjT hH hr
   have hT0:T=[]:=List.eq_nil_of_length_eq_zero (by omega)
   subst hT0
   cases hjT
  | succ f ih =>
   intro T listed s0 a w hE hf hsz hs hT hdc hjT hH hr
   have hgone:∀ i k,i ∈ T→(∀ o,ops[k]?=some o→∀ e ∈ o.after,Region.binds .any e=true→listed.getD e.on false=true)→Em ops.toList ops.toList.length i k=true→False:=fun i k hi hk hbe=>by
    have h1:=GJ (ops:=ops) (listed:=listed) hdc (i:=k) _ i k hk hbe
    have h2:=((hT i).1 hi).2
    have h3:=((hT i).1 hi).1
    simp [show i < listed.size by omega] at h1 h2
    rw [h1] at h2
    cases h2
   refine ⟨fun hready=>?_,fun i hi=>?_⟩
   ·cases T with
    | nil=>cases hjT
    | cons i T =>
     exfalso
     obtain ⟨hi1,hi2⟩:=(hT i).1 (by simp)
     have:i ∈ Region.ready .any ops listed:=by
      refine mem_ready.2 ⟨hi2,ops[i],Array.getElem?_eq_getElem hi1,fun e he hb=>?_⟩
      have hlt:=(hchk i hi1).1 _ (Array.getElem?_eq_getElem hi1) e he hb
      cases hq:listed.getD e.on true with
      | true =>
       simp [show e.on < listed.size by omega] at hq ⊢
       exact hq
      | false =>
       have hmem:=(hT e.on).2 ⟨by omega,hq⟩
       rcases List.mem_cons.1 hmem with h | h
       ·omega
       ·have:=(List.pairwise_cons.1 hs).1 _ h
        omega
     rw [hready] at this
     cases this
   ·obtain ⟨q1,o,q2,q3⟩:=mem_ready.1 hi
    have hi1:=(Array.getElem?_eq_some_iff.1 q2).1
    have hmem:=(hT i).2 ⟨hi1,q1⟩
    have q3':∀ o2,ops[i]?=some o2→∀ e ∈ o2.after,Region.binds .any e=true→listed.getD e.on false=true:=fun o2 ho2 e he hb=>by
     rw [q2] at ho2
     cases ho2
     exact q3 e he hb
    obtain ⟨k',hy1,k0,hy2,hy3⟩:=hget i o (by simpa using q2)
    rcases Nat.lt_trichotomy i j with hij | hij | hij
    ·obtain ⟨pre,post,rfl⟩:=List.append_of_mem hmem
     rw [List.filter_append,List.filter_cons,if_pos (by simpa using hij),List.filterMap_append,List.filterMap_cons,hy1] at hr
     dsimp only at hr
     have hpre:∀ j ∈ pre,j < i:=fun j hj=>(List.pairwise_append.1 hs).2.2 j hj i (by simp)
     have hfront:=LA (P:=P) (pre:=(pre.filter fun i=>decide (i < j)).filterMap fun i=>ks[i]?) (y:=k') (post:=(post.filter fun i=>decide (i < j)).filterMap fun i=>ks[i]?) (fun x hx=>by
      obtain ⟨m,hm,hxm⟩:=List.mem_filterMap.1 hx
      have hm':=(List.mem_filter.1 hm).1
      rcases (hchk i hi1).2 m (hpre m hm') x k' hxm hy1 with hind | hbe
      ·exact hind
      ·exact (hgone m i (by simp [hm']) q3' hbe).elim) hr
     obtain ⟨σ,ι,R⟩:=hH
     refine F5 q2 hy2 hy3 R (PV hfront) fun s' a' w' hKE hH'=>?_
     obtain ⟨hK,hE'⟩:=hKE
     rw [← List.filterMap_append,← List.filter_append] at hK
     have hsub:(pre ++ post).Pairwise (· < ·):=by
      refine hs.sublist ?_
      exact List.Sublist.append (List.Sublist.refl pre) (List.sublist_cons_self i post)
     have hni:i ∉ pre ++ post:=fun hm=>by
      rcases List.mem_append.1 hm with hm | hm
      ·have:=hpre i hm;omega
      ·have:=(List.pairwise_cons.1 (List.pairwise_append.1 hs).2.1).1 i hm;omega
     refine ih (pre ++ post) (listed.setIfInBounds i true) s' a' w' (fun t ht=>(hE' t (ht _ (List.mem_of_getElem? hy1))).trans (hE t ht)) (by simp at hf ⊢;omega) (by simpa using hsz) hsub (fun m=>?_) (fun k ok hok2 hlk hkk e he hb=>?_) ?_ hH' hK
     ·constructor
      ·intro hm
       have hmi:i ≠ m:=fun e=>hni (e ▸ hm)
       have:=(hT m).1 (by
        rcases List.mem_append.1 hm with h | h
        ·simp [h]
        ·simp [h])
       refine ⟨this.1,?_⟩
       have h3:=this.2
       simp only [Array.getD_eq_getD_getElem?] at h3 ⊢
       rw [Array.getElem?_setIfInBounds_ne hmi]
       exact h3
      ·rintro ⟨h1,h2⟩
       have hmi:i ≠ m:=fun e=>by
        subst e
        simp [show i < listed.size by omega] at h2
       have h3:listed.getD m true=false:=by
        simp only [Array.getD_eq_getD_getElem?] at h2 ⊢
        rw [Array.getElem?_setIfInBounds_ne hmi] at h2
        exact h2
       have:=(hT m).2 ⟨h1,h3⟩
       rcases List.mem_append.1 this with h | h
       ·exact List.mem_append_left _ h
       ·rcases List.mem_cons.1 h with h | h
        ·exact absurd h.symm hmi
        ·exact List.mem_append_right _ h
     ·have hstep:∀ m,listed.getD m false=true→(listed.setIfInBounds i true).getD m false=true:=fun m hm=>by
       by_cases e:i=m
       ·subst e
        simp [show i < listed.size by omega]
       ·simp only [Array.getD_eq_getD_getElem?] at hm ⊢
        rw [Array.getElem?_setIfInBounds_ne e]
        exact hm
      by_cases hki:i=k
      ·subst hki
       exact hstep _ (q3' ok hok2 e he hb)
      ·refine hstep _ (hdc k ok hok2 ?_ hkk e he hb)
       simp only [Array.getD_eq_getD_getElem?] at hlk ⊢
       rw [Array.getElem?_setIfInBounds_ne hki] at hlk
       exact hlk
     ·rcases List.mem_append.1 hjT with h | h
      ·exact List.mem_append_left _ h
      ·rcases List.mem_cons.1 h with h | h
       ·omega
       ·exact List.mem_append_right _ h
    ·subst hij
     rw [hj] at hy1
     cases hy1
     obtain ⟨s1,k1,k2,k3⟩:=M2 (R:=y.kd.reads) _ _ (fun x hx=>by
      obtain ⟨m,hm,hxm⟩:=List.mem_filterMap.1 hx
      obtain ⟨hmT,hmi⟩:=List.mem_filter.1 hm
      have hmi:m < i:=by simpa using hmi
      rcases (hchk i hi1).2 m hmi x y hxm hj with hind | hbe
      ·obtain ⟨r1,r2⟩:=p2 m x hmi hxm hind
       exact ⟨r1,r2,fun t ht=>M_ hind t (by simp [Ins.reads,ht])⟩
      ·exact (hgone m i hmT q3' hbe).elim) hr
     obtain ⟨σ,ι,R⟩:=hH
     obtain ⟨g1,g2⟩:=Km (next:=wpAnyIn (fen C.ro) 0 P .any ops Q f (listed.setIfInBounds i true)) hy2 hy3 p1 R (P2 k1 k2 k3) fun v S' a' w' h1 h2=>hQ v S' s0.env a' w' h1 hE h2
     unfold wpOpIn
     rw [q2]
     dsimp only
     rw [if_pos (by simp [Region.wanted,g1])]
     exact g2
    ·exfalso
     rcases (hchk i hi1).2 j hij y k' hj hy1 with hind | hbe
     ·rw [p3 i k' hij hy1] at hind
      cases hind
     ·exact hgone j i hjT q3' hbe
 have e0:((List.range ops.size).filter fun i=>decide (i < j)).filterMap (fun i=>ks[i]?)=ks.take j:=by
  obtain ⟨m,hm⟩:∃ m,ops.size=j + m:=⟨ops.size - j,by omega⟩
  rw [hm,List.range_add,List.filter_append,List.filter_eq_self.2 (fun i hi=>by simpa using hi),List.filter_eq_nil_iff.2 (fun i hi=>by
   obtain ⟨k,_,rfl⟩:=List.mem_map.1 hi
   simp),List.append_nil]
  exact FT ks j
 refine key ops.size (List.range ops.size) (Array.replicate ops.size false) s a _ (fun _ _=>rfl) (by simp) (by simp) List.pairwise_lt_range (fun i=>?_) (fun k o hk hlk hkk e he hb=>?_) (List.mem_range.2 hjl) ⟨σ,ι,R.drew⟩ (by rw [e0];exact h)
 ·simp only [List.mem_range,Array.getD_eq_getD_getElem?]
  constructor
  ·intro hi
   simp [hi]
  ·rintro ⟨hi,_⟩
   exact hi
 ·simp [hkk] at hlk
theorem IJ {mu:List Nat} {ops:Array Oper} {ks:List Ins} {id j:Nat} {y:Ins} {E:Value→AA→Prop} (htr:G_ P C.n mu ops.toList ops.toList=some ks) (hj:ks[j]?=some y) (hp:JC ks j=true)
  (R:AT C σ ι s a w) (h:Run P (ks.take j) s fun s1=>BI P y.kd s1 E) (hQ:∀ v S' env a' w',E v S'→(∀ t,(∀ k ∈ ks,k.dst ≠ some t)→env t=s.env t)→Ax C ⟨env,S'⟩ a' w'→Q (.panic [{ v:=v,recovered:=false }]) a' w'):(Code.region id ops false).wpIn (fen C.ro) 0 P Q a w:=by
 obtain ⟨p1,p2,p3⟩:=H2 hj hp
 obtain ⟨hl,hget⟩:=EQ htr
 have hl':ops.size=ks.length:=by rw [← hl,Array.length_toList]
 have hjl:j < ks.length:=(List.getElem?_eq_some_iff.1 hj).1
 refine wpIn_region ?_
 have key:∀ (m k:Nat) (s1:AS) (a:Act) (w:World),(∀ t,(∀ k ∈ ks,k.dst ≠ some t)→s1.env t=s.env t)→k + m=ops.size→k≤j→Ax C s1 a w→Run P ((ks.take j).drop k) s1 (fun s1=>BI P y.kd s1 E)→wpOpsIn (fen C.ro) 0 P ops Q (List.range' k m) a w:=by
  intro m
  induction m with
  | zero=>intro k s1 a w hE hk hkj;omega
  | succ m ih =>
   intro k s1 a w hE hk hkj hH hr
   have hlt:k < ops.toList.length:=by simp;omega
   obtain ⟨oo,hoo⟩:∃ oo,ops.toList[k]?=some oo:=⟨_,List.getElem?_eq_getElem hlt⟩
   obtain ⟨kk,h1,h2⟩:=hget k oo hoo
   have hop:ops[k]?=some oo:=by rw [← Array.getElem?_toList];exact hoo
   obtain ⟨σ,ι,R⟩:=hH
   rw [List.range'_succ,wpOpsIn_cons]
   by_cases hkj':k=j
   ·subst hkj'
    rw [hj] at h1
    cases h1
    rw [List.drop_of_length_le (by simp;omega)] at hr
    obtain ⟨g1,g2⟩:=Km (next:=wpOpsIn (fen C.ro) 0 P ops Q (List.range' (k + 1) m)) h2 ⟨rfl,rfl,rfl⟩ p1 R hr fun v S' a' w' h1 h2=>hQ v S' s1.env a' w' h1 hE h2
    unfold wpOpIn
    rw [hop]
    dsimp only
    rw [if_pos (by simp [Region.wanted,g1])]
    exact g2
   ·have hd:(ks.take j).drop k=kk :: (ks.take j).drop (k + 1):=by
     have hk':k < (ks.take j).length:=by simp;omega
     rw [List.drop_eq_getElem_cons hk']
     congr 1
     rw [List.getElem_take]
     exact (List.getElem?_eq_some_iff.1 h1).2
    rw [hd,Fh] at hr
    exact F5 (i:=k) hop h2 ⟨rfl,rfl,rfl⟩ R (PV hr) fun s' a' w' hK hH'=>ih (k + 1) s' a' w' (fun t ht=>(hK.2 t (ht _ (List.mem_of_getElem? h1))).trans (hE t ht)) (by omega) (by omega) hH' hK.1
 rw [List.range_eq_range']
 exact key ops.size 0 s a w (fun _ _=>rfl) (by omega) (by omega) ⟨σ,ι,R⟩ (by simpa using h)
end
section
variable {P:Program} {C:Ctx} {mu:List Nat} {Q:AX→AS→Prop} {s:AS}
theorem IWP.opsPanR {l:List Ins} (j:Nat) (y:Ins) (hj:l[j]?=some y) (hp:JC l j=true) (h:Run P (l.take j) s fun s1=>BI P y.kd s1 fun v S'=>∀ env,(∀ t,(l.all fun k=>k.dst != some t)=true→env t=s.env t)→Q (.pan v) ⟨env,S'⟩):IWP P C mu (.ops l) Q s:=fun c hc a w hH=>by
 have hQ:∀ (v:Value) (S':AA) (env:Nat→AV) (a':Act) (w':World),(∀ env,(∀ t,(l.all fun k=>k.dst != some t)=true→env t=s.env t)→Q (.pan v) ⟨env,S'⟩)→(∀ t,(∀ k ∈ l,k.dst ≠ some t)→env t=s.env t)→Ax C ⟨env,S'⟩ a' w'→Uo C Q (.panic [{ v:=v,recovered:=false }]) a' w':=fun v S' env a' w' hE hk hH=>⟨_,v,⟨hE env fun t ht=>hk t fun k hk'=>by simpa using List.all_eq_true.1 ht k hk',rfl⟩,hH⟩
 cases c <;> simp only [Az] at hc
 case region id ops draw =>
  split at hc
  ·rename_i ks e1
   obtain ⟨σ,ι,R⟩:=hH
   cases draw with
   | true =>
    simp only [if_true] at hc
    split at hc
    ·rename_i h1
     cases hc
     simp only [Bool.and_eq_true] at h1
     exact Iy h1.1 e1 (JF.refl _) h1.2 hj hp R h hQ
    ·split at hc
     ·rename_i h1
      cases hc
      simp only [Bool.and_eq_true] at h1
      exact Iy h1.1 e1 (JV _ 0 _) h1.2 hj hp R h hQ
     ·cases hc
   | false =>
    simp only [Bool.false_eq_true,if_false,Option.some.injEq,IR.ops.injEq] at hc
    subst hc
    exact IJ e1 hj hp R h hQ
  ·cases hc
 all_goals (exfalso;revert hc;(repeat' split) <;> simp)
theorem IWP.opsPanE {l:List Ins} (j:Nat) (y:Ins) (hj:l[j]?=some y) (hp:JC l j=true) (h:FH P (l.take j) s fun s1=>BI P y.kd s1 fun v S'=>∀ env,(∀ t,(l.all fun k=>k.dst != some t)=true→env t=s.env t)→Q (.pan v) ⟨env,S'⟩):IWP P C mu (.ops l) Q s:=IWP.opsPanR j y hj hp (B5 h)
theorem IWP.opsPan {l:List Ins} (j:Nat) (y:Ins) (hj:l[j]?=some y) (hp:JC l j=true) (h:FH P (l.take j) s fun s1=>BI P y.kd s1 fun v S'=>∀ env,Q (.pan v) ⟨env,S'⟩):IWP P C mu (.ops l) Q s :=
 IWP.opsPanR j y hj hp (PK (fun s1 h1=>OA h1 fun v S' h2 env _=>h2 env) (B5 h))
def Tw:List Ins→Bool
 | []=>true
 | i :: l=>(match i.kd with | .pan _=>false | _=>true) && Tw l
theorem IWP.ops3 {l:List Ins} (hn:Tw l=true) (h:∀ K:AS→Prop,(∀ s,Q .normal s→K s)→FH P l s K):IWP P C mu (.ops l) Q s:=IWP.ops2 h
theorem SW {y:IR} {v:Value} (h:Q (.pan v) s):Lx P C mu y Q (.pan v) s:=h
theorem Nf {id:Nat} {v:Value} (h:Q (.pan v) s):AX.inBlock id Q (.pan v) s:=h
theorem Q7 {K:AS→Prop} {v:Value} (h:Q (.pan v) s):AX.then K Q (.pan v) s:=h
def Qi (C:Ctx) (v:Value) (S':AA) (e:AX) (s:AS):Prop:=e=.pan v∧∃ s2,Am C s s2∧s2.S=S'∧An S'
theorem Ma {f:FuncId} {fn:Func} {c:Code} {x:IR} {xs:List AV} {S:AA} {v:Value} {S':AA} (hf:P.funcs[f]?=some fn) (hb:fn.body=some c) (hx:Az P fn.ntmps mu c=some x) (hn:xs.length≤fn.ntmps)
  (h:An S→∀ C:Ctx,C.n=fn.ntmps→C.Top→IWP P C mu x (Qi C v S') (AS.startS xs S)):IG P f xs S v S':=by
 intro hclean σ w vs ι hglob hfit hown hvs
 have hl:=hvs.len
 let C:Ctx:=⟨fn.ntmps,w.heap.size,fun g=>¬ BZ S ι g,σ,w,S,ι,hclean,hglob,[],none,false⟩
 refine callsIn_wide.1 (callsIn_of_wp_marks (n:=0) hf hb trivial ?_)
 have R:AT C σ ι (AS.startS xs S) { tmps:=vs.toArray ++ Array.replicate (fn.ntmps - vs.toArray.size) undef,defers:=[] } w:=by
  refine ⟨by simp [C];omega,fun i hi=>?_,Cv,hfit,hown.1,hown.2,fun id b g h hg=>.inr (fun hno=>hno id b h hg),fun _ _ h=>h,fun _ _ _=>rfl,⟨rfl,rfl,rfl⟩,⟨Nat.le_refl _,Nat.le_refl _⟩,fun _ _ _=>rfl,Upd.refl _ _⟩
  show AN σ S ι _ ((xs[i]?).getD (.tup []))
  rw [Array.getD_eq_getD_getElem?]
  by_cases hlt:i < vs.length
  ·rw [Array.getElem?_append_left (by simpa using hlt)]
   obtain ⟨b,hb1,hb2⟩:=hvs.get' (List.getElem?_eq_getElem hlt)
   rw [hb1]
   simpa [hlt] using hb2
  ·rw [Array.getElem?_append_right (by simp;omega),List.getElem?_eq_none (by omega)]
   have hi':i < fn.ntmps:=hi
   rw [Array.getElem?_replicate,if_pos (by simp;omega)]
   exact .tup (fun _=>undef) rfl (by simp) (by simp)
 refine wpIn_mono (h hclean C rfl ⟨rfl,rfl⟩ c hx _ w ⟨σ,ι,R⟩) fun e a' w' he=>?_
 cases e with
 | panic ch =>
  obtain ⟨s,v',⟨⟨h1,s2,hg,hS,hc⟩,rfl⟩,hH⟩:=he
  cases h1
  obtain ⟨σ',ι',R1⟩:=hg _ _ hH
  subst hS
  refine R1.leaves (fun h=>by cases h) fun a2 w2 R' hd ht=>?_
  exact ⟨σ',ι',rfl,hc,R'.upd,⟨R'.blk,R'.inj⟩,R'.fit,R'.ext,fun p h1 h2=>R'.old p h1 (fun h=>h h2),R'.os,R'.grown.2,fun g h1 h2=>R'.same g h1 (fun h=>h h2),fun id b g h1 h2=>R'.base id b g h1 h2⟩
 | normal=>obtain ⟨s,h1,h2⟩:=he;cases h1.1
 | ret=>obtain ⟨s,h1,h2⟩:=he;cases h1.1
 | exit id=>obtain ⟨s,h1,h2⟩:=he;cases h1.1
 | _=>exact he.elim
end
abbrev Wx:=@IWP.ops3
abbrev Wy:=@SW
abbrev Wz:=@Nf
abbrev Wv:=@Q7
theorem OkF.acPT {P:Program} {f n:Nat} {mu:List Nat} {x:IR} {rs:List RV} (o:OkF P f n mu x rs) {xs:List AV} {S S':AA} {v:Value} (h:An S→∀ C:Ctx,C.n=n→C.Top→IWP P C mu x (Qi C v S') (AS.startS xs S)) (hn:xs.length≤n:=by exact Nat.le_of_ble_eq_true rfl):IG P f xs S v S':=by
 obtain ⟨fn,c,hf,hb,rfl,hx,hr⟩:=o.ok
 exact Ma hf hb hx hn h
theorem OkF.acP {P:Program} {f n:Nat} {mu:List Nat} {x:IR} {rs:List RV} (o:OkF P f n mu x rs) {xs:List AV} {S S':AA} {v:Value} (h:An S→∀ C:Ctx,C.n=n→IWP P C mu x (Qi C v S') (AS.startS xs S)) (hn:xs.length≤n:=by exact Nat.le_of_ble_eq_true rfl):IG P f xs S v S':=by
 obtain ⟨fn,c,hf,hb,rfl,hx,hr⟩:=o.ok
 exact Ma hf hb hx hn fun h0 C h1 _=>h h0 C h1

set_option maxRecDepth 100000
def Cu:IR :=
 (.seq (.ops [.i 0 (.mov (.c (.one (.st (.bool false)))))]) (.seq (.ops [.i 9 (.call 17 [.c (.one (.st (.str (ByteArray.mk (#[40,92,121,46,121,32,121,41,32,99,49]))))),.c (.one (.full []))]),.m 8 9,.i 10 (.extract 0 (.t 8)),.i 11 (.extract 1 (.t 8)),.i 1 (.alloc 25 [.st (.int .i64 0),.st (.int .i64 0),.full []]),.s 3 1 10,.m 2 11]) (.seq (.ops [.L 13 3 1,.i 14 (.call 11 [.t 13,.n 0,.n 5]),.m 12 14,.i 15 (.extract 0 (.t 12)),.i 16 (.extract 1 (.t 12)),.i 17 (.extract 2 (.t 12)),.i 3 (.alloc 25 [.st (.int .i64 0),.st (.int .i64 0),.full []]),.s 3 3 15,.m 4 16,.m 5 17]) (.seq (.ops [.L 19 3 3,.i 20 (.call 18 [.t 19,.c (.one (.full []))]),.m 18 20,.i 21 (.extract 0 (.t 18)),.i 22 (.extract 1 (.t 18)),.m 6 21,.m 7 22]) (.seq (.ops [.m 23 2,.i 24 (.bin .eql (.t 23) (.n 0)),.m 25 24,.mk (some 26) (some (25,true)) (.mov (.t 5)) .no,.mk (some 27) (some (25,true)) (.bin .eql (.t 26) (.n 0)) .no,.i 28 (.pick (.t 25) (.t 27) (.c (.one (.st (.bool false))))),.m 29 28,.mk (some 30) (some (29,true)) (.mov (.t 7)) .no,.mk (some 31) (some (29,true)) (.bin .eql (.t 30) (.n 0)) .no,.i 32 (.pick (.t 29) (.t 31) (.c (.one (.st (.bool false))))),.m 33 32,.mk (some 34) (some (33,true)) (.mov (.t 4)) .no,.mk (some 35) (some (33,true)) (.bin .eql (.t 34) (.n 1)) .no,.i 36 (.pick (.t 33) (.t 35) (.c (.one (.st (.bool false))))),.m 37 36,.mk (some 38) (some (37,true)) (.mov (.t 6)) .no,.mk (some 39) (some (37,true)) (.bin .eql (.t 38) (.c (.one (.st (.str (ByteArray.mk (#[99,49,32,99,49]))))))) .no,.i 40 (.pick (.t 37) (.t 39) (.c (.one (.st (.bool false))))),.m 0 40]) .ret)))))
theorem EV:OkF Tryz.prog 7 41 [] Cu [.t 0]:=.of Tryz.func7 rfl rfl (by kernel_rfl) rfl

def BM:IR :=
 (.seq (.ops [.i 2 (.alloc 25 [.st (.int .i64 0),.st (.int .i64 0),.full []])]) (.seq (.seq (.ops [.m 6 0,.i 7 (.callS 63 [.t 6]),.i 8 (.bin .eql (.t 7) (.c (.one (.st (.int .u8 92)))))]) (.cond (.t 8) (.seq (.ops [.m 9 0,.i 10 (.callS 64 [.t 9])]) (.seq (.ops [.m 11 0,.m 12 0,.i 13 (.nilCheck (.t 12)),.f 14 0 13,.l 15 14,.i 16 (.sliceS (.t 15) (some (.n 1)) none),.i 17 (.nilCheck (.t 11)),.f 18 0 17,.s 1 18 16]) (.seq (.ops [.m 19 0,.i 20 (.callS 65 [.t 19]),.m 3 20]) (.seq (.ops [.m 21 0,.i 22 (.callS 66 [.t 21,.c (.one (.st (.int .u8 46)))])]) (.seq (.ops [.m 23 0,.m 24 0,.i 25 (.nilCheck (.t 24)),.f 26 1 25,.l 27 26,.m 28 3,.i 29 (.buildFlat [.t 28]),.i 30 (.append true 9 1 16 (.t 27) (.t 29)),.i 31 (.nilCheck (.t 23)),.f 32 1 31,.s 1 32 30]) (.seq (.ops [.m 33 0,.i 34 (.callS 40 [.t 33]),.i 4 (.alloc 25 [.st (.int .i64 0),.st (.int .i64 0),.full []]),.s 3 4 34]) (.seq (.ops [.m 35 0,.m 36 0,.i 37 (.nilCheck (.t 36)),.f 38 1 37,.l 39 38,.m 40 0,.i 41 (.nilCheck (.t 40)),.f 42 1 41,.l 43 42,.i 44 (.len false (.t 43)),.i 45 (.bin .sub (.t 44) (.n 1)),.i 46 (.cutP 1 (.t 39) (.t 45)),.i 47 (.nilCheck (.t 35)),.f 48 1 47,.s 1 48 46]) (.seq (.ops [.L 49 3 4,.i 50 (.call 67 [.t 49]),.s 3 2 50]) .ret)))))))) .skip)) (.seq (.ops [.m 51 0,.i 52 (.callS 68 [.t 51]),.i 5 (.alloc 25 [.st (.int .i64 0),.st (.int .i64 0),.full []]),.s 3 5 52]) (.seq (.block 0 (.loop (.seq (.seq (.ops [.m 53 0,.i 54 (.callS 63 [.t 53]),.i 55 (.bin .eql (.t 54) (.c (.one (.st (.int .u8 32)))))]) (.cond (.t 55) .skip (.exit 0))) (.block 1 (.seq (.ops [.m 56 0,.m 57 0,.i 58 (.nilCheck (.t 57)),.f 59 0 58,.l 60 59,.i 61 (.sliceS (.t 60) (some (.n 1)) none),.i 62 (.nilCheck (.t 56)),.f 63 0 62,.s 1 63 61]) (.seq (.ops [.m 64 0,.i 65 (.callS 64 [.t 64])]) (.ops [.mk (some 66) none (.load true 3 (.t 5)) (.onb 5),.m 67 0,.mk (some 68) none (.callS 68 [.t 67]) (.keeps [5]),.i 69 (.call 48 [.t 66,.t 68]),.s 3 5 69]))))))) (.seq (.ops [.L 70 3 5,.s 3 2 70]) .ret)))))
theorem Bx:OkF Tryz.prog 40 71 [7,10,20,22,34,52,54,65,68,30,30000046,10050005] BM [.cell 2 true 3]:=.of Tryz.func40 rfl rfl (by kernel_rfl) rfl
def Bn:IR :=
 (.seq (.ops [.i 1 (.box 69 (.t 0)),.i 2 (.alloc 25 [.st (.int .i64 0),.st (.int .i64 0),.full []])]) (.seq (.seq (.ops [.l 9 1,.i 10 (.callS 63 [.t 9]),.i 11 (.bin .eql (.t 10) (.c (.one (.st (.int .u8 40)))))]) (.cond (.t 11) (.seq (.ops [.l 12 1,.l 13 1,.i 14 (.nilCheck (.t 13)),.f 15 0 14,.l 16 15,.i 17 (.sliceS (.t 16) (some (.n 1)) none),.i 18 (.nilCheck (.t 12)),.f 19 0 18,.s 1 19 17]) (.seq (.ops [.l 20 1,.i 21 (.callS 40 [.t 20]),.i 3 (.alloc 25 [.st (.int .i64 0),.st (.int .i64 0),.full []]),.s 3 3 21]) (.seq (.ops [.l 22 1,.i 23 (.callS 66 [.t 22,.c (.one (.st (.int .u8 41)))])]) (.seq (.ops [.L 24 3 3,.s 3 2 24]) .ret)))) .skip)) (.seq (.ops [.l 25 1,.i 26 (.callS 65 [.t 25]),.i 4 (.alloc 9 [.st (.str (ByteArray.mk (#[])))]),.s 1 4 26]) (.seq (.ops [.l 27 1,.i 28 (.callS 64 [.t 27])]) (.seq (.seq (.ops [.l 29 1,.i 30 (.nilCheck (.t 29)),.f 31 1 30,.l 32 31,.i 33 (.callS 82 [.t 32])]) (.block 0 (.rangeF (.t 33) [34,35] (.seq (.ops [.m 5 34]) (.ops [.m 6 35])) (.block 1 (.seq (.ops [.m 36 6,.l 37 4,.i 38 (.bin .eql (.t 36) (.t 37))]) (.cond (.t 38) (.seq (.ops [.l 39 1,.i 40 (.nilCheck (.t 39)),.f 41 1 40,.l 42 41,.i 43 (.len false (.t 42)),.i 44 (.bin .sub (.t 43) (.n 1)),.m 45 5,.i 46 (.bin .sub (.t 44) (.t 45)),.i 47 (.call 73 [.t 46]),.s 3 2 47]) .ret) .skip)))))) (.seq (.seq (.ops [.l 49 4,.i 50 (.sliceS (.t 49) (some (.n 1)) none),.i 51 (.call 46 [.t 50]),.m 48 51,.i 52 (.extract 0 (.t 48)),.i 53 (.extract 1 (.t 48)),.m 7 52,.m 8 53]) (.seq (.ops [.l 54 4,.i 55 (.indexStr (.t 54) (.n 0)),.i 56 (.bin .eql (.t 55) (.c (.one (.st (.int .u8 99))))),.m 57 56,.mk (some 58) (some (57,true)) (.mov (.t 8)) .no,.mk (some 59) (some (57,true)) (.eqE false (.t 58)) .no,.i 60 (.pick (.t 57) (.t 59) (.c (.one (.st (.bool false))))),.m 61 60,.mk (some 62) (some (61,true)) (.mov (.t 7)) .no,.mk (some 63) (some (61,true)) (.call 33 [.t 62]) .no,.mk (some 64) (some (61,true)) (.load false 1 (.t 4)) .no,.mk (some 65) (some (61,true)) (.sliceS (.t 64) (some (.n 1)) none) .no,.mk (some 66) (some (61,true)) (.bin .eql (.t 63) (.t 65)) .no,.i 67 (.pick (.t 61) (.t 66) (.c (.one (.st (.bool false))))),.m 68 67,.mk (some 69) (some (68,true)) (.mov (.t 7)) .no,.mk (some 70) (some (68,true)) (.bin .lss (.t 69) (.n 40)) .no,.i 71 (.pick (.t 68) (.t 70) (.c (.one (.st (.bool false)))))]) (.cond (.t 71) (.seq (.ops [.m 72 7,.i 73 (.call 47 [.t 72]),.s 3 2 73]) .ret) .skip))) (.ops [.i 74 (.iface 67 (.n 15)),.mk none none (.pan (.t 74)) .no])))))))
theorem Cy:OkF Tryz.prog 68 75 [10,21,23,26,28,33] Bn [.cell 2 true 3]:=.of Tryz.func68 rfl rfl (by kernel_rfl) rfl
def II:IR :=
 (.seq (.ops [.i 4 (.alloc 25 [.st (.int .i64 0),.st (.int .i64 0),.full []]),.i 5 (.alloc 31 [.st (.int .i64 0)])]) (.seq (.seq (.ops [.m 8 1,.i 9 (.call 37 [.t 8]),.m 6 9]) (.seq (.ops [.m 10 6,.i 11 (.bin .neq (.t 10) (.n 0))]) (.cond (.t 11) (.seq (.ops [.i 12 (.build [.st (.int .i64 0),.st (.int .i64 0),.full []] []),.m 13 6,.s 3 4 12,.s 1 5 13]) .ret) .skip))) (.seq (.seq (.ops [.m 14 0,.i 15 (.len true (.t 14)),.i 16 (.bin .gtr (.t 15) (.n 4000))]) (.cond (.t 16) (.seq (.ops [.i 17 (.build [.st (.int .i64 0),.st (.int .i64 0),.full []] []),.s 3 4 17,.mk none none (.store 1 (.t 5) (.n 3)) .no]) .ret) .skip)) (.seq (.ops [.i 18 (.makeFunc 38 [.t 4,.t 5]),.mk none none .never .no]) (.seq (.ops [.m 19 0,.m 20 1,.i 21 (.callN 39 [.t 20]),.i 22 (.build [.st (.str (ByteArray.mk (#[]))),.full [],.st (.int .i64 0)] [(0,1,.t 19),(1,1,.t 21),(2,1,.n 200)]),.i 23 (.box 72 (.t 22)),.m 7 23]) (.seq (.ops [.m 24 7,.i 25 (.callS 40 [.t 24]),.s 3 4 25]) (.seq (.seq (.ops [.m 26 7,.i 27 (.nilCheck (.t 26)),.f 28 0 27,.l 29 28,.i 30 (.bin .neq (.t 29) (.c (.one (.st (.str (ByteArray.mk (#[])))))))]) (.cond (.t 30) (.ops [.i 31 (.iface 67 (.n 12)),.mk none none (.pan (.t 31)) .no]) .skip)) (.seq (.ops [.L 32 3 4,.s 3 4 32,.mk none none (.store 1 (.t 5) (.n 0)) .no]) .ret))))))))
theorem IS:Az Tryz.prog 33 [20000021,25] (Tryz.f17.body.getD .skip)=some II:=by kernel_rfl

def Ar (s:ByteArray) (i:Nat):ByteArray:=s.extract i s.size
theorem Bm (s:ByteArray) (i:Nat):(Ar s i).size=s.size - i:=by
 unfold Ar
 rw [ByteArray.size_extract]
 omega
theorem Po (s:ByteArray):Ar s 0=s:=by
 unfold Ar
 rw [ByteArray.extract_zero_size]
theorem Dz {s:ByteArray} {i k:Nat} (h:i + k < s.size):Dx (Ar s i) k=Ac s (i + k):=by
 unfold Dx Ac Ar
 rw [ByteArray.data_extract,Array.toList_extract]
 simp only [List.getD_eq_getElem?_getD]
 congr 3
 rw [List.extract_eq_take_drop,List.getElem?_take_of_lt (by omega),List.getElem?_drop]
theorem Pf {s:ByteArray} {i n:Nat} (h:i + n≤s.size):(Ar s i).extract 0 n=s.extract i (i + n):=by
 unfold Ar
 rw [ByteArray.extract_extract]
 congr 1
 omega
theorem EX {s:ByteArray} {i n:Nat} (h:i + n≤s.size):(Ar s i).extract n (Ar s i).size=Ar s (i + n):=by
 rw [Bm]
 unfold Ar
 rw [ByteArray.extract_extract]
 congr 1
 omega
def Hk (s:ByteArray):Nat→Nat→Nat
 | 0,i=>i
 | k + 1,i=>if Bi (Ac s i)=true then Hk s k (i + 1) else i
def Ak (s:ByteArray) (i:Nat):Nat:=Hk s (s.size - i) i
theorem Qj {s:ByteArray} {i:Nat} (h:i < s.size) (hl:Bi (Ac s i)=true):Ak s i=Ak s (i + 1):=by
 unfold Ak
 obtain ⟨k,hk⟩:∃ k,s.size - i=k + 1:=⟨s.size - i - 1,by omega⟩
 rw [hk,show s.size - (i + 1)=k by omega,Hk,if_pos hl]
theorem N4 {s:ByteArray} {i:Nat} (h:i < s.size) (hl:¬ Bi (Ac s i)=true):Ak s i=i:=by
 unfold Ak
 obtain ⟨k,hk⟩:∃ k,s.size - i=k + 1:=⟨s.size - i - 1,by omega⟩
 rw [hk,Hk,if_neg hl]
theorem P5 {s:ByteArray} {i:Nat} (h:s.size≤i):Ak s i=i:=by
 unfold Ak
 rw [show s.size - i=0 by omega]
 rfl
theorem PC (s:ByteArray):∀ k i:Nat,i≤Hk s k i∧Hk s k i≤i + k
 | 0,i=>⟨Nat.le_refl _,Nat.le_refl _⟩
 | k + 1,i=>by
  rw [Hk]
  split
  ·have:=PC s k (i + 1)
   omega
  ·omega
theorem FO {s:ByteArray} {i:Nat} (h:i≤s.size):i≤Ak s i∧Ak s i≤s.size:=by
 have:=PC s (s.size - i) i
 unfold Ak
 omega

def Kc (p:Nat→Bool):Nat→Option Nat
 | 0=>none
 | n + 1=>if p n=true then some n else Kc p n
theorem Jt {p:Nat→Bool} {i:Nat} (hp:p i=true):∀ {n:Nat},i < n→(∀ j,i < j→j < n→¬ p j=true)→Kc p n=some i
 | 0,h,_=>absurd h (Nat.not_lt_zero _)
 | n + 1,h,hn=>by
  rw [Kc]
  by_cases e:i=n
  ·subst e
   rw [if_pos hp]
  ·rw [if_neg (hn n (by omega) (by omega))]
   exact Jt hp (by omega) fun j h1 h2=>hn j h1 (by omega)
theorem Jj {p:Nat→Bool}:∀ {n:Nat},(∀ j,j < n→¬ p j=true)→Kc p n=none
 | 0,_=>rfl
 | n + 1,hn=>by
  rw [Kc,if_neg (hn n (by omega))]
  exact Jj fun j h=>hn j (by omega)
def G2 (ns:List ByteArray) (n:ByteArray):Option Nat:=Kc (fun j=>decide (ns.getD j .empty=n)) ns.length
def GU (s:ByteArray) (i:Nat):ByteArray:=s.extract i (Ak s i)
def Dh (s:ByteArray) (i:Nat):Int:=if Ak s i=i then (if i=s.size then 13 else 12) else if A9 (GU s i)=true then 0 else 1
def EE (s:ByteArray) (c:Int) (j:Nat):Int:=if j=s.size then 13 else if Ac s j=c then 0 else 12
structure LRd where
 t:Lm
 i:Nat
 k:Nat
 e:Int
def lrV (ns:List ByteArray) (n:ByteArray) (i k:Nat):LRd:=match G2 ns n with
 | some j=>⟨.v ((ns.length:Int) - 1 - j),i,k,if 200 < k then 3 else 0⟩
 | none=>⟨.mk 4 (BJ n) [],i,k,if 200 < k then 3 else if BJ n < 0 then 15 else 0⟩
mutual
def lrT (s:ByteArray):Nat→List ByteArray→Nat→Nat→LRd
 | 0,_,i,k=>⟨.nil,i,k,99⟩
 | f + 1,ns,i,k =>
  if i < s.size∧Ac s i=92 then
   if 200 < k + 1 then ⟨.l .nil,i + 1,k + 1,3⟩
   else if Dh s (i + 1)=0 then
    if EE s 46 (Ak s (i + 1))=0 then ⟨.l (lrT s f (ns ++ [GU s (i + 1)]) (Ak s (i + 1) + 1) (k + 1)).t,(lrT s f (ns ++ [GU s (i + 1)]) (Ak s (i + 1) + 1) (k + 1)).i,(lrT s f (ns ++ [GU s (i + 1)]) (Ak s (i + 1) + 1) (k + 1)).k,(lrT s f (ns ++ [GU s (i + 1)]) (Ak s (i + 1) + 1) (k + 1)).e⟩
    else ⟨.l .nil,Ak s (i + 1) + 1,k + 1,EE s 46 (Ak s (i + 1))⟩
   else ⟨.l .nil,Ak s (i + 1),k + 1,Dh s (i + 1)⟩
  else lrL s f ns (lrP s f ns i k)
def lrL (s:ByteArray):Nat→List ByteArray→LRd→LRd
 | 0,_,q=>⟨q.t,q.i,q.k,99⟩
 | f + 1,ns,q =>
  if q.e=0∧q.i < s.size∧Ac s q.i=32 then
   if 200 < q.k + 1 then ⟨.a q.t .nil,q.i + 1,q.k + 1,3⟩
   else lrL s f ns ⟨.a q.t (lrP s f ns (q.i + 1) (q.k + 1)).t,(lrP s f ns (q.i + 1) (q.k + 1)).i,(lrP s f ns (q.i + 1) (q.k + 1)).k,(lrP s f ns (q.i + 1) (q.k + 1)).e⟩
  else q
def lrP (s:ByteArray):Nat→List ByteArray→Nat→Nat→LRd
 | 0,_,i,k=>⟨.nil,i,k,99⟩
 | f + 1,ns,i,k =>
  if i < s.size∧Ac s i=40 then
   if (lrT s f ns (i + 1) k).e=0 then ⟨(lrT s f ns (i + 1) k).t,(lrT s f ns (i + 1) k).i + 1,(lrT s f ns (i + 1) k).k,EE s 41 (lrT s f ns (i + 1) k).i⟩ else lrT s f ns (i + 1) k
  else if Dh s i=0 then lrV ns (GU s i) (Ak s i) (k + 1)
  else ⟨.nil,Ak s i,k,Dh s i⟩
end
theorem Ly {s:ByteArray} {g:Nat} {ns:List ByteArray} {q:LRd} (hg:0 < g) (h:¬ (q.e=0∧q.i < s.size∧Ac s q.i=32)):lrL s g ns q=q:=by
 obtain ⟨g,rfl⟩:∃ g',g=g' + 1:=⟨g - 1,by omega⟩
 rw [lrL,if_neg h]
structure LOk (s:ByteArray) (i k:Nat) (q:LRd):Prop where
 le:i≤q.i
 in_:q.i≤s.size + 1
 knots:k≤q.k
 most:q.k≤201
 ok:q.e=0→q.i≤s.size∧i < q.i∧k < q.k∧q.k≤200
 err:0≤q.e∧q.e≤15
theorem FJ {s:ByteArray} {i:Nat} (hi:i≤s.size):(0≤Dh s i∧Dh s i≤15)∧i≤Ak s i∧Ak s i≤s.size∧(Dh s i=0→i < Ak s i∧A9 (GU s i)=true):=by
 obtain ⟨l1,l2⟩:=FO hi
 unfold Dh
 by_cases h0:Ak s i=i
 ·rw [if_pos h0]
  split <;> exact ⟨by decide,l1,l2,fun h=>absurd h (by decide)⟩
 ·rw [if_neg h0]
  split
  ·rename_i h
   exact ⟨by decide,l1,l2,fun _=>⟨by omega,h⟩⟩
  ·exact ⟨by decide,l1,l2,fun h=>absurd h (by decide)⟩
theorem G3 {s:ByteArray} {c:Int} {j:Nat} (hj:j≤s.size):(0≤EE s c j∧EE s c j≤15)∧(EE s c j=0→j < s.size∧Ac s j=c):=by
 unfold EE
 by_cases h0:j=s.size
 ·rw [if_pos h0]
  exact ⟨by decide,fun h=>absurd h (by decide)⟩
 ·rw [if_neg h0]
  split
  ·rename_i h
   exact ⟨by decide,fun _=>⟨by omega,h⟩⟩
  ·exact ⟨by decide,fun h=>absurd h (by decide)⟩
theorem Ur (ns:List ByteArray) (n:ByteArray) (i k:Nat):(lrV ns n i k).i=i∧(lrV ns n i k).k=k∧(0≤(lrV ns n i k).e∧(lrV ns n i k).e≤15)∧((lrV ns n i k).e=0→k≤200):=by
 unfold lrV
 split
 ·refine ⟨rfl,rfl,?_,?_⟩
  ·dsimp only
   split <;> decide
  ·dsimp only
   split
   ·intro h;cases h
   ·intro _;omega
 ·refine ⟨rfl,rfl,?_,?_⟩
  ·dsimp only
   split
   ·decide
   ·split <;> decide
  ·dsimp only
   split
   ·intro h;cases h
   ·intro _;omega
mutual
theorem MD (s:ByteArray):∀ (f:Nat) (ns:List ByteArray) (i k:Nat),i≤s.size→k≤200→3 * (s.size - i) + 2 < f→LOk s i k (lrT s f ns i k)
 | 0,_,_,_,_,_,h=>absurd h (Nat.not_lt_zero _)
 | f + 1,ns,i,k,hi,hk,hf=>by
  rw [lrT]
  by_cases h0:i < s.size∧Ac s i=92
  ·rw [if_pos h0]
   obtain ⟨h0,_⟩:=h0
   by_cases h1:200 < k + 1
   ·rw [if_pos h1]
    exact ⟨Nat.le_succ _,by show i + 1≤_;omega,Nat.le_succ _,by show k + 1≤_;omega,fun h=>absurd h (by show ¬ (3:Int)=0;decide),by show (0:Int)≤3∧(3:Int)≤15;decide⟩
   rw [if_neg h1]
   obtain ⟨n1,n2,n3,n4⟩:=FJ (s:=s) (i:=i + 1) (by omega)
   by_cases h2:Dh s (i + 1)=0
   ·rw [if_pos h2]
    obtain ⟨w1,w2⟩:=G3 (c:=46) n3
    by_cases h3:EE s 46 (Ak s (i + 1))=0
    ·rw [if_pos h3]
     obtain ⟨n5,n6⟩:=n4 h2
     have:=MD s f (ns ++ [GU s (i + 1)]) (Ak s (i + 1) + 1) (k + 1) (by have:=(w2 h3).1;omega) (by omega) (by omega)
     refine ⟨by have:=this.le;show i≤_;dsimp only;omega,this.in_,by have:=this.knots;show k≤_;dsimp only;omega,this.most,fun h=>?_,this.err⟩
     obtain ⟨a,b,c,d⟩:=this.ok h
     refine ⟨a,?_,?_,d⟩ <;> dsimp only <;> omega
    ·rw [if_neg h3]
     exact ⟨by show i≤Ak s (i + 1) + 1;omega,by show Ak s (i + 1) + 1≤_;omega,Nat.le_succ _,by show k + 1≤_;omega,fun h=>absurd h h3,w1⟩
   ·rw [if_neg h2]
    exact ⟨by show i≤Ak s (i + 1);omega,by show Ak s (i + 1)≤_;omega,Nat.le_succ _,by show k + 1≤_;omega,fun h=>absurd h h2,n1⟩
  ·rw [if_neg h0]
   have hp:=Lt s f ns i k hi hk (by omega)
   exact Qx s f ns i k (lrP s f ns i k) (by have:=hp.le;omega) hp
theorem Qx (s:ByteArray):∀ (f:Nat) (ns:List ByteArray) (i k:Nat) (q:LRd),3 * (s.size - q.i) < f→LOk s i k q→LOk s i k (lrL s f ns q)
 | 0,_,_,_,_,h,_=>absurd h (Nat.not_lt_zero _)
 | f + 1,ns,i,k,q,hf,hq=>by
  rw [lrL]
  by_cases h0:q.e=0∧q.i < s.size∧Ac s q.i=32
  ·rw [if_pos h0]
   obtain ⟨h0,hlt,_⟩:=h0
   obtain ⟨a,b,c,d⟩:=hq.ok h0
   by_cases h1:200 < q.k + 1
   ·rw [if_pos h1]
    exact ⟨by show i≤q.i + 1;omega,by show q.i + 1≤_;omega,by show k≤q.k + 1;omega,by show q.k + 1≤_;omega,fun h=>absurd h (by show ¬ (3:Int)=0;decide),by show (0:Int)≤3∧(3:Int)≤15;decide⟩
   ·rw [if_neg h1]
    have hp:=Lt s f ns (q.i + 1) (q.k + 1) (by omega) (by omega) (by omega)
    refine Qx s f ns i k _ (by have:=hp.le;dsimp only;omega) ⟨by have:=hp.le;dsimp only;omega,hp.in_,by have:=hp.knots;dsimp only;omega,hp.most,fun h=>?_,hp.err⟩
    obtain ⟨a',b',c',d'⟩:=hp.ok h
    refine ⟨a',?_,?_,d'⟩ <;> dsimp only <;> omega
  ·rw [if_neg h0]
   exact hq
theorem Lt (s:ByteArray):∀ (f:Nat) (ns:List ByteArray) (i k:Nat),i≤s.size→k≤200→3 * (s.size - i) + 1 < f→LOk s i k (lrP s f ns i k)
 | 0,_,_,_,_,_,h=>absurd h (Nat.not_lt_zero _)
 | f + 1,ns,i,k,hi,hk,hf=>by
  rw [lrP]
  by_cases h0:i < s.size∧Ac s i=40
  ·rw [if_pos h0]
   obtain ⟨h0,_⟩:=h0
   have:=MD s f ns (i + 1) k (by omega) hk (by omega)
   by_cases h1:(lrT s f ns (i + 1) k).e=0
   ·rw [if_pos h1]
    obtain ⟨a,b,c,d⟩:=this.ok h1
    obtain ⟨w1,w2⟩:=G3 (c:=41) a
    refine ⟨by dsimp only;omega,by dsimp only;omega,this.knots,this.most,fun h=>?_,w1⟩
    have:=(w2 h).1
    refine ⟨?_,?_,c,d⟩ <;> dsimp only <;> omega
   ·rw [if_neg h1]
    exact ⟨by have:=this.le;omega,this.in_,this.knots,this.most,fun h=>absurd h h1,this.err⟩
  ·rw [if_neg h0]
   obtain ⟨n1,n2,n3,n4⟩:=FJ hi
   by_cases h1:Dh s i=0
   ·rw [if_pos h1]
    obtain ⟨v1,v2,v3,v4⟩:=Ur ns (GU s i) (Ak s i) (k + 1)
    obtain ⟨n5,n6⟩:=n4 h1
    exact ⟨by rw [v1];exact n2,by rw [v1];omega,by rw [v2];omega,by rw [v2];omega,fun h=>⟨by rw [v1];exact n3,by rw [v1];exact n5,by rw [v2];omega,by rw [v2];exact v4 h⟩,v3⟩
   ·rw [if_neg h1]
    exact ⟨n2,by show Ak s i≤_;omega,Nat.le_refl _,by show k≤_;omega,fun h=>absurd h h1,n1⟩
end
def lrS (s:ByteArray) (ns:List ByteArray):LRd:=lrT s (3 * s.size + 3) ns 0 0
def Ty (s:ByteArray) (ns:List ByteArray):Lm × Int:=if (lrS s ns).e=0 then (if (lrS s ns).i < s.size then (.nil,12) else ((lrS s ns).t,0)) else (.nil,(lrS s ns).e)

def BL:IR :=
 (.seq (.ops [.m 2 0,.i 3 (.nilCheck (.t 2)),.f 4 2 3,.l 5 4,.i 6 (.bin .sub (.t 5) (.n 1)),.i 7 (.nilCheck (.t 2)),.f 8 2 7,.s 1 8 6]) (.seq (.ops [.m 9 0,.i 10 (.nilCheck (.t 9)),.f 11 2 10,.l 12 11,.i 13 (.bin .lss (.t 12) (.n 0))]) (.cond (.t 13) (.ops [.i 14 (.iface 67 (.n 3)),.mk none none (.pan (.t 14)) .no]) .skip)))
theorem Bw:OkF Tryz.prog 64 15 [] BL []:=.of Tryz.func64 rfl rfl (by kernel_rfl) rfl
def Bv:IR :=
 (.seq (.ops [.i 2 (.mov (.c (.one (.st (.int .u8 0)))))]) (.seq (.seq (.ops [.m 3 0,.i 4 (.nilCheck (.t 3)),.f 5 0 4,.l 6 5,.i 7 (.bin .eql (.t 6) (.c (.one (.st (.str (ByteArray.mk (#[])))))))]) (.cond (.t 7) (.seq (.ops [.i 2 (.mov (.c (.one (.st (.int .u8 0)))))]) .ret) .skip)) (.seq (.ops [.m 8 0,.i 9 (.nilCheck (.t 8)),.f 10 0 9,.l 11 10,.i 12 (.indexStr (.t 11) (.n 0)),.m 2 12]) .ret)))
theorem DE:OkF Tryz.prog 63 13 [] Bv [.t 2]:=.of Tryz.func63 rfl rfl (by kernel_rfl) rfl
def A6:IR :=
 (.seq (.block 0 (.seq (.ops [.m 5 0,.i 6 (.nilCheck (.t 5)),.f 7 0 6,.l 8 7,.i 9 (.bin .eql (.t 8) (.c (.one (.st (.str (ByteArray.mk (#[]))))))),.m 4 9]) (.cond (.t 4) (.ops [.i 10 (.iface 67 (.n 13)),.mk none none (.pan (.t 10)) .no]) (.seq (.ops [.m 12 0,.i 13 (.nilCheck (.t 12)),.f 14 0 13,.l 15 14,.i 16 (.indexStr (.t 15) (.n 0)),.m 17 1,.i 18 (.bin .neq (.t 16) (.t 17)),.m 11 18]) (.cond (.t 11) (.ops [.i 19 (.iface 67 (.n 12)),.mk none none (.pan (.t 19)) .no]) .skip))))) (.ops [.m 20 0,.m 21 0,.i 22 (.nilCheck (.t 21)),.f 23 0 22,.l 24 23,.i 25 (.sliceS (.t 24) (some (.n 1)) none),.i 26 (.nilCheck (.t 20)),.f 27 0 26,.s 1 27 25]))
theorem BP:OkF Tryz.prog 66 28 [] A6 []:=.of Tryz.func66 rfl rfl (by kernel_rfl) rfl
def BO:IR :=
 (.seq (.ops [.i 2 (.mov (.c (.one (.st (.str (ByteArray.mk (#[])))))))]) (.seq (.ops [.i 3 (.mov (.n 0))]) (.seq (.block 0 (.loop (.seq (.seq (.ops [.m 5 3,.m 6 0,.i 7 (.nilCheck (.t 6)),.f 8 0 7,.l 9 8,.i 10 (.len true (.t 9)),.i 11 (.bin .lss (.t 5) (.t 10)),.m 12 11,.mk (some 13) (some (12,true)) (.mov (.t 0)) .no,.mk (some 14) (some (12,true)) (.nilCheck (.t 13)) .no,.mk (some 15) (some (12,true)) (.fieldAddr 0 (.t 14)) .no,.mk (some 16) (some (12,true)) (.load false 1 (.t 15)) .no,.mk (some 17) (some (12,true)) (.mov (.t 3)) .no,.mk (some 18) (some (12,true)) (.indexStr (.t 16) (.t 17)) .no,.mk (some 19) (some (12,true)) (.bin .geq (.t 18) (.c (.one (.st (.int .u8 97))))) .no,.mk (some 20) (some (12,true)) (.mov (.t 19)) .no,.mk (some 21) (some (20,true)) (.mov (.t 0)) .no,.mk (some 22) (some (20,true)) (.nilCheck (.t 21)) .no,.mk (some 23) (some (20,true)) (.fieldAddr 0 (.t 22)) .no,.mk (some 24) (some (20,true)) (.load false 1 (.t 23)) .no,.mk (some 25) (some (20,true)) (.mov (.t 3)) .no,.mk (some 26) (some (20,true)) (.indexStr (.t 24) (.t 25)) .no,.mk (some 27) (some (20,true)) (.bin .leq (.t 26) (.c (.one (.st (.int .u8 122))))) .no,.mk (some 28) (some (12,true)) (.pick (.t 20) (.t 27) (.c (.one (.st (.bool false))))) .no,.mk (some 29) (some (12,true)) (.mov (.t 28)) .no,.mk (some 30) (some (29,false)) (.mov (.t 0)) .no,.mk (some 31) (some (29,false)) (.nilCheck (.t 30)) .no,.mk (some 32) (some (29,false)) (.fieldAddr 0 (.t 31)) .no,.mk (some 33) (some (29,false)) (.load false 1 (.t 32)) .no,.mk (some 34) (some (29,false)) (.mov (.t 3)) .no,.mk (some 35) (some (29,false)) (.indexStr (.t 33) (.t 34)) .no,.mk (some 36) (some (29,false)) (.bin .geq (.t 35) (.c (.one (.st (.int .u8 65))))) .no,.mk (some 37) (some (29,false)) (.mov (.t 36)) .no,.mk (some 38) (some (37,true)) (.mov (.t 0)) .no,.mk (some 39) (some (37,true)) (.nilCheck (.t 38)) .no,.mk (some 40) (some (37,true)) (.fieldAddr 0 (.t 39)) .no,.mk (some 41) (some (37,true)) (.load false 1 (.t 40)) .no,.mk (some 42) (some (37,true)) (.mov (.t 3)) .no,.mk (some 43) (some (37,true)) (.indexStr (.t 41) (.t 42)) .no,.mk (some 44) (some (37,true)) (.bin .leq (.t 43) (.c (.one (.st (.int .u8 90))))) .no,.mk (some 45) (some (29,false)) (.pick (.t 37) (.t 44) (.c (.one (.st (.bool false))))) .no,.mk (some 46) (some (12,true)) (.pick (.t 29) (.c (.one (.st (.bool true)))) (.t 45)) .no,.mk (some 47) (some (12,true)) (.mov (.t 46)) .no,.mk (some 48) (some (47,false)) (.mov (.t 0)) .no,.mk (some 49) (some (47,false)) (.nilCheck (.t 48)) .no,.mk (some 50) (some (47,false)) (.fieldAddr 0 (.t 49)) .no,.mk (some 51) (some (47,false)) (.load false 1 (.t 50)) .no,.mk (some 52) (some (47,false)) (.mov (.t 3)) .no,.mk (some 53) (some (47,false)) (.indexStr (.t 51) (.t 52)) .no,.mk (some 54) (some (47,false)) (.bin .geq (.t 53) (.c (.one (.st (.int .u8 48))))) .no,.mk (some 55) (some (47,false)) (.mov (.t 54)) .no,.mk (some 56) (some (55,true)) (.mov (.t 0)) .no,.mk (some 57) (some (55,true)) (.nilCheck (.t 56)) .no,.mk (some 58) (some (55,true)) (.fieldAddr 0 (.t 57)) .no,.mk (some 59) (some (55,true)) (.load false 1 (.t 58)) .no,.mk (some 60) (some (55,true)) (.mov (.t 3)) .no,.mk (some 61) (some (55,true)) (.indexStr (.t 59) (.t 60)) .no,.mk (some 62) (some (55,true)) (.bin .leq (.t 61) (.c (.one (.st (.int .u8 57))))) .no,.mk (some 63) (some (47,false)) (.pick (.t 55) (.t 62) (.c (.one (.st (.bool false))))) .no,.mk (some 64) (some (12,true)) (.pick (.t 47) (.c (.one (.st (.bool true)))) (.t 63)) .no,.i 65 (.pick (.t 12) (.t 64) (.c (.one (.st (.bool false)))))]) (.cond (.t 65) .skip (.exit 0))) (.block 1 (.ops [.m 66 3,.i 67 (.bin .add (.t 66) (.n 1)),.m 3 67]))))) (.seq (.seq (.ops [.m 68 3,.i 69 (.bin .eql (.t 68) (.n 0))]) (.cond (.t 69) (.seq (.seq (.ops [.m 70 0,.i 71 (.nilCheck (.t 70)),.f 72 0 71,.l 73 72,.i 74 (.bin .eql (.t 73) (.c (.one (.st (.str (ByteArray.mk (#[])))))))]) (.cond (.t 74) (.ops [.i 75 (.iface 67 (.n 13)),.mk none none (.pan (.t 75)) .no]) .skip)) (.ops [.i 76 (.iface 67 (.n 12)),.mk none none (.pan (.t 76)) .no])) .skip)) (.seq (.ops [.m 77 0,.i 78 (.nilCheck (.t 77)),.f 79 0 78,.l 80 79,.m 81 3,.i 82 (.sliceS (.t 80) none (some (.t 81))),.m 4 82]) (.seq (.seq (.ops [.m 83 4,.i 84 (.call 61 [.t 83]),.i 85 (.un .not (.t 84))]) (.cond (.t 85) (.ops [.i 86 (.iface 67 (.n 1)),.mk none none (.pan (.t 86)) .no]) .skip)) (.seq (.ops [.m 87 0,.m 88 0,.i 89 (.nilCheck (.t 88)),.f 90 0 89,.l 91 90,.m 92 3,.i 93 (.sliceS (.t 91) (some (.t 92)) none),.i 94 (.nilCheck (.t 87)),.f 95 0 94,.s 1 95 93]) (.seq (.ops [.m 96 4,.m 2 96]) .ret))))))))
theorem By:OkF Tryz.prog 65 97 [] BO [.t 2]:=.of Tryz.func65 rfl rfl (by kernel_rfl) rfl

def HP:IR :=
 (.seq (.ops [.i 5 .never,.i 6 .never,.m 4 6,.i 7 (.extract 0 (.t 4)),.i 8 (.extract 1 (.t 4)),.m 2 7,.m 3 8]) (.seq (.ops [.m 9 3]) (.cond (.t 9) (.ops [.i 10 (.build [.st (.int .i64 0),.st (.int .i64 0),.full []] []),.m 11 2,.s 3 0 10,.s 1 1 11]) .skip)))
theorem D7:Az Tryz.prog 12 [] (Tryz.f38.body.getD .skip)=some HP:=by kernel_rfl

def JZ (S:AA) (ι:As) (σ:Sto) (w:World) (S':AA) (w':World):Prop:=∃ σ' ι',An S'∧Upd S ι S' ι'∧Cz σ' S' ι' w'∧Fit σ' w'∧(∀ p x,σ p=some x→σ' p=some x) ∧
 (∀ p:Addr,p.block < w.heap.size→BZ S ι p.block→σ' p=σ p)∧(w'.os=w.os∧w'.tape=w.tape∧w'.output=w.output)∧w.heap.size≤w'.heap.size ∧
 (∀ g,g < w.heap.size→BZ S ι g→w'.heap[g]?=w.heap[g]?)∧(∀ id b g,S' id=some b→(ι' id).g=some g→w.heap.size≤g ∨ ¬ BZ S ι g)
theorem JZ.refl {S:AA} {ι:As} {σ:Sto} {w:World} (h1:An S) (h2:Cz σ S ι w) (h3:Fit σ w):JZ S ι σ w S w :=
 ⟨σ,ι,h1,Upd.refl _ _,h2,h3,fun _ _ h=>h,fun _ _ _=>rfl,⟨rfl,rfl,rfl⟩,Nat.le_refl _,fun _ _ _=>rfl,fun id b g hb hg=>.inr fun hn=>hn id b hb hg⟩
def SO (P:Program) (f:FuncId) (xs:List AV) (S:AA) (u u':FrameMode) (S':AA):Prop :=
 An S→∀ (σ:Sto) (w:World) (vs:List Value) (ι:As),Bt σ→Fit σ w→Cz σ S ι w→Af (AN σ S ι) vs xs →
  CallsD P f vs.toArray u w fun e u1 w'=>(∃ v,e=.returned v)∧u1=u'∧JZ S ι σ w S' w'
section
variable {P:Program} {C:Ctx} {a:Act} {w:World} {σ:Sto} {ι:As} {s:AS}
theorem HC (R:AT C σ ι s a w):Cz σ (upS s.S) (fun i=>ι (dn1 i)) w:=by
 have hup:∀ i,dn1 (up1 i)=i:=DF
 have hS:∀ i b,s.S i=some b→upS s.S (up1 i)=some (b.ren up1):=fun i b hb=>A1 hb
 have hι:∀ i b,s.S i=some b→(fun i=>ι (dn1 i)) (up1 i)=ι i:=fun i b _=>by show ι (dn1 (up1 i))=_;rw [hup]
 refine ⟨fun id b hb=>?_,fun id id' b b' g h1 h2 g1 g2=>?_⟩
 ·obtain ⟨hle,b',h1,rfl⟩:=Bo hb
  exact Bc.ren (S2:=upS s.S) (ι2:=fun i=>ι (dn1 i)) (ρ:=up1) hS hι (R.blk _ _ h1)
 ·obtain ⟨l1,c1,k1,_⟩:=Bo h1
  obtain ⟨l2,c2,k2,_⟩:=Bo h2
  have:=R.inj _ _ _ _ g k1 k2 g1 g2
  rw [← Ea l1,← Ea l2,this]
theorem OU (R:AT C σ ι s a w) {v:Value} {av:AV} (h:AN σ s.S ι v av):AN σ (upS s.S) (fun i=>ι (dn1 i)) v (av.ren up1) :=
 AN.ren (S2:=upS s.S) (ι2:=fun i=>ι (dn1 i)) (ρ:=up1) (fun i b hb=>A1 hb) (fun i b _=>by show ι (dn1 (up1 i))=_;rw [DF]) h
theorem NX {S':AA} {w':World} (R:AT C σ ι s a w) (h:JZ (upS s.S) (fun i=>ι (dn1 i)) σ w S' w'):Ax C ⟨s.env,dnS S'⟩ a w':=by
 obtain ⟨σ',ι',hclean,hupd,hown',hf',hkeep,hold,hos,hsz,hsame,hbase⟩:=h
 have hup:∀ i,dn1 (up1 i)=i:=DF
 have hS:∀ i b,s.S i=some b→upS s.S (up1 i)=some (b.ren up1):=fun i b hb=>A1 hb
 have hSd:∀ i b,S' i=some b→dnS S' (dn1 i)=some (b.ren dn1):=fun i b hb=>Fq (hclean i b hb).1 hb
 obtain ⟨ι2,hι2⟩:∃ ι2:As,∀ i,ι2 i=ι' (up1 i):=⟨fun i=>ι' (up1 i),fun _=>rfl⟩
 have hιd:∀ i b,S' i=some b→ι2 (dn1 i)=ι' i:=fun i b hb=>by
  rw [hι2,Ea (hclean i b hb).1]
 have hu:Upd s.S ι (dnS S') ι2:=fun id b hb=>by
  obtain ⟨b',h1,h2,h3⟩:=hupd _ _ (hS id b hb)
  have h4:=hSd _ _ h1
  rw [hup] at h4
  refine ⟨_,h4,by rw [BH] at h2 ⊢;exact h2,fun hl=>?_⟩
  rw [BH] at hl
  obtain ⟨q1,q2⟩:=h3 (by rw [BH];exact hl)
  refine ⟨by rw [F0] at q1 ⊢;exact q1,?_⟩
  rw [hι2,q2]
  show ι (dn1 (up1 id))=_
  rw [hup]
 have hnot:∀ g,g < C.N→¬ C.G g→BZ (upS s.S) (fun i=>ι (dn1 i)) g:=fun g h1 h2 id b hb hg=>by
  obtain ⟨_,b',k1,_⟩:=Bo hb
  rcases R.base _ _ g k1 hg with h | h
  ·omega
  ·exact h2 h
 refine ⟨σ',ι2,R.size,fun i hi=>(R.env i hi).mono hkeep hu,R.nod.mono (fun D h=>(hsame D (Array.getElem?_eq_some_iff.1 h).1 (DK (HC R).1 h)).trans h),hf',fun id b hb=>?_,fun id id' b b' g h1 h2 g1 g2=>?_,fun id b g hb hg=>?_,fun p x hx=>hkeep _ _ (R.ext p x hx),fun p h1 h2=>?_,⟨hos.1.trans R.os.1,hos.2.1.trans R.os.2.1,hos.2.2.trans R.os.2.2⟩,⟨Nat.le_trans R.grown.1 hsz,Nat.le_trans R.grown.2 hsz⟩,fun g h1 h2=>?_,R.upd.trans hu⟩
 ·obtain ⟨b',h1,rfl⟩:=Bz hb
  have:=Bc.ren (S2:=dnS S') (ι2:=ι2) (ρ:=dn1) hSd hιd (hown'.1 _ _ h1)
  rw [hι2]
  exact this
 ·obtain ⟨c1,k1,_⟩:=Bz h1
  obtain ⟨c2,k2,_⟩:=Bz h2
  rw [hι2] at g1 g2
  have:=congrArg dn1 (hown'.2 _ _ _ _ g k1 k2 g1 g2)
  rw [hup,hup] at this
  exact this
 ·obtain ⟨b',h1,_⟩:=Bz hb
  rw [hι2] at hg
  rcases hbase _ _ g h1 hg with h2 | h2
  ·exact .inl (by have:=R.grown.1;omega)
  ·by_cases hN:g < C.N
   ·by_cases hG:C.G g
    ·exact .inr hG
    ·exact absurd (hnot g hN hG) h2
   ·exact .inl (by omega)
 ·exact (hold p (by have:=R.grown.1;omega) (hnot _ h1 h2)).trans (R.old p h1 h2)
 ·exact (hsame g (by have:=R.grown.1;omega) (hnot g h1 h2)).trans (R.same g h1 h2)
theorem Gf {fn:Func} {g:FuncId} {vs:List Value} {avs:List AV} {u u':FrameMode} {S':AA} {K:Ending→World→Prop} (R:AT C σ ι s a w) (hpl:CS P g=true) (hvs:Af (AN σ s.S ι) vs avs) (hu:u ≠ .run)
  (hd:SO P g (AV.rens up1 avs) (upS s.S) u u' S') (hset:settle u'=.returning) (hfin:∀ w',Ax C ⟨s.env,dnS S'⟩ a w'→∃ v,(results fn a.tmps).run P w'=.ok v w'∧K (.returned v) w') :
  Leaves P fn a.tmps K [{ target:=.fn (.func g) vs.toArray,args:=#[] }] u w:=by
 refine leaves_cons (f:=g) (args:=vs.toArray) hu ?_ ?_
 ·have:=Ct (P:=P) (w:=w) (args:=vs.toArray) hpl
  simpa [invoke] using this
 ·have hargs:Af (AN σ (upS s.S) (fun i=>ι (dn1 i))) vs (AV.rens up1 avs):=by
   rw [AV.rens_eq]
   exact (hvs.mono fun _ _ x=>OU R x).map_right
  refine (hd (Ee _) σ w vs _ (C.glob.mono R.ext) R.fit (HC R) hargs).mono fun e u1 w' he=>?_
  obtain ⟨⟨v,rfl⟩,rfl,hb⟩:=he
  dsimp only
  rw [hset]
  exact hfin w' (NX R hb)
end
theorem Il {P:Program} {w:World} {x t:TypeId} {k:IntKind} {z:Value} (hd:P.underlying t=some (.int k)) (hz:(P.info? t).bind (·.zero)=some z):(Instr.typeAssert .nilIface x t true).run P w=.ok (.tuple #[z,.bool false]) w:=by
 rw [Option.bind_eq_some_iff] at hz
 obtain ⟨i,hi,hz⟩:=hz
 unfold Instr.typeAssert
 simp [run_underlying hd,zeroValue,run_typeInfo w hi,hz]
theorem J0 {P:Program} {w:World} {x t:TypeId} {k:IntKind} {v:Value} (hd:P.underlying t=some (.int k)):(Instr.typeAssert (.iface t v) x t true).run P w=.ok (.tuple #[v,.bool true]) w:=by
 unfold Instr.typeAssert
 simp [run_underlying hd]
theorem Kk {C:Ctx} {S:AA} {ι:As} {σ:Sto} {w w':World} {s:AS} {a:Act} (hC:C.N=w.heap.size∧(C.G=fun g=>¬ BZ S ι g)∧C.σ0=σ∧C.w0=w∧C.S0=S∧C.ι0=ι) (hS:An s.S) (h:Ax C s a w'):JZ S ι σ w s.S w':=by
 obtain ⟨h1,h2,h3,h4,h5,h6⟩:=hC
 obtain ⟨σ',ι',R⟩:=h
 have ho:=R.old
 have hu:=R.upd
 have he:=R.ext
 have hs:=R.same
 have hb:=R.base
 have hg:=R.grown
 have hos:=R.os
 rw [h1,h2] at ho hs hb
 rw [h3] at ho he
 rw [h4] at hs hg hos
 rw [h5,h6] at hu
 exact ⟨σ',ι',hS,hu,⟨R.blk,R.inj⟩,R.fit,he,fun p q1 q2=>ho p q1 (fun h=>h q2),hos,hg.2,fun g q1 q2=>hs g q1 (fun h=>h q2),fun id b g q1 q2=>hb id b g q1 q2⟩
def Um (P:Program) (g:FuncId) (avs:List AV) (rs:List RV) (r:AV):AX→AS→Prop
 | .normal,s | .ret,s=>∃ S',SO P g (AV.rens up1 avs) (upS s.S) .returning .returning S'∧(⟨s.env,dnS S'⟩:AS).result rs=some r
 | .pan v,s=>∃ u' S',SO P g (AV.rens up1 avs) (upS s.S) (.panicking [{ v:=v,recovered:=false }]) u' S'∧settle u'=.returning∧(⟨s.env,dnS S'⟩:AS).result rs=some r
 | _,_=>False
def AS.up (s:AS):AS:=⟨fun i=>(s.env i).ren up1,upS s.S⟩
section
variable {P:Program}
theorem DN {n:Nat} {mu:List Nat} {c:Code} {x y:IR} (h:Az P n mu c=some (.seq x y)):∃ c1 c2,c=.seq c1 c2∧Az P n mu c1=some x∧Az P n mu c2=some y:=by
 cases c <;> simp only [Az] at h
 case seq c1 c2 =>
  split at h
  ·rename_i x' y' e1 e2
   cases h
   exact ⟨c1,c2,rfl,e1,e2⟩
  ·cases h
 all_goals (exfalso;revert h;(repeat' split) <;> simp)
end

set_option linter.unusedSimpArgs false
set_option maxHeartbeats 1600000
abbrev C3 (e:Int):Value:=.iface 67 (.int .i64 e)
def ML (b c:Nat) (n:Int) (ok:Bool):Nat→AV
 | 0=>.one (.ptr b 1 0 0)
 | 1=>.one (.ptr c 1 0 0)
 | 2=>Ad n
 | 3=>CH ok
 | _=>.any
theorem On {b c:Nat} {n:Int} {ok:Bool} {S:AA} {σ:Sto} {ι:As} {w:World} {v1 v2:Value} {a:Act} (hclean:An S) (hglob:Bt σ) (hfit:Fit σ w) (hown:Cz σ S ι w) (h1:AN σ S ι v1 (.one (.ptr b 1 0 0))) (h2:AN σ S ι v2 (.one (.ptr c 1 0 0))) (hn:inR .i64 n)
  (hs:12≤a.tmps.size) (g0:a.tmps.getD 0 undef=v1) (g1:a.tmps.getD 1 undef=v2) (g2:a.tmps.getD 2 undef=.int .i64 n) (g3:a.tmps.getD 3 undef=.bool ok) (hd:a.defers=[]) :
  Ax ⟨12,w.heap.size,fun g=>¬ BZ S ι g,σ,w,S,ι,hclean,hglob,[],none,true⟩ ⟨ML b c n ok,S⟩ a w:=by
 refine ⟨σ,ι,hs,fun i hi=>?_,⟨[],by rw [hd];rfl,List.nodup_nil,fun D h=>(by simp at h),fun _=>rfl⟩,hfit,hown.1,hown.2,fun id b g h hg=>.inr (fun hno=>hno id b h hg),fun _ _ h=>h,fun _ _ _=>rfl,⟨rfl,rfl,rfl⟩,⟨Nat.le_refl _,Nat.le_refl _⟩,fun _ _ _=>rfl,Upd.refl _ _⟩
 match i with
 | 0=>rw [g0];exact h1
 | 1=>rw [g1];exact h2
 | 2=>rw [g2];exact .one (.st (.int hn))
 | 3=>rw [g3];exact .one (.st .bool)
 | _ + 4=>exact .any
set_option maxRecDepth 100000 in
theorem Lg (b c:Nat) (S:AA):SO Tryz.prog 38 [.one (.ptr b 1 0 0),.one (.ptr c 1 0 0)] S .returning .returning S:=by
 intro hclean σ w vs ι hglob hfit hown hvs
 obtain ⟨v1,v2,rfl,r1,r2⟩:∃ v1 v2,vs=[v1,v2]∧AN σ S ι v1 (.one (.ptr b 1 0 0))∧AN σ S ι v2 (.one (.ptr c 1 0 0)):=by
  cases hvs with
  | cons h1 hvs=>cases hvs with
   | cons h2 hvs=>cases hvs with
    | nil=>exact ⟨_,_,rfl,h1,h2⟩
 have hta:∀ w,(Instr.typeAssert .nilIface 20 67 true).run Tryz.prog w=.ok (.tuple #[.int .i64 0,.bool false]) w:=fun w=>Il (P:=Tryz.prog) (t:=67) Tryz.underlying67 (by kernel_rfl)
 obtain ⟨c1,c2,hc,h1,h2⟩:=DN D7
 have hb:Tryz.f38.body=some (.seq c1 c2):=congrArg some hc
 injection hc with e1 e2
 subst e1
 clear e2 h1
 refine callsD_of_wpS Tryz.func38 hb fun c₀ cs hu=>?_
 apply wpS_seq
 apply wpS_region
 simp [wpOpsS,go_sem,recoverD,hu,hta,Tryz.ntmps38,Exit.thenS]
 have hH:=On (b:=b) (c:=c) (n:=0) (ok:=false) (a:={ tmps:=#[v1,v2] ++ (((((((Array.replicate 10 undef).setIfInBounds 3 Value.nilIface).setIfInBounds 4 (Value.tuple #[Value.int IntKind.i64 0,Value.bool false])).setIfInBounds 2 (Value.tuple #[Value.int IntKind.i64 0,Value.bool false])).setIfInBounds 5 (Value.int IntKind.i64 0)).setIfInBounds 6 (Value.bool false)).setIfInBounds 0 (Value.int IntKind.i64 0)).setIfInBounds 1 (Value.bool false),defers:=[] }) hclean hglob hfit hown r1 r2 (by rw [CO];omega) (by simp) (by simp) (by simp) (by simp) (by simp) rfl
 refine wpS_of_wp (wp_mono (wpIn_wide.1 ((?hw:IWP Tryz.prog _ [] _ (fun e s=>e=.normal∧s.S=S) ⟨ML b c 0 false,S⟩) c2 h2 _ w hH)) fun e a' w' he=>?_)
 case' hw=>skip
 rotate_left
 ·skip
  cases e with
  | normal =>
   obtain ⟨s,⟨_,hS⟩,hH'⟩:=he
   have hbe:=Kk ⟨rfl,rfl,rfl,rfl,rfl,rfl⟩ (by rw [hS];exact hclean) hH'
   rw [hS] at hbe
   obtain ⟨σ',ι',R'⟩:=hH'
   refine ⟨R'.nod.none rfl,.returning,by rw [← hu],.tuple #[],by simp [results,Tryz.results38],⟨_,rfl⟩,rfl,hbe⟩
  | ret=>obtain ⟨s,h,_⟩:=he;cases h.1
  | exit id=>obtain ⟨s,h,_⟩:=he;cases h.1
  | panic ch=>obtain ⟨s,v,h,_⟩:=he;cases h.1.1
  | goto l=>exact he.elim
  | outgrown=>exact he.elim
 ·repeat' with_reducible first | refine W ?_ | refine Z0 ?_ | ((first | refine Wo fun K hK=>?_ | refine Wp ?_ | refine Wq ?_ | refine Wr ?_);(try simp only [go_sem,fN,seval,eT,iR,ML,dT,dF,nL]);(repeat refine Ai ?_);(try (refine hK _ ?_;clear hK K));try refine iC ?_)
  exact ⟨rfl,rfl⟩
def Q0 (S:AA) (b c:Nat) (n:Int):AA:=AK (AK S b (some (.box 25 [.st (.int .i64 0),.st (.int .i64 0),.full []]))) c (some (.box 31 [.st (.int .i64 n)]))
set_option maxRecDepth 100000 in
theorem Nd (n:Int) (hn:inR .i64 n) (b c:Nat) (S:AA) (hb1:1000≤b) (hc1:1000≤c) (hbc:b ≠ c) {cs1:List AC} {x1:AC} (sb:S b=some (.box 25 cs1)) (hl:cs1.length=3) (sc:S c=some (.box 31 [x1])) :
  SO Tryz.prog 38 [.one (.ptr b 1 0 0),.one (.ptr c 1 0 0)] S (.panicking [{ v:=C3 n,recovered:=false }]) (.panicking [{ v:=C3 n,recovered:=true }]) (Q0 S b c n):=by
 intro hclean σ w vs ι hglob hfit hown hvs
 obtain ⟨v1,v2,rfl,r1,r2⟩:∃ v1 v2,vs=[v1,v2]∧AN σ S ι v1 (.one (.ptr b 1 0 0))∧AN σ S ι v2 (.one (.ptr c 1 0 0)):=by
  cases hvs with
  | cons h1 hvs=>cases hvs with
   | cons h2 hvs=>cases hvs with
    | nil=>exact ⟨_,_,rfl,h1,h2⟩
 have hta:∀ w,(Instr.typeAssert (.iface 67 (.int .i64 n)) 20 67 true).run Tryz.prog w=.ok (.tuple #[.int .i64 n,.bool true]) w:=fun w=>J0 (P:=Tryz.prog) (t:=67) Tryz.underlying67
 obtain ⟨c1,c2,hc,h1,h2⟩:=DN D7
 have hb:Tryz.f38.body=some (.seq c1 c2):=congrArg some hc
 injection hc with e1 e2
 subst e1
 clear e2 h1
 refine callsD_of_wpS Tryz.func38 hb fun c₀ cs hu=>?_
 apply wpS_seq
 apply wpS_region
 simp [wpOpsS,go_sem,recoverD,hu,hta,Tryz.ntmps38,Exit.thenS]
 have hH:=On (b:=b) (c:=c) (n:=n) (ok:=true) (a:={ tmps:=#[v1,v2] ++ (((((((Array.replicate 10 undef).setIfInBounds 3 (C3 n)).setIfInBounds 4 (Value.tuple #[Value.int IntKind.i64 n,Value.bool true])).setIfInBounds 2 (Value.tuple #[Value.int IntKind.i64 n,Value.bool true])).setIfInBounds 5 (Value.int IntKind.i64 n)).setIfInBounds 6 (Value.bool true)).setIfInBounds 0 (Value.int IntKind.i64 n)).setIfInBounds 1 (Value.bool true),defers:=[] }) hclean hglob hfit hown r1 r2 hn (by simp) (by simp) (by simp) (by simp) (by simp) rfl
 refine wpS_of_wp (wp_mono (wpIn_wide.1 ((?hw:IWP Tryz.prog _ [] _ (fun e s=>e=.normal∧s.S=Q0 S b c n) ⟨ML b c n true,S⟩) c2 h2 _ w hH)) fun e a' w' he=>?_)
 case' hw=>skip
 rotate_left
 ·cases e with
  | normal =>
   obtain ⟨s,⟨_,hS⟩,hH'⟩:=he
   have hbe:=Kk ⟨rfl,rfl,rfl,rfl,rfl,rfl⟩ (by rw [hS];exact A2 (A2 hclean hb1 (by simp [AU.high,AC.highs,AC.high])) hc1 (by simp [AU.high,AC.highs,AC.high])) hH'
   rw [hS] at hbe
   obtain ⟨σ',ι',R'⟩:=hH'
   refine ⟨R'.nod.none rfl,_,rfl,.tuple #[],by simp [results,Tryz.results38],⟨_,rfl⟩,rfl,hbe⟩
  | ret=>obtain ⟨s,h,_⟩:=he;cases h.1
  | exit id=>obtain ⟨s,h,_⟩:=he;cases h.1
  | panic ch=>obtain ⟨s,v,h,_⟩:=he;cases h.1.1
  | goto l=>exact he.elim
  | outgrown=>exact he.elim
 ·have hcb:¬ c=b:=fun h=>hbc h.symm
  repeat' with_reducible first | refine W ?_ | refine Z0 ?_ | ((first | refine Wo fun K hK=>?_ | refine Wp ?_ | refine Wq ?_ | refine Wr ?_);(try simp only [go_sem,fN,seval,eT,iR,ML,sb,sc,hl,hcb,dT,dF,nL]);(repeat refine Ai ?_);(try (refine hK _ ?_;clear hK K));try refine iC ?_)
  refine ⟨rfl,?_⟩
  have hdl:List.drop 3 cs1=[]:=List.drop_eq_nil_of_le (by omega)
  rw [hdl]
  rfl
theorem RU (n:Int):settle (.panicking [{ v:=C3 n,recovered:=true }])=.returning:=by
 rfl

theorem PG {S S1:AA} {a0:Nat} {b:AU} (hS:An S) (ha:1000≤a0) (h1:S1 a0=some b) (h2:∀ i,1000≤i→i ≠ a0→S1 i=S i):Dd S1=AK S a0 (some b):=by
 funext i
 show (if i < 1000 then none else S1 i)=_
 by_cases e:i=a0
 ·subst e
  rw [if_neg (by omega),AD,h1]
 ·rw [AJ _ e]
  by_cases hi:i < 1000
  ·rw [if_pos hi,AY hS hi]
  ·rw [if_neg hi,h2 i (by omega) e]
theorem NI {S S1:AA} {a0:Nat} {b:AU} (hS:An S) (hb:b.high=true) (h1:S1 a0=some b) (h2:∀ i,1000≤i→i ≠ a0→S1 i=S i):∀ i c,1000≤i→S1 i=some c→c.high=true:=fun i c hi hc=>by
 by_cases e:i=a0
 ·subst e
  rw [h1] at hc
  cases hc
  exact hb
 ·rw [h2 i hi e] at hc
  exact (hS i c hc).2
theorem J1 {C:Ctx} {rs:List RV} {r:AV} {e:AX} {s:AS} {S:AA} {a0:Nat} {b:AU} (r0:AV) (hS:An S) (ha:1000≤a0) (hb:b.high=true) (he:match e with | .normal=>True | .ret=>True | _=>False)
  (h1:(AB s rs).map AQ=some r0) (h2:outV s.S r0=some r) (h3:s.S a0=some b) (h4:∀ i,1000≤i→i ≠ a0→s.S i=S i):Gu C rs r (AK S a0 (some b)) e s :=
 I_ he r0 h1 h2 (NI hS hb h3 h4) (PG hS ha h3 h4) (A2 hS ha hb)
theorem M8 {C:Ctx} {rs:List RV} {r:AV} {e:AX} {s:AS} {S:AA} {a0 b0:Nat} {b c:AU} (r0:AV) (hS:An S) (ha:1000≤a0) (hb0:1000≤b0) (hne:b0 ≠ a0) (hb:b.high=true) (hc:c.high=true) (he:match e with | .normal=>True | .ret=>True | _=>False)
  (h1:(AB s rs).map AQ=some r0) (h2:outV s.S r0=some r) (h3:s.S a0=some b) (h3':s.S b0=some c) (h4:∀ i,1000≤i→i ≠ a0→i ≠ b0→s.S i=S i):Gu C rs r (AK (AK S a0 (some b)) b0 (some c)) e s :=
 I_ he r0 h1 h2 (fun i x hi hx=>by
  by_cases e1:i=a0
  ·subst e1;rw [h3] at hx;cases hx;exact hb
  ·by_cases e2:i=b0
   ·subst e2;rw [h3'] at hx;cases hx;exact hc
   ·rw [h4 i hi e1 e2] at hx;exact (hS i x hx).2) (by
  funext i
  show (if i < 1000 then none else s.S i)=_
  by_cases e2:i=b0
  ·subst e2
   rw [AD,if_neg (by omega),h3']
  ·rw [AJ _ e2]
   by_cases e1:i=a0
   ·subst e1
    rw [AD,if_neg (by omega),h3]
   ·rw [AJ _ e1]
    by_cases hi:i < 1000
    ·rw [if_pos hi,AY hS hi]
    ·rw [if_neg hi,h4 i (by omega) e1 e2]) (A2 (A2 hS ha hb) hb0 hc)

theorem Am.kill {C:Ctx} {s:AS} (id:Nat) {ty:TypeId} {xs:List AC} (hS:s.S id=some (.box ty xs)):Am C s (s.set id (.dead 1 0)):=fun a w ⟨σ,ι,R⟩=>by
 have hb:=R.blk _ _ hS
 cases hb with
 | @box _ _ g vs h1 h2 h3 h4 h5 =>
  obtain ⟨hu,R'⟩:=R.turn (w':=w) hS (.dead 1 0) (ι id) (σ':=σ) (fun _ _ h=>h) (fun _ _ _=>rfl) R.fit (Nat.le_refl _) (fun _=>⟨rfl,rfl⟩) ⟨rfl,rfl,rfl⟩ (Nat.le_refl _) (fun _ _ _=>rfl) (fun g h=>.inl h)
   (fun hu=>.dead fun g' hg'=>by rw [h1] at hg';cases hg';exact ⟨_,h3,rfl⟩)
  exact ⟨σ,_,R'⟩
theorem TU {C:Ctx} {v:Value} {s:AS} {S:AA} {a0:Nat} (hS:An S) (ha:1000≤a0) (h3:s.S a0=some (.dead 1 0)) (h4:∀ i,1000≤i→i ≠ a0→s.S i=S i):Qi C v (AK S a0 (some (.dead 1 0))) (.pan v) s :=
 ⟨rfl,_,Am.low (NI hS rfl h3 h4),PG hS ha h3 h4,A2 hS ha rfl⟩
theorem G6 {C:Ctx} {v:Value} {s:AS} {S:AA} {a0:Nat} {ty:TypeId} {xs:List AC} (hS:An S) (ha:1000≤a0) (h3:s.S a0=some (.box ty xs)) (h4:∀ i,1000≤i→i ≠ a0→s.S i=S i):Qi C v (AK S a0 (some (.dead 1 0))) (.pan v) s:=by
 obtain ⟨h1,s2,hg,h5,h6⟩:=TU (C:=C) (v:=v) (s:=s.set a0 (.dead 1 0)) hS ha (AD _ _ _) (fun i hi hne=>(AJ _ hne _).trans (h4 i hi hne))
 exact ⟨h1,s2,(Am.kill a0 h3).trans hg,h5,h6⟩


theorem IWP.cut {P:Program} {C:Ctx} {mu:List Nat} {Q:AX→AS→Prop} {s:AS} {x:IR} (id:Nat) (M:AS→Prop) (h1:IWP P C mu x (fun e s=>e=.exit id∧M s) s) (h2:∀ s,M s→Q (.exit id) s):IWP P C mu x Q s :=
 h1.mono fun e s h=>by
  obtain ⟨rfl,hm⟩:=h
  exact h2 s hm

abbrev Cc (u:ByteArray) (nm:AC) (l:Int):AU:=.box 72 [.st (.str u),nm,.st (.int .i64 l)]
theorem F1 {u:ByteArray} {nm:AC} {l:Int} (h:nm.high=true):(Cc u nm l).high=true:=by
 show AC.highs [_,nm,_]=true
 simp only [AC.highs,AC.high,h,Bool.and_self]
theorem L3 {u:ByteArray} {nm:AC} {l:Int} {b:Nat} {S:AA} (hb:1000≤b) (hnm:nm.high=true) (sb:S b=some (Cc u nm l)) (h0:1≤l) (h1:l≤200):Ay Tryz.prog 64 [.one (.ptr b 1 0 0)] S (.tup []) (AK S b (some (Cc u nm (l - 1)))):=by
 refine Bw.acS fun hS C hC=>?_
 unfold BL
 repeat' with_reducible first | refine W ?_ | refine Z0 ?_ | ((first | refine Wx rfl fun K hK=>?_ | refine Wp ?_ | refine Wq ?_ | refine Wr ?_);(try simp only [go_sem,fN,seval,eT,iR,AS.startS,sb,dT,dF,nL]);(repeat refine Ai ?_);(try (refine hK _ ?_;clear hK K));try refine iC ?_)
 refine ⟨fun h=>by omega,fun _=>?_⟩
 repeat' with_reducible first | refine W ?_ | refine Z0 ?_ | ((first | refine Wx rfl fun K hK=>?_ | refine Wp ?_ | refine Wq ?_ | refine Wr ?_);(try simp only [go_sem,fN,seval,eT,iR,dT,dF,nL]);(repeat refine Ai ?_);(try (refine hK _ ?_;clear hK K));try refine iC ?_)
 exact J1 (.tup []) hS hb (F1 hnm) trivial rfl rfl (by simp [AK]) fun i h1 h2=>by simp [AK,h2]
theorem Lz {u:ByteArray} {nm:AC} {l:Int} {b:Nat} {S:AA} (hb:1000≤b) (hnm:nm.high=true) (sb:S b=some (Cc u nm l)) (h0:l≤0) (h1:-200≤l):IG Tryz.prog 64 [.one (.ptr b 1 0 0)] S (C3 3) (AK S b (some (.dead 1 0))):=by
 refine Bw.acP fun hS C hC=>?_
 unfold BL
 repeat' with_reducible first | refine W ?_ | refine Z0 ?_ | ((first | refine Wx rfl fun K hK=>?_ | refine Wp ?_ | refine Wq ?_ | refine Wr ?_);(try simp only [go_sem,fN,seval,eT,iR,AS.startS,sb,dT,dF,nL]);(repeat refine Ai ?_);(try (refine hK _ ?_;clear hK K));try refine iC ?_)
 refine ⟨fun _=>?_,fun h=>by omega⟩
 refine IWP.opsPan 1 _ rfl (by kernel_rfl) ?_
 simp only [go_sem,fN,seval,eT,iR,BI,List.take_succ_cons,List.take_zero]
 intro envP
 repeat' (with_reducible first | refine Wy ?_ | refine Wz ?_ | refine Wv ?_)
 exact G6 hS hb (by simp [AK];exact ⟨rfl,rfl⟩) fun i h1 h2=>by simp [AK,h2]
def Gc (u:ByteArray):Int:=if u.size=0 then 0 else Dx u 0
theorem Tc {u:ByteArray} {nm:AC} {l:Int} {b:Nat} {S:AA} (hb:1000≤b) (sb:S b=some (Cc u nm l)):Ay Tryz.prog 63 [.one (.ptr b 1 0 0)] S (.one (.st (.int .u8 (Gc u)))) S:=by
 refine DE.acS fun hS C hC=>?_
 unfold Bv
 repeat' with_reducible first | refine W ?_ | refine Z0 ?_ | ((first | refine Wo fun K hK=>?_ | refine Wp ?_ | refine Wq ?_ | refine Wr ?_);(try simp only [go_sem,fN,seval,eT,iR,AS.startS,sb,dT,dF,nL]);(repeat refine Ai ?_);(try (refine hK _ ?_;clear hK K));try refine iC ?_)
 refine ⟨fun h=>?_,fun h=>?_⟩
 ·subst h
  repeat' with_reducible first | refine W ?_ | refine Z0 ?_ | ((first | refine Wo fun K hK=>?_ | refine Wp ?_ | refine Wq ?_ | refine Wr ?_);(try simp only [go_sem,fN,seval,eT,iR,dT,dF,nL]);(repeat refine Ai ?_);(try (refine hK _ ?_;clear hK K));try refine iC ?_)
  exact CL (.one (.st (.int .u8 0))) hS trivial rfl rfl fun i _=>rfl
 ·have hpos:0 < u.size:=Nat.pos_of_ne_zero fun h0=>h (ByteArray.size_eq_zero_iff.1 h0)
  have e:Gc u=Dx u 0:=if_neg (by omega)
  rw [e]
  repeat' with_reducible first | refine W ?_ | refine Z0 ?_ | ((first | refine Wo fun K hK=>?_ | refine Wp ?_ | refine Wq ?_ | refine Wr ?_);(try simp only [go_sem,fN,seval,eT,iR,sb,dT,dF,nL]);(repeat refine Ai ?_);(try (refine hK _ ?_;clear hK K));try refine iC ?_)
  exact CL (.one (.st (.int .u8 (Dx u 0)))) hS trivial rfl rfl fun i _=>rfl
theorem Sz {u:ByteArray} {nm:AC} {l:Int} {b:Nat} {S:AA} (c:Int) (hb:1000≤b) (hnm:nm.high=true) (sb:S b=some (Cc u nm l)) (h0:0 < u.size) (hc:Dx u 0=c):Ay Tryz.prog 66 [.one (.ptr b 1 0 0),.one (.st (.int .u8 c))] S (.tup []) (AK S b (some (Cc (u.extract 1 u.size) nm l))):=by
 refine BP.acS fun hS C hC=>?_
 unfold A6
 have hne:¬ u=⟨#[]⟩:=fun h=>by rw [h] at h0;exact absurd h0 (by decide)
 repeat' with_reducible first | refine W ?_ | refine Z0 ?_ | ((first | refine Wx rfl fun K hK=>?_ | refine Wp ?_ | refine Wq ?_ | refine Wr ?_);(try simp only [go_sem,fN,seval,eT,iR,AS.startS,sb,hne,hc,dT,dF,nL]);(repeat refine Ai ?_);(try (refine hK _ ?_;clear hK K));try refine iC ?_)
 exact J1 (.tup []) hS hb (F1 hnm) trivial rfl rfl (by simp [AK]) fun i h1 h2=>by simp [AK,h2]
theorem RJ {u:ByteArray} {nm:AC} {l:Int} {b:Nat} {S:AA} (c:Int) (hb:1000≤b) (sb:S b=some (Cc u nm l)) (h0:u=⟨#[]⟩):IG Tryz.prog 66 [.one (.ptr b 1 0 0),.one (.st (.int .u8 c))] S (C3 13) (AK S b (some (.dead 1 0))):=by
 refine BP.acP fun hS C hC=>?_
 unfold A6
 repeat' with_reducible first | refine W ?_ | refine Z0 ?_ | ((first | refine Wx rfl fun K hK=>?_ | refine Wp ?_ | refine Wq ?_ | refine Wr ?_);(try simp only [go_sem,fN,seval,eT,iR,AS.startS,sb,h0,dT,dF,nL]);(repeat refine Ai ?_);(try (refine hK _ ?_;clear hK K));try refine iC ?_)
 refine IWP.opsPan 1 _ rfl (by kernel_rfl) ?_
 simp only [go_sem,fN,seval,eT,iR,BI,List.take_succ_cons,List.take_zero]
 intro envP
 repeat' (with_reducible first | refine Wy ?_ | refine Wz ?_ | refine Wv ?_)
 exact G6 hS hb (by simp [AK,sb];exact ⟨rfl,rfl⟩) fun i h1 h2=>rfl
theorem Rn {u:ByteArray} {nm:AC} {l:Int} {b:Nat} {S:AA} (c:Int) (hb:1000≤b) (sb:S b=some (Cc u nm l)) (h0:0 < u.size) (hc:¬ Dx u 0=c):IG Tryz.prog 66 [.one (.ptr b 1 0 0),.one (.st (.int .u8 c))] S (C3 12) (AK S b (some (.dead 1 0))):=by
 refine BP.acP fun hS C hC=>?_
 unfold A6
 have hne:¬ u=⟨#[]⟩:=fun h=>by rw [h] at h0;exact absurd h0 (by decide)
 repeat' with_reducible first | refine W ?_ | refine Z0 ?_ | ((first | refine Wx rfl fun K hK=>?_ | refine Wp ?_ | refine Wq ?_ | refine Wr ?_);(try simp only [go_sem,fN,seval,eT,iR,AS.startS,sb,hne,hc,dT,dF,nL]);(repeat refine Ai ?_);(try (refine hK _ ?_;clear hK K));try refine iC ?_)
 refine IWP.opsPan 1 _ rfl (by kernel_rfl) ?_
 simp only [go_sem,fN,seval,eT,iR,BI,List.take_succ_cons,List.take_zero]
 intro envP
 repeat' (with_reducible first | refine Wy ?_ | refine Wz ?_ | refine Wv ?_)
 exact G6 hS hb (by simp [AK,sb];exact ⟨rfl,rfl⟩) fun i h1 h2=>rfl
theorem LO (c:Int):Bi c=true∧((97≤c∧c≤122∧65≤c∧¬ c≤90∧48≤c∧¬ c≤57) ∨ (¬ 97≤c∧c≤122∧65≤c∧c≤90∧48≤c∧¬ c≤57) ∨ (¬ 97≤c∧c≤122∧¬ 65≤c∧c≤90∧48≤c∧c≤57)) ∨
  ¬ Bi c=true∧((97≤c∧¬ c≤122∧65≤c∧¬ c≤90∧48≤c∧¬ c≤57) ∨ (¬ 97≤c∧c≤122∧65≤c∧¬ c≤90∧48≤c∧¬ c≤57) ∨ (¬ 97≤c∧c≤122∧¬ 65≤c∧c≤90∧48≤c∧¬ c≤57) ∨ (¬ 97≤c∧c≤122∧¬ 65≤c∧c≤90∧¬ 48≤c∧c≤57)):=by
 simp only [Bi,Bool.or_eq_true,decide_eq_true_eq]
 omega
def R9 (b:Nat) (n:Nat) (S:AA) (x:AS):Prop:=x.env 0=.one (.ptr b 1 0 0)∧x.env 3=Ad n∧x.S=S
set_option maxRecDepth 100000 in
theorem O1 {u:ByteArray} {nm:AC} {l:Int} {b:Nat} {S:AA} {C:Ctx} {Q:AX→AS→Prop} (hu:u.size≤100000) (sb:S b=some (Cc u nm l))
  (hok:Ak u 0 ≠ 0→A9 (u.extract 0 (Ak u 0))=true→∀ x:AS,x.env 2=CM (u.extract 0 (Ak u 0))→x.S b=some (Cc (u.extract (Ak u 0) u.size) nm l)→(∀ i,1000≤i→i ≠ b→x.S i=S i)→Q .ret x)
  (hp:∀ (e:Int) (x:AS),(Ak u 0=0∧u=⟨#[]⟩∧e=13) ∨ (Ak u 0=0∧¬ u=⟨#[]⟩∧e=12) ∨ (Ak u 0 ≠ 0∧¬ A9 (u.extract 0 (Ak u 0))=true∧e=1)→x.S=S→Q (.pan (C3 e)) x):IWP Tryz.prog C [] BO Q (AS.startS [.one (.ptr b 1 0 0)] S):=by
 unfold BO
 obtain ⟨l1,l2⟩:=FO (s:=u) (i:=0) (Nat.zero_le _)
 repeat' with_reducible first | refine W ?_ | refine Z0 ?_ | ((first | refine Wx rfl fun K hK=>?_ | refine Wp ?_ | refine Wq ?_ | refine Wr ?_);(try simp only [go_sem,fN,seval,eT,iR,AS.startS,sb,dT,dF,nL]);(repeat refine Ai ?_);(try (refine hK _ ?_;clear hK K));try refine iC ?_)
 refine IWP.cut 0 (R9 b (Ak u 0) S) ?_ ?_
 ·refine IWP.loop (fun m x=>∃ j,j≤u.size∧m=u.size - j∧Ak u 0=Ak u j∧R9 b j S x) u.size ⟨0,Nat.zero_le _,rfl,rfl,rfl,rfl,rfl⟩ ?_
  rintro m ⟨env,S1⟩ ⟨j,hj,rfl,hl,v0,v3,hS1⟩
  simp only at v0 v3 hS1
  subst hS1
  by_cases hlt:(j:Int) < u.size
  ·have hbt:Dx u j=Ac u j:=by
    have:=Dz (s:=u) (i:=0) (k:=j) (by omega)
    simpa [Ar] using this
   rcases LO (Dx u j) with ⟨hlet,h⟩ | ⟨hlet,h⟩
   ·have hgo:Ak u 0=Ak u (j + 1):=by rw [hl];exact Qj (by omega) (by rw [← hbt];exact hlet)
    rcases h with ⟨h1,h2,h3,h4,h5,h6⟩ | ⟨h1,h2,h3,h4,h5,h6⟩ | ⟨h1,h2,h3,h4,h5,h6⟩ <;>
    ·repeat' with_reducible first | refine W ?_ | refine Z0 ?_ | ((first | refine Wx rfl fun K hK=>?_ | refine Wp ?_ | refine Wq ?_ | refine Wr ?_);(try simp only [go_sem,fN,seval,eT,iR,v0,v3,sb,hlt,h1,h2,h3,h4,h5,h6,dT,dF,nL]);(repeat refine Ai ?_);(try (refine hK _ ?_;clear hK K));try refine iC ?_)
     exact ⟨u.size - (j + 1),by omega,j + 1,by omega,rfl,hgo,v0,rfl,rfl⟩
   ·have hst:Ak u 0=j:=by rw [hl];exact N4 (by omega) (by rw [← hbt];exact hlet)
    rcases h with ⟨h1,h2,h3,h4,h5,h6⟩ | ⟨h1,h2,h3,h4,h5,h6⟩ | ⟨h1,h2,h3,h4,h5,h6⟩ | ⟨h1,h2,h3,h4,h5,h6⟩ <;>
    ·repeat' with_reducible first | refine W ?_ | refine Z0 ?_ | ((first | refine Wx rfl fun K hK=>?_ | refine Wp ?_ | refine Wq ?_ | refine Wr ?_);(try simp only [go_sem,fN,seval,eT,iR,v0,v3,sb,hlt,h1,h2,h3,h4,h5,h6,dT,dF,nL]);(repeat refine Ai ?_);(try (refine hK _ ?_;clear hK K));try refine iC ?_)
     exact ⟨rfl,v0,by rw [hst];exact v3,rfl⟩
  ·have hst:Ak u 0=j:=by rw [hl];exact P5 (by omega)
   repeat' with_reducible first | refine W ?_ | refine Z0 ?_ | ((first | refine Wx rfl fun K hK=>?_ | refine Wp ?_ | refine Wq ?_ | refine Wr ?_);(try simp only [go_sem,fN,seval,eT,iR,v0,v3,sb,hlt,dT,dF,nL]);(repeat refine Ai ?_);(try (refine hK _ ?_;clear hK K));try refine iC ?_)
   exact ⟨rfl,v0,by rw [hst];exact v3,rfl⟩
 ·rintro ⟨env,S1⟩ ⟨v0,v3,hS1⟩
  simp only at v0 v3 hS1
  subst hS1
  generalize Ak u 0=n at *
  by_cases hn0:n=0
  ·have hn1:(n:Int)=0:=by omega
   by_cases hu0:u=⟨#[]⟩
   ·repeat' with_reducible first | refine W ?_ | refine Z0 ?_ | ((first | refine Wx rfl fun K hK=>?_ | refine Wp ?_ | refine Wq ?_ | refine Wr ?_);(try simp only [go_sem,fN,seval,eT,iR,v0,v3,sb,hn0,hn1,hu0,dT,dF,nL]);(repeat refine Ai ?_);(try (refine hK _ ?_;clear hK K));try refine iC ?_)
    refine IWP.opsPan 1 _ rfl (by kernel_rfl) ?_
    simp only [go_sem,fN,seval,eT,iR,BI,List.take_succ_cons,List.take_zero]
    intro envP
    repeat' (with_reducible first | refine Wy ?_ | refine Wz ?_ | refine Wv ?_)
    exact hp 13 _ (.inl ⟨hn0,hu0,rfl⟩) rfl
   ·repeat' with_reducible first | refine W ?_ | refine Z0 ?_ | ((first | refine Wx rfl fun K hK=>?_ | refine Wp ?_ | refine Wq ?_ | refine Wr ?_);(try simp only [go_sem,fN,seval,eT,iR,v0,v3,sb,hn0,hn1,hu0,dT,dF,nL]);(repeat refine Ai ?_);(try (refine hK _ ?_;clear hK K));try refine iC ?_)
    refine IWP.opsPan 1 _ rfl (by kernel_rfl) ?_
    simp only [go_sem,fN,seval,eT,iR,BI,List.take_succ_cons,List.take_zero]
    intro envP
    repeat' (with_reducible first | refine Wy ?_ | refine Wz ?_ | refine Wv ?_)
    exact hp 12 _ (.inr (.inl ⟨hn0,hu0,rfl⟩)) rfl
  ·have hn1:¬ (n:Int)=0:=by omega
   by_cases hnm:A9 (u.extract 0 n)=true
   ·repeat' (first | (with_reducible first | refine W ?_ | refine Z0 ?_ | ((first | refine Wx rfl fun K hK=>?_ | refine Wp ?_ | refine Wq ?_ | refine Wr ?_);(try simp only [go_sem,fN,seval,eT,iR,v0,v3,sb,hn0,hn1,hnm,dT,dF,nL]);(repeat refine Ai ?_);(try (refine hK _ ?_;clear hK K));try refine iC ?_)) | refine Cg _ (FR (u.extract 0 n)) ?_)
    exact hok hn0 hnm _ rfl (by simp [AK]) fun i h1 h2=>by simp [AK,h2]
   ·repeat' (first | (with_reducible first | refine W ?_ | refine Z0 ?_ | ((first | refine Wx rfl fun K hK=>?_ | refine Wp ?_ | refine Wq ?_ | refine Wr ?_);(try simp only [go_sem,fN,seval,eT,iR,v0,v3,sb,hn0,hn1,hnm,dT,dF,nL]);(repeat refine Ai ?_);(try (refine hK _ ?_;clear hK K));try refine iC ?_)) | refine Cg _ (FR (u.extract 0 n)) ?_)
    refine IWP.opsPan 1 _ rfl (by kernel_rfl) ?_
    simp only [go_sem,fN,seval,eT,iR,BI,List.take_succ_cons,List.take_zero]
    intro envP
    repeat' (with_reducible first | refine Wy ?_ | refine Wz ?_ | refine Wv ?_)
    exact hp 1 _ (.inr (.inr ⟨hn0,hnm,rfl⟩)) rfl
theorem TB {u:ByteArray} {nm:AC} {l:Int} {b:Nat} {S:AA} (hu:u.size≤100000) (hb:1000≤b) (hnm:nm.high=true) (sb:S b=some (Cc u nm l)) (h0:Ak u 0 ≠ 0) (hok:A9 (u.extract 0 (Ak u 0))=true):Ay Tryz.prog 65 [.one (.ptr b 1 0 0)] S (CM (u.extract 0 (Ak u 0))) (AK S b (some (Cc (u.extract (Ak u 0) u.size) nm l))) :=
 By.acS fun hS C hC=>O1 hu sb (fun _ _ x h1 h2 h3=>J1 (CM (u.extract 0 (Ak u 0))) hS hb (F1 hnm) trivial (by simp only [AB,AE,h1];rfl) rfl h2 h3) fun e x h _=>by
  rcases h with ⟨h,_⟩ | ⟨h,_⟩ | ⟨_,h,_⟩
  ·exact absurd h h0
  ·exact absurd h h0
  ·exact absurd hok h
theorem TZ {u:ByteArray} {nm:AC} {l:Int} {b:Nat} {S:AA} (e:Int) (hu:u.size≤100000) (hb:1000≤b) (sb:S b=some (Cc u nm l)) (he:(Ak u 0=0∧u=⟨#[]⟩∧e=13) ∨ (Ak u 0=0∧¬ u=⟨#[]⟩∧e=12) ∨ (Ak u 0 ≠ 0∧¬ A9 (u.extract 0 (Ak u 0))=true∧e=1)):IG Tryz.prog 65 [.one (.ptr b 1 0 0)] S (C3 e) (AK S b (some (.dead 1 0))) :=
 By.acP fun hS C hC=>O1 hu sb (fun h1 h2=>by
  rcases he with ⟨h,_⟩ | ⟨h,_⟩ | ⟨_,h,_⟩
  ·exact absurd h h1
  ·exact absurd h h1
  ·exact absurd h2 h) fun e' x h hx=>by
  have hee:e'=e:=by
   rcases he with ⟨a1,a2,a3⟩ | ⟨a1,a2,a3⟩ | ⟨a1,a2,a3⟩ <;> rcases h with ⟨b1,b2,b3⟩ | ⟨b1,b2,b3⟩ | ⟨b1,b2,b3⟩ <;> first | (rw [a3,b3];done) | exact absurd b1 a1 | exact absurd a1 b1 | exact absurd a2 b2 | exact absurd b2 a2
  rw [hee]
  exact G6 hS hb (by rw [hx];exact sb) fun i _ _=>by rw [hx]

def Tz (P:Program) (f:FuncId) (caps:List AV) (Need:AA→Prop) {α:Type} (encs:α→List AV) (all:List α):Prop :=
 ∀ (y:Nat) (Inv:List α→AA→Prop) (Jx:AA→Prop) (T:AA),1000≤y→(∀ pre T,Inv pre T→Need T) →
  (∀ pre v,(pre ++ [v]) <+: all→∀ T,Inv pre T→Ik P (.one (.yld y)) (encs v) T fun r T'=>(r=.one (.st (.bool true))∧Inv (pre ++ [v]) T') ∨ (r=.one (.st (.bool false))∧Jx T')) →
  Inv [] T→G7 P f (.one (.yld y) :: caps) T fun _ T'=>Inv all T' ∨ Jx T'
def Kp (env:Nat→AV):List Nat→List AV→Nat→AV
 | p :: ps,v :: vs=>Kp (AK env p v) ps vs
 | _,_=>env
section
variable {σ:Sto} {S:AA} {ι:As}
theorem Kt {n:Nat}:∀ {ps:List Nat} {vs:List Value} {xs:List AV} {tmps:Array Value} {env:Nat→AV},Af (AN σ S ι) vs xs→n≤tmps.size→(∀ i,i < n→AN σ S ι (tmps.getD i undef) (env i)) →
  n≤((ps.zip vs).foldl (fun t (p,v)=>t.setIfInBounds p v) tmps).size∧∀ i,i < n→AN σ S ι (((ps.zip vs).foldl (fun t (p,v)=>t.setIfInBounds p v) tmps).getD i undef) (Kp env ps xs i)
 | [],vs,xs,tmps,env,h,hs,he=>⟨hs,he⟩
 | p :: ps,[],[],tmps,env,h,hs,he=>⟨hs,he⟩
 | p :: ps,v :: vs,x :: xs,tmps,env,h,hs,he=>by
  cases h with
  | cons h1 h2 =>
   refine Kt (ps:=ps) h2 (by simpa using hs) fun i hi=>?_
   unfold AK
   by_cases e:i=p
   ·subst e
    rw [if_pos rfl,Array.getD_eq_getD_getElem?,Array.getElem?_setIfInBounds_self_of_lt (by omega)]
    exact h1
   ·rw [if_neg e,Array.getD_eq_getD_getElem?,Array.getElem?_setIfInBounds_ne (fun h=>e h.symm),← Array.getD_eq_getD_getElem?]
    exact he i hi
end
section
variable {P:Program} {C:Ctx} {mu:List Nat} {Q:AX→AS→Prop} {s:AS} {x y:IR} {σ:Sto} {ι:As} {a:Act} {w:World}
theorem AT.upped (R:AT C σ ι s a w):∃ ι1:As,(∀ i,ι1 (up1 i)=ι i)∧Cz σ (upS s.S) ι1 w∧(∀ v c,AN σ s.S ι v c→AN σ (upS s.S) ι1 v (c.ren up1)) ∧
  ∀ {Post:AV→AA→Prop} {e:Ending} {w':World},OH σ (upS s.S) ι1 w Post e w'→∃ v r S' σ' ι2,e=.returned v∧Post r S'∧An S'∧Upd s.S ι (dnS S') ι2∧AT C σ' ι2 ⟨s.env,dnS S'⟩ a w':=by
 have hup:∀ i,dn1 (up1 i)=i:=DF
 have hS:∀ i b,s.S i=some b→upS s.S (up1 i)=some (b.ren up1):=fun i b hb=>A1 hb
 obtain ⟨ι1,hι1⟩:∃ ι1:As,∀ i,ι1 i=ι (dn1 i):=⟨fun i=>ι (dn1 i),fun _=>rfl⟩
 have hι:∀ i b,s.S i=some b→ι1 (up1 i)=ι i:=fun i b _=>by rw [hι1,hup]
 have hown:Cz σ (upS s.S) ι1 w:=by
  refine ⟨fun id b hb=>?_,fun id id' b b' g h1 h2 g1 g2=>?_⟩
  ·obtain ⟨hle,b',h1,rfl⟩:=Bo hb
   have:=Bc.ren (S2:=upS s.S) (ι2:=ι1) (ρ:=up1) hS hι (R.blk _ _ h1)
   rw [hι1]
   exact this
  ·obtain ⟨l1,c1,k1,_⟩:=Bo h1
   obtain ⟨l2,c2,k2,_⟩:=Bo h2
   rw [hι1] at g1 g2
   have:=R.inj _ _ _ _ g k1 k2 g1 g2
   rw [← Ea l1,← Ea l2,this]
 refine ⟨ι1,fun i=>by rw [hι1,hup],hown,fun v c hv=>AN.ren (S2:=upS s.S) (ι2:=ι1) (ρ:=up1) hS hι hv,fun {Post e w'} he=>?_⟩
 obtain ⟨v,r,S',σ',ι',rfl,hP,hclean,hupd,hown',hv,hf',hkeep,hold,hos,hsz,hsame,hbase⟩:=he
 have hSd:∀ i b,S' i=some b→dnS S' (dn1 i)=some (b.ren dn1):=fun i b hb=>Fq (hclean i b hb).1 hb
 obtain ⟨ι2,hι2⟩:∃ ι2:As,∀ i,ι2 i=ι' (up1 i):=⟨fun i=>ι' (up1 i),fun _=>rfl⟩
 have hιd:∀ i b,S' i=some b→ι2 (dn1 i)=ι' i:=fun i b hb=>by
  rw [hι2,Ea (hclean i b hb).1]
 have hu:Upd s.S ι (dnS S') ι2:=fun id b hb=>by
  obtain ⟨b',h1,h2,h3⟩:=hupd _ _ (hS id b hb)
  have h4:=hSd _ _ h1
  rw [hup] at h4
  refine ⟨_,h4,by rw [BH] at h2 ⊢;exact h2,fun hl=>?_⟩
  rw [BH] at hl
  obtain ⟨q1,q2⟩:=h3 (by rw [BH];exact hl)
  refine ⟨by rw [F0] at q1 ⊢;exact q1,?_⟩
  rw [hι2,q2,hι1,hup]
 have hnot:∀ g,g < C.N→¬ C.G g→BZ (upS s.S) ι1 g:=fun g h1 h2 id b hb hg=>by
  obtain ⟨_,b',k1,_⟩:=Bo hb
  rw [hι1] at hg
  rcases R.base _ _ g k1 hg with h | h
  ·omega
  ·exact h2 h
 refine ⟨v,r,S',σ',ι2,rfl,hP,hclean,hu,?_⟩
 refine ⟨R.size,fun i hi=>(R.env i hi).mono hkeep hu,R.nod.mono (fun D h=>(hsame D (Array.getElem?_eq_some_iff.1 h).1 (DK hown.1 h)).trans h),hf',fun id b hb=>?_,fun id id' b b' g h1 h2 g1 g2=>?_,fun id b g hb hg=>?_,fun p x hx=>hkeep _ _ (R.ext p x hx),fun p h1 h2=>?_,⟨hos.1.trans R.os.1,hos.2.1.trans R.os.2.1,hos.2.2.trans R.os.2.2⟩,⟨Nat.le_trans R.grown.1 hsz,Nat.le_trans R.grown.2 hsz⟩,fun g h1 h2=>?_,R.upd.trans hu⟩
 ·obtain ⟨b',h1,rfl⟩:=Bz hb
  have:=Bc.ren (S2:=dnS S') (ι2:=ι2) (ρ:=dn1) hSd hιd (hown'.1 _ _ h1)
  rw [hι2]
  exact this
 ·obtain ⟨c1,k1,_⟩:=Bz h1
  obtain ⟨c2,k2,_⟩:=Bz h2
  rw [hι2] at g1 g2
  have:=congrArg dn1 (hown'.2 _ _ _ _ g k1 k2 g1 g2)
  rw [hup,hup] at this
  exact this
 ·obtain ⟨b',h1,_⟩:=Bz hb
  rw [hι2] at hg
  rcases hbase _ _ g h1 hg with h2 | h2
  ·exact .inl (by have:=R.grown.1;omega)
  ·by_cases hN:g < C.N
   ·by_cases hG:C.G g
    ·exact .inr hG
    ·exact absurd (hnot g hN hG) h2
   ·exact .inl (by omega)
 ·exact (hold p (by have:=R.grown.1;omega) (hnot _ h1 h2)).trans (R.old p h1 h2)
 ·exact (hsame g (by have:=R.grown.1;omega) (hnot g h1 h2)).trans (R.same g h1 h2)
theorem AT.setLoop (R:AT C σ ι s a w) {id l:Nat} {env:List AV} {r:Loop} (r':Loop) (hS:s.S id=some (.loop env r)) (hl:(ι id).g=some l) (hr:r'.tmps=r.tmps):w.heap[l]?=some (.loop r)∧∃ ι',AT C σ ι' (s.set id (.loop env r')) a (w.putObj l (.loop r'))∧Upd s.S ι (s.set id (.loop env r')).S ι':=by
 have hb:=R.blk id _ hS
 cases hb with
 | loop h1 h2 h3 h4 h5 =>
  rw [hl] at h1
  cases h1
  exact ⟨h2,R.setBlk (o':=.loop r') hS hl h2 h5 rfl rfl fun S' ι' hu=>.loop hl (DV h2).1 (by rw [hr];exact h3) (fun j a ha=>by rw [hr];exact (h4 j a ha).mono (fun _ _ h=>h) hu) h5⟩
def Qt (C:Ctx) (y:Nat) (b:AU) (N:AA→Prop) (Jx:AX→AA→Prop) (e:AX) (s:AS):Prop:=∃ s2 U,Am C s s2∧s2.S=AK U y (some b)∧An s2.S∧U y=none∧match e with
 | .normal=>N U
 | .ret=>Jx .ret U
 | .exit i=>Jx (.exit i) U
 | .pan _=>False
theorem Ew {C:Ctx} {σ0:Sto} {T:AA} {ι0:As} {w0:World} (hC:C.N=w0.heap.size) (hw:C.w0=w0) (hσ:C.σ0=σ0) (hG:∀ g,C.G g ↔ ¬ BZ T ι0 g) (hS0:C.S0=T) (hι0:C.ι0=ι0) (R:AT C σ ι s a w) (hc:An s.S) {Post:AV→AA→Prop} {b:Bool} (hP:Post (.one (.st (.bool b))) s.S):OH σ0 T ι0 w0 Post (.returned (.bool b)) w:=by
 have hupd:=R.upd
 rw [hS0,hι0] at hupd
 subst hσ hw
 exact ⟨.bool b,_,s.S,σ,ι,rfl,hP,hc,hupd,⟨R.blk,R.inj⟩,.one (.st .bool),R.fit,R.ext,fun p h1 h2=>R.old p (by rw [hC];exact h1) (fun h=>(hG _).1 h h2),R.os,R.grown.2,fun g h1 h2=>R.same g (by rw [hC];exact h1) (fun h=>(hG _).1 h h2),fun id b g h1 h2=>(R.base id b g h1 h2).imp (fun h=>by rw [← hC];exact h) fun h=>(hG _).1 h⟩
theorem Eb {S:AA} {i:Nat} {b c:Option AU}:AK (AK S i b) i c=AK S i c:=by
 funext j
 unfold AK
 split <;> rfl
inductive Sw:Code→AX→Prop
 | ret:Sw .ret .ret
 | exit (i:Nat):Sw (.exit i) (.exit i)
theorem Qy {fn:FuncId} {ps:Array Tmp} {ca cb:Code} {D:Nat} {n:Nat} {env:List AV} {tmps:Array Value} (hx:Az P n mu ca=some x) (hy:Az P n mu cb=some y) (hn:env.length=n) {yb:Nat} (hyb:1000≤yb) {rec:LoopState→Option Code→Loop} (hrec:rec=fun st pe=>{ state:=st,pending:=pe,fn,tmps,params:=ps,assign:=ca,body:=cb,defers:=D }) {vs:List AV} (hps:vs.length=ps.size)
  {U:AA} (hU:U yb=none) {N:AA→Prop} {Jx:AX→AA→Prop}
  (h:An (AK U yb (some (.loop env (rec .ready none))))→∀ C':Ctx,C'.n=n→IWP P C' mu x (AX.then (fun s1=>s1.S yb=some (.loop env (rec .ready none))∧IWP P C' mu y (Qt C' yb (.loop env (rec .busy none)) N Jx) (s1.set yb (.loop env (rec .busy none)))) fun _ _=>False) ⟨Kp (fun i=>(env[i]?).getD .any) ps.toList vs,AK U yb (some (.loop env (rec .ready none)))⟩) :
  Ik P (.one (.yld yb)) vs (AK U yb (some (.loop env (rec .ready none)))) fun r T'=>(r=.one (.st (.bool true))∧∃ U',T'=AK U' yb (some (.loop env (rec .ready none)))∧U' yb=none∧N U') ∨
   (r=.one (.st (.bool false))∧∃ U' c e,T'=AK U' yb (some (.loop env (rec .done (some c))))∧U' yb=none∧Sw c e∧Jx e U'):=by
 intro hclean σ w vy xs ι hglob hfit hown hvy hxs
 obtain ⟨T,hT⟩:∃ T,AK U yb (some (.loop env (rec .ready none)))=T:=⟨_,rfl⟩
 have hTy:T yb=some (.loop env (rec .ready none)):=by rw [← hT];exact AD _ _ _
 rw [hT] at hclean hown hvy hxs h ⊢
 have hhigh:=(hclean _ _ hTy).2
 have hb:=hown.1 _ _ hTy
 obtain ⟨l,hl,rfl⟩:∃ l,(ι yb).g=some l∧vy=.func (.yield l) #[] #[]:=by
  cases hvy with
  | one hv =>
   cases hv with
   | yld k1 k2 k3 k4 =>
    rw [hTy] at k1
    cases k1
    exact k4 rfl
 have hlen:=hxs.len
 cases hb with
 | loop k1 k2 k3 k4 k5 =>
 rw [hl] at k1
 cases k1
 have htm:(rec .ready none).tmps=tmps:=by rw [hrec]
 refine ⟨l,rfl,fun ro=>⟨fn,_,ca,cb,by
  have:=run_yield (P:=P) (args:=xs.toArray) k2 (by rw [hrec];simp;omega)
  rw [hrec] at this
  exact this,?_⟩⟩
 let C':Ctx:=⟨n,w.heap.size,fun g=>¬ BZ T ι g,σ,w,T,ι,hclean,hglob,[],some l,false⟩
 have hset:=Kt (σ:=σ) (S:=T) (ι:=ι) (n:=n) (ps:=ps.toList) (env:=fun i=>(env[i]?).getD .any) (tmps:=tmps) hxs (by rw [htm] at k3;omega) fun i hi=>by
  have hi':i < env.length:=by omega
  have:=k4 i _ (List.getElem?_eq_getElem hi')
  rw [htm] at this
  simpa [hi'] using this
 have hfold:(ps.zip xs.toArray).foldl (fun t (p,v)=>t.setIfInBounds p v) tmps=(ps.toList.zip xs).foldl (fun t (p,v)=>t.setIfInBounds p v) tmps:=by
  rw [← Array.foldl_toList,Array.toList_zip]
 have R0:AT C' σ ι ⟨Kp (fun i=>(env[i]?).getD .any) ps.toList vs,T⟩ { tmps:=(ps.zip xs.toArray).foldl (fun t (p,v)=>t.setIfInBounds p v) tmps,defers:=[] } w:=by
  refine ⟨?_,fun i hi=>?_,Cv,hfit,hown.1,hown.2,fun id b g h hg=>.inr (fun hno=>hno id b h hg),fun _ _ h=>h,fun _ _ _=>rfl,⟨rfl,rfl,rfl⟩,⟨Nat.le_refl _,Nat.le_refl _⟩,fun _ _ _=>rfl,Upd.refl _ _⟩
  ·dsimp only
   rw [hfold]
   exact hset.1
  ·dsimp only
   rw [hfold]
   exact hset.2 i hi
 refine roundIn_of_wpIn (F:=fen ro) (n:=0) trivial (wpIn_mono (h hclean C' rfl ca hx _ w ⟨σ,ι,R0⟩) fun e a1 w1 he=>?_)
 have same:∀ {σ1:Sto} {ι1:As} {s1:AS} {a1:Act} {w1:World} {b:AU},AT C' σ1 ι1 s1 a1 w1→s1.S yb=some b→b.len=1→(ι1 yb).g=some l:=fun R1 hs hl1=>by
  obtain ⟨b',h1,h2,h3⟩:=R1.upd yb _ hTy
  rw [hs] at h1
  cases h1
  rw [(h3 hl1).2]
  exact hl
 cases e with
 | normal =>
  obtain ⟨s1,⟨h1,h2⟩,σ1,ι1,R1⟩:=he
  obtain ⟨q1,ι2,R2,_⟩:=R1.setLoop (rec .busy none) h1 (same R1 h1 rfl) (by rw [hrec])
  refine ⟨_,by
   have:=run_beginRound (P:=P) q1 (by rw [hrec])
   rw [hrec] at this
   exact this,?_⟩
  have e1:(w1.putObj l (.loop (rec .busy none)))=w1.putObj l (.loop { state:=.busy,pending:=none,fn,tmps,params:=ps,assign:=ca,body:=cb,defers:=D }):=by rw [hrec]
  rw [← e1]
  refine wpIn_mono (h2 cb hy _ _ ⟨σ1,ι2,R2⟩) fun e3 a3 w3 he3=>?_
  have fin:∀ (jump:Option Code) (s3 s4:AS) (U2:AA),Am C' s3 s4→s4.S=AK U2 yb (some (.loop env (rec .busy none)))→An s4.S→Ax C' s3 a3 w3 →
    ∃ σ5 ι5 s5,(Instr.endRound l jump).run P w3=.ok (.bool jump.isNone) (w3.putObj l (.loop (rec (if jump.isNone then .ready else .done) jump)))∧s5.S=AK U2 yb (some (.loop env (rec (if jump.isNone then .ready else .done) jump)))∧An s5.S∧AT C' σ5 ι5 s5 a3 (w3.putObj l (.loop (rec (if jump.isNone then .ready else .done) jump))):=fun jump s3 s4 U2 hg hS hc hH=>by
   obtain ⟨σ4,ι4,R4⟩:=hg _ _ hH
   have h4:s4.S yb=some (.loop env (rec .busy none)):=by rw [hS];exact AD _ _ _
   obtain ⟨q2,ι5,R5,_⟩:=R4.setLoop (rec (if jump.isNone then .ready else .done) jump) h4 (same R4 h4 rfl) (by rw [hrec])
   refine ⟨σ4,ι5,_,?_,?_,?_,R5⟩
   ·have:=run_endRound (P:=P) jump q2
    rw [hrec] at this ⊢
    exact this
   ·show AK s4.S yb _=_
    rw [hS,Eb]
   ·exact A2 hc hyb hhigh
  cases e3 with
  | normal =>
   obtain ⟨s3,⟨s4,U2,g1,g2,g3,g4,g5⟩,hH⟩:=he3
   obtain ⟨σ5,ι5,s5,f1,f2,f3,R5⟩:=fin none s3 s4 U2 g1 g2 g3 hH
   exact ⟨_,_,f1,Ew (C:=C') rfl rfl rfl (fun g=>Iff.rfl) rfl rfl R5 f3 (.inl ⟨rfl,U2,f2,g4,g5⟩)⟩
  | ret =>
   obtain ⟨s3,⟨s4,U2,g1,g2,g3,g4,g5⟩,hH⟩:=he3
   obtain ⟨σ5,ι5,s5,f1,f2,f3,R5⟩:=fin (some .ret) s3 s4 U2 g1 g2 g3 hH
   exact ⟨_,_,f1,Ew (C:=C') rfl rfl rfl (fun g=>Iff.rfl) rfl rfl R5 f3 (.inr ⟨rfl,U2,_,_,f2,g4,.ret,g5⟩)⟩
  | exit i =>
   obtain ⟨s3,⟨s4,U2,g1,g2,g3,g4,g5⟩,hH⟩:=he3
   obtain ⟨σ5,ι5,s5,f1,f2,f3,R5⟩:=fin (some (.exit i)) s3 s4 U2 g1 g2 g3 hH
   exact ⟨_,_,f1,Ew (C:=C') rfl rfl rfl (fun g=>Iff.rfl) rfl rfl R5 f3 (.inr ⟨rfl,U2,_,_,f2,g4,.exit i,g5⟩)⟩
  | panic ch=>obtain ⟨s3,v,⟨⟨s4,U2,g1,g2,g3,g4,g5⟩,_⟩,_⟩:=he3;exact g5.elim
  | _=>exact he3.elim
 | panic ch=>obtain ⟨s1,v,h1,h2⟩:=he;exact h1.1.elim
 | ret=>obtain ⟨s1,h1,h2⟩:=he;exact h1.elim
 | exit i=>obtain ⟨s1,h1,h2⟩:=he;exact h1.elim
 | _=>exact he.elim
def DB (n:Nat) (env:Nat→AV):List AV:=(List.range n).map env
theorem Kn {n:Nat} {env:Nat→AV}:(DB n env).length=n:=by simp [DB]
theorem Rs {n i:Nat} {env:Nat→AV} {a:AV} (h:(DB n env)[i]?=some a):i < n∧a=env i:=by
 unfold DB at h
 rw [List.getElem?_map,Option.map_eq_some_iff] at h
 obtain ⟨j,h1,h2⟩:=h
 obtain ⟨h3,h4⟩:=List.getElem?_eq_some_iff.1 h1
 simp at h3 h4
 subst h4
 exact ⟨h3,h2.symm⟩
theorem KA {n:Nat} {c:Code} {g:Opd} {ps:List Nat} (h:Az P n mu c=some (.rangeF g ps x y)):∃ g' ps' ca cb,c=.rangeFunc g' ps' ca cb∧AM n g'=some g∧ps'.toList=ps∧Az P n mu ca=some x∧Az P n mu cb=some y:=by
 cases c <;> simp only [Az] at h
 case rangeFunc g' ps' ca cb =>
  split at h
  ·rename_i e1 e2 e3
   split at h
   ·cases h
    exact ⟨_,_,_,_,rfl,e1,rfl,e2,e3⟩
   ·cases h
  ·cases h
 all_goals (exfalso;revert h;(repeat' split) <;> simp)
theorem TJ {U:AA} {id:Nat} {b c:Option AU}:AK (dnS (AK U (up1 id) b)) id c=AK (dnS U) id c:=by
 funext j
 unfold AK
 by_cases e:j=id
 ·rw [if_pos e,if_pos e]
 ·rw [if_neg e,if_neg e]
  show (if j + 1000=up1 id then b else U (j + 1000)).map (AU.ren dn1)=(U (j + 1000)).map (AU.ren dn1)
  rw [if_neg (show ¬ j + 1000=up1 id by unfold up1;omega)]
theorem P1 {U:AA} {i:Nat} {b:AU} (h:An (AK U i (some b))) (hU:U i=none):An U:=fun j c hc=>h j c (by
 rw [AJ _ (fun e=>by rw [e,hU] at hc;cases hc)]
 exact hc)
def Gn (n:Nat) (env:Nat→AV):Nat→AV:=fun i=>if i < n then (env i).ren up1 else .any
theorem RH {n:Nat} {env:Nat→AV}:(fun i=>((AV.rens up1 (DB n env))[i]?).getD .any)=Gn n env:=by
 funext i
 unfold Gn DB
 rw [AV.rens_eq,List.map_map,List.getElem?_map]
 by_cases h:i < n
 ·rw [if_pos h,List.getElem?_range h]
  rfl
 ·rw [if_neg h,List.getElem?_eq_none (by simp;omega)]
  rfl
theorem IWP.rangeF {g:Opd} {ps:List Nat} (htop:C.Top) (id:Nat) (hid:id < 1000) (hfree:s.S id=none) {f:Nat} {caps:List AC} (hg:s.ev g=.one (.fn f caps)) (hpl:CS P f=true) {α:Type} {encs:α→List AV} {all:List α} {Need:AA→Prop} (hit:Tz P f (AV.rens up1 (caps.map .one)) Need encs all)
  (hlen:∀ v,(encs v).length=ps.length) (Inv:List α→AA→Prop) (Jx:AX→AA→Prop) (h0:Inv [] (upS s.S)) (hneed:∀ pre U b,Inv pre U→U (up1 id)=none→Need (AK U (up1 id) (some b)))
  (hbody:∀ (C':Ctx) (b0 b1:AU) (pre:List α) (v:α) (U:AA),C'.n=C.n→(pre ++ [v]) <+: all→Inv pre U→U (up1 id)=none→An U→b1.high=true →
   IWP P C' mu x (AX.then (fun s1=>s1.S (up1 id)=some b0∧IWP P C' mu y (Qt C' (up1 id) b1 (Inv (pre ++ [v])) Jx) (s1.set (up1 id) b1)) fun _ _=>False) ⟨Kp (Gn C.n s.env) ps (encs v),AK U (up1 id) (some b0)⟩)
  (hdone:∀ U,Inv all U→Q .normal ⟨s.env,AK (dnS U) id (some (.dead 1 0))⟩) (hjump:∀ e U,Jx e U→Q e ⟨s.env,AK (dnS U) id (some (.dead 1 0))⟩):IWP P C mu (.rangeF g ps x y) Q s:=fun c hc a w hH=>by
 obtain ⟨g',ps',ca,cb,rfl,hg',rfl,hx,hy⟩:=KA hc
 obtain ⟨σ,ι,R⟩:=hH
 have rg:=R.ev hg'
 rw [hg] at rg
 replace rg:=Aa rg
 generalize hev:a.eval g'=fv at rg
 cases rg with
 | @fn _ vc _ cc g1 g2 g3 =>
 refine wpIn_rangeFunc fun fn hfn=>?_
 obtain ⟨rec,hrec⟩:∃ rec:LoopState→Option Code→Loop,rec=fun st pe=>{ state:=st,pending:=pe,fn,tmps:=a.tmps,params:=ps',assign:=ca,body:=cb,defers:=w.heap.size }:=⟨_,rfl⟩
 obtain ⟨w1,hw1⟩:∃ w1,(w.alloc (.deferred (some []))).alloc (.loop (rec .ready none))=w1:=⟨_,rfl⟩
 have hsz:(w.alloc (.deferred (some []))).heap.size=w.heap.size + 1:=World.size_alloc _ _
 have R1:AT C σ ι s { a with defers:=OJ w.heap.size :: a.defers } (w.alloc (.deferred (some []))):=by
  have R':=R.more (w':=w.alloc (.deferred (some []))) (Ext.refl _ _) (R.fit.alloc _) (D5.alloc _ _)
  refine { R' with nod:=?_ }
  obtain ⟨l,h1,h2,h3,_⟩:=R.nod
  refine ⟨w.heap.size :: l,by show _ :: a.defers=_;rw [h1];rfl,List.nodup_cons.2 ⟨fun hm=>?_,h2⟩,fun D hD=>?_,fun hm=>by rw [htop.2] at hm;cases hm⟩
  ·have:=(Array.getElem?_eq_some_iff.1 (h3 _ hm).2).1
   omega
  ·rcases List.mem_cons.1 hD with rfl | hD
   ·exact ⟨R.grown.1,World.alloc_heap_new w _⟩
   ·exact ⟨(h3 D hD).1,(Below.heap_alloc _ _ _ (Array.getElem?_eq_some_iff.1 (h3 D hD).2).1).trans (h3 D hD).2⟩
 have hsize:=R.size
 obtain ⟨hu2,R2⟩:=R1.fresh (w':=w1) hfree (.loop (DB C.n s.env) (rec .ready none)) ⟨none,0,some (w.heap.size + 1)⟩ (Ext.refl _ _) (by rw [← hw1];exact R1.fit.alloc _) (by rw [← hw1];exact D5.alloc _ _) (fun g hg=>by cases hg;omega) (fun S' ι' hu=>.loop (g:=w.heap.size + 1) rfl (by rw [← hw1,← hsz];exact World.alloc_heap_new _ _) (by rw [Kn,hrec];exact hsize) (fun j b hb=>by
   obtain ⟨hj,rfl⟩:=Rs hb
   rw [hrec]
   exact (R.env j hj).mono (fun _ _ h=>h) hu) (fun p hp=>R1.fit.no (by rw [hsz];omega)))
 have hl2:(AK ι id (⟨none,0,some (w.heap.size + 1)⟩:Hnd) id).g=some (w.heap.size + 1):=by rw [AD]
 generalize AK ι id (⟨none,0,some (w.heap.size + 1)⟩:Hnd)=ι2 at R2 hl2 hu2
 obtain ⟨ι3,hι3,hown,hren,hend⟩:=R2.upped
 have hargs:Af (AN σ (upS (s.set id (.loop (DB C.n s.env) (rec .ready none))).S) ι3) (.func (.yield (w.heap.size + 1)) #[] #[] :: vc.toList) (.one (.yld (up1 id)) :: AV.rens up1 (caps.map .one)):=by
  have hS2:(s.set id (.loop (DB C.n s.env) (rec .ready none))).S id=some (.loop (DB C.n s.env) (rec .ready none)):=AD _ _ _
  refine .cons (hren _ _ (.one (.yld hS2 (Nat.le_refl _) rfl fun _=>⟨_,hl2,rfl⟩))) ?_
  rw [AV.rens_eq]
  refine (Af.mono (fun v c h=>hren v c h) ?_).map_right
  refine (Af.of_get (R:=fun v c=>AN σ (s.set id (.loop (DB C.n s.env) (rec .ready none))).S ι2 v (.one c)) (by simpa using g1) fun j v b hv hb=>?_).map_right
  have e:=g2 j b hb
  have e2:vc.toList[j]?=some (cc j):=by simpa using e
  rw [hv] at e2
  cases e2
  exact .one ((g3 j b hb).mono (fun _ _ h=>h) hu2)
 have hcl:=Ee (s.set id (.loop (DB C.n s.env) (rec .ready none))).S
 have hTeq:upS (s.set id (.loop (DB C.n s.env) (rec .ready none))).S=AK (upS s.S) (up1 id) (some (.loop (AV.rens up1 (DB C.n s.env)) (rec .ready none))):=S5 _ _ _
 have hcall:=hit (up1 id) (fun pre T=>∃ U,T=AK U (up1 id) (some (.loop (AV.rens up1 (DB C.n s.env)) (rec .ready none)))∧U (up1 id)=none∧Inv pre U)
  (fun T=>∃ U c e,T=AK U (up1 id) (some (.loop (AV.rens up1 (DB C.n s.env)) (rec .done (some c))))∧U (up1 id)=none∧Sw c e∧Jx e U)
  _ (AL id) (fun pre T hT=>by
   obtain ⟨U,rfl,hU,hI⟩:=hT
   exact hneed pre U _ hI hU) (fun pre v hpre T hT=>by
   obtain ⟨U,rfl,hU,hI⟩:=hT
   exact Qy hx hy (by rw [AV.rens_eq,List.length_map,Kn]) (AL id) hrec (by rw [hlen];simp) hU fun hc C' hC'=>by
    rw [RH]
    exact hbody C' _ (.loop (AV.rens up1 (DB C.n s.env)) (rec .busy none)) pre v U hC' hpre hI hU (P1 hc hU) (AV.rens_high _))
  ⟨_,hTeq,by rw [C5,hfree];rfl,h0⟩ hcl σ w1 _ ι3 (C.glob.mono R.ext) R2.fit hown hargs
 refine ⟨w.heap.size + 1,[OJ w.heap.size],w1,{ target:=.fn (.func f) vc,args:=#[.func (.yield (w.heap.size + 1)) #[] #[]] },w1,f,#[.func (.yield (w.heap.size + 1)) #[] #[]] ++ vc,w1,?_,?_,fun _ _=>trivial,?_,fun h=>by simp [fen,Fence.wide] at h,?_⟩
 ·have hr:(fen C.ro).round=none:=htop.1
  rw [hr,← hw1,hrec]
  exact run_enterLoop_outer _ _ _ _ _
 ·simp only [resolve,hev]
  simp [go_sem]
 ·have:=Ct (P:=P) (w:=w1) (args:=#[.func (.yield (w.heap.size + 1)) #[] #[]] ++ vc) hpl
  simp [invoke,go_sem,this]
 ·have he0:(Value.func (.yield (w.heap.size + 1)) #[] #[] :: vc.toList).toArray=#[.func (.yield (w.heap.size + 1)) #[] #[]] ++ vc:=by
   apply Array.ext'
   simp
  rw [he0] at hcall
  refine H5 (hcall.mono fun e w2 he=>?_)
  obtain ⟨v,r,S',σ',ι4,rfl,hP,hS',hu4,R4⟩:=hend he
  have hl4:∀ {b:AU},dnS S' id=some b→b.len=1→(ι4 id).g=some (w.heap.size + 1):=fun hb hb1=>by
   obtain ⟨b',h1,h2,h3⟩:=hu4 id _ (show (s.set id (.loop (DB C.n s.env) (rec .ready none))).S id=some _ from AD _ _ _)
   rw [hb] at h1
   cases h1
   rw [(h3 hb1).2]
   exact hl2
  have fin:∀ (U:AA) (env:List AV) (st:LoopState) (pe:Option Code),st ≠ .busy→S'=AK U (up1 id) (some (.loop env (rec st pe)))→∃ w3,(Instr.endLoop (w.heap.size + 1)).run P w2=.ok pe w3∧Ax C ⟨s.env,AK (dnS U) id (some (.dead 1 0))⟩ { a with defers:=OJ w.heap.size :: a.defers } w3:=fun U env st pe hst hS=>by
   have hb:dnS S' id=some (.loop (AV.rens dn1 env) (rec st pe)):=by
    have:=Fq (AL id) (show S' (up1 id)=some (.loop env (rec st pe)) by rw [hS];exact AD _ _ _)
    rw [DF] at this
    exact this
   have hg4:=hl4 hb rfl
   cases hbr:R4.blk id _ hb with
   | loop k1 k2 k3 k4 k5 =>
    rw [hg4] at k1
    cases k1
    obtain ⟨ι5,R5,_⟩:=R4.setBlk (b':=.dead 1 0) (o':=.loop { rec st pe with state:=.exhausted }) hb hg4 k2 k5 rfl rfl fun S'' ι'' hu=>.dead fun g' hg'=>by
     rw [hg4] at hg'
     cases hg'
     exact ⟨_,(DV k2).1,rfl⟩
    refine ⟨w2.putObj (w.heap.size + 1) (.loop { rec st pe with state:=.exhausted }),?_,σ',ι5,?_⟩
    ·have:=run_endLoop (P:=P) k2 (by rw [hrec];exact hst)
     rw [hrec] at this ⊢
     exact this
    ·have e5:(AS.set ⟨(s.set id (.loop (DB C.n s.env) (rec .ready none))).env,dnS S'⟩ id (.dead 1 0))=⟨s.env,AK (dnS U) id (some (.dead 1 0))⟩:=by
      show AS.mk s.env (AK (dnS S') id _)=_
      rw [hS,TJ]
     rw [← e5]
     exact R5
  rcases hP with ⟨U,h1,h2,h3⟩ | ⟨U,c,e,h1,h2,h3,h4⟩
  ·obtain ⟨w3,f1,f2⟩:=fin U _ .ready none (by simp) h1
   exact ⟨none,w3,f1,_,hdone U h3,f2⟩
  ·obtain ⟨w3,f1,f2⟩:=fin U _ .done (some c) (by simp) h1
   refine ⟨some c,w3,f1,?_⟩
   cases h3 with
   | ret=>exact wpIn_ret ⟨_,hjump _ U h4,f2⟩
   | exit i=>exact wpIn_exit ⟨_,hjump _ U h4,f2⟩
end

def Be:IR :=
 (.seq (.ops [.l 4 1,.i 5 (.len false (.t 4)),.i 6 (.bin .sub (.t 5) (.n 1)),.m 3 6]) (.block 0 (.loop (.seq (.seq (.ops [.m 7 3,.i 8 (.bin .geq (.t 7) (.n 0))]) (.cond (.t 8) .skip (.exit 0))) (.seq (.block 1 (.seq (.ops [.m 11 0,.m 12 3,.l 13 1,.m 14 3,.i 15 (.indexAddr 1 (.t 13) (.t 14)),.l 16 15,.i 17 (.callY (.t 11) [.t 12,.t 16]),.i 18 (.un .not (.t 17))]) (.cond (.t 18) .ret .skip))) (.ops [.m 9 3,.i 10 (.bin .sub (.t 9) (.n 1)),.m 3 10]))))))
theorem Cr:OkF Tryz.prog 96 19 [70000017] Be []:=.of Tryz.func96 rfl rfl (by kernel_rfl) rfl
def Bq:IR :=
 (.seq (.ops [.i 1 (.box 65 (.t 0)),.i 2 (.mov (.c (.one (.st (.lit .nilFunc)))))]) (.seq (.ops [.i 3 (.makeFunc 96 [.t 1]),.m 2 3]) .ret))
theorem C0:OkF Tryz.prog 82 4 [] Bq [.t 2]:=.of Tryz.func82 rfl rfl (by kernel_rfl) rfl

theorem Am.freeze {C:Ctx} {s:AS} (id:Nat) (ts:List Nat) {ty:TypeId} {xs:List SV} (hS:s.S id=some (.box ty (xs.map .st))) (hl:0 < xs.length) (ht:∀ t ∈ ts,s.env t=.one (.ptr id 1 0 0)) :
  Am C s ⟨fun t=>if t ∈ ts then .one (.eptr xs) else s.env t,AK s.S id (some (.dead 1 0))⟩:=fun a w ⟨σ,ι,R⟩=>by
 have hb:=R.blk _ _ hS
 cases hb with
 | @box _ _ g vs h1 h2 h3 h4 h5 =>
  have hkeep:=Ft (σ:=σ) (w':=w) (g:=g) (k:=xs.length) (fun p x e hx=>by rw [h5 _ e] at hx;cases hx)
  obtain ⟨hu,R'⟩:=R.turn (w':=w) hS (.dead 1 0) (ι id) (σ':=D3 σ w g xs.length) hkeep (fun p hp _=>Fb (fun e=>hp (by rw [e];exact h1))) (EW R.fit) (Nat.le_refl _) (fun _=>⟨rfl,rfl⟩) ⟨rfl,rfl,rfl⟩ (Nat.le_refl _) (fun _ _ _=>rfl) (fun g h=>.inl h)
   (fun hu=>.dead fun g' hg'=>by rw [h1] at hg';cases hg';exact ⟨_,h3,rfl⟩)
  refine ⟨_,_,R'.size,fun i hi=>?_,R'.nod,R'.fit,R'.blk,R'.inj,R'.base,R'.ext,R'.old,R'.os,R'.grown,R'.same,R'.upd⟩
  show AN _ _ _ _ (if i ∈ ts then .one (.eptr xs) else s.env i)
  split
  ·rename_i hm
   have re:=R.env i hi
   rw [ht i hm] at re
   obtain ⟨b,q1,q2,q3⟩:=Eg (Aa re)
   rw [hS] at q1
   cases q1
   obtain ⟨g',e1,e2⟩:=q3 rfl
   rw [h1] at e1
   cases e1
   rw [e2]
   have cell:∀ j x,xs[j]?=some x→∃ v,vs[j]?=some v∧A0 σ v x:=fun j x hx=>by
    obtain ⟨v,v1,v2⟩:=h4.get (j:=j) (b:=.st x) (by rw [List.getElem?_map,hx];rfl)
    exact ⟨v,by simpa using v1,B0 v2⟩
   refine .one (.eptr (fun j=>(vs[j]?).getD undef) (fun j x hx=>?_) (fun j x hx=>?_) (fun _ _=>?_))
   ·obtain ⟨v,v1,v2⟩:=cell j x hx
    have hj:=(List.getElem?_eq_some_iff.1 hx).1
    rw [show (0 * (AU.box ty (xs.map AC.st)).wid + 0 + j)=j by omega,MB hj,cell_of_row w g _ _ _ _ h3,v1]
    rfl
   ·obtain ⟨v,v1,v2⟩:=cell j x hx
    rw [v1]
    exact v2.mono hkeep
   ·rw [HV hl,F4 h3]
  ·exact R'.env i hi

def DP (n k:Nat):List Nat:=(List.range' k (n - k)).reverse
theorem OB (n:Nat):DP n n=[]:=by simp [DP]
theorem Fc {n k:Nat} (h:k + 1≤n):DP n (k + 1) ++ [k]=DP n k:=by
 unfold DP
 rw [show n - k=(n - (k + 1)) + 1 by omega,List.range'_succ]
 simp
theorem N0 {n k:Nat} (h:k≤n):DP n k <+: DP n 0:=by
 induction k with
 | zero=>exact List.prefix_refl _
 | succ k ih=>exact List.IsPrefix.trans ⟨[k],Fc h⟩ (ih (by omega))
theorem Nu (xs:List ByteArray) (hl:xs.length≤9223372036854775807) (b id:Nat) (ty e:TypeId) (hb:1000≤b) (hid:1000≤id):Tz Tryz.prog 96 [.one (.ptr b 1 0 0)] (fun T=>T b=some (.box ty [.row id xs.length])∧T id=some (.mrow e 1 (xs.map Cw))) (fun i:Nat=>[Ad i,CM (xs.getD i .empty)]) (DP xs.length 0):=by
 intro y Inv Jx T0 hy hneed hround h0
 refine Cr.acR fun hclean C hC htop=>?_
 unfold Be
 obtain ⟨n1,n2⟩:=hneed _ _ h0
 have hll:(xs.map Cw).length=xs.length:=by simp
 repeat' with_reducible first | refine W ?_ | refine Z0 ?_ | ((first | refine Wo fun K hK=>?_ | refine Wq ?_ | refine Wr ?_);(try simp only [go_sem,fN,seval,eT,iR,AS.startS,n1,n2,hll]);(repeat refine Ai ?_);(try (refine hK _ ?_;clear hK K)))
 refine IWP.loop (fun m s=>∃ k T,k≤xs.length∧m=k∧s.env 0=.one (.yld y)∧s.env 1=.one (.ptr b 1 0 0)∧s.env 3=Ad ((k:Int) - 1)∧(∀ i,1000≤i→s.S i=T i)∧An T∧Inv (DP xs.length k) T) xs.length ⟨xs.length,T0,Nat.le_refl _,rfl,rfl,rfl,rfl,fun i _=>rfl,hclean,by rw [OB];exact h0⟩ ?_
 rintro m ⟨env,S⟩ ⟨k,T,hk,rfl,e0,e1,e3,hST,hT,hI⟩
 simp only at e0 e1 e3 hST
 obtain ⟨m1,m2⟩:=hneed _ _ hI
 rw [← hST b hb] at m1
 rw [← hST id hid] at m2
 repeat' with_reducible first | refine W ?_ | refine Z0 ?_ | ((first | refine Wo fun K hK=>?_ | refine Wp ?_ | refine Wq ?_ | refine Wr ?_);(try simp only [go_sem,fN,seval,eT,iR,e0,e1,e3,dT,dF,nL]);(repeat refine Ai ?_);(try (refine hK _ ?_;clear hK K));try refine iC ?_)
 refine ⟨fun hlt=>?_,fun hge=>?_⟩
 ·obtain ⟨k,rfl⟩:∃ k,m=k + 1:=⟨m - 1,by omega⟩
  obtain ⟨x,hx⟩:=Bk (show k < xs.length by omega)
  have e3':env 3=Ad k:=by rw [e3];congr 3;omega
  have hd:xs.getD k .empty=x:=by simp [List.getD,hx]
  have hy':=hround (DP xs.length (k + 1)) k (by rw [Fc hk];exact N0 (by omega)) T hI
  simp only [hd,Fc hk] at hy'
  repeat' with_reducible first | refine W ?_ | refine Z0 ?_ | ((first | refine Wo fun K hK=>?_ | refine Wp ?_ | refine Wq ?_ | refine Wr ?_);(try simp only [go_sem,fN,seval,eT,iR,e0,e1,e3',hx,Cw,m1,m2,hll,dT,dF,nL]);(repeat refine Ai ?_);(try (refine hK _ ?_;clear hK K));try refine iC ?_)
  refine OW.mk T _ hT hST (by
   show ((AC.yld y).high && true)=true
   rw [MV hy]
   rfl) hy' ?_
  rintro r S' hS' (⟨rfl,hI'⟩ | ⟨rfl,hJ⟩)
  ·repeat' with_reducible first | refine W ?_ | refine Z0 ?_ | ((first | refine Wo fun K hK=>?_ | refine Wp ?_ | refine Wq ?_ | refine Wr ?_);(try simp only [go_sem,fN,seval,eT,iR,e0,e1,e3',dT,dF,nL]);(repeat refine Ai ?_);(try (refine hK _ ?_;clear hK K));try refine iC ?_)
   exact ⟨k,Nat.lt_succ_self k,k,S',by omega,rfl,e0,e1,rfl,fun i hi=>CC hi,hS',hI'⟩
  ·repeat' with_reducible first | refine W ?_ | refine Z0 ?_ | ((first | refine Wo fun K hK=>?_ | refine Wp ?_ | refine Wq ?_ | refine Wr ?_);(try simp only [go_sem,fN,seval,eT,iR,e0,e1,e3',dT,dF,nL]);(repeat refine Ai ?_);(try (refine hK _ ?_;clear hK K));try refine iC ?_)
   exact ⟨.tup [],S',.inr hJ,CL (.tup []) hS' trivial rfl rfl fun i hi=>CC hi⟩
 ·repeat' with_reducible first | refine W ?_ | refine Z0 ?_ | ((first | refine Wo fun K hK=>?_ | refine Wp ?_ | refine Wq ?_ | refine Wr ?_);(try simp only [go_sem,fN,seval,eT,iR,dT,dF,nL]);(repeat refine Ai ?_);(try (refine hK _ ?_;clear hK K));try refine iC ?_)
  have hm:m=0:=by omega
  subst hm
  exact ⟨.tup [],T,.inl hI,CL (.tup []) hT trivial rfl rfl hST⟩
theorem Ns (S:AA) (a0 id n:Nat) (ha:1000≤a0) (hid:1000≤id) (hSa:S a0=none):Ay Tryz.prog 82 [.one (.row id n)] S (.one (.fn 96 [.ptr a0 1 0 0])) (AK S a0 (some (.box 65 [.row id n]))):=by
 refine C0.acS fun hS C hC=>?_
 unfold Bq
 have s1:S 1=none:=AY hS (by omega)
 have hh:AC.highs [.row id n]=true:=by rw [AC.highs,B8 hid];rfl
 repeat' with_reducible first | refine W ?_ | refine Z0 ?_ | ((first | refine Wo fun K hK=>?_ | refine Wq ?_ | refine Wr ?_);(try simp only [go_sem,fN,seval,eT,iR,AS.startS,AS.caps,s1]);(repeat refine Ai ?_);(try (refine hK _ ?_;clear hK K)))
 refine (show AC.fn 96 [.ptr a0 1 0 0]=(AC.fn 96 [.ptr 1 1 0 0]).ren (Bb 1 a0) from rfl) ▸ Kz trivial 1 a0 (.one (.fn 96 [.ptr 1 1 0 0])) (b0:=.box 65 [.row id n]) (by omega) ha ?_ ?_ ?_ ?_ ?_ ?_ ?_ ?_
 ·show AK S 1 _ a0=none
  rw [AJ _ (by omega)]
  exact hSa
 ·rfl
 ·exact hh
 ·intro i b hi hb
  change AK S 1 _ i=some b at hb
  rw [AJ _ (by omega)] at hb
  exact (hS i b hb).2
 ·rfl
 ·show AC.highs [.ptr a0 1 0 0]=true
  rw [AC.highs,Jq ha]
  rfl
 ·have e:∀ c,Dd (AK S 1 c)=S:=fun c=>by
   funext i
   unfold Dd
   by_cases hi:i < 1000
   ·rw [if_pos hi,AY hS hi]
   ·rw [if_neg hi,AJ _ (by omega)]
  show AK (Dd (AK S 1 _)) a0 _=_
  rw [e]
 ·exact A2 hS ha hh

theorem Bc.cutM {σ:Sto} {S:AA} {ι:As} {w:World} {h:Hnd} {e:TypeId} {wd:Nat} {xs:List (List SV)} (hr:Bc σ S ι w h (.mrow e wd xs)) (k:Nat) {S':AA} {ι':As}:Bc σ S' ι' w h (.mrow e wd (xs.take k)):=by
 cases hr with
 | mnil h1 h2=>rw [List.take_nil];exact .mnil h1 h2
 | mrow h1 h2 h3 h4 h5 h6 h7 h8 h9 =>
  refine .mrow h1 h2 h3 (by rw [List.length_take];omega) h5 h6 (fun x hx=>h7 x (List.mem_of_mem_take hx)) (fun j x i a hx ha=>h8 j x i a ?_ ha) h9
  rw [List.getElem?_take] at hx
  split at hx
  ·exact hx
  ·cases hx
theorem Am.rebase {C:Ctx} {s:AS} (bx id nid j k N:Nat) {ty e:TypeId} {wd:Nat} {xs:List (List SV)} {cs:List AC} (hN:xs.length < N) (hb:s.S bx=some (.box ty cs)) (hid:s.S id=some (.mrow e wd xs)) (hn:s.S nid=none) (hc:cs[j]?=some (.part id k xs.length) ∨ (cs[j]?=some (.row id k)∧k=xs.length)) :
  Am C s ⟨s.env,AK (AK (AK s.S id (some (.dead N wd))) nid (some (.mrow e wd (xs.take k)))) bx (some (.box ty (cs.set j (.row nid k))))⟩:=fun a w ⟨σ,ι,R⟩=>by
 have hjl:j < cs.length:=by rcases hc with h | ⟨h,_⟩ <;> exact (List.getElem?_eq_some_iff.1 h).1
 have n1:nid ≠ id:=fun e=>by subst e;rw [hid] at hn;cases hn
 have n2:bx ≠ id:=fun e=>by subst e;rw [hid] at hb;cases hb
 have n3:bx ≠ nid:=fun e=>by subst e;rw [hb] at hn;cases hn
 obtain ⟨S2,hS2⟩:∃ S2,AK (AK (AK s.S id (some (.dead N wd))) nid (some (.mrow e wd (xs.take k)))) bx (some (.box ty (cs.set j (.row nid k))))=S2:=⟨_,rfl⟩
 obtain ⟨ι2,hι2⟩:∃ ι2:As,AK (AK ι id ⟨none,0,none⟩) nid (ι id)=ι2:=⟨_,rfl⟩
 rw [hS2]
 have sb:S2 bx=some (.box ty (cs.set j (.row nid k))):=by rw [← hS2,AD]
 have sn:S2 nid=some (.mrow e wd (xs.take k)):=by rw [← hS2,AJ _ n3.symm,AD]
 have si:S2 id=some (.dead N wd):=by rw [← hS2,AJ _ n2.symm,AJ _ n1.symm,AD]
 have so:∀ i,i ≠ bx→i ≠ nid→i ≠ id→S2 i=s.S i:=fun i h1 h2 h3=>by rw [← hS2,AJ _ h1,AJ _ h2,AJ _ h3]
 have ιn:ι2 nid=ι id:=by rw [← hι2,AD]
 have ιi:ι2 id=⟨none,0,none⟩:=by rw [← hι2,AJ _ n1.symm,AD]
 have ιo:∀ i,i ≠ nid→i ≠ id→ι2 i=ι i:=fun i h2 h3=>by rw [← hι2,AJ _ h2,AJ _ h3]
 have hu:Upd s.S ι S2 ι2:=fun i b h=>by
  by_cases e1:i=bx
  ·subst e1
   rw [hb] at h
   cases h
   exact ⟨_,sb,Nat.le_refl _,fun _=>⟨rfl,ιo _ n3 n2⟩⟩
  ·by_cases e2:i=id
   ·subst e2
    rw [hid] at h
    cases h
    exact ⟨_,si,Nat.le_of_lt hN,fun hl=>absurd (show N=xs.length from hl) (by omega)⟩
   ·have e3:i ≠ nid:=fun e3=>by subst e3;rw [hn] at h;cases h
    exact ⟨b,(so i e1 e3 e2).trans h,Nat.le_refl _,fun _=>⟨rfl,ιo i e3 e2⟩⟩
 have old:∀ i b,S2 i=some b→∀ g,(ι2 i).g=some g→∃ i' b',s.S i'=some b'∧(ι i').g=some g∧(i=nid∧i'=id ∨ i'=i∧i ≠ nid∧i ≠ id):=fun i b h g hg=>by
  by_cases e2:i=id
  ·subst e2
   rw [ιi] at hg
   cases hg
  ·by_cases e3:i=nid
   ·subst e3
    rw [ιn] at hg
    exact ⟨id,_,hid,hg,.inl ⟨rfl,rfl⟩⟩
   ·rw [ιo i e3 e2] at hg
    by_cases e1:i=bx
    ·subst e1
     exact ⟨_,_,hb,hg,.inr ⟨rfl,e3,e2⟩⟩
    ·exact ⟨i,b,(so i e1 e3 e2).symm.trans h,hg,.inr ⟨rfl,e3,e2⟩⟩
 refine ⟨σ,ι2,R.size,fun i hi=>(R.env i hi).mono (fun _ _ h=>h) hu,R.nod,R.fit,fun i b h=>?_,fun i i' b b' g h1 h2 g1 g2=>?_,fun i b g h hg=>?_,R.ext,R.old,R.os,R.grown,R.same,R.upd.trans hu⟩
 ·change S2 i=some b at h
  by_cases e1:i=bx
  ·subst e1
   rw [sb] at h
   cases h
   rw [ιo _ n3 n2]
   cases R.blk _ _ hb with
   | box h1 h2 h3 h4 h5 =>
    refine .box h1 h2 h3 (Af.of_get (by rw [List.length_set];exact h4.len) fun jj v c hv hcj=>?_) h5
    obtain ⟨c0,hc0⟩:∃ c0,cs[jj]?=some c0:=by
     have:=(List.getElem?_eq_some_iff.1 hcj).1
     rw [List.length_set] at this
     exact ⟨_,List.getElem?_eq_getElem this⟩
    obtain ⟨v',hv',hr⟩:=h4.get hc0
    rw [hv] at hv'
    cases hv'
    by_cases ej:jj=j
    ·subst ej
     rw [List.getElem?_set_self hjl] at hcj
     cases hcj
     rcases hc with hc | ⟨hc,hk⟩
     ·rw [hc] at hc0
      cases hc0
      cases hr with
      | part q1 q2 q3 q4 =>
       rw [hid] at q1
       cases q1
       obtain ⟨q5,q6⟩:=q4 rfl
       refine .row sn (by show k≤(xs.take k).length;rw [List.length_take];omega) q3 fun _=>?_
       rw [ιn]
       exact q6
     ·rw [hc] at hc0
      cases hc0
      cases hr with
      | row q1 q2 q3 q4 =>
       rw [hid] at q1
       cases q1
       refine .row sn (by show k≤(xs.take k).length;rw [List.length_take];omega) q3 fun _=>?_
       rw [ιn]
       exact q4 hk
    ·rw [List.getElem?_set_ne (fun h=>ej h.symm),hc0] at hcj
     cases hcj
     exact hr.mono (fun _ _ h=>h) hu
  ·by_cases e2:i=id
   ·subst e2
    rw [si] at h
    cases h
    rw [ιi]
    exact .dead fun g hg=>by cases hg
   ·by_cases e3:i=nid
    ·subst e3
     rw [sn] at h
     cases h
     rw [ιn]
     exact (R.blk _ _ hid).cutM k
    ·rw [ιo i e3 e2]
     exact (R.blk i b ((so i e1 e3 e2).symm.trans h)).mono (fun _ _ h=>h) hu (fun _ _=>rfl) (fun _ _ _ _=>rfl)
 ·obtain ⟨j1,c1,k1,k2,k3⟩:=old i b h1 g g1
  obtain ⟨j2,c2,l1,l2,l3⟩:=old i' b' h2 g g2
  have:=R.inj _ _ _ _ g k1 l1 k2 l2
  rcases k3 with ⟨a1,a2⟩ | ⟨a1,a2,a3⟩ <;> rcases l3 with ⟨b1,b2⟩ | ⟨b1,b2,b3⟩
  ·rw [a1,b1]
  ·exact absurd (by rw [← b1,← this,a2]:i'=id) b3
  ·exact absurd (by rw [← a1,this,b2]:i=id) a3
  ·rw [← a1,← b1,this]
 ·obtain ⟨j1,c1,k1,k2,_⟩:=old i b h g hg
  exact R.base _ _ g k1 k2
theorem Am.bury {C:Ctx} {s:AS} (id N wd:Nat) {b:AU} (hS:s.S id=some b) (hb:match b with | .mrow _ w xs=>xs.length < N∧w=wd | .dead n w=>n≤N∧w=wd | _=>False):Am C s (s.set id (.dead N wd)):=fun a w ⟨σ,ι,R⟩=>by
 have hr:=R.blk _ _ hS
 have hlen:b.len≤N:=by
  cases b <;> first | exact hb.elim | exact Nat.le_of_lt hb.1 | exact hb.1
 have hwid:b.wid=wd:=by
  cases b <;> first | exact hb.elim | exact hb.2
 obtain ⟨hu,R'⟩:=R.turn (w':=w) hS (.dead N wd) (ι id) (σ':=σ) (fun _ _ h=>h) (fun _ _ _=>rfl) R.fit hlen (fun _=>⟨hwid.symm,rfl⟩) ⟨rfl,rfl,rfl⟩ (Nat.le_refl _) (fun _ _ _=>rfl) (fun g h=>.inl h)
  (fun hu=>.dead fun g' hg'=>hr.own hg')
 exact ⟨σ,_,R'⟩

end Go.Proofs.YtignopbnnaimaaaGreatDoor
