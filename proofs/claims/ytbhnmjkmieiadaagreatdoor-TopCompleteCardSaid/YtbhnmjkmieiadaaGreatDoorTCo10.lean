/-
  Part 10 of the texts. Conditions: none.
-/
import Derived.Test.YtbhnmjkmieiadaaGreatDoorTCo9
import Derived.Lib.AppendIntMem
import Derived.Lib.ItoaLen
import Derived.Lib.ItoaMem
namespace Go.Proofs.YtbhnmjkmieiadaaGreatDoor
open Go
set_option linter.unusedVariables false
set_option linter.unusedSimpArgs false
def RW:Nat→List Bd→List Pr→Option (List Bd × Int)
 | 0,_,_=>none
 | f + 1,s,[]=>some (s,0)
 | f + 1,s,p :: l=>match CU s p with
  | .err e=>some ([],e)
  | .go s' ps=>RW f s' (ps ++ l)
theorem LN:∀ {f:Nat} {s:List Bd} {l:List Pr} {r:List Bd × Int},RW f s l=some r→∃ n,C3 n s l r
 | 0,_,_,_,h=>by cases h
 | f + 1,s,[],r,h=>by
  cases h
  exact ⟨0,.nil⟩
 | f + 1,s,p :: l,r,h=>by
  unfold RW at h
  split at h
  ·rename_i e he
   cases h
   exact ⟨1,.err he⟩
  ·rename_i s' ps he
   obtain ⟨n,hn⟩:=LN h
   exact ⟨n + 1,.go he hn⟩
def I8 (f:Nat) (a b:Pr) (same:Bool) (p:List Int):Option (Option (List Pr)):=match a.1.atP p with
 | none=>some (some [])
 | some x=>if AP x.name=true ∨ (same=true∧p=[]) then some (some [])
  else match RW f [] [(x,b.1)] with
   | none=>none
   | some r=>if r.2=8 then some none
    else if r.2 ≠ 0 then some (some [])
    else if (BD r.1 a.2).2=true∧(BD r.1 (a.1.putP p b.2)).2=true then some (some [DF (BD r.1 a.2).1 (BD r.1 (a.1.putP p b.2)).1])
    else some none
theorem QZ {f:Nat} {a b:Pr} {same:Bool} {p:List Int} {r:Option (List Pr)} (h:I8 f a b same p=some r):DA a b same p=r:=by
 unfold I8 at h
 unfold DA
 split at h
 ·rename_i e;rw [e];simpa using h
 ·rename_i x e
  rw [e]
  simp only
  by_cases h1:AP x.name=true ∨ (same=true∧p=[])
  ·rw [if_pos h1] at h ⊢
   simpa using h
  ·rw [if_neg h1] at h ⊢
   cases hs:RW f [] [(x,b.1)] with
   | none=>rw [hs] at h;cases h
   | some q =>
    rw [hs] at h
    obtain ⟨n,hn⟩:=LN hs
    rw [PO hn]
    simp only at h
    split at h
    ·rename_i h2;rw [if_pos h2];simpa using h
    ·rename_i h2
     rw [if_neg h2]
     split at h
     ·rename_i h3;rw [if_pos h3];simpa using h
     ·rename_i h3
      rw [if_neg h3]
      split at h
      ·rename_i h4;rw [if_pos h4];simpa using h
      ·rename_i h4;rw [if_neg h4];simpa using h
def PS (f:Nat) (a b:Pr) (same:Bool):List (List Int)→Option (Option (List Pr))
 | []=>some (some [])
 | p :: ps=>match I8 f a b same p with
  | none=>none
  | some none=>some none
  | some (some x)=>(PS f a b same ps).map fun r=>r.map (x ++ ·)
def Qz (f:Nat) (a b:Pr) (same:Bool):Option (Option (List Pr)):=PS f a b same a.1.places
theorem NU {f:Nat} {a b:Pr} {same:Bool}:∀ {ps:List (List Int)} {r:Option (List Pr)},PS f a b same ps=some r→Ej a b same ps=r
 | [],r,h=>by
  cases h
  rfl
 | p :: ps,r,h=>by
  unfold PS at h
  unfold Ej
  cases h1:I8 f a b same p with
  | none=>rw [h1] at h;cases h
  | some o =>
   rw [h1] at h
   rw [QZ h1]
   cases o with
   | none=>simpa using h
   | some x =>
    simp only [Option.map_eq_some_iff] at h
    obtain ⟨q,hq,rfl⟩:=h
    rw [NU hq]
theorem D6 {f:Nat} {a b:Pr} {same:Bool} {r:Option (List Pr)} (h:Qz f a b same=some r):VK a b same=r:=NU h
def Ur (P:Tm→Tm→Bool):List Tm→List Tm→Bool
 | x :: xs,y :: ys=>if x.beq y=true then Ur P xs ys else P x y && decide (xs.length=ys.length)
 | _,_=>false
def paF (row:List ByteArray):Nat→Tm→Tm→Bool
 | 0,_,_=>false
 | f + 1,a,b=>!AP a.name && (a.args.any (fun x=>x.beq b || paF row f x b) || (!AP b.name && !decide (Ey row a b < 0) && (decide (0 < Ey row a b) || Ur (paF row f) a.args b.args) && b.args.all fun y=>paF row f a y))
theorem RY {P:Tm→Tm→Bool} {R:Tm→Tm→Prop}:∀ {xs ys:List Tm},(∀ x ∈ xs,∀ y ∈ ys,P x y=true ↔ R x y)→(Ur P xs ys=true ↔ Lex R xs ys)
 | [],ys,_=>by
  simp only [Ur,Bool.false_eq_true,false_iff]
  intro h
  cases h
 | x :: xs,[],_=>by
  simp only [Ur,Bool.false_eq_true,false_iff]
  intro h
  cases h
 | x :: xs,y :: ys,h=>by
  rw [Ur]
  by_cases e:x.beq y=true
  ·rw [if_pos e]
   have e':=(Tm.beq_iff _ _).1 e
   subst e'
   rw [RY fun a ha b hb=>h a (by simp [ha]) b (by simp [hb])]
   constructor
   ·exact fun k=>.on k
   ·intro k
    cases k with
    | here hne _ _=>exact absurd rfl hne
    | on k=>exact k
  ·rw [if_neg e,Bool.and_eq_true,decide_eq_true_eq,h x (by simp) y (by simp)]
   have hne:x ≠ y:=fun q=>e ((Tm.beq_iff _ _).2 q)
   constructor
   ·rintro ⟨k1,k2⟩
    exact .here hne k1 k2
   ·intro k
    cases k with
    | here _ k1 k2=>exact ⟨k1,k2⟩
    | on k=>exact absurd rfl hne
theorem K3 {row:List ByteArray}:∀ (f:Nat) (a b:Tm),a.size + b.size < f→(paF row f a b=true ↔ Pa row a b)
 | 0,a,b,h=>absurd h (Nat.not_lt_zero _)
 | f + 1,a,b,h=>by
  have sa:∀ x ∈ a.args,x.size < a.size:=fun x hx=>by have:=Tm.size_mem hx;have:=Tm.size_eq a;omega
  have sb:∀ x ∈ b.args,x.size < b.size:=fun x hx=>by have:=Tm.size_mem hx;have:=Tm.size_eq b;omega
  rw [Pd,paF]
  simp only [Bool.and_eq_true,Bool.or_eq_true,Bool.not_eq_true',List.any_eq_true,List.all_eq_true,decide_eq_true_eq,decide_eq_false_iff_not,Tm.beq_iff]
  refine and_congr_right fun _=>or_congr ?_ ?_
  ·refine exists_congr fun x=>and_congr_right fun hx=>or_congr_right ?_
   exact K3 f x b (by have:=sa x hx;omega)
  ·rw [RY (R:=Pa row) fun x hx y hy=>K3 f x y (by have:=sa x hx;have:=sb y hy;omega)]
   have hall:(∀ y ∈ b.args,paF row f a y=true) ↔ ∀ y ∈ b.args,Pa row a y:=forall_congr' fun y=>imp_congr_right fun hy=>K3 f a y (by have:=sb y hy;omega)
   rw [hall]
   constructor
   ·rintro ⟨⟨⟨h1,h2⟩,h3⟩,h4⟩
    exact ⟨h1,h2,h4,h3⟩
   ·rintro ⟨h1,h2,h4,h3⟩
    exact ⟨⟨⟨h1,h2⟩,h3⟩,h4⟩
theorem SS (row:List ByteArray) (a b:Tm):paF row (a.size + b.size + 1) a b=paB row a b:=by
 rw [Bool.eq_iff_iff,K3 _ a b (Nat.lt_succ_self _),FD]
def N6 (r:Pr):List Pr→List Pr→List Pr→Option (List Pr × List Pr)
 | [],left,todo=>some (left,todo)
 | o :: R,left,todo=>match Rx [r] o.1 with
  | none=>none
  | some l=>if l.isEmpty=true then N6 r R (left ++ [o]) todo else N6 r R left (todo ++ [o])
def RA:Nat→Nat→List Pr→Option (List Pr × Int)
 | 0,_,R=>some (R,0)
 | k + 1,i,R=>if BG R ≠ 0 then none else match R[i]? with
  | none=>none
  | some r=>match B_ (Tm.inn R) 100 0 r.2 with
   | (y,_,e)=>if e ≠ 0 then some (R,e) else if 200 < y.size then some (R,8) else RA k (i + 1) (R.set i (r.1,y))
def JX (f:Nat) (r:Pr):List Pr→List Pr→Option (List Pr × Int)
 | [],todo=>some (todo,0)
 | o :: R,todo=>match Qz f (Ew 88 1 o) (Ew 89 1 r) R.isEmpty with
  | none=>none
  | some none=>some (todo,8)
  | some (some l)=>if R.isEmpty=true then some (todo ++ l,0) else match Qz f (Ew 88 1 r) (Ew 89 1 o) false with
   | none=>none
   | some none=>some (todo ++ l,8)
   | some (some l')=>JX f r R (todo ++ l ++ l')
def OD (f:Nat) (R T:List Pr) (r:Pr):Option (List Pr × List Pr × Int) :=
 if 200 < r.1.size ∨ 200 < r.2.size then some (R,T,8) else if BG [r] ≠ 0 ∨ BG R ≠ 0 then none else
 match N6 r R [] T with
 | none=>none
 | some (left,todo)=>if 40 < left.length + 1 then some (left ++ [r],todo,3) else
  match RA (left.length + 1) 0 (left ++ [r]) with
  | none=>none
  | some (R',e)=>if e ≠ 0 then some (R',todo,e) else match R'.getLast? with
   | none=>none
   | some r'=>if BG R' ≠ 0 then none else match JX f r' R' todo with
    | none=>none
    | some (todo',e)=>if e ≠ 0 then some (R',todo',e) else if 400 < todo'.length then some (R',todo',3) else some (R',todo',0)
def J9 (f:Nat) (row:List ByteArray) (R T:List Pr) (p:Pr):Option (List Pr × List Pr × Int) :=
 if BS p.1 p.2 ≠ 0 ∨ BG R ≠ 0 then none else
 match B_ (Tm.inn R) 100 0 p.1 with
 | (a,_,e)=>if e ≠ 0 then some (R,T,e) else match B_ (Tm.inn R) 100 0 p.2 with
  | (b,_,e')=>if e' ≠ 0 then some (R,T,e') else
   if a.beq b=true then some (R,T,0)
   else if paF row (a.size + b.size + 1) a b=true then OD f R T (DF a b)
   else if paF row (b.size + a.size + 1) b a=true then OD f R T (DF b a)
   else some (R,T,14)
def FZ (f:Nat) (row:List ByteArray):Nat→List Pr→List Pr→Option (List Pr × Int)
 | n,R,[]=>some (R,0)
 | 0,R,_ :: _=>some ([],9)
 | n + 1,R,p :: T=>match J9 f row R T p with
  | none=>none
  | some (R',T',e)=>if e ≠ 0 then some ([],e) else FZ f row n R' T'
theorem LT {f:Nat} {row:List ByteArray}:∀ (n d:Nat) (R T:List Pr) (x:List Pr × Int),FZ f row (n + d) R T=some x→FZ f row n R T=some x ∨ FZ f row n R T=some ([],9)
 | n,d,R,[],x,h=>by
  left
  cases n <;> (rw [FZ];cases d <;> simpa [FZ] using h)
 | 0,d,R,p :: T,x,h=>.inr rfl
 | n + 1,d,R,p :: T,x,h=>by
  rw [show n + 1 + d=(n + d) + 1 by omega,FZ] at h
  rw [FZ]
  split at h
  ·cases h
  ·rename_i R' T' e hk
   by_cases he:e ≠ 0
   ·rw [if_pos he] at h ⊢
    exact .inl h
   ·rw [if_neg he] at h ⊢
    exact LT n d R' T' x h

open Go.RowKit
set_option maxHeartbeats 400000
def X_ (P:Program) (f:FuncId) (xs:List AV) (S:AA) (v:Value) (S':AA):Prop :=
 Am S→∀ (σ:Sto) (w:World) (vs:List Value) (ι:Ax),CB σ→Fit σ w→Cz σ S ι w→Af (AQ σ S ι) vs xs →
  Calls P f vs.toArray w fun e w'=>∃ σ' ι',e=.panicked [{ v:=v,recovered:=false }]∧Am S'∧Upd S ι S' ι'∧Cz σ' S' ι' w'∧Fit σ' w'∧(∀ p x,σ p=some x→σ' p=some x) ∧
   (∀ p:Addr,p.block < w.heap.size→Bh S ι p.block→σ' p=σ p)∧(w'.os=w.os∧w'.tape=w.tape∧w'.output=w.output)∧w.heap.size≤w'.heap.size ∧
   (∀ g,g < w.heap.size→Bh S ι g→w'.heap[g]?=w.heap[g]?)∧(∀ id b g,S' id=some b→(ι' id).g=some g→w.heap.size≤g ∨ ¬ Bh S ι g)
section
variable {P:Program} {C:Ctx} {a:Act} {w:World} {σ:Sto} {ι:Ax} {s:AS} {Q:Exit→Act→World→Prop} {o:Oper}
theorem PZ {f:FuncId} {vs:List Value} {avs:List AV} {v:Value} {S':AA} {next:Act→World→Prop} (R:AT C σ ι s a w) (hrun:(execOp a.eval o).run P w=.ok (.enter f vs.toArray) w) (hvs:Af (AQ σ s.S ι) vs avs)
  (h:X_ P f (AV.rens up1 avs) (upS s.S) v S') (hQ:∀ a' w',A8 C ⟨s.env,dnS S'⟩ a' w'→Q (.panic [{ v:=v,recovered:=false }]) a' w'):o.wp P a w next Q:=by
 have hup:∀ i,dn1 (up1 i)=i:=Gi
 have hS:∀ i b,s.S i=some b→upS s.S (up1 i)=some (b.ren up1):=fun i b hb=>Cc hb
 obtain ⟨ι1,hι1⟩:∃ ι1:Ax,∀ i,ι1 i=ι (dn1 i):=⟨fun i=>ι (dn1 i),fun _=>rfl⟩
 have hι:∀ i b,s.S i=some b→ι1 (up1 i)=ι i:=fun i b _=>by rw [hι1,hup]
 have hown:Cz σ (upS s.S) ι1 w:=by
  refine ⟨fun id b hb=>?_,fun id id' b b' g h1 h2 g1 g2=>?_⟩
  ·obtain ⟨hle,b',h1,rfl⟩:=CF hb
   have:=Bm.ren (S2:=upS s.S) (ι2:=ι1) (ρ:=up1) hS hι (R.blk _ _ h1)
   rw [hι1]
   exact this
  ·obtain ⟨l1,c1,k1,_⟩:=CF h1
   obtain ⟨l2,c2,k2,_⟩:=CF h2
   rw [hι1] at g1 g2
   have:=R.inj _ _ _ _ g k1 k2 g1 g2
   rw [← FV l1,← FV l2,this]
 have hargs:Af (AQ σ (upS s.S) ι1) vs (AV.rens up1 avs):=by
  rw [AV.rens_eq]
  exact (hvs.mono fun _ _ x=>AQ.ren (S2:=upS s.S) (ι2:=ι1) (ρ:=up1) hS hι x).map_right
 unfold Oper.wp
 rw [hrun,Oper.upon_enter]
 refine (h (Ec _) σ w vs _ (C.glob.mono R.ext) R.fit hown hargs).mono fun e w' he=>?_
 obtain ⟨σ',ι',rfl,hclean,hupd,hown',hf',hkeep,hold,hos,hsz,hsame,hbase⟩:=he
 have hSd:∀ i b,S' i=some b→dnS S' (dn1 i)=some (b.ren dn1):=fun i b hb=>Et (hclean i b hb).1 hb
 obtain ⟨ι2,hι2⟩:∃ ι2:Ax,∀ i,ι2 i=ι' (up1 i):=⟨fun i=>ι' (up1 i),fun _=>rfl⟩
 have hιd:∀ i b,S' i=some b→ι2 (dn1 i)=ι' i:=fun i b hb=>by
  rw [hι2,FV (hclean i b hb).1]
 have hu:Upd s.S ι (dnS S') ι2:=fun id b hb=>by
  obtain ⟨b',h1,h2,h3⟩:=hupd _ _ (hS id b hb)
  have h4:=hSd _ _ h1
  rw [hup] at h4
  refine ⟨_,h4,by rw [BR] at h2 ⊢;exact h2,fun hl=>?_⟩
  rw [BR] at hl
  obtain ⟨q1,q2⟩:=h3 (by rw [BR];exact hl)
  refine ⟨by rw [HH] at q1 ⊢;exact q1,?_⟩
  rw [hι2,q2,hι1,hup]
 have hnot:∀ g,g < C.N→¬ C.G g→Bh (upS s.S) ι1 g:=fun g h1 h2 id b hb hg=>by
  obtain ⟨_,b',k1,_⟩:=CF hb
  rw [hι1] at hg
  rcases R.base _ _ g k1 hg with h | h
  ·omega
  ·exact h2 h
 have R':AT C σ' ι2 ⟨s.env,dnS S'⟩ a w':=by
  refine ⟨R.size,fun i hi=>(R.env i hi).mono hkeep hu,R.nod.mono (fun D h=>(hsame D (Array.getElem?_eq_some_iff.1 h).1 (Dz hown.1 h)).trans h),hf',fun id b hb=>?_,fun id id' b b' g h1 h2 g1 g2=>?_,fun id b g hb hg=>?_,fun p x hx=>hkeep _ _ (R.ext p x hx),fun p h1 h2=>?_,⟨hos.1.trans R.os.1,hos.2.1.trans R.os.2.1,hos.2.2.trans R.os.2.2⟩,⟨Nat.le_trans R.grown.1 hsz,Nat.le_trans R.grown.2 hsz⟩,fun g h1 h2=>?_,R.upd.trans hu⟩
  ·obtain ⟨b',h1,rfl⟩:=CK hb
   have:=Bm.ren (S2:=dnS S') (ι2:=ι2) (ρ:=dn1) hSd hιd (hown'.1 _ _ h1)
   rw [hι2]
   exact this
  ·obtain ⟨c1,k1,_⟩:=CK h1
   obtain ⟨c2,k2,_⟩:=CK h2
   rw [hι2] at g1 g2
   have:=congrArg dn1 (hown'.2 _ _ _ _ g k1 k2 g1 g2)
   rw [hup,hup] at this
   exact this
  ·obtain ⟨b',h1,_⟩:=CK hb
   rw [hι2] at hg
   rcases hbase _ _ g h1 hg with h2 | h2
   ·exact .inl (by have:=R.grown.1;omega)
   ·by_cases hN:g < C.N
    ·by_cases hG:C.G g
     ·exact .inr hG
     ·exact absurd (hnot g hN hG) h2
    ·exact .inl (by omega)
  ·exact (hold p (by have:=R.grown.1;omega) (hnot _ h1 h2)).trans (R.old p h1 h2)
  ·exact (hsame g (by have:=R.grown.1;omega) (hnot g h1 h2)).trans (R.same g h1 h2)
 exact hQ _ _ ⟨σ',_,R'⟩
def CT (P:Program) (kd:Kd) (s:AS) (E:Value→AA→Prop):Prop:=match kd with
 | .callS f xs=>∃ v S',X_ P f (AV.rens up1 (s.evs xs)) (upS s.S) v S'∧E v (dnS S')
 | .pan x=>match s.ev x with
  | .one (.st (.lit (.iface t u)))=>E (.iface t u) s.S
  | _=>False
 | _=>False
theorem Zr {kd:Kd} {d:Nat} {K:AV→AS→Prop} (h:kd.go P d s K):kd.go P d s fun v s'=>K v s'∧s'.env=s.env:=by
 by_cases hdet:kd.det=true
 ·obtain ⟨v,S1,h1,h2,h3⟩:=II hdet h
  exact (h3 s.env (fun _ _=>rfl)).1 _ ⟨h1,rfl⟩
 ·cases kd
  case next x =>
   simp only [Kd.go] at h ⊢
   split at h
   ·exact ⟨fun hj=>⟨h.1 hj,trivial⟩,fun j x c h1 h2 h3=>⟨h.2 j x c h1 h2 h3,rfl⟩⟩
   ·exact h.elim
  case memoGet ok z m k =>
   simp only [Kd.go] at h ⊢
   split at h
   ·exact ⟨h.1,⟨h.2.1,trivial⟩,fun cs' ds' x h1 h2 h3=>⟨h.2.2 cs' ds' x h1 h2 h3,trivial⟩⟩
   ·exact h.elim
  case callX f xs =>
   obtain ⟨T,Post,h1,h2,h3,h4,h5⟩:=h
   exact ⟨T,Post,h1,h2,h3,h4,fun r S' k1 k2=>⟨h5 r S' k1 k2,rfl⟩⟩
  case callY f xs =>
   obtain ⟨T,Post,h1,h2,h3,h4,h5⟩:=h
   exact ⟨T,Post,h1,h2,h3,h4,fun r S' k1 k2=>⟨h5 r S' k1 k2,rfl⟩⟩
  all_goals exact absurd rfl hdet
theorem Vv {s':AS} {dd:Option Nat} {v:AV} {t:Nat} (h:dd ≠ some t):(s'.put dd v).env t=s'.env t:=EY (env:=s'.env) (S1:=s'.S) h
theorem Tg {i:Ins} {K:AS→Prop} (h:i.go P s K):i.go P s fun s'=>K s'∧∀ t,i.dst ≠ some t→s'.env t=s.env t:=by
 have hgo:∀ {d:Nat} {K':AV→AS→Prop},i.kd.goT P d s i.tag K'→i.kd.goT P d s i.tag fun v s'=>K' v s'∧s'.env=s.env:=fun hh=>go_mono (Zr hh) fun v s' hv=>⟨hv.1.1,hv.1.2,hv.2⟩
 have hput:∀ (v:AV) (s':AS),s'.env=s.env→∀ t,i.dst ≠ some t→(s'.put i.dst v).env t=s.env t:=fun v s' he t ht=>by rw [Vv ht,he]
 unfold Ins.go at h ⊢
 revert h
 cases i.guard with
 | none =>
  intro h
  exact C4 (hgo h) fun v s' _ hv=>⟨hv.1,hput v s' hv.2⟩
 | some gw =>
  obtain ⟨g,want⟩:=gw
  intro h
  dsimp only at h ⊢
  split at h
  ·rename_i b e1
   refine ⟨fun hb=>C4 (hgo (h.1 hb)) fun v s' _ hv=>⟨hv.1,hput v s' hv.2⟩,fun hb=>⟨h.2 hb,hput _ _ rfl⟩⟩
  ·exact ⟨h,hput _ _ rfl⟩
  ·exact h.elim
theorem ZE {i:Ins} {K K':AS→Prop} (h:i.go P s K) (hm:∀ s,K s→K' s):i.go P s K':=by
 unfold Ins.go at h ⊢
 revert h
 cases i.guard with
 | none =>
  intro h
  exact C4 h fun v s' _ hv=>hm _ hv
 | some gw =>
  obtain ⟨g,want⟩:=gw
  intro h
  dsimp only at h ⊢
  split at h
  ·exact ⟨fun hb=>C4 (h.1 hb) fun v s' _ hv=>hm _ hv,fun hb=>hm _ (h.2 hb)⟩
  ·exact hm _ h
  ·exact h.elim
theorem T_ {K K':AS→Prop} (hm:∀ s,K s→K' s):∀ {l:List Ins} {s:AS},Run P l s K→Run P l s K'
 | [],s,h=>hm _ h
 | i :: l,s,h=>by
  rw [G9] at h ⊢
  exact ZE h fun s' h'=>T_ hm h'
theorem Sj {kd:Kd} {E E':Value→AA→Prop} (h:CT P kd s E) (hm:∀ v S',E v S'→E' v S'):CT P kd s E':=by
 cases kd <;> simp only [CT] at h ⊢
 case callS f xs =>
  obtain ⟨v,S',h1,h2⟩:=h
  exact ⟨v,S',h1,hm _ _ h2⟩
 case pan x =>
  split at h
  ·exact hm _ _ h
  ·exact h.elim
theorem UU {kd:Kd} {s1:AS} {E:Value→AA→Prop} (h:CT P kd s1 E) (hS:s1.S=s.S) (he:∀ t ∈ kd.reads,s1.env t=s.env t):CT P kd s E:=by
 cases kd <;> simp only [CT] at h
 case callS f xs =>
  obtain ⟨v,S',h1,h2⟩:=h
  refine ⟨v,S',?_,h2⟩
  have e:s.evs xs=s1.evs xs:=DD (s:=s1) (env':=s.env) (S':=s.S) fun t ht=>(he t ht).symm
  rw [e,← hS]
  exact h1
 case pan x =>
  have e:s.ev x=s1.ev x:=AI (s:=s1) (env':=s.env) (S':=s.S) fun t ht=>(he t ht).symm
  simp only [CT,e]
  rw [← hS]
  exact h
theorem RI {n:Nat} {mu:List Nat} {dst:Option Nat} {op:Op} {f:Nat} {xs:List Opd} (h:BF P n mu dst op=some (.callS f xs)):∃ c,op=.call c∧IW P n mu dst c=some (.callS f xs):=by
 unfold BF at h
 split at h
 case h_21 c=>exact ⟨c,rfl,h⟩
 all_goals (exfalso;revert h;(repeat' split) <;> simp)
theorem O_ {n:Nat} {mu:List Nat} {dst:Option Nat} {c:Call} {f:Nat} {xs:List Opd} (h:IW P n mu dst c=some (.callS f xs)):c.callee=.value (.func f)∧B6 P f=true∧Bw n c.args.toList=some xs:=by
 unfold IW at h
 split at h
 case h_7 g hc =>
  split at h
  ·rename_i hpl
   rw [Option.map_eq_some_iff] at h
   obtain ⟨ys,hy,he⟩:=h
   have hfx:g=f∧ys=xs:=by
    revert he
    (repeat' split) <;> simp <;> (intro h1 h2;exact ⟨h1,h2⟩)
   obtain ⟨rfl,rfl⟩:=hfx
   exact ⟨hc,hpl,hy⟩
  ·cases h
 all_goals (exfalso;revert h;(repeat' split) <;> simp)
theorem Sf {n:Nat} {mu:List Nat} {dst:Option Nat} {c:Call} {x:Opd}:¬ IW P n mu dst c=some (.pan x):=by
 intro h
 unfold IW at h
 split at h
 all_goals (revert h;(repeat' split) <;> simp)
 all_goals (intro _ _;(repeat' split) <;> simp)
theorem VG {n:Nat} {mu:List Nat} {dst:Option Nat} {op:Op} {x:Opd}:¬ BF P n mu dst op=some (.pan x):=by
 intro h
 unfold BF at h
 split at h
 case h_21 c=>exact Sf h
 all_goals (revert h;(repeat' split) <;> simp)
theorem Lj {n:Nat} {op:Op} {k:Kd} (h:Jv P n op=some k):(∀ f xs,k ≠ .callS f xs)∧∀ x,k ≠ .pan x:=by
 refine ⟨fun f xs e=>?_,fun x e=>?_⟩ <;> subst e <;> unfold Jv at h <;> revert h <;> (repeat' split) <;> simp
theorem NH {mu:List Nat} {ops:List Oper} {k k':Ins} (htr:KW P C.n mu ops o=some k) (hk':k'.dst=k.dst∧k'.guard=k.guard∧k'.kd=k.kd) (hg:k'.guard=none) {E:Value→AA→Prop} {next:Act→World→Prop} (R:AT C σ ι s a w) (h:CT P k'.kd s E)
  (hQ:∀ v S' a' w',E v S'→A8 C ⟨s.env,S'⟩ a' w'→Q (.panic [{ v:=v,recovered:=false }]) a' w'):o.guard=none∧o.wpIn (fen C.ro) 0 P a w next Q:=by
 unfold KW at htr
 split at htr
 ·rename_i g kd e1 e2
  cases htr
  obtain ⟨hk1,hk2,hk3⟩:=hk'
  dsimp only at hk1 hk2 hk3
  rw [hg] at hk2
  subst hk2
  refine ⟨?_,?_⟩
  ·cases hog:o.guard with
   | none=>rfl
   | some jw =>
    rw [hog] at e1
    obtain ⟨j,want⟩:=jw
    simp only [K5] at e1
    split at e1
    ·split at e1
     ·split at e1 <;> cases e1
     ·cases e1
    ·cases e1
  ·rw [hk3] at h
   clear hk3
   unfold Yy at e2
   cases kd <;> simp only [CT] at h
   case callS f xs =>
    obtain ⟨v,S',h1,h2⟩:=h
    have h0:BF P C.n mu o.dst o.op=some (.callS f xs):=by
     split at e2
     ·rename_i k0 hk0
      have e2:=Mk (Option.some.inj e2)
      subst e2
      exact hk0
     ·split at e2
      ·rename_i k0 hk1
       cases e2
       exact absurd rfl ((Lj hk1).1 f xs)
      ·split at e2
       ·rw [Option.map_eq_some_iff] at e2
        obtain ⟨_,_,e⟩:=e2
        cases e
       ·exfalso
        revert e2
        (repeat' split) <;> simp
       ·cases e2
    obtain ⟨c,ho,hc⟩:=RI h0
    obtain ⟨hcal,hpl,hy⟩:=O_ hc
    refine F5 (fun c' e=>by rw [e] at ho;cases ho) ?_
    refine PZ (vs:=c.args.toList.map a.eval) R ?_ (R.evs hy) h1 fun a' w' hH=>hQ _ _ _ _ h2 hH
    have:=DP (P:=P) (w:=w) (args:=c.args.map a.eval) hpl
    have e:(c.args.toList.map a.eval).toArray=c.args.map a.eval:=by rw [← Array.toList_map,Array.toArray_toList]
    rw [e]
    obtain ⟨cal,args,tys⟩:=c
    dsimp only at hcal
    subst hcal
    simp [execOp,ho,resolve,Deferred.ofValue,Act.eval,invoke,this]
   case pan x =>
    split at e2
    ·rename_i k0 hk0
     have e2:=Qc (Option.some.inj e2)
     subst e2
     exact absurd hk0 VG
    ·split at e2
     ·rename_i k0 hk1
      cases e2
      exact absurd rfl ((Lj hk1).2 x)
     ·split at e2
      ·rename_i y hop
       rw [Option.map_eq_some_iff] at e2
       obtain ⟨x',hx,e⟩:=e2
       cases e
       split at h
       ·rename_i t u e3
        have rx:=R.ev hx
        rw [e3] at rx
        have hex:=LU (CG (AW rx))
        refine F5 (fun c e=>by rw [e] at hop;cases hop) ?_
        unfold Oper.wp
        have:(execOp a.eval o).run P w=.halt (.panic (.iface t u)) w:=by
         simp [execOp,hop,hex,Instr.panic,goPanic]
        rw [this,Oper.upon_panic]
        exact hQ _ _ _ _ h ⟨σ,ι,R⟩
       ·exact h.elim
      ·exfalso
       revert e2
       (repeat' split) <;> simp
      ·cases e2
 ·cases htr
def LP (l:List Ins) (j:Nat):Bool:=match l[j]? with
 | some y=>y.guard.isNone && (List.range l.length).all fun i=>match l[i]? with
  | some x=>if i < j then !x.indep y || (x.kd.keepS && x.kd.det) else if j < i then !y.indep x else true
  | none=>true
 | none=>false
theorem KT {l:List Ins} {j:Nat} {y:Ins} (hj:l[j]?=some y) (h:LP l j=true):y.guard=none∧(∀ i x,i < j→l[i]?=some x→x.indep y=true→x.kd.keepS=true∧x.kd.det=true)∧∀ i x,j < i→l[i]?=some x→y.indep x=false:=by
 unfold LP at h
 rw [hj] at h
 simp only [Bool.and_eq_true,Option.isNone_iff_eq_none,List.all_eq_true,List.mem_range] at h
 refine ⟨h.1,fun i x hi hx hd=>?_,fun i x hi hx=>?_⟩
 ·have:=h.2 i (List.getElem?_eq_some_iff.1 hx).1
  rw [hx] at this
  simpa [hi,hd] using this
 ·have:=h.2 i (List.getElem?_eq_some_iff.1 hx).1
  rw [hx] at this
  simpa [show ¬ i < j by omega,hi] using this
theorem Pw {x y:Ins} (h:x.indep y=true):∀ t ∈ y.reads,x.dst ≠ some t:=by
 unfold Ins.indep at h
 simp only [Bool.and_eq_true] at h
 intro t ht e
 have h1:=h.1.1.2
 rw [e] at h1
 simp [ht] at h1
theorem RJ {R:List Nat}:∀ (l:List Ins) (s:AS) {K:AS→Prop},(∀ x ∈ l,x.kd.keepS=true∧x.kd.det=true∧∀ t ∈ R,x.dst ≠ some t)→Run P l s K→∃ s1,K s1∧s1.S=s.S∧∀ t ∈ R,s1.env t=s.env t
 | [],s,_,_,h=>⟨s,h,rfl,fun _ _=>rfl⟩
 | x :: l,s,K,hx,h=>by
  rw [G9] at h
  obtain ⟨k1,k2,k3⟩:=hx x List.mem_cons_self
  obtain ⟨v,S1,h1,h2,_⟩:=Hc k2 h
  have e:=h2 k1
  subst e
  obtain ⟨s1,m1,m2,m3⟩:=RJ l _ (fun x' hx'=>hx x' (List.mem_cons_of_mem _ hx')) h1
  exact ⟨s1,m1,m2.trans Nr,fun t ht=>(m3 t ht).trans (EY (k3 t ht))⟩
theorem Gz (ks:List Ins):∀ j:Nat,(List.range j).filterMap (fun i=>ks[i]?)=ks.take j
 | 0=>rfl
 | j + 1=>by
  rw [List.range_succ,List.filterMap_append,Gz ks j,List.take_add_one]
  cases h:ks[j]? <;> simp [h]
theorem Mh {mu:List Nat} {ops:Array Oper} {ks0 ks:List Ins} {id j:Nat} {y:Ins} {E:Value→AA→Prop} (hmix:P.follows .mixedOrders=true) (htr:JQ P C.n mu ops.toList ops.toList=some ks0) (hre:LS ks0 ks) (hok:Ku ops.toList ks=true) (hj:ks[j]?=some y) (hp:LP ks j=true)
  (R:AT C σ ι s a w) (h:Run P (ks.take j) s fun s1=>CT P y.kd s1 E) (hQ:∀ v S' env a' w',E v S'→(∀ t,(∀ k ∈ ks,k.dst ≠ some t)→env t=s.env t)→A8 C ⟨env,S'⟩ a' w'→Q (.panic [{ v:=v,recovered:=false }]) a' w'):(Code.region id ops true).wpIn (fen C.ro) 0 P Q a w:=by
 obtain ⟨p1,p2,p3⟩:=KT hj hp
 obtain ⟨hl0,hget0⟩:=Fc htr
 have hl:ops.size=ks.length:=by
  rw [← hre.1,← hl0,Array.length_toList]
 have hjl:j < ops.size:=by rw [hl];exact (List.getElem?_eq_some_iff.1 hj).1
 have hget:∀ (i:Nat) (o:Oper),ops.toList[i]?=some o→∃ k',ks[i]?=some k'∧∃ k,KW P C.n mu ops.toList o=some k∧k'.dst=k.dst∧k'.guard=k.guard∧k'.kd=k.kd:=fun i o ho=>by
  obtain ⟨k,h1,h2⟩:=hget0 i o ho
  obtain ⟨k',q1,q2⟩:=hre.2 i k h1
  exact ⟨k',q1,k,h2,q2⟩
 refine wpIn_region_any hmix ?_
 have hchk:∀ i,i < ops.size→(∀ o,ops[i]?=some o→∀ e ∈ o.after,Region.binds .any e=true→e.on < i)∧∀ j,j < i→∀ x y,ks[j]?=some x→ks[i]?=some y→x.indep y=true ∨ Fr ops.toList ops.toList.length j i=true:=fun i hi=>by
  have h1:=List.all_eq_true.1 hok i (List.mem_range.2 (by simpa using hi))
  simp only [Bool.and_eq_true] at h1
  refine ⟨fun o ho e he hb=>?_,fun j hj x y hx hy=>?_⟩
  ·have h2:=h1.1
   rw [show ops.toList[i]?=some o by simpa using ho] at h2
   dsimp only at h2
   obtain ⟨k,hk,rfl⟩:=Array.getElem_of_mem he
   have h3:=(Array.all_eq_true.1 h2) k hk
   simpa [hb] using h3
  ·have h2:=List.all_eq_true.1 h1.2 j (List.mem_range.2 hj)
   rw [hx,hy] at h2
   simpa using h2
 have key:∀ (f:Nat) (T:List Nat) (listed:Array Bool) (s1:AS) (a:Act) (w:World),(∀ t,(∀ k ∈ ks,k.dst ≠ some t)→s1.env t=s.env t)→T.length≤f→listed.size=ops.size→T.Pairwise (· < ·)→(∀ i,i ∈ T ↔ i < ops.size∧listed.getD i true=false) →
   (∀ k o,ops[k]?=some o→listed.getD k true=true→k < ops.size→∀ e ∈ o.after,Region.binds .any e=true→listed.getD e.on false=true)→j ∈ T→A8 C s1 a w→Run P ((T.filter fun i=>decide (i < j)).filterMap fun i=>ks[i]?) s1 (fun s1=>CT P y.kd s1 E)→wpAnyIn (fen C.ro) 0 P .any ops Q f listed a w:=by
  intro f
  induction f with
  | zero =>
   intro T listed s0 a w hE hf hsz hs hT hdc hjT hH hr
   have hT0:T=[]:=List.eq_nil_of_length_eq_zero (by omega)
   subst hT0
   cases hjT
  | succ f ih =>
   intro T listed s0 a w hE hf hsz hs hT hdc hjT hH hr
   have hgone:∀ i k,i ∈ T→(∀ o,ops[k]?=some o→∀ e ∈ o.after,Region.binds .any e=true→listed.getD e.on false=true)→Fr ops.toList ops.toList.length i k=true→False:=fun i k hi hk hbe=>by
    have h1:=Hu (ops:=ops) (listed:=listed) hdc (i:=k) _ i k hk hbe
    have h2:=((hT i).1 hi).2
    have h3:=((hT i).1 hi).1
    simp [show i < listed.size by omega] at h1 h2
    rw [h1] at h2
    cases h2
   refine ⟨fun hready=>?_,fun i hi=>?_⟩
   ·cases T with
    | nil=>cases hjT
    | cons i T =>
     exfalso
     obtain ⟨hi1,hi2⟩:=(hT i).1 (by simp)
     have:i ∈ Region.ready .any ops listed:=by
      refine mem_ready.2 ⟨hi2,ops[i],Array.getElem?_eq_getElem hi1,fun e he hb=>?_⟩
      have hlt:=(hchk i hi1).1 _ (Array.getElem?_eq_getElem hi1) e he hb
      cases hq:listed.getD e.on true with
      | true =>
       simp [show e.on < listed.size by omega] at hq ⊢
       exact hq
      | false =>
       have hmem:=(hT e.on).2 ⟨by omega,hq⟩
       rcases List.mem_cons.1 hmem with h | h
       ·omega
       ·have:=(List.pairwise_cons.1 hs).1 _ h
        omega
     rw [hready] at this
     cases this
   ·obtain ⟨q1,o,q2,q3⟩:=mem_ready.1 hi
    have hi1:=(Array.getElem?_eq_some_iff.1 q2).1
    have hmem:=(hT i).2 ⟨hi1,q1⟩
    have q3':∀ o2,ops[i]?=some o2→∀ e ∈ o2.after,Region.binds .any e=true→listed.getD e.on false=true:=fun o2 ho2 e he hb=>by
     rw [q2] at ho2
     cases ho2
     exact q3 e he hb
    obtain ⟨k',hy1,k0,hy2,hy3⟩:=hget i o (by simpa using q2)
    rcases Nat.lt_trichotomy i j with hij | hij | hij
    ·obtain ⟨pre,post,rfl⟩:=List.append_of_mem hmem
     rw [List.filter_append,List.filter_cons,if_pos (by simpa using hij),List.filterMap_append,List.filterMap_cons,hy1] at hr
     dsimp only at hr
     have hpre:∀ j ∈ pre,j < i:=fun j hj=>(List.pairwise_append.1 hs).2.2 j hj i (by simp)
     have hfront:=NJ (P:=P) (pre:=(pre.filter fun i=>decide (i < j)).filterMap fun i=>ks[i]?) (y:=k') (post:=(post.filter fun i=>decide (i < j)).filterMap fun i=>ks[i]?) (fun x hx=>by
      obtain ⟨m,hm,hxm⟩:=List.mem_filterMap.1 hx
      have hm':=(List.mem_filter.1 hm).1
      rcases (hchk i hi1).2 m (hpre m hm') x k' hxm hy1 with hind | hbe
      ·exact hind
      ·exact (hgone m i (by simp [hm']) q3' hbe).elim) hr
     obtain ⟨σ,ι,R⟩:=hH
     refine HV q2 hy2 hy3 R (Tg hfront) fun s' a' w' hKE hH'=>?_
     obtain ⟨hK,hE'⟩:=hKE
     rw [← List.filterMap_append,← List.filter_append] at hK
     have hsub:(pre ++ post).Pairwise (· < ·):=by
      refine hs.sublist ?_
      exact List.Sublist.append (List.Sublist.refl pre) (List.sublist_cons_self i post)
     have hni:i ∉ pre ++ post:=fun hm=>by
      rcases List.mem_append.1 hm with hm | hm
      ·have:=hpre i hm;omega
      ·have:=(List.pairwise_cons.1 (List.pairwise_append.1 hs).2.1).1 i hm;omega
     refine ih (pre ++ post) (listed.setIfInBounds i true) s' a' w' (fun t ht=>(hE' t (ht _ (List.mem_of_getElem? hy1))).trans (hE t ht)) (by simp at hf ⊢;omega) (by simpa using hsz) hsub (fun m=>?_) (fun k ok hok2 hlk hkk e he hb=>?_) ?_ hH' hK
     ·constructor
      ·intro hm
       have hmi:i ≠ m:=fun e=>hni (e ▸ hm)
       have:=(hT m).1 (by
        rcases List.mem_append.1 hm with h | h
        ·simp [h]
        ·simp [h])
       refine ⟨this.1,?_⟩
       have h3:=this.2
       simp only [Array.getD_eq_getD_getElem?] at h3 ⊢
       rw [Array.getElem?_setIfInBounds_ne hmi]
       exact h3
      ·rintro ⟨h1,h2⟩
       have hmi:i ≠ m:=fun e=>by
        subst e
        simp [show i < listed.size by omega] at h2
       have h3:listed.getD m true=false:=by
        simp only [Array.getD_eq_getD_getElem?] at h2 ⊢
        rw [Array.getElem?_setIfInBounds_ne hmi] at h2
        exact h2
       have:=(hT m).2 ⟨h1,h3⟩
       rcases List.mem_append.1 this with h | h
       ·exact List.mem_append_left _ h
       ·rcases List.mem_cons.1 h with h | h
        ·exact absurd h.symm hmi
        ·exact List.mem_append_right _ h
     ·have hstep:∀ m,listed.getD m false=true→(listed.setIfInBounds i true).getD m false=true:=fun m hm=>by
       by_cases e:i=m
       ·subst e
        simp [show i < listed.size by omega]
       ·simp only [Array.getD_eq_getD_getElem?] at hm ⊢
        rw [Array.getElem?_setIfInBounds_ne e]
        exact hm
      by_cases hki:i=k
      ·subst hki
       exact hstep _ (q3' ok hok2 e he hb)
      ·refine hstep _ (hdc k ok hok2 ?_ hkk e he hb)
       simp only [Array.getD_eq_getD_getElem?] at hlk ⊢
       rw [Array.getElem?_setIfInBounds_ne hki] at hlk
       exact hlk
     ·rcases List.mem_append.1 hjT with h | h
      ·exact List.mem_append_left _ h
      ·rcases List.mem_cons.1 h with h | h
       ·omega
       ·exact List.mem_append_right _ h
    ·subst hij
     rw [hj] at hy1
     cases hy1
     obtain ⟨s1,k1,k2,k3⟩:=RJ (R:=y.kd.reads) _ _ (fun x hx=>by
      obtain ⟨m,hm,hxm⟩:=List.mem_filterMap.1 hx
      obtain ⟨hmT,hmi⟩:=List.mem_filter.1 hm
      have hmi:m < i:=by simpa using hmi
      rcases (hchk i hi1).2 m hmi x y hxm hj with hind | hbe
      ·obtain ⟨r1,r2⟩:=p2 m x hmi hxm hind
       exact ⟨r1,r2,fun t ht=>Pw hind t (by simp [Ins.reads,ht])⟩
      ·exact (hgone m i hmT q3' hbe).elim) hr
     obtain ⟨σ,ι,R⟩:=hH
     obtain ⟨g1,g2⟩:=NH (next:=wpAnyIn (fen C.ro) 0 P .any ops Q f (listed.setIfInBounds i true)) hy2 hy3 p1 R (UU k1 k2 k3) fun v S' a' w' h1 h2=>hQ v S' s0.env a' w' h1 hE h2
     unfold wpOpIn
     rw [q2]
     dsimp only
     rw [if_pos (by simp [Region.wanted,g1])]
     exact g2
    ·exfalso
     rcases (hchk i hi1).2 j hij y k' hj hy1 with hind | hbe
     ·rw [p3 i k' hij hy1] at hind
      cases hind
     ·exact hgone j i hjT q3' hbe
 have e0:((List.range ops.size).filter fun i=>decide (i < j)).filterMap (fun i=>ks[i]?)=ks.take j:=by
  obtain ⟨m,hm⟩:∃ m,ops.size=j + m:=⟨ops.size - j,by omega⟩
  rw [hm,List.range_add,List.filter_append,List.filter_eq_self.2 (fun i hi=>by simpa using hi),List.filter_eq_nil_iff.2 (fun i hi=>by
   obtain ⟨k,_,rfl⟩:=List.mem_map.1 hi
   simp),List.append_nil]
  exact Gz ks j
 refine key ops.size (List.range ops.size) (Array.replicate ops.size false) s a _ (fun _ _=>rfl) (by simp) (by simp) List.pairwise_lt_range (fun i=>?_) (fun k o hk hlk hkk e he hb=>?_) (List.mem_range.2 hjl) ⟨σ,ι,R.drew⟩ (by rw [e0];exact h)
 ·simp only [List.mem_range,Array.getD_eq_getD_getElem?]
  constructor
  ·intro hi
   simp [hi]
  ·rintro ⟨hi,_⟩
   exact hi
 ·simp [hkk] at hlk
theorem Ki {mu:List Nat} {ops:Array Oper} {ks:List Ins} {id j:Nat} {y:Ins} {E:Value→AA→Prop} (htr:JQ P C.n mu ops.toList ops.toList=some ks) (hj:ks[j]?=some y) (hp:LP ks j=true)
  (R:AT C σ ι s a w) (h:Run P (ks.take j) s fun s1=>CT P y.kd s1 E) (hQ:∀ v S' env a' w',E v S'→(∀ t,(∀ k ∈ ks,k.dst ≠ some t)→env t=s.env t)→A8 C ⟨env,S'⟩ a' w'→Q (.panic [{ v:=v,recovered:=false }]) a' w'):(Code.region id ops false).wpIn (fen C.ro) 0 P Q a w:=by
 obtain ⟨p1,p2,p3⟩:=KT hj hp
 obtain ⟨hl,hget⟩:=Fc htr
 have hl':ops.size=ks.length:=by rw [← hl,Array.length_toList]
 have hjl:j < ks.length:=(List.getElem?_eq_some_iff.1 hj).1
 refine wpIn_region ?_
 have key:∀ (m k:Nat) (s1:AS) (a:Act) (w:World),(∀ t,(∀ k ∈ ks,k.dst ≠ some t)→s1.env t=s.env t)→k + m=ops.size→k≤j→A8 C s1 a w→Run P ((ks.take j).drop k) s1 (fun s1=>CT P y.kd s1 E)→wpOpsIn (fen C.ro) 0 P ops Q (List.range' k m) a w:=by
  intro m
  induction m with
  | zero=>intro k s1 a w hE hk hkj;omega
  | succ m ih =>
   intro k s1 a w hE hk hkj hH hr
   have hlt:k < ops.toList.length:=by simp;omega
   obtain ⟨oo,hoo⟩:∃ oo,ops.toList[k]?=some oo:=⟨_,List.getElem?_eq_getElem hlt⟩
   obtain ⟨kk,h1,h2⟩:=hget k oo hoo
   have hop:ops[k]?=some oo:=by rw [← Array.getElem?_toList];exact hoo
   obtain ⟨σ,ι,R⟩:=hH
   rw [List.range'_succ,wpOpsIn_cons]
   by_cases hkj':k=j
   ·subst hkj'
    rw [hj] at h1
    cases h1
    rw [List.drop_of_length_le (by simp;omega)] at hr
    obtain ⟨g1,g2⟩:=NH (next:=wpOpsIn (fen C.ro) 0 P ops Q (List.range' (k + 1) m)) h2 ⟨rfl,rfl,rfl⟩ p1 R hr fun v S' a' w' h1 h2=>hQ v S' s1.env a' w' h1 hE h2
    unfold wpOpIn
    rw [hop]
    dsimp only
    rw [if_pos (by simp [Region.wanted,g1])]
    exact g2
   ·have hd:(ks.take j).drop k=kk :: (ks.take j).drop (k + 1):=by
     have hk':k < (ks.take j).length:=by simp;omega
     rw [List.drop_eq_getElem_cons hk']
     congr 1
     rw [List.getElem_take]
     exact (List.getElem?_eq_some_iff.1 h1).2
    rw [hd,G9] at hr
    exact HV (i:=k) hop h2 ⟨rfl,rfl,rfl⟩ R (Tg hr) fun s' a' w' hK hH'=>ih (k + 1) s' a' w' (fun t ht=>(hK.2 t (ht _ (List.mem_of_getElem? h1))).trans (hE t ht)) (by omega) (by omega) hH' hK.1
 rw [List.range_eq_range']
 exact key ops.size 0 s a w (fun _ _=>rfl) (by omega) (by omega) ⟨σ,ι,R⟩ (by simpa using h)
end
section
variable {P:Program} {C:Ctx} {mu:List Nat} {Q:AX→AS→Prop} {s:AS}
theorem IWP.opsPanR {l:List Ins} (j:Nat) (y:Ins) (hj:l[j]?=some y) (hp:LP l j=true) (h:Run P (l.take j) s fun s1=>CT P y.kd s1 fun v S'=>∀ env,(∀ t,(l.all fun k=>k.dst != some t)=true→env t=s.env t)→Q (.pan v) ⟨env,S'⟩):IWP P C mu (.ops l) Q s:=fun c hc a w hH=>by
 have hQ:∀ (v:Value) (S':AA) (env:Nat→AV) (a':Act) (w':World),(∀ env,(∀ t,(l.all fun k=>k.dst != some t)=true→env t=s.env t)→Q (.pan v) ⟨env,S'⟩)→(∀ t,(∀ k ∈ l,k.dst ≠ some t)→env t=s.env t)→A8 C ⟨env,S'⟩ a' w'→AAC C Q (.panic [{ v:=v,recovered:=false }]) a' w':=fun v S' env a' w' hE hk hH=>⟨_,v,⟨hE env fun t ht=>hk t fun k hk'=>by simpa using List.all_eq_true.1 ht k hk',rfl⟩,hH⟩
 cases c <;> simp only [A9] at hc
 case region id ops draw =>
  split at hc
  ·rename_i ks e1
   obtain ⟨σ,ι,R⟩:=hH
   cases draw with
   | true =>
    simp only [if_true] at hc
    split at hc
    ·rename_i h1
     cases hc
     simp only [Bool.and_eq_true] at h1
     exact Mh h1.1 e1 (LS.refl _) h1.2 hj hp R h hQ
    ·split at hc
     ·rename_i h1
      cases hc
      simp only [Bool.and_eq_true] at h1
      exact Mh h1.1 e1 (L0 _ 0 _) h1.2 hj hp R h hQ
     ·cases hc
   | false =>
    simp only [Bool.false_eq_true,if_false,Option.some.injEq,IR.ops.injEq] at hc
    subst hc
    exact Ki e1 hj hp R h hQ
  ·cases hc
 all_goals (exfalso;revert hc;(repeat' split) <;> simp)
theorem IWP.opsPanE {l:List Ins} (j:Nat) (y:Ins) (hj:l[j]?=some y) (hp:LP l j=true) (h:GY P (l.take j) s fun s1=>CT P y.kd s1 fun v S'=>∀ env,(∀ t,(l.all fun k=>k.dst != some t)=true→env t=s.env t)→Q (.pan v) ⟨env,S'⟩):IWP P C mu (.ops l) Q s:=IWP.opsPanR j y hj hp (CP h)
theorem IWP.opsPan {l:List Ins} (j:Nat) (y:Ins) (hj:l[j]?=some y) (hp:LP l j=true) (h:GY P (l.take j) s fun s1=>CT P y.kd s1 fun v S'=>∀ env,Q (.pan v) ⟨env,S'⟩):IWP P C mu (.ops l) Q s :=
 IWP.opsPanR j y hj hp (T_ (fun s1 h1=>Sj h1 fun v S' h2 env _=>h2 env) (CP h))
def ZW:List Ins→Bool
 | []=>true
 | i :: l=>(match i.kd with | .pan _=>false | _=>true) && ZW l
theorem IWP.ops3 {l:List Ins} (hn:ZW l=true) (h:∀ K:AS→Prop,(∀ s,Q .normal s→K s)→GY P l s K):IWP P C mu (.ops l) Q s:=IWP.ops2 h
theorem W3 {y:IR} {v:Value} (h:Q (.pan v) s):Ox P C mu y Q (.pan v) s:=h
theorem QC {id:Nat} {v:Value} (h:Q (.pan v) s):AX.inBlock id Q (.pan v) s:=h
theorem WZ {K:AS→Prop} {v:Value} (h:Q (.pan v) s):AX.then K Q (.pan v) s:=h
def Yg (C:Ctx) (v:Value) (S':AA) (e:AX) (s:AS):Prop:=e=.pan v∧∃ s2,Aa C s s2∧s2.S=S'∧Am S'
theorem WR {f:FuncId} {fn:Func} {c:Code} {x:IR} {xs:List AV} {S:AA} {v:Value} {S':AA} (hf:P.funcs[f]?=some fn) (hb:fn.body=some c) (hx:A9 P fn.ntmps mu c=some x) (hn:xs.length≤fn.ntmps)
  (h:Am S→∀ C:Ctx,C.n=fn.ntmps→C.Top→IWP P C mu x (Yg C v S') (AS.startS xs S)):X_ P f xs S v S':=by
 intro hclean σ w vs ι hglob hfit hown hvs
 have hl:=hvs.len
 let C:Ctx:=⟨fn.ntmps,w.heap.size,fun g=>¬ Bh S ι g,σ,w,S,ι,hclean,hglob,[],none,false⟩
 refine callsIn_wide.1 (callsIn_of_wp_marks (n:=0) hf hb trivial ?_)
 have R:AT C σ ι (AS.startS xs S) { tmps:=vs.toArray ++ Array.replicate (fn.ntmps - vs.toArray.size) undef,defers:=[] } w:=by
  refine ⟨by simp [C];omega,fun i hi=>?_,Dk,hfit,hown.1,hown.2,fun id b g h hg=>.inr (fun hno=>hno id b h hg),fun _ _ h=>h,fun _ _ _=>rfl,⟨rfl,rfl,rfl⟩,⟨Nat.le_refl _,Nat.le_refl _⟩,fun _ _ _=>rfl,Upd.refl _ _⟩
  show AQ σ S ι _ ((xs[i]?).getD (.tup []))
  rw [Array.getD_eq_getD_getElem?]
  by_cases hlt:i < vs.length
  ·rw [Array.getElem?_append_left (by simpa using hlt)]
   obtain ⟨b,hb1,hb2⟩:=hvs.get' (List.getElem?_eq_getElem hlt)
   rw [hb1]
   simpa [hlt] using hb2
  ·rw [Array.getElem?_append_right (by simp;omega),List.getElem?_eq_none (by omega)]
   have hi':i < fn.ntmps:=hi
   rw [Array.getElem?_replicate,if_pos (by simp;omega)]
   exact .tup (fun _=>undef) rfl (by simp) (by simp)
 refine wpIn_mono (h hclean C rfl ⟨rfl,rfl⟩ c hx _ w ⟨σ,ι,R⟩) fun e a' w' he=>?_
 cases e with
 | panic ch =>
  obtain ⟨s,v',⟨⟨h1,s2,hg,hS,hc⟩,rfl⟩,hH⟩:=he
  cases h1
  obtain ⟨σ',ι',R1⟩:=hg _ _ hH
  subst hS
  refine R1.leaves (fun h=>by cases h) fun a2 w2 R' hd ht=>?_
  exact ⟨σ',ι',rfl,hc,R'.upd,⟨R'.blk,R'.inj⟩,R'.fit,R'.ext,fun p h1 h2=>R'.old p h1 (fun h=>h h2),R'.os,R'.grown.2,fun g h1 h2=>R'.same g h1 (fun h=>h h2),fun id b g h1 h2=>R'.base id b g h1 h2⟩
 | normal=>obtain ⟨s,h1,h2⟩:=he;cases h1.1
 | ret=>obtain ⟨s,h1,h2⟩:=he;cases h1.1
 | exit id=>obtain ⟨s,h1,h2⟩:=he;cases h1.1
 | _=>exact he.elim
end
abbrev Wx:=@IWP.ops3
abbrev Wy:=@W3
abbrev Wz:=@QC
abbrev Wv:=@WZ
theorem OkF.acP {P:Program} {f n:Nat} {mu:List Nat} {x:IR} {rs:List RV} (o:OkF P f n mu x rs) {xs:List AV} {S S':AA} {v:Value} (h:Am S→∀ C:Ctx,C.n=n→IWP P C mu x (Yg C v S') (AS.startS xs S)) (hn:xs.length≤n:=by exact Nat.le_of_ble_eq_true rfl):X_ P f xs S v S':=by
 obtain ⟨fn,c,hf,hb,rfl,hx,hr⟩:=o.ok
 exact WR hf hb hx hn fun h0 C h1 _=>h h0 C h1

set_option maxRecDepth 100000
def E7:IR :=
 (.seq (.ops [.i 2 (.box 40 (.t 0)),.i 4 (.alloc 40 [.st (.str (ByteArray.mk (#[]))),.full [],.st (.str (ByteArray.mk (#[]))),.full []])]) (.seq (.ops [.i 5 (.mov (.c (.one (.full []))))]) (.seq (.seq (.ops [.f 12 0 2,.L 13 2 12,.i 14 (.call 104 [.t 13]),.i 15 (.len false (.t 14)),.i 16 (.mov (.n 0))]) (.block 0 (.loop (.seq (.ops [.i 17 (.bin .lss (.t 16) (.t 15))]) (.seq (.cond (.t 17) .skip (.exit 0)) (.seq (.block 1 (.seq (.ops [.m 18 16,.i 19 (.indexAddr 1 (.t 14) (.t 16)),.l 20 19,.m 6 18,.m 7 20]) (.ops [.m 21 5,.m 22 7,.m 23 1,.m 24 6,.i 25 (.bin .add (.t 24) (.n 1)),.i 26 (.call 123 [.t 25]),.i 27 (.bin .add (.t 23) (.t 26)),.i 28 (.build [.st (.str (ByteArray.mk (#[]))),.full []] [(0,1,.t 27)]),.i 29 (.build [.st (.str (ByteArray.mk (#[]))),.st (.str (ByteArray.mk (#[]))),.full []] [(0,1,.t 22),(1,2,.t 28)]),.i 30 (.buildSlice false 82 3 [.t 29]),.i 31 (.append true 82 3 56 (.t 21) (.t 30)),.m 5 31]))) (.ops [.i 32 (.bin .add (.t 16) (.n 1)),.m 16 32]))))))) (.seq (.ops [.m 33 5,.i 34 (.callS 117 [.t 33]),.m 5 34]) (.seq (.ops [.m 36 5,.f 37 0 2,.L 38 2 37,.i 39 (.call 110 [.t 36,.t 38]),.m 35 39,.i 40 (.extract 0 (.t 35)),.i 41 (.extract 1 (.t 35)),.i 8 (.alloc 37 [.st (.str (ByteArray.mk (#[]))),.full []]),.s 2 8 40,.m 9 41]) (.seq (.ops [.m 43 5,.f 44 2 2,.L 45 2 44,.i 46 (.call 110 [.t 43,.t 45]),.m 42 46,.i 47 (.extract 0 (.t 42)),.i 48 (.extract 1 (.t 42)),.i 10 (.alloc 37 [.st (.str (ByteArray.mk (#[]))),.full []]),.s 2 10 47,.m 11 48]) (.seq (.ops [.L 49 2 8,.L 50 2 10,.i 51 (.build [.st (.str (ByteArray.mk (#[]))),.full [],.st (.str (ByteArray.mk (#[]))),.full []] [(0,2,.t 49),(2,2,.t 50)]),.s 4 4 51]) .ret)))))))
theorem JD:OkF Tryz.prog 107 52 [31,34] E7 [.cell 4 true 4]:=.of Tryz.func107 rfl rfl (by kernel_rfl) rfl
def ER:IR :=
 (.seq (.ops [.i 3 (.box 40 (.t 0)),.i 4 (.box 40 (.t 1)),.i 6 (.mov (.c (.one (.full [])))),.i 7 (.mov (.n 0))]) (.seq (.ops [.i 8 (.mov (.c (.one (.full []))))]) (.seq (.ops [.L 22 4 3,.i 23 (.call 107 [.t 22,.c (.one (.st (.str (ByteArray.mk (#[88])))))]),.L 24 4 4,.i 25 (.call 107 [.t 24,.c (.one (.st (.str (ByteArray.mk (#[89])))))]),.i 9 (.alloc 40 [.st (.str (ByteArray.mk (#[]))),.full [],.st (.str (ByteArray.mk (#[]))),.full []]),.i 10 (.alloc 40 [.st (.str (ByteArray.mk (#[]))),.full [],.st (.str (ByteArray.mk (#[]))),.full []]),.s 4 9 23,.s 4 10 25]) (.seq (.seq (.ops [.f 26 0 9,.L 27 2 26,.i 28 (.call 108 [.t 27]),.i 29 (.len false (.t 28)),.i 30 (.mov (.n 0))]) (.block 0 (.loop (.seq (.ops [.i 31 (.bin .lss (.t 30) (.t 29))]) (.seq (.cond (.t 31) .skip (.exit 0)) (.seq (.block 1 (.seq (.ops [.i 32 (.indexAddr 1 (.t 28) (.t 30)),.l 33 32,.m 12 33]) (.seq (.ops [.f 35 0 9,.L 36 2 35,.m 37 12,.i 38 (.call 109 [.t 36,.t 37]),.m 34 38,.i 39 (.extract 0 (.t 34)),.i 40 (.extract 1 (.t 34)),.i 13 (.alloc 37 [.st (.str (ByteArray.mk (#[]))),.full []]),.s 2 13 39,.m 14 40]) (.seq (.seq (.ops [.f 41 0 13,.l 42 41,.i 43 (.call 67 [.t 42]),.m 44 43,.mk (some 45) (some (44,false)) (.mov (.t 2)) .no,.mk (some 46) (some (44,false)) (.mov (.t 45)) .no,.mk (some 47) (some (46,true)) (.mov (.t 12)) .no,.mk (some 48) (some (46,true)) (.len false (.t 47)) .no,.mk (some 49) (some (46,true)) (.bin .eql (.t 48) (.n 0)) .no,.mk (some 50) (some (44,false)) (.pick (.t 46) (.t 49) (.c (.one (.st (.bool false))))) .no,.i 51 (.pick (.t 44) (.c (.one (.st (.bool true)))) (.t 50))]) (.cond (.t 51) (.exit 1) .skip)) (.seq (.ops [.L 53 2 13,.f 54 0 10,.L 55 2 54,.i 56 (.build [.st (.str (ByteArray.mk (#[]))),.full [],.st (.str (ByteArray.mk (#[]))),.full []] [(0,2,.t 53),(2,2,.t 55)]),.i 57 (.buildSlice false 40 4 [.t 56]),.i 58 (.call 86 [.t 57]),.m 52 58,.i 59 (.extract 0 (.t 52)),.i 60 (.extract 1 (.t 52)),.m 15 59,.m 16 60]) (.seq (.seq (.ops [.m 61 16,.i 62 (.bin .eql (.t 61) (.n 8))]) (.cond (.t 62) (.seq (.ops [.m 63 16,.i 6 (.mov (.c (.one (.full [])))),.m 7 63]) .ret) .skip)) (.seq (.seq (.ops [.m 64 16,.i 65 (.bin .neq (.t 64) (.n 0))]) (.cond (.t 65) (.exit 1) .skip)) (.seq (.ops [.m 67 15,.f 68 2 9,.L 69 2 68,.i 70 (.call 110 [.t 67,.t 69]),.m 66 70,.i 71 (.extract 0 (.t 66)),.i 72 (.extract 1 (.t 66)),.i 17 (.alloc 37 [.st (.str (ByteArray.mk (#[]))),.full []]),.s 2 17 71,.m 18 72]) (.seq (.ops [.m 74 15,.f 75 0 9,.L 76 2 75,.m 77 12,.f 78 2 10,.L 79 2 78,.i 80 (.call 111 [.t 76,.t 77,.t 79]),.i 81 (.call 110 [.t 74,.t 80]),.m 73 81,.i 82 (.extract 0 (.t 73)),.i 83 (.extract 1 (.t 73)),.i 19 (.alloc 37 [.st (.str (ByteArray.mk (#[]))),.full []]),.s 2 19 82,.m 20 83]) (.seq (.seq (.ops [.m 84 18,.i 85 (.un .not (.t 84)),.m 86 85,.mk (some 87) (some (86,false)) (.mov (.t 20)) .no,.mk (some 88) (some (86,false)) (.un .not (.t 87)) .no,.i 89 (.pick (.t 86) (.c (.one (.st (.bool true)))) (.t 88))]) (.cond (.t 89) (.seq (.ops [.i 6 (.mov (.c (.one (.full [])))),.i 7 (.mov (.n 8))]) .ret) .skip)) (.seq (.ops [.L 90 2 17,.L 91 2 19,.i 92 (.buildSlice false 37 2 [.t 90,.t 91]),.i 93 (.call 71 [.t 92]),.m 21 93]) (.ops [.m 94 8,.m 95 21,.i 96 (.indexAddr 2 (.t 95) (.n 0)),.L 97 2 96,.m 98 21,.i 99 (.indexAddr 2 (.t 98) (.n 1)),.L 100 2 99,.i 101 (.build [.st (.str (ByteArray.mk (#[]))),.full [],.st (.str (ByteArray.mk (#[]))),.full []] [(0,2,.t 97),(2,2,.t 100)]),.i 102 (.buildSlice false 40 4 [.t 101]),.i 103 (.append false 40 4 80 (.t 94) (.t 102)),.m 8 103])))))))))))) (.ops [.i 104 (.bin .add (.t 30) (.n 1)),.m 30 104]))))))) (.seq (.ops [.m 105 8,.m 6 105,.i 7 (.mov (.n 0))]) .ret)))))
theorem Hg:OkF Tryz.prog 74 106 [] ER [.t 6,.t 7]:=.of Tryz.func74 rfl rfl (by kernel_rfl) rfl
def E_:IR :=
 (.seq (.ops [.i 2 (.mov (.c (.one (.full [])))),.i 3 (.mov (.n 0))]) (.seq (.seq (.ops [.m 12 0,.i 13 (.call 73 [.t 12]),.m 4 13]) (.seq (.ops [.m 14 4,.i 15 (.bin .neq (.t 14) (.n 0))]) (.cond (.t 15) (.seq (.ops [.m 16 4,.i 2 (.mov (.c (.one (.full [])))),.m 3 16]) .ret) .skip))) (.seq (.ops [.i 5 (.mov (.c (.one (.full []))))]) (.seq (.seq (.ops [.m 17 0,.i 18 (.len false (.t 17)),.i 19 (.mov (.n 0))]) (.block 0 (.loop (.seq (.ops [.i 20 (.bin .lss (.t 19) (.t 18))]) (.seq (.cond (.t 20) .skip (.exit 0)) (.seq (.block 1 (.seq (.ops [.m 21 19,.i 22 (.indexAddr 4 (.t 17) (.t 19)),.L 23 4 22,.i 7 (.alloc 40 [.st (.str (ByteArray.mk (#[]))),.full [],.st (.str (ByteArray.mk (#[]))),.full []]),.m 6 21,.s 4 7 23]) (.seq (.ops [.m 24 0,.i 25 (.len false (.t 24)),.i 26 (.mov (.n 0))]) (.block 2 (.loop (.seq (.ops [.i 27 (.bin .lss (.t 26) (.t 25))]) (.seq (.cond (.t 27) .skip (.exit 2)) (.seq (.block 3 (.seq (.ops [.m 28 26,.i 29 (.indexAddr 4 (.t 24) (.t 26)),.L 30 4 29,.i 9 (.alloc 40 [.st (.str (ByteArray.mk (#[]))),.full [],.st (.str (ByteArray.mk (#[]))),.full []]),.m 8 28,.s 4 9 30]) (.seq (.ops [.L 32 4 7,.L 33 4 9,.m 34 6,.m 35 8,.i 36 (.bin .eql (.t 34) (.t 35)),.i 37 (.call 74 [.t 32,.t 33,.t 36]),.m 31 37,.i 38 (.extract 0 (.t 31)),.i 39 (.extract 1 (.t 31)),.m 10 38,.m 11 39]) (.seq (.seq (.ops [.m 40 11,.i 41 (.bin .neq (.t 40) (.n 0))]) (.cond (.t 41) (.seq (.ops [.m 42 11,.i 2 (.mov (.c (.one (.full [])))),.m 3 42]) .ret) .skip)) (.seq (.ops [.m 43 5,.m 44 10,.i 45 (.append false 40 4 80 (.t 43) (.t 44)),.m 5 45]) (.seq (.ops [.m 46 5,.i 47 (.len false (.t 46)),.i 48 (.bin .gtr (.t 47) (.n 400))]) (.cond (.t 48) (.seq (.ops [.i 2 (.mov (.c (.one (.full [])))),.i 3 (.mov (.n 3))]) .ret) .skip))))))) (.ops [.i 49 (.bin .add (.t 26) (.n 1)),.m 26 49]))))))))) (.ops [.i 50 (.bin .add (.t 19) (.n 1)),.m 19 50]))))))) (.seq (.ops [.m 51 5,.m 2 51,.i 3 (.mov (.n 0))]) .ret)))))
theorem JN:OkF Tryz.prog 35 52 [] E_ [.t 2,.t 3]:=.of Tryz.func35 rfl rfl (by kernel_rfl) rfl
def CQ:IR :=
 (.seq (.ops [.i 4 (.mov (.c (.one (.st (.bool false))))),.i 5 (.mov (.n 0))]) (.seq (.ops [.m 13 0,.i 14 (.call 35 [.t 13]),.m 12 14,.i 15 (.extract 0 (.t 12)),.i 16 (.extract 1 (.t 12)),.m 6 15,.m 7 16]) (.seq (.seq (.ops [.m 17 7,.i 18 (.bin .eql (.t 17) (.n 0)),.m 19 18,.mk (some 20) (some (19,true)) (.mov (.t 1)) .no,.mk (some 21) (some (19,true)) (.bin .lss (.t 20) (.n 0)) .no,.mk (some 22) (some (19,true)) (.mov (.t 21)) .no,.mk (some 23) (some (22,false)) (.mov (.t 1)) .no,.mk (some 24) (some (22,false)) (.bin .gtr (.t 23) (.n 400)) .no,.mk (some 25) (some (19,true)) (.pick (.t 22) (.c (.one (.st (.bool true)))) (.t 24)) .no,.i 26 (.pick (.t 19) (.t 25) (.c (.one (.st (.bool false)))))]) (.cond (.t 26) (.ops [.i 7 (.mov (.n 10))]) .skip)) (.seq (.seq (.ops [.m 27 7,.i 28 (.bin .neq (.t 27) (.n 0))]) (.cond (.t 28) (.seq (.ops [.m 29 7,.i 4 (.mov (.c (.one (.st (.bool false))))),.m 5 29]) .ret) .skip)) (.seq (.seq (.ops [.m 30 6,.i 31 (.len false (.t 30)),.i 32 (.mov (.n 0))]) (.block 0 (.loop (.seq (.ops [.i 33 (.bin .lss (.t 32) (.t 31))]) (.seq (.cond (.t 33) .skip (.exit 0)) (.seq (.block 1 (.seq (.ops [.i 34 (.indexAddr 4 (.t 30) (.t 32)),.L 35 4 34,.i 9 (.alloc 40 [.st (.str (ByteArray.mk (#[]))),.full [],.st (.str (ByteArray.mk (#[]))),.full []]),.s 4 9 35]) (.seq (.ops [.m 37 0,.f 38 0 9,.L 39 2 38,.f 40 2 9,.L 41 2 40,.m 42 1,.i 43 (.call 36 [.t 37,.t 39,.t 41,.t 42]),.m 36 43,.i 44 (.extract 0 (.t 36)),.i 45 (.extract 1 (.t 36)),.m 10 44,.m 11 45]) (.seq (.seq (.ops [.m 46 11,.i 47 (.bin .neq (.t 46) (.n 0))]) (.cond (.t 47) (.seq (.ops [.m 48 11,.i 4 (.mov (.c (.one (.st (.bool false))))),.m 5 48]) .ret) .skip)) (.seq (.ops [.m 49 10,.i 50 (.un .not (.t 49))]) (.cond (.t 50) (.seq (.ops [.i 4 (.mov (.c (.one (.st (.bool false))))),.i 5 (.mov (.n 0))]) .ret) .skip)))))) (.ops [.i 51 (.bin .add (.t 32) (.n 1)),.m 32 51]))))))) (.seq (.ops [.i 4 (.mov (.c (.one (.st (.bool true))))),.i 5 (.mov (.n 0))]) .ret))))))
theorem Cs:OkF Tryz.prog 13 52 [] CQ [.t 4,.t 5]:=.of Tryz.func13 rfl rfl (by kernel_rfl) rfl

def GV:IR :=
 (.seq (.ops [.i 2 (.mov (.c (.one (.st (.str (ByteArray.mk (#[])))))))]) (.seq (.ops [.m 3 0,.i 4 (.bin .add (.t 3) (.n 1)),.i 5 (.call 123 [.t 4]),.i 6 (.bin .add (.c (.one (.st (.str (ByteArray.mk (#[90])))))) (.t 5)),.m 2 6]) .ret))
theorem Kq:OkF Tryz.prog 102 7 [] GV [.t 2]:=.of Tryz.func102 rfl rfl (by kernel_rfl) rfl

set_option maxHeartbeats 1000000
theorem YM {σ:Sto} {vs:List Value} {x:AV} (h:Af (AQ σ noS noH) vs [x]):∃ v,vs=[v]∧AQ σ noS noH v x:=by
 cases h with
 | cons h1 h2 =>
  cases h2
  exact ⟨_,rfl,h1⟩
theorem V6 (n:Nat) (hn:n < 1000000):AY Tryz.prog 123 [AN n] (Bo (Qe n)):=by
 intro σ w vs hG hF hv
 obtain ⟨v,rfl,h1⟩:=YM hv
 obtain ⟨rfl,hin⟩:=BE h1
 have ht : Lib.TabIs Tryz.prog w "internal/strconv.uint64pow10" .u64 Lib.pow10Tab := hG.ints hF (g := 0) (by kernel_rfl) (by kernel_rfl)
 refine (Any.strconv_Itoa Tryz.laysM171 n (by omega) (by omega) w ht).mono fun e w' ⟨he,k,os,hw⟩=>?_
 have hb:Below w.heap.size w w':=by
  rw [hw]
  exact Lib.below_grow _ _ (Nat.le_refl _) _ _
 have hd:(⟨(Lib.itoa (n:Int)).toArray⟩:ByteArray)=Qe n:=by rw [Lib.itoa_nonneg];rfl
 rw [hd] at he
 refine ⟨_,σ,he,.one (.st (.str ?_)),hF.below hb,Ext.refl _ _,hb⟩
 have:=F0 hn
 rw [HT]
 omega
theorem Vg (k:Nat) (hk:k + 1 < 1000000):AY Tryz.prog 102 [AN k] (Bo (DO k)):=by
 have h:=V6 (k + 1) hk
 rw [show (((k + 1:Nat):Int))=(k:Int) + 1 by omega] at h
 have z:=F0 hk
 have z1:(⟨#[90]⟩:ByteArray).size=1:=rfl
 refine Kq.ac fun C hC=>?_
 unfold GV
 repeat' (first | (with_reducible first | refine W ?_ | refine Z0 ?_ | ((first | refine Wo fun K hK=>?_ | refine Wp ?_ | refine Wq ?_ | refine Wr ?_);(try simp only [go_sem,fN,seval,eT,iR,z1,dT,dF,nL]);(repeat refine Ai ?_);(try (refine hK _ ?_;clear hK K));try refine iC ?_)) | refine Cg _ (h) ?_)
 simp only [go_sem,fN,seval,AR,AS.result,AB,AD,AL]
 rfl

abbrev Cw (l:List Pr):AK:=.arow 40 4 (l.map As)



def Eu:IR :=
 (.seq (.ops [.i 3 (.box 37 (.t 0)),.i 4 (.alloc 37 [.st (.str (ByteArray.mk (#[]))),.full []])]) (.seq (.seq (.ops [.f 8 0 3,.l 9 8,.i 10 (.call 67 [.t 9])]) (.cond (.t 10) (.seq (.seq (.ops [.l 11 1,.f 12 0 3,.l 13 12,.i 14 (.lookup none false (.one (.st (.str (ByteArray.mk (#[]))))) (.t 11) (.t 13)),.i 15 (.bin .eql (.t 14) (.c (.one (.st (.str (ByteArray.mk (#[])))))))]) (.cond (.t 15) (.ops [.l 16 1,.f 17 0 3,.l 18 17,.l 19 1,.i 20 (.lenM (.t 19)),.i 21 (.call 102 [.t 20]),.mk none none (.mapSet none (.t 16) (.t 18) (.t 21)) .no]) .skip)) (.seq (.ops [.l 22 1,.f 23 0 3,.l 24 23,.i 25 (.lookup none false (.one (.st (.str (ByteArray.mk (#[]))))) (.t 22) (.t 24)),.i 26 (.build [.st (.str (ByteArray.mk (#[]))),.full []] [(0,1,.t 25)]),.s 2 4 26]) .ret)) .skip)) (.seq (.ops [.f 27 0 3,.l 28 27,.i 29 (.build [.st (.str (ByteArray.mk (#[]))),.full []] [(0,1,.t 28)]),.i 5 (.alloc 37 [.st (.str (ByteArray.mk (#[]))),.full []]),.s 2 5 29]) (.seq (.seq (.ops [.f 30 1 3,.l 31 30,.i 32 (.len false (.t 31)),.i 33 (.mov (.n 0))]) (.block 0 (.loop (.seq (.ops [.i 34 (.bin .lss (.t 33) (.t 32))]) (.seq (.cond (.t 34) .skip (.exit 0)) (.seq (.block 1 (.seq (.ops [.i 35 (.indexAddr 2 (.t 31) (.t 33)),.L 36 2 35,.i 7 (.alloc 37 [.st (.str (ByteArray.mk (#[]))),.full []]),.s 2 7 36]) (.ops [.mk (some 37) none (.fieldAddr 1 (.t 5)) (.onb 5),.mk (some 38) none (.load false 1 (.t 37)) (.onb 5),.l 39 2,.L 40 2 7,.mk (some 41) none (.callV (.t 39) [.t 40]) (.keeps [5,5]),.i 42 (.buildSlice false 37 2 [.t 41]),.i 43 (.append false 37 2 40 (.t 38) (.t 42)),.f 44 1 5,.s 1 44 43]))) (.ops [.i 45 (.bin .add (.t 33) (.n 1)),.m 33 45]))))))) (.seq (.ops [.L 46 2 5,.s 2 4 46]) .ret)))))
theorem H_:OkF Tryz.prog 101 47 [41] Eu [.cell 4 true 2]:=.of Tryz.func101 rfl rfl (by kernel_rfl) rfl
def FM:IR :=
 (.seq (.ops [.i 2 (.mov (.c (.one (.full []))))]) (.seq (.ops [.i 8 (.makeMap none),.i 3 (.alloc 133 [.st (.lit (.map none))]),.s 1 3 8]) (.seq (.ops [.i 4 (.alloc 73 [.st (.lit .nilFunc)])]) (.seq (.ops [.i 9 (.makeFunc 101 [.t 3,.t 4]),.s 1 4 9]) (.seq (.ops [.i 5 (.mov (.c (.one (.full []))))]) (.seq (.seq (.ops [.m 10 0,.i 11 (.len false (.t 10)),.i 12 (.mov (.n 0))]) (.block 0 (.loop (.seq (.ops [.i 13 (.bin .lss (.t 12) (.t 11))]) (.seq (.cond (.t 13) .skip (.exit 0)) (.seq (.block 1 (.seq (.ops [.i 14 (.indexAddr 2 (.t 10) (.t 12)),.L 15 2 14,.i 7 (.alloc 37 [.st (.str (ByteArray.mk (#[]))),.full []]),.s 2 7 15]) (.ops [.m 16 5,.l 17 4,.L 18 2 7,.i 19 (.callV (.t 17) [.t 18]),.i 20 (.buildSlice false 37 2 [.t 19]),.i 21 (.append false 37 2 40 (.t 16) (.t 20)),.m 5 21]))) (.ops [.i 22 (.bin .add (.t 12) (.n 1)),.m 12 22]))))))) (.seq (.ops [.m 23 5,.m 2 23]) .ret)))))))
theorem Jn:OkF Tryz.prog 71 24 [19] FM [.t 2]:=.of Tryz.func71 rfl rfl (by kernel_rfl) rfl

def Fh (k:Nat):List ByteArray→List (KV × AV)
 | []=>[]
 | n :: l=>(.s n,Bo (DO k)) :: Fh (k + 1) l
abbrev Y9 (l:List ByteArray):AK:=.map none (Fh 0 l)
theorem RB:∀ (l:List ByteArray) (k:Nat),(Fh k l).length=l.length
 | [],_=>rfl
 | n :: l,k=>by rw [Fh,List.length_cons,List.length_cons,RB l]
theorem Jz:∀ (l:List ByteArray) (k:Nat) (n:ByteArray),DR (Fh k l) (.s n)=if Bu l n < l.length then some (Bo (DO (k + Bu l n))) else none
 | [],k,n=>by simp [Fh,DR,Bu]
 | x :: l,k,n=>by
  rw [Fh,DR,Bu]
  by_cases e:x=n
  ·rw [if_pos (congrArg KV.s e),if_pos e]
   simp
  ·rw [if_neg (fun h=>e (KV.s.inj h)),if_neg e,Jz l (k + 1) n,List.length_cons]
   by_cases h:Bu l n < l.length
   ·rw [if_pos h,if_pos (by omega),show k + 1 + Bu l n=k + (Bu l n + 1) by omega]
   ·rw [if_neg h,if_neg (by omega)]
theorem NW:∀ {l:List ByteArray} {k:Nat} {n:ByteArray},¬ Bu l n < l.length→∀ v,Kl (Fh k l) (.s n) v=Fh k l ++ [(.s n,v)]
 | [],k,n,h,v=>rfl
 | x :: l,k,n,h,v=>by
  rw [Bu] at h
  by_cases e:x=n
  ·rw [if_pos e] at h;simp at h
  ·rw [if_neg e] at h
   rw [Fh,Kl,if_neg (fun h=>e (KV.s.inj h)),NW (by simpa using h),List.cons_append]
theorem OZ:∀ (l:List ByteArray) (k:Nat) (n:ByteArray),Fh k (l ++ [n])=Fh k l ++ [(.s n,Bo (DO (k + l.length)))]
 | [],k,n=>by simp [Fh]
 | x :: l,k,n=>by
  rw [List.cons_append,Fh,OZ l (k + 1) n,Fh,List.cons_append,List.length_cons,show k + 1 + l.length=k + (l.length + 1) by omega]
theorem Xy (k:Nat):¬ DO k=⟨#[]⟩:=fun h=>by
 have h1:=L2 k
 rw [h] at h1
 have:(⟨#[]⟩:ByteArray).size=0:=rfl
 omega
theorem TI {l:List ByteArray} {n:ByteArray} (h:Bu l n < l.length):JC false (Bo ⟨#[]⟩) (DR (Fh 0 l) (.s n))=Bo (DO (Bu l n)):=by
 rw [Jz,if_pos h,Nat.zero_add]
 rfl
theorem XW {l:List ByteArray} {n:ByteArray} (h:¬ Bu l n < l.length):JC false (Bo ⟨#[]⟩) (DR (Fh 0 l) (.s n))=Bo ⟨#[]⟩:=by
 rw [Jz,if_neg h]
 rfl
theorem Yt {l:List ByteArray} {n:ByteArray} (h:¬ Bu l n < l.length):Kl (Fh 0 l) (.s n) (Bo (DO l.length))=Fh 0 (Em l n):=by
 rw [NW h,show Em l n=l ++ [n] by unfold Em;rw [if_neg h],OZ,Nat.zero_add]
abbrev R9 (n0 f0:Nat):AC:=.fn 101 [.ptr n0 1 0 0,.ptr f0 1 0 0]
theorem Zo (t:Tm) (hz:t.size≤1000000):∀ (n0 f0 m0:Nat) (e1 e2:TypeId) (l:List ByteArray) (S:AA),1000≤n0→1000≤f0→1000≤m0→¬ n0=m0→¬ f0=m0→l.length + t.size≤900000 →
  S n0=some (.box e1 [.mptr m0])→S f0=some (.box e2 [R9 n0 f0])→S m0=some (Y9 l) →
  Ah Tryz.prog 101 [aTm t,.one (.ptr n0 1 0 0),.one (.ptr f0 1 0 0)] S (aTm (t.cn l).1) (AG S m0 (some (Y9 (t.cn l).2))):=by
 induction h:SizeOf.sizeOf t using Nat.strongRecOn generalizing t with
 | _ N ih =>
 subst h
 intro n0 f0 m0 e1 e2 l S hn0 hf0 hm0 hnm hfm hl hSn hSf hSm
 have hs:=Tm.size_eq t
 have hln:=Tm.length_le t.args
 refine H_.acS fun hS C hC=>?_
 have k3:S 3=none:=AJ hS (by omega)
 have k4:S 4=none:=AJ hS (by omega)
 have k5:S 5=none:=AJ hS (by omega)
 have k7:S 7=none:=AJ hS (by omega)
 have k900:S 900=none:=AJ hS (by omega)
 have a3:¬ n0=3:=by omega
 have a4:¬ n0=4:=by omega
 have a5:¬ n0=5:=by omega
 have a7:¬ n0=7:=by omega
 have a900:¬ n0=900:=by omega
 have b3:¬ f0=3:=by omega
 have b4:¬ f0=4:=by omega
 have b5:¬ f0=5:=by omega
 have b7:¬ f0=7:=by omega
 have b900:¬ f0=900:=by omega
 have c3:¬ m0=3:=by omega
 have c4:¬ m0=4:=by omega
 have c5:¬ m0=5:=by omega
 have c7:¬ m0=7:=by omega
 have c900:¬ m0=900:=by omega
 have d3:¬ 3=m0:=by omega
 have d4:¬ 4=m0:=by omega
 have d5:¬ 5=m0:=by omega
 have d7:¬ 7=m0:=by omega
 have d900:¬ 900=m0:=by omega
 have hplain:B6 Tryz.prog 101=true:=by kernel_rfl
 unfold Eu
 repeat' with_reducible first | refine W ?_ | refine Z0 ?_ | ((first | refine Wo fun K hK=>?_ | refine Wp ?_ | refine Wq ?_ | refine Wr ?_);(try simp only [go_sem,fN,seval,eT,iR,k3,k4,dT,dF,nL]);(repeat refine Ai ?_);(try (refine hK _ ?_;clear hK K));try refine iC ?_)
 refine ⟨_,Al _,?_⟩
 cases hv:AP t.name with
 | true =>
  have hcn:=Z4 (l:=l) hv
  by_cases hp:Bu l t.name < l.length
  ·have hadd:Em l t.name=l:=by unfold Em;rw [if_pos hp]
   have hne:=Xy (Bu l t.name)
   repeat' with_reducible first | refine W ?_ | refine Z0 ?_ | ((first | refine Wo fun K hK=>?_ | refine Wp ?_ | refine Wq ?_ | refine Wr ?_);(try simp only [go_sem,fN,seval,eT,iR,hv,hSn,hSf,hSm,k3,k4,a3,a4,c3,c4,d3,d4,De,Iq,KV.of,TI,hp,hne,dT,dF,nL]);(repeat refine Ai ?_);(try (refine hK _ ?_;clear hK K));try refine iC ?_)
   rw [hcn,hadd]
   refine Bi (.agg [.st (.str (DO (Bu l t.name))),.full []]) hS hm0 rfl trivial ?_ ?_ ?_ fun i hi hne=>?_
   ·simp only [go_sem,fN,seval,eT,iR,AB,AD,AL]
   ·simp only [go_sem,fN,seval,eT,iR]
    rfl
   ·simp only [go_sem,fN,seval,eT,iR,c3,c4,hSm]
   ·have i3:¬ i=3:=by omega
    have i4:¬ i=4:=by omega
    simp only [go_sem,fN,seval,eT,iR,i3,i4]
  ·have hpn:Bu l t.name=l.length:=by have:=To l t.name;omega
   have hel:=RB l 0
   have hp2:Bu (Em l t.name) t.name < (Em l t.name).length:=by
    unfold Em
    rw [if_neg hp,HL hp,List.length_append,List.length_singleton]
    omega
   have hp3:Bu (Em l t.name) t.name=l.length:=by
    unfold Em
    rw [if_neg hp,HL hp]
   have hlk2:JC false (Bo ⟨#[]⟩) (DR (Fh 0 (Em l t.name)) (.s t.name))=Bo (DO l.length):=by rw [TI hp2,hp3]
   repeat' (first | (with_reducible first | refine W ?_ | refine Z0 ?_ | ((first | refine Wo fun K hK=>?_ | refine Wp ?_ | refine Wq ?_ | refine Wr ?_);(try simp only [go_sem,fN,seval,eT,iR,hv,hSn,hSf,hSm,k3,k4,a3,a4,c3,c4,d3,d4,hnm,De,Iq,KV.of,XW,hp,hel,Yt,hlk2,dT,dF,nL]);(repeat refine Ai ?_);(try (refine hK _ ?_;clear hK K));try refine iC ?_)) | refine Cg _ (Vg l.length (by omega)) ?_)
   rw [hcn,hpn]
   refine Bi (.agg [.st (.str (DO l.length)),.full []]) hS hm0 rfl trivial ?_ ?_ ?_ fun i hi hne=>?_
   ·simp only [go_sem,fN,seval,eT,iR,AB,AD,AL,d4]
   ·simp only [go_sem,fN,seval,eT,iR]
    rfl
   ·simp only [go_sem,fN,seval,eT,iR,c3,c4,hSm]
   ·have i3:¬ i=3:=by omega
    have i4:¬ i=4:=by omega
    simp only [go_sem,fN,seval,eT,iR,i3,i4,hne]
 | false =>
  have hcn:=ZB (l:=l) hv
  repeat' with_reducible first | refine W ?_ | refine Z0 ?_ | ((first | refine Wo fun K hK=>?_ | refine Wp ?_ | refine Wq ?_ | refine Wr ?_);(try simp only [go_sem,fN,seval,eT,iR,hv,k3,k4,k5,dT,dF,nL]);(repeat refine Ai ?_);(try (refine hK _ ?_;clear hK K));try refine iC ?_)
  refine IWP.ghost (Aa.ownC 5 1 900 37 2 (xs:=([]:List Tm).map Ao) (by rfl) (by rfl) (by simp only [go_sem,fN,seval,eT,iR,k900]) Do) ?_
  refine IWP.loopD [7] (fun m x=>∃ k,k≤t.args.length∧m=t.args.length - k∧x.env 1=.one (.ptr n0 1 0 0)∧x.env 2=.one (.ptr f0 1 0 0)∧x.env 4=.one (.ptr 4 1 0 0)∧x.env 5=.one (.ptr 5 1 0 0)∧x.env 31=F6 t.args∧x.env 32=AN t.args.length∧x.env 33=AN k ∧
    x.S 4=some (.box 37 [.st (.str ⟨#[]⟩),.full []])∧x.S 5=some (.box 37 [.st (.str t.name),.row 900 k])∧x.S 900=some (.arow 37 2 ((Tm.cnL (t.args.take k) l).1.map Ao))∧x.S 7=none∧x.S n0=some (.box e1 [.mptr m0])∧x.S f0=some (.box e2 [R9 n0 f0])∧x.S m0=some (Y9 (Tm.cnL (t.args.take k) l).2)∧∀ i,1000≤i→i ≠ m0→x.S i=S i)
   t.args.length ⟨0,Nat.zero_le _,rfl,rfl,rfl,rfl,rfl,rfl,rfl,rfl,by simp only [go_sem,fN,seval,eT,iR],by (simp only [go_sem,fN,seval,eT,iR];rfl),rfl,by simp only [go_sem,fN,seval,eT,iR,k7],by simp only [go_sem,fN,seval,eT,iR,a3,a4,a5,a900,hSn],by simp only [go_sem,fN,seval,eT,iR,b3,b4,b5,b900,hSf],by (simp only [go_sem,fN,seval,eT,iR,c3,c4,c5,c900,hSm];rfl),fun i hi hne=>?_⟩ ?_
  ·have i3:¬ i=3:=by omega
   have i4:¬ i=4:=by omega
   have i5:¬ i=5:=by omega
   have i900:¬ i=900:=by omega
   simp only [go_sem,fN,seval,eT,iR,i3,i4,i5,i900]
  rintro m ⟨env,S1⟩ ⟨k,hk,rfl,v1,v2,v4,v5,v31,v32,v33,s4,s5,s900,s7,sn,sf,sm,hrest⟩
  simp only at v1 v2 v4 v5 v31 v32 v33 s4 s5 s900 s7 sn sf sm hrest
  have hlk:(Tm.cnL (t.args.take k) l).1.length=k:=by rw [Ol,List.length_take];omega
  have hnl:=D1 (t.args.take k) l
  by_cases hlt:(k:Int) < t.args.length
  ·obtain ⟨x,hx⟩:=Aj (show k < t.args.length by omega)
   have z1:=Tm.sizes_take hx
   have z2:=Tm.sizes_take_le t.args (k + 1)
   have hstep:=RG (l:=l) hx
   repeat' with_reducible first | refine W ?_ | refine Z0 ?_ | ((first | refine Wo fun K hK=>?_ | refine Wp ?_ | refine Wq ?_ | refine Wr ?_);(try simp only [go_sem,fN,seval,eT,iR,v1,v2,v4,v5,v31,v32,v33,s4,s5,s900,s7,sn,sf,sm,hlt,hx,hplain,a7,b7,c7,d7,d5,dT,dF,nL]);(repeat refine Ai ?_);(try (refine hK _ ?_;clear hK K));try refine iC ?_)
   refine ⟨_,_,ih _ (Tm.lt_of_arg (AU hx)) x (by omega) rfl (up1 n0) (up1 f0) (up1 m0) e1 e2 (Tm.cnL (t.args.take k) l).2 _ (Ap n0) (Ap f0) (Ap m0) (fun e=>hnm (Nat.add_right_cancel e)) (fun e=>hfm (Nat.add_right_cancel e)) (by omega) (by rw [At];(simp only [go_sem,fN,seval,eT,iR,a7,sn])) (by rw [At];(simp only [go_sem,fN,seval,eT,iR,b7,sf])) (by rw [At];(simp only [go_sem,fN,seval,eT,iR,c7,sm])),?_⟩
   repeat' with_reducible first | refine W ?_ | refine Z0 ?_ | ((first | refine Wo fun K hK=>?_ | refine Wp ?_ | refine Wq ?_ | refine Wr ?_);(try simp only [go_sem,fN,seval,eT,iR,v1,v2,v4,v5,v31,v32,v33,s4,s5,s900,s7,sn,sf,sm,a7,b7,c7,d7,d5,d900,c5,c900,a5,a900,b5,b900,hlk,hnm,hfm,dT,dF,nL]);(repeat refine Ai ?_);(try (refine hK _ ?_;clear hK K));try refine iC ?_)
   refine AH ⟨t.args.length - (k + 1),by omega,k + 1,by omega,rfl,?_⟩
   rw [hstep]
   have hnb:(n0 == 7)=false:=by simp;omega
   have hfb:(f0 == 7)=false:=by simp;omega
   have hmb:(m0 == 7)=false:=by simp;omega
   simp only [go_sem,fN,seval,AS.drop,Ac,AC.clears,AC.clear,AC.highs,AC.high,zD,AV.purge,AV.purges,AC.purge,AK.purge,Nat.reduceBEq,eT,iR,v1,v2,v4,v5,v31,v32,v33,s4,s5,s900,s7,sn,sf,sm,a7,b7,c7,d7,d5,d900,c5,c900,a5,a900,b5,b900,hnb,hfb,hmb,hnm,hfm,d4]
   refine ⟨by congr 3,?_,fun i hi hne=>?_⟩
   ·rw [List.map_append,List.map_cons,List.map_nil,An]
   ·have i5:¬ i=5:=by omega
    have i7:¬ i=7:=by omega
    have i7b:(i == 7)=false:=by simp;omega
    have i900:¬ i=900:=by omega
    simp only [go_sem,fN,seval,AS.drop,Ac,AC.clears,AC.clear,AC.highs,AC.high,zD,AV.purge,AV.purges,AC.purge,AK.purge,Nat.reduceBEq,eT,iR,i5,i7,i7b,i900,hne]
    rw [hrest i hi hne]
    exact SP (by decide) fun b hb=>(hS i b hb).2
  ·rw [List.take_of_length_le (by omega)] at sm s900 hlk
   repeat' with_reducible first | refine W ?_ | refine Z0 ?_ | ((first | refine Wo fun K hK=>?_ | refine Wp ?_ | refine Wq ?_ | refine Wr ?_);(try simp only [go_sem,fN,seval,eT,iR,v4,v5,v31,v32,v33,s4,s5,hlt,dT,dF,nL]);(repeat refine Ai ?_);(try (refine hK _ ?_;clear hK K));try refine iC ?_)
   rw [hcn]
   refine Bi (.agg [.st (.str t.name),.row 900 k]) hS hm0 rfl trivial ?_ ?_ ?_ fun i hi hne=>?_
   ·simp only [go_sem,fN,seval,eT,iR,AB,AD,AL,v4]
   ·simp only [go_sem,fN,seval,eT,iR,s900,hlk]
    rfl
   ·simp only [go_sem,fN,seval,eT,iR,c4,sm]
   ·have i4:¬ i=4:=by omega
    simp only [go_sem,fN,seval,eT,iR,i4]
    exact hrest i hi hne

theorem KR (t:Tm):t.varsOf.length≤t.size:=by
 have:=Dd t.knots []
 rw [Tm.knots_length] at this
 simpa [Tm.varsOf] using this

theorem Qp (L:List Tm) (hz:Tm.sizes L≤800000):AY Tryz.prog 71 [F6 L] (F6 (Tm.cnL L []).1):=by
 have hplain:B6 Tryz.prog 101=true:=by kernel_rfl
 have hln:=Tm.length_le L
 refine Jn.ac fun C hC=>?_
 unfold FM
 repeat' with_reducible first | refine W ?_ | refine Z0 ?_ | ((first | refine Wo fun K hK=>?_ | refine Wp ?_ | refine Wq ?_ | refine Wr ?_);(try simp only [go_sem,fN,seval,eT,iR,AS.caps,dT,dF,nL]);(repeat refine Ai ?_);(try (refine hK _ ?_;clear hK K));try refine iC ?_)
 refine IWP.ghost (Aa.own 5 900 37 2 (xs:=([]:List Tm).map Ao) (by rfl) (by rfl) Do (by rw [hC];decide)) ?_
 refine IWP.loopD [7] (fun m x=>∃ k,k≤L.length∧m=L.length - k∧x.env 4=.one (.ptr 4 1 0 0)∧x.env 5=.one (.row 900 k)∧x.env 10=F6 L∧x.env 11=AN L.length∧x.env 12=AN k∧x.S 900=some (.arow 37 2 ((Tm.cnL (L.take k) []).1.map Ao))∧x.S 7=none∧(∃ e1,x.S 3=some (.box e1 [.mptr 8]))∧(∃ e2,x.S 4=some (.box e2 [R9 3 4]))∧x.S 8=some (Y9 (Tm.cnL (L.take k) []).2)) L.length ⟨0,Nat.zero_le _,rfl,rfl,rfl,rfl,rfl,rfl,rfl,rfl,⟨_,rfl⟩,⟨_,rfl⟩,rfl⟩ ?_
 rintro m ⟨env,S⟩ ⟨k,hk,rfl,v4,v5,v10,v11,v12,s900,s7,⟨e1,s3⟩,⟨e2,s4⟩,s8⟩
 simp only at v4 v5 v10 v11 v12 s900 s7 s3 s4 s8
 have hlk:(Tm.cnL (L.take k) []).1.length=k:=by rw [Ol,List.length_take];omega
 have hnl:=D1 (L.take k) []
 rw [List.length_nil] at hnl
 by_cases hlt:(k:Int) < L.length
 ·obtain ⟨x,hx⟩:=Aj (show k < L.length by omega)
  have z1:=Tm.sizes_take hx
  have z2:=Tm.sizes_take_le L (k + 1)
  have hstep:=RG (l:=[]) hx
  repeat' with_reducible first | refine W ?_ | refine Z0 ?_ | ((first | refine Wo fun K hK=>?_ | refine Wp ?_ | refine Wq ?_ | refine Wr ?_);(try simp only [go_sem,fN,seval,eT,iR,v4,v5,v10,v11,v12,s900,s7,s3,s4,s8,hplain,hlt,hx,dT,dF,nL]);(repeat refine Ai ?_);(try (refine hK _ ?_;clear hK K));try refine iC ?_)
  refine ⟨_,_,Zo x (by omega) (up1 3) (up1 4) (up1 8) e1 e2 (Tm.cnL (L.take k) []).2 _ (Ap 3) (Ap 4) (Ap 8) (by decide) (by decide) (by omega) (by rw [At];(simp only [go_sem,fN,seval,eT,iR,s3])) (by rw [At];(simp only [go_sem,fN,seval,eT,iR,s4])) (by rw [At];(simp only [go_sem,fN,seval,eT,iR,s8])),?_⟩
  repeat' with_reducible first | refine W ?_ | refine Z0 ?_ | ((first | refine Wo fun K hK=>?_ | refine Wp ?_ | refine Wq ?_ | refine Wr ?_);(try simp only [go_sem,fN,seval,eT,iR,v4,v5,v10,v11,v12,s900,s7,s3,s4,s8,hlk,dT,dF,nL]);(repeat refine Ai ?_);(try (refine hK _ ?_;clear hK K));try refine iC ?_)
  refine AH ⟨L.length - (k + 1),by omega,k + 1,by omega,rfl,?_⟩
  rw [hstep]
  simp only [go_sem,fN,seval,AS.drop,Ac,AC.clears,AC.clear,AC.highs,AC.high,zD,AV.purge,AV.purges,AC.purge,AK.purge,Nat.reduceBEq,eT,iR,v4,v5,v10,v11,v12,s900,s7,s3,s4,s8]
  exact ⟨by congr 3,by rw [List.map_append,List.map_cons,List.map_nil,An],⟨_,rfl⟩,⟨_,rfl⟩⟩
 ·rw [List.take_of_length_le (by omega)] at s900 hlk
  repeat' with_reducible first | refine W ?_ | refine Z0 ?_ | ((first | refine Wo fun K hK=>?_ | refine Wp ?_ | refine Wq ?_ | refine Wr ?_);(try simp only [go_sem,fN,seval,eT,iR,v5,v10,v11,v12,s900,hlt,dT,dF,nL]);(repeat refine Ai ?_);(try (refine hK _ ?_;clear hK K));try refine iC ?_)
  simp only [go_sem,fN,seval,AR,AS.result,AB,AD,AL,s900,hlk]
  try rfl

theorem Y2 {s s':List Bd} (h:∀ n,lookup s n=lookup s' n) (t:Tm):t.on s=t.on s':=by
 induction hN:SizeOf.sizeOf t using Nat.strongRecOn generalizing t with
 | _ N ih =>
 subst hN
 have hmap:t.args.map (Tm.on s)=t.args.map (Tm.on s'):=List.map_congr_left fun a ha=>ih _ (Tm.lt_of_arg ha) a rfl
 by_cases h0:t.args=[]
 ·cases hl:lookup s t.name with
  | some x=>rw [Tm.on_leaf hl h0,Tm.on_leaf (by rw [← h];exact hl) h0]
  | none=>rw [Tm.on_knot (.inl hl),Tm.on_knot (.inl (by rw [← h];exact hl)),hmap]
 ·rw [Tm.on_knot (.inr h0),Tm.on_knot (.inr h0),hmap]
theorem NK {c:UInt8} {k:Nat} {V:List ByteArray} (h:V.Nodup):Bp (nmB c k V):=by
 unfold Bp
 rw [Ja]
 exact h
theorem OL {c:UInt8} {k:Nat} {V:List ByteArray} (h:V.Nodup) {t:Tm} (hz:t.size≤200) (hs:(t.on (nmB c k V)).size=t.size):BD (Bb (nmB c k V)) t=(t.on (nmB c k V),true):=by
 have e:t.on (Bb (nmB c k V))=t.on (nmB c k V):=Y2 (fun n=>Q8 (Cr _) (NK h) n) t
 unfold BD
 rw [e,if_pos (by omega)]
theorem UM {c:UInt8} {V:List ByteArray} {j:Nat} {v:ByteArray} (k:Nat) (hv:V[j]?=some v):nmB c k (V.take (j + 1))=nmB c k (V.take j) ++ [(v,.mk (Fn c (k + j)) [])]:=by
 have hl:=(List.getElem?_eq_some_iff.1 hv).1
 rw [Au hv,P1,List.length_take,Nat.min_eq_left (by omega)]
theorem TX (c:UInt8) (h65:65≤c.toNat) (h90:c.toNat≤90) {r:Pr} (h1:r.1.may=0) (h2:r.2.may=0):AY Tryz.prog 107 [aPr r,Bo ⟨#[c]⟩] (aPr (Ew c 1 r)):=by
 obtain ⟨c1,z1⟩:=Tm.may_chk h1
 obtain ⟨c2,z2⟩:=Tm.may_chk h2
 have hvl:=KR r.1
 have hz1:(⟨#[c]⟩:ByteArray).size=1:=rfl
 have hvo:=Sh r.1 (by omega)
 have f1:=Fu (k:=1) h65 h90 (by omega) (show r.1.varsOf.length≤1000 by omega) c1
 have f2:=Fu (k:=1) h65 h90 (by omega) (show r.1.varsOf.length≤1000 by omega) c2
 have hnd:=PP r.1
 have hvv:=P9 r.1
 unfold Ew
 generalize r.1.varsOf=V at *
 have hnm:Bp (nmB c 1 V):=NK hnd
 have hvs:∀ b ∈ Bb (nmB c 1 V),AP b.1=true:=fun b hb=>by
  have:=List.mem_map_of_mem (f:=(·.1)) ((Cr _).mem_iff.1 hb)
  rw [Ja] at this
  exact hvv _ this
 have hsl:(Bb (nmB c 1 V)).length=V.length:=by rw [Bc,Og]
 have o1:=Lg (Bb (nmB c 1 V)) (by omega) (Bz hnm) r.1 hvs c1
 have o2:=Lg (Bb (nmB c 1 V)) (by omega) (Bz hnm) r.2 hvs c2
 rw [OL hnd z1 f1.2] at o1
 rw [OL hnd z2 f2.2] at o2
 refine JD.ac fun C hC=>?_
 unfold E7
 repeat' (first | (with_reducible first | refine W ?_ | refine Z0 ?_ | ((first | refine Wo fun K hK=>?_ | refine Wp ?_ | refine Wq ?_ | refine Wr ?_);(try simp only [go_sem,fN,seval,eT,iR,dT,dF,nL]);(repeat refine Ai ?_);(try (refine hK _ ?_;clear hK K));try refine iC ?_)) | refine Cg _ (hvo) ?_)
 refine IWP.ghost (Aa.ownM 5 500 82 3 rfl rfl (by rw [hC];decide)) ?_
 refine IWP.loop (fun m x=>∃ j,j≤V.length∧m=V.length - j∧x.env 1=Bo ⟨#[c]⟩∧x.env 2=.one (.ptr 2 1 0 0)∧x.env 4=.one (.ptr 4 1 0 0)∧x.env 14=CX V∧x.env 15=AN V.length∧x.env 5=.one (.row 500 j)∧x.env 16=AN j∧x.S 8=none∧x.S 10=none∧x.S 500=some (BW (nmB c 1 (V.take j)))∧x.S 2=some (.box 40 [.st (.str r.1.name),.st (.list (r.1.args.map Ao)),.st (.str r.2.name),.st (.list (r.2.args.map Ao))])∧x.S 4=some (.box 40 [.st (.str ⟨#[]⟩),.full [],.st (.str ⟨#[]⟩),.full []])) V.length ⟨0,Nat.zero_le _,rfl,rfl,rfl,rfl,rfl,rfl,rfl,rfl,rfl,rfl,rfl,rfl,rfl⟩ ?_
 rintro m ⟨env,S⟩ ⟨j,hj,rfl,e1,e2,e4,e14,e15,e5,e16,s8,s10,s500,s2,s4⟩
 simp only at e1 e2 e4 e14 e15 e5 e16 s8 s10 s500 s2 s4
 have hzl:=Og c (V.take j) 1
 rw [List.length_take,Nat.min_eq_left hj] at hzl
 by_cases hjl:(j:Int) < V.length
 ·obtain ⟨v,hv⟩:=Aj (show j < V.length by omega)
  have hdec:=V6 (j + 1) (by omega)
  have hsz:=F0 (n:=j + 1) (by omega)
  rw [show (((j + 1:Nat):Int))=(j:Int) + 1 by omega] at hdec
  repeat' (first | (with_reducible first | refine W ?_ | refine Z0 ?_ | ((first | refine Wo fun K hK=>?_ | refine Wp ?_ | refine Wq ?_ | refine Wr ?_);(try simp only [go_sem,fN,seval,eT,iR,e1,e2,e4,e14,e15,e5,e16,s500,s2,s4,hjl,hv,hzl,hz1,Cx,dT,dF,nL]);(repeat refine Ai ?_);(try (refine hK _ ?_;clear hK K));try refine iC ?_)) | refine Cg _ (hdec) ?_)
  refine AH ⟨V.length - (j + 1),by omega,j + 1,by omega,rfl,?_⟩
  rw [BW,UM 1 hv,List.map_append]
  simp only [go_sem,fN,seval,eT,iR,e1,e2,e4,e14,e15,s2,s4,s8,s10]
  rw [Nat.add_comm 1 j]
  refine ⟨by congr 3,?_⟩
  rfl
 ·obtain rfl:j=V.length:=by omega
  rw [List.take_of_length_le (by omega)] at s500 hzl
  repeat' with_reducible first | refine W ?_ | refine Z0 ?_ | ((first | refine Wo fun K hK=>?_ | refine Wq ?_ | refine Wr ?_);(try simp only [go_sem,fN,seval,eT,iR,e15,e16,hjl]);(repeat refine Ai ?_);(try (refine hK _ ?_;clear hK K)))
  with_reducible refine Wp ?_
  simp only [go_sem,fN,seval,true_implies,false_implies,implies_true,dT,dF,nL,hjl]
  (try with_reducible refine iC ?_)
  repeat' (with_reducible first | refine Wb ?_ | refine Wc ?_ | refine Wd ?_ | refine We ?_ | refine Wg ?_ | refine Wh ?_ | refine Wi ?_ | refine Wj ?_ | refine Wk (by decide) ?_ | refine Wl ?_ | refine Wm ?_ | refine Wn ?_)
  have hs:=SN (nmB c 1 V) hnm (by omega) (up1 500) (Ap 500) (upS S) (by rw [At,s500];rfl)
  rw [hzl] at hs
  refine IWP.mid (fun x=>x.env 2=.one (.ptr 2 1 0 0)∧x.env 4=.one (.ptr 4 1 0 0)∧x.env 5=.one (.row 500 V.length)∧x.S 8=none∧x.S 10=none∧x.S 500=some (BW (Bb (nmB c 1 V)))∧x.S 2=some (.box 40 [.st (.str r.1.name),.st (.list (r.1.args.map Ao)),.st (.str r.2.name),.st (.list (r.2.args.map Ao))])∧x.S 4=some (.box 40 [.st (.str ⟨#[]⟩),.full [],.st (.str ⟨#[]⟩),.full []])) ?_ ?_
  ·repeat' with_reducible first | refine W ?_ | refine Z0 ?_ | ((first | refine Wo fun K hK=>?_ | refine Wq ?_ | refine Wr ?_);(try simp only [go_sem,fN,seval,eT,iR,e2,e4,e5,s2,s4]);(repeat refine Ai ?_);(try (refine hK _ ?_;clear hK K)))
   refine ⟨_,_,hs,?_⟩
   repeat' with_reducible first | refine W ?_ | refine Z0 ?_ | ((first | refine Wo fun K hK=>?_ | refine Wq ?_ | refine Wr ?_);(try simp only [go_sem,fN,seval,eT,iR,e2,e4,e5,s2,s4]);(repeat refine Ai ?_);(try (refine hK _ ?_;clear hK K)))
   refine ⟨rfl,?_⟩
   simp only [go_sem,fN,seval,eT,iR,e2,e4,s2,s4,s8,s10]
  rintro ⟨env,S⟩ ⟨e2,e4,e5,s8,s10,s500,s2,s4⟩
  simp only at e2 e4 e5 s8 s10 s500 s2 s4
  refine IWP.ghost (Aa.share (id:=500) s500) ?_
  repeat' (first | (with_reducible first | refine W ?_ | refine Z0 ?_ | ((first | refine Wo fun K hK=>?_ | refine Wp ?_ | refine Wq ?_ | refine Wr ?_);(try simp only [go_sem,fN,seval,eT,iR,e2,e4,e5,s2,s4,s8,s10,hsl,dT,dF,nL]);(repeat refine Ai ?_);(try (refine hK _ ?_;clear hK K));try refine iC ?_)) | refine Cg _ (o1) ?_ | refine Cg _ (o2) ?_)
  simp only [go_sem,fN,seval,AR,AS.result,AB,AD,AL,e4,s4]

def KF:IR :=
 (.seq (.ops [.i 1 (.box 37 (.t 0)),.i 2 (.mov (.c (.one (.full []))))]) (.seq (.ops [.i 8 (.buildFlat []),.i 9 (.buildSlice false 32 1 [.t 8]),.m 3 9]) (.seq (.seq (.ops [.f 10 1 1,.l 11 10,.i 12 (.len false (.t 11)),.i 13 (.mov (.n 0))]) (.block 0 (.loop (.seq (.ops [.i 14 (.bin .lss (.t 13) (.t 12))]) (.seq (.cond (.t 14) .skip (.exit 0)) (.seq (.block 1 (.seq (.ops [.m 15 13,.i 16 (.indexAddr 2 (.t 11) (.t 13)),.L 17 2 16,.i 5 (.alloc 37 [.st (.str (ByteArray.mk (#[]))),.full []]),.m 4 15,.s 2 5 17]) (.seq (.ops [.L 18 2 5,.i 19 (.call 108 [.t 18]),.i 20 (.len false (.t 19)),.i 21 (.mov (.n 0))]) (.block 2 (.loop (.seq (.ops [.i 22 (.bin .lss (.t 21) (.t 20))]) (.seq (.cond (.t 22) .skip (.exit 2)) (.seq (.block 3 (.seq (.ops [.i 23 (.indexAddr 1 (.t 19) (.t 21)),.l 24 23,.m 7 24]) (.ops [.m 25 3,.m 26 4,.i 27 (.buildFlat [.t 26]),.m 28 7,.i 29 (.append false 3 1 8 (.t 27) (.t 28)),.i 30 (.buildSlice false 32 1 [.t 29]),.i 31 (.append false 32 1 24 (.t 25) (.t 30)),.m 3 31]))) (.ops [.i 32 (.bin .add (.t 21) (.n 1)),.m 21 32]))))))))) (.ops [.i 33 (.bin .add (.t 13) (.n 1)),.m 13 33]))))))) (.seq (.ops [.m 34 3,.m 2 34]) .ret))))
theorem QA:OkF Tryz.prog 108 35 [] KF [.t 2]:=.of Tryz.func108 rfl rfl (by kernel_rfl) rfl
def H2:IR :=
 (.seq (.ops [.i 2 (.box 37 (.t 0)),.i 4 (.alloc 37 [.st (.str (ByteArray.mk (#[]))),.full []]),.i 5 (.mov (.c (.one (.st (.bool false)))))]) (.seq (.seq (.ops [.m 8 1,.i 9 (.len false (.t 8)),.i 10 (.mov (.n 0))]) (.block 0 (.loop (.seq (.ops [.i 11 (.bin .lss (.t 10) (.t 9))]) (.seq (.cond (.t 11) .skip (.exit 0)) (.seq (.block 1 (.seq (.ops [.i 12 (.indexAddr 1 (.t 8) (.t 10)),.l 13 12,.m 7 13]) (.seq (.seq (.ops [.m 14 7,.i 15 (.bin .lss (.t 14) (.n 0)),.m 16 15,.mk (some 17) (some (16,false)) (.mov (.t 7)) .no,.mk (some 18) (some (16,false)) (.fieldAddr 1 (.t 2)) .no,.mk (some 19) (some (16,false)) (.load false 1 (.t 18)) .no,.mk (some 20) (some (16,false)) (.len false (.t 19)) .no,.mk (some 21) (some (16,false)) (.bin .geq (.t 17) (.t 20)) .no,.i 22 (.pick (.t 16) (.c (.one (.st (.bool true)))) (.t 21))]) (.cond (.t 22) (.seq (.ops [.i 23 (.build [.st (.str (ByteArray.mk (#[]))),.full []] []),.s 2 4 23,.i 5 (.mov (.c (.one (.st (.bool false)))))]) .ret) .skip)) (.ops [.f 24 1 2,.l 25 24,.m 26 7,.i 27 (.indexAddr 2 (.t 25) (.t 26)),.L 28 2 27,.s 2 2 28])))) (.ops [.i 29 (.bin .add (.t 10) (.n 1)),.m 10 29]))))))) (.seq (.ops [.L 30 2 2,.s 2 4 30,.i 5 (.mov (.c (.one (.st (.bool true)))))]) .ret)))
theorem M9:OkF Tryz.prog 109 31 [] H2 [.cell 4 true 2,.t 5]:=.of Tryz.func109 rfl rfl (by kernel_rfl) rfl
def Fy:IR :=
 (.seq (.ops [.i 3 (.box 37 (.t 0)),.i 5 (.box 37 (.t 2)),.i 6 (.alloc 37 [.st (.str (ByteArray.mk (#[]))),.full []])]) (.seq (.seq (.ops [.m 7 1,.i 8 (.len false (.t 7)),.i 9 (.bin .eql (.t 8) (.n 0))]) (.cond (.t 9) (.seq (.ops [.L 10 2 5,.i 11 (.call 42 [.t 10]),.s 2 6 11]) .ret) .skip)) (.seq (.ops [.L 12 2 3,.i 13 (.callS 42 [.t 12]),.s 2 3 13]) (.seq (.ops [.f 14 1 3,.l 15 14,.m 16 1,.i 17 (.indexAddr 1 (.t 16) (.n 0)),.l 18 17,.f 19 1 3,.l 20 19,.m 21 1,.i 22 (.indexAddr 1 (.t 21) (.n 0)),.l 23 22,.i 24 (.indexAddr 2 (.t 20) (.t 23)),.L 25 2 24,.m 26 1,.i 27 (.sliceL 1 (.t 26) (some (.n 1)) none),.L 28 2 5,.i 29 (.call 111 [.t 25,.t 27,.t 28]),.i 30 (.indexAddr 2 (.t 15) (.t 18)),.s 2 30 29]) (.seq (.ops [.L 31 2 3,.s 2 6 31]) .ret)))))
theorem I4:OkF Tryz.prog 111 32 [13] Fy [.cell 6 true 2]:=.of Tryz.func111 rfl rfl (by kernel_rfl) rfl
def Ho:IR :=
 (.seq (.ops [.i 1 (.box 37 (.t 0)),.i 2 (.alloc 37 [.st (.str (ByteArray.mk (#[]))),.full []])]) (.seq (.ops [.f 6 0 1,.l 7 6,.i 8 (.build [.st (.str (ByteArray.mk (#[]))),.full []] [(0,1,.t 7)]),.i 3 (.alloc 37 [.st (.str (ByteArray.mk (#[]))),.full []]),.s 2 3 8]) (.seq (.seq (.ops [.f 9 1 1,.l 10 9,.i 11 (.len false (.t 10)),.i 12 (.mov (.n 0))]) (.block 0 (.loop (.seq (.ops [.i 13 (.bin .lss (.t 12) (.t 11))]) (.seq (.cond (.t 13) .skip (.exit 0)) (.seq (.block 1 (.seq (.ops [.i 14 (.indexAddr 2 (.t 10) (.t 12)),.L 15 2 14,.i 5 (.alloc 37 [.st (.str (ByteArray.mk (#[]))),.full []]),.s 2 5 15]) (.ops [.f 16 1 3,.l 17 16,.L 18 2 5,.i 19 (.call 42 [.t 18]),.i 20 (.buildSlice false 37 2 [.t 19]),.i 21 (.append true 37 2 40 (.t 17) (.t 20)),.f 22 1 3,.s 1 22 21]))) (.ops [.i 23 (.bin .add (.t 12) (.n 1)),.m 12 23]))))))) (.seq (.ops [.L 24 2 3,.s 2 2 24]) .ret))))
theorem Mm:OkF Tryz.prog 42 25 [21] Ho [.cell 2 true 2]:=.of Tryz.func42 rfl rfl (by kernel_rfl) rfl



theorem Zt (t:Tm) (hz:t.size≤1000000):AY Tryz.prog 108 [aTm t] (Zh t.places):=by
 induction h:SizeOf.sizeOf t using Nat.strongRecOn generalizing t with
 | _ N ih =>
 subst h
 have hs:=Tm.size_eq t
 have hkn:=Tm.length_le t.args
 refine QA.ac fun C hC=>?_
 unfold KF
 repeat' with_reducible first | refine W ?_ | refine Z0 ?_ | ((first | refine Wo fun K hK=>?_ | refine Wp ?_ | refine Wq ?_ | refine Wr ?_);(try simp only [go_sem,fN,seval,eT,iR,dT,dF,nL]);(repeat refine Ai ?_);(try (refine hK _ ?_;clear hK K));try refine iC ?_)
 refine IWP.ghost (Aa.own 3 60 32 1 (xs:=([[]]:List (List Int)).map T3) (by simp only [go_sem,fN,seval,eT,iR];rfl) rfl (by simp) (by omega)) ?_
 refine IWP.loopD [5] (fun m s=>∃ k,k≤t.args.length∧m=t.args.length - k∧s.env 11=F6 t.args∧s.env 12=AN t.args.length∧s.env 3=.one (.row 60 (t.placesTo k).length)∧s.S 60=some (.arow 32 1 ((t.placesTo k).map T3))∧s.env 13=AN k∧s.S 29=none∧s.S 5=none)
  t.args.length ⟨0,Nat.zero_le _,rfl,rfl,rfl,rfl,rfl,rfl,rfl,rfl⟩ ?_
 rintro m ⟨env,S⟩ ⟨k,hk,rfl,e11,e12,e3,s60,e13,s29,s5⟩
 simp only at e11 e12 e3 s60 e13 s29 s5
 by_cases hlt:(k:Int) < t.args.length
 ·obtain ⟨a,ha⟩:=Aj (show k < t.args.length by omega)
  have hsz:=Tm.size_mem (AU ha)
  have hpl:=Tm.places_length a
  have hto:=Tm.placesTo_length t k
  have hst:=Tm.sizes_take ha
  have hst2:=Tm.sizes_take_le t.args (k + 1)
  repeat' (first | (with_reducible first | refine W ?_ | refine Z0 ?_ | ((first | refine Wo fun K hK=>?_ | refine Wp ?_ | refine Wq ?_ | refine Wr ?_);(try simp only [go_sem,fN,seval,eT,iR,e11,e12,e3,s60,e13,s5,hlt,ha,dT,dF,nL]);(repeat refine Ai ?_);(try (refine hK _ ?_;clear hK K));try refine iC ?_)) | refine Cg _ (ih _ (Tm.lt_of_arg (AU ha)) a (by omega) rfl) ?_)
  refine IWP.loopD [29] (fun m s=>∃ i,i≤a.places.length∧m=a.places.length - i∧s.env 11=F6 t.args∧s.env 12=AN t.args.length∧s.env 3=.one (.row 60 (t.placesTo k ++ (a.places.take i).map fun p=>(k:Int) :: p).length)∧s.S 60=some (.arow 32 1 ((t.placesTo k ++ (a.places.take i).map fun p=>(k:Int) :: p).map T3))∧s.env 4=AN k∧s.env 13=AN k∧s.env 19=Zh a.places∧s.env 20=AN a.places.length∧s.env 21=AN i∧s.S 29=none)
   a.places.length ⟨0,Nat.zero_le _,rfl,?_⟩ ?_
  ·simp only [go_sem,fN,seval,eT,iR,e11,e12,e3,s60,e13,s29]
  rintro m ⟨env,S⟩ ⟨i,hi,rfl,e11,e12,e3,s60,e4,e13,e19,e20,e21,s29⟩
  simp only at e11 e12 e3 s60 e4 e13 e19 e20 e21 s29
  have hlen:(t.placesTo k ++ (a.places.take i).map fun p=>(k:Int) :: p).length≤1000000:=by
   rw [List.length_append,List.length_map,List.length_take]
   omega
  by_cases hli:(i:Int) < a.places.length
  ·obtain ⟨p,hp⟩:=Aj (show i < a.places.length by omega)
   have hd:=Tm.places_deep a p (AU hp)
   repeat' with_reducible first | refine W ?_ | refine Z0 ?_ | ((first | refine Wo fun K hK=>?_ | refine Wp ?_ | refine Wq ?_ | refine Wr ?_);(try simp only [go_sem,fN,seval,eT,iR,e11,e12,e3,s60,e4,e13,e19,e20,e21,s29,hli,hp,dT,dF,nL]);(repeat refine Ai ?_);(try (refine hK _ ?_;clear hK K));try refine iC ?_)
   refine AH ⟨a.places.length - (i + 1),by omega,i + 1,by omega,rfl,?_⟩
   simp only [go_sem,fN,seval,AS.drop,Ac,AC.clears,AC.clear,AC.highs,AC.high,zD,AV.purge,AV.purges,AC.purge,AK.purge,Nat.reduceBEq,eT,iR,e11,e12,e3,s60,e4,e13,e19,e20,e21,s29]
   rw [Au hp]
   refine ⟨?_,?_,by congr 3⟩
   ·simp
    omega
   ·simp
  ·have e9:(t.placesTo k ++ (a.places.take i).map fun p=>(k:Int) :: p)=t.placesTo (k + 1):=by
    rw [List.take_of_length_le (by omega),Tm.placesTo_succ ha]
   rw [e9] at e3 s60
   repeat' with_reducible first | refine W ?_ | refine Z0 ?_ | ((first | refine Wo fun K hK=>?_ | refine Wp ?_ | refine Wq ?_ | refine Wr ?_);(try simp only [go_sem,fN,seval,eT,iR,e11,e12,e3,s60,e4,e13,e19,e20,e21,s29,hli,dT,dF,nL]);(repeat refine Ai ?_);(try (refine hK _ ?_;clear hK K));try refine iC ?_)
   refine AH ⟨t.args.length - (k + 1),by omega,k + 1,by omega,rfl,?_⟩
   simp only [go_sem,fN,seval,AS.drop,Ac,AC.clears,AC.clear,AC.highs,AC.high,zD,AV.purge,AV.purges,AC.purge,AK.purge,Nat.reduceBEq,eT,iR,e11,e12,e3,s60,e4,e13,s29]
   congr 3
 ·repeat' with_reducible first | refine W ?_ | refine Z0 ?_ | ((first | refine Wo fun K hK=>?_ | refine Wp ?_ | refine Wq ?_ | refine Wr ?_);(try simp only [go_sem,fN,seval,eT,iR,e11,e12,e3,s60,e13,hlt,dT,dF,nL]);(repeat refine Ai ?_);(try (refine hK _ ?_;clear hK K));try refine iC ?_)
  simp only [go_sem,fN,seval,AR,AS.result,AB,AD,AL,e3,s60]
  rw [Tm.placesTo_all (by omega)]
theorem Xq (t:Tm) (p:List Int) (hp:p.length≤1000000):AY Tryz.prog 109 [aTm t,RU p] (.tup [aTm ((t.atP p).getD Tm.nil),Ad (t.atP p).isSome]):=by
 refine M9.ac fun C hC=>?_
 unfold H2
 repeat' with_reducible first | refine W ?_ | refine Z0 ?_ | ((first | refine Wo fun K hK=>?_ | refine Wp ?_ | refine Wq ?_ | refine Wr ?_);(try simp only [go_sem,fN,seval,eT,iR,dT,dF,nL]);(repeat refine Ai ?_);(try (refine hK _ ?_;clear hK K));try refine iC ?_)
 refine IWP.loop (fun m s=>∃ k x,k≤p.length∧m=p.length - k∧t.atP p=x.atP (p.drop k)∧s.env 2=.one (.ptr 2 1 0 0)∧s.env 4=.one (.ptr 4 1 0 0)∧s.env 8=RU p∧s.env 9=AN p.length∧s.env 10=AN k∧s.S 2=some (.box 37 [.st (.str x.name),.st (.list (x.args.map Ao))])∧s.S 4=some (.box 37 [.st (.str ⟨#[]⟩),.full []])) p.length ⟨0,t,Nat.zero_le _,rfl,rfl,rfl,rfl,rfl,rfl,rfl,rfl,rfl⟩ ?_
 rintro m ⟨env,S⟩ ⟨k,x,hk,rfl,hx,e2,e4,e8,e9,e10,s2,s4⟩
 simp only at e2 e4 e8 e9 e10 s2 s4
 rw [hx]
 by_cases hlt:(k:Int) < p.length
 ·obtain ⟨i,hi⟩:=Aj (show k < p.length by omega)
  have hd:=BQ hi
  rw [hd,Tm.atP_cons] at hx ⊢
  by_cases h0:i < 0
  ·rw [if_pos h0]
   repeat' with_reducible first | refine W ?_ | refine Z0 ?_ | ((first | refine Wo fun K hK=>?_ | refine Wp ?_ | refine Wq ?_ | refine Wr ?_);(try simp only [go_sem,fN,seval,eT,iR,e2,e4,e8,e9,e10,s2,s4,hlt,hi,h0,dT,dF,nL]);(repeat refine Ai ?_);(try (refine hK _ ?_;clear hK K));try refine iC ?_)
   simp only [go_sem,fN,seval,AR,AS.result,AB,AD,AL,e4,s4]
   try rfl
  ·rw [if_neg h0] at hx ⊢
   by_cases h1:i < x.args.length
   ·obtain ⟨a,ha⟩:=Aj (show i.toNat < x.args.length by omega)
    rw [ha] at hx ⊢
    obtain ⟨n,rfl⟩:∃ n:Nat,i=n:=⟨i.toNat,by omega⟩
    rw [Int.toNat_natCast] at ha
    have h2:¬ (x.args.length:Int)≤(n:Int):=by omega
    repeat' with_reducible first | refine W ?_ | refine Z0 ?_ | ((first | refine Wo fun K hK=>?_ | refine Wp ?_ | refine Wq ?_ | refine Wr ?_);(try simp only [go_sem,fN,seval,eT,iR,e2,e4,e8,e9,e10,s2,s4,hlt,hi,h0,h2,ha,dT,dF,nL]);(repeat refine Ai ?_);(try (refine hK _ ?_;clear hK K));try refine iC ?_)
    refine AH ⟨p.length - (k + 1),by omega,k + 1,a,by omega,rfl,rfl,?_⟩
    simp only [go_sem,fN,seval,eT,iR,e2,e4,e8,e9,s4]
    congr 3
   ·rw [List.getElem?_eq_none (by omega)]
    have h2:(x.args.length:Int)≤i:=by omega
    repeat' with_reducible first | refine W ?_ | refine Z0 ?_ | ((first | refine Wo fun K hK=>?_ | refine Wp ?_ | refine Wq ?_ | refine Wr ?_);(try simp only [go_sem,fN,seval,eT,iR,e2,e4,e8,e9,e10,s2,s4,hlt,hi,h0,h2,dT,dF,nL]);(repeat refine Ai ?_);(try (refine hK _ ?_;clear hK K));try refine iC ?_)
    simp only [go_sem,fN,seval,AR,AS.result,AB,AD,AL,e4,s4]
    try rfl
 ·have hd:p.drop k=[]:=List.drop_of_length_le (by omega)
  rw [hd,Tm.atP_nil]
  repeat' with_reducible first | refine W ?_ | refine Z0 ?_ | ((first | refine Wo fun K hK=>?_ | refine Wp ?_ | refine Wq ?_ | refine Wr ?_);(try simp only [go_sem,fN,seval,eT,iR,e2,e4,e8,e9,e10,s2,s4,hlt,dT,dF,nL]);(repeat refine Ai ?_);(try (refine hK _ ?_;clear hK K));try refine iC ?_)
  simp only [go_sem,fN,seval,AR,AS.result,AB,AD,AL,e4,s4]
  try rfl
section
variable {C:Ctx} {s:AS}
theorem Aa.ownCW (id j nid:Nat) (e:TypeId) (wd:Nat) {ty:TypeId} {cs:List AC} (hb:s.S id=some (.box ty cs)) (hc:cs[j]?=some (.full [])) (hn:s.S nid=none) :
  Aa C s ((s.set nid (.mrow e wd [])).set id (.box ty (cs.set j (.row nid 0)))):=fun a w ⟨σ,ι,R⟩=>by
 have hbk:=R.blk id _ hb
 have hne:id ≠ nid:=fun e=>by subst e;rw [hb] at hn;cases hn
 cases hbk with
 | @box _ _ g vs h1 h2 h3 h4 h5 =>
  obtain ⟨v,hv,hr⟩:=h4.get hc
  cases hr with
  | @full p len _ hs =>
   have hl:len=0:=by
    obtain ⟨p',cap',e1,_⟩:=Ca hs
    cases e1
    rfl
   subst hl
   obtain ⟨hu,R'⟩:=R.fresh (w':=w) hn (.mrow e wd []) ⟨p,0,none⟩ (Ext.refl _ _) R.fit (Below.refl _ _) (by simp) (fun S' ι' hu=>.mnil rfl rfl)
   have hb':(s.set nid (.mrow e wd [])).S id=some (.box ty cs):=by simp [AS.set,AF _ hne,hb]
   have hι:AG ι nid ⟨p,0,none⟩ id=ι id:=AF _ hne _
   obtain ⟨hu2,R2⟩:=R'.turn (w':=w) hb' (.box ty (cs.set j (.row nid 0))) (AG ι nid ⟨p,0,none⟩ id) (σ':=σ) (fun _ _ h=>h) (fun _ _ _=>rfl) R.fit (Nat.le_refl _) (fun _=>⟨by simp [AK.wid],rfl⟩) ⟨rfl,rfl,rfl⟩ (Nat.le_refl _) (fun _ _ _=>rfl) (fun g h=>.inl h) (fun hu2=>by
    refine .box (by rw [hι];exact h1) (by rw [hι];exact h2) h3 (Af.of_get (by rw [List.length_set];exact h4.len) fun k u c hu' hck=>?_) h5
    by_cases hk:k=j
    ·subst hk
     rw [hv] at hu'
     cases hu'
     have hlt:k < cs.length:=(List.getElem?_eq_some_iff.1 hc).1
     rw [List.getElem?_set_self hlt] at hck
     cases hck
     exact .row (b:=.mrow e wd []) (by simp [AS.set,AG,hne.symm]) (Nat.le_refl _) rfl fun _=>by simp [AG,hne.symm]
    ·rw [List.getElem?_set_ne (fun e=>hk e.symm)] at hck
     obtain ⟨u',q1,q2⟩:=h4.get hck
     rw [hu'] at q1
     cases q1
     exact (q2.mono (fun _ _ h=>h) hu).mono (fun _ _ h=>h) hu2)
   exact ⟨_,_,R2⟩
end
theorem YN (t:Tm) (hz:t.size≤1000000) (a0:Nat) (S:AA) (ha:1000≤a0) (hSa:S a0=none):Ah Tryz.prog 42 [aTm t] S (.agg [.st (.str t.name),.row a0 t.args.length]) (AG S a0 (some (.mrow 37 2 (t.args.map Ao)))):=by
 have hs:=Tm.size_eq t
 have hkn:=Tm.length_le t.args
 refine Mm.acS fun hS C hC=>?_
 unfold Ho
 have k1:S 1=none:=AJ hS (by omega)
 have k2:S 2=none:=AJ hS (by omega)
 have k3:S 3=none:=AJ hS (by omega)
 have k5:S 5=none:=AJ hS (by omega)
 have k21:S 21=none:=AJ hS (by omega)
 repeat' with_reducible first | refine W ?_ | refine Z0 ?_ | ((first | refine Wo fun K hK=>?_ | refine Wq ?_ | refine Wr ?_);(try simp only [go_sem,fN,seval,eT,iR,AS.startS,k1,k2,k3]);(repeat refine Ai ?_);(try (refine hK _ ?_;clear hK K)))
 refine IWP.ghost (Aa.ownCW 3 1 21 37 2 (by rfl) (by rfl) (by simp only [go_sem,fN,seval,eT,iR,k21])) ?_
 refine IWP.loopD [5] (fun m s=>∃ k,k≤t.args.length∧m=t.args.length - k∧s.env 2=.one (.ptr 2 1 0 0)∧s.env 3=.one (.ptr 3 1 0 0)∧s.S 2=some (.box 37 [.st (.str ⟨#[]⟩),.full []])∧s.S 3=some (.box 37 [.st (.str t.name),.row 21 k])∧s.S 21=some (.mrow 37 2 ((t.args.take k).map Ao))∧s.env 10=.one (.st (.list (t.args.map Ao)))∧s.env 11=AN t.args.length∧s.env 12=AN k∧s.S 5=none∧∀ i,1000≤i→s.S i=S i)
  t.args.length ⟨0,Nat.zero_le _,rfl,rfl,rfl,by simp only [go_sem,fN,seval,eT,iR],by (simp only [go_sem,fN,seval,eT,iR];rfl),by simp only [go_sem,fN,seval,eT,iR],rfl,rfl,rfl,by simp only [go_sem,fN,seval,eT,iR,k5],fun i hi=>?_⟩ ?_
 ·have i1:¬ i=1:=by omega
  have i2:¬ i=2:=by omega
  have i3:¬ i=3:=by omega
  have i21:¬ i=21:=by omega
  simp only [go_sem,fN,seval,eT,iR,i1,i2,i3,i21]
 rintro m ⟨env,S1⟩ ⟨k,hk,rfl,e2,e3,s2,s3,s21,e10,e11,e12,s5,hrest⟩
 simp only at e2 e3 s2 s3 s21 e10 e11 e12 s5 hrest
 have hlk:(t.args.take k).length=k:=by rw [List.length_take];omega
 by_cases hlt:(k:Int) < t.args.length
 ·obtain ⟨a,ha'⟩:=Aj (show k < t.args.length by omega)
  repeat' (first | (with_reducible first | refine W ?_ | refine Z0 ?_ | ((first | refine Wo fun K hK=>?_ | refine Wp ?_ | refine Wq ?_ | refine Wr ?_);(try simp only [go_sem,fN,seval,eT,iR,e2,e3,s2,s3,s21,e10,e11,e12,s5,hlt,ha',hlk,dT,dF,nL]);(repeat refine Ai ?_);(try (refine hK _ ?_;clear hK K));try refine iC ?_)) | refine Cg _ (J5 a (by have:=Tm.size_mem (AU ha');omega)) ?_)
  refine AH ⟨t.args.length - (k + 1),by omega,k + 1,by omega,rfl,?_⟩
  simp only [go_sem,fN,seval,AS.drop,Ac,AC.clears,AC.clear,AC.highs,AC.high,zD,AV.purge,AV.purges,AC.purge,AK.purge,Nat.reduceBEq,eT,iR,e2,e3,s2,s3,s21,e10,e11,e12,s5]
  refine ⟨by rw [Au ha'];simp [An],by congr 3,fun i hi=>?_⟩
  have i3:¬ i=3:=by omega
  have i5:¬ i=5:=by omega
  have i5b:(i == 5)=false:=by simp;omega
  have i21:¬ i=21:=by omega
  simp only [go_sem,fN,seval,AS.drop,Ac,AC.clears,AC.clear,AC.highs,AC.high,zD,AV.purge,AV.purges,AC.purge,AK.purge,Nat.reduceBEq,eT,iR,i3,i5,i5b,i21]
  rw [hrest i hi]
  cases hb:S i with
  | none=>rfl
  | some b=>simp [AK.purge_high (ds:=[5]) (by decide) (hS i b hb).2]
 ·obtain rfl:k=t.args.length:=by omega
  rw [List.take_of_length_le (by omega)] at s21
  repeat' with_reducible first | refine W ?_ | refine Z0 ?_ | ((first | refine Wo fun K hK=>?_ | refine Wp ?_ | refine Wq ?_ | refine Wr ?_);(try simp only [go_sem,fN,seval,eT,iR,e2,e3,s2,s3,s21,e10,e11,e12,s5,hlt,dT,dF,nL]);(repeat refine Ai ?_);(try (refine hK _ ?_;clear hK K));try refine iC ?_)
  rw [show (.agg [.st (.str t.name),.row a0 t.args.length]:AV)=AV.ren (Bn 21 a0) (.agg [.st (.str t.name),.row 21 t.args.length]) by simp [AV.ren,AC.ren,AC.rens,Bn]]
  have n2:¬ a0=2:=by omega
  have n2':∀ i,1000≤i→¬ i=2:=fun i hi=>by omega
  refine Ob trivial 21 a0 _ (b0:=.mrow 37 2 (t.args.map Ao)) (by omega) ha ?_ ?_ rfl ?_ ?_ ?_ ?_ (BP hS ha rfl)
  ·simp [AG,n2,hrest a0 ha,hSa]
  ·simp [AG,s21]
  ·intro i b hi hb
   have hb:AG S1 2 _ i=some b:=hb
   rw [AF _ (n2' i hi),hrest i hi] at hb
   exact (hS i b hb).2
  ·simp [AB,AD,AL,AG,e2,C2,PB]
  ·simp [AV.ren,AC.ren,AC.rens,AV.high,AC.high,AC.highs,Bn,ha]
  ·rw [JG _ (by omega)]
   congr 1
   funext i
   show (if i < 1000 then none else S1 i)=S i
   by_cases hi:i < 1000
   ·rw [if_pos hi,AJ hS hi]
   ·rw [if_neg hi,hrest i (by omega)]
theorem S_ (x:Tm) (hx:x.size≤1000000):∀ (p:List Int) (t:Tm),p.length≤1000000→t.atP p ≠ none→t.size≤1000000→AY Tryz.prog 111 [aTm t,RU p,aTm x] (aTm (t.putP p x))
 | [],t,_,_,_=>by
  rw [Tm.putP_nil]
  refine I4.ac fun C hC=>?_
  unfold Fy
  repeat' (first | (with_reducible first | refine W ?_ | refine Z0 ?_ | ((first | refine Wo fun K hK=>?_ | refine Wp ?_ | refine Wq ?_ | refine Wr ?_);(try simp only [go_sem,fN,seval,eT,iR,dT,dF,nL]);(repeat refine Ai ?_);(try (refine hK _ ?_;clear hK K));try refine iC ?_)) | refine Cg _ (J5 x hx) ?_)
  simp only [go_sem,fN,seval,AR,AS.result,AB,AD,AL]
 | i :: p,t,hpl,hp,hz=>by
  rw [Tm.atP_cons] at hp
  have h0:¬ i < 0:=fun h=>hp (by rw [if_pos h])
  rw [if_neg h0] at hp
  obtain ⟨a,ha⟩:∃ a,t.args[i.toNat]?=some a:=by
   cases h:t.args[i.toNat]? with
   | none=>rw [h] at hp;exact absurd rfl hp
   | some a=>exact ⟨a,rfl⟩
  rw [ha] at hp
  obtain ⟨n,rfl⟩:∃ n:Nat,i=n:=⟨i.toNat,by omega⟩
  rw [Int.toNat_natCast] at ha
  rw [Tm.putP_at ha]
  have hlt:n < t.args.length:=(List.getElem?_eq_some_iff.1 ha).1
  have hlt':(n:Int) < t.args.length:=by omega
  have hsz:=Tm.size_mem (List.mem_of_getElem? ha)
  have hszq:=Tm.size_eq t
  have ih:=S_ x hx p a (by simp at hpl;omega) hp (by omega)
  have hl0:¬ (((p.length + 1:Nat):Int)=0):=by omega
  have hseq:=Tm.size_eq t
  refine I4.ac fun C hC=>?_
  unfold Fy
  repeat' with_reducible first | refine W ?_ | refine Z0 ?_ | ((first | refine Wo fun K hK=>?_ | refine Wp ?_ | refine Wq ?_ | refine Wr ?_);(try simp only [go_sem,fN,seval,eT,iR,hl0,dT,dF,nL]);(repeat refine Ai ?_);(try (refine hK _ ?_;clear hK K));try refine iC ?_)
  refine ⟨_,_,YN t hz (up1 13) _ (Ap 13) (by rw [At];rfl),?_⟩
  have htk:List.take p.length (List.map R_ p)=List.map R_ p:=List.take_of_length_le (by simp)
  have hl1:(t.args.set n (a.putP p x)).length=t.args.length:=by simp
  refine Wr ?_
  simp only [go_sem,fN,seval,eT,iR]
  refine hK _ ?_
  clear hK K
  refine Wb ?_
  refine IWP.mid (fun y=>y.env 3=.one (.ptr 3 1 0 0)∧y.env 6=.one (.ptr 6 1 0 0)∧y.S 3=some (.box 37 [.st (.str t.name),.row 13 t.args.length])∧y.S 6=some (.box 37 [.st (.str ⟨#[]⟩),.full []])∧y.S 13=some (.mrow 37 2 ((t.args.set n (a.putP p x)).map Ao))) ?_ ?_
  ·repeat' (first | (with_reducible first | refine W ?_ | refine Z0 ?_ | ((first | refine Wo fun K hK=>?_ | refine Wp ?_ | refine Wq ?_ | refine Wr ?_);(try simp only [go_sem,fN,seval,eT,iR,ha,hlt',htk,dT,dF,nL]);(repeat refine Ai ?_);(try (refine hK _ ?_;clear hK K));try refine iC ?_)) | refine Cg _ (ih) ?_)
   refine ⟨rfl,?_⟩
   simp only [go_sem,fN,seval,eT,iR,ha,hlt']
   rw [List.map_set,An]
  rintro ⟨env,S⟩ ⟨e3,e6,s3,s6,s13⟩
  simp only at e3 e6 s3 s6 s13
  refine IWP.ghost (Aa.share (id:=13) s13) ?_
  repeat' with_reducible first | refine W ?_ | refine Z0 ?_ | ((first | refine Wo fun K hK=>?_ | refine Wp ?_ | refine Wq ?_ | refine Wr ?_);(try simp only [go_sem,fN,seval,eT,iR,e3,e6,s3,s6,hl1,dT,dF,nL]);(repeat refine Ai ?_);(try (refine hK _ ?_;clear hK K));try refine iC ?_)
  simp only [go_sem,fN,seval,AR,AS.result,AB,AD,AL,e6,s6,hl1]
  try rfl

def Bv:IR :=
 (.seq (.ops [.i 4 (.mov (.c (.one (.st (.bool false)))))]) (.seq (.ops [.m 5 0,.m 6 1,.i 7 (.callS 125 [.t 5,.t 6]),.i 8 (.bin .geq (.t 7) (.n 0)),.m 4 8]) .ret))
theorem Cy:OkF Tryz.prog 105 9 [7] Bv [.t 4]:=.of Tryz.func105 rfl rfl (by kernel_rfl) rfl
def B9:IR :=
 (.seq (.ops [.i 4 (.mov (.n 0))]) (.seq (.seq (.ops [.m 6 0,.i 7 (.len false (.t 6)),.i 8 (.mov (.n 0))]) (.block 0 (.loop (.seq (.ops [.i 9 (.bin .lss (.t 8) (.t 7))]) (.seq (.cond (.t 9) .skip (.exit 0)) (.seq (.block 1 (.seq (.ops [.m 10 8,.m 5 10]) (.seq (.ops [.m 11 1,.m 12 0,.m 13 5,.i 14 (.indexAddr 1 (.t 12) (.t 13)),.l 15 14,.i 16 (.callV (.t 11) [.t 15])]) (.cond (.t 16) (.seq (.ops [.m 17 5,.m 4 17]) .ret) .skip)))) (.ops [.i 18 (.bin .add (.t 8) (.n 1)),.m 8 18]))))))) (.seq (.ops [.i 4 (.mov (.c (.one (.st (.int .i64 (-1))))))]) .ret)))
theorem DQ:OkF Tryz.prog 125 19 [] B9 [.t 4]:=.of Tryz.func125 rfl rfl (by kernel_rfl) rfl
def Ek:IR :=
 (.seq (.ops [.i 3 (.mov (.c (.one (.st (.bool false)))))]) (.seq (.ops [.l 4 1,.m 5 0,.i 6 (.call 68 [.t 4,.t 5]),.i 7 (.un .not (.t 6)),.m 3 7]) .ret))
theorem IV:OkF Tryz.prog 106 8 [] Ek [.t 3]:=.of Tryz.func106 rfl rfl (by kernel_rfl) rfl
def FY:IR :=
 (.seq (.ops [.i 2 (.mov (.n 0))]) (.seq (.seq (.ops [.m 7 0,.i 8 (.len false (.t 7)),.i 9 (.bin .gtr (.t 8) (.n 40))]) (.cond (.t 9) (.seq (.ops [.i 2 (.mov (.n 3))]) .ret) .skip)) (.seq (.seq (.ops [.m 10 0,.i 11 (.len false (.t 10)),.i 12 (.mov (.n 0))]) (.block 0 (.loop (.seq (.ops [.i 13 (.bin .lss (.t 12) (.t 11))]) (.seq (.cond (.t 13) .skip (.exit 0)) (.seq (.block 1 (.seq (.ops [.i 14 (.indexAddr 4 (.t 10) (.t 12)),.L 15 4 14,.i 4 (.alloc 40 [.st (.str (ByteArray.mk (#[]))),.full [],.st (.str (ByteArray.mk (#[]))),.full []]),.s 4 4 15]) (.seq (.seq (.ops [.f 16 0 4,.L 17 2 16,.f 18 2 4,.L 19 2 18,.i 20 (.call 103 [.t 17,.t 19]),.m 5 20]) (.seq (.ops [.m 21 5,.i 22 (.bin .neq (.t 21) (.n 0))]) (.cond (.t 22) (.seq (.ops [.m 23 5,.m 2 23]) .ret) .skip))) (.seq (.seq (.ops [.f 24 0 4,.f 25 0 24,.l 26 25,.i 27 (.call 67 [.t 26])]) (.cond (.t 27) (.seq (.ops [.i 2 (.mov (.n 2))]) .ret) .skip)) (.seq (.ops [.f 28 0 4,.L 29 2 28,.i 30 (.call 104 [.t 29]),.i 6 (.alloc 26 [.full []]),.s 1 6 30]) (.seq (.ops [.f 31 2 4,.L 32 2 31,.i 33 (.call 104 [.t 32]),.i 34 (.makeFunc 106 [.t 6]),.i 35 (.callS 105 [.t 33,.t 34])]) (.cond (.t 35) (.seq (.ops [.i 2 (.mov (.n 15))]) .ret) .skip))))))) (.ops [.i 36 (.bin .add (.t 12) (.n 1)),.m 12 36]))))))) (.seq (.ops [.i 2 (.mov (.n 0))]) .ret))))
theorem Jy:OkF Tryz.prog 73 37 [35] FY [.t 2]:=.of Tryz.func73 rfl rfl (by kernel_rfl) rfl
def GF:IR :=
 (.seq (.ops [.i 3 (.box 37 (.t 1)),.i 4 (.mov (.n 0))]) (.seq (.seq (.ops [.m 6 0,.i 7 (.call 73 [.t 6]),.m 5 7]) (.seq (.ops [.m 8 5,.i 9 (.bin .neq (.t 8) (.n 0))]) (.cond (.t 9) (.seq (.ops [.m 10 5,.m 4 10]) .ret) .skip))) (.seq (.ops [.L 11 2 3,.i 12 (.call 46 [.t 11]),.m 4 12]) .ret)))
theorem Kp:OkF Tryz.prog 39 13 [] GF [.t 4]:=.of Tryz.func39 rfl rfl (by kernel_rfl) rfl
def EL:IR :=
 (.seq (.ops [.i 4 (.box 37 (.t 1)),.i 6 (.alloc 37 [.st (.str (ByteArray.mk (#[]))),.full []]),.i 7 (.mov (.n 0)),.i 8 (.mov (.n 0))]) (.seq (.seq (.ops [.m 14 2,.m 9 14]) (.block 0 (.loop (.seq (.seq (.ops [.m 15 9,.m 16 0,.i 17 (.len false (.t 16)),.i 18 (.bin .lss (.t 15) (.t 17))]) (.cond (.t 18) .skip (.exit 0))) (.seq (.block 1 (.seq (.ops [.m 22 0,.m 23 9,.i 24 (.indexAddr 4 (.t 22) (.t 23)),.f 25 0 24,.L 26 2 25,.L 27 2 4,.i 28 (.call 112 [.t 26,.t 27]),.m 21 28,.i 29 (.extract 0 (.t 21)),.i 30 (.extract 1 (.t 21)),.m 10 29,.m 11 30]) (.seq (.ops [.m 31 11]) (.cond (.t 31) (.seq (.ops [.m 33 10,.m 34 0,.m 35 9,.i 36 (.indexAddr 4 (.t 34) (.t 35)),.f 37 2 36,.L 38 2 37,.i 39 (.call 110 [.t 33,.t 38]),.m 32 39,.i 40 (.extract 0 (.t 32)),.i 41 (.extract 1 (.t 32)),.i 12 (.alloc 37 [.st (.str (ByteArray.mk (#[]))),.full []]),.s 2 12 40,.m 13 41]) (.seq (.seq (.ops [.m 42 13,.i 43 (.un .not (.t 42))]) (.cond (.t 43) (.seq (.ops [.i 44 (.build [.st (.str (ByteArray.mk (#[]))),.full []] []),.m 45 9,.s 2 6 44,.m 7 45,.i 8 (.mov (.n 8))]) .ret) .skip)) (.seq (.ops [.L 46 2 12,.m 47 9,.s 2 6 46,.m 7 47,.i 8 (.mov (.n 0))]) .ret))) .skip)))) (.ops [.m 19 9,.i 20 (.bin .add (.t 19) (.n 1)),.m 9 20])))))) (.seq (.ops [.i 48 (.build [.st (.str (ByteArray.mk (#[]))),.full []] []),.s 2 6 48,.i 7 (.mov (.c (.one (.st (.int .i64 (-1)))))),.i 8 (.mov (.n 0))]) .ret)))
theorem GQ:OkF Tryz.prog 78 49 [] EL [.cell 6 true 2,.t 7,.t 8]:=.of Tryz.func78 rfl rfl (by kernel_rfl) rfl
def D4:IR :=
 (.seq (.ops [.i 3 (.box 37 (.t 1)),.i 4 (.alloc 37 [.st (.str (ByteArray.mk (#[]))),.full []]),.i 5 (.mov (.c (.one (.st (.bool false))))),.i 6 (.mov (.n 0))]) (.seq (.seq (.ops [.f 15 1 3,.l 16 15,.i 17 (.len false (.t 16)),.i 18 (.mov (.n 0))]) (.block 0 (.loop (.seq (.ops [.i 19 (.bin .lss (.t 18) (.t 17))]) (.seq (.cond (.t 19) .skip (.exit 0)) (.seq (.block 1 (.seq (.ops [.m 20 18,.m 7 20]) (.seq (.ops [.m 22 0,.f 23 1 3,.l 24 23,.m 25 7,.i 26 (.indexAddr 2 (.t 24) (.t 25)),.L 27 2 26,.i 28 (.call 77 [.t 22,.t 27]),.m 21 28,.i 29 (.extract 0 (.t 21)),.i 30 (.extract 1 (.t 21)),.i 31 (.extract 2 (.t 21)),.i 8 (.alloc 37 [.st (.str (ByteArray.mk (#[]))),.full []]),.s 2 8 29,.m 9 30,.m 10 31]) (.seq (.ops [.m 32 10,.i 33 (.bin .neq (.t 32) (.n 0)),.m 34 33,.mk (some 35) (some (34,false)) (.mov (.t 9)) .no,.i 36 (.pick (.t 34) (.c (.one (.st (.bool true)))) (.t 35))]) (.cond (.t 36) (.seq (.ops [.f 37 0 3,.l 38 37,.f 39 1 3,.l 40 39,.i 41 (.callN 79 [.t 40]),.i 42 (.build [.st (.str (ByteArray.mk (#[]))),.full []] [(0,1,.t 38),(1,1,.t 41)]),.i 11 (.alloc 37 [.st (.str (ByteArray.mk (#[]))),.full []]),.s 2 11 42]) (.seq (.ops [.f 43 1 11,.l 44 43,.m 45 7,.L 46 2 8,.i 47 (.indexAddr 2 (.t 44) (.t 45)),.s 2 47 46]) (.seq (.ops [.L 48 2 11,.m 49 9,.m 50 10,.s 2 4 48,.m 5 49,.m 6 50]) .ret))) .skip))))) (.ops [.i 51 (.bin .add (.t 18) (.n 1)),.m 18 51]))))))) (.seq (.ops [.m 53 0,.L 54 2 3,.i 55 (.call 78 [.t 53,.t 54,.n 0]),.m 52 55,.i 56 (.extract 0 (.t 52)),.i 57 (.extract 1 (.t 52)),.i 58 (.extract 2 (.t 52)),.i 12 (.alloc 37 [.st (.str (ByteArray.mk (#[]))),.full []]),.s 2 12 56,.m 13 57,.m 14 58]) (.seq (.ops [.L 59 2 12,.m 60 13,.i 61 (.bin .geq (.t 60) (.n 0)),.m 62 14,.s 2 4 59,.m 5 61,.m 6 62]) .ret))))
theorem HF:OkF Tryz.prog 77 63 [20000041] D4 [.cell 4 true 2,.t 5,.t 6]:=.of Tryz.func77 rfl rfl (by kernel_rfl) rfl
def GU:IR :=
 (.seq (.ops [.i 4 (.box 37 (.t 1)),.i 6 (.alloc 37 [.st (.str (ByteArray.mk (#[]))),.full []]),.i 7 (.mov (.n 0)),.i 8 (.mov (.n 0))]) (.seq (.ops [.L 13 2 4,.i 14 (.call 42 [.t 13]),.s 2 4 14]) (.seq (.ops [.i 9 (.mov (.n 0))]) (.block 0 (.loop (.seq (.block 1 (.seq (.ops [.m 18 0,.L 19 2 4,.i 20 (.call 77 [.t 18,.t 19]),.m 17 20,.i 21 (.extract 0 (.t 17)),.i 22 (.extract 1 (.t 17)),.i 23 (.extract 2 (.t 17)),.i 10 (.alloc 37 [.st (.str (ByteArray.mk (#[]))),.full []]),.s 2 10 21,.m 11 22,.m 12 23]) (.seq (.seq (.ops [.m 24 11,.m 25 24,.mk (some 26) (some (25,true)) (.mov (.t 9)) .no,.mk (some 27) (some (25,true)) (.mov (.t 2)) .no,.mk (some 28) (some (25,true)) (.bin .eql (.t 26) (.t 27)) .no,.i 29 (.pick (.t 25) (.t 28) (.c (.one (.st (.bool false)))))]) (.cond (.t 29) (.ops [.i 12 (.mov (.n 9))]) .skip)) (.seq (.seq (.ops [.m 30 12,.i 31 (.bin .neq (.t 30) (.n 0))]) (.cond (.t 31) (.seq (.ops [.i 32 (.build [.st (.str (ByteArray.mk (#[]))),.full []] []),.m 33 12,.s 2 6 32,.i 7 (.mov (.n 0)),.m 8 33]) .ret) .skip)) (.seq (.seq (.ops [.m 34 11,.i 35 (.un .not (.t 34))]) (.cond (.t 35) (.seq (.ops [.L 36 2 4,.m 37 9,.s 2 6 36,.m 7 37,.i 8 (.mov (.n 0))]) .ret) .skip)) (.seq (.ops [.L 38 2 10,.s 2 4 38]) (.seq (.ops [.L 39 2 4,.i 40 (.call 44 [.t 39]),.i 41 (.bin .gtr (.t 40) (.n 2000))]) (.cond (.t 41) (.seq (.ops [.i 42 (.build [.st (.str (ByteArray.mk (#[]))),.full []] []),.s 2 6 42,.i 7 (.mov (.n 0)),.i 8 (.mov (.n 8))]) .ret) .skip)))))))) (.ops [.m 15 9,.i 16 (.bin .add (.t 15) (.n 1)),.m 9 16])))))))
theorem Kg:OkF Tryz.prog 41 43 [] GU [.cell 6 true 2,.t 7,.t 8]:=.of Tryz.func41 rfl rfl (by kernel_rfl) rfl
def GT:IR :=
 (.seq (.ops [.i 5 (.box 37 (.t 1)),.i 6 (.box 37 (.t 2)),.i 8 (.mov (.c (.one (.st (.bool false))))),.i 9 (.mov (.n 0))]) (.seq (.ops [.m 11 0,.L 12 2 5,.i 13 (.call 39 [.t 11,.t 12]),.m 10 13]) (.seq (.seq (.ops [.m 14 10,.i 15 (.bin .eql (.t 14) (.n 0))]) (.cond (.t 15) (.ops [.L 16 2 6,.i 17 (.call 46 [.t 16]),.m 10 17]) .skip)) (.seq (.seq (.ops [.m 18 10,.i 19 (.bin .eql (.t 18) (.n 0))]) (.cond (.t 19) (.ops [.m 20 3,.i 21 (.call 40 [.t 20]),.m 10 21]) .skip)) (.seq (.seq (.ops [.m 22 10,.i 23 (.bin .neq (.t 22) (.n 0))]) (.cond (.t 23) (.seq (.ops [.m 24 10,.i 8 (.mov (.c (.one (.st (.bool false))))),.m 9 24]) .ret) .skip)) (.seq (.ops [.m 25 0,.L 26 2 5,.L 27 2 6,.m 28 3,.i 29 (.call 36 [.t 25,.t 26,.t 27,.t 28]),.i 30 (.extract 0 (.t 29)),.i 31 (.extract 1 (.t 29)),.m 8 30,.m 9 31]) .ret))))))
theorem Kc:OkF Tryz.prog 22 32 [] GT [.t 8,.t 9]:=.of Tryz.func22 rfl rfl (by kernel_rfl) rfl
def HA:IR :=
 (.seq (.ops [.i 5 (.box 37 (.t 1)),.i 6 (.box 37 (.t 2)),.i 8 (.mov (.c (.one (.st (.bool false))))),.i 9 (.mov (.n 0))]) (.seq (.ops [.m 16 0,.L 17 2 5,.m 18 3,.i 19 (.call 41 [.t 16,.t 17,.t 18]),.m 15 19,.i 20 (.extract 0 (.t 15)),.i 21 (.extract 1 (.t 15)),.i 22 (.extract 2 (.t 15)),.i 10 (.alloc 37 [.st (.str (ByteArray.mk (#[]))),.full []]),.s 2 10 20,.m 11 21,.m 12 22]) (.seq (.seq (.ops [.m 23 12,.i 24 (.bin .neq (.t 23) (.n 0))]) (.cond (.t 24) (.seq (.ops [.m 25 12,.i 8 (.mov (.c (.one (.st (.bool false))))),.m 9 25]) .ret) .skip)) (.seq (.ops [.m 27 0,.L 28 2 6,.m 29 3,.i 30 (.call 41 [.t 27,.t 28,.t 29]),.m 26 30,.i 31 (.extract 0 (.t 26)),.i 32 (.extract 1 (.t 26)),.i 33 (.extract 2 (.t 26)),.i 13 (.alloc 37 [.st (.str (ByteArray.mk (#[]))),.full []]),.s 2 13 31,.m 14 32,.m 12 33]) (.seq (.seq (.ops [.m 34 12,.i 35 (.bin .neq (.t 34) (.n 0))]) (.cond (.t 35) (.seq (.ops [.m 36 12,.i 8 (.mov (.c (.one (.st (.bool false))))),.m 9 36]) .ret) .skip)) (.seq (.ops [.L 37 2 10,.L 38 2 13,.i 39 (.call 69 [.t 37,.t 38]),.m 8 39,.i 9 (.mov (.n 0))]) .ret))))))
theorem MN:OkF Tryz.prog 36 40 [] HA [.t 8,.t 9]:=.of Tryz.func36 rfl rfl (by kernel_rfl) rfl
def GL:IR :=
 (.seq (.ops [.i 2 (.mov (.n 0))]) (.seq (.seq (.ops [.m 3 0,.i 4 (.bin .lss (.t 3) (.n 0)),.m 5 4,.mk (some 6) (some (5,false)) (.mov (.t 0)) .no,.mk (some 7) (some (5,false)) (.bin .gtr (.t 6) (.n 400)) .no,.i 8 (.pick (.t 5) (.c (.one (.st (.bool true)))) (.t 7))]) (.cond (.t 8) (.seq (.ops [.i 2 (.mov (.n 10))]) .ret) .skip)) (.seq (.ops [.i 2 (.mov (.n 0))]) .ret)))
theorem Ko:OkF Tryz.prog 40 9 [] GL [.t 2]:=.of Tryz.func40 rfl rfl (by kernel_rfl) rfl

abbrev Zw (vs:List ByteArray):AK:=.box 26 [.st (.list (vs.map DH))]
theorem XT (vs:List ByteArray) (x:ByteArray) (b:Nat) (hb:1000≤b) (S:AA) (sb:S b=some (Zw vs)):Ah Tryz.prog 106 [Bo x,.one (.ptr b 1 0 0)] S (Ad (!DL x vs)) S:=by
 refine IV.acS fun hS C hC=>?_
 unfold Ek
 repeat' (first | (with_reducible first | refine W ?_ | refine Z0 ?_ | ((first | refine Wo fun K hK=>?_ | refine Wp ?_ | refine Wq ?_ | refine Wr ?_);(try simp only [go_sem,fN,seval,eT,iR,sb,dT,dF,nL]);(repeat refine Ai ?_);(try (refine hK _ ?_;clear hK K));try refine iC ?_)) | refine Cg _ (F1 vs x) ?_)
 refine Ay (Ad (!DL x vs)) hS trivial ?_ rfl fun _ _=>rfl
 simp [AB,AD,AL,AG]
theorem XZ {p:ByteArray→Bool} (xs:List ByteArray):0≤(match xs.findIdx? p with | some i=>(i:Int) | none=>-1) ↔ xs.any p=true:=by
 cases h:xs.findIdx? p with
 | some i =>
  rw [List.findIdx?_eq_some_iff_getElem] at h
  obtain ⟨h1,h2,_⟩:=h
  simp only [List.any_eq_true]
  exact ⟨fun _=>⟨_,List.getElem_mem h1,h2⟩,fun _=>by omega⟩
 | none =>
  rw [List.findIdx?_eq_none_iff] at h
  constructor
  ·intro h'
   exact absurd h' (by decide)
  ·intro h'
   rw [List.any_eq_true] at h'
   obtain ⟨x,hx,hp⟩:=h'
   rw [h x hx] at hp
   cases hp
theorem Qt {p:ByteArray→Bool} {xs:List ByteArray} {k:Nat} {x:ByteArray} (hx:xs[k]?=some x) (h:(xs.take k).any p=false) (hp:p x=true):xs.findIdx? p=some k:=by
 obtain ⟨hk,he⟩:=List.getElem?_eq_some_iff.1 hx
 rw [List.findIdx?_eq_some_iff_getElem]
 refine ⟨hk,by rw [he];exact hp,fun j hj=>?_⟩
 rw [List.any_eq_false] at h
 have:=h (xs[j]'(by omega)) (by
  rw [List.mem_take_iff_getElem]
  exact ⟨j,by omega,rfl⟩)
 simpa using this
theorem UI {p:ByteArray→Bool} {xs:List ByteArray} {k:Nat} {x:ByteArray} (hx:xs[k]?=some x) (h:(xs.take k).any p=false):(xs.take (k + 1)).any p=p x:=by
 rw [Au hx,List.any_append,h]
 simp
theorem Ot (vs xs:List ByteArray) (hl:xs.length≤9223372036854775807) (b:Nat) (hb:1000≤b) (S:AA) (sb:S b=some (Zw vs)) :
  Ah Tryz.prog 125 [CX xs,.one (.fn 106 [.ptr b 1 0 0])] S (AN (match xs.findIdx? (fun x=>!DL x vs) with | some i=>(i:Int) | none=>-1)) S:=by
 refine DQ.acS fun hS C hC=>?_
 unfold B9
 repeat' with_reducible first | refine W ?_ | refine Z0 ?_ | ((first | refine Wo fun K hK=>?_ | refine Wp ?_ | refine Wq ?_ | refine Wr ?_);(try simp only [go_sem,fN,seval,eT,iR,dT,dF,nL]);(repeat refine Ai ?_);(try (refine hK _ ?_;clear hK K));try refine iC ?_)
 refine IWP.loop (fun n s=>∃ k,k≤xs.length∧n=xs.length - k∧(xs.take k).any (fun x=>!DL x vs)=false∧s.env 0=CX xs∧s.env 1=.one (.fn 106 [.ptr b 1 0 0])∧s.env 7=AN xs.length∧s.env 8=AN k∧s.S=S) xs.length ⟨0,Nat.zero_le _,rfl,rfl,rfl,rfl,rfl,rfl,rfl⟩ ?_
 rintro n ⟨env,S'⟩ ⟨k,hk,rfl,hp,e0,e1,e7,e8,eS⟩
 simp only at e0 e1 e7 e8 eS
 subst eS
 by_cases hlt:(k:Int) < xs.length
 ·obtain ⟨x,hx⟩:=Aj (show k < xs.length by omega)
  have hst:=UI (p:=fun x=>!DL x vs) hx hp
  have hc:=XT vs x (up1 b) (Ap b) (upS S') (by rw [At,sb];rfl)
  repeat' with_reducible first | refine W ?_ | refine Z0 ?_ | ((first | refine Wo fun K hK=>?_ | refine Wp ?_ | refine Wq ?_ | refine Wr ?_);(try simp only [go_sem,fN,seval,eT,iR,e0,e1,e7,e8,hlt,hx,dT,dF,nL]);(repeat refine Ai ?_);(try (refine hK _ ?_;clear hK K));try refine iC ?_)
  first | refine ⟨by kernel_rfl,_,_,hc,?_⟩ | refine ⟨_,_,hc,?_⟩
  by_cases hr:(!DL x vs)=true
  ·have hi:=Qt (p:=fun x=>!DL x vs) hx hp hr
   repeat' with_reducible first | refine W ?_ | refine Z0 ?_ | ((first | refine Wo fun K hK=>?_ | refine Wp ?_ | refine Wq ?_ | refine Wr ?_);(try simp only [go_sem,fN,seval,eT,iR,e0,e1,e7,e8,hr,dT,dF,nL]);(repeat refine Ai ?_);(try (refine hK _ ?_;clear hK K));try refine iC ?_)
   refine Ay (AN k) hS trivial ?_ ?_ fun j hj=>?_
   ·simp [AB,AD,AL,AG]
   ·rw [hi]
    rfl
   ·rfl
  ·have hr':(!DL x vs)=false:=by simpa using hr
   repeat' with_reducible first | refine W ?_ | refine Z0 ?_ | ((first | refine Wo fun K hK=>?_ | refine Wp ?_ | refine Wq ?_ | refine Wr ?_);(try simp only [go_sem,fN,seval,eT,iR,e0,e1,e7,e8,hr',dT,dF,nL]);(repeat refine Ai ?_);(try (refine hK _ ?_;clear hK K));try refine iC ?_)
   refine AH ⟨xs.length - (k + 1),by omega,k + 1,by omega,rfl,?_⟩
   simp only [go_sem,fN,seval,eT,iR,e0,e1,e7,e8]
   exact ⟨by rw [hst];exact hr',by congr 3⟩
 ·rw [List.take_of_length_le (by omega)] at hp
  have hi:xs.findIdx? (fun x=>!DL x vs)=none:=by
   rw [List.findIdx?_eq_none_iff]
   intro x hx
   rw [List.any_eq_false] at hp
   simpa using hp x hx
  repeat' with_reducible first | refine W ?_ | refine Z0 ?_ | ((first | refine Wo fun K hK=>?_ | refine Wp ?_ | refine Wq ?_ | refine Wr ?_);(try simp only [go_sem,fN,seval,eT,iR,e0,e1,e7,e8,hlt,dT,dF,nL]);(repeat refine Ai ?_);(try (refine hK _ ?_;clear hK K));try refine iC ?_)
  refine Ay (AN (-1)) hS trivial ?_ ?_ fun j hj=>?_
  ·simp [AB,AD,AL,AG]
  ·rw [hi]
   rfl
  ·rfl
theorem Ke (vs xs:List ByteArray) (hl:xs.length≤9223372036854775807) (b:Nat) (hb:1000≤b) (S:AA) (sb:S b=some (Zw vs)) :
  Ah Tryz.prog 105 [CX xs,.one (.fn 106 [.ptr b 1 0 0])] S (Ad (xs.any fun x=>!DL x vs)) S:=by
 have hi:=XZ (p:=fun x=>!DL x vs) xs
 generalize (xs.any fun x=>!DL x vs)=bb at hi ⊢
 refine Cy.acS fun hS C hC=>?_
 unfold Bv
 repeat' with_reducible first | refine W ?_ | refine Z0 ?_ | ((first | refine Wo fun K hK=>?_ | refine Wp ?_ | refine Wq ?_ | refine Wr ?_);(try simp only [go_sem,fN,seval,eT,iR,dT,dF,nL]);(repeat refine Ai ?_);(try (refine hK _ ?_;clear hK K));try refine iC ?_)
 refine ⟨_,_,Ot vs xs hl (up1 b) (Ap b) (upS S) (by rw [At,sb];rfl),?_⟩
 generalize (match xs.findIdx? (fun x=>!DL x vs) with | some i=>(i:Int) | none=>-1)=q at hi
 repeat' with_reducible first | refine W ?_ | refine Z0 ?_ | ((first | refine Wo fun K hK=>?_ | refine Wp ?_ | refine Wq ?_ | refine Wr ?_);(try simp only [go_sem,fN,seval,eT,iR,hi,dT,dF,nL]);(repeat refine Ai ?_);(try (refine hK _ ?_;clear hK K));try refine iC ?_)
 refine Ay (Ad bb) hS trivial ?_ ?_ fun j hj=>?_
 ·simp [AB,AD,AL,AG]
 ·rfl
 ·rfl
theorem Rt (t:Tm) (h:t.size≤200):t.varsOf.length≤1000:=by
 have h1:=Dd t.knots []
 rw [Tm.knots_length] at h1
 unfold Tm.varsOf
 simp only [List.length_nil] at h1
 omega
theorem IS (R:List Pr):AY Tryz.prog 73 [CI R] (AN (BG R)):=by
 have hm:BG R=if 40 < R.length then 3 else FK HM R:=rfl
 refine Jy.ac fun C hC=>?_
 unfold FY
 by_cases h40:(40:Int) < R.length
 ·repeat' with_reducible first | refine W ?_ | refine Z0 ?_ | ((first | refine Wo fun K hK=>?_ | refine Wp ?_ | refine Wq ?_ | refine Wr ?_);(try simp only [go_sem,fN,seval,eT,iR,h40,dT,dF,nL]);(repeat refine Ai ?_);(try (refine hK _ ?_;clear hK K));try refine iC ?_)
  simp only [go_sem,fN,seval,AR,AS.result,AB,AD,AL]
  rw [hm,if_pos (by omega)]
 rw [if_neg (by omega)] at hm
 repeat' with_reducible first | refine W ?_ | refine Z0 ?_ | ((first | refine Wo fun K hK=>?_ | refine Wp ?_ | refine Wq ?_ | refine Wr ?_);(try simp only [go_sem,fN,seval,eT,iR,h40,dT,dF,nL]);(repeat refine Ai ?_);(try (refine hK _ ?_;clear hK K));try refine iC ?_)
 refine IWP.loopD [4,6] (fun m s=>∃ k,k≤R.length∧m=R.length - k∧FK HM (R.take k)=0∧s.env 10=CI R∧s.env 11=AN R.length∧s.env 12=AN k∧s.S 4=none∧s.S 6=none) R.length ⟨0,Nat.zero_le _,rfl,rfl,rfl,rfl,rfl,rfl,rfl⟩ ?_
 rintro m ⟨env,S⟩ ⟨k,hk,rfl,h0,e10,e11,e12,s4,s6⟩
 simp only at e10 e11 e12 s4 s6
 by_cases hlt:(k:Int) < R.length
 ·obtain ⟨r,hr⟩:=Aj (show k < R.length by omega)
  obtain ⟨g1,g2⟩:=WF hr h0
  have re:HM r=if BS r.1 r.2=0 then (if AP r.1.name=true then 2 else if LB r=true then 15 else 0) else BS r.1 r.2:=rfl
  by_cases hz:BS r.1 r.2=0
  case neg =>
   repeat' (first | (with_reducible first | refine W ?_ | refine Z0 ?_ | ((first | refine Wo fun K hK=>?_ | refine Wp ?_ | refine Wq ?_ | refine Wr ?_);(try simp only [go_sem,fN,seval,eT,iR,e10,e11,e12,s4,s6,hlt,hr,As,hz,dT,dF,nL]);(repeat refine Ai ?_);(try (refine hK _ ?_;clear hK K));try refine iC ?_)) | refine Cg _ (Ou r.1 r.2) ?_)
   simp only [go_sem,fN,seval,AR,AS.result,AB,AD,AL]
   rw [if_neg hz] at re
   rw [hm,g2 (by rw [re];exact hz),re]
  case pos =>
  rw [if_pos hz] at re
  by_cases hv:AP r.1.name=true
  ·repeat' (first | (with_reducible first | refine W ?_ | refine Z0 ?_ | ((first | refine Wo fun K hK=>?_ | refine Wp ?_ | refine Wq ?_ | refine Wr ?_);(try simp only [go_sem,fN,seval,eT,iR,e10,e11,e12,s4,s6,hlt,hr,As,hz,hv,dT,dF,nL]);(repeat refine Ai ?_);(try (refine hK _ ?_;clear hK K));try refine iC ?_)) | refine Cg _ (Ou r.1 r.2) ?_ | refine Cg _ (Al r.1.name) ?_)
   simp only [go_sem,fN,seval,AR,AS.result,AB,AD,AL]
   rw [if_pos hv] at re
   rw [hm,g2 (by rw [re];decide),re]
  rw [if_neg hv] at re
  have m12:r.1.may=0∧r.2.may=0:=by
   unfold BS at hz
   by_cases h4:r.1.may=0
   ·rw [if_pos h4] at hz;exact ⟨h4,hz⟩
   ·rw [if_neg h4] at hz;exact absurd hz h4
  have z1:=(Tm.may_chk m12.1).2
  have z2:=(Tm.may_chk m12.2).2
  have l2:=Rt r.2 z2
  repeat' (first | (with_reducible first | refine W ?_ | refine Z0 ?_ | ((first | refine Wo fun K hK=>?_ | refine Wp ?_ | refine Wq ?_ | refine Wr ?_);(try simp only [go_sem,fN,seval,eT,iR,e10,e11,e12,s4,s6,hlt,hr,As,hz,hv,dT,dF,nL]);(repeat refine Ai ?_);(try (refine hK _ ?_;clear hK K));try refine iC ?_)) | refine Cg _ (Ou r.1 r.2) ?_ | refine Cg _ (Al r.1.name) ?_ | refine Cg _ (Sh r.1 (by omega)) ?_ | refine Cg _ (Sh r.2 (by omega)) ?_)
  refine ⟨_,_,Ke r.1.varsOf r.2.varsOf (by omega) (up1 6) (Ap 6) _ (by rw [At];simp [AG];rfl),?_⟩
  have ho:LB r=r.2.varsOf.any fun v=>!DL v r.1.varsOf:=rfl
  rw [← ho]
  by_cases hop:LB r=true
  ·repeat' with_reducible first | refine W ?_ | refine Z0 ?_ | ((first | refine Wo fun K hK=>?_ | refine Wp ?_ | refine Wq ?_ | refine Wr ?_);(try simp only [go_sem,fN,seval,eT,iR,hop,dT,dF,nL]);(repeat refine Ai ?_);(try (refine hK _ ?_;clear hK K));try refine iC ?_)
   simp only [go_sem,fN,seval,AR,AS.result,AB,AD,AL]
   rw [if_pos hop] at re
   rw [hm,g2 (by rw [re];decide),re]
  ·rw [if_neg hop] at re
   simp only [Bool.not_eq_true] at hop
   repeat' with_reducible first | refine W ?_ | refine Z0 ?_ | ((first | refine Wo fun K hK=>?_ | refine Wp ?_ | refine Wq ?_ | refine Wr ?_);(try simp only [go_sem,fN,seval,eT,iR,hop,e10,e11,e12,dT,dF,nL]);(repeat refine Ai ?_);(try (refine hK _ ?_;clear hK K));try refine iC ?_)
   refine AH ⟨R.length - (k + 1),by omega,k + 1,by omega,rfl,g1 re,?_⟩
   simp only [go_sem,fN,seval,AS.drop,Ac,AC.clears,AC.clear,AC.highs,AC.high,zD,AV.purge,AV.purges,AC.purge,AK.purge,Nat.reduceBEq,eT,iR,e10,e11,e12,s4,s6]
   congr 3
 ·repeat' with_reducible first | refine W ?_ | refine Z0 ?_ | ((first | refine Wo fun K hK=>?_ | refine Wp ?_ | refine Wq ?_ | refine Wr ?_);(try simp only [go_sem,fN,seval,eT,iR,e10,e11,e12,hlt,dT,dF,nL]);(repeat refine Ai ?_);(try (refine hK _ ?_;clear hK K));try refine iC ?_)
  simp only [go_sem,fN,seval,AR,AS.result,AB,AD,AL]
  rw [List.take_of_length_le (by omega)] at h0
  rw [hm,h0]
theorem Hb (R:List Pr) (t:Tm):AY Tryz.prog 39 [CI R,aTm t] (AN (MT R t)):=by
 have hm:MT R t=if BG R=0 then t.may else BG R:=rfl
 refine Kp.ac fun C hC=>?_
 unfold GF
 by_cases h:BG R=0
 ·rw [if_pos h] at hm
  repeat' (first | (with_reducible first | refine W ?_ | refine Z0 ?_ | ((first | refine Wo fun K hK=>?_ | refine Wp ?_ | refine Wq ?_ | refine Wr ?_);(try simp only [go_sem,fN,seval,eT,iR,h,dT,dF,nL]);(repeat refine Ai ?_);(try (refine hK _ ?_;clear hK K));try refine iC ?_)) | refine Cg _ (IS R) ?_ | refine Cg _ (DT t) ?_)
  simp only [go_sem,fN,seval,AR,AS.result,AB,AD,AL]
  rw [hm]
 ·rw [if_neg h] at hm
  repeat' (first | (with_reducible first | refine W ?_ | refine Z0 ?_ | ((first | refine Wo fun K hK=>?_ | refine Wp ?_ | refine Wq ?_ | refine Wr ?_);(try simp only [go_sem,fN,seval,eT,iR,h,dT,dF,nL]);(repeat refine Ai ?_);(try (refine hK _ ?_;clear hK K));try refine iC ?_)) | refine Cg _ (IS R) ?_ | refine Cg _ (DT t) ?_)
  simp only [go_sem,fN,seval,AR,AS.result,AB,AD,AL]
  rw [hm]
def Ct (m:Int):Int:=if m < 0 ∨ 400 < m then 10 else 0
theorem XL (m:Int):AY Tryz.prog 40 [AN m] (AN (Ct m)):=by
 have hm:Ct m=if m < 0 ∨ 400 < m then 10 else 0:=rfl
 refine Ko.ac fun C hC=>?_
 unfold GL
 by_cases h1:m < 0
 ·repeat' with_reducible first | refine W ?_ | refine Z0 ?_ | ((first | refine Wo fun K hK=>?_ | refine Wp ?_ | refine Wq ?_ | refine Wr ?_);(try simp only [go_sem,fN,seval,eT,iR,h1,dT,dF,nL]);(repeat refine Ai ?_);(try (refine hK _ ?_;clear hK K));try refine iC ?_)
  simp only [go_sem,fN,seval,AR,AS.result,AB,AD,AL]
  rw [hm,if_pos (.inl h1)]
 ·by_cases h2:400 < m
  ·repeat' with_reducible first | refine W ?_ | refine Z0 ?_ | ((first | refine Wo fun K hK=>?_ | refine Wp ?_ | refine Wq ?_ | refine Wr ?_);(try simp only [go_sem,fN,seval,eT,iR,h1,h2,dT,dF,nL]);(repeat refine Ai ?_);(try (refine hK _ ?_;clear hK K));try refine iC ?_)
   simp only [go_sem,fN,seval,AR,AS.result,AB,AD,AL]
   rw [hm,if_pos (.inr h2)]
  ·repeat' with_reducible first | refine W ?_ | refine Z0 ?_ | ((first | refine Wo fun K hK=>?_ | refine Wp ?_ | refine Wq ?_ | refine Wr ?_);(try simp only [go_sem,fN,seval,eT,iR,h1,h2,dT,dF,nL]);(repeat refine Ai ?_);(try (refine hK _ ?_;clear hK K));try refine iC ?_)
   simp only [go_sem,fN,seval,AR,AS.result,AB,AD,AL]
   rw [hm,if_neg (by omega)]

def BA:IR :=
 (.seq (.ops [.i 2 (.mov (.c (.one (.full []))))]) (.seq (.seq (.ops [.m 3 0,.i 4 (.eqN false (.t 3))]) (.cond (.t 4) (.seq (.ops [.i 2 (.mov (.c (.one (.full []))))]) .ret) .skip)) (.seq (.ops [.i 5 (.buildSlice false 37 2 []),.m 6 0,.i 7 (.append true 37 2 40 (.t 5) (.t 6)),.m 2 7]) .ret)))
theorem Bt:OkF Tryz.prog 79 8 [7] BA [.t 2]:=.of Tryz.func79 rfl rfl (by kernel_rfl) rfl

def Hm:IR :=
 (.seq (.ops [.i 3 (.box 37 (.t 0)),.i 4 (.box 37 (.t 1)),.i 6 (.mov (.c (.one (.st (.bool false)))))]) (.seq (.seq (.ops [.f 10 0 3,.l 11 10,.i 12 (.call 67 [.t 11])]) (.cond (.t 12) (.seq (.seq (.ops [.m 14 2,.f 15 0 3,.l 16 15,.i 17 (.lookup none true (.agg [.st (.str (ByteArray.mk (#[]))),.full []]) (.t 14) (.t 16)),.m 13 17,.i 18 (.extract 0 (.t 13)),.i 19 (.extract 1 (.t 13)),.i 7 (.alloc 37 [.st (.str (ByteArray.mk (#[]))),.full []]),.s 2 7 18,.m 8 19]) (.seq (.ops [.m 20 8]) (.cond (.t 20) (.seq (.ops [.L 21 2 7,.L 22 2 4,.i 23 (.call 69 [.t 21,.t 22]),.m 6 23]) .ret) .skip))) (.seq (.ops [.m 24 2,.f 25 0 3,.l 26 25,.L 27 2 4,.mk none none (.mapSet none (.t 24) (.t 26) (.t 27)) .no]) (.seq (.ops [.i 6 (.mov (.c (.one (.st (.bool true)))))]) .ret))) .skip)) (.seq (.seq (.ops [.f 28 0 3,.l 29 28,.f 30 0 4,.l 31 30,.i 32 (.bin .neq (.t 29) (.t 31)),.m 33 32,.mk (some 34) (some (33,false)) (.fieldAddr 1 (.t 3)) .no,.mk (some 35) (some (33,false)) (.load false 1 (.t 34)) .no,.mk (some 36) (some (33,false)) (.len false (.t 35)) .no,.mk (some 37) (some (33,false)) (.fieldAddr 1 (.t 4)) .no,.mk (some 38) (some (33,false)) (.load false 1 (.t 37)) .no,.mk (some 39) (some (33,false)) (.len false (.t 38)) .no,.mk (some 40) (some (33,false)) (.bin .neq (.t 36) (.t 39)) .no,.i 41 (.pick (.t 33) (.c (.one (.st (.bool true)))) (.t 40))]) (.cond (.t 41) (.seq (.ops [.i 6 (.mov (.c (.one (.st (.bool false)))))]) .ret) .skip)) (.seq (.seq (.ops [.f 42 1 3,.l 43 42,.i 44 (.len false (.t 43)),.i 45 (.mov (.n 0))]) (.block 0 (.loop (.seq (.ops [.i 46 (.bin .lss (.t 45) (.t 44))]) (.seq (.cond (.t 46) .skip (.exit 0)) (.seq (.block 1 (.seq (.ops [.m 47 45,.m 9 47]) (.seq (.ops [.f 48 1 3,.l 49 48,.m 50 9,.i 51 (.indexAddr 2 (.t 49) (.t 50)),.L 52 2 51,.f 53 1 4,.l 54 53,.m 55 9,.i 56 (.indexAddr 2 (.t 54) (.t 55)),.L 57 2 56,.m 58 2,.i 59 (.callS 127 [.t 52,.t 57,.t 58]),.i 60 (.un .not (.t 59))]) (.cond (.t 60) (.seq (.ops [.i 6 (.mov (.c (.one (.st (.bool false)))))]) .ret) .skip)))) (.ops [.i 61 (.bin .add (.t 45) (.n 1)),.m 45 61]))))))) (.seq (.ops [.i 6 (.mov (.c (.one (.st (.bool true)))))]) .ret)))))
theorem NE:OkF Tryz.prog 127 62 [59] Hm [.t 6]:=.of Tryz.func127 rfl rfl (by kernel_rfl) rfl
def H0:IR :=
 (.seq (.ops [.i 2 (.box 37 (.t 0)),.i 3 (.box 37 (.t 1)),.i 4 (.mov (.c (.one (.full [])))),.i 5 (.mov (.c (.one (.st (.bool false)))))]) (.seq (.ops [.i 10 (.makeMap none),.m 6 10]) (.seq (.seq (.ops [.L 11 2 2,.L 12 2 3,.m 13 6,.i 14 (.callS 127 [.t 11,.t 12,.t 13]),.i 15 (.un .not (.t 14))]) (.cond (.t 15) (.seq (.ops [.i 4 (.mov (.c (.one (.full [])))),.i 5 (.mov (.c (.one (.st (.bool false)))))]) .ret) .skip)) (.seq (.ops [.i 7 (.mov (.c (.one (.full []))))]) (.seq (.seq (.ops [.m 16 6,.i 17 (.rangeM (.t 16))]) (.block 0 (.loop (.seq (.ops [.i 18 (.next (.t 17)),.i 19 (.extract 0 (.t 18))]) (.seq (.cond (.t 19) .skip (.exit 0)) (.block 1 (.seq (.ops [.i 20 (.entry (.t 17)),.i 21 (.extract 0 (.t 20)),.i 22 (.extract 1 (.t 20)),.i 9 (.alloc 37 [.st (.str (ByteArray.mk (#[]))),.full []]),.m 8 21,.s 2 9 22]) (.ops [.m 23 7,.m 24 8,.L 25 2 9,.i 26 (.call 42 [.t 25]),.i 27 (.build [.st (.str (ByteArray.mk (#[]))),.st (.str (ByteArray.mk (#[]))),.full []] [(0,1,.t 24),(1,2,.t 26)]),.i 28 (.buildSlice false 82 3 [.t 27]),.i 29 (.append true 82 3 56 (.t 23) (.t 28)),.m 7 29])))))))) (.seq (.ops [.m 30 7,.i 31 (.callS 117 [.t 30]),.m 4 31,.i 5 (.mov (.c (.one (.st (.bool true)))))]) .ret))))))
theorem Mv:OkF Tryz.prog 112 32 [14,29,31] H0 [.t 4,.t 5]:=.of Tryz.func112 rfl rfl (by kernel_rfl) rfl

end Go.Proofs.YtbhnmjkmieiadaaGreatDoor
