/-
  Part 1 of the texts. Conditions: none.
-/
import Derived.Test.YtignopbnnaimaaaGreatDoorProg
import Derived.WalkKit
import Derived.Lib.Hide
import Derived.Deep.AppendLies
import Derived.Maps.AppendAt
import Derived.Laws.BytesArg
import Derived.RangeFuncSeq
import Derived.RangeFuncLeaves
import Derived.RangeFuncRecord
import Derived.OrdersIn
namespace Go.Proofs.YtignopbnnaimaaaGreatDoor
open Go Go.RowKit
set_option linter.unusedVariables false
def Sto:=Addr→Option Value
def Ca (w:World) (p:Addr):Option Value:=match p.spot with
 | none=>w.cell? p
 | some 0=>match w.heap[p.block]? with
  | some (.cells c _ _)=>if c.size=p.off then some .nilFunc else none
  | _=>none
 | some _=>match w.heap[p.block]? with
  | some (.cells _ _ z)=>if z=(0,0) then some .nilFunc else none
  | _=>none
def CG:Bool:=false
theorem B6 {w:World} {p:Addr} (h:p.spot=none):Ca w p=w.cell? p:=by unfold Ca;rw [h]
theorem DS {w w':World} {p:Addr} (h:w'.heap[p.block]?=w.heap[p.block]?):Ca w' p=Ca w p:=by
 unfold Ca
 match p.spot with
 | none=>exact World.cell?_of_block h
 | some 0=>simp only [h]
 | some (_ + 1)=>simp only [h]
theorem Tp {w:World} {p:Addr} {x:Value} (h:Ca w p=some x):p.block < w.heap.size:=by
 unfold Ca at h
 match hs:p.spot with
 | none =>
  rw [hs] at h
  exact World.block_lt_of_cell? w p h
 | some 0 =>
  rw [hs] at h
  simp only at h
  rcases Nat.lt_or_ge p.block w.heap.size with h1 | h1
  ·exact h1
  ·rw [Array.getElem?_eq_none h1] at h
   cases h
 | some (_ + 1) =>
  rw [hs] at h
  simp only at h
  rcases Nat.lt_or_ge p.block w.heap.size with h1 | h1
  ·exact h1
  ·rw [Array.getElem?_eq_none h1] at h
   cases h
theorem F4 {w:World} {g o n:Nat} {c:Array Value} {t:TypeId} (h:w.heap[g]?=some (.cells c t (0,0))):Ca w ⟨g,o,some (n + 1)⟩=some .nilFunc:=by
 unfold Ca
 simp [h]
theorem Mj {w:World} {g o n:Nat} {x:Value} (h:Ca w ⟨g,o,some (n + 1)⟩=some x):∃ c t,w.heap[g]?=some (.cells c t (0,0))∧x=.nilFunc:=by
 unfold Ca at h
 simp only at h
 split at h
 ·rename_i c t z e
  split at h
  ·rename_i hz
   subst hz
   cases h
   exact ⟨c,t,e,rfl⟩
  ·cases h
 ·cases h
def Fit (σ:Sto) (w:World):Prop:=∀ p x,σ p=some x→Ca w p=some x
structure Ext (N:Nat) (σ σ':Sto):Prop where
 keep:∀ p x,σ p=some x→σ' p=some x
 old:∀ p,p.block < N→σ' p=σ p
theorem Ext.refl (N:Nat) (σ:Sto):Ext N σ σ:=⟨fun _ _ h=>h,fun _ _=>rfl⟩
theorem Ext.trans {N:Nat} {a b c:Sto} (h:Ext N a b) (k:Ext N b c):Ext N a c:=⟨fun p x e=>k.keep p x (h.keep p x e),fun p hp=>(k.old p hp).trans (h.old p hp)⟩
theorem Ext.mono {N M:Nat} {a b:Sto} (h:Ext N a b) (hm:M≤N):Ext M a b:=⟨h.keep,fun p hp=>h.old p (by omega)⟩
theorem Fit.lt {σ:Sto} {w:World} (h:Fit σ w) {p:Addr} {x:Value} (e:σ p=some x):p.block < w.heap.size:=Tp (h p x e)
theorem Fit.no {σ:Sto} {w:World} (h:Fit σ w) {p:Addr} (hp:w.heap.size≤p.block):σ p=none:=by
 cases e:σ p with
 | none=>rfl
 | some x=>have:=h.lt e;omega
theorem Fit.below {σ:Sto} {w w':World} (h:Fit σ w) (hb:Below w.heap.size w w'):Fit σ w':=fun p x e=>(DS (hb.block _ (h.lt e))).trans (h p x e)
theorem Fit.alloc {σ:Sto} {w:World} (h:Fit σ w) (o:Obj):Fit σ (w.alloc o):=h.below ((Below.refl _ _).alloc (Nat.le_refl _) _)
theorem Fit.drew {σ:Sto} {w:World} (h:Fit σ w):Fit σ w.drew:=h
theorem LS {w:World} {p q:Addr} {n:Nat} (hq:q.spot=some n) (u:Value):Ca (w.setCell p u) q=Ca w q:=by
 by_cases hb:q.block=p.block
 ·unfold Ca
  simp only [hq,World.setCell,hb]
  cases n <;> cases hc:w.heap[p.block]? with
  | none=>simp [Array.getElem?_modify,hc]
  | some o=>cases o <;> simp [Array.getElem?_modify,hc] <;> split <;> simp
 ·exact DS (Below.heap_setCell w p u q.block (fun e=>hb e))
theorem Fit.setCell {σ:Sto} {w:World} (h:Fit σ w) {p:Addr} (hp:σ p=none) (u:Value):Fit σ (w.setCell p u):=fun q x e=>by
 cases hs:q.spot with
 | none =>
  have h1:=h q x e
  rw [B6 hs] at h1 ⊢
  exact (World.cell?_setCell_other w p q u (fun he=>by subst he;rw [hp] at e;cases e)).trans h1
 | some n=>exact (LS hs u).trans (h q x e)
def Blk (w:World) (g:Nat) (t:TypeId) (cs:Array Value):Prop:=w.heap[g]?=some (.cells cs t (0,0))
section
variable {w w':World} {g:Nat} {t:TypeId} {cs:Array Value}
theorem Blk.lt (h:Blk w g t cs):g < w.heap.size:=(Array.getElem?_eq_some_iff.1 h).1
theorem Blk.cell (h:Blk w g t cs) (i:Nat):w.cell? ⟨g,i,none⟩=cs[i]?:=cell_of_row w g i cs t (0,0) h
theorem Blk.drew (h:Blk w g t cs):Blk w.drew g t cs:=h
theorem Blk.alloc (h:Blk w g t cs) (o:Obj):Blk (w.alloc o) g t cs:=(Below.heap_alloc w o g h.lt).trans h
theorem Blk.put (h:Blk w g t cs) (i:Nat) (u:Value):Blk (w.setCell ⟨g,i,none⟩ u) g t (cs.setIfInBounds i u):=by
 unfold Blk at h ⊢
 simp [World.setCell,Array.getElem?_modify,h]
theorem Blk.below {B:Nat} (h:Blk w g t cs) (hb:Below B w w') (hg:g < B):Blk w' g t cs:=(hb.block g hg).trans h
theorem Blk.call (h:Blk w g t cs) (hb:Below w.heap.size w w'):Blk w' g t cs:=h.below hb h.lt
theorem Blk.grown {row:Option Nat} (h:Blk w g t cs) (hb:w.grownBy w' row) (hg:row ≠ some g):Blk w' g t cs:=(hb.block g h.lt (fun e=>hg e.symm)).trans h
end
inductive Dat where
 | int (k:IntKind) (n:Int)
 | str (s:ByteArray)
 | bool (b:Bool)
 | agg (ds:List Dat)
 | row (e:Nat) (ds:List Dat)
mutual
def Dat.Is (σ:Sto):Dat→List Value→Prop
 | .int k n,cs=>cs=[.int k n]∧(Lit.int k n).wf=true
 | .str s,cs=>cs=[.string s]∧s.size≤maxLen
 | .bool b,cs=>cs=[.bool b]
 | .agg ds,cs=>Dat.AggIs σ ds cs
 | .row e ds,cs=>∃ p len cap,cs=[.slice p len cap]∧len=ds.length∧len≤cap∧cap≤maxLen∧(p=none→cap=0)∧∃ b o,(len ≠ 0→p=some ⟨b,o,none⟩)∧Dat.RowIs σ e ds b o
def Dat.AggIs (σ:Sto):List Dat→List Value→Prop
 | [],cs=>cs=[]
 | d :: ds,cs=>∃ x y,cs=x ++ y∧Dat.Is σ d x∧Dat.AggIs σ ds y
def Dat.RowIs (σ:Sto) (e:Nat):List Dat→Nat→Nat→Prop
 | [],_,_=>True
 | d :: ds,b,o=>(∃ cs,cs.length=e∧(∀ j x,cs[j]?=some x→σ ⟨b,o + j,none⟩=some x)∧Dat.Is σ d cs)∧Dat.RowIs σ e ds b (o + e)
end
mutual
theorem Dat.Is.mono {σ σ':Sto} (h:∀ p x,σ p=some x→σ' p=some x):∀ {d:Dat} {cs:List Value},d.Is σ cs→d.Is σ' cs
 | .int _ _,_,hd=>hd
 | .str _,_,hd=>hd
 | .bool _,_,hd=>hd
 | .agg ds,cs,hd=>Dat.AggIs.mono h (ds:=ds) hd
 | .row e ds,cs,hd=>by
  obtain ⟨p,len,cap,h1,h2,h3,h4,h5,b,o,h6,h7⟩:=hd
  exact ⟨p,len,cap,h1,h2,h3,h4,h5,b,o,h6,Dat.RowIs.mono h h7⟩
theorem Dat.AggIs.mono {σ σ':Sto} (h:∀ p x,σ p=some x→σ' p=some x):∀ {ds:List Dat} {cs:List Value},Dat.AggIs σ ds cs→Dat.AggIs σ' ds cs
 | [],_,hd=>hd
 | d :: ds,cs,hd=>by
  obtain ⟨x,y,h1,h2,h3⟩:=hd
  exact ⟨x,y,h1,Dat.Is.mono h h2,Dat.AggIs.mono h h3⟩
theorem Dat.RowIs.mono {σ σ':Sto} (h:∀ p x,σ p=some x→σ' p=some x) {e:Nat}:∀ {ds:List Dat} {b o:Nat},Dat.RowIs σ e ds b o→Dat.RowIs σ' e ds b o
 | [],_,_,_=>trivial
 | d :: ds,b,o,hd=>by
  obtain ⟨⟨cs,h1,h2,h3⟩,h4⟩:=hd
  exact ⟨⟨cs,h1,fun j x e=>h _ _ (h2 j x e),Dat.Is.mono h h3⟩,Dat.RowIs.mono h h4⟩
end
mutual
theorem Dat.Is.one {σ:Sto}:∀ {d:Dat} {cs:List Value},d.Is σ cs→∀ u ∈ cs,u.oneCell'=true
 | .int _ _,_,hd=>by obtain ⟨rfl,_⟩:=hd;simp [Value.oneCell']
 | .str _,_,hd=>by obtain ⟨rfl,_⟩:=hd;simp [Value.oneCell']
 | .bool _,_,hd=>by obtain rfl:=hd;simp [Value.oneCell']
 | .agg ds,cs,hd=>Dat.AggIs.one (ds:=ds) hd
 | .row e ds,cs,hd=>by
  obtain ⟨p,len,cap,rfl,_⟩:=hd
  simp [Value.oneCell']
theorem Dat.AggIs.one {σ:Sto}:∀ {ds:List Dat} {cs:List Value},Dat.AggIs σ ds cs→∀ u ∈ cs,u.oneCell'=true
 | [],_,hd=>by obtain rfl:=hd;simp
 | d :: ds,cs,hd=>by
  obtain ⟨x,y,rfl,h2,h3⟩:=hd
  intro u hu
  rcases List.mem_append.1 hu with hu | hu
  ·exact Dat.Is.one h2 u hu
  ·exact Dat.AggIs.one h3 u hu
end
theorem Dat.AggIs.append {σ:Sto}:∀ {ds es:List Dat} {cs xs:List Value},Dat.AggIs σ ds cs→Dat.AggIs σ es xs→Dat.AggIs σ (ds ++ es) (cs ++ xs)
 | [],es,cs,xs,h,k=>by obtain rfl:=h;exact k
 | d :: ds,es,cs,xs,h,k=>by
  obtain ⟨x,y,rfl,h2,h3⟩:=h
  exact ⟨x,y ++ xs,by simp,h2,Dat.AggIs.append h3 k⟩
theorem Dat.RowIs.get {σ:Sto} {e:Nat}:∀ {ds:List Dat} {b o:Nat},Dat.RowIs σ e ds b o→∀ k (h:k < ds.length),∃ cs,cs.length=e∧(∀ j x,cs[j]?=some x→σ ⟨b,o + k * e + j,none⟩=some x)∧ds[k].Is σ cs
 | [],_,_,_,k,h=>absurd h (by simp)
 | d :: ds,b,o,hd,0,h=>by simpa using hd.1
 | d :: ds,b,o,hd,k + 1,h=>by
  obtain ⟨cs,h1,h2,h3⟩:=Dat.RowIs.get hd.2 k (by simpa using h)
  refine ⟨cs,h1,fun j x hj=>?_,by simpa using h3⟩
  have:=h2 j x hj
  rw [← this]
  congr 2
  rw [Nat.add_mul]
  omega
theorem Dat.RowIs.all {σ:Sto} {e:Nat}:∀ {ds:List Dat} {b o:Nat},Dat.RowIs σ e ds b o→∃ cs,cs.length=ds.length * e∧(∀ j x,cs[j]?=some x→σ ⟨b,o + j,none⟩=some x)∧Dat.AggIs σ ds cs
 | [],b,o,_=>⟨[],by simp,by simp,rfl⟩
 | d :: ds,b,o,hd=>by
  obtain ⟨⟨xs,h1,h2,h3⟩,h4⟩:=hd
  obtain ⟨ys,k1,k2,k3⟩:=Dat.RowIs.all h4
  refine ⟨xs ++ ys,by simp [h1,k1,Nat.add_mul];omega,fun j x hj=>?_,xs,ys,rfl,h3,k3⟩
  by_cases hlt:j < xs.length
  ·rw [List.getElem?_append_left hlt] at hj
   exact h2 j x hj
  ·rw [List.getElem?_append_right (by omega)] at hj
   have:=k2 _ _ hj
   rw [← this]
   congr 2
   omega
theorem Dat.RowIs.of_all {σ:Sto} {e:Nat}:∀ {ds:List Dat} {b o:Nat} {cs:List Value},(∀ d ∈ ds,∀ xs,d.Is σ xs→xs.length=e)→(∀ j x,cs[j]?=some x→σ ⟨b,o + j,none⟩=some x)→Dat.AggIs σ ds cs→Dat.RowIs σ e ds b o
 | [],_,_,_,_,_,_=>trivial
 | d :: ds,b,o,cs,hl,hc,hd=>by
  obtain ⟨x,y,rfl,h2,h3⟩:=hd
  have hx:=hl d (by simp) x h2
  refine ⟨⟨x,hx,fun j v hj=>hc j v (by
   have:j < x.length:=by
    rcases Nat.lt_or_ge j x.length with h | h
    ·exact h
    ·rw [List.getElem?_eq_none h] at hj;cases hj
   rw [List.getElem?_append_left this];exact hj),h2⟩,Dat.RowIs.of_all (fun d hd=>hl d (by simp [hd])) (fun j v hj=>?_) h3⟩
  have:=hc (e + j) v (by rw [List.getElem?_append_right (by omega)];rw [← hj];congr 1;omega)
  rw [← this]
  congr 2
  omega
theorem Dat.RowIs.drop {σ:Sto} {e:Nat}:∀ {ds:List Dat} {b o:Nat} (k:Nat),Dat.RowIs σ e ds b o→Dat.RowIs σ e (ds.drop k) b (o + k * e)
 | [],_,_,k,_=>by simp [Dat.RowIs]
 | d :: ds,b,o,0,hd=>by simpa using hd
 | d :: ds,b,o,k + 1,hd=>by
  have:=Dat.RowIs.drop k hd.2
  rw [List.drop_succ_cons]
  rw [show o + (k + 1) * e=o + e + k * e by rw [Nat.add_mul];omega]
  exact this
theorem Dat.RowIs.take {σ:Sto} {e:Nat}:∀ {ds:List Dat} {b o:Nat} (k:Nat),Dat.RowIs σ e ds b o→Dat.RowIs σ e (ds.take k) b o
 | [],_,_,k,_=>by simp [Dat.RowIs]
 | d :: ds,b,o,0,hd=>by simp [Dat.RowIs]
 | d :: ds,b,o,k + 1,hd=>⟨hd.1,Dat.RowIs.take k hd.2⟩
class Cod (α:Type) where
 wid:Nat
 dat:α→Dat
 len:∀ (σ:Sto) (a:α) (cs:List Value),(dat a).Is σ cs→cs.length=wid
open Cod (wid dat)
def FV {α:Type} [Cod α] (σ:Sto) (cs:List Value) (a:α):Prop:=(dat a).Is σ cs
def Slc {α:Type} [Cod α] (σ:Sto) (p:Option Addr) (len cap:Nat) (xs:List α):Prop :=
 len=xs.length∧len≤cap∧cap≤maxLen∧(p=none→cap=0)∧∃ b o,(len ≠ 0→p=some ⟨b,o,none⟩)∧Dat.RowIs σ (wid α) (xs.map dat) b o
instance:Cod Int:=⟨1,fun n=>.int .i64 n,fun _ _ _ h=>by obtain ⟨rfl,_⟩:=h;rfl⟩
instance:Cod ByteArray:=⟨1,fun s=>.str s,fun _ _ _ h=>by obtain ⟨rfl,_⟩:=h;rfl⟩
instance:Cod Bool:=⟨1,fun b=>.bool b,fun _ _ _ h=>by obtain rfl:=h;rfl⟩
instance {α:Type} [Cod α]:Cod (List α):=⟨1,fun l=>.row (wid α) (l.map dat),fun _ _ _ h=>by obtain ⟨p,len,cap,rfl,_⟩:=h;rfl⟩
instance {α β:Type} [Cod α] [Cod β]:Cod (α × β):=⟨wid α + wid β,fun x=>.agg [dat x.1,dat x.2],fun σ x cs h=>by
 obtain ⟨y,z,rfl,h1,y',z',rfl,h2,h3⟩:=h
 obtain rfl:=h3
 simp [Cod.len σ x.1 y h1,Cod.len σ x.2 y' h2]⟩
section
variable {α β:Type} [Cod α] [Cod β] {σ σ':Sto}
theorem FV.len {cs:List Value} {a:α} (h:FV σ cs a):cs.length=wid α:=Cod.len σ a cs h
theorem FV.ext {N:Nat} {cs:List Value} {a:α} (h:FV σ cs a) (he:Ext N σ σ'):FV σ' cs a:=Dat.Is.mono he.keep h
theorem FV.one {cs:List Value} {a:α} (h:FV σ cs a):∀ u ∈ cs,u.oneCell'=true:=Dat.Is.one h
theorem Slc.ext {N:Nat} {p:Option Addr} {len cap:Nat} {xs:List α} (h:Slc σ p len cap xs) (he:Ext N σ σ'):Slc σ' p len cap xs:=by
 obtain ⟨h1,h2,h3,h4,b,o,h5,h6⟩:=h
 exact ⟨h1,h2,h3,h4,b,o,h5,Dat.RowIs.mono he.keep h6⟩
theorem Qa {cs:List Value} {n:Int}:FV σ cs n ↔ cs=[.int .i64 n]∧(Lit.int .i64 n).wf=true:=Iff.rfl
theorem QS {cs:List Value} {s:ByteArray}:FV σ cs s ↔ cs=[.string s]∧s.size≤maxLen:=Iff.rfl
theorem Slc.length {p:Option Addr} {len cap:Nat} {xs:List α} (h:Slc σ p len cap xs):len=xs.length:=h.1
theorem Slc.max {p:Option Addr} {len cap:Nat} {xs:List α} (h:Slc σ p len cap xs):len≤9223372036854775807:=by
 have h1:=h.2.1
 have h2:=h.2.2.1
 simp only [maxLen] at h2
 omega
theorem Slc.get {p:Option Addr} {len cap:Nat} {xs:List α} (h:Slc σ p len cap xs) (k:Nat) (hk:k < xs.length) :
  ∃ b o,p=some ⟨b,o,none⟩∧∃ cs,cs.length=wid α∧(∀ j x,cs[j]?=some x→σ ⟨b,o + k * wid α + j,none⟩=some x)∧FV σ cs xs[k]:=by
 obtain ⟨h1,h2,h3,h4,b,o,h5,h6⟩:=h
 refine ⟨b,o,h5 (by omega),?_⟩
 obtain ⟨cs,c1,c2,c3⟩:=h6.get k (by simpa using hk)
 exact ⟨cs,c1,c2,by simpa [FV] using c3⟩
theorem Slc.nil (σ:Sto):Slc (α:=α) σ none 0 0 []:=⟨rfl,Nat.le_refl _,by simp [maxLen],fun _=>rfl,0,0,fun h=>absurd rfl h,trivial⟩
structure Own (σ:Sto) (N:Nat) (w:World) (e:TypeId) (v:Value) (xs:List α):Prop where
 row:∃ cs:List Value,w.ownsRow N e (wid α) v xs.length cs∧Dat.AggIs σ (xs.map dat) cs
 free:∀ g,v.ownBlock=some g→∀ p:Addr,p.block=g→σ p=none
theorem Own.nil (σ:Sto) (N:Nat) (w:World) (e:TypeId):Own (α:=α) σ N w e (.slice none 0 0) [] :=
 ⟨⟨[],World.ownsRow_nil w N e _,rfl⟩,fun g h=>by simp [Value.ownBlock] at h⟩
theorem Own.lt {N:Nat} {w:World} {e:TypeId} {v:Value} {xs:List α} (h:Own σ N w e v xs):∀ g,v.ownBlock=some g→N≤g∧g < w.heap.size:=by
 obtain ⟨cs,h1,_⟩:=h.row
 exact h1.lt
theorem Own.mono {N M:Nat} {w:World} {e:TypeId} {v:Value} {xs:List α} (h:Own σ N w e v xs) (hm:M≤N):Own σ M w e v xs:=by
 obtain ⟨⟨cs,⟨h1,h2⟩,h3⟩,h4⟩:=h
 refine ⟨⟨cs,⟨h1,?_⟩,h3⟩,h4⟩
 rcases h2 with h0 | ⟨g,cap,cur,hv,hg,r⟩
 ·exact .inl h0
 ·exact .inr ⟨g,cap,cur,hv,by omega,r⟩
theorem Own.kept {N:Nat} {w w':World} {e:TypeId} {v:Value} {xs:List α} (h:Own σ N w e v xs) (hb:∀ g,v.ownBlock=some g→w'.heap[g]?=w.heap[g]?) (he:∀ p x,σ p=some x→σ' p=some x)
  (hn:∀ g,v.ownBlock=some g→∀ p:Addr,p.block=g→σ' p=σ p):Own σ' N w' e v xs:=by
 obtain ⟨cs,⟨h1,h2⟩,h3⟩:=h.row
 refine ⟨⟨cs,⟨h1,?_⟩,Dat.AggIs.mono he h3⟩,fun g hg p hp=>(hn g hg p hp).trans (h.free g hg p hp)⟩
 rcases h2 with h0 | ⟨g,cap,cur,rfl,r⟩
 ·exact .inl h0
 ·exact .inr ⟨g,cap,cur,rfl,r.1,by rw [hb g rfl];exact r.2.1,r.2.2⟩
theorem Own.call {N:Nat} {w w':World} {e:TypeId} {v:Value} {xs:List α} (h:Own σ N w e v xs) (hb:Below w.heap.size w w') (he:Ext w.heap.size σ σ'):Own σ' N w' e v xs :=
 h.kept (fun g hg=>hb.block g (h.lt g hg).2) he.keep (fun g hg p hp=>he.old p (by have:=(h.lt g hg).2;omega))
theorem Own.below {N:Nat} {w w':World} {e:TypeId} {v:Value} {xs:List α} (h:Own σ N w e v xs) (hb:Below w.heap.size w w'):Own σ N w' e v xs:=h.call hb (Ext.refl _ _)
theorem Own.drew {N:Nat} {w:World} {e:TypeId} {v:Value} {xs:List α} (h:Own σ N w e v xs):Own σ N w.drew e v xs:=h.kept (fun _ _=>rfl) (fun _ _ h=>h) (fun _ _ _ _=>rfl)
theorem Own.alloc {N:Nat} {w:World} {e:TypeId} {v:Value} {xs:List α} (h:Own σ N w e v xs) (o:Obj):Own σ N (w.alloc o) e v xs:=h.below ((Below.refl _ _).alloc (Nat.le_refl _) _)
theorem Own.setCell {N:Nat} {w:World} {e:TypeId} {v:Value} {xs:List α} (h:Own σ N w e v xs) {p:Addr} (hp:v.ownBlock ≠ some p.block) (u:Value):Own σ N (w.setCell p u) e v xs :=
 h.kept (fun g hg=>Below.heap_setCell w p u g (fun e=>hp (by rw [hg,e]))) (fun _ _ h=>h) (fun _ _ _ _=>rfl)
theorem Own.done {N:Nat} {w:World} {e:TypeId} {v:Value} {xs:List α} (h:Own σ N w e v xs) (hf:Fit σ w) (M:Nat) (hM:M≤N) :
  ∃ σ',Ext M σ σ'∧Fit σ' w∧(∀ p:Addr,some p.block ≠ v.ownBlock→σ' p=σ p)∧∃ p len cap,v=.slice p len cap∧Slc σ' p len cap xs:=by
 obtain ⟨cs,⟨h1,h2⟩,h3⟩:=h.row
 rcases h2 with ⟨rfl,h0⟩ | ⟨g,cap,cur,rfl,hg,hh,hn,hm,hcs,htake⟩
 ·have:xs=[]:=List.eq_nil_of_length_eq_zero h0
  subst this
  exact ⟨σ,Ext.refl _ _,hf,fun _ _=>rfl,none,0,0,rfl,Slc.nil σ⟩
 ·have hfree:=h.free g rfl
  refine ⟨fun p=>if p.block=g∧p.off < cs.length∧p.spot=none then w.cell? p else σ p,⟨fun p x hp=>?_,fun p hp=>?_⟩,fun p x hp=>?_,fun p hp=>?_,some ⟨g,0,none⟩,xs.length,cap,rfl,rfl,hn,hm,by simp,g,0,fun _=>rfl,?_⟩
  ·show (if _ then _ else _)=_
   split
   ·rename_i hc
    rw [← B6 hc.2.2]
    exact hf p x hp
   ·exact hp
  ·show (if _ then _ else _)=_
   rw [if_neg (by omega)]
  ·dsimp only at hp
   split at hp
   ·rename_i hc
    rw [B6 hc.2.2]
    exact hp
   ·exact hf p x hp
  ·show (if _ then _ else _)=_
   rw [if_neg]
   rintro ⟨rfl,_⟩
   exact hp (by simp [Value.ownBlock])
  ·refine Dat.RowIs.of_all (cs:=cs) ?_ ?_ (Dat.AggIs.mono ?_ h3)
   ·intro d hd ys hy
    obtain ⟨a,_,rfl⟩:=List.mem_map.1 hd
    exact Cod.len _ a ys hy
   ·intro j x hj
    have hjl:j < cs.length:=by
     rcases Nat.lt_or_ge j cs.length with h' | h'
     ·exact h'
     ·rw [List.getElem?_eq_none h'] at hj;cases hj
    show (if _ then _ else _)=_
    rw [if_pos ⟨rfl,by simpa using hjl,rfl⟩]
    have:=World.ownsRow.cells (w:=w) (base:=N) (e:=e) (size:=wid α) (v:=.slice (some ⟨g,0,none⟩) xs.length cap) (n:=xs.length) (xs:=cs) ⟨h1,.inr ⟨g,cap,cur,rfl,hg,hh,hn,hm,hcs,htake⟩⟩ (g:=g) rfl j x hj
    have hadd:(⟨g,0,none⟩:Addr).add j=⟨g,0 + j,none⟩:=by unfold Addr.add;split <;> simp_all
    rw [hadd] at this
    exact this
   ·intro p x hp
    show (if _ then _ else _)=_
    rw [if_neg]
    ·exact hp
    ·rintro ⟨hb,_⟩
     rw [hfree p hb] at hp
     cases hp
end

inductive Tm where
 | mk (name:ByteArray) (args:List Tm)
def Tm.name:Tm→ByteArray | .mk n _=>n
def Tm.args:Tm→List Tm | .mk _ xs=>xs
theorem Tm.eta (t:Tm):Tm.mk t.name t.args=t:=by cases t;rfl
mutual
def Tm.dat:Tm→Dat
 | .mk n xs=>.agg [.str n,.row 2 (Tm.dats xs)]
def Tm.dats:List Tm→List Dat
 | []=>[]
 | t :: ts=>t.dat :: Tm.dats ts
end
theorem Tm.dats_eq:∀ xs:List Tm,Tm.dats xs=xs.map Tm.dat
 | []=>rfl
 | t :: ts=>by rw [Tm.dats,Tm.dats_eq ts];rfl
theorem Tm.dat_is {σ:Sto} {n:ByteArray} {xs:List Tm} {cs:List Value} (h:(Tm.dat (.mk n xs)).Is σ cs) :
  ∃ p len cap,cs=[.string n,.slice p len cap]∧n.size≤maxLen∧len=xs.length∧len≤cap∧cap≤maxLen∧(p=none→cap=0)∧∃ b o,(len ≠ 0→p=some ⟨b,o,none⟩)∧Dat.RowIs σ 2 (xs.map Tm.dat) b o:=by
 rw [Tm.dat,Tm.dats_eq] at h
 obtain ⟨x,y,rfl,⟨rfl,hn⟩,x',y',rfl,⟨p,len,cap,rfl,hl,r⟩,rfl⟩:=h
 exact ⟨p,len,cap,rfl,hn,by simpa using hl,r⟩
instance:Cod Tm:=⟨2,Tm.dat,fun σ t cs h=>by
 cases t
 obtain ⟨p,len,cap,rfl,_⟩:=Tm.dat_is h
 rfl⟩
def TmV (σ:Sto) (v:Value) (t:Tm):Prop:=∃ p len cap,v=.agg #[.string t.name,.slice p len cap]∧t.name.size≤maxLen∧Slc σ p len cap t.args
theorem TmV.ext {σ σ':Sto} {N:Nat} {v:Value} {t:Tm} (h:TmV σ v t) (he:Ext N σ σ'):TmV σ' v t:=by
 obtain ⟨p,len,cap,h1,h2,h3⟩:=h
 exact ⟨p,len,cap,h1,h2,h3.ext he⟩
theorem Slc.str {σ:Sto} {p:Option Addr} {len cap:Nat} {xs:List ByteArray} (h:Slc σ p len cap xs) (k:Nat) (hk:k < len) :
  ∃ b o a,p=some ⟨b,o,none⟩∧Hid (xs[k]?=some a)∧σ ⟨b,o + k,none⟩=some (.string a)∧a.size≤maxLen:=by
 have hl:=h.length
 obtain ⟨b,o,hp,cs,h1,h2,h3⟩:=h.get k (by omega)
 obtain ⟨rfl,h4⟩:=QS.1 h3
 have:=h2 0 _ rfl
 exact ⟨b,o,xs[k],hp,Lib.hid (List.getElem?_eq_getElem (by omega)),by simpa [Cod.wid] using this,h4⟩
theorem P6 {n:Int} (h:(Lit.int .i64 n).wf=true):-9223372036854775808≤n∧n≤9223372036854775807:=by
 simpa [Lit.wf,IntKind.min,IntKind.max,IntKind.signed,IntKind.bits] using h
theorem Slc.int {σ:Sto} {p:Option Addr} {len cap:Nat} {xs:List Int} (h:Slc σ p len cap xs) (k:Nat) (hk:k < len) :
  ∃ b o a,p=some ⟨b,o,none⟩∧Hid (xs[k]?=some a)∧σ ⟨b,o + k,none⟩=some (.int .i64 a)∧-9223372036854775808≤a∧a≤9223372036854775807:=by
 have hl:=h.length
 obtain ⟨b,o,hp,cs,h1,h2,h3⟩:=h.get k (by omega)
 obtain ⟨rfl,h4⟩:=Qa.1 h3
 have:=h2 0 _ rfl
 exact ⟨b,o,xs[k],hp,Lib.hid (List.getElem?_eq_getElem (by omega)),by simpa [Cod.wid] using this,P6 h4⟩
theorem B7 {α:Type} {xs:List α} {k:Nat} {a:α} (h:xs[k]?=some a):xs.take (k + 1)=xs.take k ++ [a]:=by
 rw [List.take_add_one,h];rfl
theorem KS {α:Type} {xs:List α} {k:Nat} {a:α} (h:xs[k]?=some a):k < xs.length:=by
 rcases Nat.lt_or_ge k xs.length with h' | h'
 ·exact h'
 ·rw [List.getElem?_eq_none h'] at h;cases h
theorem Ae {α:Type} {xs:List α} {k:Nat} {a:α} (h:xs[k]?=some a):a ∈ xs:=List.mem_of_getElem? h
theorem Tm.lt_of_mem {a:Tm} {n:ByteArray} {xs:List Tm} (h:a ∈ xs):SizeOf.sizeOf a < SizeOf.sizeOf (Tm.mk n xs):=by
 have:=List.sizeOf_lt_of_mem h
 simp only [Tm.mk.sizeOf_spec]
 omega

def Bi (n:Int):Bool:=decide (97≤n∧n≤122) || decide (65≤n∧n≤90) || decide (48≤n∧n≤57)
def Ac (s:ByteArray) (k:Nat):Int:=((s.data.toList.getD k 0).toNat:Int)
theorem MC (s:ByteArray) (k:Nat):0≤Ac s k∧Ac s k≤255:=by
 unfold Ac
 have:=(s.data.toList.getD k 0).toNat_lt
 omega
def D0 (s:ByteArray):Bool:=decide (0 < s.size) && decide (65≤Ac s 0) && decide (Ac s 0≤90)
def B4 (s:ByteArray) (k:Nat):Bool:=(s.data.toList.take k).all fun c=>Bi c.toNat
def A9 (s:ByteArray):Bool:=decide (1≤s.size) && decide (s.size≤8) && !(decide (48≤Ac s 0) && decide (Ac s 0≤57)) && B4 s s.size
theorem Io (s:ByteArray) (k:Nat) (h:k < s.size):B4 s (k + 1)=(B4 s k && Bi (Ac s k)):=by
 unfold B4 Ac
 have h2:k < s.data.toList.length:=by simpa using h
 rw [List.take_add_one,List.getD_eq_getElem?_getD,List.getElem?_eq_getElem h2]
 simp
theorem LR (s:ByteArray) (k:Nat) (h:k < s.size) (hn:Bi (Ac s k)=false):B4 s s.size=false:=by
 unfold B4 Ac at *
 have h2:k < s.data.toList.length:=by simpa using h
 rw [List.getD_eq_getElem?_getD,List.getElem?_eq_getElem h2] at hn
 rw [List.all_eq_false]
 refine ⟨s.data.toList[k],?_,by simpa using hn⟩
 rw [List.take_of_length_le (by simp)]
 exact List.getElem_mem h2
mutual
def Tm.size:Tm→Nat
 | .mk _ xs=>1 + Tm.sizes xs
def Tm.sizes:List Tm→Nat
 | []=>0
 | t :: ts=>t.size + Tm.sizes ts
end
theorem Tm.sizes_append (xs ys:List Tm):Tm.sizes (xs ++ ys)=Tm.sizes xs + Tm.sizes ys:=by
 induction xs with
 | nil=>simp [Tm.sizes]
 | cons t ts ih=>simp only [List.cons_append,Tm.sizes,ih];omega
theorem Tm.sizes_take {xs:List Tm} {k:Nat} {a:Tm} (h:xs[k]?=some a):Tm.sizes (xs.take (k+1))=Tm.sizes (xs.take k) + a.size:=by
 rw [B7 h,Tm.sizes_append];simp [Tm.sizes]
theorem Tm.sizes_take_le (xs:List Tm) (k:Nat) :Tm.sizes (xs.take k)≤Tm.sizes xs:=by
 have:=Tm.sizes_append (xs.take k) (xs.drop k)
 rw [List.take_append_drop] at this
 omega
theorem Tm.size_eq (t:Tm):t.size=1 + Tm.sizes t.args:=by cases t;rfl
theorem Tm.size_pos (t:Tm):1≤t.size:=by rw [Tm.size_eq];omega
theorem Tm.size_mem {a:Tm} {xs:List Tm} (h:a ∈ xs):a.size≤Tm.sizes xs:=by
 induction xs with
 | nil=>simp at h
 | cons t ts ih =>
  rcases List.mem_cons.1 h with rfl | h
  ·simp only [Tm.sizes];omega
  ·have:=ih h;simp only [Tm.sizes];omega
theorem Tm.length_le (xs:List Tm):xs.length≤Tm.sizes xs:=by
 induction xs with
 | nil=>simp [Tm.sizes]
 | cons t ts ih=>have:=Tm.size_pos t;simp only [Tm.sizes,List.length_cons];omega
theorem Tm.lt_of_arg {a t:Tm} (h:a ∈ t.args):SizeOf.sizeOf a < SizeOf.sizeOf t:=by
 cases t
 exact Tm.lt_of_mem h
def Ba (s:Nat) (m:Int):Int:=if m < s then -1 else m - s
def BQ (s:Nat) (m:Int):Int:=if m < s then m + 1 else s
mutual
def Tm.knots:Tm→List Tm
 | .mk n xs=>.mk n xs :: Tm.knotsL xs
def Tm.knotsL:List Tm→List Tm
 | []=>[]
 | t :: ts=>t.knots ++ Tm.knotsL ts
end
def FZ (t:Tm):Int:=if A9 t.name=true then (if D0 t.name=true∧0 < t.args.length then 2 else 0) else 1
mutual
def Tm.chk:Tm→Int
 | .mk n xs=>if FZ (.mk n xs)=0 then Tm.chkL xs else FZ (.mk n xs)
def Tm.chkL:List Tm→Int
 | []=>0
 | t :: ts=>if t.chk=0 then Tm.chkL ts else t.chk
end
theorem Tm.chk_eq (t:Tm):t.chk=if FZ t=0 then Tm.chkL t.args else FZ t:=by cases t;rfl
theorem Tm.chkL_append (xs ys:List Tm):Tm.chkL (xs ++ ys)=if Tm.chkL xs=0 then Tm.chkL ys else Tm.chkL xs:=by
 induction xs with
 | nil=>simp [Tm.chkL]
 | cons t ts ih =>
  simp only [List.cons_append,Tm.chkL]
  by_cases h:t.chk=0
  ·simp only [h,if_true,ih]
  ·simp only [h,if_false]
theorem Tm.chkL_get {xs:List Tm} {k:Nat} {a:Tm} (h:xs[k]?=some a) (h0:Tm.chkL (xs.take k)=0):(a.chk=0→Tm.chkL (xs.take (k+1))=0)∧(a.chk ≠ 0→Tm.chkL xs=a.chk):=by
 constructor
 ·intro ha
  rw [B7 h,Tm.chkL_append,if_pos h0]
  simp [Tm.chkL,ha]
 ·intro ha
  rw [← List.take_append_drop k xs,Tm.chkL_append,if_pos h0]
  have hd:xs.drop k=a :: xs.drop (k+1):=by
   have hk:=KS h
   rw [List.getElem?_eq_getElem hk] at h
   rw [List.drop_eq_getElem_cons hk]
   simp at h
   rw [h]
  rw [hd]
  simp [Tm.chkL,ha]
def Tm.may (t:Tm):Int:=if 200 < t.size then 3 else t.chk
def I5 (x:ByteArray) (l:List ByteArray):Bool:=l.any fun y=>decide (y=x)
theorem Js {x:ByteArray} {l:List ByteArray}:I5 x l=true ↔ x ∈ l:=by simp [I5]
theorem Sv {x:ByteArray} {l:List ByteArray}:I5 x l=false ↔ x ∉ l:=by rw [← Bool.not_eq_true,Js]
mutual
def Tm.places:Tm→List (List Int)
 | .mk _ xs=>[] :: Tm.placesFrom 0 xs
def Tm.placesFrom:Nat→List Tm→List (List Int)
 | _,[]=>[]
 | k,t :: ts=>t.places.map (fun p=>(k:Int) :: p) ++ Tm.placesFrom (k+1) ts
end
theorem H_ {s z:Nat} {m:Int} (h:0≤Ba s m):Ba z (Ba s m)=Ba (s + z) m:=by
 unfold Ba at *
 split at h
 ·omega
 ·rename_i h1
  rw [if_neg h1]
  split <;> split <;> omega
theorem Jo {s z:Nat} {m:Int} (h:Ba s m < 0) (hz:s≤z):Ba s m=Ba z m:=by
 unfold Ba at *
 split at h
 ·rw [if_pos (by assumption),if_pos (by omega)]
 ·omega
theorem Ks (s:Nat) (m:Int) (h:0≤m):-1≤Ba s m∧Ba s m≤m:=by unfold Ba;split <;> omega
theorem JY {s z:Nat} {m:Int} (h:(s:Int)≤m):(s:Int) + BQ z (m - s)=BQ (s + z) m:=by
 unfold BQ
 split <;> split <;> omega
theorem E0 {s z:Nat} {m:Int} (h:m < BQ s m) (hz:s≤z):BQ z m=m + 1:=by
 unfold BQ at *
 split at h <;> split <;> omega
theorem Gr (s:Nat) (m:Int) (h:0≤m):0≤BQ s m∧BQ s m≤m + 1:=by unfold BQ;split <;> omega
theorem NY {s:Nat} {m:Int} (h:¬ m < BQ s m):BQ s m=s∧(s:Int)≤m:=by
 unfold BQ at *
 split at h
 ·omega
 ·rename_i h2
  rw [if_neg h2]
  omega

inductive SV where
 | int (k:IntKind) (n:Int)
 | str (s:ByteArray)
 | bool (b:Bool)
 | list (xs:List (List SV))
 | lit (v:Value)
 | err
 | clo (f:Nat) (css:List (List SV))
 | ref (cs:List SV)
inductive AC where
 | st (c:SV)
 | full (xs:List (List SV))
 | row (id n:Nat)
 | part (id k n:Nat)
 | rest (id o n:Nat)
 | ptr (id n k off:Nat)
 | eptr (cs:List SV)
 | mptr (id:Nat)
 | yld (id:Nat)
 | ubool
 | fn (f:Nat) (caps:List AC)
 | any
inductive AV where
 | one (c:AC)
 | agg (cs:List AC)
 | tup (vs:List AV)
 | any
inductive KK where
 | int (k:IntKind)
 | two (a b:Option IntKind)
inductive KV where
 | s (b:ByteArray)
 | i (n:Int)
 | p (x y:KV)
 deriving DecidableEq
def KV.sv1:Option IntKind→KV→Option SV
 | none,.s b=>some (.str b)
 | some k,.i n=>some (.int k n)
 | _,_=>none
def KV.of1:Option IntKind→SV→Option KV
 | none,.str b=>some (.s b)
 | some k,.int k' n=>if k'=k then some (.i n) else none
 | _,_=>none
def KV.sv:Option KK→KV→Option AV
 | none,.s b=>some (.one (.st (.str b)))
 | some (.int k),.i n=>some (.one (.st (.int k n)))
 | some (.two a b),.p x y=>match KV.sv1 a x,KV.sv1 b y with
  | some c,some d=>some (.agg [.st c,.st d])
  | _,_=>none
 | _,_=>none
def KV.of:Option KK→SV→Option KV
 | none,.str b=>some (.s b)
 | some (.int k),.int k' n=>if k'=k then some (.i n) else none
 | _,_=>none
def KV.of2:Option KK→SV→SV→Option KV
 | some (.two a b),x,y=>match KV.of1 a x,KV.of1 b y with
  | some c,some d=>some (.p c d)
  | _,_=>none
 | _,_,_=>none
inductive AU where
 | box (e:TypeId) (cs:List AC)
 | crow (e:TypeId) (cs:List AC)
 | arow (e:TypeId) (w:Nat) (xs:List (List SV))
 | mrow (e:TypeId) (w:Nat) (xs:List (List SV))
 | map (kt:Option KK) (es:List (KV × AV))
 | memo (f:List SV→List SV→SV→Prop)
 | iter (x:AC) (n:Nat) (seen:List Nat)
 | loop (env:List AV) (r:Loop)
 | dead (n w:Nat)
def AU.len:AU→Nat
 | .box _ _=>1
 | .crow _ cs=>cs.length
 | .arow _ _ xs=>xs.length
 | .mrow _ _ xs=>xs.length
 | .map _ _=>1
 | .memo _=>1
 | .iter _ _ _=>1
 | .loop _ _=>1
 | .dead n _=>n
def AU.wid:AU→Nat
 | .box _ _=>0
 | .crow _ _=>1
 | .arow _ w _=>w
 | .mrow _ w _=>w
 | .map _ _=>0
 | .memo _=>0
 | .iter _ _ _=>0
 | .loop _ _=>0
 | .dead _ w=>w
abbrev AA:=Nat→Option AU
structure Hnd where
 p:Option Addr
 cap:Nat
 g:Option Nat
abbrev As:=Nat→Hnd
def noS:AA:=fun _=>none
def noH:As:=fun _=>⟨none,0,none⟩
def inR (k:IntKind) (n:Int):Prop:=k.min≤n∧n≤k.max
inductive Af {α β:Type} (R:α→β→Prop):List α→List β→Prop
 | nil:Af R [] []
 | cons {a b l m}:R a b→Af R l m→Af R (a :: l) (b :: m)
section
variable {α β:Type} {R R':α→β→Prop}
theorem Af.mono (h:∀ a b,R a b→R' a b):∀ {l m},Af R l m→Af R' l m
 | _,_,.nil=>.nil
 | _,_,.cons x y=>.cons (h _ _ x) (Af.mono h y)
theorem Af.len:∀ {l m},Af R l m→l.length=m.length
 | _,_,.nil=>rfl
 | _,_,.cons x y=>by simp [Af.len y]
theorem Af.get:∀ {l m},Af R l m→∀ {j:Nat} {b:β},m[j]?=some b→∃ a,l[j]?=some a∧R a b
 | _,_,.nil,j,b,h=>by simp at h
 | _,_,.cons x y,0,b,h=>by simp at h;subst h;exact ⟨_,rfl,x⟩
 | _,_,.cons x y,j + 1,b,h=>by simpa using Af.get y (by simpa using h)
theorem Af.get':∀ {l m},Af R l m→∀ {j:Nat} {a:α},l[j]?=some a→∃ b,m[j]?=some b∧R a b
 | _,_,.nil,j,b,h=>by simp at h
 | _,_,.cons x y,0,b,h=>by simp at h;subst h;exact ⟨_,rfl,x⟩
 | _,_,.cons x y,j + 1,b,h=>by simpa using Af.get' y (by simpa using h)
theorem Af.of_get:∀ {l:List α} {m:List β},l.length=m.length→(∀ (j:Nat) a b,l[j]?=some a→m[j]?=some b→R a b)→Af R l m
 | [],[],_,_=>.nil
 | a :: l,b :: m,h,hr=>.cons (hr 0 a b rfl rfl) (Af.of_get (by simpa using h) fun j a b ha hb=>hr (j + 1) a b (by simpa using ha) (by simpa using hb))
theorem Af.append:∀ {l m l' m'},Af R l m→Af R l' m'→Af R (l ++ l') (m ++ m')
 | _,_,_,_,.nil,h=>h
 | _,_,_,_,.cons x y,h=>.cons x (Af.append y h)
theorem Af.take:∀ {l m},Af R l m→∀ k,Af R (l.take k) (m.take k)
 | _,_,.nil,k=>by simpa using Af.nil
 | _,_,.cons x y,0=>.nil
 | _,_,.cons x y,k + 1=>.cons x (Af.take y k)
theorem Af.drop:∀ {l m},Af R l m→∀ k,Af R (l.drop k) (m.drop k)
 | _,_,.nil,k=>by simpa using Af.nil
 | _,_,.cons x y,0=>.cons x y
 | _,_,.cons x y,k + 1=>Af.drop y k
theorem Af.map_right {γ:Type} {f:γ→β}:∀ {l:List α} {m:List γ},Af (fun a c=>R a (f c)) l m→Af R l (m.map f)
 | _,_,.nil=>.nil
 | _,_,.cons x y=>.cons x (Af.map_right y)
end
def C8 (cs:List SV):Bool:=decide (2≤cs.length) && cs.any fun c=>match c with
 | .int _ _=>false
 | _=>true
theorem Qb {cs:List SV} (h:C8 cs=true):2≤cs.length:=by
 unfold C8 at h
 rw [Bool.and_eq_true,decide_eq_true_eq] at h
 exact h.1
theorem PW {cs ds:List SV} (hl:ds.length≤cs.length) (hs:∀ x ∈ ds,x ∈ cs) (h:C8 ds=true):C8 cs=true:=by
 unfold C8 at h ⊢
 rw [Bool.and_eq_true,decide_eq_true_eq,List.any_eq_true] at h
 rw [Bool.and_eq_true,decide_eq_true_eq,List.any_eq_true]
 obtain ⟨h1,x,h2,h3⟩:=h
 exact ⟨by omega,x,hs x h2,h3⟩
theorem Gg {cs:List SV} {n:Nat} (h:C8 (cs.drop n)=true):C8 cs=true:=PW (by simp) (fun _ hx=>List.mem_of_mem_drop hx) h
inductive A0 (σ:Sto):Value→SV→Prop
 | int {k n}:inR k n→A0 σ (.int k n) (.int k n)
 | str {s}:s.size≤maxLen→A0 σ (.string s) (.str s)
 | bool {b}:A0 σ (.bool b) (.bool b)
 | list {p len cap b o w xs} (c:Nat→Nat→Value):len=xs.length→len≤cap→cap≤maxLen→(p=none→cap=0)→(len ≠ 0→p=some ⟨b,o,none⟩)→(∀ x ∈ xs,x.length=w)→(CG=true→2≤w→xs ≠ []→σ ⟨b,0,some 1⟩=some .nilFunc) →
   (∀ k x j a,xs[k]?=some x→x[j]?=some a→σ ⟨b,o + k * w + j,none⟩=some (c k j))→(∀ k x j a,xs[k]?=some x→x[j]?=some a→A0 σ (c k j) a)→A0 σ (.slice p len cap) (.list xs)
 | lit {v}:v.oneCell'=true→A0 σ v (.lit v)
 | err {t x}:A0 σ (.iface t x) .err
 | clo {f vs css} (b o:Nat→Nat) (c:Nat→Nat→Value):vs.size=css.length→(∀ k x,css[k]?=some x→vs[k]?=some (Value.pointer (some ⟨b k,o k,none⟩)))→(∀ k x,css[k]?=some x→CG=true→C8 x=true→σ ⟨b k,0,some 1⟩=some .nilFunc) →
   (∀ k x j a,css[k]?=some x→x[j]?=some a→σ ⟨b k,o k + j,none⟩=some (c k j))→(∀ k x j a,css[k]?=some x→x[j]?=some a→A0 σ (c k j) a)→A0 σ (.func (.func f) #[] vs) (.clo f css)
 | ref {b o cs} (c:Nat→Value):(∀ j a,cs[j]?=some a→σ ⟨b,o + j,none⟩=some (c j))→(∀ j a,cs[j]?=some a→A0 σ (c j) a)→(CG=true→C8 cs=true→σ ⟨b,0,some 1⟩=some .nilFunc)→A0 σ (.pointer (some ⟨b,o,none⟩)) (.ref cs)
theorem A0.mono {σ σ':Sto} (h:∀ p x,σ p=some x→σ' p=some x) {v:Value} {c:SV} (hr:A0 σ v c):A0 σ' v c:=by
 induction hr with
 | int h=>exact .int h
 | str h=>exact .str h
 | bool=>exact .bool
 | list c h1 h2 h3 h4 h5 h6 hh h7 h8 ih=>exact .list c h1 h2 h3 h4 h5 h6 (fun q1 q2 q3=>h _ _ (hh q1 q2 q3)) (fun k x j a hx ha=>h _ _ (h7 k x j a hx ha)) ih
 | lit h=>exact .lit h
 | err=>exact .err
 | clo b o c h1 h2 h3 h4 h5 ih=>exact .clo b o c h1 h2 (fun k x hx q1 q2=>h _ _ (h3 k x hx q1 q2)) (fun k x j a hx ha=>h _ _ (h4 k x j a hx ha)) ih
 | ref c h1 h2 h3 ih=>exact .ref c (fun j a ha=>h _ _ (h1 j a ha)) ih fun q1 q2=>h _ _ (h3 q1 q2)
theorem A0.one {σ:Sto} {v:Value} {c:SV} (hr:A0 σ v c):v.oneCell'=true:=by
 cases hr <;> first | assumption | rfl
theorem Lj {v:Value} (h:v.oneCell'=true):v.cells=#[v]:=by
 cases v <;> first | rfl | simp [Value.oneCell'] at h
inductive Aq (σ:Sto) (S:AA) (ι:As):Value→AC→Prop
 | st {v c}:A0 σ v c→Aq σ S ι v (.st c)
 | full {p len xs}:A0 σ (.slice p len len) (.list xs)→Aq σ S ι (.slice p len len) (.full xs)
 | row {v id n b}:S id=some b→n≤b.len→v.oneCell'=true→(n=b.len→v=.slice (ι id).p n (ι id).cap)→Aq σ S ι v (.row id n)
 | part {v id k n b}:S id=some b→n≤b.len→v.oneCell'=true→(n=b.len→k≤n∧v=.slice (ι id).p k (ι id).cap)→Aq σ S ι v (.part id k n)
 | rest {v id o n b}:S id=some b→n≤b.len→v.oneCell'=true→(n=b.len→o≤n∧v=.slice (if (ι id).cap=o then (ι id).p else (ι id).p.map (·.add (o * b.wid))) (n - o) ((ι id).cap - o))→Aq σ S ι v (.rest id o n)
 | ptr {v id n k off b}:S id=some b→n≤b.len→v.oneCell'=true→(n=b.len→∃ g,(ι id).g=some g∧v=.pointer (some ⟨g,k * b.wid + off,none⟩))→Aq σ S ι v (.ptr id n k off)
 | mptr {v id b}:S id=some b→1≤b.len→v.oneCell'=true→(1=b.len→∃ g,(ι id).g=some g∧v=.map (some g))→Aq σ S ι v (.mptr id)
 | yld {v id b}:S id=some b→1≤b.len→v.oneCell'=true→(1=b.len→∃ g,(ι id).g=some g∧v=.func (.yield g) #[] #[])→Aq σ S ι v (.yld id)
 | ubool {b}:Aq σ S ι (.bool b) .ubool
 | eptr {b o cs} (c:Nat→Value):(∀ j a,cs[j]?=some a→σ ⟨b,o + j,none⟩=some (c j))→(∀ j a,cs[j]?=some a→A0 σ (c j) a)→(CG=true→C8 cs=true→σ ⟨b,0,some 1⟩=some .nilFunc)→Aq σ S ι (.pointer (some ⟨b,o,none⟩)) (.eptr cs)
 | fn {f vs caps} (c:Nat→Value):vs.size=caps.length→(∀ j a,caps[j]?=some a→vs[j]?=some (c j))→(∀ j a,caps[j]?=some a→Aq σ S ι (c j) a)→Aq σ S ι (.func (.func f) #[] vs) (.fn f caps)
 | any {v}:v.oneCell'=true→Aq σ S ι v .any
theorem SF {σ:Sto} {S:AA} {ι:As} {v:Value} {f:Nat} {css:List (List SV)} (h:Aq σ S ι v (.fn f (css.map .eptr))):A0 σ v (.clo f css):=by
 cases h with
 | fn c h1 h2 h3 =>
  have key:∀ k:Nat,∃ q:Nat × Nat × (Nat→Value),∀ x,css[k]?=some x→c k=.pointer (some ⟨q.1,q.2.1,none⟩)∧(∀ j a,x[j]?=some a→σ ⟨q.1,q.2.1 + j,none⟩=some (q.2.2 j))∧(∀ j a,x[j]?=some a→A0 σ (q.2.2 j) a)∧(CG=true→C8 x=true→σ ⟨q.1,0,some 1⟩=some .nilFunc):=fun k=>by
   cases hk:css[k]? with
   | none=>exact ⟨(0,0,fun _=>.bool true),fun x hx=>by cases hx⟩
   | some x =>
    have h4:=h3 k (.eptr x) (by simp [hk])
    generalize hv:c k=u at h4
    cases h4 with
    | eptr d g1 g2 g3=>exact ⟨(_,_,d),fun x' hx=>by cases hx;exact ⟨rfl,g1,g2,g3⟩⟩
  obtain ⟨q,hq⟩:=Classical.axiomOfChoice key
  refine .clo (fun k=>(q k).1) (fun k=>(q k).2.1) (fun k=>(q k).2.2) (by simpa using h1) (fun k x hx=>?_) (fun k x hx=>(hq k x hx).2.2.2) (fun k x j a hx ha=>(hq k x hx).2.1 j a ha) (fun k x j a hx ha=>(hq k x hx).2.2.1 j a ha)
  have h4:=h2 k (.eptr x) (by simp [hx])
  rw [h4,(hq k x hx).1]
theorem Rc {σ:Sto} {v:Value} {f:Nat} {css:List (List SV)} (h:A0 σ v (.clo f css)):∃ vs,v=.func (.func f) #[] vs∧∀ S ι,Af (Aq σ S ι) vs.toList (css.map .eptr):=by
 cases h with
 | @clo _ vs _ b o c h1 h2 h3 h4 h5 =>
  refine ⟨_,rfl,fun S ι=>Af.of_get (by simpa using h1) fun j v a hv ha=>?_⟩
  rw [List.getElem?_map,Option.map_eq_some_iff] at ha
  obtain ⟨x,hx,rfl⟩:=ha
  have e:=h2 j x hx
  rw [Array.getElem?_toList,e] at hv
  cases hv
  exact .eptr (c j) (fun k a ha=>h4 j x k a hx ha) (fun k a ha=>h5 j x k a hx ha) (h3 j x hx)
def Upd (S:AA) (ι:As) (S':AA) (ι':As):Prop:=∀ id b,S id=some b→∃ b',S' id=some b'∧b.len≤b'.len∧(b'.len=b.len→b'.wid=b.wid∧ι' id=ι id)
theorem Upd.trans {S1 S2 S3:AA} {ι1 ι2 ι3:As} (h:Upd S1 ι1 S2 ι2) (k:Upd S2 ι2 S3 ι3):Upd S1 ι1 S3 ι3:=fun id b hb=>by
 obtain ⟨b2,h1,h2,h3⟩:=h id b hb
 obtain ⟨b3,k1,k2,k3⟩:=k id b2 h1
 refine ⟨b3,k1,by omega,fun he=>?_⟩
 obtain ⟨q1,q2⟩:=h3 (by omega)
 obtain ⟨p1,p2⟩:=k3 (by omega)
 exact ⟨p1.trans q1,p2.trans q2⟩
theorem Upd.refl (S:AA) (ι:As):Upd S ι S ι:=fun id b h=>⟨b,h,Nat.le_refl _,fun _=>⟨rfl,rfl⟩⟩
theorem Aq.mono {σ σ':Sto} {S S':AA} {ι ι':As} (h:∀ p x,σ p=some x→σ' p=some x) (hu:Upd S ι S' ι') {v:Value} {c:AC} (hr:Aq σ S ι v c):Aq σ' S' ι' v c:=by
 induction hr with
 | st h1=>exact .st (h1.mono h)
 | full h1=>exact .full (h1.mono h)
 | row h1 h2 h3 h4 =>
  obtain ⟨b',k1,k2,k3⟩:=hu _ _ h1
  refine .row k1 (by omega) h3 (fun hn=>?_)
  rw [(k3 (by omega)).2]
  exact h4 (by omega)
 | part h1 h2 h3 h4 =>
  obtain ⟨b',k1,k2,k3⟩:=hu _ _ h1
  refine .part k1 (by omega) h3 (fun hn=>?_)
  rw [(k3 (by omega)).2]
  exact h4 (by omega)
 | rest h1 h2 h3 h4 =>
  obtain ⟨b',k1,k2,k3⟩:=hu _ _ h1
  refine .rest k1 (by omega) h3 (fun hn=>?_)
  obtain ⟨e1,e2⟩:=k3 (by omega)
  rw [e1,e2]
  exact h4 (by omega)
 | ptr h1 h2 h3 h4 =>
  obtain ⟨b',k1,k2,k3⟩:=hu _ _ h1
  refine .ptr k1 (by omega) h3 (fun hn=>?_)
  obtain ⟨g,g1,g2⟩:=h4 (by omega)
  obtain ⟨e1,e2⟩:=k3 (by omega)
  exact ⟨g,by rw [e2];exact g1,by rw [e1];exact g2⟩
 | mptr h1 h2 h3 h4 =>
  obtain ⟨b',k1,k2,k3⟩:=hu _ _ h1
  refine .mptr k1 (by omega) h3 (fun hn=>?_)
  obtain ⟨g,g1,g2⟩:=h4 (by omega)
  obtain ⟨e1,e2⟩:=k3 (by omega)
  exact ⟨g,by rw [e2];exact g1,g2⟩
 | yld h1 h2 h3 h4 =>
  obtain ⟨b',k1,k2,k3⟩:=hu _ _ h1
  refine .yld k1 (by omega) h3 (fun hn=>?_)
  obtain ⟨g,g1,g2⟩:=h4 (by omega)
  obtain ⟨e1,e2⟩:=k3 (by omega)
  exact ⟨g,by rw [e2];exact g1,g2⟩
 | ubool=>exact .ubool
 | eptr c h1 h2 hh=>exact .eptr c (fun j a ha=>h _ _ (h1 j a ha)) (fun j a ha=>(h2 j a ha).mono h) fun q1 q2=>h _ _ (hh q1 q2)
 | fn c h1 h2 h3 ih=>exact .fn c h1 h2 ih
 | any h1=>exact .any h1
theorem Aq.one {σ:Sto} {S:AA} {ι:As} {v:Value} {c:AC} (hr:Aq σ S ι v c):v.oneCell'=true:=by
 cases hr with
 | st h=>exact h.one
 | full h=>exact h.one
 | row _ _ h _=>exact h
 | part _ _ h _=>exact h
 | rest _ _ h _=>exact h
 | ptr _ _ h _=>exact h
 | mptr _ _ h _=>exact h
 | yld _ _ h _=>exact h
 | ubool=>rfl
 | eptr=>rfl
 | fn=>rfl
 | any h=>exact h
inductive AN (σ:Sto) (S:AA) (ι:As):Value→AV→Prop
 | one {v c}:Aq σ S ι v c→AN σ S ι v (.one c)
 | agg {vs cs}:Af (Aq σ S ι) vs.toList cs→AN σ S ι (.agg vs) (.agg cs)
 | tup {vs ps} (c:Nat→Value):vs.size=ps.length→(∀ j a,ps[j]?=some a→vs[j]?=some (c j))→(∀ j a,ps[j]?=some a→AN σ S ι (c j) a)→AN σ S ι (.tuple vs) (.tup ps)
 | any {v}:AN σ S ι v .any
theorem AN.mono {σ σ':Sto} {S S':AA} {ι ι':As} (h:∀ p x,σ p=some x→σ' p=some x) (hu:Upd S ι S' ι') {v:Value} {c:AV} (hr:AN σ S ι v c):AN σ' S' ι' v c:=by
 induction hr with
 | one h1=>exact .one (h1.mono h hu)
 | agg h1=>exact .agg (h1.mono fun _ _ x=>x.mono h hu)
 | tup c h1 h2 h3 ih=>exact .tup c h1 h2 ih
 | any=>exact .any
def AV.cells:AV→Option (List AC)
 | .one c=>some [c]
 | .agg cs=>some cs
 | _=>none
theorem AN.cells {σ:Sto} {S:AA} {ι:As} {v:Value} {a:AV} {cs:List AC} (h:AN σ S ι v a) (hc:a.cells=some cs):Af (Aq σ S ι) v.cells.toList cs:=by
 cases h with
 | one h1 =>
  simp only [AV.cells,Option.some.injEq] at hc
  subst hc
  rw [Lj h1.one]
  exact .cons h1 .nil
 | agg h1 =>
  simp only [AV.cells,Option.some.injEq] at hc
  subst hc
  exact h1
 | tup=>simp [AV.cells] at hc
 | any=>simp [AV.cells] at hc
structure Dc (σ:Sto) (kt:Option KK) (ents:List MapEntry) (es:List (KV × AV)):Prop where
 all:Af (fun e x=>(∃ c,x.1.sv kt=some c∧AN σ noS noH e.key c)∧AN σ noS noH e.val x.2) ents es
 born:ents.map (·.born)=List.range ents.length
theorem Dc.mono {σ σ':Sto} {kt:Option KK} {ents:List MapEntry} {es:List (KV × AV)} (h:Dc σ kt ents es) (hs:∀ p x,σ p=some x→σ' p=some x):Dc σ' kt ents es :=
 ⟨h.all.mono fun _ _ x=>⟨x.1.elim fun c y=>⟨c,y.1,y.2.mono hs (Upd.refl _ _)⟩,x.2.mono hs (Upd.refl _ _)⟩,h.born⟩
def Ez (σ:Sto) (f:List SV→List SV→SV→Prop) (ents:List MapEntry):Prop :=
 ∀ e ∈ ents,∃ v1 v2 cs ds x,e.key=.agg #[v1,v2]∧Aq σ noS noH v1 (.eptr cs)∧Aq σ noS noH v2 (.eptr ds)∧C8 cs=true∧C8 ds=true∧A0 σ e.val x∧f cs ds x
theorem Ez.mono {σ σ':Sto} {f:List SV→List SV→SV→Prop} {ents:List MapEntry} (h:Ez σ f ents) (hs:∀ p x,σ p=some x→σ' p=some x):Ez σ' f ents:=fun e he=>by
 obtain ⟨v1,v2,cs,ds,x,h1,h2,h3,h4,h5,h6,h7⟩:=h e he
 exact ⟨v1,v2,cs,ds,x,h1,h2.mono hs (Upd.refl _ _),h3.mono hs (Upd.refl _ _),h4,h5,h6.mono hs,h7⟩
def SY:Obj→Bool
 | .deferred _=>false
 | _=>true
inductive Bc (σ:Sto) (S:AA) (ι:As) (w:World) (h:Hnd):AU→Prop
 | box {e cs g vs}:h.g=some g→h.p=some ⟨g,0,none⟩→w.heap[g]?=some (.cells vs e (0,0))→Af (Aq σ S ι) vs.toList cs→(∀ p:Addr,p.block=g→σ p=none)→Bc σ S ι w h (.box e cs)
 | crow {e cs g vs}:h.g=some g→h.p=some ⟨g,0,none⟩→w.heap[g]?=some (.cells vs e (0,0))→cs.length≤h.cap∧cs.length≤vs.size→h.cap≤maxLen→Af (Aq σ S ι) (vs.toList.take cs.length) cs→(∀ p:Addr,p.block=g→σ p=none)→Bc σ S ι w h (.crow e cs)
 | afull {e wd xs}:h.g=none→h.cap=xs.length→(∀ x ∈ xs,x.length=wd)→A0 σ (.slice h.p xs.length h.cap) (.list xs)→Bc σ S ι w h (.arow e wd xs)
 | arow {e wd xs g vs q}:h.g=some g→h.p=some ⟨g,q,none⟩→w.heap[g]?=some (.cells vs e (0,0))→xs.length≤h.cap→h.cap≤maxLen→vs.size=q + h.cap * wd→(∀ x ∈ xs,x.length=wd) →
   (∀ k x j a,xs[k]?=some x→x[j]?=some a→∃ v,vs[q + (k * wd + j)]?=some v∧A0 σ v a∧σ ⟨g,q + (k * wd + j),none⟩=some v)→(∀ p:Addr,p.block=g→σ p ≠ none→p.off < q + xs.length * wd)→(CG=true→2≤wd→xs ≠ []→σ ⟨g,0,some 1⟩=some .nilFunc)→Bc σ S ι w h (.arow e wd xs)
 | mnil {e wd}:h.g=none→h.cap=0→Bc σ S ι w h (.mrow e wd [])
 | mrow {e wd xs g vs}:h.g=some g→h.p=some ⟨g,0,none⟩→w.heap[g]?=some (.cells vs e (0,0))→xs.length≤h.cap→h.cap≤maxLen→vs.size=h.cap * wd→(∀ x ∈ xs,x.length=wd) →
   (∀ k x j a,xs[k]?=some x→x[j]?=some a→∃ v,vs[k * wd + j]?=some v∧A0 σ v a)→(∀ p:Addr,p.block=g→σ p=none)→Bc σ S ι w h (.mrow e wd xs)
 | map {kt es g ents}:h.g=some g→w.heap[g]?=some (.map ents ents.size)→Dc σ kt ents.toList es→(∀ p:Addr,p.block=g→σ p=none)→Bc σ S ι w h (.map kt es)
 | memo {f g ents}:h.g=some g→w.heap[g]?=some (.map ents ents.size)→Ez σ f ents.toList→(∀ p:Addr,p.block=g→σ p=none)→Bc σ S ι w h (.memo f)
 | iter {x n seen g m}:h.g=some g→w.heap[g]?=some (.mapIter (some m) n seen.toArray n)→Aq σ S ι (.map (some m)) x→(∀ p:Addr,p.block=g→σ p=none)→Bc σ S ι w h (.iter x n seen)
 | loop {env r g}:h.g=some g→w.heap[g]?=some (.loop r)→env.length≤r.tmps.size→(∀ (j:Nat) a,env[j]?=some a→AN σ S ι (r.tmps.getD j undef) a)→(∀ p:Addr,p.block=g→σ p=none)→Bc σ S ι w h (.loop env r)
 | dead {n wd}:(∀ g,h.g=some g→∃ o,w.heap[g]?=some o∧SY o=true)→Bc σ S ι w h (.dead n wd)
theorem Bc.gsome {σ:Sto} {S:AA} {ι:As} {w:World} {h:Hnd} {b:AU} (hr:Bc σ S ι w h b) {g:Nat} (hg:h.g=some g):g < w.heap.size:=by
 cases hr with
 | box h1 h2 h3=>rw [h1] at hg;cases hg;exact (Array.getElem?_eq_some_iff.1 h3).1
 | crow h1 h2 h3=>rw [h1] at hg;cases hg;exact (Array.getElem?_eq_some_iff.1 h3).1
 | afull h1=>rw [h1] at hg;cases hg
 | arow h1 h2 h3=>rw [h1] at hg;cases hg;exact (Array.getElem?_eq_some_iff.1 h3).1
 | mnil h1=>rw [h1] at hg;cases hg
 | mrow h1 h2 h3=>rw [h1] at hg;cases hg;exact (Array.getElem?_eq_some_iff.1 h3).1
 | map h1 h2=>rw [h1] at hg;cases hg;exact (Array.getElem?_eq_some_iff.1 h2).1
 | memo h1 h2=>rw [h1] at hg;cases hg;exact (Array.getElem?_eq_some_iff.1 h2).1
 | iter h1 h2=>rw [h1] at hg;cases hg;exact (Array.getElem?_eq_some_iff.1 h2).1
 | loop h1 h2=>rw [h1] at hg;cases hg;exact (Array.getElem?_eq_some_iff.1 h2).1
 | dead h1=>obtain ⟨o,h2,_⟩:=h1 _ hg;exact (Array.getElem?_eq_some_iff.1 h2).1
theorem Bc.own {σ:Sto} {S:AA} {ι:As} {w:World} {h:Hnd} {b:AU} (hr:Bc σ S ι w h b) {g:Nat} (hg:h.g=some g):∃ o,w.heap[g]?=some o∧SY o=true:=by
 cases hr with
 | box h1 h2 h3=>rw [h1] at hg;cases hg;exact ⟨_,h3,rfl⟩
 | crow h1 h2 h3=>rw [h1] at hg;cases hg;exact ⟨_,h3,rfl⟩
 | afull h1=>rw [h1] at hg;cases hg
 | arow h1 h2 h3=>rw [h1] at hg;cases hg;exact ⟨_,h3,rfl⟩
 | mnil h1=>rw [h1] at hg;cases hg
 | mrow h1 h2 h3=>rw [h1] at hg;cases hg;exact ⟨_,h3,rfl⟩
 | map h1 h2=>rw [h1] at hg;cases hg;exact ⟨_,h2,rfl⟩
 | memo h1 h2=>rw [h1] at hg;cases hg;exact ⟨_,h2,rfl⟩
 | iter h1 h2=>rw [h1] at hg;cases hg;exact ⟨_,h2,rfl⟩
 | loop h1 h2=>rw [h1] at hg;cases hg;exact ⟨_,h2,rfl⟩
 | dead h1=>exact h1 _ hg
theorem Bc.mono {σ σ':Sto} {S S':AA} {ι ι':As} {w w':World} {h:Hnd} {b:AU} (hr:Bc σ S ι w h b) (hs:∀ p x,σ p=some x→σ' p=some x) (hu:Upd S ι S' ι')
  (hw:∀ g,h.g=some g→w'.heap[g]?=w.heap[g]?) (hn:∀ g,h.g=some g→∀ p:Addr,p.block=g→σ' p=σ p):Bc σ' S' ι' w' h b:=by
 cases hr with
 | box h1 h2 h3 h4 h5=>exact .box h1 h2 ((hw _ h1).trans h3) (h4.mono fun _ _ x=>x.mono hs hu) fun p hp=>(hn _ h1 p hp).trans (h5 p hp)
 | crow h1 h2 h3 hc hm h4 h5=>exact .crow h1 h2 ((hw _ h1).trans h3) hc hm (h4.mono fun _ _ x=>x.mono hs hu) fun p hp=>(hn _ h1 p hp).trans (h5 p hp)
 | afull h1 h2 h3 h4=>exact .afull h1 h2 h3 (h4.mono hs)
 | arow h1 h2 h3 h4 h5 h6 h7 h8 h9 hh =>
  refine .arow h1 h2 ((hw _ h1).trans h3) h4 h5 h6 h7 (fun k x j a hx ha=>?_) (fun p hp hne=>h9 p hp (by rw [← hn _ h1 p hp];exact hne)) fun q1 q2 q3=>hs _ _ (hh q1 q2 q3)
  obtain ⟨v,v1,v2,v3⟩:=h8 k x j a hx ha
  exact ⟨v,v1,v2.mono hs,hs _ _ v3⟩
 | mnil h1 h2=>exact .mnil h1 h2
 | mrow h1 h2 h3 h4 h5 h6 h7 h8 h9 =>
  refine .mrow h1 h2 ((hw _ h1).trans h3) h4 h5 h6 h7 (fun k x j a hx ha=>?_) fun p hp=>(hn _ h1 p hp).trans (h9 p hp)
  obtain ⟨v,v1,v2⟩:=h8 k x j a hx ha
  exact ⟨v,v1,v2.mono hs⟩
 | map h1 h2 h3 h4=>exact .map h1 ((hw _ h1).trans h2) (h3.mono hs) fun p hp=>(hn _ h1 p hp).trans (h4 p hp)
 | memo h1 h2 h3 h4=>exact .memo h1 ((hw _ h1).trans h2) (h3.mono hs) fun p hp=>(hn _ h1 p hp).trans (h4 p hp)
 | iter h1 h2 h3 h4=>exact .iter h1 ((hw _ h1).trans h2) (h3.mono hs hu) fun p hp=>(hn _ h1 p hp).trans (h4 p hp)
 | loop h1 h2 h3 h4 h5=>exact .loop h1 ((hw _ h1).trans h2) h3 (fun j a ha=>(h4 j a ha).mono hs hu) fun p hp=>(hn _ h1 p hp).trans (h5 p hp)
 | dead h1=>exact .dead fun g hg=>by obtain ⟨o,h2,h3⟩:=h1 g hg;exact ⟨o,(hw g hg).trans h2,h3⟩
theorem Bc.srep {σ:Sto} {S:AA} {ι:As} {w:World} {h:Hnd} {e:TypeId} {wd:Nat} {xs:List (List SV)} (hr:Bc σ S ι w h (.arow e wd xs)):A0 σ (.slice h.p xs.length h.cap) (.list xs):=by
 cases hr with
 | afull h1 h2 h3 h4=>exact h4
 | @arow _ _ _ g vs q h1 h2 h3 h4 h5 h6 h7 h8 h9 hh =>
  refine .list (b:=g) (o:=q) (w:=wd) (fun k j=>(σ ⟨g,q + (k * wd + j),none⟩).getD undef) rfl h4 h5 (by simp [h2]) (fun _=>h2) h7 hh (fun k x j a hx ha=>?_) (fun k x j a hx ha=>?_)
  ·obtain ⟨v,v1,v2,v3⟩:=h8 k x j a hx ha
   simp [v3,Nat.add_assoc]
  ·obtain ⟨v,v1,v2,v3⟩:=h8 k x j a hx ha
   simpa [v3] using v2
mutual
def AC.ren (ρ:Nat→Nat):AC→AC
 | .st c=>.st c
 | .full xs=>.full xs
 | .row id n=>.row (ρ id) n
 | .part id k n=>.part (ρ id) k n
 | .rest id k n=>.rest (ρ id) k n
 | .ptr id n k off=>.ptr (ρ id) n k off
 | .mptr id=>.mptr (ρ id)
 | .yld id=>.yld (ρ id)
 | .ubool=>.ubool
 | .eptr cs=>.eptr cs
 | .fn f caps=>.fn f (AC.rens ρ caps)
 | .any=>.any
def AC.rens (ρ:Nat→Nat):List AC→List AC
 | []=>[]
 | c :: cs=>c.ren ρ :: AC.rens ρ cs
end
mutual
def AV.ren (ρ:Nat→Nat):AV→AV
 | .one c=>.one (c.ren ρ)
 | .agg cs=>.agg (AC.rens ρ cs)
 | .tup vs=>.tup (AV.rens ρ vs)
 | .any=>.any
def AV.rens (ρ:Nat→Nat):List AV→List AV
 | []=>[]
 | c :: cs=>c.ren ρ :: AV.rens ρ cs
end
def AU.ren (ρ:Nat→Nat):AU→AU
 | .box e cs=>.box e (AC.rens ρ cs)
 | .crow e cs=>.crow e (AC.rens ρ cs)
 | .iter x n seen=>.iter (x.ren ρ) n seen
 | .loop env r=>.loop (AV.rens ρ env) r
 | b=>b
theorem AC.rens_eq (ρ:Nat→Nat):∀ cs:List AC,AC.rens ρ cs=cs.map (AC.ren ρ)
 | []=>rfl
 | c :: cs=>by rw [AC.rens,AC.rens_eq ρ cs];rfl
theorem AV.rens_eq (ρ:Nat→Nat):∀ cs:List AV,AV.rens ρ cs=cs.map (AV.ren ρ)
 | []=>rfl
 | c :: cs=>by rw [AV.rens,AV.rens_eq ρ cs];rfl
theorem BH (ρ:Nat→Nat) (b:AU):(b.ren ρ).len=b.len:=by cases b <;> first | rfl | simp [AU.ren,AU.len,AC.rens_eq]
theorem F0 (ρ:Nat→Nat) (b:AU):(b.ren ρ).wid=b.wid:=by cases b <;> rfl
section
variable {σ:Sto} {S S2:AA} {ι ι2:As} {ρ:Nat→Nat}
theorem Aq.ren (hS:∀ i b,S i=some b→S2 (ρ i)=some (b.ren ρ)) (hι:∀ i b,S i=some b→ι2 (ρ i)=ι i) {v:Value} {c:AC} (h:Aq σ S ι v c):Aq σ S2 ι2 v (c.ren ρ):=by
 induction h with
 | st h=>exact .st h
 | full h=>exact .full h
 | row h1 h2 h3 h4=>exact .row (hS _ _ h1) (by rw [BH];exact h2) h3 (fun hn=>by rw [hι _ _ h1];exact h4 (by rw [BH] at hn;exact hn))
 | part h1 h2 h3 h4=>exact .part (hS _ _ h1) (by rw [BH];exact h2) h3 (fun hn=>by rw [hι _ _ h1];exact h4 (by rw [BH] at hn;exact hn))
 | rest h1 h2 h3 h4=>exact .rest (hS _ _ h1) (by rw [BH];exact h2) h3 (fun hn=>by rw [hι _ _ h1,F0];exact h4 (by rw [BH] at hn;exact hn))
 | ptr h1 h2 h3 h4=>exact .ptr (hS _ _ h1) (by rw [BH];exact h2) h3 (fun hn=>by rw [hι _ _ h1,F0];exact h4 (by rw [BH] at hn;exact hn))
 | ubool=>exact .ubool
 | mptr h1 h2 h3 h4=>exact .mptr (hS _ _ h1) (by rw [BH];exact h2) h3 (fun hn=>by rw [hι _ _ h1];exact h4 (by rw [BH] at hn;exact hn))
 | yld h1 h2 h3 h4=>exact .yld (hS _ _ h1) (by rw [BH];exact h2) h3 (fun hn=>by rw [hι _ _ h1];exact h4 (by rw [BH] at hn;exact hn))
 | eptr c h1 h2 hh=>exact .eptr c h1 h2 hh
 | @fn f vs caps c h1 h2 h3 ih =>
  have key:∀ (j:Nat) (b:AC),(AC.rens ρ caps)[j]?=some b→∃ a,caps[j]?=some a∧b=a.ren ρ:=fun j b hb=>by
   rw [AC.rens_eq,List.getElem?_map,Option.map_eq_some_iff] at hb
   obtain ⟨a,ha,rfl⟩:=hb
   exact ⟨a,ha,rfl⟩
  refine .fn c (by rw [AC.rens_eq];simpa using h1) (fun j b hb=>?_) (fun j b hb=>?_)
  ·obtain ⟨a,ha,rfl⟩:=key j b hb
   exact h2 j a ha
  ·obtain ⟨a,ha,rfl⟩:=key j b hb
   exact ih j a ha
 | any h=>exact .any h
mutual
theorem AN.ren (hS:∀ i b,S i=some b→S2 (ρ i)=some (b.ren ρ)) (hι:∀ i b,S i=some b→ι2 (ρ i)=ι i):∀ {v:Value} {c:AV},AN σ S ι v c→AN σ S2 ι2 v (c.ren ρ)
 | v,.one c,h=>by cases h with | one h=>exact .one (h.ren hS hι)
 | v,.agg cs,h=>by
  cases h with
  | agg h =>
   show AN σ S2 ι2 _ (.agg (AC.rens ρ cs))
   rw [AC.rens_eq]
   exact .agg ((h.mono fun _ _ x=>x.ren hS hι).map_right)
 | v,.tup vs,h=>by
  cases h with
  | tup c h1 h2 h3 =>
   obtain ⟨k1,k2⟩:=AN.rens hS hι (c:=c) h3
   exact .tup c (by rw [h1,k1]) (fun j b hb=>by
    rcases Nat.lt_or_ge j vs.length with hj | hj
    ·exact h2 j _ (List.getElem?_eq_getElem hj)
    ·rw [List.getElem?_eq_none (by omega)] at hb;cases hb) k2
 | v,.any,h=>.any
theorem AN.rens (hS:∀ i b,S i=some b→S2 (ρ i)=some (b.ren ρ)) (hι:∀ i b,S i=some b→ι2 (ρ i)=ι i):∀ {vs:List AV} {c:Nat→Value},(∀ j b,vs[j]?=some b→AN σ S ι (c j) b)→vs.length=(AV.rens ρ vs).length∧∀ j b,(AV.rens ρ vs)[j]?=some b→AN σ S2 ι2 (c j) b
 | [],c,h=>by simp [AV.rens]
 | x :: xs,c,h=>by
  obtain ⟨m1,m2⟩:=AN.rens hS hι (vs:=xs) (c:=fun j=>c (j + 1)) (fun j b hb=>h (j + 1) b (by simpa using hb))
  refine ⟨by simp [AV.rens,← m1],fun j b hb=>?_⟩
  cases j with
  | zero =>
   simp [AV.rens] at hb
   subst hb
   exact AN.ren hS hι (h 0 x rfl)
  | succ j=>exact m2 j b (by simpa [AV.rens] using hb)
end
theorem Bc.ren (hS:∀ i b,S i=some b→S2 (ρ i)=some (b.ren ρ)) (hι:∀ i b,S i=some b→ι2 (ρ i)=ι i) {w:World} {h:Hnd} {b:AU} (hr:Bc σ S ι w h b):Bc σ S2 ι2 w h (b.ren ρ):=by
 cases hr with
 | box h1 h2 h3 h4 h5 =>
  refine .box h1 h2 h3 ?_ h5
  rw [AC.rens_eq]
  exact (h4.mono fun _ _ x=>x.ren hS hι).map_right
 | crow h1 h2 h3 hc hm h4 h5 =>
  refine .crow h1 h2 h3 (by rw [AC.rens_eq];simpa using hc) hm ?_ h5
  rw [AC.rens_eq,List.length_map]
  exact (h4.mono fun _ _ x=>x.ren hS hι).map_right
 | afull h1 h2 h3 h4=>exact .afull h1 h2 h3 h4
 | arow h1 h2 h3 h4 h5 h6 h7 h8 h9 hh=>exact .arow h1 h2 h3 h4 h5 h6 h7 h8 h9 hh
 | mnil h1 h2=>exact .mnil h1 h2
 | mrow h1 h2 h3 h4 h5 h6 h7 h8 h9=>exact .mrow h1 h2 h3 h4 h5 h6 h7 h8 h9
 | map h1 h2 h3 h4=>exact .map h1 h2 h3 h4
 | memo h1 h2 h3 h4=>exact .memo h1 h2 h3 h4
 | iter h1 h2 h3 h4=>exact .iter h1 h2 (h3.ren hS hι) h4
 | @loop env r g h1 h2 h3 h4 h5 =>
  refine .loop h1 h2 (by rw [AV.rens_eq];simpa using h3) (fun j b hb=>?_) h5
  rw [AV.rens_eq,List.getElem?_map,Option.map_eq_some_iff] at hb
  obtain ⟨a,ha,rfl⟩:=hb
  exact (h4 j a ha).ren hS hι
 | dead h1=>exact .dead h1
end
mutual
theorem AC.ren_ren (ρ τ:Nat→Nat) (h:∀ i,τ (ρ i)=i):∀ c:AC,(c.ren ρ).ren τ=c
 | .st c=>rfl
 | .full xs=>rfl
 | .row id n=>by simp only [AC.ren,h]
 | .part id k n=>by simp only [AC.ren,h]
 | .rest id k n=>by simp only [AC.ren,h]
 | .ptr id n k off=>by simp only [AC.ren,h]
 | .mptr id=>by simp only [AC.ren,h]
 | .yld id=>by simp only [AC.ren,h]
 | .ubool=>rfl
 | .eptr cs=>rfl
 | .fn f caps=>by simp only [AC.ren,AC.rens_rens ρ τ h caps]
 | .any=>rfl
theorem AC.rens_rens (ρ τ:Nat→Nat) (h:∀ i,τ (ρ i)=i):∀ c:List AC,AC.rens τ (AC.rens ρ c)=c
 | []=>rfl
 | c :: cs=>by simp only [AC.rens,AC.ren_ren ρ τ h c,AC.rens_rens ρ τ h cs]
end
mutual
theorem AV.ren_ren (ρ τ:Nat→Nat) (h:∀ i,τ (ρ i)=i):∀ c:AV,(c.ren ρ).ren τ=c
 | .one c=>by simp only [AV.ren,AC.ren_ren ρ τ h]
 | .agg cs=>by simp only [AV.ren,AC.rens_rens ρ τ h]
 | .tup vs=>by simp only [AV.ren,AV.rens_rens ρ τ h vs]
 | .any=>rfl
theorem AV.rens_rens (ρ τ:Nat→Nat) (h:∀ i,τ (ρ i)=i):∀ c:List AV,AV.rens τ (AV.rens ρ c)=c
 | []=>rfl
 | c :: cs=>by simp only [AV.rens,AV.ren_ren ρ τ h c,AV.rens_rens ρ τ h cs]
end
theorem AU.ren_ren (ρ τ:Nat→Nat) (h:∀ i,τ (ρ i)=i) (b:AU):(b.ren ρ).ren τ=b:=by
 cases b with
 | box e cs=>simp only [AU.ren,AC.rens_rens ρ τ h]
 | crow e cs=>simp only [AU.ren,AC.rens_rens ρ τ h]
 | arow=>rfl
 | mrow=>rfl
 | map=>rfl
 | memo=>rfl
 | iter x=>simp only [AU.ren,AC.ren_ren ρ τ h]
 | loop env r=>simp only [AU.ren,AV.rens_rens ρ τ h]
 | dead=>rfl
mutual
def AC.high:AC→Bool
 | .row id _=>decide (1000≤id)
 | .part id _ _=>decide (1000≤id)
 | .rest id _ _=>decide (1000≤id)
 | .ptr id _ _ _=>decide (1000≤id)
 | .mptr id=>decide (1000≤id)
 | .yld id=>decide (1000≤id)
 | .ubool=>true
 | .fn _ caps=>AC.highs caps
 | .st _=>true
 | .full _=>true
 | .eptr _=>true
 | .any=>true
def AC.highs:List AC→Bool
 | []=>true
 | c :: cs=>c.high && AC.highs cs
end
mutual
def AV.high:AV→Bool
 | .one c=>c.high
 | .agg cs=>AC.highs cs
 | .tup vs=>AV.highs vs
 | .any=>true
def AV.highs:List AV→Bool
 | []=>true
 | v :: vs=>v.high && AV.highs vs
end
def AU.high:AU→Bool
 | .box _ cs=>AC.highs cs
 | .crow _ cs=>AC.highs cs
 | .iter x _ _=>x.high
 | .loop env _=>AV.highs env
 | _=>true
def up1 (i:Nat):Nat:=i + 1000
def dn1 (i:Nat):Nat:=i - 1000
def upS (S:AA):AA:=fun i=>if i < 1000 then none else (S (i - 1000)).map (AU.ren up1)
def dnS (S:AA):AA:=fun i=>(S (i + 1000)).map (AU.ren dn1)
def Dd (S:AA):AA:=fun i=>if i < 1000 then none else S i
def An (S:AA):Prop:=∀ i b,S i=some b→1000≤i∧b.high=true
theorem AL (i:Nat):1000≤up1 i:=Nat.le_add_left 1000 i
theorem B8 {i n:Nat} (h:1000≤i):(AC.row i n).high=true:=by rw [AC.high];exact decide_eq_true h
theorem P4 {i k n:Nat} (h:1000≤i):(AC.part i k n).high=true:=by rw [AC.high];exact decide_eq_true h
theorem Pw {i k n:Nat} (h:1000≤i):(AC.rest i k n).high=true:=by rw [AC.high];exact decide_eq_true h
theorem MV {i:Nat} (h:1000≤i):(AC.yld i).high=true:=by rw [AC.high];exact decide_eq_true h
theorem P9 {i:Nat} (h:1000≤i):(AC.mptr i).high=true:=by rw [AC.high];exact decide_eq_true h
theorem Jq {i n k o:Nat} (h:1000≤i):(AC.ptr i n k o).high=true:=by rw [AC.high];exact decide_eq_true h
mutual
theorem AC.ren_high:∀ c:AC,(c.ren up1).high=true
 | .st c=>rfl
 | .full xs=>rfl
 | .row id n=>by rw [AC.ren];exact B8 (AL id)
 | .part id k n=>by rw [AC.ren];exact P4 (AL id)
 | .rest id k n=>by rw [AC.ren];exact Pw (AL id)
 | .ptr id n k off=>by rw [AC.ren];exact Jq (AL id)
 | .mptr id=>by rw [AC.ren];exact P9 (AL id)
 | .yld id=>by rw [AC.ren];exact MV (AL id)
 | .ubool=>rfl
 | .eptr cs=>rfl
 | .fn f caps=>by rw [AC.ren,AC.high];exact AC.rens_high caps
 | .any=>rfl
theorem AC.rens_high:∀ cs:List AC,AC.highs (AC.rens up1 cs)=true
 | []=>rfl
 | c :: cs=>by rw [AC.rens,AC.highs,AC.ren_high c,AC.rens_high cs];rfl
end
mutual
theorem AV.ren_high:∀ c:AV,(c.ren up1).high=true
 | .one c=>by rw [AV.ren,AV.high];exact AC.ren_high c
 | .agg cs=>by rw [AV.ren,AV.high];exact AC.rens_high cs
 | .tup vs=>by rw [AV.ren,AV.high];exact AV.rens_high vs
 | .any=>rfl
theorem AV.rens_high:∀ cs:List AV,AV.highs (AV.rens up1 cs)=true
 | []=>rfl
 | c :: cs=>by rw [AV.rens,AV.highs,AV.ren_high c,AV.rens_high cs];rfl
end
theorem AU.ren_high (b:AU):(b.ren up1).high=true:=by
 cases b with
 | box e cs=>exact AC.rens_high cs
 | crow e cs=>exact AC.rens_high cs
 | arow=>rfl
 | mrow=>rfl
 | map=>rfl
 | memo=>rfl
 | iter x=>exact AC.ren_high x
 | loop env r=>exact AV.rens_high env
 | dead=>rfl
theorem A1 {S:AA} {i:Nat} {b:AU} (h:S i=some b):upS S (up1 i)=some (b.ren up1):=by
 show (if i + 1000 < 1000 then none else (S (i + 1000 - 1000)).map (AU.ren up1))=_
 rw [if_neg (by omega),Nat.add_sub_cancel,h]
 rfl
theorem Ee (S:AA):An (upS S):=fun i b h=>by
 simp only [upS] at h
 split at h
 ·cases h
 ·rw [Option.map_eq_some_iff] at h
  obtain ⟨b',_,rfl⟩:=h
  exact ⟨by omega,AU.ren_high b'⟩
theorem DF (i:Nat):dn1 (up1 i)=i:=Nat.add_sub_cancel i 1000
theorem Ea {i:Nat} (h:1000≤i):up1 (dn1 i)=i:=Nat.sub_add_cancel h
theorem Bo {S:AA} {i:Nat} {b:AU} (h:upS S i=some b):1000≤i∧∃ b',S (dn1 i)=some b'∧b=b'.ren up1:=by
 simp only [upS] at h
 split at h
 ·cases h
 ·rw [Option.map_eq_some_iff] at h
  obtain ⟨b',h1,h2⟩:=h
  exact ⟨by omega,b',h1,h2.symm⟩
theorem Fq {S:AA} {i:Nat} {b:AU} (hi:1000≤i) (h:S i=some b):dnS S (dn1 i)=some (b.ren dn1):=by
 show (S (i - 1000 + 1000)).map (AU.ren dn1)=_
 rw [Nat.sub_add_cancel hi,h]
 rfl
theorem Bz {S:AA} {i:Nat} {b:AU} (h:dnS S i=some b):∃ b',S (up1 i)=some b'∧b=b'.ren dn1:=by
 simp only [dnS,Option.map_eq_some_iff] at h
 obtain ⟨b',h1,h2⟩:=h
 exact ⟨b',h1,h2.symm⟩
theorem Dy (S:AA):dnS (upS S)=S:=by
 funext i
 show ((if i + 1000 < 1000 then none else (S (i + 1000 - 1000)).map (AU.ren up1)):Option AU).map (AU.ren dn1)=_
 rw [if_neg (by omega),Nat.add_sub_cancel]
 cases S i with
 | none=>rfl
 | some b=>exact congrArg some (AU.ren_ren up1 dn1 (fun i=>Nat.add_sub_cancel i 1000) b)
theorem AY {S:AA} (h:An S) {i:Nat} (hi:i < 1000):S i=none:=by
 cases e:S i with
 | none=>rfl
 | some b=>have:=(h i b e).1;omega

def Qn:List SV:=(List.range 20).map fun i=>.int .u64 ((10 ^ i:Nat):Int)
def Md:List (Nat × List SV) :=
 (0,[.int .i64 0,.int .i64 0,.int .i64 1,.int .i64 2,.int .i64 0,.int .i64 0]) ::
 (3,Qn) ::
 (1,[.err]) ::
 []
def Gh (σ:Sto) (x:Nat × List SV):Prop:=(∃ c:Nat→Value,(∀ j a,x.2[j]?=some a→σ ⟨x.1,0 + j,none⟩=some (c j))∧(∀ j a,x.2[j]?=some a→A0 σ (c j) a))∧σ ⟨x.1,x.2.length,some 0⟩=some .nilFunc
def Bt (σ:Sto):Prop:=∀ x ∈ Md,Gh σ x
theorem Bt.mono {σ σ':Sto} (h:Bt σ) (hs:∀ p x,σ p=some x→σ' p=some x):Bt σ':=fun x hx=>by
 obtain ⟨⟨c,h1,h2⟩,h3⟩:=h x hx
 exact ⟨⟨c,fun j a ha=>hs _ _ (h1 j a ha),fun j a ha=>(h2 j a ha).mono hs⟩,hs _ _ h3⟩
def Et (g:Nat):Option (List SV):=(Md.find? fun x=>x.1 == g).map (·.2)
theorem Bt.at {σ:Sto} (h:Bt σ) {g:Nat} {cs:List SV} (hg:Et g=some cs):Gh σ (g,cs):=by
 unfold Et at hg
 rw [Option.map_eq_some_iff] at hg
 obtain ⟨x,h1,rfl⟩:=hg
 have hm:=List.mem_of_find?_eq_some h1
 have hp:=List.find?_some h1
 have he:x.1=g:=by simpa using hp
 rw [← he]
 exact h x hm
theorem MI:∀ x ∈ Md,C8 x.2=false:=by decide
theorem OE {g:Nat} {cs:List SV} (hg:Et g=some cs):∃ x ∈ Md,x.2=cs:=by
 unfold Et at hg
 rw [Option.map_eq_some_iff] at hg
 obtain ⟨x,h1,h2⟩:=hg
 exact ⟨x,List.mem_of_find?_eq_some h1,h2⟩
theorem Bt.of {σ:Sto} {S:AA} {ι:As} (h:Bt σ) {g:Nat} {cs:List SV} (hg:Et g=some cs):Aq σ S ι (.pointer (some ⟨g,0,none⟩)) (.eptr cs):=by
 obtain ⟨⟨c,k1,k2⟩,_⟩:=h.at hg
 refine .eptr c k1 k2 fun q1 q2=>?_
 obtain ⟨x,hx,rfl⟩:=OE hg
 rw [MI x hx] at q2
 cases q2
theorem Bt.ints {σ:Sto} {w:World} (h:Bt σ) (hf:Fit σ w) {P:Program} {name:String} {g:Nat} (hn:P.globalNamed name=some g) {k:IntKind} {zs:List Int} (hg:Et g=some (zs.map fun z=>.int k z)) :
  w.var? P name=some (zs.map fun z=>Value.int k z).toArray:=by
 obtain ⟨⟨c,k1,k2⟩,k3⟩:=h.at hg
 have h3:=hf _ _ k3
 unfold Ca at h3
 simp only at h3
 unfold World.var?
 rw [hn]
 simp only [Option.bind_some]
 cases hb:w.heap[g]? with
 | none=>rw [hb] at h3;cases h3
 | some o =>
  rw [hb] at h3
  cases o with
  | cells cs T x =>
   simp only at h3
   split at h3
   ·rename_i hsz
    simp only [List.length_map] at hsz
    simp only [Option.some.injEq]
    apply Array.ext
    ·simpa using hsz
    ·intro i h1 h2
     have hi:i < zs.length:=by omega
     have e1:=k1 i (.int k zs[i]) (by simp [hi])
     have e2:=k2 i (.int k zs[i]) (by simp [hi])
     have e3:=hf _ _ e1
     rw [B6 rfl] at e3
     have e4:c i=.int k zs[i]:=by
      generalize c i=u at e2
      cases e2
      rfl
     rw [e4] at e3
     unfold World.cell? at e3
     simp only [Nat.zero_add] at e3
     rw [hb] at e3
     simp only at e3
     rw [Array.getElem?_eq_getElem h1] at e3
     simpa using e3
   ·cases h3
  | _=>cases h3
theorem Bt.cell {σ:Sto} {w:World} (h:Bt σ) (hf:Fit σ w) {g:Nat} {a:SV} (hg:Et g=some [a]):∃ v,w.cell? ⟨g,0,none⟩=some v∧A0 σ v a:=by
 obtain ⟨⟨c,k1,k2⟩,_⟩:=h.at hg
 have e:=hf _ _ (k1 0 a rfl)
 rw [B6 rfl] at e
 exact ⟨c 0,e,k2 0 a rfl⟩

def AK {α:Type} (f:Nat→α) (d:Nat) (v:α):Nat→α:=fun i=>if i=d then v else f i
def Dx (s:ByteArray) (k:Nat):Int:=((s.data.toList.getD k 0).toNat:Int)
def sLt (a b:ByteArray):Bool:=Op.bytesLess a.toList b.toList
def splice {α:Type} (cs:List α) (off:Nat) (c:List α):List α:=cs.take off ++ c ++ cs.drop (off + c.length)
def LU (g:Bool) (cs:List AC):AV:=if g then .agg cs else match cs with | [c]=>.one c | _=>.any
def K6:List AC→Option (List (List SV))
 | []=>some []
 | .eptr cs :: l=>(K6 l).map (cs :: ·)
 | _=>none
theorem Iu:∀ {l:List AC} {css:List (List SV)},K6 l=some css→l=css.map .eptr
 | [],css,h=>by cases h;rfl
 | .eptr cs :: l,css,h=>by
  simp only [K6,Option.map_eq_some_iff] at h
  obtain ⟨r,h1,rfl⟩:=h
  rw [Iu h1]
  rfl
 | .st _ :: _,_,h | .full _ :: _,_,h | .row _ _ :: _,_,h | .part _ _ _ :: _,_,h | .rest _ _ _ :: _,_,h | .ptr _ _ _ _ :: _,_,h | .mptr _ :: _,_,h | .yld _ :: _,_,h | .ubool :: _,_,h | .fn _ _ :: _,_,h | .any :: _,_,h=>by simp [K6] at h
def stC (S:AA):AC→Option SV
 | .st c=>some c
 | .full xs=>some (.list xs)
 | .row id n=>match S id with
  | some (.arow _ _ xs)=>if n=xs.length then some (.list xs) else none
  | _=>none
 | .fn f []=>some (.lit (.func (.func f) #[] #[]))
 | .fn f (c :: cs)=>(K6 (c :: cs)).map (.clo f)
 | _=>none
def stCs (S:AA):List AC→Option (List SV)
 | []=>some []
 | c :: cs=>match stC S c,stCs S cs with
  | some x,some xs=>some (x :: xs)
  | _,_=>none
def AV.fnOf:AV→Option (Nat × List AC)
 | .one (.fn g caps)=>some (g,caps)
 | .one (.st (.clo g css))=>some (g,css.map .eptr)
 | .one (.st (.lit (.func (.func g) a b)))=>if a.size=0∧b.size=0 then some (g,[]) else none
 | _=>none
theorem S7 (g:Nat) (caps:List AC):(AV.one (.fn g caps)).fnOf=some (g,caps):=rfl
theorem R_ (g:Nat) (css:List (List SV)):(AV.one (.st (.clo g css))).fnOf=some (g,css.map .eptr):=rfl
theorem Sl (g:Nat):(AV.one (.st (.lit (.func (.func g) #[] #[])))).fnOf=some (g,[]):=rfl
def AC.stay:AC→Bool
 | .st _=>true
 | .eptr _=>true
 | _=>false
theorem Aq.staying {σ:Sto} {S:AA} {ι:As} {v:Value} {c:AC} (h:Aq σ S ι v c) (hc:c.stay=true):Aq σ noS noH v c:=by
 cases h with
 | st h=>exact .st h
 | eptr c h1 h2 hh=>exact .eptr c h1 h2 hh
 | _=>cases hc
def outC (S:AA):AC→Option AC
 | .eptr cs=>some (.eptr cs)
 | .ubool=>some .ubool
 | .fn f []=>some (.fn f [])
 | .fn f (c :: cs)=>if (c :: cs).all AC.stay then some (.fn f (c :: cs)) else none
 | c=>(stC S c).map .st
def outCs (S:AA):List AC→Option (List AC)
 | []=>some []
 | c :: cs=>match outC S c,outCs S cs with
  | some x,some xs=>some (x :: xs)
  | _,_=>none
mutual
def outV (S:AA):AV→Option AV
 | .one c=>(outC S c).map .one
 | .agg cs=>(outCs S cs).map .agg
 | .tup vs=>(outVs S vs).map .tup
 | .any=>some .any
def outVs (S:AA):List AV→Option (List AV)
 | []=>some []
 | v :: vs=>match outV S v,outVs S vs with
  | some x,some xs=>some (x :: xs)
  | _,_=>none
end
structure AS where
 env:Nat→AV
 S:AA
inductive Opd where
 | t (i:Nat)
 | c (v:AV)
def AS.ev (s:AS):Opd→AV
 | .t i=>s.env i
 | .c v=>v
def AS.put (s:AS) (d:Option Nat) (v:AV):AS:=match d with
 | some d=>⟨AK s.env d v,s.S⟩
 | none=>s
def AS.set (s:AS) (id:Nat) (b:AU):AS:=⟨s.env,AK s.S id (some b)⟩
def Cf (S:AA) (id m k:Nat):Option (List AC):=match S id with
 | some (.box _ cs)=>if k=0∧m=1 then some cs else none
 | some (.crow _ cs)=>if m=cs.length then (cs[k]?).map ([·]) else none
 | some (.mrow _ _ xs)=>if m=xs.length then (xs[k]?).map (·.map .st) else none
 | _=>none
def AW (P:Program) (f:FuncId) (xs:List AV) (r:AV):Prop :=
 ∀ (σ:Sto) (w:World) (vs:List Value),Bt σ→Fit σ w→Af (AN σ noS noH) vs xs →
  Calls P f vs.toArray w fun e w'=>∃ v σ',e=.returned v∧AN σ' noS noH v r∧Fit σ' w'∧Ext w.heap.size σ σ'∧Below w.heap.size w w'
def Cz (σ:Sto) (S:AA) (ι:As) (w:World):Prop:=(∀ id b,S id=some b→Bc σ S ι w (ι id) b)∧∀ id id' b b' g,S id=some b→S id'=some b'→(ι id).g=some g→(ι id').g=some g→id=id'
def BZ (S:AA) (ι:As) (g:Nat):Prop:=∀ id b,S id=some b→(ι id).g ≠ some g
def Ay (P:Program) (f:FuncId) (xs:List AV) (S:AA) (r:AV) (S':AA):Prop :=
 An S→∀ (σ:Sto) (w:World) (vs:List Value) (ι:As),Bt σ→Fit σ w→Cz σ S ι w→Af (AN σ S ι) vs xs →
  Calls P f vs.toArray w fun e w'=>∃ v σ' ι',e=.returned v∧An S'∧Upd S ι S' ι'∧Cz σ' S' ι' w'∧AN σ' S' ι' v r∧Fit σ' w'∧(∀ p x,σ p=some x→σ' p=some x) ∧
   (∀ p:Addr,p.block < w.heap.size→BZ S ι p.block→σ' p=σ p)∧(w'.os=w.os∧w'.tape=w.tape∧w'.output=w.output)∧w.heap.size≤w'.heap.size ∧
   (∀ g,g < w.heap.size→BZ S ι g→w'.heap[g]?=w.heap[g]?)∧(∀ id b g,S' id=some b→(ι' id).g=some g→w.heap.size≤g ∨ ¬ BZ S ι g)
def OH (σ:Sto) (S:AA) (ι:As) (w:World) (Post:AV→AA→Prop):Ending→World→Prop:=fun e w' =>
 ∃ v r S' σ' ι',e=.returned v∧Post r S'∧An S'∧Upd S ι S' ι'∧Cz σ' S' ι' w'∧AN σ' S' ι' v r∧Fit σ' w'∧(∀ p x,σ p=some x→σ' p=some x) ∧
   (∀ p:Addr,p.block < w.heap.size→BZ S ι p.block→σ' p=σ p)∧(w'.os=w.os∧w'.tape=w.tape∧w'.output=w.output)∧w.heap.size≤w'.heap.size ∧
   (∀ g,g < w.heap.size→BZ S ι g→w'.heap[g]?=w.heap[g]?)∧(∀ id b g,S' id=some b→(ι' id).g=some g→w.heap.size≤g ∨ ¬ BZ S ι g)
def G7 (P:Program) (f:FuncId) (xs:List AV) (S:AA) (Post:AV→AA→Prop):Prop :=
 An S→∀ (σ:Sto) (w:World) (vs:List Value) (ι:As),Bt σ→Fit σ w→Cz σ S ι w→Af (AN σ S ι) vs xs→Calls P f vs.toArray w (OH σ S ι w Post)
def fen (ro:Option Nat):Fence:={ Fence.wide with round:=ro }
def Ik (P:Program) (y:AV) (xs:List AV) (S:AA) (Post:AV→AA→Prop):Prop :=
 An S→∀ (σ:Sto) (w:World) (vy:Value) (vs:List Value) (ι:As),Bt σ→Fit σ w→Cz σ S ι w→AN σ S ι vy y→Af (AN σ S ι) vs xs →
  ∃ l,vy=.func (.yield l) #[] #[]∧∀ ro,YieldAt (fen ro) 0 P l vs.toArray w (OH σ S ι w Post)
def EN (S S':AA):AA:=fun i=>if i < 1000 then S i else S' i
def HR (S:AA) (v:AV):AV:=(outV S v).getD v
abbrev Sn (S:AA) (hs:Bool) (G:AA→(AV→AA→Prop)→Prop) (k:AV→AA→Prop):Prop:=∃ (T:AA) (Post:AV→AA→Prop),An T∧(∀ i,1000≤i→S i=T i)∧hs=true∧G T Post∧∀ r S',An S'→Post r S'→k r (EN S S')
def GB (mu:Bool) (e:TypeId) (w:Nat) (ys:List (List SV)):AU:=match mu with
 | true=>.mrow e w ys
 | false=>.arow e w ys
def Fy (P:Program) (f:FuncId) (xs:List AV) (e:TypeId) (w:Nat) (ys:List (List SV)) (mu:Bool:=false):Prop:=Ay P f xs noS (.one (.row 1000 ys.length)) (fun i=>if i=1000 then some (GB mu e w ys) else noS i)
abbrev UW (P:Program) (f:FuncId) (vs:List AV) (k:Bool→TypeId→Nat→List (List SV)→Prop):Prop:=∃ mu e w ys,Fy P f vs e w ys mu∧k mu e w ys
abbrev Nc (P:Program) (f:FuncId) (vs:List AV) (k:AV→Prop):Prop:=∃ r,AW P f vs r∧k r
abbrev Ht (P:Program) (f:FuncId) (vs:List AV) (S:AA) (k:AV→AA→Prop):Prop:=∃ r S',Ay P f vs S r S'∧k r S'
abbrev UE (P:Program) (f:FuncId) (vs:List AV) (S:AA) (k:AV→Prop):Prop:=∃ (r:AV) (rows:List (Nat × AU)),(∀ q ∈ rows,S q.1=some q.2)∧(∀ T:AA,(∀ q ∈ rows,T q.1=some q.2)→Ay P f vs (upS T) r (upS T))∧k (r.ren dn1)
def E6 (T:AA):List (Nat × AU × AU)→AA
 | []=>T
 | q :: l=>E6 (AK T q.1 (some q.2.2)) l
def PL (T:AA) (rows:List (Nat × AU × AU)):Prop:=∀ q ∈ rows,T q.1=some q.2.1
abbrev UR (P:Program) (f:FuncId) (vs:List AV) (S:AA) (k:AV→AA→Prop):Prop:=∃ (r:AV) (rows:List (Nat × AU × AU)),PL S rows∧(∀ T:AA,PL T rows→Ay P f vs (upS T) r (upS (E6 T rows)))∧k (r.ren dn1) (E6 S rows)
theorem Nc.congr {P:Program} {f:FuncId} {vs vs':List AV} {k:AV→Prop} (h:vs=vs'):Nc P f vs k=Nc P f vs' k:=by rw [h]
theorem Ht.congr {P:Program} {f:FuncId} {vs vs':List AV} {S S':AA} {k:AV→AA→Prop} (h:vs=vs') (h':S=S'):Ht P f vs S k=Ht P f vs' S' k:=by rw [h,h']
def CS (P:Program) (f:FuncId):Bool:=match P.funcs[f]? with
 | some fn => !(fn.name == "runtime.NumGoroutine") && fn.body.isSome
 | none=>false
inductive Kd where
 | mov (x:Opd)
 | pick (c x y:Opd)
 | alloc (e:TypeId) (z:List AC)
 | box (e:TypeId) (x:Opd)
 | build (z:List AC) (ps:List (Nat × Nat × Opd))
 | buildSlice (mu:Bool) (e w:Nat) (xs:List Opd)
 | load (g:Bool) (n:Nat) (x:Opd)
 | store (n:Nat) (x v:Opd)
 | fieldAddr (off:Nat) (x:Opd)
 | field (g:Bool) (off n:Nat) (x:Opd)
 | indexAddr (w:Nat) (x i:Opd)
 | indexArr (n w:Nat) (x i:Opd)
 | indexStr (x i:Opd)
 | bin (op:BinOp) (x y:Opd)
 | eqB (neg:Bool) (x y:Opd)
 | eqN (neg:Bool) (x:Opd)
 | eqE (neg:Bool) (x:Opd)
 | eqP (neg:Bool) (x:Opd)
 | bits (op:BinOp) (x y:Opd)
 | never
 | pan (x:Opd)
 | iface (t:TypeId) (x:Opd)
 | strOf (i:Bool) (x:Opd)
 | un (op:UnOp) (x:Opd)
 | sliceS (x:Opd) (lo hi:Option Opd)
 | sliceL (w:Nat) (x:Opd) (lo hi:Option Opd)
 | sliceM (w:Nat) (x hi mx:Opd)
 | extract (i:Nat) (x:Opd)
 | len (str:Bool) (x:Opd)
 | append (mu:Bool) (e w bytes:Nat) (s x:Opd)
 | call (f:Nat) (xs:List Opd)
 | conv (k:IntKind) (x:Opd)
 | nilCheck (x:Opd)
 | mm (mx:Bool) (x y:Opd)
 | makeSlice (e w bytes:Nat) (z:List SV) (x y:Opd)
 | makeFunc (g:Nat) (caps:List Opd)
 | callS (f:Nat) (xs:List Opd)
 | callV (f:Opd) (xs:List Opd)
 | callN (f:Nat) (xs:List Opd)
 | callR (f:Nat) (xs:List Opd)
 | callW (f:Nat) (xs:List Opd)
 | callX (f:Nat) (xs:List Opd)
 | callY (f:Opd) (xs:List Opd)
 | buildFlat (xs:List Opd)
 | cutP (w:Nat) (x hi:Opd)
 | indexP (w:Nat) (x i:Opd)
 | appP (e w bytes:Nat) (x y:Opd)
 | restP (w:Nat) (x lo:Opd)
 | appS (e:TypeId) (x y:Opd)
 | loadL (g:Bool) (n:Nat) (x:Opd)
 | indexL (w:Nat) (x i:Opd)
 | buildL (w:Nat) (xs:List Opd)
 | fieldL (off:Nat) (x:Opd)
 | lenL (str:Bool) (x:Opd)
 | appF (mu:Bool) (e w bytes:Nat) (x y:Opd)
 | clearP (e w:Nat) (z:List SV) (x:Opd)
 | copyP (x y:Opd)
 | makeMap (kt:Option KK)
 | lookup (kt:Option KK) (ok:Bool) (z:AV) (m k:Opd)
 | mapSet (kt:Option KK) (m k v:Opd)
 | mapEntry (kt:Option KK) (z:AV) (m k:Opd)
 | entrySet (m i v:Opd)
 | rangeM (m:Opd)
 | next (x:Opd)
 | entry (x:Opd)
 | lenM (m:Opd)
 | buildArr (xs:List Opd)
 | makeMemo
 | memoGet (ok:Bool) (z:AV) (m k:Opd)
 | memoSet (m k v:Opd)
def D2:List (KV × AV)→KV→Option AV
 | [],_=>none
 | x :: es,k=>if x.1=k then some x.2 else D2 es k
def mAt:List (KV × AV)→KV→Nat
 | [],_=>0
 | x :: es,k=>if x.1=k then 0 else mAt es k + 1
def Mx:List (KV × AV)→KV→AV→List (KV × AV)
 | [],k,v=>[(k,v)]
 | x :: es,k,v=>if x.1=k then (k,v) :: es else x :: Mx es k v
def St (es:List (KV × AV)) (k:KV) (z:AV):List (KV × AV):=match D2 es k with
 | some _=>es
 | none=>es ++ [(k,z)]
def D_ (S:AA):AV→Option (Nat × Option KK × List (KV × AV))
 | .one (.mptr id)=>match S id with
  | some (.map kt es)=>some (id,kt,es)
  | _=>none
 | _=>none
def FK (S:AA):AV→Option ((Nat × Nat × List Nat) × Option KK × List (KV × AV))
 | .one (.ptr id 1 0 0)=>match S id with
  | some (.iter (.mptr m) n seen)=>match S m with
   | some (.map kt es)=>if es.length=n then some ((id,m,seen),kt,es) else none
   | _=>none
  | _=>none
 | _=>none
def Uj (cs cs':List SV):Prop:=∃ (σ:Sto) (c:Nat→Value),(∀ j a,cs[j]?=some a→A0 σ (c j) a)∧∀ j a,cs'[j]?=some a→A0 σ (c j) a
def Ir (S:AA):AV→Option (Nat × (List SV→List SV→SV→Prop))
 | .one (.mptr id)=>match S id with
  | some (.memo f)=>some (id,f)
  | _=>none
 | _=>none
def Rg:AV→Option (List SV × List SV)
 | .agg [.eptr cs,.eptr ds]=>if C8 cs=true∧C8 ds=true then some (cs,ds) else none
 | _=>none
def NN (kt:Option KK):AV→Option KV
 | .one (.st c)=>KV.of kt c
 | .agg [.st c,.st d]=>KV.of2 kt c d
 | _=>none
def Sg (ok:Bool) (z:AV):Option AV→AV
 | some v=>if ok then .tup [v,.one (.st (.bool true))] else v
 | none=>if ok then .tup [z,.one (.st (.bool false))] else z
inductive Tag where
 | no
 | onb (id:Nat)
 | keeps (ks:List Nat)
structure Ins where
 dst:Option Nat
 guard:Option (Nat × Bool)
 kd:Kd
 tag:Tag
def fills (s:AS) (cs:List AC):List (Nat × Nat × Opd)→Option (List AC)
 | []=>some cs
 | (off,n,x) :: ps=>match (s.ev x).cells with
  | some c=>if c.length=n∧off + n≤cs.length then fills s (splice cs off c) ps else none
  | none=>none
def DT (s:AS) (w:Nat):List Opd→Option (List (List SV))
 | []=>some []
 | x :: xs=>match (s.ev x).cells with
  | some c=>match stCs s.S c,DT s w xs with
   | some c',some es=>if c'.length=w then some (c' :: es) else none
   | _,_=>none
  | none=>none
def H1 (s:AS):List Opd→Option (List (List SV))
 | []=>some []
 | x :: xs=>match s.ev x,H1 s xs with
  | .one (.st c),some es=>some ([c] :: es)
  | _,_=>none
def AS.evs (s:AS):List Opd→List AV
 | []=>[]
 | x :: xs=>s.ev x :: AS.evs s xs
def AS.caps (s:AS):List Opd→Option (List AC)
 | []=>some []
 | x :: xs=>match s.ev x,s.caps xs with
  | .one c,some cs=>some (c :: cs)
  | _,_=>none
def Pm (op:BinOp) (k:IntKind) (x y:Int) (K:SV→Prop):Prop:=match op with
 | .add=>inR k (x + y)∧K (.int k (x + y))
 | .sub=>inR k (x - y)∧K (.int k (x - y))
 | .mul=>inR k (x * y)∧K (.int k (x * y))
 | .quo=>y ≠ 0∧inR k (x.tdiv y)∧K (.int k (x.tdiv y))
 | .rem=>y ≠ 0∧inR k (x.tmod y)∧K (.int k (x.tmod y))
 | .eql=>K (.bool (decide (x=y)))
 | .neq=>K (.bool (decide (¬ x=y)))
 | .lss=>K (.bool (decide (x < y)))
 | .leq=>K (.bool (decide (x≤y)))
 | .gtr=>K (.bool (decide (y < x)))
 | .geq=>K (.bool (decide (y≤x)))
 | .shr=>(0≤y∧y.toNat≤k.bits)∧inR k (x.fdiv (2 ^ y.toNat))∧K (.int k (x.fdiv (2 ^ y.toNat)))
 | _=>False
def Sm (op:BinOp) (k:IntKind) (x:Int) (k':IntKind) (y:Int) (K:SV→Prop):Prop:=match op with
 | .shl=>(0≤y∧y.toNat≤k.bits)∧inR k (x * 2 ^ y.toNat)∧K (.int k (x * 2 ^ y.toNat))
 | .shr=>(0≤y∧y.toNat≤k.bits)∧inR k (x.fdiv (2 ^ y.toNat))∧K (.int k (x.fdiv (2 ^ y.toNat)))
 | .and=>k=k'∧(k=.u64∧0≤x∧0≤y)∧K (.int k ((x.toNat &&& y.toNat:Nat):Int))
 | .or=>k=k'∧(k=.u64∧0≤x∧0≤y)∧K (.int k ((x.toNat ||| y.toNat:Nat):Int))
 | _=>False
def Pu (op:BinOp) (x y:ByteArray) (K:SV→Prop):Prop:=match op with
 | .add=>x.size + y.size≤maxLen∧K (.str (x ++ y))
 | .eql=>K (.bool (decide (x=y)))
 | .neq=>K (.bool (decide (¬ x=y)))
 | .lss=>K (.bool (sLt x y))
 | .leq=>K (.bool (sLt x y || decide (x=y)))
 | .gtr=>K (.bool !(sLt x y || decide (x=y)))
 | .geq=>K (.bool !(sLt x y))
 | _=>False
def optI (s:AS) (d:Int):Option Opd→Option Int
 | none=>some d
 | some x=>match s.ev x with
  | .one (.st (.int _ n))=>some n
  | _=>none
def CP {α:Type} (xs:List α) (n:Int) (K:α→Prop):Prop:=0≤n∧match xs[n.toNat]? with
 | some x=>K x
 | none=>False
def EI (S:AA) (str:Bool):AC→Option Int
 | .st (.list xs)=>if str then none else some xs.length
 | .st (.str b)=>if str then some b.size else none
 | .full xs=>if str then none else some xs.length
 | .row id n=>match S id with
  | some (.arow _ _ xs)=>if str=false∧n=xs.length then some n else none
  | some (.mrow _ _ xs)=>if str=false∧n=xs.length then some n else none
  | _=>none
 | .part id k n=>match S id with
  | some (.mrow _ _ xs)=>if str=false∧n=xs.length then some k else none
  | _=>none
 | _=>none
def Cp (S:AA):AC→Option (List (List SV))
 | .st (.list xs)=>some xs
 | .full xs=>some xs
 | .row id n=>match S id with
  | some (.arow _ _ xs)=>if n=xs.length then some xs else none
  | some (.mrow _ _ xs)=>if n=xs.length then some xs else none
  | _=>none
 | _=>none
def IX:List (List SV)→Option (List Int)
 | []=>some []
 | [.int .u8 n] :: r=>(IX r).map (n :: ·)
 | _=>none
def Sr:AV→Option (Nat × Nat × Nat)
 | .one (.part id k m)=>some (id,k,m)
 | .one (.row id m)=>some (id,m,m)
 | _=>none
def stP:AC→Option SV
 | .st c=>some c
 | .full xs=>some (.list xs)
 | _=>none
def Qz:List AC→Option (List SV)
 | []=>some []
 | c :: cs=>match stP c,Qz cs with
  | some x,some xs=>some (x :: xs)
  | _,_=>none
def FX (s:AS) (w:Nat):List Opd→Option (List (List SV))
 | []=>some []
 | x :: xs=>match (s.ev x).cells with
  | some c=>match Qz c,FX s w xs with
   | some c',some es=>if c'.length=w then some (c' :: es) else none
   | _,_=>none
  | none=>none
def Ap (b:ByteArray):List (List SV):=b.data.toList.map fun c=>[SV.int .u8 (c.toNat:Int)]
theorem D6 (b:ByteArray):(Ap b).length=b.size:=by rw [Ap,List.length_map,Array.length_toList];rfl
def Kd.go (P:Program) (d:Nat) (s:AS) (K:AV→AS→Prop):Kd→Prop
 | .mov x=>K (s.ev x) s
 | .pick c x y=>match s.ev c with
  | .one (.st (.bool t))=>(t=true→K (s.ev x) s)∧(t=false→K (s.ev y) s)
  | _=>False
 | .alloc e z=>s.S d=none∧K (.one (.ptr d 1 0 0)) (s.set d (.box e z))
 | .box e x=>match (s.ev x).cells with
  | some cs=>s.S d=none∧K (.one (.ptr d 1 0 0)) (s.set d (.box e cs))
  | none=>False
 | .build z ps=>match fills s z ps with
  | some cs=>K (.agg cs) s
  | none=>False
 | .buildSlice mu e w xs=>match DT s w xs with
  | some es=>if mu then s.S d=none∧K (.one (.row d es.length)) (s.set d (.mrow e w es)) else K (.one (.full es)) s
  | none=>False
 | .buildFlat xs=>match H1 s xs with
  | some es=>K (.one (.full es)) s
  | none=>False
 | .load g n x=>match s.ev x with
  | .one (.eptr cs)=>n≤cs.length∧K (LU g ((cs.take n).map .st)) s
  | .one (.st (.ref cs))=>n≤cs.length∧K (LU g ((cs.take n).map .st)) s
  | .one (.ptr id m k off)=>match Cf s.S id m k with
   | some cs=>off + n≤cs.length∧K (LU g ((cs.drop off).take n)) s
   | none=>False
  | _=>False
 | .store n x v=>match s.ev x,(s.ev v).cells with
  | .one (.ptr id m k off),some c=>match s.S id with
   | some (.box e cs)=>(k=0∧m=1)∧c.length=n∧off + n≤cs.length∧K .any (s.set id (.box e (splice cs off c)))
   | some (.crow e cs)=>(m=cs.length∧n=1∧c.length=1)∧off=0∧k < cs.length∧K .any (s.set id (.crow e (splice cs k c)))
   | some (.mrow e w xs)=>match stCs s.S c,xs[k]? with
    | some c',some x=>m=xs.length∧c'.length=n∧off + n≤x.length∧K .any (s.set id (.mrow e w (xs.set k (splice x off c'))))
    | _,_=>False
   | _=>False
  | _,_=>False
 | .fieldAddr off x=>match s.ev x with
  | .one (.eptr cs)=>K (.one (.eptr (cs.drop off))) s
  | .one (.st (.ref cs))=>K (.one (.eptr (cs.drop off))) s
  | .one (.ptr id m k o)=>match s.S id with
   | some b=>m=b.len∧K (.one (.ptr id m k (o + off))) s
   | none=>False
  | _=>False
 | .field g off n x=>match s.ev x with
  | .agg cs=>off + n≤cs.length∧K (LU g ((cs.drop off).take n)) s
  | _=>False
 | .indexAddr w x i=>match s.ev x,s.ev i with
  | .one c,.one (.st (.int _ n))=>match c with
   | .st (.list xs)=>CP xs n fun x=>x.length=w∧K (.one (.eptr x)) s
   | .full xs=>CP xs n fun x=>x.length=w∧K (.one (.eptr x)) s
   | .row id m=>match s.S id with
    | some (.arow _ w' xs)=>m=xs.length∧w'=w∧CP xs n fun x=>K (.one (.eptr x)) s
    | some (.mrow _ w' xs)=>m=xs.length∧w'=w∧0≤n∧n.toNat < xs.length∧K (.one (.ptr id m n.toNat 0)) s
    | some (.crow _ cs)=>m=cs.length∧1=w∧0≤n∧n.toNat < cs.length∧K (.one (.ptr id m n.toNat 0)) s
    | _=>False
   | _=>False
  | _,_=>False
 | .indexArr n w x i=>match s.ev x,s.ev i with
  | .one (.eptr cs),.one (.st (.int _ k))=>(0≤k∧k < n)∧K (.one (.eptr (cs.drop (k.toNat * w)))) s
  | .one (.ptr id m b o),.one (.st (.int _ k))=>match s.S id with
   | some bl=>(0≤k∧k < n)∧m=bl.len∧K (.one (.ptr id m b (o + k.toNat * w))) s
   | none=>False
  | _,_=>False
 | .indexStr x i=>match s.ev x,s.ev i with
  | .one (.st (.str b)),.one (.st (.int _ n))=>(0≤n∧n.toNat < b.size)∧K (.one (.st (.int .u8 (Dx b n.toNat)))) s
  | _,_=>False
 | .bin op x y=>match s.ev x,s.ev y with
  | .one (.st (.int k a)),.one (.st (.int k' b))=>k=k'∧Pm op k a b fun v=>K (.one (.st v)) s
  | .one (.st (.str a)),.one (.st (.str b))=>Pu op a b fun v=>K (.one (.st v)) s
  | _,_=>False
 | .never=>False
 | .pan _=>False
 | .iface t x=>match s.ev x with
  | .one (.st (.int k n))=>K (.one (.st (.lit (.iface t (.int k n))))) s
  | _=>False
 | .strOf i x=>match i,s.ev x with
  | false,.one (.full ys)=>match IX ys with
   | some ns=>(0 < ns.length∧ns.length≤maxLen)∧K (.one (.st (.str (strOfNums ns)))) s
   | none=>False
  | true,.one (.st (.int _ n))=>K (.one (.st (.str (Utf8.encode n)))) s
  | _,_=>False
 | .eqN neg x=>match s.ev x with
  | .one (.st (.list xs))=>K (.one (if xs.length=0 then .ubool else .st (.bool neg))) s
  | _=>False
 | .eqP neg x=>match s.ev x with
  | .one (.st (.lit (.pointer none)))=>K (.one (.st (.bool !neg))) s
  | .one (.st (.ref _))=>K (.one (.st (.bool neg))) s
  | _=>False
 | .bits op x y=>match s.ev x,s.ev y with
  | .one (.st (.int k a)),.one (.st (.int k' b))=>Sm op k a k' b fun v=>K (.one (.st v)) s
  | _,_=>False
 | .eqE neg x=>match s.ev x with
  | .one (.st .err)=>K (.one (.st (.bool neg))) s
  | .one (.st (.lit .nilIface))=>K (.one (.st (.bool !neg))) s
  | _=>False
 | .eqB neg x y=>match s.ev x,s.ev y with
  | .one (.st (.bool a)),.one (.st (.bool b))=>K (.one (.st (.bool (if neg then !(a == b) else a == b)))) s
  | _,_=>False
 | .un op x=>match op,s.ev x with
  | .not,.one (.st (.bool b))=>K (.one (.st (.bool !b))) s
  | .neg,.one (.st (.int k n))=>inR k (0 - n)∧K (.one (.st (.int k (0 - n)))) s
  | _,_=>False
 | .sliceS x lo hi=>match s.ev x with
  | .one (.st (.str b))=>match optI s 0 lo,optI s b.size hi with
   | some l,some h=>(0≤l∧l≤h∧h≤b.size)∧K (.one (.st (.str (b.extract l.toNat h.toNat)))) s
   | _,_=>False
  | _=>False
 | .sliceL w x lo hi=>match s.ev x with
  | .one c=>match stC s.S c with
   | some (.list xs)=>match optI s 0 lo,optI s xs.length hi with
    | some l,some h=>(0≤l∧l≤h∧h≤xs.length)∧(∀ x ∈ xs,x.length=w)∧K (.one (.st (.list ((xs.take h.toNat).drop l.toNat)))) s
    | _,_=>False
   | _=>False
  | _=>False
 | .sliceM w x hi mx=>match s.ev x with
  | .one c=>match stC s.S c with
   | some (.list xs)=>match s.ev hi,s.ev mx with
    | .one (.st (.int _ h)),.one (.st (.int _ m))=>(0≤h∧h=m∧m≤xs.length)∧(∀ x ∈ xs,x.length=w)∧K (.one (.full (xs.take h.toNat))) s
    | _,_=>False
   | _=>False
  | _=>False
 | .extract i x=>match s.ev x with
  | .tup vs=>match vs[i]? with
   | some v=>K v s
   | none=>False
  | _=>False
 | .len str x=>match s.ev x with
  | .one c=>match EI s.S str c with
   | some n=>K (.one (.st (.int .i64 n))) s
   | none=>False
  | _=>False
 | .append mu e w bytes x y=>match s.ev x,s.ev y with
  | .one cx,.one cy=>match Cp s.S cy with
   | some ys=>(∀ y ∈ ys,y.length=w)∧match cx with
    | .full xs=>s.S d=none∧(mu=true→ys=[]→xs=[])∧(∀ x ∈ xs,x.length=w)∧xs.length + ys.length≤maxLen∧(xs.length + ys.length) * bytes≤140737488355328 ∧
      K (.one (.row d (xs ++ ys).length)) (s.set d (if mu then .mrow e w (xs ++ ys) else .arow e w (xs ++ ys)))
    | .row id m=>match s.S id with
     | some (.arow e' w' xs)=>(m=xs.length∧w'=w∧e'=e)∧xs.length + ys.length≤maxLen∧(xs.length + ys.length) * bytes≤140737488355328 ∧
       K (.one (.row id (xs ++ ys).length)) (s.set id (.arow e w (xs ++ ys)))
     | some (.mrow e' w' xs)=>(m=xs.length∧w'=w∧e'=e)∧xs.length + ys.length≤maxLen∧(xs.length + ys.length) * bytes≤140737488355328 ∧
       K (.one (.row id (xs ++ ys).length)) (s.set id (.mrow e w (xs ++ ys)))
     | _=>False
    | _=>False
   | none=>False
  | _,_=>False
 | .loadL g n x=>match s.ev x with
  | .one (.eptr cs)=>n≤cs.length∧K (LU g ((cs.take n).map .st)) s
  | _=>False
 | .indexL w x i=>match s.ev x,s.ev i with
  | .one (.st (.list xs)),.one (.st (.int _ n))=>CP xs n fun x=>x.length=w∧K (.one (.eptr x)) s
  | .one (.full xs),.one (.st (.int _ n))=>CP xs n fun x=>x.length=w∧K (.one (.eptr x)) s
  | _,_=>False
 | .buildL w xs=>match FX s w xs with
  | some es=>K (.one (.full es)) s
  | none=>False
 | .fieldL off x=>match s.ev x with
  | .one (.eptr cs)=>K (.one (.eptr (cs.drop off))) s
  | _=>False
 | .lenL str x=>match s.ev x with
  | .one c=>match EI noS str c with
   | some n=>K (.one (.st (.int .i64 n))) s
   | none=>False
  | _=>False
 | .appF mu e w bytes x y=>match s.ev x,s.ev y with
  | .one (.full xs),.one cy=>match Cp noS cy with
   | some ys=>s.S d=none∧(∀ y ∈ ys,y.length=w)∧(mu=true→ys=[]→xs=[])∧(∀ x ∈ xs,x.length=w)∧xs.length + ys.length≤maxLen∧(xs.length + ys.length) * bytes≤140737488355328 ∧
     K (if mu then .one (.row d (xs ++ ys).length) else .one (.st (.list (xs ++ ys)))) (s.set d (if mu then .mrow e w (xs ++ ys) else .arow e w (xs ++ ys)))
   | none=>False
  | _,_=>False
 | .appS e x y=>match s.ev x,s.ev y with
  | .one cx,.one (.st (.str b))=>match cx with
   | .full xs=>(s.S d=none∧xs=[])∧b.size≤140737488355328∧K (.one (.row d b.size)) (s.set d (.mrow e 1 (Ap b)))
   | .row id m=>match s.S id with
    | some (.mrow e' w' xs)=>(m=xs.length∧w'=1∧e'=e)∧xs.length + b.size≤140737488355328∧K (.one (.row id (xs.length + b.size))) (s.set id (.mrow e 1 (xs ++ Ap b)))
    | _=>False
   | _=>False
  | _,_=>False
 | .restP w x lo=>match s.ev x,s.ev lo with
  | .one (.row id m),.one (.st (.int _ o))=>match s.S id with
   | some (.mrow _ w' xs)=>(m=xs.length∧w'=w)∧(0≤o∧o≤m)∧K (.one (.rest id o.toNat m)) s
   | some (.arow _ w' xs)=>(m=xs.length∧w'=w)∧(0≤o∧o≤m)∧K (.one (.rest id o.toNat m)) s
   | _=>False
  | _,_=>False
 | .clearP e w z x=>match s.ev x with
  | .one (.rest id o m)=>match s.S id with
   | some (.mrow e' w' xs)=>(m=xs.length∧w'=w∧e'=e)∧K (.tup []) (s.set id (.mrow e w (xs.take o ++ List.replicate (m - o) z)))
   | _=>False
  | _=>False
 | .copyP x y=>match s.ev x,s.ev y with
  | .one (.rest id o m),.one (.rest id2 q m2)=>match s.S id with
   | some (.mrow e' w' xs)=>(id=id2∧m=xs.length∧m2=xs.length∧w'=1)∧K .any (s.set id (.mrow e' w' (xs.take o ++ ((xs.drop q).take (min (m - q) (m - o)) ++ xs.drop (o + min (m - q) (m - o))))))
   | _=>False
  | _,_=>False
 | .cutP w x hi=>match Sr (s.ev x),s.ev hi with
  | some (id,k,m),.one (.st (.int _ h))=>match s.S id with
   | some (.mrow _ w' xs)=>(m=xs.length∧w'=w)∧(0≤h∧h≤k)∧K (.one (.part id h.toNat m)) s
   | _=>False
  | _,_=>False
 | .indexP w x i=>match s.ev x,s.ev i with
  | .one (.part id k m),.one (.st (.int _ n))=>match s.S id with
   | some (.mrow _ w' xs)=>(m=xs.length∧w'=w)∧(0≤n∧n < k)∧K (.one (.ptr id m n.toNat 0)) s
   | _=>False
  | _,_=>False
 | .appP e w bytes x y=>match s.ev x,s.ev y with
  | .one (.part id k m),.one cy=>match s.S id,Cp s.S cy with
   | some (.mrow e' w' xs),some ys=>(m=xs.length∧w'=w∧e'=e)∧(∀ y ∈ ys,y.length=w)∧k + ys.length≤maxLen∧(k + ys.length) * bytes≤140737488355328 ∧
     K (.one (.part id (k + ys.length) (if m≤k + ys.length then k + ys.length else m))) (s.set id (.mrow e w (xs.take k ++ ys ++ xs.drop (k + ys.length))))
   | _,_=>False
  | _,_=>False
 | .makeMap kt=>s.S d=none∧K (.one (.mptr d)) (s.set d (.map kt []))
 | .lookup kt ok z m k=>match D_ s.S (s.ev m),NN kt (s.ev k) with
  | some (_,kt',es),some kv=>kt'=kt∧K (Sg ok z (D2 es kv)) s
  | _,_=>False
 | .mapSet kt m k v=>match D_ s.S (s.ev m),NN kt (s.ev k),outV s.S (s.ev v) with
  | some (id,kt',es),some kv,some v'=>kt'=kt∧K .any (s.set id (.map kt (Mx es kv v')))
  | _,_,_=>False
 | .mapEntry kt z m k=>match D_ s.S (s.ev m),NN kt (s.ev k) with
  | some (id,kt',es),some kv=>kt'=kt∧es.length≤maxLen∧K (.tup [(D2 es kv).getD z,.one (.st (.int .i64 (mAt es kv)))]) (s.set id (.map kt (St es kv z)))
  | _,_=>False
 | .entrySet m i v=>match D_ s.S (s.ev m),s.ev i,outV s.S (s.ev v) with
  | some (id,kt,es),.one (.st (.int _ n)),some v'=>(0≤n∧n.toNat < es.length)∧K .any (s.set id (.map kt (es.modify n.toNat fun x=>(x.1,v'))))
  | _,_,_=>False
 | .rangeM m=>match D_ s.S (s.ev m) with
  | some (id,_,es)=>s.S d=none∧K (.one (.ptr d 1 0 0)) (s.set d (.iter (.mptr id) es.length []))
  | none=>False
 | .next x=>match FK s.S (s.ev x) with
  | some ((id,m,seen),kt,es)=>((∀ j,j < es.length→j ∈ seen)→K (.tup [.one (.st (.bool false))]) s) ∧
    ∀ j x c,es[j]?=some x→j ∉ seen→x.1.sv kt=some c→K (.tup [.one (.st (.bool true)),c,x.2]) (s.set id (.iter (.mptr m) es.length (seen ++ [j])))
  | none=>False
 | .lenM m=>match D_ s.S (s.ev m) with
  | some (_,_,es)=>es.length≤maxLen∧K (.one (.st (.int .i64 es.length))) s
  | none=>False
 | .buildArr xs=>match s.caps xs with
  | some cs=>K (.agg cs) s
  | none=>False
 | .makeMemo=>s.S d=none∧K (.one (.mptr d)) (s.set d (.memo fun _ _ _=>False))
 | .memoGet ok z m k=>match Ir s.S (s.ev m),Rg (s.ev k) with
  | some (_,f),some (cs,ds)=>CG=true∧K (Sg ok z none) s∧∀ cs' ds' x,Uj cs cs'→Uj ds ds'→f cs' ds' x→K (Sg ok z (some (.one (.st x)))) s
  | _,_=>False
 | .memoSet m k v=>match Ir s.S (s.ev m),Rg (s.ev k),s.ev v with
  | some (_,f),some (cs,ds),.one (.st x)=>CG=true∧f cs ds x∧K .any s
  | _,_,_=>False
 | .entry x=>match FK s.S (s.ev x) with
  | some ((_,_,seen),kt,es)=>match seen.getLast? with
   | some j=>match es[j]? with
    | some x=>match x.1.sv kt with
     | some c=>K (.tup [c,x.2]) s
     | none=>False
    | none=>False
   | none=>False
  | none=>False
 | .call f xs=>match outVs s.S (s.evs xs) with
  | some vs=>Nc P f vs fun r=>K r s
  | none=>False
 | .callN f xs=>match outVs s.S (s.evs xs) with
  | some vs=>UW P f vs fun mu e w ys=>s.S d=none∧K (.one (.row d ys.length)) (s.set d (GB mu e w ys))
  | none=>False
 | .conv k x=>match s.ev x with
  | .one (.st (.int _ n))=>inR k n∧K (.one (.st (.int k n))) s
  | _=>False
 | .nilCheck x=>match s.ev x with
  | .one (.eptr cs)=>K (.one (.eptr cs)) s
  | .one (.st (.ref cs))=>K (.one (.st (.ref cs))) s
  | .one (.ptr id m k o)=>match s.S id with
   | some b=>m=b.len∧K (.one (.ptr id m k o)) s
   | none=>False
  | _=>False
 | .mm mx x y=>match s.ev x,s.ev y with
  | .one (.st (.int k a)),.one (.st (.int k' b))=>k=k'∧K (.one (.st (.int k (if mx then (if a < b then b else a) else (if b < a then b else a))))) s
  | _,_=>False
 | .makeSlice e w bytes z x y=>match s.ev x,s.ev y with
  | .one (.st (.int _ a)),.one (.st (.int _ b))=>a=b∧0≤a∧a≤9223372036854775807∧a * bytes≤140737488355328∧s.S d=none∧K (.one (.row d a.toNat)) (s.set d (.mrow e w (List.replicate a.toNat z)))
  | _,_=>False
 | .makeFunc g caps=>match s.caps caps with
  | some cs=>K (.one (.fn g cs)) s
  | none=>False
 | .callS f xs=>Ht P f (AV.rens up1 (s.evs xs)) (upS s.S) fun r S'=>K (r.ren dn1) ⟨s.env,dnS S'⟩
 | .callR f xs=>UE P f (AV.rens up1 (s.evs xs)) s.S fun r=>K r s
 | .callW f xs=>UR P f (AV.rens up1 (s.evs xs)) s.S fun r S'=>K r ⟨s.env,S'⟩
 | .callX f xs=>Sn s.S (AV.highs ((s.evs xs).map (HR s.S))) (G7 P f ((s.evs xs).map (HR s.S))) fun r S'=>K r ⟨s.env,S'⟩
 | .callY f xs=>Sn s.S ((s.ev f).high && AV.highs ((s.evs xs).map (HR s.S))) (Ik P (s.ev f) ((s.evs xs).map (HR s.S))) fun r S'=>K r ⟨s.env,S'⟩
 | .callV f xs=>match (s.ev f).fnOf with
  | some (g,caps)=>CS P g=true∧Ht P g (AV.rens up1 (s.evs xs ++ caps.map .one)) (upS s.S) fun r S'=>K (r.ren dn1) ⟨s.env,dnS S'⟩
  | _=>False
def Kd.stillOf:Kd→Kd
 | .load g n x=>.loadL g n x
 | .indexAddr w x i=>.indexL w x i
 | .buildSlice false _ w xs=>.buildL w xs
 | .fieldAddr off x=>.fieldL off x
 | .len str x=>.lenL str x
 | .append mu e w bytes x y=>.appF mu e w bytes x y
 | k=>k
theorem Ol {S:AA}:∀ {cs:List AC} {xs:List SV},Qz cs=some xs→stCs S cs=some xs
 | [],xs,h=>h
 | c :: cs,xs,h=>by
  simp only [Qz] at h
  split at h
  ·rename_i x ys e1 e2
   cases h
   have h1:stC S c=some x:=by
    cases c <;> simp only [stP,Option.some.injEq,reduceCtorEq] at e1 <;> (subst e1;rfl)
   simp only [stCs,h1,Ol e2]
  ·cases h
theorem KT {s:AS} {w:Nat}:∀ {xs:List Opd} {es:List (List SV)},FX s w xs=some es→DT s w xs=some es
 | [],es,h=>h
 | x :: xs,es,h=>by
  simp only [FX] at h
  split at h
  ·rename_i c e0
   split at h
   ·rename_i c' es' e1 e2
    split at h
    ·rename_i hl
     cases h
     simp only [DT,e0,Ol e1,KT e2,hl,if_true]
    ·cases h
   ·cases h
  ·cases h
theorem Me {S:AA} {str:Bool} {c:AC} {n:Int} (h:EI noS str c=some n):EI S str c=some n:=by
 cases c with
 | st v=>cases v <;> first | exact h | (simp [EI] at h)
 | _=>first | exact h | (simp [EI,noS] at h)
theorem Li {S:AA} {c:AC} {l:List (List SV)} (h:Cp noS c=some l):Cp S c=some l:=by
 cases c with
 | st v=>cases v <;> first | exact h | (simp [Cp] at h)
 | _=>first | exact h | (simp [Cp,noS] at h)
theorem Od {P:Program} {d:Nat} {s:AS} {K:AV→AS→Prop} {kd:Kd} (hna:∀ mu e w b x y,kd ≠ .append mu e w b x y) (h:kd.stillOf.go P d s K):kd.go P d s K:=by
 cases kd
 case load g n x =>
  simp only [Kd.stillOf,Kd.go] at h ⊢
  split at h
  ·rename_i cs e1
   simp only [e1]
   exact h
  ·exact h.elim
 case indexAddr w x i =>
  simp only [Kd.stillOf,Kd.go] at h ⊢
  split at h
  ·rename_i e1 e2
   simp only [e1,e2]
   exact h
  ·rename_i e1 e2
   simp only [e1,e2]
   exact h
  ·exact h.elim
 case buildSlice mu e w xs =>
  cases mu with
  | true=>exact h
  | false =>
   simp only [Kd.stillOf,Kd.go] at h ⊢
   split at h
   ·rename_i es e1
    simp only [KT e1,Bool.false_eq_true,if_false]
    exact h
   ·exact h.elim
 case fieldAddr off x =>
  simp only [Kd.stillOf,Kd.go] at h ⊢
  split at h
  ·rename_i cs e1
   simp only [e1]
   exact h
  ·exact h.elim
 case len str x =>
  simp only [Kd.stillOf,Kd.go] at h ⊢
  split at h
  ·rename_i c e1
   split at h
   ·rename_i n e2
    simp only [Me e2]
    exact h
   ·exact h.elim
  ·exact h.elim
 case append mu e w bytes x y=>exact absurd rfl (hna _ _ _ _ _ _)
 all_goals exact h
def T7 (K:AV→AS→Prop) (v:AV) (s:AS):Prop:=K v s ∨ ∃ v',outV s.S v=some v'∧K v' s
theorem Na {P:Program} {d:Nat} {s:AS} {K:AV→AS→Prop} {mu:Bool} {e w bytes:Nat} {x y:Opd} (h:(Kd.appF mu e w bytes x y).go P d s K):(Kd.append mu e w bytes x y).go P d s (T7 K):=by
 simp only [Kd.go] at h ⊢
 split at h
 ·rename_i xs cy e1 e2
  split at h
  ·rename_i ys e3
   obtain ⟨h1,h2,h3,h4,h5,h6,h7⟩:=h
   simp only [e1,e2,Li e3]
   refine ⟨h2,h1,h3,h4,h5,h6,?_⟩
   cases mu with
   | true=>exact .inl h7
   | false =>
    refine .inr ⟨_,?_,h7⟩
    simp [outV,outC,stC,AS.set,AK]
  ·exact h.elim
 ·exact h.elim
theorem KM {kd:Kd} {f:Nat} {xs:List Opd} (h:kd.stillOf=.callS f xs):kd=.callS f xs:=by
 cases kd <;> first | exact h | cases h | (rename_i mu _ _ _;cases mu <;> cases h)
theorem MT {kd:Kd} {x:Opd} (h:kd.stillOf=.pan x):kd=.pan x:=by
 cases kd <;> first | exact h | cases h | (rename_i mu _ _ _;cases mu <;> cases h)
def Kd.ptrOpd:Kd→Option Opd
 | .load _ _ x=>some x
 | .store _ x _=>some x
 | .fieldAddr _ x=>some x
 | .nilCheck x=>some x
 | .indexAddr _ x _=>some x
 | _=>none
def Fr (id:Nat):AV→Prop
 | .one (.ptr i _ _ _)=>i=id
 | .one (.row i _)=>i=id
 | _=>False
def Tag.ok (t:Tag) (kd:Kd) (s s':AS):Prop:=match t with
 | .no=>True
 | .onb id=>match kd.ptrOpd with
  | some x=>Fr id (s.ev x)
  | none=>False
 | .keeps ks=>∀ k ∈ ks,s'.S k=s.S k
def Kd.goT (kd:Kd) (P:Program) (d:Nat) (s:AS) (t:Tag) (K:AV→AS→Prop):Prop:=kd.go P d s fun v s'=>t.ok kd s s'∧K v s'
abbrev Ins.i (d:Nat) (k:Kd):Ins:=⟨some d,none,k,.no⟩
abbrev Opd.n (z:Int):Opd:=.c (.one (.st (.int .i64 z)))
abbrev Ins.m (d x:Nat):Ins:=⟨some d,none,.mov (.t x),.no⟩
abbrev Ins.L (d k x:Nat):Ins:=⟨some d,none,.load true k (.t x),.no⟩
abbrev Ins.l (d x:Nat):Ins:=⟨some d,none,.load false 1 (.t x),.no⟩
abbrev Ins.f (d o x:Nat):Ins:=⟨some d,none,.fieldAddr o (.t x),.no⟩
abbrev Ins.s (k x y:Nat):Ins:=⟨none,none,.store k (.t x) (.t y),.no⟩
def Run (P:Program):List Ins→AS→(AS→Prop)→Prop
 | [],s,K=>K s
 | i :: l,s,K=>match i.guard with
  | none=>i.kd.goT P (i.dst.getD 0) s i.tag fun v s'=>Run P l (s'.put i.dst v) K
  | some (g,want)=>match s.env g with
   | .one (.st (.bool b))=>(b=want→i.kd.goT P (i.dst.getD 0) s i.tag fun v s'=>Run P l (s'.put i.dst v) K)∧(¬ b=want→Run P l (s.put i.dst (.tup [])) K)
   | .tup []=>Run P l (s.put i.dst (.tup [])) K
   | _=>False
inductive IR where
 | skip
 | ops (l:List Ins)
 | seq (x y:IR)
 | cond (c:Opd) (x y:IR)
 | block (id:Nat) (x:IR)
 | loop (x:IR)
 | rangeF (g:Opd) (ps:List Nat) (x y:IR)
 | exit (id:Nat)
 | ret

structure Ctx where
 n:Nat
 N:Nat
 G:Nat→Prop
 σ0:Sto
 w0:World
 S0:AA
 ι0:As
 clean:An S0
 glob:Bt σ0
 ds:List Deferred
 ro:Option Nat
 nm:Bool
def Ctx.Top (C:Ctx):Prop:=C.ro=none∧C.nm=false
def OJ (D:Nat):Deferred:={ target:=.collected D,args:=#[] }
def Gz (C:Ctx) (ds:List Deferred) (w:World):Prop:=∃ l:List Nat,ds=l.map OJ ++ C.ds∧l.Nodup∧(∀ D ∈ l,C.N≤D∧w.heap[D]?=some (.deferred (some [])))∧(C.nm=true→l=[])
theorem Gz.mono {C:Ctx} {ds:List Deferred} {w w':World} (h:Gz C ds w) (hw:∀ D:Nat,w.heap[D]?=some (Obj.deferred (some []))→w'.heap[D]?=some (Obj.deferred (some []))):Gz C ds w':=by
 obtain ⟨l,h1,h2,h3,h4⟩:=h
 exact ⟨l,h1,h2,fun D hD=>⟨(h3 D hD).1,hw D (h3 D hD).2⟩,h4⟩
theorem Cv {C:Ctx} {w:World}:Gz C C.ds w:=⟨[],rfl,List.nodup_nil,fun D h=>(by simp at h),fun _=>rfl⟩
theorem Gz.none {C:Ctx} {ds:List Deferred} {w:World} (h:Gz C ds w) (hm:C.nm=true):ds=C.ds:=by
 obtain ⟨l,h1,_,_,h4⟩:=h
 rw [h1,h4 hm]
 rfl
structure AT (C:Ctx) (σ:Sto) (ι:As) (s:AS) (a:Act) (w:World):Prop where
 size:C.n≤a.tmps.size
 env:∀ i,i < C.n→AN σ s.S ι (a.tmps.getD i undef) (s.env i)
 nod:Gz C a.defers w
 fit:Fit σ w
 blk:∀ id b,s.S id=some b→Bc σ s.S ι w (ι id) b
 inj:∀ id id' b b' g,s.S id=some b→s.S id'=some b'→(ι id).g=some g→(ι id').g=some g→id=id'
 base:∀ id b g,s.S id=some b→(ι id).g=some g→C.N≤g ∨ C.G g
 ext:∀ p x,C.σ0 p=some x→σ p=some x
 old:∀ p:Addr,p.block < C.N→¬ C.G p.block→σ p=C.σ0 p
 os:w.os=C.w0.os∧w.tape=C.w0.tape∧w.output=C.w0.output
 grown:C.N≤w.heap.size∧C.w0.heap.size≤w.heap.size
 same:∀ g,g < C.N→¬ C.G g→w.heap[g]?=C.w0.heap[g]?
 upd:Upd C.S0 C.ι0 s.S ι
def D5 (w w':World):Prop:=Below w.heap.size w w'
theorem D5.drew (w:World):D5 w w.drew:=(Below.refl _ _).drew
theorem D5.alloc (w:World) (o:Obj):D5 w (w.alloc o):=(Below.refl _ _).alloc (Nat.le_refl _) o
section
variable {C:Ctx} {σ:Sto} {ι:As} {s:AS} {a:Act} {w:World}
theorem AT.put (R:AT C σ ι s a w) {d:Option Nat} {v:Value} {av:AV} (hv:AN σ s.S ι v av):AT C σ ι (s.put d av) (a.put d v) w:=by
 cases d with
 | none=>exact R
 | some d =>
  refine { R with size:=?_,env:=fun i hi=>?_,nod:=R.nod }
  ·simpa [Act.put] using R.size
  ·have hs:=R.size
   show AN σ s.S ι ((a.tmps.setIfInBounds d v).getD i undef) (AK s.env d av i)
   unfold AK
   by_cases h:i=d
   ·subst h
    rw [if_pos rfl]
    rw [show (a.tmps.setIfInBounds i v).getD i undef=v by
     simp only [Array.getD_eq_getD_getElem?]
     rw [Array.getElem?_setIfInBounds_self_of_lt (by omega)]
     rfl]
    exact hv
   ·rw [if_neg h]
    rw [show (a.tmps.setIfInBounds d v).getD i undef=a.tmps.getD i undef by
     simp only [Array.getD_eq_getD_getElem?]
     rw [Array.getElem?_setIfInBounds_ne (by omega)]]
    exact R.env i hi
theorem AT.more (R:AT C σ ι s a w) {σ':Sto} {w':World} (he:Ext w.heap.size σ σ') (hf:Fit σ' w') (hb:D5 w w'):AT C σ' ι s a w':=by
 have hlt:∀ id b g,s.S id=some b→(ι id).g=some g→g < w.heap.size:=fun id b g h1 h2=>(R.blk id b h1).gsome h2
 refine ⟨R.size,fun i hi=>(R.env i hi).mono he.keep (Upd.refl _ _),R.nod.mono (fun D h=>(hb.block D (Array.getElem?_eq_some_iff.1 h).1).trans h),hf,fun id b h=>(R.blk id b h).mono he.keep (Upd.refl _ _) (fun g hg=>hb.block g (hlt id b g h hg)) (fun g hg p hp=>he.old p (by have:=hlt id b g h hg;omega)),R.inj,R.base,
  fun p x h=>he.keep _ _ (R.ext p x h),fun p h1 h2=>(he.old p (by have:=R.grown.1;omega)).trans (R.old p h1 h2),⟨hb.os.trans R.os.1,hb.tape.trans R.os.2.1,hb.output.trans R.os.2.2⟩,⟨Nat.le_trans R.grown.1 hb.size,Nat.le_trans R.grown.2 hb.size⟩,fun g h1 h2=>(hb.block g (by have:=R.grown.1;omega)).trans (R.same g h1 h2),R.upd⟩
theorem AT.world (R:AT C σ ι s a w) {w':World} (hb:D5 w w'):AT C σ ι s a w':=R.more (Ext.refl _ _) (R.fit.below hb) hb
theorem AT.drew (R:AT C σ ι s a w):AT C σ ι s a w.drew:=R.world (D5.drew w)
theorem AD {α:Type} (f:Nat→α) (d:Nat) (v:α):AK f d v d=v:=by simp [AK]
theorem AJ {α:Type} (f:Nat→α) {d i:Nat} (h:i ≠ d) (v:α):AK f d v i=f i:=by simp [AK,h]
theorem AT.fresh (R:AT C σ ι s a w) {w':World} {id:Nat} (hid:s.S id=none) (b:AU) (h:Hnd) {σ':Sto} (he:Ext w.heap.size σ σ') (hf:Fit σ' w') (hb:D5 w w') (hg:∀ g,h.g=some g→w.heap.size≤g)
  (hr:∀ S' ι',Upd s.S ι S' ι'→Bc σ' S' ι' w' h b) :
  Upd s.S ι (s.set id b).S (AK ι id h)∧AT C σ' (AK ι id h) (s.set id b) a w':=by
 have hu:Upd s.S ι (s.set id b).S (AK ι id h):=fun id' b' hb'=>by
  have hne:id' ≠ id:=by intro e;subst e;rw [hid] at hb';cases hb'
  exact ⟨b',by simp [AS.set,AJ _ hne,hb'],Nat.le_refl _,fun _=>⟨rfl,AJ _ hne _⟩⟩
 have R':=R.more he hf hb
 have hlt:∀ id b g,s.S id=some b→(ι id).g=some g→g < w.heap.size:=fun id b g h1 h2=>(R.blk id b h1).gsome h2
 have hcase:∀ id' b',(s.set id b).S id'=some b'→(id'=id∧b'=b) ∨ (id' ≠ id∧s.S id'=some b'):=by
  intro id' b' h'
  by_cases e:id'=id
  ·subst e
   simp only [AS.set,AD,Option.some.injEq] at h'
   exact .inl ⟨rfl,h'.symm⟩
  ·simp only [AS.set,AJ _ e] at h'
   exact .inr ⟨e,h'⟩
 refine ⟨hu,⟨R'.size,fun i hi=>(R'.env i hi).mono (fun _ _ h=>h) hu,R'.nod,hf,fun id' b' h'=>?_,fun id1 id2 b1 b2 g h1 h2 g1 g2=>?_,fun id' b' g h' hg'=>?_,R'.ext,R'.old,R'.os,R'.grown,R'.same,R.upd.trans hu⟩⟩
 ·rcases hcase id' b' h' with ⟨rfl,rfl⟩ | ⟨hne,h''⟩
  ·rw [AD]
   exact hr _ _ hu
  ·rw [AJ _ hne]
   exact (R'.blk id' b' h'').mono (fun _ _ h=>h) hu (fun _ _=>rfl) (fun _ _ _ _=>rfl)
 ·rcases hcase id1 b1 h1 with ⟨rfl,rfl⟩ | ⟨hne1,k1⟩ <;> rcases hcase id2 b2 h2 with ⟨rfl,rfl⟩ | ⟨hne2,k2⟩
  ·rfl
  ·rw [AD] at g1
   rw [AJ _ hne2] at g2
   have:=hlt _ _ _ k2 g2
   have:=hg _ g1
   omega
  ·rw [AD] at g2
   rw [AJ _ hne1] at g1
   have:=hlt _ _ _ k1 g1
   have:=hg _ g2
   omega
  ·rw [AJ _ hne1] at g1
   rw [AJ _ hne2] at g2
   exact R.inj _ _ _ _ _ k1 k2 g1 g2
 ·rcases hcase id' b' h' with ⟨rfl,rfl⟩ | ⟨hne,h''⟩
  ·rw [AD] at hg'
   have:=hg _ hg'
   exact .inl (by have:=R.grown.1;omega)
  ·rw [AJ _ hne] at hg'
   exact R.base _ _ _ h'' hg'
theorem AT.turn (R:AT C σ ι s a w) {w':World} {id:Nat} {b:AU} (hid:s.S id=some b) (b':AU) (h:Hnd) {σ':Sto} (hs:∀ p x,σ p=some x→σ' p=some x)
  (hn:∀ p:Addr,(ι id).g ≠ some p.block→p.block < w.heap.size→σ' p=σ p) (hf:Fit σ' w') (hlen:b.len≤b'.len) (hsame:b'.len=b.len→b'.wid=b.wid∧h=ι id)
  (hos:w'.os=w.os∧w'.tape=w.tape∧w'.output=w.output) (hsz:w.heap.size≤w'.heap.size) (hw:∀ g,g < w.heap.size→(ι id).g ≠ some g→w'.heap[g]?=w.heap[g]?)
  (hg:∀ g,h.g=some g→(ι id).g=some g ∨ w.heap.size≤g) (hr:Upd s.S ι (s.set id b').S (AK ι id h)→Bc σ' (s.set id b').S (AK ι id h) w' h b') :
  Upd s.S ι (s.set id b').S (AK ι id h)∧AT C σ' (AK ι id h) (s.set id b') a w':=by
 have hu:Upd s.S ι (s.set id b').S (AK ι id h):=fun id' c hc=>by
  by_cases e:id'=id
  ·subst e
   rw [hid] at hc
   cases hc
   exact ⟨b',by simp [AS.set,AD],hlen,fun he=>⟨(hsame he).1,by rw [AD];exact (hsame he).2⟩⟩
  ·exact ⟨c,by simp [AS.set,AJ _ e,hc],Nat.le_refl _,fun _=>⟨rfl,AJ _ e _⟩⟩
 have hlt:∀ id b g,s.S id=some b→(ι id).g=some g→g < w.heap.size:=fun id b g h1 h2=>(R.blk id b h1).gsome h2
 have hcase:∀ id' c,(s.set id b').S id'=some c→(id'=id∧c=b') ∨ (id' ≠ id∧s.S id'=some c):=by
  intro id' c h'
  by_cases e:id'=id
  ·subst e
   simp only [AS.set,AD,Option.some.injEq] at h'
   exact .inl ⟨rfl,h'.symm⟩
  ·simp only [AS.set,AJ _ e] at h'
   exact .inr ⟨e,h'⟩
 have hold:∀ g,g < C.N→¬ C.G g→(ι id).g ≠ some g:=fun g h1 h2 e=>by
  rcases R.base _ _ _ hid e with h | h
  ·omega
  ·exact h2 h
 refine ⟨hu,⟨R.size,fun i hi=>(R.env i hi).mono hs hu,R.nod.mono (fun D h=>(hw D (Array.getElem?_eq_some_iff.1 h).1 fun e=>by obtain ⟨o,h1,h2⟩:=(R.blk _ _ hid).own e;rw [h] at h1;cases h1;cases h2).trans h),hf,fun id' c h'=>?_,fun id1 id2 b1 b2 g h1 h2 g1 g2=>?_,fun id' c g h' hg'=>?_,fun p x hx=>hs _ _ (R.ext p x hx),fun p h1 h2=>?_,⟨hos.1.trans R.os.1,hos.2.1.trans R.os.2.1,hos.2.2.trans R.os.2.2⟩,⟨Nat.le_trans R.grown.1 hsz,Nat.le_trans R.grown.2 hsz⟩,fun g h1 h2=>?_,R.upd.trans hu⟩⟩
 ·rcases hcase id' c h' with ⟨rfl,rfl⟩ | ⟨hne,h''⟩
  ·rw [AD]
   exact hr hu
  ·rw [AJ _ hne]
   have hother:∀ g,(ι id').g=some g→(ι id).g ≠ some g:=fun g h1 h2=>hne (R.inj _ _ _ _ _ h'' hid h1 h2)
   refine (R.blk id' c h'').mono hs hu (fun g hg'=>hw g (hlt _ _ _ h'' hg') (hother g hg')) (fun g hg' p hp=>hn p (by rw [hp];exact hother g hg') (by rw [hp];exact hlt _ _ _ h'' hg'))
 ·rcases hcase id1 b1 h1 with ⟨rfl,rfl⟩ | ⟨hne1,k1⟩ <;> rcases hcase id2 b2 h2 with ⟨rfl,rfl⟩ | ⟨hne2,k2⟩
  ·rfl
  ·rw [AD] at g1
   rw [AJ _ hne2] at g2
   rcases hg _ g1 with h | h
   ·exact (R.inj _ _ _ _ _ k2 hid g2 h).symm
   ·have:=hlt _ _ _ k2 g2
    omega
  ·rw [AD] at g2
   rw [AJ _ hne1] at g1
   rcases hg _ g2 with h | h
   ·exact R.inj _ _ _ _ _ k1 hid g1 h
   ·have:=hlt _ _ _ k1 g1
    omega
  ·rw [AJ _ hne1] at g1
   rw [AJ _ hne2] at g2
   exact R.inj _ _ _ _ _ k1 k2 g1 g2
 ·rcases hcase id' c h' with ⟨rfl,rfl⟩ | ⟨hne,h''⟩
  ·rw [AD] at hg'
   rcases hg _ hg' with h | h
   ·exact R.base _ _ _ hid h
   ·exact .inl (by have:=R.grown.1;omega)
  ·rw [AJ _ hne] at hg'
   exact R.base _ _ _ h'' hg'
 ·exact (hn p (hold _ h1 h2) (by have:=R.grown.1;omega)).trans (R.old p h1 h2)
 ·exact (hw g (by have:=R.grown.1;omega) (hold g h1 h2)).trans (R.same g h1 h2)
theorem AT.row_srep (R:AT C σ ι s a w) {v:Value} {id n:Nat} {e:TypeId} {wd:Nat} {xs:List (List SV)} (hv:Aq σ s.S ι v (.row id n)) (hS:s.S id=some (.arow e wd xs)) (hn:n=xs.length):A0 σ v (.list xs):=by
 cases hv with
 | row h1 h2 h3 h4 =>
  rw [hS] at h1
  cases h1
  rw [h4 hn,hn]
  exact (R.blk _ _ hS).srep
theorem AT.stC (R:AT C σ ι s a w) {v:Value} {c:AC} {x:SV} (hv:Aq σ s.S ι v c) (h:stC s.S c=some x):A0 σ v x:=by
 unfold Go.Proofs.YtignopbnnaimaaaGreatDoor.stC at h
 split at h
 ·cases h
  cases hv with | st h=>exact h
 ·cases h
  cases hv with | full h=>exact h
 ·split at h
  ·rename_i hS
   split at h
   ·rename_i hn
    cases h
    exact R.row_srep hv hS hn
   ·cases h
  ·cases h
 ·cases h
  cases hv with
  | fn c h1 h2 h3 =>
   rename_i vs
   have:vs=#[]:=Array.eq_empty_of_size_eq_zero (by simpa using h1)
   subst this
   exact .lit rfl
 ·rw [Option.map_eq_some_iff] at h
  obtain ⟨css,h1,rfl⟩:=h
  rw [Iu h1] at hv
  exact SF hv
 ·cases h
theorem AT.stCs (R:AT C σ ι s a w):∀ {vs:List Value} {cs:List AC} {xs:List SV},Af (Aq σ s.S ι) vs cs→stCs s.S cs=some xs→Af (A0 σ) vs xs
 | _,_,_,.nil,h=>by
  simp only [Go.Proofs.YtignopbnnaimaaaGreatDoor.stCs,Option.some.injEq] at h
  subst h
  exact .nil
 | _,_,_,.cons h1 h2,h=>by
  simp only [Go.Proofs.YtignopbnnaimaaaGreatDoor.stCs] at h
  split at h
  ·rename_i k1 k2
   cases h
   exact .cons (R.stC h1 k1) (R.stCs h2 k2)
  ·cases h
theorem HF (S:AA) (ι:As):Upd noS noH S ι:=fun id b h=>by simp [noS] at h
theorem AT.outC (R:AT C σ ι s a w) {v:Value} {c c':AC} (hv:Aq σ s.S ι v c) (h:outC s.S c=some c'):Aq σ noS noH v c':=by
 unfold Go.Proofs.YtignopbnnaimaaaGreatDoor.outC at h
 split at h
 ·cases h
  cases hv with | eptr c h1 h2 hh=>exact .eptr c h1 h2 hh
 ·cases h
  cases hv
  exact .ubool
 ·cases h
  cases hv with
  | fn c h1 h2 h3=>exact .fn c h1 h2 (by simp)
 ·split at h
  ·rename_i hall
   cases h
   cases hv with
   | fn c h1 h2 h3=>exact .fn c h1 h2 fun j a ha=>(h3 j a ha).staying (List.all_eq_true.1 hall a (List.mem_of_getElem? ha))
  ·cases h
 ·rw [Option.map_eq_some_iff] at h
  obtain ⟨x,h1,rfl⟩:=h
  exact .st (R.stC hv h1)
theorem AT.outCs (R:AT C σ ι s a w):∀ {vs:List Value} {cs xs:List AC},Af (Aq σ s.S ι) vs cs→outCs s.S cs=some xs→Af (Aq σ noS noH) vs xs
 | _,_,_,.nil,h=>by
  simp only [Go.Proofs.YtignopbnnaimaaaGreatDoor.outCs,Option.some.injEq] at h
  subst h
  exact .nil
 | _,_,_,.cons h1 h2,h=>by
  simp only [Go.Proofs.YtignopbnnaimaaaGreatDoor.outCs] at h
  split at h
  ·rename_i k1 k2
   cases h
   exact .cons (R.outC h1 k1) (R.outCs h2 k2)
  ·cases h
mutual
theorem AT.outV (R:AT C σ ι s a w):∀ {v:Value} {c c':AV},AN σ s.S ι v c→outV s.S c=some c'→AN σ noS noH v c'
 | v,.one c,c',hv,h=>by
  simp only [Go.Proofs.YtignopbnnaimaaaGreatDoor.outV,Option.map_eq_some_iff] at h
  obtain ⟨x,h1,rfl⟩:=h
  cases hv with | one h2=>exact .one (R.outC h2 h1)
 | v,.agg cs,c',hv,h=>by
  simp only [Go.Proofs.YtignopbnnaimaaaGreatDoor.outV,Option.map_eq_some_iff] at h
  obtain ⟨x,h1,rfl⟩:=h
  cases hv with | agg h2=>exact .agg (R.outCs h2 h1)
 | v,.tup cs,c',hv,h=>by
  simp only [Go.Proofs.YtignopbnnaimaaaGreatDoor.outV,Option.map_eq_some_iff] at h
  obtain ⟨x,h1,rfl⟩:=h
  cases hv with
  | tup c h2 h3 h4 =>
   obtain ⟨k1,k2⟩:=AT.outVs R (c:=c) h4 h1
   exact .tup c (by rw [h2,k1]) (fun j b hb=>by
    rcases Nat.lt_or_ge j cs.length with hj | hj
    ·exact h3 j _ (List.getElem?_eq_getElem hj)
    ·rw [List.getElem?_eq_none (by omega)] at hb;cases hb) k2
 | v,.any,c',hv,h=>by
  simp only [Go.Proofs.YtignopbnnaimaaaGreatDoor.outV,Option.some.injEq] at h
  subst h
  exact .any
theorem AT.outVs (R:AT C σ ι s a w):∀ {cs cs':List AV} {c:Nat→Value},(∀ j b,cs[j]?=some b→AN σ s.S ι (c j) b)→outVs s.S cs=some cs'→cs.length=cs'.length∧∀ j b,cs'[j]?=some b→AN σ noS noH (c j) b
 | [],cs',c,hv,h=>by
  simp only [Go.Proofs.YtignopbnnaimaaaGreatDoor.outVs,Option.some.injEq] at h
  subst h
  simp
 | x :: xs,cs',c,hv,h=>by
  simp only [Go.Proofs.YtignopbnnaimaaaGreatDoor.outVs] at h
  split at h
  ·rename_i k1 k2
   cases h
   have h0:=AT.outV R (hv 0 x rfl) k1
   obtain ⟨m1,m2⟩:=AT.outVs R (c:=fun j=>c (j + 1)) (fun j b hb=>hv (j + 1) b (by simpa using hb)) k2
   refine ⟨by simp [m1],fun j b hb=>?_⟩
   cases j with
   | zero=>simp at hb;subst hb;exact h0
   | succ j=>exact m2 j b (by simpa using hb)
  ·cases h
end
end
theorem DK {σ:Sto} {S:AA} {ι:As} {w:World} (ho:∀ id b,S id=some b→Bc σ S ι w (ι id) b) {D:Nat} (h:w.heap[D]?=some (.deferred (some []))):BZ S ι D:=fun id b hb hg=>by
 obtain ⟨o,h1,h2⟩:=(ho id b hb).own hg
 rw [h] at h1
 cases h1
 cases h2
theorem MX {w:World} {D:Nat} {o:Obj} {p:Addr} (h:p.block ≠ D):Ca (w.putObj D o) p=Ca w p:=by
 have e:=World.putObj_heap_other (w:=w) (o:=o) h
 unfold Ca
 split
 ·unfold World.cell?
  rw [e]
 ·rw [e]
 ·rw [e]
theorem Pi {w:World} {p:Addr} {x:Option (List Deferred)} (h:w.heap[p.block]?=some (.deferred x)):Ca w p=none:=by
 unfold Ca
 split
 ·unfold World.cell?
  rw [h]
 ·rw [h]
 ·rw [h]
theorem Nv {σ:Sto} {w:World} {D:Nat} {o:Obj} (hf:Fit σ w) (h:∀ p:Addr,p.block=D→Ca w p=none):Fit σ (w.putObj D o):=fun p x hx=>by
 by_cases e:p.block=D
 ·have:=hf p x hx
  rw [h p e] at this
  cases this
 ·rw [MX e]
  exact hf p x hx
theorem AT.putObj {C:Ctx} {σ:Sto} {ι:As} {s:AS} {a a':Act} {w:World} (R:AT C σ ι s a w) {D:Nat} (o:Obj) (hN:C.N≤D) (hno:BZ s.S ι D) (hl:∀ p:Addr,p.block=D→Ca w p=none) (ha:a'.tmps=a.tmps) (hm:Gz C a'.defers (w.putObj D o)):AT C σ ι s a' (w.putObj D o):=by
 refine ⟨by rw [ha];exact R.size,fun i hi=>by rw [ha];exact R.env i hi,hm,Nv R.fit hl,fun id b hb=>?_,R.inj,R.base,R.ext,R.old,R.os,⟨by rw [World.putObj_size];exact R.grown.1,by rw [World.putObj_size];exact R.grown.2⟩,fun g h1 h2=>?_,R.upd⟩
 ·exact (R.blk id b hb).mono (fun _ _ h=>h) (Upd.refl _ _) (fun g hg=>World.putObj_heap_other fun e=>hno id b hb (by rw [hg,e])) fun _ _ _ _=>rfl
 ·rw [World.putObj_heap_other (by omega)]
  exact R.same g h1 h2
theorem IA {F:Fence} {n:Nat} {P:Program} {fn:Func} {Rp:Ending→World→Prop} {u:FrameMode} (hu:u ≠ .run) {C:Ctx} {σ:Sto} {ι:As} {s:AS} :
  ∀ (l:List Nat) (a:Act) (w:World),AT C σ ι s a w→a.defers=l.map OJ ++ C.ds→l.Nodup→(∀ D ∈ l,C.N≤D∧w.heap[D]?=some (.deferred (some [])))→(C.nm=true→l=[]) →
   (∀ a' w',AT C σ ι s a' w'→a'.defers=C.ds→a'.tmps=a.tmps→LeavesInM F n P fn a'.tmps Rp C.ds u w')→LeavesInM F n P fn a.tmps Rp a.defers u w
 | [],a,w,R,hd,_,_,_,hfin=>by
  rw [hd]
  exact hfin a w R hd rfl
 | D :: l,a,w,R,hd,hn,hl,hm,hfin=>by
  obtain ⟨h1,h2⟩:=hl D (List.mem_cons_self ..)
  obtain ⟨hn1,hn2⟩:=List.nodup_cons.1 hn
  have hl':∀ D' ∈ l,C.N≤D'∧(w.putObj D (.deferred none)).heap[D']?=some (.deferred (some [])):=fun D' hD' =>
   ⟨(hl D' (List.mem_cons_of_mem _ hD')).1,(World.putObj_heap_other (fun e:D'=D=>hn1 (by rw [← e];exact hD'))).trans (hl D' (List.mem_cons_of_mem _ hD')).2⟩
  rw [hd]
  refine ⟨hu,.inl ⟨D,_,rfl,run_takeDeferred h2,?_⟩⟩
  have R':AT C σ ι s { a with defers:=l.map OJ ++ C.ds } (w.putObj D (.deferred none)):=R.putObj _ h1 (DK R.blk h2) (fun p hp=>Pi (by rw [hp];exact h2)) rfl ⟨l,rfl,hn2,hl',fun h=>by cases hm h⟩
  exact IA hu l { a with defers:=l.map OJ ++ C.ds } _ R' rfl hn2 hl' (fun h=>by cases hm h) hfin
theorem AT.leaves {F:Fence} {n:Nat} {P:Program} {fn:Func} {Rp:Ending→World→Prop} {u:FrameMode} (hu:u ≠ .run) {C:Ctx} {σ:Sto} {ι:As} {s:AS} {a:Act} {w:World} (R:AT C σ ι s a w)
  (hfin:∀ a' w',AT C σ ι s a' w'→a'.defers=C.ds→a'.tmps=a.tmps→LeavesInM F n P fn a'.tmps Rp C.ds u w'):LeavesInM F n P fn a.tmps Rp a.defers u w:=by
 obtain ⟨l,h1,h2,h3,h4⟩:=R.nod
 exact IA hu l a w R h1 h2 h3 h4 hfin
theorem H5 {ro:Option Nat} {n:Nat} {P:Program} {f:FuncId} {args:Array Value} {w:World} {R:Ending→World→Prop} (h:Calls P f args w R):CallsIn (fen ro) n P f args w R:=callsIn_wide (n:=n).2 h
theorem Ey {P:Program} {ro:Option Nat} {o:Oper} {a:Act} {w:World} {next:Act→World→Prop} {Q:Exit→Act→World→Prop} (hd:∀ c,o.op ≠ .defer c) (h:o.wp P a w next Q):o.wpIn (fen ro) 0 P a w next Q:=by
 refine ⟨fun _ _=>trivial,?_⟩
 have e:(o.semAt (fen ro).round a.eval)=execOp a.eval o:=Oper.semAt_eq _ _ _ hd
 rw [e]
 unfold Oper.wp at h
 revert h
 generalize (execOp a.eval o).run P w=r
 intro h
 cases r with
 | ok x w' =>
  cases x <;> simp only [Oper.upon] at h <;> simp only [Oper.uponIn] <;> first | exact h | exact h.elim | skip
  ·exact ⟨fun h=>by simp [fen,Fence.wide] at h,H5 h⟩
  ·refine ⟨fun h=>by simp [fen,Fence.wide] at h,fun c cs _=>?_⟩
   obtain ⟨v,w'',h1,h2⟩:=h c cs
   exact ⟨v,w'',h1,stepsIn_wide.2 h2⟩
 | halt x w'=>cases x <;> simp only [Oper.upon] at h <;> simp only [Oper.uponIn] <;> first | exact h | exact h.elim

end Go.Proofs.YtignopbnnaimaaaGreatDoor
