/-
  Part 1 of the texts. Conditions: none.
-/
import Derived.Test.YtbhnmjkmieiadaaGreatDoorProg
import Derived.WalkKit
import Derived.Lib.Hide
import Derived.Deep.AppendLies
import Derived.Maps.AppendAt
import Derived.Laws.BytesArg
import Derived.RangeFuncSeq
import Derived.RangeFuncLeaves
import Derived.RangeFuncRecord
import Derived.OrdersIn
namespace Go.Proofs.YtbhnmjkmieiadaaGreatDoor
theorem zD:(!false)=true∧(∀b:Bool,(true&&b)=b)∧(∀b:Bool,(b&&b)=b)∧(∀b:Bool,(b||b)=b)∧(∀b:Bool,(b||false)=b)∧(∀b:Bool,(false||b)=b)∧(∀b:Bool,(b||true)=true)∧(∀(a x:Nat) (l:List Nat),(x::l).contains a=(a==x||l.contains a))∧(∀a:Nat,([]:List Nat).contains a=false):=⟨rfl,Bool.true_and,Bool.and_self,Bool.or_self,Bool.or_false,Bool.false_or,Bool.or_true,fun _ _ _=>List.contains_cons,fun _=>List.contains_nil⟩
open Go Go.RowKit
set_option linter.unusedVariables false
def Sto:=Addr→Option Value
def Dq(w:World)(p:Addr):Option Value:=match p.spot with
 | none=>w.cell? p
 | some 0=>match w.heap[p.block]? with
  | some (.cells c _ _)=>if c.size=p.off then some .nilFunc else none
  | _=>none
 | some _=>match w.heap[p.block]? with
  | some (.cells _ _ z)=>if z=(0,0) then some .nilFunc else none
  | _=>none
def Cq:Bool:=true
theorem Ej{w:World}{p:Addr}(h:p.spot=none):Dq w p=w.cell? p:=by unfold Dq;rw[h]
theorem EG{w w':World}{p:Addr}(h:w'.heap[p.block]?=w.heap[p.block]?):Dq w' p=Dq w p:=by
 unfold Dq;match p.spot with
 | none=>exact World.cell?_of_block h
 | some 0=>simp only[h]
 | some (_+1)=>simp only[h]
theorem Z4{w:World}{p:Addr}{x:Value}(h:Dq w p=some x):p.block<w.heap.size:=by
 unfold Dq at h;match hs:p.spot with
 | none =>
  rw[hs]at h;exact World.block_lt_of_cell? w p h
 | some 0 =>
  rw[hs]at h;simp only at h;rcases Nat.lt_or_ge p.block w.heap.size with h1|h1
  ·exact h1
  ·rw[Array.getElem?_eq_none h1]at h;cases h
 | some (_+1) =>
  rw[hs]at h;simp only at h;rcases Nat.lt_or_ge p.block w.heap.size with h1|h1
  ·exact h1
  ·rw[Array.getElem?_eq_none h1]at h;cases h
theorem Fo{w:World}{g o n:Nat}{c:Array Value}{t:TypeId}(h:w.heap[g]?=some (.cells c t (0,0))):Dq w ⟨g,o,some (n+1)⟩=some .nilFunc:=by
 unfold Dq;simp[h]
theorem LT{w:World}{g o n:Nat}{x:Value}(h:Dq w ⟨g,o,some (n+1)⟩=some x):∃c t,w.heap[g]?=some (.cells c t (0,0))∧x=.nilFunc:=by
 unfold Dq at h;simp only at h;split at h
 ·rename_i c t z e;split at h
  ·rename_i hz;subst hz;cases h;exact⟨c,t,e,rfl⟩
  ·cases h
 ·cases h
def Fit(σ:Sto)(w:World):Prop:=∀p x,σ p=some x→Dq w p=some x
structure Ext(N:Nat)(σ σ':Sto):Prop where
 keep:∀p x,σ p=some x→σ' p=some x
 old:∀p,p.block<N→σ' p=σ p
theorem Ext.refl(N:Nat)(σ:Sto):Ext N σ σ:=⟨fun _ _ h=>h,fun _ _=>rfl⟩
theorem Ext.mono{N M:Nat}{a b:Sto}(h:Ext N a b)(hm:M≤N):Ext M a b:=⟨h.keep,fun p hp=>h.old p (by omega)⟩
theorem Fit.lt{σ:Sto}{w:World}(h:Fit σ w){p:Addr}{x:Value}(e:σ p=some x):p.block<w.heap.size:=Z4 (h p x e)
theorem Fit.no{σ:Sto}{w:World}(h:Fit σ w){p:Addr}(hp:w.heap.size≤p.block):σ p=none:=by
 cases e:σ p with
 | none=>rfl
 | some x=>have:=h.lt e;omega
theorem Fit.below{σ:Sto}{w w':World}(h:Fit σ w)(hb:Below w.heap.size w w'):Fit σ w':=fun p x e=>(EG (hb.block _ (h.lt e))).trans (h p x e)
theorem Fit.alloc{σ:Sto}{w:World}(h:Fit σ w)(o:Obj):Fit σ (w.alloc o):=h.below ((Below.refl _ _).alloc (Nat.le_refl _) _)
def Blk(w:World)(g:Nat)(t:TypeId)(cs:Array Value):Prop:=w.heap[g]?=some (.cells cs t (0,0))
section
variable {w w':World} {g:Nat} {t:TypeId} {cs:Array Value}
theorem Blk.frozen(h:Blk w g t cs)(i:Nat):w.frozen? ⟨g,i,none⟩=false:=by
 unfold Blk at h;simp[World.frozen?,h]
end
inductive Dat where
 | int (k:IntKind) (n:Int)
 | str (s:ByteArray)
 | bool (b:Bool)
 | agg (ds:List Dat)
 | row (e:Nat) (ds:List Dat)
mutual
def Dat.Is(σ:Sto):Dat→List Value→Prop
 | .int k n,cs=>cs=[.int k n]∧(Lit.int k n).wf=true
 | .str s,cs=>cs=[.string s]∧s.size≤maxLen
 | .bool b,cs=>cs=[.bool b]
 | .agg ds,cs=>Dat.AggIs σ ds cs
 | .row e ds,cs=>∃p len cap,cs=[.slice p len cap]∧len=ds.length∧len≤cap∧cap≤maxLen∧(p=none→cap=0)∧∃b o,(len≠0→p=some ⟨b,o,none⟩)∧Dat.RowIs σ e ds b o
def Dat.AggIs(σ:Sto):List Dat→List Value→Prop
 | [],cs=>cs=[]
 | d::ds,cs=>∃x y,cs=x++y∧Dat.Is σ d x∧Dat.AggIs σ ds y
def Dat.RowIs(σ:Sto)(e:Nat):List Dat→Nat→Nat→Prop
 | [],_,_=>True
 | d::ds,b,o=>(∃cs,cs.length=e∧(∀j x,cs[j]?=some x→σ ⟨b,o+j,none⟩=some x)∧Dat.Is σ d cs)∧Dat.RowIs σ e ds b (o+e)
end
mutual
theorem Dat.Is.mono{σ σ':Sto}(h:∀p x,σ p=some x→σ' p=some x):∀{d:Dat} {cs:List Value},d.Is σ cs→d.Is σ' cs
 | .int _ _,_,hd=>hd
 | .str _,_,hd=>hd
 | .bool _,_,hd=>hd
 | .agg ds,cs,hd=>Dat.AggIs.mono h (ds:=ds) hd
 | .row e ds,cs,hd=>by
  obtain⟨p,len,cap,h1,h2,h3,h4,h5,b,o,h6,h7⟩:=hd;exact⟨p,len,cap,h1,h2,h3,h4,h5,b,o,h6,Dat.RowIs.mono h h7⟩
theorem Dat.AggIs.mono{σ σ':Sto}(h:∀p x,σ p=some x→σ' p=some x):∀{ds:List Dat} {cs:List Value},Dat.AggIs σ ds cs→Dat.AggIs σ' ds cs
 | [],_,hd=>hd
 | d::ds,cs,hd=>by
  obtain⟨x,y,h1,h2,h3⟩:=hd;exact⟨x,y,h1,Dat.Is.mono h h2,Dat.AggIs.mono h h3⟩
theorem Dat.RowIs.mono{σ σ':Sto}(h:∀p x,σ p=some x→σ' p=some x){e:Nat}:∀{ds:List Dat} {b o:Nat},Dat.RowIs σ e ds b o→Dat.RowIs σ' e ds b o
 | [],_,_,_=>trivial
 | d::ds,b,o,hd=>by
  obtain⟨⟨cs,h1,h2,h3⟩,h4⟩:=hd;exact⟨⟨cs,h1,fun j x e=>h _ _ (h2 j x e),Dat.Is.mono h h3⟩,Dat.RowIs.mono h h4⟩
end
theorem Dat.RowIs.drop{σ:Sto}{e:Nat}:∀{ds:List Dat} {b o:Nat} (k:Nat),Dat.RowIs σ e ds b o→Dat.RowIs σ e (ds.drop k) b (o+k*e)
 | [],_,_,k,_=>by simp[Dat.RowIs]
 | d::ds,b,o,0,hd=>by simpa using hd
 | d::ds,b,o,k+1,hd=>by
  have:=Dat.RowIs.drop k hd.2;rw[List.drop_succ_cons];rw[show o+(k+1)*e=o+e+k*e by rw[Nat.add_mul];omega];exact this
class Cod(α:Type) where
 wid:Nat
 dat:α→Dat
 len:∀(σ:Sto) (a:α) (cs:List Value),(dat a).Is σ cs→cs.length=wid
open Cod (wid dat)
def Slc{α:Type}[Cod α](σ:Sto)(p:Option Addr)(len cap:Nat)(xs:List α):Prop :=
 len=xs.length∧len≤cap∧cap≤maxLen∧(p=none→cap=0)∧∃b o,(len≠0→p=some ⟨b,o,none⟩)∧Dat.RowIs σ (wid α) (xs.map dat) b o
instance:Cod Int:=⟨1,fun n=>.int .i64 n,fun _ _ _ h=>by obtain⟨rfl,_⟩:=h;rfl⟩
instance:Cod ByteArray:=⟨1,fun s=>.str s,fun _ _ _ h=>by obtain⟨rfl,_⟩:=h;rfl⟩
instance:Cod Bool:=⟨1,fun b=>.bool b,fun _ _ _ h=>by obtain rfl:=h;rfl⟩
instance{α:Type}[Cod α]:Cod (List α):=⟨1,fun l=>.row (wid α) (l.map dat),fun _ _ _ h=>by obtain⟨p,len,cap,rfl,_⟩:=h;rfl⟩
instance{α β:Type}[Cod α][Cod β]:Cod (α×β):=⟨wid α+wid β,fun x=>.agg [dat x.1,dat x.2],fun σ x cs h=>by
 obtain⟨y,z,rfl,h1,y',z',rfl,h2,h3⟩:=h
 obtain rfl:=h3
 simp[Cod.len σ x.1 y h1,Cod.len σ x.2 y' h2]⟩
section
variable {α β:Type} [Cod α] [Cod β] {σ σ':Sto}
theorem Slc.length{p:Option Addr}{len cap:Nat}{xs:List α}(h:Slc σ p len cap xs):len=xs.length:=h.1
structure Own(σ:Sto)(N:Nat)(w:World)(e:TypeId)(v:Value)(xs:List α):Prop where
 row:∃cs:List Value,w.ownsRow N e (wid α) v xs.length cs∧Dat.AggIs σ (xs.map dat) cs
 free:∀g,v.ownBlock=some g→∀p:Addr,p.block=g→σ p=none
theorem Own.mono{N M:Nat}{w:World}{e:TypeId}{v:Value}{xs:List α}(h:Own σ N w e v xs)(hm:M≤N):Own σ M w e v xs:=by
 obtain⟨⟨cs,⟨h1,h2⟩,h3⟩,h4⟩:=h;refine⟨⟨cs,⟨h1,?_⟩,h3⟩,h4⟩;rcases h2 with h0|⟨g,cap,cur,hv,hg,r⟩
 ·exact .inl h0
 ·exact .inr ⟨g,cap,cur,hv,by omega,r⟩
end

inductive Tm where
 | mk (name:ByteArray) (args:List Tm)
def Tm.name:Tm→ByteArray|.mk n _=>n
def Tm.args:Tm→List Tm|.mk _ xs=>xs
theorem Tm.eta(t:Tm):Tm.mk t.name t.args=t:=by cases t;rfl
mutual
def Tm.dat:Tm→Dat
 | .mk n xs=>.agg [.str n,.row 2 (Tm.dats xs)]
def Tm.dats:List Tm→List Dat
 | []=>[]
 | t::ts=>t.dat::Tm.dats ts
end
theorem Tm.dats_eq:∀xs:List Tm,Tm.dats xs=xs.map Tm.dat
 | []=>rfl
 | t::ts=>by rw[Tm.dats,Tm.dats_eq ts];rfl
theorem Tm.dat_is{σ:Sto}{n:ByteArray}{xs:List Tm}{cs:List Value}(h:(Tm.dat (.mk n xs)).Is σ cs) :
  ∃p len cap,cs=[.string n,.slice p len cap]∧n.size≤maxLen∧len=xs.length∧len≤cap∧cap≤maxLen∧(p=none→cap=0)∧∃b o,(len≠0→p=some ⟨b,o,none⟩)∧Dat.RowIs σ 2 (xs.map Tm.dat) b o:=by
 rw[Tm.dat,Tm.dats_eq]at h;obtain⟨x,y,rfl,⟨rfl,hn⟩,x',y',rfl,⟨p,len,cap,rfl,hl,r⟩,rfl⟩:=h;exact⟨p,len,cap,rfl,hn,by simpa using hl,r⟩
instance:Cod Tm:=⟨2,Tm.dat,fun σ t cs h=>by
 cases t
 obtain⟨p,len,cap,rfl,_⟩:=Tm.dat_is h
 rfl⟩
theorem Ab{α:Type}{xs:List α}{k:Nat}{a:α}(h:xs[k]?=some a):xs.take (k+1)=xs.take k++[a]:=by
 rw[List.take_add_one,h];rfl
theorem B8{α:Type}{xs:List α}{k:Nat}{a:α}(h:xs[k]?=some a):k<xs.length:=by
 rcases Nat.lt_or_ge k xs.length with h'|h'
 ·exact h'
 ·rw[List.getElem?_eq_none h']at h;cases h
theorem AN{α:Type}{xs:List α}{k:Nat}{a:α}(h:xs[k]?=some a):a∈xs:=List.mem_of_getElem? h
theorem Tm.lt_of_mem{a:Tm}{n:ByteArray}{xs:List Tm}(h:a∈xs):SizeOf.sizeOf a<SizeOf.sizeOf (Tm.mk n xs):=by
 have:=List.sizeOf_lt_of_mem h;simp only[Tm.mk.sizeOf_spec];omega

def BS(n:Int):Bool:=decide (97≤n∧n≤122)||decide (65≤n∧n≤90)||decide (48≤n∧n≤57)
def Ar(s:ByteArray)(k:Nat):Int:=((s.data.toList.getD k 0).toNat:Int)
theorem GJ(s:ByteArray)(k:Nat):0≤Ar s k∧Ar s k≤255:=by
 unfold Ar;have:=(s.data.toList.getD k 0).toNat_lt;omega
def AP(s:ByteArray):Bool:=decide (0<s.size)&&decide (65≤Ar s 0)&&decide (Ar s 0≤90)
def CH(s:ByteArray)(k:Nat):Bool:=(s.data.toList.take k).all fun c=>BS c.toNat
def BA(s:ByteArray):Bool:=decide (1≤s.size)&&decide (s.size≤8)&&!(decide (48≤Ar s 0)&&decide (Ar s 0≤57))&&CH s s.size
theorem G7(s:ByteArray)(k:Nat)(h:k<s.size):CH s (k+1)=(CH s k&&BS (Ar s k)):=by
 unfold CH Ar;have h2:k<s.data.toList.length:=by simpa using h
 rw[List.take_add_one,List.getD_eq_getElem?_getD,List.getElem?_eq_getElem h2];simp
theorem JM(s:ByteArray)(k:Nat)(h:k<s.size)(hn:BS (Ar s k)=false):CH s s.size=false:=by
 unfold CH Ar at *;have h2:k<s.data.toList.length:=by simpa using h
 rw[List.getD_eq_getElem?_getD,List.getElem?_eq_getElem h2]at hn;rw[List.all_eq_false];refine⟨s.data.toList[k],?_,by simpa using hn⟩;rw[List.take_of_length_le (by simp)];exact List.getElem_mem h2
mutual
def Tm.size:Tm→Nat
 | .mk _ xs=>1+Tm.sizes xs
def Tm.sizes:List Tm→Nat
 | []=>0
 | t::ts=>t.size+Tm.sizes ts
end
theorem Tm.sizes_append(xs ys:List Tm):Tm.sizes (xs++ys)=Tm.sizes xs+Tm.sizes ys:=by
 induction xs with
 | nil=>simp[Tm.sizes]
 | cons t ts ih=>simp only[List.cons_append,Tm.sizes,ih];omega
theorem Tm.sizes_take{xs:List Tm}{k:Nat}{a:Tm}(h:xs[k]?=some a):Tm.sizes (xs.take (k+1))=Tm.sizes (xs.take k)+a.size:=by
 rw[Ab h,Tm.sizes_append];simp[Tm.sizes]
theorem Tm.sizes_take_le(xs:List Tm)(k:Nat) :Tm.sizes (xs.take k)≤Tm.sizes xs:=by
 have:=Tm.sizes_append (xs.take k) (xs.drop k);rw[List.take_append_drop]at this;omega
theorem Tm.size_eq(t:Tm):t.size=1+Tm.sizes t.args:=by cases t;rfl
theorem Tm.size_pos(t:Tm):1≤t.size:=by rw[Tm.size_eq];omega
theorem Tm.size_mem{a:Tm}{xs:List Tm}(h:a∈xs):a.size≤Tm.sizes xs:=by
 induction xs with
 | nil=>simp at h
 | cons t ts ih =>
  rcases List.mem_cons.1 h with rfl|h
  ·simp only[Tm.sizes];omega
  ·have:=ih h;simp only[Tm.sizes];omega
theorem Tm.length_le(xs:List Tm):xs.length≤Tm.sizes xs:=by
 induction xs with
 | nil=>simp[Tm.sizes]
 | cons t ts ih=>have:=Tm.size_pos t;simp only[Tm.sizes,List.length_cons];omega
theorem Tm.lt_of_arg{a t:Tm}(h:a∈t.args):SizeOf.sizeOf a<SizeOf.sizeOf t:=by
 cases t;exact Tm.lt_of_mem h
def Cx(s:Nat)(m:Int):Int:=if m<s then -1 else m-s
def BB(s:Nat)(m:Int):Int:=if m<s then m+1 else s
mutual
def Tm.knots:Tm→List Tm
 | .mk n xs=>.mk n xs::Tm.knotsL xs
def Tm.knotsL:List Tm→List Tm
 | []=>[]
 | t::ts=>t.knots++Tm.knotsL ts
end
theorem Tm.knots_eq(t:Tm):t.knots=t::Tm.knotsL t.args:=by cases t;rfl
theorem Tm.knotsL_append(xs ys:List Tm):Tm.knotsL (xs++ys)=Tm.knotsL xs++Tm.knotsL ys:=by
 induction xs with
 | nil=>simp[Tm.knotsL]
 | cons t ts ih=>simp[Tm.knotsL,ih]
theorem Tm.knotsL_take{xs:List Tm}{k:Nat}{a:Tm}(h:xs[k]?=some a):Tm.knotsL (xs.take (k+1))=Tm.knotsL (xs.take k)++a.knots:=by
 rw[Ab h,Tm.knotsL_append];simp[Tm.knotsL]
mutual
theorem Tm.knots_length:∀t:Tm,t.knots.length=t.size
 | .mk n xs=>by simp only[Tm.knots,Tm.size,List.length_cons,Tm.knotsL_length xs];omega
theorem Tm.knotsL_length:∀xs:List Tm,(Tm.knotsL xs).length=Tm.sizes xs
 | []=>rfl
 | t::ts=>by simp only[Tm.knotsL,Tm.sizes,List.length_append,Tm.knots_length t,Tm.knotsL_length ts]
end
def B9(t:Tm):Int:=if BA t.name=true then(if AP t.name=true∧0<t.args.length then 2 else 0) else 1
mutual
def Tm.chk:Tm→Int
 | .mk n xs=>if B9 (.mk n xs)=0 then Tm.chkL xs else B9 (.mk n xs)
def Tm.chkL:List Tm→Int
 | []=>0
 | t::ts=>if t.chk=0 then Tm.chkL ts else t.chk
end
def B_:List Tm→Int
 | []=>0
 | t::ts=>if B9 t=0 then B_ ts else B9 t
theorem Tm.chk_eq(t:Tm):t.chk=if B9 t=0 then Tm.chkL t.args else B9 t:=by cases t;rfl
theorem EU(xs ys:List Tm):B_ (xs++ys)=if B_ xs=0 then B_ ys else B_ xs:=by
 induction xs with
 | nil=>simp[B_]
 | cons t ts ih =>
  simp only[List.cons_append,B_];by_cases h:B9 t=0
  ·simp only[h,if_true,ih]
  ·simp only[h,if_false]
mutual
theorem Tm.firstErr_knots:∀t:Tm,B_ t.knots=t.chk
 | .mk n xs=>by
  simp only[Tm.knots,B_,Tm.chk];split
  ·exact Tm.firstErr_knotsL xs
  ·rfl
theorem Tm.firstErr_knotsL:∀xs:List Tm,B_ (Tm.knotsL xs)=Tm.chkL xs
 | []=>rfl
 | t::ts=>by
  simp only[Tm.knotsL,EU,Tm.firstErr_knots t,Tm.firstErr_knotsL ts,Tm.chkL]
end
theorem Tm.chkL_append(xs ys:List Tm):Tm.chkL (xs++ys)=if Tm.chkL xs=0 then Tm.chkL ys else Tm.chkL xs:=by
 induction xs with
 | nil=>simp[Tm.chkL]
 | cons t ts ih =>
  simp only[List.cons_append,Tm.chkL];by_cases h:t.chk=0
  ·simp only[h,if_true,ih]
  ·simp only[h,if_false]
theorem Tm.chkL_get{xs:List Tm}{k:Nat}{a:Tm}(h:xs[k]?=some a)(h0:Tm.chkL (xs.take k)=0):(a.chk=0→Tm.chkL (xs.take (k+1))=0)∧(a.chk≠0→Tm.chkL xs=a.chk):=by
 constructor
 ·intro ha;rw[Ab h,Tm.chkL_append,if_pos h0];simp[Tm.chkL,ha]
 ·intro ha;rw[←List.take_append_drop k xs,Tm.chkL_append,if_pos h0];have hd:xs.drop k=a::xs.drop (k+1):=by
   have hk:=B8 h;rw[List.getElem?_eq_getElem hk]at h;rw[List.drop_eq_getElem_cons hk];simp at h;rw[h]
  rw[hd];simp[Tm.chkL,ha]
theorem Qu{xs:List Tm}{k:Nat}{a:Tm}(h:xs[k]?=some a)(h0:B_ (xs.take k)=0):(B9 a=0→B_ (xs.take (k+1))=0)∧(B9 a≠0→B_ xs=B9 a):=by
 constructor
 ·intro ha;rw[Ab h,EU,if_pos h0];simp[B_,ha]
 ·intro ha;rw[←List.take_append_drop k xs,EU,if_pos h0];have hd:xs.drop k=a::xs.drop (k+1):=by
   have hk:=B8 h;rw[List.getElem?_eq_getElem hk]at h;rw[List.drop_eq_getElem_cons hk];simp at h;rw[h]
  rw[hd];simp[B_,ha]
def Tm.may(t:Tm):Int:=if 200<t.size then 3 else t.chk
def Dt(x:ByteArray)(l:List ByteArray):Bool:=l.any fun y=>decide (y=x)
theorem C8{x:ByteArray}{l:List ByteArray}:Dt x l=true↔x∈l:=by simp[Dt]
theorem Hz{x:ByteArray}{l:List ByteArray}:Dt x l=false↔x∉l:=by rw[←Bool.not_eq_true,C8]
def BM(l:List ByteArray)(n:ByteArray):List ByteArray:=if AP n&&!Dt n l then l++[n] else l
def Aj(l:List ByteArray)(ks:List Tm):List ByteArray:=ks.foldl (fun l t=>BM l t.name) l
def Tm.varsOf(t:Tm):List ByteArray:=Aj [] t.knots
theorem SM(l:List ByteArray):Aj l []=l:=rfl
theorem QL(l:List ByteArray)(ks:List Tm)(t:Tm):Aj l (ks++[t])=BM (Aj l ks) t.name:=by simp[Aj]
theorem HS(l:List ByteArray)(ks ms:List Tm):Aj l (ks++ms)=Aj (Aj l ks) ms:=by simp[Aj]
theorem GW{l:List ByteArray}{n:ByteArray}(h:AP n=true)(h':Dt n l=false):BM l n=l++[n]:=by simp[BM,h,h']
theorem Fe{l:List ByteArray}{n:ByteArray}(h':Dt n l=true):BM l n=l:=by simp[BM,h']
theorem Kn{l:List ByteArray}{n:ByteArray}(h:AP n=false):BM l n=l:=by simp[BM,h]
theorem IZ(l:List ByteArray)(n:ByteArray):(BM l n).length≤l.length+1:=by unfold BM;split <;> simp
theorem Do:∀(ks:List Tm) (l:List ByteArray),(Aj l ks).length≤l.length+ks.length
 | [],l=>by simp[SM]
 | t::ts,l=>by
  have h1:=Do ts (BM l t.name);have h2:=IZ l t.name;have h3:Aj l (t::ts)=Aj (BM l t.name) ts:=rfl;rw[h3,List.length_cons];omega
mutual
def Tm.places:Tm→List (List Int)
 | .mk _ xs=>[]::Tm.placesFrom 0 xs
def Tm.placesFrom:Nat→List Tm→List (List Int)
 | _,[]=>[]
 | k,t::ts=>t.places.map (fun p=>(k:Int)::p)++Tm.placesFrom (k+1) ts
end
theorem Tm.places_eq(t:Tm):t.places=[]::Tm.placesFrom 0 t.args:=by cases t;rfl
theorem Tm.placesFrom_snoc(a:Tm):∀(k:Nat) (xs:List Tm),Tm.placesFrom k (xs++[a])=Tm.placesFrom k xs++a.places.map (fun p=>((k+xs.length:Nat):Int)::p)
 | k,[]=>by simp[Tm.placesFrom]
 | k,t::ts=>by
  rw[List.cons_append,Tm.placesFrom,Tm.placesFrom_snoc a (k+1) ts,Tm.placesFrom,List.length_cons,show k+1+ts.length=k+(ts.length+1) by omega,List.append_assoc]
def Tm.placesTo(t:Tm)(k:Nat):List (List Int):=[]::Tm.placesFrom 0 (t.args.take k)
theorem Tm.placesTo_succ{t:Tm}{k:Nat}{a:Tm}(h:t.args[k]?=some a):t.placesTo (k+1)=t.placesTo k++a.places.map (fun p=>(k:Int)::p):=by
 have hl:=B8 h;unfold Tm.placesTo;rw[Ab h,Tm.placesFrom_snoc,List.length_take,Nat.min_eq_left (by omega),Nat.zero_add,List.cons_append]
theorem Tm.placesTo_all{t:Tm}{k:Nat}(h:k=t.args.length):t.placesTo k=t.places:=by
 subst h;rw[Tm.places_eq,Tm.placesTo,List.take_length]
mutual
theorem Tm.places_length:∀t:Tm,t.places.length=t.size
 | .mk n xs=>by simp only[Tm.places,Tm.size,List.length_cons,Tm.placesFrom_length 0 xs];omega
theorem Tm.placesFrom_length:∀(k:Nat) (xs:List Tm),(Tm.placesFrom k xs).length=Tm.sizes xs
 | _,[]=>rfl
 | k,t::ts=>by simp only[Tm.placesFrom,Tm.sizes,List.length_append,List.length_map,Tm.places_length t,Tm.placesFrom_length (k+1) ts]
end
mutual
theorem Tm.places_deep:∀(t:Tm) (p:List Int),p∈t.places→p.length≤t.size
 | .mk n xs,p,h=>by
  simp only[Tm.places,List.mem_cons]at h;rcases h with rfl|h
  ·simp
  ·have:=Tm.placesFrom_deep 0 xs p h;simp only[Tm.size];omega
theorem Tm.placesFrom_deep:∀(k:Nat) (xs:List Tm) (p:List Int),p∈Tm.placesFrom k xs→p.length≤1+Tm.sizes xs
 | _,[],p,h=>by simp[Tm.placesFrom]at h
 | k,t::ts,p,h=>by
  simp only[Tm.placesFrom,List.mem_append,List.mem_map]at h;simp only[Tm.sizes];rcases h with⟨q,hq,rfl⟩|h
  ·have:=Tm.places_deep t q hq;simp only[List.length_cons];omega
  ·have:=Tm.placesFrom_deep (k+1) ts p h;omega
end
theorem Tm.placesTo_length(t:Tm)(k:Nat):(t.placesTo k).length=1+Tm.sizes (t.args.take k):=by
 rw[Tm.placesTo,List.length_cons,Tm.placesFrom_length];omega
theorem SJ{s z:Nat}{m:Int}(h:0≤Cx s m):Cx z (Cx s m)=Cx (s+z) m:=by
 unfold Cx at *;split at h
 ·omega
 ·rename_i h1;rw[if_neg h1];split <;> split <;> omega
theorem To{s z:Nat}{m:Int}(h:Cx s m<0)(hz:s≤z):Cx s m=Cx z m:=by
 unfold Cx at *;split at h
 ·rw[if_pos (by assumption),if_pos (by omega)]
 ·omega
theorem W1(s:Nat)(m:Int)(h:0≤m):-1≤Cx s m∧Cx s m≤m:=by unfold Cx;split <;> omega
theorem ML{s z:Nat}{m:Int}(h:(s:Int)≤m):(s:Int)+BB z (m-s)=BB (s+z) m:=by
 unfold BB;split <;> split <;> omega
theorem GO{s z:Nat}{m:Int}(h:m<BB s m)(hz:s≤z):BB z m=m+1:=by
 unfold BB at *;split at h <;> split <;> omega
theorem JE(s:Nat)(m:Int)(h:0≤m):0≤BB s m∧BB s m≤m+1:=by unfold BB;split <;> omega
theorem JI{s:Nat}{m:Int}(h:¬m<BB s m):BB s m=s∧(s:Int)≤m:=by
 unfold BB at *;split at h
 ·omega
 ·rename_i h2;rw[if_neg h2];omega

inductive SV where
 | int (k:IntKind) (n:Int)
 | str (s:ByteArray)
 | bool (b:Bool)
 | list (xs:List (List SV))
 | lit (v:Value)
 | err
 | clo (f:Nat) (css:List (List SV))
 | ref (cs:List SV)
inductive AC where
 | st (c:SV)
 | full (xs:List (List SV))
 | row (id n:Nat)
 | part (id k n:Nat)
 | rest (id o n:Nat)
 | ptr (id n k off:Nat)
 | eptr (cs:List SV)
 | mptr (id:Nat)
 | yld (id:Nat)
 | ubool
 | fn (f:Nat) (caps:List AC)
 | any
inductive AV where
 | one (c:AC)
 | agg (cs:List AC)
 | tup (vs:List AV)
 | any
inductive KK where
 | int (k:IntKind)
 | two (a b:Option IntKind)
inductive KV where
 | s (b:ByteArray)
 | i (n:Int)
 | p (x y:KV)
 deriving DecidableEq
def KV.sv1:Option IntKind→KV→Option SV
 | none,.s b=>some (.str b)
 | some k,.i n=>some (.int k n)
 | _,_=>none
def KV.of1:Option IntKind→SV→Option KV
 | none,.str b=>some (.s b)
 | some k,.int k' n=>if k'=k then some (.i n) else none
 | _,_=>none
def KV.sv:Option KK→KV→Option AV
 | none,.s b=>some (.one (.st (.str b)))
 | some (.int k),.i n=>some (.one (.st (.int k n)))
 | some (.two a b),.p x y=>match KV.sv1 a x,KV.sv1 b y with
  | some c,some d=>some (.agg [.st c,.st d])
  | _,_=>none
 | _,_=>none
def KV.of:Option KK→SV→Option KV
 | none,.str b=>some (.s b)
 | some (.int k),.int k' n=>if k'=k then some (.i n) else none
 | _,_=>none
def KV.of2:Option KK→SV→SV→Option KV
 | some (.two a b),x,y=>match KV.of1 a x,KV.of1 b y with
  | some c,some d=>some (.p c d)
  | _,_=>none
 | _,_,_=>none
inductive AJ where
 | box (e:TypeId) (cs:List AC)
 | crow (e:TypeId) (cs:List AC)
 | arow (e:TypeId) (w:Nat) (xs:List (List SV))
 | mrow (e:TypeId) (w:Nat) (xs:List (List SV))
 | map (kt:Option KK) (es:List (KV×AV))
 | memo (f:List SV→List SV→SV→Prop)
 | iter (x:AC) (n:Nat) (seen:List Nat)
 | loop (env:List AV) (r:Loop)
 | dead (n w:Nat)
def AJ.len:AJ→Nat
 | .box _ _=>1
 | .crow _ cs=>cs.length
 | .arow _ _ xs=>xs.length
 | .mrow _ _ xs=>xs.length
 | .map _ _=>1
 | .memo _=>1
 | .iter _ _ _=>1
 | .loop _ _=>1
 | .dead n _=>n
def AJ.wid:AJ→Nat
 | .box _ _=>0
 | .crow _ _=>1
 | .arow _ w _=>w
 | .mrow _ w _=>w
 | .map _ _=>0
 | .memo _=>0
 | .iter _ _ _=>0
 | .loop _ _=>0
 | .dead _ w=>w
abbrev AA:=Nat→Option AJ
structure Hnd where
 p:Option Addr
 cap:Nat
 g:Option Nat
abbrev A6:=Nat→Hnd
def noS:AA:=fun _=>none
def noH:A6:=fun _=>⟨none,0,none⟩
def inR(k:IntKind)(n:Int):Prop:=k.min≤n∧n≤k.max
inductive An{α β:Type}(R:α→β→Prop):List α→List β→Prop
 | nil:An R [] []
 | cons {a b l m}:R a b→An R l m→An R (a::l) (b::m)
section
variable {α β:Type} {R R':α→β→Prop}
theorem An.mono(h:∀a b,R a b→R' a b):∀{l m},An R l m→An R' l m
 | _,_,.nil=>.nil
 | _,_,.cons x y=>.cons (h _ _ x) (An.mono h y)
theorem An.len:∀{l m},An R l m→l.length=m.length
 | _,_,.nil=>rfl
 | _,_,.cons x y=>by simp[An.len y]
theorem An.get:∀{l m},An R l m→∀{j:Nat} {b:β},m[j]?=some b→∃a,l[j]?=some a∧R a b
 | _,_,.nil,j,b,h=>by simp at h
 | _,_,.cons x y,0,b,h=>by simp at h;subst h;exact⟨_,rfl,x⟩
 | _,_,.cons x y,j+1,b,h=>by simpa using An.get y (by simpa using h)
theorem An.get':∀{l m},An R l m→∀{j:Nat} {a:α},l[j]?=some a→∃b,m[j]?=some b∧R a b
 | _,_,.nil,j,b,h=>by simp at h
 | _,_,.cons x y,0,b,h=>by simp at h;subst h;exact⟨_,rfl,x⟩
 | _,_,.cons x y,j+1,b,h=>by simpa using An.get' y (by simpa using h)
theorem An.of_get:∀{l:List α} {m:List β},l.length=m.length→(∀(j:Nat) a b,l[j]?=some a→m[j]?=some b→R a b)→An R l m
 | [],[],_,_=>.nil
 | a::l,b::m,h,hr=>.cons (hr 0 a b rfl rfl) (An.of_get (by simpa using h) fun j a b ha hb=>hr (j+1) a b (by simpa using ha) (by simpa using hb))
theorem An.append:∀{l m l' m'},An R l m→An R l' m'→An R (l++l') (m++m')
 | _,_,_,_,.nil,h=>h
 | _,_,_,_,.cons x y,h=>.cons x (An.append y h)
theorem An.take:∀{l m},An R l m→∀k,An R (l.take k) (m.take k)
 | _,_,.nil,k=>by simpa using An.nil
 | _,_,.cons x y,0=>.nil
 | _,_,.cons x y,k+1=>.cons x (An.take y k)
theorem An.drop:∀{l m},An R l m→∀k,An R (l.drop k) (m.drop k)
 | _,_,.nil,k=>by simpa using An.nil
 | _,_,.cons x y,0=>.cons x y
 | _,_,.cons x y,k+1=>An.drop y k
theorem An.map_right{γ:Type}{f:γ→β}:∀{l:List α} {m:List γ},An (fun a c=>R a (f c)) l m→An R l (m.map f)
 | _,_,.nil=>.nil
 | _,_,.cons x y=>.cons x (An.map_right y)
end
def Cz(cs:List SV):Bool:=decide (2≤cs.length)&&cs.any fun c=>match c with
 | .int _ _=>false
 | _=>true
theorem Pv{cs:List SV}(h:Cz cs=true):2≤cs.length:=by
 unfold Cz at h;rw[Bool.and_eq_true,decide_eq_true_eq]at h;exact h.1
theorem Xa{cs ds:List SV}(hl:ds.length≤cs.length)(hs:∀x∈ds,x∈cs)(h:Cz ds=true):Cz cs=true:=by
 unfold Cz at h ⊢;rw[Bool.and_eq_true,decide_eq_true_eq,List.any_eq_true]at h;rw[Bool.and_eq_true,decide_eq_true_eq,List.any_eq_true];obtain⟨h1,x,h2,h3⟩:=h;exact⟨by omega,x,hs x h2,h3⟩
theorem I4{cs:List SV}{n:Nat}(h:Cz (cs.drop n)=true):Cz cs=true:=Xa (by simp) (fun _ hx=>List.mem_of_mem_drop hx) h
theorem Pz(s:ByteArray)(c:SV)(cs:List SV):Cz (.str s::c::cs)=true:=by simp[Cz]
inductive A8(σ:Sto):Value→SV→Prop
 | int {k n}:inR k n→A8 σ (.int k n) (.int k n)
 | str {s}:s.size≤maxLen→A8 σ (.string s) (.str s)
 | bool {b}:A8 σ (.bool b) (.bool b)
 | list {p len cap b o w xs} (c:Nat→Nat→Value):len=xs.length→len≤cap→cap≤maxLen→(p=none→cap=0)→(len≠0→p=some ⟨b,o,none⟩)→(∀x∈xs,x.length=w)→(Cq=true→2≤w→xs≠[]→σ ⟨b,0,some 1⟩=some .nilFunc) →
   (∀k x j a,xs[k]?=some x→x[j]?=some a→σ ⟨b,o+k*w+j,none⟩=some (c k j))→(∀k x j a,xs[k]?=some x→x[j]?=some a→A8 σ (c k j) a)→A8 σ (.slice p len cap) (.list xs)
 | lit {v}:v.oneCell'=true→A8 σ v (.lit v)
 | err {t x}:A8 σ (.iface t x) .err
 | clo {f vs css} (b o:Nat→Nat) (c:Nat→Nat→Value):vs.size=css.length→(∀k x,css[k]?=some x→vs[k]?=some (Value.pointer (some ⟨b k,o k,none⟩)))→(∀k x,css[k]?=some x→Cq=true→Cz x=true→σ ⟨b k,0,some 1⟩=some .nilFunc) →
   (∀k x j a,css[k]?=some x→x[j]?=some a→σ ⟨b k,o k+j,none⟩=some (c k j))→(∀k x j a,css[k]?=some x→x[j]?=some a→A8 σ (c k j) a)→A8 σ (.func (.func f) #[] vs) (.clo f css)
 | ref {b o cs} (c:Nat→Value):(∀j a,cs[j]?=some a→σ ⟨b,o+j,none⟩=some (c j))→(∀j a,cs[j]?=some a→A8 σ (c j) a)→(Cq=true→Cz cs=true→σ ⟨b,0,some 1⟩=some .nilFunc)→A8 σ (.pointer (some ⟨b,o,none⟩)) (.ref cs)
theorem A8.mono{σ σ':Sto}(h:∀p x,σ p=some x→σ' p=some x){v:Value}{c:SV}(hr:A8 σ v c):A8 σ' v c:=by
 induction hr with
 | int h=>exact .int h
 | str h=>exact .str h
 | bool=>exact .bool
 | list c h1 h2 h3 h4 h5 h6 hh h7 h8 ih=>exact .list c h1 h2 h3 h4 h5 h6 (fun q1 q2 q3=>h _ _ (hh q1 q2 q3)) (fun k x j a hx ha=>h _ _ (h7 k x j a hx ha)) ih
 | lit h=>exact .lit h
 | err=>exact .err
 | clo b o c h1 h2 h3 h4 h5 ih=>exact .clo b o c h1 h2 (fun k x hx q1 q2=>h _ _ (h3 k x hx q1 q2)) (fun k x j a hx ha=>h _ _ (h4 k x j a hx ha)) ih
 | ref c h1 h2 h3 ih=>exact .ref c (fun j a ha=>h _ _ (h1 j a ha)) ih fun q1 q2=>h _ _ (h3 q1 q2)
theorem A8.one{σ:Sto}{v:Value}{c:SV}(hr:A8 σ v c):v.oneCell'=true:=by
 cases hr <;> first|assumption|rfl
theorem Gc{v:Value}(h:v.oneCell'=true):v.cells=#[v]:=by
 cases v <;> first|rfl|simp[Value.oneCell']at h
inductive At(σ:Sto)(S:AA)(ι:A6):Value→AC→Prop
 | st {v c}:A8 σ v c→At σ S ι v (.st c)
 | full {p len xs}:A8 σ (.slice p len len) (.list xs)→At σ S ι (.slice p len len) (.full xs)
 | row {v id n b}:S id=some b→n≤b.len→v.oneCell'=true→(n=b.len→v=.slice (ι id).p n (ι id).cap)→At σ S ι v (.row id n)
 | part {v id k n b}:S id=some b→n≤b.len→v.oneCell'=true→(n=b.len→k≤n∧v=.slice (ι id).p k (ι id).cap)→At σ S ι v (.part id k n)
 | rest {v id o n b}:S id=some b→n≤b.len→v.oneCell'=true→(n=b.len→o≤n∧v=.slice (if(ι id).cap=o then(ι id).p else(ι id).p.map (·.add (o*b.wid))) (n-o) ((ι id).cap-o))→At σ S ι v (.rest id o n)
 | ptr {v id n k off b}:S id=some b→n≤b.len→v.oneCell'=true→(n=b.len→∃g,(ι id).g=some g∧v=.pointer (some ⟨g,k*b.wid+off,none⟩))→At σ S ι v (.ptr id n k off)
 | mptr {v id b}:S id=some b→1≤b.len→v.oneCell'=true→(1=b.len→∃g,(ι id).g=some g∧v=.map (some g))→At σ S ι v (.mptr id)
 | yld {v id b}:S id=some b→1≤b.len→v.oneCell'=true→(1=b.len→∃g,(ι id).g=some g∧v=.func (.yield g) #[] #[])→At σ S ι v (.yld id)
 | ubool {b}:At σ S ι (.bool b) .ubool
 | eptr {b o cs} (c:Nat→Value):(∀j a,cs[j]?=some a→σ ⟨b,o+j,none⟩=some (c j))→(∀j a,cs[j]?=some a→A8 σ (c j) a)→(Cq=true→Cz cs=true→σ ⟨b,0,some 1⟩=some .nilFunc)→At σ S ι (.pointer (some ⟨b,o,none⟩)) (.eptr cs)
 | fn {f vs caps} (c:Nat→Value):vs.size=caps.length→(∀j a,caps[j]?=some a→vs[j]?=some (c j))→(∀j a,caps[j]?=some a→At σ S ι (c j) a)→At σ S ι (.func (.func f) #[] vs) (.fn f caps)
 | any {v}:v.oneCell'=true→At σ S ι v .any
theorem Yl{σ:Sto}{S:AA}{ι:A6}{v:Value}{f:Nat}{css:List (List SV)}(h:At σ S ι v (.fn f (css.map .eptr))):A8 σ v (.clo f css):=by
 cases h with
 | fn c h1 h2 h3 =>
  have key:∀k:Nat,∃q:Nat×Nat×(Nat→Value),∀x,css[k]?=some x→c k=.pointer (some ⟨q.1,q.2.1,none⟩)∧(∀j a,x[j]?=some a→σ ⟨q.1,q.2.1+j,none⟩=some (q.2.2 j))∧(∀j a,x[j]?=some a→A8 σ (q.2.2 j) a)∧(Cq=true→Cz x=true→σ ⟨q.1,0,some 1⟩=some .nilFunc):=fun k=>by
   cases hk:css[k]? with
   | none=>exact⟨(0,0,fun _=>.bool true),fun x hx=>by cases hx⟩
   | some x =>
    have h4:=h3 k (.eptr x) (by simp[hk]);generalize hv:c k=u at h4;cases h4 with
    | eptr d g1 g2 g3=>exact⟨(_,_,d),fun x' hx=>by cases hx;exact⟨rfl,g1,g2,g3⟩⟩
  obtain⟨q,hq⟩:=Classical.axiomOfChoice key;refine .clo (fun k=>(q k).1) (fun k=>(q k).2.1) (fun k=>(q k).2.2) (by simpa using h1) (fun k x hx=>?_) (fun k x hx=>(hq k x hx).2.2.2) (fun k x j a hx ha=>(hq k x hx).2.1 j a ha) (fun k x j a hx ha=>(hq k x hx).2.2.1 j a ha);have h4:=h2 k (.eptr x) (by simp[hx]);rw[h4,(hq k x hx).1]
theorem Xt{σ:Sto}{v:Value}{f:Nat}{css:List (List SV)}(h:A8 σ v (.clo f css)):∃vs,v=.func (.func f) #[] vs∧∀S ι,An (At σ S ι) vs.toList (css.map .eptr):=by
 cases h with
 | @clo _ vs _ b o c h1 h2 h3 h4 h5 =>
  refine⟨_,rfl,fun S ι=>An.of_get (by simpa using h1) fun j v a hv ha=>?_⟩;rw[List.getElem?_map,Option.map_eq_some_iff]at ha;obtain⟨x,hx,rfl⟩:=ha;have e:=h2 j x hx;rw[Array.getElem?_toList,e]at hv;cases hv;exact .eptr (c j) (fun k a ha=>h4 j x k a hx ha) (fun k a ha=>h5 j x k a hx ha) (h3 j x hx)
def Upd(S:AA)(ι:A6)(S':AA)(ι':A6):Prop:=∀id b,S id=some b→∃b',S' id=some b'∧b.len≤b'.len∧(b'.len=b.len→b'.wid=b.wid∧ι' id=ι id)
theorem Upd.trans{S1 S2 S3:AA}{ι1 ι2 ι3:A6}(h:Upd S1 ι1 S2 ι2)(k:Upd S2 ι2 S3 ι3):Upd S1 ι1 S3 ι3:=fun id b hb=>by
 obtain⟨b2,h1,h2,h3⟩:=h id b hb;obtain⟨b3,k1,k2,k3⟩:=k id b2 h1;refine⟨b3,k1,by omega,fun he=>?_⟩;obtain⟨q1,q2⟩:=h3 (by omega);obtain⟨p1,p2⟩:=k3 (by omega);exact⟨p1.trans q1,p2.trans q2⟩
theorem Upd.refl(S:AA)(ι:A6):Upd S ι S ι:=fun id b h=>⟨b,h,Nat.le_refl _,fun _=>⟨rfl,rfl⟩⟩
theorem At.mono{σ σ':Sto}{S S':AA}{ι ι':A6}(h:∀p x,σ p=some x→σ' p=some x)(hu:Upd S ι S' ι'){v:Value}{c:AC}(hr:At σ S ι v c):At σ' S' ι' v c:=by
 induction hr with
 | st h1=>exact .st (h1.mono h)
 | full h1=>exact .full (h1.mono h)
 | row h1 h2 h3 h4 =>
  obtain⟨b',k1,k2,k3⟩:=hu _ _ h1;refine .row k1 (by omega) h3 (fun hn=>?_);rw[(k3 (by omega)).2];exact h4 (by omega)
 | part h1 h2 h3 h4 =>
  obtain⟨b',k1,k2,k3⟩:=hu _ _ h1;refine .part k1 (by omega) h3 (fun hn=>?_);rw[(k3 (by omega)).2];exact h4 (by omega)
 | rest h1 h2 h3 h4 =>
  obtain⟨b',k1,k2,k3⟩:=hu _ _ h1;refine .rest k1 (by omega) h3 (fun hn=>?_);obtain⟨e1,e2⟩:=k3 (by omega);rw[e1,e2];exact h4 (by omega)
 | ptr h1 h2 h3 h4 =>
  obtain⟨b',k1,k2,k3⟩:=hu _ _ h1;refine .ptr k1 (by omega) h3 (fun hn=>?_);obtain⟨g,g1,g2⟩:=h4 (by omega);obtain⟨e1,e2⟩:=k3 (by omega);exact⟨g,by rw[e2];exact g1,by rw[e1];exact g2⟩
 | mptr h1 h2 h3 h4 =>
  obtain⟨b',k1,k2,k3⟩:=hu _ _ h1;refine .mptr k1 (by omega) h3 (fun hn=>?_);obtain⟨g,g1,g2⟩:=h4 (by omega);obtain⟨e1,e2⟩:=k3 (by omega);exact⟨g,by rw[e2];exact g1,g2⟩
 | yld h1 h2 h3 h4 =>
  obtain⟨b',k1,k2,k3⟩:=hu _ _ h1;refine .yld k1 (by omega) h3 (fun hn=>?_);obtain⟨g,g1,g2⟩:=h4 (by omega);obtain⟨e1,e2⟩:=k3 (by omega);exact⟨g,by rw[e2];exact g1,g2⟩
 | ubool=>exact .ubool
 | eptr c h1 h2 hh=>exact .eptr c (fun j a ha=>h _ _ (h1 j a ha)) (fun j a ha=>(h2 j a ha).mono h) fun q1 q2=>h _ _ (hh q1 q2)
 | fn c h1 h2 h3 ih=>exact .fn c h1 h2 ih
 | any h1=>exact .any h1
theorem At.one{σ:Sto}{S:AA}{ι:A6}{v:Value}{c:AC}(hr:At σ S ι v c):v.oneCell'=true:=by
 cases hr with
 | st h=>exact h.one
 | full h=>exact h.one
 | row _ _ h _=>exact h
 | part _ _ h _=>exact h
 | rest _ _ h _=>exact h
 | ptr _ _ h _=>exact h
 | mptr _ _ h _=>exact h
 | yld _ _ h _=>exact h
 | ubool=>rfl
 | eptr=>rfl
 | fn=>rfl
 | any h=>exact h
inductive Ae(σ:Sto)(S:AA)(ι:A6):Value→AV→Prop
 | one {v c}:At σ S ι v c→Ae σ S ι v (.one c)
 | agg {vs cs}:An (At σ S ι) vs.toList cs→Ae σ S ι (.agg vs) (.agg cs)
 | tup {vs ps} (c:Nat→Value):vs.size=ps.length→(∀j a,ps[j]?=some a→vs[j]?=some (c j))→(∀j a,ps[j]?=some a→Ae σ S ι (c j) a)→Ae σ S ι (.tuple vs) (.tup ps)
 | any {v}:Ae σ S ι v .any
theorem Ae.mono{σ σ':Sto}{S S':AA}{ι ι':A6}(h:∀p x,σ p=some x→σ' p=some x)(hu:Upd S ι S' ι'){v:Value}{c:AV}(hr:Ae σ S ι v c):Ae σ' S' ι' v c:=by
 induction hr with
 | one h1=>exact .one (h1.mono h hu)
 | agg h1=>exact .agg (h1.mono fun _ _ x=>x.mono h hu)
 | tup c h1 h2 h3 ih=>exact .tup c h1 h2 ih
 | any=>exact .any
def AV.cells:AV→Option (List AC)
 | .one c=>some [c]
 | .agg cs=>some cs
 | _=>none
theorem Ae.cells{σ:Sto}{S:AA}{ι:A6}{v:Value}{a:AV}{cs:List AC}(h:Ae σ S ι v a)(hc:a.cells=some cs):An (At σ S ι) v.cells.toList cs:=by
 cases h with
 | one h1 =>
  simp only[AV.cells,Option.some.injEq]at hc;subst hc;rw[Gc h1.one];exact .cons h1 .nil
 | agg h1 =>
  simp only[AV.cells,Option.some.injEq]at hc;subst hc;exact h1
 | tup=>simp[AV.cells]at hc
 | any=>simp[AV.cells]at hc
structure EW(σ:Sto)(kt:Option KK)(ents:List MapEntry)(es:List (KV×AV)):Prop where
 all:An (fun e x=>(∃c,x.1.sv kt=some c∧Ae σ noS noH e.key c)∧Ae σ noS noH e.val x.2) ents es
 born:ents.map (·.born)=List.range ents.length
theorem EW.mono{σ σ':Sto}{kt:Option KK}{ents:List MapEntry}{es:List (KV×AV)}(h:EW σ kt ents es)(hs:∀p x,σ p=some x→σ' p=some x):EW σ' kt ents es :=
 ⟨h.all.mono fun _ _ x=>⟨x.1.elim fun c y=>⟨c,y.1,y.2.mono hs (Upd.refl _ _)⟩,x.2.mono hs (Upd.refl _ _)⟩,h.born⟩
def DO(σ:Sto)(f:List SV→List SV→SV→Prop)(ents:List MapEntry):Prop :=
 ∀e∈ents,∃v1 v2 cs ds x,e.key=.agg #[v1,v2]∧At σ noS noH v1 (.eptr cs)∧At σ noS noH v2 (.eptr ds)∧Cz cs=true∧Cz ds=true∧A8 σ e.val x∧f cs ds x
theorem DO.mono{σ σ':Sto}{f:List SV→List SV→SV→Prop}{ents:List MapEntry}(h:DO σ f ents)(hs:∀p x,σ p=some x→σ' p=some x):DO σ' f ents:=fun e he=>by
 obtain⟨v1,v2,cs,ds,x,h1,h2,h3,h4,h5,h6,h7⟩:=h e he;exact⟨v1,v2,cs,ds,x,h1,h2.mono hs (Upd.refl _ _),h3.mono hs (Upd.refl _ _),h4,h5,h6.mono hs,h7⟩
def Zr:Obj→Bool
 | .deferred _=>false
 | _=>true
inductive CA(σ:Sto)(S:AA)(ι:A6)(w:World)(h:Hnd):AJ→Prop
 | box {e cs g vs}:h.g=some g→h.p=some ⟨g,0,none⟩→w.heap[g]?=some (.cells vs e (0,0))→An (At σ S ι) vs.toList cs→(∀p:Addr,p.block=g→σ p=none)→CA σ S ι w h (.box e cs)
 | crow {e cs g vs}:h.g=some g→h.p=some ⟨g,0,none⟩→w.heap[g]?=some (.cells vs e (0,0))→cs.length≤h.cap∧cs.length≤vs.size→h.cap≤maxLen→An (At σ S ι) (vs.toList.take cs.length) cs→(∀p:Addr,p.block=g→σ p=none)→CA σ S ι w h (.crow e cs)
 | afull {e wd xs}:h.g=none→h.cap=xs.length→(∀x∈xs,x.length=wd)→A8 σ (.slice h.p xs.length h.cap) (.list xs)→CA σ S ι w h (.arow e wd xs)
 | arow {e wd xs g vs q}:h.g=some g→h.p=some ⟨g,q,none⟩→w.heap[g]?=some (.cells vs e (0,0))→xs.length≤h.cap→h.cap≤maxLen→vs.size=q+h.cap*wd→(∀x∈xs,x.length=wd) →
   (∀k x j a,xs[k]?=some x→x[j]?=some a→∃v,vs[q+(k*wd+j)]?=some v∧A8 σ v a∧σ ⟨g,q+(k*wd+j),none⟩=some v)→(∀p:Addr,p.block=g→σ p≠none→p.off<q+xs.length*wd)→(Cq=true→2≤wd→xs≠[]→σ ⟨g,0,some 1⟩=some .nilFunc)→CA σ S ι w h (.arow e wd xs)
 | mnil {e wd}:h.g=none→h.cap=0→CA σ S ι w h (.mrow e wd [])
 | mrow {e wd xs g vs}:h.g=some g→h.p=some ⟨g,0,none⟩→w.heap[g]?=some (.cells vs e (0,0))→xs.length≤h.cap→h.cap≤maxLen→vs.size=h.cap*wd→(∀x∈xs,x.length=wd) →
   (∀k x j a,xs[k]?=some x→x[j]?=some a→∃v,vs[k*wd+j]?=some v∧A8 σ v a)→(∀p:Addr,p.block=g→σ p=none)→CA σ S ι w h (.mrow e wd xs)
 | map {kt es g ents}:h.g=some g→w.heap[g]?=some (.map ents ents.size)→EW σ kt ents.toList es→(∀p:Addr,p.block=g→σ p=none)→CA σ S ι w h (.map kt es)
 | memo {f g ents}:h.g=some g→w.heap[g]?=some (.map ents ents.size)→DO σ f ents.toList→(∀p:Addr,p.block=g→σ p=none)→CA σ S ι w h (.memo f)
 | iter {x n seen g m}:h.g=some g→w.heap[g]?=some (.mapIter (some m) n seen.toArray n)→At σ S ι (.map (some m)) x→(∀p:Addr,p.block=g→σ p=none)→CA σ S ι w h (.iter x n seen)
 | loop {env r g}:h.g=some g→w.heap[g]?=some (.loop r)→env.length≤r.tmps.size→(∀(j:Nat) a,env[j]?=some a→Ae σ S ι (r.tmps.getD j undef) a)→(∀p:Addr,p.block=g→σ p=none)→CA σ S ι w h (.loop env r)
 | dead {n wd}:(∀g,h.g=some g→∃o,w.heap[g]?=some o∧Zr o=true)→CA σ S ι w h (.dead n wd)
theorem CA.gsome{σ:Sto}{S:AA}{ι:A6}{w:World}{h:Hnd}{b:AJ}(hr:CA σ S ι w h b){g:Nat}(hg:h.g=some g):g<w.heap.size:=by
 cases hr with
 | box h1 h2 h3=>rw[h1]at hg;cases hg;exact(Array.getElem?_eq_some_iff.1 h3).1
 | crow h1 h2 h3=>rw[h1]at hg;cases hg;exact(Array.getElem?_eq_some_iff.1 h3).1
 | afull h1=>rw[h1]at hg;cases hg
 | arow h1 h2 h3=>rw[h1]at hg;cases hg;exact(Array.getElem?_eq_some_iff.1 h3).1
 | mnil h1=>rw[h1]at hg;cases hg
 | mrow h1 h2 h3=>rw[h1]at hg;cases hg;exact(Array.getElem?_eq_some_iff.1 h3).1
 | map h1 h2=>rw[h1]at hg;cases hg;exact(Array.getElem?_eq_some_iff.1 h2).1
 | memo h1 h2=>rw[h1]at hg;cases hg;exact(Array.getElem?_eq_some_iff.1 h2).1
 | iter h1 h2=>rw[h1]at hg;cases hg;exact(Array.getElem?_eq_some_iff.1 h2).1
 | loop h1 h2=>rw[h1]at hg;cases hg;exact(Array.getElem?_eq_some_iff.1 h2).1
 | dead h1=>obtain⟨o,h2,_⟩:=h1 _ hg;exact(Array.getElem?_eq_some_iff.1 h2).1
theorem CA.own{σ:Sto}{S:AA}{ι:A6}{w:World}{h:Hnd}{b:AJ}(hr:CA σ S ι w h b){g:Nat}(hg:h.g=some g):∃o,w.heap[g]?=some o∧Zr o=true:=by
 cases hr with
 | box h1 h2 h3=>rw[h1]at hg;cases hg;exact⟨_,h3,rfl⟩
 | crow h1 h2 h3=>rw[h1]at hg;cases hg;exact⟨_,h3,rfl⟩
 | afull h1=>rw[h1]at hg;cases hg
 | arow h1 h2 h3=>rw[h1]at hg;cases hg;exact⟨_,h3,rfl⟩
 | mnil h1=>rw[h1]at hg;cases hg
 | mrow h1 h2 h3=>rw[h1]at hg;cases hg;exact⟨_,h3,rfl⟩
 | map h1 h2=>rw[h1]at hg;cases hg;exact⟨_,h2,rfl⟩
 | memo h1 h2=>rw[h1]at hg;cases hg;exact⟨_,h2,rfl⟩
 | iter h1 h2=>rw[h1]at hg;cases hg;exact⟨_,h2,rfl⟩
 | loop h1 h2=>rw[h1]at hg;cases hg;exact⟨_,h2,rfl⟩
 | dead h1=>exact h1 _ hg
theorem CA.mono{σ σ':Sto}{S S':AA}{ι ι':A6}{w w':World}{h:Hnd}{b:AJ}(hr:CA σ S ι w h b)(hs:∀p x,σ p=some x→σ' p=some x)(hu:Upd S ι S' ι')
  (hw:∀g,h.g=some g→w'.heap[g]?=w.heap[g]?) (hn:∀g,h.g=some g→∀p:Addr,p.block=g→σ' p=σ p):CA σ' S' ι' w' h b:=by
 cases hr with
 | box h1 h2 h3 h4 h5=>exact .box h1 h2 ((hw _ h1).trans h3) (h4.mono fun _ _ x=>x.mono hs hu) fun p hp=>(hn _ h1 p hp).trans (h5 p hp)
 | crow h1 h2 h3 hc hm h4 h5=>exact .crow h1 h2 ((hw _ h1).trans h3) hc hm (h4.mono fun _ _ x=>x.mono hs hu) fun p hp=>(hn _ h1 p hp).trans (h5 p hp)
 | afull h1 h2 h3 h4=>exact .afull h1 h2 h3 (h4.mono hs)
 | arow h1 h2 h3 h4 h5 h6 h7 h8 h9 hh =>
  refine .arow h1 h2 ((hw _ h1).trans h3) h4 h5 h6 h7 (fun k x j a hx ha=>?_) (fun p hp hne=>h9 p hp (by rw[←hn _ h1 p hp];exact hne)) fun q1 q2 q3=>hs _ _ (hh q1 q2 q3);obtain⟨v,v1,v2,v3⟩:=h8 k x j a hx ha;exact⟨v,v1,v2.mono hs,hs _ _ v3⟩
 | mnil h1 h2=>exact .mnil h1 h2
 | mrow h1 h2 h3 h4 h5 h6 h7 h8 h9 =>
  refine .mrow h1 h2 ((hw _ h1).trans h3) h4 h5 h6 h7 (fun k x j a hx ha=>?_) fun p hp=>(hn _ h1 p hp).trans (h9 p hp);obtain⟨v,v1,v2⟩:=h8 k x j a hx ha;exact⟨v,v1,v2.mono hs⟩
 | map h1 h2 h3 h4=>exact .map h1 ((hw _ h1).trans h2) (h3.mono hs) fun p hp=>(hn _ h1 p hp).trans (h4 p hp)
 | memo h1 h2 h3 h4=>exact .memo h1 ((hw _ h1).trans h2) (h3.mono hs) fun p hp=>(hn _ h1 p hp).trans (h4 p hp)
 | iter h1 h2 h3 h4=>exact .iter h1 ((hw _ h1).trans h2) (h3.mono hs hu) fun p hp=>(hn _ h1 p hp).trans (h4 p hp)
 | loop h1 h2 h3 h4 h5=>exact .loop h1 ((hw _ h1).trans h2) h3 (fun j a ha=>(h4 j a ha).mono hs hu) fun p hp=>(hn _ h1 p hp).trans (h5 p hp)
 | dead h1=>exact .dead fun g hg=>by obtain⟨o,h2,h3⟩:=h1 g hg;exact⟨o,(hw g hg).trans h2,h3⟩
theorem CA.srep{σ:Sto}{S:AA}{ι:A6}{w:World}{h:Hnd}{e:TypeId}{wd:Nat}{xs:List (List SV)}(hr:CA σ S ι w h (.arow e wd xs)):A8 σ (.slice h.p xs.length h.cap) (.list xs):=by
 cases hr with
 | afull h1 h2 h3 h4=>exact h4
 | @arow _ _ _ g vs q h1 h2 h3 h4 h5 h6 h7 h8 h9 hh =>
  refine .list (b:=g) (o:=q) (w:=wd) (fun k j=>(σ ⟨g,q+(k*wd+j),none⟩).getD undef) rfl h4 h5 (by simp[h2]) (fun _=>h2) h7 hh (fun k x j a hx ha=>?_) (fun k x j a hx ha=>?_)
  ·obtain⟨v,v1,v2,v3⟩:=h8 k x j a hx ha;simp[v3,Nat.add_assoc]
  ·obtain⟨v,v1,v2,v3⟩:=h8 k x j a hx ha;simpa[v3]using v2
mutual
def AC.ren(ρ:Nat→Nat):AC→AC
 | .st c=>.st c
 | .full xs=>.full xs
 | .row id n=>.row (ρ id) n
 | .part id k n=>.part (ρ id) k n
 | .rest id k n=>.rest (ρ id) k n
 | .ptr id n k off=>.ptr (ρ id) n k off
 | .mptr id=>.mptr (ρ id)
 | .yld id=>.yld (ρ id)
 | .ubool=>.ubool
 | .eptr cs=>.eptr cs
 | .fn f caps=>.fn f (AC.rens ρ caps)
 | .any=>.any
def AC.rens(ρ:Nat→Nat):List AC→List AC
 | []=>[]
 | c::cs=>c.ren ρ::AC.rens ρ cs
end
mutual
def AV.ren(ρ:Nat→Nat):AV→AV
 | .one c=>.one (c.ren ρ)
 | .agg cs=>.agg (AC.rens ρ cs)
 | .tup vs=>.tup (AV.rens ρ vs)
 | .any=>.any
def AV.rens(ρ:Nat→Nat):List AV→List AV
 | []=>[]
 | c::cs=>c.ren ρ::AV.rens ρ cs
end
def AJ.ren(ρ:Nat→Nat):AJ→AJ
 | .box e cs=>.box e (AC.rens ρ cs)
 | .crow e cs=>.crow e (AC.rens ρ cs)
 | .iter x n seen=>.iter (x.ren ρ) n seen
 | .loop env r=>.loop (AV.rens ρ env) r
 | b=>b
theorem AC.rens_eq(ρ:Nat→Nat):∀cs:List AC,AC.rens ρ cs=cs.map (AC.ren ρ)
 | []=>rfl
 | c::cs=>by rw[AC.rens,AC.rens_eq ρ cs];rfl
theorem AV.rens_eq(ρ:Nat→Nat):∀cs:List AV,AV.rens ρ cs=cs.map (AV.ren ρ)
 | []=>rfl
 | c::cs=>by rw[AV.rens,AV.rens_eq ρ cs];rfl
theorem CL(ρ:Nat→Nat)(b:AJ):(b.ren ρ).len=b.len:=by cases b <;> first|rfl|simp[AJ.ren,AJ.len,AC.rens_eq]
theorem MA(ρ:Nat→Nat)(b:AJ):(b.ren ρ).wid=b.wid:=by cases b <;> rfl
section
variable {σ:Sto} {S S2:AA} {ι ι2:A6} {ρ:Nat→Nat}
theorem At.ren(hS:∀i b,S i=some b→S2 (ρ i)=some (b.ren ρ))(hι:∀i b,S i=some b→ι2 (ρ i)=ι i){v:Value}{c:AC}(h:At σ S ι v c):At σ S2 ι2 v (c.ren ρ):=by
 induction h with
 | st h=>exact .st h
 | full h=>exact .full h
 | row h1 h2 h3 h4=>exact .row (hS _ _ h1) (by rw[CL];exact h2) h3 (fun hn=>by rw[hι _ _ h1];exact h4 (by rw[CL]at hn;exact hn))
 | part h1 h2 h3 h4=>exact .part (hS _ _ h1) (by rw[CL];exact h2) h3 (fun hn=>by rw[hι _ _ h1];exact h4 (by rw[CL]at hn;exact hn))
 | rest h1 h2 h3 h4=>exact .rest (hS _ _ h1) (by rw[CL];exact h2) h3 (fun hn=>by rw[hι _ _ h1,MA];exact h4 (by rw[CL]at hn;exact hn))
 | ptr h1 h2 h3 h4=>exact .ptr (hS _ _ h1) (by rw[CL];exact h2) h3 (fun hn=>by rw[hι _ _ h1,MA];exact h4 (by rw[CL]at hn;exact hn))
 | ubool=>exact .ubool
 | mptr h1 h2 h3 h4=>exact .mptr (hS _ _ h1) (by rw[CL];exact h2) h3 (fun hn=>by rw[hι _ _ h1];exact h4 (by rw[CL]at hn;exact hn))
 | yld h1 h2 h3 h4=>exact .yld (hS _ _ h1) (by rw[CL];exact h2) h3 (fun hn=>by rw[hι _ _ h1];exact h4 (by rw[CL]at hn;exact hn))
 | eptr c h1 h2 hh=>exact .eptr c h1 h2 hh
 | @fn f vs caps c h1 h2 h3 ih =>
  have key:∀(j:Nat) (b:AC),(AC.rens ρ caps)[j]?=some b→∃a,caps[j]?=some a∧b=a.ren ρ:=fun j b hb=>by
   rw[AC.rens_eq,List.getElem?_map,Option.map_eq_some_iff]at hb;obtain⟨a,ha,rfl⟩:=hb;exact⟨a,ha,rfl⟩
  refine .fn c (by rw[AC.rens_eq];simpa using h1) (fun j b hb=>?_) (fun j b hb=>?_)
  ·obtain⟨a,ha,rfl⟩:=key j b hb;exact h2 j a ha
  ·obtain⟨a,ha,rfl⟩:=key j b hb;exact ih j a ha
 | any h=>exact .any h
mutual
theorem Ae.ren(hS:∀i b,S i=some b→S2 (ρ i)=some (b.ren ρ))(hι:∀i b,S i=some b→ι2 (ρ i)=ι i):∀{v:Value} {c:AV},Ae σ S ι v c→Ae σ S2 ι2 v (c.ren ρ)
 | v,.one c,h=>by cases h with|one h=>exact .one (h.ren hS hι)
 | v,.agg cs,h=>by
  cases h with
  | agg h =>
   show Ae σ S2 ι2 _ (.agg (AC.rens ρ cs))
   rw[AC.rens_eq];exact .agg ((h.mono fun _ _ x=>x.ren hS hι).map_right)
 | v,.tup vs,h=>by
  cases h with
  | tup c h1 h2 h3 =>
   obtain⟨k1,k2⟩:=Ae.rens hS hι (c:=c) h3;exact .tup c (by rw[h1,k1]) (fun j b hb=>by
    rcases Nat.lt_or_ge j vs.length with hj|hj
    ·exact h2 j _ (List.getElem?_eq_getElem hj)
    ·rw[List.getElem?_eq_none (by omega)]at hb;cases hb) k2
 | v,.any,h=>.any
theorem Ae.rens(hS:∀i b,S i=some b→S2 (ρ i)=some (b.ren ρ))(hι:∀i b,S i=some b→ι2 (ρ i)=ι i):∀{vs:List AV} {c:Nat→Value},(∀j b,vs[j]?=some b→Ae σ S ι (c j) b)→vs.length=(AV.rens ρ vs).length∧∀j b,(AV.rens ρ vs)[j]?=some b→Ae σ S2 ι2 (c j) b
 | [],c,h=>by simp[AV.rens]
 | x::xs,c,h=>by
  obtain⟨m1,m2⟩:=Ae.rens hS hι (vs:=xs) (c:=fun j=>c (j+1)) (fun j b hb=>h (j+1) b (by simpa using hb));refine⟨by simp[AV.rens,←m1],fun j b hb=>?_⟩;cases j with
  | zero =>
   simp[AV.rens]at hb;subst hb;exact Ae.ren hS hι (h 0 x rfl)
  | succ j=>exact m2 j b (by simpa[AV.rens]using hb)
end
theorem CA.ren(hS:∀i b,S i=some b→S2 (ρ i)=some (b.ren ρ))(hι:∀i b,S i=some b→ι2 (ρ i)=ι i){w:World}{h:Hnd}{b:AJ}(hr:CA σ S ι w h b):CA σ S2 ι2 w h (b.ren ρ):=by
 cases hr with
 | box h1 h2 h3 h4 h5 =>
  refine .box h1 h2 h3 ?_ h5;rw[AC.rens_eq];exact(h4.mono fun _ _ x=>x.ren hS hι).map_right
 | crow h1 h2 h3 hc hm h4 h5 =>
  refine .crow h1 h2 h3 (by rw[AC.rens_eq];simpa using hc) hm ?_ h5;rw[AC.rens_eq,List.length_map];exact(h4.mono fun _ _ x=>x.ren hS hι).map_right
 | afull h1 h2 h3 h4=>exact .afull h1 h2 h3 h4
 | arow h1 h2 h3 h4 h5 h6 h7 h8 h9 hh=>exact .arow h1 h2 h3 h4 h5 h6 h7 h8 h9 hh
 | mnil h1 h2=>exact .mnil h1 h2
 | mrow h1 h2 h3 h4 h5 h6 h7 h8 h9=>exact .mrow h1 h2 h3 h4 h5 h6 h7 h8 h9
 | map h1 h2 h3 h4=>exact .map h1 h2 h3 h4
 | memo h1 h2 h3 h4=>exact .memo h1 h2 h3 h4
 | iter h1 h2 h3 h4=>exact .iter h1 h2 (h3.ren hS hι) h4
 | @loop env r g h1 h2 h3 h4 h5 =>
  refine .loop h1 h2 (by rw[AV.rens_eq];simpa using h3) (fun j b hb=>?_) h5;rw[AV.rens_eq,List.getElem?_map,Option.map_eq_some_iff]at hb;obtain⟨a,ha,rfl⟩:=hb;exact(h4 j a ha).ren hS hι
 | dead h1=>exact .dead h1
end
mutual
theorem AC.ren_ren(ρ τ:Nat→Nat)(h:∀i,τ (ρ i)=i):∀c:AC,(c.ren ρ).ren τ=c
 | .st c=>rfl
 | .full xs=>rfl
 | .row id n=>by simp only[AC.ren,h]
 | .part id k n=>by simp only[AC.ren,h]
 | .rest id k n=>by simp only[AC.ren,h]
 | .ptr id n k off=>by simp only[AC.ren,h]
 | .mptr id=>by simp only[AC.ren,h]
 | .yld id=>by simp only[AC.ren,h]
 | .ubool=>rfl
 | .eptr cs=>rfl
 | .fn f caps=>by simp only[AC.ren,AC.rens_rens ρ τ h caps]
 | .any=>rfl
theorem AC.rens_rens(ρ τ:Nat→Nat)(h:∀i,τ (ρ i)=i):∀c:List AC,AC.rens τ (AC.rens ρ c)=c
 | []=>rfl
 | c::cs=>by simp only[AC.rens,AC.ren_ren ρ τ h c,AC.rens_rens ρ τ h cs]
end
mutual
theorem AV.ren_ren(ρ τ:Nat→Nat)(h:∀i,τ (ρ i)=i):∀c:AV,(c.ren ρ).ren τ=c
 | .one c=>by simp only[AV.ren,AC.ren_ren ρ τ h]
 | .agg cs=>by simp only[AV.ren,AC.rens_rens ρ τ h]
 | .tup vs=>by simp only[AV.ren,AV.rens_rens ρ τ h vs]
 | .any=>rfl
theorem AV.rens_rens(ρ τ:Nat→Nat)(h:∀i,τ (ρ i)=i):∀c:List AV,AV.rens τ (AV.rens ρ c)=c
 | []=>rfl
 | c::cs=>by simp only[AV.rens,AV.ren_ren ρ τ h c,AV.rens_rens ρ τ h cs]
end
theorem AJ.ren_ren(ρ τ:Nat→Nat)(h:∀i,τ (ρ i)=i)(b:AJ):(b.ren ρ).ren τ=b:=by
 cases b with
 | box e cs=>simp only[AJ.ren,AC.rens_rens ρ τ h]
 | crow e cs=>simp only[AJ.ren,AC.rens_rens ρ τ h]
 | arow=>rfl
 | mrow=>rfl
 | map=>rfl
 | memo=>rfl
 | iter x=>simp only[AJ.ren,AC.ren_ren ρ τ h]
 | loop env r=>simp only[AJ.ren,AV.rens_rens ρ τ h]
 | dead=>rfl
mutual
def AC.high:AC→Bool
 | .row id _=>decide (1000≤id)
 | .part id _ _=>decide (1000≤id)
 | .rest id _ _=>decide (1000≤id)
 | .ptr id _ _ _=>decide (1000≤id)
 | .mptr id=>decide (1000≤id)
 | .yld id=>decide (1000≤id)
 | .ubool=>true
 | .fn _ caps=>AC.highs caps
 | .st _=>true
 | .full _=>true
 | .eptr _=>true
 | .any=>true
def AC.highs:List AC→Bool
 | []=>true
 | c::cs=>c.high&&AC.highs cs
end
mutual
def AV.high:AV→Bool
 | .one c=>c.high
 | .agg cs=>AC.highs cs
 | .tup vs=>AV.highs vs
 | .any=>true
def AV.highs:List AV→Bool
 | []=>true
 | v::vs=>v.high&&AV.highs vs
end
def AJ.high:AJ→Bool
 | .box _ cs=>AC.highs cs
 | .crow _ cs=>AC.highs cs
 | .iter x _ _=>x.high
 | .loop env _=>AV.highs env
 | _=>true
def up1(i:Nat):Nat:=i+1000
def dn1(i:Nat):Nat:=i-1000
def upS(S:AA):AA:=fun i=>if i<1000 then none else(S (i-1000)).map (AJ.ren up1)
def dnS(S:AA):AA:=fun i=>(S (i+1000)).map (AJ.ren dn1)
def CP(S:AA):AA:=fun i=>if i<1000 then none else S i
def Ay(S:AA):Prop:=∀i b,S i=some b→1000≤i∧b.high=true
theorem Ap(i:Nat):1000≤up1 i:=Nat.le_add_left 1000 i
theorem EN{i n:Nat}(h:1000≤i):(AC.row i n).high=true:=by rw[AC.high];exact decide_eq_true h
theorem Wx{i k n:Nat}(h:1000≤i):(AC.part i k n).high=true:=by rw[AC.high];exact decide_eq_true h
theorem XX{i k n:Nat}(h:1000≤i):(AC.rest i k n).high=true:=by rw[AC.high];exact decide_eq_true h
theorem J9{i:Nat}(h:1000≤i):(AC.yld i).high=true:=by rw[AC.high];exact decide_eq_true h
theorem W7{i:Nat}(h:1000≤i):(AC.mptr i).high=true:=by rw[AC.high];exact decide_eq_true h
theorem Xz{i n k o:Nat}(h:1000≤i):(AC.ptr i n k o).high=true:=by rw[AC.high];exact decide_eq_true h
mutual
theorem AC.ren_high:∀c:AC,(c.ren up1).high=true
 | .st c=>rfl
 | .full xs=>rfl
 | .row id n=>by rw[AC.ren];exact EN (Ap id)
 | .part id k n=>by rw[AC.ren];exact Wx (Ap id)
 | .rest id k n=>by rw[AC.ren];exact XX (Ap id)
 | .ptr id n k off=>by rw[AC.ren];exact Xz (Ap id)
 | .mptr id=>by rw[AC.ren];exact W7 (Ap id)
 | .yld id=>by rw[AC.ren];exact J9 (Ap id)
 | .ubool=>rfl
 | .eptr cs=>rfl
 | .fn f caps=>by rw[AC.ren,AC.high];exact AC.rens_high caps
 | .any=>rfl
theorem AC.rens_high:∀cs:List AC,AC.highs (AC.rens up1 cs)=true
 | []=>rfl
 | c::cs=>by rw[AC.rens,AC.highs,AC.ren_high c,AC.rens_high cs];rfl
end
mutual
theorem AV.ren_high:∀c:AV,(c.ren up1).high=true
 | .one c=>by rw[AV.ren,AV.high];exact AC.ren_high c
 | .agg cs=>by rw[AV.ren,AV.high];exact AC.rens_high cs
 | .tup vs=>by rw[AV.ren,AV.high];exact AV.rens_high vs
 | .any=>rfl
theorem AV.rens_high:∀cs:List AV,AV.highs (AV.rens up1 cs)=true
 | []=>rfl
 | c::cs=>by rw[AV.rens,AV.highs,AV.ren_high c,AV.rens_high cs];rfl
end
theorem AJ.ren_high(b:AJ):(b.ren up1).high=true:=by
 cases b with
 | box e cs=>exact AC.rens_high cs
 | crow e cs=>exact AC.rens_high cs
 | arow=>rfl
 | mrow=>rfl
 | map=>rfl
 | memo=>rfl
 | iter x=>exact AC.ren_high x
 | loop env r=>exact AV.rens_high env
 | dead=>rfl
theorem EP{S:AA}{i:Nat}{b:AJ}(h:S i=some b):upS S (up1 i)=some (b.ren up1):=by
 show(if i+1000<1000 then none else(S (i+1000-1000)).map (AJ.ren up1))=_
 rw[if_neg (by omega),Nat.add_sub_cancel,h];rfl
theorem Kb(S:AA):Ay (upS S):=fun i b h=>by
 simp only[upS]at h;split at h
 ·cases h
 ·rw[Option.map_eq_some_iff]at h;obtain⟨b',_,rfl⟩:=h;exact⟨by omega,AJ.ren_high b'⟩
theorem M1(i:Nat):dn1 (up1 i)=i:=Nat.add_sub_cancel i 1000
theorem NT{i:Nat}(h:1000≤i):up1 (dn1 i)=i:=Nat.sub_add_cancel h
theorem FC{S:AA}{i:Nat}{b:AJ}(h:upS S i=some b):1000≤i∧∃b',S (dn1 i)=some b'∧b=b'.ren up1:=by
 simp only[upS]at h;split at h
 ·cases h
 ·rw[Option.map_eq_some_iff]at h;obtain⟨b',h1,h2⟩:=h;exact⟨by omega,b',h1,h2.symm⟩
theorem Hd{S:AA}{i:Nat}{b:AJ}(hi:1000≤i)(h:S i=some b):dnS S (dn1 i)=some (b.ren dn1):=by
 show(S (i-1000+1000)).map (AJ.ren dn1)=_
 rw[Nat.sub_add_cancel hi,h];rfl
theorem FH{S:AA}{i:Nat}{b:AJ}(h:dnS S i=some b):∃b',S (up1 i)=some b'∧b=b'.ren dn1:=by
 simp only[dnS,Option.map_eq_some_iff]at h;obtain⟨b',h1,h2⟩:=h;exact⟨b',h1,h2.symm⟩
theorem QH(S:AA):dnS (upS S)=S:=by
 funext i;show((if i+1000<1000 then none else(S (i+1000-1000)).map (AJ.ren up1)):Option AJ).map (AJ.ren dn1)=_
 rw[if_neg (by omega),Nat.add_sub_cancel];cases S i with
 | none=>rfl
 | some b=>exact congrArg some (AJ.ren_ren up1 dn1 (fun i=>Nat.add_sub_cancel i 1000) b)
theorem It{S:AA}(h:Ay S):CP S=S:=by
 funext i;simp only[CP];split
 ·rename_i hi;cases e:S i with
  | none=>rfl
  | some b=>have:=(h i b e).1;omega
 ·rfl
theorem AK{S:AA}(h:Ay S){i:Nat}(hi:i<1000):S i=none:=by
 cases e:S i with
 | none=>rfl
 | some b=>have:=(h i b e).1;omega

def ZS:List SV:=(List.range 20).map fun i=>.int .u64 ((10^i:Nat):Int)
def RL:List (Nat×List SV) :=
 (0,ZS) ::
 []
def QM(σ:Sto)(x:Nat×List SV):Prop:=(∃c:Nat→Value,(∀j a,x.2[j]?=some a→σ ⟨x.1,0+j,none⟩=some (c j))∧(∀j a,x.2[j]?=some a→A8 σ (c j) a))∧σ ⟨x.1,x.2.length,some 0⟩=some .nilFunc
def DC(σ:Sto):Prop:=∀x∈RL,QM σ x
theorem DC.mono{σ σ':Sto}(h:DC σ)(hs:∀p x,σ p=some x→σ' p=some x):DC σ':=fun x hx=>by
 obtain⟨⟨c,h1,h2⟩,h3⟩:=h x hx;exact⟨⟨c,fun j a ha=>hs _ _ (h1 j a ha),fun j a ha=>(h2 j a ha).mono hs⟩,hs _ _ h3⟩
def G_(g:Nat):Option (List SV):=(RL.find? fun x=>x.1==g).map (·.2)
theorem DC.at{σ:Sto}(h:DC σ){g:Nat}{cs:List SV}(hg:G_ g=some cs):QM σ (g,cs):=by
 unfold G_ at hg;rw[Option.map_eq_some_iff]at hg;obtain⟨x,h1,rfl⟩:=hg;have hm:=List.mem_of_find?_eq_some h1;have hp:=List.find?_some h1;have he:x.1=g:=by simpa using hp
 rw[←he];exact h x hm
theorem TO:∀x∈RL,Cz x.2=false:=by decide
theorem Um{g:Nat}{cs:List SV}(hg:G_ g=some cs):∃x∈RL,x.2=cs:=by
 unfold G_ at hg;rw[Option.map_eq_some_iff]at hg;obtain⟨x,h1,h2⟩:=hg;exact⟨x,List.mem_of_find?_eq_some h1,h2⟩
theorem DC.of{σ:Sto}{S:AA}{ι:A6}(h:DC σ){g:Nat}{cs:List SV}(hg:G_ g=some cs):At σ S ι (.pointer (some ⟨g,0,none⟩)) (.eptr cs):=by
 obtain⟨⟨c,k1,k2⟩,_⟩:=h.at hg;refine .eptr c k1 k2 fun q1 q2=>?_;obtain⟨x,hx,rfl⟩:=Um hg;rw[TO x hx]at q2;cases q2
theorem DC.ints{σ:Sto}{w:World}(h:DC σ)(hf:Fit σ w){P:Program}{name:String}{g:Nat}(hn:P.globalNamed name=some g){k:IntKind}{zs:List Int}(hg:G_ g=some (zs.map fun z=>.int k z)) :
  w.var? P name=some (zs.map fun z=>Value.int k z).toArray:=by
 obtain⟨⟨c,k1,k2⟩,k3⟩:=h.at hg;have h3:=hf _ _ k3;unfold Dq at h3;simp only at h3;unfold World.var?;rw[hn];simp only[Option.bind_some];cases hb:w.heap[g]? with
 | none=>rw[hb]at h3;cases h3
 | some o =>
  rw[hb]at h3;cases o with
  | cells cs T x =>
   simp only at h3;split at h3
   ·rename_i hsz;simp only[List.length_map]at hsz;simp only[Option.some.injEq];apply Array.ext
    ·simpa using hsz
    ·intro i h1 h2;have hi:i<zs.length:=by omega
     have e1:=k1 i (.int k zs[i]) (by simp[hi]);have e2:=k2 i (.int k zs[i]) (by simp[hi]);have e3:=hf _ _ e1;rw[Ej rfl]at e3;have e4:c i=.int k zs[i]:=by
      generalize c i=u at e2;cases e2;rfl
     rw[e4]at e3;unfold World.cell? at e3;simp only[Nat.zero_add]at e3;rw[hb]at e3;simp only at e3;rw[Array.getElem?_eq_getElem h1]at e3;simpa using e3
   ·cases h3
  | _=>cases h3

def AI{α:Type}(f:Nat→α)(d:Nat)(v:α):Nat→α:=fun i=>if i=d then v else f i
def Gy(s:ByteArray)(k:Nat):Int:=((s.data.toList.getD k 0).toNat:Int)
def sLt(a b:ByteArray):Bool:=Op.bytesLess a.toList b.toList
def splice{α:Type}(cs:List α)(off:Nat)(c:List α):List α:=cs.take off++c++cs.drop (off+c.length)
def Qz(g:Bool)(cs:List AC):AV:=if g then .agg cs else match cs with|[c]=>.one c|_=>.any
def P6:List AC→Option (List (List SV))
 | []=>some []
 | .eptr cs::l=>(P6 l).map (cs::·)
 | _=>none
theorem MF:∀{l:List AC} {css:List (List SV)},P6 l=some css→l=css.map .eptr
 | [],css,h=>by cases h;rfl
 | .eptr cs::l,css,h=>by
  simp only[P6,Option.map_eq_some_iff]at h;obtain⟨r,h1,rfl⟩:=h;rw[MF h1];rfl
 | .st _::_,_,h|.full _::_,_,h|.row _ _::_,_,h|.part _ _ _::_,_,h|.rest _ _ _::_,_,h|.ptr _ _ _ _::_,_,h|.mptr _::_,_,h|.yld _::_,_,h|.ubool::_,_,h|.fn _ _::_,_,h|.any::_,_,h=>by simp[P6]at h
def stC(S:AA):AC→Option SV
 | .st c=>some c
 | .full xs=>some (.list xs)
 | .row id n=>match S id with
  | some (.arow _ _ xs)=>if n=xs.length then some (.list xs) else none
  | _=>none
 | .fn f []=>some (.lit (.func (.func f) #[] #[]))
 | .fn f (c::cs)=>(P6 (c::cs)).map (.clo f)
 | _=>none
def stCs(S:AA):List AC→Option (List SV)
 | []=>some []
 | c::cs=>match stC S c,stCs S cs with
  | some x,some xs=>some (x::xs)
  | _,_=>none
def AV.fnOf:AV→Option (Nat×List AC)
 | .one (.fn g caps)=>some (g,caps)
 | .one (.st (.clo g css))=>some (g,css.map .eptr)
 | .one (.st (.lit (.func (.func g) a b)))=>if a.size=0∧b.size=0 then some (g,[]) else none
 | _=>none
theorem AAh(g:Nat)(caps:List AC):(AV.one (.fn g caps)).fnOf=some (g,caps):=rfl
theorem YS(g:Nat)(css:List (List SV)):(AV.one (.st (.clo g css))).fnOf=some (g,css.map .eptr):=rfl
theorem YU(g:Nat):(AV.one (.st (.lit (.func (.func g) #[] #[])))).fnOf=some (g,[]):=rfl
def AC.stay:AC→Bool
 | .st _=>true
 | .eptr _=>true
 | _=>false
theorem At.staying{σ:Sto}{S:AA}{ι:A6}{v:Value}{c:AC}(h:At σ S ι v c)(hc:c.stay=true):At σ noS noH v c:=by
 cases h with
 | st h=>exact .st h
 | eptr c h1 h2 hh=>exact .eptr c h1 h2 hh
 | _=>cases hc
def outC(S:AA):AC→Option AC
 | .eptr cs=>some (.eptr cs)
 | .ubool=>some .ubool
 | .fn f []=>some (.fn f [])
 | .fn f (c::cs)=>if(c::cs).all AC.stay then some (.fn f (c::cs)) else none
 | c=>(stC S c).map .st
def outCs(S:AA):List AC→Option (List AC)
 | []=>some []
 | c::cs=>match outC S c,outCs S cs with
  | some x,some xs=>some (x::xs)
  | _,_=>none
mutual
def outV(S:AA):AV→Option AV
 | .one c=>(outC S c).map .one
 | .agg cs=>(outCs S cs).map .agg
 | .tup vs=>(outVs S vs).map .tup
 | .any=>some .any
def outVs(S:AA):List AV→Option (List AV)
 | []=>some []
 | v::vs=>match outV S v,outVs S vs with
  | some x,some xs=>some (x::xs)
  | _,_=>none
end
structure AS where
 env:Nat→AV
 S:AA
inductive Opd where
 | t (i:Nat)
 | c (v:AV)
def AS.ev(s:AS):Opd→AV
 | .t i=>s.env i
 | .c v=>v
def AS.put(s:AS)(d:Option Nat)(v:AV):AS:=match d with
 | some d=>⟨AI s.env d v,s.S⟩
 | none=>s
def AS.set(s:AS)(id:Nat)(b:AJ):AS:=⟨s.env,AI s.S id (some b)⟩
def DL(S:AA)(id m k:Nat):Option (List AC):=match S id with
 | some (.box _ cs)=>if k=0∧m=1 then some cs else none
 | some (.crow _ cs)=>if m=cs.length then(cs[k]?).map ([·]) else none
 | some (.mrow _ _ xs)=>if m=xs.length then(xs[k]?).map (·.map .st) else none
 | _=>none
def AW(P:Program)(f:FuncId)(xs:List AV)(r:AV):Prop :=
 ∀(σ:Sto) (w:World) (vs:List Value),DC σ→Fit σ w→An (Ae σ noS noH) vs xs →
  Calls P f vs.toArray w fun e w'=>∃v σ',e=.returned v∧Ae σ' noS noH v r∧Fit σ' w'∧Ext w.heap.size σ σ'∧Below w.heap.size w w'
def Fi(σ:Sto)(S:AA)(ι:A6)(w:World):Prop:=(∀id b,S id=some b→CA σ S ι w (ι id) b)∧∀id id' b b' g,S id=some b→S id'=some b'→(ι id).g=some g→(ι id').g=some g→id=id'
def C3(S:AA)(ι:A6)(g:Nat):Prop:=∀id b,S id=some b→(ι id).g≠some g
def Ah(P:Program)(f:FuncId)(xs:List AV)(S:AA)(r:AV)(S':AA):Prop :=
 Ay S→∀(σ:Sto) (w:World) (vs:List Value) (ι:A6),DC σ→Fit σ w→Fi σ S ι w→An (Ae σ S ι) vs xs →
  Calls P f vs.toArray w fun e w'=>∃v σ' ι',e=.returned v∧Ay S'∧Upd S ι S' ι'∧Fi σ' S' ι' w'∧Ae σ' S' ι' v r∧Fit σ' w'∧(∀p x,σ p=some x→σ' p=some x) ∧
   (∀p:Addr,p.block<w.heap.size→C3 S ι p.block→σ' p=σ p)∧(w'.os=w.os∧w'.tape=w.tape∧w'.output=w.output)∧w.heap.size≤w'.heap.size ∧
   (∀g,g<w.heap.size→C3 S ι g→w'.heap[g]?=w.heap[g]?)∧(∀id b g,S' id=some b→(ι' id).g=some g→w.heap.size≤g∨¬C3 S ι g)
def UW(σ:Sto)(S:AA)(ι:A6)(w:World)(Post:AV→AA→Prop):Ending→World→Prop:=fun e w' =>
 ∃v r S' σ' ι',e=.returned v∧Post r S'∧Ay S'∧Upd S ι S' ι'∧Fi σ' S' ι' w'∧Ae σ' S' ι' v r∧Fit σ' w'∧(∀p x,σ p=some x→σ' p=some x) ∧
   (∀p:Addr,p.block<w.heap.size→C3 S ι p.block→σ' p=σ p)∧(w'.os=w.os∧w'.tape=w.tape∧w'.output=w.output)∧w.heap.size≤w'.heap.size ∧
   (∀g,g<w.heap.size→C3 S ι g→w'.heap[g]?=w.heap[g]?)∧(∀id b g,S' id=some b→(ι' id).g=some g→w.heap.size≤g∨¬C3 S ι g)
def E_(P:Program)(f:FuncId)(xs:List AV)(S:AA)(Post:AV→AA→Prop):Prop :=
 Ay S→∀(σ:Sto) (w:World) (vs:List Value) (ι:A6),DC σ→Fit σ w→Fi σ S ι w→An (Ae σ S ι) vs xs→Calls P f vs.toArray w (UW σ S ι w Post)
def fen(ro:Option Nat):Fence:={ Fence.wide with round:=ro }
def J4(P:Program)(y:AV)(xs:List AV)(S:AA)(Post:AV→AA→Prop):Prop :=
 Ay S→∀(σ:Sto) (w:World) (vy:Value) (vs:List Value) (ι:A6),DC σ→Fit σ w→Fi σ S ι w→Ae σ S ι vy y→An (Ae σ S ι) vs xs →
  ∃l,vy=.func (.yield l) #[] #[]∧∀ro,YieldAt (fen ro) 0 P l vs.toArray w (UW σ S ι w Post)
def Ec(S S':AA):AA:=fun i=>if i<1000 then S i else S' i
def Iz(S:AA)(v:AV):AV:=(outV S v).getD v
abbrev YP(S:AA)(hs:Bool)(G:AA→(AV→AA→Prop)→Prop)(k:AV→AA→Prop):Prop:=∃(T:AA) (Post:AV→AA→Prop),Ay T∧(∀i,1000≤i→S i=T i)∧hs=true∧G T Post∧∀r S',Ay S'→Post r S'→k r (Ec S S')
def KG(mu:Bool)(e:TypeId)(w:Nat)(ys:List (List SV)):AJ:=match mu with
 | true=>.mrow e w ys
 | false=>.arow e w ys
def Ht(P:Program)(f:FuncId)(xs:List AV)(e:TypeId)(w:Nat)(ys:List (List SV))(mu:Bool:=false):Prop:=Ah P f xs noS (.one (.row 1000 ys.length)) (fun i=>if i=1000 then some (KG mu e w ys) else noS i)
abbrev ABK(P:Program)(f:FuncId)(vs:List AV)(k:Bool→TypeId→Nat→List (List SV)→Prop):Prop:=∃mu e w ys,Ht P f vs e w ys mu∧k mu e w ys
abbrev SE(P:Program)(f:FuncId)(vs:List AV)(k:AV→Prop):Prop:=∃r,AW P f vs r∧k r
abbrev K3(P:Program)(f:FuncId)(vs:List AV)(S:AA)(k:AV→AA→Prop):Prop:=∃r S',Ah P f vs S r S'∧k r S'
abbrev ABN(P:Program)(f:FuncId)(vs:List AV)(S:AA)(k:AV→Prop):Prop:=∃(r:AV) (rows:List (Nat×AJ)),(∀q∈rows,S q.1=some q.2)∧(∀T:AA,(∀q∈rows,T q.1=some q.2)→Ah P f vs (upS T) r (upS T))∧k (r.ren dn1)
def E5(T:AA):List (Nat×AJ×AJ)→AA
 | []=>T
 | q::l=>E5 (AI T q.1 (some q.2.2)) l
def LH(T:AA)(rows:List (Nat×AJ×AJ)):Prop:=∀q∈rows,T q.1=some q.2.1
abbrev ABh(P:Program)(f:FuncId)(vs:List AV)(S:AA)(k:AV→AA→Prop):Prop:=∃(r:AV) (rows:List (Nat×AJ×AJ)),LH S rows∧(∀T:AA,LH T rows→Ah P f vs (upS T) r (upS (E5 T rows)))∧k (r.ren dn1) (E5 S rows)
theorem SE.congr{P:Program}{f:FuncId}{vs vs':List AV}{k:AV→Prop}(h:vs=vs'):SE P f vs k=SE P f vs' k:=by rw[h]
theorem K3.congr{P:Program}{f:FuncId}{vs vs':List AV}{S S':AA}{k:AV→AA→Prop}(h:vs=vs')(h':S=S'):K3 P f vs S k=K3 P f vs' S' k:=by rw[h,h']
def CY(P:Program)(f:FuncId):Bool:=match P.funcs[f]? with
 | some fn => !(fn.name == "runtime.NumGoroutine") && fn.body.isSome
 | none=>false
inductive Kd where
 | mov (x:Opd)
 | pick (c x y:Opd)
 | alloc (e:TypeId) (z:List AC)
 | box (e:TypeId) (x:Opd)
 | build (z:List AC) (ps:List (Nat×Nat×Opd))
 | buildSlice (mu:Bool) (e w:Nat) (xs:List Opd)
 | load (g:Bool) (n:Nat) (x:Opd)
 | store (n:Nat) (x v:Opd)
 | fieldAddr (off:Nat) (x:Opd)
 | field (g:Bool) (off n:Nat) (x:Opd)
 | indexAddr (w:Nat) (x i:Opd)
 | indexArr (n w:Nat) (x i:Opd)
 | indexStr (x i:Opd)
 | bin (op:BinOp) (x y:Opd)
 | eqB (neg:Bool) (x y:Opd)
 | eqN (neg:Bool) (x:Opd)
 | eqE (neg:Bool) (x:Opd)
 | eqP (neg:Bool) (x:Opd)
 | bits (op:BinOp) (x y:Opd)
 | never
 | pan (x:Opd)
 | iface (t:TypeId) (x:Opd)
 | strOf (i:Bool) (x:Opd)
 | un (op:UnOp) (x:Opd)
 | sliceS (x:Opd) (lo hi:Option Opd)
 | sliceL (w:Nat) (x:Opd) (lo hi:Option Opd)
 | sliceM (w:Nat) (x hi mx:Opd)
 | extract (i:Nat) (x:Opd)
 | len (str:Bool) (x:Opd)
 | append (mu:Bool) (e w bytes:Nat) (s x:Opd)
 | call (f:Nat) (xs:List Opd)
 | conv (k:IntKind) (x:Opd)
 | nilCheck (x:Opd)
 | mm (mx:Bool) (x y:Opd)
 | makeSlice (e w bytes:Nat) (z:List SV) (x y:Opd)
 | makeFunc (g:Nat) (caps:List Opd)
 | callS (f:Nat) (xs:List Opd)
 | callV (f:Opd) (xs:List Opd)
 | callN (f:Nat) (xs:List Opd)
 | callR (f:Nat) (xs:List Opd)
 | callW (f:Nat) (xs:List Opd)
 | callX (f:Nat) (xs:List Opd)
 | callY (f:Opd) (xs:List Opd)
 | buildFlat (xs:List Opd)
 | cutP (w:Nat) (x hi:Opd)
 | indexP (w:Nat) (x i:Opd)
 | appP (e w bytes:Nat) (x y:Opd)
 | restP (w:Nat) (x lo:Opd)
 | appS (e:TypeId) (x y:Opd)
 | loadL (g:Bool) (n:Nat) (x:Opd)
 | indexL (w:Nat) (x i:Opd)
 | buildL (w:Nat) (xs:List Opd)
 | fieldL (off:Nat) (x:Opd)
 | lenL (str:Bool) (x:Opd)
 | appF (mu:Bool) (e w bytes:Nat) (x y:Opd)
 | clearP (e w:Nat) (z:List SV) (x:Opd)
 | copyP (x y:Opd)
 | makeMap (kt:Option KK)
 | lookup (kt:Option KK) (ok:Bool) (z:AV) (m k:Opd)
 | mapSet (kt:Option KK) (m k v:Opd)
 | mapEntry (kt:Option KK) (z:AV) (m k:Opd)
 | entrySet (m i v:Opd)
 | rangeM (m:Opd)
 | next (x:Opd)
 | entry (x:Opd)
 | lenM (m:Opd)
 | buildArr (xs:List Opd)
 | makeMemo
 | memoGet (ok:Bool) (z:AV) (m k:Opd)
 | memoSet (m k v:Opd)
def Da:List (KV×AV)→KV→Option AV
 | [],_=>none
 | x::es,k=>if x.1=k then some x.2 else Da es k
def mAt:List (KV×AV)→KV→Nat
 | [],_=>0
 | x::es,k=>if x.1=k then 0 else mAt es k+1
def Lq:List (KV×AV)→KV→AV→List (KV×AV)
 | [],k,v=>[(k,v)]
 | x::es,k,v=>if x.1=k then(k,v)::es else x::Lq es k v
def Y0(es:List (KV×AV))(k:KV)(z:AV):List (KV×AV):=match Da es k with
 | some _=>es
 | none=>es++[(k,z)]
def Dp(S:AA):AV→Option (Nat×Option KK×List (KV×AV))
 | .one (.mptr id)=>match S id with
  | some (.map kt es)=>some (id,kt,es)
  | _=>none
 | _=>none
def FW(S:AA):AV→Option ((Nat×Nat×List Nat)×Option KK×List (KV×AV))
 | .one (.ptr id 1 0 0)=>match S id with
  | some (.iter (.mptr m) n seen)=>match S m with
   | some (.map kt es)=>if es.length=n then some ((id,m,seen),kt,es) else none
   | _=>none
  | _=>none
 | _=>none
def W2(cs cs':List SV):Prop:=∃(σ:Sto) (c:Nat→Value),(∀j a,cs[j]?=some a→A8 σ (c j) a)∧∀j a,cs'[j]?=some a→A8 σ (c j) a
def FX(S:AA):AV→Option (Nat×(List SV→List SV→SV→Prop))
 | .one (.mptr id)=>match S id with
  | some (.memo f)=>some (id,f)
  | _=>none
 | _=>none
def KS:AV→Option (List SV×List SV)
 | .agg [.eptr cs,.eptr ds]=>if Cz cs=true∧Cz ds=true then some (cs,ds) else none
 | _=>none
def J5(kt:Option KK):AV→Option KV
 | .one (.st c)=>KV.of kt c
 | .agg [.st c,.st d]=>KV.of2 kt c d
 | _=>none
def JP(ok:Bool)(z:AV):Option AV→AV
 | some v=>if ok then .tup [v,.one (.st (.bool true))] else v
 | none=>if ok then .tup [z,.one (.st (.bool false))] else z
inductive Tag where
 | no
 | onb (id:Nat)
 | keeps (ks:List Nat)
structure Ins where
 dst:Option Nat
 guard:Option (Nat×Bool)
 kd:Kd
 tag:Tag
def JA(s:AS)(cs:List AC):List (Nat×Nat×Opd)→Option (List AC)
 | []=>some cs
 | (off,n,x)::ps=>match(s.ev x).cells with
  | some c=>if c.length=n∧off+n≤cs.length then JA s (splice cs off c) ps else none
  | none=>none
def Ed(s:AS)(w:Nat):List Opd→Option (List (List SV))
 | []=>some []
 | x::xs=>match(s.ev x).cells with
  | some c=>match stCs s.S c,Ed s w xs with
   | some c',some es=>if c'.length=w then some (c'::es) else none
   | _,_=>none
  | none=>none
def Lm(s:AS):List Opd→Option (List (List SV))
 | []=>some []
 | x::xs=>match s.ev x,Lm s xs with
  | .one (.st c),some es=>some ([c]::es)
  | _,_=>none
def AS.evs(s:AS):List Opd→List AV
 | []=>[]
 | x::xs=>s.ev x::AS.evs s xs
def AS.caps(s:AS):List Opd→Option (List AC)
 | []=>some []
 | x::xs=>match s.ev x,s.caps xs with
  | .one c,some cs=>some (c::cs)
  | _,_=>none
def W6(op:BinOp)(k:IntKind)(x y:Int)(K:SV→Prop):Prop:=match op with
 | .add=>inR k (x+y)∧K (.int k (x+y))
 | .sub=>inR k (x-y)∧K (.int k (x-y))
 | .mul=>inR k (x*y)∧K (.int k (x*y))
 | .quo=>y≠0∧inR k (x.tdiv y)∧K (.int k (x.tdiv y))
 | .rem=>y≠0∧inR k (x.tmod y)∧K (.int k (x.tmod y))
 | .eql=>K (.bool (decide (x=y)))
 | .neq=>K (.bool (decide (¬x=y)))
 | .lss=>K (.bool (decide (x<y)))
 | .leq=>K (.bool (decide (x≤y)))
 | .gtr=>K (.bool (decide (y<x)))
 | .geq=>K (.bool (decide (y≤x)))
 | .shr=>(0≤y∧y.toNat≤k.bits)∧inR k (x.fdiv (2^y.toNat))∧K (.int k (x.fdiv (2^y.toNat)))
 | _=>False
def YW(op:BinOp)(k:IntKind)(x:Int)(k':IntKind)(y:Int)(K:SV→Prop):Prop:=match op with
 | .shl=>(0≤y∧y.toNat≤k.bits)∧inR k (x*2^y.toNat)∧K (.int k (x*2^y.toNat))
 | .shr=>(0≤y∧y.toNat≤k.bits)∧inR k (x.fdiv (2^y.toNat))∧K (.int k (x.fdiv (2^y.toNat)))
 | .and=>k=k'∧(k=.u64∧0≤x∧0≤y)∧K (.int k ((x.toNat &&& y.toNat:Nat):Int))
 | .or=>k=k'∧(k=.u64∧0≤x∧0≤y)∧K (.int k ((x.toNat ||| y.toNat:Nat):Int))
 | _=>False
def V3(op:BinOp)(x y:ByteArray)(K:SV→Prop):Prop:=match op with
 | .add=>x.size+y.size≤maxLen∧K (.str (x++y))
 | .eql=>K (.bool (decide (x=y)))
 | .neq=>K (.bool (decide (¬x=y)))
 | .lss=>K (.bool (sLt x y))
 | .leq=>K (.bool (sLt x y||decide (x=y)))
 | .gtr=>K (.bool !(sLt x y||decide (x=y)))
 | .geq=>K (.bool !(sLt x y))
 | _=>False
def optI(s:AS)(d:Int):Option Opd→Option Int
 | none=>some d
 | some x=>match s.ev x with
  | .one (.st (.int _ n))=>some n
  | _=>none
def C5{α:Type}(xs:List α)(n:Int)(K:α→Prop):Prop:=0≤n∧match xs[n.toNat]? with
 | some x=>K x
 | none=>False
def FS(S:AA)(str:Bool):AC→Option Int
 | .st (.list xs)=>if str then none else some xs.length
 | .st (.str b)=>if str then some b.size else none
 | .full xs=>if str then none else some xs.length
 | .row id n=>match S id with
  | some (.arow _ _ xs)=>if str=false∧n=xs.length then some n else none
  | some (.mrow _ _ xs)=>if str=false∧n=xs.length then some n else none
  | _=>none
 | .part id k n=>match S id with
  | some (.mrow _ _ xs)=>if str=false∧n=xs.length then some k else none
  | _=>none
 | _=>none
def DQ(S:AA):AC→Option (List (List SV))
 | .st (.list xs)=>some xs
 | .full xs=>some xs
 | .row id n=>match S id with
  | some (.arow _ _ xs)=>if n=xs.length then some xs else none
  | some (.mrow _ _ xs)=>if n=xs.length then some xs else none
  | _=>none
 | _=>none
def JY:List (List SV)→Option (List Int)
 | []=>some []
 | [.int .u8 n]::r=>(JY r).map (n::·)
 | _=>none
def Zt:AV→Option (Nat×Nat×Nat)
 | .one (.part id k m)=>some (id,k,m)
 | .one (.row id m)=>some (id,m,m)
 | _=>none
def stP:AC→Option SV
 | .st c=>some c
 | .full xs=>some (.list xs)
 | _=>none
def Xy:List AC→Option (List SV)
 | []=>some []
 | c::cs=>match stP c,Xy cs with
  | some x,some xs=>some (x::xs)
  | _,_=>none
def HK(s:AS)(w:Nat):List Opd→Option (List (List SV))
 | []=>some []
 | x::xs=>match(s.ev x).cells with
  | some c=>match Xy c,HK s w xs with
   | some c',some es=>if c'.length=w then some (c'::es) else none
   | _,_=>none
  | none=>none
def BT(b:ByteArray):List (List SV):=b.data.toList.map fun c=>[SV.int .u8 (c.toNat:Int)]
theorem ST(b:ByteArray):(BT b).length=b.size:=by rw[BT,List.length_map,Array.length_toList];rfl
def Kd.go(P:Program)(d:Nat)(s:AS)(K:AV→AS→Prop):Kd→Prop
 | .mov x=>K (s.ev x) s
 | .pick c x y=>match s.ev c with
  | .one (.st (.bool t))=>(t=true→K (s.ev x) s)∧(t=false→K (s.ev y) s)
  | _=>False
 | .alloc e z=>s.S d=none∧K (.one (.ptr d 1 0 0)) (s.set d (.box e z))
 | .box e x=>match(s.ev x).cells with
  | some cs=>s.S d=none∧K (.one (.ptr d 1 0 0)) (s.set d (.box e cs))
  | none=>False
 | .build z ps=>match JA s z ps with
  | some cs=>K (.agg cs) s
  | none=>False
 | .buildSlice mu e w xs=>match Ed s w xs with
  | some es=>if mu then s.S d=none∧K (.one (.row d es.length)) (s.set d (.mrow e w es)) else K (.one (.full es)) s
  | none=>False
 | .buildFlat xs=>match Lm s xs with
  | some es=>K (.one (.full es)) s
  | none=>False
 | .load g n x=>match s.ev x with
  | .one (.eptr cs)=>n≤cs.length∧K (Qz g ((cs.take n).map .st)) s
  | .one (.st (.ref cs))=>n≤cs.length∧K (Qz g ((cs.take n).map .st)) s
  | .one (.ptr id m k off)=>match DL s.S id m k with
   | some cs=>off+n≤cs.length∧K (Qz g ((cs.drop off).take n)) s
   | none=>False
  | _=>False
 | .store n x v=>match s.ev x,(s.ev v).cells with
  | .one (.ptr id m k off),some c=>match s.S id with
   | some (.box e cs)=>(k=0∧m=1)∧c.length=n∧off+n≤cs.length∧K .any (s.set id (.box e (splice cs off c)))
   | some (.crow e cs)=>(m=cs.length∧n=1∧c.length=1)∧off=0∧k<cs.length∧K .any (s.set id (.crow e (splice cs k c)))
   | some (.mrow e w xs)=>match stCs s.S c,xs[k]? with
    | some c',some x=>m=xs.length∧c'.length=n∧off+n≤x.length∧K .any (s.set id (.mrow e w (xs.set k (splice x off c'))))
    | _,_=>False
   | _=>False
  | _,_=>False
 | .fieldAddr off x=>match s.ev x with
  | .one (.eptr cs)=>K (.one (.eptr (cs.drop off))) s
  | .one (.st (.ref cs))=>K (.one (.eptr (cs.drop off))) s
  | .one (.ptr id m k o)=>match s.S id with
   | some b=>m=b.len∧K (.one (.ptr id m k (o+off))) s
   | none=>False
  | _=>False
 | .field g off n x=>match s.ev x with
  | .agg cs=>off+n≤cs.length∧K (Qz g ((cs.drop off).take n)) s
  | _=>False
 | .indexAddr w x i=>match s.ev x,s.ev i with
  | .one c,.one (.st (.int _ n))=>match c with
   | .st (.list xs)=>C5 xs n fun x=>x.length=w∧K (.one (.eptr x)) s
   | .full xs=>C5 xs n fun x=>x.length=w∧K (.one (.eptr x)) s
   | .row id m=>match s.S id with
    | some (.arow _ w' xs)=>m=xs.length∧w'=w∧C5 xs n fun x=>K (.one (.eptr x)) s
    | some (.mrow _ w' xs)=>m=xs.length∧w'=w∧0≤n∧n.toNat<xs.length∧K (.one (.ptr id m n.toNat 0)) s
    | some (.crow _ cs)=>m=cs.length∧1=w∧0≤n∧n.toNat<cs.length∧K (.one (.ptr id m n.toNat 0)) s
    | _=>False
   | _=>False
  | _,_=>False
 | .indexArr n w x i=>match s.ev x,s.ev i with
  | .one (.eptr cs),.one (.st (.int _ k))=>(0≤k∧k<n)∧K (.one (.eptr (cs.drop (k.toNat*w)))) s
  | .one (.ptr id m b o),.one (.st (.int _ k))=>match s.S id with
   | some bl=>(0≤k∧k<n)∧m=bl.len∧K (.one (.ptr id m b (o+k.toNat*w))) s
   | none=>False
  | _,_=>False
 | .indexStr x i=>match s.ev x,s.ev i with
  | .one (.st (.str b)),.one (.st (.int _ n))=>(0≤n∧n.toNat<b.size)∧K (.one (.st (.int .u8 (Gy b n.toNat)))) s
  | _,_=>False
 | .bin op x y=>match s.ev x,s.ev y with
  | .one (.st (.int k a)),.one (.st (.int k' b))=>k=k'∧W6 op k a b fun v=>K (.one (.st v)) s
  | .one (.st (.str a)),.one (.st (.str b))=>V3 op a b fun v=>K (.one (.st v)) s
  | _,_=>False
 | .never=>False
 | .pan _=>False
 | .iface t x=>match s.ev x with
  | .one (.st (.int k n))=>K (.one (.st (.lit (.iface t (.int k n))))) s
  | _=>False
 | .strOf i x=>match i,s.ev x with
  | false,.one (.full ys)=>match JY ys with
   | some ns=>(0<ns.length∧ns.length≤maxLen)∧K (.one (.st (.str (strOfNums ns)))) s
   | none=>False
  | true,.one (.st (.int _ n))=>K (.one (.st (.str (Utf8.encode n)))) s
  | _,_=>False
 | .eqN neg x=>match s.ev x with
  | .one (.st (.list xs))=>K (.one (if xs.length=0 then .ubool else .st (.bool neg))) s
  | _=>False
 | .eqP neg x=>match s.ev x with
  | .one (.st (.lit (.pointer none)))=>K (.one (.st (.bool !neg))) s
  | .one (.st (.ref _))=>K (.one (.st (.bool neg))) s
  | _=>False
 | .bits op x y=>match s.ev x,s.ev y with
  | .one (.st (.int k a)),.one (.st (.int k' b))=>YW op k a k' b fun v=>K (.one (.st v)) s
  | _,_=>False
 | .eqE neg x=>match s.ev x with
  | .one (.st .err)=>K (.one (.st (.bool neg))) s
  | .one (.st (.lit .nilIface))=>K (.one (.st (.bool !neg))) s
  | _=>False
 | .eqB neg x y=>match s.ev x,s.ev y with
  | .one (.st (.bool a)),.one (.st (.bool b))=>K (.one (.st (.bool (if neg then !(a==b) else a==b)))) s
  | _,_=>False
 | .un op x=>match op,s.ev x with
  | .not,.one (.st (.bool b))=>K (.one (.st (.bool !b))) s
  | .neg,.one (.st (.int k n))=>inR k (0-n)∧K (.one (.st (.int k (0-n)))) s
  | _,_=>False
 | .sliceS x lo hi=>match s.ev x with
  | .one (.st (.str b))=>match optI s 0 lo,optI s b.size hi with
   | some l,some h=>(0≤l∧l≤h∧h≤b.size)∧K (.one (.st (.str (b.extract l.toNat h.toNat)))) s
   | _,_=>False
  | _=>False
 | .sliceL w x lo hi=>match s.ev x with
  | .one c=>match stC s.S c with
   | some (.list xs)=>match optI s 0 lo,optI s xs.length hi with
    | some l,some h=>(0≤l∧l≤h∧h≤xs.length)∧(∀x∈xs,x.length=w)∧K (.one (.st (.list ((xs.take h.toNat).drop l.toNat)))) s
    | _,_=>False
   | _=>False
  | _=>False
 | .sliceM w x hi mx=>match s.ev x with
  | .one c=>match stC s.S c with
   | some (.list xs)=>match s.ev hi,s.ev mx with
    | .one (.st (.int _ h)),.one (.st (.int _ m))=>(0≤h∧h=m∧m≤xs.length)∧(∀x∈xs,x.length=w)∧K (.one (.full (xs.take h.toNat))) s
    | _,_=>False
   | _=>False
  | _=>False
 | .extract i x=>match s.ev x with
  | .tup vs=>match vs[i]? with
   | some v=>K v s
   | none=>False
  | _=>False
 | .len str x=>match s.ev x with
  | .one c=>match FS s.S str c with
   | some n=>K (.one (.st (.int .i64 n))) s
   | none=>False
  | _=>False
 | .append mu e w bytes x y=>match s.ev x,s.ev y with
  | .one cx,.one cy=>match DQ s.S cy with
   | some ys=>(∀y∈ys,y.length=w)∧match cx with
    | .full xs=>s.S d=none∧(mu=true→ys=[]→xs=[])∧(∀x∈xs,x.length=w)∧xs.length+ys.length≤maxLen∧(xs.length+ys.length)*bytes≤140737488355328 ∧
      K (.one (.row d (xs++ys).length)) (s.set d (if mu then .mrow e w (xs++ys) else .arow e w (xs++ys)))
    | .row id m=>match s.S id with
     | some (.arow e' w' xs)=>(m=xs.length∧w'=w∧e'=e)∧xs.length+ys.length≤maxLen∧(xs.length+ys.length)*bytes≤140737488355328 ∧
       K (.one (.row id (xs++ys).length)) (s.set id (.arow e w (xs++ys)))
     | some (.mrow e' w' xs)=>(m=xs.length∧w'=w∧e'=e)∧xs.length+ys.length≤maxLen∧(xs.length+ys.length)*bytes≤140737488355328 ∧
       K (.one (.row id (xs++ys).length)) (s.set id (.mrow e w (xs++ys)))
     | _=>False
    | _=>False
   | none=>False
  | _,_=>False
 | .loadL g n x=>match s.ev x with
  | .one (.eptr cs)=>n≤cs.length∧K (Qz g ((cs.take n).map .st)) s
  | _=>False
 | .indexL w x i=>match s.ev x,s.ev i with
  | .one (.st (.list xs)),.one (.st (.int _ n))=>C5 xs n fun x=>x.length=w∧K (.one (.eptr x)) s
  | .one (.full xs),.one (.st (.int _ n))=>C5 xs n fun x=>x.length=w∧K (.one (.eptr x)) s
  | _,_=>False
 | .buildL w xs=>match HK s w xs with
  | some es=>K (.one (.full es)) s
  | none=>False
 | .fieldL off x=>match s.ev x with
  | .one (.eptr cs)=>K (.one (.eptr (cs.drop off))) s
  | _=>False
 | .lenL str x=>match s.ev x with
  | .one c=>match FS noS str c with
   | some n=>K (.one (.st (.int .i64 n))) s
   | none=>False
  | _=>False
 | .appF mu e w bytes x y=>match s.ev x,s.ev y with
  | .one (.full xs),.one cy=>match DQ noS cy with
   | some ys=>s.S d=none∧(∀y∈ys,y.length=w)∧(mu=true→ys=[]→xs=[])∧(∀x∈xs,x.length=w)∧xs.length+ys.length≤maxLen∧(xs.length+ys.length)*bytes≤140737488355328 ∧
     K (if mu then .one (.row d (xs++ys).length) else .one (.st (.list (xs++ys)))) (s.set d (if mu then .mrow e w (xs++ys) else .arow e w (xs++ys)))
   | none=>False
  | _,_=>False
 | .appS e x y=>match s.ev x,s.ev y with
  | .one cx,.one (.st (.str b))=>match cx with
   | .full xs=>(s.S d=none∧xs=[])∧b.size≤140737488355328∧K (.one (.row d b.size)) (s.set d (.mrow e 1 (BT b)))
   | .row id m=>match s.S id with
    | some (.mrow e' w' xs)=>(m=xs.length∧w'=1∧e'=e)∧xs.length+b.size≤140737488355328∧K (.one (.row id (xs.length+b.size))) (s.set id (.mrow e 1 (xs++BT b)))
    | _=>False
   | _=>False
  | _,_=>False
 | .restP w x lo=>match s.ev x,s.ev lo with
  | .one (.row id m),.one (.st (.int _ o))=>match s.S id with
   | some (.mrow _ w' xs)=>(m=xs.length∧w'=w)∧(0≤o∧o≤m)∧K (.one (.rest id o.toNat m)) s
   | some (.arow _ w' xs)=>(m=xs.length∧w'=w)∧(0≤o∧o≤m)∧K (.one (.rest id o.toNat m)) s
   | _=>False
  | _,_=>False
 | .clearP e w z x=>match s.ev x with
  | .one (.rest id o m)=>match s.S id with
   | some (.mrow e' w' xs)=>(m=xs.length∧w'=w∧e'=e)∧K (.tup []) (s.set id (.mrow e w (xs.take o++List.replicate (m-o) z)))
   | _=>False
  | _=>False
 | .copyP x y=>match s.ev x,s.ev y with
  | .one (.rest id o m),.one (.rest id2 q m2)=>match s.S id with
   | some (.mrow e' w' xs)=>(id=id2∧m=xs.length∧m2=xs.length∧w'=1)∧K .any (s.set id (.mrow e' w' (xs.take o++((xs.drop q).take (min (m-q) (m-o))++xs.drop (o+min (m-q) (m-o))))))
   | _=>False
  | _,_=>False
 | .cutP w x hi=>match Zt (s.ev x),s.ev hi with
  | some (id,k,m),.one (.st (.int _ h))=>match s.S id with
   | some (.mrow _ w' xs)=>(m=xs.length∧w'=w)∧(0≤h∧h≤k)∧K (.one (.part id h.toNat m)) s
   | _=>False
  | _,_=>False
 | .indexP w x i=>match s.ev x,s.ev i with
  | .one (.part id k m),.one (.st (.int _ n))=>match s.S id with
   | some (.mrow _ w' xs)=>(m=xs.length∧w'=w)∧(0≤n∧n<k)∧K (.one (.ptr id m n.toNat 0)) s
   | _=>False
  | _,_=>False
 | .appP e w bytes x y=>match s.ev x,s.ev y with
  | .one (.part id k m),.one cy=>match s.S id,DQ s.S cy with
   | some (.mrow e' w' xs),some ys=>(m=xs.length∧w'=w∧e'=e)∧(∀y∈ys,y.length=w)∧k+ys.length≤maxLen∧(k+ys.length)*bytes≤140737488355328 ∧
     K (.one (.part id (k+ys.length) (if m≤k+ys.length then k+ys.length else m))) (s.set id (.mrow e w (xs.take k++ys++xs.drop (k+ys.length))))
   | _,_=>False
  | _,_=>False
 | .makeMap kt=>s.S d=none∧K (.one (.mptr d)) (s.set d (.map kt []))
 | .lookup kt ok z m k=>match Dp s.S (s.ev m),J5 kt (s.ev k) with
  | some (_,kt',es),some kv=>kt'=kt∧K (JP ok z (Da es kv)) s
  | _,_=>False
 | .mapSet kt m k v=>match Dp s.S (s.ev m),J5 kt (s.ev k),outV s.S (s.ev v) with
  | some (id,kt',es),some kv,some v'=>kt'=kt∧K .any (s.set id (.map kt (Lq es kv v')))
  | _,_,_=>False
 | .mapEntry kt z m k=>match Dp s.S (s.ev m),J5 kt (s.ev k) with
  | some (id,kt',es),some kv=>kt'=kt∧es.length≤maxLen∧K (.tup [(Da es kv).getD z,.one (.st (.int .i64 (mAt es kv)))]) (s.set id (.map kt (Y0 es kv z)))
  | _,_=>False
 | .entrySet m i v=>match Dp s.S (s.ev m),s.ev i,outV s.S (s.ev v) with
  | some (id,kt,es),.one (.st (.int _ n)),some v'=>(0≤n∧n.toNat<es.length)∧K .any (s.set id (.map kt (es.modify n.toNat fun x=>(x.1,v'))))
  | _,_,_=>False
 | .rangeM m=>match Dp s.S (s.ev m) with
  | some (id,_,es)=>s.S d=none∧K (.one (.ptr d 1 0 0)) (s.set d (.iter (.mptr id) es.length []))
  | none=>False
 | .next x=>match FW s.S (s.ev x) with
  | some ((id,m,seen),kt,es)=>((∀j,j<es.length→j∈seen)→K (.tup [.one (.st (.bool false))]) s) ∧
    ∀j x c,es[j]?=some x→j∉seen→x.1.sv kt=some c→K (.tup [.one (.st (.bool true)),c,x.2]) (s.set id (.iter (.mptr m) es.length (seen++[j])))
  | none=>False
 | .lenM m=>match Dp s.S (s.ev m) with
  | some (_,_,es)=>es.length≤maxLen∧K (.one (.st (.int .i64 es.length))) s
  | none=>False
 | .buildArr xs=>match s.caps xs with
  | some cs=>K (.agg cs) s
  | none=>False
 | .makeMemo=>s.S d=none∧K (.one (.mptr d)) (s.set d (.memo fun _ _ _=>False))
 | .memoGet ok z m k=>match FX s.S (s.ev m),KS (s.ev k) with
  | some (_,f),some (cs,ds)=>Cq=true∧K (JP ok z none) s∧∀cs' ds' x,W2 cs cs'→W2 ds ds'→f cs' ds' x→K (JP ok z (some (.one (.st x)))) s
  | _,_=>False
 | .memoSet m k v=>match FX s.S (s.ev m),KS (s.ev k),s.ev v with
  | some (_,f),some (cs,ds),.one (.st x)=>Cq=true∧f cs ds x∧K .any s
  | _,_,_=>False
 | .entry x=>match FW s.S (s.ev x) with
  | some ((_,_,seen),kt,es)=>match seen.getLast? with
   | some j=>match es[j]? with
    | some x=>match x.1.sv kt with
     | some c=>K (.tup [c,x.2]) s
     | none=>False
    | none=>False
   | none=>False
  | none=>False
 | .call f xs=>match outVs s.S (s.evs xs) with
  | some vs=>SE P f vs fun r=>K r s
  | none=>False
 | .callN f xs=>match outVs s.S (s.evs xs) with
  | some vs=>ABK P f vs fun mu e w ys=>s.S d=none∧K (.one (.row d ys.length)) (s.set d (KG mu e w ys))
  | none=>False
 | .conv k x=>match s.ev x with
  | .one (.st (.int _ n))=>inR k n∧K (.one (.st (.int k n))) s
  | _=>False
 | .nilCheck x=>match s.ev x with
  | .one (.eptr cs)=>K (.one (.eptr cs)) s
  | .one (.st (.ref cs))=>K (.one (.st (.ref cs))) s
  | .one (.ptr id m k o)=>match s.S id with
   | some b=>m=b.len∧K (.one (.ptr id m k o)) s
   | none=>False
  | _=>False
 | .mm mx x y=>match s.ev x,s.ev y with
  | .one (.st (.int k a)),.one (.st (.int k' b))=>k=k'∧K (.one (.st (.int k (if mx then(if a<b then b else a) else(if b<a then b else a))))) s
  | _,_=>False
 | .makeSlice e w bytes z x y=>match s.ev x,s.ev y with
  | .one (.st (.int _ a)),.one (.st (.int _ b))=>a=b∧0≤a∧a≤9223372036854775807∧a*bytes≤140737488355328∧s.S d=none∧K (.one (.row d a.toNat)) (s.set d (.mrow e w (List.replicate a.toNat z)))
  | _,_=>False
 | .makeFunc g caps=>match s.caps caps with
  | some cs=>K (.one (.fn g cs)) s
  | none=>False
 | .callS f xs=>K3 P f (AV.rens up1 (s.evs xs)) (upS s.S) fun r S'=>K (r.ren dn1) ⟨s.env,dnS S'⟩
 | .callR f xs=>ABN P f (AV.rens up1 (s.evs xs)) s.S fun r=>K r s
 | .callW f xs=>ABh P f (AV.rens up1 (s.evs xs)) s.S fun r S'=>K r ⟨s.env,S'⟩
 | .callX f xs=>YP s.S (AV.highs ((s.evs xs).map (Iz s.S))) (E_ P f ((s.evs xs).map (Iz s.S))) fun r S'=>K r ⟨s.env,S'⟩
 | .callY f xs=>YP s.S ((s.ev f).high&&AV.highs ((s.evs xs).map (Iz s.S))) (J4 P (s.ev f) ((s.evs xs).map (Iz s.S))) fun r S'=>K r ⟨s.env,S'⟩
 | .callV f xs=>match(s.ev f).fnOf with
  | some (g,caps)=>CY P g=true∧K3 P g (AV.rens up1 (s.evs xs++caps.map .one)) (upS s.S) fun r S'=>K (r.ren dn1) ⟨s.env,dnS S'⟩
  | _=>False
def Kd.stillOf:Kd→Kd
 | .load g n x=>.loadL g n x
 | .indexAddr w x i=>.indexL w x i
 | .buildSlice false _ w xs=>.buildL w xs
 | .fieldAddr off x=>.fieldL off x
 | .len str x=>.lenL str x
 | .append mu e w bytes x y=>.appF mu e w bytes x y
 | k=>k
theorem Vu{S:AA}:∀{cs:List AC} {xs:List SV},Xy cs=some xs→stCs S cs=some xs
 | [],xs,h=>h
 | c::cs,xs,h=>by
  simp only[Xy]at h;split at h
  ·rename_i x ys e1 e2;cases h;have h1:stC S c=some x:=by
    cases c <;> simp only[stP,Option.some.injEq,reduceCtorEq]at e1 <;> (subst e1;rfl)
   simp only[stCs,h1,Vu e2]
  ·cases h
theorem PX{s:AS}{w:Nat}:∀{xs:List Opd} {es:List (List SV)},HK s w xs=some es→Ed s w xs=some es
 | [],es,h=>h
 | x::xs,es,h=>by
  simp only[HK]at h;split at h
  ·rename_i c e0;split at h
   ·rename_i c' es' e1 e2;split at h
    ·rename_i hl;cases h;simp only[Ed,e0,Vu e1,PX e2,hl,if_true]
    ·cases h
   ·cases h
  ·cases h
theorem RT{S:AA}{str:Bool}{c:AC}{n:Int}(h:FS noS str c=some n):FS S str c=some n:=by
 cases c with
 | st v=>cases v <;> first|exact h|(simp[FS]at h)
 | _=>first|exact h|(simp[FS,noS]at h)
theorem Q4{S:AA}{c:AC}{l:List (List SV)}(h:DQ noS c=some l):DQ S c=some l:=by
 cases c with
 | st v=>cases v <;> first|exact h|(simp[DQ]at h)
 | _=>first|exact h|(simp[DQ,noS]at h)
theorem Ub{P:Program}{d:Nat}{s:AS}{K:AV→AS→Prop}{kd:Kd}(hna:∀mu e w b x y,kd≠.append mu e w b x y)(h:kd.stillOf.go P d s K):kd.go P d s K:=by
 cases kd
 case load g n x =>
  simp only[Kd.stillOf,Kd.go]at h ⊢;split at h
  ·rename_i cs e1;simp only[e1];exact h
  ·exact h.elim
 case indexAddr w x i =>
  simp only[Kd.stillOf,Kd.go]at h ⊢;split at h
  ·rename_i e1 e2;simp only[e1,e2];exact h
  ·rename_i e1 e2;simp only[e1,e2];exact h
  ·exact h.elim
 case buildSlice mu e w xs =>
  cases mu with
  | true=>exact h
  | false =>
   simp only[Kd.stillOf,Kd.go]at h ⊢;split at h
   ·rename_i es e1;simp only[PX e1,Bool.false_eq_true,if_false];exact h
   ·exact h.elim
 case fieldAddr off x =>
  simp only[Kd.stillOf,Kd.go]at h ⊢;split at h
  ·rename_i cs e1;simp only[e1];exact h
  ·exact h.elim
 case len str x =>
  simp only[Kd.stillOf,Kd.go]at h ⊢;split at h
  ·rename_i c e1;split at h
   ·rename_i n e2;simp only[RT e2];exact h
   ·exact h.elim
  ·exact h.elim
 case append mu e w bytes x y=>exact absurd rfl (hna _ _ _ _ _ _)
 all_goals exact h
def ABk(K:AV→AS→Prop)(v:AV)(s:AS):Prop:=K v s∨∃v',outV s.S v=some v'∧K v' s
theorem SZ{P:Program}{d:Nat}{s:AS}{K:AV→AS→Prop}{mu:Bool}{e w bytes:Nat}{x y:Opd}(h:(Kd.appF mu e w bytes x y).go P d s K):(Kd.append mu e w bytes x y).go P d s (ABk K):=by
 simp only[Kd.go]at h ⊢;split at h
 ·rename_i xs cy e1 e2;split at h
  ·rename_i ys e3;obtain⟨h1,h2,h3,h4,h5,h6,h7⟩:=h;simp only[e1,e2,Q4 e3];refine⟨h2,h1,h3,h4,h5,h6,?_⟩;cases mu with
   | true=>exact .inl h7
   | false =>
    refine .inr ⟨_,?_,h7⟩;simp[outV,outC,stC,AS.set,AI]
  ·exact h.elim
 ·exact h.elim
def Kd.ptrOpd:Kd→Option Opd
 | .load _ _ x=>some x
 | .store _ x _=>some x
 | .fieldAddr _ x=>some x
 | .nilCheck x=>some x
 | .indexAddr _ x _=>some x
 | _=>none
def HX(id:Nat):AV→Prop
 | .one (.ptr i _ _ _)=>i=id
 | .one (.row i _)=>i=id
 | _=>False
def Tag.ok(t:Tag)(kd:Kd)(s s':AS):Prop:=match t with
 | .no=>True
 | .onb id=>match kd.ptrOpd with
  | some x=>HX id (s.ev x)
  | none=>False
 | .keeps ks=>∀k∈ks,s'.S k=s.S k
def Kd.goT(kd:Kd)(P:Program)(d:Nat)(s:AS)(t:Tag)(K:AV→AS→Prop):Prop:=kd.go P d s fun v s'=>t.ok kd s s'∧K v s'
abbrev Ins.i(d:Nat)(k:Kd):Ins:=⟨some d,none,k,.no⟩
abbrev Opd.n(z:Int):Opd:=.c (.one (.st (.int .i64 z)))
abbrev Ins.m(d x:Nat):Ins:=⟨some d,none,.mov (.t x),.no⟩
abbrev Ins.L(d k x:Nat):Ins:=⟨some d,none,.load true k (.t x),.no⟩
abbrev Ins.l(d x:Nat):Ins:=⟨some d,none,.load false 1 (.t x),.no⟩
abbrev Ins.f(d o x:Nat):Ins:=⟨some d,none,.fieldAddr o (.t x),.no⟩
abbrev Ins.s(k x y:Nat):Ins:=⟨none,none,.store k (.t x) (.t y),.no⟩
def Run(P:Program):List Ins→AS→(AS→Prop)→Prop
 | [],s,K=>K s
 | i::l,s,K=>match i.guard with
  | none=>i.kd.goT P (i.dst.getD 0) s i.tag fun v s'=>Run P l (s'.put i.dst v) K
  | some (g,want)=>match s.env g with
   | .one (.st (.bool b))=>(b=want→i.kd.goT P (i.dst.getD 0) s i.tag fun v s'=>Run P l (s'.put i.dst v) K)∧(¬b=want→Run P l (s.put i.dst (.tup [])) K)
   | .tup []=>Run P l (s.put i.dst (.tup [])) K
   | _=>False
inductive IR where
 | skip
 | ops (l:List Ins)
 | seq (x y:IR)
 | cond (c:Opd) (x y:IR)
 | block (id:Nat) (x:IR)
 | loop (x:IR)
 | rangeF (g:Opd) (ps:List Nat) (x y:IR)
 | exit (id:Nat)
 | ret

structure Ctx where
 n:Nat
 N:Nat
 G:Nat→Prop
 σ0:Sto
 w0:World
 S0:AA
 ι0:A6
 clean:Ay S0
 glob:DC σ0
 ds:List Deferred
 ro:Option Nat
 nm:Bool
def Ctx.Top(C:Ctx):Prop:=C.ro=none∧C.nm=false
def Ti(D:Nat):Deferred:={ target:=.collected D,args:=#[] }
def Ok(C:Ctx)(ds:List Deferred)(w:World):Prop:=∃l:List Nat,ds=l.map Ti++C.ds∧l.Nodup∧(∀D∈l,C.N≤D∧w.heap[D]?=some (.deferred (some [])))∧(C.nm=true→l=[])
theorem Ok.mono{C:Ctx}{ds:List Deferred}{w w':World}(h:Ok C ds w)(hw:∀D:Nat,w.heap[D]?=some (Obj.deferred (some []))→w'.heap[D]?=some (Obj.deferred (some []))):Ok C ds w':=by
 obtain⟨l,h1,h2,h3,h4⟩:=h;exact⟨l,h1,h2,fun D hD=>⟨(h3 D hD).1,hw D (h3 D hD).2⟩,h4⟩
theorem Hj{C:Ctx}{w:World}:Ok C C.ds w:=⟨[],rfl,List.nodup_nil,fun D h=>(by simp at h),fun _=>rfl⟩
structure Ac(C:Ctx)(σ:Sto)(ι:A6)(s:AS)(a:Act)(w:World):Prop where
 size:C.n≤a.tmps.size
 env:∀i,i<C.n→Ae σ s.S ι (a.tmps.getD i undef) (s.env i)
 nod:Ok C a.defers w
 fit:Fit σ w
 blk:∀id b,s.S id=some b→CA σ s.S ι w (ι id) b
 inj:∀id id' b b' g,s.S id=some b→s.S id'=some b'→(ι id).g=some g→(ι id').g=some g→id=id'
 base:∀id b g,s.S id=some b→(ι id).g=some g→C.N≤g∨C.G g
 ext:∀p x,C.σ0 p=some x→σ p=some x
 old:∀p:Addr,p.block<C.N→¬C.G p.block→σ p=C.σ0 p
 os:w.os=C.w0.os∧w.tape=C.w0.tape∧w.output=C.w0.output
 grown:C.N≤w.heap.size∧C.w0.heap.size≤w.heap.size
 same:∀g,g<C.N→¬C.G g→w.heap[g]?=C.w0.heap[g]?
 upd:Upd C.S0 C.ι0 s.S ι
def E1(w w':World):Prop:=Below w.heap.size w w'
theorem E1.drew(w:World):E1 w w.drew:=(Below.refl _ _).drew
theorem E1.alloc(w:World)(o:Obj):E1 w (w.alloc o):=(Below.refl _ _).alloc (Nat.le_refl _) o
section
variable {C:Ctx} {σ:Sto} {ι:A6} {s:AS} {a:Act} {w:World}
theorem Ac.put(R:Ac C σ ι s a w){d:Option Nat}{v:Value}{av:AV}(hv:Ae σ s.S ι v av):Ac C σ ι (s.put d av) (a.put d v) w:=by
 cases d with
 | none=>exact R
 | some d =>
  refine { R with size:=?_,env:=fun i hi=>?_,nod:=R.nod }
  ·simpa[Act.put]using R.size
  ·have hs:=R.size;show Ae σ s.S ι ((a.tmps.setIfInBounds d v).getD i undef) (AI s.env d av i)
   unfold AI;by_cases h:i=d
   ·subst h;rw[if_pos rfl];rw[show(a.tmps.setIfInBounds i v).getD i undef=v by
     simp only[Array.getD_eq_getD_getElem?];rw[Array.getElem?_setIfInBounds_self_of_lt (by omega)];rfl]
    exact hv
   ·rw[if_neg h];rw[show(a.tmps.setIfInBounds d v).getD i undef=a.tmps.getD i undef by
     simp only[Array.getD_eq_getD_getElem?];rw[Array.getElem?_setIfInBounds_ne (by omega)]]
    exact R.env i hi
theorem Ac.more(R:Ac C σ ι s a w){σ':Sto}{w':World}(he:Ext w.heap.size σ σ')(hf:Fit σ' w')(hb:E1 w w'):Ac C σ' ι s a w':=by
 have hlt:∀id b g,s.S id=some b→(ι id).g=some g→g<w.heap.size:=fun id b g h1 h2=>(R.blk id b h1).gsome h2;refine⟨R.size,fun i hi=>(R.env i hi).mono he.keep (Upd.refl _ _),R.nod.mono (fun D h=>(hb.block D (Array.getElem?_eq_some_iff.1 h).1).trans h),hf,fun id b h=>(R.blk id b h).mono he.keep (Upd.refl _ _) (fun g hg=>hb.block g (hlt id b g h hg)) (fun g hg p hp=>he.old p (by have:=hlt id b g h hg;omega)),R.inj,R.base,
  fun p x h=>he.keep _ _ (R.ext p x h),fun p h1 h2=>(he.old p (by have:=R.grown.1;omega)).trans (R.old p h1 h2),⟨hb.os.trans R.os.1,hb.tape.trans R.os.2.1,hb.output.trans R.os.2.2⟩,⟨Nat.le_trans R.grown.1 hb.size,Nat.le_trans R.grown.2 hb.size⟩,fun g h1 h2=>(hb.block g (by have:=R.grown.1;omega)).trans (R.same g h1 h2),R.upd⟩
theorem Ac.world(R:Ac C σ ι s a w){w':World}(hb:E1 w w'):Ac C σ ι s a w':=R.more (Ext.refl _ _) (R.fit.below hb) hb
theorem Ac.drew(R:Ac C σ ι s a w):Ac C σ ι s a w.drew:=R.world (E1.drew w)
theorem AG{α:Type}(f:Nat→α)(d:Nat)(v:α):AI f d v d=v:=by simp[AI]
theorem AH{α:Type}(f:Nat→α){d i:Nat}(h:i≠d)(v:α):AI f d v i=f i:=by simp[AI,h]
theorem Ac.fresh(R:Ac C σ ι s a w){w':World}{id:Nat}(hid:s.S id=none)(b:AJ)(h:Hnd){σ':Sto}(he:Ext w.heap.size σ σ')(hf:Fit σ' w')(hb:E1 w w')(hg:∀g,h.g=some g→w.heap.size≤g)
  (hr:∀S' ι',Upd s.S ι S' ι'→CA σ' S' ι' w' h b) :
  Upd s.S ι (s.set id b).S (AI ι id h)∧Ac C σ' (AI ι id h) (s.set id b) a w':=by
 have hu:Upd s.S ι (s.set id b).S (AI ι id h):=fun id' b' hb'=>by
  have hne:id'≠id:=by intro e;subst e;rw[hid]at hb';cases hb'
  exact⟨b',by simp[AS.set,AH _ hne,hb'],Nat.le_refl _,fun _=>⟨rfl,AH _ hne _⟩⟩
 have R':=R.more he hf hb;have hlt:∀id b g,s.S id=some b→(ι id).g=some g→g<w.heap.size:=fun id b g h1 h2=>(R.blk id b h1).gsome h2;have hcase:∀id' b',(s.set id b).S id'=some b'→(id'=id∧b'=b)∨(id'≠id∧s.S id'=some b'):=by
  intro id' b' h';by_cases e:id'=id
  ·subst e;simp only[AS.set,AG,Option.some.injEq]at h';exact .inl ⟨rfl,h'.symm⟩
  ·simp only[AS.set,AH _ e]at h';exact .inr ⟨e,h'⟩
 refine⟨hu,⟨R'.size,fun i hi=>(R'.env i hi).mono (fun _ _ h=>h) hu,R'.nod,hf,fun id' b' h'=>?_,fun id1 id2 b1 b2 g h1 h2 g1 g2=>?_,fun id' b' g h' hg'=>?_,R'.ext,R'.old,R'.os,R'.grown,R'.same,R.upd.trans hu⟩⟩
 ·rcases hcase id' b' h' with⟨rfl,rfl⟩|⟨hne,h''⟩
  ·rw[AG];exact hr _ _ hu
  ·rw[AH _ hne];exact(R'.blk id' b' h'').mono (fun _ _ h=>h) hu (fun _ _=>rfl) (fun _ _ _ _=>rfl)
 ·rcases hcase id1 b1 h1 with⟨rfl,rfl⟩|⟨hne1,k1⟩ <;> rcases hcase id2 b2 h2 with⟨rfl,rfl⟩|⟨hne2,k2⟩
  ·rfl
  ·rw[AG]at g1;rw[AH _ hne2]at g2;have:=hlt _ _ _ k2 g2;have:=hg _ g1;omega
  ·rw[AG]at g2;rw[AH _ hne1]at g1;have:=hlt _ _ _ k1 g1;have:=hg _ g2;omega
  ·rw[AH _ hne1]at g1;rw[AH _ hne2]at g2;exact R.inj _ _ _ _ _ k1 k2 g1 g2
 ·rcases hcase id' b' h' with⟨rfl,rfl⟩|⟨hne,h''⟩
  ·rw[AG]at hg';have:=hg _ hg';exact .inl (by have:=R.grown.1;omega)
  ·rw[AH _ hne]at hg';exact R.base _ _ _ h'' hg'
theorem Ac.turn(R:Ac C σ ι s a w){w':World}{id:Nat}{b:AJ}(hid:s.S id=some b)(b':AJ)(h:Hnd){σ':Sto}(hs:∀p x,σ p=some x→σ' p=some x)
  (hn:∀p:Addr,(ι id).g≠some p.block→p.block<w.heap.size→σ' p=σ p) (hf:Fit σ' w') (hlen:b.len≤b'.len) (hsame:b'.len=b.len→b'.wid=b.wid∧h=ι id)
  (hos:w'.os=w.os∧w'.tape=w.tape∧w'.output=w.output) (hsz:w.heap.size≤w'.heap.size) (hw:∀g,g<w.heap.size→(ι id).g≠some g→w'.heap[g]?=w.heap[g]?)
  (hg:∀g,h.g=some g→(ι id).g=some g∨w.heap.size≤g) (hr:Upd s.S ι (s.set id b').S (AI ι id h)→CA σ' (s.set id b').S (AI ι id h) w' h b') :
  Upd s.S ι (s.set id b').S (AI ι id h)∧Ac C σ' (AI ι id h) (s.set id b') a w':=by
 have hu:Upd s.S ι (s.set id b').S (AI ι id h):=fun id' c hc=>by
  by_cases e:id'=id
  ·subst e;rw[hid]at hc;cases hc;exact⟨b',by simp[AS.set,AG],hlen,fun he=>⟨(hsame he).1,by rw[AG];exact(hsame he).2⟩⟩
  ·exact⟨c,by simp[AS.set,AH _ e,hc],Nat.le_refl _,fun _=>⟨rfl,AH _ e _⟩⟩
 have hlt:∀id b g,s.S id=some b→(ι id).g=some g→g<w.heap.size:=fun id b g h1 h2=>(R.blk id b h1).gsome h2;have hcase:∀id' c,(s.set id b').S id'=some c→(id'=id∧c=b')∨(id'≠id∧s.S id'=some c):=by
  intro id' c h';by_cases e:id'=id
  ·subst e;simp only[AS.set,AG,Option.some.injEq]at h';exact .inl ⟨rfl,h'.symm⟩
  ·simp only[AS.set,AH _ e]at h';exact .inr ⟨e,h'⟩
 have hold:∀g,g<C.N→¬C.G g→(ι id).g≠some g:=fun g h1 h2 e=>by
  rcases R.base _ _ _ hid e with h|h
  ·omega
  ·exact h2 h
 refine⟨hu,⟨R.size,fun i hi=>(R.env i hi).mono hs hu,R.nod.mono (fun D h=>(hw D (Array.getElem?_eq_some_iff.1 h).1 fun e=>by obtain⟨o,h1,h2⟩:=(R.blk _ _ hid).own e;rw[h]at h1;cases h1;cases h2).trans h),hf,fun id' c h'=>?_,fun id1 id2 b1 b2 g h1 h2 g1 g2=>?_,fun id' c g h' hg'=>?_,fun p x hx=>hs _ _ (R.ext p x hx),fun p h1 h2=>?_,⟨hos.1.trans R.os.1,hos.2.1.trans R.os.2.1,hos.2.2.trans R.os.2.2⟩,⟨Nat.le_trans R.grown.1 hsz,Nat.le_trans R.grown.2 hsz⟩,fun g h1 h2=>?_,R.upd.trans hu⟩⟩
 ·rcases hcase id' c h' with⟨rfl,rfl⟩|⟨hne,h''⟩
  ·rw[AG];exact hr hu
  ·rw[AH _ hne];have hother:∀g,(ι id').g=some g→(ι id).g≠some g:=fun g h1 h2=>hne (R.inj _ _ _ _ _ h'' hid h1 h2);refine(R.blk id' c h'').mono hs hu (fun g hg'=>hw g (hlt _ _ _ h'' hg') (hother g hg')) (fun g hg' p hp=>hn p (by rw[hp];exact hother g hg') (by rw[hp];exact hlt _ _ _ h'' hg'))
 ·rcases hcase id1 b1 h1 with⟨rfl,rfl⟩|⟨hne1,k1⟩ <;> rcases hcase id2 b2 h2 with⟨rfl,rfl⟩|⟨hne2,k2⟩
  ·rfl
  ·rw[AG]at g1;rw[AH _ hne2]at g2;rcases hg _ g1 with h|h
   ·exact(R.inj _ _ _ _ _ k2 hid g2 h).symm
   ·have:=hlt _ _ _ k2 g2;omega
  ·rw[AG]at g2;rw[AH _ hne1]at g1;rcases hg _ g2 with h|h
   ·exact R.inj _ _ _ _ _ k1 hid g1 h
   ·have:=hlt _ _ _ k1 g1;omega
  ·rw[AH _ hne1]at g1;rw[AH _ hne2]at g2;exact R.inj _ _ _ _ _ k1 k2 g1 g2
 ·rcases hcase id' c h' with⟨rfl,rfl⟩|⟨hne,h''⟩
  ·rw[AG]at hg';rcases hg _ hg' with h|h
   ·exact R.base _ _ _ hid h
   ·exact .inl (by have:=R.grown.1;omega)
  ·rw[AH _ hne]at hg';exact R.base _ _ _ h'' hg'
 ·exact(hn p (hold _ h1 h2) (by have:=R.grown.1;omega)).trans (R.old p h1 h2)
 ·exact(hw g (by have:=R.grown.1;omega) (hold g h1 h2)).trans (R.same g h1 h2)
theorem Ac.row_srep(R:Ac C σ ι s a w){v:Value}{id n:Nat}{e:TypeId}{wd:Nat}{xs:List (List SV)}(hv:At σ s.S ι v (.row id n))(hS:s.S id=some (.arow e wd xs))(hn:n=xs.length):A8 σ v (.list xs):=by
 cases hv with
 | row h1 h2 h3 h4 =>
  rw[hS]at h1;cases h1;rw[h4 hn,hn];exact(R.blk _ _ hS).srep
theorem Ac.stC(R:Ac C σ ι s a w){v:Value}{c:AC}{x:SV}(hv:At σ s.S ι v c)(h:stC s.S c=some x):A8 σ v x:=by
 unfold Go.Proofs.YtbhnmjkmieiadaaGreatDoor.stC at h;split at h
 ·cases h;cases hv with|st h=>exact h
 ·cases h;cases hv with|full h=>exact h
 ·split at h
  ·rename_i hS;split at h
   ·rename_i hn;cases h;exact R.row_srep hv hS hn
   ·cases h
  ·cases h
 ·cases h;cases hv with
  | fn c h1 h2 h3 =>
   rename_i vs;have:vs=#[]:=Array.eq_empty_of_size_eq_zero (by simpa using h1)
   subst this;exact .lit rfl
 ·rw[Option.map_eq_some_iff]at h;obtain⟨css,h1,rfl⟩:=h;rw[MF h1]at hv;exact Yl hv
 ·cases h
theorem Ac.stCs(R:Ac C σ ι s a w):∀{vs:List Value} {cs:List AC} {xs:List SV},An (At σ s.S ι) vs cs→stCs s.S cs=some xs→An (A8 σ) vs xs
 | _,_,_,.nil,h=>by
  simp only[Go.Proofs.YtbhnmjkmieiadaaGreatDoor.stCs,Option.some.injEq]at h;subst h;exact .nil
 | _,_,_,.cons h1 h2,h=>by
  simp only[Go.Proofs.YtbhnmjkmieiadaaGreatDoor.stCs]at h;split at h
  ·rename_i k1 k2;cases h;exact .cons (R.stC h1 k1) (R.stCs h2 k2)
  ·cases h
theorem Ju(S:AA)(ι:A6):Upd noS noH S ι:=fun id b h=>by simp[noS]at h
theorem Ac.outC(R:Ac C σ ι s a w){v:Value}{c c':AC}(hv:At σ s.S ι v c)(h:outC s.S c=some c'):At σ noS noH v c':=by
 unfold Go.Proofs.YtbhnmjkmieiadaaGreatDoor.outC at h;split at h
 ·cases h;cases hv with|eptr c h1 h2 hh=>exact .eptr c h1 h2 hh
 ·cases h;cases hv;exact .ubool
 ·cases h;cases hv with
  | fn c h1 h2 h3=>exact .fn c h1 h2 (by simp)
 ·split at h
  ·rename_i hall;cases h;cases hv with
   | fn c h1 h2 h3=>exact .fn c h1 h2 fun j a ha=>(h3 j a ha).staying (List.all_eq_true.1 hall a (List.mem_of_getElem? ha))
  ·cases h
 ·rw[Option.map_eq_some_iff]at h;obtain⟨x,h1,rfl⟩:=h;exact .st (R.stC hv h1)
theorem Ac.outCs(R:Ac C σ ι s a w):∀{vs:List Value} {cs xs:List AC},An (At σ s.S ι) vs cs→outCs s.S cs=some xs→An (At σ noS noH) vs xs
 | _,_,_,.nil,h=>by
  simp only[Go.Proofs.YtbhnmjkmieiadaaGreatDoor.outCs,Option.some.injEq]at h;subst h;exact .nil
 | _,_,_,.cons h1 h2,h=>by
  simp only[Go.Proofs.YtbhnmjkmieiadaaGreatDoor.outCs]at h;split at h
  ·rename_i k1 k2;cases h;exact .cons (R.outC h1 k1) (R.outCs h2 k2)
  ·cases h
mutual
theorem Ac.outV(R:Ac C σ ι s a w):∀{v:Value} {c c':AV},Ae σ s.S ι v c→outV s.S c=some c'→Ae σ noS noH v c'
 | v,.one c,c',hv,h=>by
  simp only[Go.Proofs.YtbhnmjkmieiadaaGreatDoor.outV,Option.map_eq_some_iff]at h;obtain⟨x,h1,rfl⟩:=h;cases hv with|one h2=>exact .one (R.outC h2 h1)
 | v,.agg cs,c',hv,h=>by
  simp only[Go.Proofs.YtbhnmjkmieiadaaGreatDoor.outV,Option.map_eq_some_iff]at h;obtain⟨x,h1,rfl⟩:=h;cases hv with|agg h2=>exact .agg (R.outCs h2 h1)
 | v,.tup cs,c',hv,h=>by
  simp only[Go.Proofs.YtbhnmjkmieiadaaGreatDoor.outV,Option.map_eq_some_iff]at h;obtain⟨x,h1,rfl⟩:=h;cases hv with
  | tup c h2 h3 h4 =>
   obtain⟨k1,k2⟩:=Ac.outVs R (c:=c) h4 h1;exact .tup c (by rw[h2,k1]) (fun j b hb=>by
    rcases Nat.lt_or_ge j cs.length with hj|hj
    ·exact h3 j _ (List.getElem?_eq_getElem hj)
    ·rw[List.getElem?_eq_none (by omega)]at hb;cases hb) k2
 | v,.any,c',hv,h=>by
  simp only[Go.Proofs.YtbhnmjkmieiadaaGreatDoor.outV,Option.some.injEq]at h;subst h;exact .any
theorem Ac.outVs(R:Ac C σ ι s a w):∀{cs cs':List AV} {c:Nat→Value},(∀j b,cs[j]?=some b→Ae σ s.S ι (c j) b)→outVs s.S cs=some cs'→cs.length=cs'.length∧∀j b,cs'[j]?=some b→Ae σ noS noH (c j) b
 | [],cs',c,hv,h=>by
  simp only[Go.Proofs.YtbhnmjkmieiadaaGreatDoor.outVs,Option.some.injEq]at h;subst h;simp
 | x::xs,cs',c,hv,h=>by
  simp only[Go.Proofs.YtbhnmjkmieiadaaGreatDoor.outVs]at h;split at h
  ·rename_i k1 k2;cases h;have h0:=Ac.outV R (hv 0 x rfl) k1;obtain⟨m1,m2⟩:=Ac.outVs R (c:=fun j=>c (j+1)) (fun j b hb=>hv (j+1) b (by simpa using hb)) k2;refine⟨by simp[m1],fun j b hb=>?_⟩;cases j with
   | zero=>simp at hb;subst hb;exact h0
   | succ j=>exact m2 j b (by simpa using hb)
  ·cases h
end
end
theorem GN{σ:Sto}{S:AA}{ι:A6}{w:World}(ho:∀id b,S id=some b→CA σ S ι w (ι id) b){D:Nat}(h:w.heap[D]?=some (.deferred (some []))):C3 S ι D:=fun id b hb hg=>by
 obtain⟨o,h1,h2⟩:=(ho id b hb).own hg;rw[h]at h1;cases h1;cases h2
theorem SB{w:World}{D:Nat}{o:Obj}{p:Addr}(h:p.block≠D):Dq (w.putObj D o) p=Dq w p:=by
 have e:=World.putObj_heap_other (w:=w) (o:=o) h;unfold Dq;split
 ·unfold World.cell?;rw[e]
 ·rw[e]
 ·rw[e]
theorem Wf{w:World}{p:Addr}{x:Option (List Deferred)}(h:w.heap[p.block]?=some (.deferred x)):Dq w p=none:=by
 unfold Dq;split
 ·unfold World.cell?;rw[h]
 ·rw[h]
 ·rw[h]
theorem UX{σ:Sto}{w:World}{D:Nat}{o:Obj}(hf:Fit σ w)(h:∀p:Addr,p.block=D→Dq w p=none):Fit σ (w.putObj D o):=fun p x hx=>by
 by_cases e:p.block=D
 ·have:=hf p x hx;rw[h p e]at this;cases this
 ·rw[SB e];exact hf p x hx
theorem Ac.putObj{C:Ctx}{σ:Sto}{ι:A6}{s:AS}{a a':Act}{w:World}(R:Ac C σ ι s a w){D:Nat}(o:Obj)(hN:C.N≤D)(hno:C3 s.S ι D)(hl:∀p:Addr,p.block=D→Dq w p=none)(ha:a'.tmps=a.tmps)(hm:Ok C a'.defers (w.putObj D o)):Ac C σ ι s a' (w.putObj D o):=by
 refine⟨by rw[ha];exact R.size,fun i hi=>by rw[ha];exact R.env i hi,hm,UX R.fit hl,fun id b hb=>?_,R.inj,R.base,R.ext,R.old,R.os,⟨by rw[World.putObj_size];exact R.grown.1,by rw[World.putObj_size];exact R.grown.2⟩,fun g h1 h2=>?_,R.upd⟩
 ·exact(R.blk id b hb).mono (fun _ _ h=>h) (Upd.refl _ _) (fun g hg=>World.putObj_heap_other fun e=>hno id b hb (by rw[hg,e])) fun _ _ _ _=>rfl
 ·rw[World.putObj_heap_other (by omega)];exact R.same g h1 h2
theorem LU{F:Fence}{n:Nat}{P:Program}{fn:Func}{Rp:Ending→World→Prop}{u:FrameMode}(hu:u≠.run){C:Ctx}{σ:Sto}{ι:A6}{s:AS} :
  ∀(l:List Nat) (a:Act) (w:World),Ac C σ ι s a w→a.defers=l.map Ti++C.ds→l.Nodup→(∀D∈l,C.N≤D∧w.heap[D]?=some (.deferred (some [])))→(C.nm=true→l=[]) →
   (∀a' w',Ac C σ ι s a' w'→a'.defers=C.ds→a'.tmps=a.tmps→LeavesInM F n P fn a'.tmps Rp C.ds u w')→LeavesInM F n P fn a.tmps Rp a.defers u w
 | [],a,w,R,hd,_,_,_,hfin=>by
  rw[hd];exact hfin a w R hd rfl
 | D::l,a,w,R,hd,hn,hl,hm,hfin=>by
  obtain⟨h1,h2⟩:=hl D (List.mem_cons_self ..);obtain⟨hn1,hn2⟩:=List.nodup_cons.1 hn;have hl':∀D'∈l,C.N≤D'∧(w.putObj D (.deferred none)).heap[D']?=some (.deferred (some [])):=fun D' hD' =>
   ⟨(hl D' (List.mem_cons_of_mem _ hD')).1,(World.putObj_heap_other (fun e:D'=D=>hn1 (by rw[←e];exact hD'))).trans (hl D' (List.mem_cons_of_mem _ hD')).2⟩
  rw[hd];refine⟨hu,.inl ⟨D,_,rfl,run_takeDeferred h2,?_⟩⟩;have R':Ac C σ ι s { a with defers:=l.map Ti++C.ds } (w.putObj D (.deferred none)):=R.putObj _ h1 (GN R.blk h2) (fun p hp=>Wf (by rw[hp];exact h2)) rfl ⟨l,rfl,hn2,hl',fun h=>by cases hm h⟩;exact LU hu l { a with defers:=l.map Ti++C.ds } _ R' rfl hn2 hl' (fun h=>by cases hm h) hfin
theorem Ac.leaves{F:Fence}{n:Nat}{P:Program}{fn:Func}{Rp:Ending→World→Prop}{u:FrameMode}(hu:u≠.run){C:Ctx}{σ:Sto}{ι:A6}{s:AS}{a:Act}{w:World}(R:Ac C σ ι s a w)
  (hfin:∀a' w',Ac C σ ι s a' w'→a'.defers=C.ds→a'.tmps=a.tmps→LeavesInM F n P fn a'.tmps Rp C.ds u w'):LeavesInM F n P fn a.tmps Rp a.defers u w:=by
 obtain⟨l,h1,h2,h3,h4⟩:=R.nod;exact LU hu l a w R h1 h2 h3 h4 hfin
theorem LB{ro:Option Nat}{n:Nat}{P:Program}{f:FuncId}{args:Array Value}{w:World}{R:Ending→World→Prop}(h:Calls P f args w R):CallsIn (fen ro) n P f args w R:=callsIn_wide (n:=n).2 h
theorem NP{P:Program}{ro:Option Nat}{o:Oper}{a:Act}{w:World}{next:Act→World→Prop}{Q:Exit→Act→World→Prop}(hd:∀c,o.op≠.defer c)(h:o.wp P a w next Q):o.wpIn (fen ro) 0 P a w next Q:=by
 refine⟨fun _ _=>trivial,?_⟩;have e:(o.semAt (fen ro).round a.eval)=execOp a.eval o:=Oper.semAt_eq _ _ _ hd;rw[e];unfold Oper.wp at h;revert h
 generalize (execOp a.eval o).run P w=r;intro h;cases r with
 | ok x w' =>
  cases x <;> simp only[Oper.upon]at h <;> simp only[Oper.uponIn] <;> first|exact h|exact h.elim|skip
  ·exact⟨fun h=>by simp[fen,Fence.wide]at h,LB h⟩
  ·refine⟨fun h=>by simp[fen,Fence.wide]at h,fun c cs _=>?_⟩;obtain⟨v,w'',h1,h2⟩:=h c cs;exact⟨v,w'',h1,stepsIn_wide.2 h2⟩
 | halt x w'=>cases x <;> simp only[Oper.upon]at h <;> simp only[Oper.uponIn] <;> first|exact h|exact h.elim

set_option maxHeartbeats 400000
theorem Dr{k:IntKind}{n:Int}(h:inR k n):k.wrap n=n:=by
 cases k <;> simp[inR,IntKind.min,IntKind.max,IntKind.wrap,IntKind.signed,IntKind.bits]at h ⊢ <;> omega
instance(k:IntKind)(n:Int):Decidable (inR k n):=by unfold inR;exact inferInstance
def BQ(P:Program)(C:Ctx)(o:Oper)(a:Act)(w:World)(K:AV→AS→Prop):Prop :=
 ∃v av s' σ' ι' w',((execOp a.eval o).run P w=.ok (.value v) w'∨(v=undef∧(execOp a.eval o).run P w=.ok .skip w'))∧K av s'∧Ac C σ' ι' s' a w'∧Ae σ' s'.S ι' v av
section
variable {P:Program} {C:Ctx} {o:Oper} {a:Act} {w:World} {K:AV→AS→Prop} {σ:Sto} {ι:A6} {s:AS} {d:Nat} {S:AA}
theorem Af(R:Ac C σ ι s a w)(v:Value)(av:AV)(hr:(execOp a.eval o).run P w=.ok (.value v) w)(hK:K av s)(hv:Ae σ s.S ι v av):BQ P C o a w K :=
 ⟨v,av,s,σ,ι,w,.inl hr,hK,R,hv⟩
theorem BQ.wp(h:BQ P C o a w K){Q:Exit→Act→World→Prop}{next:Act→World→Prop}(hn:∀av s' σ' ι' a' w',K av s'→Ac C σ' ι' (s'.put o.dst av) a' w'→next a' w'):o.wp P a w next Q:=by
 obtain⟨v,av,s',σ',ι',w',hr,hK,R,hv⟩:=h;unfold Oper.wp;rcases hr with hr|⟨rfl,hr⟩
 ·rw[hr];exact hn _ _ _ _ _ _ hK (R.put hv)
 ·rw[hr];exact hn _ _ _ _ _ _ hK (R.put hv)
end
def NF:Value→Option AC
 | .int k n=>if inR k n then some (.st (.int k n)) else none
 | .string b=>if b.size≤maxLen then some (.st (.str b)) else none
 | .bool b=>some (.st (.bool b))
 | .slice none 0 0=>some (.full [])
 | .func (.func f) x y=>if x.size=0∧y.size=0 then some (.fn f []) else none
 | v=>if v.oneCell' then some (.st (.lit v)) else none
def De:List Value→Option (List AC)
 | []=>some []
 | v::vs=>match NF v,De vs with
  | some c,some cs=>some (c::cs)
  | _,_=>none
def LF(v:Value):Option AV:=match v with
 | .agg cs=>(De cs.toList).map .agg
 | .tuple cs=>if cs.size=0 then some (.tup []) else none
 | v=>(NF v).map .one
def AR(n:Nat):Operand→Option Opd
 | .tmp t=>if t<n then some (.t t) else none
 | .const v=>(LF v).map .c
 | .func f=>some (.c (.one (.fn f [])))
 | .global g=>some (.c (.one (match G_ g with|some cs=>.eptr cs|none=>.st (.lit (.pointer (some ⟨g,0,none⟩))))))
def CO(n:Nat):List Operand→Option (List Opd)
 | []=>some []
 | x::xs=>match AR n x,CO n xs with
  | some c,some cs=>some (c::cs)
  | _,_=>none
section
variable {σ:Sto} {S:AA} {ι:A6}
theorem Zs:A8 σ (.slice none 0 0) (.list []):=.list (b:=0) (o:=0) (w:=0) (fun _ _=>undef) rfl (Nat.le_refl _) (by simp[maxLen]) (fun _=>rfl) (by simp) (by simp) (fun _ h _=>absurd h (by omega)) (by simp) (by simp)
theorem Gd{v:Value}{c:AC}(h:NF v=some c):At σ S ι v c:=by
 unfold NF at h;split at h
 ·split at h
  ·cases h;exact .st (.int ‹_›)
  ·cases h
 ·split at h
  ·cases h;exact .st (.str ‹_›)
  ·cases h
 ·cases h;exact .st .bool
 ·cases h;exact .full Zs
 ·split at h
  ·rename_i x y hxy;cases h;have e1:x=#[]:=Array.eq_empty_of_size_eq_zero hxy.1;have e2:y=#[]:=Array.eq_empty_of_size_eq_zero hxy.2;subst e1 e2;exact .fn (fun _=>undef) rfl (by simp) (by simp)
  ·cases h
 ·split at h
  ·cases h;exact .st (.lit ‹_›)
  ·cases h
theorem EM:∀{vs:List Value} {cs:List AC},De vs=some cs→An (At σ S ι) vs cs
 | [],cs,h=>by simp only[De,Option.some.injEq]at h;subst h;exact .nil
 | v::vs,cs,h=>by
  simp only[De]at h;split at h
  ·rename_i k1 k2;cases h;exact .cons (Gd k1) (EM k2)
  ·cases h
theorem EE{v:Value}{c:AV}(h:LF v=some c):Ae σ S ι v c:=by
 unfold LF at h;split at h
 ·rw[Option.map_eq_some_iff]at h;obtain⟨x,h1,rfl⟩:=h;exact .agg (EM h1)
 ·split at h
  ·rename_i cs hcs;cases h;have e1:cs=#[]:=Array.eq_empty_of_size_eq_zero hcs;subst e1;exact .tup (fun _=>undef) rfl (by simp) (by simp)
  ·cases h
 ·rw[Option.map_eq_some_iff]at h;obtain⟨x,h1,rfl⟩:=h;exact .one (Gd h1)
end
section
variable {P:Program} {C:Ctx} {o:Oper} {a:Act} {w:World} {K:AV→AS→Prop} {σ:Sto} {ι:A6} {s:AS} {d:Nat} {S:AA}
theorem Ac.ev(R:Ac C σ ι s a w){x:Operand}{x':Opd}(h:AR C.n x=some x'):Ae σ s.S ι (a.eval x) (s.ev x'):=by
 unfold AR at h;split at h
 ·split at h
  ·cases h;exact R.env _ ‹_›
  ·cases h
 ·rw[Option.map_eq_some_iff]at h;obtain⟨c,h1,rfl⟩:=h;exact EE h1
 ·cases h;exact .one (.fn (fun _=>undef) rfl (by simp) (by simp))
 ·rename_i g;cases h;refine .one ?_;show At σ s.S ι (.pointer (some ⟨g,0,none⟩)) (match G_ g with|some cs=>.eptr cs|none=>.st (.lit (.pointer (some ⟨g,0,none⟩))))
  split
  ·rename_i cs hcs;exact(C.glob.mono R.ext).of hcs
  ·exact .st (.lit rfl)
theorem Ac.evs(R:Ac C σ ι s a w):∀{xs:List Operand} {xs':List Opd},CO C.n xs=some xs'→An (Ae σ s.S ι) (xs.map a.eval) (s.evs xs')
 | [],xs',h=>by simp only[CO,Option.some.injEq]at h;subst h;exact .nil
 | x::xs,xs',h=>by
  simp only[CO]at h;split at h
  ·rename_i k1 k2;cases h;exact .cons (R.ev k1) (R.evs k2)
  ·cases h
theorem Ad{v:Value}{c:AC}(h:Ae σ S ι v (.one c)):At σ S ι v c:=by cases h;assumption
theorem D0{v:Value}{cs:List SV}(h:At σ S ι v (.eptr cs)):∃b oo,v=.pointer (some ⟨b,oo,none⟩)∧∃c:Nat→Value,(∀j x,cs[j]?=some x→σ ⟨b,oo+j,none⟩=some (c j))∧(∀j x,cs[j]?=some x→A8 σ (c j) x):=by
 cases h with|eptr c h1 h2=>exact⟨_,_,rfl,c,h1,h2⟩
theorem GG{v:Value}{cs:List SV}(h:At σ S ι v (.eptr cs)):∃b oo,v=.pointer (some ⟨b,oo,none⟩)∧∃c:Nat→Value,(∀j x,cs[j]?=some x→σ ⟨b,oo+j,none⟩=some (c j))∧(∀j x,cs[j]?=some x→A8 σ (c j) x)∧(Cq=true→Cz cs=true→σ ⟨b,0,some 1⟩=some .nilFunc):=by
 cases h with|eptr c h1 h2 hh=>exact⟨_,_,rfl,c,h1,h2,hh⟩
theorem Fu{v:Value}{id m k off:Nat}(h:At σ S ι v (.ptr id m k off)):∃b,S id=some b∧m≤b.len∧(m=b.len→∃g,(ι id).g=some g∧v=.pointer (some ⟨g,k*b.wid+off,none⟩)):=by
 cases h with|ptr h1 h2 h3 h4=>exact⟨_,h1,h2,h4⟩
theorem C9{v:Value}{id m:Nat}(h:At σ S ι v (.row id m)):∃b,S id=some b∧m≤b.len∧(m=b.len→v=.slice (ι id).p m (ι id).cap):=by
 cases h with|row h1 h2 h3 h4=>exact⟨_,h1,h2,h4⟩
theorem Hl{v:Value}{id k m:Nat}(h:At σ S ι v (.part id k m)):∃b,S id=some b∧m≤b.len∧(m=b.len→k≤m∧v=.slice (ι id).p k (ι id).cap):=by
 cases h with|part h1 h2 h3 h4=>exact⟨_,h1,h2,h4⟩
theorem K6{v:Value}{id o m:Nat}(h:At σ S ι v (.rest id o m)):∃b,S id=some b∧m≤b.len∧(m=b.len→o≤m∧v=.slice (if(ι id).cap=o then(ι id).p else(ι id).p.map (·.add (o*b.wid))) (m-o) ((ι id).cap-o)):=by
 cases h with|rest h1 h2 h3 h4=>exact⟨_,h1,h2,h4⟩
theorem CU{v:Value}{c:SV}(h:At σ S ι v (.st c)):A8 σ v c:=by cases h;assumption
def Ey:TypeDesc→Bool
 | .struct _|.array _ _=>true
 | _=>false
theorem B6(b o j:Nat):(⟨b,o,none⟩:Addr).add j=⟨b,o+j,none⟩:=by unfold Addr.add;split <;> simp_all
theorem Nz{b o:Nat}{cs:List Value}(h:∀j v,cs[j]?=some v→w.cell? ⟨b,o+j,none⟩=some v):(loadCells ⟨b,o,none⟩ cs.length).run P w=.ok cs.toArray w :=
 run_loadCells_list w ⟨b,o,none⟩ cs fun j v hj=>by rw[B6];exact h j v hj
theorem GF{t:TypeId}{d:TypeDesc}{i:TypeInfo}(hd:P.underlying t=some d)(hi:P.info? t=some i){b o:Nat}{cs:List Value}(h:∀j v,cs[j]?=some v→w.cell? ⟨b,o+j,none⟩=some v)
  (g:Bool) (hg:g=Ey d) (hn:cs.length=if g then i.size else 1) :
  ∃v,(Instr.loadAt t (.pointer (some ⟨b,o,none⟩))).run P w=.ok v w∧(if g then v=.agg cs.toArray else cs=[v]):=by
 cases g with
 | true =>
  refine⟨.agg cs.toArray,?_,rfl⟩;have hl:=Nz (P:=P) h;simp only[if_true]at hn;rw[hn]at hl;have ha:(isAgg t).run P w=.ok true w:=by
   simp only[isAgg,Sem.run_bind,run_underlying hd,Result.andThen_ok];cases d <;> first|rfl|simp[Ey]at hg
  simp[Instr.loadAt,Instr.sureAddr,loadVar,ha,sizeOf,typeInfo,hi,hl]
 | false =>
  simp only[Bool.false_eq_true,if_false]at hn ⊢;obtain⟨v,rfl⟩:∃v,cs=[v]:=by
   match cs,hn with
   | [v],_=>exact⟨v,rfl⟩
  refine⟨v,?_,rfl⟩;have ha:(isAgg t).run P w=.ok false w:=by
   simp only[isAgg,Sem.run_bind,run_underlying hd,Result.andThen_ok];cases d <;> first|rfl|simp[Ey]at hg
  have h0:=h 0 v rfl;simp only[Nat.add_zero]at h0;simp[Instr.loadAt,Instr.sureAddr,loadVar,ha,load,Sem.run,h0]
theorem Fn{g:Bool}{v:Value}{cs:List Value}{xs:List AC}(h:An (At σ s.S ι) cs xs)(hv:if g then v=.agg cs.toArray else cs=[v]):Ae σ s.S ι v (Qz g xs):=by
 cases g with
 | true =>
  simp only[if_true]at hv;subst hv;exact .agg (by simpa using h)
 | false =>
  simp only[Bool.false_eq_true,if_false]at hv;subst hv;cases h with
  | cons h1 h2=>cases h2;exact .one h1
theorem Ms(hf:Fit σ w){b o:Nat}{cs:List SV}{c:Nat→Value}(h1:∀j x,cs[j]?=some x→σ ⟨b,o+j,none⟩=some (c j))(h2:∀j x,cs[j]?=some x→A8 σ (c j) x)(n:Nat)(hn:n≤cs.length) :
  ∃vs:List Value,vs.length=n∧(∀j v,vs[j]?=some v→w.cell? ⟨b,o+j,none⟩=some v)∧An (At σ S ι) vs ((cs.take n).map .st):=by
 refine⟨(List.range n).map c,by simp,fun j v hj=>?_,?_⟩
 ·rw[List.getElem?_map]at hj;by_cases hlt:j<n
  ·rw[List.getElem?_range hlt]at hj;simp only[Option.map_some,Option.some.injEq]at hj;subst hj;exact hf _ _ (h1 j _ (List.getElem?_eq_getElem (by omega)))
  ·rw[List.getElem?_eq_none (by simp;omega)]at hj;simp at hj
 ·refine An.of_get (by simp;omega) fun j v x hv hx=>?_;have hlt:j<n:=by
   rcases Nat.lt_or_ge j n with h|h
   ·exact h
   ·rw[List.getElem?_eq_none (by simp;omega)]at hv;cases hv
  rw[List.getElem?_map,List.getElem?_range hlt]at hv;simp only[Option.map_some,Option.some.injEq]at hv;subst hv;rw[List.getElem?_map,List.getElem?_take,if_pos hlt,List.getElem?_eq_getElem (by omega)]at hx;simp only[Option.map_some,Option.some.injEq]at hx;subst hx;exact .st (h2 j _ (List.getElem?_eq_getElem (by omega)))
theorem Ac.ptr_cells(R:Ac C σ ι s a w){v:Value}{id m k off:Nat}(hv:At σ s.S ι v (.ptr id m k off)){cs:List AC}(h:DL s.S id m k=some cs) :
  ∃b o,v=.pointer (some ⟨b,o+off,none⟩)∧∃vs:List Value,(∀j v,vs[j]?=some v→w.cell? ⟨b,o+j,none⟩=some v)∧An (At σ s.S ι) vs cs:=by
 cases hv with
 | ptr h1 h2 h3 h4 =>
 unfold DL at h;rw[h1]at h;have hb:=R.blk _ _ h1;split at h
 ·rename_i heq;cases heq;split at h
  ·rename_i hk;cases h;obtain⟨g,g1,rfl⟩:=h4 hk.2;cases hb with
   | box k1 k2 k3 k4 k5 =>
    rename_i vs;rw[k1]at g1;cases g1;refine⟨g,0,by simp[AJ.wid],vs.toList,fun j v hj=>?_,k4⟩;rw[Nat.zero_add,cell_of_row w g j _ _ _ k3];simpa using hj
  ·cases h
 ·rename_i heq;cases heq;split at h
  ·rename_i hk;rw[Option.map_eq_some_iff]at h;obtain⟨x,hx,rfl⟩:=h;obtain⟨g,g1,rfl⟩:=h4 hk;cases hb with
   | crow k1 k2 k3 kc km k4 k5 =>
    rename_i vs;rw[k1]at g1;cases g1;obtain⟨v,v1,v2⟩:=k4.get hx;refine⟨g,k,by simp[AJ.wid],[v],fun j u hj=>?_,.cons v2 .nil⟩;cases j with
    | zero =>
     simp only[List.getElem?_cons_zero,Option.some.injEq]at hj;subst hj;rw[Nat.add_zero,cell_of_row w g k _ _ _ k3];rw[List.getElem?_take]at v1;split at v1
     ·simpa using v1
     ·cases v1
    | succ j=>simp at hj
  ·cases h
 ·rename_i heq;cases heq;split at h
  ·rename_i hk;rw[Option.map_eq_some_iff]at h;obtain⟨x,hx,rfl⟩:=h;obtain⟨g,g1,rfl⟩:=h4 hk;cases hb with
   | mnil k1=>simp at hx
   | mrow k1 k2 k3 k4 k5 k6 k7 k8 k9 =>
    rename_i wd xs g' vs;rw[k1]at g1;cases g1;have hxm:=k7 x (List.mem_of_getElem? hx);have key:∀j c,x[j]?=some c→vs[k*wd+j]?=some ((vs[k*wd+j]?).getD undef)∧A8 σ ((vs[k*wd+j]?).getD undef) c:=fun j c hc=>by
     obtain⟨v,v1,v2⟩:=k8 k x j c hx hc;rw[v1];exact⟨rfl,v2⟩
    refine⟨g,k*wd,rfl,(List.range x.length).map (fun j=>(vs[k*wd+j]?).getD undef),fun j v hj=>?_,?_⟩
    ·rw[List.getElem?_map]at hj;by_cases hlt:j<x.length
     ·rw[List.getElem?_range hlt]at hj;simp only[Option.map_some,Option.some.injEq]at hj;subst hj;rw[cell_of_row w g _ _ _ _ k3];exact(key j _ (List.getElem?_eq_getElem hlt)).1
     ·rw[List.getElem?_eq_none (by simp;omega)]at hj;simp at hj
    ·refine An.of_get (by simp) fun j v c hv hc=>?_;rw[List.getElem?_map,Option.map_eq_some_iff]at hc;obtain⟨c',hc',rfl⟩:=hc;have hlt:j<x.length:=(List.getElem?_eq_some_iff.1 hc').1;rw[List.getElem?_map,List.getElem?_range hlt]at hv;simp only[Option.map_some,Option.some.injEq]at hv;subst hv;exact .st (key j _ hc').2
  ·cases h
 ·cases h
theorem VA{x:Operand}{x':Opd}(ho:o.op=.move x∨o.op=.assign x)(hx:AR C.n x=some x')(R:Ac C σ ι s a w)(h:Kd.go P d s K (.mov x')):BQ P C o a w K :=
 Af R _ _ (by rcases ho with ho|ho <;> simp[execOp,ho]) h (R.ev hx)
theorem D9{v:Value}{b:Bool}(h:Ae σ S ι v (.one (.st (.bool b)))):v=.bool b:=by
 cases h with|one h=>cases h with|st h=>cases h;rfl
theorem Ut{v:Value}(h:Ae σ S ι v (.one .ubool)):∃b,v=.bool b:=by
 cases h with
 | one h =>
  cases h;exact⟨_,rfl⟩
theorem BL{v:Value}{k:IntKind}{n:Int}(h:Ae σ S ι v (.one (.st (.int k n)))):v=.int k n∧inR k n:=by
 cases h with|one h=>cases h with|st h=>cases h with|int h=>exact⟨rfl,h⟩
theorem E2{v:Value}{b:ByteArray}(h:Ae σ S ι v (.one (.st (.str b)))):v=.string b∧b.size≤maxLen:=by
 cases h with|one h=>cases h with|st h=>cases h with|str h=>exact⟨rfl,h⟩
theorem Zg{c x y:Operand}{c' x' y':Opd}(ho:o.op=.pick c x y)(hc:AR C.n c=some c')(hx:AR C.n x=some x')(hy:AR C.n y=some y')(R:Ac C σ ι s a w)(h:Kd.go P d s K (.pick c' x' y')):BQ P C o a w K:=by
 have rc:=R.ev hc;simp only[Kd.go]at h;split at h
 ·rename_i t heq;rw[heq]at rc;have:=D9 rc;cases t with
  | true=>exact Af R _ _ (by simp[execOp,ho,this,asBool]) (h.1 rfl) (R.ev hx)
  | false=>exact Af R _ _ (by simp[execOp,ho,this,asBool]) (h.2 rfl) (R.ev hy)
 ·exact h.elim
theorem JZ{σ:Sto}{S:AA}{ι:A6}{v:Value}{cs:List SV}(h:At σ S ι v (.st (.ref cs))):At σ S ι v (.eptr cs):=by
 cases h with
 | st h=>cases h with
  | ref c h1 h2 h3=>exact .eptr c h1 h2 h3
theorem ZM{t:TypeId}{x:Operand}{x':Opd}{dd:TypeDesc}{i:TypeInfo}(ho:o.op=.load t x)(hx:AR C.n x=some x')(hd:P.underlying t=some dd)(hi:P.info? t=some i)
  (g:Bool) (hg:g=Ey dd) (n:Nat) (hn:n=if g then i.size else 1) (R:Ac C σ ι s a w) (h:Kd.go P d s K (.load g n x')):BQ P C o a w K:=by
 have rx:=R.ev hx;simp only[Kd.go]at h;split at h
 ·rename_i cs heq;obtain⟨hle,hK⟩:=h;rw[heq]at rx;obtain⟨b,oo,hex,c,h1,h2⟩:=D0 (Ad rx);obtain⟨vs,v1,v2,v3⟩:=Ms (w:=w) (S:=s.S) (ι:=ι) R.fit h1 h2 n hle;obtain⟨v,r1,r2⟩:=GF (P:=P) hd hi v2 g hg (by rw[v1,hn]);exact Af R v _ (by simp[execOp,ho,hex,r1]) hK (Fn v3 r2)
 ·rename_i cs heq;obtain⟨hle,hK⟩:=h;rw[heq]at rx;obtain⟨b,oo,hex,c,h1,h2⟩:=D0 (JZ (Ad rx));obtain⟨vs,v1,v2,v3⟩:=Ms (w:=w) (S:=s.S) (ι:=ι) R.fit h1 h2 n hle;obtain⟨v,r1,r2⟩:=GF (P:=P) hd hi v2 g hg (by rw[v1,hn]);exact Af R v _ (by simp[execOp,ho,hex,r1]) hK (Fn v3 r2)
 ·rename_i id m k off heq;split at h
  ·rename_i cs hb;obtain⟨hle,hK⟩:=h;rw[heq]at rx;obtain⟨b,oo,hex,vs,v2,v3⟩:=R.ptr_cells (Ad rx) hb;have hlen:=v3.len;have v4:An (At σ s.S ι) ((vs.drop off).take n) ((cs.drop off).take n):=(v3.drop off).take n;obtain⟨v,r1,r2⟩:=GF (P:=P) (w:=w) (b:=b) (o:=oo+off) (cs:=(vs.drop off).take n) hd hi (fun j v hj=>by
    rw[List.getElem?_take]at hj;split at hj
    ·rw[List.getElem?_drop]at hj;rw[Nat.add_assoc];exact v2 _ _ hj
    ·cases hj) g hg (by simp;omega)
   exact Af R v _ (by simp[execOp,ho,hex,r1]) hK (Fn v4 r2)
  ·exact h.elim
 ·exact h.elim
theorem OX{t f:TypeId}{x:Operand}{x':Opd}{fs:Array Field}{fd:Field}{i:TypeInfo}(ho:o.op=.fieldAddr t x f)(hx:AR C.n x=some x')(hd:P.underlying t=some (.struct fs))(hf:fs[f]?=some fd)(hi:P.info? fd.type=some i)(hz:i.size≠0)
  (R:Ac C σ ι s a w) (h:Kd.go P d s K (.fieldAddr fd.offset x')):BQ P C o a w K:=by
 have rx:=R.ev hx;have run:∀b oo,a.eval x=.pointer (some ⟨b,oo,none⟩)→(execOp a.eval o).run P w=.ok (.value (.pointer (some ⟨b,oo+fd.offset,none⟩))) w:=fun b oo he=>by
  simp[execOp,ho,he,Instr.fieldAt,run_underlying hd,hf,Instr.sureAddr,fieldPlace,sizeOf,typeInfo,hi,hz,B6]
 simp only[Kd.go]at h;split at h
 ·rename_i cs heq;rw[heq]at rx;obtain⟨b,oo,hex,c,h1,h2,hh⟩:=GG (Ad rx);refine Af R _ _ (run _ _ hex) h (.one (.eptr (fun j=>c (fd.offset+j)) (fun j y hy=>?_) (fun j y hy=>?_) (fun q1 q2=>hh q1 (I4 q2))))
  ·rw[Nat.add_assoc];exact h1 _ _ (by rw[←List.getElem?_drop];exact hy)
  ·exact h2 _ _ (by rw[←List.getElem?_drop];exact hy)
 ·rename_i cs heq;rw[heq]at rx;obtain⟨b,oo,hex,c,h1,h2,hh⟩:=GG (JZ (Ad rx));refine Af R _ _ (run _ _ hex) h (.one (.eptr (fun j=>c (fd.offset+j)) (fun j y hy=>?_) (fun j y hy=>?_) (fun q1 q2=>hh q1 (I4 q2))))
  ·rw[Nat.add_assoc];exact h1 _ _ (by rw[←List.getElem?_drop];exact hy)
  ·exact h2 _ _ (by rw[←List.getElem?_drop];exact hy)
 ·rename_i id m k off heq;rw[heq]at rx;obtain⟨b,h1,h2,h4⟩:=Fu (Ad rx)
  ·rw[h1]at h;obtain⟨hm,h⟩:=h;obtain⟨g,g1,g2⟩:=h4 hm;exact Af R _ _ (run _ _ g2) h (.one (.ptr h1 h2 rfl fun _=>⟨g,g1,by rw[Nat.add_assoc]⟩))
 ·exact h.elim
end

end Go.Proofs.YtbhnmjkmieiadaaGreatDoor
